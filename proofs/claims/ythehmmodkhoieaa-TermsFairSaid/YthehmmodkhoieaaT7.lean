import Derived.Test.YthehmmodkhoieaaT3
namespace Go.Vc
def okM (a b : Off) (x y : Int) : Prop := a.k = b.k ∧ ((a.s = 0 ∧ b.s = 1 ∧ b.p ≤ a.p) ∨ (a.s = 1 ∧ b.s = 0 ∧ a.p ≤ b.p)) ∧ 1 ≤ minZ x y ∧ a.m ≤ minZ x y ∧ b.m ≤ minZ x y

def pricedP (a b : Off) : Prop := (1 ≤ a.p ∧ a.p ≤ 9999) ∧ 1 ≤ b.p ∧ b.p ≤ 9999

theorem pair_val {a b : Off} {x y : Int} (h : pricedP a b) : (refPair a b x y = (minZ x y, (a.p + b.p) / 2) ∧ a.k = b.k ∧ a.s = 0 ∧ b.s = 1 ∧ b.p ≤ a.p ∧ 1 ≤ minZ x y ∧ a.m ≤ minZ x y ∧ b.m ≤ minZ x y) ∨ (refPair a b x y = (0, 0) ∧ ¬ (a.k = b.k ∧ a.s = 0 ∧ b.s = 1 ∧ b.p ≤ a.p ∧ 1 ≤ minZ x y ∧ a.m ≤ minZ x y ∧ b.m ≤ minZ x y)) := by
  obtain ⟨⟨h1, h2⟩, h3, h4⟩ := h
  unfold refPair
  rw [avg_in h1 h2 h3 h4]
  split
  · right; refine ⟨rfl, ?_⟩; omega
  · split
    · right; refine ⟨rfl, ?_⟩; omega
    · left; refine ⟨rfl, ?_⟩; omega

theorem match_val {a b : Off} {x y : Int} (h : pricedP a b) : (matchZ a b x y = (minZ x y, (a.p + b.p) / 2) ∧ okM a b x y) ∨ (matchZ a b x y = (0, 0) ∧ ¬ okM a b x y) := by
  rw [match_ref h]
  unfold refMatchZ
  split
  · rename_i hs
    have := pair_val (a := b) (b := a) (x := y) (y := x) ⟨h.2, h.1⟩
    rw [minZ_comm y x, Int.add_comm b.p a.p] at this
    unfold okM
    rcases this with ⟨h1, h2⟩ | ⟨h1, h2⟩
    · exact .inl ⟨h1, by omega⟩
    · exact .inr ⟨h1, by omega⟩
  · have := pair_val (a := a) (b := b) (x := x) (y := y) h
    unfold okM
    rcases this with ⟨h1, h2⟩ | ⟨h1, h2⟩
    · exact .inl ⟨h1, by omega⟩
    · exact .inr ⟨h1, by omega⟩

theorem match_swap {a b : Off} {x y : Int} (h : pricedP a b) : matchZ a b x y = matchZ b a y x := by
  have h' : pricedP b a := ⟨h.2, h.1⟩
  rcases match_val (x := x) (y := y) h with ⟨h1, h2⟩ | ⟨h1, h2⟩ <;> rcases match_val (x := y) (y := x) h' with ⟨h3, h4⟩ | ⟨h3, h4⟩
  · rw [h1, h3, minZ_comm, Int.add_comm a.p]
  · exact absurd (show okM b a y x by unfold okM at h2 ⊢; rw [minZ_comm y x]; omega) h4
  · exact absurd (show okM a b x y by unfold okM at h4 ⊢; rw [minZ_comm x y]; omega) h2
  · rw [h1, h3]

theorem match_less {a b : Off} {x y : Int} (h : pricedP a b) (hx : 1 ≤ x) (hx' : x ≤ 9223372036854775807) (h0 : (matchZ a b x y).1 = 0) : (matchZ a b (IntKind.wrap .i64 (x - 1)) y).1 = 0 := by
  rw [wrap_in (by omega) (by omega)]
  rcases match_val (x := x) (y := y) h with ⟨h1, h2⟩ | ⟨h1, h2⟩
  · rw [h1] at h0; unfold okM at h2; simp at h0; omega
  · rcases match_val (x := x - 1) (y := y) h with ⟨h3, h4⟩ | ⟨h3, h4⟩
    · refine absurd ?_ h2
      unfold okM minZ at *
      split <;> (split at h4 <;> omega)
    · rw [h3]

theorem match_both {a b : Off} {x y : Int} (h : pricedP a b) (h0 : (matchZ a b x y).1 = 0) : (matchZ a b x y).2 = 0 := by
  rcases match_val (x := x) (y := y) h with ⟨h1, h2⟩ | ⟨h1, h2⟩
  · rw [h1] at h0; unfold okM at h2; simp at h0; omega
  · rw [h1]

theorem match_pos {a b : Off} {x y : Int} (h : pricedP a b) (h0 : ¬ (matchZ a b x y).1 = 0) : 1 ≤ (matchZ a b x y).1 ∧ (matchZ a b x y).1 ≤ x ∧ (matchZ a b x y).1 ≤ y ∧ a.m ≤ (matchZ a b x y).1 ∧ b.m ≤ (matchZ a b x y).1 ∧
    (if b.p < a.p then b.p else a.p) ≤ (matchZ a b x y).2 ∧ (matchZ a b x y).2 ≤ (if a.p < b.p then b.p else a.p) ∧ a.k = b.k ∧ a.s ≠ b.s := by
  rcases match_val (x := x) (y := y) h with ⟨h1, h2⟩ | ⟨h1, h2⟩
  · rw [h1]
    unfold okM minZ at *
    simp only
    refine ⟨?_, ?_, ?_, ?_, ?_, ?_, ?_, ?_, ?_⟩ <;> (repeat' split at h2) <;> (repeat' split) <;> omega
  · rw [h1] at h0; exact absurd rfl h0

end Go.Vc
