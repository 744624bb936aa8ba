/- A part of the proof (BaD). -/
import Derived.Test.YtfkdcpgphindiaaPsJ
import Derived.Test.YtfkdcpgphindiaaBaC
namespace Go.W
open Go.Proofs
set_option linter.unusedSimpArgs false
set_option linter.unusedVariables false
set_option maxHeartbeats 8000000
attribute [local irreducible] Wm
attribute [local simp] nmap lkp mkPl prs prsL prT ddL idL CRenL CRen Ren RenL NObj.none CRenLL

/-! ### price by price -/
structure CrZ where
  b : Int
  s : Int
  t : Bool
def crIn (n p : Int) (z : CrZ) (o : OZ) : CrZ := if o.n ≠ n ∨ (o.s ≠ 0 ∧ o.s ≠ 1) then z else ⟨if o.s = 0 ∧ p ≤ o.p then z.b + o.q else z.b, if o.s = 1 ∧ o.p ≤ p then z.s + o.q else z.s, z.t || decide (o.p = p)⟩
def crAt (n p : Int) (l : List OZ) : CrZ := l.foldl (crIn n p) ⟨0, 0, false⟩
theorem crAt_snoc (n p : Int) (l : List OZ) (x : OZ) : crAt n p (l ++ [x]) = crIn n p (crAt n p l) x := by unfold crAt; rw [List.foldl_append]; rfl
theorem crAt_is (n p : Int) (l : List OZ) : (crAt n p l).b = buyS p (keepZ (prA n 0) l) ∧ (crAt n p l).s = sellS p (keepZ (prA n 1) l) ∧ ((crAt n p l).t = true ↔ ∃ o ∈ l, o.n = n ∧ (o.s = 0 ∨ o.s = 1) ∧ o.p = p) := by
  refine snoc_ind (m := fun l => (crAt n p l).b = buyS p (keepZ (prA n 0) l) ∧ (crAt n p l).s = sellS p (keepZ (prA n 1) l) ∧ ((crAt n p l).t = true ↔ ∃ o ∈ l, o.n = n ∧ (o.s = 0 ∨ o.s = 1) ∧ o.p = p)) ⟨rfl, rfl, by simp [crAt]⟩ (fun l x ih => ?_) l
  obtain ⟨h1, h2, h3⟩ := ih
  have k : ∀ s, keepZ (prA n s) (l ++ [x]) = if x.n = n ∧ x.s = s then keepZ (prA n s) l ++ [x] else keepZ (prA n s) l := fun s => by
    unfold keepZ
    rw [List.filter_append]
    by_cases h : x.n = n ∧ x.s = s
    · rw [if_pos h]; congr 1; simp [prA, h.1, h.2]
    · rw [if_neg h]
      have : prA n s x = true := decide_eq_true (by omega)
      simp [this]
  rw [crAt_snoc, k 0, k 1]
  unfold crIn
  by_cases hb : x.n ≠ n ∨ (x.s ≠ 0 ∧ x.s ≠ 1)
  · rw [if_pos hb, if_neg (by omega), if_neg (by omega)]
    refine ⟨h1, h2, h3.trans ⟨fun ⟨o, a, b⟩ => ⟨o, List.mem_append_left _ a, b⟩, fun ⟨o, a, b⟩ => ?_⟩⟩
    rcases List.mem_append.1 a with a | a
    · exact ⟨o, a, b⟩
    · rw [List.mem_singleton.1 a] at b; omega
  · rw [if_neg hb]
    simp only
    refine ⟨?_, ?_, ?_⟩
    · by_cases h0 : x.s = 0
      · rw [if_pos (show x.n = n ∧ x.s = 0 from ⟨by omega, h0⟩), buy_snoc, ← h1]; unfold buyA
        by_cases hp : p ≤ x.p
        · rw [if_pos ⟨h0, hp⟩, if_pos hp]
        · rw [if_neg (fun q => hp q.2), if_neg hp]
      · rw [if_neg (show ¬ (x.s = 0 ∧ p ≤ x.p) from fun q => h0 q.1), if_neg (show ¬ (x.n = n ∧ x.s = 0) from fun q => h0 q.2)]; exact h1
    · by_cases h0 : x.s = 1
      · rw [if_pos (show x.n = n ∧ x.s = 1 from ⟨by omega, h0⟩), sell_snoc, ← h2]; unfold sellA
        by_cases hp : x.p ≤ p
        · rw [if_pos ⟨h0, hp⟩, if_pos hp]
        · rw [if_neg (fun q => hp q.2), if_neg hp]
      · rw [if_neg (show ¬ (x.s = 1 ∧ x.p ≤ p) from fun q => h0 q.1), if_neg (show ¬ (x.n = n ∧ x.s = 1) from fun q => h0 q.2)]; exact h2
    · rw [Bool.or_eq_true, h3, decide_eq_true_eq]
      constructor
      · rintro (⟨o, a, b⟩ | e)
        · exact ⟨o, List.mem_append_left _ a, b⟩
        · exact ⟨x, by simp, by omega, by omega, e⟩
      · rintro ⟨o, a, b⟩
        rcases List.mem_append.1 a with a | a
        · exact .inl ⟨o, a, b⟩
        · rw [List.mem_singleton.1 a] at b; exact .inr b.2.2
def qtyP (n p : Int) (l : List OZ) : Int := lessI (buyS p (keepZ (prA n 0) l)) (sellS p (keepZ (prA n 1) l))
def pxStep (n : Int) (l : List OZ) (st : Int × Int) (p : Int) : Int × Int := if (crAt n p l).t = true ∧ st.2 < qtyP n p l then (p, qtyP n p l) else st
def pxTo (n : Int) (l : List OZ) : Nat → Int × Int
  | 0 => (0, 0)
  | k + 1 => pxStep n l (pxTo n l k) ((k : Int) + 1)
/-- What a walk through the levels has: the most, at the lowest price. -/
def Most (f : Int → Int) (ps : List Int) (st : Int × Int) : Prop := (st = (0, 0) ∧ ∀ p ∈ ps, f p ≤ 0) ∨ (st.1 ∈ ps ∧ st.2 = f st.1 ∧ 0 < st.2 ∧ ∀ p ∈ ps, f p ≤ st.2 ∧ (f p = st.2 → st.1 ≤ p))
theorem most_uniq {f : Int → Int} {ps qs : List Int} {x y : Int × Int} (hm : ∀ p, p ∈ ps ↔ p ∈ qs) (hx : Most f ps x) (hy : Most f qs y) : x = y := by
  obtain ⟨x1, x2⟩ := x
  obtain ⟨y1, y2⟩ := y
  rcases hx with ⟨ex, hx⟩ | ⟨a1, a2, a3, a4⟩
  · rcases hy with ⟨ey, hy⟩ | ⟨b1, b2, b3, b4⟩
    · rw [ex, ey]
    · exfalso
      have := hx _ ((hm _).2 b1)
      simp only at *; omega
  · rcases hy with ⟨ey, hy⟩ | ⟨b1, b2, b3, b4⟩
    · exfalso
      have := hy _ ((hm _).1 a1)
      simp only at *; omega
    · have c1 := a4 y1 ((hm _).2 b1)
      have c2 := b4 x1 ((hm _).1 a1)
      simp only at *
      have e2 : x2 = y2 := by omega
      have := c1.2 (by omega)
      have := c2.2 (by omega)
      rw [e2, show x1 = y1 by omega]
theorem cross_most (n : Int) (l : List OZ) (L : List LZ) (h0 : ∀ p, 0 ≤ qtyP n p l) (hp : ∀ x ∈ L, 1 ≤ x.p) : Most (fun p => qtyP n p l) (L.map LZ.p) (crossS (keepZ (prA n 0) l) (keepZ (prA n 1) l) L) := by
  revert hp
  refine snoc_ind (m := fun L => (∀ x ∈ L, 1 ≤ x.p) → Most (fun p => qtyP n p l) (L.map LZ.p) (crossS (keepZ (prA n 0) l) (keepZ (prA n 1) l) L)) (fun _ => .inl ⟨rfl, by simp⟩) (fun L x ih hp => ?_) L
  have ih := ih fun y hy => hp y (List.mem_append_left _ hy)
  have hx1 := hp x (by simp)
  rw [cross_snoc, List.map_append]
  generalize crossS (keepZ (prA n 0) l) (keepZ (prA n 1) l) L = st at ih ⊢
  obtain ⟨s1, s2⟩ := st
  have hq : lessI (buyS x.p (keepZ (prA n 0) l)) (sellS x.p (keepZ (prA n 1) l)) = qtyP n x.p l := rfl
  have hqx := h0 x.p
  unfold crStep
  rw [hq]
  simp only
  split
  · rename_i hc
    refine .inr ⟨by simp, rfl, ?_, fun p hpm => ?_⟩
    · rcases ih with ⟨e, _⟩ | ⟨_, _, h3, _⟩
      · injection e with e1 e2; simp only; omega
      · simp only at *; omega
    · simp only
      rcases List.mem_append.1 hpm with hpm | hpm
      · rcases ih with ⟨e, h⟩ | ⟨_, _, h3, h4⟩
        · injection e with e1 e2
          have := h p hpm
          simp only at *
          exact ⟨by omega, fun q => by omega⟩
        · have := h4 p hpm
          simp only at *
          refine ⟨by omega, fun q => ?_⟩
          have := this.2
          omega
      · simp at hpm; rw [hpm]; exact ⟨Int.le_refl _, fun _ => Int.le_refl _⟩
  · rename_i hc
    rcases ih with ⟨e, h⟩ | ⟨h1, h2, h3, h4⟩
    · injection e with e1 e2
      refine .inl ⟨by rw [e1, e2], fun p hpm => ?_⟩
      rcases List.mem_append.1 hpm with hpm | hpm
      · exact h p hpm
      · simp at hpm; rw [hpm]; simp only at *; omega
    · refine .inr ⟨List.mem_append_left _ h1, h2, h3, fun p hpm => ?_⟩
      rcases List.mem_append.1 hpm with hpm | hpm
      · exact h4 p hpm
      · simp at hpm; rw [hpm]
        simp only at *
        exact ⟨by omega, fun q => by omega⟩
theorem px_most (n : Int) (l : List OZ) (h0 : ∀ p, 0 ≤ qtyP n p l) : ∀ k : Nat, Most (fun p => qtyP n p l) (((List.range k).map fun i : Nat => ((i : Int) + 1)).filter fun p => (crAt n p l).t) (pxTo n l k)
  | 0 => .inl ⟨rfl, by simp⟩
  | k + 1 => by
    have ih := px_most n l h0 k
    rw [List.range_succ, List.map_append, List.filter_append]
    have hlt : ∀ p ∈ ((List.range k).map fun i : Nat => ((i : Int) + 1)).filter fun p => (crAt n p l).t, p < (k : Int) + 1 := fun p hp => by
      obtain ⟨i, hi, rfl⟩ := List.mem_map.1 (List.mem_filter.1 hp).1
      rw [List.mem_range] at hi; omega
    simp only [pxTo]
    generalize ((List.range k).map fun i : Nat => ((i : Int) + 1)).filter (fun p => (crAt n p l).t) = ps at ih hlt ⊢
    generalize pxTo n l k = st at ih ⊢
    obtain ⟨s1, s2⟩ := st
    have hqx := h0 ((k : Int) + 1)
    unfold pxStep
    by_cases ht : (crAt n ((k : Int) + 1) l).t = true
    · have e : ([k].map fun i : Nat => ((i : Int) + 1)).filter (fun p => (crAt n p l).t) = [(k : Int) + 1] := by simp [ht]
      rw [e]
      simp only [ht, true_and]
      split
      · rename_i hc
        refine .inr ⟨by simp, rfl, ?_, fun p hpm => ?_⟩
        · rcases ih with ⟨e, _⟩ | ⟨_, _, h3, _⟩
          · injection e with e1 e2; simp only; omega
          · simp only at *; omega
        · simp only
          rcases List.mem_append.1 hpm with hpm | hpm
          · rcases ih with ⟨e, h⟩ | ⟨_, _, h3, h4⟩
            · injection e with e1 e2
              have := h p hpm
              simp only at *
              exact ⟨by omega, fun q => by omega⟩
            · have := h4 p hpm
              simp only at *
              exact ⟨by omega, fun q => by omega⟩
          · simp at hpm; rw [hpm]; exact ⟨Int.le_refl _, fun _ => Int.le_refl _⟩
      · rename_i hc
        rcases ih with ⟨e, h⟩ | ⟨h1, h2, h3, h4⟩
        · injection e with e1 e2
          refine .inl ⟨by rw [e1, e2], fun p hpm => ?_⟩
          rcases List.mem_append.1 hpm with hpm | hpm
          · exact h p hpm
          · simp at hpm; rw [hpm]; simp only at *; omega
        · refine .inr ⟨List.mem_append_left _ h1, h2, h3, fun p hpm => ?_⟩
          rcases List.mem_append.1 hpm with hpm | hpm
          · exact h4 p hpm
          · simp at hpm; rw [hpm]
            have := hlt _ h1
            simp only at *
            exact ⟨by omega, fun _ => by omega⟩
    · have e : ([k].map fun i : Nat => ((i : Int) + 1)).filter (fun p => (crAt n p l).t) = [] := by simp [ht]
      rw [e, List.append_nil]
      simp only [ht, false_and, if_false]
      exact ih
theorem qty_nn (n : Int) {l : List OZ} (h : ∀ o ∈ l, 1 ≤ o.p ∧ o.p ≤ 9999 ∧ 0 ≤ o.q ∧ o.q ≤ 9999) (p : Int) : 0 ≤ qtyP n p l := by
  have a := buy_bnd p (os := keepZ (prA n 0) l) fun o ho => h o (List.mem_filter.1 ho).1
  have b := sell_bnd p (os := keepZ (prA n 1) l) fun o ho => h o (List.mem_filter.1 ho).1
  unfold qtyP lessI
  split <;> omega
theorem lev_at {s : Int} {os : List OZ} (h : ∀ o ∈ os, 1 ≤ o.p ∧ o.p ≤ 9999 ∧ 0 ≤ o.q ∧ o.q ≤ 9999) (p : Int) : p ∈ (levelsZ s os).map LZ.p ↔ ∃ o ∈ os, o.p = p := by
  constructor
  · intro hp
    obtain ⟨x, hx, rfl⟩ := List.mem_map.1 hp
    obtain ⟨_, _, e, hpos⟩ := lev_mem hx
    rw [e] at hpos
    exact (at_o _ _).2.2.1 hpos
  · rintro ⟨o, ho, rfl⟩
    have hb := h o ho
    obtain ⟨a1, a2⟩ := idxP_in (s := s) (p := o.p) ⟨hb.1, hb.2.1⟩
    have e := (a2 _ a1).2 rfl
    refine List.mem_map.2 ⟨atZ o.p os, ?_, at_p _ _⟩
    unfold levelsZ
    refine List.mem_filterMap.2 ⟨idxP s o.p, List.mem_range.2 a1, ?_⟩
    rw [← e, if_pos ((at_o _ _).2.2.2 ⟨o, ho, rfl⟩)]
theorem cross_px (n : Int) {l : List OZ} (h : ∀ o ∈ l, 1 ≤ o.p ∧ o.p ≤ 9999 ∧ 0 ≤ o.q ∧ o.q ≤ 9999) : pxTo n l 9999 = crossZ n l := by
  have hk : ∀ s, ∀ o ∈ keepZ (prA n s) l, 1 ≤ o.p ∧ o.p ≤ 9999 ∧ 0 ≤ o.q ∧ o.q ≤ 9999 := fun s o ho => h o (List.mem_filter.1 ho).1
  have hmem : ∀ s o, o ∈ keepZ (prA n s) l ↔ o ∈ l ∧ o.n = n ∧ o.s = s := fun s o => by
    unfold keepZ
    rw [List.mem_filter]
    constructor
    · rintro ⟨a, b⟩
      have : prA n s o = false := by simpa using b
      have := of_decide_eq_false this
      exact ⟨a, by omega, by omega⟩
    · rintro ⟨a, b, c⟩
      exact ⟨a, by simp [prA, b, c]⟩
  refine most_uniq (f := fun p => qtyP n p l) (fun p => ?_) (px_most n l (qty_nn n h) 9999) (cross_most n l _ (qty_nn n h) fun x hx => ?_)
  · rw [List.mem_filter, (crAt_is n p l).2.2, List.map_append, List.mem_append, lev_at (hk 0), lev_at (hk 1)]
    constructor
    · rintro ⟨_, o, ho, hn, hs, hp⟩
      rcases hs with hs | hs
      · exact .inl ⟨o, (hmem _ _).2 ⟨ho, hn, hs⟩, hp⟩
      · exact .inr ⟨o, (hmem _ _).2 ⟨ho, hn, hs⟩, hp⟩
    · rintro (⟨o, ho, hp⟩ | ⟨o, ho, hp⟩)
      · obtain ⟨a, b, c⟩ := (hmem _ _).1 ho
        have := h o a
        exact ⟨List.mem_map.2 ⟨(p - 1).toNat, List.mem_range.2 (by omega), by omega⟩, o, a, b, .inl c, hp⟩
      · obtain ⟨a, b, c⟩ := (hmem _ _).1 ho
        have := h o a
        exact ⟨List.mem_map.2 ⟨(p - 1).toNat, List.mem_range.2 (by omega), by omega⟩, o, a, b, .inr c, hp⟩
  · rcases List.mem_append.1 hx with hx | hx
    · exact (lev_mem hx).1
    · exact (lev_mem hx).1
end Go.W
