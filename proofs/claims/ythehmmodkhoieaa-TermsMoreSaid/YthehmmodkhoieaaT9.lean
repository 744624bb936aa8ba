import Derived.Test.YthehmmodkhoieaaT7
namespace Go.Vc
theorem match_up {k p m e : Int} {b : Off} {x y z : Int} (h1 : 1 ≤ p) (h2 : p ≤ 9999) (h3 : 1 ≤ b.p) (h4 : b.p ≤ 9999) (hz : 0 ≤ z ∧ z ≤ 65535) (h5 : IntKind.wrap .i64 (p + IntKind.wrap .i64 z) ≤ 9999) (h0 : 0 < (matchZ ⟨k, 0, p, m, e⟩ b x y).1) :
    (matchZ ⟨k, 0, IntKind.wrap .i64 (p + IntKind.wrap .i64 z), m, e⟩ b x y).1 = (matchZ ⟨k, 0, p, m, e⟩ b x y).1 ∧ (matchZ ⟨k, 0, p, m, e⟩ b x y).2 ≤ (matchZ ⟨k, 0, IntKind.wrap .i64 (p + IntKind.wrap .i64 z), m, e⟩ b x y).2 := by
  rw [wrap_in (n := z) (by omega) (by omega)] at h5 ⊢
  rw [wrap_in (n := p + z) (by omega) (by omega)] at h5 ⊢
  rcases match_val (a := ⟨k, 0, p, m, e⟩) (b := b) (x := x) (y := y) ⟨⟨h1, h2⟩, h3, h4⟩ with ⟨q1, q2⟩ | ⟨q1, q2⟩
  · rcases match_val (a := ⟨k, 0, p + z, m, e⟩) (b := b) (x := x) (y := y) ⟨⟨by show 1 ≤ p + z; omega, h5⟩, h3, h4⟩ with ⟨r1, r2⟩ | ⟨r1, r2⟩
    · rw [q1, r1]; simp only; exact ⟨trivial, by omega⟩
    · refine absurd ?_ r2
      obtain ⟨c1, c2, c3, c4, c5⟩ := q2
      exact ⟨c1, by simp at c2 ⊢; omega, c3, c4, c5⟩
  · rw [q1] at h0; exact absurd h0 (by simp)

theorem match_down {a : Off} {k p m e s : Int} {x y z : Int} (h1 : 1 ≤ p) (h2 : p ≤ 9999) (h3 : 1 ≤ a.p) (h4 : a.p ≤ 9999) (hz : 0 ≤ z ∧ z ≤ 65535) (ha : a.s = 0) (h0 : ¬ (matchZ a ⟨k, s, p, m, e⟩ x y).1 = 0) :
    (matchZ a ⟨k, s, if 1 < IntKind.wrap .i64 (p - IntKind.wrap .i64 z) then IntKind.wrap .i64 (p - IntKind.wrap .i64 z) else 1, m, e⟩ x y).1 = (matchZ a ⟨k, s, p, m, e⟩ x y).1 ∧ (matchZ a ⟨k, s, if 1 < IntKind.wrap .i64 (p - IntKind.wrap .i64 z) then IntKind.wrap .i64 (p - IntKind.wrap .i64 z) else 1, m, e⟩ x y).2 ≤ (matchZ a ⟨k, s, p, m, e⟩ x y).2 := by
  rw [wrap_in (n := z) (by omega) (by omega)]
  rw [wrap_in (n := p - z) (by omega) (by omega)]
  have hq : ∃ q : Int, (if 1 < p - z then p - z else 1) = q ∧ 1 ≤ q ∧ q ≤ p := by
    refine ⟨_, rfl, ?_, ?_⟩ <;> split <;> omega
  obtain ⟨q, hq, hq1, hq2⟩ := hq
  rw [hq]
  rcases match_val (a := a) (b := ⟨k, s, p, m, e⟩) (x := x) (y := y) ⟨⟨h3, h4⟩, h1, h2⟩ with ⟨q1, q2⟩ | ⟨q1, q2⟩
  · rcases match_val (a := a) (b := ⟨k, s, q, m, e⟩) (x := x) (y := y) ⟨⟨h3, h4⟩, hq1, by show q ≤ 9999; omega⟩ with ⟨r1, r2⟩ | ⟨r1, r2⟩
    · rw [q1, r1]; simp only; exact ⟨trivial, by omega⟩
    · refine absurd ?_ r2
      obtain ⟨c1, c2, c3, c4, c5⟩ := q2
      exact ⟨c1, by simp [ha] at c2 ⊢; omega, c3, c4, c5⟩
  · rw [q1] at h0; exact absurd rfl h0

end Go.Vc
