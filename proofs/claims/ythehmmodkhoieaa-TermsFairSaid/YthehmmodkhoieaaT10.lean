import Derived.Test.YthehmmodkhoieaaT7
namespace Go.Vc
theorem match_ge1 {a b : Off} {x y : Int} (h : (1 ≤ a.p ∧ a.p ≤ 9999) ∧ 1 ≤ b.p ∧ b.p ≤ 9999) (h0 : ¬ (matchZ a b x y).1 = 0) : ¬ (matchZ a b x y).1 < 1 := by
  have := (match_pos h h0).1
  omega

end Go.Vc
