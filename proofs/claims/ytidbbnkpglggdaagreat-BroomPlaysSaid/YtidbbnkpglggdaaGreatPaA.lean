/- What all texts use. -/
import Derived.Test.YtidbbnkpglggdaaGreatWrB
import Derived.Test.YtidbbnkpglggdaaGreatProg
namespace Go.W
open Go.Proofs
theorem Zq:Tryz.prog.follows .mixedOrders=true:=by kernel_rfl
theorem E0:Zd Tryz.prog (EL []):=fun _ _ h=>by cases h
end Go.W
