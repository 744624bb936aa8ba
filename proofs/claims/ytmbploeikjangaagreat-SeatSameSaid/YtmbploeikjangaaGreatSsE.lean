/- The example of layer 11, evaluated by the kernel. -/
import Derived.Test.YtmbploeikjangaaGreatWeC
import Derived.Test.YtmbploeikjangaaGreatProg
namespace Go.W
open Go.Proofs
set_option maxRecDepth 100000
theorem evT : evB (evA Tryz.prog 30) Tryz.prog 4 = some true := by kernel_rfl
theorem hnames : Tryz.prog.funcs.all (fun fn => !(fn.name == "runtime.NumGoroutine")) = true := by kernel_rfl
theorem s27 : Sound Tryz.prog 4 (conS true) := con_sound (evA_sound (by kernel_rfl) hnames 30) (by kernel_rfl) hnames evT
@[simp] theorem con_fn (b : Bool) (G : NH) (nb : Nat) : (conS b).fn [] G nb = some ⟨.bool b, [], [], 8⟩ := rfl
end Go.W
