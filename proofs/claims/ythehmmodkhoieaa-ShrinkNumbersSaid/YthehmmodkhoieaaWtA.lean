import Derived.Test.YthehmmodkhoieaaWqA
namespace Go.W
open Go.Proofs
set_option linter.unusedSimpArgs false
set_option linter.unusedVariables false
set_option maxHeartbeats 8000000
attribute [local irreducible] Wm

def nextS (s : Int) : Int := IntKind.wrap .u64 (IntKind.wrap .u64 (s * 6364136223846793005) + 1442695040888963407)

def d15 : List AV → Option Ans
  | [.int .u64 s] => some ⟨.op 0 [.int .u64 s], []⟩
  | _ => none

theorem ok15 : NOk [] d15 := by
  intro xs a h
  unfold d15 at h
  (repeat' (split at h)) <;> first | (cases h; done) | (injection h with h; subst h; refine ⟨Ends_of ?_, ?_⟩ <;> simp)
theorem s15 : Sound Try.prog 15 (nestS [] d15 ok15) := by
  refine nest_sound Try.func15 nm15 rc15 rv15 ok15 (fun xs a h => ?_) fun xs a h w0 S hS => ?_
  · unfold d15 at h
    (repeat' (split at h)) <;> first | (cases h; done) | exact Nat.le_of_ble_eq_true rfl
  unfold d15 at h
  split at h
  · skip
    injection h with h
    subst h
    have hE : SoundAll Try.prog (EL []) := EL_sound (by simp)
    unfold m15
    repeat' with_reducible (first
      | refine Wm_seq ?_
      | refine Wm_skip ?_
      | refine Wm_ret ?_
      | refine Wm_block ?_
      | refine Wm_exit ?_
      | refine thenK_normal ?_
      | refine thenK_ret ?_
      | refine thenK_exit ?_
      | refine blockK_normal ?_
      | refine blockK_ret ?_
      | refine blockK_here ?_
      | refine loopK_ret ?_
      | refine loopK_exit ?_
      | refine unK_ret ?_
      | refine unK_exit ?_
      | refine unK_normal ?_
      | refine loopOk_succ ?_
      | refine blockK_exit (by decide) ?_
      | (refine wreg (mos := q15_0) hE [0] (by kernel_rfl) ?_; intro K hK; simp [q15_0]; (repeat' (first | refine hK _ _ ?_ | refine And.intro ?_ ?_ | intro hc)) <;> (try clear hK K) <;> (try subst_vars))
      | (refine wreg (mos := q15_1) hE [2] (by kernel_rfl) ?_; intro K hK; simp [q15_1]; (repeat' (first | refine hK _ _ ?_ | refine And.intro ?_ ?_ | intro hc)) <;> (try clear hK K) <;> (try subst_vars))
      | (refine Wm_cond (b := _) (by with_unfolding_all rfl) (fun hc => ?_) (fun hc => ?_) <;> simp at hc <;> (try subst_vars)))
    all_goals first | (simp; done) | (simp at *; omega) | (simp; refine Imp.auto (by kernel_rfl) ?_ ?_ <;> simp [nmap, lkp, mkPl, prs, prsL, prT, ddL, idL, NLe, CRenL, CRen, Ren, RenL, NObj.none])
  · cases h

def d19 : List AV → Option Ans
  | [.op _ [.int .u64 s]] => some ⟨.int .u64 (shrI .u64 (nextS s) 33), [.cells 0 [.int .u64 (nextS s)]]⟩
  | _ => none

theorem ok19 : NOk [(1, true)] d19 := by
  intro xs a h
  unfold d19 at h
  (repeat' (split at h)) <;> first | (cases h; done) | (injection h with h; subst h; refine ⟨Ends_of ?_, ?_⟩ <;> simp)
theorem s19 : Sound Try.prog 19 (nestS [(1, true)] d19 ok19) := by
  refine nest_sound Try.func19 nm19 rc19 rv19 ok19 (fun xs a h => ?_) fun xs a h w0 S hS => ?_
  · unfold d19 at h
    (repeat' (split at h)) <;> first | (cases h; done) | exact Nat.le_of_ble_eq_true rfl
  unfold d19 at h
  split at h
  · skip
    injection h with h
    subst h
    have hE : SoundAll Try.prog (EL []) := EL_sound (by simp)
    unfold m19
    repeat' with_reducible (first
      | refine Wm_seq ?_
      | refine Wm_skip ?_
      | refine Wm_ret ?_
      | refine Wm_block ?_
      | refine Wm_exit ?_
      | refine thenK_normal ?_
      | refine thenK_ret ?_
      | refine thenK_exit ?_
      | refine blockK_normal ?_
      | refine blockK_ret ?_
      | refine blockK_here ?_
      | refine loopK_ret ?_
      | refine loopK_exit ?_
      | refine unK_ret ?_
      | refine unK_exit ?_
      | refine unK_normal ?_
      | refine loopOk_succ ?_
      | refine blockK_exit (by decide) ?_
      | (refine wreg (mos := q19_0) hE [0] (by kernel_rfl) ?_; intro K hK; simp [q19_0, nextS]; (repeat' (first | refine hK _ _ ?_ | refine And.intro ?_ ?_ | intro hc)) <;> (try clear hK K) <;> (try subst_vars))
      | (refine wreg (mos := q19_1) hE [0] (by kernel_rfl) ?_; intro K hK; simp [q19_1, nextS]; (repeat' (first | refine hK _ _ ?_ | refine And.intro ?_ ?_ | intro hc)) <;> (try clear hK K) <;> (try subst_vars))
      | (refine wreg (mos := q19_2) hE [2] (by kernel_rfl) ?_; intro K hK; simp [q19_2, nextS]; (repeat' (first | refine hK _ _ ?_ | refine And.intro ?_ ?_ | intro hc)) <;> (try clear hK K) <;> (try subst_vars))
      | (refine Wm_cond (b := _) (by with_unfolding_all rfl) (fun hc => ?_) (fun hc => ?_) <;> simp at hc <;> (try subst_vars)))
    all_goals first | (simp; done) | (simp at *; omega) | (simp[nextS]; refine Imp.auto (by kernel_rfl) ?_ ?_ <;> simp [nmap, lkp, mkPl, prs, prsL, prT, ddL, idL, NLe, CRenL, CRen, Ren, RenL, NObj.none, nextS])
  · cases h
end Go.W
