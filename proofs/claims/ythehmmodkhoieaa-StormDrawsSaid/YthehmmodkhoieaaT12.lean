import Derived.Test.YthehmmodkhoieaaT11
namespace Go.Vc
open Go.Proofs
set_option linter.unusedSimpArgs false
set_option linter.unusedVariables false
set_option maxHeartbeats 4000000
attribute [local irreducible] Wm

def d53 : List AV → Option AV
  | [] => some (.agg [.int .i64 2, .int .i64 1, .int .i64 1, .int .i64 40, .int .i64 100, .int .i64 5])
  | _ => none

theorem s53 : Sound Try.prog 53 (scal d53) := by
  refine scal_sound Try.func53 nm53 rc53 rv53 ?_ ?_
  · intro args r h
    unfold d53 at h
    split at h
    · injection h with h; subst h; exact ⟨flat_args rfl, rfl, Nat.le_of_ble_eq_true rfl⟩
    · cases h
  intro args r h w0 S _
  unfold d53 at h
  split at h
  · injection h with h
    subst h
    have hE : SoundAll Try.prog (EL []) := EL_sound (by simp)
    unfold m53
    repeat' with_reducible (first
      | refine Wm_seq ?_
      | refine Wm_skip ?_
      | refine Wm_ret ?_
      | refine Wm_block ?_
      | refine Wm_exit ?_
      | refine thenK_normal ?_
      | refine thenK_ret ?_
      | refine thenK_exit ?_
      | refine blockK_normal ?_
      | refine blockK_ret ?_
      | refine blockK_here ?_
      | refine loopK_ret ?_
      | refine loopK_exit ?_
      | refine blockK_exit (by decide) ?_
      | (refine wreg (mos := q53_0) hE [0] (by kernel_rfl) ?_; intro K hK; simp [q53_0]; (repeat' (first | refine hK _ _ ?_ | refine And.intro ?_ ?_ | intro hc)) <;> (try clear hK K) <;> (try subst_vars))
      | (refine wreg (mos := q53_1) hE [0] (by kernel_rfl) ?_; intro K hK; simp [q53_1]; (repeat' (first | refine hK _ _ ?_ | refine And.intro ?_ ?_ | intro hc)) <;> (try clear hK K) <;> (try subst_vars))
      | (refine Wm_cond (b := _) (by with_unfolding_all rfl) (fun hc => ?_) (fun hc => ?_) <;> simp at hc <;> (try subst_vars)))
    all_goals simp
  · cases h
theorem next0 : shrI .u64 (nextS 0) 33 = 167951807 := by kernel_rfl

def d14 : List AV → Option AV
  | [] => some (.bool true)
  | _ => none

theorem s14 : Sound Try.prog 14 (scal d14) := by
  refine scal_sound Try.func14 nm14 rc14 rv14 ?_ ?_
  · intro args r h
    unfold d14 at h
    split at h
    · injection h with h; subst h; exact ⟨flat_args rfl, rfl, Nat.le_of_ble_eq_true rfl⟩
    · cases h
  intro args r h w0 S _
  unfold d14 at h
  split at h
  · injection h with h
    subst h
    have hE : SoundAll Try.prog (EL [(15, objS [] d15 fl15), (19, objS [0] d19 fl19), (53, scal d53)]) := EL_sound (by simp only [List.mem_cons, List.not_mem_nil, or_false, forall_eq_or_imp, forall_eq]; exact ⟨s15, s19, s53⟩)
    unfold m14
    repeat' with_reducible (first
      | refine Wm_seq ?_
      | refine Wm_skip ?_
      | refine Wm_ret ?_
      | refine Wm_block ?_
      | refine Wm_exit ?_
      | refine thenK_normal ?_
      | refine thenK_ret ?_
      | refine thenK_exit ?_
      | refine blockK_normal ?_
      | refine blockK_ret ?_
      | refine blockK_here ?_
      | refine loopK_ret ?_
      | refine loopK_exit ?_
      | refine blockK_exit (by decide) ?_
      | (refine wreg (mos := q14_0) hE [] (by kernel_rfl) ?_; intro K hK; simp [q14_0, d15, d19, d53, next0]; (repeat' (first | refine hK _ _ ?_ | refine And.intro ?_ ?_ | intro hc)) <;> (try clear hK K) <;> (try subst_vars))
      | (refine wreg (mos := q14_1) hE [0] (by kernel_rfl) ?_; intro K hK; simp [q14_1, d15, d19, d53, next0]; (repeat' (first | refine hK _ _ ?_ | refine And.intro ?_ ?_ | intro hc)) <;> (try clear hK K) <;> (try subst_vars))
      | (refine Wm_cond (b := _) (by with_unfolding_all rfl) (fun hc => ?_) (fun hc => ?_) <;> simp at hc <;> (try subst_vars)))
    all_goals simp
  · cases h
end Go.Vc
