import Derived.Test.YthehmmodkhoieaaWqB
namespace Go.W
open Go.Proofs
set_option linter.unusedSimpArgs false
set_option linter.unusedVariables false
set_option maxHeartbeats 8000000
attribute [local irreducible] Wm

def d84 : List AV → Option Ans
  | [.agg [.int .i64 a, .int .i64 b, .int .i64 c, .int .i64 d, .int .i64 e, .int .i64 f, .int .i64 g]] => if 0 ≤ c * d ∧ c * d ≤ 1000 then some ⟨.int .i64 (c * d), []⟩ else none
  | _ => none

theorem ok84 : NOk [] d84 := by
  intro xs a h
  unfold d84 at h
  (repeat' (split at h)) <;> first | (cases h; done) | (injection h with h; subst h; refine ⟨Ends_of ?_, ?_⟩ <;> simp)
theorem s84 : Sound Try.prog 84 (nestS [] d84 ok84) := by
  refine nest_sound Try.func84 nm84 rc84 rv84 ok84 (fun xs a h => ?_) fun xs a h w0 S hS => ?_
  · unfold d84 at h
    (repeat' (split at h)) <;> first | (cases h; done) | exact Nat.le_of_ble_eq_true rfl
  unfold d84 at h
  split at h
  · split at h
    · rename_i a b c d e f g hcond
      injection h with h
      subst h
      have hE : SoundAll Try.prog (EL []) := EL_sound (by simp)
      obtain ⟨hc1, hc2⟩ := hcond
      have w1 : IntKind.wrap .i64 (c * d) = c * d := wrap_in (by omega) (by omega)
      unfold m84
      repeat' with_reducible (first
        | refine Wm_seq ?_
        | refine Wm_skip ?_
        | refine Wm_ret ?_
        | refine Wm_block ?_
        | refine Wm_exit ?_
        | refine thenK_normal ?_
        | refine thenK_ret ?_
        | refine thenK_exit ?_
        | refine blockK_normal ?_
        | refine blockK_ret ?_
        | refine blockK_here ?_
        | refine loopK_ret ?_
        | refine loopK_exit ?_
        | refine unK_ret ?_
        | refine unK_exit ?_
        | refine unK_normal ?_
        | refine loopOk_succ ?_
        | refine blockK_exit (by decide) ?_
        | (refine wreg (mos := q84_0) hE [1] (by kernel_rfl) ?_; intro K hK; simp [q84_0, w1]; (repeat' (first | refine hK _ _ ?_ | refine And.intro ?_ ?_ | intro hc)) <;> (try clear hK K) <;> (try subst_vars))
        | (refine wreg (mos := q84_1) hE [2] (by kernel_rfl) ?_; intro K hK; simp [q84_1, w1]; (repeat' (first | refine hK _ _ ?_ | refine And.intro ?_ ?_ | intro hc)) <;> (try clear hK K) <;> (try subst_vars))
        | (refine Wm_cond (b := _) (by with_unfolding_all rfl) (fun hc => ?_) (fun hc => ?_) <;> simp at hc <;> (try subst_vars)))
      all_goals first | (simp; done) | (simp at *; omega) | (simp[w1]; refine Imp.auto (by kernel_rfl) ?_ ?_ <;> simp [nmap, lkp, mkPl, prs, prsL, prT, ddL, idL, NLe, CRenL, CRen, Ren, RenL, NObj.none, w1])
    · cases h
  · cases h

def d67 : List AV → Option Ans
  | [.agg [.int .i64 a, .int .i64 b, .int .i64 c, .int .i64 d, .int .i64 e, .int .i64 f, .int .i64 g]] => if 0 ≤ a * b ∧ a * b ≤ 1000 then some ⟨.int .i64 (a * b), []⟩ else none
  | _ => none

theorem ok67 : NOk [] d67 := by
  intro xs a h
  unfold d67 at h
  (repeat' (split at h)) <;> first | (cases h; done) | (injection h with h; subst h; refine ⟨Ends_of ?_, ?_⟩ <;> simp)
theorem s67 : Sound Try.prog 67 (nestS [] d67 ok67) := by
  refine nest_sound Try.func67 nm67 rc67 rv67 ok67 (fun xs a h => ?_) fun xs a h w0 S hS => ?_
  · unfold d67 at h
    (repeat' (split at h)) <;> first | (cases h; done) | exact Nat.le_of_ble_eq_true rfl
  unfold d67 at h
  split at h
  · split at h
    · rename_i a b c d e f g hcond
      injection h with h
      subst h
      have hE : SoundAll Try.prog (EL []) := EL_sound (by simp)
      obtain ⟨hc1, hc2⟩ := hcond
      have w1 : IntKind.wrap .i64 (a * b) = a * b := wrap_in (by omega) (by omega)
      unfold m67
      repeat' with_reducible (first
        | refine Wm_seq ?_
        | refine Wm_skip ?_
        | refine Wm_ret ?_
        | refine Wm_block ?_
        | refine Wm_exit ?_
        | refine thenK_normal ?_
        | refine thenK_ret ?_
        | refine thenK_exit ?_
        | refine blockK_normal ?_
        | refine blockK_ret ?_
        | refine blockK_here ?_
        | refine loopK_ret ?_
        | refine loopK_exit ?_
        | refine unK_ret ?_
        | refine unK_exit ?_
        | refine unK_normal ?_
        | refine loopOk_succ ?_
        | refine blockK_exit (by decide) ?_
        | (refine wreg (mos := q67_0) hE [1] (by kernel_rfl) ?_; intro K hK; simp [q67_0, w1]; (repeat' (first | refine hK _ _ ?_ | refine And.intro ?_ ?_ | intro hc)) <;> (try clear hK K) <;> (try subst_vars))
        | (refine wreg (mos := q67_1) hE [2] (by kernel_rfl) ?_; intro K hK; simp [q67_1, w1]; (repeat' (first | refine hK _ _ ?_ | refine And.intro ?_ ?_ | intro hc)) <;> (try clear hK K) <;> (try subst_vars))
        | (refine Wm_cond (b := _) (by with_unfolding_all rfl) (fun hc => ?_) (fun hc => ?_) <;> simp at hc <;> (try subst_vars)))
      all_goals first | (simp; done) | (simp at *; omega) | (simp[w1]; refine Imp.auto (by kernel_rfl) ?_ ?_ <;> simp [nmap, lkp, mkPl, prs, prsL, prT, ddL, idL, NLe, CRenL, CRen, Ren, RenL, NObj.none, w1])
    · cases h
  · cases h

def d68 : List AV → Option Ans
  | [.agg [.int .i64 a, .int .i64 b, .int .i64 c, .int .i64 d, .int .i64 e, .int .i64 f, .int .i64 g]] => if 0 ≤ c * d ∧ c * d ≤ 1000 ∧ 0 ≤ a ∧ a ≤ 1000 then some ⟨.int .i64 (a + 2 * (c * d)), []⟩ else none
  | _ => none

theorem ok68 : NOk [] d68 := by
  intro xs a h
  unfold d68 at h
  (repeat' (split at h)) <;> first | (cases h; done) | (injection h with h; subst h; refine ⟨Ends_of ?_, ?_⟩ <;> simp)
theorem s68 : Sound Try.prog 68 (nestS [] d68 ok68) := by
  refine nest_sound Try.func68 nm68 rc68 rv68 ok68 (fun xs a h => ?_) fun xs a h w0 S hS => ?_
  · unfold d68 at h
    (repeat' (split at h)) <;> first | (cases h; done) | exact Nat.le_of_ble_eq_true rfl
  unfold d68 at h
  split at h
  · split at h
    · rename_i a b c d e f g hcond
      injection h with h
      subst h
      have hE : SoundAll Try.prog (EL [(84, nestS [] d84 ok84)]) := EL_sound (by simp only [List.mem_cons, List.not_mem_nil, or_false, forall_eq_or_imp, forall_eq]; exact s84)
      obtain ⟨hc1, hc2, hc3, hc4⟩ := hcond
      have w1 : IntKind.wrap .i64 (2 * (c * d)) = 2 * (c * d) := wrap_in (by omega) (by omega)
      have w2 : IntKind.wrap .i64 (a + 2 * (c * d)) = a + 2 * (c * d) := wrap_in (by omega) (by omega)
      unfold m68
      repeat' with_reducible (first
        | refine Wm_seq ?_
        | refine Wm_skip ?_
        | refine Wm_ret ?_
        | refine Wm_block ?_
        | refine Wm_exit ?_
        | refine thenK_normal ?_
        | refine thenK_ret ?_
        | refine thenK_exit ?_
        | refine blockK_normal ?_
        | refine blockK_ret ?_
        | refine blockK_here ?_
        | refine loopK_ret ?_
        | refine loopK_exit ?_
        | refine unK_ret ?_
        | refine unK_exit ?_
        | refine unK_normal ?_
        | refine loopOk_succ ?_
        | refine blockK_exit (by decide) ?_
        | (refine wreg (mos := q68_0) hE [1] (by kernel_rfl) ?_; intro K hK; simp [q68_0, w1, w2, hc1, hc2, d84]; (repeat' (first | refine hK _ _ ?_ | refine And.intro ?_ ?_ | intro hc)) <;> (try clear hK K) <;> (try subst_vars))
        | (refine wdraw (mos := q68_1) hE mixT c68_1 [2] (by kernel_rfl) ?_; intro K hK; simp [q68_1, c68_1, w1, w2, hc1, hc2, d84]; (repeat' (first | refine hK _ _ ?_ | refine And.intro ?_ ?_ | intro hc)) <;> (try clear hK K) <;> (try subst_vars))
        | (refine Wm_cond (b := _) (by with_unfolding_all rfl) (fun hc => ?_) (fun hc => ?_) <;> simp at hc <;> (try subst_vars)))
      all_goals first | (simp; done) | (simp at *; omega) | (simp[w1, w2]; refine Imp.auto (by kernel_rfl) ?_ ?_ <;> simp [nmap, lkp, mkPl, prs, prsL, prT, ddL, idL, NLe, CRenL, CRen, Ren, RenL, NObj.none, w1, w2])
    · cases h
  · cases h

def d81 : List AV → Option Ans
  | [.agg [.int .i64 n0, .int .i64 n1, .int .i64 n2, .int .i64 n3, .int .i64 n4, .int .i64 n5, .int .i64 n6, .int .i64 n7, .int .i64 n8]] => some ⟨.agg [.int .i64 n0, .int .i64 n1, .int .i64 n2, .int .i64 n3, .int .i64 n4, .int .i64 n5, .int .i64 n6, .int .i64 n7, .int .i64 n8], []⟩
  | _ => none

theorem ok81 : NOk [] d81 := by
  intro xs a h
  unfold d81 at h
  (repeat' (split at h)) <;> first | (cases h; done) | (injection h with h; subst h; refine ⟨Ends_of ?_, ?_⟩ <;> simp)
theorem s81 : Sound Try.prog 81 (nestS [] d81 ok81) := by
  refine nest_sound Try.func81 nm81 rc81 rv81 ok81 (fun xs a h => ?_) fun xs a h w0 S hS => ?_
  · unfold d81 at h
    (repeat' (split at h)) <;> first | (cases h; done) | exact Nat.le_of_ble_eq_true rfl
  unfold d81 at h
  split at h
  · skip
    injection h with h
    subst h
    have hE : SoundAll Try.prog (EL []) := EL_sound (by simp)
    unfold m81
    repeat' with_reducible (first
      | refine Wm_seq ?_
      | refine Wm_skip ?_
      | refine Wm_ret ?_
      | refine Wm_block ?_
      | refine Wm_exit ?_
      | refine thenK_normal ?_
      | refine thenK_ret ?_
      | refine thenK_exit ?_
      | refine blockK_normal ?_
      | refine blockK_ret ?_
      | refine blockK_here ?_
      | refine loopK_ret ?_
      | refine loopK_exit ?_
      | refine unK_ret ?_
      | refine unK_exit ?_
      | refine unK_normal ?_
      | refine loopOk_succ ?_
      | refine blockK_exit (by decide) ?_
      | (refine wreg (mos := q81_0) hE [1, 2] (by kernel_rfl) ?_; intro K hK; simp [q81_0]; (repeat' (first | refine hK _ _ ?_ | refine And.intro ?_ ?_ | intro hc)) <;> (try clear hK K) <;> (try subst_vars))
      | (refine wreg (mos := q81_1) hE [2] (by kernel_rfl) ?_; intro K hK; simp [q81_1]; (repeat' (first | refine hK _ _ ?_ | refine And.intro ?_ ?_ | intro hc)) <;> (try clear hK K) <;> (try subst_vars))
      | (refine Wm_cond (b := _) (by with_unfolding_all rfl) (fun hc => ?_) (fun hc => ?_) <;> simp at hc <;> (try subst_vars)))
    all_goals first | (simp; done) | (simp at *; omega) | (simp; refine Imp.auto (by kernel_rfl) ?_ ?_ <;> simp [nmap, lkp, mkPl, prs, prsL, prT, ddL, idL, NLe, CRenL, CRen, Ren, RenL, NObj.none])
  · cases h

def d60 : List AV → Option Ans
  | [.agg [.int .i64 n0, .int .i64 n1, .int .i64 n2, .int .i64 n3, .int .i64 n4, .int .i64 n5, .int .i64 n6, .int .i64 n7, .int .i64 n8, .int .i64 n9, .int .i64 n10, .int .i64 n11]] => some ⟨.agg [.int .i64 n0, .int .i64 n1, .int .i64 n2, .int .i64 n3, .int .i64 n4, .int .i64 n5, .int .i64 n6, .int .i64 n7, .int .i64 n8, .int .i64 n9, .int .i64 n10, .int .i64 n11], []⟩
  | _ => none

theorem ok60 : NOk [] d60 := by
  intro xs a h
  unfold d60 at h
  (repeat' (split at h)) <;> first | (cases h; done) | (injection h with h; subst h; refine ⟨Ends_of ?_, ?_⟩ <;> simp)
theorem s60 : Sound Try.prog 60 (nestS [] d60 ok60) := by
  refine nest_sound Try.func60 nm60 rc60 rv60 ok60 (fun xs a h => ?_) fun xs a h w0 S hS => ?_
  · unfold d60 at h
    (repeat' (split at h)) <;> first | (cases h; done) | exact Nat.le_of_ble_eq_true rfl
  unfold d60 at h
  split at h
  · skip
    injection h with h
    subst h
    have hE : SoundAll Try.prog (EL [(81, nestS [] d81 ok81)]) := EL_sound (by simp only [List.mem_cons, List.not_mem_nil, or_false, forall_eq_or_imp, forall_eq]; exact s81)
    unfold m60
    repeat' with_reducible (first
      | refine Wm_seq ?_
      | refine Wm_skip ?_
      | refine Wm_ret ?_
      | refine Wm_block ?_
      | refine Wm_exit ?_
      | refine thenK_normal ?_
      | refine thenK_ret ?_
      | refine thenK_exit ?_
      | refine blockK_normal ?_
      | refine blockK_ret ?_
      | refine blockK_here ?_
      | refine loopK_ret ?_
      | refine loopK_exit ?_
      | refine unK_ret ?_
      | refine unK_exit ?_
      | refine unK_normal ?_
      | refine loopOk_succ ?_
      | refine blockK_exit (by decide) ?_
      | (refine wreg (mos := q60_0) hE [1, 2] (by kernel_rfl) ?_; intro K hK; simp [q60_0, d81]; (repeat' (first | refine hK _ _ ?_ | refine And.intro ?_ ?_ | intro hc)) <;> (try clear hK K) <;> (try subst_vars))
      | (refine wdraw (mos := q60_1) hE mixT c60_1 [2] (by kernel_rfl) ?_; intro K hK; simp [q60_1, c60_1, d81]; (repeat' (first | refine hK _ _ ?_ | refine And.intro ?_ ?_ | intro hc)) <;> (try clear hK K) <;> (try subst_vars))
      | (refine Wm_cond (b := _) (by with_unfolding_all rfl) (fun hc => ?_) (fun hc => ?_) <;> simp at hc <;> (try subst_vars)))
    all_goals first | (simp; done) | (simp at *; omega) | (simp; refine Imp.auto (by kernel_rfl) ?_ ?_ <;> simp [nmap, lkp, mkPl, prs, prsL, prT, ddL, idL, NLe, CRenL, CRen, Ren, RenL, NObj.none])
  · cases h
end Go.W
