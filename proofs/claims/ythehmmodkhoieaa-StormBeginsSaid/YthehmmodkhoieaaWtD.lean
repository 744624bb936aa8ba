import Derived.Test.YthehmmodkhoieaaWtC
namespace Go.W
open Go.Proofs
set_option linter.unusedSimpArgs false
set_option linter.unusedVariables false
set_option maxHeartbeats 8000000
attribute [local irreducible] Wm

def d57 : List AV → Option Ans
  | [.str _, .iface _ (.int _ _)] => some ⟨.iface 153 .bot, []⟩
  | _ => none

theorem ok57 : NOk [] d57 := by
  intro xs a h
  unfold d57 at h
  (repeat' (split at h)) <;> first | (cases h; done) | (injection h with h; subst h; refine ⟨Ends_of ?_, ?_⟩ <;> simp)
theorem s57 : Sound Try.prog 57 (nestS [] d57 ok57) := by
  refine nest_sound Try.func57 nm57 rc57 rv57 ok57 (fun xs a h => ?_) fun xs a h w0 S hS => ?_
  · unfold d57 at h
    (repeat' (split at h)) <;> first | (cases h; done) | exact Nat.le_of_ble_eq_true rfl
  unfold d57 at h
  split at h
  · skip
    injection h with h
    subst h
    have hE : SoundAll Try.prog (EL []) := EL_sound (by simp)
    unfold m57
    repeat' with_reducible (first
      | refine Wm_seq ?_
      | refine Wm_skip ?_
      | refine Wm_ret ?_
      | refine Wm_block ?_
      | refine Wm_exit ?_
      | refine thenK_normal ?_
      | refine thenK_ret ?_
      | refine thenK_exit ?_
      | refine blockK_normal ?_
      | refine blockK_ret ?_
      | refine blockK_here ?_
      | refine loopK_ret ?_
      | refine loopK_exit ?_
      | refine unK_ret ?_
      | refine unK_exit ?_
      | refine unK_normal ?_
      | refine loopOk_succ ?_
      | refine blockK_exit (by decide) ?_
      | (refine wreg (mos := q57_0) hE [0, 1] (by kernel_rfl) ?_; intro K hK; simp [q57_0]; (repeat' (first | refine hK _ _ ?_ | refine And.intro ?_ ?_ | intro hc)) <;> (try clear hK K) <;> (try subst_vars))
      | (refine wreg (mos := q57_1) hE [0, 1, 6] (by kernel_rfl) ?_; intro K hK; simp [q57_1]; (repeat' (first | refine hK _ _ ?_ | refine And.intro ?_ ?_ | intro hc)) <;> (try clear hK K) <;> (try subst_vars))
      | (refine wreg (mos := q57_2) hE [4] (by kernel_rfl) ?_; intro K hK; simp [q57_2]; (repeat' (first | refine hK _ _ ?_ | refine And.intro ?_ ?_ | intro hc)) <;> (try clear hK K) <;> (try subst_vars))
      | (refine wreg (mos := q57_3) hE [4] (by kernel_rfl) ?_; intro K hK; simp [q57_3]; (repeat' (first | refine hK _ _ ?_ | refine And.intro ?_ ?_ | intro hc)) <;> (try clear hK K) <;> (try subst_vars))
      | (refine Wm_cond (b := _) (by with_unfolding_all rfl) (fun hc => ?_) (fun hc => ?_) <;> simp at hc <;> (try subst_vars)))
    all_goals first | (simp; done) | (simp at *; omega) | (simp; refine Imp.auto (by kernel_rfl) ?_ ?_ <;> simp [nmap, lkp, mkPl, prs, prsL, prT, ddL, idL, NLe, CRenL, CRen, Ren, RenL, NObj.none])
  · cases h

def d56 : List AV → Option Ans
  | [.int .i64 _, .iface _ .bot] => some ⟨.iface 150 .bot, []⟩
  | _ => none

theorem ok56 : NOk [] d56 := by
  intro xs a h
  unfold d56 at h
  (repeat' (split at h)) <;> first | (cases h; done) | (injection h with h; subst h; refine ⟨Ends_of ?_, ?_⟩ <;> simp)
theorem s56 : Sound Try.prog 56 (nestS [] d56 ok56) := by
  refine nest_sound Try.func56 nm56 rc56 rv56 ok56 (fun xs a h => ?_) fun xs a h w0 S hS => ?_
  · unfold d56 at h
    (repeat' (split at h)) <;> first | (cases h; done) | exact Nat.le_of_ble_eq_true rfl
  unfold d56 at h
  split at h
  · skip
    injection h with h
    subst h
    have hE : SoundAll Try.prog (EL []) := EL_sound (by simp)
    unfold m56
    repeat' with_reducible (first
      | refine Wm_seq ?_
      | refine Wm_skip ?_
      | refine Wm_ret ?_
      | refine Wm_block ?_
      | refine Wm_exit ?_
      | refine thenK_normal ?_
      | refine thenK_ret ?_
      | refine thenK_exit ?_
      | refine blockK_normal ?_
      | refine blockK_ret ?_
      | refine blockK_here ?_
      | refine loopK_ret ?_
      | refine loopK_exit ?_
      | refine unK_ret ?_
      | refine unK_exit ?_
      | refine unK_normal ?_
      | refine loopOk_succ ?_
      | refine blockK_exit (by decide) ?_
      | (refine wreg (mos := q56_0) hE [0, 1] (by kernel_rfl) ?_; intro K hK; simp [q56_0]; (repeat' (first | refine hK _ _ ?_ | refine And.intro ?_ ?_ | intro hc)) <;> (try clear hK K) <;> (try subst_vars))
      | (refine wreg (mos := q56_1) hE [0, 1, 6] (by kernel_rfl) ?_; intro K hK; simp [q56_1]; (repeat' (first | refine hK _ _ ?_ | refine And.intro ?_ ?_ | intro hc)) <;> (try clear hK K) <;> (try subst_vars))
      | (refine wreg (mos := q56_2) hE [4] (by kernel_rfl) ?_; intro K hK; simp [q56_2]; (repeat' (first | refine hK _ _ ?_ | refine And.intro ?_ ?_ | intro hc)) <;> (try clear hK K) <;> (try subst_vars))
      | (refine wreg (mos := q56_3) hE [4] (by kernel_rfl) ?_; intro K hK; simp [q56_3]; (repeat' (first | refine hK _ _ ?_ | refine And.intro ?_ ?_ | intro hc)) <;> (try clear hK K) <;> (try subst_vars))
      | (refine Wm_cond (b := _) (by with_unfolding_all rfl) (fun hc => ?_) (fun hc => ?_) <;> simp at hc <;> (try subst_vars)))
    all_goals first | (simp; done) | (simp at *; omega) | (simp; refine Imp.auto (by kernel_rfl) ?_ ?_ <;> simp [nmap, lkp, mkPl, prs, prsL, prT, ddL, idL, NLe, CRenL, CRen, Ren, RenL, NObj.none])
  · cases h

def d26 : List AV → Option Ans
  | [.agg [.int .i64 a, .int .i64 b, .int .i64 c, .int .i64 d, .int .i64 e, .int .i64 f, .int .i64 g]] => some ⟨if checkZ a b c d e f g = -1 then .tup [.agg [.int .i64 a, .int .i64 b, .int .i64 c, .int .i64 d, .int .i64 e, .int .i64 f, .int .i64 g], .raw .nilIface] else .tup [.agg [.int .i64 0, .int .i64 0, .int .i64 0, .int .i64 0, .int .i64 0, .int .i64 0, .int .i64 0], .iface 150 .bot], []⟩
  | _ => none

theorem ok26 : NOk [] d26 := by
  intro xs a h
  unfold d26 at h
  split at h
  · injection h with h; subst h
    split <;> refine ⟨Ends_of ?_, ?_⟩ <;> simp
  · cases h
theorem s26 : Sound Try.prog 26 (nestS [] d26 ok26) := by
  refine nest_sound Try.func26 nm26 rc26 rv26 ok26 (fun xs a h => ?_) fun xs a h w0 S hS => ?_
  · unfold d26 at h
    (repeat' (split at h)) <;> first | (cases h; done) | exact Nat.le_of_ble_eq_true rfl
  unfold d26 at h
  split at h
  · rename_i a b c d e f g
    injection h with h
    subst h
    have hE : SoundAll Try.prog (EL [(55, nestS [] d55 ok55), (56, nestS [] d56 ok56), (57, nestS [] d57 ok57)]) := EL_sound (by simp only [List.mem_cons, List.not_mem_nil, or_false, forall_eq_or_imp, forall_eq]; exact ⟨s55, s56, s57⟩)
    unfold m26
    repeat' with_reducible (first
      | refine Wm_seq ?_
      | refine Wm_skip ?_
      | refine Wm_ret ?_
      | refine Wm_block ?_
      | refine Wm_exit ?_
      | refine thenK_normal ?_
      | refine thenK_ret ?_
      | refine thenK_exit ?_
      | refine blockK_normal ?_
      | refine blockK_ret ?_
      | refine blockK_here ?_
      | refine loopK_ret ?_
      | refine loopK_exit ?_
      | refine unK_ret ?_
      | refine unK_exit ?_
      | refine unK_normal ?_
      | refine loopOk_succ ?_
      | refine blockK_exit (by decide) ?_
      | (refine wreg (mos := q26_0) hE [1, 2] (by kernel_rfl) ?_; intro K hK; simp [q26_0, d55, d56, d57]; (repeat' (first | refine hK _ _ ?_ | refine And.intro ?_ ?_ | intro hc)) <;> (try clear hK K) <;> (try subst_vars))
      | (refine wreg (mos := q26_1) hE [1, 2, 7, 8, 9] (by kernel_rfl) ?_; intro K hK; simp [q26_1, d55, d56, d57]; (repeat' (first | refine hK _ _ ?_ | refine And.intro ?_ ?_ | intro hc)) <;> (try clear hK K) <;> (try subst_vars))
      | (refine wreg (mos := q26_2) hE [1, 2, 7, 8, 9, 10, 20, 21, 22, 23, 24] (by kernel_rfl) ?_; intro K hK; simp [q26_2, d55, d56, d57]; (repeat' (first | refine hK _ _ ?_ | refine And.intro ?_ ?_ | intro hc)) <;> (try clear hK K) <;> (try subst_vars))
      | (refine wreg (mos := q26_3) hE [1, 2, 4, 5, 7, 8, 9, 20, 21, 22, 23, 24] (by kernel_rfl) ?_; intro K hK; simp [q26_3, d55, d56, d57]; (repeat' (first | refine hK _ _ ?_ | refine And.intro ?_ ?_ | intro hc)) <;> (try clear hK K) <;> (try subst_vars))
      | (refine wreg (mos := q26_4) hE [1, 2, 4, 5, 7, 8, 9, 20, 21, 22, 23, 24, 25] (by kernel_rfl) ?_; intro K hK; simp [q26_4, d55, d56, d57]; (repeat' (first | refine hK _ _ ?_ | refine And.intro ?_ ?_ | intro hc)) <;> (try clear hK K) <;> (try subst_vars))
      | (refine wreg (mos := q26_5) hE [2, 3] (by kernel_rfl) ?_; intro K hK; simp [q26_5, d55, d56, d57]; (repeat' (first | refine hK _ _ ?_ | refine And.intro ?_ ?_ | intro hc)) <;> (try clear hK K) <;> (try subst_vars))
      | (refine wreg (mos := q26_6) hE [1, 2, 7, 8, 9, 20, 21, 22, 23, 24] (by kernel_rfl) ?_; intro K hK; simp [q26_6, d55, d56, d57]; (repeat' (first | refine hK _ _ ?_ | refine And.intro ?_ ?_ | intro hc)) <;> (try clear hK K) <;> (try subst_vars))
      | (refine wreg (mos := q26_7) hE [2, 3] (by kernel_rfl) ?_; intro K hK; simp [q26_7, d55, d56, d57]; (repeat' (first | refine hK _ _ ?_ | refine And.intro ?_ ?_ | intro hc)) <;> (try clear hK K) <;> (try subst_vars))
      | (refine Wm_cond (b := _) (by with_unfolding_all rfl) (fun hc => ?_) (fun hc => ?_) <;> simp at hc <;> (try subst_vars)))
    all_goals refine Wm_unroll 8 ?_
    repeat' with_reducible (first
      | refine Wm_seq ?_
      | refine Wm_skip ?_
      | refine Wm_ret ?_
      | refine Wm_block ?_
      | refine Wm_exit ?_
      | refine thenK_normal ?_
      | refine thenK_ret ?_
      | refine thenK_exit ?_
      | refine blockK_normal ?_
      | refine blockK_ret ?_
      | refine blockK_here ?_
      | refine loopK_ret ?_
      | refine loopK_exit ?_
      | refine unK_ret ?_
      | refine unK_exit ?_
      | refine unK_normal ?_
      | refine loopOk_succ ?_
      | refine blockK_exit (by decide) ?_
      | (refine wreg (mos := q26_0) hE [1, 2] (by kernel_rfl) ?_; intro K hK; simp [q26_0, wrap_in, d55, d56, d57]; (repeat' (first | refine hK _ _ ?_ | refine And.intro ?_ ?_ | intro hc)) <;> (try clear hK K) <;> (try subst_vars))
      | (refine wreg (mos := q26_1) hE [1, 2, 7, 8, 9] (by kernel_rfl) ?_; intro K hK; simp [q26_1, wrap_in, d55, d56, d57]; (repeat' (first | refine hK _ _ ?_ | refine And.intro ?_ ?_ | intro hc)) <;> (try clear hK K) <;> (try subst_vars))
      | (refine wreg (mos := q26_2) hE [1, 2, 7, 8, 9, 10, 20, 21, 22, 23, 24] (by kernel_rfl) ?_; intro K hK; simp [q26_2, wrap_in, d55, d56, d57]; (repeat' (first | refine hK _ _ ?_ | refine And.intro ?_ ?_ | intro hc)) <;> (try clear hK K) <;> (try subst_vars))
      | (refine wreg (mos := q26_3) hE [1, 2, 4, 5, 7, 8, 9, 20, 21, 22, 23, 24] (by kernel_rfl) ?_; intro K hK; simp [q26_3, wrap_in, d55, d56, d57]; (repeat' (first | refine hK _ _ ?_ | refine And.intro ?_ ?_ | intro hc)) <;> (try clear hK K) <;> (try subst_vars))
      | (refine wreg (mos := q26_4) hE [1, 2, 4, 5, 7, 8, 9, 20, 21, 22, 23, 24, 25] (by kernel_rfl) ?_; intro K hK; simp [q26_4, wrap_in, d55, d56, d57]; (repeat' (first | refine hK _ _ ?_ | refine And.intro ?_ ?_ | intro hc)) <;> (try clear hK K) <;> (try subst_vars))
      | (refine wreg (mos := q26_5) hE [2, 3] (by kernel_rfl) ?_; intro K hK; simp [q26_5, wrap_in, d55, d56, d57]; (repeat' (first | refine hK _ _ ?_ | refine And.intro ?_ ?_ | intro hc)) <;> (try clear hK K) <;> (try subst_vars))
      | (refine wreg (mos := q26_6) hE [1, 2, 7, 8, 9, 20, 21, 22, 23, 24] (by kernel_rfl) ?_; intro K hK; simp [q26_6, wrap_in, d55, d56, d57]; (repeat' (first | refine hK _ _ ?_ | refine And.intro ?_ ?_ | intro hc)) <;> (try clear hK K) <;> (try subst_vars))
      | (refine wreg (mos := q26_7) hE [2, 3] (by kernel_rfl) ?_; intro K hK; simp [q26_7, wrap_in, d55, d56, d57]; (repeat' (first | refine hK _ _ ?_ | refine And.intro ?_ ?_ | intro hc)) <;> (try clear hK K) <;> (try subst_vars))
      | (refine Wm_cond (b := _) (by with_unfolding_all rfl) (fun hc => ?_) (fun hc => ?_) <;> simp at hc <;> (try subst_vars)))
    all_goals first | (simp; done) | (have hz : checkZ a b c d e f g = -1 := (by simp [checkZ]; omega); simp [hz]; refine Imp.auto (by kernel_rfl) ?_ ?_ <;> simp [nmap, lkp, mkPl, prs, prsL, prT, ddL, idL, NLe, CRenL, CRen, Ren, RenL, NObj.none]; done) | (have hz : ¬ checkZ a b c d e f g = -1 := (by simp [checkZ]; (repeat' split) <;> omega); simp [hz]; refine Imp.auto (by kernel_rfl) ?_ ?_ <;> simp [nmap, lkp, mkPl, prs, prsL, prT, ddL, idL, NLe, CRenL, CRen, Ren, RenL, NObj.none])
  · cases h

def d29 : List AV → Option Ans
  | [.agg [.int .i64 a, .int .i64 b, .int .i64 c, .int .i64 d, .int .i64 e, .int .i64 f, .int .i64 g, .int .i64 h, .int .i64 i]] => some ⟨.agg [.int .i64 a, .int .i64 b, .int .i64 c, .int .i64 d, .int .i64 e, .int .i64 f, .int .i64 g, .int .i64 h, .int .i64 i], []⟩
  | _ => none

theorem ok29 : NOk [] d29 := by
  intro xs a h
  unfold d29 at h
  (repeat' (split at h)) <;> first | (cases h; done) | (injection h with h; subst h; refine ⟨Ends_of ?_, ?_⟩ <;> simp)
theorem s29 : Sound Try.prog 29 (nestS [] d29 ok29) := by
  refine nest_sound Try.func29 nm29 rc29 rv29 ok29 (fun xs a h => ?_) fun xs a h w0 S hS => ?_
  · unfold d29 at h
    (repeat' (split at h)) <;> first | (cases h; done) | exact Nat.le_of_ble_eq_true rfl
  unfold d29 at h
  split at h
  · skip
    injection h with h
    subst h
    have hE : SoundAll Try.prog (EL []) := EL_sound (by simp)
    unfold m29
    repeat' with_reducible (first
      | refine Wm_seq ?_
      | refine Wm_skip ?_
      | refine Wm_ret ?_
      | refine Wm_block ?_
      | refine Wm_exit ?_
      | refine thenK_normal ?_
      | refine thenK_ret ?_
      | refine thenK_exit ?_
      | refine blockK_normal ?_
      | refine blockK_ret ?_
      | refine blockK_here ?_
      | refine loopK_ret ?_
      | refine loopK_exit ?_
      | refine unK_ret ?_
      | refine unK_exit ?_
      | refine unK_normal ?_
      | refine loopOk_succ ?_
      | refine blockK_exit (by decide) ?_
      | (refine wreg (mos := q29_0) hE [1, 2] (by kernel_rfl) ?_; intro K hK; simp [q29_0]; (repeat' (first | refine hK _ _ ?_ | refine And.intro ?_ ?_ | intro hc)) <;> (try clear hK K) <;> (try subst_vars))
      | (refine wreg (mos := q29_1) hE [2] (by kernel_rfl) ?_; intro K hK; simp [q29_1]; (repeat' (first | refine hK _ _ ?_ | refine And.intro ?_ ?_ | intro hc)) <;> (try clear hK K) <;> (try subst_vars))
      | (refine Wm_cond (b := _) (by with_unfolding_all rfl) (fun hc => ?_) (fun hc => ?_) <;> simp at hc <;> (try subst_vars)))
    all_goals first | (simp; done) | (simp at *; omega) | (simp; refine Imp.auto (by kernel_rfl) ?_ ?_ <;> simp [nmap, lkp, mkPl, prs, prsL, prT, ddL, idL, NLe, CRenL, CRen, Ren, RenL, NObj.none])
  · cases h
end Go.W
