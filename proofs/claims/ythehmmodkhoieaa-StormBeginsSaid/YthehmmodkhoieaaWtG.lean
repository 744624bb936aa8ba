import Derived.Test.YthehmmodkhoieaaWtF
namespace Go.W
open Go.Proofs
set_option linter.unusedSimpArgs false
set_option linter.unusedVariables false
set_option maxHeartbeats 8000000
attribute [local irreducible] Wm

theorem check_neg {a b c d e f g : Int} : checkZ a b c d e f g = -1 ∨ 0 ≤ checkZ a b c d e f g := by
  unfold checkZ
  (repeat' split) <;> omega

def d7 : List AV → Option Ans
  | [.agg [.int .i64 a, .int .i64 b, .int .i64 c, .int .i64 d, .int .i64 e, .int .i64 f, .int .i64 g], .int .u64 _, .agg [.int .i64 ma, .int .i64 mt, .int .i64 md, .int .i64 ms, .int .i64 mp, .int .i64 mw], .int .i64 _, .int .i64 _] => some ⟨.bool true, []⟩
  | _ => none

theorem ok7 : NOk [] d7 := by
  intro xs a h
  unfold d7 at h
  (repeat' (split at h)) <;> first | (cases h; done) | (injection h with h; subst h; refine ⟨Ends_of ?_, ?_⟩ <;> simp)
theorem s7 : Sound Try.prog 7 (nestS [] d7 ok7) := by
  refine nest_sound Try.func7 nm7 rc7 rv7 ok7 (fun xs a h => ?_) fun xs a h w0 S hS => ?_
  · unfold d7 at h
    (repeat' (split at h)) <;> first | (cases h; done) | exact Nat.le_of_ble_eq_true rfl
  unfold d7 at h
  split at h
  · rename_i a b c d e f g s ma mt md ms mp mw id now
    injection h with h
    subst h
    have hE : SoundAll Try.prog (EL [(14, nestS [] d14 ok14), (26, nestS [] d26 ok26), (27, nestS [] d27 ok27), (28, nestS [] d28 ok28), (29, nestS [] d29 ok29), (15, nestS [] d15 ok15), (16, nestS [(1, true)] d16 ok16), (17, nestS [(1, true)] d17 ok17), (30, nestS [(1, true)] d30 ok30), (31, nestS [(1, true)] d31 ok31)]) := EL_sound (by simp only [List.mem_cons, List.not_mem_nil, or_false, forall_eq_or_imp, forall_eq]; exact ⟨s14, s26, s27, s28, s29, s15, s16, s17, s30, s31⟩)
    by_cases hck : checkZ a b c d e f g = -1
    · by_cases hft : fitsB ma mt md ms mp mw = true
      · by_cases h1 : id < 0
        · unfold m7
          repeat' with_reducible (first
            | refine Wm_seq ?_
            | refine Wm_skip ?_
            | refine Wm_ret ?_
            | refine Wm_block ?_
            | refine Wm_exit ?_
            | refine thenK_normal ?_
            | refine thenK_ret ?_
            | refine thenK_exit ?_
            | refine blockK_normal ?_
            | refine blockK_ret ?_
            | refine blockK_here ?_
            | refine loopK_ret ?_
            | refine loopK_exit ?_
            | refine unK_ret ?_
            | refine unK_exit ?_
            | refine unK_normal ?_
            | refine loopOk_succ ?_
            | refine blockK_exit (by decide) ?_
            | (refine wreg (mos := q7_0) hE [1, 3, 4, 5, 7] (by kernel_rfl) ?_; intro K hK; simp [q7_0, hck, hft, h1, d14, d26, d27, d28, d29, d15, d16, d17, d30, d31]; (repeat' (first | refine hK _ _ ?_ | refine And.intro ?_ ?_ | intro hc)) <;> (try clear hK K) <;> (try subst_vars))
            | (refine wreg (mos := q7_1) hE [1, 3, 4, 5, 7, 11, 12] (by kernel_rfl) ?_; intro K hK; simp [q7_1, hck, hft, h1, d14, d26, d27, d28, d29, d15, d16, d17, d30, d31]; (repeat' (first | refine hK _ _ ?_ | refine And.intro ?_ ?_ | intro hc)) <;> (try clear hK K) <;> (try subst_vars))
            | (refine wreg (mos := q7_2) hE [1, 3, 4, 5, 7, 11, 12, 43] (by kernel_rfl) ?_; intro K hK; simp [q7_2, hck, hft, h1, d14, d26, d27, d28, d29, d15, d16, d17, d30, d31]; (repeat' (first | refine hK _ _ ?_ | refine And.intro ?_ ?_ | intro hc)) <;> (try clear hK K) <;> (try subst_vars))
            | (refine wdraw (mos := q7_3) hE mixT c7_3 [10] (by kernel_rfl) ?_; intro K hK; simp [q7_3, c7_3, hck, hft, h1, d14, d26, d27, d28, d29, d15, d16, d17, d30, d31]; (repeat' (first | refine hK _ _ ?_ | refine And.intro ?_ ?_ | intro hc)) <;> (try clear hK K) <;> (try subst_vars))
            | (refine wreg (mos := q7_4) hE [3, 4, 5, 7, 11, 13, 14] (by kernel_rfl) ?_; intro K hK; simp [q7_4, hck, hft, h1, d14, d26, d27, d28, d29, d15, d16, d17, d30, d31]; (repeat' (first | refine hK _ _ ?_ | refine And.intro ?_ ?_ | intro hc)) <;> (try clear hK K) <;> (try subst_vars))
            | (refine wreg (mos := q7_5) hE [3, 4, 5, 7, 11, 13, 14, 58] (by kernel_rfl) ?_; intro K hK; simp [q7_5, hck, hft, h1, d14, d26, d27, d28, d29, d15, d16, d17, d30, d31]; (repeat' (first | refine hK _ _ ?_ | refine And.intro ?_ ?_ | intro hc)) <;> (try clear hK K) <;> (try subst_vars))
            | (refine wreg (mos := q7_6) hE [3, 4, 5, 7, 11, 13, 14, 58, 59] (by kernel_rfl) ?_; intro K hK; simp [q7_6, hck, hft, h1, d14, d26, d27, d28, d29, d15, d16, d17, d30, d31]; (repeat' (first | refine hK _ _ ?_ | refine And.intro ?_ ?_ | intro hc)) <;> (try clear hK K) <;> (try subst_vars))
            | (refine wdraw (mos := q7_7) hE mixT c7_7 [3, 4, 5, 7, 11, 13, 14, 58, 73] (by kernel_rfl) ?_; intro K hK; simp [q7_7, c7_7, hck, hft, h1, d14, d26, d27, d28, d29, d15, d16, d17, d30, d31]; (repeat' (first | refine hK _ _ ?_ | refine And.intro ?_ ?_ | intro hc)) <;> (try clear hK K) <;> (try subst_vars))
            | (refine wreg (mos := q7_8) hE [10] (by kernel_rfl) ?_; intro K hK; simp [q7_8, hck, hft, h1, d14, d26, d27, d28, d29, d15, d16, d17, d30, d31]; (repeat' (first | refine hK _ _ ?_ | refine And.intro ?_ ?_ | intro hc)) <;> (try clear hK K) <;> (try subst_vars))
            | (refine wreg (mos := q7_9) hE [3, 4, 5, 7, 11, 13, 14, 58] (by kernel_rfl) ?_; intro K hK; simp [q7_9, hck, hft, h1, d14, d26, d27, d28, d29, d15, d16, d17, d30, d31]; (repeat' (first | refine hK _ _ ?_ | refine And.intro ?_ ?_ | intro hc)) <;> (try clear hK K) <;> (try subst_vars))
            | (refine wreg (mos := q7_10) hE [10] (by kernel_rfl) ?_; intro K hK; simp [q7_10, hck, hft, h1, d14, d26, d27, d28, d29, d15, d16, d17, d30, d31]; (repeat' (first | refine hK _ _ ?_ | refine And.intro ?_ ?_ | intro hc)) <;> (try clear hK K) <;> (try subst_vars))
            | (refine Wm_cond (b := _) (by with_unfolding_all rfl) (fun hc => ?_) (fun hc => ?_) <;> simp at hc <;> (try subst_vars)))
          all_goals first | (simp; done) | (simp at *; omega) | (simp[hck, hft]; refine Imp.auto (by kernel_rfl) ?_ ?_ <;> simp [nmap, lkp, mkPl, prs, prsL, prT, ddL, idL, NLe, CRenL, CRen, Ren, RenL, NObj.none, hck, hft])
        · by_cases h2 : 1048576 < id
          · unfold m7
            repeat' with_reducible (first
              | refine Wm_seq ?_
              | refine Wm_skip ?_
              | refine Wm_ret ?_
              | refine Wm_block ?_
              | refine Wm_exit ?_
              | refine thenK_normal ?_
              | refine thenK_ret ?_
              | refine thenK_exit ?_
              | refine blockK_normal ?_
              | refine blockK_ret ?_
              | refine blockK_here ?_
              | refine loopK_ret ?_
              | refine loopK_exit ?_
              | refine unK_ret ?_
              | refine unK_exit ?_
              | refine unK_normal ?_
              | refine loopOk_succ ?_
              | refine blockK_exit (by decide) ?_
              | (refine wreg (mos := q7_0) hE [1, 3, 4, 5, 7] (by kernel_rfl) ?_; intro K hK; simp [q7_0, hck, hft, h1, h2, d14, d26, d27, d28, d29, d15, d16, d17, d30, d31]; (repeat' (first | refine hK _ _ ?_ | refine And.intro ?_ ?_ | intro hc)) <;> (try clear hK K) <;> (try subst_vars))
              | (refine wreg (mos := q7_1) hE [1, 3, 4, 5, 7, 11, 12] (by kernel_rfl) ?_; intro K hK; simp [q7_1, hck, hft, h1, h2, d14, d26, d27, d28, d29, d15, d16, d17, d30, d31]; (repeat' (first | refine hK _ _ ?_ | refine And.intro ?_ ?_ | intro hc)) <;> (try clear hK K) <;> (try subst_vars))
              | (refine wreg (mos := q7_2) hE [1, 3, 4, 5, 7, 11, 12, 43] (by kernel_rfl) ?_; intro K hK; simp [q7_2, hck, hft, h1, h2, d14, d26, d27, d28, d29, d15, d16, d17, d30, d31]; (repeat' (first | refine hK _ _ ?_ | refine And.intro ?_ ?_ | intro hc)) <;> (try clear hK K) <;> (try subst_vars))
              | (refine wdraw (mos := q7_3) hE mixT c7_3 [10] (by kernel_rfl) ?_; intro K hK; simp [q7_3, c7_3, hck, hft, h1, h2, d14, d26, d27, d28, d29, d15, d16, d17, d30, d31]; (repeat' (first | refine hK _ _ ?_ | refine And.intro ?_ ?_ | intro hc)) <;> (try clear hK K) <;> (try subst_vars))
              | (refine wreg (mos := q7_4) hE [3, 4, 5, 7, 11, 13, 14] (by kernel_rfl) ?_; intro K hK; simp [q7_4, hck, hft, h1, h2, d14, d26, d27, d28, d29, d15, d16, d17, d30, d31]; (repeat' (first | refine hK _ _ ?_ | refine And.intro ?_ ?_ | intro hc)) <;> (try clear hK K) <;> (try subst_vars))
              | (refine wreg (mos := q7_5) hE [3, 4, 5, 7, 11, 13, 14, 58] (by kernel_rfl) ?_; intro K hK; simp [q7_5, hck, hft, h1, h2, d14, d26, d27, d28, d29, d15, d16, d17, d30, d31]; (repeat' (first | refine hK _ _ ?_ | refine And.intro ?_ ?_ | intro hc)) <;> (try clear hK K) <;> (try subst_vars))
              | (refine wreg (mos := q7_6) hE [3, 4, 5, 7, 11, 13, 14, 58, 59] (by kernel_rfl) ?_; intro K hK; simp [q7_6, hck, hft, h1, h2, d14, d26, d27, d28, d29, d15, d16, d17, d30, d31]; (repeat' (first | refine hK _ _ ?_ | refine And.intro ?_ ?_ | intro hc)) <;> (try clear hK K) <;> (try subst_vars))
              | (refine wdraw (mos := q7_7) hE mixT c7_7 [3, 4, 5, 7, 11, 13, 14, 58, 73] (by kernel_rfl) ?_; intro K hK; simp [q7_7, c7_7, hck, hft, h1, h2, d14, d26, d27, d28, d29, d15, d16, d17, d30, d31]; (repeat' (first | refine hK _ _ ?_ | refine And.intro ?_ ?_ | intro hc)) <;> (try clear hK K) <;> (try subst_vars))
              | (refine wreg (mos := q7_8) hE [10] (by kernel_rfl) ?_; intro K hK; simp [q7_8, hck, hft, h1, h2, d14, d26, d27, d28, d29, d15, d16, d17, d30, d31]; (repeat' (first | refine hK _ _ ?_ | refine And.intro ?_ ?_ | intro hc)) <;> (try clear hK K) <;> (try subst_vars))
              | (refine wreg (mos := q7_9) hE [3, 4, 5, 7, 11, 13, 14, 58] (by kernel_rfl) ?_; intro K hK; simp [q7_9, hck, hft, h1, h2, d14, d26, d27, d28, d29, d15, d16, d17, d30, d31]; (repeat' (first | refine hK _ _ ?_ | refine And.intro ?_ ?_ | intro hc)) <;> (try clear hK K) <;> (try subst_vars))
              | (refine wreg (mos := q7_10) hE [10] (by kernel_rfl) ?_; intro K hK; simp [q7_10, hck, hft, h1, h2, d14, d26, d27, d28, d29, d15, d16, d17, d30, d31]; (repeat' (first | refine hK _ _ ?_ | refine And.intro ?_ ?_ | intro hc)) <;> (try clear hK K) <;> (try subst_vars))
              | (refine Wm_cond (b := _) (by with_unfolding_all rfl) (fun hc => ?_) (fun hc => ?_) <;> simp at hc <;> (try subst_vars)))
            all_goals first | (simp; done) | (simp at *; omega) | (simp[hck, hft]; refine Imp.auto (by kernel_rfl) ?_ ?_ <;> simp [nmap, lkp, mkPl, prs, prsL, prT, ddL, idL, NLe, CRenL, CRen, Ren, RenL, NObj.none, hck, hft])
          · by_cases h3 : now < 0
            · unfold m7
              repeat' with_reducible (first
                | refine Wm_seq ?_
                | refine Wm_skip ?_
                | refine Wm_ret ?_
                | refine Wm_block ?_
                | refine Wm_exit ?_
                | refine thenK_normal ?_
                | refine thenK_ret ?_
                | refine thenK_exit ?_
                | refine blockK_normal ?_
                | refine blockK_ret ?_
                | refine blockK_here ?_
                | refine loopK_ret ?_
                | refine loopK_exit ?_
                | refine unK_ret ?_
                | refine unK_exit ?_
                | refine unK_normal ?_
                | refine loopOk_succ ?_
                | refine blockK_exit (by decide) ?_
                | (refine wreg (mos := q7_0) hE [1, 3, 4, 5, 7] (by kernel_rfl) ?_; intro K hK; simp [q7_0, hck, hft, h1, h2, h3, d14, d26, d27, d28, d29, d15, d16, d17, d30, d31]; (repeat' (first | refine hK _ _ ?_ | refine And.intro ?_ ?_ | intro hc)) <;> (try clear hK K) <;> (try subst_vars))
                | (refine wreg (mos := q7_1) hE [1, 3, 4, 5, 7, 11, 12] (by kernel_rfl) ?_; intro K hK; simp [q7_1, hck, hft, h1, h2, h3, d14, d26, d27, d28, d29, d15, d16, d17, d30, d31]; (repeat' (first | refine hK _ _ ?_ | refine And.intro ?_ ?_ | intro hc)) <;> (try clear hK K) <;> (try subst_vars))
                | (refine wreg (mos := q7_2) hE [1, 3, 4, 5, 7, 11, 12, 43] (by kernel_rfl) ?_; intro K hK; simp [q7_2, hck, hft, h1, h2, h3, d14, d26, d27, d28, d29, d15, d16, d17, d30, d31]; (repeat' (first | refine hK _ _ ?_ | refine And.intro ?_ ?_ | intro hc)) <;> (try clear hK K) <;> (try subst_vars))
                | (refine wdraw (mos := q7_3) hE mixT c7_3 [10] (by kernel_rfl) ?_; intro K hK; simp [q7_3, c7_3, hck, hft, h1, h2, h3, d14, d26, d27, d28, d29, d15, d16, d17, d30, d31]; (repeat' (first | refine hK _ _ ?_ | refine And.intro ?_ ?_ | intro hc)) <;> (try clear hK K) <;> (try subst_vars))
                | (refine wreg (mos := q7_4) hE [3, 4, 5, 7, 11, 13, 14] (by kernel_rfl) ?_; intro K hK; simp [q7_4, hck, hft, h1, h2, h3, d14, d26, d27, d28, d29, d15, d16, d17, d30, d31]; (repeat' (first | refine hK _ _ ?_ | refine And.intro ?_ ?_ | intro hc)) <;> (try clear hK K) <;> (try subst_vars))
                | (refine wreg (mos := q7_5) hE [3, 4, 5, 7, 11, 13, 14, 58] (by kernel_rfl) ?_; intro K hK; simp [q7_5, hck, hft, h1, h2, h3, d14, d26, d27, d28, d29, d15, d16, d17, d30, d31]; (repeat' (first | refine hK _ _ ?_ | refine And.intro ?_ ?_ | intro hc)) <;> (try clear hK K) <;> (try subst_vars))
                | (refine wreg (mos := q7_6) hE [3, 4, 5, 7, 11, 13, 14, 58, 59] (by kernel_rfl) ?_; intro K hK; simp [q7_6, hck, hft, h1, h2, h3, d14, d26, d27, d28, d29, d15, d16, d17, d30, d31]; (repeat' (first | refine hK _ _ ?_ | refine And.intro ?_ ?_ | intro hc)) <;> (try clear hK K) <;> (try subst_vars))
                | (refine wdraw (mos := q7_7) hE mixT c7_7 [3, 4, 5, 7, 11, 13, 14, 58, 73] (by kernel_rfl) ?_; intro K hK; simp [q7_7, c7_7, hck, hft, h1, h2, h3, d14, d26, d27, d28, d29, d15, d16, d17, d30, d31]; (repeat' (first | refine hK _ _ ?_ | refine And.intro ?_ ?_ | intro hc)) <;> (try clear hK K) <;> (try subst_vars))
                | (refine wreg (mos := q7_8) hE [10] (by kernel_rfl) ?_; intro K hK; simp [q7_8, hck, hft, h1, h2, h3, d14, d26, d27, d28, d29, d15, d16, d17, d30, d31]; (repeat' (first | refine hK _ _ ?_ | refine And.intro ?_ ?_ | intro hc)) <;> (try clear hK K) <;> (try subst_vars))
                | (refine wreg (mos := q7_9) hE [3, 4, 5, 7, 11, 13, 14, 58] (by kernel_rfl) ?_; intro K hK; simp [q7_9, hck, hft, h1, h2, h3, d14, d26, d27, d28, d29, d15, d16, d17, d30, d31]; (repeat' (first | refine hK _ _ ?_ | refine And.intro ?_ ?_ | intro hc)) <;> (try clear hK K) <;> (try subst_vars))
                | (refine wreg (mos := q7_10) hE [10] (by kernel_rfl) ?_; intro K hK; simp [q7_10, hck, hft, h1, h2, h3, d14, d26, d27, d28, d29, d15, d16, d17, d30, d31]; (repeat' (first | refine hK _ _ ?_ | refine And.intro ?_ ?_ | intro hc)) <;> (try clear hK K) <;> (try subst_vars))
                | (refine Wm_cond (b := _) (by with_unfolding_all rfl) (fun hc => ?_) (fun hc => ?_) <;> simp at hc <;> (try subst_vars)))
              all_goals first | (simp; done) | (simp at *; omega) | (simp[hck, hft]; refine Imp.auto (by kernel_rfl) ?_ ?_ <;> simp [nmap, lkp, mkPl, prs, prsL, prT, ddL, idL, NLe, CRenL, CRen, Ren, RenL, NObj.none, hck, hft])
            · by_cases h4 : 1000000 < now
              · unfold m7
                repeat' with_reducible (first
                  | refine Wm_seq ?_
                  | refine Wm_skip ?_
                  | refine Wm_ret ?_
                  | refine Wm_block ?_
                  | refine Wm_exit ?_
                  | refine thenK_normal ?_
                  | refine thenK_ret ?_
                  | refine thenK_exit ?_
                  | refine blockK_normal ?_
                  | refine blockK_ret ?_
                  | refine blockK_here ?_
                  | refine loopK_ret ?_
                  | refine loopK_exit ?_
                  | refine unK_ret ?_
                  | refine unK_exit ?_
                  | refine unK_normal ?_
                  | refine loopOk_succ ?_
                  | refine blockK_exit (by decide) ?_
                  | (refine wreg (mos := q7_0) hE [1, 3, 4, 5, 7] (by kernel_rfl) ?_; intro K hK; simp [q7_0, hck, hft, h1, h2, h3, h4, d14, d26, d27, d28, d29, d15, d16, d17, d30, d31]; (repeat' (first | refine hK _ _ ?_ | refine And.intro ?_ ?_ | intro hc)) <;> (try clear hK K) <;> (try subst_vars))
                  | (refine wreg (mos := q7_1) hE [1, 3, 4, 5, 7, 11, 12] (by kernel_rfl) ?_; intro K hK; simp [q7_1, hck, hft, h1, h2, h3, h4, d14, d26, d27, d28, d29, d15, d16, d17, d30, d31]; (repeat' (first | refine hK _ _ ?_ | refine And.intro ?_ ?_ | intro hc)) <;> (try clear hK K) <;> (try subst_vars))
                  | (refine wreg (mos := q7_2) hE [1, 3, 4, 5, 7, 11, 12, 43] (by kernel_rfl) ?_; intro K hK; simp [q7_2, hck, hft, h1, h2, h3, h4, d14, d26, d27, d28, d29, d15, d16, d17, d30, d31]; (repeat' (first | refine hK _ _ ?_ | refine And.intro ?_ ?_ | intro hc)) <;> (try clear hK K) <;> (try subst_vars))
                  | (refine wdraw (mos := q7_3) hE mixT c7_3 [10] (by kernel_rfl) ?_; intro K hK; simp [q7_3, c7_3, hck, hft, h1, h2, h3, h4, d14, d26, d27, d28, d29, d15, d16, d17, d30, d31]; (repeat' (first | refine hK _ _ ?_ | refine And.intro ?_ ?_ | intro hc)) <;> (try clear hK K) <;> (try subst_vars))
                  | (refine wreg (mos := q7_4) hE [3, 4, 5, 7, 11, 13, 14] (by kernel_rfl) ?_; intro K hK; simp [q7_4, hck, hft, h1, h2, h3, h4, d14, d26, d27, d28, d29, d15, d16, d17, d30, d31]; (repeat' (first | refine hK _ _ ?_ | refine And.intro ?_ ?_ | intro hc)) <;> (try clear hK K) <;> (try subst_vars))
                  | (refine wreg (mos := q7_5) hE [3, 4, 5, 7, 11, 13, 14, 58] (by kernel_rfl) ?_; intro K hK; simp [q7_5, hck, hft, h1, h2, h3, h4, d14, d26, d27, d28, d29, d15, d16, d17, d30, d31]; (repeat' (first | refine hK _ _ ?_ | refine And.intro ?_ ?_ | intro hc)) <;> (try clear hK K) <;> (try subst_vars))
                  | (refine wreg (mos := q7_6) hE [3, 4, 5, 7, 11, 13, 14, 58, 59] (by kernel_rfl) ?_; intro K hK; simp [q7_6, hck, hft, h1, h2, h3, h4, d14, d26, d27, d28, d29, d15, d16, d17, d30, d31]; (repeat' (first | refine hK _ _ ?_ | refine And.intro ?_ ?_ | intro hc)) <;> (try clear hK K) <;> (try subst_vars))
                  | (refine wdraw (mos := q7_7) hE mixT c7_7 [3, 4, 5, 7, 11, 13, 14, 58, 73] (by kernel_rfl) ?_; intro K hK; simp [q7_7, c7_7, hck, hft, h1, h2, h3, h4, d14, d26, d27, d28, d29, d15, d16, d17, d30, d31]; (repeat' (first | refine hK _ _ ?_ | refine And.intro ?_ ?_ | intro hc)) <;> (try clear hK K) <;> (try subst_vars))
                  | (refine wreg (mos := q7_8) hE [10] (by kernel_rfl) ?_; intro K hK; simp [q7_8, hck, hft, h1, h2, h3, h4, d14, d26, d27, d28, d29, d15, d16, d17, d30, d31]; (repeat' (first | refine hK _ _ ?_ | refine And.intro ?_ ?_ | intro hc)) <;> (try clear hK K) <;> (try subst_vars))
                  | (refine wreg (mos := q7_9) hE [3, 4, 5, 7, 11, 13, 14, 58] (by kernel_rfl) ?_; intro K hK; simp [q7_9, hck, hft, h1, h2, h3, h4, d14, d26, d27, d28, d29, d15, d16, d17, d30, d31]; (repeat' (first | refine hK _ _ ?_ | refine And.intro ?_ ?_ | intro hc)) <;> (try clear hK K) <;> (try subst_vars))
                  | (refine wreg (mos := q7_10) hE [10] (by kernel_rfl) ?_; intro K hK; simp [q7_10, hck, hft, h1, h2, h3, h4, d14, d26, d27, d28, d29, d15, d16, d17, d30, d31]; (repeat' (first | refine hK _ _ ?_ | refine And.intro ?_ ?_ | intro hc)) <;> (try clear hK K) <;> (try subst_vars))
                  | (refine Wm_cond (b := _) (by with_unfolding_all rfl) (fun hc => ?_) (fun hc => ?_) <;> simp at hc <;> (try subst_vars)))
                all_goals first | (simp; done) | (simp at *; omega) | (simp[hck, hft]; refine Imp.auto (by kernel_rfl) ?_ ?_ <;> simp [nmap, lkp, mkPl, prs, prsL, prT, ddL, idL, NLe, CRenL, CRen, Ren, RenL, NObj.none, hck, hft])
              · have h1' : 0 ≤ id := by omega
                have h2' : id ≤ 1048576 := by omega
                have h3' : 0 ≤ now := by omega
                have h4' : now ≤ 1000000 := by omega
                unfold m7
                repeat' with_reducible (first
                  | refine Wm_seq ?_
                  | refine Wm_skip ?_
                  | refine Wm_ret ?_
                  | refine Wm_block ?_
                  | refine Wm_exit ?_
                  | refine thenK_normal ?_
                  | refine thenK_ret ?_
                  | refine thenK_exit ?_
                  | refine blockK_normal ?_
                  | refine blockK_ret ?_
                  | refine blockK_here ?_
                  | refine loopK_ret ?_
                  | refine loopK_exit ?_
                  | refine unK_ret ?_
                  | refine unK_exit ?_
                  | refine unK_normal ?_
                  | refine loopOk_succ ?_
                  | refine blockK_exit (by decide) ?_
                  | (refine wreg (mos := q7_0) hE [1, 3, 4, 5, 7] (by kernel_rfl) ?_; intro K hK; simp [q7_0, hck, hft, h1, h2, h3, h4, h1', h2', h3', h4', d14, d26, d27, d28, d29, d15, d16, d17, d30, d31]; (repeat' (first | refine hK _ _ ?_ | refine And.intro ?_ ?_ | intro hc)) <;> (try clear hK K) <;> (try subst_vars))
                  | (refine wreg (mos := q7_1) hE [1, 3, 4, 5, 7, 11, 12] (by kernel_rfl) ?_; intro K hK; simp [q7_1, hck, hft, h1, h2, h3, h4, h1', h2', h3', h4', d14, d26, d27, d28, d29, d15, d16, d17, d30, d31]; (repeat' (first | refine hK _ _ ?_ | refine And.intro ?_ ?_ | intro hc)) <;> (try clear hK K) <;> (try subst_vars))
                  | (refine wreg (mos := q7_2) hE [1, 3, 4, 5, 7, 11, 12, 43] (by kernel_rfl) ?_; intro K hK; simp [q7_2, hck, hft, h1, h2, h3, h4, h1', h2', h3', h4', d14, d26, d27, d28, d29, d15, d16, d17, d30, d31]; (repeat' (first | refine hK _ _ ?_ | refine And.intro ?_ ?_ | intro hc)) <;> (try clear hK K) <;> (try subst_vars))
                  | (refine wdraw (mos := q7_3) hE mixT c7_3 [10] (by kernel_rfl) ?_; intro K hK; simp [q7_3, c7_3, hck, hft, h1, h2, h3, h4, h1', h2', h3', h4', d14, d26, d27, d28, d29, d15, d16, d17, d30, d31]; (repeat' (first | refine hK _ _ ?_ | refine And.intro ?_ ?_ | intro hc)) <;> (try clear hK K) <;> (try subst_vars))
                  | (refine wreg (mos := q7_4) hE [3, 4, 5, 7, 11, 13, 14] (by kernel_rfl) ?_; intro K hK; simp [q7_4, hck, hft, h1, h2, h3, h4, h1', h2', h3', h4', d14, d26, d27, d28, d29, d15, d16, d17, d30, d31]; (repeat' (first | refine hK _ _ ?_ | refine And.intro ?_ ?_ | intro hc)) <;> (try clear hK K) <;> (try subst_vars))
                  | (refine wreg (mos := q7_5) hE [3, 4, 5, 7, 11, 13, 14, 58] (by kernel_rfl) ?_; intro K hK; simp [q7_5, hck, hft, h1, h2, h3, h4, h1', h2', h3', h4', d14, d26, d27, d28, d29, d15, d16, d17, d30, d31]; (repeat' (first | refine hK _ _ ?_ | refine And.intro ?_ ?_ | intro hc)) <;> (try clear hK K) <;> (try subst_vars))
                  | (refine wreg (mos := q7_6) hE [3, 4, 5, 7, 11, 13, 14, 58, 59] (by kernel_rfl) ?_; intro K hK; simp [q7_6, hck, hft, h1, h2, h3, h4, h1', h2', h3', h4', d14, d26, d27, d28, d29, d15, d16, d17, d30, d31]; (repeat' (first | refine hK _ _ ?_ | refine And.intro ?_ ?_ | intro hc)) <;> (try clear hK K) <;> (try subst_vars))
                  | (refine wdraw (mos := q7_7) hE mixT c7_7 [3, 4, 5, 7, 11, 13, 14, 58, 73] (by kernel_rfl) ?_; intro K hK; simp [q7_7, c7_7, hck, hft, h1, h2, h3, h4, h1', h2', h3', h4', d14, d26, d27, d28, d29, d15, d16, d17, d30, d31]; (repeat' (first | refine hK _ _ ?_ | refine And.intro ?_ ?_ | intro hc)) <;> (try clear hK K) <;> (try subst_vars))
                  | (refine wreg (mos := q7_8) hE [10] (by kernel_rfl) ?_; intro K hK; simp [q7_8, hck, hft, h1, h2, h3, h4, h1', h2', h3', h4', d14, d26, d27, d28, d29, d15, d16, d17, d30, d31]; (repeat' (first | refine hK _ _ ?_ | refine And.intro ?_ ?_ | intro hc)) <;> (try clear hK K) <;> (try subst_vars))
                  | (refine wreg (mos := q7_9) hE [3, 4, 5, 7, 11, 13, 14, 58] (by kernel_rfl) ?_; intro K hK; simp [q7_9, hck, hft, h1, h2, h3, h4, h1', h2', h3', h4', d14, d26, d27, d28, d29, d15, d16, d17, d30, d31]; (repeat' (first | refine hK _ _ ?_ | refine And.intro ?_ ?_ | intro hc)) <;> (try clear hK K) <;> (try subst_vars))
                  | (refine wreg (mos := q7_10) hE [10] (by kernel_rfl) ?_; intro K hK; simp [q7_10, hck, hft, h1, h2, h3, h4, h1', h2', h3', h4', d14, d26, d27, d28, d29, d15, d16, d17, d30, d31]; (repeat' (first | refine hK _ _ ?_ | refine And.intro ?_ ?_ | intro hc)) <;> (try clear hK K) <;> (try subst_vars))
                  | (refine Wm_cond (b := _) (by with_unfolding_all rfl) (fun hc => ?_) (fun hc => ?_) <;> simp at hc <;> (try subst_vars)))
                all_goals refine Wm_unroll 6 ?_
                repeat' with_reducible (first
                  | refine Wm_seq ?_
                  | refine Wm_skip ?_
                  | refine Wm_ret ?_
                  | refine Wm_block ?_
                  | refine Wm_exit ?_
                  | refine thenK_normal ?_
                  | refine thenK_ret ?_
                  | refine thenK_exit ?_
                  | refine blockK_normal ?_
                  | refine blockK_ret ?_
                  | refine blockK_here ?_
                  | refine loopK_ret ?_
                  | refine loopK_exit ?_
                  | refine unK_ret ?_
                  | refine unK_exit ?_
                  | refine unK_normal ?_
                  | refine loopOk_succ ?_
                  | refine blockK_exit (by decide) ?_
                  | (refine wreg (mos := q7_0) hE [1, 3, 4, 5, 7] (by kernel_rfl) ?_; intro K hK; simp [q7_0, hck, hft, h1', h2', h3', h4', wrap_in, d14, d26, d27, d28, d29, d15, d16, d17, d30, d31]; (repeat' (first | refine hK _ _ ?_ | refine And.intro ?_ ?_ | intro hc)) <;> (try clear hK K) <;> (try subst_vars))
                  | (refine wreg (mos := q7_1) hE [1, 3, 4, 5, 7, 11, 12] (by kernel_rfl) ?_; intro K hK; simp [q7_1, hck, hft, h1', h2', h3', h4', wrap_in, d14, d26, d27, d28, d29, d15, d16, d17, d30, d31]; (repeat' (first | refine hK _ _ ?_ | refine And.intro ?_ ?_ | intro hc)) <;> (try clear hK K) <;> (try subst_vars))
                  | (refine wreg (mos := q7_2) hE [1, 3, 4, 5, 7, 11, 12, 43] (by kernel_rfl) ?_; intro K hK; simp [q7_2, hck, hft, h1', h2', h3', h4', wrap_in, d14, d26, d27, d28, d29, d15, d16, d17, d30, d31]; (repeat' (first | refine hK _ _ ?_ | refine And.intro ?_ ?_ | intro hc)) <;> (try clear hK K) <;> (try subst_vars))
                  | (refine wdraw (mos := q7_3) hE mixT c7_3 [10] (by kernel_rfl) ?_; intro K hK; simp [q7_3, c7_3, hck, hft, h1', h2', h3', h4', wrap_in, d14, d26, d27, d28, d29, d15, d16, d17, d30, d31]; (repeat' (first | refine hK _ _ ?_ | refine And.intro ?_ ?_ | intro hc)) <;> (try clear hK K) <;> (try subst_vars))
                  | (refine wreg (mos := q7_4) hE [3, 4, 5, 7, 11, 13, 14] (by kernel_rfl) ?_; intro K hK; simp [q7_4, hck, hft, h1', h2', h3', h4', wrap_in, d14, d26, d27, d28, d29, d15, d16, d17, d30, d31]; (repeat' (first | refine hK _ _ ?_ | refine And.intro ?_ ?_ | intro hc)) <;> (try clear hK K) <;> (try subst_vars))
                  | (refine wreg (mos := q7_5) hE [3, 4, 5, 7, 11, 13, 14, 58] (by kernel_rfl) ?_; intro K hK; simp [q7_5, hck, hft, h1', h2', h3', h4', wrap_in, d14, d26, d27, d28, d29, d15, d16, d17, d30, d31]; (repeat' (first | refine hK _ _ ?_ | refine And.intro ?_ ?_ | intro hc)) <;> (try clear hK K) <;> (try subst_vars))
                  | (refine wreg (mos := q7_6) hE [3, 4, 5, 7, 11, 13, 14, 58, 59] (by kernel_rfl) ?_; intro K hK; simp [q7_6, hck, hft, h1', h2', h3', h4', wrap_in, d14, d26, d27, d28, d29, d15, d16, d17, d30, d31]; (repeat' (first | refine hK _ _ ?_ | refine And.intro ?_ ?_ | intro hc)) <;> (try clear hK K) <;> (try subst_vars))
                  | (refine wdraw (mos := q7_7) hE mixT c7_7 [3, 4, 5, 7, 11, 13, 14, 58, 73] (by kernel_rfl) ?_; intro K hK; simp [q7_7, c7_7, hck, hft, h1', h2', h3', h4', wrap_in, d14, d26, d27, d28, d29, d15, d16, d17, d30, d31]; (repeat' (first | refine hK _ _ ?_ | refine And.intro ?_ ?_ | intro hc)) <;> (try clear hK K) <;> (try subst_vars))
                  | (refine wreg (mos := q7_8) hE [10] (by kernel_rfl) ?_; intro K hK; simp [q7_8, hck, hft, h1', h2', h3', h4', wrap_in, d14, d26, d27, d28, d29, d15, d16, d17, d30, d31]; (repeat' (first | refine hK _ _ ?_ | refine And.intro ?_ ?_ | intro hc)) <;> (try clear hK K) <;> (try subst_vars))
                  | (refine wreg (mos := q7_9) hE [3, 4, 5, 7, 11, 13, 14, 58] (by kernel_rfl) ?_; intro K hK; simp [q7_9, hck, hft, h1', h2', h3', h4', wrap_in, d14, d26, d27, d28, d29, d15, d16, d17, d30, d31]; (repeat' (first | refine hK _ _ ?_ | refine And.intro ?_ ?_ | intro hc)) <;> (try clear hK K) <;> (try subst_vars))
                  | (refine wreg (mos := q7_10) hE [10] (by kernel_rfl) ?_; intro K hK; simp [q7_10, hck, hft, h1', h2', h3', h4', wrap_in, d14, d26, d27, d28, d29, d15, d16, d17, d30, d31]; (repeat' (first | refine hK _ _ ?_ | refine And.intro ?_ ?_ | intro hc)) <;> (try clear hK K) <;> (try subst_vars))
                  | (refine Wm_cond (b := _) (by with_unfolding_all rfl) (fun hc => ?_) (fun hc => ?_) <;> simp at hc <;> (try subst_vars)))
                all_goals first | (simp; done) | (simp at *; omega) | (simp[hck, hft]; refine Imp.auto (by kernel_rfl) ?_ ?_ <;> simp [nmap, lkp, mkPl, prs, prsL, prT, ddL, idL, NLe, CRenL, CRen, Ren, RenL, NObj.none, hck, hft])
      · have hft' : fitsB ma mt md ms mp mw = false := by simpa using hft
        unfold m7
        repeat' with_reducible (first
          | refine Wm_seq ?_
          | refine Wm_skip ?_
          | refine Wm_ret ?_
          | refine Wm_block ?_
          | refine Wm_exit ?_
          | refine thenK_normal ?_
          | refine thenK_ret ?_
          | refine thenK_exit ?_
          | refine blockK_normal ?_
          | refine blockK_ret ?_
          | refine blockK_here ?_
          | refine loopK_ret ?_
          | refine loopK_exit ?_
          | refine unK_ret ?_
          | refine unK_exit ?_
          | refine unK_normal ?_
          | refine loopOk_succ ?_
          | refine blockK_exit (by decide) ?_
          | (refine wreg (mos := q7_0) hE [1, 3, 4, 5, 7] (by kernel_rfl) ?_; intro K hK; simp [q7_0, hck, hft', d14, d26, d27, d28, d29, d15, d16, d17, d30, d31]; (repeat' (first | refine hK _ _ ?_ | refine And.intro ?_ ?_ | intro hc)) <;> (try clear hK K) <;> (try subst_vars))
          | (refine wreg (mos := q7_1) hE [1, 3, 4, 5, 7, 11, 12] (by kernel_rfl) ?_; intro K hK; simp [q7_1, hck, hft', d14, d26, d27, d28, d29, d15, d16, d17, d30, d31]; (repeat' (first | refine hK _ _ ?_ | refine And.intro ?_ ?_ | intro hc)) <;> (try clear hK K) <;> (try subst_vars))
          | (refine wreg (mos := q7_2) hE [1, 3, 4, 5, 7, 11, 12, 43] (by kernel_rfl) ?_; intro K hK; simp [q7_2, hck, hft', d14, d26, d27, d28, d29, d15, d16, d17, d30, d31]; (repeat' (first | refine hK _ _ ?_ | refine And.intro ?_ ?_ | intro hc)) <;> (try clear hK K) <;> (try subst_vars))
          | (refine wdraw (mos := q7_3) hE mixT c7_3 [10] (by kernel_rfl) ?_; intro K hK; simp [q7_3, c7_3, hck, hft', d14, d26, d27, d28, d29, d15, d16, d17, d30, d31]; (repeat' (first | refine hK _ _ ?_ | refine And.intro ?_ ?_ | intro hc)) <;> (try clear hK K) <;> (try subst_vars))
          | (refine wreg (mos := q7_4) hE [3, 4, 5, 7, 11, 13, 14] (by kernel_rfl) ?_; intro K hK; simp [q7_4, hck, hft', d14, d26, d27, d28, d29, d15, d16, d17, d30, d31]; (repeat' (first | refine hK _ _ ?_ | refine And.intro ?_ ?_ | intro hc)) <;> (try clear hK K) <;> (try subst_vars))
          | (refine wreg (mos := q7_5) hE [3, 4, 5, 7, 11, 13, 14, 58] (by kernel_rfl) ?_; intro K hK; simp [q7_5, hck, hft', d14, d26, d27, d28, d29, d15, d16, d17, d30, d31]; (repeat' (first | refine hK _ _ ?_ | refine And.intro ?_ ?_ | intro hc)) <;> (try clear hK K) <;> (try subst_vars))
          | (refine wreg (mos := q7_6) hE [3, 4, 5, 7, 11, 13, 14, 58, 59] (by kernel_rfl) ?_; intro K hK; simp [q7_6, hck, hft', d14, d26, d27, d28, d29, d15, d16, d17, d30, d31]; (repeat' (first | refine hK _ _ ?_ | refine And.intro ?_ ?_ | intro hc)) <;> (try clear hK K) <;> (try subst_vars))
          | (refine wdraw (mos := q7_7) hE mixT c7_7 [3, 4, 5, 7, 11, 13, 14, 58, 73] (by kernel_rfl) ?_; intro K hK; simp [q7_7, c7_7, hck, hft', d14, d26, d27, d28, d29, d15, d16, d17, d30, d31]; (repeat' (first | refine hK _ _ ?_ | refine And.intro ?_ ?_ | intro hc)) <;> (try clear hK K) <;> (try subst_vars))
          | (refine wreg (mos := q7_8) hE [10] (by kernel_rfl) ?_; intro K hK; simp [q7_8, hck, hft', d14, d26, d27, d28, d29, d15, d16, d17, d30, d31]; (repeat' (first | refine hK _ _ ?_ | refine And.intro ?_ ?_ | intro hc)) <;> (try clear hK K) <;> (try subst_vars))
          | (refine wreg (mos := q7_9) hE [3, 4, 5, 7, 11, 13, 14, 58] (by kernel_rfl) ?_; intro K hK; simp [q7_9, hck, hft', d14, d26, d27, d28, d29, d15, d16, d17, d30, d31]; (repeat' (first | refine hK _ _ ?_ | refine And.intro ?_ ?_ | intro hc)) <;> (try clear hK K) <;> (try subst_vars))
          | (refine wreg (mos := q7_10) hE [10] (by kernel_rfl) ?_; intro K hK; simp [q7_10, hck, hft', d14, d26, d27, d28, d29, d15, d16, d17, d30, d31]; (repeat' (first | refine hK _ _ ?_ | refine And.intro ?_ ?_ | intro hc)) <;> (try clear hK K) <;> (try subst_vars))
          | (refine Wm_cond (b := _) (by with_unfolding_all rfl) (fun hc => ?_) (fun hc => ?_) <;> simp at hc <;> (try subst_vars)))
        all_goals first | (simp; done) | (simp at *; omega) | (simp[hck, hft']; refine Imp.auto (by kernel_rfl) ?_ ?_ <;> simp [nmap, lkp, mkPl, prs, prsL, prT, ddL, idL, NLe, CRenL, CRen, Ren, RenL, NObj.none, hck, hft'])
    · have h0 : 0 ≤ checkZ a b c d e f g := by
        rcases check_neg (a := a) (b := b) (c := c) (d := d) (e := e) (f := f) (g := g) with h | h
        · exact absurd h hck
        · exact h
      have h0' : ¬ checkZ a b c d e f g < 0 := by omega
      unfold m7
      repeat' with_reducible (first
        | refine Wm_seq ?_
        | refine Wm_skip ?_
        | refine Wm_ret ?_
        | refine Wm_block ?_
        | refine Wm_exit ?_
        | refine thenK_normal ?_
        | refine thenK_ret ?_
        | refine thenK_exit ?_
        | refine blockK_normal ?_
        | refine blockK_ret ?_
        | refine blockK_here ?_
        | refine loopK_ret ?_
        | refine loopK_exit ?_
        | refine unK_ret ?_
        | refine unK_exit ?_
        | refine unK_normal ?_
        | refine loopOk_succ ?_
        | refine blockK_exit (by decide) ?_
        | (refine wreg (mos := q7_0) hE [1, 3, 4, 5, 7] (by kernel_rfl) ?_; intro K hK; simp [q7_0, hck, h0, h0', d14, d26, d27, d28, d29, d15, d16, d17, d30, d31]; (repeat' (first | refine hK _ _ ?_ | refine And.intro ?_ ?_ | intro hc)) <;> (try clear hK K) <;> (try subst_vars))
        | (refine wreg (mos := q7_1) hE [1, 3, 4, 5, 7, 11, 12] (by kernel_rfl) ?_; intro K hK; simp [q7_1, hck, h0, h0', d14, d26, d27, d28, d29, d15, d16, d17, d30, d31]; (repeat' (first | refine hK _ _ ?_ | refine And.intro ?_ ?_ | intro hc)) <;> (try clear hK K) <;> (try subst_vars))
        | (refine wreg (mos := q7_2) hE [1, 3, 4, 5, 7, 11, 12, 43] (by kernel_rfl) ?_; intro K hK; simp [q7_2, hck, h0, h0', d14, d26, d27, d28, d29, d15, d16, d17, d30, d31]; (repeat' (first | refine hK _ _ ?_ | refine And.intro ?_ ?_ | intro hc)) <;> (try clear hK K) <;> (try subst_vars))
        | (refine wdraw (mos := q7_3) hE mixT c7_3 [10] (by kernel_rfl) ?_; intro K hK; simp [q7_3, c7_3, hck, h0, h0', d14, d26, d27, d28, d29, d15, d16, d17, d30, d31]; (repeat' (first | refine hK _ _ ?_ | refine And.intro ?_ ?_ | intro hc)) <;> (try clear hK K) <;> (try subst_vars))
        | (refine wreg (mos := q7_4) hE [3, 4, 5, 7, 11, 13, 14] (by kernel_rfl) ?_; intro K hK; simp [q7_4, hck, h0, h0', d14, d26, d27, d28, d29, d15, d16, d17, d30, d31]; (repeat' (first | refine hK _ _ ?_ | refine And.intro ?_ ?_ | intro hc)) <;> (try clear hK K) <;> (try subst_vars))
        | (refine wreg (mos := q7_5) hE [3, 4, 5, 7, 11, 13, 14, 58] (by kernel_rfl) ?_; intro K hK; simp [q7_5, hck, h0, h0', d14, d26, d27, d28, d29, d15, d16, d17, d30, d31]; (repeat' (first | refine hK _ _ ?_ | refine And.intro ?_ ?_ | intro hc)) <;> (try clear hK K) <;> (try subst_vars))
        | (refine wreg (mos := q7_6) hE [3, 4, 5, 7, 11, 13, 14, 58, 59] (by kernel_rfl) ?_; intro K hK; simp [q7_6, hck, h0, h0', d14, d26, d27, d28, d29, d15, d16, d17, d30, d31]; (repeat' (first | refine hK _ _ ?_ | refine And.intro ?_ ?_ | intro hc)) <;> (try clear hK K) <;> (try subst_vars))
        | (refine wdraw (mos := q7_7) hE mixT c7_7 [3, 4, 5, 7, 11, 13, 14, 58, 73] (by kernel_rfl) ?_; intro K hK; simp [q7_7, c7_7, hck, h0, h0', d14, d26, d27, d28, d29, d15, d16, d17, d30, d31]; (repeat' (first | refine hK _ _ ?_ | refine And.intro ?_ ?_ | intro hc)) <;> (try clear hK K) <;> (try subst_vars))
        | (refine wreg (mos := q7_8) hE [10] (by kernel_rfl) ?_; intro K hK; simp [q7_8, hck, h0, h0', d14, d26, d27, d28, d29, d15, d16, d17, d30, d31]; (repeat' (first | refine hK _ _ ?_ | refine And.intro ?_ ?_ | intro hc)) <;> (try clear hK K) <;> (try subst_vars))
        | (refine wreg (mos := q7_9) hE [3, 4, 5, 7, 11, 13, 14, 58] (by kernel_rfl) ?_; intro K hK; simp [q7_9, hck, h0, h0', d14, d26, d27, d28, d29, d15, d16, d17, d30, d31]; (repeat' (first | refine hK _ _ ?_ | refine And.intro ?_ ?_ | intro hc)) <;> (try clear hK K) <;> (try subst_vars))
        | (refine wreg (mos := q7_10) hE [10] (by kernel_rfl) ?_; intro K hK; simp [q7_10, hck, h0, h0', d14, d26, d27, d28, d29, d15, d16, d17, d30, d31]; (repeat' (first | refine hK _ _ ?_ | refine And.intro ?_ ?_ | intro hc)) <;> (try clear hK K) <;> (try subst_vars))
        | (refine Wm_cond (b := _) (by with_unfolding_all rfl) (fun hc => ?_) (fun hc => ?_) <;> simp at hc <;> (try subst_vars)))
      all_goals first | (simp; done) | (simp at *; omega) | (simp[hck]; refine Imp.auto (by kernel_rfl) ?_ ?_ <;> simp [nmap, lkp, mkPl, prs, prsL, prT, ddL, idL, NLe, CRenL, CRen, Ren, RenL, NObj.none, hck])
  · cases h
end Go.W
