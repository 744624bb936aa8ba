import Derived.Test.YthehmmodkhoieaaWtE
namespace Go.W
open Go.Proofs
set_option linter.unusedSimpArgs false
set_option linter.unusedVariables false
set_option maxHeartbeats 8000000
attribute [local irreducible] Wm

def d30 : List AV → Option Ans
  | [.agg [.int .i64 a, .int .i64 b, .int .i64 c, .int .i64 d, .int .i64 e, .int .i64 f, .int .i64 g], .op _ [.int .u64 s], .agg [.int .i64 ma, .int .i64 mt, .int .i64 md, .int .i64 ms, .int .i64 mp, .int .i64 mw], .int .i64 id, .int .i64 now] => if checkZ a b c d e f g = -1 ∧ fitsB ma mt md ms mp mw = true ∧ 0 ≤ id ∧ id ≤ 1048576 ∧ 0 ≤ now ∧ now ≤ 1000000 then some ⟨.agg [.int .i64 (askV 0 b c mp mw id now s), .int .i64 (askV 1 b c mp mw id now s), .int .i64 (askV 2 b c mp mw id now s), .int .i64 (askV 3 b c mp mw id now s), .int .i64 (askV 4 b c mp mw id now s), .int .i64 (askV 5 b c mp mw id now s), .int .i64 (askV 6 b c mp mw id now s), .int .i64 (askV 7 b c mp mw id now s), .int .i64 (askV 8 b c mp mw id now s)], [.cells 0 [.int .u64 (askS s)]]⟩ else none
  | _ => none

theorem ok30 : NOk [(1, true)] d30 := by
  intro xs a h
  unfold d30 at h
  (repeat' (split at h)) <;> first | (cases h; done) | (injection h with h; subst h; refine ⟨Ends_of ?_, ?_⟩ <;> simp)
theorem s30 : Sound Try.prog 30 (nestS [(1, true)] d30 ok30) := by
  refine nest_sound Try.func30 nm30 rc30 rv30 ok30 (fun xs a h => ?_) fun xs a h w0 S hS => ?_
  · unfold d30 at h
    (repeat' (split at h)) <;> first | (cases h; done) | exact Nat.le_of_ble_eq_true rfl
  unfold d30 at h
  split at h
  · split at h
    · rename_i a b c d e f g t s ma mt md ms mp mw id now hcond
      injection h with h
      subst h
      have hE : SoundAll Try.prog (EL [(16, nestS [(1, true)] d16 ok16), (18, nestS [(1, true), (1, false)] d18 ok18)]) := EL_sound (by simp only [List.mem_cons, List.not_mem_nil, or_false, forall_eq_or_imp, forall_eq]; exact ⟨s16, s18⟩)
      obtain ⟨hck, hft, hid0, hid1, hnow0, hnow1⟩ := hcond
      obtain ⟨ca, cb, cc, cd, ce, cf, cg⟩ := check_in hck
      obtain ⟨fe, ff, fd, fa, fb, fc⟩ := fits_in hft
      have hb : b ≤ 9223372036854775807 := by omega
      have hc3 : c ≤ 9223372036854775807 := by omega
      have b2 := below_in (s := (nextS (nextS s))) (n := 9) (by omega)
      have b23 := below_in (s := (nextS (nextS s))) (n := 3) (by omega)
      have b5 := below_in (s := (nextS (nextS (nextS (nextS (nextS s)))))) (n := 2 * mw + 1) (by omega)
      have b6 := below_in (s := (nextS (nextS (nextS (nextS (nextS (nextS s))))))) (n := 1 + belowZ (nextS (nextS s)) 9) (by omega)
      have b7 := below_in (s := (nextS (nextS (nextS (nextS (nextS (nextS (nextS s)))))))) (n := 50) (by omega)
      have w1 : IntKind.wrap .i64 (1 + belowZ (nextS (nextS s)) 9) = 1 + belowZ (nextS (nextS s)) 9 := wrap_in (by omega) (by omega)
      have q1 : 1 + belowZ (nextS (nextS s)) 9 ≤ 9223372036854775807 := by omega
      have w2 : IntKind.wrap .i64 (2 * mw) = 2 * mw := wrap_in (by omega) (by omega)
      have w3 : IntKind.wrap .i64 (2 * mw + 1) = 2 * mw + 1 := wrap_in (by omega) (by omega)
      have q3 : 2 * mw + 1 ≤ 9223372036854775807 := by omega
      have w4 : IntKind.wrap .i64 (mp + belowZ (nextS (nextS (nextS (nextS (nextS s))))) (2 * mw + 1)) = mp + belowZ (nextS (nextS (nextS (nextS (nextS s))))) (2 * mw + 1) := wrap_in (by omega) (by omega)
      have w5 : IntKind.wrap .i64 (mp + belowZ (nextS (nextS (nextS (nextS (nextS s))))) (2 * mw + 1) - mw) = mp + belowZ (nextS (nextS (nextS (nextS (nextS s))))) (2 * mw + 1) - mw := wrap_in (by omega) (by omega)
      have w6 : IntKind.wrap .i64 (1 + belowZ (nextS (nextS (nextS (nextS (nextS (nextS s)))))) (1 + belowZ (nextS (nextS s)) 9)) = 1 + belowZ (nextS (nextS (nextS (nextS (nextS (nextS s)))))) (1 + belowZ (nextS (nextS s)) 9) := wrap_in (by omega) (by omega)
      have w7 : IntKind.wrap .i64 (now + 1) = now + 1 := wrap_in (by omega) (by omega)
      have w8 : IntKind.wrap .i64 (now + 1 + belowZ (nextS (nextS (nextS (nextS (nextS (nextS (nextS s))))))) 50) = now + 1 + belowZ (nextS (nextS (nextS (nextS (nextS (nextS (nextS s))))))) 50 := wrap_in (by omega) (by omega)
      have w9 : IntKind.wrap .i64 (id - 1) = id - 1 := wrap_in (by omega) (by omega)
      have w10 : IntKind.wrap .i64 (id - 1 - belowZ (nextS (nextS s)) 3) = id - 1 - belowZ (nextS (nextS s)) 3 := wrap_in (by omega) (by omega)
      have w11 : IntKind.wrap .i64 (id + 1) = id + 1 := wrap_in (by omega) (by omega)
      have hmw : ¬ mw < 0 := by omega
      rcases kindZ_in s with hkd | hkd | hkd | hkd
      · have hkp : pickZ s [1, 1, 1, 2, 3, 4] = 1 := hkd
        unfold m30
        repeat' with_reducible (first
          | refine Wm_seq ?_
          | refine Wm_skip ?_
          | refine Wm_ret ?_
          | refine Wm_block ?_
          | refine Wm_exit ?_
          | refine thenK_normal ?_
          | refine thenK_ret ?_
          | refine thenK_exit ?_
          | refine blockK_normal ?_
          | refine blockK_ret ?_
          | refine blockK_here ?_
          | refine loopK_ret ?_
          | refine loopK_exit ?_
          | refine unK_ret ?_
          | refine unK_exit ?_
          | refine unK_normal ?_
          | refine loopOk_succ ?_
          | refine blockK_exit (by decide) ?_
          | (refine wreg (mos := q30_0) hE [1, 3, 4, 5, 7, 10] (by kernel_rfl) ?_; intro K hK; simp [q30_0, hb, hc3, w1, q1, w2, w3, q3, w4, w5, w6, w7, w8, w9, w10, w11, hmw, ints, hkp, d16, d18]; (repeat' (first | refine hK _ _ ?_ | refine And.intro ?_ ?_ | intro hc)) <;> (try clear hK K) <;> (try subst_vars))
          | (refine wdraw (mos := q30_1) hE mixT c30_1 [1, 3, 4, 5, 7, 10, 11] (by kernel_rfl) ?_; intro K hK; simp [q30_1, c30_1, hb, hc3, w1, q1, w2, w3, q3, w4, w5, w6, w7, w8, w9, w10, w11, hmw, ints, hkp, d16, d18]; (repeat' (first | refine hK _ _ ?_ | refine And.intro ?_ ?_ | intro hc)) <;> (try clear hK K) <;> (try subst_vars))
          | (refine wreg (mos := q30_2) hE [1, 3, 4, 5, 7, 10, 11, 22] (by kernel_rfl) ?_; intro K hK; simp [q30_2, hb, hc3, w1, q1, w2, w3, q3, w4, w5, w6, w7, w8, w9, w10, w11, hmw, ints, hkp, d16, d18]; (repeat' (first | refine hK _ _ ?_ | refine And.intro ?_ ?_ | intro hc)) <;> (try clear hK K) <;> (try subst_vars))
          | (refine wreg (mos := q30_3) hE [1, 3, 4, 5, 7, 10, 11, 22, 23] (by kernel_rfl) ?_; intro K hK; simp [q30_3, hb, hc3, w1, q1, w2, w3, q3, w4, w5, w6, w7, w8, w9, w10, w11, hmw, ints, hkp, d16, d18]; (repeat' (first | refine hK _ _ ?_ | refine And.intro ?_ ?_ | intro hc)) <;> (try clear hK K) <;> (try subst_vars))
          | (refine wreg (mos := q30_4) hE [1, 4, 5, 7, 10, 11] (by kernel_rfl) ?_; intro K hK; simp [q30_4, hb, hc3, w1, q1, w2, w3, q3, w4, w5, w6, w7, w8, w9, w10, w11, hmw, ints, hkp, d16, d18]; (repeat' (first | refine hK _ _ ?_ | refine And.intro ?_ ?_ | intro hc)) <;> (try clear hK K) <;> (try subst_vars))
          | (refine wreg (mos := q30_5) hE [1, 4, 5, 7, 10, 11] (by kernel_rfl) ?_; intro K hK; simp [q30_5, hb, hc3, w1, q1, w2, w3, q3, w4, w5, w6, w7, w8, w9, w10, w11, hmw, ints, hkp, d16, d18]; (repeat' (first | refine hK _ _ ?_ | refine And.intro ?_ ?_ | intro hc)) <;> (try clear hK K) <;> (try subst_vars))
          | (refine wdraw (mos := q30_6) hE mixT c30_6 [10, 11] (by kernel_rfl) ?_; intro K hK; simp [q30_6, c30_6, hb, hc3, w1, q1, w2, w3, q3, w4, w5, w6, w7, w8, w9, w10, w11, hmw, ints, hkp, d16, d18]; (repeat' (first | refine hK _ _ ?_ | refine And.intro ?_ ?_ | intro hc)) <;> (try clear hK K) <;> (try subst_vars))
          | (refine wreg (mos := q30_7) hE [1, 3, 10, 11, 66] (by kernel_rfl) ?_; intro K hK; simp [q30_7, hb, hc3, w1, q1, w2, w3, q3, w4, w5, w6, w7, w8, w9, w10, w11, hmw, ints, hkp, d16, d18]; (repeat' (first | refine hK _ _ ?_ | refine And.intro ?_ ?_ | intro hc)) <;> (try clear hK K) <;> (try subst_vars))
          | (refine wreg (mos := q30_8) hE [10, 11] (by kernel_rfl) ?_; intro K hK; simp [q30_8, hb, hc3, w1, q1, w2, w3, q3, w4, w5, w6, w7, w8, w9, w10, w11, hmw, ints, hkp, d16, d18]; (repeat' (first | refine hK _ _ ?_ | refine And.intro ?_ ?_ | intro hc)) <;> (try clear hK K) <;> (try subst_vars))
          | (refine wreg (mos := q30_9) hE [10] (by kernel_rfl) ?_; intro K hK; simp [q30_9, hb, hc3, w1, q1, w2, w3, q3, w4, w5, w6, w7, w8, w9, w10, w11, hmw, ints, hkp, d16, d18]; (repeat' (first | refine hK _ _ ?_ | refine And.intro ?_ ?_ | intro hc)) <;> (try clear hK K) <;> (try subst_vars))
          | (refine Wm_cond (b := _) (by with_unfolding_all rfl) (fun hc => ?_) (fun hc => ?_) <;> simp at hc <;> (try subst_vars)))
        all_goals first | (simp; done) | (simp [askV, askS, hkd]; refine Imp.auto (by kernel_rfl) ?_ ?_ <;> simp [nmap, lkp, mkPl, prs, prsL, prT, ddL, idL, NLe, CRenL, CRen, Ren, RenL, NObj.none, askV, askS, hkd] <;> (try unfold holdZ) <;> (try grind))
      · have hkp : pickZ s [1, 1, 1, 2, 3, 4] = 2 := hkd
        unfold m30
        repeat' with_reducible (first
          | refine Wm_seq ?_
          | refine Wm_skip ?_
          | refine Wm_ret ?_
          | refine Wm_block ?_
          | refine Wm_exit ?_
          | refine thenK_normal ?_
          | refine thenK_ret ?_
          | refine thenK_exit ?_
          | refine blockK_normal ?_
          | refine blockK_ret ?_
          | refine blockK_here ?_
          | refine loopK_ret ?_
          | refine loopK_exit ?_
          | refine unK_ret ?_
          | refine unK_exit ?_
          | refine unK_normal ?_
          | refine loopOk_succ ?_
          | refine blockK_exit (by decide) ?_
          | (refine wreg (mos := q30_0) hE [1, 3, 4, 5, 7, 10] (by kernel_rfl) ?_; intro K hK; simp [q30_0, hb, hc3, w1, q1, w2, w3, q3, w4, w5, w6, w7, w8, w9, w10, w11, hmw, ints, hkp, d16, d18]; (repeat' (first | refine hK _ _ ?_ | refine And.intro ?_ ?_ | intro hc)) <;> (try clear hK K) <;> (try subst_vars))
          | (refine wdraw (mos := q30_1) hE mixT c30_1 [1, 3, 4, 5, 7, 10, 11] (by kernel_rfl) ?_; intro K hK; simp [q30_1, c30_1, hb, hc3, w1, q1, w2, w3, q3, w4, w5, w6, w7, w8, w9, w10, w11, hmw, ints, hkp, d16, d18]; (repeat' (first | refine hK _ _ ?_ | refine And.intro ?_ ?_ | intro hc)) <;> (try clear hK K) <;> (try subst_vars))
          | (refine wreg (mos := q30_2) hE [1, 3, 4, 5, 7, 10, 11, 22] (by kernel_rfl) ?_; intro K hK; simp [q30_2, hb, hc3, w1, q1, w2, w3, q3, w4, w5, w6, w7, w8, w9, w10, w11, hmw, ints, hkp, d16, d18]; (repeat' (first | refine hK _ _ ?_ | refine And.intro ?_ ?_ | intro hc)) <;> (try clear hK K) <;> (try subst_vars))
          | (refine wreg (mos := q30_3) hE [1, 3, 4, 5, 7, 10, 11, 22, 23] (by kernel_rfl) ?_; intro K hK; simp [q30_3, hb, hc3, w1, q1, w2, w3, q3, w4, w5, w6, w7, w8, w9, w10, w11, hmw, ints, hkp, d16, d18]; (repeat' (first | refine hK _ _ ?_ | refine And.intro ?_ ?_ | intro hc)) <;> (try clear hK K) <;> (try subst_vars))
          | (refine wreg (mos := q30_4) hE [1, 4, 5, 7, 10, 11] (by kernel_rfl) ?_; intro K hK; simp [q30_4, hb, hc3, w1, q1, w2, w3, q3, w4, w5, w6, w7, w8, w9, w10, w11, hmw, ints, hkp, d16, d18]; (repeat' (first | refine hK _ _ ?_ | refine And.intro ?_ ?_ | intro hc)) <;> (try clear hK K) <;> (try subst_vars))
          | (refine wreg (mos := q30_5) hE [1, 4, 5, 7, 10, 11] (by kernel_rfl) ?_; intro K hK; simp [q30_5, hb, hc3, w1, q1, w2, w3, q3, w4, w5, w6, w7, w8, w9, w10, w11, hmw, ints, hkp, d16, d18]; (repeat' (first | refine hK _ _ ?_ | refine And.intro ?_ ?_ | intro hc)) <;> (try clear hK K) <;> (try subst_vars))
          | (refine wdraw (mos := q30_6) hE mixT c30_6 [10, 11] (by kernel_rfl) ?_; intro K hK; simp [q30_6, c30_6, hb, hc3, w1, q1, w2, w3, q3, w4, w5, w6, w7, w8, w9, w10, w11, hmw, ints, hkp, d16, d18]; (repeat' (first | refine hK _ _ ?_ | refine And.intro ?_ ?_ | intro hc)) <;> (try clear hK K) <;> (try subst_vars))
          | (refine wreg (mos := q30_7) hE [1, 3, 10, 11, 66] (by kernel_rfl) ?_; intro K hK; simp [q30_7, hb, hc3, w1, q1, w2, w3, q3, w4, w5, w6, w7, w8, w9, w10, w11, hmw, ints, hkp, d16, d18]; (repeat' (first | refine hK _ _ ?_ | refine And.intro ?_ ?_ | intro hc)) <;> (try clear hK K) <;> (try subst_vars))
          | (refine wreg (mos := q30_8) hE [10, 11] (by kernel_rfl) ?_; intro K hK; simp [q30_8, hb, hc3, w1, q1, w2, w3, q3, w4, w5, w6, w7, w8, w9, w10, w11, hmw, ints, hkp, d16, d18]; (repeat' (first | refine hK _ _ ?_ | refine And.intro ?_ ?_ | intro hc)) <;> (try clear hK K) <;> (try subst_vars))
          | (refine wreg (mos := q30_9) hE [10] (by kernel_rfl) ?_; intro K hK; simp [q30_9, hb, hc3, w1, q1, w2, w3, q3, w4, w5, w6, w7, w8, w9, w10, w11, hmw, ints, hkp, d16, d18]; (repeat' (first | refine hK _ _ ?_ | refine And.intro ?_ ?_ | intro hc)) <;> (try clear hK K) <;> (try subst_vars))
          | (refine Wm_cond (b := _) (by with_unfolding_all rfl) (fun hc => ?_) (fun hc => ?_) <;> simp at hc <;> (try subst_vars)))
        all_goals first | (simp; done) | (simp [askV, askS, hkd]; refine Imp.auto (by kernel_rfl) ?_ ?_ <;> simp [nmap, lkp, mkPl, prs, prsL, prT, ddL, idL, NLe, CRenL, CRen, Ren, RenL, NObj.none, askV, askS, hkd] <;> (try unfold holdZ) <;> (try grind))
      · have hkp : pickZ s [1, 1, 1, 2, 3, 4] = 3 := hkd
        unfold m30
        repeat' with_reducible (first
          | refine Wm_seq ?_
          | refine Wm_skip ?_
          | refine Wm_ret ?_
          | refine Wm_block ?_
          | refine Wm_exit ?_
          | refine thenK_normal ?_
          | refine thenK_ret ?_
          | refine thenK_exit ?_
          | refine blockK_normal ?_
          | refine blockK_ret ?_
          | refine blockK_here ?_
          | refine loopK_ret ?_
          | refine loopK_exit ?_
          | refine unK_ret ?_
          | refine unK_exit ?_
          | refine unK_normal ?_
          | refine loopOk_succ ?_
          | refine blockK_exit (by decide) ?_
          | (refine wreg (mos := q30_0) hE [1, 3, 4, 5, 7, 10] (by kernel_rfl) ?_; intro K hK; simp [q30_0, hb, hc3, w1, q1, w2, w3, q3, w4, w5, w6, w7, w8, w9, w10, w11, hmw, ints, hkp, d16, d18]; (repeat' (first | refine hK _ _ ?_ | refine And.intro ?_ ?_ | intro hc)) <;> (try clear hK K) <;> (try subst_vars))
          | (refine wdraw (mos := q30_1) hE mixT c30_1 [1, 3, 4, 5, 7, 10, 11] (by kernel_rfl) ?_; intro K hK; simp [q30_1, c30_1, hb, hc3, w1, q1, w2, w3, q3, w4, w5, w6, w7, w8, w9, w10, w11, hmw, ints, hkp, d16, d18]; (repeat' (first | refine hK _ _ ?_ | refine And.intro ?_ ?_ | intro hc)) <;> (try clear hK K) <;> (try subst_vars))
          | (refine wreg (mos := q30_2) hE [1, 3, 4, 5, 7, 10, 11, 22] (by kernel_rfl) ?_; intro K hK; simp [q30_2, hb, hc3, w1, q1, w2, w3, q3, w4, w5, w6, w7, w8, w9, w10, w11, hmw, ints, hkp, d16, d18]; (repeat' (first | refine hK _ _ ?_ | refine And.intro ?_ ?_ | intro hc)) <;> (try clear hK K) <;> (try subst_vars))
          | (refine wreg (mos := q30_3) hE [1, 3, 4, 5, 7, 10, 11, 22, 23] (by kernel_rfl) ?_; intro K hK; simp [q30_3, hb, hc3, w1, q1, w2, w3, q3, w4, w5, w6, w7, w8, w9, w10, w11, hmw, ints, hkp, d16, d18]; (repeat' (first | refine hK _ _ ?_ | refine And.intro ?_ ?_ | intro hc)) <;> (try clear hK K) <;> (try subst_vars))
          | (refine wreg (mos := q30_4) hE [1, 4, 5, 7, 10, 11] (by kernel_rfl) ?_; intro K hK; simp [q30_4, hb, hc3, w1, q1, w2, w3, q3, w4, w5, w6, w7, w8, w9, w10, w11, hmw, ints, hkp, d16, d18]; (repeat' (first | refine hK _ _ ?_ | refine And.intro ?_ ?_ | intro hc)) <;> (try clear hK K) <;> (try subst_vars))
          | (refine wreg (mos := q30_5) hE [1, 4, 5, 7, 10, 11] (by kernel_rfl) ?_; intro K hK; simp [q30_5, hb, hc3, w1, q1, w2, w3, q3, w4, w5, w6, w7, w8, w9, w10, w11, hmw, ints, hkp, d16, d18]; (repeat' (first | refine hK _ _ ?_ | refine And.intro ?_ ?_ | intro hc)) <;> (try clear hK K) <;> (try subst_vars))
          | (refine wdraw (mos := q30_6) hE mixT c30_6 [10, 11] (by kernel_rfl) ?_; intro K hK; simp [q30_6, c30_6, hb, hc3, w1, q1, w2, w3, q3, w4, w5, w6, w7, w8, w9, w10, w11, hmw, ints, hkp, d16, d18]; (repeat' (first | refine hK _ _ ?_ | refine And.intro ?_ ?_ | intro hc)) <;> (try clear hK K) <;> (try subst_vars))
          | (refine wreg (mos := q30_7) hE [1, 3, 10, 11, 66] (by kernel_rfl) ?_; intro K hK; simp [q30_7, hb, hc3, w1, q1, w2, w3, q3, w4, w5, w6, w7, w8, w9, w10, w11, hmw, ints, hkp, d16, d18]; (repeat' (first | refine hK _ _ ?_ | refine And.intro ?_ ?_ | intro hc)) <;> (try clear hK K) <;> (try subst_vars))
          | (refine wreg (mos := q30_8) hE [10, 11] (by kernel_rfl) ?_; intro K hK; simp [q30_8, hb, hc3, w1, q1, w2, w3, q3, w4, w5, w6, w7, w8, w9, w10, w11, hmw, ints, hkp, d16, d18]; (repeat' (first | refine hK _ _ ?_ | refine And.intro ?_ ?_ | intro hc)) <;> (try clear hK K) <;> (try subst_vars))
          | (refine wreg (mos := q30_9) hE [10] (by kernel_rfl) ?_; intro K hK; simp [q30_9, hb, hc3, w1, q1, w2, w3, q3, w4, w5, w6, w7, w8, w9, w10, w11, hmw, ints, hkp, d16, d18]; (repeat' (first | refine hK _ _ ?_ | refine And.intro ?_ ?_ | intro hc)) <;> (try clear hK K) <;> (try subst_vars))
          | (refine Wm_cond (b := _) (by with_unfolding_all rfl) (fun hc => ?_) (fun hc => ?_) <;> simp at hc <;> (try subst_vars)))
        all_goals first | (simp; done) | (simp [askV, askS, hkd]; refine Imp.auto (by kernel_rfl) ?_ ?_ <;> simp [nmap, lkp, mkPl, prs, prsL, prT, ddL, idL, NLe, CRenL, CRen, Ren, RenL, NObj.none, askV, askS, hkd] <;> (try unfold holdZ) <;> (try grind))
      · have hkp : pickZ s [1, 1, 1, 2, 3, 4] = 4 := hkd
        unfold m30
        repeat' with_reducible (first
          | refine Wm_seq ?_
          | refine Wm_skip ?_
          | refine Wm_ret ?_
          | refine Wm_block ?_
          | refine Wm_exit ?_
          | refine thenK_normal ?_
          | refine thenK_ret ?_
          | refine thenK_exit ?_
          | refine blockK_normal ?_
          | refine blockK_ret ?_
          | refine blockK_here ?_
          | refine loopK_ret ?_
          | refine loopK_exit ?_
          | refine unK_ret ?_
          | refine unK_exit ?_
          | refine unK_normal ?_
          | refine loopOk_succ ?_
          | refine blockK_exit (by decide) ?_
          | (refine wreg (mos := q30_0) hE [1, 3, 4, 5, 7, 10] (by kernel_rfl) ?_; intro K hK; simp [q30_0, hb, hc3, w1, q1, w2, w3, q3, w4, w5, w6, w7, w8, w9, w10, w11, hmw, ints, hkp, d16, d18]; (repeat' (first | refine hK _ _ ?_ | refine And.intro ?_ ?_ | intro hc)) <;> (try clear hK K) <;> (try subst_vars))
          | (refine wdraw (mos := q30_1) hE mixT c30_1 [1, 3, 4, 5, 7, 10, 11] (by kernel_rfl) ?_; intro K hK; simp [q30_1, c30_1, hb, hc3, w1, q1, w2, w3, q3, w4, w5, w6, w7, w8, w9, w10, w11, hmw, ints, hkp, d16, d18]; (repeat' (first | refine hK _ _ ?_ | refine And.intro ?_ ?_ | intro hc)) <;> (try clear hK K) <;> (try subst_vars))
          | (refine wreg (mos := q30_2) hE [1, 3, 4, 5, 7, 10, 11, 22] (by kernel_rfl) ?_; intro K hK; simp [q30_2, hb, hc3, w1, q1, w2, w3, q3, w4, w5, w6, w7, w8, w9, w10, w11, hmw, ints, hkp, d16, d18]; (repeat' (first | refine hK _ _ ?_ | refine And.intro ?_ ?_ | intro hc)) <;> (try clear hK K) <;> (try subst_vars))
          | (refine wreg (mos := q30_3) hE [1, 3, 4, 5, 7, 10, 11, 22, 23] (by kernel_rfl) ?_; intro K hK; simp [q30_3, hb, hc3, w1, q1, w2, w3, q3, w4, w5, w6, w7, w8, w9, w10, w11, hmw, ints, hkp, d16, d18]; (repeat' (first | refine hK _ _ ?_ | refine And.intro ?_ ?_ | intro hc)) <;> (try clear hK K) <;> (try subst_vars))
          | (refine wreg (mos := q30_4) hE [1, 4, 5, 7, 10, 11] (by kernel_rfl) ?_; intro K hK; simp [q30_4, hb, hc3, w1, q1, w2, w3, q3, w4, w5, w6, w7, w8, w9, w10, w11, hmw, ints, hkp, d16, d18]; (repeat' (first | refine hK _ _ ?_ | refine And.intro ?_ ?_ | intro hc)) <;> (try clear hK K) <;> (try subst_vars))
          | (refine wreg (mos := q30_5) hE [1, 4, 5, 7, 10, 11] (by kernel_rfl) ?_; intro K hK; simp [q30_5, hb, hc3, w1, q1, w2, w3, q3, w4, w5, w6, w7, w8, w9, w10, w11, hmw, ints, hkp, d16, d18]; (repeat' (first | refine hK _ _ ?_ | refine And.intro ?_ ?_ | intro hc)) <;> (try clear hK K) <;> (try subst_vars))
          | (refine wdraw (mos := q30_6) hE mixT c30_6 [10, 11] (by kernel_rfl) ?_; intro K hK; simp [q30_6, c30_6, hb, hc3, w1, q1, w2, w3, q3, w4, w5, w6, w7, w8, w9, w10, w11, hmw, ints, hkp, d16, d18]; (repeat' (first | refine hK _ _ ?_ | refine And.intro ?_ ?_ | intro hc)) <;> (try clear hK K) <;> (try subst_vars))
          | (refine wreg (mos := q30_7) hE [1, 3, 10, 11, 66] (by kernel_rfl) ?_; intro K hK; simp [q30_7, hb, hc3, w1, q1, w2, w3, q3, w4, w5, w6, w7, w8, w9, w10, w11, hmw, ints, hkp, d16, d18]; (repeat' (first | refine hK _ _ ?_ | refine And.intro ?_ ?_ | intro hc)) <;> (try clear hK K) <;> (try subst_vars))
          | (refine wreg (mos := q30_8) hE [10, 11] (by kernel_rfl) ?_; intro K hK; simp [q30_8, hb, hc3, w1, q1, w2, w3, q3, w4, w5, w6, w7, w8, w9, w10, w11, hmw, ints, hkp, d16, d18]; (repeat' (first | refine hK _ _ ?_ | refine And.intro ?_ ?_ | intro hc)) <;> (try clear hK K) <;> (try subst_vars))
          | (refine wreg (mos := q30_9) hE [10] (by kernel_rfl) ?_; intro K hK; simp [q30_9, hb, hc3, w1, q1, w2, w3, q3, w4, w5, w6, w7, w8, w9, w10, w11, hmw, ints, hkp, d16, d18]; (repeat' (first | refine hK _ _ ?_ | refine And.intro ?_ ?_ | intro hc)) <;> (try clear hK K) <;> (try subst_vars))
          | (refine Wm_cond (b := _) (by with_unfolding_all rfl) (fun hc => ?_) (fun hc => ?_) <;> simp at hc <;> (try subst_vars)))
        all_goals first | (simp; done) | (simp [askV, askS, hkd]; refine Imp.auto (by kernel_rfl) ?_ ?_ <;> simp [nmap, lkp, mkPl, prs, prsL, prT, ddL, idL, NLe, CRenL, CRen, Ren, RenL, NObj.none, askV, askS, hkd] <;> (try unfold holdZ) <;> (try grind))
    · cases h
  · cases h
end Go.W
