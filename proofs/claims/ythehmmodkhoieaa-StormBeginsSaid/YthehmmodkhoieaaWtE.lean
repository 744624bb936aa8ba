import Derived.Test.YthehmmodkhoieaaWtD
namespace Go.W
open Go.Proofs
set_option linter.unusedSimpArgs false
set_option linter.unusedVariables false
set_option maxHeartbeats 8000000
attribute [local irreducible] Wm

def kindZ (s : Int) : Int := pickZ s [1, 1, 1, 2, 3, 4]

/-- What a participant asks, number by number. -/
def askV (k : Nat) (b c mp mw id now s : Int) : Int :=
  match k with
  | 0 => kindZ s
  | 1 => if kindZ s = 1 then id else if kindZ s = 2 then holdZ (id - 1 - belowZ (nextS (nextS s)) 3) 1 (id + 1) else 0
  | 2 => belowZ (nextS s) b
  | 3 => if kindZ s = 1 then belowZ (nextS (nextS (nextS s))) c else 0
  | 4 => if kindZ s = 1 then belowZ (nextS (nextS (nextS (nextS s)))) 2 else 0
  | 5 => if kindZ s = 1 then holdZ (mp + belowZ (nextS (nextS (nextS (nextS (nextS s))))) (2 * mw + 1) - mw) 1 9999 else 0
  | 6 => if kindZ s = 1 then 1 + belowZ (nextS (nextS (nextS (nextS (nextS (nextS s)))))) (1 + belowZ (nextS (nextS s)) 9) else 0
  | 7 => if kindZ s = 1 then holdZ (now + 1 + belowZ (nextS (nextS (nextS (nextS (nextS (nextS (nextS s))))))) 50) now 1000000 else 0
  | _ => if kindZ s = 1 then 1 + belowZ (nextS (nextS s)) 9 else 0

def askS (s : Int) : Int := if kindZ s = 1 then (nextS (nextS (nextS (nextS (nextS (nextS (nextS (nextS s)))))))) else if kindZ s = 2 then (nextS (nextS (nextS s))) else (nextS (nextS s))

theorem kindZ_in (s : Int) : kindZ s = 1 ∨ kindZ s = 2 ∨ kindZ s = 3 ∨ kindZ s = 4 := by
  have h := below_in (s := s) (n := 6) (by omega)
  unfold kindZ pickZ
  simp
  have h6 : belowZ s 6 = 0 ∨ belowZ s 6 = 1 ∨ belowZ s 6 = 2 ∨ belowZ s 6 = 3 ∨ belowZ s 6 = 4 ∨ belowZ s 6 = 5 := by omega
  rcases h6 with h | h | h | h | h | h <;> simp [h]

theorem check_in {a b c d e f g : Int} (h : checkZ a b c d e f g = -1) : (1 ≤ a ∧ a ≤ 6) ∧ (1 ≤ b ∧ b ≤ 4) ∧ (1 ≤ c ∧ c ≤ 3) ∧ (1 ≤ d ∧ d ≤ 4) ∧ (0 ≤ e ∧ e ≤ 4) ∧ (1 ≤ f ∧ f ≤ 4) ∧ (1 ≤ g ∧ g ≤ 15) := by
  unfold checkZ at h
  (repeat' (split at h)) <;> omega

theorem fits_in {a b c d e f : Int} (h : fitsB a b c d e f = true) : (-10000 ≤ e ∧ e ≤ 10000) ∧ (0 ≤ f ∧ f ≤ 10000) ∧ (-10000 ≤ d ∧ d ≤ 10000) ∧ (-10000 ≤ a ∧ a ≤ 10000) ∧ (-10000 ≤ b ∧ b ≤ 10000) ∧ (-10000 ≤ c ∧ c ≤ 10000) := by
  simp [fitsB] at h
  omega

def d31 : List AV → Option Ans
  | [.agg [.int .i64 a, .int .i64 b, .int .i64 c, .int .i64 d, .int .i64 e, .int .i64 f, .int .i64 g], .op _ [.int .u64 s], .agg [.int .i64 ma, .int .i64 mt, .int .i64 md, .int .i64 ms, .int .i64 mp, .int .i64 mw], .int .i64 id, .int .i64 now] => if checkZ a b c d e f g = -1 ∧ fitsB ma mt md ms mp mw = true ∧ 0 ≤ id ∧ id ≤ 1048576 ∧ 0 ≤ now ∧ now ≤ 1000000 then some ⟨.agg [.int .i64 (askV 0 b c mp mw id now s), .int .i64 (askV 1 b c mp mw id now s), .int .i64 (askV 2 b c mp mw id now s), .int .i64 (askV 3 b c mp mw id now s), .int .i64 (askV 4 b c mp mw id now s), .int .i64 (askV 5 b c mp mw id now s), .int .i64 (askV 6 b c mp mw id now s), .int .i64 (askV 7 b c mp mw id now s), .int .i64 (askV 8 b c mp mw id now s)], [.cells 0 [.int .u64 (askS s)]]⟩ else none
  | _ => none

theorem ok31 : NOk [(1, true)] d31 := by
  intro xs a h
  unfold d31 at h
  (repeat' (split at h)) <;> first | (cases h; done) | (injection h with h; subst h; refine ⟨Ends_of ?_, ?_⟩ <;> simp)
theorem s31 : Sound Try.prog 31 (nestS [(1, true)] d31 ok31) := by
  refine nest_sound Try.func31 nm31 rc31 rv31 ok31 (fun xs a h => ?_) fun xs a h w0 S hS => ?_
  · unfold d31 at h
    (repeat' (split at h)) <;> first | (cases h; done) | exact Nat.le_of_ble_eq_true rfl
  unfold d31 at h
  split at h
  · split at h
    · rename_i a b c d e f g t s ma mt md ms mp mw id now hcond
      injection h with h
      subst h
      have hE : SoundAll Try.prog (EL [(17, nestS [(1, true)] d17 ok17), (58, nestS [] d58 ok58)]) := EL_sound (by simp only [List.mem_cons, List.not_mem_nil, or_false, forall_eq_or_imp, forall_eq]; exact ⟨s17, s58⟩)
      obtain ⟨hck, hft, hid0, hid1, hnow0, hnow1⟩ := hcond
      obtain ⟨ca, cb, cc, cd, ce, cf, cg⟩ := check_in hck
      obtain ⟨fe, ff, fd, fa, fb, fc⟩ := fits_in hft
      have hb : b ≤ 9223372036854775807 := by omega
      have hc3 : c ≤ 9223372036854775807 := by omega
      have b2 := below_in (s := (nextS (nextS s))) (n := 9) (by omega)
      have b23 := below_in (s := (nextS (nextS s))) (n := 3) (by omega)
      have b5 := below_in (s := (nextS (nextS (nextS (nextS (nextS s)))))) (n := 2 * mw + 1) (by omega)
      have b6 := below_in (s := (nextS (nextS (nextS (nextS (nextS (nextS s))))))) (n := 1 + belowZ (nextS (nextS s)) 9) (by omega)
      have b7 := below_in (s := (nextS (nextS (nextS (nextS (nextS (nextS (nextS s)))))))) (n := 50) (by omega)
      have w1 : IntKind.wrap .i64 (1 + belowZ (nextS (nextS s)) 9) = 1 + belowZ (nextS (nextS s)) 9 := wrap_in (by omega) (by omega)
      have q1 : 1 + belowZ (nextS (nextS s)) 9 ≤ 9223372036854775807 := by omega
      have w2 : IntKind.wrap .i64 (2 * mw) = 2 * mw := wrap_in (by omega) (by omega)
      have w3 : IntKind.wrap .i64 (2 * mw + 1) = 2 * mw + 1 := wrap_in (by omega) (by omega)
      have q3 : 2 * mw + 1 ≤ 9223372036854775807 := by omega
      have w4 : IntKind.wrap .i64 (mp + belowZ (nextS (nextS (nextS (nextS (nextS s))))) (2 * mw + 1)) = mp + belowZ (nextS (nextS (nextS (nextS (nextS s))))) (2 * mw + 1) := wrap_in (by omega) (by omega)
      have w5 : IntKind.wrap .i64 (mp + belowZ (nextS (nextS (nextS (nextS (nextS s))))) (2 * mw + 1) - mw) = mp + belowZ (nextS (nextS (nextS (nextS (nextS s))))) (2 * mw + 1) - mw := wrap_in (by omega) (by omega)
      have w6 : IntKind.wrap .i64 (1 + belowZ (nextS (nextS (nextS (nextS (nextS (nextS s)))))) (1 + belowZ (nextS (nextS s)) 9)) = 1 + belowZ (nextS (nextS (nextS (nextS (nextS (nextS s)))))) (1 + belowZ (nextS (nextS s)) 9) := wrap_in (by omega) (by omega)
      have w7 : IntKind.wrap .i64 (now + 1) = now + 1 := wrap_in (by omega) (by omega)
      have w8 : IntKind.wrap .i64 (now + 1 + belowZ (nextS (nextS (nextS (nextS (nextS (nextS (nextS s))))))) 50) = now + 1 + belowZ (nextS (nextS (nextS (nextS (nextS (nextS (nextS s))))))) 50 := wrap_in (by omega) (by omega)
      have w9 : IntKind.wrap .i64 (id - 1) = id - 1 := wrap_in (by omega) (by omega)
      have w10 : IntKind.wrap .i64 (id - 1 - belowZ (nextS (nextS s)) 3) = id - 1 - belowZ (nextS (nextS s)) 3 := wrap_in (by omega) (by omega)
      have w11 : IntKind.wrap .i64 (id + 1) = id + 1 := wrap_in (by omega) (by omega)
      have hmw : ¬ mw < 0 := by omega
      have hx := below_in (s := s) (n := 6) (by omega)
      have h6 : belowZ s 6 = 0 ∨ belowZ s 6 = 1 ∨ belowZ s 6 = 2 ∨ belowZ s 6 = 3 ∨ belowZ s 6 = 4 ∨ belowZ s 6 = 5 := by omega
      rcases h6 with h6 | h6 | h6 | h6 | h6 | h6
      · have hkd : kindZ s = 1 := by simp [kindZ, pickZ, h6]
        unfold m31
        repeat' with_reducible (first
          | refine Wm_seq ?_
          | refine Wm_skip ?_
          | refine Wm_ret ?_
          | refine Wm_block ?_
          | refine Wm_exit ?_
          | refine thenK_normal ?_
          | refine thenK_ret ?_
          | refine thenK_exit ?_
          | refine blockK_normal ?_
          | refine blockK_ret ?_
          | refine blockK_here ?_
          | refine loopK_ret ?_
          | refine loopK_exit ?_
          | refine unK_ret ?_
          | refine unK_exit ?_
          | refine unK_normal ?_
          | refine loopOk_succ ?_
          | refine blockK_exit (by decide) ?_
          | (refine wreg (mos := q31_0) hE [1, 3, 4, 5, 7, 10] (by kernel_rfl) ?_; intro K hK; simp [q31_0, hb, hc3, w1, q1, w2, w3, q3, w4, w5, w6, w7, w8, w9, w10, w11, hmw, h6, d17, d58]; (repeat' (first | refine hK _ _ ?_ | refine And.intro ?_ ?_ | intro hc)) <;> (try clear hK K) <;> (try subst_vars))
          | (refine wreg (mos := q31_1) hE [1, 3, 4, 5, 7, 10, 11] (by kernel_rfl) ?_; intro K hK; simp [q31_1, hb, hc3, w1, q1, w2, w3, q3, w4, w5, w6, w7, w8, w9, w10, w11, hmw, h6, d17, d58]; (repeat' (first | refine hK _ _ ?_ | refine And.intro ?_ ?_ | intro hc)) <;> (try clear hK K) <;> (try subst_vars))
          | (refine wreg (mos := q31_2) hE [1, 3, 4, 5, 7, 10, 11] (by kernel_rfl) ?_; intro K hK; simp [q31_2, hb, hc3, w1, q1, w2, w3, q3, w4, w5, w6, w7, w8, w9, w10, w11, hmw, h6, d17, d58]; (repeat' (first | refine hK _ _ ?_ | refine And.intro ?_ ?_ | intro hc)) <;> (try clear hK K) <;> (try subst_vars))
          | (refine wreg (mos := q31_3) hE [1, 3, 4, 5, 7, 10, 11, 25] (by kernel_rfl) ?_; intro K hK; simp [q31_3, hb, hc3, w1, q1, w2, w3, q3, w4, w5, w6, w7, w8, w9, w10, w11, hmw, h6, d17, d58]; (repeat' (first | refine hK _ _ ?_ | refine And.intro ?_ ?_ | intro hc)) <;> (try clear hK K) <;> (try subst_vars))
          | (refine wreg (mos := q31_4) hE [1, 3, 4, 5, 7, 10, 11] (by kernel_rfl) ?_; intro K hK; simp [q31_4, hb, hc3, w1, q1, w2, w3, q3, w4, w5, w6, w7, w8, w9, w10, w11, hmw, h6, d17, d58]; (repeat' (first | refine hK _ _ ?_ | refine And.intro ?_ ?_ | intro hc)) <;> (try clear hK K) <;> (try subst_vars))
          | (refine wreg (mos := q31_5) hE [1, 3, 4, 5, 7, 10, 11] (by kernel_rfl) ?_; intro K hK; simp [q31_5, hb, hc3, w1, q1, w2, w3, q3, w4, w5, w6, w7, w8, w9, w10, w11, hmw, h6, d17, d58]; (repeat' (first | refine hK _ _ ?_ | refine And.intro ?_ ?_ | intro hc)) <;> (try clear hK K) <;> (try subst_vars))
          | (refine wreg (mos := q31_6) hE [1, 3, 4, 7, 10, 11] (by kernel_rfl) ?_; intro K hK; simp [q31_6, hb, hc3, w1, q1, w2, w3, q3, w4, w5, w6, w7, w8, w9, w10, w11, hmw, h6, d17, d58]; (repeat' (first | refine hK _ _ ?_ | refine And.intro ?_ ?_ | intro hc)) <;> (try clear hK K) <;> (try subst_vars))
          | (refine wreg (mos := q31_7) hE [1, 3, 4, 7, 10, 11] (by kernel_rfl) ?_; intro K hK; simp [q31_7, hb, hc3, w1, q1, w2, w3, q3, w4, w5, w6, w7, w8, w9, w10, w11, hmw, h6, d17, d58]; (repeat' (first | refine hK _ _ ?_ | refine And.intro ?_ ?_ | intro hc)) <;> (try clear hK K) <;> (try subst_vars))
          | (refine wdraw (mos := q31_8) hE mixT c31_8 [1, 3, 4, 10, 11] (by kernel_rfl) ?_; intro K hK; simp [q31_8, c31_8, hb, hc3, w1, q1, w2, w3, q3, w4, w5, w6, w7, w8, w9, w10, w11, hmw, h6, d17, d58]; (repeat' (first | refine hK _ _ ?_ | refine And.intro ?_ ?_ | intro hc)) <;> (try clear hK K) <;> (try subst_vars))
          | (refine wreg (mos := q31_9) hE [1, 3, 4, 10, 11] (by kernel_rfl) ?_; intro K hK; simp [q31_9, hb, hc3, w1, q1, w2, w3, q3, w4, w5, w6, w7, w8, w9, w10, w11, hmw, h6, d17, d58]; (repeat' (first | refine hK _ _ ?_ | refine And.intro ?_ ?_ | intro hc)) <;> (try clear hK K) <;> (try subst_vars))
          | (refine wreg (mos := q31_10) hE [1, 3, 10, 11] (by kernel_rfl) ?_; intro K hK; simp [q31_10, hb, hc3, w1, q1, w2, w3, q3, w4, w5, w6, w7, w8, w9, w10, w11, hmw, h6, d17, d58]; (repeat' (first | refine hK _ _ ?_ | refine And.intro ?_ ?_ | intro hc)) <;> (try clear hK K) <;> (try subst_vars))
          | (refine wreg (mos := q31_11) hE [1, 3, 10, 11, 75] (by kernel_rfl) ?_; intro K hK; simp [q31_11, hb, hc3, w1, q1, w2, w3, q3, w4, w5, w6, w7, w8, w9, w10, w11, hmw, h6, d17, d58]; (repeat' (first | refine hK _ _ ?_ | refine And.intro ?_ ?_ | intro hc)) <;> (try clear hK K) <;> (try subst_vars))
          | (refine wreg (mos := q31_12) hE [10, 11] (by kernel_rfl) ?_; intro K hK; simp [q31_12, hb, hc3, w1, q1, w2, w3, q3, w4, w5, w6, w7, w8, w9, w10, w11, hmw, h6, d17, d58]; (repeat' (first | refine hK _ _ ?_ | refine And.intro ?_ ?_ | intro hc)) <;> (try clear hK K) <;> (try subst_vars))
          | (refine wreg (mos := q31_13) hE [10] (by kernel_rfl) ?_; intro K hK; simp [q31_13, hb, hc3, w1, q1, w2, w3, q3, w4, w5, w6, w7, w8, w9, w10, w11, hmw, h6, d17, d58]; (repeat' (first | refine hK _ _ ?_ | refine And.intro ?_ ?_ | intro hc)) <;> (try clear hK K) <;> (try subst_vars))
          | (refine Wm_cond (b := _) (by with_unfolding_all rfl) (fun hc => ?_) (fun hc => ?_) <;> simp at hc <;> (try subst_vars)))
        all_goals first | (simp; done) | (simp [askV, askS, hkd]; refine Imp.auto (by kernel_rfl) ?_ ?_ <;> simp [nmap, lkp, mkPl, prs, prsL, prT, ddL, idL, NLe, CRenL, CRen, Ren, RenL, NObj.none, askV, askS, hkd] <;> (try unfold holdZ) <;> (try grind))
      · have hkd : kindZ s = 1 := by simp [kindZ, pickZ, h6]
        unfold m31
        repeat' with_reducible (first
          | refine Wm_seq ?_
          | refine Wm_skip ?_
          | refine Wm_ret ?_
          | refine Wm_block ?_
          | refine Wm_exit ?_
          | refine thenK_normal ?_
          | refine thenK_ret ?_
          | refine thenK_exit ?_
          | refine blockK_normal ?_
          | refine blockK_ret ?_
          | refine blockK_here ?_
          | refine loopK_ret ?_
          | refine loopK_exit ?_
          | refine unK_ret ?_
          | refine unK_exit ?_
          | refine unK_normal ?_
          | refine loopOk_succ ?_
          | refine blockK_exit (by decide) ?_
          | (refine wreg (mos := q31_0) hE [1, 3, 4, 5, 7, 10] (by kernel_rfl) ?_; intro K hK; simp [q31_0, hb, hc3, w1, q1, w2, w3, q3, w4, w5, w6, w7, w8, w9, w10, w11, hmw, h6, d17, d58]; (repeat' (first | refine hK _ _ ?_ | refine And.intro ?_ ?_ | intro hc)) <;> (try clear hK K) <;> (try subst_vars))
          | (refine wreg (mos := q31_1) hE [1, 3, 4, 5, 7, 10, 11] (by kernel_rfl) ?_; intro K hK; simp [q31_1, hb, hc3, w1, q1, w2, w3, q3, w4, w5, w6, w7, w8, w9, w10, w11, hmw, h6, d17, d58]; (repeat' (first | refine hK _ _ ?_ | refine And.intro ?_ ?_ | intro hc)) <;> (try clear hK K) <;> (try subst_vars))
          | (refine wreg (mos := q31_2) hE [1, 3, 4, 5, 7, 10, 11] (by kernel_rfl) ?_; intro K hK; simp [q31_2, hb, hc3, w1, q1, w2, w3, q3, w4, w5, w6, w7, w8, w9, w10, w11, hmw, h6, d17, d58]; (repeat' (first | refine hK _ _ ?_ | refine And.intro ?_ ?_ | intro hc)) <;> (try clear hK K) <;> (try subst_vars))
          | (refine wreg (mos := q31_3) hE [1, 3, 4, 5, 7, 10, 11, 25] (by kernel_rfl) ?_; intro K hK; simp [q31_3, hb, hc3, w1, q1, w2, w3, q3, w4, w5, w6, w7, w8, w9, w10, w11, hmw, h6, d17, d58]; (repeat' (first | refine hK _ _ ?_ | refine And.intro ?_ ?_ | intro hc)) <;> (try clear hK K) <;> (try subst_vars))
          | (refine wreg (mos := q31_4) hE [1, 3, 4, 5, 7, 10, 11] (by kernel_rfl) ?_; intro K hK; simp [q31_4, hb, hc3, w1, q1, w2, w3, q3, w4, w5, w6, w7, w8, w9, w10, w11, hmw, h6, d17, d58]; (repeat' (first | refine hK _ _ ?_ | refine And.intro ?_ ?_ | intro hc)) <;> (try clear hK K) <;> (try subst_vars))
          | (refine wreg (mos := q31_5) hE [1, 3, 4, 5, 7, 10, 11] (by kernel_rfl) ?_; intro K hK; simp [q31_5, hb, hc3, w1, q1, w2, w3, q3, w4, w5, w6, w7, w8, w9, w10, w11, hmw, h6, d17, d58]; (repeat' (first | refine hK _ _ ?_ | refine And.intro ?_ ?_ | intro hc)) <;> (try clear hK K) <;> (try subst_vars))
          | (refine wreg (mos := q31_6) hE [1, 3, 4, 7, 10, 11] (by kernel_rfl) ?_; intro K hK; simp [q31_6, hb, hc3, w1, q1, w2, w3, q3, w4, w5, w6, w7, w8, w9, w10, w11, hmw, h6, d17, d58]; (repeat' (first | refine hK _ _ ?_ | refine And.intro ?_ ?_ | intro hc)) <;> (try clear hK K) <;> (try subst_vars))
          | (refine wreg (mos := q31_7) hE [1, 3, 4, 7, 10, 11] (by kernel_rfl) ?_; intro K hK; simp [q31_7, hb, hc3, w1, q1, w2, w3, q3, w4, w5, w6, w7, w8, w9, w10, w11, hmw, h6, d17, d58]; (repeat' (first | refine hK _ _ ?_ | refine And.intro ?_ ?_ | intro hc)) <;> (try clear hK K) <;> (try subst_vars))
          | (refine wdraw (mos := q31_8) hE mixT c31_8 [1, 3, 4, 10, 11] (by kernel_rfl) ?_; intro K hK; simp [q31_8, c31_8, hb, hc3, w1, q1, w2, w3, q3, w4, w5, w6, w7, w8, w9, w10, w11, hmw, h6, d17, d58]; (repeat' (first | refine hK _ _ ?_ | refine And.intro ?_ ?_ | intro hc)) <;> (try clear hK K) <;> (try subst_vars))
          | (refine wreg (mos := q31_9) hE [1, 3, 4, 10, 11] (by kernel_rfl) ?_; intro K hK; simp [q31_9, hb, hc3, w1, q1, w2, w3, q3, w4, w5, w6, w7, w8, w9, w10, w11, hmw, h6, d17, d58]; (repeat' (first | refine hK _ _ ?_ | refine And.intro ?_ ?_ | intro hc)) <;> (try clear hK K) <;> (try subst_vars))
          | (refine wreg (mos := q31_10) hE [1, 3, 10, 11] (by kernel_rfl) ?_; intro K hK; simp [q31_10, hb, hc3, w1, q1, w2, w3, q3, w4, w5, w6, w7, w8, w9, w10, w11, hmw, h6, d17, d58]; (repeat' (first | refine hK _ _ ?_ | refine And.intro ?_ ?_ | intro hc)) <;> (try clear hK K) <;> (try subst_vars))
          | (refine wreg (mos := q31_11) hE [1, 3, 10, 11, 75] (by kernel_rfl) ?_; intro K hK; simp [q31_11, hb, hc3, w1, q1, w2, w3, q3, w4, w5, w6, w7, w8, w9, w10, w11, hmw, h6, d17, d58]; (repeat' (first | refine hK _ _ ?_ | refine And.intro ?_ ?_ | intro hc)) <;> (try clear hK K) <;> (try subst_vars))
          | (refine wreg (mos := q31_12) hE [10, 11] (by kernel_rfl) ?_; intro K hK; simp [q31_12, hb, hc3, w1, q1, w2, w3, q3, w4, w5, w6, w7, w8, w9, w10, w11, hmw, h6, d17, d58]; (repeat' (first | refine hK _ _ ?_ | refine And.intro ?_ ?_ | intro hc)) <;> (try clear hK K) <;> (try subst_vars))
          | (refine wreg (mos := q31_13) hE [10] (by kernel_rfl) ?_; intro K hK; simp [q31_13, hb, hc3, w1, q1, w2, w3, q3, w4, w5, w6, w7, w8, w9, w10, w11, hmw, h6, d17, d58]; (repeat' (first | refine hK _ _ ?_ | refine And.intro ?_ ?_ | intro hc)) <;> (try clear hK K) <;> (try subst_vars))
          | (refine Wm_cond (b := _) (by with_unfolding_all rfl) (fun hc => ?_) (fun hc => ?_) <;> simp at hc <;> (try subst_vars)))
        all_goals first | (simp; done) | (simp [askV, askS, hkd]; refine Imp.auto (by kernel_rfl) ?_ ?_ <;> simp [nmap, lkp, mkPl, prs, prsL, prT, ddL, idL, NLe, CRenL, CRen, Ren, RenL, NObj.none, askV, askS, hkd] <;> (try unfold holdZ) <;> (try grind))
      · have hkd : kindZ s = 1 := by simp [kindZ, pickZ, h6]
        unfold m31
        repeat' with_reducible (first
          | refine Wm_seq ?_
          | refine Wm_skip ?_
          | refine Wm_ret ?_
          | refine Wm_block ?_
          | refine Wm_exit ?_
          | refine thenK_normal ?_
          | refine thenK_ret ?_
          | refine thenK_exit ?_
          | refine blockK_normal ?_
          | refine blockK_ret ?_
          | refine blockK_here ?_
          | refine loopK_ret ?_
          | refine loopK_exit ?_
          | refine unK_ret ?_
          | refine unK_exit ?_
          | refine unK_normal ?_
          | refine loopOk_succ ?_
          | refine blockK_exit (by decide) ?_
          | (refine wreg (mos := q31_0) hE [1, 3, 4, 5, 7, 10] (by kernel_rfl) ?_; intro K hK; simp [q31_0, hb, hc3, w1, q1, w2, w3, q3, w4, w5, w6, w7, w8, w9, w10, w11, hmw, h6, d17, d58]; (repeat' (first | refine hK _ _ ?_ | refine And.intro ?_ ?_ | intro hc)) <;> (try clear hK K) <;> (try subst_vars))
          | (refine wreg (mos := q31_1) hE [1, 3, 4, 5, 7, 10, 11] (by kernel_rfl) ?_; intro K hK; simp [q31_1, hb, hc3, w1, q1, w2, w3, q3, w4, w5, w6, w7, w8, w9, w10, w11, hmw, h6, d17, d58]; (repeat' (first | refine hK _ _ ?_ | refine And.intro ?_ ?_ | intro hc)) <;> (try clear hK K) <;> (try subst_vars))
          | (refine wreg (mos := q31_2) hE [1, 3, 4, 5, 7, 10, 11] (by kernel_rfl) ?_; intro K hK; simp [q31_2, hb, hc3, w1, q1, w2, w3, q3, w4, w5, w6, w7, w8, w9, w10, w11, hmw, h6, d17, d58]; (repeat' (first | refine hK _ _ ?_ | refine And.intro ?_ ?_ | intro hc)) <;> (try clear hK K) <;> (try subst_vars))
          | (refine wreg (mos := q31_3) hE [1, 3, 4, 5, 7, 10, 11, 25] (by kernel_rfl) ?_; intro K hK; simp [q31_3, hb, hc3, w1, q1, w2, w3, q3, w4, w5, w6, w7, w8, w9, w10, w11, hmw, h6, d17, d58]; (repeat' (first | refine hK _ _ ?_ | refine And.intro ?_ ?_ | intro hc)) <;> (try clear hK K) <;> (try subst_vars))
          | (refine wreg (mos := q31_4) hE [1, 3, 4, 5, 7, 10, 11] (by kernel_rfl) ?_; intro K hK; simp [q31_4, hb, hc3, w1, q1, w2, w3, q3, w4, w5, w6, w7, w8, w9, w10, w11, hmw, h6, d17, d58]; (repeat' (first | refine hK _ _ ?_ | refine And.intro ?_ ?_ | intro hc)) <;> (try clear hK K) <;> (try subst_vars))
          | (refine wreg (mos := q31_5) hE [1, 3, 4, 5, 7, 10, 11] (by kernel_rfl) ?_; intro K hK; simp [q31_5, hb, hc3, w1, q1, w2, w3, q3, w4, w5, w6, w7, w8, w9, w10, w11, hmw, h6, d17, d58]; (repeat' (first | refine hK _ _ ?_ | refine And.intro ?_ ?_ | intro hc)) <;> (try clear hK K) <;> (try subst_vars))
          | (refine wreg (mos := q31_6) hE [1, 3, 4, 7, 10, 11] (by kernel_rfl) ?_; intro K hK; simp [q31_6, hb, hc3, w1, q1, w2, w3, q3, w4, w5, w6, w7, w8, w9, w10, w11, hmw, h6, d17, d58]; (repeat' (first | refine hK _ _ ?_ | refine And.intro ?_ ?_ | intro hc)) <;> (try clear hK K) <;> (try subst_vars))
          | (refine wreg (mos := q31_7) hE [1, 3, 4, 7, 10, 11] (by kernel_rfl) ?_; intro K hK; simp [q31_7, hb, hc3, w1, q1, w2, w3, q3, w4, w5, w6, w7, w8, w9, w10, w11, hmw, h6, d17, d58]; (repeat' (first | refine hK _ _ ?_ | refine And.intro ?_ ?_ | intro hc)) <;> (try clear hK K) <;> (try subst_vars))
          | (refine wdraw (mos := q31_8) hE mixT c31_8 [1, 3, 4, 10, 11] (by kernel_rfl) ?_; intro K hK; simp [q31_8, c31_8, hb, hc3, w1, q1, w2, w3, q3, w4, w5, w6, w7, w8, w9, w10, w11, hmw, h6, d17, d58]; (repeat' (first | refine hK _ _ ?_ | refine And.intro ?_ ?_ | intro hc)) <;> (try clear hK K) <;> (try subst_vars))
          | (refine wreg (mos := q31_9) hE [1, 3, 4, 10, 11] (by kernel_rfl) ?_; intro K hK; simp [q31_9, hb, hc3, w1, q1, w2, w3, q3, w4, w5, w6, w7, w8, w9, w10, w11, hmw, h6, d17, d58]; (repeat' (first | refine hK _ _ ?_ | refine And.intro ?_ ?_ | intro hc)) <;> (try clear hK K) <;> (try subst_vars))
          | (refine wreg (mos := q31_10) hE [1, 3, 10, 11] (by kernel_rfl) ?_; intro K hK; simp [q31_10, hb, hc3, w1, q1, w2, w3, q3, w4, w5, w6, w7, w8, w9, w10, w11, hmw, h6, d17, d58]; (repeat' (first | refine hK _ _ ?_ | refine And.intro ?_ ?_ | intro hc)) <;> (try clear hK K) <;> (try subst_vars))
          | (refine wreg (mos := q31_11) hE [1, 3, 10, 11, 75] (by kernel_rfl) ?_; intro K hK; simp [q31_11, hb, hc3, w1, q1, w2, w3, q3, w4, w5, w6, w7, w8, w9, w10, w11, hmw, h6, d17, d58]; (repeat' (first | refine hK _ _ ?_ | refine And.intro ?_ ?_ | intro hc)) <;> (try clear hK K) <;> (try subst_vars))
          | (refine wreg (mos := q31_12) hE [10, 11] (by kernel_rfl) ?_; intro K hK; simp [q31_12, hb, hc3, w1, q1, w2, w3, q3, w4, w5, w6, w7, w8, w9, w10, w11, hmw, h6, d17, d58]; (repeat' (first | refine hK _ _ ?_ | refine And.intro ?_ ?_ | intro hc)) <;> (try clear hK K) <;> (try subst_vars))
          | (refine wreg (mos := q31_13) hE [10] (by kernel_rfl) ?_; intro K hK; simp [q31_13, hb, hc3, w1, q1, w2, w3, q3, w4, w5, w6, w7, w8, w9, w10, w11, hmw, h6, d17, d58]; (repeat' (first | refine hK _ _ ?_ | refine And.intro ?_ ?_ | intro hc)) <;> (try clear hK K) <;> (try subst_vars))
          | (refine Wm_cond (b := _) (by with_unfolding_all rfl) (fun hc => ?_) (fun hc => ?_) <;> simp at hc <;> (try subst_vars)))
        all_goals first | (simp; done) | (simp [askV, askS, hkd]; refine Imp.auto (by kernel_rfl) ?_ ?_ <;> simp [nmap, lkp, mkPl, prs, prsL, prT, ddL, idL, NLe, CRenL, CRen, Ren, RenL, NObj.none, askV, askS, hkd] <;> (try unfold holdZ) <;> (try grind))
      · have hkd : kindZ s = 2 := by simp [kindZ, pickZ, h6]
        unfold m31
        repeat' with_reducible (first
          | refine Wm_seq ?_
          | refine Wm_skip ?_
          | refine Wm_ret ?_
          | refine Wm_block ?_
          | refine Wm_exit ?_
          | refine thenK_normal ?_
          | refine thenK_ret ?_
          | refine thenK_exit ?_
          | refine blockK_normal ?_
          | refine blockK_ret ?_
          | refine blockK_here ?_
          | refine loopK_ret ?_
          | refine loopK_exit ?_
          | refine unK_ret ?_
          | refine unK_exit ?_
          | refine unK_normal ?_
          | refine loopOk_succ ?_
          | refine blockK_exit (by decide) ?_
          | (refine wreg (mos := q31_0) hE [1, 3, 4, 5, 7, 10] (by kernel_rfl) ?_; intro K hK; simp [q31_0, hb, hc3, w1, q1, w2, w3, q3, w4, w5, w6, w7, w8, w9, w10, w11, hmw, h6, d17, d58]; (repeat' (first | refine hK _ _ ?_ | refine And.intro ?_ ?_ | intro hc)) <;> (try clear hK K) <;> (try subst_vars))
          | (refine wreg (mos := q31_1) hE [1, 3, 4, 5, 7, 10, 11] (by kernel_rfl) ?_; intro K hK; simp [q31_1, hb, hc3, w1, q1, w2, w3, q3, w4, w5, w6, w7, w8, w9, w10, w11, hmw, h6, d17, d58]; (repeat' (first | refine hK _ _ ?_ | refine And.intro ?_ ?_ | intro hc)) <;> (try clear hK K) <;> (try subst_vars))
          | (refine wreg (mos := q31_2) hE [1, 3, 4, 5, 7, 10, 11] (by kernel_rfl) ?_; intro K hK; simp [q31_2, hb, hc3, w1, q1, w2, w3, q3, w4, w5, w6, w7, w8, w9, w10, w11, hmw, h6, d17, d58]; (repeat' (first | refine hK _ _ ?_ | refine And.intro ?_ ?_ | intro hc)) <;> (try clear hK K) <;> (try subst_vars))
          | (refine wreg (mos := q31_3) hE [1, 3, 4, 5, 7, 10, 11, 25] (by kernel_rfl) ?_; intro K hK; simp [q31_3, hb, hc3, w1, q1, w2, w3, q3, w4, w5, w6, w7, w8, w9, w10, w11, hmw, h6, d17, d58]; (repeat' (first | refine hK _ _ ?_ | refine And.intro ?_ ?_ | intro hc)) <;> (try clear hK K) <;> (try subst_vars))
          | (refine wreg (mos := q31_4) hE [1, 3, 4, 5, 7, 10, 11] (by kernel_rfl) ?_; intro K hK; simp [q31_4, hb, hc3, w1, q1, w2, w3, q3, w4, w5, w6, w7, w8, w9, w10, w11, hmw, h6, d17, d58]; (repeat' (first | refine hK _ _ ?_ | refine And.intro ?_ ?_ | intro hc)) <;> (try clear hK K) <;> (try subst_vars))
          | (refine wreg (mos := q31_5) hE [1, 3, 4, 5, 7, 10, 11] (by kernel_rfl) ?_; intro K hK; simp [q31_5, hb, hc3, w1, q1, w2, w3, q3, w4, w5, w6, w7, w8, w9, w10, w11, hmw, h6, d17, d58]; (repeat' (first | refine hK _ _ ?_ | refine And.intro ?_ ?_ | intro hc)) <;> (try clear hK K) <;> (try subst_vars))
          | (refine wreg (mos := q31_6) hE [1, 3, 4, 7, 10, 11] (by kernel_rfl) ?_; intro K hK; simp [q31_6, hb, hc3, w1, q1, w2, w3, q3, w4, w5, w6, w7, w8, w9, w10, w11, hmw, h6, d17, d58]; (repeat' (first | refine hK _ _ ?_ | refine And.intro ?_ ?_ | intro hc)) <;> (try clear hK K) <;> (try subst_vars))
          | (refine wreg (mos := q31_7) hE [1, 3, 4, 7, 10, 11] (by kernel_rfl) ?_; intro K hK; simp [q31_7, hb, hc3, w1, q1, w2, w3, q3, w4, w5, w6, w7, w8, w9, w10, w11, hmw, h6, d17, d58]; (repeat' (first | refine hK _ _ ?_ | refine And.intro ?_ ?_ | intro hc)) <;> (try clear hK K) <;> (try subst_vars))
          | (refine wdraw (mos := q31_8) hE mixT c31_8 [1, 3, 4, 10, 11] (by kernel_rfl) ?_; intro K hK; simp [q31_8, c31_8, hb, hc3, w1, q1, w2, w3, q3, w4, w5, w6, w7, w8, w9, w10, w11, hmw, h6, d17, d58]; (repeat' (first | refine hK _ _ ?_ | refine And.intro ?_ ?_ | intro hc)) <;> (try clear hK K) <;> (try subst_vars))
          | (refine wreg (mos := q31_9) hE [1, 3, 4, 10, 11] (by kernel_rfl) ?_; intro K hK; simp [q31_9, hb, hc3, w1, q1, w2, w3, q3, w4, w5, w6, w7, w8, w9, w10, w11, hmw, h6, d17, d58]; (repeat' (first | refine hK _ _ ?_ | refine And.intro ?_ ?_ | intro hc)) <;> (try clear hK K) <;> (try subst_vars))
          | (refine wreg (mos := q31_10) hE [1, 3, 10, 11] (by kernel_rfl) ?_; intro K hK; simp [q31_10, hb, hc3, w1, q1, w2, w3, q3, w4, w5, w6, w7, w8, w9, w10, w11, hmw, h6, d17, d58]; (repeat' (first | refine hK _ _ ?_ | refine And.intro ?_ ?_ | intro hc)) <;> (try clear hK K) <;> (try subst_vars))
          | (refine wreg (mos := q31_11) hE [1, 3, 10, 11, 75] (by kernel_rfl) ?_; intro K hK; simp [q31_11, hb, hc3, w1, q1, w2, w3, q3, w4, w5, w6, w7, w8, w9, w10, w11, hmw, h6, d17, d58]; (repeat' (first | refine hK _ _ ?_ | refine And.intro ?_ ?_ | intro hc)) <;> (try clear hK K) <;> (try subst_vars))
          | (refine wreg (mos := q31_12) hE [10, 11] (by kernel_rfl) ?_; intro K hK; simp [q31_12, hb, hc3, w1, q1, w2, w3, q3, w4, w5, w6, w7, w8, w9, w10, w11, hmw, h6, d17, d58]; (repeat' (first | refine hK _ _ ?_ | refine And.intro ?_ ?_ | intro hc)) <;> (try clear hK K) <;> (try subst_vars))
          | (refine wreg (mos := q31_13) hE [10] (by kernel_rfl) ?_; intro K hK; simp [q31_13, hb, hc3, w1, q1, w2, w3, q3, w4, w5, w6, w7, w8, w9, w10, w11, hmw, h6, d17, d58]; (repeat' (first | refine hK _ _ ?_ | refine And.intro ?_ ?_ | intro hc)) <;> (try clear hK K) <;> (try subst_vars))
          | (refine Wm_cond (b := _) (by with_unfolding_all rfl) (fun hc => ?_) (fun hc => ?_) <;> simp at hc <;> (try subst_vars)))
        all_goals first | (simp; done) | (simp [askV, askS, hkd]; refine Imp.auto (by kernel_rfl) ?_ ?_ <;> simp [nmap, lkp, mkPl, prs, prsL, prT, ddL, idL, NLe, CRenL, CRen, Ren, RenL, NObj.none, askV, askS, hkd] <;> (try unfold holdZ) <;> (try grind))
      · have hkd : kindZ s = 3 := by simp [kindZ, pickZ, h6]
        unfold m31
        repeat' with_reducible (first
          | refine Wm_seq ?_
          | refine Wm_skip ?_
          | refine Wm_ret ?_
          | refine Wm_block ?_
          | refine Wm_exit ?_
          | refine thenK_normal ?_
          | refine thenK_ret ?_
          | refine thenK_exit ?_
          | refine blockK_normal ?_
          | refine blockK_ret ?_
          | refine blockK_here ?_
          | refine loopK_ret ?_
          | refine loopK_exit ?_
          | refine unK_ret ?_
          | refine unK_exit ?_
          | refine unK_normal ?_
          | refine loopOk_succ ?_
          | refine blockK_exit (by decide) ?_
          | (refine wreg (mos := q31_0) hE [1, 3, 4, 5, 7, 10] (by kernel_rfl) ?_; intro K hK; simp [q31_0, hb, hc3, w1, q1, w2, w3, q3, w4, w5, w6, w7, w8, w9, w10, w11, hmw, h6, d17, d58]; (repeat' (first | refine hK _ _ ?_ | refine And.intro ?_ ?_ | intro hc)) <;> (try clear hK K) <;> (try subst_vars))
          | (refine wreg (mos := q31_1) hE [1, 3, 4, 5, 7, 10, 11] (by kernel_rfl) ?_; intro K hK; simp [q31_1, hb, hc3, w1, q1, w2, w3, q3, w4, w5, w6, w7, w8, w9, w10, w11, hmw, h6, d17, d58]; (repeat' (first | refine hK _ _ ?_ | refine And.intro ?_ ?_ | intro hc)) <;> (try clear hK K) <;> (try subst_vars))
          | (refine wreg (mos := q31_2) hE [1, 3, 4, 5, 7, 10, 11] (by kernel_rfl) ?_; intro K hK; simp [q31_2, hb, hc3, w1, q1, w2, w3, q3, w4, w5, w6, w7, w8, w9, w10, w11, hmw, h6, d17, d58]; (repeat' (first | refine hK _ _ ?_ | refine And.intro ?_ ?_ | intro hc)) <;> (try clear hK K) <;> (try subst_vars))
          | (refine wreg (mos := q31_3) hE [1, 3, 4, 5, 7, 10, 11, 25] (by kernel_rfl) ?_; intro K hK; simp [q31_3, hb, hc3, w1, q1, w2, w3, q3, w4, w5, w6, w7, w8, w9, w10, w11, hmw, h6, d17, d58]; (repeat' (first | refine hK _ _ ?_ | refine And.intro ?_ ?_ | intro hc)) <;> (try clear hK K) <;> (try subst_vars))
          | (refine wreg (mos := q31_4) hE [1, 3, 4, 5, 7, 10, 11] (by kernel_rfl) ?_; intro K hK; simp [q31_4, hb, hc3, w1, q1, w2, w3, q3, w4, w5, w6, w7, w8, w9, w10, w11, hmw, h6, d17, d58]; (repeat' (first | refine hK _ _ ?_ | refine And.intro ?_ ?_ | intro hc)) <;> (try clear hK K) <;> (try subst_vars))
          | (refine wreg (mos := q31_5) hE [1, 3, 4, 5, 7, 10, 11] (by kernel_rfl) ?_; intro K hK; simp [q31_5, hb, hc3, w1, q1, w2, w3, q3, w4, w5, w6, w7, w8, w9, w10, w11, hmw, h6, d17, d58]; (repeat' (first | refine hK _ _ ?_ | refine And.intro ?_ ?_ | intro hc)) <;> (try clear hK K) <;> (try subst_vars))
          | (refine wreg (mos := q31_6) hE [1, 3, 4, 7, 10, 11] (by kernel_rfl) ?_; intro K hK; simp [q31_6, hb, hc3, w1, q1, w2, w3, q3, w4, w5, w6, w7, w8, w9, w10, w11, hmw, h6, d17, d58]; (repeat' (first | refine hK _ _ ?_ | refine And.intro ?_ ?_ | intro hc)) <;> (try clear hK K) <;> (try subst_vars))
          | (refine wreg (mos := q31_7) hE [1, 3, 4, 7, 10, 11] (by kernel_rfl) ?_; intro K hK; simp [q31_7, hb, hc3, w1, q1, w2, w3, q3, w4, w5, w6, w7, w8, w9, w10, w11, hmw, h6, d17, d58]; (repeat' (first | refine hK _ _ ?_ | refine And.intro ?_ ?_ | intro hc)) <;> (try clear hK K) <;> (try subst_vars))
          | (refine wdraw (mos := q31_8) hE mixT c31_8 [1, 3, 4, 10, 11] (by kernel_rfl) ?_; intro K hK; simp [q31_8, c31_8, hb, hc3, w1, q1, w2, w3, q3, w4, w5, w6, w7, w8, w9, w10, w11, hmw, h6, d17, d58]; (repeat' (first | refine hK _ _ ?_ | refine And.intro ?_ ?_ | intro hc)) <;> (try clear hK K) <;> (try subst_vars))
          | (refine wreg (mos := q31_9) hE [1, 3, 4, 10, 11] (by kernel_rfl) ?_; intro K hK; simp [q31_9, hb, hc3, w1, q1, w2, w3, q3, w4, w5, w6, w7, w8, w9, w10, w11, hmw, h6, d17, d58]; (repeat' (first | refine hK _ _ ?_ | refine And.intro ?_ ?_ | intro hc)) <;> (try clear hK K) <;> (try subst_vars))
          | (refine wreg (mos := q31_10) hE [1, 3, 10, 11] (by kernel_rfl) ?_; intro K hK; simp [q31_10, hb, hc3, w1, q1, w2, w3, q3, w4, w5, w6, w7, w8, w9, w10, w11, hmw, h6, d17, d58]; (repeat' (first | refine hK _ _ ?_ | refine And.intro ?_ ?_ | intro hc)) <;> (try clear hK K) <;> (try subst_vars))
          | (refine wreg (mos := q31_11) hE [1, 3, 10, 11, 75] (by kernel_rfl) ?_; intro K hK; simp [q31_11, hb, hc3, w1, q1, w2, w3, q3, w4, w5, w6, w7, w8, w9, w10, w11, hmw, h6, d17, d58]; (repeat' (first | refine hK _ _ ?_ | refine And.intro ?_ ?_ | intro hc)) <;> (try clear hK K) <;> (try subst_vars))
          | (refine wreg (mos := q31_12) hE [10, 11] (by kernel_rfl) ?_; intro K hK; simp [q31_12, hb, hc3, w1, q1, w2, w3, q3, w4, w5, w6, w7, w8, w9, w10, w11, hmw, h6, d17, d58]; (repeat' (first | refine hK _ _ ?_ | refine And.intro ?_ ?_ | intro hc)) <;> (try clear hK K) <;> (try subst_vars))
          | (refine wreg (mos := q31_13) hE [10] (by kernel_rfl) ?_; intro K hK; simp [q31_13, hb, hc3, w1, q1, w2, w3, q3, w4, w5, w6, w7, w8, w9, w10, w11, hmw, h6, d17, d58]; (repeat' (first | refine hK _ _ ?_ | refine And.intro ?_ ?_ | intro hc)) <;> (try clear hK K) <;> (try subst_vars))
          | (refine Wm_cond (b := _) (by with_unfolding_all rfl) (fun hc => ?_) (fun hc => ?_) <;> simp at hc <;> (try subst_vars)))
        all_goals first | (simp; done) | (simp [askV, askS, hkd]; refine Imp.auto (by kernel_rfl) ?_ ?_ <;> simp [nmap, lkp, mkPl, prs, prsL, prT, ddL, idL, NLe, CRenL, CRen, Ren, RenL, NObj.none, askV, askS, hkd] <;> (try unfold holdZ) <;> (try grind))
      · have hkd : kindZ s = 4 := by simp [kindZ, pickZ, h6]
        unfold m31
        repeat' with_reducible (first
          | refine Wm_seq ?_
          | refine Wm_skip ?_
          | refine Wm_ret ?_
          | refine Wm_block ?_
          | refine Wm_exit ?_
          | refine thenK_normal ?_
          | refine thenK_ret ?_
          | refine thenK_exit ?_
          | refine blockK_normal ?_
          | refine blockK_ret ?_
          | refine blockK_here ?_
          | refine loopK_ret ?_
          | refine loopK_exit ?_
          | refine unK_ret ?_
          | refine unK_exit ?_
          | refine unK_normal ?_
          | refine loopOk_succ ?_
          | refine blockK_exit (by decide) ?_
          | (refine wreg (mos := q31_0) hE [1, 3, 4, 5, 7, 10] (by kernel_rfl) ?_; intro K hK; simp [q31_0, hb, hc3, w1, q1, w2, w3, q3, w4, w5, w6, w7, w8, w9, w10, w11, hmw, h6, d17, d58]; (repeat' (first | refine hK _ _ ?_ | refine And.intro ?_ ?_ | intro hc)) <;> (try clear hK K) <;> (try subst_vars))
          | (refine wreg (mos := q31_1) hE [1, 3, 4, 5, 7, 10, 11] (by kernel_rfl) ?_; intro K hK; simp [q31_1, hb, hc3, w1, q1, w2, w3, q3, w4, w5, w6, w7, w8, w9, w10, w11, hmw, h6, d17, d58]; (repeat' (first | refine hK _ _ ?_ | refine And.intro ?_ ?_ | intro hc)) <;> (try clear hK K) <;> (try subst_vars))
          | (refine wreg (mos := q31_2) hE [1, 3, 4, 5, 7, 10, 11] (by kernel_rfl) ?_; intro K hK; simp [q31_2, hb, hc3, w1, q1, w2, w3, q3, w4, w5, w6, w7, w8, w9, w10, w11, hmw, h6, d17, d58]; (repeat' (first | refine hK _ _ ?_ | refine And.intro ?_ ?_ | intro hc)) <;> (try clear hK K) <;> (try subst_vars))
          | (refine wreg (mos := q31_3) hE [1, 3, 4, 5, 7, 10, 11, 25] (by kernel_rfl) ?_; intro K hK; simp [q31_3, hb, hc3, w1, q1, w2, w3, q3, w4, w5, w6, w7, w8, w9, w10, w11, hmw, h6, d17, d58]; (repeat' (first | refine hK _ _ ?_ | refine And.intro ?_ ?_ | intro hc)) <;> (try clear hK K) <;> (try subst_vars))
          | (refine wreg (mos := q31_4) hE [1, 3, 4, 5, 7, 10, 11] (by kernel_rfl) ?_; intro K hK; simp [q31_4, hb, hc3, w1, q1, w2, w3, q3, w4, w5, w6, w7, w8, w9, w10, w11, hmw, h6, d17, d58]; (repeat' (first | refine hK _ _ ?_ | refine And.intro ?_ ?_ | intro hc)) <;> (try clear hK K) <;> (try subst_vars))
          | (refine wreg (mos := q31_5) hE [1, 3, 4, 5, 7, 10, 11] (by kernel_rfl) ?_; intro K hK; simp [q31_5, hb, hc3, w1, q1, w2, w3, q3, w4, w5, w6, w7, w8, w9, w10, w11, hmw, h6, d17, d58]; (repeat' (first | refine hK _ _ ?_ | refine And.intro ?_ ?_ | intro hc)) <;> (try clear hK K) <;> (try subst_vars))
          | (refine wreg (mos := q31_6) hE [1, 3, 4, 7, 10, 11] (by kernel_rfl) ?_; intro K hK; simp [q31_6, hb, hc3, w1, q1, w2, w3, q3, w4, w5, w6, w7, w8, w9, w10, w11, hmw, h6, d17, d58]; (repeat' (first | refine hK _ _ ?_ | refine And.intro ?_ ?_ | intro hc)) <;> (try clear hK K) <;> (try subst_vars))
          | (refine wreg (mos := q31_7) hE [1, 3, 4, 7, 10, 11] (by kernel_rfl) ?_; intro K hK; simp [q31_7, hb, hc3, w1, q1, w2, w3, q3, w4, w5, w6, w7, w8, w9, w10, w11, hmw, h6, d17, d58]; (repeat' (first | refine hK _ _ ?_ | refine And.intro ?_ ?_ | intro hc)) <;> (try clear hK K) <;> (try subst_vars))
          | (refine wdraw (mos := q31_8) hE mixT c31_8 [1, 3, 4, 10, 11] (by kernel_rfl) ?_; intro K hK; simp [q31_8, c31_8, hb, hc3, w1, q1, w2, w3, q3, w4, w5, w6, w7, w8, w9, w10, w11, hmw, h6, d17, d58]; (repeat' (first | refine hK _ _ ?_ | refine And.intro ?_ ?_ | intro hc)) <;> (try clear hK K) <;> (try subst_vars))
          | (refine wreg (mos := q31_9) hE [1, 3, 4, 10, 11] (by kernel_rfl) ?_; intro K hK; simp [q31_9, hb, hc3, w1, q1, w2, w3, q3, w4, w5, w6, w7, w8, w9, w10, w11, hmw, h6, d17, d58]; (repeat' (first | refine hK _ _ ?_ | refine And.intro ?_ ?_ | intro hc)) <;> (try clear hK K) <;> (try subst_vars))
          | (refine wreg (mos := q31_10) hE [1, 3, 10, 11] (by kernel_rfl) ?_; intro K hK; simp [q31_10, hb, hc3, w1, q1, w2, w3, q3, w4, w5, w6, w7, w8, w9, w10, w11, hmw, h6, d17, d58]; (repeat' (first | refine hK _ _ ?_ | refine And.intro ?_ ?_ | intro hc)) <;> (try clear hK K) <;> (try subst_vars))
          | (refine wreg (mos := q31_11) hE [1, 3, 10, 11, 75] (by kernel_rfl) ?_; intro K hK; simp [q31_11, hb, hc3, w1, q1, w2, w3, q3, w4, w5, w6, w7, w8, w9, w10, w11, hmw, h6, d17, d58]; (repeat' (first | refine hK _ _ ?_ | refine And.intro ?_ ?_ | intro hc)) <;> (try clear hK K) <;> (try subst_vars))
          | (refine wreg (mos := q31_12) hE [10, 11] (by kernel_rfl) ?_; intro K hK; simp [q31_12, hb, hc3, w1, q1, w2, w3, q3, w4, w5, w6, w7, w8, w9, w10, w11, hmw, h6, d17, d58]; (repeat' (first | refine hK _ _ ?_ | refine And.intro ?_ ?_ | intro hc)) <;> (try clear hK K) <;> (try subst_vars))
          | (refine wreg (mos := q31_13) hE [10] (by kernel_rfl) ?_; intro K hK; simp [q31_13, hb, hc3, w1, q1, w2, w3, q3, w4, w5, w6, w7, w8, w9, w10, w11, hmw, h6, d17, d58]; (repeat' (first | refine hK _ _ ?_ | refine And.intro ?_ ?_ | intro hc)) <;> (try clear hK K) <;> (try subst_vars))
          | (refine Wm_cond (b := _) (by with_unfolding_all rfl) (fun hc => ?_) (fun hc => ?_) <;> simp at hc <;> (try subst_vars)))
        all_goals first | (simp; done) | (simp [askV, askS, hkd]; refine Imp.auto (by kernel_rfl) ?_ ?_ <;> simp [nmap, lkp, mkPl, prs, prsL, prT, ddL, idL, NLe, CRenL, CRen, Ren, RenL, NObj.none, askV, askS, hkd] <;> (try unfold holdZ) <;> (try grind))
    · cases h
  · cases h
end Go.W
