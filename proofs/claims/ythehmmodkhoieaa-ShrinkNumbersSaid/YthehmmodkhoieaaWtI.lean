import Derived.Test.YthehmmodkhoieaaWtH
namespace Go.W
open Go.Proofs
set_option linter.unusedSimpArgs false
set_option linter.unusedVariables false
set_option maxHeartbeats 8000000
attribute [local irreducible] Wm

theorem wrap_inU {n : Int} (h : 0 ≤ n) (h' : n ≤ 18446744073709551615) : IntKind.wrap .u64 n = n := by
  have : (n % 18446744073709551616 : Int) = n := Int.emod_eq_of_lt h (by omega)
  simp [IntKind.wrap, IntKind.bits, IntKind.signed, this]

/-- What a clock shows behind a step. -/
def clockZ (x y : Int) : Int := if 1000000 < x + y then 1000000 else x + y

def d83 : List AV → Option Ans
  | [.int .u64 top, .os _ _ [[.int .u64 x], [.int .u64 y]]] => if top = 1000000 ∧ 0 ≤ x ∧ x ≤ 1000000 ∧ 1 ≤ y ∧ y ≤ 3 then some ⟨.int .u64 (clockZ x y), [.free]⟩ else none
  | _ => none

theorem ok83 : NOk [(1, false)] d83 := by
  intro xs a h
  unfold d83 at h
  (repeat' (split at h)) <;> first | (cases h; done) | (injection h with h; subst h; refine ⟨Ends_of ?_, ?_⟩ <;> simp)
theorem s83 : Sound Try.prog 83 (nestS [(1, false)] d83 ok83) := by
  refine nest_sound Try.func83 nm83 rc83 rv83 ok83 (fun xs a h => ?_) fun xs a h w0 S hS => ?_
  · unfold d83 at h
    (repeat' (split at h)) <;> first | (cases h; done) | exact Nat.le_of_ble_eq_true rfl
  unfold d83 at h
  split at h
  · split at h
    · rename_i top t1 s1 x y hcond
      injection h with h
      subst h
      have hE : SoundAll Try.prog (EL []) := EL_sound (by simp)
      obtain ⟨rfl, hx0, hx1, hy0, hy1⟩ := hcond
      unfold m83
      repeat' with_reducible (first
        | refine Wm_seq ?_
        | refine Wm_skip ?_
        | refine Wm_ret ?_
        | refine Wm_block ?_
        | refine Wm_exit ?_
        | refine thenK_normal ?_
        | refine thenK_ret ?_
        | refine thenK_exit ?_
        | refine blockK_normal ?_
        | refine blockK_ret ?_
        | refine blockK_here ?_
        | refine loopK_ret ?_
        | refine loopK_exit ?_
        | refine unK_ret ?_
        | refine unK_exit ?_
        | refine unK_normal ?_
        | refine loopOk_succ ?_
        | refine blockK_exit (by decide) ?_
        | (refine wreg (mos := q83_0) hE [0, 1] (by kernel_rfl) ?_; intro K hK; simp [q83_0]; (repeat' (first | refine hK _ _ ?_ | refine And.intro ?_ ?_ | intro hc)) <;> (try clear hK K) <;> (try subst_vars))
        | (refine wreg (mos := q83_1) hE [0, 1, 5] (by kernel_rfl) ?_; intro K hK; simp [q83_1]; (repeat' (first | refine hK _ _ ?_ | refine And.intro ?_ ?_ | intro hc)) <;> (try clear hK K) <;> (try subst_vars))
        | (refine wreg (mos := q83_2) hE [0, 5, 8, 9, 10] (by kernel_rfl) ?_; intro K hK; simp [q83_2]; (repeat' (first | refine hK _ _ ?_ | refine And.intro ?_ ?_ | intro hc)) <;> (try clear hK K) <;> (try subst_vars))
        | (refine wreg (mos := q83_3) hE [0, 5, 8, 9, 10, 11, 18, 19, 20, 21, 22] (by kernel_rfl) ?_; intro K hK; simp [q83_3]; (repeat' (first | refine hK _ _ ?_ | refine And.intro ?_ ?_ | intro hc)) <;> (try clear hK K) <;> (try subst_vars))
        | (refine wreg (mos := q83_4) hE [0, 5, 7, 8, 9, 10, 18, 19, 20, 21, 22] (by kernel_rfl) ?_; intro K hK; simp [q83_4]; (repeat' (first | refine hK _ _ ?_ | refine And.intro ?_ ?_ | intro hc)) <;> (try clear hK K) <;> (try subst_vars))
        | (refine wreg (mos := q83_5) hE [0, 5, 7, 8, 9, 10, 18, 19, 20, 21, 22, 23] (by kernel_rfl) ?_; intro K hK; simp [q83_5]; (repeat' (first | refine hK _ _ ?_ | refine And.intro ?_ ?_ | intro hc)) <;> (try clear hK K) <;> (try subst_vars))
        | (refine wreg (mos := q83_6) hE [4] (by kernel_rfl) ?_; intro K hK; simp [q83_6]; (repeat' (first | refine hK _ _ ?_ | refine And.intro ?_ ?_ | intro hc)) <;> (try clear hK K) <;> (try subst_vars))
        | (refine wreg (mos := q83_7) hE [0, 5, 8, 9, 10, 18, 19, 20, 21, 22] (by kernel_rfl) ?_; intro K hK; simp [q83_7]; (repeat' (first | refine hK _ _ ?_ | refine And.intro ?_ ?_ | intro hc)) <;> (try clear hK K) <;> (try subst_vars))
        | (refine wreg (mos := q83_8) hE [0, 5, 8, 9, 10, 18, 19, 20, 21, 22] (by kernel_rfl) ?_; intro K hK; simp [q83_8]; (repeat' (first | refine hK _ _ ?_ | refine And.intro ?_ ?_ | intro hc)) <;> (try clear hK K) <;> (try subst_vars))
        | (refine wreg (mos := q83_9) hE [4] (by kernel_rfl) ?_; intro K hK; simp [q83_9]; (repeat' (first | refine hK _ _ ?_ | refine And.intro ?_ ?_ | intro hc)) <;> (try clear hK K) <;> (try subst_vars))
        | (refine Wm_cond (b := _) (by with_unfolding_all rfl) (fun hc => ?_) (fun hc => ?_) <;> simp at hc <;> (try subst_vars)))
      all_goals refine Wm_unroll 3 ?_
      have w1 : IntKind.wrap .u64 x = x := wrap_inU (by omega) (by omega)
      have w2 : IntKind.wrap .u64 (x + y) = x + y := wrap_inU (by omega) (by omega)
      have w3 : IntKind.wrap .u64 (1000000 - x) = 1000000 - x := wrap_inU (by omega) (by omega)
      have w4 : IntKind.wrap .u64 (1000000 - y) = 1000000 - y := wrap_inU (by omega) (by omega)
      have g1 : ¬ 1000000 < x := by omega
      have g2 : ¬ 1000000 < y := by omega
      have g3 : ¬ 1000000 - x < 0 := by omega
      have g4 : ¬ x < 0 := by omega
      by_cases hq : 1000000 - y < x
      · repeat' with_reducible (first
          | refine Wm_seq ?_
          | refine Wm_skip ?_
          | refine Wm_ret ?_
          | refine Wm_block ?_
          | refine Wm_exit ?_
          | refine thenK_normal ?_
          | refine thenK_ret ?_
          | refine thenK_exit ?_
          | refine blockK_normal ?_
          | refine blockK_ret ?_
          | refine blockK_here ?_
          | refine loopK_ret ?_
          | refine loopK_exit ?_
          | refine unK_ret ?_
          | refine unK_exit ?_
          | refine unK_normal ?_
          | refine loopOk_succ ?_
          | refine blockK_exit (by decide) ?_
          | (refine wreg (mos := q83_0) hE [0, 1] (by kernel_rfl) ?_; intro K hK; simp [q83_0, wrap_in, w1, w2, w3, w4, g1, g2, g3, g4, hq]; (repeat' (first | refine hK _ _ ?_ | refine And.intro ?_ ?_ | intro hc)) <;> (try clear hK K) <;> (try subst_vars))
          | (refine wreg (mos := q83_1) hE [0, 1, 5] (by kernel_rfl) ?_; intro K hK; simp [q83_1, wrap_in, w1, w2, w3, w4, g1, g2, g3, g4, hq]; (repeat' (first | refine hK _ _ ?_ | refine And.intro ?_ ?_ | intro hc)) <;> (try clear hK K) <;> (try subst_vars))
          | (refine wreg (mos := q83_2) hE [0, 5, 8, 9, 10] (by kernel_rfl) ?_; intro K hK; simp [q83_2, wrap_in, w1, w2, w3, w4, g1, g2, g3, g4, hq]; (repeat' (first | refine hK _ _ ?_ | refine And.intro ?_ ?_ | intro hc)) <;> (try clear hK K) <;> (try subst_vars))
          | (refine wreg (mos := q83_3) hE [0, 5, 8, 9, 10, 11, 18, 19, 20, 21, 22] (by kernel_rfl) ?_; intro K hK; simp [q83_3, wrap_in, w1, w2, w3, w4, g1, g2, g3, g4, hq]; (repeat' (first | refine hK _ _ ?_ | refine And.intro ?_ ?_ | intro hc)) <;> (try clear hK K) <;> (try subst_vars))
          | (refine wreg (mos := q83_4) hE [0, 5, 7, 8, 9, 10, 18, 19, 20, 21, 22] (by kernel_rfl) ?_; intro K hK; simp [q83_4, wrap_in, w1, w2, w3, w4, g1, g2, g3, g4, hq]; (repeat' (first | refine hK _ _ ?_ | refine And.intro ?_ ?_ | intro hc)) <;> (try clear hK K) <;> (try subst_vars))
          | (refine wreg (mos := q83_5) hE [0, 5, 7, 8, 9, 10, 18, 19, 20, 21, 22, 23] (by kernel_rfl) ?_; intro K hK; simp [q83_5, wrap_in, w1, w2, w3, w4, g1, g2, g3, g4, hq]; (repeat' (first | refine hK _ _ ?_ | refine And.intro ?_ ?_ | intro hc)) <;> (try clear hK K) <;> (try subst_vars))
          | (refine wreg (mos := q83_6) hE [4] (by kernel_rfl) ?_; intro K hK; simp [q83_6, wrap_in, w1, w2, w3, w4, g1, g2, g3, g4, hq]; (repeat' (first | refine hK _ _ ?_ | refine And.intro ?_ ?_ | intro hc)) <;> (try clear hK K) <;> (try subst_vars))
          | (refine wreg (mos := q83_7) hE [0, 5, 8, 9, 10, 18, 19, 20, 21, 22] (by kernel_rfl) ?_; intro K hK; simp [q83_7, wrap_in, w1, w2, w3, w4, g1, g2, g3, g4, hq]; (repeat' (first | refine hK _ _ ?_ | refine And.intro ?_ ?_ | intro hc)) <;> (try clear hK K) <;> (try subst_vars))
          | (refine wreg (mos := q83_8) hE [0, 5, 8, 9, 10, 18, 19, 20, 21, 22] (by kernel_rfl) ?_; intro K hK; simp [q83_8, wrap_in, w1, w2, w3, w4, g1, g2, g3, g4, hq]; (repeat' (first | refine hK _ _ ?_ | refine And.intro ?_ ?_ | intro hc)) <;> (try clear hK K) <;> (try subst_vars))
          | (refine wreg (mos := q83_9) hE [4] (by kernel_rfl) ?_; intro K hK; simp [q83_9, wrap_in, w1, w2, w3, w4, g1, g2, g3, g4, hq]; (repeat' (first | refine hK _ _ ?_ | refine And.intro ?_ ?_ | intro hc)) <;> (try clear hK K) <;> (try subst_vars))
          | (refine Wm_cond (b := _) (by with_unfolding_all rfl) (fun hc => ?_) (fun hc => ?_) <;> simp at hc <;> (try subst_vars)))
        all_goals first | (simp; done) | (simp at *; omega) | (simp [clockZ]; refine Imp.auto (by kernel_rfl) ?_ ?_ <;> simp [nmap, lkp, mkPl, prs, prsL, prT, ddL, idL, NLe, CRenL, CRen, Ren, RenL, NObj.none, clockZ] <;> (try grind) <;> (try omega))
      · repeat' with_reducible (first
          | refine Wm_seq ?_
          | refine Wm_skip ?_
          | refine Wm_ret ?_
          | refine Wm_block ?_
          | refine Wm_exit ?_
          | refine thenK_normal ?_
          | refine thenK_ret ?_
          | refine thenK_exit ?_
          | refine blockK_normal ?_
          | refine blockK_ret ?_
          | refine blockK_here ?_
          | refine loopK_ret ?_
          | refine loopK_exit ?_
          | refine unK_ret ?_
          | refine unK_exit ?_
          | refine unK_normal ?_
          | refine loopOk_succ ?_
          | refine blockK_exit (by decide) ?_
          | (refine wreg (mos := q83_0) hE [0, 1] (by kernel_rfl) ?_; intro K hK; simp [q83_0, wrap_in, w1, w2, w3, w4, g1, g2, g3, g4, hq]; (repeat' (first | refine hK _ _ ?_ | refine And.intro ?_ ?_ | intro hc)) <;> (try clear hK K) <;> (try subst_vars))
          | (refine wreg (mos := q83_1) hE [0, 1, 5] (by kernel_rfl) ?_; intro K hK; simp [q83_1, wrap_in, w1, w2, w3, w4, g1, g2, g3, g4, hq]; (repeat' (first | refine hK _ _ ?_ | refine And.intro ?_ ?_ | intro hc)) <;> (try clear hK K) <;> (try subst_vars))
          | (refine wreg (mos := q83_2) hE [0, 5, 8, 9, 10] (by kernel_rfl) ?_; intro K hK; simp [q83_2, wrap_in, w1, w2, w3, w4, g1, g2, g3, g4, hq]; (repeat' (first | refine hK _ _ ?_ | refine And.intro ?_ ?_ | intro hc)) <;> (try clear hK K) <;> (try subst_vars))
          | (refine wreg (mos := q83_3) hE [0, 5, 8, 9, 10, 11, 18, 19, 20, 21, 22] (by kernel_rfl) ?_; intro K hK; simp [q83_3, wrap_in, w1, w2, w3, w4, g1, g2, g3, g4, hq]; (repeat' (first | refine hK _ _ ?_ | refine And.intro ?_ ?_ | intro hc)) <;> (try clear hK K) <;> (try subst_vars))
          | (refine wreg (mos := q83_4) hE [0, 5, 7, 8, 9, 10, 18, 19, 20, 21, 22] (by kernel_rfl) ?_; intro K hK; simp [q83_4, wrap_in, w1, w2, w3, w4, g1, g2, g3, g4, hq]; (repeat' (first | refine hK _ _ ?_ | refine And.intro ?_ ?_ | intro hc)) <;> (try clear hK K) <;> (try subst_vars))
          | (refine wreg (mos := q83_5) hE [0, 5, 7, 8, 9, 10, 18, 19, 20, 21, 22, 23] (by kernel_rfl) ?_; intro K hK; simp [q83_5, wrap_in, w1, w2, w3, w4, g1, g2, g3, g4, hq]; (repeat' (first | refine hK _ _ ?_ | refine And.intro ?_ ?_ | intro hc)) <;> (try clear hK K) <;> (try subst_vars))
          | (refine wreg (mos := q83_6) hE [4] (by kernel_rfl) ?_; intro K hK; simp [q83_6, wrap_in, w1, w2, w3, w4, g1, g2, g3, g4, hq]; (repeat' (first | refine hK _ _ ?_ | refine And.intro ?_ ?_ | intro hc)) <;> (try clear hK K) <;> (try subst_vars))
          | (refine wreg (mos := q83_7) hE [0, 5, 8, 9, 10, 18, 19, 20, 21, 22] (by kernel_rfl) ?_; intro K hK; simp [q83_7, wrap_in, w1, w2, w3, w4, g1, g2, g3, g4, hq]; (repeat' (first | refine hK _ _ ?_ | refine And.intro ?_ ?_ | intro hc)) <;> (try clear hK K) <;> (try subst_vars))
          | (refine wreg (mos := q83_8) hE [0, 5, 8, 9, 10, 18, 19, 20, 21, 22] (by kernel_rfl) ?_; intro K hK; simp [q83_8, wrap_in, w1, w2, w3, w4, g1, g2, g3, g4, hq]; (repeat' (first | refine hK _ _ ?_ | refine And.intro ?_ ?_ | intro hc)) <;> (try clear hK K) <;> (try subst_vars))
          | (refine wreg (mos := q83_9) hE [4] (by kernel_rfl) ?_; intro K hK; simp [q83_9, wrap_in, w1, w2, w3, w4, g1, g2, g3, g4, hq]; (repeat' (first | refine hK _ _ ?_ | refine And.intro ?_ ?_ | intro hc)) <;> (try clear hK K) <;> (try subst_vars))
          | (refine Wm_cond (b := _) (by with_unfolding_all rfl) (fun hc => ?_) (fun hc => ?_) <;> simp at hc <;> (try subst_vars)))
        all_goals first | (simp; done) | (simp at *; omega) | (simp [clockZ]; refine Imp.auto (by kernel_rfl) ?_ ?_ <;> simp [nmap, lkp, mkPl, prs, prsL, prT, ddL, idL, NLe, CRenL, CRen, Ren, RenL, NObj.none, clockZ] <;> (try grind) <;> (try omega))
    · cases h
  · cases h

def d65 : List AV → Option Ans
  | [.op _ [.int .u64 x]] => if 0 ≤ x ∧ x ≤ 1000000 then some ⟨.int .i64 x, [.free]⟩ else none
  | _ => none

theorem ok65 : NOk [(1, false)] d65 := by
  intro xs a h
  unfold d65 at h
  (repeat' (split at h)) <;> first | (cases h; done) | (injection h with h; subst h; refine ⟨Ends_of ?_, ?_⟩ <;> simp)
theorem s65 : Sound Try.prog 65 (nestS [(1, false)] d65 ok65) := by
  refine nest_sound Try.func65 nm65 rc65 rv65 ok65 (fun xs a h => ?_) fun xs a h w0 S hS => ?_
  · unfold d65 at h
    (repeat' (split at h)) <;> first | (cases h; done) | exact Nat.le_of_ble_eq_true rfl
  unfold d65 at h
  split at h
  · split at h
    · rename_i t x hcond
      injection h with h
      subst h
      have hE : SoundAll Try.prog (EL []) := EL_sound (by simp)
      obtain ⟨hx0, hx1⟩ := hcond
      have w1 : IntKind.wrap .i64 x = x := wrap_in (by omega) (by omega)
      unfold m65
      repeat' with_reducible (first
        | refine Wm_seq ?_
        | refine Wm_skip ?_
        | refine Wm_ret ?_
        | refine Wm_block ?_
        | refine Wm_exit ?_
        | refine thenK_normal ?_
        | refine thenK_ret ?_
        | refine thenK_exit ?_
        | refine blockK_normal ?_
        | refine blockK_ret ?_
        | refine blockK_here ?_
        | refine loopK_ret ?_
        | refine loopK_exit ?_
        | refine unK_ret ?_
        | refine unK_exit ?_
        | refine unK_normal ?_
        | refine loopOk_succ ?_
        | refine blockK_exit (by decide) ?_
        | (refine wreg (mos := q65_0) hE [0] (by kernel_rfl) ?_; intro K hK; simp [q65_0, w1]; (repeat' (first | refine hK _ _ ?_ | refine And.intro ?_ ?_ | intro hc)) <;> (try clear hK K) <;> (try subst_vars))
        | (refine wreg (mos := q65_1) hE [0, 4] (by kernel_rfl) ?_; intro K hK; simp [q65_1, w1]; (repeat' (first | refine hK _ _ ?_ | refine And.intro ?_ ?_ | intro hc)) <;> (try clear hK K) <;> (try subst_vars))
        | (refine wreg (mos := q65_2) hE [2] (by kernel_rfl) ?_; intro K hK; simp [q65_2, w1]; (repeat' (first | refine hK _ _ ?_ | refine And.intro ?_ ?_ | intro hc)) <;> (try clear hK K) <;> (try subst_vars))
        | (refine wreg (mos := q65_3) hE [2] (by kernel_rfl) ?_; intro K hK; simp [q65_3, w1]; (repeat' (first | refine hK _ _ ?_ | refine And.intro ?_ ?_ | intro hc)) <;> (try clear hK K) <;> (try subst_vars))
        | (refine Wm_cond (b := _) (by with_unfolding_all rfl) (fun hc => ?_) (fun hc => ?_) <;> simp at hc <;> (try subst_vars)))
      all_goals first | (simp; done) | (simp at *; omega) | (simp[w1]; refine Imp.auto (by kernel_rfl) ?_ ?_ <;> simp [nmap, lkp, mkPl, prs, prsL, prT, ddL, idL, NLe, CRenL, CRen, Ren, RenL, NObj.none, w1])
    · cases h
  · cases h

theorem clock_in {x y : Int} (h0 : 0 ≤ x) (h1 : 1 ≤ y) : 0 ≤ clockZ x y ∧ clockZ x y ≤ 1000000 := by
  unfold clockZ
  split <;> omega

def d66 : List AV → Option Ans
  | [.op _ [.int .u64 x], .os _ _ [[.int .i64 y]]] => if 0 ≤ x ∧ x ≤ 1000000 ∧ 1 ≤ y ∧ y ≤ 3 then some ⟨.int .i64 (clockZ x y), [.cells 0 [.int .u64 (clockZ x y)], .free]⟩ else none
  | _ => none

theorem ok66 : NOk [(1, true), (1, false)] d66 := by
  intro xs a h
  unfold d66 at h
  (repeat' (split at h)) <;> first | (cases h; done) | (injection h with h; subst h; refine ⟨Ends_of ?_, ?_⟩ <;> simp)
theorem s66 : Sound Try.prog 66 (nestS [(1, true), (1, false)] d66 ok66) := by
  refine nest_sound Try.func66 nm66 rc66 rv66 ok66 (fun xs a h => ?_) fun xs a h w0 S hS => ?_
  · unfold d66 at h
    (repeat' (split at h)) <;> first | (cases h; done) | exact Nat.le_of_ble_eq_true rfl
  unfold d66 at h
  split at h
  · split at h
    · rename_i t x t1 s1 y hcond
      injection h with h
      subst h
      have hE : SoundAll Try.prog (EL [(83, nestS [(1, false)] d83 ok83)]) := EL_sound (by simp only [List.mem_cons, List.not_mem_nil, or_false, forall_eq_or_imp, forall_eq]; exact s83)
      obtain ⟨hx0, hx1, hy0, hy1⟩ := hcond
      obtain ⟨hz0, hz1⟩ := clock_in (x := x) (y := y) hx0 hy0
      have w1 : IntKind.wrap .u64 y = y := wrap_inU (by omega) (by omega)
      have w2 : IntKind.wrap .i64 (clockZ x y) = clockZ x y := wrap_in (by omega) (by omega)
      have g1 : 0 < y := by omega
      unfold m66
      repeat' with_reducible (first
        | refine Wm_seq ?_
        | refine Wm_skip ?_
        | refine Wm_ret ?_
        | refine Wm_block ?_
        | refine Wm_exit ?_
        | refine thenK_normal ?_
        | refine thenK_ret ?_
        | refine thenK_exit ?_
        | refine blockK_normal ?_
        | refine blockK_ret ?_
        | refine blockK_here ?_
        | refine loopK_ret ?_
        | refine loopK_exit ?_
        | refine unK_ret ?_
        | refine unK_exit ?_
        | refine unK_normal ?_
        | refine loopOk_succ ?_
        | refine blockK_exit (by decide) ?_
        | (refine wreg (mos := q66_0) hE [0, 1] (by kernel_rfl) ?_; intro K hK; simp [q66_0, w1, w2, d83]; (repeat' (first | refine hK _ _ ?_ | refine And.intro ?_ ?_ | intro hc)) <;> (try clear hK K) <;> (try subst_vars))
        | (refine wreg (mos := q66_1) hE [0, 1, 8] (by kernel_rfl) ?_; intro K hK; simp [q66_1, w1, w2, d83]; (repeat' (first | refine hK _ _ ?_ | refine And.intro ?_ ?_ | intro hc)) <;> (try clear hK K) <;> (try subst_vars))
        | (refine wreg (mos := q66_2) hE [4] (by kernel_rfl) ?_; intro K hK; simp [q66_2, w1, w2, d83]; (repeat' (first | refine hK _ _ ?_ | refine And.intro ?_ ?_ | intro hc)) <;> (try clear hK K) <;> (try subst_vars))
        | (refine wreg (mos := q66_3) hE [0, 9, 10, 11] (by kernel_rfl) ?_; intro K hK; simp [q66_3, w1, w2, d83]; (repeat' (first | refine hK _ _ ?_ | refine And.intro ?_ ?_ | intro hc)) <;> (try clear hK K) <;> (try subst_vars))
        | (refine wreg (mos := q66_4) hE [0, 9, 10, 11, 12] (by kernel_rfl) ?_; intro K hK; simp [q66_4, w1, w2, d83]; (repeat' (first | refine hK _ _ ?_ | refine And.intro ?_ ?_ | intro hc)) <;> (try clear hK K) <;> (try subst_vars))
        | (refine wreg (mos := q66_5) hE [0, 6, 9, 10, 11] (by kernel_rfl) ?_; intro K hK; simp [q66_5, w1, w2, d83]; (repeat' (first | refine hK _ _ ?_ | refine And.intro ?_ ?_ | intro hc)) <;> (try clear hK K) <;> (try subst_vars))
        | (refine wreg (mos := q66_6) hE [0, 6, 9, 10, 11, 16] (by kernel_rfl) ?_; intro K hK; simp [q66_6, w1, w2, d83]; (repeat' (first | refine hK _ _ ?_ | refine And.intro ?_ ?_ | intro hc)) <;> (try clear hK K) <;> (try subst_vars))
        | (refine wreg (mos := q66_7) hE [0, 9, 10, 11] (by kernel_rfl) ?_; intro K hK; simp [q66_7, w1, w2, d83]; (repeat' (first | refine hK _ _ ?_ | refine And.intro ?_ ?_ | intro hc)) <;> (try clear hK K) <;> (try subst_vars))
        | (refine wreg (mos := q66_8) hE [0, 9, 10, 11] (by kernel_rfl) ?_; intro K hK; simp [q66_8, w1, w2, d83]; (repeat' (first | refine hK _ _ ?_ | refine And.intro ?_ ?_ | intro hc)) <;> (try clear hK K) <;> (try subst_vars))
        | (refine wreg (mos := q66_9) hE [4] (by kernel_rfl) ?_; intro K hK; simp [q66_9, w1, w2, d83]; (repeat' (first | refine hK _ _ ?_ | refine And.intro ?_ ?_ | intro hc)) <;> (try clear hK K) <;> (try subst_vars))
        | (refine Wm_cond (b := _) (by with_unfolding_all rfl) (fun hc => ?_) (fun hc => ?_) <;> simp at hc <;> (try subst_vars)))
      all_goals refine Wm_unroll 2 ?_
      repeat' with_reducible (first
        | refine Wm_seq ?_
        | refine Wm_skip ?_
        | refine Wm_ret ?_
        | refine Wm_block ?_
        | refine Wm_exit ?_
        | refine thenK_normal ?_
        | refine thenK_ret ?_
        | refine thenK_exit ?_
        | refine blockK_normal ?_
        | refine blockK_ret ?_
        | refine blockK_here ?_
        | refine loopK_ret ?_
        | refine loopK_exit ?_
        | refine unK_ret ?_
        | refine unK_exit ?_
        | refine unK_normal ?_
        | refine loopOk_succ ?_
        | refine blockK_exit (by decide) ?_
        | (refine wreg (mos := q66_0) hE [0, 1] (by kernel_rfl) ?_; intro K hK; simp [q66_0, wrap_in, w1, w2, g1, hx0, hx1, hy0, hy1, d83]; (repeat' (first | refine hK _ _ ?_ | refine And.intro ?_ ?_ | intro hc)) <;> (try clear hK K) <;> (try subst_vars))
        | (refine wreg (mos := q66_1) hE [0, 1, 8] (by kernel_rfl) ?_; intro K hK; simp [q66_1, wrap_in, w1, w2, g1, hx0, hx1, hy0, hy1, d83]; (repeat' (first | refine hK _ _ ?_ | refine And.intro ?_ ?_ | intro hc)) <;> (try clear hK K) <;> (try subst_vars))
        | (refine wreg (mos := q66_2) hE [4] (by kernel_rfl) ?_; intro K hK; simp [q66_2, wrap_in, w1, w2, g1, hx0, hx1, hy0, hy1, d83]; (repeat' (first | refine hK _ _ ?_ | refine And.intro ?_ ?_ | intro hc)) <;> (try clear hK K) <;> (try subst_vars))
        | (refine wreg (mos := q66_3) hE [0, 9, 10, 11] (by kernel_rfl) ?_; intro K hK; simp [q66_3, wrap_in, w1, w2, g1, hx0, hx1, hy0, hy1, d83]; (repeat' (first | refine hK _ _ ?_ | refine And.intro ?_ ?_ | intro hc)) <;> (try clear hK K) <;> (try subst_vars))
        | (refine wreg (mos := q66_4) hE [0, 9, 10, 11, 12] (by kernel_rfl) ?_; intro K hK; simp [q66_4, wrap_in, w1, w2, g1, hx0, hx1, hy0, hy1, d83]; (repeat' (first | refine hK _ _ ?_ | refine And.intro ?_ ?_ | intro hc)) <;> (try clear hK K) <;> (try subst_vars))
        | (refine wreg (mos := q66_5) hE [0, 6, 9, 10, 11] (by kernel_rfl) ?_; intro K hK; simp [q66_5, wrap_in, w1, w2, g1, hx0, hx1, hy0, hy1, d83]; (repeat' (first | refine hK _ _ ?_ | refine And.intro ?_ ?_ | intro hc)) <;> (try clear hK K) <;> (try subst_vars))
        | (refine wreg (mos := q66_6) hE [0, 6, 9, 10, 11, 16] (by kernel_rfl) ?_; intro K hK; simp [q66_6, wrap_in, w1, w2, g1, hx0, hx1, hy0, hy1, d83]; (repeat' (first | refine hK _ _ ?_ | refine And.intro ?_ ?_ | intro hc)) <;> (try clear hK K) <;> (try subst_vars))
        | (refine wreg (mos := q66_7) hE [0, 9, 10, 11] (by kernel_rfl) ?_; intro K hK; simp [q66_7, wrap_in, w1, w2, g1, hx0, hx1, hy0, hy1, d83]; (repeat' (first | refine hK _ _ ?_ | refine And.intro ?_ ?_ | intro hc)) <;> (try clear hK K) <;> (try subst_vars))
        | (refine wreg (mos := q66_8) hE [0, 9, 10, 11] (by kernel_rfl) ?_; intro K hK; simp [q66_8, wrap_in, w1, w2, g1, hx0, hx1, hy0, hy1, d83]; (repeat' (first | refine hK _ _ ?_ | refine And.intro ?_ ?_ | intro hc)) <;> (try clear hK K) <;> (try subst_vars))
        | (refine wreg (mos := q66_9) hE [4] (by kernel_rfl) ?_; intro K hK; simp [q66_9, wrap_in, w1, w2, g1, hx0, hx1, hy0, hy1, d83]; (repeat' (first | refine hK _ _ ?_ | refine And.intro ?_ ?_ | intro hc)) <;> (try clear hK K) <;> (try subst_vars))
        | (refine Wm_cond (b := _) (by with_unfolding_all rfl) (fun hc => ?_) (fun hc => ?_) <;> simp at hc <;> (try subst_vars)))
      all_goals first | (simp; done) | (simp at *; omega) | (simp[w1, w2]; refine Imp.auto (by kernel_rfl) ?_ ?_ <;> simp [nmap, lkp, mkPl, prs, prsL, prT, ddL, idL, NLe, CRenL, CRen, Ren, RenL, NObj.none, w1, w2])
    · cases h
  · cases h
end Go.W
