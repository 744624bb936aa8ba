import Derived.Test.YthehmmodkhoieaaWtB
namespace Go.W
open Go.Proofs
set_option linter.unusedSimpArgs false
set_option linter.unusedVariables false
set_option maxHeartbeats 8000000
attribute [local irreducible] Wm

def holdZ (n low top : Int) : Int := if n < low then low else if top < n then top else n

def d58 : List AV → Option Ans
  | [.int .i64 n, .int .i64 low, .int .i64 top] => some ⟨.int .i64 (holdZ n low top), []⟩
  | _ => none

theorem ok58 : NOk [] d58 := by
  intro xs a h
  unfold d58 at h
  (repeat' (split at h)) <;> first | (cases h; done) | (injection h with h; subst h; refine ⟨Ends_of ?_, ?_⟩ <;> simp)
theorem s58 : Sound Try.prog 58 (nestS [] d58 ok58) := by
  refine nest_sound Try.func58 nm58 rc58 rv58 ok58 (fun xs a h => ?_) fun xs a h w0 S hS => ?_
  · unfold d58 at h
    (repeat' (split at h)) <;> first | (cases h; done) | exact Nat.le_of_ble_eq_true rfl
  unfold d58 at h
  split at h
  · skip
    injection h with h
    subst h
    have hE : SoundAll Try.prog (EL []) := EL_sound (by simp)
    unfold m58
    repeat' with_reducible (first
      | refine Wm_seq ?_
      | refine Wm_skip ?_
      | refine Wm_ret ?_
      | refine Wm_block ?_
      | refine Wm_exit ?_
      | refine thenK_normal ?_
      | refine thenK_ret ?_
      | refine thenK_exit ?_
      | refine blockK_normal ?_
      | refine blockK_ret ?_
      | refine blockK_here ?_
      | refine loopK_ret ?_
      | refine loopK_exit ?_
      | refine unK_ret ?_
      | refine unK_exit ?_
      | refine unK_normal ?_
      | refine loopOk_succ ?_
      | refine blockK_exit (by decide) ?_
      | (refine wreg (mos := q58_0) hE [0, 1, 2] (by kernel_rfl) ?_; intro K hK; simp [q58_0]; (repeat' (first | refine hK _ _ ?_ | refine And.intro ?_ ?_ | intro hc)) <;> (try clear hK K) <;> (try subst_vars))
      | (refine wreg (mos := q58_1) hE [0, 1, 2, 9] (by kernel_rfl) ?_; intro K hK; simp [q58_1]; (repeat' (first | refine hK _ _ ?_ | refine And.intro ?_ ?_ | intro hc)) <;> (try clear hK K) <;> (try subst_vars))
      | (refine wreg (mos := q58_2) hE [6] (by kernel_rfl) ?_; intro K hK; simp [q58_2]; (repeat' (first | refine hK _ _ ?_ | refine And.intro ?_ ?_ | intro hc)) <;> (try clear hK K) <;> (try subst_vars))
      | (refine wreg (mos := q58_3) hE [0, 2, 13] (by kernel_rfl) ?_; intro K hK; simp [q58_3]; (repeat' (first | refine hK _ _ ?_ | refine And.intro ?_ ?_ | intro hc)) <;> (try clear hK K) <;> (try subst_vars))
      | (refine wreg (mos := q58_4) hE [6] (by kernel_rfl) ?_; intro K hK; simp [q58_4]; (repeat' (first | refine hK _ _ ?_ | refine And.intro ?_ ?_ | intro hc)) <;> (try clear hK K) <;> (try subst_vars))
      | (refine wreg (mos := q58_5) hE [6] (by kernel_rfl) ?_; intro K hK; simp [q58_5]; (repeat' (first | refine hK _ _ ?_ | refine And.intro ?_ ?_ | intro hc)) <;> (try clear hK K) <;> (try subst_vars))
      | (refine Wm_cond (b := _) (by with_unfolding_all rfl) (fun hc => ?_) (fun hc => ?_) <;> simp at hc <;> (try subst_vars)))
    all_goals first | (simp; done) | (simp at *; omega) | (simp [holdZ]; refine Imp.auto (by kernel_rfl) ?_ ?_ <;> simp [nmap, lkp, mkPl, prs, prsL, prT, ddL, idL, NLe, CRenL, CRen, Ren, RenL, NObj.none, holdZ] <;> grind)
  · cases h

/-- A mood that may be. -/
def fitsB (a b c d e f : Int) : Bool := [a, b, c, d, e, f].all (fun n => decide (-10000 ≤ n) && decide (n ≤ 10000)) && decide (0 ≤ f)

def d28 : List AV → Option Ans
  | [.agg [.int .i64 a, .int .i64 b, .int .i64 c, .int .i64 d, .int .i64 e, .int .i64 f]] => some ⟨.bool (fitsB a b c d e f), []⟩
  | _ => none

theorem ok28 : NOk [] d28 := by
  intro xs a h
  unfold d28 at h
  (repeat' (split at h)) <;> first | (cases h; done) | (injection h with h; subst h; refine ⟨Ends_of ?_, ?_⟩ <;> simp)
theorem s28 : Sound Try.prog 28 (nestS [] d28 ok28) := by
  refine nest_sound Try.func28 nm28 rc28 rv28 ok28 (fun xs a h => ?_) fun xs a h w0 S hS => ?_
  · unfold d28 at h
    (repeat' (split at h)) <;> first | (cases h; done) | exact Nat.le_of_ble_eq_true rfl
  unfold d28 at h
  split at h
  · rename_i a b c d e f
    injection h with h
    subst h
    have hE : SoundAll Try.prog (EL []) := EL_sound (by simp)
    unfold m28
    repeat' with_reducible (first
      | refine Wm_seq ?_
      | refine Wm_skip ?_
      | refine Wm_ret ?_
      | refine Wm_block ?_
      | refine Wm_exit ?_
      | refine thenK_normal ?_
      | refine thenK_ret ?_
      | refine thenK_exit ?_
      | refine blockK_normal ?_
      | refine blockK_ret ?_
      | refine blockK_here ?_
      | refine loopK_ret ?_
      | refine loopK_exit ?_
      | refine unK_ret ?_
      | refine unK_exit ?_
      | refine unK_normal ?_
      | refine loopOk_succ ?_
      | refine blockK_exit (by decide) ?_
      | (refine wreg (mos := q28_0) hE [1] (by kernel_rfl) ?_; intro K hK; simp [q28_0]; (repeat' (first | refine hK _ _ ?_ | refine And.intro ?_ ?_ | intro hc)) <;> (try clear hK K) <;> (try subst_vars))
      | (refine wreg (mos := q28_1) hE [1, 17, 18, 19] (by kernel_rfl) ?_; intro K hK; simp [q28_1]; (repeat' (first | refine hK _ _ ?_ | refine And.intro ?_ ?_ | intro hc)) <;> (try clear hK K) <;> (try subst_vars))
      | (refine wreg (mos := q28_2) hE [1, 17, 18, 19, 20, 26, 27] (by kernel_rfl) ?_; intro K hK; simp [q28_2]; (repeat' (first | refine hK _ _ ?_ | refine And.intro ?_ ?_ | intro hc)) <;> (try clear hK K) <;> (try subst_vars))
      | (refine wreg (mos := q28_3) hE [1, 4, 17, 18, 19, 26, 27] (by kernel_rfl) ?_; intro K hK; simp [q28_3]; (repeat' (first | refine hK _ _ ?_ | refine And.intro ?_ ?_ | intro hc)) <;> (try clear hK K) <;> (try subst_vars))
      | (refine wreg (mos := q28_4) hE [1, 17, 18, 19, 26, 27, 28] (by kernel_rfl) ?_; intro K hK; simp [q28_4]; (repeat' (first | refine hK _ _ ?_ | refine And.intro ?_ ?_ | intro hc)) <;> (try clear hK K) <;> (try subst_vars))
      | (refine wreg (mos := q28_5) hE [2] (by kernel_rfl) ?_; intro K hK; simp [q28_5]; (repeat' (first | refine hK _ _ ?_ | refine And.intro ?_ ?_ | intro hc)) <;> (try clear hK K) <;> (try subst_vars))
      | (refine wreg (mos := q28_6) hE [1, 17, 18, 19, 26, 27] (by kernel_rfl) ?_; intro K hK; simp [q28_6]; (repeat' (first | refine hK _ _ ?_ | refine And.intro ?_ ?_ | intro hc)) <;> (try clear hK K) <;> (try subst_vars))
      | (refine wreg (mos := q28_7) hE [2] (by kernel_rfl) ?_; intro K hK; simp [q28_7]; (repeat' (first | refine hK _ _ ?_ | refine And.intro ?_ ?_ | intro hc)) <;> (try clear hK K) <;> (try subst_vars))
      | (refine Wm_cond (b := _) (by with_unfolding_all rfl) (fun hc => ?_) (fun hc => ?_) <;> simp at hc <;> (try subst_vars)))
    all_goals refine Wm_unroll 7 ?_
    repeat' with_reducible (first
      | refine Wm_seq ?_
      | refine Wm_skip ?_
      | refine Wm_ret ?_
      | refine Wm_block ?_
      | refine Wm_exit ?_
      | refine thenK_normal ?_
      | refine thenK_ret ?_
      | refine thenK_exit ?_
      | refine blockK_normal ?_
      | refine blockK_ret ?_
      | refine blockK_here ?_
      | refine loopK_ret ?_
      | refine loopK_exit ?_
      | refine unK_ret ?_
      | refine unK_exit ?_
      | refine unK_normal ?_
      | refine loopOk_succ ?_
      | refine blockK_exit (by decide) ?_
      | (refine wreg (mos := q28_0) hE [1] (by kernel_rfl) ?_; intro K hK; simp [q28_0, wrap_in]; (repeat' (first | refine hK _ _ ?_ | refine And.intro ?_ ?_ | intro hc)) <;> (try clear hK K) <;> (try subst_vars))
      | (refine wreg (mos := q28_1) hE [1, 17, 18, 19] (by kernel_rfl) ?_; intro K hK; simp [q28_1, wrap_in]; (repeat' (first | refine hK _ _ ?_ | refine And.intro ?_ ?_ | intro hc)) <;> (try clear hK K) <;> (try subst_vars))
      | (refine wreg (mos := q28_2) hE [1, 17, 18, 19, 20, 26, 27] (by kernel_rfl) ?_; intro K hK; simp [q28_2, wrap_in]; (repeat' (first | refine hK _ _ ?_ | refine And.intro ?_ ?_ | intro hc)) <;> (try clear hK K) <;> (try subst_vars))
      | (refine wreg (mos := q28_3) hE [1, 4, 17, 18, 19, 26, 27] (by kernel_rfl) ?_; intro K hK; simp [q28_3, wrap_in]; (repeat' (first | refine hK _ _ ?_ | refine And.intro ?_ ?_ | intro hc)) <;> (try clear hK K) <;> (try subst_vars))
      | (refine wreg (mos := q28_4) hE [1, 17, 18, 19, 26, 27, 28] (by kernel_rfl) ?_; intro K hK; simp [q28_4, wrap_in]; (repeat' (first | refine hK _ _ ?_ | refine And.intro ?_ ?_ | intro hc)) <;> (try clear hK K) <;> (try subst_vars))
      | (refine wreg (mos := q28_5) hE [2] (by kernel_rfl) ?_; intro K hK; simp [q28_5, wrap_in]; (repeat' (first | refine hK _ _ ?_ | refine And.intro ?_ ?_ | intro hc)) <;> (try clear hK K) <;> (try subst_vars))
      | (refine wreg (mos := q28_6) hE [1, 17, 18, 19, 26, 27] (by kernel_rfl) ?_; intro K hK; simp [q28_6, wrap_in]; (repeat' (first | refine hK _ _ ?_ | refine And.intro ?_ ?_ | intro hc)) <;> (try clear hK K) <;> (try subst_vars))
      | (refine wreg (mos := q28_7) hE [2] (by kernel_rfl) ?_; intro K hK; simp [q28_7, wrap_in]; (repeat' (first | refine hK _ _ ?_ | refine And.intro ?_ ?_ | intro hc)) <;> (try clear hK K) <;> (try subst_vars))
      | (refine Wm_cond (b := _) (by with_unfolding_all rfl) (fun hc => ?_) (fun hc => ?_) <;> simp at hc <;> (try subst_vars)))
    all_goals first | (simp; done) | (simp [fitsB]; refine Imp.auto (by kernel_rfl) ?_ ?_ <;> simp [nmap, lkp, mkPl, prs, prsL, prT, ddL, idL, NLe, CRenL, CRen, Ren, RenL, NObj.none] <;> grind)
  · cases h

/-- The first number of a configuration that may not be; -1: none. -/
def checkZ (a b c d e f g : Int) : Int :=
  if a < 1 ∨ 6 < a then 0 else if b < 1 ∨ 4 < b then 1 else if c < 1 ∨ 3 < c then 2 else if d < 1 ∨ 4 < d then 3 else if e < 0 ∨ 4 < e then 4 else if f < 1 ∨ 4 < f then 5 else if g < 1 ∨ 15 < g then 6 else -1

def d27 : List AV → Option Ans
  | [.agg [.int .i64 a, .int .i64 b, .int .i64 c, .int .i64 d, .int .i64 e, .int .i64 f, .int .i64 g]] => some ⟨.int .i64 (checkZ a b c d e f g), []⟩
  | _ => none

theorem ok27 : NOk [] d27 := by
  intro xs a h
  unfold d27 at h
  (repeat' (split at h)) <;> first | (cases h; done) | (injection h with h; subst h; refine ⟨Ends_of ?_, ?_⟩ <;> simp)
theorem s27 : Sound Try.prog 27 (nestS [] d27 ok27) := by
  refine nest_sound Try.func27 nm27 rc27 rv27 ok27 (fun xs a h => ?_) fun xs a h w0 S hS => ?_
  · unfold d27 at h
    (repeat' (split at h)) <;> first | (cases h; done) | exact Nat.le_of_ble_eq_true rfl
  unfold d27 at h
  split at h
  · rename_i a b c d e f g
    injection h with h
    subst h
    have hE : SoundAll Try.prog (EL []) := EL_sound (by simp)
    unfold m27
    repeat' with_reducible (first
      | refine Wm_seq ?_
      | refine Wm_skip ?_
      | refine Wm_ret ?_
      | refine Wm_block ?_
      | refine Wm_exit ?_
      | refine thenK_normal ?_
      | refine thenK_ret ?_
      | refine thenK_exit ?_
      | refine blockK_normal ?_
      | refine blockK_ret ?_
      | refine blockK_here ?_
      | refine loopK_ret ?_
      | refine loopK_exit ?_
      | refine unK_ret ?_
      | refine unK_exit ?_
      | refine unK_normal ?_
      | refine loopOk_succ ?_
      | refine blockK_exit (by decide) ?_
      | (refine wreg (mos := q27_0) hE [1] (by kernel_rfl) ?_; intro K hK; simp [q27_0]; (repeat' (first | refine hK _ _ ?_ | refine And.intro ?_ ?_ | intro hc)) <;> (try clear hK K) <;> (try subst_vars))
      | (refine wreg (mos := q27_1) hE [3] (by kernel_rfl) ?_; intro K hK; simp [q27_1]; (repeat' (first | refine hK _ _ ?_ | refine And.intro ?_ ?_ | intro hc)) <;> (try clear hK K) <;> (try subst_vars))
      | (refine wreg (mos := q27_2) hE [3, 4] (by kernel_rfl) ?_; intro K hK; simp [q27_2]; (repeat' (first | refine hK _ _ ?_ | refine And.intro ?_ ?_ | intro hc)) <;> (try clear hK K) <;> (try subst_vars))
      | (refine wreg (mos := q27_3) hE [3, 4, 5] (by kernel_rfl) ?_; intro K hK; simp [q27_3]; (repeat' (first | refine hK _ _ ?_ | refine And.intro ?_ ?_ | intro hc)) <;> (try clear hK K) <;> (try subst_vars))
      | (refine wreg (mos := q27_4) hE [3, 4, 5, 6] (by kernel_rfl) ?_; intro K hK; simp [q27_4]; (repeat' (first | refine hK _ _ ?_ | refine And.intro ?_ ?_ | intro hc)) <;> (try clear hK K) <;> (try subst_vars))
      | (refine wreg (mos := q27_5) hE [3, 4, 5, 6, 27, 40, 41, 42, 43, 44, 45, 46, 47, 48] (by kernel_rfl) ?_; intro K hK; simp [q27_5]; (repeat' (first | refine hK _ _ ?_ | refine And.intro ?_ ?_ | intro hc)) <;> (try clear hK K) <;> (try subst_vars))
      | (refine wdraw (mos := q27_6) hE mixT c27_6 [3, 4, 5, 6, 40, 41, 42, 43, 44, 45, 46, 47, 48, 49] (by kernel_rfl) ?_; intro K hK; simp [q27_6, c27_6]; (repeat' (first | refine hK _ _ ?_ | refine And.intro ?_ ?_ | intro hc)) <;> (try clear hK K) <;> (try subst_vars))
      | (refine wreg (mos := q27_7) hE [2] (by kernel_rfl) ?_; intro K hK; simp [q27_7]; (repeat' (first | refine hK _ _ ?_ | refine And.intro ?_ ?_ | intro hc)) <;> (try clear hK K) <;> (try subst_vars))
      | (refine wreg (mos := q27_8) hE [3, 4, 5, 6, 40, 41, 42, 43, 44, 45, 46, 47, 48] (by kernel_rfl) ?_; intro K hK; simp [q27_8]; (repeat' (first | refine hK _ _ ?_ | refine And.intro ?_ ?_ | intro hc)) <;> (try clear hK K) <;> (try subst_vars))
      | (refine wreg (mos := q27_9) hE [2] (by kernel_rfl) ?_; intro K hK; simp [q27_9]; (repeat' (first | refine hK _ _ ?_ | refine And.intro ?_ ?_ | intro hc)) <;> (try clear hK K) <;> (try subst_vars))
      | (refine Wm_cond (b := _) (by with_unfolding_all rfl) (fun hc => ?_) (fun hc => ?_) <;> simp at hc <;> (try subst_vars)))
    all_goals refine Wm_unroll 8 ?_
    repeat' with_reducible (first
      | refine Wm_seq ?_
      | refine Wm_skip ?_
      | refine Wm_ret ?_
      | refine Wm_block ?_
      | refine Wm_exit ?_
      | refine thenK_normal ?_
      | refine thenK_ret ?_
      | refine thenK_exit ?_
      | refine blockK_normal ?_
      | refine blockK_ret ?_
      | refine blockK_here ?_
      | refine loopK_ret ?_
      | refine loopK_exit ?_
      | refine unK_ret ?_
      | refine unK_exit ?_
      | refine unK_normal ?_
      | refine loopOk_succ ?_
      | refine blockK_exit (by decide) ?_
      | (refine wreg (mos := q27_0) hE [1] (by kernel_rfl) ?_; intro K hK; simp [q27_0, wrap_in]; (repeat' (first | refine hK _ _ ?_ | refine And.intro ?_ ?_ | intro hc)) <;> (try clear hK K) <;> (try subst_vars))
      | (refine wreg (mos := q27_1) hE [3] (by kernel_rfl) ?_; intro K hK; simp [q27_1, wrap_in]; (repeat' (first | refine hK _ _ ?_ | refine And.intro ?_ ?_ | intro hc)) <;> (try clear hK K) <;> (try subst_vars))
      | (refine wreg (mos := q27_2) hE [3, 4] (by kernel_rfl) ?_; intro K hK; simp [q27_2, wrap_in]; (repeat' (first | refine hK _ _ ?_ | refine And.intro ?_ ?_ | intro hc)) <;> (try clear hK K) <;> (try subst_vars))
      | (refine wreg (mos := q27_3) hE [3, 4, 5] (by kernel_rfl) ?_; intro K hK; simp [q27_3, wrap_in]; (repeat' (first | refine hK _ _ ?_ | refine And.intro ?_ ?_ | intro hc)) <;> (try clear hK K) <;> (try subst_vars))
      | (refine wreg (mos := q27_4) hE [3, 4, 5, 6] (by kernel_rfl) ?_; intro K hK; simp [q27_4, wrap_in]; (repeat' (first | refine hK _ _ ?_ | refine And.intro ?_ ?_ | intro hc)) <;> (try clear hK K) <;> (try subst_vars))
      | (refine wreg (mos := q27_5) hE [3, 4, 5, 6, 27, 40, 41, 42, 43, 44, 45, 46, 47, 48] (by kernel_rfl) ?_; intro K hK; simp [q27_5, wrap_in]; (repeat' (first | refine hK _ _ ?_ | refine And.intro ?_ ?_ | intro hc)) <;> (try clear hK K) <;> (try subst_vars))
      | (refine wdraw (mos := q27_6) hE mixT c27_6 [3, 4, 5, 6, 40, 41, 42, 43, 44, 45, 46, 47, 48, 49] (by kernel_rfl) ?_; intro K hK; simp [q27_6, c27_6, wrap_in]; (repeat' (first | refine hK _ _ ?_ | refine And.intro ?_ ?_ | intro hc)) <;> (try clear hK K) <;> (try subst_vars))
      | (refine wreg (mos := q27_7) hE [2] (by kernel_rfl) ?_; intro K hK; simp [q27_7, wrap_in]; (repeat' (first | refine hK _ _ ?_ | refine And.intro ?_ ?_ | intro hc)) <;> (try clear hK K) <;> (try subst_vars))
      | (refine wreg (mos := q27_8) hE [3, 4, 5, 6, 40, 41, 42, 43, 44, 45, 46, 47, 48] (by kernel_rfl) ?_; intro K hK; simp [q27_8, wrap_in]; (repeat' (first | refine hK _ _ ?_ | refine And.intro ?_ ?_ | intro hc)) <;> (try clear hK K) <;> (try subst_vars))
      | (refine wreg (mos := q27_9) hE [2] (by kernel_rfl) ?_; intro K hK; simp [q27_9, wrap_in]; (repeat' (first | refine hK _ _ ?_ | refine And.intro ?_ ?_ | intro hc)) <;> (try clear hK K) <;> (try subst_vars))
      | (refine Wm_cond (b := _) (by with_unfolding_all rfl) (fun hc => ?_) (fun hc => ?_) <;> simp at hc <;> (try subst_vars)))
    all_goals first | (simp; done) | (simp [checkZ]; refine Imp.auto (by kernel_rfl) ?_ ?_ <;> simp [nmap, lkp, mkPl, prs, prsL, prT, ddL, idL, NLe, CRenL, CRen, Ren, RenL, NObj.none] <;> grind)
  · cases h

def d55 : List AV → Option Ans
  | [.agg [.int .i64 a, .int .i64 b, .int .i64 c, .int .i64 d, .int .i64 e, .int .i64 f, .int .i64 g]] => some ⟨.os 0 4 [[(.str (ByteArray.mk #[112, 97, 114, 116, 115])), .int .i64 a, .int .i64 1, .int .i64 6], [(.str (ByteArray.mk #[99, 101, 108, 108, 115])), .int .i64 b, .int .i64 1, .int .i64 4], [(.str (ByteArray.mk #[110, 97, 109, 101, 115])), .int .i64 c, .int .i64 1, .int .i64 3], [(.str (ByteArray.mk #[98, 97, 110, 100, 115])), .int .i64 d, .int .i64 1, .int .i64 4], [(.str (ByteArray.mk #[112, 114, 111, 98, 101, 115])), .int .i64 e, .int .i64 0, .int .i64 4], [(.str (ByteArray.mk #[102, 105, 108, 108, 115])), .int .i64 f, .int .i64 1, .int .i64 4], [(.str (ByteArray.mk #[103, 101, 110, 115])), .int .i64 g, .int .i64 1, .int .i64 15]], []⟩
  | _ => none

theorem ok55 : NOk [] d55 := by
  intro xs a h
  unfold d55 at h
  (repeat' (split at h)) <;> first | (cases h; done) | (injection h with h; subst h; refine ⟨Ends_of ?_, ?_⟩ <;> simp)
theorem s55 : Sound Try.prog 55 (nestS [] d55 ok55) := by
  refine nest_sound Try.func55 nm55 rc55 rv55 ok55 (fun xs a h => ?_) fun xs a h w0 S hS => ?_
  · unfold d55 at h
    (repeat' (split at h)) <;> first | (cases h; done) | exact Nat.le_of_ble_eq_true rfl
  unfold d55 at h
  split at h
  · skip
    injection h with h
    subst h
    have hE : SoundAll Try.prog (EL []) := EL_sound (by simp)
    unfold m55
    repeat' with_reducible (first
      | refine Wm_seq ?_
      | refine Wm_skip ?_
      | refine Wm_ret ?_
      | refine Wm_block ?_
      | refine Wm_exit ?_
      | refine thenK_normal ?_
      | refine thenK_ret ?_
      | refine thenK_exit ?_
      | refine blockK_normal ?_
      | refine blockK_ret ?_
      | refine blockK_here ?_
      | refine loopK_ret ?_
      | refine loopK_exit ?_
      | refine unK_ret ?_
      | refine unK_exit ?_
      | refine unK_normal ?_
      | refine loopOk_succ ?_
      | refine blockK_exit (by decide) ?_
      | (refine wreg (mos := q55_0) hE [1] (by kernel_rfl) ?_; intro K hK; simp [q55_0]; (repeat' (first | refine hK _ _ ?_ | refine And.intro ?_ ?_ | intro hc)) <;> (try clear hK K) <;> (try subst_vars))
      | (refine wreg (mos := q55_1) hE [2] (by kernel_rfl) ?_; intro K hK; simp [q55_1]; (repeat' (first | refine hK _ _ ?_ | refine And.intro ?_ ?_ | intro hc)) <;> (try clear hK K) <;> (try subst_vars))
      | (refine Wm_cond (b := _) (by with_unfolding_all rfl) (fun hc => ?_) (fun hc => ?_) <;> simp at hc <;> (try subst_vars)))
    all_goals first | (simp; done) | (simp at *; omega) | (simp; refine Imp.auto (by kernel_rfl) ?_ ?_ <;> simp [nmap, lkp, mkPl, prs, prsL, prT, ddL, idL, NLe, CRenL, CRen, Ren, RenL, NObj.none])
  · cases h
end Go.W
