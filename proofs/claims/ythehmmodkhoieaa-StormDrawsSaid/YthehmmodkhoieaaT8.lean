import Derived.Test.YthehmmodkhoieaaVcV
namespace Go.Vc
open Go.Proofs
set_option linter.unusedSimpArgs false
set_option linter.unusedVariables false
set_option maxHeartbeats 4000000
attribute [local irreducible] Wm

/-- The state says this much of the objects that came and of the new ones. -/
theorem LeW_one {v w : AV} {o : AObj} {x : Nat} {hl : List (Nat × AObj)} {nb : Nat} (hv : Ren [(0, some x)] v w) (ho : ObjLe [(0, some x)] (hk hl x) o) : LeW 0 [(0, some x)] ⟨[(0, v)], hl, nb⟩ ⟨[(0, w)], [(0, o)], 1⟩ :=
  ⟨fun _ h => absurd h (Nat.not_lt_zero _), by simp, by simp, by simp, by simpa [lk] using hv, by simpa [ObjRen, lkp] using ho⟩

theorem LeW_zero {v w : AV} {o : AObj} {hl : List (Nat × AObj)} {nb : Nat} (hv : Ren [(0, some 0)] v w) (ho : ObjLe [(0, some 0)] (hk hl 0) o) : LeW 1 [(0, some 0)] ⟨[(0, v)], hl, nb⟩ ⟨[(0, w)], [(0, o)], 1⟩ :=
  ⟨fun x h => by have : x = 0 := by omega
                 subst this; rfl, by simp, by simp, by simp, by simpa [lk] using hv, by simpa [ObjRen, lkp] using ho⟩

def nextS (s : Int) : Int := IntKind.wrap .u64 (IntKind.wrap .u64 (s * 6364136223846793005) + 1442695040888963407)

def belowZ (s n : Int) : Int := if n < 1 then 0 else (nextS s / 8589934592) % n

theorem nextS_in (s : Int) : 0 ≤ nextS s ∧ nextS s < 18446744073709551616 := by
  unfold nextS
  rw [IntKind.wrap_u64]
  omega

theorem u64_in' {n : Int} (h1 : 0 ≤ n) (h2 : n ≤ 18446744073709551615) : IntKind.wrap .u64 n = n := by
  rw [IntKind.wrap_u64]; omega

theorem below_shr {s n : Int} (h1 : 1 ≤ n) (h2 : n ≤ 9223372036854775807) : IntKind.wrap .i64 ((shrI .u64 (nextS s) 33).tmod (IntKind.wrap .u64 n)) = belowZ s n := by
  have hs := nextS_in s
  have e : shrI .u64 (nextS s) 33 = nextS s / 8589934592 := by
    show (nextS s).fdiv (8589934592 : Int) = _
    rw [Int.fdiv_eq_ediv_of_nonneg _ (by omega)]
  have h3 : 0 ≤ nextS s / 8589934592 := by omega
  rw [e, u64_in' (by omega) (by omega), Int.tmod_eq_emod_of_nonneg h3]
  have h4 := Int.emod_nonneg (nextS s / 8589934592) (show n ≠ 0 by omega)
  have h5 := Int.emod_lt_of_pos (nextS s / 8589934592) (show 0 < n by omega)
  rw [wrap_in (by omega) (by omega), belowZ, if_neg (by omega)]

theorem below_quo {s n : Int} (h1 : 1 ≤ n) (h2 : n ≤ 9223372036854775807) : IntKind.wrap .i64 ((IntKind.wrap .u64 ((nextS s).tdiv 8589934592)).tmod (IntKind.wrap .u64 n)) = belowZ s n := by
  have hs := nextS_in s
  have h3 : 0 ≤ nextS s / 8589934592 := by omega
  rw [Int.tdiv_eq_ediv_of_nonneg hs.1, u64_in' (n := nextS s / 8589934592) h3 (by omega), u64_in' (n := n) (by omega) (by omega), Int.tmod_eq_emod_of_nonneg h3]
  have h4 := Int.emod_nonneg (nextS s / 8589934592) (show n ≠ 0 by omega)
  have h5 := Int.emod_lt_of_pos (nextS s / 8589934592) (show 0 < n by omega)
  rw [wrap_in (by omega) (by omega), belowZ, if_neg (by omega)]

theorem below_in {s n : Int} (h1 : 1 ≤ n) : 0 ≤ belowZ s n ∧ belowZ s n < n := by
  rw [belowZ, if_neg (by omega)]
  exact ⟨Int.emod_nonneg _ (by omega), Int.emod_lt_of_pos _ (by omega)⟩

theorem wrap_u64_pos {n : Int} (h1 : 1 ≤ n) (h2 : n ≤ 9223372036854775807) : ¬ IntKind.wrap .u64 n = 0 := by
  rw [u64_in' (by omega) (by omega)]; omega
def d15 : List DP → Option Ans
  | [.v (.int .u64 s)] => some ⟨.ptr 0 0 0, [], [.cells [.int .u64 s]]⟩
  | _ => none

theorem fl15 : ∀ ds r, d15 ds = some r → ∀ d, d ∈ ds → d.flat := by
  intro ds r h
  unfold d15 at h
  split at h
  · simp [DP.flat, flatB]
  · cases h

theorem s15 : Sound Try.prog 15 (objS [] d15 fl15) := by
  refine objS_sound Try.func15 nm15 rc15 rv15 fl15 ?_ ?_
  · intro ds r h
    unfold d15 at h
    split at h
    · skip
      injection h with h; subst h; refine ⟨?_, Nat.le_of_ble_eq_true rfl⟩; simp [objOk]
    · cases h
  intro ds r h w0 S hS
  unfold d15 at h
  split at h
  · skip
    injection h with h
    subst h
    have hE : SoundAll Try.prog (EL []) := EL_sound (by simp)
    unfold m15
    repeat' with_reducible (first
      | refine Wm_seq ?_
      | refine Wm_skip ?_
      | refine Wm_ret ?_
      | refine Wm_block ?_
      | refine Wm_exit ?_
      | refine thenK_normal ?_
      | refine thenK_ret ?_
      | refine thenK_exit ?_
      | refine blockK_normal ?_
      | refine blockK_ret ?_
      | refine blockK_here ?_
      | refine loopK_ret ?_
      | refine loopK_exit ?_
      | refine blockK_exit (by decide) ?_
      | (refine wreg (mos := q15_0) hE [0] (by kernel_rfl) ?_; intro K hK; simp [q15_0]; (repeat' (first | refine hK _ _ ?_ | refine And.intro ?_ ?_ | intro hc)) <;> (try clear hK K) <;> (try subst_vars))
      | (refine wreg (mos := q15_1) hE [2] (by kernel_rfl) ?_; intro K hK; simp [q15_1]; (repeat' (first | refine hK _ _ ?_ | refine And.intro ?_ ?_ | intro hc)) <;> (try clear hK K) <;> (try subst_vars))
      | (refine Wm_cond (b := _) (by with_unfolding_all rfl) (fun hc => ?_) (fun hc => ?_) <;> simp at hc <;> (try subst_vars)))
    all_goals (simp; exact ⟨_, LeW_one (x := 24) (by simp [Ren, lkp]) (by simp [hk, ObjLe, RenL, Ren])⟩)
  · cases h
def d19 : List DP → Option Ans
  | [.p [.int .u64 s]] => some ⟨.int .u64 (shrI .u64 (nextS s) 33), [.cells [.int .u64 (nextS s)]], []⟩
  | _ => none

theorem fl19 : ∀ ds r, d19 ds = some r → ∀ d, d ∈ ds → d.flat := by
  intro ds r h
  unfold d19 at h
  split at h
  · simp [DP.flat, flatB]
  · cases h

theorem s19 : Sound Try.prog 19 (objS [0] d19 fl19) := by
  refine objS_sound Try.func19 nm19 rc19 rv19 fl19 ?_ ?_
  · intro ds r h
    unfold d19 at h
    split at h
    · skip
      injection h with h; subst h; refine ⟨?_, Nat.le_of_ble_eq_true rfl⟩; simp [objOk]
    · cases h
  intro ds r h w0 S hS
  unfold d19 at h
  split at h
  · skip
    injection h with h
    subst h
    have hE : SoundAll Try.prog (EL []) := EL_sound (by simp)
    unfold m19
    repeat' with_reducible (first
      | refine Wm_seq ?_
      | refine Wm_skip ?_
      | refine Wm_ret ?_
      | refine Wm_block ?_
      | refine Wm_exit ?_
      | refine thenK_normal ?_
      | refine thenK_ret ?_
      | refine thenK_exit ?_
      | refine blockK_normal ?_
      | refine blockK_ret ?_
      | refine blockK_here ?_
      | refine loopK_ret ?_
      | refine loopK_exit ?_
      | refine blockK_exit (by decide) ?_
      | (refine wreg (mos := q19_0) hE [0] (by kernel_rfl) ?_; intro K hK; simp [q19_0]; (repeat' (first | refine hK _ _ ?_ | refine And.intro ?_ ?_ | intro hc)) <;> (try clear hK K) <;> (try subst_vars))
      | (refine wreg (mos := q19_1) hE [0] (by kernel_rfl) ?_; intro K hK; simp [q19_1]; (repeat' (first | refine hK _ _ ?_ | refine And.intro ?_ ?_ | intro hc)) <;> (try clear hK K) <;> (try subst_vars))
      | (refine wreg (mos := q19_2) hE [2] (by kernel_rfl) ?_; intro K hK; simp [q19_2]; (repeat' (first | refine hK _ _ ?_ | refine And.intro ?_ ?_ | intro hc)) <;> (try clear hK K) <;> (try subst_vars))
      | (refine Wm_cond (b := _) (by with_unfolding_all rfl) (fun hc => ?_) (fun hc => ?_) <;> simp at hc <;> (try subst_vars)))
    all_goals (simp; exact ⟨_, LeW_zero (by simp [Ren, nextS]) (by simp [hk, ObjLe, RenL, Ren, nextS])⟩)
  · cases h
def d16 : List DP → Option Ans
  | [.p [.int .u64 s], .v (.int .i64 n)] => if n ≤ 9223372036854775807 then some ⟨.int .i64 (belowZ s n), [.cells [.int .u64 (nextS s)]], []⟩ else none
  | _ => none

theorem fl16 : ∀ ds r, d16 ds = some r → ∀ d, d ∈ ds → d.flat := by
  intro ds r h
  unfold d16 at h
  split at h
  · simp [DP.flat, flatB]
  · cases h

theorem s16 : Sound Try.prog 16 (objS [0] d16 fl16) := by
  refine objS_sound Try.func16 nm16 rc16 rv16 fl16 ?_ ?_
  · intro ds r h
    unfold d16 at h
    split at h
    · split at h
      · rename_i hcond
        injection h with h; subst h; refine ⟨?_, Nat.le_of_ble_eq_true rfl⟩; simp [objOk]
      · cases h
    · cases h
  intro ds r h w0 S hS
  unfold d16 at h
  split at h
  · split at h
    · rename_i s n hcond
      injection h with h
      subst h
      have hE : SoundAll Try.prog (EL [(19, objS [0] d19 fl19)]) := EL_sound (by simp only [List.mem_cons, List.not_mem_nil, or_false, forall_eq_or_imp, forall_eq]; exact s19)
      by_cases h1 : n < 1
      · unfold m16
        repeat' with_reducible (first
          | refine Wm_seq ?_
          | refine Wm_skip ?_
          | refine Wm_ret ?_
          | refine Wm_block ?_
          | refine Wm_exit ?_
          | refine thenK_normal ?_
          | refine thenK_ret ?_
          | refine thenK_exit ?_
          | refine blockK_normal ?_
          | refine blockK_ret ?_
          | refine blockK_here ?_
          | refine loopK_ret ?_
          | refine loopK_exit ?_
          | refine blockK_exit (by decide) ?_
          | (refine wreg (mos := q16_0) hE [0, 1] (by kernel_rfl) ?_; intro K hK; simp [q16_0, d19]; (repeat' (first | refine hK _ _ ?_ | refine And.intro ?_ ?_ | intro hc)) <;> (try clear hK K) <;> (try subst_vars))
          | (refine wreg (mos := q16_1) hE [1, 5] (by kernel_rfl) ?_; intro K hK; simp [q16_1, d19]; (repeat' (first | refine hK _ _ ?_ | refine And.intro ?_ ?_ | intro hc)) <;> (try clear hK K) <;> (try subst_vars))
          | (refine wreg (mos := q16_2) hE [1, 5, 9] (by kernel_rfl) ?_; intro K hK; simp [q16_2, d19]; (repeat' (first | refine hK _ _ ?_ | refine And.intro ?_ ?_ | intro hc)) <;> (try clear hK K) <;> (try subst_vars))
          | (refine wreg (mos := q16_3) hE [4] (by kernel_rfl) ?_; intro K hK; simp [q16_3, d19]; (repeat' (first | refine hK _ _ ?_ | refine And.intro ?_ ?_ | intro hc)) <;> (try clear hK K) <;> (try subst_vars))
          | (refine wreg (mos := q16_4) hE [4] (by kernel_rfl) ?_; intro K hK; simp [q16_4, d19]; (repeat' (first | refine hK _ _ ?_ | refine And.intro ?_ ?_ | intro hc)) <;> (try clear hK K) <;> (try subst_vars))
          | (refine Wm_cond (b := _) (by with_unfolding_all rfl) (fun hc => ?_) (fun hc => ?_) <;> simp at hc <;> (try subst_vars)))
        all_goals first
          | (simp at *; omega)
          | (simp; exact ⟨_, LeW_zero (by simp [Ren, belowZ, h1]) (by simp [hk, ObjLe, RenL, Ren])⟩)
      · have hz := wrap_u64_pos (n := n) (by omega) hcond
        unfold m16
        repeat' with_reducible (first
          | refine Wm_seq ?_
          | refine Wm_skip ?_
          | refine Wm_ret ?_
          | refine Wm_block ?_
          | refine Wm_exit ?_
          | refine thenK_normal ?_
          | refine thenK_ret ?_
          | refine thenK_exit ?_
          | refine blockK_normal ?_
          | refine blockK_ret ?_
          | refine blockK_here ?_
          | refine loopK_ret ?_
          | refine loopK_exit ?_
          | refine blockK_exit (by decide) ?_
          | (refine wreg (mos := q16_0) hE [0, 1] (by kernel_rfl) ?_; intro K hK; simp [q16_0, d19, hz]; (repeat' (first | refine hK _ _ ?_ | refine And.intro ?_ ?_ | intro hc)) <;> (try clear hK K) <;> (try subst_vars))
          | (refine wreg (mos := q16_1) hE [1, 5] (by kernel_rfl) ?_; intro K hK; simp [q16_1, d19, hz]; (repeat' (first | refine hK _ _ ?_ | refine And.intro ?_ ?_ | intro hc)) <;> (try clear hK K) <;> (try subst_vars))
          | (refine wreg (mos := q16_2) hE [1, 5, 9] (by kernel_rfl) ?_; intro K hK; simp [q16_2, d19, hz]; (repeat' (first | refine hK _ _ ?_ | refine And.intro ?_ ?_ | intro hc)) <;> (try clear hK K) <;> (try subst_vars))
          | (refine wreg (mos := q16_3) hE [4] (by kernel_rfl) ?_; intro K hK; simp [q16_3, d19, hz]; (repeat' (first | refine hK _ _ ?_ | refine And.intro ?_ ?_ | intro hc)) <;> (try clear hK K) <;> (try subst_vars))
          | (refine wreg (mos := q16_4) hE [4] (by kernel_rfl) ?_; intro K hK; simp [q16_4, d19, hz]; (repeat' (first | refine hK _ _ ?_ | refine And.intro ?_ ?_ | intro hc)) <;> (try clear hK K) <;> (try subst_vars))
          | (refine Wm_cond (b := _) (by with_unfolding_all rfl) (fun hc => ?_) (fun hc => ?_) <;> simp at hc <;> (try subst_vars)))
        all_goals first
          | (simp at *; omega)
          | (simp; exact ⟨_, LeW_zero (by simp [Ren, below_shr (s := s) (n := n) (by omega) hcond]) (by simp [hk, ObjLe, RenL, Ren])⟩)
    · cases h
  · cases h
def d17 : List DP → Option Ans
  | [.p [.int .u64 s], .v (.int .i64 n)] => if n ≤ 9223372036854775807 then some ⟨.int .i64 (belowZ s n), [.cells [.int .u64 (nextS s)]], []⟩ else none
  | _ => none

theorem fl17 : ∀ ds r, d17 ds = some r → ∀ d, d ∈ ds → d.flat := by
  intro ds r h
  unfold d17 at h
  split at h
  · simp [DP.flat, flatB]
  · cases h

theorem s17 : Sound Try.prog 17 (objS [0] d17 fl17) := by
  refine objS_sound Try.func17 nm17 rc17 rv17 fl17 ?_ ?_
  · intro ds r h
    unfold d17 at h
    split at h
    · split at h
      · rename_i hcond
        injection h with h; subst h; refine ⟨?_, Nat.le_of_ble_eq_true rfl⟩; simp [objOk]
      · cases h
    · cases h
  intro ds r h w0 S hS
  unfold d17 at h
  split at h
  · split at h
    · rename_i s n hcond
      injection h with h
      subst h
      have hE : SoundAll Try.prog (EL []) := EL_sound (by simp)
      have he : IntKind.wrap .u64 (IntKind.wrap .u64 (s * 6364136223846793005) + 1442695040888963407) = nextS s := rfl
      by_cases h1 : n < 1
      · unfold m17
        repeat' with_reducible (first
          | refine Wm_seq ?_
          | refine Wm_skip ?_
          | refine Wm_ret ?_
          | refine Wm_block ?_
          | refine Wm_exit ?_
          | refine thenK_normal ?_
          | refine thenK_ret ?_
          | refine thenK_exit ?_
          | refine blockK_normal ?_
          | refine blockK_ret ?_
          | refine blockK_here ?_
          | refine loopK_ret ?_
          | refine loopK_exit ?_
          | refine blockK_exit (by decide) ?_
          | (refine wreg (mos := q17_0) hE [0, 1] (by kernel_rfl) ?_; intro K hK; simp [q17_0, he]; (repeat' (first | refine hK _ _ ?_ | refine And.intro ?_ ?_ | intro hc)) <;> (try clear hK K) <;> (try subst_vars))
          | (refine wreg (mos := q17_1) hE [0, 1] (by kernel_rfl) ?_; intro K hK; simp [q17_1, he]; (repeat' (first | refine hK _ _ ?_ | refine And.intro ?_ ?_ | intro hc)) <;> (try clear hK K) <;> (try subst_vars))
          | (refine wreg (mos := q17_2) hE [0, 1, 15] (by kernel_rfl) ?_; intro K hK; simp [q17_2, he]; (repeat' (first | refine hK _ _ ?_ | refine And.intro ?_ ?_ | intro hc)) <;> (try clear hK K) <;> (try subst_vars))
          | (refine wreg (mos := q17_3) hE [4] (by kernel_rfl) ?_; intro K hK; simp [q17_3, he]; (repeat' (first | refine hK _ _ ?_ | refine And.intro ?_ ?_ | intro hc)) <;> (try clear hK K) <;> (try subst_vars))
          | (refine wreg (mos := q17_4) hE [4] (by kernel_rfl) ?_; intro K hK; simp [q17_4, he]; (repeat' (first | refine hK _ _ ?_ | refine And.intro ?_ ?_ | intro hc)) <;> (try clear hK K) <;> (try subst_vars))
          | (refine Wm_cond (b := _) (by with_unfolding_all rfl) (fun hc => ?_) (fun hc => ?_) <;> simp at hc <;> (try subst_vars)))
        all_goals first
          | (simp at *; omega)
          | (simp; exact ⟨_, LeW_zero (by simp [Ren, belowZ, h1]) (by simp [hk, ObjLe, RenL, Ren])⟩)
      · have hz := wrap_u64_pos (n := n) (by omega) hcond
        unfold m17
        repeat' with_reducible (first
          | refine Wm_seq ?_
          | refine Wm_skip ?_
          | refine Wm_ret ?_
          | refine Wm_block ?_
          | refine Wm_exit ?_
          | refine thenK_normal ?_
          | refine thenK_ret ?_
          | refine thenK_exit ?_
          | refine blockK_normal ?_
          | refine blockK_ret ?_
          | refine blockK_here ?_
          | refine loopK_ret ?_
          | refine loopK_exit ?_
          | refine blockK_exit (by decide) ?_
          | (refine wreg (mos := q17_0) hE [0, 1] (by kernel_rfl) ?_; intro K hK; simp [q17_0, he, hz]; (repeat' (first | refine hK _ _ ?_ | refine And.intro ?_ ?_ | intro hc)) <;> (try clear hK K) <;> (try subst_vars))
          | (refine wreg (mos := q17_1) hE [0, 1] (by kernel_rfl) ?_; intro K hK; simp [q17_1, he, hz]; (repeat' (first | refine hK _ _ ?_ | refine And.intro ?_ ?_ | intro hc)) <;> (try clear hK K) <;> (try subst_vars))
          | (refine wreg (mos := q17_2) hE [0, 1, 15] (by kernel_rfl) ?_; intro K hK; simp [q17_2, he, hz]; (repeat' (first | refine hK _ _ ?_ | refine And.intro ?_ ?_ | intro hc)) <;> (try clear hK K) <;> (try subst_vars))
          | (refine wreg (mos := q17_3) hE [4] (by kernel_rfl) ?_; intro K hK; simp [q17_3, he, hz]; (repeat' (first | refine hK _ _ ?_ | refine And.intro ?_ ?_ | intro hc)) <;> (try clear hK K) <;> (try subst_vars))
          | (refine wreg (mos := q17_4) hE [4] (by kernel_rfl) ?_; intro K hK; simp [q17_4, he, hz]; (repeat' (first | refine hK _ _ ?_ | refine And.intro ?_ ?_ | intro hc)) <;> (try clear hK K) <;> (try subst_vars))
          | (refine Wm_cond (b := _) (by with_unfolding_all rfl) (fun hc => ?_) (fun hc => ?_) <;> simp at hc <;> (try subst_vars)))
        all_goals first
          | (simp at *; omega)
          | (simp; exact ⟨_, LeW_zero (by simp [Ren, below_quo (s := s) (n := n) (by omega) hcond]) (by simp [hk, ObjLe, RenL, Ren])⟩)
    · cases h
  · cases h
end Go.Vc
