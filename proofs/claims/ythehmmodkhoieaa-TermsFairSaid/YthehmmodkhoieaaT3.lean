import Derived.Test.YthehmmodkhoieaaT2
namespace Go.Vc
open Go.Proofs
set_option linter.unusedSimpArgs false
set_option linter.unusedVariables false
set_option maxHeartbeats 4000000
attribute [local irreducible] Wm
theorem mid_le {lo hi : Int} (h1 : 1 ≤ lo) (h2 : lo ≤ hi) (h3 : hi ≤ 9999) : midZ lo hi = (lo + hi) / 2 := by
  unfold midZ upZ
  rw [if_neg (by omega), wrap_in (n := hi - lo) (by omega) (by omega), Int.tdiv_eq_ediv_of_nonneg (by omega), wrap_in (n := (hi - lo) / 2) (by omega) (by omega), wrap_in (n := lo + (hi - lo) / 2) (by omega) (by omega), wrap_in (by omega) (by omega)]
  omega

theorem avg_in {a b : Int} (h1 : 1 ≤ a) (h2 : a ≤ 9999) (h3 : 1 ≤ b) (h4 : b ≤ 9999) : IntKind.wrap .i64 ((IntKind.wrap .i64 (a + b)).tdiv 2) = (a + b) / 2 := by
  rw [wrap_in (n := a + b) (by omega) (by omega), Int.tdiv_eq_ediv_of_nonneg (by omega), wrap_in (by omega) (by omega)]

theorem pair_ref {a b : Off} {x y : Int} (h : (1 ≤ a.p ∧ a.p ≤ 9999) ∧ 1 ≤ b.p ∧ b.p ≤ 9999) : pairZ a b x y (maxZ a.m b.m) (a.k == b.k) = refPair a b x y := by
  obtain ⟨⟨h1, h2⟩, h3, h4⟩ := h
  unfold pairZ refPair
  rw [avg_in h1 h2 h3 h4]
  by_cases c1 : a.s ≠ 0 ∨ b.s ≠ 1 ∨ a.k ≠ b.k
  · rw [if_pos (by simpa using c1), if_pos (by rcases c1 with c | c | c <;> simp [c])]
  · rw [if_neg (by simpa using c1)]
    by_cases c2 : a.p < b.p
    · rw [if_pos (.inl c2), if_pos (by simp [c2])]
    · rw [if_neg (c := a.s ≠ 0 ∨ b.s ≠ 1 ∨ a.k ≠ b.k ∨ a.p < b.p) (by intro hh; rcases hh with c | c | c | c <;> simp_all), mid_le h3 (by omega) h2]
      have e : (a.p < b.p ∨ minZ x y < 1 ∨ minZ x y < maxZ a.m b.m) ↔ (minZ x y < 1 ∨ minZ x y < a.m ∨ minZ x y < b.m) := by
        unfold maxZ
        split <;> omega
      simp only [e]
      rw [Int.add_comm b.p a.p]

theorem minZ_comm (x y : Int) : minZ x y = minZ y x := by unfold minZ; split <;> split <;> omega
theorem maxZ_comm (x y : Int) : maxZ x y = maxZ y x := by unfold maxZ; split <;> split <;> omega

theorem match_ref {a b : Off} {x y : Int} (h : (1 ≤ a.p ∧ a.p ≤ 9999) ∧ 1 ≤ b.p ∧ b.p ≤ 9999) : matchZ a b x y = refMatchZ a b x y := by
  unfold matchZ refMatchZ
  split
  · rw [← pair_ref ⟨h.2, h.1⟩, maxZ_comm a.m b.m, show (a.k == b.k) = (b.k == a.k) from Bool.beq_comm]
    unfold pairZ
    rw [minZ_comm x y]
  · exact pair_ref h

theorem awake_match : matchZ ⟨0, 0, 10, 2, 9⟩ ⟨0, 1, 7, 1, 9⟩ 5 3 = (3, 8) := by kernel_rfl

def d21 : List AV → Option AV
  | [] => some (.bool true)
  | _ => none

theorem s21 : Sound Try.prog 21 (scal d21) := by
  refine scal_sound Try.func21 nm21 rc21 rv21 ?_ ?_
  · intro args r h
    unfold d21 at h
    split at h
    · injection h with h; subst h; exact ⟨flat_args rfl, rfl, Nat.le_of_ble_eq_true rfl⟩
    · cases h
  intro args r h w0 S _
  unfold d21 at h
  split at h
  · injection h with h
    subst h
    have hE : SoundAll Try.prog (EL [(22, scal d22)]) := EL_sound (by simp only [List.mem_cons, List.not_mem_nil, or_false, forall_eq_or_imp, forall_eq]; exact s22)
    unfold m21
    repeat' with_reducible (first
      | refine Wm_seq ?_
      | refine Wm_skip ?_
      | refine Wm_ret ?_
      | refine Wm_block ?_
      | refine Wm_exit ?_
      | refine thenK_normal ?_
      | refine thenK_ret ?_
      | refine thenK_exit ?_
      | refine blockK_normal ?_
      | refine blockK_ret ?_
      | refine blockK_here ?_
      | refine loopK_ret ?_
      | refine loopK_exit ?_
      | refine blockK_exit (by decide) ?_
      | (refine wreg (mos := q21_0) hE [] (by kernel_rfl) ?_; intro K hK; simp [q21_0, d22, awake_match]; (repeat' (first | refine hK _ _ ?_ | refine And.intro ?_ ?_ | intro hc)) <;> (try clear hK K) <;> (try subst_vars))
      | (refine wreg (mos := q21_1) hE [1] (by kernel_rfl) ?_; intro K hK; simp [q21_1, d22, awake_match]; (repeat' (first | refine hK _ _ ?_ | refine And.intro ?_ ?_ | intro hc)) <;> (try clear hK K) <;> (try subst_vars))
      | (refine wreg (mos := q21_2) hE [1, 2] (by kernel_rfl) ?_; intro K hK; simp [q21_2, d22, awake_match]; (repeat' (first | refine hK _ _ ?_ | refine And.intro ?_ ?_ | intro hc)) <;> (try clear hK K) <;> (try subst_vars))
      | (refine wreg (mos := q21_3) hE [0] (by kernel_rfl) ?_; intro K hK; simp [q21_3, d22, awake_match]; (repeat' (first | refine hK _ _ ?_ | refine And.intro ?_ ?_ | intro hc)) <;> (try clear hK K) <;> (try subst_vars))
      | (refine Wm_cond (b := _) (by with_unfolding_all rfl) (fun hc => ?_) (fun hc => ?_) <;> simp at hc <;> (try subst_vars)))
    all_goals simp
  · cases h
def d6 : List AV → Option AV
  | [.agg [.int .i64 k, .int .i64 s, .int .i64 p, .int .i64 m, .int .i64 e], .agg [.int .i64 k', .int .i64 s', .int .i64 p', .int .i64 m', .int .i64 e'], .int .i64 x, .int .i64 y, .int .i64 z] => some (.bool true)
  | _ => none

theorem s6 : Sound Try.prog 6 (scal d6) := by
  refine scal_sound Try.func6 nm6 rc6 rv6 ?_ ?_
  · intro args r h
    unfold d6 at h
    split at h
    · injection h with h; subst h; exact ⟨flat_args rfl, rfl, Nat.le_of_ble_eq_true rfl⟩
    · cases h
  intro args r h w0 S _
  unfold d6 at h
  split at h
  · injection h with h
    subst h
    have hE : SoundAll Try.prog (EL [(20, scalV [5] d20), (21, scal d21), (22, scal d22), (23, scal d23), (24, scal d24), (25, scal d25)]) := EL_sound (by simp only [List.mem_cons, List.not_mem_nil, or_false, forall_eq_or_imp, forall_eq]; exact ⟨s20, s21, s22, s23, s24, s25⟩)
    unfold m6
    repeat' with_reducible (first
      | refine Wm_seq ?_
      | refine Wm_skip ?_
      | refine Wm_ret ?_
      | refine Wm_block ?_
      | refine Wm_exit ?_
      | refine thenK_normal ?_
      | refine thenK_ret ?_
      | refine thenK_exit ?_
      | refine blockK_normal ?_
      | refine blockK_ret ?_
      | refine blockK_here ?_
      | refine loopK_ret ?_
      | refine loopK_exit ?_
      | refine blockK_exit (by decide) ?_
      | (refine wreg (mos := q6_0) hE [2, 3, 4, 5, 6] (by kernel_rfl) ?_; intro K hK; simp [q6_0, d20, d21, d22, d23, d24, d25, allN, rowOff, priceOk]; (repeat' (first | refine hK _ _ ?_ | refine And.intro ?_ ?_ | intro hc)) <;> (try clear hK K) <;> (try subst_vars))
      | (refine wreg (mos := q6_1) hE [2, 3, 4, 5, 6, 19] (by kernel_rfl) ?_; intro K hK; simp [q6_1, d20, d21, d22, d23, d24, d25, allN, rowOff, priceOk]; (repeat' (first | refine hK _ _ ?_ | refine And.intro ?_ ?_ | intro hc)) <;> (try clear hK K) <;> (try subst_vars))
      | (refine wreg (mos := q6_2) hE [10] (by kernel_rfl) ?_; intro K hK; simp [q6_2, d20, d21, d22, d23, d24, d25, allN, rowOff, priceOk]; (repeat' (first | refine hK _ _ ?_ | refine And.intro ?_ ?_ | intro hc)) <;> (try clear hK K) <;> (try subst_vars))
      | (refine wreg (mos := q6_3) hE [2, 3, 4, 5, 6, 11] (by kernel_rfl) ?_; intro K hK; simp [q6_3, d20, d21, d22, d23, d24, d25, allN, rowOff, priceOk]; (repeat' (first | refine hK _ _ ?_ | refine And.intro ?_ ?_ | intro hc)) <;> (try clear hK K) <;> (try subst_vars))
      | (refine wreg (mos := q6_4) hE [2, 3, 4, 11, 12, 13] (by kernel_rfl) ?_; intro K hK; simp [q6_4, d20, d21, d22, d23, d24, d25, allN, rowOff, priceOk]; (repeat' (first | refine hK _ _ ?_ | refine And.intro ?_ ?_ | intro hc)) <;> (try clear hK K) <;> (try subst_vars))
      | (refine wreg (mos := q6_5) hE [2, 3, 4, 11, 12, 13, 14] (by kernel_rfl) ?_; intro K hK; simp [q6_5, d20, d21, d22, d23, d24, d25, allN, rowOff, priceOk]; (repeat' (first | refine hK _ _ ?_ | refine And.intro ?_ ?_ | intro hc)) <;> (try clear hK K) <;> (try subst_vars))
      | (refine wreg (mos := q6_6) hE [2, 3, 4, 11, 12, 13, 14, 39] (by kernel_rfl) ?_; intro K hK; simp [q6_6, d20, d21, d22, d23, d24, d25, allN, rowOff, priceOk]; (repeat' (first | refine hK _ _ ?_ | refine And.intro ?_ ?_ | intro hc)) <;> (try clear hK K) <;> (try subst_vars))
      | (refine wreg (mos := q6_7) hE [2, 3, 4, 11, 12, 13, 14] (by kernel_rfl) ?_; intro K hK; simp [q6_7, d20, d21, d22, d23, d24, d25, allN, rowOff, priceOk]; (repeat' (first | refine hK _ _ ?_ | refine And.intro ?_ ?_ | intro hc)) <;> (try clear hK K) <;> (try subst_vars))
      | (refine wreg (mos := q6_8) hE [10] (by kernel_rfl) ?_; intro K hK; simp [q6_8, d20, d21, d22, d23, d24, d25, allN, rowOff, priceOk]; (repeat' (first | refine hK _ _ ?_ | refine And.intro ?_ ?_ | intro hc)) <;> (try clear hK K) <;> (try subst_vars))
      | (refine Wm_cond (b := _) (by with_unfolding_all rfl) (fun hc => ?_) (fun hc => ?_) <;> simp at hc <;> (try subst_vars)))
    all_goals simp
    all_goals simp_all [match_ref, betZ, nameZ]
    all_goals rfl
  · cases h
end Go.Vc
