import Derived.Test.YthehmmodkhoieaaT9
namespace Go.Vc
open Go.Proofs
set_option linter.unusedSimpArgs false
set_option linter.unusedVariables false
set_option maxHeartbeats 4000000
attribute [local irreducible] Wm
def d5 : List AV → Option AV
  | [.agg [.int .i64 k, .int .i64 s, .int .i64 p, .int .i64 m, .int .i64 e], .agg [.int .i64 k', .int .i64 s', .int .i64 p', .int .i64 m', .int .i64 e'], .int .i64 x, .int .i64 y, .int .u16 z] => if 0 ≤ z ∧ z ≤ 65535 then some (.bool true) else none
  | _ => none

theorem s5 : Sound Try.prog 5 (scal d5) := by
  refine scal_sound Try.func5 nm5 rc5 rv5 ?_ ?_
  · intro args r h
    unfold d5 at h
    split at h
    · split at h
      · injection h with h; subst h; exact ⟨flat_args rfl, rfl, Nat.le_of_ble_eq_true rfl⟩
      · cases h
    · cases h
  intro args r h w0 S _
  unfold d5 at h
  split at h
  · split at h
    · rename_i hcond
      injection h with h
      subst h
      have hE : SoundAll Try.prog (EL [(20, scalV [5] d20), (21, scal d21), (22, scal d22)]) := EL_sound (by simp only [List.mem_cons, List.not_mem_nil, or_false, forall_eq_or_imp, forall_eq]; exact ⟨s20, s21, s22⟩)
      unfold m5
      repeat' with_reducible (first
        | refine Wm_seq ?_
        | refine Wm_skip ?_
        | refine Wm_ret ?_
        | refine Wm_block ?_
        | refine Wm_exit ?_
        | refine thenK_normal ?_
        | refine thenK_ret ?_
        | refine thenK_exit ?_
        | refine blockK_normal ?_
        | refine blockK_ret ?_
        | refine blockK_here ?_
        | refine loopK_ret ?_
        | refine loopK_exit ?_
        | refine blockK_exit (by decide) ?_
        | (refine wreg (mos := q5_0) hE [2, 3, 4, 5, 6] (by kernel_rfl) ?_; intro K hK; simp [q5_0, d20, d21, d22, allN, rowOff, priceOk]; (repeat' (first | refine hK _ _ ?_ | refine And.intro ?_ ?_ | intro hc)) <;> (try clear hK K) <;> (try subst_vars))
        | (refine wreg (mos := q5_1) hE [2, 3, 4, 5, 6, 33] (by kernel_rfl) ?_; intro K hK; simp [q5_1, d20, d21, d22, allN, rowOff, priceOk]; (repeat' (first | refine hK _ _ ?_ | refine And.intro ?_ ?_ | intro hc)) <;> (try clear hK K) <;> (try subst_vars))
        | (refine wreg (mos := q5_2) hE [10] (by kernel_rfl) ?_; intro K hK; simp [q5_2, d20, d21, d22, allN, rowOff, priceOk]; (repeat' (first | refine hK _ _ ?_ | refine And.intro ?_ ?_ | intro hc)) <;> (try clear hK K) <;> (try subst_vars))
        | (refine wreg (mos := q5_3) hE [2, 3, 4, 5, 6, 11] (by kernel_rfl) ?_; intro K hK; simp [q5_3, d20, d21, d22, allN, rowOff, priceOk]; (repeat' (first | refine hK _ _ ?_ | refine And.intro ?_ ?_ | intro hc)) <;> (try clear hK K) <;> (try subst_vars))
        | (refine wreg (mos := q5_4) hE [2, 3, 4, 5, 6, 11] (by kernel_rfl) ?_; intro K hK; simp [q5_4, d20, d21, d22, allN, rowOff, priceOk]; (repeat' (first | refine hK _ _ ?_ | refine And.intro ?_ ?_ | intro hc)) <;> (try clear hK K) <;> (try subst_vars))
        | (refine wdraw (mos := q5_5) hE mixT [2, 3, 4, 5, 6, 12, 13] (by kernel_rfl) ?_; intro K hK; simp [q5_5, p5_5, d20, d21, d22, allN, rowOff, priceOk]; (repeat' (first | refine hK _ _ ?_ | refine And.intro ?_ ?_ | intro hc)) <;> (try clear hK K) <;> (try subst_vars))
        | (refine wreg (mos := q5_6) hE [2, 3, 4, 5, 6, 12, 68] (by kernel_rfl) ?_; intro K hK; simp [q5_6, d20, d21, d22, allN, rowOff, priceOk]; (repeat' (first | refine hK _ _ ?_ | refine And.intro ?_ ?_ | intro hc)) <;> (try clear hK K) <;> (try subst_vars))
        | (refine wreg (mos := q5_7) hE [10] (by kernel_rfl) ?_; intro K hK; simp [q5_7, d20, d21, d22, allN, rowOff, priceOk]; (repeat' (first | refine hK _ _ ?_ | refine And.intro ?_ ?_ | intro hc)) <;> (try clear hK K) <;> (try subst_vars))
        | (refine wreg (mos := q5_8) hE [2, 3, 4, 5, 6, 12, 14] (by kernel_rfl) ?_; intro K hK; simp [q5_8, d20, d21, d22, allN, rowOff, priceOk]; (repeat' (first | refine hK _ _ ?_ | refine And.intro ?_ ?_ | intro hc)) <;> (try clear hK K) <;> (try subst_vars))
        | (refine wreg (mos := q5_9) hE [2, 3, 5, 12, 14] (by kernel_rfl) ?_; intro K hK; simp [q5_9, d20, d21, d22, allN, rowOff, priceOk]; (repeat' (first | refine hK _ _ ?_ | refine And.intro ?_ ?_ | intro hc)) <;> (try clear hK K) <;> (try subst_vars))
        | (refine wreg (mos := q5_10) hE [12, 15] (by kernel_rfl) ?_; intro K hK; simp [q5_10, d20, d21, d22, allN, rowOff, priceOk]; (repeat' (first | refine hK _ _ ?_ | refine And.intro ?_ ?_ | intro hc)) <;> (try clear hK K) <;> (try subst_vars))
        | (refine wreg (mos := q5_11) hE [10] (by kernel_rfl) ?_; intro K hK; simp [q5_11, d20, d21, d22, allN, rowOff, priceOk]; (repeat' (first | refine hK _ _ ?_ | refine And.intro ?_ ?_ | intro hc)) <;> (try clear hK K) <;> (try subst_vars))
        | (refine Wm_cond (b := _) (by with_unfolding_all rfl) (fun hc => ?_) (fun hc => ?_) <;> simp at hc <;> (try subst_vars)))
      all_goals try simp
      all_goals grind [match_up, match_down, match_both]
    · cases h
  · cases h
end Go.Vc
