import Derived.Test.YthehmmodkhoieaaT10
namespace Go.Vc
open Go.Proofs
set_option linter.unusedSimpArgs false
set_option linter.unusedVariables false
set_option maxHeartbeats 4000000
attribute [local irreducible] Wm
def d4 : List AV → Option AV
  | [.agg [.int .i64 k, .int .i64 s, .int .i64 p, .int .i64 m, .int .i64 e], .agg [.int .i64 k', .int .i64 s', .int .i64 p', .int .i64 m', .int .i64 e'], .int .i64 x, .int .i64 y] => if -9223372036854775808 ≤ x ∧ x ≤ 9223372036854775807 then some (.bool true) else none
  | _ => none

theorem s4 : Sound Try.prog 4 (scal d4) := by
  refine scal_sound Try.func4 nm4 rc4 rv4 ?_ ?_
  · intro args r h
    unfold d4 at h
    split at h
    · split at h
      · injection h with h; subst h; exact ⟨flat_args rfl, rfl, Nat.le_of_ble_eq_true rfl⟩
      · cases h
    · cases h
  intro args r h w0 S _
  unfold d4 at h
  split at h
  · split at h
    · rename_i hcond
      injection h with h
      subst h
      have hE : SoundAll Try.prog (EL [(20, scalV [5] d20), (21, scal d21), (22, scal d22)]) := EL_sound (by simp only [List.mem_cons, List.not_mem_nil, or_false, forall_eq_or_imp, forall_eq]; exact ⟨s20, s21, s22⟩)
      unfold m4
      repeat' with_reducible (first
        | refine Wm_seq ?_
        | refine Wm_skip ?_
        | refine Wm_ret ?_
        | refine Wm_block ?_
        | refine Wm_exit ?_
        | refine thenK_normal ?_
        | refine thenK_ret ?_
        | refine thenK_exit ?_
        | refine blockK_normal ?_
        | refine blockK_ret ?_
        | refine blockK_here ?_
        | refine loopK_ret ?_
        | refine loopK_exit ?_
        | refine blockK_exit (by decide) ?_
        | (refine wreg (mos := q4_0) hE [2, 3, 4, 5] (by kernel_rfl) ?_; intro K hK; simp [q4_0, d20, d21, d22, allN, rowOff, priceOk]; (repeat' (first | refine hK _ _ ?_ | refine And.intro ?_ ?_ | intro hc)) <;> (try clear hK K) <;> (try subst_vars))
        | (refine wreg (mos := q4_1) hE [2, 3, 4, 5, 15] (by kernel_rfl) ?_; intro K hK; simp [q4_1, d20, d21, d22, allN, rowOff, priceOk]; (repeat' (first | refine hK _ _ ?_ | refine And.intro ?_ ?_ | intro hc)) <;> (try clear hK K) <;> (try subst_vars))
        | (refine wreg (mos := q4_2) hE [8] (by kernel_rfl) ?_; intro K hK; simp [q4_2, d20, d21, d22, allN, rowOff, priceOk]; (repeat' (first | refine hK _ _ ?_ | refine And.intro ?_ ?_ | intro hc)) <;> (try clear hK K) <;> (try subst_vars))
        | (refine wdraw (mos := q4_3) hE mixT [2, 3, 4, 5, 9, 10] (by kernel_rfl) ?_; intro K hK; simp [q4_3, p4_3, d20, d21, d22, allN, rowOff, priceOk]; (repeat' (first | refine hK _ _ ?_ | refine And.intro ?_ ?_ | intro hc)) <;> (try clear hK K) <;> (try subst_vars))
        | (refine wreg (mos := q4_4) hE [2, 3, 4, 5, 9, 29] (by kernel_rfl) ?_; intro K hK; simp [q4_4, d20, d21, d22, allN, rowOff, priceOk]; (repeat' (first | refine hK _ _ ?_ | refine And.intro ?_ ?_ | intro hc)) <;> (try clear hK K) <;> (try subst_vars))
        | (refine wreg (mos := q4_5) hE [8] (by kernel_rfl) ?_; intro K hK; simp [q4_5, d20, d21, d22, allN, rowOff, priceOk]; (repeat' (first | refine hK _ _ ?_ | refine And.intro ?_ ?_ | intro hc)) <;> (try clear hK K) <;> (try subst_vars))
        | (refine wreg (mos := q4_6) hE [2, 3, 4, 5, 9, 32] (by kernel_rfl) ?_; intro K hK; simp [q4_6, d20, d21, d22, allN, rowOff, priceOk]; (repeat' (first | refine hK _ _ ?_ | refine And.intro ?_ ?_ | intro hc)) <;> (try clear hK K) <;> (try subst_vars))
        | (refine wreg (mos := q4_7) hE [8] (by kernel_rfl) ?_; intro K hK; simp [q4_7, d20, d21, d22, allN, rowOff, priceOk]; (repeat' (first | refine hK _ _ ?_ | refine And.intro ?_ ?_ | intro hc)) <;> (try clear hK K) <;> (try subst_vars))
        | (refine wreg (mos := q4_8) hE [8] (by kernel_rfl) ?_; intro K hK; simp [q4_8, d20, d21, d22, allN, rowOff, priceOk]; (repeat' (first | refine hK _ _ ?_ | refine And.intro ?_ ?_ | intro hc)) <;> (try clear hK K) <;> (try subst_vars))
        | (refine Wm_cond (b := _) (by with_unfolding_all rfl) (fun hc => ?_) (fun hc => ?_) <;> simp at hc <;> (try subst_vars)))
      all_goals try simp
      all_goals first
        | grind [match_swap, match_less, match_both, match_pos, pricedP]
        | (exfalso; rename_i hp _ h0; exact match_ge1 hp h0 hc)
    · cases h
  · cases h
end Go.Vc
