import Derived.Test.YthehmmodkhoieaaT12
namespace Go.Vc
open Go.Proofs
set_option linter.unusedSimpArgs false
set_option linter.unusedVariables false
set_option maxHeartbeats 4000000
attribute [local irreducible] Wm

theorem shr_quo (s : Int) : IntKind.wrap .u64 ((nextS s).tdiv 8589934592) = shrI .u64 (nextS s) 33 := by
  have hs := nextS_in s
  have e : shrI .u64 (nextS s) 33 = nextS s / 8589934592 := by
    show (nextS s).fdiv (8589934592 : Int) = _
    rw [Int.fdiv_eq_ediv_of_nonneg _ (by omega)]
  rw [e, Int.tdiv_eq_ediv_of_nonneg hs.1, u64_in' (by omega) (by omega)]

def rowIn (l : List AV) : Bool := rowInt l && decide (val1 l ≤ 9223372036854775807)

def d3 : List DV → Option AV
  | [.v (.int .u64 s), .s 1 n f] => if allN n (fun j => rowIn (f j)) = true ∧ n ≤ 9223372036854775807 then some (.bool true) else none
  | _ => none

theorem s3 : Sound Try.prog 3 (scalV [1] d3) := by
  refine scalV_sound (szs := [1]) Try.func3 nm3 rc3 rv3 ?_ ?_
  · intro ds r h
    unfold d3 at h
    split at h
    · split at h
      · rename_i s n f hc
        injection h with h
        subst h
        refine ⟨fun d hd => ?_, rfl, Nat.le_of_ble_eq_true rfl⟩
        simp only [List.mem_cons, List.not_mem_nil, or_false] at hd
        rcases hd with rfl | rfl
        · rfl
        · intro j hj
          have := allN_iff.1 hc.1 j hj
          simp only [rowIn, Bool.and_eq_true] at this
          rw [rowInt_some this.1]; rfl
      · cases h
    · cases h
  intro ds r h w0 S hS
  unfold d3 at h
  split at h
  · split at h
    · rename_i s n f hc
      injection h with h
      subst h
      obtain ⟨hrow, hn⟩ := hc
      have hrow := allN_iff.1 hrow
      simp only [cObjs, List.length_cons, List.length_nil] at hS
      have hi1 : ∀ j, j < n → ∃ v : Int, f j = [.int .i64 v] ∧ v ≤ 9223372036854775807 := fun j hj => by
        have := hrow j hj
        simp only [rowIn, Bool.and_eq_true, decide_eq_true_eq] at this
        exact ⟨_, rowInt_some this.1, this.2⟩
      have hall : ∀ k, k ≤ n → allN k (fun j => rowInt (f j)) = true := fun k hk => allN_iff.2 fun j hj => by
        have := hrow j (by omega)
        simp only [rowIn, Bool.and_eq_true] at this
        exact this.1
      have hE : SoundAll Try.prog (EL [(14, scal d14), (15, objS [] d15 fl15), (16, objS [0] d16 fl16), (17, objS [0] d17 fl17), (18, objS [0, 1] d18 fl18), (19, objS [0] d19 fl19)]) := EL_sound (by simp only [List.mem_cons, List.not_mem_nil, or_false, forall_eq_or_imp, forall_eq]; exact ⟨s14, s15, s16, s17, s18, s19⟩)
      unfold m3
      repeat' with_reducible (first
        | refine Wm_seq ?_
        | refine Wm_skip ?_
        | refine Wm_ret ?_
        | refine Wm_block ?_
        | refine Wm_exit ?_
        | refine thenK_normal ?_
        | refine thenK_ret ?_
        | refine thenK_exit ?_
        | refine blockK_normal ?_
        | refine blockK_ret ?_
        | refine blockK_here ?_
        | refine loopK_ret ?_
        | refine loopK_exit ?_
        | refine blockK_exit (by decide) ?_
        | (refine wreg (mos := q3_0) hE [0, 1] (by kernel_rfl) ?_; intro K hK; simp [q3_0, d14, d15, d16, d17, d18, d19, shr_quo]; (repeat' (first | refine hK _ _ ?_ | refine And.intro ?_ ?_ | intro hc)) <;> (try clear hK K) <;> (try subst_vars))
        | (refine wreg (mos := q3_1) hE [0, 1, 15] (by kernel_rfl) ?_; intro K hK; simp [q3_1, d14, d15, d16, d17, d18, d19, shr_quo]; (repeat' (first | refine hK _ _ ?_ | refine And.intro ?_ ?_ | intro hc)) <;> (try clear hK K) <;> (try subst_vars))
        | (refine wreg (mos := q3_2) hE [4] (by kernel_rfl) ?_; intro K hK; simp [q3_2, d14, d15, d16, d17, d18, d19, shr_quo]; (repeat' (first | refine hK _ _ ?_ | refine And.intro ?_ ?_ | intro hc)) <;> (try clear hK K) <;> (try subst_vars))
        | (refine wreg (mos := q3_3) hE [1, 5, 6, 7] (by kernel_rfl) ?_; intro K hK; simp [q3_3, d14, d15, d16, d17, d18, d19, shr_quo]; (repeat' (first | refine hK _ _ ?_ | refine And.intro ?_ ?_ | intro hc)) <;> (try clear hK K) <;> (try subst_vars))
        | (refine wreg (mos := q3_4) hE [1, 5, 6, 7, 24, 25, 26] (by kernel_rfl) ?_; intro K hK; simp [q3_4, d14, d15, d16, d17, d18, d19, shr_quo]; (repeat' (first | refine hK _ _ ?_ | refine And.intro ?_ ?_ | intro hc)) <;> (try clear hK K) <;> (try subst_vars))
        | (refine wreg (mos := q3_5) hE [1, 5, 6, 7, 24, 25, 26, 27, 40, 41, 42, 43, 44, 66, 67, 68, 69, 70] (by kernel_rfl) ?_; intro K hK; simp [q3_5, d14, d15, d16, d17, d18, d19, shr_quo]; (repeat' (first | refine hK _ _ ?_ | refine And.intro ?_ ?_ | intro hc)) <;> (try clear hK K) <;> (try subst_vars))
        | (refine wreg (mos := q3_6) hE [1, 5, 6, 7, 8, 9, 24, 25, 26, 40, 41, 42, 43, 44, 66, 67, 68, 69, 70] (by kernel_rfl) ?_; intro K hK; simp [q3_6, d14, d15, d16, d17, d18, d19, shr_quo]; (repeat' (first | refine hK _ _ ?_ | refine And.intro ?_ ?_ | intro hc)) <;> (try clear hK K) <;> (try subst_vars))
        | (refine wreg (mos := q3_7) hE [1, 5, 6, 7, 8, 9, 10, 24, 25, 26, 40, 41, 42, 43, 44, 66, 67, 68, 69, 70] (by kernel_rfl) ?_; intro K hK; simp [q3_7, d14, d15, d16, d17, d18, d19, shr_quo]; (repeat' (first | refine hK _ _ ?_ | refine And.intro ?_ ?_ | intro hc)) <;> (try clear hK K) <;> (try subst_vars))
        | (refine wreg (mos := q3_8) hE [1, 5, 6, 7, 8, 24, 25, 26, 40, 41, 42, 43, 44, 45, 66, 67, 68, 69, 70] (by kernel_rfl) ?_; intro K hK; simp [q3_8, d14, d15, d16, d17, d18, d19, shr_quo]; (repeat' (first | refine hK _ _ ?_ | refine And.intro ?_ ?_ | intro hc)) <;> (try clear hK K) <;> (try subst_vars))
        | (refine wreg (mos := q3_9) hE [4] (by kernel_rfl) ?_; intro K hK; simp [q3_9, d14, d15, d16, d17, d18, d19, shr_quo]; (repeat' (first | refine hK _ _ ?_ | refine And.intro ?_ ?_ | intro hc)) <;> (try clear hK K) <;> (try subst_vars))
        | (refine wreg (mos := q3_10) hE [1, 5, 6, 7, 11, 24, 25, 26, 40, 41, 42, 43, 44, 66, 67, 68, 69, 70] (by kernel_rfl) ?_; intro K hK; simp [q3_10, d14, d15, d16, d17, d18, d19, shr_quo]; (repeat' (first | refine hK _ _ ?_ | refine And.intro ?_ ?_ | intro hc)) <;> (try clear hK K) <;> (try subst_vars))
        | (refine wreg (mos := q3_11) hE [1, 5, 6, 7, 11, 12, 24, 25, 26, 40, 41, 42, 43, 44, 66, 67, 68, 69, 70] (by kernel_rfl) ?_; intro K hK; simp [q3_11, d14, d15, d16, d17, d18, d19, shr_quo]; (repeat' (first | refine hK _ _ ?_ | refine And.intro ?_ ?_ | intro hc)) <;> (try clear hK K) <;> (try subst_vars))
        | (refine wreg (mos := q3_12) hE [1, 5, 6, 7, 11, 12, 24, 25, 26, 40, 41, 42, 43, 44, 52, 66, 67, 68, 69, 70] (by kernel_rfl) ?_; intro K hK; simp [q3_12, d14, d15, d16, d17, d18, d19, shr_quo]; (repeat' (first | refine hK _ _ ?_ | refine And.intro ?_ ?_ | intro hc)) <;> (try clear hK K) <;> (try subst_vars))
        | (refine wreg (mos := q3_13) hE [1, 5, 6, 7, 11, 12, 24, 25, 26, 40, 41, 42, 43, 44, 66, 67, 68, 69, 70] (by kernel_rfl) ?_; intro K hK; simp [q3_13, d14, d15, d16, d17, d18, d19, shr_quo]; (repeat' (first | refine hK _ _ ?_ | refine And.intro ?_ ?_ | intro hc)) <;> (try clear hK K) <;> (try subst_vars))
        | (refine wreg (mos := q3_14) hE [1, 5, 6, 7, 24, 25, 26, 40, 41, 42, 43, 44, 66, 67, 68, 69, 70, 71] (by kernel_rfl) ?_; intro K hK; simp [q3_14, d14, d15, d16, d17, d18, d19, shr_quo]; (repeat' (first | refine hK _ _ ?_ | refine And.intro ?_ ?_ | intro hc)) <;> (try clear hK K) <;> (try subst_vars))
        | (refine wreg (mos := q3_15) hE [4] (by kernel_rfl) ?_; intro K hK; simp [q3_15, d14, d15, d16, d17, d18, d19, shr_quo]; (repeat' (first | refine hK _ _ ?_ | refine And.intro ?_ ?_ | intro hc)) <;> (try clear hK K) <;> (try subst_vars))
        | (refine wreg (mos := q3_16) hE [1, 5, 6, 7, 24, 25, 26, 40, 41, 42, 43, 44, 66, 67, 68, 69, 70] (by kernel_rfl) ?_; intro K hK; simp [q3_16, d14, d15, d16, d17, d18, d19, shr_quo]; (repeat' (first | refine hK _ _ ?_ | refine And.intro ?_ ?_ | intro hc)) <;> (try clear hK K) <;> (try subst_vars))
        | (refine wreg (mos := q3_17) hE [5, 7] (by kernel_rfl) ?_; intro K hK; simp [q3_17, d14, d15, d16, d17, d18, d19, shr_quo]; (repeat' (first | refine hK _ _ ?_ | refine And.intro ?_ ?_ | intro hc)) <;> (try clear hK K) <;> (try subst_vars))
        | (refine wdraw (mos := q3_18) hE mixT [4] (by kernel_rfl) ?_; intro K hK; simp [q3_18, p3_18, d14, d15, d16, d17, d18, d19, shr_quo]; (repeat' (first | refine hK _ _ ?_ | refine And.intro ?_ ?_ | intro hc)) <;> (try clear hK K) <;> (try subst_vars))
        | (refine Wm_cond (b := _) (by with_unfolding_all rfl) (fun hc => ?_) (fun hc => ?_) <;> simp at hc <;> (try subst_vars)))
      all_goals try (simp; done)
      refine Wm_loop (fun z : Nat × Int => ⟨[(1, .sl 0 0 n), (5, .ptr 1 0 0), (6, .ptr 2 0 0), (7, .ptr 3 0 0), (24, .sl 0 0 n), (25, .int .i64 n), (26, .int .i64 z.1)], [(0, .view 1 n f), (1, .cells [.int .u64 z.2]), (2, .cells [.int .u64 z.2]), (3, .cells [.int .u64 z.2])], 4⟩) (fun z => z.1 ≤ n) (fun z => n - z.1) (0, s) [(0, some 0), (1, some 41), (2, some 57), (3, some 81)] (Nat.zero_le _) ?_ ?_
      · refine ⟨fun x hx => ?_, by simp, by simp, by simp, by simp [Ren, lkp], ?_⟩
        · have : x = 0 := by omega
          subst this; rfl
        · simp [ObjRen, lkp, ObjLe, RenL, Ren]
          intro j hj
          obtain ⟨v, hv, _⟩ := hi1 j hj
          rw [hv]; simp [RenL, Ren]
      · rintro ⟨i, g⟩ hi
        have hi : i ≤ n := hi
        show Wm Try.prog w0 S Try.f3.ntmps [] _ ⟨[(1, .sl 0 0 n), (5, .ptr 1 0 0), (6, .ptr 2 0 0), (7, .ptr 3 0 0), (24, .sl 0 0 n), (25, .int .i64 n), (26, .int .i64 i)], [(0, .view 1 n f), (1, .cells [.int .u64 g]), (2, .cells [.int .u64 g]), (3, .cells [.int .u64 g])], 4⟩ _
        by_cases hin : i < n
        · obtain ⟨v, hv, hvm⟩ := hi1 i hin
          have h200 : n ≤ 200 := by omega
          have hwr : IntKind.wrap .i64 ((i : Int) + 1) = ((i + 1 : Nat) : Int) := by rw [wrap_in (by omega) (by omega)]; omega
          have h8 : (i : Int).tmod 8 = ((i % 8 : Nat) : Int) := by rw [Int.tmod_eq_emod_of_nonneg (by omega)]; omega
          have h8n : i % 8 ≤ n := by omega
          have hk := hall (i % 8) h8n
          have hkm : i % 8 ≤ 9223372036854775807 := by omega
          by_cases h0 : i % 8 = 0
          · have hp : pickZ (nextS g) 0 f = 0 := by simp [pickZ]
            repeat' with_reducible (first
              | refine Wm_seq ?_
              | refine Wm_skip ?_
              | refine Wm_ret ?_
              | refine Wm_block ?_
              | refine Wm_exit ?_
              | refine thenK_normal ?_
              | refine thenK_ret ?_
              | refine thenK_exit ?_
              | refine blockK_normal ?_
              | refine blockK_ret ?_
              | refine blockK_here ?_
              | refine loopK_ret ?_
              | refine loopK_exit ?_
              | refine blockK_exit (by decide) ?_
              | (refine wreg (mos := q3_0) hE [0, 1] (by kernel_rfl) ?_; intro K hK; simp [q3_0, d14, d15, d16, d17, d18, d19, shr_quo, hin, hv, hvm, hwr, h8, h0, hk, hp, allN]; (repeat' (first | refine hK _ _ ?_ | refine And.intro ?_ ?_ | intro hc)) <;> (try clear hK K) <;> (try subst_vars))
              | (refine wreg (mos := q3_1) hE [0, 1, 15] (by kernel_rfl) ?_; intro K hK; simp [q3_1, d14, d15, d16, d17, d18, d19, shr_quo, hin, hv, hvm, hwr, h8, h0, hk, hp, allN]; (repeat' (first | refine hK _ _ ?_ | refine And.intro ?_ ?_ | intro hc)) <;> (try clear hK K) <;> (try subst_vars))
              | (refine wreg (mos := q3_2) hE [4] (by kernel_rfl) ?_; intro K hK; simp [q3_2, d14, d15, d16, d17, d18, d19, shr_quo, hin, hv, hvm, hwr, h8, h0, hk, hp, allN]; (repeat' (first | refine hK _ _ ?_ | refine And.intro ?_ ?_ | intro hc)) <;> (try clear hK K) <;> (try subst_vars))
              | (refine wreg (mos := q3_3) hE [1, 5, 6, 7] (by kernel_rfl) ?_; intro K hK; simp [q3_3, d14, d15, d16, d17, d18, d19, shr_quo, hin, hv, hvm, hwr, h8, h0, hk, hp, allN]; (repeat' (first | refine hK _ _ ?_ | refine And.intro ?_ ?_ | intro hc)) <;> (try clear hK K) <;> (try subst_vars))
              | (refine wreg (mos := q3_4) hE [1, 5, 6, 7, 24, 25, 26] (by kernel_rfl) ?_; intro K hK; simp [q3_4, d14, d15, d16, d17, d18, d19, shr_quo, hin, hv, hvm, hwr, h8, h0, hk, hp, allN]; (repeat' (first | refine hK _ _ ?_ | refine And.intro ?_ ?_ | intro hc)) <;> (try clear hK K) <;> (try subst_vars))
              | (refine wreg (mos := q3_5) hE [1, 5, 6, 7, 24, 25, 26, 27, 40, 41, 42, 43, 44, 66, 67, 68, 69, 70] (by kernel_rfl) ?_; intro K hK; simp [q3_5, d14, d15, d16, d17, d18, d19, shr_quo, hin, hv, hvm, hwr, h8, h0, hk, hp, allN]; (repeat' (first | refine hK _ _ ?_ | refine And.intro ?_ ?_ | intro hc)) <;> (try clear hK K) <;> (try subst_vars))
              | (refine wreg (mos := q3_6) hE [1, 5, 6, 7, 8, 9, 24, 25, 26, 40, 41, 42, 43, 44, 66, 67, 68, 69, 70] (by kernel_rfl) ?_; intro K hK; simp [q3_6, d14, d15, d16, d17, d18, d19, shr_quo, hin, hv, hvm, hwr, h8, h0, hk, hp, allN]; (repeat' (first | refine hK _ _ ?_ | refine And.intro ?_ ?_ | intro hc)) <;> (try clear hK K) <;> (try subst_vars))
              | (refine wreg (mos := q3_7) hE [1, 5, 6, 7, 8, 9, 10, 24, 25, 26, 40, 41, 42, 43, 44, 66, 67, 68, 69, 70] (by kernel_rfl) ?_; intro K hK; simp [q3_7, d14, d15, d16, d17, d18, d19, shr_quo, hin, hv, hvm, hwr, h8, h0, hk, hp, allN]; (repeat' (first | refine hK _ _ ?_ | refine And.intro ?_ ?_ | intro hc)) <;> (try clear hK K) <;> (try subst_vars))
              | (refine wreg (mos := q3_8) hE [1, 5, 6, 7, 8, 24, 25, 26, 40, 41, 42, 43, 44, 45, 66, 67, 68, 69, 70] (by kernel_rfl) ?_; intro K hK; simp [q3_8, d14, d15, d16, d17, d18, d19, shr_quo, hin, hv, hvm, hwr, h8, h0, hk, hp, allN]; (repeat' (first | refine hK _ _ ?_ | refine And.intro ?_ ?_ | intro hc)) <;> (try clear hK K) <;> (try subst_vars))
              | (refine wreg (mos := q3_9) hE [4] (by kernel_rfl) ?_; intro K hK; simp [q3_9, d14, d15, d16, d17, d18, d19, shr_quo, hin, hv, hvm, hwr, h8, h0, hk, hp, allN]; (repeat' (first | refine hK _ _ ?_ | refine And.intro ?_ ?_ | intro hc)) <;> (try clear hK K) <;> (try subst_vars))
              | (refine wreg (mos := q3_10) hE [1, 5, 6, 7, 11, 24, 25, 26, 40, 41, 42, 43, 44, 66, 67, 68, 69, 70] (by kernel_rfl) ?_; intro K hK; simp [q3_10, d14, d15, d16, d17, d18, d19, shr_quo, hin, hv, hvm, hwr, h8, h0, hk, hp, allN]; (repeat' (first | refine hK _ _ ?_ | refine And.intro ?_ ?_ | intro hc)) <;> (try clear hK K) <;> (try subst_vars))
              | (refine wreg (mos := q3_11) hE [1, 5, 6, 7, 11, 12, 24, 25, 26, 40, 41, 42, 43, 44, 66, 67, 68, 69, 70] (by kernel_rfl) ?_; intro K hK; simp [q3_11, d14, d15, d16, d17, d18, d19, shr_quo, hin, hv, hvm, hwr, h8, h0, hk, hp, allN]; (repeat' (first | refine hK _ _ ?_ | refine And.intro ?_ ?_ | intro hc)) <;> (try clear hK K) <;> (try subst_vars))
              | (refine wreg (mos := q3_12) hE [1, 5, 6, 7, 11, 12, 24, 25, 26, 40, 41, 42, 43, 44, 52, 66, 67, 68, 69, 70] (by kernel_rfl) ?_; intro K hK; simp [q3_12, d14, d15, d16, d17, d18, d19, shr_quo, hin, hv, hvm, hwr, h8, h0, hk, hp, allN]; (repeat' (first | refine hK _ _ ?_ | refine And.intro ?_ ?_ | intro hc)) <;> (try clear hK K) <;> (try subst_vars))
              | (refine wreg (mos := q3_13) hE [1, 5, 6, 7, 11, 12, 24, 25, 26, 40, 41, 42, 43, 44, 66, 67, 68, 69, 70] (by kernel_rfl) ?_; intro K hK; simp [q3_13, d14, d15, d16, d17, d18, d19, shr_quo, hin, hv, hvm, hwr, h8, h0, hk, hp, allN]; (repeat' (first | refine hK _ _ ?_ | refine And.intro ?_ ?_ | intro hc)) <;> (try clear hK K) <;> (try subst_vars))
              | (refine wreg (mos := q3_14) hE [1, 5, 6, 7, 24, 25, 26, 40, 41, 42, 43, 44, 66, 67, 68, 69, 70, 71] (by kernel_rfl) ?_; intro K hK; simp [q3_14, d14, d15, d16, d17, d18, d19, shr_quo, hin, hv, hvm, hwr, h8, h0, hk, hp, allN]; (repeat' (first | refine hK _ _ ?_ | refine And.intro ?_ ?_ | intro hc)) <;> (try clear hK K) <;> (try subst_vars))
              | (refine wreg (mos := q3_15) hE [4] (by kernel_rfl) ?_; intro K hK; simp [q3_15, d14, d15, d16, d17, d18, d19, shr_quo, hin, hv, hvm, hwr, h8, h0, hk, hp, allN]; (repeat' (first | refine hK _ _ ?_ | refine And.intro ?_ ?_ | intro hc)) <;> (try clear hK K) <;> (try subst_vars))
              | (refine wreg (mos := q3_16) hE [1, 5, 6, 7, 24, 25, 26, 40, 41, 42, 43, 44, 66, 67, 68, 69, 70] (by kernel_rfl) ?_; intro K hK; simp [q3_16, d14, d15, d16, d17, d18, d19, shr_quo, hin, hv, hvm, hwr, h8, h0, hk, hp, allN]; (repeat' (first | refine hK _ _ ?_ | refine And.intro ?_ ?_ | intro hc)) <;> (try clear hK K) <;> (try subst_vars))
              | (refine wreg (mos := q3_17) hE [5, 7] (by kernel_rfl) ?_; intro K hK; simp [q3_17, d14, d15, d16, d17, d18, d19, shr_quo, hin, hv, hvm, hwr, h8, h0, hk, hp, allN]; (repeat' (first | refine hK _ _ ?_ | refine And.intro ?_ ?_ | intro hc)) <;> (try clear hK K) <;> (try subst_vars))
              | (refine wdraw (mos := q3_18) hE mixT [4] (by kernel_rfl) ?_; intro K hK; simp [q3_18, p3_18, d14, d15, d16, d17, d18, d19, shr_quo, hin, hv, hvm, hwr, h8, h0, hk, hp, allN]; (repeat' (first | refine hK _ _ ?_ | refine And.intro ?_ ?_ | intro hc)) <;> (try clear hK K) <;> (try subst_vars))
              | (refine Wm_cond (b := _) (by with_unfolding_all rfl) (fun hc => ?_) (fun hc => ?_) <;> simp at hc <;> (try subst_vars)))
            all_goals first
              | (simp; done)
              | (refine loopK_next (i + 1, nextS g) hin (by show n - (i + 1) < n - i; omega) [(0, some 0), (1, some 1), (2, some 2), (3, some 3)] ⟨fun x hx => ?_, by simp, by simp, by simp, by simp [Ren, lkp, hwr], ?_⟩
                 · have : x = 0 := by omega
                   subst this; rfl
                 · simp [ObjRen, lkp, ObjLe, RenL, Ren]
                   intro j hj
                   obtain ⟨v, hv, _⟩ := hi1 j hj
                   rw [hv]; simp [RenL, Ren])
          · obtain ⟨k, hk8⟩ : ∃ k, i % 8 = k := ⟨_, rfl⟩
            rw [hk8] at h8 h8n hk hkm h0
            clear hk8
            have hb := below_in (s := nextS g) (n := (k : Int)) (by omega)
            have hkm' : (k : Int) ≤ 9223372036854775807 := by omega
            have hpos : 0 < k := by omega
            have hlt : (belowZ (nextS g) (k : Int)).toNat < k := by omega
            have hltn : (belowZ (nextS g) (k : Int)).toNat < n := by omega
            obtain ⟨u, hu, _⟩ := hi1 _ hltn
            repeat' with_reducible (first
              | refine Wm_seq ?_
              | refine Wm_skip ?_
              | refine Wm_ret ?_
              | refine Wm_block ?_
              | refine Wm_exit ?_
              | refine thenK_normal ?_
              | refine thenK_ret ?_
              | refine thenK_exit ?_
              | refine blockK_normal ?_
              | refine blockK_ret ?_
              | refine blockK_here ?_
              | refine loopK_ret ?_
              | refine loopK_exit ?_
              | refine blockK_exit (by decide) ?_
              | (refine wreg (mos := q3_0) hE [0, 1] (by kernel_rfl) ?_; intro K hK; simp [q3_0, d14, d15, d16, d17, d18, d19, shr_quo, hin, hv, hvm, hwr, h8, h8n, h0, hk, hkm, hkm', hpos, hb.1, hb.2, hlt, hltn, hu, pickZ, val1]; (repeat' (first | refine hK _ _ ?_ | refine And.intro ?_ ?_ | intro hc)) <;> (try clear hK K) <;> (try subst_vars))
              | (refine wreg (mos := q3_1) hE [0, 1, 15] (by kernel_rfl) ?_; intro K hK; simp [q3_1, d14, d15, d16, d17, d18, d19, shr_quo, hin, hv, hvm, hwr, h8, h8n, h0, hk, hkm, hkm', hpos, hb.1, hb.2, hlt, hltn, hu, pickZ, val1]; (repeat' (first | refine hK _ _ ?_ | refine And.intro ?_ ?_ | intro hc)) <;> (try clear hK K) <;> (try subst_vars))
              | (refine wreg (mos := q3_2) hE [4] (by kernel_rfl) ?_; intro K hK; simp [q3_2, d14, d15, d16, d17, d18, d19, shr_quo, hin, hv, hvm, hwr, h8, h8n, h0, hk, hkm, hkm', hpos, hb.1, hb.2, hlt, hltn, hu, pickZ, val1]; (repeat' (first | refine hK _ _ ?_ | refine And.intro ?_ ?_ | intro hc)) <;> (try clear hK K) <;> (try subst_vars))
              | (refine wreg (mos := q3_3) hE [1, 5, 6, 7] (by kernel_rfl) ?_; intro K hK; simp [q3_3, d14, d15, d16, d17, d18, d19, shr_quo, hin, hv, hvm, hwr, h8, h8n, h0, hk, hkm, hkm', hpos, hb.1, hb.2, hlt, hltn, hu, pickZ, val1]; (repeat' (first | refine hK _ _ ?_ | refine And.intro ?_ ?_ | intro hc)) <;> (try clear hK K) <;> (try subst_vars))
              | (refine wreg (mos := q3_4) hE [1, 5, 6, 7, 24, 25, 26] (by kernel_rfl) ?_; intro K hK; simp [q3_4, d14, d15, d16, d17, d18, d19, shr_quo, hin, hv, hvm, hwr, h8, h8n, h0, hk, hkm, hkm', hpos, hb.1, hb.2, hlt, hltn, hu, pickZ, val1]; (repeat' (first | refine hK _ _ ?_ | refine And.intro ?_ ?_ | intro hc)) <;> (try clear hK K) <;> (try subst_vars))
              | (refine wreg (mos := q3_5) hE [1, 5, 6, 7, 24, 25, 26, 27, 40, 41, 42, 43, 44, 66, 67, 68, 69, 70] (by kernel_rfl) ?_; intro K hK; simp [q3_5, d14, d15, d16, d17, d18, d19, shr_quo, hin, hv, hvm, hwr, h8, h8n, h0, hk, hkm, hkm', hpos, hb.1, hb.2, hlt, hltn, hu, pickZ, val1]; (repeat' (first | refine hK _ _ ?_ | refine And.intro ?_ ?_ | intro hc)) <;> (try clear hK K) <;> (try subst_vars))
              | (refine wreg (mos := q3_6) hE [1, 5, 6, 7, 8, 9, 24, 25, 26, 40, 41, 42, 43, 44, 66, 67, 68, 69, 70] (by kernel_rfl) ?_; intro K hK; simp [q3_6, d14, d15, d16, d17, d18, d19, shr_quo, hin, hv, hvm, hwr, h8, h8n, h0, hk, hkm, hkm', hpos, hb.1, hb.2, hlt, hltn, hu, pickZ, val1]; (repeat' (first | refine hK _ _ ?_ | refine And.intro ?_ ?_ | intro hc)) <;> (try clear hK K) <;> (try subst_vars))
              | (refine wreg (mos := q3_7) hE [1, 5, 6, 7, 8, 9, 10, 24, 25, 26, 40, 41, 42, 43, 44, 66, 67, 68, 69, 70] (by kernel_rfl) ?_; intro K hK; simp [q3_7, d14, d15, d16, d17, d18, d19, shr_quo, hin, hv, hvm, hwr, h8, h8n, h0, hk, hkm, hkm', hpos, hb.1, hb.2, hlt, hltn, hu, pickZ, val1]; (repeat' (first | refine hK _ _ ?_ | refine And.intro ?_ ?_ | intro hc)) <;> (try clear hK K) <;> (try subst_vars))
              | (refine wreg (mos := q3_8) hE [1, 5, 6, 7, 8, 24, 25, 26, 40, 41, 42, 43, 44, 45, 66, 67, 68, 69, 70] (by kernel_rfl) ?_; intro K hK; simp [q3_8, d14, d15, d16, d17, d18, d19, shr_quo, hin, hv, hvm, hwr, h8, h8n, h0, hk, hkm, hkm', hpos, hb.1, hb.2, hlt, hltn, hu, pickZ, val1]; (repeat' (first | refine hK _ _ ?_ | refine And.intro ?_ ?_ | intro hc)) <;> (try clear hK K) <;> (try subst_vars))
              | (refine wreg (mos := q3_9) hE [4] (by kernel_rfl) ?_; intro K hK; simp [q3_9, d14, d15, d16, d17, d18, d19, shr_quo, hin, hv, hvm, hwr, h8, h8n, h0, hk, hkm, hkm', hpos, hb.1, hb.2, hlt, hltn, hu, pickZ, val1]; (repeat' (first | refine hK _ _ ?_ | refine And.intro ?_ ?_ | intro hc)) <;> (try clear hK K) <;> (try subst_vars))
              | (refine wreg (mos := q3_10) hE [1, 5, 6, 7, 11, 24, 25, 26, 40, 41, 42, 43, 44, 66, 67, 68, 69, 70] (by kernel_rfl) ?_; intro K hK; simp [q3_10, d14, d15, d16, d17, d18, d19, shr_quo, hin, hv, hvm, hwr, h8, h8n, h0, hk, hkm, hkm', hpos, hb.1, hb.2, hlt, hltn, hu, pickZ, val1]; (repeat' (first | refine hK _ _ ?_ | refine And.intro ?_ ?_ | intro hc)) <;> (try clear hK K) <;> (try subst_vars))
              | (refine wreg (mos := q3_11) hE [1, 5, 6, 7, 11, 12, 24, 25, 26, 40, 41, 42, 43, 44, 66, 67, 68, 69, 70] (by kernel_rfl) ?_; intro K hK; simp [q3_11, d14, d15, d16, d17, d18, d19, shr_quo, hin, hv, hvm, hwr, h8, h8n, h0, hk, hkm, hkm', hpos, hb.1, hb.2, hlt, hltn, hu, pickZ, val1]; (repeat' (first | refine hK _ _ ?_ | refine And.intro ?_ ?_ | intro hc)) <;> (try clear hK K) <;> (try subst_vars))
              | (refine wreg (mos := q3_12) hE [1, 5, 6, 7, 11, 12, 24, 25, 26, 40, 41, 42, 43, 44, 52, 66, 67, 68, 69, 70] (by kernel_rfl) ?_; intro K hK; simp [q3_12, d14, d15, d16, d17, d18, d19, shr_quo, hin, hv, hvm, hwr, h8, h8n, h0, hk, hkm, hkm', hpos, hb.1, hb.2, hlt, hltn, hu, pickZ, val1]; (repeat' (first | refine hK _ _ ?_ | refine And.intro ?_ ?_ | intro hc)) <;> (try clear hK K) <;> (try subst_vars))
              | (refine wreg (mos := q3_13) hE [1, 5, 6, 7, 11, 12, 24, 25, 26, 40, 41, 42, 43, 44, 66, 67, 68, 69, 70] (by kernel_rfl) ?_; intro K hK; simp [q3_13, d14, d15, d16, d17, d18, d19, shr_quo, hin, hv, hvm, hwr, h8, h8n, h0, hk, hkm, hkm', hpos, hb.1, hb.2, hlt, hltn, hu, pickZ, val1]; (repeat' (first | refine hK _ _ ?_ | refine And.intro ?_ ?_ | intro hc)) <;> (try clear hK K) <;> (try subst_vars))
              | (refine wreg (mos := q3_14) hE [1, 5, 6, 7, 24, 25, 26, 40, 41, 42, 43, 44, 66, 67, 68, 69, 70, 71] (by kernel_rfl) ?_; intro K hK; simp [q3_14, d14, d15, d16, d17, d18, d19, shr_quo, hin, hv, hvm, hwr, h8, h8n, h0, hk, hkm, hkm', hpos, hb.1, hb.2, hlt, hltn, hu, pickZ, val1]; (repeat' (first | refine hK _ _ ?_ | refine And.intro ?_ ?_ | intro hc)) <;> (try clear hK K) <;> (try subst_vars))
              | (refine wreg (mos := q3_15) hE [4] (by kernel_rfl) ?_; intro K hK; simp [q3_15, d14, d15, d16, d17, d18, d19, shr_quo, hin, hv, hvm, hwr, h8, h8n, h0, hk, hkm, hkm', hpos, hb.1, hb.2, hlt, hltn, hu, pickZ, val1]; (repeat' (first | refine hK _ _ ?_ | refine And.intro ?_ ?_ | intro hc)) <;> (try clear hK K) <;> (try subst_vars))
              | (refine wreg (mos := q3_16) hE [1, 5, 6, 7, 24, 25, 26, 40, 41, 42, 43, 44, 66, 67, 68, 69, 70] (by kernel_rfl) ?_; intro K hK; simp [q3_16, d14, d15, d16, d17, d18, d19, shr_quo, hin, hv, hvm, hwr, h8, h8n, h0, hk, hkm, hkm', hpos, hb.1, hb.2, hlt, hltn, hu, pickZ, val1]; (repeat' (first | refine hK _ _ ?_ | refine And.intro ?_ ?_ | intro hc)) <;> (try clear hK K) <;> (try subst_vars))
              | (refine wreg (mos := q3_17) hE [5, 7] (by kernel_rfl) ?_; intro K hK; simp [q3_17, d14, d15, d16, d17, d18, d19, shr_quo, hin, hv, hvm, hwr, h8, h8n, h0, hk, hkm, hkm', hpos, hb.1, hb.2, hlt, hltn, hu, pickZ, val1]; (repeat' (first | refine hK _ _ ?_ | refine And.intro ?_ ?_ | intro hc)) <;> (try clear hK K) <;> (try subst_vars))
              | (refine wdraw (mos := q3_18) hE mixT [4] (by kernel_rfl) ?_; intro K hK; simp [q3_18, p3_18, d14, d15, d16, d17, d18, d19, shr_quo, hin, hv, hvm, hwr, h8, h8n, h0, hk, hkm, hkm', hpos, hb.1, hb.2, hlt, hltn, hu, pickZ, val1]; (repeat' (first | refine hK _ _ ?_ | refine And.intro ?_ ?_ | intro hc)) <;> (try clear hK K) <;> (try subst_vars))
              | (refine Wm_cond (b := _) (by with_unfolding_all rfl) (fun hc => ?_) (fun hc => ?_) <;> simp at hc <;> (try subst_vars)))
            all_goals first
              | (simp; done)
              | (refine loopK_next (i + 1, nextS (nextS g)) hin (by show n - (i + 1) < n - i; omega) [(0, some 0), (1, some 1), (2, some 2), (3, some 3)] ⟨fun x hx => ?_, by simp, by simp, by simp, by simp [Ren, lkp, hwr], ?_⟩
                 · have : x = 0 := by omega
                   subst this; rfl
                 · simp [ObjRen, lkp, ObjLe, RenL, Ren]
                   intro j hj
                   obtain ⟨v, hv, _⟩ := hi1 j hj
                   rw [hv]; simp [RenL, Ren])
        · have hin' : i = n := by omega
          subst hin'
          repeat' with_reducible (first
            | refine Wm_seq ?_
            | refine Wm_skip ?_
            | refine Wm_ret ?_
            | refine Wm_block ?_
            | refine Wm_exit ?_
            | refine thenK_normal ?_
            | refine thenK_ret ?_
            | refine thenK_exit ?_
            | refine blockK_normal ?_
            | refine blockK_ret ?_
            | refine blockK_here ?_
            | refine loopK_ret ?_
            | refine loopK_exit ?_
            | refine blockK_exit (by decide) ?_
            | (refine wreg (mos := q3_0) hE [0, 1] (by kernel_rfl) ?_; intro K hK; simp [q3_0, d14, d15, d16, d17, d18, d19, shr_quo]; (repeat' (first | refine hK _ _ ?_ | refine And.intro ?_ ?_ | intro hc)) <;> (try clear hK K) <;> (try subst_vars))
            | (refine wreg (mos := q3_1) hE [0, 1, 15] (by kernel_rfl) ?_; intro K hK; simp [q3_1, d14, d15, d16, d17, d18, d19, shr_quo]; (repeat' (first | refine hK _ _ ?_ | refine And.intro ?_ ?_ | intro hc)) <;> (try clear hK K) <;> (try subst_vars))
            | (refine wreg (mos := q3_2) hE [4] (by kernel_rfl) ?_; intro K hK; simp [q3_2, d14, d15, d16, d17, d18, d19, shr_quo]; (repeat' (first | refine hK _ _ ?_ | refine And.intro ?_ ?_ | intro hc)) <;> (try clear hK K) <;> (try subst_vars))
            | (refine wreg (mos := q3_3) hE [1, 5, 6, 7] (by kernel_rfl) ?_; intro K hK; simp [q3_3, d14, d15, d16, d17, d18, d19, shr_quo]; (repeat' (first | refine hK _ _ ?_ | refine And.intro ?_ ?_ | intro hc)) <;> (try clear hK K) <;> (try subst_vars))
            | (refine wreg (mos := q3_4) hE [1, 5, 6, 7, 24, 25, 26] (by kernel_rfl) ?_; intro K hK; simp [q3_4, d14, d15, d16, d17, d18, d19, shr_quo]; (repeat' (first | refine hK _ _ ?_ | refine And.intro ?_ ?_ | intro hc)) <;> (try clear hK K) <;> (try subst_vars))
            | (refine wreg (mos := q3_5) hE [1, 5, 6, 7, 24, 25, 26, 27, 40, 41, 42, 43, 44, 66, 67, 68, 69, 70] (by kernel_rfl) ?_; intro K hK; simp [q3_5, d14, d15, d16, d17, d18, d19, shr_quo]; (repeat' (first | refine hK _ _ ?_ | refine And.intro ?_ ?_ | intro hc)) <;> (try clear hK K) <;> (try subst_vars))
            | (refine wreg (mos := q3_6) hE [1, 5, 6, 7, 8, 9, 24, 25, 26, 40, 41, 42, 43, 44, 66, 67, 68, 69, 70] (by kernel_rfl) ?_; intro K hK; simp [q3_6, d14, d15, d16, d17, d18, d19, shr_quo]; (repeat' (first | refine hK _ _ ?_ | refine And.intro ?_ ?_ | intro hc)) <;> (try clear hK K) <;> (try subst_vars))
            | (refine wreg (mos := q3_7) hE [1, 5, 6, 7, 8, 9, 10, 24, 25, 26, 40, 41, 42, 43, 44, 66, 67, 68, 69, 70] (by kernel_rfl) ?_; intro K hK; simp [q3_7, d14, d15, d16, d17, d18, d19, shr_quo]; (repeat' (first | refine hK _ _ ?_ | refine And.intro ?_ ?_ | intro hc)) <;> (try clear hK K) <;> (try subst_vars))
            | (refine wreg (mos := q3_8) hE [1, 5, 6, 7, 8, 24, 25, 26, 40, 41, 42, 43, 44, 45, 66, 67, 68, 69, 70] (by kernel_rfl) ?_; intro K hK; simp [q3_8, d14, d15, d16, d17, d18, d19, shr_quo]; (repeat' (first | refine hK _ _ ?_ | refine And.intro ?_ ?_ | intro hc)) <;> (try clear hK K) <;> (try subst_vars))
            | (refine wreg (mos := q3_9) hE [4] (by kernel_rfl) ?_; intro K hK; simp [q3_9, d14, d15, d16, d17, d18, d19, shr_quo]; (repeat' (first | refine hK _ _ ?_ | refine And.intro ?_ ?_ | intro hc)) <;> (try clear hK K) <;> (try subst_vars))
            | (refine wreg (mos := q3_10) hE [1, 5, 6, 7, 11, 24, 25, 26, 40, 41, 42, 43, 44, 66, 67, 68, 69, 70] (by kernel_rfl) ?_; intro K hK; simp [q3_10, d14, d15, d16, d17, d18, d19, shr_quo]; (repeat' (first | refine hK _ _ ?_ | refine And.intro ?_ ?_ | intro hc)) <;> (try clear hK K) <;> (try subst_vars))
            | (refine wreg (mos := q3_11) hE [1, 5, 6, 7, 11, 12, 24, 25, 26, 40, 41, 42, 43, 44, 66, 67, 68, 69, 70] (by kernel_rfl) ?_; intro K hK; simp [q3_11, d14, d15, d16, d17, d18, d19, shr_quo]; (repeat' (first | refine hK _ _ ?_ | refine And.intro ?_ ?_ | intro hc)) <;> (try clear hK K) <;> (try subst_vars))
            | (refine wreg (mos := q3_12) hE [1, 5, 6, 7, 11, 12, 24, 25, 26, 40, 41, 42, 43, 44, 52, 66, 67, 68, 69, 70] (by kernel_rfl) ?_; intro K hK; simp [q3_12, d14, d15, d16, d17, d18, d19, shr_quo]; (repeat' (first | refine hK _ _ ?_ | refine And.intro ?_ ?_ | intro hc)) <;> (try clear hK K) <;> (try subst_vars))
            | (refine wreg (mos := q3_13) hE [1, 5, 6, 7, 11, 12, 24, 25, 26, 40, 41, 42, 43, 44, 66, 67, 68, 69, 70] (by kernel_rfl) ?_; intro K hK; simp [q3_13, d14, d15, d16, d17, d18, d19, shr_quo]; (repeat' (first | refine hK _ _ ?_ | refine And.intro ?_ ?_ | intro hc)) <;> (try clear hK K) <;> (try subst_vars))
            | (refine wreg (mos := q3_14) hE [1, 5, 6, 7, 24, 25, 26, 40, 41, 42, 43, 44, 66, 67, 68, 69, 70, 71] (by kernel_rfl) ?_; intro K hK; simp [q3_14, d14, d15, d16, d17, d18, d19, shr_quo]; (repeat' (first | refine hK _ _ ?_ | refine And.intro ?_ ?_ | intro hc)) <;> (try clear hK K) <;> (try subst_vars))
            | (refine wreg (mos := q3_15) hE [4] (by kernel_rfl) ?_; intro K hK; simp [q3_15, d14, d15, d16, d17, d18, d19, shr_quo]; (repeat' (first | refine hK _ _ ?_ | refine And.intro ?_ ?_ | intro hc)) <;> (try clear hK K) <;> (try subst_vars))
            | (refine wreg (mos := q3_16) hE [1, 5, 6, 7, 24, 25, 26, 40, 41, 42, 43, 44, 66, 67, 68, 69, 70] (by kernel_rfl) ?_; intro K hK; simp [q3_16, d14, d15, d16, d17, d18, d19, shr_quo]; (repeat' (first | refine hK _ _ ?_ | refine And.intro ?_ ?_ | intro hc)) <;> (try clear hK K) <;> (try subst_vars))
            | (refine wreg (mos := q3_17) hE [5, 7] (by kernel_rfl) ?_; intro K hK; simp [q3_17, d14, d15, d16, d17, d18, d19, shr_quo]; (repeat' (first | refine hK _ _ ?_ | refine And.intro ?_ ?_ | intro hc)) <;> (try clear hK K) <;> (try subst_vars))
            | (refine wdraw (mos := q3_18) hE mixT [4] (by kernel_rfl) ?_; intro K hK; simp [q3_18, p3_18, d14, d15, d16, d17, d18, d19, shr_quo]; (repeat' (first | refine hK _ _ ?_ | refine And.intro ?_ ?_ | intro hc)) <;> (try clear hK K) <;> (try subst_vars))
            | (refine Wm_cond (b := _) (by with_unfolding_all rfl) (fun hc => ?_) (fun hc => ?_) <;> simp at hc <;> (try subst_vars)))
          all_goals simp
    · cases h
  · cases h
end Go.Vc
