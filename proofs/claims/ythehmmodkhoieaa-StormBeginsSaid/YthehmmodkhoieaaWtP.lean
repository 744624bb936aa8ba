import Derived.Test.YthehmmodkhoieaaWtO
namespace Go.W
open Go.Proofs
set_option linter.unusedSimpArgs false
set_option linter.unusedVariables false
set_option maxHeartbeats 8000000
attribute [local irreducible] Wm

theorem script_length {a b c d ma mt md ms mp mw s : Int} {n : Nat} : (scriptL a b c d ma mt md ms mp mw s n).length = n := by
  simp only [scriptL, List.length_take]
  exact Nat.min_eq_left (run_full (step_more a b c d ma mt md ms mp mw) n ⟨s, List.replicate a.toNat 0, 0, []⟩ (by simp))

theorem script_pref {a b c d ma mt md ms mp mw s : Int} {n N : Nat} (h : n ≤ N) : (scriptL a b c d ma mt md ms mp mw s N).take n = scriptL a b c d ma mt md ms mp mw s n := by
  obtain ⟨r, hr⟩ := run_begins h (step_more a b c d ma mt md ms mp mw) (step_app a b c d ma mt md ms mp mw) N ⟨s, List.replicate a.toNat 0, 0, []⟩ (by simp)
  have hf := run_fuel (n := n) (step_more a b c d ma mt md ms mp mw) N n ⟨s, List.replicate a.toNat 0, 0, []⟩ (by simpa using h) (by simp)
  have hl := run_full (n := n) (step_more a b c d ma mt md ms mp mw) n ⟨s, List.replicate a.toNat 0, 0, []⟩ (by simp)
  simp only [scriptL, List.take_take]
  rw [hr, hf, Nat.min_eq_left h, List.take_append_of_le_length hl]

def d12 : List AV → Option Ans
  | [.agg [.int .i64 a, .int .i64 b, .int .i64 c, .int .i64 d, .int .i64 e, .int .i64 f, .int .i64 g], .int .u64 _, .agg [.int .i64 ma, .int .i64 mt, .int .i64 md, .int .i64 ms, .int .i64 mp, .int .i64 mw], .int .u8 n, .int .u8 m] => if (0 ≤ n ∧ n ≤ 255) ∧ 0 ≤ m ∧ m ≤ 255 then some ⟨.bool true, []⟩ else none
  | _ => none

def I12 (L M : List (List AV)) (N K : Nat) (k : Nat) : St := ⟨[(13, .sl (.top 0) 0 N), (14, .sl (.top 1) 0 (N + K)), (60, .int .i64 N), (61, .int .i64 k)], [(0, .arr 0 12 L), (1, .arr 0 12 M)], 2⟩

theorem ok12 : NOk [] d12 := by
  intro xs a h
  unfold d12 at h
  (repeat' (split at h)) <;> first | (cases h; done) | (injection h with h; subst h; refine ⟨Ends_of ?_, ?_⟩ <;> simp)
theorem s12 : Sound Try.prog 12 (nestS [] d12 ok12) := by
  refine nest_sound Try.func12 nm12 rc12 rv12 ok12 (fun xs a h => ?_) fun xs a h w0 S hS => ?_
  · unfold d12 at h
    (repeat' (split at h)) <;> first | (cases h; done) | exact Nat.le_of_ble_eq_true rfl
  unfold d12 at h
  split at h
  · split at h
    · rename_i a b c d e f g s ma mt md ms mp mw n m hcond
      injection h with h
      subst h
      have hE : SoundAll Try.prog (EL [(14, nestS [] d14 ok14), (26, nestS [] d26 ok26), (28, nestS [] d28 ok28), (43, nestS [] d43 ok43)]) := EL_sound (by simp only [List.mem_cons, List.not_mem_nil, or_false, forall_eq_or_imp, forall_eq]; exact ⟨s14, s26, s28, s43⟩)
      obtain ⟨⟨hn0, hn1⟩, hm0, hm1⟩ := hcond
      by_cases hck : checkZ a b c d e f g = -1
      · by_cases hft : fitsB ma mt md ms mp mw = true
        · obtain ⟨N, rfl⟩ : ∃ N : Nat, n = N := ⟨n.toNat, by omega⟩
          obtain ⟨K, rfl⟩ : ∃ K : Nat, m = K := ⟨m.toNat, by omega⟩
          have hN : N ≤ 255 := by omega
          have hK : K ≤ 255 := by omega
          obtain ⟨L, hL⟩ : ∃ L, scriptL a b c d ma mt md ms mp mw s N = L := ⟨_, rfl⟩
          obtain ⟨M, hM⟩ : ∃ M, scriptL a b c d ma mt md ms mp mw s (N + K) = M := ⟨_, rfl⟩
          have hrL : L.all row12 = true := hL ▸ script_all (fits_ms hft)
          have hrM : M.all row12 = true := hM ▸ script_all (fits_ms hft)
          have hlL : L.length = N := hL ▸ script_length
          have hlM : M.length = N + K := hM ▸ script_length
          have hpre : M.take N = L := by rw [← hL, ← hM]; exact script_pref (Nat.le_add_right _ _)
          have hT0 := rows_t0 hrL
          have hCl := rows_cl hrL
          have hT1 := rows_t0 hrM
          have hC1 := rows_cl hrM
          have w0 : IntKind.wrap .i64 (N : Int) = (N : Int) := wrap_in (by omega) (by omega)
          have w1 : IntKind.wrap .i64 (K : Int) = (K : Int) := wrap_in (by omega) (by omega)
          have w2 : IntKind.wrap .i64 ((N : Int) + (K : Int)) = (N : Int) + (K : Int) := wrap_in (by omega) (by omega)
          have hs : ((N : Int) + (K : Int)).toNat = N + K := by omega
          have hq1 : (N : Int) ≤ 65536 := by omega
          have hq2 : (N : Int) + (K : Int) ≤ 65536 := by omega
          unfold m12
          repeat' with_reducible (first
            | refine Wm_seq ?_
            | refine Wm_skip ?_
            | refine Wm_ret ?_
            | refine Wm_block ?_
            | refine Wm_exit ?_
            | refine thenK_normal ?_
            | refine thenK_ret ?_
            | refine thenK_exit ?_
            | refine blockK_normal ?_
            | refine blockK_ret ?_
            | refine blockK_here ?_
            | refine loopK_ret ?_
            | refine loopK_exit ?_
            | refine unK_ret ?_
            | refine unK_exit ?_
            | refine unK_normal ?_
            | refine loopOk_succ ?_
            | refine blockK_exit (by decide) ?_
            | (refine wreg (mos := q12_0) hE [1, 3, 4, 5, 7] (by kernel_rfl) ?_; intro K hK; simp [q12_0, hck, hft, w0, w1, w2, hs, hq1, hq2, hL, hM, hlL, hlM, hT0, hCl, hT1, hC1, d14, d26, d28, d43]; (repeat' (first | refine hK _ _ ?_ | refine And.intro ?_ ?_ | (intro hc; try subst hc))) <;> (try clear hK K))
            | (refine wreg (mos := q12_1) hE [1, 3, 4, 7, 11, 12] (by kernel_rfl) ?_; intro K hK; simp [q12_1, hck, hft, w0, w1, w2, hs, hq1, hq2, hL, hM, hlL, hlM, hT0, hCl, hT1, hC1, d14, d26, d28, d43]; (repeat' (first | refine hK _ _ ?_ | refine And.intro ?_ ?_ | (intro hc; try subst hc))) <;> (try clear hK K))
            | (refine wreg (mos := q12_2) hE [1, 3, 4, 7, 11, 27] (by kernel_rfl) ?_; intro K hK; simp [q12_2, hck, hft, w0, w1, w2, hs, hq1, hq2, hL, hM, hlL, hlM, hT0, hCl, hT1, hC1, d14, d26, d28, d43]; (repeat' (first | refine hK _ _ ?_ | refine And.intro ?_ ?_ | (intro hc; try subst hc))) <;> (try clear hK K))
            | (refine wreg (mos := q12_3) hE [10] (by kernel_rfl) ?_; intro K hK; simp [q12_3, hck, hft, w0, w1, w2, hs, hq1, hq2, hL, hM, hlL, hlM, hT0, hCl, hT1, hC1, d14, d26, d28, d43]; (repeat' (first | refine hK _ _ ?_ | refine And.intro ?_ ?_ | (intro hc; try subst hc))) <;> (try clear hK K))
            | (refine wreg (mos := q12_4) hE [1, 3, 4, 7, 11, 13] (by kernel_rfl) ?_; intro K hK; simp [q12_4, hck, hft, w0, w1, w2, hs, hq1, hq2, hL, hM, hlL, hlM, hT0, hCl, hT1, hC1, d14, d26, d28, d43]; (repeat' (first | refine hK _ _ ?_ | refine And.intro ?_ ?_ | (intro hc; try subst hc))) <;> (try clear hK K))
            | (refine wreg (mos := q12_5) hE [3, 4, 13, 14] (by kernel_rfl) ?_; intro K hK; simp [q12_5, hck, hft, w0, w1, w2, hs, hq1, hq2, hL, hM, hlL, hlM, hT0, hCl, hT1, hC1, d14, d26, d28, d43]; (repeat' (first | refine hK _ _ ?_ | refine And.intro ?_ ?_ | (intro hc; try subst hc))) <;> (try clear hK K))
            | (refine wreg (mos := q12_6) hE [13, 14, 58] (by kernel_rfl) ?_; intro K hK; simp [q12_6, hck, hft, w0, w1, w2, hs, hq1, hq2, hL, hM, hlL, hlM, hT0, hCl, hT1, hC1, d14, d26, d28, d43]; (repeat' (first | refine hK _ _ ?_ | refine And.intro ?_ ?_ | (intro hc; try subst hc))) <;> (try clear hK K))
            | (refine wreg (mos := q12_7) hE [10] (by kernel_rfl) ?_; intro K hK; simp [q12_7, hck, hft, w0, w1, w2, hs, hq1, hq2, hL, hM, hlL, hlM, hT0, hCl, hT1, hC1, d14, d26, d28, d43]; (repeat' (first | refine hK _ _ ?_ | refine And.intro ?_ ?_ | (intro hc; try subst hc))) <;> (try clear hK K))
            | (refine wreg (mos := q12_8) hE [13, 14, 60, 61] (by kernel_rfl) ?_; intro K hK; simp [q12_8, hck, hft, w0, w1, w2, hs, hq1, hq2, hL, hM, hlL, hlM, hT0, hCl, hT1, hC1, d14, d26, d28, d43]; (repeat' (first | refine hK _ _ ?_ | refine And.intro ?_ ?_ | (intro hc; try subst hc))) <;> (try clear hK K))
            | (refine wreg (mos := q12_9) hE [13, 14, 60, 61, 62] (by kernel_rfl) ?_; intro K hK; simp [q12_9, hck, hft, w0, w1, w2, hs, hq1, hq2, hL, hM, hlL, hlM, hT0, hCl, hT1, hC1, d14, d26, d28, d43]; (repeat' (first | refine hK _ _ ?_ | refine And.intro ?_ ?_ | (intro hc; try subst hc))) <;> (try clear hK K))
            | (refine wreg (mos := q12_10) hE [13, 14, 15, 60, 61] (by kernel_rfl) ?_; intro K hK; simp [q12_10, hck, hft, w0, w1, w2, hs, hq1, hq2, hL, hM, hlL, hlM, hT0, hCl, hT1, hC1, d14, d26, d28, d43]; (repeat' (first | refine hK _ _ ?_ | refine And.intro ?_ ?_ | (intro hc; try subst hc))) <;> (try clear hK K))
            | (refine wdraw (mos := q12_11) hE mixT c12_11 [13, 14, 60, 61, 72] (by kernel_rfl) ?_; intro K hK; simp [q12_11, c12_11, hck, hft, w0, w1, w2, hs, hq1, hq2, hL, hM, hlL, hlM, hT0, hCl, hT1, hC1, d14, d26, d28, d43]; (repeat' (first | refine hK _ _ ?_ | refine And.intro ?_ ?_ | (intro hc; try subst hc))) <;> (try clear hK K))
            | (refine wreg (mos := q12_12) hE [10] (by kernel_rfl) ?_; intro K hK; simp [q12_12, hck, hft, w0, w1, w2, hs, hq1, hq2, hL, hM, hlL, hlM, hT0, hCl, hT1, hC1, d14, d26, d28, d43]; (repeat' (first | refine hK _ _ ?_ | refine And.intro ?_ ?_ | (intro hc; try subst hc))) <;> (try clear hK K))
            | (refine wreg (mos := q12_13) hE [13, 14, 60, 61] (by kernel_rfl) ?_; intro K hK; simp [q12_13, hck, hft, w0, w1, w2, hs, hq1, hq2, hL, hM, hlL, hlM, hT0, hCl, hT1, hC1, d14, d26, d28, d43]; (repeat' (first | refine hK _ _ ?_ | refine And.intro ?_ ?_ | (intro hc; try subst hc))) <;> (try clear hK K))
            | (refine wreg (mos := q12_14) hE [10] (by kernel_rfl) ?_; intro K hK; simp [q12_14, hck, hft, w0, w1, w2, hs, hq1, hq2, hL, hM, hlL, hlM, hT0, hCl, hT1, hC1, d14, d26, d28, d43]; (repeat' (first | refine hK _ _ ?_ | refine And.intro ?_ ?_ | (intro hc; try subst hc))) <;> (try clear hK K))
            | (refine Wm_cond (b := _) (by with_unfolding_all rfl) (fun hc => ?_) (fun hc => ?_) <;> simp at hc <;> (try subst hc)))
          all_goals (refine Wm_loop (I12 L M N K) (fun k => k ≤ N) (fun k => N - k) 0 (Nat.zero_le _) ?_ ?_)
          · simp only [I12]
            rw [hS]
            refine Imp.auto (by kernel_rfl) ?_ ?_ <;> simp [nmap, lkp, mkPl, prs, prsL, prT, ddL, idL, NLe, CRenL, CRen, Ren, RenL, NObj.none, hT0, hCl, hT1, hC1]
          · intro k hk
            replace hk : k ≤ N := hk
            simp only [I12]
            by_cases hkn : k < N
            · have hkL : k < L.length := by omega
              have hkM : k < M.length := by omega
              obtain ⟨n0, n1, n2, n3, n4, n5, n6, n7, n8, n9, n10, n11, hrow⟩ := row12_ex (List.all_eq_true.1 hrL _ (List.getElem_mem hkL))
              have hrow2 : L[k]? = some [.int .i64 n0, .int .i64 n1, .int .i64 n2, .int .i64 n3, .int .i64 n4, .int .i64 n5, .int .i64 n6, .int .i64 n7, .int .i64 n8, .int .i64 n9, .int .i64 n10, .int .i64 n11] := by rw [List.getElem?_eq_getElem hkL, hrow]
              have hrow4 : M[k]? = some [.int .i64 n0, .int .i64 n1, .int .i64 n2, .int .i64 n3, .int .i64 n4, .int .i64 n5, .int .i64 n6, .int .i64 n7, .int .i64 n8, .int .i64 n9, .int .i64 n10, .int .i64 n11] := by rw [← hrow2, ← hpre, List.getElem?_take, if_pos hkn]
              have hrow3 : M[k] = [.int .i64 n0, .int .i64 n1, .int .i64 n2, .int .i64 n3, .int .i64 n4, .int .i64 n5, .int .i64 n6, .int .i64 n7, .int .i64 n8, .int .i64 n9, .int .i64 n10, .int .i64 n11] := by rw [List.getElem?_eq_getElem hkM] at hrow4; exact Option.some.inj hrow4
              have hkI : (k : Int) < (N : Int) := by omega
              have hkI2 : (k : Int) < (N : Int) + (K : Int) := by omega
              have hkK : k < N + K := by omega
              have w3 : IntKind.wrap .i64 ((k : Int) + 1) = (k : Int) + 1 := wrap_in (by omega) (by omega)
              repeat' with_reducible (first
                | refine Wm_seq ?_
                | refine Wm_skip ?_
                | refine Wm_ret ?_
                | refine Wm_block ?_
                | refine Wm_exit ?_
                | refine thenK_normal ?_
                | refine thenK_ret ?_
                | refine thenK_exit ?_
                | refine blockK_normal ?_
                | refine blockK_ret ?_
                | refine blockK_here ?_
                | refine loopK_ret ?_
                | refine loopK_exit ?_
                | refine unK_ret ?_
                | refine unK_exit ?_
                | refine unK_normal ?_
                | refine loopOk_succ ?_
                | refine blockK_exit (by decide) ?_
                | (refine wreg (mos := q12_0) hE [1, 3, 4, 5, 7] (by kernel_rfl) ?_; intro K hK; simp [q12_0, hkn, hkI, hkI2, hkK, hrow, hrow2, hrow3, hrow4, hlL, hlM, w3, d14, d26, d28, d43]; (repeat' (first | refine hK _ _ ?_ | refine And.intro ?_ ?_ | (intro hc; try subst hc))) <;> (try clear hK K))
                | (refine wreg (mos := q12_1) hE [1, 3, 4, 7, 11, 12] (by kernel_rfl) ?_; intro K hK; simp [q12_1, hkn, hkI, hkI2, hkK, hrow, hrow2, hrow3, hrow4, hlL, hlM, w3, d14, d26, d28, d43]; (repeat' (first | refine hK _ _ ?_ | refine And.intro ?_ ?_ | (intro hc; try subst hc))) <;> (try clear hK K))
                | (refine wreg (mos := q12_2) hE [1, 3, 4, 7, 11, 27] (by kernel_rfl) ?_; intro K hK; simp [q12_2, hkn, hkI, hkI2, hkK, hrow, hrow2, hrow3, hrow4, hlL, hlM, w3, d14, d26, d28, d43]; (repeat' (first | refine hK _ _ ?_ | refine And.intro ?_ ?_ | (intro hc; try subst hc))) <;> (try clear hK K))
                | (refine wreg (mos := q12_3) hE [10] (by kernel_rfl) ?_; intro K hK; simp [q12_3, hkn, hkI, hkI2, hkK, hrow, hrow2, hrow3, hrow4, hlL, hlM, w3, d14, d26, d28, d43]; (repeat' (first | refine hK _ _ ?_ | refine And.intro ?_ ?_ | (intro hc; try subst hc))) <;> (try clear hK K))
                | (refine wreg (mos := q12_4) hE [1, 3, 4, 7, 11, 13] (by kernel_rfl) ?_; intro K hK; simp [q12_4, hkn, hkI, hkI2, hkK, hrow, hrow2, hrow3, hrow4, hlL, hlM, w3, d14, d26, d28, d43]; (repeat' (first | refine hK _ _ ?_ | refine And.intro ?_ ?_ | (intro hc; try subst hc))) <;> (try clear hK K))
                | (refine wreg (mos := q12_5) hE [3, 4, 13, 14] (by kernel_rfl) ?_; intro K hK; simp [q12_5, hkn, hkI, hkI2, hkK, hrow, hrow2, hrow3, hrow4, hlL, hlM, w3, d14, d26, d28, d43]; (repeat' (first | refine hK _ _ ?_ | refine And.intro ?_ ?_ | (intro hc; try subst hc))) <;> (try clear hK K))
                | (refine wreg (mos := q12_6) hE [13, 14, 58] (by kernel_rfl) ?_; intro K hK; simp [q12_6, hkn, hkI, hkI2, hkK, hrow, hrow2, hrow3, hrow4, hlL, hlM, w3, d14, d26, d28, d43]; (repeat' (first | refine hK _ _ ?_ | refine And.intro ?_ ?_ | (intro hc; try subst hc))) <;> (try clear hK K))
                | (refine wreg (mos := q12_7) hE [10] (by kernel_rfl) ?_; intro K hK; simp [q12_7, hkn, hkI, hkI2, hkK, hrow, hrow2, hrow3, hrow4, hlL, hlM, w3, d14, d26, d28, d43]; (repeat' (first | refine hK _ _ ?_ | refine And.intro ?_ ?_ | (intro hc; try subst hc))) <;> (try clear hK K))
                | (refine wreg (mos := q12_8) hE [13, 14, 60, 61] (by kernel_rfl) ?_; intro K hK; simp [q12_8, hkn, hkI, hkI2, hkK, hrow, hrow2, hrow3, hrow4, hlL, hlM, w3, d14, d26, d28, d43]; (repeat' (first | refine hK _ _ ?_ | refine And.intro ?_ ?_ | (intro hc; try subst hc))) <;> (try clear hK K))
                | (refine wreg (mos := q12_9) hE [13, 14, 60, 61, 62] (by kernel_rfl) ?_; intro K hK; simp [q12_9, hkn, hkI, hkI2, hkK, hrow, hrow2, hrow3, hrow4, hlL, hlM, w3, d14, d26, d28, d43]; (repeat' (first | refine hK _ _ ?_ | refine And.intro ?_ ?_ | (intro hc; try subst hc))) <;> (try clear hK K))
                | (refine wreg (mos := q12_10) hE [13, 14, 15, 60, 61] (by kernel_rfl) ?_; intro K hK; simp [q12_10, hkn, hkI, hkI2, hkK, hrow, hrow2, hrow3, hrow4, hlL, hlM, w3, d14, d26, d28, d43]; (repeat' (first | refine hK _ _ ?_ | refine And.intro ?_ ?_ | (intro hc; try subst hc))) <;> (try clear hK K))
                | (refine wdraw (mos := q12_11) hE mixT c12_11 [13, 14, 60, 61, 72] (by kernel_rfl) ?_; intro K hK; simp [q12_11, c12_11, hkn, hkI, hkI2, hkK, hrow, hrow2, hrow3, hrow4, hlL, hlM, w3, d14, d26, d28, d43]; (repeat' (first | refine hK _ _ ?_ | refine And.intro ?_ ?_ | (intro hc; try subst hc))) <;> (try clear hK K))
                | (refine wreg (mos := q12_12) hE [10] (by kernel_rfl) ?_; intro K hK; simp [q12_12, hkn, hkI, hkI2, hkK, hrow, hrow2, hrow3, hrow4, hlL, hlM, w3, d14, d26, d28, d43]; (repeat' (first | refine hK _ _ ?_ | refine And.intro ?_ ?_ | (intro hc; try subst hc))) <;> (try clear hK K))
                | (refine wreg (mos := q12_13) hE [13, 14, 60, 61] (by kernel_rfl) ?_; intro K hK; simp [q12_13, hkn, hkI, hkI2, hkK, hrow, hrow2, hrow3, hrow4, hlL, hlM, w3, d14, d26, d28, d43]; (repeat' (first | refine hK _ _ ?_ | refine And.intro ?_ ?_ | (intro hc; try subst hc))) <;> (try clear hK K))
                | (refine wreg (mos := q12_14) hE [10] (by kernel_rfl) ?_; intro K hK; simp [q12_14, hkn, hkI, hkI2, hkK, hrow, hrow2, hrow3, hrow4, hlL, hlM, w3, d14, d26, d28, d43]; (repeat' (first | refine hK _ _ ?_ | refine And.intro ?_ ?_ | (intro hc; try subst hc))) <;> (try clear hK K))
                | (refine Wm_cond (b := _) (by with_unfolding_all rfl) (fun hc => ?_) (fun hc => ?_) <;> simp at hc <;> (try subst hc)))
              all_goals refine ⟨k + 1, ?_, ?_, ?_⟩
              · exact hkn
              · exact Nat.sub_lt_sub_left hkn (Nat.lt_succ_self k)
              · simp only [I12]
                rw [hS]
                refine Imp.auto (by kernel_rfl) ?_ ?_ <;> simp [nmap, lkp, mkPl, prs, prsL, prT, ddL, idL, NLe, CRenL, CRen, Ren, RenL, NObj.none, hT0, hCl, hT1, hC1]
            · have hkI : ¬ (k : Int) < (N : Int) := by omega
              repeat' with_reducible (first
                | refine Wm_seq ?_
                | refine Wm_skip ?_
                | refine Wm_ret ?_
                | refine Wm_block ?_
                | refine Wm_exit ?_
                | refine thenK_normal ?_
                | refine thenK_ret ?_
                | refine thenK_exit ?_
                | refine blockK_normal ?_
                | refine blockK_ret ?_
                | refine blockK_here ?_
                | refine loopK_ret ?_
                | refine loopK_exit ?_
                | refine unK_ret ?_
                | refine unK_exit ?_
                | refine unK_normal ?_
                | refine loopOk_succ ?_
                | refine blockK_exit (by decide) ?_
                | (refine wreg (mos := q12_0) hE [1, 3, 4, 5, 7] (by kernel_rfl) ?_; intro K hK; simp [q12_0, hkI, d14, d26, d28, d43]; (repeat' (first | refine hK _ _ ?_ | refine And.intro ?_ ?_ | (intro hc; try subst hc))) <;> (try clear hK K))
                | (refine wreg (mos := q12_1) hE [1, 3, 4, 7, 11, 12] (by kernel_rfl) ?_; intro K hK; simp [q12_1, hkI, d14, d26, d28, d43]; (repeat' (first | refine hK _ _ ?_ | refine And.intro ?_ ?_ | (intro hc; try subst hc))) <;> (try clear hK K))
                | (refine wreg (mos := q12_2) hE [1, 3, 4, 7, 11, 27] (by kernel_rfl) ?_; intro K hK; simp [q12_2, hkI, d14, d26, d28, d43]; (repeat' (first | refine hK _ _ ?_ | refine And.intro ?_ ?_ | (intro hc; try subst hc))) <;> (try clear hK K))
                | (refine wreg (mos := q12_3) hE [10] (by kernel_rfl) ?_; intro K hK; simp [q12_3, hkI, d14, d26, d28, d43]; (repeat' (first | refine hK _ _ ?_ | refine And.intro ?_ ?_ | (intro hc; try subst hc))) <;> (try clear hK K))
                | (refine wreg (mos := q12_4) hE [1, 3, 4, 7, 11, 13] (by kernel_rfl) ?_; intro K hK; simp [q12_4, hkI, d14, d26, d28, d43]; (repeat' (first | refine hK _ _ ?_ | refine And.intro ?_ ?_ | (intro hc; try subst hc))) <;> (try clear hK K))
                | (refine wreg (mos := q12_5) hE [3, 4, 13, 14] (by kernel_rfl) ?_; intro K hK; simp [q12_5, hkI, d14, d26, d28, d43]; (repeat' (first | refine hK _ _ ?_ | refine And.intro ?_ ?_ | (intro hc; try subst hc))) <;> (try clear hK K))
                | (refine wreg (mos := q12_6) hE [13, 14, 58] (by kernel_rfl) ?_; intro K hK; simp [q12_6, hkI, d14, d26, d28, d43]; (repeat' (first | refine hK _ _ ?_ | refine And.intro ?_ ?_ | (intro hc; try subst hc))) <;> (try clear hK K))
                | (refine wreg (mos := q12_7) hE [10] (by kernel_rfl) ?_; intro K hK; simp [q12_7, hkI, d14, d26, d28, d43]; (repeat' (first | refine hK _ _ ?_ | refine And.intro ?_ ?_ | (intro hc; try subst hc))) <;> (try clear hK K))
                | (refine wreg (mos := q12_8) hE [13, 14, 60, 61] (by kernel_rfl) ?_; intro K hK; simp [q12_8, hkI, d14, d26, d28, d43]; (repeat' (first | refine hK _ _ ?_ | refine And.intro ?_ ?_ | (intro hc; try subst hc))) <;> (try clear hK K))
                | (refine wreg (mos := q12_9) hE [13, 14, 60, 61, 62] (by kernel_rfl) ?_; intro K hK; simp [q12_9, hkI, d14, d26, d28, d43]; (repeat' (first | refine hK _ _ ?_ | refine And.intro ?_ ?_ | (intro hc; try subst hc))) <;> (try clear hK K))
                | (refine wreg (mos := q12_10) hE [13, 14, 15, 60, 61] (by kernel_rfl) ?_; intro K hK; simp [q12_10, hkI, d14, d26, d28, d43]; (repeat' (first | refine hK _ _ ?_ | refine And.intro ?_ ?_ | (intro hc; try subst hc))) <;> (try clear hK K))
                | (refine wdraw (mos := q12_11) hE mixT c12_11 [13, 14, 60, 61, 72] (by kernel_rfl) ?_; intro K hK; simp [q12_11, c12_11, hkI, d14, d26, d28, d43]; (repeat' (first | refine hK _ _ ?_ | refine And.intro ?_ ?_ | (intro hc; try subst hc))) <;> (try clear hK K))
                | (refine wreg (mos := q12_12) hE [10] (by kernel_rfl) ?_; intro K hK; simp [q12_12, hkI, d14, d26, d28, d43]; (repeat' (first | refine hK _ _ ?_ | refine And.intro ?_ ?_ | (intro hc; try subst hc))) <;> (try clear hK K))
                | (refine wreg (mos := q12_13) hE [13, 14, 60, 61] (by kernel_rfl) ?_; intro K hK; simp [q12_13, hkI, d14, d26, d28, d43]; (repeat' (first | refine hK _ _ ?_ | refine And.intro ?_ ?_ | (intro hc; try subst hc))) <;> (try clear hK K))
                | (refine wreg (mos := q12_14) hE [10] (by kernel_rfl) ?_; intro K hK; simp [q12_14, hkI, d14, d26, d28, d43]; (repeat' (first | refine hK _ _ ?_ | refine And.intro ?_ ?_ | (intro hc; try subst hc))) <;> (try clear hK K))
                | (refine Wm_cond (b := _) (by with_unfolding_all rfl) (fun hc => ?_) (fun hc => ?_) <;> simp at hc <;> (try subst hc)))
              all_goals first | (simp; done) | (simp at *; omega) | (simp; refine Imp.auto (by kernel_rfl) ?_ ?_ <;> simp [nmap, lkp, mkPl, prs, prsL, prT, ddL, idL, NLe, CRenL, CRen, Ren, RenL, NObj.none])
        · have hft' : fitsB ma mt md ms mp mw = false := by simpa using hft
          unfold m12
          repeat' with_reducible (first
            | refine Wm_seq ?_
            | refine Wm_skip ?_
            | refine Wm_ret ?_
            | refine Wm_block ?_
            | refine Wm_exit ?_
            | refine thenK_normal ?_
            | refine thenK_ret ?_
            | refine thenK_exit ?_
            | refine blockK_normal ?_
            | refine blockK_ret ?_
            | refine blockK_here ?_
            | refine loopK_ret ?_
            | refine loopK_exit ?_
            | refine unK_ret ?_
            | refine unK_exit ?_
            | refine unK_normal ?_
            | refine loopOk_succ ?_
            | refine blockK_exit (by decide) ?_
            | (refine wreg (mos := q12_0) hE [1, 3, 4, 5, 7] (by kernel_rfl) ?_; intro K hK; simp [q12_0, hck, hft', d14, d26, d28, d43]; (repeat' (first | refine hK _ _ ?_ | refine And.intro ?_ ?_ | (intro hc; try subst hc))) <;> (try clear hK K))
            | (refine wreg (mos := q12_1) hE [1, 3, 4, 7, 11, 12] (by kernel_rfl) ?_; intro K hK; simp [q12_1, hck, hft', d14, d26, d28, d43]; (repeat' (first | refine hK _ _ ?_ | refine And.intro ?_ ?_ | (intro hc; try subst hc))) <;> (try clear hK K))
            | (refine wreg (mos := q12_2) hE [1, 3, 4, 7, 11, 27] (by kernel_rfl) ?_; intro K hK; simp [q12_2, hck, hft', d14, d26, d28, d43]; (repeat' (first | refine hK _ _ ?_ | refine And.intro ?_ ?_ | (intro hc; try subst hc))) <;> (try clear hK K))
            | (refine wreg (mos := q12_3) hE [10] (by kernel_rfl) ?_; intro K hK; simp [q12_3, hck, hft', d14, d26, d28, d43]; (repeat' (first | refine hK _ _ ?_ | refine And.intro ?_ ?_ | (intro hc; try subst hc))) <;> (try clear hK K))
            | (refine wreg (mos := q12_4) hE [1, 3, 4, 7, 11, 13] (by kernel_rfl) ?_; intro K hK; simp [q12_4, hck, hft', d14, d26, d28, d43]; (repeat' (first | refine hK _ _ ?_ | refine And.intro ?_ ?_ | (intro hc; try subst hc))) <;> (try clear hK K))
            | (refine wreg (mos := q12_5) hE [3, 4, 13, 14] (by kernel_rfl) ?_; intro K hK; simp [q12_5, hck, hft', d14, d26, d28, d43]; (repeat' (first | refine hK _ _ ?_ | refine And.intro ?_ ?_ | (intro hc; try subst hc))) <;> (try clear hK K))
            | (refine wreg (mos := q12_6) hE [13, 14, 58] (by kernel_rfl) ?_; intro K hK; simp [q12_6, hck, hft', d14, d26, d28, d43]; (repeat' (first | refine hK _ _ ?_ | refine And.intro ?_ ?_ | (intro hc; try subst hc))) <;> (try clear hK K))
            | (refine wreg (mos := q12_7) hE [10] (by kernel_rfl) ?_; intro K hK; simp [q12_7, hck, hft', d14, d26, d28, d43]; (repeat' (first | refine hK _ _ ?_ | refine And.intro ?_ ?_ | (intro hc; try subst hc))) <;> (try clear hK K))
            | (refine wreg (mos := q12_8) hE [13, 14, 60, 61] (by kernel_rfl) ?_; intro K hK; simp [q12_8, hck, hft', d14, d26, d28, d43]; (repeat' (first | refine hK _ _ ?_ | refine And.intro ?_ ?_ | (intro hc; try subst hc))) <;> (try clear hK K))
            | (refine wreg (mos := q12_9) hE [13, 14, 60, 61, 62] (by kernel_rfl) ?_; intro K hK; simp [q12_9, hck, hft', d14, d26, d28, d43]; (repeat' (first | refine hK _ _ ?_ | refine And.intro ?_ ?_ | (intro hc; try subst hc))) <;> (try clear hK K))
            | (refine wreg (mos := q12_10) hE [13, 14, 15, 60, 61] (by kernel_rfl) ?_; intro K hK; simp [q12_10, hck, hft', d14, d26, d28, d43]; (repeat' (first | refine hK _ _ ?_ | refine And.intro ?_ ?_ | (intro hc; try subst hc))) <;> (try clear hK K))
            | (refine wdraw (mos := q12_11) hE mixT c12_11 [13, 14, 60, 61, 72] (by kernel_rfl) ?_; intro K hK; simp [q12_11, c12_11, hck, hft', d14, d26, d28, d43]; (repeat' (first | refine hK _ _ ?_ | refine And.intro ?_ ?_ | (intro hc; try subst hc))) <;> (try clear hK K))
            | (refine wreg (mos := q12_12) hE [10] (by kernel_rfl) ?_; intro K hK; simp [q12_12, hck, hft', d14, d26, d28, d43]; (repeat' (first | refine hK _ _ ?_ | refine And.intro ?_ ?_ | (intro hc; try subst hc))) <;> (try clear hK K))
            | (refine wreg (mos := q12_13) hE [13, 14, 60, 61] (by kernel_rfl) ?_; intro K hK; simp [q12_13, hck, hft', d14, d26, d28, d43]; (repeat' (first | refine hK _ _ ?_ | refine And.intro ?_ ?_ | (intro hc; try subst hc))) <;> (try clear hK K))
            | (refine wreg (mos := q12_14) hE [10] (by kernel_rfl) ?_; intro K hK; simp [q12_14, hck, hft', d14, d26, d28, d43]; (repeat' (first | refine hK _ _ ?_ | refine And.intro ?_ ?_ | (intro hc; try subst hc))) <;> (try clear hK K))
            | (refine Wm_cond (b := _) (by with_unfolding_all rfl) (fun hc => ?_) (fun hc => ?_) <;> simp at hc <;> (try subst hc)))
          all_goals first | (simp; done) | (simp at *; omega) | (simp[hck, hft']; refine Imp.auto (by kernel_rfl) ?_ ?_ <;> simp [nmap, lkp, mkPl, prs, prsL, prT, ddL, idL, NLe, CRenL, CRen, Ren, RenL, NObj.none, hck, hft'])
      · unfold m12
        repeat' with_reducible (first
          | refine Wm_seq ?_
          | refine Wm_skip ?_
          | refine Wm_ret ?_
          | refine Wm_block ?_
          | refine Wm_exit ?_
          | refine thenK_normal ?_
          | refine thenK_ret ?_
          | refine thenK_exit ?_
          | refine blockK_normal ?_
          | refine blockK_ret ?_
          | refine blockK_here ?_
          | refine loopK_ret ?_
          | refine loopK_exit ?_
          | refine unK_ret ?_
          | refine unK_exit ?_
          | refine unK_normal ?_
          | refine loopOk_succ ?_
          | refine blockK_exit (by decide) ?_
          | (refine wreg (mos := q12_0) hE [1, 3, 4, 5, 7] (by kernel_rfl) ?_; intro K hK; simp [q12_0, hck, d14, d26, d28, d43]; (repeat' (first | refine hK _ _ ?_ | refine And.intro ?_ ?_ | (intro hc; try subst hc))) <;> (try clear hK K))
          | (refine wreg (mos := q12_1) hE [1, 3, 4, 7, 11, 12] (by kernel_rfl) ?_; intro K hK; simp [q12_1, hck, d14, d26, d28, d43]; (repeat' (first | refine hK _ _ ?_ | refine And.intro ?_ ?_ | (intro hc; try subst hc))) <;> (try clear hK K))
          | (refine wreg (mos := q12_2) hE [1, 3, 4, 7, 11, 27] (by kernel_rfl) ?_; intro K hK; simp [q12_2, hck, d14, d26, d28, d43]; (repeat' (first | refine hK _ _ ?_ | refine And.intro ?_ ?_ | (intro hc; try subst hc))) <;> (try clear hK K))
          | (refine wreg (mos := q12_3) hE [10] (by kernel_rfl) ?_; intro K hK; simp [q12_3, hck, d14, d26, d28, d43]; (repeat' (first | refine hK _ _ ?_ | refine And.intro ?_ ?_ | (intro hc; try subst hc))) <;> (try clear hK K))
          | (refine wreg (mos := q12_4) hE [1, 3, 4, 7, 11, 13] (by kernel_rfl) ?_; intro K hK; simp [q12_4, hck, d14, d26, d28, d43]; (repeat' (first | refine hK _ _ ?_ | refine And.intro ?_ ?_ | (intro hc; try subst hc))) <;> (try clear hK K))
          | (refine wreg (mos := q12_5) hE [3, 4, 13, 14] (by kernel_rfl) ?_; intro K hK; simp [q12_5, hck, d14, d26, d28, d43]; (repeat' (first | refine hK _ _ ?_ | refine And.intro ?_ ?_ | (intro hc; try subst hc))) <;> (try clear hK K))
          | (refine wreg (mos := q12_6) hE [13, 14, 58] (by kernel_rfl) ?_; intro K hK; simp [q12_6, hck, d14, d26, d28, d43]; (repeat' (first | refine hK _ _ ?_ | refine And.intro ?_ ?_ | (intro hc; try subst hc))) <;> (try clear hK K))
          | (refine wreg (mos := q12_7) hE [10] (by kernel_rfl) ?_; intro K hK; simp [q12_7, hck, d14, d26, d28, d43]; (repeat' (first | refine hK _ _ ?_ | refine And.intro ?_ ?_ | (intro hc; try subst hc))) <;> (try clear hK K))
          | (refine wreg (mos := q12_8) hE [13, 14, 60, 61] (by kernel_rfl) ?_; intro K hK; simp [q12_8, hck, d14, d26, d28, d43]; (repeat' (first | refine hK _ _ ?_ | refine And.intro ?_ ?_ | (intro hc; try subst hc))) <;> (try clear hK K))
          | (refine wreg (mos := q12_9) hE [13, 14, 60, 61, 62] (by kernel_rfl) ?_; intro K hK; simp [q12_9, hck, d14, d26, d28, d43]; (repeat' (first | refine hK _ _ ?_ | refine And.intro ?_ ?_ | (intro hc; try subst hc))) <;> (try clear hK K))
          | (refine wreg (mos := q12_10) hE [13, 14, 15, 60, 61] (by kernel_rfl) ?_; intro K hK; simp [q12_10, hck, d14, d26, d28, d43]; (repeat' (first | refine hK _ _ ?_ | refine And.intro ?_ ?_ | (intro hc; try subst hc))) <;> (try clear hK K))
          | (refine wdraw (mos := q12_11) hE mixT c12_11 [13, 14, 60, 61, 72] (by kernel_rfl) ?_; intro K hK; simp [q12_11, c12_11, hck, d14, d26, d28, d43]; (repeat' (first | refine hK _ _ ?_ | refine And.intro ?_ ?_ | (intro hc; try subst hc))) <;> (try clear hK K))
          | (refine wreg (mos := q12_12) hE [10] (by kernel_rfl) ?_; intro K hK; simp [q12_12, hck, d14, d26, d28, d43]; (repeat' (first | refine hK _ _ ?_ | refine And.intro ?_ ?_ | (intro hc; try subst hc))) <;> (try clear hK K))
          | (refine wreg (mos := q12_13) hE [13, 14, 60, 61] (by kernel_rfl) ?_; intro K hK; simp [q12_13, hck, d14, d26, d28, d43]; (repeat' (first | refine hK _ _ ?_ | refine And.intro ?_ ?_ | (intro hc; try subst hc))) <;> (try clear hK K))
          | (refine wreg (mos := q12_14) hE [10] (by kernel_rfl) ?_; intro K hK; simp [q12_14, hck, d14, d26, d28, d43]; (repeat' (first | refine hK _ _ ?_ | refine And.intro ?_ ?_ | (intro hc; try subst hc))) <;> (try clear hK K))
          | (refine Wm_cond (b := _) (by with_unfolding_all rfl) (fun hc => ?_) (fun hc => ?_) <;> simp at hc <;> (try subst hc)))
        all_goals first | (simp; done) | (simp at *; omega) | (simp[hck]; refine Imp.auto (by kernel_rfl) ?_ ?_ <;> simp [nmap, lkp, mkPl, prs, prsL, prT, ddL, idL, NLe, CRenL, CRen, Ren, RenL, NObj.none, hck])
    · cases h
  · cases h
end Go.W
