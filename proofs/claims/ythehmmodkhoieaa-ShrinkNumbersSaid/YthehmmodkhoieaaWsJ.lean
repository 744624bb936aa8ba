import Derived.Test.YthehmmodkhoieaaWsI
import Derived.Test.YthehmmodkhoieaaWsF
namespace Go.W
open Go.Proofs
set_option linter.unusedSimpArgs false
set_option linter.unusedVariables false
set_option maxHeartbeats 8000000
attribute [local irreducible] Wm

def d10 : List AV → List NObj → Option AV
  | [.sl (.top 0) 0 l, .int .i64 a, .int .i64 m], [.view 0 12 els] => if l = els.length ∧ els.all row12 = true ∧ els.all numOk = true then some (.bool true) else none
  | _, _ => none

def I10 (a m : Int) (els X : List (List AV)) (k : Nat) : St := ⟨[(4, .ptr (.top 1) 0 0), (5, .ptr (.top 2) 0 0), (7, .sl (.top 3) 0 els.length), (9, .sl (.top 4) 0 els.length), (54, .sl (.top 3) 0 els.length), (55, .int .i64 els.length), (56, .int .i64 k)], [(1, .cells 0 [.int .i64 a]), (2, .cells 0 [.int .i64 m]), (3, .arr 0 12 els), (4, .arr 0 12 X)], 5⟩

theorem ok10 : ROk d10 := by
  intro xs os r h
  unfold d10 at h
  (repeat' (split at h)) <;> first | (cases h; done) | (injection h with h; subst h; simp)
theorem s10 : Sound Try.prog 10 (rdS d10 ok10) := by
  refine rd_sound Try.func10 nm10 rc10 rv10 ok10 fun xs os r h vs ρ0 hvs => ⟨xs, ?_, fun _ h => h, fun w0 S hS => ?_⟩
  · unfold d10 at h
    (repeat' (split at h)) <;> first | (cases h; done) | exact Nat.le_of_ble_eq_true rfl
  unfold d10 at h
  split at h
  · split at h
    · rename_i l a m els hcond
      injection h with h
      subst h
      have hE : SoundAll Try.prog (EL [(32, rdS d32 ok32), (33, nestS [(12, false)] d33 ok33), (41, rdS d41 ok41), (40, rdS d40 ok40), (42, rdS d42 ok42)]) := EL_sound (by simp only [List.mem_cons, List.not_mem_nil, or_false, forall_eq_or_imp, forall_eq]; exact ⟨s32, s33, s41, s40, s42⟩)
      obtain ⟨rfl, hrows, hnum⟩ := hcond
      by_cases hlt : (60 : Int) < (els.length : Int)
      · unfold m10
        repeat' with_reducible (first
          | refine Wm_seq ?_
          | refine Wm_skip ?_
          | refine Wm_ret ?_
          | refine Wm_block ?_
          | refine Wm_exit ?_
          | refine thenK_normal ?_
          | refine thenK_ret ?_
          | refine thenK_exit ?_
          | refine blockK_normal ?_
          | refine blockK_ret ?_
          | refine blockK_here ?_
          | refine loopK_ret ?_
          | refine loopK_exit ?_
          | refine unK_ret ?_
          | refine unK_exit ?_
          | refine unK_normal ?_
          | refine loopOk_succ ?_
          | refine blockK_exit (by decide) ?_
          | (refine wreg (mos := q10_0) hE [0, 4, 5] (by kernel_rfl) ?_; intro K hK; simp [q10_0, hlt, d32, d33, d41, d40, d42]; (repeat' (first | refine hK _ _ ?_ | refine And.intro ?_ ?_ | (intro hc; try subst hc))) <;> (try clear hK K))
          | (refine wreg (mos := q10_1) hE [0, 4, 5, 25] (by kernel_rfl) ?_; intro K hK; simp [q10_1, hlt, d32, d33, d41, d40, d42]; (repeat' (first | refine hK _ _ ?_ | refine And.intro ?_ ?_ | (intro hc; try subst hc))) <;> (try clear hK K))
          | (refine wreg (mos := q10_2) hE [6] (by kernel_rfl) ?_; intro K hK; simp [q10_2, hlt, d32, d33, d41, d40, d42]; (repeat' (first | refine hK _ _ ?_ | refine And.intro ?_ ?_ | (intro hc; try subst hc))) <;> (try clear hK K))
          | (refine wreg (mos := q10_3) hE [4, 5, 7] (by kernel_rfl) ?_; intro K hK; simp [q10_3, hlt, d32, d33, d41, d40, d42]; (repeat' (first | refine hK _ _ ?_ | refine And.intro ?_ ?_ | (intro hc; try subst hc))) <;> (try clear hK K))
          | (refine wreg (mos := q10_4) hE [4, 5, 7, 8] (by kernel_rfl) ?_; intro K hK; simp [q10_4, hlt, d32, d33, d41, d40, d42]; (repeat' (first | refine hK _ _ ?_ | refine And.intro ?_ ?_ | (intro hc; try subst hc))) <;> (try clear hK K))
          | (refine wreg (mos := q10_5) hE [4, 5, 7, 8, 9, 10] (by kernel_rfl) ?_; intro K hK; simp [q10_5, hlt, d32, d33, d41, d40, d42]; (repeat' (first | refine hK _ _ ?_ | refine And.intro ?_ ?_ | (intro hc; try subst hc))) <;> (try clear hK K))
          | (refine wreg (mos := q10_6) hE [4, 5, 7, 9, 10, 40] (by kernel_rfl) ?_; intro K hK; simp [q10_6, hlt, d32, d33, d41, d40, d42]; (repeat' (first | refine hK _ _ ?_ | refine And.intro ?_ ?_ | (intro hc; try subst hc))) <;> (try clear hK K))
          | (refine wreg (mos := q10_7) hE [6] (by kernel_rfl) ?_; intro K hK; simp [q10_7, hlt, d32, d33, d41, d40, d42]; (repeat' (first | refine hK _ _ ?_ | refine And.intro ?_ ?_ | (intro hc; try subst hc))) <;> (try clear hK K))
          | (refine wreg (mos := q10_8) hE [4, 5, 7, 9, 42] (by kernel_rfl) ?_; intro K hK; simp [q10_8, hlt, d32, d33, d41, d40, d42]; (repeat' (first | refine hK _ _ ?_ | refine And.intro ?_ ?_ | (intro hc; try subst hc))) <;> (try clear hK K))
          | (refine wreg (mos := q10_9) hE [6] (by kernel_rfl) ?_; intro K hK; simp [q10_9, hlt, d32, d33, d41, d40, d42]; (repeat' (first | refine hK _ _ ?_ | refine And.intro ?_ ?_ | (intro hc; try subst hc))) <;> (try clear hK K))
          | (refine wreg (mos := q10_10) hE [4, 5, 7, 9, 53] (by kernel_rfl) ?_; intro K hK; simp [q10_10, hlt, d32, d33, d41, d40, d42]; (repeat' (first | refine hK _ _ ?_ | refine And.intro ?_ ?_ | (intro hc; try subst hc))) <;> (try clear hK K))
          | (refine wreg (mos := q10_11) hE [6] (by kernel_rfl) ?_; intro K hK; simp [q10_11, hlt, d32, d33, d41, d40, d42]; (repeat' (first | refine hK _ _ ?_ | refine And.intro ?_ ?_ | (intro hc; try subst hc))) <;> (try clear hK K))
          | (refine wreg (mos := q10_12) hE [4, 5, 7, 9, 54, 55, 56] (by kernel_rfl) ?_; intro K hK; simp [q10_12, hlt, d32, d33, d41, d40, d42]; (repeat' (first | refine hK _ _ ?_ | refine And.intro ?_ ?_ | (intro hc; try subst hc))) <;> (try clear hK K))
          | (refine wreg (mos := q10_13) hE [4, 5, 7, 9, 54, 55, 56, 57] (by kernel_rfl) ?_; intro K hK; simp [q10_13, hlt, d32, d33, d41, d40, d42]; (repeat' (first | refine hK _ _ ?_ | refine And.intro ?_ ?_ | (intro hc; try subst hc))) <;> (try clear hK K))
          | (refine wreg (mos := q10_14) hE [4, 5, 7, 9, 11, 12, 54, 55, 56] (by kernel_rfl) ?_; intro K hK; simp [q10_14, hlt, d32, d33, d41, d40, d42]; (repeat' (first | refine hK _ _ ?_ | refine And.intro ?_ ?_ | (intro hc; try subst hc))) <;> (try clear hK K))
          | (refine wreg (mos := q10_15) hE [4, 5, 7, 9, 11, 12, 54, 55, 56, 63] (by kernel_rfl) ?_; intro K hK; simp [q10_15, hlt, d32, d33, d41, d40, d42]; (repeat' (first | refine hK _ _ ?_ | refine And.intro ?_ ?_ | (intro hc; try subst hc))) <;> (try clear hK K))
          | (refine wreg (mos := q10_16) hE [4, 5, 7, 9, 11, 12, 54, 55, 56] (by kernel_rfl) ?_; intro K hK; simp [q10_16, hlt, d32, d33, d41, d40, d42]; (repeat' (first | refine hK _ _ ?_ | refine And.intro ?_ ?_ | (intro hc; try subst hc))) <;> (try clear hK K))
          | (refine wreg (mos := q10_17) hE [4, 5, 7, 9, 11, 12, 54, 55, 56, 67] (by kernel_rfl) ?_; intro K hK; simp [q10_17, hlt, d32, d33, d41, d40, d42]; (repeat' (first | refine hK _ _ ?_ | refine And.intro ?_ ?_ | (intro hc; try subst hc))) <;> (try clear hK K))
          | (refine wdraw (mos := q10_18) hE mixT c10_18 [4, 5, 7, 9, 11, 12, 54, 55, 56] (by kernel_rfl) ?_; intro K hK; simp [q10_18, c10_18, hlt, d32, d33, d41, d40, d42]; (repeat' (first | refine hK _ _ ?_ | refine And.intro ?_ ?_ | (intro hc; try subst hc))) <;> (try clear hK K))
          | (refine wdraw (mos := q10_19) hE mixT c10_19 [4, 5, 7, 9, 54, 55, 56, 81] (by kernel_rfl) ?_; intro K hK; simp [q10_19, c10_19, hlt, d32, d33, d41, d40, d42]; (repeat' (first | refine hK _ _ ?_ | refine And.intro ?_ ?_ | (intro hc; try subst hc))) <;> (try clear hK K))
          | (refine wreg (mos := q10_20) hE [6] (by kernel_rfl) ?_; intro K hK; simp [q10_20, hlt, d32, d33, d41, d40, d42]; (repeat' (first | refine hK _ _ ?_ | refine And.intro ?_ ?_ | (intro hc; try subst hc))) <;> (try clear hK K))
          | (refine wreg (mos := q10_21) hE [4, 5, 7, 9, 54, 55, 56] (by kernel_rfl) ?_; intro K hK; simp [q10_21, hlt, d32, d33, d41, d40, d42]; (repeat' (first | refine hK _ _ ?_ | refine And.intro ?_ ?_ | (intro hc; try subst hc))) <;> (try clear hK K))
          | (refine wreg (mos := q10_22) hE [6] (by kernel_rfl) ?_; intro K hK; simp [q10_22, hlt, d32, d33, d41, d40, d42]; (repeat' (first | refine hK _ _ ?_ | refine And.intro ?_ ?_ | (intro hc; try subst hc))) <;> (try clear hK K))
          | (refine Wm_cond (b := _) (by with_unfolding_all rfl) (fun hc => ?_) (fun hc => ?_) <;> simp at hc <;> (try subst hc)))
        all_goals first | (simp; done) | (simp at *; omega) | ((try simp); refine Imp.auto (by kernel_rfl) ?_ ?_ <;> simp [nmap, lkp, mkPl, prs, prsL, prT, ddL, idL, NLe, CRenL, CRen, Ren, RenL, NObj.none, CRenLL, mkPlX])
      · have hlen : els.length ≤ 200000 := by omega
        have hlen2 : ¬ 60 < els.length := by omega
        have hdat := rows_dat hrows
        have hT0 := rows_t0 hrows
        have hCl := rows_cl hrows
        by_cases ha0 : a < 0
        · unfold m10
          repeat' with_reducible (first
            | refine Wm_seq ?_
            | refine Wm_skip ?_
            | refine Wm_ret ?_
            | refine Wm_block ?_
            | refine Wm_exit ?_
            | refine thenK_normal ?_
            | refine thenK_ret ?_
            | refine thenK_exit ?_
            | refine blockK_normal ?_
            | refine blockK_ret ?_
            | refine blockK_here ?_
            | refine loopK_ret ?_
            | refine loopK_exit ?_
            | refine unK_ret ?_
            | refine unK_exit ?_
            | refine unK_normal ?_
            | refine loopOk_succ ?_
            | refine blockK_exit (by decide) ?_
            | (refine wreg (mos := q10_0) hE [0, 4, 5] (by kernel_rfl) ?_; intro K hK; simp [q10_0, hlt, hlen2, ha0, d32, d33, d41, d40, d42]; (repeat' (first | refine hK _ _ ?_ | refine And.intro ?_ ?_ | (intro hc; try subst hc))) <;> (try clear hK K))
            | (refine wreg (mos := q10_1) hE [0, 4, 5, 25] (by kernel_rfl) ?_; intro K hK; simp [q10_1, hlt, hlen2, ha0, d32, d33, d41, d40, d42]; (repeat' (first | refine hK _ _ ?_ | refine And.intro ?_ ?_ | (intro hc; try subst hc))) <;> (try clear hK K))
            | (refine wreg (mos := q10_2) hE [6] (by kernel_rfl) ?_; intro K hK; simp [q10_2, hlt, hlen2, ha0, d32, d33, d41, d40, d42]; (repeat' (first | refine hK _ _ ?_ | refine And.intro ?_ ?_ | (intro hc; try subst hc))) <;> (try clear hK K))
            | (refine wreg (mos := q10_3) hE [4, 5, 7] (by kernel_rfl) ?_; intro K hK; simp [q10_3, hlt, hlen2, ha0, d32, d33, d41, d40, d42]; (repeat' (first | refine hK _ _ ?_ | refine And.intro ?_ ?_ | (intro hc; try subst hc))) <;> (try clear hK K))
            | (refine wreg (mos := q10_4) hE [4, 5, 7, 8] (by kernel_rfl) ?_; intro K hK; simp [q10_4, hlt, hlen2, ha0, d32, d33, d41, d40, d42]; (repeat' (first | refine hK _ _ ?_ | refine And.intro ?_ ?_ | (intro hc; try subst hc))) <;> (try clear hK K))
            | (refine wreg (mos := q10_5) hE [4, 5, 7, 8, 9, 10] (by kernel_rfl) ?_; intro K hK; simp [q10_5, hlt, hlen2, ha0, d32, d33, d41, d40, d42]; (repeat' (first | refine hK _ _ ?_ | refine And.intro ?_ ?_ | (intro hc; try subst hc))) <;> (try clear hK K))
            | (refine wreg (mos := q10_6) hE [4, 5, 7, 9, 10, 40] (by kernel_rfl) ?_; intro K hK; simp [q10_6, hlt, hlen2, ha0, d32, d33, d41, d40, d42]; (repeat' (first | refine hK _ _ ?_ | refine And.intro ?_ ?_ | (intro hc; try subst hc))) <;> (try clear hK K))
            | (refine wreg (mos := q10_7) hE [6] (by kernel_rfl) ?_; intro K hK; simp [q10_7, hlt, hlen2, ha0, d32, d33, d41, d40, d42]; (repeat' (first | refine hK _ _ ?_ | refine And.intro ?_ ?_ | (intro hc; try subst hc))) <;> (try clear hK K))
            | (refine wreg (mos := q10_8) hE [4, 5, 7, 9, 42] (by kernel_rfl) ?_; intro K hK; simp [q10_8, hlt, hlen2, ha0, d32, d33, d41, d40, d42]; (repeat' (first | refine hK _ _ ?_ | refine And.intro ?_ ?_ | (intro hc; try subst hc))) <;> (try clear hK K))
            | (refine wreg (mos := q10_9) hE [6] (by kernel_rfl) ?_; intro K hK; simp [q10_9, hlt, hlen2, ha0, d32, d33, d41, d40, d42]; (repeat' (first | refine hK _ _ ?_ | refine And.intro ?_ ?_ | (intro hc; try subst hc))) <;> (try clear hK K))
            | (refine wreg (mos := q10_10) hE [4, 5, 7, 9, 53] (by kernel_rfl) ?_; intro K hK; simp [q10_10, hlt, hlen2, ha0, d32, d33, d41, d40, d42]; (repeat' (first | refine hK _ _ ?_ | refine And.intro ?_ ?_ | (intro hc; try subst hc))) <;> (try clear hK K))
            | (refine wreg (mos := q10_11) hE [6] (by kernel_rfl) ?_; intro K hK; simp [q10_11, hlt, hlen2, ha0, d32, d33, d41, d40, d42]; (repeat' (first | refine hK _ _ ?_ | refine And.intro ?_ ?_ | (intro hc; try subst hc))) <;> (try clear hK K))
            | (refine wreg (mos := q10_12) hE [4, 5, 7, 9, 54, 55, 56] (by kernel_rfl) ?_; intro K hK; simp [q10_12, hlt, hlen2, ha0, d32, d33, d41, d40, d42]; (repeat' (first | refine hK _ _ ?_ | refine And.intro ?_ ?_ | (intro hc; try subst hc))) <;> (try clear hK K))
            | (refine wreg (mos := q10_13) hE [4, 5, 7, 9, 54, 55, 56, 57] (by kernel_rfl) ?_; intro K hK; simp [q10_13, hlt, hlen2, ha0, d32, d33, d41, d40, d42]; (repeat' (first | refine hK _ _ ?_ | refine And.intro ?_ ?_ | (intro hc; try subst hc))) <;> (try clear hK K))
            | (refine wreg (mos := q10_14) hE [4, 5, 7, 9, 11, 12, 54, 55, 56] (by kernel_rfl) ?_; intro K hK; simp [q10_14, hlt, hlen2, ha0, d32, d33, d41, d40, d42]; (repeat' (first | refine hK _ _ ?_ | refine And.intro ?_ ?_ | (intro hc; try subst hc))) <;> (try clear hK K))
            | (refine wreg (mos := q10_15) hE [4, 5, 7, 9, 11, 12, 54, 55, 56, 63] (by kernel_rfl) ?_; intro K hK; simp [q10_15, hlt, hlen2, ha0, d32, d33, d41, d40, d42]; (repeat' (first | refine hK _ _ ?_ | refine And.intro ?_ ?_ | (intro hc; try subst hc))) <;> (try clear hK K))
            | (refine wreg (mos := q10_16) hE [4, 5, 7, 9, 11, 12, 54, 55, 56] (by kernel_rfl) ?_; intro K hK; simp [q10_16, hlt, hlen2, ha0, d32, d33, d41, d40, d42]; (repeat' (first | refine hK _ _ ?_ | refine And.intro ?_ ?_ | (intro hc; try subst hc))) <;> (try clear hK K))
            | (refine wreg (mos := q10_17) hE [4, 5, 7, 9, 11, 12, 54, 55, 56, 67] (by kernel_rfl) ?_; intro K hK; simp [q10_17, hlt, hlen2, ha0, d32, d33, d41, d40, d42]; (repeat' (first | refine hK _ _ ?_ | refine And.intro ?_ ?_ | (intro hc; try subst hc))) <;> (try clear hK K))
            | (refine wdraw (mos := q10_18) hE mixT c10_18 [4, 5, 7, 9, 11, 12, 54, 55, 56] (by kernel_rfl) ?_; intro K hK; simp [q10_18, c10_18, hlt, hlen2, ha0, d32, d33, d41, d40, d42]; (repeat' (first | refine hK _ _ ?_ | refine And.intro ?_ ?_ | (intro hc; try subst hc))) <;> (try clear hK K))
            | (refine wdraw (mos := q10_19) hE mixT c10_19 [4, 5, 7, 9, 54, 55, 56, 81] (by kernel_rfl) ?_; intro K hK; simp [q10_19, c10_19, hlt, hlen2, ha0, d32, d33, d41, d40, d42]; (repeat' (first | refine hK _ _ ?_ | refine And.intro ?_ ?_ | (intro hc; try subst hc))) <;> (try clear hK K))
            | (refine wreg (mos := q10_20) hE [6] (by kernel_rfl) ?_; intro K hK; simp [q10_20, hlt, hlen2, ha0, d32, d33, d41, d40, d42]; (repeat' (first | refine hK _ _ ?_ | refine And.intro ?_ ?_ | (intro hc; try subst hc))) <;> (try clear hK K))
            | (refine wreg (mos := q10_21) hE [4, 5, 7, 9, 54, 55, 56] (by kernel_rfl) ?_; intro K hK; simp [q10_21, hlt, hlen2, ha0, d32, d33, d41, d40, d42]; (repeat' (first | refine hK _ _ ?_ | refine And.intro ?_ ?_ | (intro hc; try subst hc))) <;> (try clear hK K))
            | (refine wreg (mos := q10_22) hE [6] (by kernel_rfl) ?_; intro K hK; simp [q10_22, hlt, hlen2, ha0, d32, d33, d41, d40, d42]; (repeat' (first | refine hK _ _ ?_ | refine And.intro ?_ ?_ | (intro hc; try subst hc))) <;> (try clear hK K))
            | (refine Wm_cond (b := _) (by with_unfolding_all rfl) (fun hc => ?_) (fun hc => ?_) <;> simp at hc <;> (try subst hc)))
          all_goals first | (simp; done) | (simp at *; omega) | ((try simp); refine Imp.auto (by kernel_rfl) ?_ ?_ <;> simp [nmap, lkp, mkPl, prs, prsL, prT, ddL, idL, NLe, CRenL, CRen, Ren, RenL, NObj.none, CRenLL, mkPlX])
        · have ha0' : 0 ≤ a := by omega
          by_cases hal : a < els.length
          · have hal' : ¬ (els.length : Int) ≤ a := by omega
            by_cases hma : m ≤ numAt els a.toNat
            · have hXr := expL_rows hrows a m els.length
              have hXl := expL_len els a m els.length
              have hgX := expL_get els a m els.length
              obtain ⟨X, hX⟩ : ∃ X, expL els a m els.length = X := ⟨_, rfl⟩
              rw [hX] at hXr hXl
              simp only [hX] at hgX
              have hXd := rows_dat hXr
              have hT1 := rows_t0 hXr
              have hC1 := rows_cl hXr
              unfold m10
              repeat' with_reducible (first
                | refine Wm_seq ?_
                | refine Wm_skip ?_
                | refine Wm_ret ?_
                | refine Wm_block ?_
                | refine Wm_exit ?_
                | refine thenK_normal ?_
                | refine thenK_ret ?_
                | refine thenK_exit ?_
                | refine blockK_normal ?_
                | refine blockK_ret ?_
                | refine blockK_here ?_
                | refine loopK_ret ?_
                | refine loopK_exit ?_
                | refine unK_ret ?_
                | refine unK_exit ?_
                | refine unK_normal ?_
                | refine loopOk_succ ?_
                | refine blockK_exit (by decide) ?_
                | (refine wreg (mos := q10_0) hE [0, 4, 5] (by kernel_rfl) ?_; intro K hK; simp [q10_0, hlt, hlen, hlen2, ha0, ha0', hal, hal', hma, hdat, hrows, hnum, hT0, hCl, hX, hXr, hXl, hXd, hT1, hC1, d32, d33, d41, d40, d42]; (repeat' (first | refine hK _ _ ?_ | refine And.intro ?_ ?_ | (intro hc; try subst hc))) <;> (try clear hK K))
                | (refine wreg (mos := q10_1) hE [0, 4, 5, 25] (by kernel_rfl) ?_; intro K hK; simp [q10_1, hlt, hlen, hlen2, ha0, ha0', hal, hal', hma, hdat, hrows, hnum, hT0, hCl, hX, hXr, hXl, hXd, hT1, hC1, d32, d33, d41, d40, d42]; (repeat' (first | refine hK _ _ ?_ | refine And.intro ?_ ?_ | (intro hc; try subst hc))) <;> (try clear hK K))
                | (refine wreg (mos := q10_2) hE [6] (by kernel_rfl) ?_; intro K hK; simp [q10_2, hlt, hlen, hlen2, ha0, ha0', hal, hal', hma, hdat, hrows, hnum, hT0, hCl, hX, hXr, hXl, hXd, hT1, hC1, d32, d33, d41, d40, d42]; (repeat' (first | refine hK _ _ ?_ | refine And.intro ?_ ?_ | (intro hc; try subst hc))) <;> (try clear hK K))
                | (refine wreg (mos := q10_3) hE [4, 5, 7] (by kernel_rfl) ?_; intro K hK; simp [q10_3, hlt, hlen, hlen2, ha0, ha0', hal, hal', hma, hdat, hrows, hnum, hT0, hCl, hX, hXr, hXl, hXd, hT1, hC1, d32, d33, d41, d40, d42]; (repeat' (first | refine hK _ _ ?_ | refine And.intro ?_ ?_ | (intro hc; try subst hc))) <;> (try clear hK K))
                | (refine wreg (mos := q10_4) hE [4, 5, 7, 8] (by kernel_rfl) ?_; intro K hK; simp [q10_4, hlt, hlen, hlen2, ha0, ha0', hal, hal', hma, hdat, hrows, hnum, hT0, hCl, hX, hXr, hXl, hXd, hT1, hC1, d32, d33, d41, d40, d42]; (repeat' (first | refine hK _ _ ?_ | refine And.intro ?_ ?_ | (intro hc; try subst hc))) <;> (try clear hK K))
                | (refine wreg (mos := q10_5) hE [4, 5, 7, 8, 9, 10] (by kernel_rfl) ?_; intro K hK; simp [q10_5, hlt, hlen, hlen2, ha0, ha0', hal, hal', hma, hdat, hrows, hnum, hT0, hCl, hX, hXr, hXl, hXd, hT1, hC1, d32, d33, d41, d40, d42]; (repeat' (first | refine hK _ _ ?_ | refine And.intro ?_ ?_ | (intro hc; try subst hc))) <;> (try clear hK K))
                | (refine wreg (mos := q10_6) hE [4, 5, 7, 9, 10, 40] (by kernel_rfl) ?_; intro K hK; simp [q10_6, hlt, hlen, hlen2, ha0, ha0', hal, hal', hma, hdat, hrows, hnum, hT0, hCl, hX, hXr, hXl, hXd, hT1, hC1, d32, d33, d41, d40, d42]; (repeat' (first | refine hK _ _ ?_ | refine And.intro ?_ ?_ | (intro hc; try subst hc))) <;> (try clear hK K))
                | (refine wreg (mos := q10_7) hE [6] (by kernel_rfl) ?_; intro K hK; simp [q10_7, hlt, hlen, hlen2, ha0, ha0', hal, hal', hma, hdat, hrows, hnum, hT0, hCl, hX, hXr, hXl, hXd, hT1, hC1, d32, d33, d41, d40, d42]; (repeat' (first | refine hK _ _ ?_ | refine And.intro ?_ ?_ | (intro hc; try subst hc))) <;> (try clear hK K))
                | (refine wreg (mos := q10_8) hE [4, 5, 7, 9, 42] (by kernel_rfl) ?_; intro K hK; simp [q10_8, hlt, hlen, hlen2, ha0, ha0', hal, hal', hma, hdat, hrows, hnum, hT0, hCl, hX, hXr, hXl, hXd, hT1, hC1, d32, d33, d41, d40, d42]; (repeat' (first | refine hK _ _ ?_ | refine And.intro ?_ ?_ | (intro hc; try subst hc))) <;> (try clear hK K))
                | (refine wreg (mos := q10_9) hE [6] (by kernel_rfl) ?_; intro K hK; simp [q10_9, hlt, hlen, hlen2, ha0, ha0', hal, hal', hma, hdat, hrows, hnum, hT0, hCl, hX, hXr, hXl, hXd, hT1, hC1, d32, d33, d41, d40, d42]; (repeat' (first | refine hK _ _ ?_ | refine And.intro ?_ ?_ | (intro hc; try subst hc))) <;> (try clear hK K))
                | (refine wreg (mos := q10_10) hE [4, 5, 7, 9, 53] (by kernel_rfl) ?_; intro K hK; simp [q10_10, hlt, hlen, hlen2, ha0, ha0', hal, hal', hma, hdat, hrows, hnum, hT0, hCl, hX, hXr, hXl, hXd, hT1, hC1, d32, d33, d41, d40, d42]; (repeat' (first | refine hK _ _ ?_ | refine And.intro ?_ ?_ | (intro hc; try subst hc))) <;> (try clear hK K))
                | (refine wreg (mos := q10_11) hE [6] (by kernel_rfl) ?_; intro K hK; simp [q10_11, hlt, hlen, hlen2, ha0, ha0', hal, hal', hma, hdat, hrows, hnum, hT0, hCl, hX, hXr, hXl, hXd, hT1, hC1, d32, d33, d41, d40, d42]; (repeat' (first | refine hK _ _ ?_ | refine And.intro ?_ ?_ | (intro hc; try subst hc))) <;> (try clear hK K))
                | (refine wreg (mos := q10_12) hE [4, 5, 7, 9, 54, 55, 56] (by kernel_rfl) ?_; intro K hK; simp [q10_12, hlt, hlen, hlen2, ha0, ha0', hal, hal', hma, hdat, hrows, hnum, hT0, hCl, hX, hXr, hXl, hXd, hT1, hC1, d32, d33, d41, d40, d42]; (repeat' (first | refine hK _ _ ?_ | refine And.intro ?_ ?_ | (intro hc; try subst hc))) <;> (try clear hK K))
                | (refine wreg (mos := q10_13) hE [4, 5, 7, 9, 54, 55, 56, 57] (by kernel_rfl) ?_; intro K hK; simp [q10_13, hlt, hlen, hlen2, ha0, ha0', hal, hal', hma, hdat, hrows, hnum, hT0, hCl, hX, hXr, hXl, hXd, hT1, hC1, d32, d33, d41, d40, d42]; (repeat' (first | refine hK _ _ ?_ | refine And.intro ?_ ?_ | (intro hc; try subst hc))) <;> (try clear hK K))
                | (refine wreg (mos := q10_14) hE [4, 5, 7, 9, 11, 12, 54, 55, 56] (by kernel_rfl) ?_; intro K hK; simp [q10_14, hlt, hlen, hlen2, ha0, ha0', hal, hal', hma, hdat, hrows, hnum, hT0, hCl, hX, hXr, hXl, hXd, hT1, hC1, d32, d33, d41, d40, d42]; (repeat' (first | refine hK _ _ ?_ | refine And.intro ?_ ?_ | (intro hc; try subst hc))) <;> (try clear hK K))
                | (refine wreg (mos := q10_15) hE [4, 5, 7, 9, 11, 12, 54, 55, 56, 63] (by kernel_rfl) ?_; intro K hK; simp [q10_15, hlt, hlen, hlen2, ha0, ha0', hal, hal', hma, hdat, hrows, hnum, hT0, hCl, hX, hXr, hXl, hXd, hT1, hC1, d32, d33, d41, d40, d42]; (repeat' (first | refine hK _ _ ?_ | refine And.intro ?_ ?_ | (intro hc; try subst hc))) <;> (try clear hK K))
                | (refine wreg (mos := q10_16) hE [4, 5, 7, 9, 11, 12, 54, 55, 56] (by kernel_rfl) ?_; intro K hK; simp [q10_16, hlt, hlen, hlen2, ha0, ha0', hal, hal', hma, hdat, hrows, hnum, hT0, hCl, hX, hXr, hXl, hXd, hT1, hC1, d32, d33, d41, d40, d42]; (repeat' (first | refine hK _ _ ?_ | refine And.intro ?_ ?_ | (intro hc; try subst hc))) <;> (try clear hK K))
                | (refine wreg (mos := q10_17) hE [4, 5, 7, 9, 11, 12, 54, 55, 56, 67] (by kernel_rfl) ?_; intro K hK; simp [q10_17, hlt, hlen, hlen2, ha0, ha0', hal, hal', hma, hdat, hrows, hnum, hT0, hCl, hX, hXr, hXl, hXd, hT1, hC1, d32, d33, d41, d40, d42]; (repeat' (first | refine hK _ _ ?_ | refine And.intro ?_ ?_ | (intro hc; try subst hc))) <;> (try clear hK K))
                | (refine wdraw (mos := q10_18) hE mixT c10_18 [4, 5, 7, 9, 11, 12, 54, 55, 56] (by kernel_rfl) ?_; intro K hK; simp [q10_18, c10_18, hlt, hlen, hlen2, ha0, ha0', hal, hal', hma, hdat, hrows, hnum, hT0, hCl, hX, hXr, hXl, hXd, hT1, hC1, d32, d33, d41, d40, d42]; (repeat' (first | refine hK _ _ ?_ | refine And.intro ?_ ?_ | (intro hc; try subst hc))) <;> (try clear hK K))
                | (refine wdraw (mos := q10_19) hE mixT c10_19 [4, 5, 7, 9, 54, 55, 56, 81] (by kernel_rfl) ?_; intro K hK; simp [q10_19, c10_19, hlt, hlen, hlen2, ha0, ha0', hal, hal', hma, hdat, hrows, hnum, hT0, hCl, hX, hXr, hXl, hXd, hT1, hC1, d32, d33, d41, d40, d42]; (repeat' (first | refine hK _ _ ?_ | refine And.intro ?_ ?_ | (intro hc; try subst hc))) <;> (try clear hK K))
                | (refine wreg (mos := q10_20) hE [6] (by kernel_rfl) ?_; intro K hK; simp [q10_20, hlt, hlen, hlen2, ha0, ha0', hal, hal', hma, hdat, hrows, hnum, hT0, hCl, hX, hXr, hXl, hXd, hT1, hC1, d32, d33, d41, d40, d42]; (repeat' (first | refine hK _ _ ?_ | refine And.intro ?_ ?_ | (intro hc; try subst hc))) <;> (try clear hK K))
                | (refine wreg (mos := q10_21) hE [4, 5, 7, 9, 54, 55, 56] (by kernel_rfl) ?_; intro K hK; simp [q10_21, hlt, hlen, hlen2, ha0, ha0', hal, hal', hma, hdat, hrows, hnum, hT0, hCl, hX, hXr, hXl, hXd, hT1, hC1, d32, d33, d41, d40, d42]; (repeat' (first | refine hK _ _ ?_ | refine And.intro ?_ ?_ | (intro hc; try subst hc))) <;> (try clear hK K))
                | (refine wreg (mos := q10_22) hE [6] (by kernel_rfl) ?_; intro K hK; simp [q10_22, hlt, hlen, hlen2, ha0, ha0', hal, hal', hma, hdat, hrows, hnum, hT0, hCl, hX, hXr, hXl, hXd, hT1, hC1, d32, d33, d41, d40, d42]; (repeat' (first | refine hK _ _ ?_ | refine And.intro ?_ ?_ | (intro hc; try subst hc))) <;> (try clear hK K))
                | (refine Wm_cond (b := _) (by with_unfolding_all rfl) (fun hc => ?_) (fun hc => ?_) <;> simp at hc <;> (try subst hc)))
              all_goals (refine Wm_loop (I10 a m els X) (fun k => k ≤ els.length) (fun k => els.length - k) 0 (Nat.zero_le _) ?_ ?_)
              · simp only [I10]
                rw [hS]
                refine Imp.auto (by kernel_rfl) ?_ ?_ <;> simp [nmap, lkp, mkPl, prs, prsL, prT, ddL, idL, NLe, CRenL, CRen, Ren, RenL, NObj.none, CRenLL, mkPlX, hT0, hCl, hT1, hC1, hXl]
              · intro k hk
                replace hk : k ≤ els.length := hk
                simp only [I10]
                by_cases hkn : k < els.length
                · obtain ⟨n0, n1, n2, n3, n4, n5, n6, n7, n8, n9, n10, n11, hrow⟩ := row12_ex (List.all_eq_true.1 hrows _ (List.getElem_mem hkn))
                  have hrow2 : els[k]? = some [.int .i64 n0, .int .i64 n1, .int .i64 n2, .int .i64 n3, .int .i64 n4, .int .i64 n5, .int .i64 n6, .int .i64 n7, .int .i64 n8, .int .i64 n9, .int .i64 n10, .int .i64 n11] := by rw [List.getElem?_eq_getElem hkn, hrow]
                  have hg := hgX k
                  rw [hrow2, Option.map_some, if_pos hkn] at hg
                  simp only [fixR] at hg
                  have hkX : k < X.length := by omega
                  have hrX : X[k] = [.int .i64 n0, .int .i64 n1, .int .i64 (fixN a m k n2), .int .i64 n3, .int .i64 n4, .int .i64 n5, .int .i64 n6, .int .i64 n7, .int .i64 n8, .int .i64 n9, .int .i64 n10, .int .i64 n11] := by rw [List.getElem?_eq_getElem hkX] at hg; simpa using hg
                  have hkI : (k : Int) < (els.length : Int) := by omega
                  have w1 : IntKind.wrap .i64 ((k : Int) + 1) = (k : Int) + 1 := wrap_in (by omega) (by omega)
                  by_cases hn2 : 0 < n2
                  · by_cases hka : (k : Int) = a
                    · subst hka
                      have hfx : fixN (k : Int) m k n2 = leastZ n2 m := by unfold fixN; rw [if_pos hn2, if_pos rfl]
                      rw [hfx] at hg hrX
                      repeat' with_reducible (first
                        | refine Wm_seq ?_
                        | refine Wm_skip ?_
                        | refine Wm_ret ?_
                        | refine Wm_block ?_
                        | refine Wm_exit ?_
                        | refine thenK_normal ?_
                        | refine thenK_ret ?_
                        | refine thenK_exit ?_
                        | refine blockK_normal ?_
                        | refine blockK_ret ?_
                        | refine blockK_here ?_
                        | refine loopK_ret ?_
                        | refine loopK_exit ?_
                        | refine unK_ret ?_
                        | refine unK_exit ?_
                        | refine unK_normal ?_
                        | refine loopOk_succ ?_
                        | refine blockK_exit (by decide) ?_
                        | (refine wreg (mos := q10_0) hE [0, 4, 5] (by kernel_rfl) ?_; intro K hK; simp [q10_0, hkI, hkn, hkX, hXl, hg, hrX, hrow, hrow2, w1, hn2, d32, d33, d41, d40, d42]; (repeat' (first | refine hK _ _ ?_ | refine And.intro ?_ ?_ | (intro hc; try subst hc))) <;> (try clear hK K))
                        | (refine wreg (mos := q10_1) hE [0, 4, 5, 25] (by kernel_rfl) ?_; intro K hK; simp [q10_1, hkI, hkn, hkX, hXl, hg, hrX, hrow, hrow2, w1, hn2, d32, d33, d41, d40, d42]; (repeat' (first | refine hK _ _ ?_ | refine And.intro ?_ ?_ | (intro hc; try subst hc))) <;> (try clear hK K))
                        | (refine wreg (mos := q10_2) hE [6] (by kernel_rfl) ?_; intro K hK; simp [q10_2, hkI, hkn, hkX, hXl, hg, hrX, hrow, hrow2, w1, hn2, d32, d33, d41, d40, d42]; (repeat' (first | refine hK _ _ ?_ | refine And.intro ?_ ?_ | (intro hc; try subst hc))) <;> (try clear hK K))
                        | (refine wreg (mos := q10_3) hE [4, 5, 7] (by kernel_rfl) ?_; intro K hK; simp [q10_3, hkI, hkn, hkX, hXl, hg, hrX, hrow, hrow2, w1, hn2, d32, d33, d41, d40, d42]; (repeat' (first | refine hK _ _ ?_ | refine And.intro ?_ ?_ | (intro hc; try subst hc))) <;> (try clear hK K))
                        | (refine wreg (mos := q10_4) hE [4, 5, 7, 8] (by kernel_rfl) ?_; intro K hK; simp [q10_4, hkI, hkn, hkX, hXl, hg, hrX, hrow, hrow2, w1, hn2, d32, d33, d41, d40, d42]; (repeat' (first | refine hK _ _ ?_ | refine And.intro ?_ ?_ | (intro hc; try subst hc))) <;> (try clear hK K))
                        | (refine wreg (mos := q10_5) hE [4, 5, 7, 8, 9, 10] (by kernel_rfl) ?_; intro K hK; simp [q10_5, hkI, hkn, hkX, hXl, hg, hrX, hrow, hrow2, w1, hn2, d32, d33, d41, d40, d42]; (repeat' (first | refine hK _ _ ?_ | refine And.intro ?_ ?_ | (intro hc; try subst hc))) <;> (try clear hK K))
                        | (refine wreg (mos := q10_6) hE [4, 5, 7, 9, 10, 40] (by kernel_rfl) ?_; intro K hK; simp [q10_6, hkI, hkn, hkX, hXl, hg, hrX, hrow, hrow2, w1, hn2, d32, d33, d41, d40, d42]; (repeat' (first | refine hK _ _ ?_ | refine And.intro ?_ ?_ | (intro hc; try subst hc))) <;> (try clear hK K))
                        | (refine wreg (mos := q10_7) hE [6] (by kernel_rfl) ?_; intro K hK; simp [q10_7, hkI, hkn, hkX, hXl, hg, hrX, hrow, hrow2, w1, hn2, d32, d33, d41, d40, d42]; (repeat' (first | refine hK _ _ ?_ | refine And.intro ?_ ?_ | (intro hc; try subst hc))) <;> (try clear hK K))
                        | (refine wreg (mos := q10_8) hE [4, 5, 7, 9, 42] (by kernel_rfl) ?_; intro K hK; simp [q10_8, hkI, hkn, hkX, hXl, hg, hrX, hrow, hrow2, w1, hn2, d32, d33, d41, d40, d42]; (repeat' (first | refine hK _ _ ?_ | refine And.intro ?_ ?_ | (intro hc; try subst hc))) <;> (try clear hK K))
                        | (refine wreg (mos := q10_9) hE [6] (by kernel_rfl) ?_; intro K hK; simp [q10_9, hkI, hkn, hkX, hXl, hg, hrX, hrow, hrow2, w1, hn2, d32, d33, d41, d40, d42]; (repeat' (first | refine hK _ _ ?_ | refine And.intro ?_ ?_ | (intro hc; try subst hc))) <;> (try clear hK K))
                        | (refine wreg (mos := q10_10) hE [4, 5, 7, 9, 53] (by kernel_rfl) ?_; intro K hK; simp [q10_10, hkI, hkn, hkX, hXl, hg, hrX, hrow, hrow2, w1, hn2, d32, d33, d41, d40, d42]; (repeat' (first | refine hK _ _ ?_ | refine And.intro ?_ ?_ | (intro hc; try subst hc))) <;> (try clear hK K))
                        | (refine wreg (mos := q10_11) hE [6] (by kernel_rfl) ?_; intro K hK; simp [q10_11, hkI, hkn, hkX, hXl, hg, hrX, hrow, hrow2, w1, hn2, d32, d33, d41, d40, d42]; (repeat' (first | refine hK _ _ ?_ | refine And.intro ?_ ?_ | (intro hc; try subst hc))) <;> (try clear hK K))
                        | (refine wreg (mos := q10_12) hE [4, 5, 7, 9, 54, 55, 56] (by kernel_rfl) ?_; intro K hK; simp [q10_12, hkI, hkn, hkX, hXl, hg, hrX, hrow, hrow2, w1, hn2, d32, d33, d41, d40, d42]; (repeat' (first | refine hK _ _ ?_ | refine And.intro ?_ ?_ | (intro hc; try subst hc))) <;> (try clear hK K))
                        | (refine wreg (mos := q10_13) hE [4, 5, 7, 9, 54, 55, 56, 57] (by kernel_rfl) ?_; intro K hK; simp [q10_13, hkI, hkn, hkX, hXl, hg, hrX, hrow, hrow2, w1, hn2, d32, d33, d41, d40, d42]; (repeat' (first | refine hK _ _ ?_ | refine And.intro ?_ ?_ | (intro hc; try subst hc))) <;> (try clear hK K))
                        | (refine wreg (mos := q10_14) hE [4, 5, 7, 9, 11, 12, 54, 55, 56] (by kernel_rfl) ?_; intro K hK; simp [q10_14, hkI, hkn, hkX, hXl, hg, hrX, hrow, hrow2, w1, hn2, d32, d33, d41, d40, d42]; (repeat' (first | refine hK _ _ ?_ | refine And.intro ?_ ?_ | (intro hc; try subst hc))) <;> (try clear hK K))
                        | (refine wreg (mos := q10_15) hE [4, 5, 7, 9, 11, 12, 54, 55, 56, 63] (by kernel_rfl) ?_; intro K hK; simp [q10_15, hkI, hkn, hkX, hXl, hg, hrX, hrow, hrow2, w1, hn2, d32, d33, d41, d40, d42]; (repeat' (first | refine hK _ _ ?_ | refine And.intro ?_ ?_ | (intro hc; try subst hc))) <;> (try clear hK K))
                        | (refine wreg (mos := q10_16) hE [4, 5, 7, 9, 11, 12, 54, 55, 56] (by kernel_rfl) ?_; intro K hK; simp [q10_16, hkI, hkn, hkX, hXl, hg, hrX, hrow, hrow2, w1, hn2, d32, d33, d41, d40, d42]; (repeat' (first | refine hK _ _ ?_ | refine And.intro ?_ ?_ | (intro hc; try subst hc))) <;> (try clear hK K))
                        | (refine wreg (mos := q10_17) hE [4, 5, 7, 9, 11, 12, 54, 55, 56, 67] (by kernel_rfl) ?_; intro K hK; simp [q10_17, hkI, hkn, hkX, hXl, hg, hrX, hrow, hrow2, w1, hn2, d32, d33, d41, d40, d42]; (repeat' (first | refine hK _ _ ?_ | refine And.intro ?_ ?_ | (intro hc; try subst hc))) <;> (try clear hK K))
                        | (refine wdraw (mos := q10_18) hE mixT c10_18 [4, 5, 7, 9, 11, 12, 54, 55, 56] (by kernel_rfl) ?_; intro K hK; simp [q10_18, c10_18, hkI, hkn, hkX, hXl, hg, hrX, hrow, hrow2, w1, hn2, d32, d33, d41, d40, d42]; (repeat' (first | refine hK _ _ ?_ | refine And.intro ?_ ?_ | (intro hc; try subst hc))) <;> (try clear hK K))
                        | (refine wdraw (mos := q10_19) hE mixT c10_19 [4, 5, 7, 9, 54, 55, 56, 81] (by kernel_rfl) ?_; intro K hK; simp [q10_19, c10_19, hkI, hkn, hkX, hXl, hg, hrX, hrow, hrow2, w1, hn2, d32, d33, d41, d40, d42]; (repeat' (first | refine hK _ _ ?_ | refine And.intro ?_ ?_ | (intro hc; try subst hc))) <;> (try clear hK K))
                        | (refine wreg (mos := q10_20) hE [6] (by kernel_rfl) ?_; intro K hK; simp [q10_20, hkI, hkn, hkX, hXl, hg, hrX, hrow, hrow2, w1, hn2, d32, d33, d41, d40, d42]; (repeat' (first | refine hK _ _ ?_ | refine And.intro ?_ ?_ | (intro hc; try subst hc))) <;> (try clear hK K))
                        | (refine wreg (mos := q10_21) hE [4, 5, 7, 9, 54, 55, 56] (by kernel_rfl) ?_; intro K hK; simp [q10_21, hkI, hkn, hkX, hXl, hg, hrX, hrow, hrow2, w1, hn2, d32, d33, d41, d40, d42]; (repeat' (first | refine hK _ _ ?_ | refine And.intro ?_ ?_ | (intro hc; try subst hc))) <;> (try clear hK K))
                        | (refine wreg (mos := q10_22) hE [6] (by kernel_rfl) ?_; intro K hK; simp [q10_22, hkI, hkn, hkX, hXl, hg, hrX, hrow, hrow2, w1, hn2, d32, d33, d41, d40, d42]; (repeat' (first | refine hK _ _ ?_ | refine And.intro ?_ ?_ | (intro hc; try subst hc))) <;> (try clear hK K))
                        | (refine Wm_cond (b := _) (by with_unfolding_all rfl) (fun hc => ?_) (fun hc => ?_) <;> simp at hc <;> (try subst hc)))
                      all_goals refine ⟨k + 1, hkn, Nat.sub_lt_sub_left hkn (Nat.lt_succ_self k), ?_⟩
                      all_goals simp only [I10]
                      all_goals rw [hS]
                      all_goals (refine Imp.auto (by kernel_rfl) ?_ ?_ <;> simp [nmap, lkp, mkPl, prs, prsL, prT, ddL, idL, NLe, CRenL, CRen, Ren, RenL, NObj.none, CRenLL, mkPlX, hT0, hCl, hT1, hC1, hXl])
                    · have hfx : fixN a m k n2 = 0 := by unfold fixN; rw [if_pos hn2, if_neg hka]
                      rw [hfx] at hg hrX
                      repeat' with_reducible (first
                        | refine Wm_seq ?_
                        | refine Wm_skip ?_
                        | refine Wm_ret ?_
                        | refine Wm_block ?_
                        | refine Wm_exit ?_
                        | refine thenK_normal ?_
                        | refine thenK_ret ?_
                        | refine thenK_exit ?_
                        | refine blockK_normal ?_
                        | refine blockK_ret ?_
                        | refine blockK_here ?_
                        | refine loopK_ret ?_
                        | refine loopK_exit ?_
                        | refine unK_ret ?_
                        | refine unK_exit ?_
                        | refine unK_normal ?_
                        | refine loopOk_succ ?_
                        | refine blockK_exit (by decide) ?_
                        | (refine wreg (mos := q10_0) hE [0, 4, 5] (by kernel_rfl) ?_; intro K hK; simp [q10_0, hkI, hkn, hkX, hXl, hg, hrX, hrow, hrow2, w1, hn2, hka, d32, d33, d41, d40, d42]; (repeat' (first | refine hK _ _ ?_ | refine And.intro ?_ ?_ | (intro hc; try subst hc))) <;> (try clear hK K))
                        | (refine wreg (mos := q10_1) hE [0, 4, 5, 25] (by kernel_rfl) ?_; intro K hK; simp [q10_1, hkI, hkn, hkX, hXl, hg, hrX, hrow, hrow2, w1, hn2, hka, d32, d33, d41, d40, d42]; (repeat' (first | refine hK _ _ ?_ | refine And.intro ?_ ?_ | (intro hc; try subst hc))) <;> (try clear hK K))
                        | (refine wreg (mos := q10_2) hE [6] (by kernel_rfl) ?_; intro K hK; simp [q10_2, hkI, hkn, hkX, hXl, hg, hrX, hrow, hrow2, w1, hn2, hka, d32, d33, d41, d40, d42]; (repeat' (first | refine hK _ _ ?_ | refine And.intro ?_ ?_ | (intro hc; try subst hc))) <;> (try clear hK K))
                        | (refine wreg (mos := q10_3) hE [4, 5, 7] (by kernel_rfl) ?_; intro K hK; simp [q10_3, hkI, hkn, hkX, hXl, hg, hrX, hrow, hrow2, w1, hn2, hka, d32, d33, d41, d40, d42]; (repeat' (first | refine hK _ _ ?_ | refine And.intro ?_ ?_ | (intro hc; try subst hc))) <;> (try clear hK K))
                        | (refine wreg (mos := q10_4) hE [4, 5, 7, 8] (by kernel_rfl) ?_; intro K hK; simp [q10_4, hkI, hkn, hkX, hXl, hg, hrX, hrow, hrow2, w1, hn2, hka, d32, d33, d41, d40, d42]; (repeat' (first | refine hK _ _ ?_ | refine And.intro ?_ ?_ | (intro hc; try subst hc))) <;> (try clear hK K))
                        | (refine wreg (mos := q10_5) hE [4, 5, 7, 8, 9, 10] (by kernel_rfl) ?_; intro K hK; simp [q10_5, hkI, hkn, hkX, hXl, hg, hrX, hrow, hrow2, w1, hn2, hka, d32, d33, d41, d40, d42]; (repeat' (first | refine hK _ _ ?_ | refine And.intro ?_ ?_ | (intro hc; try subst hc))) <;> (try clear hK K))
                        | (refine wreg (mos := q10_6) hE [4, 5, 7, 9, 10, 40] (by kernel_rfl) ?_; intro K hK; simp [q10_6, hkI, hkn, hkX, hXl, hg, hrX, hrow, hrow2, w1, hn2, hka, d32, d33, d41, d40, d42]; (repeat' (first | refine hK _ _ ?_ | refine And.intro ?_ ?_ | (intro hc; try subst hc))) <;> (try clear hK K))
                        | (refine wreg (mos := q10_7) hE [6] (by kernel_rfl) ?_; intro K hK; simp [q10_7, hkI, hkn, hkX, hXl, hg, hrX, hrow, hrow2, w1, hn2, hka, d32, d33, d41, d40, d42]; (repeat' (first | refine hK _ _ ?_ | refine And.intro ?_ ?_ | (intro hc; try subst hc))) <;> (try clear hK K))
                        | (refine wreg (mos := q10_8) hE [4, 5, 7, 9, 42] (by kernel_rfl) ?_; intro K hK; simp [q10_8, hkI, hkn, hkX, hXl, hg, hrX, hrow, hrow2, w1, hn2, hka, d32, d33, d41, d40, d42]; (repeat' (first | refine hK _ _ ?_ | refine And.intro ?_ ?_ | (intro hc; try subst hc))) <;> (try clear hK K))
                        | (refine wreg (mos := q10_9) hE [6] (by kernel_rfl) ?_; intro K hK; simp [q10_9, hkI, hkn, hkX, hXl, hg, hrX, hrow, hrow2, w1, hn2, hka, d32, d33, d41, d40, d42]; (repeat' (first | refine hK _ _ ?_ | refine And.intro ?_ ?_ | (intro hc; try subst hc))) <;> (try clear hK K))
                        | (refine wreg (mos := q10_10) hE [4, 5, 7, 9, 53] (by kernel_rfl) ?_; intro K hK; simp [q10_10, hkI, hkn, hkX, hXl, hg, hrX, hrow, hrow2, w1, hn2, hka, d32, d33, d41, d40, d42]; (repeat' (first | refine hK _ _ ?_ | refine And.intro ?_ ?_ | (intro hc; try subst hc))) <;> (try clear hK K))
                        | (refine wreg (mos := q10_11) hE [6] (by kernel_rfl) ?_; intro K hK; simp [q10_11, hkI, hkn, hkX, hXl, hg, hrX, hrow, hrow2, w1, hn2, hka, d32, d33, d41, d40, d42]; (repeat' (first | refine hK _ _ ?_ | refine And.intro ?_ ?_ | (intro hc; try subst hc))) <;> (try clear hK K))
                        | (refine wreg (mos := q10_12) hE [4, 5, 7, 9, 54, 55, 56] (by kernel_rfl) ?_; intro K hK; simp [q10_12, hkI, hkn, hkX, hXl, hg, hrX, hrow, hrow2, w1, hn2, hka, d32, d33, d41, d40, d42]; (repeat' (first | refine hK _ _ ?_ | refine And.intro ?_ ?_ | (intro hc; try subst hc))) <;> (try clear hK K))
                        | (refine wreg (mos := q10_13) hE [4, 5, 7, 9, 54, 55, 56, 57] (by kernel_rfl) ?_; intro K hK; simp [q10_13, hkI, hkn, hkX, hXl, hg, hrX, hrow, hrow2, w1, hn2, hka, d32, d33, d41, d40, d42]; (repeat' (first | refine hK _ _ ?_ | refine And.intro ?_ ?_ | (intro hc; try subst hc))) <;> (try clear hK K))
                        | (refine wreg (mos := q10_14) hE [4, 5, 7, 9, 11, 12, 54, 55, 56] (by kernel_rfl) ?_; intro K hK; simp [q10_14, hkI, hkn, hkX, hXl, hg, hrX, hrow, hrow2, w1, hn2, hka, d32, d33, d41, d40, d42]; (repeat' (first | refine hK _ _ ?_ | refine And.intro ?_ ?_ | (intro hc; try subst hc))) <;> (try clear hK K))
                        | (refine wreg (mos := q10_15) hE [4, 5, 7, 9, 11, 12, 54, 55, 56, 63] (by kernel_rfl) ?_; intro K hK; simp [q10_15, hkI, hkn, hkX, hXl, hg, hrX, hrow, hrow2, w1, hn2, hka, d32, d33, d41, d40, d42]; (repeat' (first | refine hK _ _ ?_ | refine And.intro ?_ ?_ | (intro hc; try subst hc))) <;> (try clear hK K))
                        | (refine wreg (mos := q10_16) hE [4, 5, 7, 9, 11, 12, 54, 55, 56] (by kernel_rfl) ?_; intro K hK; simp [q10_16, hkI, hkn, hkX, hXl, hg, hrX, hrow, hrow2, w1, hn2, hka, d32, d33, d41, d40, d42]; (repeat' (first | refine hK _ _ ?_ | refine And.intro ?_ ?_ | (intro hc; try subst hc))) <;> (try clear hK K))
                        | (refine wreg (mos := q10_17) hE [4, 5, 7, 9, 11, 12, 54, 55, 56, 67] (by kernel_rfl) ?_; intro K hK; simp [q10_17, hkI, hkn, hkX, hXl, hg, hrX, hrow, hrow2, w1, hn2, hka, d32, d33, d41, d40, d42]; (repeat' (first | refine hK _ _ ?_ | refine And.intro ?_ ?_ | (intro hc; try subst hc))) <;> (try clear hK K))
                        | (refine wdraw (mos := q10_18) hE mixT c10_18 [4, 5, 7, 9, 11, 12, 54, 55, 56] (by kernel_rfl) ?_; intro K hK; simp [q10_18, c10_18, hkI, hkn, hkX, hXl, hg, hrX, hrow, hrow2, w1, hn2, hka, d32, d33, d41, d40, d42]; (repeat' (first | refine hK _ _ ?_ | refine And.intro ?_ ?_ | (intro hc; try subst hc))) <;> (try clear hK K))
                        | (refine wdraw (mos := q10_19) hE mixT c10_19 [4, 5, 7, 9, 54, 55, 56, 81] (by kernel_rfl) ?_; intro K hK; simp [q10_19, c10_19, hkI, hkn, hkX, hXl, hg, hrX, hrow, hrow2, w1, hn2, hka, d32, d33, d41, d40, d42]; (repeat' (first | refine hK _ _ ?_ | refine And.intro ?_ ?_ | (intro hc; try subst hc))) <;> (try clear hK K))
                        | (refine wreg (mos := q10_20) hE [6] (by kernel_rfl) ?_; intro K hK; simp [q10_20, hkI, hkn, hkX, hXl, hg, hrX, hrow, hrow2, w1, hn2, hka, d32, d33, d41, d40, d42]; (repeat' (first | refine hK _ _ ?_ | refine And.intro ?_ ?_ | (intro hc; try subst hc))) <;> (try clear hK K))
                        | (refine wreg (mos := q10_21) hE [4, 5, 7, 9, 54, 55, 56] (by kernel_rfl) ?_; intro K hK; simp [q10_21, hkI, hkn, hkX, hXl, hg, hrX, hrow, hrow2, w1, hn2, hka, d32, d33, d41, d40, d42]; (repeat' (first | refine hK _ _ ?_ | refine And.intro ?_ ?_ | (intro hc; try subst hc))) <;> (try clear hK K))
                        | (refine wreg (mos := q10_22) hE [6] (by kernel_rfl) ?_; intro K hK; simp [q10_22, hkI, hkn, hkX, hXl, hg, hrX, hrow, hrow2, w1, hn2, hka, d32, d33, d41, d40, d42]; (repeat' (first | refine hK _ _ ?_ | refine And.intro ?_ ?_ | (intro hc; try subst hc))) <;> (try clear hK K))
                        | (refine Wm_cond (b := _) (by with_unfolding_all rfl) (fun hc => ?_) (fun hc => ?_) <;> simp at hc <;> (try subst hc)))
                      all_goals refine ⟨k + 1, hkn, Nat.sub_lt_sub_left hkn (Nat.lt_succ_self k), ?_⟩
                      all_goals simp only [I10]
                      all_goals rw [hS]
                      all_goals (refine Imp.auto (by kernel_rfl) ?_ ?_ <;> simp [nmap, lkp, mkPl, prs, prsL, prT, ddL, idL, NLe, CRenL, CRen, Ren, RenL, NObj.none, CRenLL, mkPlX, hT0, hCl, hT1, hC1, hXl])
                  · have hfx : fixN a m k n2 = n2 := by unfold fixN; rw [if_neg hn2]
                    rw [hfx] at hg hrX
                    repeat' with_reducible (first
                      | refine Wm_seq ?_
                      | refine Wm_skip ?_
                      | refine Wm_ret ?_
                      | refine Wm_block ?_
                      | refine Wm_exit ?_
                      | refine thenK_normal ?_
                      | refine thenK_ret ?_
                      | refine thenK_exit ?_
                      | refine blockK_normal ?_
                      | refine blockK_ret ?_
                      | refine blockK_here ?_
                      | refine loopK_ret ?_
                      | refine loopK_exit ?_
                      | refine unK_ret ?_
                      | refine unK_exit ?_
                      | refine unK_normal ?_
                      | refine loopOk_succ ?_
                      | refine blockK_exit (by decide) ?_
                      | (refine wreg (mos := q10_0) hE [0, 4, 5] (by kernel_rfl) ?_; intro K hK; simp [q10_0, hkI, hkn, hkX, hXl, hg, hrX, hrow, hrow2, w1, hn2, d32, d33, d41, d40, d42]; (repeat' (first | refine hK _ _ ?_ | refine And.intro ?_ ?_ | (intro hc; try subst hc))) <;> (try clear hK K))
                      | (refine wreg (mos := q10_1) hE [0, 4, 5, 25] (by kernel_rfl) ?_; intro K hK; simp [q10_1, hkI, hkn, hkX, hXl, hg, hrX, hrow, hrow2, w1, hn2, d32, d33, d41, d40, d42]; (repeat' (first | refine hK _ _ ?_ | refine And.intro ?_ ?_ | (intro hc; try subst hc))) <;> (try clear hK K))
                      | (refine wreg (mos := q10_2) hE [6] (by kernel_rfl) ?_; intro K hK; simp [q10_2, hkI, hkn, hkX, hXl, hg, hrX, hrow, hrow2, w1, hn2, d32, d33, d41, d40, d42]; (repeat' (first | refine hK _ _ ?_ | refine And.intro ?_ ?_ | (intro hc; try subst hc))) <;> (try clear hK K))
                      | (refine wreg (mos := q10_3) hE [4, 5, 7] (by kernel_rfl) ?_; intro K hK; simp [q10_3, hkI, hkn, hkX, hXl, hg, hrX, hrow, hrow2, w1, hn2, d32, d33, d41, d40, d42]; (repeat' (first | refine hK _ _ ?_ | refine And.intro ?_ ?_ | (intro hc; try subst hc))) <;> (try clear hK K))
                      | (refine wreg (mos := q10_4) hE [4, 5, 7, 8] (by kernel_rfl) ?_; intro K hK; simp [q10_4, hkI, hkn, hkX, hXl, hg, hrX, hrow, hrow2, w1, hn2, d32, d33, d41, d40, d42]; (repeat' (first | refine hK _ _ ?_ | refine And.intro ?_ ?_ | (intro hc; try subst hc))) <;> (try clear hK K))
                      | (refine wreg (mos := q10_5) hE [4, 5, 7, 8, 9, 10] (by kernel_rfl) ?_; intro K hK; simp [q10_5, hkI, hkn, hkX, hXl, hg, hrX, hrow, hrow2, w1, hn2, d32, d33, d41, d40, d42]; (repeat' (first | refine hK _ _ ?_ | refine And.intro ?_ ?_ | (intro hc; try subst hc))) <;> (try clear hK K))
                      | (refine wreg (mos := q10_6) hE [4, 5, 7, 9, 10, 40] (by kernel_rfl) ?_; intro K hK; simp [q10_6, hkI, hkn, hkX, hXl, hg, hrX, hrow, hrow2, w1, hn2, d32, d33, d41, d40, d42]; (repeat' (first | refine hK _ _ ?_ | refine And.intro ?_ ?_ | (intro hc; try subst hc))) <;> (try clear hK K))
                      | (refine wreg (mos := q10_7) hE [6] (by kernel_rfl) ?_; intro K hK; simp [q10_7, hkI, hkn, hkX, hXl, hg, hrX, hrow, hrow2, w1, hn2, d32, d33, d41, d40, d42]; (repeat' (first | refine hK _ _ ?_ | refine And.intro ?_ ?_ | (intro hc; try subst hc))) <;> (try clear hK K))
                      | (refine wreg (mos := q10_8) hE [4, 5, 7, 9, 42] (by kernel_rfl) ?_; intro K hK; simp [q10_8, hkI, hkn, hkX, hXl, hg, hrX, hrow, hrow2, w1, hn2, d32, d33, d41, d40, d42]; (repeat' (first | refine hK _ _ ?_ | refine And.intro ?_ ?_ | (intro hc; try subst hc))) <;> (try clear hK K))
                      | (refine wreg (mos := q10_9) hE [6] (by kernel_rfl) ?_; intro K hK; simp [q10_9, hkI, hkn, hkX, hXl, hg, hrX, hrow, hrow2, w1, hn2, d32, d33, d41, d40, d42]; (repeat' (first | refine hK _ _ ?_ | refine And.intro ?_ ?_ | (intro hc; try subst hc))) <;> (try clear hK K))
                      | (refine wreg (mos := q10_10) hE [4, 5, 7, 9, 53] (by kernel_rfl) ?_; intro K hK; simp [q10_10, hkI, hkn, hkX, hXl, hg, hrX, hrow, hrow2, w1, hn2, d32, d33, d41, d40, d42]; (repeat' (first | refine hK _ _ ?_ | refine And.intro ?_ ?_ | (intro hc; try subst hc))) <;> (try clear hK K))
                      | (refine wreg (mos := q10_11) hE [6] (by kernel_rfl) ?_; intro K hK; simp [q10_11, hkI, hkn, hkX, hXl, hg, hrX, hrow, hrow2, w1, hn2, d32, d33, d41, d40, d42]; (repeat' (first | refine hK _ _ ?_ | refine And.intro ?_ ?_ | (intro hc; try subst hc))) <;> (try clear hK K))
                      | (refine wreg (mos := q10_12) hE [4, 5, 7, 9, 54, 55, 56] (by kernel_rfl) ?_; intro K hK; simp [q10_12, hkI, hkn, hkX, hXl, hg, hrX, hrow, hrow2, w1, hn2, d32, d33, d41, d40, d42]; (repeat' (first | refine hK _ _ ?_ | refine And.intro ?_ ?_ | (intro hc; try subst hc))) <;> (try clear hK K))
                      | (refine wreg (mos := q10_13) hE [4, 5, 7, 9, 54, 55, 56, 57] (by kernel_rfl) ?_; intro K hK; simp [q10_13, hkI, hkn, hkX, hXl, hg, hrX, hrow, hrow2, w1, hn2, d32, d33, d41, d40, d42]; (repeat' (first | refine hK _ _ ?_ | refine And.intro ?_ ?_ | (intro hc; try subst hc))) <;> (try clear hK K))
                      | (refine wreg (mos := q10_14) hE [4, 5, 7, 9, 11, 12, 54, 55, 56] (by kernel_rfl) ?_; intro K hK; simp [q10_14, hkI, hkn, hkX, hXl, hg, hrX, hrow, hrow2, w1, hn2, d32, d33, d41, d40, d42]; (repeat' (first | refine hK _ _ ?_ | refine And.intro ?_ ?_ | (intro hc; try subst hc))) <;> (try clear hK K))
                      | (refine wreg (mos := q10_15) hE [4, 5, 7, 9, 11, 12, 54, 55, 56, 63] (by kernel_rfl) ?_; intro K hK; simp [q10_15, hkI, hkn, hkX, hXl, hg, hrX, hrow, hrow2, w1, hn2, d32, d33, d41, d40, d42]; (repeat' (first | refine hK _ _ ?_ | refine And.intro ?_ ?_ | (intro hc; try subst hc))) <;> (try clear hK K))
                      | (refine wreg (mos := q10_16) hE [4, 5, 7, 9, 11, 12, 54, 55, 56] (by kernel_rfl) ?_; intro K hK; simp [q10_16, hkI, hkn, hkX, hXl, hg, hrX, hrow, hrow2, w1, hn2, d32, d33, d41, d40, d42]; (repeat' (first | refine hK _ _ ?_ | refine And.intro ?_ ?_ | (intro hc; try subst hc))) <;> (try clear hK K))
                      | (refine wreg (mos := q10_17) hE [4, 5, 7, 9, 11, 12, 54, 55, 56, 67] (by kernel_rfl) ?_; intro K hK; simp [q10_17, hkI, hkn, hkX, hXl, hg, hrX, hrow, hrow2, w1, hn2, d32, d33, d41, d40, d42]; (repeat' (first | refine hK _ _ ?_ | refine And.intro ?_ ?_ | (intro hc; try subst hc))) <;> (try clear hK K))
                      | (refine wdraw (mos := q10_18) hE mixT c10_18 [4, 5, 7, 9, 11, 12, 54, 55, 56] (by kernel_rfl) ?_; intro K hK; simp [q10_18, c10_18, hkI, hkn, hkX, hXl, hg, hrX, hrow, hrow2, w1, hn2, d32, d33, d41, d40, d42]; (repeat' (first | refine hK _ _ ?_ | refine And.intro ?_ ?_ | (intro hc; try subst hc))) <;> (try clear hK K))
                      | (refine wdraw (mos := q10_19) hE mixT c10_19 [4, 5, 7, 9, 54, 55, 56, 81] (by kernel_rfl) ?_; intro K hK; simp [q10_19, c10_19, hkI, hkn, hkX, hXl, hg, hrX, hrow, hrow2, w1, hn2, d32, d33, d41, d40, d42]; (repeat' (first | refine hK _ _ ?_ | refine And.intro ?_ ?_ | (intro hc; try subst hc))) <;> (try clear hK K))
                      | (refine wreg (mos := q10_20) hE [6] (by kernel_rfl) ?_; intro K hK; simp [q10_20, hkI, hkn, hkX, hXl, hg, hrX, hrow, hrow2, w1, hn2, d32, d33, d41, d40, d42]; (repeat' (first | refine hK _ _ ?_ | refine And.intro ?_ ?_ | (intro hc; try subst hc))) <;> (try clear hK K))
                      | (refine wreg (mos := q10_21) hE [4, 5, 7, 9, 54, 55, 56] (by kernel_rfl) ?_; intro K hK; simp [q10_21, hkI, hkn, hkX, hXl, hg, hrX, hrow, hrow2, w1, hn2, d32, d33, d41, d40, d42]; (repeat' (first | refine hK _ _ ?_ | refine And.intro ?_ ?_ | (intro hc; try subst hc))) <;> (try clear hK K))
                      | (refine wreg (mos := q10_22) hE [6] (by kernel_rfl) ?_; intro K hK; simp [q10_22, hkI, hkn, hkX, hXl, hg, hrX, hrow, hrow2, w1, hn2, d32, d33, d41, d40, d42]; (repeat' (first | refine hK _ _ ?_ | refine And.intro ?_ ?_ | (intro hc; try subst hc))) <;> (try clear hK K))
                      | (refine Wm_cond (b := _) (by with_unfolding_all rfl) (fun hc => ?_) (fun hc => ?_) <;> simp at hc <;> (try subst hc)))
                    all_goals refine ⟨k + 1, hkn, Nat.sub_lt_sub_left hkn (Nat.lt_succ_self k), ?_⟩
                    all_goals simp only [I10]
                    all_goals rw [hS]
                    all_goals (refine Imp.auto (by kernel_rfl) ?_ ?_ <;> simp [nmap, lkp, mkPl, prs, prsL, prT, ddL, idL, NLe, CRenL, CRen, Ren, RenL, NObj.none, CRenLL, mkPlX, hT0, hCl, hT1, hC1, hXl])
                · have hkI : ¬ (k : Int) < (els.length : Int) := by omega
                  repeat' with_reducible (first
                    | refine Wm_seq ?_
                    | refine Wm_skip ?_
                    | refine Wm_ret ?_
                    | refine Wm_block ?_
                    | refine Wm_exit ?_
                    | refine thenK_normal ?_
                    | refine thenK_ret ?_
                    | refine thenK_exit ?_
                    | refine blockK_normal ?_
                    | refine blockK_ret ?_
                    | refine blockK_here ?_
                    | refine loopK_ret ?_
                    | refine loopK_exit ?_
                    | refine unK_ret ?_
                    | refine unK_exit ?_
                    | refine unK_normal ?_
                    | refine loopOk_succ ?_
                    | refine blockK_exit (by decide) ?_
                    | (refine wreg (mos := q10_0) hE [0, 4, 5] (by kernel_rfl) ?_; intro K hK; simp [q10_0, hkI, d32, d33, d41, d40, d42]; (repeat' (first | refine hK _ _ ?_ | refine And.intro ?_ ?_ | (intro hc; try subst hc))) <;> (try clear hK K))
                    | (refine wreg (mos := q10_1) hE [0, 4, 5, 25] (by kernel_rfl) ?_; intro K hK; simp [q10_1, hkI, d32, d33, d41, d40, d42]; (repeat' (first | refine hK _ _ ?_ | refine And.intro ?_ ?_ | (intro hc; try subst hc))) <;> (try clear hK K))
                    | (refine wreg (mos := q10_2) hE [6] (by kernel_rfl) ?_; intro K hK; simp [q10_2, hkI, d32, d33, d41, d40, d42]; (repeat' (first | refine hK _ _ ?_ | refine And.intro ?_ ?_ | (intro hc; try subst hc))) <;> (try clear hK K))
                    | (refine wreg (mos := q10_3) hE [4, 5, 7] (by kernel_rfl) ?_; intro K hK; simp [q10_3, hkI, d32, d33, d41, d40, d42]; (repeat' (first | refine hK _ _ ?_ | refine And.intro ?_ ?_ | (intro hc; try subst hc))) <;> (try clear hK K))
                    | (refine wreg (mos := q10_4) hE [4, 5, 7, 8] (by kernel_rfl) ?_; intro K hK; simp [q10_4, hkI, d32, d33, d41, d40, d42]; (repeat' (first | refine hK _ _ ?_ | refine And.intro ?_ ?_ | (intro hc; try subst hc))) <;> (try clear hK K))
                    | (refine wreg (mos := q10_5) hE [4, 5, 7, 8, 9, 10] (by kernel_rfl) ?_; intro K hK; simp [q10_5, hkI, d32, d33, d41, d40, d42]; (repeat' (first | refine hK _ _ ?_ | refine And.intro ?_ ?_ | (intro hc; try subst hc))) <;> (try clear hK K))
                    | (refine wreg (mos := q10_6) hE [4, 5, 7, 9, 10, 40] (by kernel_rfl) ?_; intro K hK; simp [q10_6, hkI, d32, d33, d41, d40, d42]; (repeat' (first | refine hK _ _ ?_ | refine And.intro ?_ ?_ | (intro hc; try subst hc))) <;> (try clear hK K))
                    | (refine wreg (mos := q10_7) hE [6] (by kernel_rfl) ?_; intro K hK; simp [q10_7, hkI, d32, d33, d41, d40, d42]; (repeat' (first | refine hK _ _ ?_ | refine And.intro ?_ ?_ | (intro hc; try subst hc))) <;> (try clear hK K))
                    | (refine wreg (mos := q10_8) hE [4, 5, 7, 9, 42] (by kernel_rfl) ?_; intro K hK; simp [q10_8, hkI, d32, d33, d41, d40, d42]; (repeat' (first | refine hK _ _ ?_ | refine And.intro ?_ ?_ | (intro hc; try subst hc))) <;> (try clear hK K))
                    | (refine wreg (mos := q10_9) hE [6] (by kernel_rfl) ?_; intro K hK; simp [q10_9, hkI, d32, d33, d41, d40, d42]; (repeat' (first | refine hK _ _ ?_ | refine And.intro ?_ ?_ | (intro hc; try subst hc))) <;> (try clear hK K))
                    | (refine wreg (mos := q10_10) hE [4, 5, 7, 9, 53] (by kernel_rfl) ?_; intro K hK; simp [q10_10, hkI, d32, d33, d41, d40, d42]; (repeat' (first | refine hK _ _ ?_ | refine And.intro ?_ ?_ | (intro hc; try subst hc))) <;> (try clear hK K))
                    | (refine wreg (mos := q10_11) hE [6] (by kernel_rfl) ?_; intro K hK; simp [q10_11, hkI, d32, d33, d41, d40, d42]; (repeat' (first | refine hK _ _ ?_ | refine And.intro ?_ ?_ | (intro hc; try subst hc))) <;> (try clear hK K))
                    | (refine wreg (mos := q10_12) hE [4, 5, 7, 9, 54, 55, 56] (by kernel_rfl) ?_; intro K hK; simp [q10_12, hkI, d32, d33, d41, d40, d42]; (repeat' (first | refine hK _ _ ?_ | refine And.intro ?_ ?_ | (intro hc; try subst hc))) <;> (try clear hK K))
                    | (refine wreg (mos := q10_13) hE [4, 5, 7, 9, 54, 55, 56, 57] (by kernel_rfl) ?_; intro K hK; simp [q10_13, hkI, d32, d33, d41, d40, d42]; (repeat' (first | refine hK _ _ ?_ | refine And.intro ?_ ?_ | (intro hc; try subst hc))) <;> (try clear hK K))
                    | (refine wreg (mos := q10_14) hE [4, 5, 7, 9, 11, 12, 54, 55, 56] (by kernel_rfl) ?_; intro K hK; simp [q10_14, hkI, d32, d33, d41, d40, d42]; (repeat' (first | refine hK _ _ ?_ | refine And.intro ?_ ?_ | (intro hc; try subst hc))) <;> (try clear hK K))
                    | (refine wreg (mos := q10_15) hE [4, 5, 7, 9, 11, 12, 54, 55, 56, 63] (by kernel_rfl) ?_; intro K hK; simp [q10_15, hkI, d32, d33, d41, d40, d42]; (repeat' (first | refine hK _ _ ?_ | refine And.intro ?_ ?_ | (intro hc; try subst hc))) <;> (try clear hK K))
                    | (refine wreg (mos := q10_16) hE [4, 5, 7, 9, 11, 12, 54, 55, 56] (by kernel_rfl) ?_; intro K hK; simp [q10_16, hkI, d32, d33, d41, d40, d42]; (repeat' (first | refine hK _ _ ?_ | refine And.intro ?_ ?_ | (intro hc; try subst hc))) <;> (try clear hK K))
                    | (refine wreg (mos := q10_17) hE [4, 5, 7, 9, 11, 12, 54, 55, 56, 67] (by kernel_rfl) ?_; intro K hK; simp [q10_17, hkI, d32, d33, d41, d40, d42]; (repeat' (first | refine hK _ _ ?_ | refine And.intro ?_ ?_ | (intro hc; try subst hc))) <;> (try clear hK K))
                    | (refine wdraw (mos := q10_18) hE mixT c10_18 [4, 5, 7, 9, 11, 12, 54, 55, 56] (by kernel_rfl) ?_; intro K hK; simp [q10_18, c10_18, hkI, d32, d33, d41, d40, d42]; (repeat' (first | refine hK _ _ ?_ | refine And.intro ?_ ?_ | (intro hc; try subst hc))) <;> (try clear hK K))
                    | (refine wdraw (mos := q10_19) hE mixT c10_19 [4, 5, 7, 9, 54, 55, 56, 81] (by kernel_rfl) ?_; intro K hK; simp [q10_19, c10_19, hkI, d32, d33, d41, d40, d42]; (repeat' (first | refine hK _ _ ?_ | refine And.intro ?_ ?_ | (intro hc; try subst hc))) <;> (try clear hK K))
                    | (refine wreg (mos := q10_20) hE [6] (by kernel_rfl) ?_; intro K hK; simp [q10_20, hkI, d32, d33, d41, d40, d42]; (repeat' (first | refine hK _ _ ?_ | refine And.intro ?_ ?_ | (intro hc; try subst hc))) <;> (try clear hK K))
                    | (refine wreg (mos := q10_21) hE [4, 5, 7, 9, 54, 55, 56] (by kernel_rfl) ?_; intro K hK; simp [q10_21, hkI, d32, d33, d41, d40, d42]; (repeat' (first | refine hK _ _ ?_ | refine And.intro ?_ ?_ | (intro hc; try subst hc))) <;> (try clear hK K))
                    | (refine wreg (mos := q10_22) hE [6] (by kernel_rfl) ?_; intro K hK; simp [q10_22, hkI, d32, d33, d41, d40, d42]; (repeat' (first | refine hK _ _ ?_ | refine And.intro ?_ ?_ | (intro hc; try subst hc))) <;> (try clear hK K))
                    | (refine Wm_cond (b := _) (by with_unfolding_all rfl) (fun hc => ?_) (fun hc => ?_) <;> simp at hc <;> (try subst hc)))
                  all_goals first | (simp; done) | (simp at *; omega) | ((try simp); refine Imp.auto (by kernel_rfl) ?_ ?_ <;> simp [nmap, lkp, mkPl, prs, prsL, prT, ddL, idL, NLe, CRenL, CRen, Ren, RenL, NObj.none, CRenLL, mkPlX])
            · unfold m10
              repeat' with_reducible (first
                | refine Wm_seq ?_
                | refine Wm_skip ?_
                | refine Wm_ret ?_
                | refine Wm_block ?_
                | refine Wm_exit ?_
                | refine thenK_normal ?_
                | refine thenK_ret ?_
                | refine thenK_exit ?_
                | refine blockK_normal ?_
                | refine blockK_ret ?_
                | refine blockK_here ?_
                | refine loopK_ret ?_
                | refine loopK_exit ?_
                | refine unK_ret ?_
                | refine unK_exit ?_
                | refine unK_normal ?_
                | refine loopOk_succ ?_
                | refine blockK_exit (by decide) ?_
                | (refine wreg (mos := q10_0) hE [0, 4, 5] (by kernel_rfl) ?_; intro K hK; simp [q10_0, hlt, hlen, hlen2, ha0, ha0', hal, hal', hma, hdat, hrows, hnum, hT0, hCl, d32, d33, d41, d40, d42]; (repeat' (first | refine hK _ _ ?_ | refine And.intro ?_ ?_ | (intro hc; try subst hc))) <;> (try clear hK K))
                | (refine wreg (mos := q10_1) hE [0, 4, 5, 25] (by kernel_rfl) ?_; intro K hK; simp [q10_1, hlt, hlen, hlen2, ha0, ha0', hal, hal', hma, hdat, hrows, hnum, hT0, hCl, d32, d33, d41, d40, d42]; (repeat' (first | refine hK _ _ ?_ | refine And.intro ?_ ?_ | (intro hc; try subst hc))) <;> (try clear hK K))
                | (refine wreg (mos := q10_2) hE [6] (by kernel_rfl) ?_; intro K hK; simp [q10_2, hlt, hlen, hlen2, ha0, ha0', hal, hal', hma, hdat, hrows, hnum, hT0, hCl, d32, d33, d41, d40, d42]; (repeat' (first | refine hK _ _ ?_ | refine And.intro ?_ ?_ | (intro hc; try subst hc))) <;> (try clear hK K))
                | (refine wreg (mos := q10_3) hE [4, 5, 7] (by kernel_rfl) ?_; intro K hK; simp [q10_3, hlt, hlen, hlen2, ha0, ha0', hal, hal', hma, hdat, hrows, hnum, hT0, hCl, d32, d33, d41, d40, d42]; (repeat' (first | refine hK _ _ ?_ | refine And.intro ?_ ?_ | (intro hc; try subst hc))) <;> (try clear hK K))
                | (refine wreg (mos := q10_4) hE [4, 5, 7, 8] (by kernel_rfl) ?_; intro K hK; simp [q10_4, hlt, hlen, hlen2, ha0, ha0', hal, hal', hma, hdat, hrows, hnum, hT0, hCl, d32, d33, d41, d40, d42]; (repeat' (first | refine hK _ _ ?_ | refine And.intro ?_ ?_ | (intro hc; try subst hc))) <;> (try clear hK K))
                | (refine wreg (mos := q10_5) hE [4, 5, 7, 8, 9, 10] (by kernel_rfl) ?_; intro K hK; simp [q10_5, hlt, hlen, hlen2, ha0, ha0', hal, hal', hma, hdat, hrows, hnum, hT0, hCl, d32, d33, d41, d40, d42]; (repeat' (first | refine hK _ _ ?_ | refine And.intro ?_ ?_ | (intro hc; try subst hc))) <;> (try clear hK K))
                | (refine wreg (mos := q10_6) hE [4, 5, 7, 9, 10, 40] (by kernel_rfl) ?_; intro K hK; simp [q10_6, hlt, hlen, hlen2, ha0, ha0', hal, hal', hma, hdat, hrows, hnum, hT0, hCl, d32, d33, d41, d40, d42]; (repeat' (first | refine hK _ _ ?_ | refine And.intro ?_ ?_ | (intro hc; try subst hc))) <;> (try clear hK K))
                | (refine wreg (mos := q10_7) hE [6] (by kernel_rfl) ?_; intro K hK; simp [q10_7, hlt, hlen, hlen2, ha0, ha0', hal, hal', hma, hdat, hrows, hnum, hT0, hCl, d32, d33, d41, d40, d42]; (repeat' (first | refine hK _ _ ?_ | refine And.intro ?_ ?_ | (intro hc; try subst hc))) <;> (try clear hK K))
                | (refine wreg (mos := q10_8) hE [4, 5, 7, 9, 42] (by kernel_rfl) ?_; intro K hK; simp [q10_8, hlt, hlen, hlen2, ha0, ha0', hal, hal', hma, hdat, hrows, hnum, hT0, hCl, d32, d33, d41, d40, d42]; (repeat' (first | refine hK _ _ ?_ | refine And.intro ?_ ?_ | (intro hc; try subst hc))) <;> (try clear hK K))
                | (refine wreg (mos := q10_9) hE [6] (by kernel_rfl) ?_; intro K hK; simp [q10_9, hlt, hlen, hlen2, ha0, ha0', hal, hal', hma, hdat, hrows, hnum, hT0, hCl, d32, d33, d41, d40, d42]; (repeat' (first | refine hK _ _ ?_ | refine And.intro ?_ ?_ | (intro hc; try subst hc))) <;> (try clear hK K))
                | (refine wreg (mos := q10_10) hE [4, 5, 7, 9, 53] (by kernel_rfl) ?_; intro K hK; simp [q10_10, hlt, hlen, hlen2, ha0, ha0', hal, hal', hma, hdat, hrows, hnum, hT0, hCl, d32, d33, d41, d40, d42]; (repeat' (first | refine hK _ _ ?_ | refine And.intro ?_ ?_ | (intro hc; try subst hc))) <;> (try clear hK K))
                | (refine wreg (mos := q10_11) hE [6] (by kernel_rfl) ?_; intro K hK; simp [q10_11, hlt, hlen, hlen2, ha0, ha0', hal, hal', hma, hdat, hrows, hnum, hT0, hCl, d32, d33, d41, d40, d42]; (repeat' (first | refine hK _ _ ?_ | refine And.intro ?_ ?_ | (intro hc; try subst hc))) <;> (try clear hK K))
                | (refine wreg (mos := q10_12) hE [4, 5, 7, 9, 54, 55, 56] (by kernel_rfl) ?_; intro K hK; simp [q10_12, hlt, hlen, hlen2, ha0, ha0', hal, hal', hma, hdat, hrows, hnum, hT0, hCl, d32, d33, d41, d40, d42]; (repeat' (first | refine hK _ _ ?_ | refine And.intro ?_ ?_ | (intro hc; try subst hc))) <;> (try clear hK K))
                | (refine wreg (mos := q10_13) hE [4, 5, 7, 9, 54, 55, 56, 57] (by kernel_rfl) ?_; intro K hK; simp [q10_13, hlt, hlen, hlen2, ha0, ha0', hal, hal', hma, hdat, hrows, hnum, hT0, hCl, d32, d33, d41, d40, d42]; (repeat' (first | refine hK _ _ ?_ | refine And.intro ?_ ?_ | (intro hc; try subst hc))) <;> (try clear hK K))
                | (refine wreg (mos := q10_14) hE [4, 5, 7, 9, 11, 12, 54, 55, 56] (by kernel_rfl) ?_; intro K hK; simp [q10_14, hlt, hlen, hlen2, ha0, ha0', hal, hal', hma, hdat, hrows, hnum, hT0, hCl, d32, d33, d41, d40, d42]; (repeat' (first | refine hK _ _ ?_ | refine And.intro ?_ ?_ | (intro hc; try subst hc))) <;> (try clear hK K))
                | (refine wreg (mos := q10_15) hE [4, 5, 7, 9, 11, 12, 54, 55, 56, 63] (by kernel_rfl) ?_; intro K hK; simp [q10_15, hlt, hlen, hlen2, ha0, ha0', hal, hal', hma, hdat, hrows, hnum, hT0, hCl, d32, d33, d41, d40, d42]; (repeat' (first | refine hK _ _ ?_ | refine And.intro ?_ ?_ | (intro hc; try subst hc))) <;> (try clear hK K))
                | (refine wreg (mos := q10_16) hE [4, 5, 7, 9, 11, 12, 54, 55, 56] (by kernel_rfl) ?_; intro K hK; simp [q10_16, hlt, hlen, hlen2, ha0, ha0', hal, hal', hma, hdat, hrows, hnum, hT0, hCl, d32, d33, d41, d40, d42]; (repeat' (first | refine hK _ _ ?_ | refine And.intro ?_ ?_ | (intro hc; try subst hc))) <;> (try clear hK K))
                | (refine wreg (mos := q10_17) hE [4, 5, 7, 9, 11, 12, 54, 55, 56, 67] (by kernel_rfl) ?_; intro K hK; simp [q10_17, hlt, hlen, hlen2, ha0, ha0', hal, hal', hma, hdat, hrows, hnum, hT0, hCl, d32, d33, d41, d40, d42]; (repeat' (first | refine hK _ _ ?_ | refine And.intro ?_ ?_ | (intro hc; try subst hc))) <;> (try clear hK K))
                | (refine wdraw (mos := q10_18) hE mixT c10_18 [4, 5, 7, 9, 11, 12, 54, 55, 56] (by kernel_rfl) ?_; intro K hK; simp [q10_18, c10_18, hlt, hlen, hlen2, ha0, ha0', hal, hal', hma, hdat, hrows, hnum, hT0, hCl, d32, d33, d41, d40, d42]; (repeat' (first | refine hK _ _ ?_ | refine And.intro ?_ ?_ | (intro hc; try subst hc))) <;> (try clear hK K))
                | (refine wdraw (mos := q10_19) hE mixT c10_19 [4, 5, 7, 9, 54, 55, 56, 81] (by kernel_rfl) ?_; intro K hK; simp [q10_19, c10_19, hlt, hlen, hlen2, ha0, ha0', hal, hal', hma, hdat, hrows, hnum, hT0, hCl, d32, d33, d41, d40, d42]; (repeat' (first | refine hK _ _ ?_ | refine And.intro ?_ ?_ | (intro hc; try subst hc))) <;> (try clear hK K))
                | (refine wreg (mos := q10_20) hE [6] (by kernel_rfl) ?_; intro K hK; simp [q10_20, hlt, hlen, hlen2, ha0, ha0', hal, hal', hma, hdat, hrows, hnum, hT0, hCl, d32, d33, d41, d40, d42]; (repeat' (first | refine hK _ _ ?_ | refine And.intro ?_ ?_ | (intro hc; try subst hc))) <;> (try clear hK K))
                | (refine wreg (mos := q10_21) hE [4, 5, 7, 9, 54, 55, 56] (by kernel_rfl) ?_; intro K hK; simp [q10_21, hlt, hlen, hlen2, ha0, ha0', hal, hal', hma, hdat, hrows, hnum, hT0, hCl, d32, d33, d41, d40, d42]; (repeat' (first | refine hK _ _ ?_ | refine And.intro ?_ ?_ | (intro hc; try subst hc))) <;> (try clear hK K))
                | (refine wreg (mos := q10_22) hE [6] (by kernel_rfl) ?_; intro K hK; simp [q10_22, hlt, hlen, hlen2, ha0, ha0', hal, hal', hma, hdat, hrows, hnum, hT0, hCl, d32, d33, d41, d40, d42]; (repeat' (first | refine hK _ _ ?_ | refine And.intro ?_ ?_ | (intro hc; try subst hc))) <;> (try clear hK K))
                | (refine Wm_cond (b := _) (by with_unfolding_all rfl) (fun hc => ?_) (fun hc => ?_) <;> simp at hc <;> (try subst hc)))
              all_goals first | (simp; done) | (simp at *; omega) | ((try simp); refine Imp.auto (by kernel_rfl) ?_ ?_ <;> simp [nmap, lkp, mkPl, prs, prsL, prT, ddL, idL, NLe, CRenL, CRen, Ren, RenL, NObj.none, CRenLL, mkPlX])
          · have hal' : (els.length : Int) ≤ a := by omega
            unfold m10
            repeat' with_reducible (first
              | refine Wm_seq ?_
              | refine Wm_skip ?_
              | refine Wm_ret ?_
              | refine Wm_block ?_
              | refine Wm_exit ?_
              | refine thenK_normal ?_
              | refine thenK_ret ?_
              | refine thenK_exit ?_
              | refine blockK_normal ?_
              | refine blockK_ret ?_
              | refine blockK_here ?_
              | refine loopK_ret ?_
              | refine loopK_exit ?_
              | refine unK_ret ?_
              | refine unK_exit ?_
              | refine unK_normal ?_
              | refine loopOk_succ ?_
              | refine blockK_exit (by decide) ?_
              | (refine wreg (mos := q10_0) hE [0, 4, 5] (by kernel_rfl) ?_; intro K hK; simp [q10_0, hlt, hlen2, ha0, hal', d32, d33, d41, d40, d42]; (repeat' (first | refine hK _ _ ?_ | refine And.intro ?_ ?_ | (intro hc; try subst hc))) <;> (try clear hK K))
              | (refine wreg (mos := q10_1) hE [0, 4, 5, 25] (by kernel_rfl) ?_; intro K hK; simp [q10_1, hlt, hlen2, ha0, hal', d32, d33, d41, d40, d42]; (repeat' (first | refine hK _ _ ?_ | refine And.intro ?_ ?_ | (intro hc; try subst hc))) <;> (try clear hK K))
              | (refine wreg (mos := q10_2) hE [6] (by kernel_rfl) ?_; intro K hK; simp [q10_2, hlt, hlen2, ha0, hal', d32, d33, d41, d40, d42]; (repeat' (first | refine hK _ _ ?_ | refine And.intro ?_ ?_ | (intro hc; try subst hc))) <;> (try clear hK K))
              | (refine wreg (mos := q10_3) hE [4, 5, 7] (by kernel_rfl) ?_; intro K hK; simp [q10_3, hlt, hlen2, ha0, hal', d32, d33, d41, d40, d42]; (repeat' (first | refine hK _ _ ?_ | refine And.intro ?_ ?_ | (intro hc; try subst hc))) <;> (try clear hK K))
              | (refine wreg (mos := q10_4) hE [4, 5, 7, 8] (by kernel_rfl) ?_; intro K hK; simp [q10_4, hlt, hlen2, ha0, hal', d32, d33, d41, d40, d42]; (repeat' (first | refine hK _ _ ?_ | refine And.intro ?_ ?_ | (intro hc; try subst hc))) <;> (try clear hK K))
              | (refine wreg (mos := q10_5) hE [4, 5, 7, 8, 9, 10] (by kernel_rfl) ?_; intro K hK; simp [q10_5, hlt, hlen2, ha0, hal', d32, d33, d41, d40, d42]; (repeat' (first | refine hK _ _ ?_ | refine And.intro ?_ ?_ | (intro hc; try subst hc))) <;> (try clear hK K))
              | (refine wreg (mos := q10_6) hE [4, 5, 7, 9, 10, 40] (by kernel_rfl) ?_; intro K hK; simp [q10_6, hlt, hlen2, ha0, hal', d32, d33, d41, d40, d42]; (repeat' (first | refine hK _ _ ?_ | refine And.intro ?_ ?_ | (intro hc; try subst hc))) <;> (try clear hK K))
              | (refine wreg (mos := q10_7) hE [6] (by kernel_rfl) ?_; intro K hK; simp [q10_7, hlt, hlen2, ha0, hal', d32, d33, d41, d40, d42]; (repeat' (first | refine hK _ _ ?_ | refine And.intro ?_ ?_ | (intro hc; try subst hc))) <;> (try clear hK K))
              | (refine wreg (mos := q10_8) hE [4, 5, 7, 9, 42] (by kernel_rfl) ?_; intro K hK; simp [q10_8, hlt, hlen2, ha0, hal', d32, d33, d41, d40, d42]; (repeat' (first | refine hK _ _ ?_ | refine And.intro ?_ ?_ | (intro hc; try subst hc))) <;> (try clear hK K))
              | (refine wreg (mos := q10_9) hE [6] (by kernel_rfl) ?_; intro K hK; simp [q10_9, hlt, hlen2, ha0, hal', d32, d33, d41, d40, d42]; (repeat' (first | refine hK _ _ ?_ | refine And.intro ?_ ?_ | (intro hc; try subst hc))) <;> (try clear hK K))
              | (refine wreg (mos := q10_10) hE [4, 5, 7, 9, 53] (by kernel_rfl) ?_; intro K hK; simp [q10_10, hlt, hlen2, ha0, hal', d32, d33, d41, d40, d42]; (repeat' (first | refine hK _ _ ?_ | refine And.intro ?_ ?_ | (intro hc; try subst hc))) <;> (try clear hK K))
              | (refine wreg (mos := q10_11) hE [6] (by kernel_rfl) ?_; intro K hK; simp [q10_11, hlt, hlen2, ha0, hal', d32, d33, d41, d40, d42]; (repeat' (first | refine hK _ _ ?_ | refine And.intro ?_ ?_ | (intro hc; try subst hc))) <;> (try clear hK K))
              | (refine wreg (mos := q10_12) hE [4, 5, 7, 9, 54, 55, 56] (by kernel_rfl) ?_; intro K hK; simp [q10_12, hlt, hlen2, ha0, hal', d32, d33, d41, d40, d42]; (repeat' (first | refine hK _ _ ?_ | refine And.intro ?_ ?_ | (intro hc; try subst hc))) <;> (try clear hK K))
              | (refine wreg (mos := q10_13) hE [4, 5, 7, 9, 54, 55, 56, 57] (by kernel_rfl) ?_; intro K hK; simp [q10_13, hlt, hlen2, ha0, hal', d32, d33, d41, d40, d42]; (repeat' (first | refine hK _ _ ?_ | refine And.intro ?_ ?_ | (intro hc; try subst hc))) <;> (try clear hK K))
              | (refine wreg (mos := q10_14) hE [4, 5, 7, 9, 11, 12, 54, 55, 56] (by kernel_rfl) ?_; intro K hK; simp [q10_14, hlt, hlen2, ha0, hal', d32, d33, d41, d40, d42]; (repeat' (first | refine hK _ _ ?_ | refine And.intro ?_ ?_ | (intro hc; try subst hc))) <;> (try clear hK K))
              | (refine wreg (mos := q10_15) hE [4, 5, 7, 9, 11, 12, 54, 55, 56, 63] (by kernel_rfl) ?_; intro K hK; simp [q10_15, hlt, hlen2, ha0, hal', d32, d33, d41, d40, d42]; (repeat' (first | refine hK _ _ ?_ | refine And.intro ?_ ?_ | (intro hc; try subst hc))) <;> (try clear hK K))
              | (refine wreg (mos := q10_16) hE [4, 5, 7, 9, 11, 12, 54, 55, 56] (by kernel_rfl) ?_; intro K hK; simp [q10_16, hlt, hlen2, ha0, hal', d32, d33, d41, d40, d42]; (repeat' (first | refine hK _ _ ?_ | refine And.intro ?_ ?_ | (intro hc; try subst hc))) <;> (try clear hK K))
              | (refine wreg (mos := q10_17) hE [4, 5, 7, 9, 11, 12, 54, 55, 56, 67] (by kernel_rfl) ?_; intro K hK; simp [q10_17, hlt, hlen2, ha0, hal', d32, d33, d41, d40, d42]; (repeat' (first | refine hK _ _ ?_ | refine And.intro ?_ ?_ | (intro hc; try subst hc))) <;> (try clear hK K))
              | (refine wdraw (mos := q10_18) hE mixT c10_18 [4, 5, 7, 9, 11, 12, 54, 55, 56] (by kernel_rfl) ?_; intro K hK; simp [q10_18, c10_18, hlt, hlen2, ha0, hal', d32, d33, d41, d40, d42]; (repeat' (first | refine hK _ _ ?_ | refine And.intro ?_ ?_ | (intro hc; try subst hc))) <;> (try clear hK K))
              | (refine wdraw (mos := q10_19) hE mixT c10_19 [4, 5, 7, 9, 54, 55, 56, 81] (by kernel_rfl) ?_; intro K hK; simp [q10_19, c10_19, hlt, hlen2, ha0, hal', d32, d33, d41, d40, d42]; (repeat' (first | refine hK _ _ ?_ | refine And.intro ?_ ?_ | (intro hc; try subst hc))) <;> (try clear hK K))
              | (refine wreg (mos := q10_20) hE [6] (by kernel_rfl) ?_; intro K hK; simp [q10_20, hlt, hlen2, ha0, hal', d32, d33, d41, d40, d42]; (repeat' (first | refine hK _ _ ?_ | refine And.intro ?_ ?_ | (intro hc; try subst hc))) <;> (try clear hK K))
              | (refine wreg (mos := q10_21) hE [4, 5, 7, 9, 54, 55, 56] (by kernel_rfl) ?_; intro K hK; simp [q10_21, hlt, hlen2, ha0, hal', d32, d33, d41, d40, d42]; (repeat' (first | refine hK _ _ ?_ | refine And.intro ?_ ?_ | (intro hc; try subst hc))) <;> (try clear hK K))
              | (refine wreg (mos := q10_22) hE [6] (by kernel_rfl) ?_; intro K hK; simp [q10_22, hlt, hlen2, ha0, hal', d32, d33, d41, d40, d42]; (repeat' (first | refine hK _ _ ?_ | refine And.intro ?_ ?_ | (intro hc; try subst hc))) <;> (try clear hK K))
              | (refine Wm_cond (b := _) (by with_unfolding_all rfl) (fun hc => ?_) (fun hc => ?_) <;> simp at hc <;> (try subst hc)))
            all_goals first | (simp; done) | (simp at *; omega) | ((try simp); refine Imp.auto (by kernel_rfl) ?_ ?_ <;> simp [nmap, lkp, mkPl, prs, prsL, prT, ddL, idL, NLe, CRenL, CRen, Ren, RenL, NObj.none, CRenLL, mkPlX])
    · cases h
  · cases h
end Go.W
