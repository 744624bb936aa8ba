import Derived.Test.YthehmmodkhoieaaWsB
import Derived.Test.YthehmmodkhoieaaWsP
namespace Go.W
open Go.Proofs
set_option linter.unusedSimpArgs false
set_option linter.unusedVariables false
set_option maxHeartbeats 8000000
attribute [local irreducible] Wm

theorem rows_del {els : List (List AV)} (h : els.all row12 = true) (fr n : Nat) : (delZ els fr n).all row12 = true := by
  unfold delZ
  rw [List.all_append, rows_take h, rows_drop h]; rfl
theorem rows_sub {a b : List (List AV)} (h : a.Sublist b) (hb : b.all row12 = true) : a.all row12 = true :=
  List.all_eq_true.2 fun c hc => List.all_eq_true.1 hb c (h.subset hc)

def d82 : List AV → List NObj → Option AV
  | [.sl (.top 0) 0 l, .int .i64 f, .int .i64 n], [.view 0 12 els] => if l = els.length ∧ els.all row12 = true ∧ els.length ≤ 200000 ∧ 0 ≤ f ∧ f ≤ els.length ∧ 0 ≤ n ∧ n ≤ 200000 then some (.os 0 12 (delZ els f.toNat n.toNat)) else none
  | _, _ => none

theorem ok82 : ROk d82 := by
  intro xs os r h
  unfold d82 at h
  (repeat' (split at h)) <;> first | (cases h; done) | ((rename_i hc; injection h with h; subst h; simp [rows_dat (rows_del hc.2.1 _ _)]))
theorem s82 : Sound Try.prog 82 (rdS d82 ok82) := by
  refine rd_sound Try.func82 nm82 rc82 rv82 ok82 fun xs os r h vs ρ0 hvs => ⟨xs, ?_, fun _ h => h, fun w0 S hS => ?_⟩
  · unfold d82 at h
    (repeat' (split at h)) <;> first | (cases h; done) | exact Nat.le_of_ble_eq_true rfl
  unfold d82 at h
  split at h
  · split at h
    · rename_i l f n els hcond
      injection h with h
      subst h
      have hE : SoundAll Try.prog (EL [(95, rdS d95 ok95)]) := EL_sound (by simp only [List.mem_cons, List.not_mem_nil, or_false, forall_eq_or_imp, forall_eq]; exact s95)
      obtain ⟨rfl, hrows, hlen, hf0, hf1, hn0, hnn⟩ := hcond
      obtain ⟨a, rfl⟩ : ∃ a : Nat, f = (a : Int) := ⟨f.toNat, by omega⟩
      obtain ⟨b, rfl⟩ : ∃ b : Nat, n = (b : Int) := ⟨n.toNat, by omega⟩
      have hdat := rows_dat hrows
      have w1 : IntKind.wrap .i64 ((a : Int) + b) = (a : Int) + b := wrap_in (by omega) (by omega)
      have ha : a ≤ els.length := by omega
      have hdr := rows_del hrows a b
      have hT0 := rows_t0 hdr
      have hCl := rows_cl hdr
      have hd1 := datLL_take hdat a
      have hr1 := rows_take hrows a
      have hm1 : min a els.length = a := Nat.min_eq_left ha
      have hl1 : a ≤ 200000 := by omega
      by_cases hlt : (els.length : Int) < (a : Int) + b
      · have hi1 : (0 : Int) ≤ els.length := by omega
        have hre : delZ els a b = els.take a := by
          unfold delZ
          rw [List.drop_of_length_le (by omega), List.append_nil]
        rw [hre] at hT0 hCl
        unfold m82
        repeat' with_reducible (first
          | refine Wm_seq ?_
          | refine Wm_skip ?_
          | refine Wm_ret ?_
          | refine Wm_block ?_
          | refine Wm_exit ?_
          | refine thenK_normal ?_
          | refine thenK_ret ?_
          | refine thenK_exit ?_
          | refine blockK_normal ?_
          | refine blockK_ret ?_
          | refine blockK_here ?_
          | refine loopK_ret ?_
          | refine loopK_exit ?_
          | refine unK_ret ?_
          | refine unK_exit ?_
          | refine unK_normal ?_
          | refine loopOk_succ ?_
          | refine blockK_exit (by decide) ?_
          | (refine wreg (mos := q82_0) hE [0, 1, 2] (by kernel_rfl) ?_; intro K hK; simp [q82_0, w1, hlt, hi1, hdat, hd1, hr1, hm1, hl1, ha, hf1, hre, d95]; (repeat' (first | refine hK _ _ ?_ | refine And.intro ?_ ?_ | (intro hc; try subst hc))) <;> (try clear hK K))
          | (refine wdraw (mos := q82_1) hE mixT c82_1 [6] (by kernel_rfl) ?_; intro K hK; simp [q82_1, c82_1, w1, hlt, hi1, hdat, hd1, hr1, hm1, hl1, ha, hf1, hre, d95]; (repeat' (first | refine hK _ _ ?_ | refine And.intro ?_ ?_ | (intro hc; try subst hc))) <;> (try clear hK K))
          | (refine Wm_cond (b := _) (by with_unfolding_all rfl) (fun hc => ?_) (fun hc => ?_) <;> simp at hc <;> (try subst hc)))
        all_goals first | (simp; done) | (simp at *; omega) | ((try simp[hT0, hCl, hre, hm1]); refine Imp.auto (by kernel_rfl) ?_ ?_ <;> simp [nmap, lkp, mkPl, prs, prsL, prT, ddL, idL, NLe, CRenL, CRen, Ren, RenL, NObj.none, hT0, hCl, hre, hm1])
      · have hi1 : (0 : Int) ≤ (a : Int) + b := by omega
        have hi2 : (a : Int) + b ≤ els.length := by omega
        have hi3 : a + b ≤ els.length := by omega
        have e2 : ((a : Int) + b).toNat = a + b := by omega
        have htd : (els.drop (a + b)).take (els.length - (a + b)) = els.drop (a + b) := List.take_of_length_le (by rw [List.length_drop]; omega)
        have hd2 := datLL_drop hdat (a + b)
        have hr2 := rows_drop hrows (a + b)
        have hl2 : els.length - (a + b) ≤ 200000 := by omega
        have hi4 : a + b + (els.length - (a + b)) ≤ els.length := by omega
        have hre : delZ els a b = els.take a ++ els.drop (a + b) := rfl
        rw [hre] at hT0 hCl
        unfold m82
        repeat' with_reducible (first
          | refine Wm_seq ?_
          | refine Wm_skip ?_
          | refine Wm_ret ?_
          | refine Wm_block ?_
          | refine Wm_exit ?_
          | refine thenK_normal ?_
          | refine thenK_ret ?_
          | refine thenK_exit ?_
          | refine blockK_normal ?_
          | refine blockK_ret ?_
          | refine blockK_here ?_
          | refine loopK_ret ?_
          | refine loopK_exit ?_
          | refine unK_ret ?_
          | refine unK_exit ?_
          | refine unK_normal ?_
          | refine loopOk_succ ?_
          | refine blockK_exit (by decide) ?_
          | (refine wreg (mos := q82_0) hE [0, 1, 2] (by kernel_rfl) ?_; intro K hK; simp [q82_0, w1, hlt, hi1, hi2, hi3, hi4, e2, htd, hdat, hd1, hd2, hr1, hr2, hm1, hl1, hl2, ha, hf1, hre, d95]; (repeat' (first | refine hK _ _ ?_ | refine And.intro ?_ ?_ | (intro hc; try subst hc))) <;> (try clear hK K))
          | (refine wdraw (mos := q82_1) hE mixT c82_1 [6] (by kernel_rfl) ?_; intro K hK; simp [q82_1, c82_1, w1, hlt, hi1, hi2, hi3, hi4, e2, htd, hdat, hd1, hd2, hr1, hr2, hm1, hl1, hl2, ha, hf1, hre, d95]; (repeat' (first | refine hK _ _ ?_ | refine And.intro ?_ ?_ | (intro hc; try subst hc))) <;> (try clear hK K))
          | (refine Wm_cond (b := _) (by with_unfolding_all rfl) (fun hc => ?_) (fun hc => ?_) <;> simp at hc <;> (try subst hc)))
        all_goals first | (simp; done) | (simp at *; omega) | ((try simp[hT0, hCl, hre, hm1]); refine Imp.auto (by kernel_rfl) ?_ ?_ <;> simp [nmap, lkp, mkPl, prs, prsL, prT, ddL, idL, NLe, CRenL, CRen, Ren, RenL, NObj.none, hT0, hCl, hre, hm1])
    · cases h
  · cases h
end Go.W
