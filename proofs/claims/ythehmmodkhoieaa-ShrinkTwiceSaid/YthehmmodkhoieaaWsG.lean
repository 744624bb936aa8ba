import Derived.Test.YthehmmodkhoieaaWsF
namespace Go.W
open Go.Proofs
set_option linter.unusedSimpArgs false
set_option linter.unusedVariables false
set_option maxHeartbeats 8000000
attribute [local irreducible] Wm

theorem stepS_mono {kind n n' : Int} (h : n ≤ n') (c : List AV) : stepS kind n c ≤ stepS kind n' c := by
  unfold stepS
  split
  · split
    · split
      · split <;> omega
      · omega
    · exact h
  · exact h

theorem fold_mono (kind : Int) {a b : List (List AV)} (h : a.Sublist b) : ∀ {n n' : Int}, n ≤ n' → a.foldl (stepS kind) n ≤ b.foldl (stepS kind) n' := by
  induction h with
  | slnil => intro n n' h; exact h
  | cons c _ ih => intro n n' h; exact ih (by have := (stepS_in (kind := kind) (n := n') c).1; omega)
  | cons_cons c _ ih => intro n n' h; exact ih (stepS_mono h c)

theorem sumZ_mono (kind : Int) {a b : List (List AV)} (h : a.Sublist b) : sumZ a kind ≤ sumZ b kind := fold_mono kind h (Int.le_refl _)

theorem delZ_anti {α : Type} (l : List α) (k n : Nat) (hn : 1 ≤ n) : (delZ l k n).Sublist (delZ l k 1) := by
  unfold delZ
  exact List.Sublist.append (List.Sublist.refl _) (List.drop_sublist_drop_left _ (by omega))

theorem halvZ_still {α : Type} {p : List α → Bool} {l : List α} (h : ∀ k n, 1 ≤ n → k < l.length → p (delZ l k n) = false) : ∀ (f n : Nat), halvZ p f n l = l
  | 0, n => rfl
  | f + 1, n => by
    simp only [halvZ]
    split
    · rename_i hn
      have e : pass1 p n l = (false, l) := passZ_still n (by omega) _ _ _ _ (fun k hk => h k n (by omega) hk)
      rw [e]
      exact halvZ_still h f _
    · rfl

theorem shrinkZ_still {α : Type} {p : List α → Bool} {l : List α} (h : ∀ k n, 1 ≤ n → k < l.length → p (delZ l k n) = false) : shrinkZ p l = l := by
  unfold shrinkZ
  rw [halvZ_still h]
  exact settleZ_still _ _ (fun k hk => h k 1 (Nat.le_refl _) hk)

theorem shrink_twice (kind m : Int) (els : List (List AV)) : shrinkZ (fun els => decide (m ≤ sumZ els kind)) (shrinkZ (fun els => decide (m ≤ sumZ els kind)) els) = shrinkZ (fun els => decide (m ≤ sumZ els kind)) els := by
  refine shrinkZ_still fun k n hn hk => ?_
  have h1 := shrinkZ_done (p := fun els => decide (m ≤ sumZ els kind)) els k hk
  simp only [decide_eq_false_iff_not] at h1 ⊢
  have h2 := sumZ_mono kind (delZ_anti (shrinkZ (fun els => decide (m ≤ sumZ els kind)) els) k n hn)
  omega

def d8 : List AV → List NObj → Option AV
  | [.sl (.top 0) 0 m, .int .i64 kind, .int .i64 n], [.view 0 12 els] => if m = els.length ∧ els.all row12 = true then some (.bool true) else none
  | _, _ => none
def d9 : List AV → List NObj → Option AV
  | [.sl (.top 0) 0 m, .int .i64 kind, .int .i64 n], [.view 0 12 els] => if m = els.length ∧ els.all row12 = true then some (.bool true) else none
  | _, _ => none

def I8 (kind n : Int) (els X : List (List AV)) (k : Nat) : St := ⟨[(7, .sl (.top 3) 0 els.length), (8, .fn 34 [.ptr (.top 1) 0 0, .ptr (.top 2) 0 0]), (9, .sl (.top 4) 0 X.length), (50, .int .i64 X.length), (51, .int .i64 k)], [(1, .cells 0 [.int .i64 kind]), (2, .cells 0 [.int .i64 n]), (3, .arr 0 12 els), (4, .arr 0 12 X)], 5⟩
def I9 (X : List (List AV)) (k : Nat) : St := ⟨[(8, .sl (.top 1) 0 X.length), (10, .sl (.top 2) 0 X.length), (44, .int .i64 X.length), (45, .int .i64 k)], [(1, .arr 0 12 X), (2, .arr 0 12 X)], 3⟩

theorem ok8 : ROk d8 := by
  intro xs os r h
  unfold d8 at h
  (repeat' (split at h)) <;> first | (cases h; done) | (injection h with h; subst h; simp)
theorem s8 : Sound Try.prog 8 (rdS d8 ok8) := by
  refine rd_sound Try.func8 nm8 rc8 rv8 ok8 fun xs os r h vs ρ0 hvs => ⟨xs, ?_, fun _ h => h, fun w0 S hS => ?_⟩
  · unfold d8 at h
    (repeat' (split at h)) <;> first | (cases h; done) | exact Nat.le_of_ble_eq_true rfl
  unfold d8 at h
  split at h
  · split at h
    · rename_i m kind n els hcond
      injection h with h
      subst h
      have hE : SoundAll Try.prog (EL [(32, rdS d32 ok32), (33, nestS [(12, false)] d33 ok33), (36, rdS d36 ok36), (34, rdS d34 ok34), (37, rdS d37 ok37), (38, rdS d38 ok38)]) := EL_sound (by simp only [List.mem_cons, List.not_mem_nil, or_false, forall_eq_or_imp, forall_eq]; exact ⟨s32, s33, s36, s34, s37, s38⟩)
      obtain ⟨rfl, hrows⟩ := hcond
      by_cases hlt : (60 : Int) < (els.length : Int)
      · unfold m8
        repeat' with_reducible (first
          | refine Wm_seq ?_
          | refine Wm_skip ?_
          | refine Wm_ret ?_
          | refine Wm_block ?_
          | refine Wm_exit ?_
          | refine thenK_normal ?_
          | refine thenK_ret ?_
          | refine thenK_exit ?_
          | refine blockK_normal ?_
          | refine blockK_ret ?_
          | refine blockK_here ?_
          | refine loopK_ret ?_
          | refine loopK_exit ?_
          | refine unK_ret ?_
          | refine unK_exit ?_
          | refine unK_normal ?_
          | refine loopOk_succ ?_
          | refine blockK_exit (by decide) ?_
          | (refine wreg (mos := q8_0) hE [0, 4, 5] (by kernel_rfl) ?_; intro K hK; simp [q8_0, hlt, d32, d33, d36, d34, d37, d38]; (repeat' (first | refine hK _ _ ?_ | refine And.intro ?_ ?_ | (intro hc; try subst hc))) <;> (try clear hK K))
          | (refine wreg (mos := q8_1) hE [0, 4, 5, 16] (by kernel_rfl) ?_; intro K hK; simp [q8_1, hlt, d32, d33, d36, d34, d37, d38]; (repeat' (first | refine hK _ _ ?_ | refine And.intro ?_ ?_ | (intro hc; try subst hc))) <;> (try clear hK K))
          | (refine wreg (mos := q8_2) hE [6] (by kernel_rfl) ?_; intro K hK; simp [q8_2, hlt, d32, d33, d36, d34, d37, d38]; (repeat' (first | refine hK _ _ ?_ | refine And.intro ?_ ?_ | (intro hc; try subst hc))) <;> (try clear hK K))
          | (refine wreg (mos := q8_3) hE [4, 5, 7] (by kernel_rfl) ?_; intro K hK; simp [q8_3, hlt, d32, d33, d36, d34, d37, d38]; (repeat' (first | refine hK _ _ ?_ | refine And.intro ?_ ?_ | (intro hc; try subst hc))) <;> (try clear hK K))
          | (refine wreg (mos := q8_4) hE [7, 8] (by kernel_rfl) ?_; intro K hK; simp [q8_4, hlt, d32, d33, d36, d34, d37, d38]; (repeat' (first | refine hK _ _ ?_ | refine And.intro ?_ ?_ | (intro hc; try subst hc))) <;> (try clear hK K))
          | (refine wreg (mos := q8_5) hE [7, 8, 9, 10] (by kernel_rfl) ?_; intro K hK; simp [q8_5, hlt, d32, d33, d36, d34, d37, d38]; (repeat' (first | refine hK _ _ ?_ | refine And.intro ?_ ?_ | (intro hc; try subst hc))) <;> (try clear hK K))
          | (refine wreg (mos := q8_6) hE [7, 8, 9, 10, 31] (by kernel_rfl) ?_; intro K hK; simp [q8_6, hlt, d32, d33, d36, d34, d37, d38]; (repeat' (first | refine hK _ _ ?_ | refine And.intro ?_ ?_ | (intro hc; try subst hc))) <;> (try clear hK K))
          | (refine wreg (mos := q8_7) hE [6] (by kernel_rfl) ?_; intro K hK; simp [q8_7, hlt, d32, d33, d36, d34, d37, d38]; (repeat' (first | refine hK _ _ ?_ | refine And.intro ?_ ?_ | (intro hc; try subst hc))) <;> (try clear hK K))
          | (refine wreg (mos := q8_8) hE [7, 8, 9, 33] (by kernel_rfl) ?_; intro K hK; simp [q8_8, hlt, d32, d33, d36, d34, d37, d38]; (repeat' (first | refine hK _ _ ?_ | refine And.intro ?_ ?_ | (intro hc; try subst hc))) <;> (try clear hK K))
          | (refine wreg (mos := q8_9) hE [9, 12] (by kernel_rfl) ?_; intro K hK; simp [q8_9, hlt, d32, d33, d36, d34, d37, d38]; (repeat' (first | refine hK _ _ ?_ | refine And.intro ?_ ?_ | (intro hc; try subst hc))) <;> (try clear hK K))
          | (refine wreg (mos := q8_10) hE [6] (by kernel_rfl) ?_; intro K hK; simp [q8_10, hlt, d32, d33, d36, d34, d37, d38]; (repeat' (first | refine hK _ _ ?_ | refine And.intro ?_ ?_ | (intro hc; try subst hc))) <;> (try clear hK K))
          | (refine wreg (mos := q8_11) hE [7, 8, 9, 50, 51] (by kernel_rfl) ?_; intro K hK; simp [q8_11, hlt, d32, d33, d36, d34, d37, d38]; (repeat' (first | refine hK _ _ ?_ | refine And.intro ?_ ?_ | (intro hc; try subst hc))) <;> (try clear hK K))
          | (refine wreg (mos := q8_12) hE [7, 8, 9, 50, 51, 52] (by kernel_rfl) ?_; intro K hK; simp [q8_12, hlt, d32, d33, d36, d34, d37, d38]; (repeat' (first | refine hK _ _ ?_ | refine And.intro ?_ ?_ | (intro hc; try subst hc))) <;> (try clear hK K))
          | (refine wreg (mos := q8_13) hE [7, 8, 9, 13, 50, 51] (by kernel_rfl) ?_; intro K hK; simp [q8_13, hlt, d32, d33, d36, d34, d37, d38]; (repeat' (first | refine hK _ _ ?_ | refine And.intro ?_ ?_ | (intro hc; try subst hc))) <;> (try clear hK K))
          | (refine wreg (mos := q8_14) hE [7, 8, 9, 50, 51, 58] (by kernel_rfl) ?_; intro K hK; simp [q8_14, hlt, d32, d33, d36, d34, d37, d38]; (repeat' (first | refine hK _ _ ?_ | refine And.intro ?_ ?_ | (intro hc; try subst hc))) <;> (try clear hK K))
          | (refine wreg (mos := q8_15) hE [6] (by kernel_rfl) ?_; intro K hK; simp [q8_15, hlt, d32, d33, d36, d34, d37, d38]; (repeat' (first | refine hK _ _ ?_ | refine And.intro ?_ ?_ | (intro hc; try subst hc))) <;> (try clear hK K))
          | (refine wreg (mos := q8_16) hE [7, 8, 9, 50, 51] (by kernel_rfl) ?_; intro K hK; simp [q8_16, hlt, d32, d33, d36, d34, d37, d38]; (repeat' (first | refine hK _ _ ?_ | refine And.intro ?_ ?_ | (intro hc; try subst hc))) <;> (try clear hK K))
          | (refine wreg (mos := q8_17) hE [6] (by kernel_rfl) ?_; intro K hK; simp [q8_17, hlt, d32, d33, d36, d34, d37, d38]; (repeat' (first | refine hK _ _ ?_ | refine And.intro ?_ ?_ | (intro hc; try subst hc))) <;> (try clear hK K))
          | (refine Wm_cond (b := _) (by with_unfolding_all rfl) (fun hc => ?_) (fun hc => ?_) <;> simp at hc <;> (try subst hc)))
        all_goals first | (simp; done) | (simp at *; omega) | ((try simp); refine Imp.auto (by kernel_rfl) ?_ ?_ <;> simp [nmap, lkp, mkPl, prs, prsL, prT, ddL, idL, NLe, CRenL, CRen, Ren, RenL, NObj.none])
      · have hlen : els.length ≤ 200000 := by omega
        have hlen2 : ¬ 60 < els.length := by omega
        have hdat := rows_dat hrows
        have hT0 := rows_t0 hrows
        have hCl := rows_cl hrows
        have hp : predZ 34 [.ptr (.top 1) 0 0, .ptr (.top 2) 0 0] [.view 0 1 [[.int .i64 kind]], .view 0 1 [[.int .i64 n]]] = some fun els => decide (n ≤ sumZ els kind) := rfl
        have htw := shrink_twice kind n els
        obtain ⟨p, hpe⟩ : ∃ p, (fun els => decide (n ≤ sumZ els kind)) = p := ⟨_, rfl⟩
        rw [hpe] at hp htw
        have hsub := shrinkZ_sub (p := p) els
        have hdone := shrinkZ_done (p := p) els
        have hhold := fun h => shrinkZ_holds (p := p) (l := els) h
        have hnf : Value.oneCell' .nilFunc = true := rfl
        have hpx : ∀ X, decide (n ≤ sumZ X kind) = p X := fun X => congrFun hpe X
        obtain ⟨X, hX⟩ : ∃ X, shrinkZ p els = X := ⟨_, rfl⟩
        rw [hX] at hsub hdone hhold htw
        have hXr : X.all row12 = true := rows_sub hsub hrows
        have hXl : X.length ≤ els.length := hsub.length_le
        have hXl2 : X.length ≤ 200000 := by omega
        have hXd := rows_dat hXr
        have hT1 := rows_t0 hXr
        have hC1 := rows_cl hXr
        have hscan := scanR_sub hXr hrows hsub
        clear hpe
        by_cases hpe : p els = true
        · have hpX := hhold hpe
          unfold m8
          repeat' with_reducible (first
            | refine Wm_seq ?_
            | refine Wm_skip ?_
            | refine Wm_ret ?_
            | refine Wm_block ?_
            | refine Wm_exit ?_
            | refine thenK_normal ?_
            | refine thenK_ret ?_
            | refine thenK_exit ?_
            | refine blockK_normal ?_
            | refine blockK_ret ?_
            | refine blockK_here ?_
            | refine loopK_ret ?_
            | refine loopK_exit ?_
            | refine unK_ret ?_
            | refine unK_exit ?_
            | refine unK_normal ?_
            | refine loopOk_succ ?_
            | refine blockK_exit (by decide) ?_
            | (refine wreg (mos := q8_0) hE [0, 4, 5] (by kernel_rfl) ?_; intro K hK; simp [q8_0, hlt, hlen, hlen2, hdat, hrows, hp, hpx, hpe, hX, hXd, hXr, hXl2, hpX, hT0, hCl, hT1, hC1, d32, d33, d36, d34, d37, d38]; (repeat' (first | refine hK _ _ ?_ | refine And.intro ?_ ?_ | (intro hc; try subst hc))) <;> (try clear hK K))
            | (refine wreg (mos := q8_1) hE [0, 4, 5, 16] (by kernel_rfl) ?_; intro K hK; simp [q8_1, hlt, hlen, hlen2, hdat, hrows, hp, hpx, hpe, hX, hXd, hXr, hXl2, hpX, hT0, hCl, hT1, hC1, d32, d33, d36, d34, d37, d38]; (repeat' (first | refine hK _ _ ?_ | refine And.intro ?_ ?_ | (intro hc; try subst hc))) <;> (try clear hK K))
            | (refine wreg (mos := q8_2) hE [6] (by kernel_rfl) ?_; intro K hK; simp [q8_2, hlt, hlen, hlen2, hdat, hrows, hp, hpx, hpe, hX, hXd, hXr, hXl2, hpX, hT0, hCl, hT1, hC1, d32, d33, d36, d34, d37, d38]; (repeat' (first | refine hK _ _ ?_ | refine And.intro ?_ ?_ | (intro hc; try subst hc))) <;> (try clear hK K))
            | (refine wreg (mos := q8_3) hE [4, 5, 7] (by kernel_rfl) ?_; intro K hK; simp [q8_3, hlt, hlen, hlen2, hdat, hrows, hp, hpx, hpe, hX, hXd, hXr, hXl2, hpX, hT0, hCl, hT1, hC1, d32, d33, d36, d34, d37, d38]; (repeat' (first | refine hK _ _ ?_ | refine And.intro ?_ ?_ | (intro hc; try subst hc))) <;> (try clear hK K))
            | (refine wreg (mos := q8_4) hE [7, 8] (by kernel_rfl) ?_; intro K hK; simp [q8_4, hlt, hlen, hlen2, hdat, hrows, hp, hpx, hpe, hX, hXd, hXr, hXl2, hpX, hT0, hCl, hT1, hC1, d32, d33, d36, d34, d37, d38]; (repeat' (first | refine hK _ _ ?_ | refine And.intro ?_ ?_ | (intro hc; try subst hc))) <;> (try clear hK K))
            | (refine wreg (mos := q8_5) hE [7, 8, 9, 10] (by kernel_rfl) ?_; intro K hK; simp [q8_5, hlt, hlen, hlen2, hdat, hrows, hp, hpx, hpe, hX, hXd, hXr, hXl2, hpX, hT0, hCl, hT1, hC1, d32, d33, d36, d34, d37, d38]; (repeat' (first | refine hK _ _ ?_ | refine And.intro ?_ ?_ | (intro hc; try subst hc))) <;> (try clear hK K))
            | (refine wreg (mos := q8_6) hE [7, 8, 9, 10, 31] (by kernel_rfl) ?_; intro K hK; simp [q8_6, hlt, hlen, hlen2, hdat, hrows, hp, hpx, hpe, hX, hXd, hXr, hXl2, hpX, hT0, hCl, hT1, hC1, d32, d33, d36, d34, d37, d38]; (repeat' (first | refine hK _ _ ?_ | refine And.intro ?_ ?_ | (intro hc; try subst hc))) <;> (try clear hK K))
            | (refine wreg (mos := q8_7) hE [6] (by kernel_rfl) ?_; intro K hK; simp [q8_7, hlt, hlen, hlen2, hdat, hrows, hp, hpx, hpe, hX, hXd, hXr, hXl2, hpX, hT0, hCl, hT1, hC1, d32, d33, d36, d34, d37, d38]; (repeat' (first | refine hK _ _ ?_ | refine And.intro ?_ ?_ | (intro hc; try subst hc))) <;> (try clear hK K))
            | (refine wreg (mos := q8_8) hE [7, 8, 9, 33] (by kernel_rfl) ?_; intro K hK; simp [q8_8, hlt, hlen, hlen2, hdat, hrows, hp, hpx, hpe, hX, hXd, hXr, hXl2, hpX, hT0, hCl, hT1, hC1, d32, d33, d36, d34, d37, d38]; (repeat' (first | refine hK _ _ ?_ | refine And.intro ?_ ?_ | (intro hc; try subst hc))) <;> (try clear hK K))
            | (refine wreg (mos := q8_9) hE [9, 12] (by kernel_rfl) ?_; intro K hK; simp [q8_9, hlt, hlen, hlen2, hdat, hrows, hp, hpx, hpe, hX, hXd, hXr, hXl2, hpX, hT0, hCl, hT1, hC1, d32, d33, d36, d34, d37, d38]; (repeat' (first | refine hK _ _ ?_ | refine And.intro ?_ ?_ | (intro hc; try subst hc))) <;> (try clear hK K))
            | (refine wreg (mos := q8_10) hE [6] (by kernel_rfl) ?_; intro K hK; simp [q8_10, hlt, hlen, hlen2, hdat, hrows, hp, hpx, hpe, hX, hXd, hXr, hXl2, hpX, hT0, hCl, hT1, hC1, d32, d33, d36, d34, d37, d38]; (repeat' (first | refine hK _ _ ?_ | refine And.intro ?_ ?_ | (intro hc; try subst hc))) <;> (try clear hK K))
            | (refine wreg (mos := q8_11) hE [7, 8, 9, 50, 51] (by kernel_rfl) ?_; intro K hK; simp [q8_11, hlt, hlen, hlen2, hdat, hrows, hp, hpx, hpe, hX, hXd, hXr, hXl2, hpX, hT0, hCl, hT1, hC1, d32, d33, d36, d34, d37, d38]; (repeat' (first | refine hK _ _ ?_ | refine And.intro ?_ ?_ | (intro hc; try subst hc))) <;> (try clear hK K))
            | (refine wreg (mos := q8_12) hE [7, 8, 9, 50, 51, 52] (by kernel_rfl) ?_; intro K hK; simp [q8_12, hlt, hlen, hlen2, hdat, hrows, hp, hpx, hpe, hX, hXd, hXr, hXl2, hpX, hT0, hCl, hT1, hC1, d32, d33, d36, d34, d37, d38]; (repeat' (first | refine hK _ _ ?_ | refine And.intro ?_ ?_ | (intro hc; try subst hc))) <;> (try clear hK K))
            | (refine wreg (mos := q8_13) hE [7, 8, 9, 13, 50, 51] (by kernel_rfl) ?_; intro K hK; simp [q8_13, hlt, hlen, hlen2, hdat, hrows, hp, hpx, hpe, hX, hXd, hXr, hXl2, hpX, hT0, hCl, hT1, hC1, d32, d33, d36, d34, d37, d38]; (repeat' (first | refine hK _ _ ?_ | refine And.intro ?_ ?_ | (intro hc; try subst hc))) <;> (try clear hK K))
            | (refine wreg (mos := q8_14) hE [7, 8, 9, 50, 51, 58] (by kernel_rfl) ?_; intro K hK; simp [q8_14, hlt, hlen, hlen2, hdat, hrows, hp, hpx, hpe, hX, hXd, hXr, hXl2, hpX, hT0, hCl, hT1, hC1, d32, d33, d36, d34, d37, d38]; (repeat' (first | refine hK _ _ ?_ | refine And.intro ?_ ?_ | (intro hc; try subst hc))) <;> (try clear hK K))
            | (refine wreg (mos := q8_15) hE [6] (by kernel_rfl) ?_; intro K hK; simp [q8_15, hlt, hlen, hlen2, hdat, hrows, hp, hpx, hpe, hX, hXd, hXr, hXl2, hpX, hT0, hCl, hT1, hC1, d32, d33, d36, d34, d37, d38]; (repeat' (first | refine hK _ _ ?_ | refine And.intro ?_ ?_ | (intro hc; try subst hc))) <;> (try clear hK K))
            | (refine wreg (mos := q8_16) hE [7, 8, 9, 50, 51] (by kernel_rfl) ?_; intro K hK; simp [q8_16, hlt, hlen, hlen2, hdat, hrows, hp, hpx, hpe, hX, hXd, hXr, hXl2, hpX, hT0, hCl, hT1, hC1, d32, d33, d36, d34, d37, d38]; (repeat' (first | refine hK _ _ ?_ | refine And.intro ?_ ?_ | (intro hc; try subst hc))) <;> (try clear hK K))
            | (refine wreg (mos := q8_17) hE [6] (by kernel_rfl) ?_; intro K hK; simp [q8_17, hlt, hlen, hlen2, hdat, hrows, hp, hpx, hpe, hX, hXd, hXr, hXl2, hpX, hT0, hCl, hT1, hC1, d32, d33, d36, d34, d37, d38]; (repeat' (first | refine hK _ _ ?_ | refine And.intro ?_ ?_ | (intro hc; try subst hc))) <;> (try clear hK K))
            | (refine Wm_cond (b := _) (by with_unfolding_all rfl) (fun hc => ?_) (fun hc => ?_) <;> simp at hc <;> (try subst hc)))
          all_goals (refine Wm_loop (I8 kind n els X) (fun k => k ≤ X.length) (fun k => X.length - k) 0 (Nat.zero_le _) ?_ ?_)
          · simp only [I8]
            rw [hS]
            refine Imp.auto (by kernel_rfl) ?_ ?_ <;> simp [nmap, lkp, mkPl, prs, prsL, prT, ddL, idL, NLe, CRenL, CRen, Ren, RenL, NObj.none, hT0, hCl, hT1, hC1]
          · intro k hk
            replace hk : k ≤ X.length := hk
            simp only [I8]
            by_cases hkn : k < X.length
            · have hkI : (k : Int) < (X.length : Int) := by omega
              have w1 : IntKind.wrap .i64 ((k : Int) + 1) = (k : Int) + 1 := wrap_in (by omega) (by omega)
              have hdk := hdone k hkn
              have hDr := rows_del hXr k 1
              have hDl := delZ_len (l := X) (fr := k) (n := 1)
              obtain ⟨D, hD⟩ : ∃ D, delZ X k 1 = D := ⟨_, rfl⟩
              rw [hD] at hdk hDr hDl
              have hDd := rows_dat hDr
              have hDl2 : D.length ≤ 200000 := by omega
              repeat' with_reducible (first
                | refine Wm_seq ?_
                | refine Wm_skip ?_
                | refine Wm_ret ?_
                | refine Wm_block ?_
                | refine Wm_exit ?_
                | refine thenK_normal ?_
                | refine thenK_ret ?_
                | refine thenK_exit ?_
                | refine blockK_normal ?_
                | refine blockK_ret ?_
                | refine blockK_here ?_
                | refine loopK_ret ?_
                | refine loopK_exit ?_
                | refine unK_ret ?_
                | refine unK_exit ?_
                | refine unK_normal ?_
                | refine loopOk_succ ?_
                | refine blockK_exit (by decide) ?_
                | (refine wreg (mos := q8_0) hE [0, 4, 5] (by kernel_rfl) ?_; intro K hK; simp [q8_0, hkn, hkI, w1, hD, hdk, hDr, hDd, hDl2, hlt, hlen, hlen2, hdat, hrows, hp, hpx, hpe, hX, hXd, hXr, hXl2, hpX, hT0, hCl, hT1, hC1, d32, d33, d36, d34, d37, d38]; (repeat' (first | refine hK _ _ ?_ | refine And.intro ?_ ?_ | (intro hc; try subst hc))) <;> (try clear hK K))
                | (refine wreg (mos := q8_1) hE [0, 4, 5, 16] (by kernel_rfl) ?_; intro K hK; simp [q8_1, hkn, hkI, w1, hD, hdk, hDr, hDd, hDl2, hlt, hlen, hlen2, hdat, hrows, hp, hpx, hpe, hX, hXd, hXr, hXl2, hpX, hT0, hCl, hT1, hC1, d32, d33, d36, d34, d37, d38]; (repeat' (first | refine hK _ _ ?_ | refine And.intro ?_ ?_ | (intro hc; try subst hc))) <;> (try clear hK K))
                | (refine wreg (mos := q8_2) hE [6] (by kernel_rfl) ?_; intro K hK; simp [q8_2, hkn, hkI, w1, hD, hdk, hDr, hDd, hDl2, hlt, hlen, hlen2, hdat, hrows, hp, hpx, hpe, hX, hXd, hXr, hXl2, hpX, hT0, hCl, hT1, hC1, d32, d33, d36, d34, d37, d38]; (repeat' (first | refine hK _ _ ?_ | refine And.intro ?_ ?_ | (intro hc; try subst hc))) <;> (try clear hK K))
                | (refine wreg (mos := q8_3) hE [4, 5, 7] (by kernel_rfl) ?_; intro K hK; simp [q8_3, hkn, hkI, w1, hD, hdk, hDr, hDd, hDl2, hlt, hlen, hlen2, hdat, hrows, hp, hpx, hpe, hX, hXd, hXr, hXl2, hpX, hT0, hCl, hT1, hC1, d32, d33, d36, d34, d37, d38]; (repeat' (first | refine hK _ _ ?_ | refine And.intro ?_ ?_ | (intro hc; try subst hc))) <;> (try clear hK K))
                | (refine wreg (mos := q8_4) hE [7, 8] (by kernel_rfl) ?_; intro K hK; simp [q8_4, hkn, hkI, w1, hD, hdk, hDr, hDd, hDl2, hlt, hlen, hlen2, hdat, hrows, hp, hpx, hpe, hX, hXd, hXr, hXl2, hpX, hT0, hCl, hT1, hC1, d32, d33, d36, d34, d37, d38]; (repeat' (first | refine hK _ _ ?_ | refine And.intro ?_ ?_ | (intro hc; try subst hc))) <;> (try clear hK K))
                | (refine wreg (mos := q8_5) hE [7, 8, 9, 10] (by kernel_rfl) ?_; intro K hK; simp [q8_5, hkn, hkI, w1, hD, hdk, hDr, hDd, hDl2, hlt, hlen, hlen2, hdat, hrows, hp, hpx, hpe, hX, hXd, hXr, hXl2, hpX, hT0, hCl, hT1, hC1, d32, d33, d36, d34, d37, d38]; (repeat' (first | refine hK _ _ ?_ | refine And.intro ?_ ?_ | (intro hc; try subst hc))) <;> (try clear hK K))
                | (refine wreg (mos := q8_6) hE [7, 8, 9, 10, 31] (by kernel_rfl) ?_; intro K hK; simp [q8_6, hkn, hkI, w1, hD, hdk, hDr, hDd, hDl2, hlt, hlen, hlen2, hdat, hrows, hp, hpx, hpe, hX, hXd, hXr, hXl2, hpX, hT0, hCl, hT1, hC1, d32, d33, d36, d34, d37, d38]; (repeat' (first | refine hK _ _ ?_ | refine And.intro ?_ ?_ | (intro hc; try subst hc))) <;> (try clear hK K))
                | (refine wreg (mos := q8_7) hE [6] (by kernel_rfl) ?_; intro K hK; simp [q8_7, hkn, hkI, w1, hD, hdk, hDr, hDd, hDl2, hlt, hlen, hlen2, hdat, hrows, hp, hpx, hpe, hX, hXd, hXr, hXl2, hpX, hT0, hCl, hT1, hC1, d32, d33, d36, d34, d37, d38]; (repeat' (first | refine hK _ _ ?_ | refine And.intro ?_ ?_ | (intro hc; try subst hc))) <;> (try clear hK K))
                | (refine wreg (mos := q8_8) hE [7, 8, 9, 33] (by kernel_rfl) ?_; intro K hK; simp [q8_8, hkn, hkI, w1, hD, hdk, hDr, hDd, hDl2, hlt, hlen, hlen2, hdat, hrows, hp, hpx, hpe, hX, hXd, hXr, hXl2, hpX, hT0, hCl, hT1, hC1, d32, d33, d36, d34, d37, d38]; (repeat' (first | refine hK _ _ ?_ | refine And.intro ?_ ?_ | (intro hc; try subst hc))) <;> (try clear hK K))
                | (refine wreg (mos := q8_9) hE [9, 12] (by kernel_rfl) ?_; intro K hK; simp [q8_9, hkn, hkI, w1, hD, hdk, hDr, hDd, hDl2, hlt, hlen, hlen2, hdat, hrows, hp, hpx, hpe, hX, hXd, hXr, hXl2, hpX, hT0, hCl, hT1, hC1, d32, d33, d36, d34, d37, d38]; (repeat' (first | refine hK _ _ ?_ | refine And.intro ?_ ?_ | (intro hc; try subst hc))) <;> (try clear hK K))
                | (refine wreg (mos := q8_10) hE [6] (by kernel_rfl) ?_; intro K hK; simp [q8_10, hkn, hkI, w1, hD, hdk, hDr, hDd, hDl2, hlt, hlen, hlen2, hdat, hrows, hp, hpx, hpe, hX, hXd, hXr, hXl2, hpX, hT0, hCl, hT1, hC1, d32, d33, d36, d34, d37, d38]; (repeat' (first | refine hK _ _ ?_ | refine And.intro ?_ ?_ | (intro hc; try subst hc))) <;> (try clear hK K))
                | (refine wreg (mos := q8_11) hE [7, 8, 9, 50, 51] (by kernel_rfl) ?_; intro K hK; simp [q8_11, hkn, hkI, w1, hD, hdk, hDr, hDd, hDl2, hlt, hlen, hlen2, hdat, hrows, hp, hpx, hpe, hX, hXd, hXr, hXl2, hpX, hT0, hCl, hT1, hC1, d32, d33, d36, d34, d37, d38]; (repeat' (first | refine hK _ _ ?_ | refine And.intro ?_ ?_ | (intro hc; try subst hc))) <;> (try clear hK K))
                | (refine wreg (mos := q8_12) hE [7, 8, 9, 50, 51, 52] (by kernel_rfl) ?_; intro K hK; simp [q8_12, hkn, hkI, w1, hD, hdk, hDr, hDd, hDl2, hlt, hlen, hlen2, hdat, hrows, hp, hpx, hpe, hX, hXd, hXr, hXl2, hpX, hT0, hCl, hT1, hC1, d32, d33, d36, d34, d37, d38]; (repeat' (first | refine hK _ _ ?_ | refine And.intro ?_ ?_ | (intro hc; try subst hc))) <;> (try clear hK K))
                | (refine wreg (mos := q8_13) hE [7, 8, 9, 13, 50, 51] (by kernel_rfl) ?_; intro K hK; simp [q8_13, hkn, hkI, w1, hD, hdk, hDr, hDd, hDl2, hlt, hlen, hlen2, hdat, hrows, hp, hpx, hpe, hX, hXd, hXr, hXl2, hpX, hT0, hCl, hT1, hC1, d32, d33, d36, d34, d37, d38]; (repeat' (first | refine hK _ _ ?_ | refine And.intro ?_ ?_ | (intro hc; try subst hc))) <;> (try clear hK K))
                | (refine wreg (mos := q8_14) hE [7, 8, 9, 50, 51, 58] (by kernel_rfl) ?_; intro K hK; simp [q8_14, hkn, hkI, w1, hD, hdk, hDr, hDd, hDl2, hlt, hlen, hlen2, hdat, hrows, hp, hpx, hpe, hX, hXd, hXr, hXl2, hpX, hT0, hCl, hT1, hC1, d32, d33, d36, d34, d37, d38]; (repeat' (first | refine hK _ _ ?_ | refine And.intro ?_ ?_ | (intro hc; try subst hc))) <;> (try clear hK K))
                | (refine wreg (mos := q8_15) hE [6] (by kernel_rfl) ?_; intro K hK; simp [q8_15, hkn, hkI, w1, hD, hdk, hDr, hDd, hDl2, hlt, hlen, hlen2, hdat, hrows, hp, hpx, hpe, hX, hXd, hXr, hXl2, hpX, hT0, hCl, hT1, hC1, d32, d33, d36, d34, d37, d38]; (repeat' (first | refine hK _ _ ?_ | refine And.intro ?_ ?_ | (intro hc; try subst hc))) <;> (try clear hK K))
                | (refine wreg (mos := q8_16) hE [7, 8, 9, 50, 51] (by kernel_rfl) ?_; intro K hK; simp [q8_16, hkn, hkI, w1, hD, hdk, hDr, hDd, hDl2, hlt, hlen, hlen2, hdat, hrows, hp, hpx, hpe, hX, hXd, hXr, hXl2, hpX, hT0, hCl, hT1, hC1, d32, d33, d36, d34, d37, d38]; (repeat' (first | refine hK _ _ ?_ | refine And.intro ?_ ?_ | (intro hc; try subst hc))) <;> (try clear hK K))
                | (refine wreg (mos := q8_17) hE [6] (by kernel_rfl) ?_; intro K hK; simp [q8_17, hkn, hkI, w1, hD, hdk, hDr, hDd, hDl2, hlt, hlen, hlen2, hdat, hrows, hp, hpx, hpe, hX, hXd, hXr, hXl2, hpX, hT0, hCl, hT1, hC1, d32, d33, d36, d34, d37, d38]; (repeat' (first | refine hK _ _ ?_ | refine And.intro ?_ ?_ | (intro hc; try subst hc))) <;> (try clear hK K))
                | (refine Wm_cond (b := _) (by with_unfolding_all rfl) (fun hc => ?_) (fun hc => ?_) <;> simp at hc <;> (try subst hc)))
              all_goals refine ⟨k + 1, hkn, Nat.sub_lt_sub_left hkn (Nat.lt_succ_self k), ?_⟩
              all_goals simp only [I8]
              all_goals rw [hS]
              all_goals (refine Imp.auto (by kernel_rfl) ?_ ?_ <;> simp [nmap, lkp, mkPl, prs, prsL, prT, ddL, idL, NLe, CRenL, CRen, Ren, RenL, NObj.none, hT0, hCl, hT1, hC1])
            · have hkI : ¬ (k : Int) < (X.length : Int) := by omega
              repeat' with_reducible (first
                | refine Wm_seq ?_
                | refine Wm_skip ?_
                | refine Wm_ret ?_
                | refine Wm_block ?_
                | refine Wm_exit ?_
                | refine thenK_normal ?_
                | refine thenK_ret ?_
                | refine thenK_exit ?_
                | refine blockK_normal ?_
                | refine blockK_ret ?_
                | refine blockK_here ?_
                | refine loopK_ret ?_
                | refine loopK_exit ?_
                | refine unK_ret ?_
                | refine unK_exit ?_
                | refine unK_normal ?_
                | refine loopOk_succ ?_
                | refine blockK_exit (by decide) ?_
                | (refine wreg (mos := q8_0) hE [0, 4, 5] (by kernel_rfl) ?_; intro K hK; simp [q8_0, hkI, hscan, hlt, hlen, hlen2, hdat, hrows, hp, hpx, hpe, hX, hXd, hXr, hXl2, hpX, hT0, hCl, hT1, hC1, d32, d33, d36, d34, d37, d38]; (repeat' (first | refine hK _ _ ?_ | refine And.intro ?_ ?_ | (intro hc; try subst hc))) <;> (try clear hK K))
                | (refine wreg (mos := q8_1) hE [0, 4, 5, 16] (by kernel_rfl) ?_; intro K hK; simp [q8_1, hkI, hscan, hlt, hlen, hlen2, hdat, hrows, hp, hpx, hpe, hX, hXd, hXr, hXl2, hpX, hT0, hCl, hT1, hC1, d32, d33, d36, d34, d37, d38]; (repeat' (first | refine hK _ _ ?_ | refine And.intro ?_ ?_ | (intro hc; try subst hc))) <;> (try clear hK K))
                | (refine wreg (mos := q8_2) hE [6] (by kernel_rfl) ?_; intro K hK; simp [q8_2, hkI, hscan, hlt, hlen, hlen2, hdat, hrows, hp, hpx, hpe, hX, hXd, hXr, hXl2, hpX, hT0, hCl, hT1, hC1, d32, d33, d36, d34, d37, d38]; (repeat' (first | refine hK _ _ ?_ | refine And.intro ?_ ?_ | (intro hc; try subst hc))) <;> (try clear hK K))
                | (refine wreg (mos := q8_3) hE [4, 5, 7] (by kernel_rfl) ?_; intro K hK; simp [q8_3, hkI, hscan, hlt, hlen, hlen2, hdat, hrows, hp, hpx, hpe, hX, hXd, hXr, hXl2, hpX, hT0, hCl, hT1, hC1, d32, d33, d36, d34, d37, d38]; (repeat' (first | refine hK _ _ ?_ | refine And.intro ?_ ?_ | (intro hc; try subst hc))) <;> (try clear hK K))
                | (refine wreg (mos := q8_4) hE [7, 8] (by kernel_rfl) ?_; intro K hK; simp [q8_4, hkI, hscan, hlt, hlen, hlen2, hdat, hrows, hp, hpx, hpe, hX, hXd, hXr, hXl2, hpX, hT0, hCl, hT1, hC1, d32, d33, d36, d34, d37, d38]; (repeat' (first | refine hK _ _ ?_ | refine And.intro ?_ ?_ | (intro hc; try subst hc))) <;> (try clear hK K))
                | (refine wreg (mos := q8_5) hE [7, 8, 9, 10] (by kernel_rfl) ?_; intro K hK; simp [q8_5, hkI, hscan, hlt, hlen, hlen2, hdat, hrows, hp, hpx, hpe, hX, hXd, hXr, hXl2, hpX, hT0, hCl, hT1, hC1, d32, d33, d36, d34, d37, d38]; (repeat' (first | refine hK _ _ ?_ | refine And.intro ?_ ?_ | (intro hc; try subst hc))) <;> (try clear hK K))
                | (refine wreg (mos := q8_6) hE [7, 8, 9, 10, 31] (by kernel_rfl) ?_; intro K hK; simp [q8_6, hkI, hscan, hlt, hlen, hlen2, hdat, hrows, hp, hpx, hpe, hX, hXd, hXr, hXl2, hpX, hT0, hCl, hT1, hC1, d32, d33, d36, d34, d37, d38]; (repeat' (first | refine hK _ _ ?_ | refine And.intro ?_ ?_ | (intro hc; try subst hc))) <;> (try clear hK K))
                | (refine wreg (mos := q8_7) hE [6] (by kernel_rfl) ?_; intro K hK; simp [q8_7, hkI, hscan, hlt, hlen, hlen2, hdat, hrows, hp, hpx, hpe, hX, hXd, hXr, hXl2, hpX, hT0, hCl, hT1, hC1, d32, d33, d36, d34, d37, d38]; (repeat' (first | refine hK _ _ ?_ | refine And.intro ?_ ?_ | (intro hc; try subst hc))) <;> (try clear hK K))
                | (refine wreg (mos := q8_8) hE [7, 8, 9, 33] (by kernel_rfl) ?_; intro K hK; simp [q8_8, hkI, hscan, hlt, hlen, hlen2, hdat, hrows, hp, hpx, hpe, hX, hXd, hXr, hXl2, hpX, hT0, hCl, hT1, hC1, d32, d33, d36, d34, d37, d38]; (repeat' (first | refine hK _ _ ?_ | refine And.intro ?_ ?_ | (intro hc; try subst hc))) <;> (try clear hK K))
                | (refine wreg (mos := q8_9) hE [9, 12] (by kernel_rfl) ?_; intro K hK; simp [q8_9, hkI, hscan, hlt, hlen, hlen2, hdat, hrows, hp, hpx, hpe, hX, hXd, hXr, hXl2, hpX, hT0, hCl, hT1, hC1, d32, d33, d36, d34, d37, d38]; (repeat' (first | refine hK _ _ ?_ | refine And.intro ?_ ?_ | (intro hc; try subst hc))) <;> (try clear hK K))
                | (refine wreg (mos := q8_10) hE [6] (by kernel_rfl) ?_; intro K hK; simp [q8_10, hkI, hscan, hlt, hlen, hlen2, hdat, hrows, hp, hpx, hpe, hX, hXd, hXr, hXl2, hpX, hT0, hCl, hT1, hC1, d32, d33, d36, d34, d37, d38]; (repeat' (first | refine hK _ _ ?_ | refine And.intro ?_ ?_ | (intro hc; try subst hc))) <;> (try clear hK K))
                | (refine wreg (mos := q8_11) hE [7, 8, 9, 50, 51] (by kernel_rfl) ?_; intro K hK; simp [q8_11, hkI, hscan, hlt, hlen, hlen2, hdat, hrows, hp, hpx, hpe, hX, hXd, hXr, hXl2, hpX, hT0, hCl, hT1, hC1, d32, d33, d36, d34, d37, d38]; (repeat' (first | refine hK _ _ ?_ | refine And.intro ?_ ?_ | (intro hc; try subst hc))) <;> (try clear hK K))
                | (refine wreg (mos := q8_12) hE [7, 8, 9, 50, 51, 52] (by kernel_rfl) ?_; intro K hK; simp [q8_12, hkI, hscan, hlt, hlen, hlen2, hdat, hrows, hp, hpx, hpe, hX, hXd, hXr, hXl2, hpX, hT0, hCl, hT1, hC1, d32, d33, d36, d34, d37, d38]; (repeat' (first | refine hK _ _ ?_ | refine And.intro ?_ ?_ | (intro hc; try subst hc))) <;> (try clear hK K))
                | (refine wreg (mos := q8_13) hE [7, 8, 9, 13, 50, 51] (by kernel_rfl) ?_; intro K hK; simp [q8_13, hkI, hscan, hlt, hlen, hlen2, hdat, hrows, hp, hpx, hpe, hX, hXd, hXr, hXl2, hpX, hT0, hCl, hT1, hC1, d32, d33, d36, d34, d37, d38]; (repeat' (first | refine hK _ _ ?_ | refine And.intro ?_ ?_ | (intro hc; try subst hc))) <;> (try clear hK K))
                | (refine wreg (mos := q8_14) hE [7, 8, 9, 50, 51, 58] (by kernel_rfl) ?_; intro K hK; simp [q8_14, hkI, hscan, hlt, hlen, hlen2, hdat, hrows, hp, hpx, hpe, hX, hXd, hXr, hXl2, hpX, hT0, hCl, hT1, hC1, d32, d33, d36, d34, d37, d38]; (repeat' (first | refine hK _ _ ?_ | refine And.intro ?_ ?_ | (intro hc; try subst hc))) <;> (try clear hK K))
                | (refine wreg (mos := q8_15) hE [6] (by kernel_rfl) ?_; intro K hK; simp [q8_15, hkI, hscan, hlt, hlen, hlen2, hdat, hrows, hp, hpx, hpe, hX, hXd, hXr, hXl2, hpX, hT0, hCl, hT1, hC1, d32, d33, d36, d34, d37, d38]; (repeat' (first | refine hK _ _ ?_ | refine And.intro ?_ ?_ | (intro hc; try subst hc))) <;> (try clear hK K))
                | (refine wreg (mos := q8_16) hE [7, 8, 9, 50, 51] (by kernel_rfl) ?_; intro K hK; simp [q8_16, hkI, hscan, hlt, hlen, hlen2, hdat, hrows, hp, hpx, hpe, hX, hXd, hXr, hXl2, hpX, hT0, hCl, hT1, hC1, d32, d33, d36, d34, d37, d38]; (repeat' (first | refine hK _ _ ?_ | refine And.intro ?_ ?_ | (intro hc; try subst hc))) <;> (try clear hK K))
                | (refine wreg (mos := q8_17) hE [6] (by kernel_rfl) ?_; intro K hK; simp [q8_17, hkI, hscan, hlt, hlen, hlen2, hdat, hrows, hp, hpx, hpe, hX, hXd, hXr, hXl2, hpX, hT0, hCl, hT1, hC1, d32, d33, d36, d34, d37, d38]; (repeat' (first | refine hK _ _ ?_ | refine And.intro ?_ ?_ | (intro hc; try subst hc))) <;> (try clear hK K))
                | (refine Wm_cond (b := _) (by with_unfolding_all rfl) (fun hc => ?_) (fun hc => ?_) <;> simp at hc <;> (try subst hc)))
              all_goals first | (simp; done) | (simp at *; omega) | ((try simp); refine Imp.auto (by kernel_rfl) ?_ ?_ <;> simp [nmap, lkp, mkPl, prs, prsL, prT, ddL, idL, NLe, CRenL, CRen, Ren, RenL, NObj.none])
        · have hpe' : p els = false := by simpa using hpe
          unfold m8
          repeat' with_reducible (first
            | refine Wm_seq ?_
            | refine Wm_skip ?_
            | refine Wm_ret ?_
            | refine Wm_block ?_
            | refine Wm_exit ?_
            | refine thenK_normal ?_
            | refine thenK_ret ?_
            | refine thenK_exit ?_
            | refine blockK_normal ?_
            | refine blockK_ret ?_
            | refine blockK_here ?_
            | refine loopK_ret ?_
            | refine loopK_exit ?_
            | refine unK_ret ?_
            | refine unK_exit ?_
            | refine unK_normal ?_
            | refine loopOk_succ ?_
            | refine blockK_exit (by decide) ?_
            | (refine wreg (mos := q8_0) hE [0, 4, 5] (by kernel_rfl) ?_; intro K hK; simp [q8_0, hlt, hlen, hlen2, hdat, hrows, hp, hpx, hpe', hT0, hCl, hnf, d32, d33, d36, d34, d37, d38]; (repeat' (first | refine hK _ _ ?_ | refine And.intro ?_ ?_ | (intro hc; try subst hc))) <;> (try clear hK K))
            | (refine wreg (mos := q8_1) hE [0, 4, 5, 16] (by kernel_rfl) ?_; intro K hK; simp [q8_1, hlt, hlen, hlen2, hdat, hrows, hp, hpx, hpe', hT0, hCl, hnf, d32, d33, d36, d34, d37, d38]; (repeat' (first | refine hK _ _ ?_ | refine And.intro ?_ ?_ | (intro hc; try subst hc))) <;> (try clear hK K))
            | (refine wreg (mos := q8_2) hE [6] (by kernel_rfl) ?_; intro K hK; simp [q8_2, hlt, hlen, hlen2, hdat, hrows, hp, hpx, hpe', hT0, hCl, hnf, d32, d33, d36, d34, d37, d38]; (repeat' (first | refine hK _ _ ?_ | refine And.intro ?_ ?_ | (intro hc; try subst hc))) <;> (try clear hK K))
            | (refine wreg (mos := q8_3) hE [4, 5, 7] (by kernel_rfl) ?_; intro K hK; simp [q8_3, hlt, hlen, hlen2, hdat, hrows, hp, hpx, hpe', hT0, hCl, hnf, d32, d33, d36, d34, d37, d38]; (repeat' (first | refine hK _ _ ?_ | refine And.intro ?_ ?_ | (intro hc; try subst hc))) <;> (try clear hK K))
            | (refine wreg (mos := q8_4) hE [7, 8] (by kernel_rfl) ?_; intro K hK; simp [q8_4, hlt, hlen, hlen2, hdat, hrows, hp, hpx, hpe', hT0, hCl, hnf, d32, d33, d36, d34, d37, d38]; (repeat' (first | refine hK _ _ ?_ | refine And.intro ?_ ?_ | (intro hc; try subst hc))) <;> (try clear hK K))
            | (refine wreg (mos := q8_5) hE [7, 8, 9, 10] (by kernel_rfl) ?_; intro K hK; simp [q8_5, hlt, hlen, hlen2, hdat, hrows, hp, hpx, hpe', hT0, hCl, hnf, d32, d33, d36, d34, d37, d38]; (repeat' (first | refine hK _ _ ?_ | refine And.intro ?_ ?_ | (intro hc; try subst hc))) <;> (try clear hK K))
            | (refine wreg (mos := q8_6) hE [7, 8, 9, 10, 31] (by kernel_rfl) ?_; intro K hK; simp [q8_6, hlt, hlen, hlen2, hdat, hrows, hp, hpx, hpe', hT0, hCl, hnf, d32, d33, d36, d34, d37, d38]; (repeat' (first | refine hK _ _ ?_ | refine And.intro ?_ ?_ | (intro hc; try subst hc))) <;> (try clear hK K))
            | (refine wreg (mos := q8_7) hE [6] (by kernel_rfl) ?_; intro K hK; simp [q8_7, hlt, hlen, hlen2, hdat, hrows, hp, hpx, hpe', hT0, hCl, hnf, d32, d33, d36, d34, d37, d38]; (repeat' (first | refine hK _ _ ?_ | refine And.intro ?_ ?_ | (intro hc; try subst hc))) <;> (try clear hK K))
            | (refine wreg (mos := q8_8) hE [7, 8, 9, 33] (by kernel_rfl) ?_; intro K hK; simp [q8_8, hlt, hlen, hlen2, hdat, hrows, hp, hpx, hpe', hT0, hCl, hnf, d32, d33, d36, d34, d37, d38]; (repeat' (first | refine hK _ _ ?_ | refine And.intro ?_ ?_ | (intro hc; try subst hc))) <;> (try clear hK K))
            | (refine wreg (mos := q8_9) hE [9, 12] (by kernel_rfl) ?_; intro K hK; simp [q8_9, hlt, hlen, hlen2, hdat, hrows, hp, hpx, hpe', hT0, hCl, hnf, d32, d33, d36, d34, d37, d38]; (repeat' (first | refine hK _ _ ?_ | refine And.intro ?_ ?_ | (intro hc; try subst hc))) <;> (try clear hK K))
            | (refine wreg (mos := q8_10) hE [6] (by kernel_rfl) ?_; intro K hK; simp [q8_10, hlt, hlen, hlen2, hdat, hrows, hp, hpx, hpe', hT0, hCl, hnf, d32, d33, d36, d34, d37, d38]; (repeat' (first | refine hK _ _ ?_ | refine And.intro ?_ ?_ | (intro hc; try subst hc))) <;> (try clear hK K))
            | (refine wreg (mos := q8_11) hE [7, 8, 9, 50, 51] (by kernel_rfl) ?_; intro K hK; simp [q8_11, hlt, hlen, hlen2, hdat, hrows, hp, hpx, hpe', hT0, hCl, hnf, d32, d33, d36, d34, d37, d38]; (repeat' (first | refine hK _ _ ?_ | refine And.intro ?_ ?_ | (intro hc; try subst hc))) <;> (try clear hK K))
            | (refine wreg (mos := q8_12) hE [7, 8, 9, 50, 51, 52] (by kernel_rfl) ?_; intro K hK; simp [q8_12, hlt, hlen, hlen2, hdat, hrows, hp, hpx, hpe', hT0, hCl, hnf, d32, d33, d36, d34, d37, d38]; (repeat' (first | refine hK _ _ ?_ | refine And.intro ?_ ?_ | (intro hc; try subst hc))) <;> (try clear hK K))
            | (refine wreg (mos := q8_13) hE [7, 8, 9, 13, 50, 51] (by kernel_rfl) ?_; intro K hK; simp [q8_13, hlt, hlen, hlen2, hdat, hrows, hp, hpx, hpe', hT0, hCl, hnf, d32, d33, d36, d34, d37, d38]; (repeat' (first | refine hK _ _ ?_ | refine And.intro ?_ ?_ | (intro hc; try subst hc))) <;> (try clear hK K))
            | (refine wreg (mos := q8_14) hE [7, 8, 9, 50, 51, 58] (by kernel_rfl) ?_; intro K hK; simp [q8_14, hlt, hlen, hlen2, hdat, hrows, hp, hpx, hpe', hT0, hCl, hnf, d32, d33, d36, d34, d37, d38]; (repeat' (first | refine hK _ _ ?_ | refine And.intro ?_ ?_ | (intro hc; try subst hc))) <;> (try clear hK K))
            | (refine wreg (mos := q8_15) hE [6] (by kernel_rfl) ?_; intro K hK; simp [q8_15, hlt, hlen, hlen2, hdat, hrows, hp, hpx, hpe', hT0, hCl, hnf, d32, d33, d36, d34, d37, d38]; (repeat' (first | refine hK _ _ ?_ | refine And.intro ?_ ?_ | (intro hc; try subst hc))) <;> (try clear hK K))
            | (refine wreg (mos := q8_16) hE [7, 8, 9, 50, 51] (by kernel_rfl) ?_; intro K hK; simp [q8_16, hlt, hlen, hlen2, hdat, hrows, hp, hpx, hpe', hT0, hCl, hnf, d32, d33, d36, d34, d37, d38]; (repeat' (first | refine hK _ _ ?_ | refine And.intro ?_ ?_ | (intro hc; try subst hc))) <;> (try clear hK K))
            | (refine wreg (mos := q8_17) hE [6] (by kernel_rfl) ?_; intro K hK; simp [q8_17, hlt, hlen, hlen2, hdat, hrows, hp, hpx, hpe', hT0, hCl, hnf, d32, d33, d36, d34, d37, d38]; (repeat' (first | refine hK _ _ ?_ | refine And.intro ?_ ?_ | (intro hc; try subst hc))) <;> (try clear hK K))
            | (refine Wm_cond (b := _) (by with_unfolding_all rfl) (fun hc => ?_) (fun hc => ?_) <;> simp at hc <;> (try subst hc)))
          all_goals first | (simp; done) | (simp at *; omega) | ((try simp); refine Imp.auto (by kernel_rfl) ?_ ?_ <;> simp [nmap, lkp, mkPl, prs, prsL, prT, ddL, idL, NLe, CRenL, CRen, Ren, RenL, NObj.none])
    · cases h
  · cases h

theorem ok9 : ROk d9 := by
  intro xs os r h
  unfold d9 at h
  (repeat' (split at h)) <;> first | (cases h; done) | (injection h with h; subst h; simp)
theorem s9 : Sound Try.prog 9 (rdS d9 ok9) := by
  refine rd_sound Try.func9 nm9 rc9 rv9 ok9 fun xs os r h vs ρ0 hvs => ⟨xs, ?_, fun _ h => h, fun w0 S hS => ?_⟩
  · unfold d9 at h
    (repeat' (split at h)) <;> first | (cases h; done) | exact Nat.le_of_ble_eq_true rfl
  unfold d9 at h
  split at h
  · split at h
    · rename_i m kind n els hcond
      injection h with h
      subst h
      have hE : SoundAll Try.prog (EL [(32, rdS d32 ok32), (33, nestS [(12, false)] d33 ok33), (36, rdS d36 ok36), (39, rdS d39 ok39)]) := EL_sound (by simp only [List.mem_cons, List.not_mem_nil, or_false, forall_eq_or_imp, forall_eq]; exact ⟨s32, s33, s36, s39⟩)
      obtain ⟨rfl, hrows⟩ := hcond
      by_cases hlt : (60 : Int) < (els.length : Int)
      · unfold m9
        repeat' with_reducible (first
          | refine Wm_seq ?_
          | refine Wm_skip ?_
          | refine Wm_ret ?_
          | refine Wm_block ?_
          | refine Wm_exit ?_
          | refine thenK_normal ?_
          | refine thenK_ret ?_
          | refine thenK_exit ?_
          | refine blockK_normal ?_
          | refine blockK_ret ?_
          | refine blockK_here ?_
          | refine loopK_ret ?_
          | refine loopK_exit ?_
          | refine unK_ret ?_
          | refine unK_exit ?_
          | refine unK_normal ?_
          | refine loopOk_succ ?_
          | refine blockK_exit (by decide) ?_
          | (refine wreg (mos := q9_0) hE [0, 4, 5] (by kernel_rfl) ?_; intro K hK; simp [q9_0, hlt, d32, d33, d36, d39]; (repeat' (first | refine hK _ _ ?_ | refine And.intro ?_ ?_ | (intro hc; try subst hc))) <;> (try clear hK K))
          | (refine wreg (mos := q9_1) hE [0, 4, 5, 15] (by kernel_rfl) ?_; intro K hK; simp [q9_1, hlt, d32, d33, d36, d39]; (repeat' (first | refine hK _ _ ?_ | refine And.intro ?_ ?_ | (intro hc; try subst hc))) <;> (try clear hK K))
          | (refine wreg (mos := q9_2) hE [6] (by kernel_rfl) ?_; intro K hK; simp [q9_2, hlt, d32, d33, d36, d39]; (repeat' (first | refine hK _ _ ?_ | refine And.intro ?_ ?_ | (intro hc; try subst hc))) <;> (try clear hK K))
          | (refine wreg (mos := q9_3) hE [0, 7] (by kernel_rfl) ?_; intro K hK; simp [q9_3, hlt, d32, d33, d36, d39]; (repeat' (first | refine hK _ _ ?_ | refine And.intro ?_ ?_ | (intro hc; try subst hc))) <;> (try clear hK K))
          | (refine wreg (mos := q9_4) hE [7, 8, 9] (by kernel_rfl) ?_; intro K hK; simp [q9_4, hlt, d32, d33, d36, d39]; (repeat' (first | refine hK _ _ ?_ | refine And.intro ?_ ?_ | (intro hc; try subst hc))) <;> (try clear hK K))
          | (refine wreg (mos := q9_5) hE [7, 8, 26] (by kernel_rfl) ?_; intro K hK; simp [q9_5, hlt, d32, d33, d36, d39]; (repeat' (first | refine hK _ _ ?_ | refine And.intro ?_ ?_ | (intro hc; try subst hc))) <;> (try clear hK K))
          | (refine wreg (mos := q9_6) hE [6] (by kernel_rfl) ?_; intro K hK; simp [q9_6, hlt, d32, d33, d36, d39]; (repeat' (first | refine hK _ _ ?_ | refine And.intro ?_ ?_ | (intro hc; try subst hc))) <;> (try clear hK K))
          | (refine wreg (mos := q9_7) hE [8, 10, 11] (by kernel_rfl) ?_; intro K hK; simp [q9_7, hlt, d32, d33, d36, d39]; (repeat' (first | refine hK _ _ ?_ | refine And.intro ?_ ?_ | (intro hc; try subst hc))) <;> (try clear hK K))
          | (refine wreg (mos := q9_8) hE [8, 10, 42] (by kernel_rfl) ?_; intro K hK; simp [q9_8, hlt, d32, d33, d36, d39]; (repeat' (first | refine hK _ _ ?_ | refine And.intro ?_ ?_ | (intro hc; try subst hc))) <;> (try clear hK K))
          | (refine wreg (mos := q9_9) hE [6] (by kernel_rfl) ?_; intro K hK; simp [q9_9, hlt, d32, d33, d36, d39]; (repeat' (first | refine hK _ _ ?_ | refine And.intro ?_ ?_ | (intro hc; try subst hc))) <;> (try clear hK K))
          | (refine wreg (mos := q9_10) hE [8, 10, 44, 45] (by kernel_rfl) ?_; intro K hK; simp [q9_10, hlt, d32, d33, d36, d39]; (repeat' (first | refine hK _ _ ?_ | refine And.intro ?_ ?_ | (intro hc; try subst hc))) <;> (try clear hK K))
          | (refine wreg (mos := q9_11) hE [8, 10, 44, 45, 46] (by kernel_rfl) ?_; intro K hK; simp [q9_11, hlt, d32, d33, d36, d39]; (repeat' (first | refine hK _ _ ?_ | refine And.intro ?_ ?_ | (intro hc; try subst hc))) <;> (try clear hK K))
          | (refine wreg (mos := q9_12) hE [8, 10, 12, 44, 45] (by kernel_rfl) ?_; intro K hK; simp [q9_12, hlt, d32, d33, d36, d39]; (repeat' (first | refine hK _ _ ?_ | refine And.intro ?_ ?_ | (intro hc; try subst hc))) <;> (try clear hK K))
          | (refine wdraw (mos := q9_13) hE mixT c9_13 [8, 10, 44, 45, 56] (by kernel_rfl) ?_; intro K hK; simp [q9_13, c9_13, hlt, d32, d33, d36, d39]; (repeat' (first | refine hK _ _ ?_ | refine And.intro ?_ ?_ | (intro hc; try subst hc))) <;> (try clear hK K))
          | (refine wreg (mos := q9_14) hE [6] (by kernel_rfl) ?_; intro K hK; simp [q9_14, hlt, d32, d33, d36, d39]; (repeat' (first | refine hK _ _ ?_ | refine And.intro ?_ ?_ | (intro hc; try subst hc))) <;> (try clear hK K))
          | (refine wreg (mos := q9_15) hE [8, 10, 44, 45] (by kernel_rfl) ?_; intro K hK; simp [q9_15, hlt, d32, d33, d36, d39]; (repeat' (first | refine hK _ _ ?_ | refine And.intro ?_ ?_ | (intro hc; try subst hc))) <;> (try clear hK K))
          | (refine wreg (mos := q9_16) hE [6] (by kernel_rfl) ?_; intro K hK; simp [q9_16, hlt, d32, d33, d36, d39]; (repeat' (first | refine hK _ _ ?_ | refine And.intro ?_ ?_ | (intro hc; try subst hc))) <;> (try clear hK K))
          | (refine Wm_cond (b := _) (by with_unfolding_all rfl) (fun hc => ?_) (fun hc => ?_) <;> simp at hc <;> (try subst hc)))
        all_goals first | (simp; done) | (simp at *; omega) | ((try simp); refine Imp.auto (by kernel_rfl) ?_ ?_ <;> simp [nmap, lkp, mkPl, prs, prsL, prT, ddL, idL, NLe, CRenL, CRen, Ren, RenL, NObj.none])
      · have hlen : els.length ≤ 200000 := by omega
        have hlen2 : ¬ 60 < els.length := by omega
        have hdat := rows_dat hrows
        have hT0 := rows_t0 hrows
        have hCl := rows_cl hrows
        have hp : predZ 39 [.ptr (.top 1) 0 0, .ptr (.top 2) 0 0] [.view 0 1 [[.int .i64 kind]], .view 0 1 [[.int .i64 n]]] = some fun els => decide (n ≤ sumZ els kind) := rfl
        have htw := shrink_twice kind n els
        obtain ⟨p, hpe⟩ : ∃ p, (fun els => decide (n ≤ sumZ els kind)) = p := ⟨_, rfl⟩
        rw [hpe] at hp htw
        have hsub := shrinkZ_sub (p := p) els
        have hdone := shrinkZ_done (p := p) els
        have hhold := fun h => shrinkZ_holds (p := p) (l := els) h
        have hnf : Value.oneCell' .nilFunc = true := rfl
        have hpx : ∀ X, decide (n ≤ sumZ X kind) = p X := fun X => congrFun hpe X
        obtain ⟨X, hX⟩ : ∃ X, shrinkZ p els = X := ⟨_, rfl⟩
        rw [hX] at hsub hdone hhold htw
        have hXr : X.all row12 = true := rows_sub hsub hrows
        have hXl : X.length ≤ els.length := hsub.length_le
        have hXl2 : X.length ≤ 200000 := by omega
        have hXd := rows_dat hXr
        have hT1 := rows_t0 hXr
        have hC1 := rows_cl hXr
        have hscan := scanR_sub hXr hrows hsub
        clear hpe
        by_cases hpe : p els = true
        · have hpX := hhold hpe
          unfold m9
          repeat' with_reducible (first
            | refine Wm_seq ?_
            | refine Wm_skip ?_
            | refine Wm_ret ?_
            | refine Wm_block ?_
            | refine Wm_exit ?_
            | refine thenK_normal ?_
            | refine thenK_ret ?_
            | refine thenK_exit ?_
            | refine blockK_normal ?_
            | refine blockK_ret ?_
            | refine blockK_here ?_
            | refine loopK_ret ?_
            | refine loopK_exit ?_
            | refine unK_ret ?_
            | refine unK_exit ?_
            | refine unK_normal ?_
            | refine loopOk_succ ?_
            | refine blockK_exit (by decide) ?_
            | (refine wreg (mos := q9_0) hE [0, 4, 5] (by kernel_rfl) ?_; intro K hK; simp [q9_0, htw, hlt, hlen, hlen2, hdat, hrows, hp, hpx, hpe, hX, hXd, hXr, hXl2, hpX, hT0, hCl, hT1, hC1, d32, d33, d36, d39]; (repeat' (first | refine hK _ _ ?_ | refine And.intro ?_ ?_ | (intro hc; try subst hc))) <;> (try clear hK K))
            | (refine wreg (mos := q9_1) hE [0, 4, 5, 15] (by kernel_rfl) ?_; intro K hK; simp [q9_1, htw, hlt, hlen, hlen2, hdat, hrows, hp, hpx, hpe, hX, hXd, hXr, hXl2, hpX, hT0, hCl, hT1, hC1, d32, d33, d36, d39]; (repeat' (first | refine hK _ _ ?_ | refine And.intro ?_ ?_ | (intro hc; try subst hc))) <;> (try clear hK K))
            | (refine wreg (mos := q9_2) hE [6] (by kernel_rfl) ?_; intro K hK; simp [q9_2, htw, hlt, hlen, hlen2, hdat, hrows, hp, hpx, hpe, hX, hXd, hXr, hXl2, hpX, hT0, hCl, hT1, hC1, d32, d33, d36, d39]; (repeat' (first | refine hK _ _ ?_ | refine And.intro ?_ ?_ | (intro hc; try subst hc))) <;> (try clear hK K))
            | (refine wreg (mos := q9_3) hE [0, 7] (by kernel_rfl) ?_; intro K hK; simp [q9_3, htw, hlt, hlen, hlen2, hdat, hrows, hp, hpx, hpe, hX, hXd, hXr, hXl2, hpX, hT0, hCl, hT1, hC1, d32, d33, d36, d39]; (repeat' (first | refine hK _ _ ?_ | refine And.intro ?_ ?_ | (intro hc; try subst hc))) <;> (try clear hK K))
            | (refine wreg (mos := q9_4) hE [7, 8, 9] (by kernel_rfl) ?_; intro K hK; simp [q9_4, htw, hlt, hlen, hlen2, hdat, hrows, hp, hpx, hpe, hX, hXd, hXr, hXl2, hpX, hT0, hCl, hT1, hC1, d32, d33, d36, d39]; (repeat' (first | refine hK _ _ ?_ | refine And.intro ?_ ?_ | (intro hc; try subst hc))) <;> (try clear hK K))
            | (refine wreg (mos := q9_5) hE [7, 8, 26] (by kernel_rfl) ?_; intro K hK; simp [q9_5, htw, hlt, hlen, hlen2, hdat, hrows, hp, hpx, hpe, hX, hXd, hXr, hXl2, hpX, hT0, hCl, hT1, hC1, d32, d33, d36, d39]; (repeat' (first | refine hK _ _ ?_ | refine And.intro ?_ ?_ | (intro hc; try subst hc))) <;> (try clear hK K))
            | (refine wreg (mos := q9_6) hE [6] (by kernel_rfl) ?_; intro K hK; simp [q9_6, htw, hlt, hlen, hlen2, hdat, hrows, hp, hpx, hpe, hX, hXd, hXr, hXl2, hpX, hT0, hCl, hT1, hC1, d32, d33, d36, d39]; (repeat' (first | refine hK _ _ ?_ | refine And.intro ?_ ?_ | (intro hc; try subst hc))) <;> (try clear hK K))
            | (refine wreg (mos := q9_7) hE [8, 10, 11] (by kernel_rfl) ?_; intro K hK; simp [q9_7, htw, hlt, hlen, hlen2, hdat, hrows, hp, hpx, hpe, hX, hXd, hXr, hXl2, hpX, hT0, hCl, hT1, hC1, d32, d33, d36, d39]; (repeat' (first | refine hK _ _ ?_ | refine And.intro ?_ ?_ | (intro hc; try subst hc))) <;> (try clear hK K))
            | (refine wreg (mos := q9_8) hE [8, 10, 42] (by kernel_rfl) ?_; intro K hK; simp [q9_8, htw, hlt, hlen, hlen2, hdat, hrows, hp, hpx, hpe, hX, hXd, hXr, hXl2, hpX, hT0, hCl, hT1, hC1, d32, d33, d36, d39]; (repeat' (first | refine hK _ _ ?_ | refine And.intro ?_ ?_ | (intro hc; try subst hc))) <;> (try clear hK K))
            | (refine wreg (mos := q9_9) hE [6] (by kernel_rfl) ?_; intro K hK; simp [q9_9, htw, hlt, hlen, hlen2, hdat, hrows, hp, hpx, hpe, hX, hXd, hXr, hXl2, hpX, hT0, hCl, hT1, hC1, d32, d33, d36, d39]; (repeat' (first | refine hK _ _ ?_ | refine And.intro ?_ ?_ | (intro hc; try subst hc))) <;> (try clear hK K))
            | (refine wreg (mos := q9_10) hE [8, 10, 44, 45] (by kernel_rfl) ?_; intro K hK; simp [q9_10, htw, hlt, hlen, hlen2, hdat, hrows, hp, hpx, hpe, hX, hXd, hXr, hXl2, hpX, hT0, hCl, hT1, hC1, d32, d33, d36, d39]; (repeat' (first | refine hK _ _ ?_ | refine And.intro ?_ ?_ | (intro hc; try subst hc))) <;> (try clear hK K))
            | (refine wreg (mos := q9_11) hE [8, 10, 44, 45, 46] (by kernel_rfl) ?_; intro K hK; simp [q9_11, htw, hlt, hlen, hlen2, hdat, hrows, hp, hpx, hpe, hX, hXd, hXr, hXl2, hpX, hT0, hCl, hT1, hC1, d32, d33, d36, d39]; (repeat' (first | refine hK _ _ ?_ | refine And.intro ?_ ?_ | (intro hc; try subst hc))) <;> (try clear hK K))
            | (refine wreg (mos := q9_12) hE [8, 10, 12, 44, 45] (by kernel_rfl) ?_; intro K hK; simp [q9_12, htw, hlt, hlen, hlen2, hdat, hrows, hp, hpx, hpe, hX, hXd, hXr, hXl2, hpX, hT0, hCl, hT1, hC1, d32, d33, d36, d39]; (repeat' (first | refine hK _ _ ?_ | refine And.intro ?_ ?_ | (intro hc; try subst hc))) <;> (try clear hK K))
            | (refine wdraw (mos := q9_13) hE mixT c9_13 [8, 10, 44, 45, 56] (by kernel_rfl) ?_; intro K hK; simp [q9_13, c9_13, htw, hlt, hlen, hlen2, hdat, hrows, hp, hpx, hpe, hX, hXd, hXr, hXl2, hpX, hT0, hCl, hT1, hC1, d32, d33, d36, d39]; (repeat' (first | refine hK _ _ ?_ | refine And.intro ?_ ?_ | (intro hc; try subst hc))) <;> (try clear hK K))
            | (refine wreg (mos := q9_14) hE [6] (by kernel_rfl) ?_; intro K hK; simp [q9_14, htw, hlt, hlen, hlen2, hdat, hrows, hp, hpx, hpe, hX, hXd, hXr, hXl2, hpX, hT0, hCl, hT1, hC1, d32, d33, d36, d39]; (repeat' (first | refine hK _ _ ?_ | refine And.intro ?_ ?_ | (intro hc; try subst hc))) <;> (try clear hK K))
            | (refine wreg (mos := q9_15) hE [8, 10, 44, 45] (by kernel_rfl) ?_; intro K hK; simp [q9_15, htw, hlt, hlen, hlen2, hdat, hrows, hp, hpx, hpe, hX, hXd, hXr, hXl2, hpX, hT0, hCl, hT1, hC1, d32, d33, d36, d39]; (repeat' (first | refine hK _ _ ?_ | refine And.intro ?_ ?_ | (intro hc; try subst hc))) <;> (try clear hK K))
            | (refine wreg (mos := q9_16) hE [6] (by kernel_rfl) ?_; intro K hK; simp [q9_16, htw, hlt, hlen, hlen2, hdat, hrows, hp, hpx, hpe, hX, hXd, hXr, hXl2, hpX, hT0, hCl, hT1, hC1, d32, d33, d36, d39]; (repeat' (first | refine hK _ _ ?_ | refine And.intro ?_ ?_ | (intro hc; try subst hc))) <;> (try clear hK K))
            | (refine Wm_cond (b := _) (by with_unfolding_all rfl) (fun hc => ?_) (fun hc => ?_) <;> simp at hc <;> (try subst hc)))
          all_goals (refine Wm_loop (I9 X) (fun k => k ≤ X.length) (fun k => X.length - k) 0 (Nat.zero_le _) ?_ ?_)
          · simp only [I9]
            rw [hS]
            refine Imp.auto (by kernel_rfl) ?_ ?_ <;> simp [nmap, lkp, mkPl, prs, prsL, prT, ddL, idL, NLe, CRenL, CRen, Ren, RenL, NObj.none, hT1, hC1]
          · intro k hk
            replace hk : k ≤ X.length := hk
            simp only [I9]
            by_cases hkn : k < X.length
            · obtain ⟨n0, n1, n2, n3, n4, n5, n6, n7, n8, n9, n10, n11, hrow⟩ := row12_ex (List.all_eq_true.1 hXr _ (List.getElem_mem hkn))
              have hrow2 : X[k]? = some [.int .i64 n0, .int .i64 n1, .int .i64 n2, .int .i64 n3, .int .i64 n4, .int .i64 n5, .int .i64 n6, .int .i64 n7, .int .i64 n8, .int .i64 n9, .int .i64 n10, .int .i64 n11] := by rw [List.getElem?_eq_getElem hkn, hrow]
              have hkI : (k : Int) < (X.length : Int) := by omega
              have w1 : IntKind.wrap .i64 ((k : Int) + 1) = (k : Int) + 1 := wrap_in (by omega) (by omega)
              repeat' with_reducible (first
                | refine Wm_seq ?_
                | refine Wm_skip ?_
                | refine Wm_ret ?_
                | refine Wm_block ?_
                | refine Wm_exit ?_
                | refine thenK_normal ?_
                | refine thenK_ret ?_
                | refine thenK_exit ?_
                | refine blockK_normal ?_
                | refine blockK_ret ?_
                | refine blockK_here ?_
                | refine loopK_ret ?_
                | refine loopK_exit ?_
                | refine unK_ret ?_
                | refine unK_exit ?_
                | refine unK_normal ?_
                | refine loopOk_succ ?_
                | refine blockK_exit (by decide) ?_
                | (refine wreg (mos := q9_0) hE [0, 4, 5] (by kernel_rfl) ?_; intro K hK; simp [q9_0, hkn, hkI, hrow, hrow2, w1, d32, d33, d36, d39]; (repeat' (first | refine hK _ _ ?_ | refine And.intro ?_ ?_ | (intro hc; try subst hc))) <;> (try clear hK K))
                | (refine wreg (mos := q9_1) hE [0, 4, 5, 15] (by kernel_rfl) ?_; intro K hK; simp [q9_1, hkn, hkI, hrow, hrow2, w1, d32, d33, d36, d39]; (repeat' (first | refine hK _ _ ?_ | refine And.intro ?_ ?_ | (intro hc; try subst hc))) <;> (try clear hK K))
                | (refine wreg (mos := q9_2) hE [6] (by kernel_rfl) ?_; intro K hK; simp [q9_2, hkn, hkI, hrow, hrow2, w1, d32, d33, d36, d39]; (repeat' (first | refine hK _ _ ?_ | refine And.intro ?_ ?_ | (intro hc; try subst hc))) <;> (try clear hK K))
                | (refine wreg (mos := q9_3) hE [0, 7] (by kernel_rfl) ?_; intro K hK; simp [q9_3, hkn, hkI, hrow, hrow2, w1, d32, d33, d36, d39]; (repeat' (first | refine hK _ _ ?_ | refine And.intro ?_ ?_ | (intro hc; try subst hc))) <;> (try clear hK K))
                | (refine wreg (mos := q9_4) hE [7, 8, 9] (by kernel_rfl) ?_; intro K hK; simp [q9_4, hkn, hkI, hrow, hrow2, w1, d32, d33, d36, d39]; (repeat' (first | refine hK _ _ ?_ | refine And.intro ?_ ?_ | (intro hc; try subst hc))) <;> (try clear hK K))
                | (refine wreg (mos := q9_5) hE [7, 8, 26] (by kernel_rfl) ?_; intro K hK; simp [q9_5, hkn, hkI, hrow, hrow2, w1, d32, d33, d36, d39]; (repeat' (first | refine hK _ _ ?_ | refine And.intro ?_ ?_ | (intro hc; try subst hc))) <;> (try clear hK K))
                | (refine wreg (mos := q9_6) hE [6] (by kernel_rfl) ?_; intro K hK; simp [q9_6, hkn, hkI, hrow, hrow2, w1, d32, d33, d36, d39]; (repeat' (first | refine hK _ _ ?_ | refine And.intro ?_ ?_ | (intro hc; try subst hc))) <;> (try clear hK K))
                | (refine wreg (mos := q9_7) hE [8, 10, 11] (by kernel_rfl) ?_; intro K hK; simp [q9_7, hkn, hkI, hrow, hrow2, w1, d32, d33, d36, d39]; (repeat' (first | refine hK _ _ ?_ | refine And.intro ?_ ?_ | (intro hc; try subst hc))) <;> (try clear hK K))
                | (refine wreg (mos := q9_8) hE [8, 10, 42] (by kernel_rfl) ?_; intro K hK; simp [q9_8, hkn, hkI, hrow, hrow2, w1, d32, d33, d36, d39]; (repeat' (first | refine hK _ _ ?_ | refine And.intro ?_ ?_ | (intro hc; try subst hc))) <;> (try clear hK K))
                | (refine wreg (mos := q9_9) hE [6] (by kernel_rfl) ?_; intro K hK; simp [q9_9, hkn, hkI, hrow, hrow2, w1, d32, d33, d36, d39]; (repeat' (first | refine hK _ _ ?_ | refine And.intro ?_ ?_ | (intro hc; try subst hc))) <;> (try clear hK K))
                | (refine wreg (mos := q9_10) hE [8, 10, 44, 45] (by kernel_rfl) ?_; intro K hK; simp [q9_10, hkn, hkI, hrow, hrow2, w1, d32, d33, d36, d39]; (repeat' (first | refine hK _ _ ?_ | refine And.intro ?_ ?_ | (intro hc; try subst hc))) <;> (try clear hK K))
                | (refine wreg (mos := q9_11) hE [8, 10, 44, 45, 46] (by kernel_rfl) ?_; intro K hK; simp [q9_11, hkn, hkI, hrow, hrow2, w1, d32, d33, d36, d39]; (repeat' (first | refine hK _ _ ?_ | refine And.intro ?_ ?_ | (intro hc; try subst hc))) <;> (try clear hK K))
                | (refine wreg (mos := q9_12) hE [8, 10, 12, 44, 45] (by kernel_rfl) ?_; intro K hK; simp [q9_12, hkn, hkI, hrow, hrow2, w1, d32, d33, d36, d39]; (repeat' (first | refine hK _ _ ?_ | refine And.intro ?_ ?_ | (intro hc; try subst hc))) <;> (try clear hK K))
                | (refine wdraw (mos := q9_13) hE mixT c9_13 [8, 10, 44, 45, 56] (by kernel_rfl) ?_; intro K hK; simp [q9_13, c9_13, hkn, hkI, hrow, hrow2, w1, d32, d33, d36, d39]; (repeat' (first | refine hK _ _ ?_ | refine And.intro ?_ ?_ | (intro hc; try subst hc))) <;> (try clear hK K))
                | (refine wreg (mos := q9_14) hE [6] (by kernel_rfl) ?_; intro K hK; simp [q9_14, hkn, hkI, hrow, hrow2, w1, d32, d33, d36, d39]; (repeat' (first | refine hK _ _ ?_ | refine And.intro ?_ ?_ | (intro hc; try subst hc))) <;> (try clear hK K))
                | (refine wreg (mos := q9_15) hE [8, 10, 44, 45] (by kernel_rfl) ?_; intro K hK; simp [q9_15, hkn, hkI, hrow, hrow2, w1, d32, d33, d36, d39]; (repeat' (first | refine hK _ _ ?_ | refine And.intro ?_ ?_ | (intro hc; try subst hc))) <;> (try clear hK K))
                | (refine wreg (mos := q9_16) hE [6] (by kernel_rfl) ?_; intro K hK; simp [q9_16, hkn, hkI, hrow, hrow2, w1, d32, d33, d36, d39]; (repeat' (first | refine hK _ _ ?_ | refine And.intro ?_ ?_ | (intro hc; try subst hc))) <;> (try clear hK K))
                | (refine Wm_cond (b := _) (by with_unfolding_all rfl) (fun hc => ?_) (fun hc => ?_) <;> simp at hc <;> (try subst hc)))
              all_goals refine ⟨k + 1, hkn, Nat.sub_lt_sub_left hkn (Nat.lt_succ_self k), ?_⟩
              all_goals simp only [I9]
              all_goals rw [hS]
              all_goals (refine Imp.auto (by kernel_rfl) ?_ ?_ <;> simp [nmap, lkp, mkPl, prs, prsL, prT, ddL, idL, NLe, CRenL, CRen, Ren, RenL, NObj.none, hT1, hC1])
            · have hkI : ¬ (k : Int) < (X.length : Int) := by omega
              repeat' with_reducible (first
                | refine Wm_seq ?_
                | refine Wm_skip ?_
                | refine Wm_ret ?_
                | refine Wm_block ?_
                | refine Wm_exit ?_
                | refine thenK_normal ?_
                | refine thenK_ret ?_
                | refine thenK_exit ?_
                | refine blockK_normal ?_
                | refine blockK_ret ?_
                | refine blockK_here ?_
                | refine loopK_ret ?_
                | refine loopK_exit ?_
                | refine unK_ret ?_
                | refine unK_exit ?_
                | refine unK_normal ?_
                | refine loopOk_succ ?_
                | refine blockK_exit (by decide) ?_
                | (refine wreg (mos := q9_0) hE [0, 4, 5] (by kernel_rfl) ?_; intro K hK; simp [q9_0, hkI, d32, d33, d36, d39]; (repeat' (first | refine hK _ _ ?_ | refine And.intro ?_ ?_ | (intro hc; try subst hc))) <;> (try clear hK K))
                | (refine wreg (mos := q9_1) hE [0, 4, 5, 15] (by kernel_rfl) ?_; intro K hK; simp [q9_1, hkI, d32, d33, d36, d39]; (repeat' (first | refine hK _ _ ?_ | refine And.intro ?_ ?_ | (intro hc; try subst hc))) <;> (try clear hK K))
                | (refine wreg (mos := q9_2) hE [6] (by kernel_rfl) ?_; intro K hK; simp [q9_2, hkI, d32, d33, d36, d39]; (repeat' (first | refine hK _ _ ?_ | refine And.intro ?_ ?_ | (intro hc; try subst hc))) <;> (try clear hK K))
                | (refine wreg (mos := q9_3) hE [0, 7] (by kernel_rfl) ?_; intro K hK; simp [q9_3, hkI, d32, d33, d36, d39]; (repeat' (first | refine hK _ _ ?_ | refine And.intro ?_ ?_ | (intro hc; try subst hc))) <;> (try clear hK K))
                | (refine wreg (mos := q9_4) hE [7, 8, 9] (by kernel_rfl) ?_; intro K hK; simp [q9_4, hkI, d32, d33, d36, d39]; (repeat' (first | refine hK _ _ ?_ | refine And.intro ?_ ?_ | (intro hc; try subst hc))) <;> (try clear hK K))
                | (refine wreg (mos := q9_5) hE [7, 8, 26] (by kernel_rfl) ?_; intro K hK; simp [q9_5, hkI, d32, d33, d36, d39]; (repeat' (first | refine hK _ _ ?_ | refine And.intro ?_ ?_ | (intro hc; try subst hc))) <;> (try clear hK K))
                | (refine wreg (mos := q9_6) hE [6] (by kernel_rfl) ?_; intro K hK; simp [q9_6, hkI, d32, d33, d36, d39]; (repeat' (first | refine hK _ _ ?_ | refine And.intro ?_ ?_ | (intro hc; try subst hc))) <;> (try clear hK K))
                | (refine wreg (mos := q9_7) hE [8, 10, 11] (by kernel_rfl) ?_; intro K hK; simp [q9_7, hkI, d32, d33, d36, d39]; (repeat' (first | refine hK _ _ ?_ | refine And.intro ?_ ?_ | (intro hc; try subst hc))) <;> (try clear hK K))
                | (refine wreg (mos := q9_8) hE [8, 10, 42] (by kernel_rfl) ?_; intro K hK; simp [q9_8, hkI, d32, d33, d36, d39]; (repeat' (first | refine hK _ _ ?_ | refine And.intro ?_ ?_ | (intro hc; try subst hc))) <;> (try clear hK K))
                | (refine wreg (mos := q9_9) hE [6] (by kernel_rfl) ?_; intro K hK; simp [q9_9, hkI, d32, d33, d36, d39]; (repeat' (first | refine hK _ _ ?_ | refine And.intro ?_ ?_ | (intro hc; try subst hc))) <;> (try clear hK K))
                | (refine wreg (mos := q9_10) hE [8, 10, 44, 45] (by kernel_rfl) ?_; intro K hK; simp [q9_10, hkI, d32, d33, d36, d39]; (repeat' (first | refine hK _ _ ?_ | refine And.intro ?_ ?_ | (intro hc; try subst hc))) <;> (try clear hK K))
                | (refine wreg (mos := q9_11) hE [8, 10, 44, 45, 46] (by kernel_rfl) ?_; intro K hK; simp [q9_11, hkI, d32, d33, d36, d39]; (repeat' (first | refine hK _ _ ?_ | refine And.intro ?_ ?_ | (intro hc; try subst hc))) <;> (try clear hK K))
                | (refine wreg (mos := q9_12) hE [8, 10, 12, 44, 45] (by kernel_rfl) ?_; intro K hK; simp [q9_12, hkI, d32, d33, d36, d39]; (repeat' (first | refine hK _ _ ?_ | refine And.intro ?_ ?_ | (intro hc; try subst hc))) <;> (try clear hK K))
                | (refine wdraw (mos := q9_13) hE mixT c9_13 [8, 10, 44, 45, 56] (by kernel_rfl) ?_; intro K hK; simp [q9_13, c9_13, hkI, d32, d33, d36, d39]; (repeat' (first | refine hK _ _ ?_ | refine And.intro ?_ ?_ | (intro hc; try subst hc))) <;> (try clear hK K))
                | (refine wreg (mos := q9_14) hE [6] (by kernel_rfl) ?_; intro K hK; simp [q9_14, hkI, d32, d33, d36, d39]; (repeat' (first | refine hK _ _ ?_ | refine And.intro ?_ ?_ | (intro hc; try subst hc))) <;> (try clear hK K))
                | (refine wreg (mos := q9_15) hE [8, 10, 44, 45] (by kernel_rfl) ?_; intro K hK; simp [q9_15, hkI, d32, d33, d36, d39]; (repeat' (first | refine hK _ _ ?_ | refine And.intro ?_ ?_ | (intro hc; try subst hc))) <;> (try clear hK K))
                | (refine wreg (mos := q9_16) hE [6] (by kernel_rfl) ?_; intro K hK; simp [q9_16, hkI, d32, d33, d36, d39]; (repeat' (first | refine hK _ _ ?_ | refine And.intro ?_ ?_ | (intro hc; try subst hc))) <;> (try clear hK K))
                | (refine Wm_cond (b := _) (by with_unfolding_all rfl) (fun hc => ?_) (fun hc => ?_) <;> simp at hc <;> (try subst hc)))
              all_goals first | (simp; done) | (simp at *; omega) | ((try simp); refine Imp.auto (by kernel_rfl) ?_ ?_ <;> simp [nmap, lkp, mkPl, prs, prsL, prT, ddL, idL, NLe, CRenL, CRen, Ren, RenL, NObj.none])
        · have hpe' : p els = false := by simpa using hpe
          unfold m9
          repeat' with_reducible (first
            | refine Wm_seq ?_
            | refine Wm_skip ?_
            | refine Wm_ret ?_
            | refine Wm_block ?_
            | refine Wm_exit ?_
            | refine thenK_normal ?_
            | refine thenK_ret ?_
            | refine thenK_exit ?_
            | refine blockK_normal ?_
            | refine blockK_ret ?_
            | refine blockK_here ?_
            | refine loopK_ret ?_
            | refine loopK_exit ?_
            | refine unK_ret ?_
            | refine unK_exit ?_
            | refine unK_normal ?_
            | refine loopOk_succ ?_
            | refine blockK_exit (by decide) ?_
            | (refine wreg (mos := q9_0) hE [0, 4, 5] (by kernel_rfl) ?_; intro K hK; simp [q9_0, hlt, hlen, hlen2, hdat, hrows, hp, hpx, hpe', hT0, hCl, hnf, d32, d33, d36, d39]; (repeat' (first | refine hK _ _ ?_ | refine And.intro ?_ ?_ | (intro hc; try subst hc))) <;> (try clear hK K))
            | (refine wreg (mos := q9_1) hE [0, 4, 5, 15] (by kernel_rfl) ?_; intro K hK; simp [q9_1, hlt, hlen, hlen2, hdat, hrows, hp, hpx, hpe', hT0, hCl, hnf, d32, d33, d36, d39]; (repeat' (first | refine hK _ _ ?_ | refine And.intro ?_ ?_ | (intro hc; try subst hc))) <;> (try clear hK K))
            | (refine wreg (mos := q9_2) hE [6] (by kernel_rfl) ?_; intro K hK; simp [q9_2, hlt, hlen, hlen2, hdat, hrows, hp, hpx, hpe', hT0, hCl, hnf, d32, d33, d36, d39]; (repeat' (first | refine hK _ _ ?_ | refine And.intro ?_ ?_ | (intro hc; try subst hc))) <;> (try clear hK K))
            | (refine wreg (mos := q9_3) hE [0, 7] (by kernel_rfl) ?_; intro K hK; simp [q9_3, hlt, hlen, hlen2, hdat, hrows, hp, hpx, hpe', hT0, hCl, hnf, d32, d33, d36, d39]; (repeat' (first | refine hK _ _ ?_ | refine And.intro ?_ ?_ | (intro hc; try subst hc))) <;> (try clear hK K))
            | (refine wreg (mos := q9_4) hE [7, 8, 9] (by kernel_rfl) ?_; intro K hK; simp [q9_4, hlt, hlen, hlen2, hdat, hrows, hp, hpx, hpe', hT0, hCl, hnf, d32, d33, d36, d39]; (repeat' (first | refine hK _ _ ?_ | refine And.intro ?_ ?_ | (intro hc; try subst hc))) <;> (try clear hK K))
            | (refine wreg (mos := q9_5) hE [7, 8, 26] (by kernel_rfl) ?_; intro K hK; simp [q9_5, hlt, hlen, hlen2, hdat, hrows, hp, hpx, hpe', hT0, hCl, hnf, d32, d33, d36, d39]; (repeat' (first | refine hK _ _ ?_ | refine And.intro ?_ ?_ | (intro hc; try subst hc))) <;> (try clear hK K))
            | (refine wreg (mos := q9_6) hE [6] (by kernel_rfl) ?_; intro K hK; simp [q9_6, hlt, hlen, hlen2, hdat, hrows, hp, hpx, hpe', hT0, hCl, hnf, d32, d33, d36, d39]; (repeat' (first | refine hK _ _ ?_ | refine And.intro ?_ ?_ | (intro hc; try subst hc))) <;> (try clear hK K))
            | (refine wreg (mos := q9_7) hE [8, 10, 11] (by kernel_rfl) ?_; intro K hK; simp [q9_7, hlt, hlen, hlen2, hdat, hrows, hp, hpx, hpe', hT0, hCl, hnf, d32, d33, d36, d39]; (repeat' (first | refine hK _ _ ?_ | refine And.intro ?_ ?_ | (intro hc; try subst hc))) <;> (try clear hK K))
            | (refine wreg (mos := q9_8) hE [8, 10, 42] (by kernel_rfl) ?_; intro K hK; simp [q9_8, hlt, hlen, hlen2, hdat, hrows, hp, hpx, hpe', hT0, hCl, hnf, d32, d33, d36, d39]; (repeat' (first | refine hK _ _ ?_ | refine And.intro ?_ ?_ | (intro hc; try subst hc))) <;> (try clear hK K))
            | (refine wreg (mos := q9_9) hE [6] (by kernel_rfl) ?_; intro K hK; simp [q9_9, hlt, hlen, hlen2, hdat, hrows, hp, hpx, hpe', hT0, hCl, hnf, d32, d33, d36, d39]; (repeat' (first | refine hK _ _ ?_ | refine And.intro ?_ ?_ | (intro hc; try subst hc))) <;> (try clear hK K))
            | (refine wreg (mos := q9_10) hE [8, 10, 44, 45] (by kernel_rfl) ?_; intro K hK; simp [q9_10, hlt, hlen, hlen2, hdat, hrows, hp, hpx, hpe', hT0, hCl, hnf, d32, d33, d36, d39]; (repeat' (first | refine hK _ _ ?_ | refine And.intro ?_ ?_ | (intro hc; try subst hc))) <;> (try clear hK K))
            | (refine wreg (mos := q9_11) hE [8, 10, 44, 45, 46] (by kernel_rfl) ?_; intro K hK; simp [q9_11, hlt, hlen, hlen2, hdat, hrows, hp, hpx, hpe', hT0, hCl, hnf, d32, d33, d36, d39]; (repeat' (first | refine hK _ _ ?_ | refine And.intro ?_ ?_ | (intro hc; try subst hc))) <;> (try clear hK K))
            | (refine wreg (mos := q9_12) hE [8, 10, 12, 44, 45] (by kernel_rfl) ?_; intro K hK; simp [q9_12, hlt, hlen, hlen2, hdat, hrows, hp, hpx, hpe', hT0, hCl, hnf, d32, d33, d36, d39]; (repeat' (first | refine hK _ _ ?_ | refine And.intro ?_ ?_ | (intro hc; try subst hc))) <;> (try clear hK K))
            | (refine wdraw (mos := q9_13) hE mixT c9_13 [8, 10, 44, 45, 56] (by kernel_rfl) ?_; intro K hK; simp [q9_13, c9_13, hlt, hlen, hlen2, hdat, hrows, hp, hpx, hpe', hT0, hCl, hnf, d32, d33, d36, d39]; (repeat' (first | refine hK _ _ ?_ | refine And.intro ?_ ?_ | (intro hc; try subst hc))) <;> (try clear hK K))
            | (refine wreg (mos := q9_14) hE [6] (by kernel_rfl) ?_; intro K hK; simp [q9_14, hlt, hlen, hlen2, hdat, hrows, hp, hpx, hpe', hT0, hCl, hnf, d32, d33, d36, d39]; (repeat' (first | refine hK _ _ ?_ | refine And.intro ?_ ?_ | (intro hc; try subst hc))) <;> (try clear hK K))
            | (refine wreg (mos := q9_15) hE [8, 10, 44, 45] (by kernel_rfl) ?_; intro K hK; simp [q9_15, hlt, hlen, hlen2, hdat, hrows, hp, hpx, hpe', hT0, hCl, hnf, d32, d33, d36, d39]; (repeat' (first | refine hK _ _ ?_ | refine And.intro ?_ ?_ | (intro hc; try subst hc))) <;> (try clear hK K))
            | (refine wreg (mos := q9_16) hE [6] (by kernel_rfl) ?_; intro K hK; simp [q9_16, hlt, hlen, hlen2, hdat, hrows, hp, hpx, hpe', hT0, hCl, hnf, d32, d33, d36, d39]; (repeat' (first | refine hK _ _ ?_ | refine And.intro ?_ ?_ | (intro hc; try subst hc))) <;> (try clear hK K))
            | (refine Wm_cond (b := _) (by with_unfolding_all rfl) (fun hc => ?_) (fun hc => ?_) <;> simp at hc <;> (try subst hc)))
          all_goals first | (simp; done) | (simp at *; omega) | ((try simp); refine Imp.auto (by kernel_rfl) ?_ ?_ <;> simp [nmap, lkp, mkPl, prs, prsL, prT, ddL, idL, NLe, CRenL, CRen, Ren, RenL, NObj.none])
    · cases h
  · cases h
end Go.W
