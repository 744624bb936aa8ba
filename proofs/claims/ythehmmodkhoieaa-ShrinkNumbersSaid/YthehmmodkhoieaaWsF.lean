import Derived.Test.YthehmmodkhoieaaWsE
namespace Go.W
open Go.Proofs
set_option linter.unusedSimpArgs false
set_option linter.unusedVariables false
set_option maxHeartbeats 8000000
attribute [local irreducible] Wm

def d37 : List AV → List NObj → Option AV
  | [.sl (.top 0) 0 l, .int .i64 f], [.view 0 12 els] => if l = els.length ∧ els.all row12 = true ∧ els.length ≤ 200000 ∧ 0 ≤ f ∧ f < els.length then some (.os 0 12 (delZ els f.toNat 1)) else none
  | _, _ => none

theorem ok37 : ROk d37 := by
  intro xs os r h
  unfold d37 at h
  (repeat' (split at h)) <;> first | (cases h; done) | ((rename_i hc; injection h with h; subst h; simp [rows_dat (rows_del hc.2.1 _ _)]))
theorem s37 : Sound Try.prog 37 (rdS d37 ok37) := by
  refine rd_sound Try.func37 nm37 rc37 rv37 ok37 fun xs os r h vs ρ0 hvs => ⟨xs, ?_, fun _ h => h, fun w0 S hS => ?_⟩
  · unfold d37 at h
    (repeat' (split at h)) <;> first | (cases h; done) | exact Nat.le_of_ble_eq_true rfl
  unfold d37 at h
  split at h
  · split at h
    · rename_i l f els hcond
      injection h with h
      subst h
      have hE : SoundAll Try.prog (EL []) := EL_sound (by simp)
      obtain ⟨rfl, hrows, hlen, hf0, hf1⟩ := hcond
      obtain ⟨a, rfl⟩ : ∃ a : Nat, f = (a : Int) := ⟨f.toNat, by omega⟩
      have hdat := rows_dat hrows
      have w1 : IntKind.wrap .i64 ((a : Int) + 1) = (a : Int) + 1 := wrap_in (by omega) (by omega)
      have ha : a ≤ els.length := by omega
      have ha1 : a + 1 ≤ els.length := by omega
      have hf2 : (a : Int) ≤ els.length := by omega
      have hf3 : (a : Int) + 1 ≤ els.length := by omega
      have hf4 : (0 : Int) ≤ (a : Int) + 1 := by omega
      have e2 : ((a : Int) + 1).toNat = a + 1 := by omega
      have hre : delZ els a 1 = els.take a ++ els.drop (a + 1) := rfl
      have hdr := rows_del hrows a 1
      rw [hre] at hdr
      have hT0 := rows_t0 hdr
      have hCl := rows_cl hdr
      have hm1 : min a els.length = a := Nat.min_eq_left ha
      have hP1 := rows_pl (rows_take hrows a)
      have hP2 := rows_pl (rows_drop hrows (a + 1))
      have htd : (els.drop (a + 1)).take (els.length - (a + 1)) = els.drop (a + 1) := List.take_of_length_le (by rw [List.length_drop]; omega)
      have ht1 := fun n => rows_tl (n := n) (rows_take hrows a)
      have hi4 : a + 1 + (els.length - (a + 1)) ≤ els.length := by omega
      have hb1 : a * 96 ≤ 140737488355328 := by omega
      have hb2 : a ≤ 9223372036854775807 := by omega
      have hb3 : (a + (els.length - (a + 1))) * 96 ≤ 140737488355328 := by omega
      have hb4 : a + (els.length - (a + 1)) ≤ 9223372036854775807 := by omega
      unfold m37
      repeat' with_reducible (first
        | refine Wm_seq ?_
        | refine Wm_skip ?_
        | refine Wm_ret ?_
        | refine Wm_block ?_
        | refine Wm_exit ?_
        | refine thenK_normal ?_
        | refine thenK_ret ?_
        | refine thenK_exit ?_
        | refine blockK_normal ?_
        | refine blockK_ret ?_
        | refine blockK_here ?_
        | refine loopK_ret ?_
        | refine loopK_exit ?_
        | refine unK_ret ?_
        | refine unK_exit ?_
        | refine unK_normal ?_
        | refine loopOk_succ ?_
        | refine blockK_exit (by decide) ?_
        | (refine wreg (mos := q37_0) hE [0, 1] (by kernel_rfl) ?_; intro K hK; simp [q37_0, w1, hf1, hf2, hf3, hf4, e2, htd, hm1, ha, ha1, hP1, hP2, ht1, hi4, hb1, hb2, hb3, hb4]; (repeat' (first | refine hK _ _ ?_ | refine And.intro ?_ ?_ | (intro hc; try subst hc))) <;> (try clear hK K))
        | (refine wdraw (mos := q37_1) hE mixT c37_1 [4] (by kernel_rfl) ?_; intro K hK; simp [q37_1, c37_1, w1, hf1, hf2, hf3, hf4, e2, htd, hm1, ha, ha1, hP1, hP2, ht1, hi4, hb1, hb2, hb3, hb4]; (repeat' (first | refine hK _ _ ?_ | refine And.intro ?_ ?_ | (intro hc; try subst hc))) <;> (try clear hK K))
        | (refine Wm_cond (b := _) (by with_unfolding_all rfl) (fun hc => ?_) (fun hc => ?_) <;> simp at hc <;> (try subst hc)))
      all_goals first | (simp; done) | (simp at *; omega) | ((try simp[hT0, hCl, hre, hm1]); refine Imp.auto (by kernel_rfl) ?_ ?_ <;> simp [nmap, lkp, mkPl, prs, prsL, prT, ddL, idL, NLe, CRenL, CRen, Ren, RenL, NObj.none, hT0, hCl, hre, hm1])
    · cases h
  · cases h

/-- Are two rows the same? -/
def eqB (a b : List AV) : Bool := match eqL [.i, .i, .i, .i, .i, .i, .i, .i, .i, .i, .i, .i] a b with
  | some b => b
  | none => false

def stepR (A : List (List AV)) (i : Nat) (c : List AV) : Nat := if i < A.length then (if eqB (A.getD i []) c = true then i + 1 else i) else i
def scanR (A L : List (List AV)) : Nat := L.foldl (stepR A) 0

theorem stepR_le {A : List (List AV)} {i : Nat} {c : List AV} (h : i ≤ A.length) : stepR A i c ≤ A.length := by
  unfold stepR
  repeat' split
  all_goals omega

theorem foldR_le {A : List (List AV)} : ∀ (L : List (List AV)) (i : Nat), i ≤ A.length → L.foldl (stepR A) i ≤ A.length
  | [], i, h => h
  | c :: r, i, h => foldR_le r _ (stepR_le h)

theorem scanR_succ {A L : List (List AV)} {k : Nat} {c : List AV} (h : L[k]? = some c) : scanR A (L.take (k + 1)) = stepR A (scanR A (L.take k)) c := by
  unfold scanR
  rw [List.take_add_one, h, Option.toList_some, List.foldl_append]; rfl

theorem eqB_iff {a b : List AV} (ha : row12 a = true) (hb : row12 b = true) : eqB a b = true ↔ a = b := by
  obtain ⟨n0, n1, n2, n3, n4, n5, n6, n7, n8, n9, n10, n11, rfl⟩ := row12_ex ha
  obtain ⟨m0, m1, m2, m3, m4, m5, m6, m7, m8, m9, m10, m11, rfl⟩ := row12_ex hb
  simp [eqB, eqL, eq1]

/-- A row that stands in another one, in order, is found. -/
theorem fold_sub {A : List (List AV)} (hA : A.all row12 = true) : ∀ (L : List (List AV)) (i : Nat), L.all row12 = true → i ≤ A.length → (A.drop i).Sublist L → L.foldl (stepR A) i = A.length
  | [], i, _, hi, h => by
    have := List.sublist_nil.1 h
    have h2 := List.drop_eq_nil_iff.1 this
    simp only [List.foldl_nil]; omega
  | c :: r, i, hL, hi, h => by
    simp only [List.all_cons, Bool.and_eq_true] at hL
    rw [List.foldl_cons]
    by_cases hlt : i < A.length
    · rw [List.drop_eq_getElem_cons hlt] at h
      have hr : row12 A[i] = true := List.all_eq_true.1 hA _ (List.getElem_mem hlt)
      by_cases he : A[i] = c
      · have e : stepR A i c = i + 1 := by
          unfold stepR
          rw [if_pos hlt, List.getD_eq_getElem?_getD, List.getElem?_eq_getElem hlt, Option.getD_some, if_pos ((eqB_iff hr hL.1).2 he)]
        rw [e]
        rw [he] at h
        exact fold_sub hA r (i + 1) hL.2 hlt (List.cons_sublist_cons.1 h)
      · have e : stepR A i c = i := by
          unfold stepR
          rw [if_pos hlt, List.getD_eq_getElem?_getD, List.getElem?_eq_getElem hlt, Option.getD_some, if_neg (fun h => he ((eqB_iff hr hL.1).1 h))]
        rw [e]
        refine fold_sub hA r i hL.2 hi ?_
        rw [List.drop_eq_getElem_cons hlt]
        cases h with
        | cons _ h => exact h
        | cons_cons _ h => exact absurd rfl he
    · have e : stepR A i c = i := by unfold stepR; rw [if_neg hlt]
      rw [e]
      refine fold_sub hA r i hL.2 hi ?_
      rw [List.drop_of_length_le (by omega)]
      exact List.nil_sublist _

theorem scanR_sub {A L : List (List AV)} (hA : A.all row12 = true) (hL : L.all row12 = true) (h : A.Sublist L) : scanR A L = A.length := fold_sub hA L 0 hL (Nat.zero_le _) (by simpa using h)

def d38 : List AV → List NObj → Option AV
  | [.sl (.top 0) 0 n, .sl (.top 1) 0 m], [.view 0 12 A, .view 0 12 L] => if n = A.length ∧ m = L.length ∧ A.all row12 = true ∧ L.all row12 = true ∧ A.length ≤ 200000 ∧ L.length ≤ 200000 then some (.bool (decide (scanR A L = A.length))) else none
  | _, _ => none

def I38 (A L : List (List AV)) (k : Nat) : St := ⟨[(0, .sl (.top 0) 0 A.length), (5, .int .i64 (scanR A (L.take k) : Nat)), (8, .sl (.top 1) 0 L.length), (9, .int .i64 L.length), (10, .int .i64 k)], [(0, .view 0 12 A), (1, .view 0 12 L)], 2⟩

theorem ok38 : ROk d38 := by
  intro xs os r h
  unfold d38 at h
  (repeat' (split at h)) <;> first | (cases h; done) | (injection h with h; subst h; simp)
theorem s38 : Sound Try.prog 38 (rdS d38 ok38) := by
  refine rd_sound Try.func38 nm38 rc38 rv38 ok38 fun xs os r h vs ρ0 hvs => ⟨xs, ?_, fun _ h => h, fun w0 S hS => ?_⟩
  · unfold d38 at h
    (repeat' (split at h)) <;> first | (cases h; done) | exact Nat.le_of_ble_eq_true rfl
  unfold d38 at h
  split at h
  · split at h
    · rename_i n m A L hcond
      injection h with h
      subst h
      have hE : SoundAll Try.prog (EL []) := EL_sound (by simp)
      obtain ⟨rfl, rfl, hA, hL, hlA, hlL⟩ := hcond
      have hT0 := rows_t0 hA
      have hCl := rows_cl hA
      have hT1 := rows_t0 hL
      have hC1 := rows_cl hL
      unfold m38
      repeat' with_reducible (first
        | refine Wm_seq ?_
        | refine Wm_skip ?_
        | refine Wm_ret ?_
        | refine Wm_block ?_
        | refine Wm_exit ?_
        | refine thenK_normal ?_
        | refine thenK_ret ?_
        | refine thenK_exit ?_
        | refine blockK_normal ?_
        | refine blockK_ret ?_
        | refine blockK_here ?_
        | refine loopK_ret ?_
        | refine loopK_exit ?_
        | refine unK_ret ?_
        | refine unK_exit ?_
        | refine unK_normal ?_
        | refine loopOk_succ ?_
        | refine blockK_exit (by decide) ?_
        | (refine wreg (mos := q38_0) hE [0, 1] (by kernel_rfl) ?_; intro K hK; simp [q38_0]; (repeat' (first | refine hK _ _ ?_ | refine And.intro ?_ ?_ | (intro hc; try subst hc))) <;> (try clear hK K))
        | (refine wreg (mos := q38_1) hE [0, 1, 5] (by kernel_rfl) ?_; intro K hK; simp [q38_1]; (repeat' (first | refine hK _ _ ?_ | refine And.intro ?_ ?_ | (intro hc; try subst hc))) <;> (try clear hK K))
        | (refine wreg (mos := q38_2) hE [0, 5, 8, 9, 10] (by kernel_rfl) ?_; intro K hK; simp [q38_2]; (repeat' (first | refine hK _ _ ?_ | refine And.intro ?_ ?_ | (intro hc; try subst hc))) <;> (try clear hK K))
        | (refine wreg (mos := q38_3) hE [0, 5, 8, 9, 10, 11, 19, 20, 21, 22, 23, 24] (by kernel_rfl) ?_; intro K hK; simp [q38_3]; (repeat' (first | refine hK _ _ ?_ | refine And.intro ?_ ?_ | (intro hc; try subst hc))) <;> (try clear hK K))
        | (refine wreg (mos := q38_4) hE [0, 5, 7, 8, 9, 10, 19, 20, 21, 22, 23, 24] (by kernel_rfl) ?_; intro K hK; simp [q38_4]; (repeat' (first | refine hK _ _ ?_ | refine And.intro ?_ ?_ | (intro hc; try subst hc))) <;> (try clear hK K))
        | (refine wdraw (mos := q38_5) hE mixT c38_5 [0, 5, 8, 9, 10, 19, 20, 21, 22, 23, 24, 25] (by kernel_rfl) ?_; intro K hK; simp [q38_5, c38_5]; (repeat' (first | refine hK _ _ ?_ | refine And.intro ?_ ?_ | (intro hc; try subst hc))) <;> (try clear hK K))
        | (refine wreg (mos := q38_6) hE [0, 5, 8, 9, 10, 19, 20, 21, 22, 23, 24] (by kernel_rfl) ?_; intro K hK; simp [q38_6]; (repeat' (first | refine hK _ _ ?_ | refine And.intro ?_ ?_ | (intro hc; try subst hc))) <;> (try clear hK K))
        | (refine wreg (mos := q38_7) hE [0, 5, 8, 9, 10, 19, 20, 21, 22, 23, 24] (by kernel_rfl) ?_; intro K hK; simp [q38_7]; (repeat' (first | refine hK _ _ ?_ | refine And.intro ?_ ?_ | (intro hc; try subst hc))) <;> (try clear hK K))
        | (refine wreg (mos := q38_8) hE [4] (by kernel_rfl) ?_; intro K hK; simp [q38_8]; (repeat' (first | refine hK _ _ ?_ | refine And.intro ?_ ?_ | (intro hc; try subst hc))) <;> (try clear hK K))
        | (refine Wm_cond (b := _) (by with_unfolding_all rfl) (fun hc => ?_) (fun hc => ?_) <;> simp at hc <;> (try subst hc)))
      all_goals (refine Wm_loop (I38 A L) (fun k => k ≤ L.length) (fun k => L.length - k) 0 (Nat.zero_le _) ?_ ?_)
      · simp only [I38]
        rw [hS]
        refine Imp.auto (by kernel_rfl) ?_ ?_ <;> simp [nmap, lkp, mkPl, prs, prsL, prT, ddL, idL, NLe, CRenL, CRen, Ren, RenL, NObj.none, hT0, hCl, hT1, hC1, scanR]
      · intro k hk
        replace hk : k ≤ L.length := hk
        simp only [I38]
        have hsle : scanR A (L.take k) ≤ A.length := foldR_le _ _ (Nat.zero_le _)
        by_cases hkn : k < L.length
        · obtain ⟨m0, m1, m2, m3, m4, m5, m6, m7, m8, m9, m10, m11, hrow⟩ := row12_ex (List.all_eq_true.1 hL _ (List.getElem_mem hkn))
          have hrow2 : L[k]? = some [.int .i64 m0, .int .i64 m1, .int .i64 m2, .int .i64 m3, .int .i64 m4, .int .i64 m5, .int .i64 m6, .int .i64 m7, .int .i64 m8, .int .i64 m9, .int .i64 m10, .int .i64 m11] := by rw [List.getElem?_eq_getElem hkn, hrow]
          have hsucc := scanR_succ (A := A) hrow2
          have hkI : (k : Int) < (L.length : Int) := by omega
          have w1 : IntKind.wrap .i64 ((k : Int) + 1) = (k : Int) + 1 := wrap_in (by omega) (by omega)
          obtain ⟨i, hi⟩ : ∃ i, scanR A (L.take k) = i := ⟨_, rfl⟩
          rw [hi] at hsucc hsle ⊢
          have w2 : IntKind.wrap .i64 ((i : Int) + 1) = (i : Int) + 1 := wrap_in (by omega) (by omega)
          by_cases hia : i < A.length
          · have hiI : (i : Int) < (A.length : Int) := by omega
            obtain ⟨n0, n1, n2, n3, n4, n5, n6, n7, n8, n9, n10, n11, hrwa⟩ := row12_ex (List.all_eq_true.1 hA _ (List.getElem_mem hia))
            have hrwa2 : A[i]? = some [.int .i64 n0, .int .i64 n1, .int .i64 n2, .int .i64 n3, .int .i64 n4, .int .i64 n5, .int .i64 n6, .int .i64 n7, .int .i64 n8, .int .i64 n9, .int .i64 n10, .int .i64 n11] := by rw [List.getElem?_eq_getElem hia, hrwa]
            simp only [stepR, if_pos hia, List.getD_eq_getElem?_getD, hrwa2, Option.getD_some] at hsucc
            by_cases hall : n0 = m0 ∧ n1 = m1 ∧ n2 = m2 ∧ n3 = m3 ∧ n4 = m4 ∧ n5 = m5 ∧ n6 = m6 ∧ n7 = m7 ∧ n8 = m8 ∧ n9 = m9 ∧ n10 = m10 ∧ n11 = m11
            · obtain ⟨rfl, rfl, rfl, rfl, rfl, rfl, rfl, rfl, rfl, rfl, rfl, rfl⟩ := hall
              have he : eqB [.int .i64 n0, .int .i64 n1, .int .i64 n2, .int .i64 n3, .int .i64 n4, .int .i64 n5, .int .i64 n6, .int .i64 n7, .int .i64 n8, .int .i64 n9, .int .i64 n10, .int .i64 n11] [.int .i64 n0, .int .i64 n1, .int .i64 n2, .int .i64 n3, .int .i64 n4, .int .i64 n5, .int .i64 n6, .int .i64 n7, .int .i64 n8, .int .i64 n9, .int .i64 n10, .int .i64 n11] = true := (eqB_iff rfl rfl).2 rfl
              rw [if_pos he] at hsucc
              repeat' with_reducible (first
                | refine Wm_seq ?_
                | refine Wm_skip ?_
                | refine Wm_ret ?_
                | refine Wm_block ?_
                | refine Wm_exit ?_
                | refine thenK_normal ?_
                | refine thenK_ret ?_
                | refine thenK_exit ?_
                | refine blockK_normal ?_
                | refine blockK_ret ?_
                | refine blockK_here ?_
                | refine loopK_ret ?_
                | refine loopK_exit ?_
                | refine unK_ret ?_
                | refine unK_exit ?_
                | refine unK_normal ?_
                | refine loopOk_succ ?_
                | refine blockK_exit (by decide) ?_
                | (refine wreg (mos := q38_0) hE [0, 1] (by kernel_rfl) ?_; intro K hK; simp [q38_0, hkn, hkI, hrow, hrow2, w1, w2, hia, hiI, hrwa, hrwa2]; (repeat' (first | refine hK _ _ ?_ | refine And.intro ?_ ?_ | (intro hc; try subst hc))) <;> (try clear hK K))
                | (refine wreg (mos := q38_1) hE [0, 1, 5] (by kernel_rfl) ?_; intro K hK; simp [q38_1, hkn, hkI, hrow, hrow2, w1, w2, hia, hiI, hrwa, hrwa2]; (repeat' (first | refine hK _ _ ?_ | refine And.intro ?_ ?_ | (intro hc; try subst hc))) <;> (try clear hK K))
                | (refine wreg (mos := q38_2) hE [0, 5, 8, 9, 10] (by kernel_rfl) ?_; intro K hK; simp [q38_2, hkn, hkI, hrow, hrow2, w1, w2, hia, hiI, hrwa, hrwa2]; (repeat' (first | refine hK _ _ ?_ | refine And.intro ?_ ?_ | (intro hc; try subst hc))) <;> (try clear hK K))
                | (refine wreg (mos := q38_3) hE [0, 5, 8, 9, 10, 11, 19, 20, 21, 22, 23, 24] (by kernel_rfl) ?_; intro K hK; simp [q38_3, hkn, hkI, hrow, hrow2, w1, w2, hia, hiI, hrwa, hrwa2]; (repeat' (first | refine hK _ _ ?_ | refine And.intro ?_ ?_ | (intro hc; try subst hc))) <;> (try clear hK K))
                | (refine wreg (mos := q38_4) hE [0, 5, 7, 8, 9, 10, 19, 20, 21, 22, 23, 24] (by kernel_rfl) ?_; intro K hK; simp [q38_4, hkn, hkI, hrow, hrow2, w1, w2, hia, hiI, hrwa, hrwa2]; (repeat' (first | refine hK _ _ ?_ | refine And.intro ?_ ?_ | (intro hc; try subst hc))) <;> (try clear hK K))
                | (refine wdraw (mos := q38_5) hE mixT c38_5 [0, 5, 8, 9, 10, 19, 20, 21, 22, 23, 24, 25] (by kernel_rfl) ?_; intro K hK; simp [q38_5, c38_5, hkn, hkI, hrow, hrow2, w1, w2, hia, hiI, hrwa, hrwa2]; (repeat' (first | refine hK _ _ ?_ | refine And.intro ?_ ?_ | (intro hc; try subst hc))) <;> (try clear hK K))
                | (refine wreg (mos := q38_6) hE [0, 5, 8, 9, 10, 19, 20, 21, 22, 23, 24] (by kernel_rfl) ?_; intro K hK; simp [q38_6, hkn, hkI, hrow, hrow2, w1, w2, hia, hiI, hrwa, hrwa2]; (repeat' (first | refine hK _ _ ?_ | refine And.intro ?_ ?_ | (intro hc; try subst hc))) <;> (try clear hK K))
                | (refine wreg (mos := q38_7) hE [0, 5, 8, 9, 10, 19, 20, 21, 22, 23, 24] (by kernel_rfl) ?_; intro K hK; simp [q38_7, hkn, hkI, hrow, hrow2, w1, w2, hia, hiI, hrwa, hrwa2]; (repeat' (first | refine hK _ _ ?_ | refine And.intro ?_ ?_ | (intro hc; try subst hc))) <;> (try clear hK K))
                | (refine wreg (mos := q38_8) hE [4] (by kernel_rfl) ?_; intro K hK; simp [q38_8, hkn, hkI, hrow, hrow2, w1, w2, hia, hiI, hrwa, hrwa2]; (repeat' (first | refine hK _ _ ?_ | refine And.intro ?_ ?_ | (intro hc; try subst hc))) <;> (try clear hK K))
                | (refine Wm_cond (b := _) (by with_unfolding_all rfl) (fun hc => ?_) (fun hc => ?_) <;> simp at hc <;> (try subst hc)))
              all_goals refine ⟨k + 1, hkn, Nat.sub_lt_sub_left hkn (Nat.lt_succ_self k), ?_⟩
              all_goals simp only [I38]
              all_goals rw [hS]
              all_goals (refine Imp.auto (by kernel_rfl) ?_ ?_ <;> simp [nmap, lkp, mkPl, prs, prsL, prT, ddL, idL, NLe, CRenL, CRen, Ren, RenL, NObj.none, hT0, hCl, hT1, hC1, hsucc])
            · have he : ¬ eqB [.int .i64 n0, .int .i64 n1, .int .i64 n2, .int .i64 n3, .int .i64 n4, .int .i64 n5, .int .i64 n6, .int .i64 n7, .int .i64 n8, .int .i64 n9, .int .i64 n10, .int .i64 n11] [.int .i64 m0, .int .i64 m1, .int .i64 m2, .int .i64 m3, .int .i64 m4, .int .i64 m5, .int .i64 m6, .int .i64 m7, .int .i64 m8, .int .i64 m9, .int .i64 m10, .int .i64 m11] = true := fun h => hall (by have := (eqB_iff rfl rfl).1 h; simpa using this)
              rw [if_neg he] at hsucc
              repeat' with_reducible (first
                | refine Wm_seq ?_
                | refine Wm_skip ?_
                | refine Wm_ret ?_
                | refine Wm_block ?_
                | refine Wm_exit ?_
                | refine thenK_normal ?_
                | refine thenK_ret ?_
                | refine thenK_exit ?_
                | refine blockK_normal ?_
                | refine blockK_ret ?_
                | refine blockK_here ?_
                | refine loopK_ret ?_
                | refine loopK_exit ?_
                | refine unK_ret ?_
                | refine unK_exit ?_
                | refine unK_normal ?_
                | refine loopOk_succ ?_
                | refine blockK_exit (by decide) ?_
                | (refine wreg (mos := q38_0) hE [0, 1] (by kernel_rfl) ?_; intro K hK; simp [q38_0, hkn, hkI, hrow, hrow2, w1, w2, hia, hiI, hrwa, hrwa2]; (repeat' (first | refine hK _ _ ?_ | refine And.intro ?_ ?_ | (intro hc; try subst hc))) <;> (try clear hK K))
                | (refine wreg (mos := q38_1) hE [0, 1, 5] (by kernel_rfl) ?_; intro K hK; simp [q38_1, hkn, hkI, hrow, hrow2, w1, w2, hia, hiI, hrwa, hrwa2]; (repeat' (first | refine hK _ _ ?_ | refine And.intro ?_ ?_ | (intro hc; try subst hc))) <;> (try clear hK K))
                | (refine wreg (mos := q38_2) hE [0, 5, 8, 9, 10] (by kernel_rfl) ?_; intro K hK; simp [q38_2, hkn, hkI, hrow, hrow2, w1, w2, hia, hiI, hrwa, hrwa2]; (repeat' (first | refine hK _ _ ?_ | refine And.intro ?_ ?_ | (intro hc; try subst hc))) <;> (try clear hK K))
                | (refine wreg (mos := q38_3) hE [0, 5, 8, 9, 10, 11, 19, 20, 21, 22, 23, 24] (by kernel_rfl) ?_; intro K hK; simp [q38_3, hkn, hkI, hrow, hrow2, w1, w2, hia, hiI, hrwa, hrwa2]; (repeat' (first | refine hK _ _ ?_ | refine And.intro ?_ ?_ | (intro hc; try subst hc))) <;> (try clear hK K))
                | (refine wreg (mos := q38_4) hE [0, 5, 7, 8, 9, 10, 19, 20, 21, 22, 23, 24] (by kernel_rfl) ?_; intro K hK; simp [q38_4, hkn, hkI, hrow, hrow2, w1, w2, hia, hiI, hrwa, hrwa2]; (repeat' (first | refine hK _ _ ?_ | refine And.intro ?_ ?_ | (intro hc; try subst hc))) <;> (try clear hK K))
                | (refine wdraw (mos := q38_5) hE mixT c38_5 [0, 5, 8, 9, 10, 19, 20, 21, 22, 23, 24, 25] (by kernel_rfl) ?_; intro K hK; simp [q38_5, c38_5, hkn, hkI, hrow, hrow2, w1, w2, hia, hiI, hrwa, hrwa2]; (repeat' (first | refine hK _ _ ?_ | refine And.intro ?_ ?_ | (intro hc; try subst hc))) <;> (try clear hK K))
                | (refine wreg (mos := q38_6) hE [0, 5, 8, 9, 10, 19, 20, 21, 22, 23, 24] (by kernel_rfl) ?_; intro K hK; simp [q38_6, hkn, hkI, hrow, hrow2, w1, w2, hia, hiI, hrwa, hrwa2]; (repeat' (first | refine hK _ _ ?_ | refine And.intro ?_ ?_ | (intro hc; try subst hc))) <;> (try clear hK K))
                | (refine wreg (mos := q38_7) hE [0, 5, 8, 9, 10, 19, 20, 21, 22, 23, 24] (by kernel_rfl) ?_; intro K hK; simp [q38_7, hkn, hkI, hrow, hrow2, w1, w2, hia, hiI, hrwa, hrwa2]; (repeat' (first | refine hK _ _ ?_ | refine And.intro ?_ ?_ | (intro hc; try subst hc))) <;> (try clear hK K))
                | (refine wreg (mos := q38_8) hE [4] (by kernel_rfl) ?_; intro K hK; simp [q38_8, hkn, hkI, hrow, hrow2, w1, w2, hia, hiI, hrwa, hrwa2]; (repeat' (first | refine hK _ _ ?_ | refine And.intro ?_ ?_ | (intro hc; try subst hc))) <;> (try clear hK K))
                | (refine Wm_cond (b := _) (by with_unfolding_all rfl) (fun hc => ?_) (fun hc => ?_) <;> simp at hc <;> (try subst hc)))
              all_goals first | (exfalso; exact hall hc) | skip
              all_goals refine ⟨k + 1, hkn, Nat.sub_lt_sub_left hkn (Nat.lt_succ_self k), ?_⟩
              all_goals simp only [I38]
              all_goals rw [hS]
              all_goals (refine Imp.auto (by kernel_rfl) ?_ ?_ <;> simp [nmap, lkp, mkPl, prs, prsL, prT, ddL, idL, NLe, CRenL, CRen, Ren, RenL, NObj.none, hT0, hCl, hT1, hC1, hsucc])
          · have hiI : ¬ (i : Int) < (A.length : Int) := by omega
            simp only [stepR, if_neg hia] at hsucc
            repeat' with_reducible (first
              | refine Wm_seq ?_
              | refine Wm_skip ?_
              | refine Wm_ret ?_
              | refine Wm_block ?_
              | refine Wm_exit ?_
              | refine thenK_normal ?_
              | refine thenK_ret ?_
              | refine thenK_exit ?_
              | refine blockK_normal ?_
              | refine blockK_ret ?_
              | refine blockK_here ?_
              | refine loopK_ret ?_
              | refine loopK_exit ?_
              | refine unK_ret ?_
              | refine unK_exit ?_
              | refine unK_normal ?_
              | refine loopOk_succ ?_
              | refine blockK_exit (by decide) ?_
              | (refine wreg (mos := q38_0) hE [0, 1] (by kernel_rfl) ?_; intro K hK; simp [q38_0, hkn, hkI, hrow, hrow2, w1, w2, hia, hiI]; (repeat' (first | refine hK _ _ ?_ | refine And.intro ?_ ?_ | (intro hc; try subst hc))) <;> (try clear hK K))
              | (refine wreg (mos := q38_1) hE [0, 1, 5] (by kernel_rfl) ?_; intro K hK; simp [q38_1, hkn, hkI, hrow, hrow2, w1, w2, hia, hiI]; (repeat' (first | refine hK _ _ ?_ | refine And.intro ?_ ?_ | (intro hc; try subst hc))) <;> (try clear hK K))
              | (refine wreg (mos := q38_2) hE [0, 5, 8, 9, 10] (by kernel_rfl) ?_; intro K hK; simp [q38_2, hkn, hkI, hrow, hrow2, w1, w2, hia, hiI]; (repeat' (first | refine hK _ _ ?_ | refine And.intro ?_ ?_ | (intro hc; try subst hc))) <;> (try clear hK K))
              | (refine wreg (mos := q38_3) hE [0, 5, 8, 9, 10, 11, 19, 20, 21, 22, 23, 24] (by kernel_rfl) ?_; intro K hK; simp [q38_3, hkn, hkI, hrow, hrow2, w1, w2, hia, hiI]; (repeat' (first | refine hK _ _ ?_ | refine And.intro ?_ ?_ | (intro hc; try subst hc))) <;> (try clear hK K))
              | (refine wreg (mos := q38_4) hE [0, 5, 7, 8, 9, 10, 19, 20, 21, 22, 23, 24] (by kernel_rfl) ?_; intro K hK; simp [q38_4, hkn, hkI, hrow, hrow2, w1, w2, hia, hiI]; (repeat' (first | refine hK _ _ ?_ | refine And.intro ?_ ?_ | (intro hc; try subst hc))) <;> (try clear hK K))
              | (refine wdraw (mos := q38_5) hE mixT c38_5 [0, 5, 8, 9, 10, 19, 20, 21, 22, 23, 24, 25] (by kernel_rfl) ?_; intro K hK; simp [q38_5, c38_5, hkn, hkI, hrow, hrow2, w1, w2, hia, hiI]; (repeat' (first | refine hK _ _ ?_ | refine And.intro ?_ ?_ | (intro hc; try subst hc))) <;> (try clear hK K))
              | (refine wreg (mos := q38_6) hE [0, 5, 8, 9, 10, 19, 20, 21, 22, 23, 24] (by kernel_rfl) ?_; intro K hK; simp [q38_6, hkn, hkI, hrow, hrow2, w1, w2, hia, hiI]; (repeat' (first | refine hK _ _ ?_ | refine And.intro ?_ ?_ | (intro hc; try subst hc))) <;> (try clear hK K))
              | (refine wreg (mos := q38_7) hE [0, 5, 8, 9, 10, 19, 20, 21, 22, 23, 24] (by kernel_rfl) ?_; intro K hK; simp [q38_7, hkn, hkI, hrow, hrow2, w1, w2, hia, hiI]; (repeat' (first | refine hK _ _ ?_ | refine And.intro ?_ ?_ | (intro hc; try subst hc))) <;> (try clear hK K))
              | (refine wreg (mos := q38_8) hE [4] (by kernel_rfl) ?_; intro K hK; simp [q38_8, hkn, hkI, hrow, hrow2, w1, w2, hia, hiI]; (repeat' (first | refine hK _ _ ?_ | refine And.intro ?_ ?_ | (intro hc; try subst hc))) <;> (try clear hK K))
              | (refine Wm_cond (b := _) (by with_unfolding_all rfl) (fun hc => ?_) (fun hc => ?_) <;> simp at hc <;> (try subst hc)))
            all_goals refine ⟨k + 1, hkn, Nat.sub_lt_sub_left hkn (Nat.lt_succ_self k), ?_⟩
            all_goals simp only [I38]
            all_goals rw [hS]
            all_goals (refine Imp.auto (by kernel_rfl) ?_ ?_ <;> simp [nmap, lkp, mkPl, prs, prsL, prT, ddL, idL, NLe, CRenL, CRen, Ren, RenL, NObj.none, hT0, hCl, hT1, hC1, hsucc])
        · have hkI : ¬ (k : Int) < (L.length : Int) := by omega
          have hke : k = L.length := by omega
          subst hke
          rw [List.take_length] at hsle ⊢
          have hcast : ((scanR A L : Nat) : Int) = (A.length : Int) ↔ scanR A L = A.length := by omega
          repeat' with_reducible (first
            | refine Wm_seq ?_
            | refine Wm_skip ?_
            | refine Wm_ret ?_
            | refine Wm_block ?_
            | refine Wm_exit ?_
            | refine thenK_normal ?_
            | refine thenK_ret ?_
            | refine thenK_exit ?_
            | refine blockK_normal ?_
            | refine blockK_ret ?_
            | refine blockK_here ?_
            | refine loopK_ret ?_
            | refine loopK_exit ?_
            | refine unK_ret ?_
            | refine unK_exit ?_
            | refine unK_normal ?_
            | refine loopOk_succ ?_
            | refine blockK_exit (by decide) ?_
            | (refine wreg (mos := q38_0) hE [0, 1] (by kernel_rfl) ?_; intro K hK; simp [q38_0, hkI]; (repeat' (first | refine hK _ _ ?_ | refine And.intro ?_ ?_ | (intro hc; try subst hc))) <;> (try clear hK K))
            | (refine wreg (mos := q38_1) hE [0, 1, 5] (by kernel_rfl) ?_; intro K hK; simp [q38_1, hkI]; (repeat' (first | refine hK _ _ ?_ | refine And.intro ?_ ?_ | (intro hc; try subst hc))) <;> (try clear hK K))
            | (refine wreg (mos := q38_2) hE [0, 5, 8, 9, 10] (by kernel_rfl) ?_; intro K hK; simp [q38_2, hkI]; (repeat' (first | refine hK _ _ ?_ | refine And.intro ?_ ?_ | (intro hc; try subst hc))) <;> (try clear hK K))
            | (refine wreg (mos := q38_3) hE [0, 5, 8, 9, 10, 11, 19, 20, 21, 22, 23, 24] (by kernel_rfl) ?_; intro K hK; simp [q38_3, hkI]; (repeat' (first | refine hK _ _ ?_ | refine And.intro ?_ ?_ | (intro hc; try subst hc))) <;> (try clear hK K))
            | (refine wreg (mos := q38_4) hE [0, 5, 7, 8, 9, 10, 19, 20, 21, 22, 23, 24] (by kernel_rfl) ?_; intro K hK; simp [q38_4, hkI]; (repeat' (first | refine hK _ _ ?_ | refine And.intro ?_ ?_ | (intro hc; try subst hc))) <;> (try clear hK K))
            | (refine wdraw (mos := q38_5) hE mixT c38_5 [0, 5, 8, 9, 10, 19, 20, 21, 22, 23, 24, 25] (by kernel_rfl) ?_; intro K hK; simp [q38_5, c38_5, hkI]; (repeat' (first | refine hK _ _ ?_ | refine And.intro ?_ ?_ | (intro hc; try subst hc))) <;> (try clear hK K))
            | (refine wreg (mos := q38_6) hE [0, 5, 8, 9, 10, 19, 20, 21, 22, 23, 24] (by kernel_rfl) ?_; intro K hK; simp [q38_6, hkI]; (repeat' (first | refine hK _ _ ?_ | refine And.intro ?_ ?_ | (intro hc; try subst hc))) <;> (try clear hK K))
            | (refine wreg (mos := q38_7) hE [0, 5, 8, 9, 10, 19, 20, 21, 22, 23, 24] (by kernel_rfl) ?_; intro K hK; simp [q38_7, hkI]; (repeat' (first | refine hK _ _ ?_ | refine And.intro ?_ ?_ | (intro hc; try subst hc))) <;> (try clear hK K))
            | (refine wreg (mos := q38_8) hE [4] (by kernel_rfl) ?_; intro K hK; simp [q38_8, hkI]; (repeat' (first | refine hK _ _ ?_ | refine And.intro ?_ ?_ | (intro hc; try subst hc))) <;> (try clear hK K))
            | (refine Wm_cond (b := _) (by with_unfolding_all rfl) (fun hc => ?_) (fun hc => ?_) <;> simp at hc <;> (try subst hc)))
          all_goals first | (simp; done) | (simp at *; omega) | ((try simp[hT0, hCl, hcast]); refine Imp.auto (by kernel_rfl) ?_ ?_ <;> simp [nmap, lkp, mkPl, prs, prsL, prT, ddL, idL, NLe, CRenL, CRen, Ren, RenL, NObj.none, hT0, hCl, hcast])
    · cases h
  · cases h

def d32 : List AV → List NObj → Option AV
  | [], [] => some (.bool true)
  | _, _ => none

theorem awake_p : (fun els => decide (3 ≤ sumZ els 2)) [[.int .i64 2, .int .i64 0, .int .i64 1, .int .i64 0, .int .i64 0, .int .i64 0, .int .i64 0, .int .i64 0, .int .i64 0, .int .i64 0, .int .i64 0, .int .i64 0], [.int .i64 2, .int .i64 0, .int .i64 1, .int .i64 0, .int .i64 0, .int .i64 0, .int .i64 0, .int .i64 0, .int .i64 0, .int .i64 0, .int .i64 0, .int .i64 0], [.int .i64 2, .int .i64 0, .int .i64 3, .int .i64 0, .int .i64 0, .int .i64 0, .int .i64 0, .int .i64 0, .int .i64 0, .int .i64 0, .int .i64 0, .int .i64 0]] = true := by decide
theorem awake_s : shrinkZ (fun els => decide (3 ≤ sumZ els 2)) [[.int .i64 2, .int .i64 0, .int .i64 1, .int .i64 0, .int .i64 0, .int .i64 0, .int .i64 0, .int .i64 0, .int .i64 0, .int .i64 0, .int .i64 0, .int .i64 0], [.int .i64 2, .int .i64 0, .int .i64 1, .int .i64 0, .int .i64 0, .int .i64 0, .int .i64 0, .int .i64 0, .int .i64 0, .int .i64 0, .int .i64 0, .int .i64 0], [.int .i64 2, .int .i64 0, .int .i64 3, .int .i64 0, .int .i64 0, .int .i64 0, .int .i64 0, .int .i64 0, .int .i64 0, .int .i64 0, .int .i64 0, .int .i64 0]] = [[.int .i64 2, .int .i64 0, .int .i64 3, .int .i64 0, .int .i64 0, .int .i64 0, .int .i64 0, .int .i64 0, .int .i64 0, .int .i64 0, .int .i64 0, .int .i64 0]] := rfl

theorem ok32 : ROk d32 := by
  intro xs os r h
  unfold d32 at h
  (repeat' (split at h)) <;> first | (cases h; done) | (injection h with h; subst h; simp)
theorem s32 : Sound Try.prog 32 (rdS d32 ok32) := by
  refine rd_sound Try.func32 nm32 rc32 rv32 ok32 fun xs os r h vs ρ0 hvs => ⟨xs, ?_, fun _ h => h, fun w0 S hS => ?_⟩
  · unfold d32 at h
    (repeat' (split at h)) <;> first | (cases h; done) | exact Nat.le_of_ble_eq_true rfl
  unfold d32 at h
  split at h
  · skip
    injection h with h
    subst h
    have hE : SoundAll Try.prog (EL [(36, rdS d36 ok36)]) := EL_sound (by simp only [List.mem_cons, List.not_mem_nil, or_false, forall_eq_or_imp, forall_eq]; exact s36)
    have hp : predZ 59 [] [] = some fun els => decide (3 ≤ sumZ els 2) := rfl
    have h1 := awake_p
    have h2 := awake_s
    obtain ⟨p, hpe⟩ : ∃ p, (fun els => decide (3 ≤ sumZ els 2)) = p := ⟨_, rfl⟩
    rw [hpe] at hp h1 h2
    have hr : row12 [.int .i64 2, .int .i64 0, .int .i64 1, .int .i64 0, .int .i64 0, .int .i64 0, .int .i64 0, .int .i64 0, .int .i64 0, .int .i64 0, .int .i64 0, .int .i64 0] = true := rfl
    have hr2 : row12 [.int .i64 2, .int .i64 0, .int .i64 3, .int .i64 0, .int .i64 0, .int .i64 0, .int .i64 0, .int .i64 0, .int .i64 0, .int .i64 0, .int .i64 0, .int .i64 0] = true := rfl
    have z0 : IntKind.wrap .i64 0 = 0 := by decide
    unfold m32
    repeat' with_reducible (first
      | refine Wm_seq ?_
      | refine Wm_skip ?_
      | refine Wm_ret ?_
      | refine Wm_block ?_
      | refine Wm_exit ?_
      | refine thenK_normal ?_
      | refine thenK_ret ?_
      | refine thenK_exit ?_
      | refine blockK_normal ?_
      | refine blockK_ret ?_
      | refine blockK_here ?_
      | refine loopK_ret ?_
      | refine loopK_exit ?_
      | refine unK_ret ?_
      | refine unK_exit ?_
      | refine unK_normal ?_
      | refine loopOk_succ ?_
      | refine blockK_exit (by decide) ?_
      | (refine wreg (mos := q32_0) hE [] (by kernel_rfl) ?_; intro K hK; simp [q32_0, hp, h1, h2, hr, hr2, d36]; (repeat' (first | refine hK _ _ ?_ | refine And.intro ?_ ?_ | (intro hc; try subst hc))) <;> (try clear hK K))
      | (refine wreg (mos := q32_1) hE [1] (by kernel_rfl) ?_; intro K hK; simp [q32_1, hp, h1, h2, hr, hr2, d36]; (repeat' (first | refine hK _ _ ?_ | refine And.intro ?_ ?_ | (intro hc; try subst hc))) <;> (try clear hK K))
      | (refine wreg (mos := q32_2) hE [2, 3] (by kernel_rfl) ?_; intro K hK; simp [q32_2, hp, h1, h2, hr, hr2, d36]; (repeat' (first | refine hK _ _ ?_ | refine And.intro ?_ ?_ | (intro hc; try subst hc))) <;> (try clear hK K))
      | (refine wreg (mos := q32_3) hE [0] (by kernel_rfl) ?_; intro K hK; simp [q32_3, hp, h1, h2, hr, hr2, d36]; (repeat' (first | refine hK _ _ ?_ | refine And.intro ?_ ?_ | (intro hc; try subst hc))) <;> (try clear hK K))
      | (refine Wm_cond (b := _) (by with_unfolding_all rfl) (fun hc => ?_) (fun hc => ?_) <;> simp at hc <;> (try subst hc)))
    all_goals first | (simp; done) | (simp at *; omega) | ((try simp); refine Imp.auto (by kernel_rfl) ?_ ?_ <;> simp [nmap, lkp, mkPl, prs, prsL, prT, ddL, idL, NLe, CRenL, CRen, Ren, RenL, NObj.none])
  · cases h
end Go.W
