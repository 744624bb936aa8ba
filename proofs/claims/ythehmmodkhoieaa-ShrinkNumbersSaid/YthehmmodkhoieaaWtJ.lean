import Derived.Test.YthehmmodkhoieaaWtI
namespace Go.W
open Go.Proofs
set_option linter.unusedSimpArgs false
set_option linter.unusedVariables false
set_option maxHeartbeats 8000000
attribute [local irreducible] Wm

/-- A row of twelve integers. -/
def row12 : List AV → Bool
  | [.int .i64 _, .int .i64 _, .int .i64 _, .int .i64 _, .int .i64 _, .int .i64 _, .int .i64 _, .int .i64 _, .int .i64 _, .int .i64 _, .int .i64 _, .int .i64 _] => true
  | _ => false

theorem row12_ex {c : List AV} (h : row12 c = true) : ∃ n0 n1 n2 n3 n4 n5 n6 n7 n8 n9 n10 n11 : Int, c = [.int .i64 n0, .int .i64 n1, .int .i64 n2, .int .i64 n3, .int .i64 n4, .int .i64 n5, .int .i64 n6, .int .i64 n7, .int .i64 n8, .int .i64 n9, .int .i64 n10, .int .i64 n11] := by
  unfold row12 at h
  split at h
  · exact ⟨_, _, _, _, _, _, _, _, _, _, _, _, rfl⟩
  · cases h

theorem rows_tl {n : Nat} : ∀ {els : List (List AV)}, els.all row12 = true → tlLL n els = true
  | [], _ => rfl
  | c :: r, h => by
    simp only [List.all_cons, Bool.and_eq_true] at h
    obtain ⟨n0, n1, n2, n3, n4, n5, n6, n7, n8, n9, n10, n11, rfl⟩ := row12_ex h.1
    simp [tlLL, tlL, AV.tl, rows_tl h.2]

theorem rows_take {els : List (List AV)} (h : els.all row12 = true) (k : Nat) : (els.take k).all row12 = true :=
  List.all_eq_true.2 fun c hc => List.all_eq_true.1 h c (List.mem_of_mem_take hc)

theorem rows_t0 : ∀ {els : List (List AV)}, els.all row12 = true → t0LL els = els
  | [], _ => rfl
  | c :: r, h => by
    simp only [List.all_cons, Bool.and_eq_true] at h
    obtain ⟨n0, n1, n2, n3, n4, n5, n6, n7, n8, n9, n10, n11, rfl⟩ := row12_ex h.1
    simp [t0LL, t0L, AV.t0, rows_t0 h.2]

theorem rows_cl : ∀ {els : List (List AV)}, els.all row12 = true → clLL els = true
  | [], _ => rfl
  | c :: r, h => by
    simp only [List.all_cons, Bool.and_eq_true] at h
    obtain ⟨n0, n1, n2, n3, n4, n5, n6, n7, n8, n9, n10, n11, rfl⟩ := row12_ex h.1
    simp [clLL, clL, AV.cl, rows_cl h.2]

def d33 : List AV → Option Ans
  | [.os _ _ els] => if els.all row12 = true ∧ els.length ≤ 200000 then some ⟨.os 0 12 els, [.free]⟩ else none
  | _ => none

def I33 (els : List (List AV)) (k : Nat) : St := ⟨[(3, .sl (.top 1) 0 k), (6, .sl (.top 0) 0 els.length), (7, .int .i64 els.length), (8, .int .i64 k)], [(0, .view 0 12 els), (1, .arr 0 12 (els.take k))], 2⟩

theorem ok33 : NOk [(12, false)] d33 := by
  intro xs a h
  unfold d33 at h
  split at h
  · split at h
    · rename_i tg sz els hc
      have h1 := rows_t0 hc.1
      have h2 := rows_cl hc.1
      injection h with h; subst h; refine ⟨Ends_of ?_, ?_⟩ <;> simp [h1, h2]
    · cases h
  · cases h
theorem s33 : Sound Try.prog 33 (nestS [(12, false)] d33 ok33) := by
  refine nest_sound Try.func33 nm33 rc33 rv33 ok33 (fun xs a h => ?_) fun xs a h w0 S hS => ?_
  · unfold d33 at h
    (repeat' (split at h)) <;> first | (cases h; done) | exact Nat.le_of_ble_eq_true rfl
  unfold d33 at h
  split at h
  · split at h
    · rename_i tg sz els hcond
      injection h with h
      subst h
      have hE : SoundAll Try.prog (EL [(60, nestS [] d60 ok60)]) := EL_sound (by simp only [List.mem_cons, List.not_mem_nil, or_false, forall_eq_or_imp, forall_eq]; exact s60)
      obtain ⟨hrows, hlen⟩ := hcond
      have ht := rows_tl (n := 2) hrows
      have hT0 := rows_t0 hrows
      have hCl := rows_cl hrows
      unfold m33
      repeat' with_reducible (first
        | refine Wm_seq ?_
        | refine Wm_skip ?_
        | refine Wm_ret ?_
        | refine Wm_block ?_
        | refine Wm_exit ?_
        | refine thenK_normal ?_
        | refine thenK_ret ?_
        | refine thenK_exit ?_
        | refine blockK_normal ?_
        | refine blockK_ret ?_
        | refine blockK_here ?_
        | refine loopK_ret ?_
        | refine loopK_exit ?_
        | refine unK_ret ?_
        | refine unK_exit ?_
        | refine unK_normal ?_
        | refine loopOk_succ ?_
        | refine blockK_exit (by decide) ?_
        | (refine wreg (mos := q33_0) hE [0] (by kernel_rfl) ?_; intro K hK; simp [q33_0, d60]; (repeat' (first | refine hK _ _ ?_ | refine And.intro ?_ ?_ | intro hc)) <;> (try clear hK K) <;> (try subst_vars))
        | (refine wreg (mos := q33_1) hE [0, 3] (by kernel_rfl) ?_; intro K hK; simp [q33_1, d60]; (repeat' (first | refine hK _ _ ?_ | refine And.intro ?_ ?_ | intro hc)) <;> (try clear hK K) <;> (try subst_vars))
        | (refine wreg (mos := q33_2) hE [3, 6, 7, 8] (by kernel_rfl) ?_; intro K hK; simp [q33_2, d60]; (repeat' (first | refine hK _ _ ?_ | refine And.intro ?_ ?_ | intro hc)) <;> (try clear hK K) <;> (try subst_vars))
        | (refine wreg (mos := q33_3) hE [3, 6, 7, 8, 9] (by kernel_rfl) ?_; intro K hK; simp [q33_3, d60]; (repeat' (first | refine hK _ _ ?_ | refine And.intro ?_ ?_ | intro hc)) <;> (try clear hK K) <;> (try subst_vars))
        | (refine wreg (mos := q33_4) hE [3, 5, 6, 7, 8] (by kernel_rfl) ?_; intro K hK; simp [q33_4, d60]; (repeat' (first | refine hK _ _ ?_ | refine And.intro ?_ ?_ | intro hc)) <;> (try clear hK K) <;> (try subst_vars))
        | (refine wreg (mos := q33_5) hE [3, 6, 7, 8] (by kernel_rfl) ?_; intro K hK; simp [q33_5, d60]; (repeat' (first | refine hK _ _ ?_ | refine And.intro ?_ ?_ | intro hc)) <;> (try clear hK K) <;> (try subst_vars))
        | (refine wreg (mos := q33_6) hE [3, 6, 7, 8] (by kernel_rfl) ?_; intro K hK; simp [q33_6, d60]; (repeat' (first | refine hK _ _ ?_ | refine And.intro ?_ ?_ | intro hc)) <;> (try clear hK K) <;> (try subst_vars))
        | (refine wreg (mos := q33_7) hE [2] (by kernel_rfl) ?_; intro K hK; simp [q33_7, d60]; (repeat' (first | refine hK _ _ ?_ | refine And.intro ?_ ?_ | intro hc)) <;> (try clear hK K) <;> (try subst_vars))
        | (refine Wm_cond (b := _) (by with_unfolding_all rfl) (fun hc => ?_) (fun hc => ?_) <;> simp at hc <;> (try subst_vars)))
      all_goals (refine Wm_loop (I33 els) (fun k => k ≤ els.length) (fun k => els.length - k) 0 (Nat.zero_le _) ?_ ?_)
      · simp only [I33]
        rw [hS]
        refine Imp.auto (by kernel_rfl) ?_ ?_ <;> simp [nmap, lkp, mkPl, prs, prsL, prT, ddL, idL, NLe, CRenL, CRen, Ren, RenL, NObj.none, hT0, hCl]
      · intro k hk
        have htk : ∀ n, tlLL n (els.take k) = true := fun n => rows_tl (rows_take hrows k)
        have hT1 := rows_t0 (rows_take hrows k)
        have hC1 := rows_cl (rows_take hrows k)
        simp only [I33]
        by_cases hkn : k < els.length
        · obtain ⟨n0, n1, n2, n3, n4, n5, n6, n7, n8, n9, n10, n11, hrow⟩ := row12_ex (List.all_eq_true.1 hrows _ (List.getElem_mem hkn))
          have hrow2 : els[k]? = some [.int .i64 n0, .int .i64 n1, .int .i64 n2, .int .i64 n3, .int .i64 n4, .int .i64 n5, .int .i64 n6, .int .i64 n7, .int .i64 n8, .int .i64 n9, .int .i64 n10, .int .i64 n11] := by rw [List.getElem?_eq_getElem hkn, hrow]
          have hkI : (k : Int) < (els.length : Int) := by omega
          have w1 : IntKind.wrap .i64 ((k : Int) + 1) = (k : Int) + 1 := wrap_in (by omega) (by omega)
          have hmin : min k els.length = k := Nat.min_eq_left hk
          have hb1 : (k + 1) * 96 ≤ 140737488355328 := by omega
          have hb2 : k + 1 ≤ 9223372036854775807 := by omega
          have htake : els.take (k + 1) = els.take k ++ [[.int .i64 n0, .int .i64 n1, .int .i64 n2, .int .i64 n3, .int .i64 n4, .int .i64 n5, .int .i64 n6, .int .i64 n7, .int .i64 n8, .int .i64 n9, .int .i64 n10, .int .i64 n11]] := by rw [List.take_add_one, hrow2]; rfl
          have hT2 := rows_t0 (rows_take hrows (k + 1))
          have hC2 := rows_cl (rows_take hrows (k + 1))
          rw [htake] at hT2 hC2
          repeat' with_reducible (first
            | refine Wm_seq ?_
            | refine Wm_skip ?_
            | refine Wm_ret ?_
            | refine Wm_block ?_
            | refine Wm_exit ?_
            | refine thenK_normal ?_
            | refine thenK_ret ?_
            | refine thenK_exit ?_
            | refine blockK_normal ?_
            | refine blockK_ret ?_
            | refine blockK_here ?_
            | refine loopK_ret ?_
            | refine loopK_exit ?_
            | refine unK_ret ?_
            | refine unK_exit ?_
            | refine unK_normal ?_
            | refine loopOk_succ ?_
            | refine blockK_exit (by decide) ?_
            | (refine wreg (mos := q33_0) hE [0] (by kernel_rfl) ?_; intro K hK; simp [q33_0, hrow, hrow2, hkI, w1, hmin, hb1, hb2, htk, hkn, d60]; (repeat' (first | refine hK _ _ ?_ | refine And.intro ?_ ?_ | intro hc)) <;> (try clear hK K) <;> (try subst_vars))
            | (refine wreg (mos := q33_1) hE [0, 3] (by kernel_rfl) ?_; intro K hK; simp [q33_1, hrow, hrow2, hkI, w1, hmin, hb1, hb2, htk, hkn, d60]; (repeat' (first | refine hK _ _ ?_ | refine And.intro ?_ ?_ | intro hc)) <;> (try clear hK K) <;> (try subst_vars))
            | (refine wreg (mos := q33_2) hE [3, 6, 7, 8] (by kernel_rfl) ?_; intro K hK; simp [q33_2, hrow, hrow2, hkI, w1, hmin, hb1, hb2, htk, hkn, d60]; (repeat' (first | refine hK _ _ ?_ | refine And.intro ?_ ?_ | intro hc)) <;> (try clear hK K) <;> (try subst_vars))
            | (refine wreg (mos := q33_3) hE [3, 6, 7, 8, 9] (by kernel_rfl) ?_; intro K hK; simp [q33_3, hrow, hrow2, hkI, w1, hmin, hb1, hb2, htk, hkn, d60]; (repeat' (first | refine hK _ _ ?_ | refine And.intro ?_ ?_ | intro hc)) <;> (try clear hK K) <;> (try subst_vars))
            | (refine wreg (mos := q33_4) hE [3, 5, 6, 7, 8] (by kernel_rfl) ?_; intro K hK; simp [q33_4, hrow, hrow2, hkI, w1, hmin, hb1, hb2, htk, hkn, d60]; (repeat' (first | refine hK _ _ ?_ | refine And.intro ?_ ?_ | intro hc)) <;> (try clear hK K) <;> (try subst_vars))
            | (refine wreg (mos := q33_5) hE [3, 6, 7, 8] (by kernel_rfl) ?_; intro K hK; simp [q33_5, hrow, hrow2, hkI, w1, hmin, hb1, hb2, htk, hkn, d60]; (repeat' (first | refine hK _ _ ?_ | refine And.intro ?_ ?_ | intro hc)) <;> (try clear hK K) <;> (try subst_vars))
            | (refine wreg (mos := q33_6) hE [3, 6, 7, 8] (by kernel_rfl) ?_; intro K hK; simp [q33_6, hrow, hrow2, hkI, w1, hmin, hb1, hb2, htk, hkn, d60]; (repeat' (first | refine hK _ _ ?_ | refine And.intro ?_ ?_ | intro hc)) <;> (try clear hK K) <;> (try subst_vars))
            | (refine wreg (mos := q33_7) hE [2] (by kernel_rfl) ?_; intro K hK; simp [q33_7, hrow, hrow2, hkI, w1, hmin, hb1, hb2, htk, hkn, d60]; (repeat' (first | refine hK _ _ ?_ | refine And.intro ?_ ?_ | intro hc)) <;> (try clear hK K) <;> (try subst_vars))
            | (refine Wm_cond (b := _) (by with_unfolding_all rfl) (fun hc => ?_) (fun hc => ?_) <;> simp at hc <;> (try subst_vars)))
          all_goals refine ⟨k + 1, ?_, ?_, ?_⟩
          · show k + 1 ≤ els.length; omega
          · show els.length - (k + 1) < els.length - k; omega
          simp only [I33, htake]
          rw [hS]
          refine Imp.auto (by kernel_rfl) ?_ ?_ <;> simp [nmap, lkp, mkPl, prs, prsL, prT, ddL, idL, NLe, CRenL, CRen, Ren, RenL, NObj.none, hT0, hCl, hT2, hC2]
        · obtain rfl : k = els.length := by omega
          repeat' with_reducible (first
            | refine Wm_seq ?_
            | refine Wm_skip ?_
            | refine Wm_ret ?_
            | refine Wm_block ?_
            | refine Wm_exit ?_
            | refine thenK_normal ?_
            | refine thenK_ret ?_
            | refine thenK_exit ?_
            | refine blockK_normal ?_
            | refine blockK_ret ?_
            | refine blockK_here ?_
            | refine loopK_ret ?_
            | refine loopK_exit ?_
            | refine unK_ret ?_
            | refine unK_exit ?_
            | refine unK_normal ?_
            | refine loopOk_succ ?_
            | refine blockK_exit (by decide) ?_
            | (refine wreg (mos := q33_0) hE [0] (by kernel_rfl) ?_; intro K hK; simp [q33_0, hkn, d60]; (repeat' (first | refine hK _ _ ?_ | refine And.intro ?_ ?_ | intro hc)) <;> (try clear hK K) <;> (try subst_vars))
            | (refine wreg (mos := q33_1) hE [0, 3] (by kernel_rfl) ?_; intro K hK; simp [q33_1, hkn, d60]; (repeat' (first | refine hK _ _ ?_ | refine And.intro ?_ ?_ | intro hc)) <;> (try clear hK K) <;> (try subst_vars))
            | (refine wreg (mos := q33_2) hE [3, 6, 7, 8] (by kernel_rfl) ?_; intro K hK; simp [q33_2, hkn, d60]; (repeat' (first | refine hK _ _ ?_ | refine And.intro ?_ ?_ | intro hc)) <;> (try clear hK K) <;> (try subst_vars))
            | (refine wreg (mos := q33_3) hE [3, 6, 7, 8, 9] (by kernel_rfl) ?_; intro K hK; simp [q33_3, hkn, d60]; (repeat' (first | refine hK _ _ ?_ | refine And.intro ?_ ?_ | intro hc)) <;> (try clear hK K) <;> (try subst_vars))
            | (refine wreg (mos := q33_4) hE [3, 5, 6, 7, 8] (by kernel_rfl) ?_; intro K hK; simp [q33_4, hkn, d60]; (repeat' (first | refine hK _ _ ?_ | refine And.intro ?_ ?_ | intro hc)) <;> (try clear hK K) <;> (try subst_vars))
            | (refine wreg (mos := q33_5) hE [3, 6, 7, 8] (by kernel_rfl) ?_; intro K hK; simp [q33_5, hkn, d60]; (repeat' (first | refine hK _ _ ?_ | refine And.intro ?_ ?_ | intro hc)) <;> (try clear hK K) <;> (try subst_vars))
            | (refine wreg (mos := q33_6) hE [3, 6, 7, 8] (by kernel_rfl) ?_; intro K hK; simp [q33_6, hkn, d60]; (repeat' (first | refine hK _ _ ?_ | refine And.intro ?_ ?_ | intro hc)) <;> (try clear hK K) <;> (try subst_vars))
            | (refine wreg (mos := q33_7) hE [2] (by kernel_rfl) ?_; intro K hK; simp [q33_7, hkn, d60]; (repeat' (first | refine hK _ _ ?_ | refine And.intro ?_ ?_ | intro hc)) <;> (try clear hK K) <;> (try subst_vars))
            | (refine Wm_cond (b := _) (by with_unfolding_all rfl) (fun hc => ?_) (fun hc => ?_) <;> simp at hc <;> (try subst_vars)))
          all_goals first | (simp; done) | (simp at *; omega) | (simp[hT0, hCl]; refine Imp.auto (by kernel_rfl) ?_ ?_ <;> simp [nmap, lkp, mkPl, prs, prsL, prT, ddL, idL, NLe, CRenL, CRen, Ren, RenL, NObj.none, hT0, hCl])
    · cases h
  · cases h
end Go.W
