import Derived.Test.YthehmmodkhoieaaWsH
namespace Go.W
open Go.Proofs
set_option linter.unusedSimpArgs false
set_option linter.unusedVariables false
set_option maxHeartbeats 8000000
attribute [local irreducible] Wm

def mkPlX (m : Nat) (ex : List (Nat × Option Nat)) (s s' : St) : List (Nat × Option Nat) := ddL (idL m ++ (ex ++ prT s.tl s'.tl))

/-- With some names told ahead. -/
theorem Imp.autoX {m : Nat} {s s' : St} (ex : List (Nat × Option Nat)) (h : plB m (mkPlX m ex s s') s'.nb = true) (ht : ∀ p, p ∈ s'.tl → Ren (nmap (mkPlX m ex s s') (hk s.hl) (hk s'.hl)) (lk s.tl p.1) p.2)
    (ho : ∀ p, p ∈ s'.hl → p.2.tag < s'.nb ∧ (match lkp (mkPlX m ex s s') p.1 with
    | some (some y) => NLe (nmap (mkPlX m ex s s') (hk s.hl) (hk s'.hl)) (hk s.hl y) p.2
    | some none => p.2.none
    | none => p.2 = .free)) : Imp m s s' := Imp.le _ (LeN.mk' h ht ho)

def fixN (a m : Int) (k : Nat) (n : Int) : Int := if 0 < n then (if (k : Int) = a then leastZ n m else 0) else n

def fixR (a m : Int) (k : Nat) : List AV → List AV
  | x :: y :: .int t n :: r => x :: y :: .int t (fixN a m k n) :: r
  | c => c

/-- A script of which the first numbers are made small. -/
def expL (els : List (List AV)) (a m : Int) (j : Nat) : List (List AV) := els.mapIdx fun k c => if k < j then fixR a m k c else c

theorem expL_len (els : List (List AV)) (a m : Int) (j : Nat) : (expL els a m j).length = els.length := by unfold expL; rw [List.length_mapIdx]

theorem expL_get (els : List (List AV)) (a m : Int) (j k : Nat) : (expL els a m j)[k]? = (els[k]?).map fun c => if k < j then fixR a m k c else c := by
  unfold expL; rw [List.getElem?_mapIdx]

theorem fixR_row {a m : Int} {k : Nat} {c : List AV} (h : row12 c = true) : row12 (fixR a m k c) = true := by
  obtain ⟨n0, n1, n2, n3, n4, n5, n6, n7, n8, n9, n10, n11, rfl⟩ := row12_ex h
  rfl

theorem expL_rows {els : List (List AV)} (h : els.all row12 = true) (a m : Int) (j : Nat) : (expL els a m j).all row12 = true :=
  List.all_eq_true.2 fun c hc => by
    obtain ⟨k, hk⟩ := List.getElem?_of_mem hc
    rw [expL_get] at hk
    cases he : els[k]? with
    | none => simp [he] at hk
    | some d =>
      rw [he, Option.map_some, Option.some.injEq] at hk
      have hd := List.all_eq_true.1 h d (List.mem_of_getElem? he)
      rw [← hk]
      split
      · exact fixR_row hd
      · exact hd

theorem expL_zero (els : List (List AV)) (a m : Int) : expL els a m 0 = els := by
  apply List.ext_getElem?
  intro k
  rw [expL_get]
  cases els[k]? <;> rfl

theorem expL_succ {els : List (List AV)} (a m : Int) {j : Nat} {c : List AV} (h : els[j]? = some c) : expL els a m (j + 1) = (expL els a m j).set j (fixR a m j c) := by
  have hj := (List.getElem?_eq_some_iff.1 h).1
  apply List.ext_getElem?
  intro k
  rw [expL_get, List.getElem?_set]
  by_cases e : j = k
  · subst e
    rw [if_pos rfl, if_pos (by rw [expL_len]; exact hj), h, Option.map_some, if_pos (by omega)]
  · rw [if_neg e, expL_get]
    cases els[k]? with
    | none => rfl
    | some d =>
      rw [Option.map_some, Option.map_some]
      by_cases h2 : k < j
      · rw [if_pos h2, if_pos (by omega)]
      · rw [if_neg h2, if_neg (by omega)]

theorem numAt_fix {els : List (List AV)} (h : els.all row12 = true) {a m : Int} {j k : Nat} : numAt (expL els a m j) k = if k < j then fixN a m k (numAt els k) else numAt els k := by
  unfold numAt
  rw [expL_get]
  cases he : els[k]? with
  | none =>
    simp only [Option.map_none]
    split
    · simp [fixN]
    · rfl
  | some c =>
    obtain ⟨n0, n1, n2, n3, n4, n5, n6, n7, n8, n9, n10, n11, rfl⟩ := row12_ex (List.all_eq_true.1 h c (List.mem_of_getElem? he))
    rw [Option.map_some]
    by_cases h2 : k < j
    · rw [if_pos h2, if_pos h2]; rfl
    · rw [if_neg h2, if_neg h2]

/-- Where it holds, it goes on to hold. -/
theorem expL_hold {els : List (List AV)} (h : els.all row12 = true) {a m : Int} {j : Nat} (hm : m ≤ numAt els a.toNat) (ha : 0 ≤ a) : m ≤ numAt (expL els a m j) a.toNat := by
  rw [numAt_fix h]
  split
  · unfold fixN
    split
    · rw [if_pos (by omega)]
      unfold leastZ
      split
      · assumption
      · split <;> omega
    · exact hm
  · exact hm

theorem least_is {els : List (List AV)} (h : els.all row12 = true) {a m n : Int} {j : Nat} (hal : a < els.length) (hm : m ≤ numAt els a.toNat) (ha : 0 ≤ a) (hn : 0 < n) : lstZ (hold64 (expL els a m j) j a m) (n.toNat + 1) 0 n = fixN a m j n := by
  have hE := expL_hold h (j := j) hm ha
  unfold fixN
  rw [if_pos hn]
  by_cases hja : (j : Int) = a
  · rw [if_pos hja, lstZ_is (c := m) _ 0 n (by omega) (by omega) (fun v _ _ => by
      unfold hold64
      rw [expL_len, decide_eq_true hal, Bool.true_and, if_pos hja])]
    rfl
  · rw [if_neg hja, lstZ_is (c := 0) _ 0 n (by omega) (by omega) (fun v h1 _ => by
      unfold hold64
      rw [expL_len, decide_eq_true hal, Bool.true_and, if_neg hja, decide_eq_true hE, decide_eq_true h1])]
    rfl

def d41 : List AV → List NObj → Option AV
  | [.sl (.top 0) 0 n, .fn 40 [.ptr (.top 1) 0 0, .ptr (.top 2) 0 0]], [.view 0 12 els, .view 0 1 [[.int .i64 a]], .view 0 1 [[.int .i64 m]]] =>
    if n = els.length ∧ els.all row12 = true ∧ els.all numOk = true ∧ els.length ≤ 200000 ∧ 0 ≤ a then some (if a < els.length ∧ m ≤ numAt els a.toNat then .tup [.os 0 12 (expL els a m els.length), .bool true] else .tup [.nsl, .bool false]) else none
  | _, _ => none

theorem ok41 : ROk d41 := by
  intro xs os r h
  unfold d41 at h
  split at h
  · split at h
    · rename_i n els a m hc
      injection h with h; subst h
      have hd := rows_dat (expL_rows hc.2.1 a m els.length)
      split
      · simp [hd]
      · simp
    · cases h
  · cases h

def I41 (els : List (List AV)) (a m : Int) (j : Nat) : St := ⟨[(2, .ptr (.top 3) 0 0), (3, .ptr (.top 4) 0 0), (18, .int .i64 els.length), (19, .int .i64 j)], [(1, .view 0 1 [[.int .i64 a]]), (2, .view 0 1 [[.int .i64 m]]), (3, .cells 0 [.sl (.top 5) 0 els.length]), (4, .cells 0 [.fn 40 [.ptr (.top 1) 0 0, .ptr (.top 2) 0 0]]), (5, .arr 0 12 (expL els a m j))], 6⟩
theorem s41 : Sound Try.prog 41 (rdS d41 ok41) := by
  refine rd_sound Try.func41 nm41 rc41 rv41 ok41 fun xs os r h vs ρ0 hvs => ⟨xs, ?_, fun _ h => h, fun w0 S hS => ?_⟩
  · unfold d41 at h
    (repeat' (split at h)) <;> first | (cases h; done) | exact Nat.le_of_ble_eq_true rfl
  unfold d41 at h
  split at h
  · split at h
    · rename_i n els a m hcond
      injection h with h
      subst h
      have hE : SoundAll Try.prog (EL [(61, rdS d61 ok61), (40, rdS d40 ok40), (63, rdS d63 ok63)]) := EL_sound (by simp only [List.mem_cons, List.not_mem_nil, or_false, forall_eq_or_imp, forall_eq]; exact ⟨s61, s40, s63⟩)
      obtain ⟨rfl, hrows, hnum, hlen, ha0⟩ := hcond
      have hdat := rows_dat hrows
      have hT0 := rows_t0 hrows
      have hCl := rows_cl hrows
      by_cases hP : a < els.length ∧ m ≤ numAt els a.toNat
      · rw [if_pos hP]
        obtain ⟨hal, hma⟩ := hP
        unfold m41
        repeat' with_reducible (first
          | refine Wm_seq ?_
          | refine Wm_skip ?_
          | refine Wm_ret ?_
          | refine Wm_block ?_
          | refine Wm_exit ?_
          | refine thenK_normal ?_
          | refine thenK_ret ?_
          | refine thenK_exit ?_
          | refine blockK_normal ?_
          | refine blockK_ret ?_
          | refine blockK_here ?_
          | refine loopK_ret ?_
          | refine loopK_exit ?_
          | refine unK_ret ?_
          | refine unK_exit ?_
          | refine unK_normal ?_
          | refine loopOk_succ ?_
          | refine blockK_exit (by decide) ?_
          | (refine wreg (mos := q41_0) hE [2, 3] (by kernel_rfl) ?_; intro K hK; simp [q41_0, hdat, hrows, hlen, ha0, hal, hma, d61, d40, d63]; (repeat' (first | refine hK _ _ ?_ | refine And.intro ?_ ?_ | (intro hc; try subst hc))) <;> (try clear hK K))
          | (refine wreg (mos := q41_1) hE [2, 3] (by kernel_rfl) ?_; intro K hK; simp [q41_1, hdat, hrows, hlen, ha0, hal, hma, d61, d40, d63]; (repeat' (first | refine hK _ _ ?_ | refine And.intro ?_ ?_ | (intro hc; try subst hc))) <;> (try clear hK K))
          | (refine wreg (mos := q41_2) hE [2, 3, 16] (by kernel_rfl) ?_; intro K hK; simp [q41_2, hdat, hrows, hlen, ha0, hal, hma, d61, d40, d63]; (repeat' (first | refine hK _ _ ?_ | refine And.intro ?_ ?_ | (intro hc; try subst hc))) <;> (try clear hK K))
          | (refine wreg (mos := q41_3) hE [4, 5] (by kernel_rfl) ?_; intro K hK; simp [q41_3, hdat, hrows, hlen, ha0, hal, hma, d61, d40, d63]; (repeat' (first | refine hK _ _ ?_ | refine And.intro ?_ ?_ | (intro hc; try subst hc))) <;> (try clear hK K))
          | (refine wreg (mos := q41_4) hE [2, 3, 18, 19] (by kernel_rfl) ?_; intro K hK; simp [q41_4, hdat, hrows, hlen, ha0, hal, hma, d61, d40, d63]; (repeat' (first | refine hK _ _ ?_ | refine And.intro ?_ ?_ | (intro hc; try subst hc))) <;> (try clear hK K))
          | (refine wreg (mos := q41_5) hE [2, 3, 18, 19, 20] (by kernel_rfl) ?_; intro K hK; simp [q41_5, hdat, hrows, hlen, ha0, hal, hma, d61, d40, d63]; (repeat' (first | refine hK _ _ ?_ | refine And.intro ?_ ?_ | (intro hc; try subst hc))) <;> (try clear hK K))
          | (refine wreg (mos := q41_6) hE [2, 3, 6, 18, 19] (by kernel_rfl) ?_; intro K hK; simp [q41_6, hdat, hrows, hlen, ha0, hal, hma, d61, d40, d63]; (repeat' (first | refine hK _ _ ?_ | refine And.intro ?_ ?_ | (intro hc; try subst hc))) <;> (try clear hK K))
          | (refine wreg (mos := q41_7) hE [2, 3, 6, 18, 19, 27] (by kernel_rfl) ?_; intro K hK; simp [q41_7, hdat, hrows, hlen, ha0, hal, hma, d61, d40, d63]; (repeat' (first | refine hK _ _ ?_ | refine And.intro ?_ ?_ | (intro hc; try subst hc))) <;> (try clear hK K))
          | (refine wdraw (mos := q41_8) hE mixT c41_8 [2, 3, 18, 19] (by kernel_rfl) ?_; intro K hK; simp [q41_8, c41_8, hdat, hrows, hlen, ha0, hal, hma, d61, d40, d63]; (repeat' (first | refine hK _ _ ?_ | refine And.intro ?_ ?_ | (intro hc; try subst hc))) <;> (try clear hK K))
          | (refine wreg (mos := q41_9) hE [2, 3, 18, 19] (by kernel_rfl) ?_; intro K hK; simp [q41_9, hdat, hrows, hlen, ha0, hal, hma, d61, d40, d63]; (repeat' (first | refine hK _ _ ?_ | refine And.intro ?_ ?_ | (intro hc; try subst hc))) <;> (try clear hK K))
          | (refine wreg (mos := q41_10) hE [4, 5] (by kernel_rfl) ?_; intro K hK; simp [q41_10, hdat, hrows, hlen, ha0, hal, hma, d61, d40, d63]; (repeat' (first | refine hK _ _ ?_ | refine And.intro ?_ ?_ | (intro hc; try subst hc))) <;> (try clear hK K))
          | (refine Wm_cond (b := _) (by with_unfolding_all rfl) (fun hc => ?_) (fun hc => ?_) <;> simp at hc <;> (try subst hc)))
        all_goals (refine Wm_loop (I41 els a m) (fun k => k ≤ els.length) (fun k => els.length - k) 0 (Nat.zero_le _) ?_ ?_)
        · simp only [I41, expL_zero]
          rw [hS]
          refine Imp.autoX [(5, some 43)] (by kernel_rfl) ?_ ?_ <;> simp [nmap, lkp, mkPl, prs, prsL, prT, ddL, idL, NLe, CRenL, CRen, Ren, RenL, NObj.none, CRenLL, mkPlX, hT0, hCl]
        · intro k hk
          replace hk : k ≤ els.length := hk
          simp only [I41]
          by_cases hkn : k < els.length
          · obtain ⟨n0, n1, n2, n3, n4, n5, n6, n7, n8, n9, n10, n11, hrow⟩ := row12_ex (List.all_eq_true.1 hrows _ (List.getElem_mem hkn))
            have hrow2 : els[k]? = some [.int .i64 n0, .int .i64 n1, .int .i64 n2, .int .i64 n3, .int .i64 n4, .int .i64 n5, .int .i64 n6, .int .i64 n7, .int .i64 n8, .int .i64 n9, .int .i64 n10, .int .i64 n11] := by rw [List.getElem?_eq_getElem hkn, hrow]
            have hnext := expL_succ a m hrow2
            have hn9 : n2 ≤ 9223372036854775807 := by
              have := List.all_eq_true.1 hnum _ (List.mem_of_getElem? hrow2)
              simpa [numOk] using this
            have hleast := fun hn => least_is hrows (j := k) (n := n2) hal hma ha0 hn
            have hXr := expL_rows hrows a m k
            have hXl := expL_len els a m k
            have hgX : (expL els a m k)[k]? = some [.int .i64 n0, .int .i64 n1, .int .i64 n2, .int .i64 n3, .int .i64 n4, .int .i64 n5, .int .i64 n6, .int .i64 n7, .int .i64 n8, .int .i64 n9, .int .i64 n10, .int .i64 n11] := by rw [expL_get, hrow2, Option.map_some, if_neg (by omega)]
            have hXN := expL_rows hrows a m (k + 1)
            rw [hnext] at hXN
            simp only [fixR] at hXN hnext
            obtain ⟨X, hX⟩ : ∃ X, expL els a m k = X := ⟨_, rfl⟩
            rw [hX] at hnext hleast hXr hXl hgX hXN ⊢
            have hXd := rows_dat hXr
            have hkX : k < X.length := by omega
            have hrX : X[k] = [.int .i64 n0, .int .i64 n1, .int .i64 n2, .int .i64 n3, .int .i64 n4, .int .i64 n5, .int .i64 n6, .int .i64 n7, .int .i64 n8, .int .i64 n9, .int .i64 n10, .int .i64 n11] := by rw [List.getElem?_eq_getElem hkX] at hgX; simpa using hgX
            have hkI : (k : Int) < (els.length : Int) := by omega
            have w1 : IntKind.wrap .i64 ((k : Int) + 1) = (k : Int) + 1 := wrap_in (by omega) (by omega)
            have hTN := rows_t0 hXN
            have hCN := rows_cl hXN
            have htk : X.take els.length = X := List.take_of_length_le (by omega)
            by_cases hn2 : n2 ≤ 0
            · have hfx : fixN a m k n2 = n2 := by unfold fixN; rw [if_neg (by omega)]
              rw [hfx] at hnext hTN hCN
              have hset : X.set k [.int .i64 n0, .int .i64 n1, .int .i64 n2, .int .i64 n3, .int .i64 n4, .int .i64 n5, .int .i64 n6, .int .i64 n7, .int .i64 n8, .int .i64 n9, .int .i64 n10, .int .i64 n11] = X := by rw [← hrX]; exact List.set_getElem_self hkX
              rw [hset] at hnext hTN hCN
              repeat' with_reducible (first
                | refine Wm_seq ?_
                | refine Wm_skip ?_
                | refine Wm_ret ?_
                | refine Wm_block ?_
                | refine Wm_exit ?_
                | refine thenK_normal ?_
                | refine thenK_ret ?_
                | refine thenK_exit ?_
                | refine blockK_normal ?_
                | refine blockK_ret ?_
                | refine blockK_here ?_
                | refine loopK_ret ?_
                | refine loopK_exit ?_
                | refine unK_ret ?_
                | refine unK_exit ?_
                | refine unK_normal ?_
                | refine loopOk_succ ?_
                | refine blockK_exit (by decide) ?_
                | (refine wreg (mos := q41_0) hE [2, 3] (by kernel_rfl) ?_; intro K hK; simp [q41_0, hkI, hkn, hkX, hXl, hgX, hrX, w1, hn2, d61, d40, d63]; (repeat' (first | refine hK _ _ ?_ | refine And.intro ?_ ?_ | (intro hc; try subst hc))) <;> (try clear hK K))
                | (refine wreg (mos := q41_1) hE [2, 3] (by kernel_rfl) ?_; intro K hK; simp [q41_1, hkI, hkn, hkX, hXl, hgX, hrX, w1, hn2, d61, d40, d63]; (repeat' (first | refine hK _ _ ?_ | refine And.intro ?_ ?_ | (intro hc; try subst hc))) <;> (try clear hK K))
                | (refine wreg (mos := q41_2) hE [2, 3, 16] (by kernel_rfl) ?_; intro K hK; simp [q41_2, hkI, hkn, hkX, hXl, hgX, hrX, w1, hn2, d61, d40, d63]; (repeat' (first | refine hK _ _ ?_ | refine And.intro ?_ ?_ | (intro hc; try subst hc))) <;> (try clear hK K))
                | (refine wreg (mos := q41_3) hE [4, 5] (by kernel_rfl) ?_; intro K hK; simp [q41_3, hkI, hkn, hkX, hXl, hgX, hrX, w1, hn2, d61, d40, d63]; (repeat' (first | refine hK _ _ ?_ | refine And.intro ?_ ?_ | (intro hc; try subst hc))) <;> (try clear hK K))
                | (refine wreg (mos := q41_4) hE [2, 3, 18, 19] (by kernel_rfl) ?_; intro K hK; simp [q41_4, hkI, hkn, hkX, hXl, hgX, hrX, w1, hn2, d61, d40, d63]; (repeat' (first | refine hK _ _ ?_ | refine And.intro ?_ ?_ | (intro hc; try subst hc))) <;> (try clear hK K))
                | (refine wreg (mos := q41_5) hE [2, 3, 18, 19, 20] (by kernel_rfl) ?_; intro K hK; simp [q41_5, hkI, hkn, hkX, hXl, hgX, hrX, w1, hn2, d61, d40, d63]; (repeat' (first | refine hK _ _ ?_ | refine And.intro ?_ ?_ | (intro hc; try subst hc))) <;> (try clear hK K))
                | (refine wreg (mos := q41_6) hE [2, 3, 6, 18, 19] (by kernel_rfl) ?_; intro K hK; simp [q41_6, hkI, hkn, hkX, hXl, hgX, hrX, w1, hn2, d61, d40, d63]; (repeat' (first | refine hK _ _ ?_ | refine And.intro ?_ ?_ | (intro hc; try subst hc))) <;> (try clear hK K))
                | (refine wreg (mos := q41_7) hE [2, 3, 6, 18, 19, 27] (by kernel_rfl) ?_; intro K hK; simp [q41_7, hkI, hkn, hkX, hXl, hgX, hrX, w1, hn2, d61, d40, d63]; (repeat' (first | refine hK _ _ ?_ | refine And.intro ?_ ?_ | (intro hc; try subst hc))) <;> (try clear hK K))
                | (refine wdraw (mos := q41_8) hE mixT c41_8 [2, 3, 18, 19] (by kernel_rfl) ?_; intro K hK; simp [q41_8, c41_8, hkI, hkn, hkX, hXl, hgX, hrX, w1, hn2, d61, d40, d63]; (repeat' (first | refine hK _ _ ?_ | refine And.intro ?_ ?_ | (intro hc; try subst hc))) <;> (try clear hK K))
                | (refine wreg (mos := q41_9) hE [2, 3, 18, 19] (by kernel_rfl) ?_; intro K hK; simp [q41_9, hkI, hkn, hkX, hXl, hgX, hrX, w1, hn2, d61, d40, d63]; (repeat' (first | refine hK _ _ ?_ | refine And.intro ?_ ?_ | (intro hc; try subst hc))) <;> (try clear hK K))
                | (refine wreg (mos := q41_10) hE [4, 5] (by kernel_rfl) ?_; intro K hK; simp [q41_10, hkI, hkn, hkX, hXl, hgX, hrX, w1, hn2, d61, d40, d63]; (repeat' (first | refine hK _ _ ?_ | refine And.intro ?_ ?_ | (intro hc; try subst hc))) <;> (try clear hK K))
                | (refine Wm_cond (b := _) (by with_unfolding_all rfl) (fun hc => ?_) (fun hc => ?_) <;> simp at hc <;> (try subst hc)))
              all_goals refine ⟨k + 1, hkn, Nat.sub_lt_sub_left hkn (Nat.lt_succ_self k), ?_⟩
              all_goals simp only [I41, hnext]
              all_goals rw [hS]
              all_goals (refine Imp.autoX [(5, some 5)] (by kernel_rfl) ?_ ?_ <;> simp [nmap, lkp, mkPl, prs, prsL, prT, ddL, idL, NLe, CRenL, CRen, Ren, RenL, NObj.none, CRenLL, mkPlX, hTN, hCN, hXl])
            · have hn3 : 0 < n2 := by omega
              have hl := hleast hn3
              repeat' with_reducible (first
                | refine Wm_seq ?_
                | refine Wm_skip ?_
                | refine Wm_ret ?_
                | refine Wm_block ?_
                | refine Wm_exit ?_
                | refine thenK_normal ?_
                | refine thenK_ret ?_
                | refine thenK_exit ?_
                | refine blockK_normal ?_
                | refine blockK_ret ?_
                | refine blockK_here ?_
                | refine loopK_ret ?_
                | refine loopK_exit ?_
                | refine unK_ret ?_
                | refine unK_exit ?_
                | refine unK_normal ?_
                | refine loopOk_succ ?_
                | refine blockK_exit (by decide) ?_
                | (refine wreg (mos := q41_0) hE [2, 3] (by kernel_rfl) ?_; intro K hK; simp [q41_0, hkI, hkn, hkX, hXl, hgX, hrX, w1, hn2, hXd, hXr, htk, hlen, ha0, hl, hn9, d61, d40, d63]; (repeat' (first | refine hK _ _ ?_ | refine And.intro ?_ ?_ | (intro hc; try subst hc))) <;> (try clear hK K))
                | (refine wreg (mos := q41_1) hE [2, 3] (by kernel_rfl) ?_; intro K hK; simp [q41_1, hkI, hkn, hkX, hXl, hgX, hrX, w1, hn2, hXd, hXr, htk, hlen, ha0, hl, hn9, d61, d40, d63]; (repeat' (first | refine hK _ _ ?_ | refine And.intro ?_ ?_ | (intro hc; try subst hc))) <;> (try clear hK K))
                | (refine wreg (mos := q41_2) hE [2, 3, 16] (by kernel_rfl) ?_; intro K hK; simp [q41_2, hkI, hkn, hkX, hXl, hgX, hrX, w1, hn2, hXd, hXr, htk, hlen, ha0, hl, hn9, d61, d40, d63]; (repeat' (first | refine hK _ _ ?_ | refine And.intro ?_ ?_ | (intro hc; try subst hc))) <;> (try clear hK K))
                | (refine wreg (mos := q41_3) hE [4, 5] (by kernel_rfl) ?_; intro K hK; simp [q41_3, hkI, hkn, hkX, hXl, hgX, hrX, w1, hn2, hXd, hXr, htk, hlen, ha0, hl, hn9, d61, d40, d63]; (repeat' (first | refine hK _ _ ?_ | refine And.intro ?_ ?_ | (intro hc; try subst hc))) <;> (try clear hK K))
                | (refine wreg (mos := q41_4) hE [2, 3, 18, 19] (by kernel_rfl) ?_; intro K hK; simp [q41_4, hkI, hkn, hkX, hXl, hgX, hrX, w1, hn2, hXd, hXr, htk, hlen, ha0, hl, hn9, d61, d40, d63]; (repeat' (first | refine hK _ _ ?_ | refine And.intro ?_ ?_ | (intro hc; try subst hc))) <;> (try clear hK K))
                | (refine wreg (mos := q41_5) hE [2, 3, 18, 19, 20] (by kernel_rfl) ?_; intro K hK; simp [q41_5, hkI, hkn, hkX, hXl, hgX, hrX, w1, hn2, hXd, hXr, htk, hlen, ha0, hl, hn9, d61, d40, d63]; (repeat' (first | refine hK _ _ ?_ | refine And.intro ?_ ?_ | (intro hc; try subst hc))) <;> (try clear hK K))
                | (refine wreg (mos := q41_6) hE [2, 3, 6, 18, 19] (by kernel_rfl) ?_; intro K hK; simp [q41_6, hkI, hkn, hkX, hXl, hgX, hrX, w1, hn2, hXd, hXr, htk, hlen, ha0, hl, hn9, d61, d40, d63]; (repeat' (first | refine hK _ _ ?_ | refine And.intro ?_ ?_ | (intro hc; try subst hc))) <;> (try clear hK K))
                | (refine wreg (mos := q41_7) hE [2, 3, 6, 18, 19, 27] (by kernel_rfl) ?_; intro K hK; simp [q41_7, hkI, hkn, hkX, hXl, hgX, hrX, w1, hn2, hXd, hXr, htk, hlen, ha0, hl, hn9, d61, d40, d63]; (repeat' (first | refine hK _ _ ?_ | refine And.intro ?_ ?_ | (intro hc; try subst hc))) <;> (try clear hK K))
                | (refine wdraw (mos := q41_8) hE mixT c41_8 [2, 3, 18, 19] (by kernel_rfl) ?_; intro K hK; simp [q41_8, c41_8, hkI, hkn, hkX, hXl, hgX, hrX, w1, hn2, hXd, hXr, htk, hlen, ha0, hl, hn9, d61, d40, d63]; (repeat' (first | refine hK _ _ ?_ | refine And.intro ?_ ?_ | (intro hc; try subst hc))) <;> (try clear hK K))
                | (refine wreg (mos := q41_9) hE [2, 3, 18, 19] (by kernel_rfl) ?_; intro K hK; simp [q41_9, hkI, hkn, hkX, hXl, hgX, hrX, w1, hn2, hXd, hXr, htk, hlen, ha0, hl, hn9, d61, d40, d63]; (repeat' (first | refine hK _ _ ?_ | refine And.intro ?_ ?_ | (intro hc; try subst hc))) <;> (try clear hK K))
                | (refine wreg (mos := q41_10) hE [4, 5] (by kernel_rfl) ?_; intro K hK; simp [q41_10, hkI, hkn, hkX, hXl, hgX, hrX, w1, hn2, hXd, hXr, htk, hlen, ha0, hl, hn9, d61, d40, d63]; (repeat' (first | refine hK _ _ ?_ | refine And.intro ?_ ?_ | (intro hc; try subst hc))) <;> (try clear hK K))
                | (refine Wm_cond (b := _) (by with_unfolding_all rfl) (fun hc => ?_) (fun hc => ?_) <;> simp at hc <;> (try subst hc)))
              all_goals refine ⟨k + 1, hkn, Nat.sub_lt_sub_left hkn (Nat.lt_succ_self k), ?_⟩
              all_goals simp only [I41, hnext]
              all_goals rw [hS]
              all_goals (refine Imp.autoX [(5, some 5)] (by kernel_rfl) ?_ ?_ <;> simp [nmap, lkp, mkPl, prs, prsL, prT, ddL, idL, NLe, CRenL, CRen, Ren, RenL, NObj.none, CRenLL, mkPlX, hTN, hCN, hXl])
          · have hkI : ¬ (k : Int) < (els.length : Int) := by omega
            have hke : k = els.length := by omega
            subst hke
            have hXN := expL_rows hrows a m els.length
            have hTN := rows_t0 hXN
            have hCN := rows_cl hXN
            have hXl := expL_len els a m els.length
            repeat' with_reducible (first
              | refine Wm_seq ?_
              | refine Wm_skip ?_
              | refine Wm_ret ?_
              | refine Wm_block ?_
              | refine Wm_exit ?_
              | refine thenK_normal ?_
              | refine thenK_ret ?_
              | refine thenK_exit ?_
              | refine blockK_normal ?_
              | refine blockK_ret ?_
              | refine blockK_here ?_
              | refine loopK_ret ?_
              | refine loopK_exit ?_
              | refine unK_ret ?_
              | refine unK_exit ?_
              | refine unK_normal ?_
              | refine loopOk_succ ?_
              | refine blockK_exit (by decide) ?_
              | (refine wreg (mos := q41_0) hE [2, 3] (by kernel_rfl) ?_; intro K hK; simp [q41_0, hkI, d61, d40, d63]; (repeat' (first | refine hK _ _ ?_ | refine And.intro ?_ ?_ | (intro hc; try subst hc))) <;> (try clear hK K))
              | (refine wreg (mos := q41_1) hE [2, 3] (by kernel_rfl) ?_; intro K hK; simp [q41_1, hkI, d61, d40, d63]; (repeat' (first | refine hK _ _ ?_ | refine And.intro ?_ ?_ | (intro hc; try subst hc))) <;> (try clear hK K))
              | (refine wreg (mos := q41_2) hE [2, 3, 16] (by kernel_rfl) ?_; intro K hK; simp [q41_2, hkI, d61, d40, d63]; (repeat' (first | refine hK _ _ ?_ | refine And.intro ?_ ?_ | (intro hc; try subst hc))) <;> (try clear hK K))
              | (refine wreg (mos := q41_3) hE [4, 5] (by kernel_rfl) ?_; intro K hK; simp [q41_3, hkI, d61, d40, d63]; (repeat' (first | refine hK _ _ ?_ | refine And.intro ?_ ?_ | (intro hc; try subst hc))) <;> (try clear hK K))
              | (refine wreg (mos := q41_4) hE [2, 3, 18, 19] (by kernel_rfl) ?_; intro K hK; simp [q41_4, hkI, d61, d40, d63]; (repeat' (first | refine hK _ _ ?_ | refine And.intro ?_ ?_ | (intro hc; try subst hc))) <;> (try clear hK K))
              | (refine wreg (mos := q41_5) hE [2, 3, 18, 19, 20] (by kernel_rfl) ?_; intro K hK; simp [q41_5, hkI, d61, d40, d63]; (repeat' (first | refine hK _ _ ?_ | refine And.intro ?_ ?_ | (intro hc; try subst hc))) <;> (try clear hK K))
              | (refine wreg (mos := q41_6) hE [2, 3, 6, 18, 19] (by kernel_rfl) ?_; intro K hK; simp [q41_6, hkI, d61, d40, d63]; (repeat' (first | refine hK _ _ ?_ | refine And.intro ?_ ?_ | (intro hc; try subst hc))) <;> (try clear hK K))
              | (refine wreg (mos := q41_7) hE [2, 3, 6, 18, 19, 27] (by kernel_rfl) ?_; intro K hK; simp [q41_7, hkI, d61, d40, d63]; (repeat' (first | refine hK _ _ ?_ | refine And.intro ?_ ?_ | (intro hc; try subst hc))) <;> (try clear hK K))
              | (refine wdraw (mos := q41_8) hE mixT c41_8 [2, 3, 18, 19] (by kernel_rfl) ?_; intro K hK; simp [q41_8, c41_8, hkI, d61, d40, d63]; (repeat' (first | refine hK _ _ ?_ | refine And.intro ?_ ?_ | (intro hc; try subst hc))) <;> (try clear hK K))
              | (refine wreg (mos := q41_9) hE [2, 3, 18, 19] (by kernel_rfl) ?_; intro K hK; simp [q41_9, hkI, d61, d40, d63]; (repeat' (first | refine hK _ _ ?_ | refine And.intro ?_ ?_ | (intro hc; try subst hc))) <;> (try clear hK K))
              | (refine wreg (mos := q41_10) hE [4, 5] (by kernel_rfl) ?_; intro K hK; simp [q41_10, hkI, d61, d40, d63]; (repeat' (first | refine hK _ _ ?_ | refine And.intro ?_ ?_ | (intro hc; try subst hc))) <;> (try clear hK K))
              | (refine Wm_cond (b := _) (by with_unfolding_all rfl) (fun hc => ?_) (fun hc => ?_) <;> simp at hc <;> (try subst hc)))
            all_goals first | (simp; done) | (simp at *; omega) | ((try simp[hTN, hCN, hXl]); refine Imp.auto (by kernel_rfl) ?_ ?_ <;> simp [nmap, lkp, mkPl, prs, prsL, prT, ddL, idL, NLe, CRenL, CRen, Ren, RenL, NObj.none, CRenLL, mkPlX, hTN, hCN, hXl])
      · rw [if_neg hP]
        have hP1 : ∀ h : a < els.length, ¬ m ≤ numAt els a.toNat := fun h1 h2 => hP ⟨h1, h2⟩
        by_cases hal : a < els.length
        · have hma := hP1 hal
          unfold m41
          repeat' with_reducible (first
            | refine Wm_seq ?_
            | refine Wm_skip ?_
            | refine Wm_ret ?_
            | refine Wm_block ?_
            | refine Wm_exit ?_
            | refine thenK_normal ?_
            | refine thenK_ret ?_
            | refine thenK_exit ?_
            | refine blockK_normal ?_
            | refine blockK_ret ?_
            | refine blockK_here ?_
            | refine loopK_ret ?_
            | refine loopK_exit ?_
            | refine unK_ret ?_
            | refine unK_exit ?_
            | refine unK_normal ?_
            | refine loopOk_succ ?_
            | refine blockK_exit (by decide) ?_
            | (refine wreg (mos := q41_0) hE [2, 3] (by kernel_rfl) ?_; intro K hK; simp [q41_0, hdat, hrows, hlen, ha0, hal, hma, d61, d40, d63]; (repeat' (first | refine hK _ _ ?_ | refine And.intro ?_ ?_ | (intro hc; try subst hc))) <;> (try clear hK K))
            | (refine wreg (mos := q41_1) hE [2, 3] (by kernel_rfl) ?_; intro K hK; simp [q41_1, hdat, hrows, hlen, ha0, hal, hma, d61, d40, d63]; (repeat' (first | refine hK _ _ ?_ | refine And.intro ?_ ?_ | (intro hc; try subst hc))) <;> (try clear hK K))
            | (refine wreg (mos := q41_2) hE [2, 3, 16] (by kernel_rfl) ?_; intro K hK; simp [q41_2, hdat, hrows, hlen, ha0, hal, hma, d61, d40, d63]; (repeat' (first | refine hK _ _ ?_ | refine And.intro ?_ ?_ | (intro hc; try subst hc))) <;> (try clear hK K))
            | (refine wreg (mos := q41_3) hE [4, 5] (by kernel_rfl) ?_; intro K hK; simp [q41_3, hdat, hrows, hlen, ha0, hal, hma, d61, d40, d63]; (repeat' (first | refine hK _ _ ?_ | refine And.intro ?_ ?_ | (intro hc; try subst hc))) <;> (try clear hK K))
            | (refine wreg (mos := q41_4) hE [2, 3, 18, 19] (by kernel_rfl) ?_; intro K hK; simp [q41_4, hdat, hrows, hlen, ha0, hal, hma, d61, d40, d63]; (repeat' (first | refine hK _ _ ?_ | refine And.intro ?_ ?_ | (intro hc; try subst hc))) <;> (try clear hK K))
            | (refine wreg (mos := q41_5) hE [2, 3, 18, 19, 20] (by kernel_rfl) ?_; intro K hK; simp [q41_5, hdat, hrows, hlen, ha0, hal, hma, d61, d40, d63]; (repeat' (first | refine hK _ _ ?_ | refine And.intro ?_ ?_ | (intro hc; try subst hc))) <;> (try clear hK K))
            | (refine wreg (mos := q41_6) hE [2, 3, 6, 18, 19] (by kernel_rfl) ?_; intro K hK; simp [q41_6, hdat, hrows, hlen, ha0, hal, hma, d61, d40, d63]; (repeat' (first | refine hK _ _ ?_ | refine And.intro ?_ ?_ | (intro hc; try subst hc))) <;> (try clear hK K))
            | (refine wreg (mos := q41_7) hE [2, 3, 6, 18, 19, 27] (by kernel_rfl) ?_; intro K hK; simp [q41_7, hdat, hrows, hlen, ha0, hal, hma, d61, d40, d63]; (repeat' (first | refine hK _ _ ?_ | refine And.intro ?_ ?_ | (intro hc; try subst hc))) <;> (try clear hK K))
            | (refine wdraw (mos := q41_8) hE mixT c41_8 [2, 3, 18, 19] (by kernel_rfl) ?_; intro K hK; simp [q41_8, c41_8, hdat, hrows, hlen, ha0, hal, hma, d61, d40, d63]; (repeat' (first | refine hK _ _ ?_ | refine And.intro ?_ ?_ | (intro hc; try subst hc))) <;> (try clear hK K))
            | (refine wreg (mos := q41_9) hE [2, 3, 18, 19] (by kernel_rfl) ?_; intro K hK; simp [q41_9, hdat, hrows, hlen, ha0, hal, hma, d61, d40, d63]; (repeat' (first | refine hK _ _ ?_ | refine And.intro ?_ ?_ | (intro hc; try subst hc))) <;> (try clear hK K))
            | (refine wreg (mos := q41_10) hE [4, 5] (by kernel_rfl) ?_; intro K hK; simp [q41_10, hdat, hrows, hlen, ha0, hal, hma, d61, d40, d63]; (repeat' (first | refine hK _ _ ?_ | refine And.intro ?_ ?_ | (intro hc; try subst hc))) <;> (try clear hK K))
            | (refine Wm_cond (b := _) (by with_unfolding_all rfl) (fun hc => ?_) (fun hc => ?_) <;> simp at hc <;> (try subst hc)))
          all_goals first | (simp; done) | (simp at *; omega) | ((try simp); refine Imp.auto (by kernel_rfl) ?_ ?_ <;> simp [nmap, lkp, mkPl, prs, prsL, prT, ddL, idL, NLe, CRenL, CRen, Ren, RenL, NObj.none, CRenLL, mkPlX])
        · unfold m41
          repeat' with_reducible (first
            | refine Wm_seq ?_
            | refine Wm_skip ?_
            | refine Wm_ret ?_
            | refine Wm_block ?_
            | refine Wm_exit ?_
            | refine thenK_normal ?_
            | refine thenK_ret ?_
            | refine thenK_exit ?_
            | refine blockK_normal ?_
            | refine blockK_ret ?_
            | refine blockK_here ?_
            | refine loopK_ret ?_
            | refine loopK_exit ?_
            | refine unK_ret ?_
            | refine unK_exit ?_
            | refine unK_normal ?_
            | refine loopOk_succ ?_
            | refine blockK_exit (by decide) ?_
            | (refine wreg (mos := q41_0) hE [2, 3] (by kernel_rfl) ?_; intro K hK; simp [q41_0, hdat, hrows, hlen, ha0, hal, d61, d40, d63]; (repeat' (first | refine hK _ _ ?_ | refine And.intro ?_ ?_ | (intro hc; try subst hc))) <;> (try clear hK K))
            | (refine wreg (mos := q41_1) hE [2, 3] (by kernel_rfl) ?_; intro K hK; simp [q41_1, hdat, hrows, hlen, ha0, hal, d61, d40, d63]; (repeat' (first | refine hK _ _ ?_ | refine And.intro ?_ ?_ | (intro hc; try subst hc))) <;> (try clear hK K))
            | (refine wreg (mos := q41_2) hE [2, 3, 16] (by kernel_rfl) ?_; intro K hK; simp [q41_2, hdat, hrows, hlen, ha0, hal, d61, d40, d63]; (repeat' (first | refine hK _ _ ?_ | refine And.intro ?_ ?_ | (intro hc; try subst hc))) <;> (try clear hK K))
            | (refine wreg (mos := q41_3) hE [4, 5] (by kernel_rfl) ?_; intro K hK; simp [q41_3, hdat, hrows, hlen, ha0, hal, d61, d40, d63]; (repeat' (first | refine hK _ _ ?_ | refine And.intro ?_ ?_ | (intro hc; try subst hc))) <;> (try clear hK K))
            | (refine wreg (mos := q41_4) hE [2, 3, 18, 19] (by kernel_rfl) ?_; intro K hK; simp [q41_4, hdat, hrows, hlen, ha0, hal, d61, d40, d63]; (repeat' (first | refine hK _ _ ?_ | refine And.intro ?_ ?_ | (intro hc; try subst hc))) <;> (try clear hK K))
            | (refine wreg (mos := q41_5) hE [2, 3, 18, 19, 20] (by kernel_rfl) ?_; intro K hK; simp [q41_5, hdat, hrows, hlen, ha0, hal, d61, d40, d63]; (repeat' (first | refine hK _ _ ?_ | refine And.intro ?_ ?_ | (intro hc; try subst hc))) <;> (try clear hK K))
            | (refine wreg (mos := q41_6) hE [2, 3, 6, 18, 19] (by kernel_rfl) ?_; intro K hK; simp [q41_6, hdat, hrows, hlen, ha0, hal, d61, d40, d63]; (repeat' (first | refine hK _ _ ?_ | refine And.intro ?_ ?_ | (intro hc; try subst hc))) <;> (try clear hK K))
            | (refine wreg (mos := q41_7) hE [2, 3, 6, 18, 19, 27] (by kernel_rfl) ?_; intro K hK; simp [q41_7, hdat, hrows, hlen, ha0, hal, d61, d40, d63]; (repeat' (first | refine hK _ _ ?_ | refine And.intro ?_ ?_ | (intro hc; try subst hc))) <;> (try clear hK K))
            | (refine wdraw (mos := q41_8) hE mixT c41_8 [2, 3, 18, 19] (by kernel_rfl) ?_; intro K hK; simp [q41_8, c41_8, hdat, hrows, hlen, ha0, hal, d61, d40, d63]; (repeat' (first | refine hK _ _ ?_ | refine And.intro ?_ ?_ | (intro hc; try subst hc))) <;> (try clear hK K))
            | (refine wreg (mos := q41_9) hE [2, 3, 18, 19] (by kernel_rfl) ?_; intro K hK; simp [q41_9, hdat, hrows, hlen, ha0, hal, d61, d40, d63]; (repeat' (first | refine hK _ _ ?_ | refine And.intro ?_ ?_ | (intro hc; try subst hc))) <;> (try clear hK K))
            | (refine wreg (mos := q41_10) hE [4, 5] (by kernel_rfl) ?_; intro K hK; simp [q41_10, hdat, hrows, hlen, ha0, hal, d61, d40, d63]; (repeat' (first | refine hK _ _ ?_ | refine And.intro ?_ ?_ | (intro hc; try subst hc))) <;> (try clear hK K))
            | (refine Wm_cond (b := _) (by with_unfolding_all rfl) (fun hc => ?_) (fun hc => ?_) <;> simp at hc <;> (try subst hc)))
          all_goals first | (simp; done) | (simp at *; omega) | ((try simp); refine Imp.auto (by kernel_rfl) ?_ ?_ <;> simp [nmap, lkp, mkPl, prs, prsL, prT, ddL, idL, NLe, CRenL, CRen, Ren, RenL, NObj.none, CRenLL, mkPlX])
    · cases h
  · cases h
end Go.W
