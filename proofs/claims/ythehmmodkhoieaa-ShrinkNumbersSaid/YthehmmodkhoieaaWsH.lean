import Derived.Test.YthehmmodkhoieaaWsB
namespace Go.W
open Go.Proofs
set_option linter.unusedSimpArgs false
set_option linter.unusedVariables false
set_option maxHeartbeats 8000000
attribute [local irreducible] Wm

/-- By halves, of a number that holds from a count on. -/
def leastZ (n m : Int) : Int := if m ≤ 0 then 0 else if n < m then n else m

def d42 : List AV → List NObj → Option AV
  | [.int .i64 n, .int .i64 m], [] => some (.int .i64 (leastZ n m))
  | _, _ => none

theorem ok42 : ROk d42 := by
  intro xs os r h
  unfold d42 at h
  (repeat' (split at h)) <;> first | (cases h; done) | (injection h with h; subst h; simp)
theorem s42 : Sound Try.prog 42 (rdS d42 ok42) := by
  refine rd_sound Try.func42 nm42 rc42 rv42 ok42 fun xs os r h vs ρ0 hvs => ⟨xs, ?_, fun _ h => h, fun w0 S hS => ?_⟩
  · unfold d42 at h
    (repeat' (split at h)) <;> first | (cases h; done) | exact Nat.le_of_ble_eq_true rfl
  unfold d42 at h
  split at h
  · rename_i n m
    injection h with h
    subst h
    have hE : SoundAll Try.prog (EL []) := EL_sound (by simp)
    by_cases h1 : m ≤ 0
    · unfold m42
      repeat' with_reducible (first
        | refine Wm_seq ?_
        | refine Wm_skip ?_
        | refine Wm_ret ?_
        | refine Wm_block ?_
        | refine Wm_exit ?_
        | refine thenK_normal ?_
        | refine thenK_ret ?_
        | refine thenK_exit ?_
        | refine blockK_normal ?_
        | refine blockK_ret ?_
        | refine blockK_here ?_
        | refine loopK_ret ?_
        | refine loopK_exit ?_
        | refine unK_ret ?_
        | refine unK_exit ?_
        | refine unK_normal ?_
        | refine loopOk_succ ?_
        | refine blockK_exit (by decide) ?_
        | (refine wreg (mos := q42_0) hE [0, 1] (by kernel_rfl) ?_; intro K hK; simp [q42_0, h1, leastZ]; (repeat' (first | refine hK _ _ ?_ | refine And.intro ?_ ?_ | (intro hc; try subst hc))) <;> (try clear hK K))
        | (refine wreg (mos := q42_1) hE [0, 1, 6] (by kernel_rfl) ?_; intro K hK; simp [q42_1, h1, leastZ]; (repeat' (first | refine hK _ _ ?_ | refine And.intro ?_ ?_ | (intro hc; try subst hc))) <;> (try clear hK K))
        | (refine wreg (mos := q42_2) hE [4] (by kernel_rfl) ?_; intro K hK; simp [q42_2, h1, leastZ]; (repeat' (first | refine hK _ _ ?_ | refine And.intro ?_ ?_ | (intro hc; try subst hc))) <;> (try clear hK K))
        | (refine wreg (mos := q42_3) hE [0, 1, 9] (by kernel_rfl) ?_; intro K hK; simp [q42_3, h1, leastZ]; (repeat' (first | refine hK _ _ ?_ | refine And.intro ?_ ?_ | (intro hc; try subst hc))) <;> (try clear hK K))
        | (refine wreg (mos := q42_4) hE [4] (by kernel_rfl) ?_; intro K hK; simp [q42_4, h1, leastZ]; (repeat' (first | refine hK _ _ ?_ | refine And.intro ?_ ?_ | (intro hc; try subst hc))) <;> (try clear hK K))
        | (refine wreg (mos := q42_5) hE [4] (by kernel_rfl) ?_; intro K hK; simp [q42_5, h1, leastZ]; (repeat' (first | refine hK _ _ ?_ | refine And.intro ?_ ?_ | (intro hc; try subst hc))) <;> (try clear hK K))
        | (refine Wm_cond (b := _) (by with_unfolding_all rfl) (fun hc => ?_) (fun hc => ?_) <;> simp at hc <;> (try subst hc)))
      all_goals first | (simp; done) | (simp at *; omega) | ((try simp[h1, leastZ]); refine Imp.auto (by kernel_rfl) ?_ ?_ <;> simp [nmap, lkp, mkPl, prs, prsL, prT, ddL, idL, NLe, CRenL, CRen, Ren, RenL, NObj.none, CRenLL, h1, leastZ])
    · by_cases h2 : n < m
      · unfold m42
        repeat' with_reducible (first
          | refine Wm_seq ?_
          | refine Wm_skip ?_
          | refine Wm_ret ?_
          | refine Wm_block ?_
          | refine Wm_exit ?_
          | refine thenK_normal ?_
          | refine thenK_ret ?_
          | refine thenK_exit ?_
          | refine blockK_normal ?_
          | refine blockK_ret ?_
          | refine blockK_here ?_
          | refine loopK_ret ?_
          | refine loopK_exit ?_
          | refine unK_ret ?_
          | refine unK_exit ?_
          | refine unK_normal ?_
          | refine loopOk_succ ?_
          | refine blockK_exit (by decide) ?_
          | (refine wreg (mos := q42_0) hE [0, 1] (by kernel_rfl) ?_; intro K hK; simp [q42_0, h1, h2, leastZ]; (repeat' (first | refine hK _ _ ?_ | refine And.intro ?_ ?_ | (intro hc; try subst hc))) <;> (try clear hK K))
          | (refine wreg (mos := q42_1) hE [0, 1, 6] (by kernel_rfl) ?_; intro K hK; simp [q42_1, h1, h2, leastZ]; (repeat' (first | refine hK _ _ ?_ | refine And.intro ?_ ?_ | (intro hc; try subst hc))) <;> (try clear hK K))
          | (refine wreg (mos := q42_2) hE [4] (by kernel_rfl) ?_; intro K hK; simp [q42_2, h1, h2, leastZ]; (repeat' (first | refine hK _ _ ?_ | refine And.intro ?_ ?_ | (intro hc; try subst hc))) <;> (try clear hK K))
          | (refine wreg (mos := q42_3) hE [0, 1, 9] (by kernel_rfl) ?_; intro K hK; simp [q42_3, h1, h2, leastZ]; (repeat' (first | refine hK _ _ ?_ | refine And.intro ?_ ?_ | (intro hc; try subst hc))) <;> (try clear hK K))
          | (refine wreg (mos := q42_4) hE [4] (by kernel_rfl) ?_; intro K hK; simp [q42_4, h1, h2, leastZ]; (repeat' (first | refine hK _ _ ?_ | refine And.intro ?_ ?_ | (intro hc; try subst hc))) <;> (try clear hK K))
          | (refine wreg (mos := q42_5) hE [4] (by kernel_rfl) ?_; intro K hK; simp [q42_5, h1, h2, leastZ]; (repeat' (first | refine hK _ _ ?_ | refine And.intro ?_ ?_ | (intro hc; try subst hc))) <;> (try clear hK K))
          | (refine Wm_cond (b := _) (by with_unfolding_all rfl) (fun hc => ?_) (fun hc => ?_) <;> simp at hc <;> (try subst hc)))
        all_goals first | (simp; done) | (simp at *; omega) | ((try simp[h1, h2, leastZ]); refine Imp.auto (by kernel_rfl) ?_ ?_ <;> simp [nmap, lkp, mkPl, prs, prsL, prT, ddL, idL, NLe, CRenL, CRen, Ren, RenL, NObj.none, CRenLL, h1, h2, leastZ])
      · unfold m42
        repeat' with_reducible (first
          | refine Wm_seq ?_
          | refine Wm_skip ?_
          | refine Wm_ret ?_
          | refine Wm_block ?_
          | refine Wm_exit ?_
          | refine thenK_normal ?_
          | refine thenK_ret ?_
          | refine thenK_exit ?_
          | refine blockK_normal ?_
          | refine blockK_ret ?_
          | refine blockK_here ?_
          | refine loopK_ret ?_
          | refine loopK_exit ?_
          | refine unK_ret ?_
          | refine unK_exit ?_
          | refine unK_normal ?_
          | refine loopOk_succ ?_
          | refine blockK_exit (by decide) ?_
          | (refine wreg (mos := q42_0) hE [0, 1] (by kernel_rfl) ?_; intro K hK; simp [q42_0, h1, h2, leastZ]; (repeat' (first | refine hK _ _ ?_ | refine And.intro ?_ ?_ | (intro hc; try subst hc))) <;> (try clear hK K))
          | (refine wreg (mos := q42_1) hE [0, 1, 6] (by kernel_rfl) ?_; intro K hK; simp [q42_1, h1, h2, leastZ]; (repeat' (first | refine hK _ _ ?_ | refine And.intro ?_ ?_ | (intro hc; try subst hc))) <;> (try clear hK K))
          | (refine wreg (mos := q42_2) hE [4] (by kernel_rfl) ?_; intro K hK; simp [q42_2, h1, h2, leastZ]; (repeat' (first | refine hK _ _ ?_ | refine And.intro ?_ ?_ | (intro hc; try subst hc))) <;> (try clear hK K))
          | (refine wreg (mos := q42_3) hE [0, 1, 9] (by kernel_rfl) ?_; intro K hK; simp [q42_3, h1, h2, leastZ]; (repeat' (first | refine hK _ _ ?_ | refine And.intro ?_ ?_ | (intro hc; try subst hc))) <;> (try clear hK K))
          | (refine wreg (mos := q42_4) hE [4] (by kernel_rfl) ?_; intro K hK; simp [q42_4, h1, h2, leastZ]; (repeat' (first | refine hK _ _ ?_ | refine And.intro ?_ ?_ | (intro hc; try subst hc))) <;> (try clear hK K))
          | (refine wreg (mos := q42_5) hE [4] (by kernel_rfl) ?_; intro K hK; simp [q42_5, h1, h2, leastZ]; (repeat' (first | refine hK _ _ ?_ | refine And.intro ?_ ?_ | (intro hc; try subst hc))) <;> (try clear hK K))
          | (refine Wm_cond (b := _) (by with_unfolding_all rfl) (fun hc => ?_) (fun hc => ?_) <;> simp at hc <;> (try subst hc)))
        all_goals first | (simp; done) | (simp at *; omega) | ((try simp[h1, h2, leastZ]); refine Imp.auto (by kernel_rfl) ?_ ?_ <;> simp [nmap, lkp, mkPl, prs, prsL, prT, ddL, idL, NLe, CRenL, CRen, Ren, RenL, NObj.none, CRenLL, h1, h2, leastZ])
  · cases h

/-- Does it hold of a script of which one number is this one? -/
def hold64 (els : List (List AV)) (i : Nat) (a m v : Int) : Bool := decide (a < els.length) && decide (m ≤ if (i : Int) = a then v else numAt els a.toNat)

/-- The number of an event is in range. -/
def numOk : List AV → Bool
  | _ :: _ :: .int _ v :: _ => decide (v ≤ 9223372036854775807)
  | _ => false

theorem rows_set {els : List (List AV)} (h : els.all row12 = true) {c : List AV} (hc : row12 c = true) (i : Nat) : (els.set i c).all row12 = true :=
  List.all_eq_true.2 fun x hx => by
    rcases List.mem_or_eq_of_mem_set hx with h1 | h1
    · exact List.all_eq_true.1 h x h1
    · rw [h1]; exact hc

def d64 : List AV → List NObj → Option AV
  | [.int .i64 v, .ptr (.top 0) 0 0, .ptr (.top 2) 0 0, .ptr (.top 3) 0 0], [.view 0 1 [[.sl (.top 1) 0 l]], .view 0 12 els, .view 0 1 [[.int .i64 i]], .view 0 1 [[.fn 40 [.ptr (.top 4) 0 0, .ptr (.top 5) 0 0]]], .view 0 1 [[.int .i64 a]], .view 0 1 [[.int .i64 m]]] =>
    if l = els.length ∧ els.all row12 = true ∧ els.length ≤ 200000 ∧ 0 ≤ a ∧ 0 ≤ i ∧ i < els.length then some (.bool (hold64 els i.toNat a m v)) else none
  | _, _ => none

theorem ok64 : ROk d64 := by
  intro xs os r h
  unfold d64 at h
  (repeat' (split at h)) <;> first | (cases h; done) | (injection h with h; subst h; simp)
theorem s64 : Sound Try.prog 64 (rdS d64 ok64) := by
  refine rd_sound Try.func64 nm64 rc64 rv64 ok64 fun xs os r h vs ρ0 hvs => ⟨xs, ?_, fun _ h => h, fun w0 S hS => ?_⟩
  · unfold d64 at h
    (repeat' (split at h)) <;> first | (cases h; done) | exact Nat.le_of_ble_eq_true rfl
  unfold d64 at h
  split at h
  · split at h
    · rename_i v l els i a m hcond
      injection h with h
      subst h
      have hE : SoundAll Try.prog (EL [(61, rdS d61 ok61), (40, rdS d40 ok40)]) := EL_sound (by simp only [List.mem_cons, List.not_mem_nil, or_false, forall_eq_or_imp, forall_eq]; exact ⟨s61, s40⟩)
      obtain ⟨rfl, hrows, hlen, ha0, hi0, hil⟩ := hcond
      obtain ⟨j, rfl⟩ : ∃ j : Nat, i = (j : Int) := ⟨i.toNat, by omega⟩
      obtain ⟨b, rfl⟩ : ∃ b : Nat, a = (b : Int) := ⟨a.toNat, by omega⟩
      simp only [Int.toNat_natCast]
      have hj : j < els.length := by omega
      have hdat := rows_dat hrows
      obtain ⟨n0, n1, n2, n3, n4, n5, n6, n7, n8, n9, n10, n11, hrow⟩ := row12_ex (List.all_eq_true.1 hrows _ (List.getElem_mem hj))
      have hrow2 : els[j]? = some [.int .i64 n0, .int .i64 n1, .int .i64 n2, .int .i64 n3, .int .i64 n4, .int .i64 n5, .int .i64 n6, .int .i64 n7, .int .i64 n8, .int .i64 n9, .int .i64 n10, .int .i64 n11] := by rw [List.getElem?_eq_getElem hj, hrow]
      have hsr := rows_set hrows (c := [.int .i64 n0, .int .i64 n1, .int .i64 v, .int .i64 n3, .int .i64 n4, .int .i64 n5, .int .i64 n6, .int .i64 n7, .int .i64 n8, .int .i64 n9, .int .i64 n10, .int .i64 n11]) rfl j
      have hsd := rows_dat hsr
      have hres : (decide (b < els.length) && decide (m ≤ numAt (els.set j [.int .i64 n0, .int .i64 n1, .int .i64 v, .int .i64 n3, .int .i64 n4, .int .i64 n5, .int .i64 n6, .int .i64 n7, .int .i64 n8, .int .i64 n9, .int .i64 n10, .int .i64 n11]) b)) = hold64 els j b m v := by
        unfold hold64
        have e1 : decide ((b : Int) < (els.length : Int)) = decide (b < els.length) := by congr 1; exact propext (by omega)
        rw [e1, Int.toNat_natCast]
        congr 2
        by_cases hjb : j = b
        · subst hjb
          rw [if_pos rfl]
          unfold numAt
          rw [List.getElem?_set_self (by omega)]
        · rw [if_neg (by omega)]
          unfold numAt
          rw [List.getElem?_set_ne hjb]
      have hT0 := rows_t0 hsr
      have hCl := rows_cl hsr
      have htk : (els.set j [.int .i64 n0, .int .i64 n1, .int .i64 v, .int .i64 n3, .int .i64 n4, .int .i64 n5, .int .i64 n6, .int .i64 n7, .int .i64 n8, .int .i64 n9, .int .i64 n10, .int .i64 n11]).take els.length = els.set j [.int .i64 n0, .int .i64 n1, .int .i64 v, .int .i64 n3, .int .i64 n4, .int .i64 n5, .int .i64 n6, .int .i64 n7, .int .i64 n8, .int .i64 n9, .int .i64 n10, .int .i64 n11] := List.take_of_length_le (by rw [List.length_set]; exact Nat.le_refl _)
      unfold m64
      repeat' with_reducible (first
        | refine Wm_seq ?_
        | refine Wm_skip ?_
        | refine Wm_ret ?_
        | refine Wm_block ?_
        | refine Wm_exit ?_
        | refine thenK_normal ?_
        | refine thenK_ret ?_
        | refine thenK_exit ?_
        | refine blockK_normal ?_
        | refine blockK_ret ?_
        | refine blockK_here ?_
        | refine loopK_ret ?_
        | refine loopK_exit ?_
        | refine unK_ret ?_
        | refine unK_exit ?_
        | refine unK_normal ?_
        | refine loopOk_succ ?_
        | refine blockK_exit (by decide) ?_
        | (refine wreg (mos := q64_0) hE [0, 1, 2, 3] (by kernel_rfl) ?_; intro K hK; simp [q64_0, htk, hj, hil, hdat, hrows, hlen, hrow, hrow2, hsr, hsd, hres, d61, d40]; (repeat' (first | refine hK _ _ ?_ | refine And.intro ?_ ?_ | (intro hc; try subst hc))) <;> (try clear hK K))
        | (refine wreg (mos := q64_1) hE [0, 2, 3, 6] (by kernel_rfl) ?_; intro K hK; simp [q64_1, htk, hj, hil, hdat, hrows, hlen, hrow, hrow2, hsr, hsd, hres, d61, d40]; (repeat' (first | refine hK _ _ ?_ | refine And.intro ?_ ?_ | (intro hc; try subst hc))) <;> (try clear hK K))
        | (refine wreg (mos := q64_2) hE [3, 6] (by kernel_rfl) ?_; intro K hK; simp [q64_2, htk, hj, hil, hdat, hrows, hlen, hrow, hrow2, hsr, hsd, hres, d61, d40]; (repeat' (first | refine hK _ _ ?_ | refine And.intro ?_ ?_ | (intro hc; try subst hc))) <;> (try clear hK K))
        | (refine wreg (mos := q64_3) hE [5] (by kernel_rfl) ?_; intro K hK; simp [q64_3, htk, hj, hil, hdat, hrows, hlen, hrow, hrow2, hsr, hsd, hres, d61, d40]; (repeat' (first | refine hK _ _ ?_ | refine And.intro ?_ ?_ | (intro hc; try subst hc))) <;> (try clear hK K))
        | (refine Wm_cond (b := _) (by with_unfolding_all rfl) (fun hc => ?_) (fun hc => ?_) <;> simp at hc <;> (try subst hc)))
      all_goals first | (simp; done) | (simp at *; omega) | ((try simp[hres]); refine Imp.auto (by kernel_rfl) ?_ ?_ <;> simp [nmap, lkp, mkPl, prs, prsL, prT, ddL, idL, NLe, CRenL, CRen, Ren, RenL, NObj.none, CRenLL, hres])
    · cases h
  · cases h

/-- The least number, by halves. -/
def lstZ (p : Int → Bool) : Nat → Int → Int → Int
  | 0, _, n => n
  | f + 1, lo, n => if lo < n then (if p (lo + (n - lo) / 2) = true then lstZ p f lo (lo + (n - lo) / 2) else lstZ p f (lo + (n - lo) / 2 + 1) n) else n

theorem lstZ_is {p : Int → Bool} {c : Int} : ∀ (f : Nat) (lo n : Int), lo ≤ n → (n - lo).toNat < f → (∀ v, lo ≤ v → v < n → p v = decide (c ≤ v)) → lstZ p f lo n = if c ≤ lo then lo else if n < c then n else c
  | 0, lo, n, _, hf, _ => by omega
  | f + 1, lo, n, hl, hf, hp => by
    simp only [lstZ]
    by_cases h1 : lo < n
    · rw [if_pos h1]
      have hm := hp (lo + (n - lo) / 2) (by omega) (by omega)
      by_cases h2 : c ≤ lo + (n - lo) / 2
      · rw [hm, decide_eq_true h2, if_pos rfl, lstZ_is f lo _ (by omega) (by omega) (fun v a1 a2 => hp v a1 (by omega))]
        split
        · rfl
        · rw [if_neg (by omega), if_neg (by omega)]
      · rw [hm, decide_eq_false h2, if_neg (by simp), lstZ_is f _ n (by omega) (by omega) (fun v a1 a2 => hp v (by omega) a2)]
        rw [if_neg (show ¬ c ≤ lo by omega)]
        split
        · rw [if_neg (by omega)]; omega
        · rfl
    · rw [if_neg h1]
      split
      · omega
      · rw [if_pos (by omega)]

def d63 : List AV → List NObj → Option AV
  | [.int .i64 v, .fn 64 [.ptr (.top 0) 0 0, .ptr (.top 2) 0 0, .ptr (.top 3) 0 0]], [.view 0 1 [[.sl (.top 1) 0 l]], .view 0 12 els, .view 0 1 [[.int .i64 i]], .view 0 1 [[.fn 40 [.ptr (.top 4) 0 0, .ptr (.top 5) 0 0]]], .view 0 1 [[.int .i64 a]], .view 0 1 [[.int .i64 m]]] =>
    if l = els.length ∧ els.all row12 = true ∧ els.length ≤ 200000 ∧ 0 ≤ a ∧ 0 ≤ i ∧ i < els.length ∧ v ≤ 9223372036854775807 then some (.int .i64 (lstZ (hold64 els i.toNat a m) (v.toNat + 1) 0 v)) else none
  | _, _ => none

def I63 (els : List (List AV)) (i a m : Int) : Int × Int × Nat → St
  | (lo, n, _) => ⟨[(0, .int .i64 n), (1, .fn 64 [.ptr (.top 0) 0 0, .ptr (.top 2) 0 0, .ptr (.top 3) 0 0]), (5, .int .i64 lo)], [(0, .view 0 1 [[.sl (.top 1) 0 els.length]]), (1, .view 0 12 els), (2, .view 0 1 [[.int .i64 i]]), (3, .view 0 1 [[.fn 40 [.ptr (.top 4) 0 0, .ptr (.top 5) 0 0]]]), (4, .view 0 1 [[.int .i64 a]]), (5, .view 0 1 [[.int .i64 m]])], 6⟩

theorem ok63 : ROk d63 := by
  intro xs os r h
  unfold d63 at h
  (repeat' (split at h)) <;> first | (cases h; done) | (injection h with h; subst h; simp)
theorem s63 : Sound Try.prog 63 (rdS d63 ok63) := by
  refine rd_sound Try.func63 nm63 rc63 rv63 ok63 fun xs os r h vs ρ0 hvs => ⟨xs, ?_, fun _ h => h, fun w0 S hS => ?_⟩
  · unfold d63 at h
    (repeat' (split at h)) <;> first | (cases h; done) | exact Nat.le_of_ble_eq_true rfl
  unfold d63 at h
  split at h
  · split at h
    · rename_i v l els i a m hcond
      injection h with h
      subst h
      have hE : SoundAll Try.prog (EL [(64, rdS d64 ok64)]) := EL_sound (by simp only [List.mem_cons, List.not_mem_nil, or_false, forall_eq_or_imp, forall_eq]; exact s64)
      obtain ⟨rfl, hrows, hlen, ha0, hi0, hil, hv⟩ := hcond
      have hdat := rows_dat hrows
      have hT0 := rows_t0 hrows
      have hCl := rows_cl hrows
      obtain ⟨q, hq⟩ : ∃ q, lstZ (hold64 els i.toNat a m) (v.toNat + 1) 0 v = q := ⟨_, rfl⟩
      rw [hq]
      unfold m63
      repeat' with_reducible (first
        | refine Wm_seq ?_
        | refine Wm_skip ?_
        | refine Wm_ret ?_
        | refine Wm_block ?_
        | refine Wm_exit ?_
        | refine thenK_normal ?_
        | refine thenK_ret ?_
        | refine thenK_exit ?_
        | refine blockK_normal ?_
        | refine blockK_ret ?_
        | refine blockK_here ?_
        | refine loopK_ret ?_
        | refine loopK_exit ?_
        | refine unK_ret ?_
        | refine unK_exit ?_
        | refine unK_normal ?_
        | refine loopOk_succ ?_
        | refine blockK_exit (by decide) ?_
        | (refine wreg (mos := q63_0) hE [0, 1] (by kernel_rfl) ?_; intro K hK; simp [q63_0, d64]; (repeat' (first | refine hK _ _ ?_ | refine And.intro ?_ ?_ | (intro hc; try subst hc))) <;> (try clear hK K))
        | (refine wreg (mos := q63_1) hE [0, 1, 5] (by kernel_rfl) ?_; intro K hK; simp [q63_1, d64]; (repeat' (first | refine hK _ _ ?_ | refine And.intro ?_ ?_ | (intro hc; try subst hc))) <;> (try clear hK K))
        | (refine wreg (mos := q63_2) hE [0, 1, 5, 9] (by kernel_rfl) ?_; intro K hK; simp [q63_2, d64]; (repeat' (first | refine hK _ _ ?_ | refine And.intro ?_ ?_ | (intro hc; try subst hc))) <;> (try clear hK K))
        | (refine wreg (mos := q63_3) hE [0, 1, 5, 6] (by kernel_rfl) ?_; intro K hK; simp [q63_3, d64]; (repeat' (first | refine hK _ _ ?_ | refine And.intro ?_ ?_ | (intro hc; try subst hc))) <;> (try clear hK K))
        | (refine wreg (mos := q63_4) hE [0, 1, 5, 6, 18] (by kernel_rfl) ?_; intro K hK; simp [q63_4, d64]; (repeat' (first | refine hK _ _ ?_ | refine And.intro ?_ ?_ | (intro hc; try subst hc))) <;> (try clear hK K))
        | (refine wreg (mos := q63_5) hE [0, 1, 5] (by kernel_rfl) ?_; intro K hK; simp [q63_5, d64]; (repeat' (first | refine hK _ _ ?_ | refine And.intro ?_ ?_ | (intro hc; try subst hc))) <;> (try clear hK K))
        | (refine wreg (mos := q63_6) hE [0, 1, 5] (by kernel_rfl) ?_; intro K hK; simp [q63_6, d64]; (repeat' (first | refine hK _ _ ?_ | refine And.intro ?_ ?_ | (intro hc; try subst hc))) <;> (try clear hK K))
        | (refine wreg (mos := q63_7) hE [4] (by kernel_rfl) ?_; intro K hK; simp [q63_7, d64]; (repeat' (first | refine hK _ _ ?_ | refine And.intro ?_ ?_ | (intro hc; try subst hc))) <;> (try clear hK K))
        | (refine Wm_cond (b := _) (by with_unfolding_all rfl) (fun hc => ?_) (fun hc => ?_) <;> simp at hc <;> (try subst hc)))
      all_goals (refine Wm_loop (I63 els i a m) (fun x => 0 ≤ x.1 ∧ x.2.1 ≤ 9223372036854775807 ∧ (x.2.1 - x.1).toNat < x.2.2 ∧ lstZ (hold64 els i.toNat a m) x.2.2 x.1 x.2.1 = q) (fun x => x.2.2) (0, v, v.toNat + 1) ⟨Int.le_refl _, hv, by show (v - 0).toNat < v.toNat + 1; omega, hq⟩ ?_ ?_)
      · simp only [I63]
        rw [hS]
        refine Imp.auto (by kernel_rfl) ?_ ?_ <;> simp [nmap, lkp, mkPl, prs, prsL, prT, ddL, idL, NLe, CRenL, CRen, Ren, RenL, NObj.none, CRenLL, hT0, hCl]
      · intro ⟨lo, n, f⟩ ⟨r1, r2, r3, r4⟩
        replace r1 : 0 ≤ lo := r1
        replace r2 : n ≤ 9223372036854775807 := r2
        replace r3 : (n - lo).toNat < f := r3
        replace r4 : lstZ (hold64 els i.toNat a m) f lo n = q := r4
        obtain ⟨f, rfl⟩ : ∃ f', f = f' + 1 := ⟨f - 1, by omega⟩
        simp only [lstZ] at r4
        simp only [I63]
        by_cases hlt : lo < n
        · rw [if_pos hlt] at r4
          have wz : IntKind.wrap .i64 (n - lo) = n - lo := wrap_in (by omega) (by omega)
          have w1 : IntKind.wrap .i64 ((n - lo).tdiv 2) = (n - lo) / 2 := by rw [Int.tdiv_eq_ediv_of_nonneg (by omega)]; exact wrap_in (by omega) (by omega)
          obtain ⟨mid, hmid⟩ : ∃ mid, lo + (n - lo) / 2 = mid := ⟨_, rfl⟩
          have hm1 : lo ≤ mid := by omega
          have hm2 : mid < n := by omega
          rw [hmid] at r4
          have w2 : IntKind.wrap .i64 mid = mid := wrap_in (by omega) (by omega)
          have w3 : IntKind.wrap .i64 (mid + 1) = mid + 1 := wrap_in (by omega) (by omega)
          by_cases hb : hold64 els i.toNat a m mid = true
          · rw [if_pos hb] at r4
            repeat' with_reducible (first
              | refine Wm_seq ?_
              | refine Wm_skip ?_
              | refine Wm_ret ?_
              | refine Wm_block ?_
              | refine Wm_exit ?_
              | refine thenK_normal ?_
              | refine thenK_ret ?_
              | refine thenK_exit ?_
              | refine blockK_normal ?_
              | refine blockK_ret ?_
              | refine blockK_here ?_
              | refine loopK_ret ?_
              | refine loopK_exit ?_
              | refine unK_ret ?_
              | refine unK_exit ?_
              | refine unK_normal ?_
              | refine loopOk_succ ?_
              | refine blockK_exit (by decide) ?_
              | (refine wreg (mos := q63_0) hE [0, 1] (by kernel_rfl) ?_; intro K hK; simp [q63_0, hlt, wz, w1, hmid, w2, w3, hb, hdat, hrows, hlen, ha0, hi0, hil, d64]; (repeat' (first | refine hK _ _ ?_ | refine And.intro ?_ ?_ | (intro hc; try subst hc))) <;> (try clear hK K))
              | (refine wreg (mos := q63_1) hE [0, 1, 5] (by kernel_rfl) ?_; intro K hK; simp [q63_1, hlt, wz, w1, hmid, w2, w3, hb, hdat, hrows, hlen, ha0, hi0, hil, d64]; (repeat' (first | refine hK _ _ ?_ | refine And.intro ?_ ?_ | (intro hc; try subst hc))) <;> (try clear hK K))
              | (refine wreg (mos := q63_2) hE [0, 1, 5, 9] (by kernel_rfl) ?_; intro K hK; simp [q63_2, hlt, wz, w1, hmid, w2, w3, hb, hdat, hrows, hlen, ha0, hi0, hil, d64]; (repeat' (first | refine hK _ _ ?_ | refine And.intro ?_ ?_ | (intro hc; try subst hc))) <;> (try clear hK K))
              | (refine wreg (mos := q63_3) hE [0, 1, 5, 6] (by kernel_rfl) ?_; intro K hK; simp [q63_3, hlt, wz, w1, hmid, w2, w3, hb, hdat, hrows, hlen, ha0, hi0, hil, d64]; (repeat' (first | refine hK _ _ ?_ | refine And.intro ?_ ?_ | (intro hc; try subst hc))) <;> (try clear hK K))
              | (refine wreg (mos := q63_4) hE [0, 1, 5, 6, 18] (by kernel_rfl) ?_; intro K hK; simp [q63_4, hlt, wz, w1, hmid, w2, w3, hb, hdat, hrows, hlen, ha0, hi0, hil, d64]; (repeat' (first | refine hK _ _ ?_ | refine And.intro ?_ ?_ | (intro hc; try subst hc))) <;> (try clear hK K))
              | (refine wreg (mos := q63_5) hE [0, 1, 5] (by kernel_rfl) ?_; intro K hK; simp [q63_5, hlt, wz, w1, hmid, w2, w3, hb, hdat, hrows, hlen, ha0, hi0, hil, d64]; (repeat' (first | refine hK _ _ ?_ | refine And.intro ?_ ?_ | (intro hc; try subst hc))) <;> (try clear hK K))
              | (refine wreg (mos := q63_6) hE [0, 1, 5] (by kernel_rfl) ?_; intro K hK; simp [q63_6, hlt, wz, w1, hmid, w2, w3, hb, hdat, hrows, hlen, ha0, hi0, hil, d64]; (repeat' (first | refine hK _ _ ?_ | refine And.intro ?_ ?_ | (intro hc; try subst hc))) <;> (try clear hK K))
              | (refine wreg (mos := q63_7) hE [4] (by kernel_rfl) ?_; intro K hK; simp [q63_7, hlt, wz, w1, hmid, w2, w3, hb, hdat, hrows, hlen, ha0, hi0, hil, d64]; (repeat' (first | refine hK _ _ ?_ | refine And.intro ?_ ?_ | (intro hc; try subst hc))) <;> (try clear hK K))
              | (refine Wm_cond (b := _) (by with_unfolding_all rfl) (fun hc => ?_) (fun hc => ?_) <;> simp at hc <;> (try subst hc)))
            all_goals refine ⟨(lo, mid, f), ⟨r1, by show mid ≤ 9223372036854775807; omega, by show (mid - lo).toNat < f; omega, r4⟩, Nat.lt_succ_self f, ?_⟩
            all_goals simp only [I63]
            all_goals rw [hS]
            all_goals (refine Imp.auto (by kernel_rfl) ?_ ?_ <;> simp [nmap, lkp, mkPl, prs, prsL, prT, ddL, idL, NLe, CRenL, CRen, Ren, RenL, NObj.none, CRenLL, hT0, hCl])
          · rw [if_neg hb] at r4
            have hb' : hold64 els i.toNat a m mid = false := by simpa using hb
            repeat' with_reducible (first
              | refine Wm_seq ?_
              | refine Wm_skip ?_
              | refine Wm_ret ?_
              | refine Wm_block ?_
              | refine Wm_exit ?_
              | refine thenK_normal ?_
              | refine thenK_ret ?_
              | refine thenK_exit ?_
              | refine blockK_normal ?_
              | refine blockK_ret ?_
              | refine blockK_here ?_
              | refine loopK_ret ?_
              | refine loopK_exit ?_
              | refine unK_ret ?_
              | refine unK_exit ?_
              | refine unK_normal ?_
              | refine loopOk_succ ?_
              | refine blockK_exit (by decide) ?_
              | (refine wreg (mos := q63_0) hE [0, 1] (by kernel_rfl) ?_; intro K hK; simp [q63_0, hlt, wz, w1, hmid, w2, w3, hb', hdat, hrows, hlen, ha0, hi0, hil, d64]; (repeat' (first | refine hK _ _ ?_ | refine And.intro ?_ ?_ | (intro hc; try subst hc))) <;> (try clear hK K))
              | (refine wreg (mos := q63_1) hE [0, 1, 5] (by kernel_rfl) ?_; intro K hK; simp [q63_1, hlt, wz, w1, hmid, w2, w3, hb', hdat, hrows, hlen, ha0, hi0, hil, d64]; (repeat' (first | refine hK _ _ ?_ | refine And.intro ?_ ?_ | (intro hc; try subst hc))) <;> (try clear hK K))
              | (refine wreg (mos := q63_2) hE [0, 1, 5, 9] (by kernel_rfl) ?_; intro K hK; simp [q63_2, hlt, wz, w1, hmid, w2, w3, hb', hdat, hrows, hlen, ha0, hi0, hil, d64]; (repeat' (first | refine hK _ _ ?_ | refine And.intro ?_ ?_ | (intro hc; try subst hc))) <;> (try clear hK K))
              | (refine wreg (mos := q63_3) hE [0, 1, 5, 6] (by kernel_rfl) ?_; intro K hK; simp [q63_3, hlt, wz, w1, hmid, w2, w3, hb', hdat, hrows, hlen, ha0, hi0, hil, d64]; (repeat' (first | refine hK _ _ ?_ | refine And.intro ?_ ?_ | (intro hc; try subst hc))) <;> (try clear hK K))
              | (refine wreg (mos := q63_4) hE [0, 1, 5, 6, 18] (by kernel_rfl) ?_; intro K hK; simp [q63_4, hlt, wz, w1, hmid, w2, w3, hb', hdat, hrows, hlen, ha0, hi0, hil, d64]; (repeat' (first | refine hK _ _ ?_ | refine And.intro ?_ ?_ | (intro hc; try subst hc))) <;> (try clear hK K))
              | (refine wreg (mos := q63_5) hE [0, 1, 5] (by kernel_rfl) ?_; intro K hK; simp [q63_5, hlt, wz, w1, hmid, w2, w3, hb', hdat, hrows, hlen, ha0, hi0, hil, d64]; (repeat' (first | refine hK _ _ ?_ | refine And.intro ?_ ?_ | (intro hc; try subst hc))) <;> (try clear hK K))
              | (refine wreg (mos := q63_6) hE [0, 1, 5] (by kernel_rfl) ?_; intro K hK; simp [q63_6, hlt, wz, w1, hmid, w2, w3, hb', hdat, hrows, hlen, ha0, hi0, hil, d64]; (repeat' (first | refine hK _ _ ?_ | refine And.intro ?_ ?_ | (intro hc; try subst hc))) <;> (try clear hK K))
              | (refine wreg (mos := q63_7) hE [4] (by kernel_rfl) ?_; intro K hK; simp [q63_7, hlt, wz, w1, hmid, w2, w3, hb', hdat, hrows, hlen, ha0, hi0, hil, d64]; (repeat' (first | refine hK _ _ ?_ | refine And.intro ?_ ?_ | (intro hc; try subst hc))) <;> (try clear hK K))
              | (refine Wm_cond (b := _) (by with_unfolding_all rfl) (fun hc => ?_) (fun hc => ?_) <;> simp at hc <;> (try subst hc)))
            all_goals refine ⟨(mid + 1, n, f), ⟨by show 0 ≤ mid + 1; omega, r2, by show (n - (mid + 1)).toNat < f; omega, r4⟩, Nat.lt_succ_self f, ?_⟩
            all_goals simp only [I63]
            all_goals rw [hS]
            all_goals (refine Imp.auto (by kernel_rfl) ?_ ?_ <;> simp [nmap, lkp, mkPl, prs, prsL, prT, ddL, idL, NLe, CRenL, CRen, Ren, RenL, NObj.none, CRenLL, hT0, hCl])
        · rw [if_neg hlt] at r4
          subst r4
          repeat' with_reducible (first
            | refine Wm_seq ?_
            | refine Wm_skip ?_
            | refine Wm_ret ?_
            | refine Wm_block ?_
            | refine Wm_exit ?_
            | refine thenK_normal ?_
            | refine thenK_ret ?_
            | refine thenK_exit ?_
            | refine blockK_normal ?_
            | refine blockK_ret ?_
            | refine blockK_here ?_
            | refine loopK_ret ?_
            | refine loopK_exit ?_
            | refine unK_ret ?_
            | refine unK_exit ?_
            | refine unK_normal ?_
            | refine loopOk_succ ?_
            | refine blockK_exit (by decide) ?_
            | (refine wreg (mos := q63_0) hE [0, 1] (by kernel_rfl) ?_; intro K hK; simp [q63_0, hlt, d64]; (repeat' (first | refine hK _ _ ?_ | refine And.intro ?_ ?_ | (intro hc; try subst hc))) <;> (try clear hK K))
            | (refine wreg (mos := q63_1) hE [0, 1, 5] (by kernel_rfl) ?_; intro K hK; simp [q63_1, hlt, d64]; (repeat' (first | refine hK _ _ ?_ | refine And.intro ?_ ?_ | (intro hc; try subst hc))) <;> (try clear hK K))
            | (refine wreg (mos := q63_2) hE [0, 1, 5, 9] (by kernel_rfl) ?_; intro K hK; simp [q63_2, hlt, d64]; (repeat' (first | refine hK _ _ ?_ | refine And.intro ?_ ?_ | (intro hc; try subst hc))) <;> (try clear hK K))
            | (refine wreg (mos := q63_3) hE [0, 1, 5, 6] (by kernel_rfl) ?_; intro K hK; simp [q63_3, hlt, d64]; (repeat' (first | refine hK _ _ ?_ | refine And.intro ?_ ?_ | (intro hc; try subst hc))) <;> (try clear hK K))
            | (refine wreg (mos := q63_4) hE [0, 1, 5, 6, 18] (by kernel_rfl) ?_; intro K hK; simp [q63_4, hlt, d64]; (repeat' (first | refine hK _ _ ?_ | refine And.intro ?_ ?_ | (intro hc; try subst hc))) <;> (try clear hK K))
            | (refine wreg (mos := q63_5) hE [0, 1, 5] (by kernel_rfl) ?_; intro K hK; simp [q63_5, hlt, d64]; (repeat' (first | refine hK _ _ ?_ | refine And.intro ?_ ?_ | (intro hc; try subst hc))) <;> (try clear hK K))
            | (refine wreg (mos := q63_6) hE [0, 1, 5] (by kernel_rfl) ?_; intro K hK; simp [q63_6, hlt, d64]; (repeat' (first | refine hK _ _ ?_ | refine And.intro ?_ ?_ | (intro hc; try subst hc))) <;> (try clear hK K))
            | (refine wreg (mos := q63_7) hE [4] (by kernel_rfl) ?_; intro K hK; simp [q63_7, hlt, d64]; (repeat' (first | refine hK _ _ ?_ | refine And.intro ?_ ?_ | (intro hc; try subst hc))) <;> (try clear hK K))
            | (refine Wm_cond (b := _) (by with_unfolding_all rfl) (fun hc => ?_) (fun hc => ?_) <;> simp at hc <;> (try subst hc)))
          all_goals first | (simp; done) | (simp at *; omega) | ((try simp[hT0, hCl]); refine Imp.auto (by kernel_rfl) ?_ ?_ <;> simp [nmap, lkp, mkPl, prs, prsL, prT, ddL, idL, NLe, CRenL, CRen, Ren, RenL, NObj.none, CRenLL, hT0, hCl])
    · cases h
  · cases h
end Go.W
