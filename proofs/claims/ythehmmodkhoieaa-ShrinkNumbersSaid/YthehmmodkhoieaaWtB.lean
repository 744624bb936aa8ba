import Derived.Test.YthehmmodkhoieaaWtA
namespace Go.W
open Go.Proofs
set_option linter.unusedSimpArgs false
set_option linter.unusedVariables false
set_option maxHeartbeats 8000000
attribute [local irreducible] Wm
def belowZ (s n : Int) : Int := if n < 1 then 0 else (nextS s / 8589934592) % n

theorem nextS_in (s : Int) : 0 ≤ nextS s ∧ nextS s < 18446744073709551616 := by
  unfold nextS
  rw [IntKind.wrap_u64]
  omega

theorem u64_in' {n : Int} (h1 : 0 ≤ n) (h2 : n ≤ 18446744073709551615) : IntKind.wrap .u64 n = n := by
  rw [IntKind.wrap_u64]; omega

theorem below_shr {s n : Int} (h1 : 1 ≤ n) (h2 : n ≤ 9223372036854775807) : IntKind.wrap .i64 ((shrI .u64 (nextS s) 33).tmod (IntKind.wrap .u64 n)) = belowZ s n := by
  have hs := nextS_in s
  have e : shrI .u64 (nextS s) 33 = nextS s / 8589934592 := by
    show (nextS s).fdiv (8589934592 : Int) = _
    rw [Int.fdiv_eq_ediv_of_nonneg _ (by omega)]
  have h3 : 0 ≤ nextS s / 8589934592 := by omega
  rw [e, u64_in' (by omega) (by omega), Int.tmod_eq_emod_of_nonneg h3]
  have h4 := Int.emod_nonneg (nextS s / 8589934592) (show n ≠ 0 by omega)
  have h5 := Int.emod_lt_of_pos (nextS s / 8589934592) (show 0 < n by omega)
  rw [wrap_in (by omega) (by omega), belowZ, if_neg (by omega)]

theorem below_quo {s n : Int} (h1 : 1 ≤ n) (h2 : n ≤ 9223372036854775807) : IntKind.wrap .i64 ((IntKind.wrap .u64 ((nextS s).tdiv 8589934592)).tmod (IntKind.wrap .u64 n)) = belowZ s n := by
  have hs := nextS_in s
  have h3 : 0 ≤ nextS s / 8589934592 := by omega
  rw [Int.tdiv_eq_ediv_of_nonneg hs.1, u64_in' (n := nextS s / 8589934592) h3 (by omega), u64_in' (n := n) (by omega) (by omega), Int.tmod_eq_emod_of_nonneg h3]
  have h4 := Int.emod_nonneg (nextS s / 8589934592) (show n ≠ 0 by omega)
  have h5 := Int.emod_lt_of_pos (nextS s / 8589934592) (show 0 < n by omega)
  rw [wrap_in (by omega) (by omega), belowZ, if_neg (by omega)]

theorem below_in {s n : Int} (h1 : 1 ≤ n) : 0 ≤ belowZ s n ∧ belowZ s n < n := by
  rw [belowZ, if_neg (by omega)]
  exact ⟨Int.emod_nonneg _ (by omega), Int.emod_lt_of_pos _ (by omega)⟩

theorem wrap_u64_pos {n : Int} (h1 : 1 ≤ n) (h2 : n ≤ 9223372036854775807) : ¬ IntKind.wrap .u64 n = 0 := by
  rw [u64_in' (by omega) (by omega)]; omega

def d16 : List AV → Option Ans
  | [.op _ [.int .u64 s], .int .i64 n] => if n ≤ 9223372036854775807 then some ⟨.int .i64 (belowZ s n), [.cells 0 [.int .u64 (nextS s)]]⟩ else none
  | _ => none

theorem ok16 : NOk [(1, true)] d16 := by
  intro xs a h
  unfold d16 at h
  (repeat' (split at h)) <;> first | (cases h; done) | (injection h with h; subst h; refine ⟨Ends_of ?_, ?_⟩ <;> simp)
theorem s16 : Sound Try.prog 16 (nestS [(1, true)] d16 ok16) := by
  refine nest_sound Try.func16 nm16 rc16 rv16 ok16 (fun xs a h => ?_) fun xs a h w0 S hS => ?_
  · unfold d16 at h
    (repeat' (split at h)) <;> first | (cases h; done) | exact Nat.le_of_ble_eq_true rfl
  unfold d16 at h
  split at h
  · split at h
    · rename_i t s n hcond
      injection h with h
      subst h
      have hE : SoundAll Try.prog (EL [(19, nestS [(1, true)] d19 ok19)]) := EL_sound (by simp only [List.mem_cons, List.not_mem_nil, or_false, forall_eq_or_imp, forall_eq]; exact s19)
      by_cases h1 : n < 1
      · unfold m16
        repeat' with_reducible (first
          | refine Wm_seq ?_
          | refine Wm_skip ?_
          | refine Wm_ret ?_
          | refine Wm_block ?_
          | refine Wm_exit ?_
          | refine thenK_normal ?_
          | refine thenK_ret ?_
          | refine thenK_exit ?_
          | refine blockK_normal ?_
          | refine blockK_ret ?_
          | refine blockK_here ?_
          | refine loopK_ret ?_
          | refine loopK_exit ?_
          | refine unK_ret ?_
          | refine unK_exit ?_
          | refine unK_normal ?_
          | refine loopOk_succ ?_
          | refine blockK_exit (by decide) ?_
          | (refine wreg (mos := q16_0) hE [0, 1] (by kernel_rfl) ?_; intro K hK; simp [q16_0, d19]; (repeat' (first | refine hK _ _ ?_ | refine And.intro ?_ ?_ | intro hc)) <;> (try clear hK K) <;> (try subst_vars))
          | (refine wreg (mos := q16_1) hE [1, 5] (by kernel_rfl) ?_; intro K hK; simp [q16_1, d19]; (repeat' (first | refine hK _ _ ?_ | refine And.intro ?_ ?_ | intro hc)) <;> (try clear hK K) <;> (try subst_vars))
          | (refine wreg (mos := q16_2) hE [1, 5, 9] (by kernel_rfl) ?_; intro K hK; simp [q16_2, d19]; (repeat' (first | refine hK _ _ ?_ | refine And.intro ?_ ?_ | intro hc)) <;> (try clear hK K) <;> (try subst_vars))
          | (refine wreg (mos := q16_3) hE [4] (by kernel_rfl) ?_; intro K hK; simp [q16_3, d19]; (repeat' (first | refine hK _ _ ?_ | refine And.intro ?_ ?_ | intro hc)) <;> (try clear hK K) <;> (try subst_vars))
          | (refine wreg (mos := q16_4) hE [4] (by kernel_rfl) ?_; intro K hK; simp [q16_4, d19]; (repeat' (first | refine hK _ _ ?_ | refine And.intro ?_ ?_ | intro hc)) <;> (try clear hK K) <;> (try subst_vars))
          | (refine Wm_cond (b := _) (by with_unfolding_all rfl) (fun hc => ?_) (fun hc => ?_) <;> simp at hc <;> (try subst_vars)))
        all_goals first | (simp; done) | (simp at *; omega) | (simp[belowZ, h1]; refine Imp.auto (by kernel_rfl) ?_ ?_ <;> simp [nmap, lkp, mkPl, prs, prsL, prT, ddL, idL, NLe, CRenL, CRen, Ren, RenL, NObj.none, belowZ, h1])
      · have hz := wrap_u64_pos (n := n) (by omega) hcond
        unfold m16
        repeat' with_reducible (first
          | refine Wm_seq ?_
          | refine Wm_skip ?_
          | refine Wm_ret ?_
          | refine Wm_block ?_
          | refine Wm_exit ?_
          | refine thenK_normal ?_
          | refine thenK_ret ?_
          | refine thenK_exit ?_
          | refine blockK_normal ?_
          | refine blockK_ret ?_
          | refine blockK_here ?_
          | refine loopK_ret ?_
          | refine loopK_exit ?_
          | refine unK_ret ?_
          | refine unK_exit ?_
          | refine unK_normal ?_
          | refine loopOk_succ ?_
          | refine blockK_exit (by decide) ?_
          | (refine wreg (mos := q16_0) hE [0, 1] (by kernel_rfl) ?_; intro K hK; simp [q16_0, hz, h1, below_shr (s := s) (n := n) (by omega) hcond, d19]; (repeat' (first | refine hK _ _ ?_ | refine And.intro ?_ ?_ | intro hc)) <;> (try clear hK K) <;> (try subst_vars))
          | (refine wreg (mos := q16_1) hE [1, 5] (by kernel_rfl) ?_; intro K hK; simp [q16_1, hz, h1, below_shr (s := s) (n := n) (by omega) hcond, d19]; (repeat' (first | refine hK _ _ ?_ | refine And.intro ?_ ?_ | intro hc)) <;> (try clear hK K) <;> (try subst_vars))
          | (refine wreg (mos := q16_2) hE [1, 5, 9] (by kernel_rfl) ?_; intro K hK; simp [q16_2, hz, h1, below_shr (s := s) (n := n) (by omega) hcond, d19]; (repeat' (first | refine hK _ _ ?_ | refine And.intro ?_ ?_ | intro hc)) <;> (try clear hK K) <;> (try subst_vars))
          | (refine wreg (mos := q16_3) hE [4] (by kernel_rfl) ?_; intro K hK; simp [q16_3, hz, h1, below_shr (s := s) (n := n) (by omega) hcond, d19]; (repeat' (first | refine hK _ _ ?_ | refine And.intro ?_ ?_ | intro hc)) <;> (try clear hK K) <;> (try subst_vars))
          | (refine wreg (mos := q16_4) hE [4] (by kernel_rfl) ?_; intro K hK; simp [q16_4, hz, h1, below_shr (s := s) (n := n) (by omega) hcond, d19]; (repeat' (first | refine hK _ _ ?_ | refine And.intro ?_ ?_ | intro hc)) <;> (try clear hK K) <;> (try subst_vars))
          | (refine Wm_cond (b := _) (by with_unfolding_all rfl) (fun hc => ?_) (fun hc => ?_) <;> simp at hc <;> (try subst_vars)))
        all_goals first | (simp; done) | (simp at *; omega) | (simp[h1]; refine Imp.auto (by kernel_rfl) ?_ ?_ <;> simp [nmap, lkp, mkPl, prs, prsL, prT, ddL, idL, NLe, CRenL, CRen, Ren, RenL, NObj.none, h1])
    · cases h
  · cases h

def d17 : List AV → Option Ans
  | [.op _ [.int .u64 s], .int .i64 n] => if n ≤ 9223372036854775807 then some ⟨.int .i64 (belowZ s n), [.cells 0 [.int .u64 (nextS s)]]⟩ else none
  | _ => none

theorem ok17 : NOk [(1, true)] d17 := by
  intro xs a h
  unfold d17 at h
  (repeat' (split at h)) <;> first | (cases h; done) | (injection h with h; subst h; refine ⟨Ends_of ?_, ?_⟩ <;> simp)
theorem s17 : Sound Try.prog 17 (nestS [(1, true)] d17 ok17) := by
  refine nest_sound Try.func17 nm17 rc17 rv17 ok17 (fun xs a h => ?_) fun xs a h w0 S hS => ?_
  · unfold d17 at h
    (repeat' (split at h)) <;> first | (cases h; done) | exact Nat.le_of_ble_eq_true rfl
  unfold d17 at h
  split at h
  · split at h
    · rename_i t s n hcond
      injection h with h
      subst h
      have hE : SoundAll Try.prog (EL []) := EL_sound (by simp)
      have he : IntKind.wrap .u64 (IntKind.wrap .u64 (s * 6364136223846793005) + 1442695040888963407) = nextS s := rfl
      by_cases h1 : n < 1
      · unfold m17
        repeat' with_reducible (first
          | refine Wm_seq ?_
          | refine Wm_skip ?_
          | refine Wm_ret ?_
          | refine Wm_block ?_
          | refine Wm_exit ?_
          | refine thenK_normal ?_
          | refine thenK_ret ?_
          | refine thenK_exit ?_
          | refine blockK_normal ?_
          | refine blockK_ret ?_
          | refine blockK_here ?_
          | refine loopK_ret ?_
          | refine loopK_exit ?_
          | refine unK_ret ?_
          | refine unK_exit ?_
          | refine unK_normal ?_
          | refine loopOk_succ ?_
          | refine blockK_exit (by decide) ?_
          | (refine wreg (mos := q17_0) hE [0, 1] (by kernel_rfl) ?_; intro K hK; simp [q17_0, he]; (repeat' (first | refine hK _ _ ?_ | refine And.intro ?_ ?_ | intro hc)) <;> (try clear hK K) <;> (try subst_vars))
          | (refine wreg (mos := q17_1) hE [0, 1] (by kernel_rfl) ?_; intro K hK; simp [q17_1, he]; (repeat' (first | refine hK _ _ ?_ | refine And.intro ?_ ?_ | intro hc)) <;> (try clear hK K) <;> (try subst_vars))
          | (refine wreg (mos := q17_2) hE [0, 1, 15] (by kernel_rfl) ?_; intro K hK; simp [q17_2, he]; (repeat' (first | refine hK _ _ ?_ | refine And.intro ?_ ?_ | intro hc)) <;> (try clear hK K) <;> (try subst_vars))
          | (refine wreg (mos := q17_3) hE [4] (by kernel_rfl) ?_; intro K hK; simp [q17_3, he]; (repeat' (first | refine hK _ _ ?_ | refine And.intro ?_ ?_ | intro hc)) <;> (try clear hK K) <;> (try subst_vars))
          | (refine wreg (mos := q17_4) hE [4] (by kernel_rfl) ?_; intro K hK; simp [q17_4, he]; (repeat' (first | refine hK _ _ ?_ | refine And.intro ?_ ?_ | intro hc)) <;> (try clear hK K) <;> (try subst_vars))
          | (refine Wm_cond (b := _) (by with_unfolding_all rfl) (fun hc => ?_) (fun hc => ?_) <;> simp at hc <;> (try subst_vars)))
        all_goals first | (simp; done) | (simp at *; omega) | (simp[belowZ, h1]; refine Imp.auto (by kernel_rfl) ?_ ?_ <;> simp [nmap, lkp, mkPl, prs, prsL, prT, ddL, idL, NLe, CRenL, CRen, Ren, RenL, NObj.none, belowZ, h1])
      · have hz := wrap_u64_pos (n := n) (by omega) hcond
        unfold m17
        repeat' with_reducible (first
          | refine Wm_seq ?_
          | refine Wm_skip ?_
          | refine Wm_ret ?_
          | refine Wm_block ?_
          | refine Wm_exit ?_
          | refine thenK_normal ?_
          | refine thenK_ret ?_
          | refine thenK_exit ?_
          | refine blockK_normal ?_
          | refine blockK_ret ?_
          | refine blockK_here ?_
          | refine loopK_ret ?_
          | refine loopK_exit ?_
          | refine unK_ret ?_
          | refine unK_exit ?_
          | refine unK_normal ?_
          | refine loopOk_succ ?_
          | refine blockK_exit (by decide) ?_
          | (refine wreg (mos := q17_0) hE [0, 1] (by kernel_rfl) ?_; intro K hK; simp [q17_0, he, hz, h1, below_quo (s := s) (n := n) (by omega) hcond]; (repeat' (first | refine hK _ _ ?_ | refine And.intro ?_ ?_ | intro hc)) <;> (try clear hK K) <;> (try subst_vars))
          | (refine wreg (mos := q17_1) hE [0, 1] (by kernel_rfl) ?_; intro K hK; simp [q17_1, he, hz, h1, below_quo (s := s) (n := n) (by omega) hcond]; (repeat' (first | refine hK _ _ ?_ | refine And.intro ?_ ?_ | intro hc)) <;> (try clear hK K) <;> (try subst_vars))
          | (refine wreg (mos := q17_2) hE [0, 1, 15] (by kernel_rfl) ?_; intro K hK; simp [q17_2, he, hz, h1, below_quo (s := s) (n := n) (by omega) hcond]; (repeat' (first | refine hK _ _ ?_ | refine And.intro ?_ ?_ | intro hc)) <;> (try clear hK K) <;> (try subst_vars))
          | (refine wreg (mos := q17_3) hE [4] (by kernel_rfl) ?_; intro K hK; simp [q17_3, he, hz, h1, below_quo (s := s) (n := n) (by omega) hcond]; (repeat' (first | refine hK _ _ ?_ | refine And.intro ?_ ?_ | intro hc)) <;> (try clear hK K) <;> (try subst_vars))
          | (refine wreg (mos := q17_4) hE [4] (by kernel_rfl) ?_; intro K hK; simp [q17_4, he, hz, h1, below_quo (s := s) (n := n) (by omega) hcond]; (repeat' (first | refine hK _ _ ?_ | refine And.intro ?_ ?_ | intro hc)) <;> (try clear hK K) <;> (try subst_vars))
          | (refine Wm_cond (b := _) (by with_unfolding_all rfl) (fun hc => ?_) (fun hc => ?_) <;> simp at hc <;> (try subst_vars)))
        all_goals first | (simp; done) | (simp at *; omega) | (simp[h1]; refine Imp.auto (by kernel_rfl) ?_ ?_ <;> simp [nmap, lkp, mkPl, prs, prsL, prT, ddL, idL, NLe, CRenL, CRen, Ren, RenL, NObj.none, h1])
    · cases h
  · cases h

def intR (v : Int) : List AV := [.int .i64 v]

/-- The integers of a row. -/
def ints : List (List AV) → Option (List Int)
  | [] => some []
  | [.int .i64 v] :: r => (ints r).map (v :: ·)
  | _ => none

theorem ints_some : ∀ {l : List (List AV)} {zs : List Int}, ints l = some zs → l = zs.map intR
  | [], zs, h => by simp [ints] at h; subst h; rfl
  | c :: r, zs, h => by
    unfold ints at h
    split at h
    · rename_i e; cases e
    · rename_i v r' e
      injection e with e1 e2
      subst e1 e2
      cases hr : ints r with
      | none => simp [hr] at h
      | some q => simp [hr] at h; subst h; rw [ints_some hr]; rfl
    · cases h

def pickZ (s : Int) (l : List Int) : Int := if l = [] then 0 else l.getD (belowZ s l.length).toNat 0

def d18 : List AV → Option Ans
  | [.op _ [.int .u64 s], .os _ _ els] => match ints els with
    | some l => if l.length ≤ 9223372036854775807 then some ⟨.int .i64 (pickZ s l), [.cells 0 [.int .u64 (if l = [] then s else nextS s)], .free]⟩ else none
    | none => none
  | _ => none

theorem ok18 : NOk [(1, true), (1, false)] d18 := by
  intro xs a h
  unfold d18 at h
  split at h
  · split at h
    · split at h
      · injection h with h; subst h; refine ⟨Ends_of ?_, ?_⟩ <;> simp
      · cases h
    · cases h
  · cases h

theorem s18 : Sound Try.prog 18 (nestS [(1, true), (1, false)] d18 ok18) := by
  refine nest_sound Try.func18 nm18 rc18 rv18 ok18 (fun xs a h => ?_) fun xs a h w0 S hS => ?_
  · unfold d18 at h
    (repeat' (split at h)) <;> first | (cases h; done) | exact Nat.le_of_ble_eq_true rfl
  unfold d18 at h
  split at h
  · rename_i t s t' sz els
    split at h
    · rename_i l hl
      split at h
      · rename_i hcond
        injection h with h
        subst h
        have e := ints_some hl
        subst e
        have hE : SoundAll Try.prog (EL [(16, nestS [(1, true)] d16 ok16)]) := EL_sound (by simp only [List.mem_cons, List.not_mem_nil, or_false, forall_eq_or_imp, forall_eq]; exact s16)
        by_cases h0 : l = []
        · subst h0
          unfold m18
          repeat' with_reducible (first
            | refine Wm_seq ?_
            | refine Wm_skip ?_
            | refine Wm_ret ?_
            | refine Wm_block ?_
            | refine Wm_exit ?_
            | refine thenK_normal ?_
            | refine thenK_ret ?_
            | refine thenK_exit ?_
            | refine blockK_normal ?_
            | refine blockK_ret ?_
            | refine blockK_here ?_
            | refine loopK_ret ?_
            | refine loopK_exit ?_
            | refine unK_ret ?_
            | refine unK_exit ?_
            | refine unK_normal ?_
            | refine loopOk_succ ?_
            | refine blockK_exit (by decide) ?_
            | (refine wreg (mos := q18_0) hE [0, 1] (by kernel_rfl) ?_; intro K hK; simp [q18_0, d16, intR]; (repeat' (first | refine hK _ _ ?_ | refine And.intro ?_ ?_ | intro hc)) <;> (try clear hK K) <;> (try subst_vars))
            | (refine wreg (mos := q18_1) hE [0, 1, 7] (by kernel_rfl) ?_; intro K hK; simp [q18_1, d16, intR]; (repeat' (first | refine hK _ _ ?_ | refine And.intro ?_ ?_ | intro hc)) <;> (try clear hK K) <;> (try subst_vars))
            | (refine wreg (mos := q18_2) hE [4] (by kernel_rfl) ?_; intro K hK; simp [q18_2, d16, intR]; (repeat' (first | refine hK _ _ ?_ | refine And.intro ?_ ?_ | intro hc)) <;> (try clear hK K) <;> (try subst_vars))
            | (refine wreg (mos := q18_3) hE [4] (by kernel_rfl) ?_; intro K hK; simp [q18_3, d16, intR]; (repeat' (first | refine hK _ _ ?_ | refine And.intro ?_ ?_ | intro hc)) <;> (try clear hK K) <;> (try subst_vars))
            | (refine Wm_cond (b := _) (by with_unfolding_all rfl) (fun hc => ?_) (fun hc => ?_) <;> simp at hc <;> (try subst_vars)))
          all_goals first | (simp; done) | (simp [pickZ]; refine Imp.auto (by kernel_rfl) ?_ ?_ <;> simp [nmap, lkp, mkPl, prs, prsL, prT, ddL, idL, NLe, CRenL, CRen, Ren, RenL, NObj.none, pickZ])
        · have hl0 : 0 < l.length := List.length_pos_iff.2 h0
          have hb := below_in (s := s) (n := (l.length : Int)) (by omega)
          have hlt : (belowZ s l.length).toNat < l.length := by omega
          have hn2 : (l.length : Int) ≤ 9223372036854775807 := by omega
          have hg : l[(belowZ s l.length).toNat]? = some (l.getD (belowZ s l.length).toNat 0) := by rw [List.getD_eq_getElem?_getD, List.getElem?_eq_getElem hlt]; rfl
          unfold m18
          repeat' with_reducible (first
            | refine Wm_seq ?_
            | refine Wm_skip ?_
            | refine Wm_ret ?_
            | refine Wm_block ?_
            | refine Wm_exit ?_
            | refine thenK_normal ?_
            | refine thenK_ret ?_
            | refine thenK_exit ?_
            | refine blockK_normal ?_
            | refine blockK_ret ?_
            | refine blockK_here ?_
            | refine loopK_ret ?_
            | refine loopK_exit ?_
            | refine unK_ret ?_
            | refine unK_exit ?_
            | refine unK_normal ?_
            | refine loopOk_succ ?_
            | refine blockK_exit (by decide) ?_
            | (refine wreg (mos := q18_0) hE [0, 1] (by kernel_rfl) ?_; intro K hK; simp [q18_0, d16, intR, h0, hl0, hb.1, hb.2, hlt, hn2, hg]; (repeat' (first | refine hK _ _ ?_ | refine And.intro ?_ ?_ | intro hc)) <;> (try clear hK K) <;> (try subst_vars))
            | (refine wreg (mos := q18_1) hE [0, 1, 7] (by kernel_rfl) ?_; intro K hK; simp [q18_1, d16, intR, h0, hl0, hb.1, hb.2, hlt, hn2, hg]; (repeat' (first | refine hK _ _ ?_ | refine And.intro ?_ ?_ | intro hc)) <;> (try clear hK K) <;> (try subst_vars))
            | (refine wreg (mos := q18_2) hE [4] (by kernel_rfl) ?_; intro K hK; simp [q18_2, d16, intR, h0, hl0, hb.1, hb.2, hlt, hn2, hg]; (repeat' (first | refine hK _ _ ?_ | refine And.intro ?_ ?_ | intro hc)) <;> (try clear hK K) <;> (try subst_vars))
            | (refine wreg (mos := q18_3) hE [4] (by kernel_rfl) ?_; intro K hK; simp [q18_3, d16, intR, h0, hl0, hb.1, hb.2, hlt, hn2, hg]; (repeat' (first | refine hK _ _ ?_ | refine And.intro ?_ ?_ | intro hc)) <;> (try clear hK K) <;> (try subst_vars))
            | (refine Wm_cond (b := _) (by with_unfolding_all rfl) (fun hc => ?_) (fun hc => ?_) <;> simp at hc <;> (try subst_vars)))
          all_goals first | (simp; done) | (simp [pickZ, h0]; refine Imp.auto (by kernel_rfl) ?_ ?_ <;> simp [nmap, lkp, mkPl, prs, prsL, prT, ddL, idL, NLe, CRenL, CRen, Ren, RenL, NObj.none, pickZ, h0, List.getElem?_eq_getElem hlt])
      · cases h
    · cases h
  · cases h

def d53 : List AV → Option Ans
  | [] => some ⟨.agg [.int .i64 2, .int .i64 1, .int .i64 1, .int .i64 40, .int .i64 100, .int .i64 5], []⟩
  | _ => none

theorem ok53 : NOk [] d53 := by
  intro xs a h
  unfold d53 at h
  (repeat' (split at h)) <;> first | (cases h; done) | (injection h with h; subst h; refine ⟨Ends_of ?_, ?_⟩ <;> simp)
theorem s53 : Sound Try.prog 53 (nestS [] d53 ok53) := by
  refine nest_sound Try.func53 nm53 rc53 rv53 ok53 (fun xs a h => ?_) fun xs a h w0 S hS => ?_
  · unfold d53 at h
    (repeat' (split at h)) <;> first | (cases h; done) | exact Nat.le_of_ble_eq_true rfl
  unfold d53 at h
  split at h
  · skip
    injection h with h
    subst h
    have hE : SoundAll Try.prog (EL []) := EL_sound (by simp)
    unfold m53
    repeat' with_reducible (first
      | refine Wm_seq ?_
      | refine Wm_skip ?_
      | refine Wm_ret ?_
      | refine Wm_block ?_
      | refine Wm_exit ?_
      | refine thenK_normal ?_
      | refine thenK_ret ?_
      | refine thenK_exit ?_
      | refine blockK_normal ?_
      | refine blockK_ret ?_
      | refine blockK_here ?_
      | refine loopK_ret ?_
      | refine loopK_exit ?_
      | refine unK_ret ?_
      | refine unK_exit ?_
      | refine unK_normal ?_
      | refine loopOk_succ ?_
      | refine blockK_exit (by decide) ?_
      | (refine wreg (mos := q53_0) hE [0] (by kernel_rfl) ?_; intro K hK; simp [q53_0]; (repeat' (first | refine hK _ _ ?_ | refine And.intro ?_ ?_ | intro hc)) <;> (try clear hK K) <;> (try subst_vars))
      | (refine wreg (mos := q53_1) hE [0] (by kernel_rfl) ?_; intro K hK; simp [q53_1]; (repeat' (first | refine hK _ _ ?_ | refine And.intro ?_ ?_ | intro hc)) <;> (try clear hK K) <;> (try subst_vars))
      | (refine Wm_cond (b := _) (by with_unfolding_all rfl) (fun hc => ?_) (fun hc => ?_) <;> simp at hc <;> (try subst_vars)))
    all_goals first | (simp; done) | (simp at *; omega) | (simp; refine Imp.auto (by kernel_rfl) ?_ ?_ <;> simp [nmap, lkp, mkPl, prs, prsL, prT, ddL, idL, NLe, CRenL, CRen, Ren, RenL, NObj.none])
  · cases h

def d14 : List AV → Option Ans
  | [] => some ⟨.bool true, []⟩
  | _ => none

theorem awakeN : shrI .u64 (nextS 0) 33 = 167951807 := by decide +kernel

theorem ok14 : NOk [] d14 := by
  intro xs a h
  unfold d14 at h
  (repeat' (split at h)) <;> first | (cases h; done) | (injection h with h; subst h; refine ⟨Ends_of ?_, ?_⟩ <;> simp)
theorem s14 : Sound Try.prog 14 (nestS [] d14 ok14) := by
  refine nest_sound Try.func14 nm14 rc14 rv14 ok14 (fun xs a h => ?_) fun xs a h w0 S hS => ?_
  · unfold d14 at h
    (repeat' (split at h)) <;> first | (cases h; done) | exact Nat.le_of_ble_eq_true rfl
  unfold d14 at h
  split at h
  · skip
    injection h with h
    subst h
    have hE : SoundAll Try.prog (EL [(15, nestS [] d15 ok15), (19, nestS [(1, true)] d19 ok19), (53, nestS [] d53 ok53)]) := EL_sound (by simp only [List.mem_cons, List.not_mem_nil, or_false, forall_eq_or_imp, forall_eq]; exact ⟨s15, s19, s53⟩)
    unfold m14
    repeat' with_reducible (first
      | refine Wm_seq ?_
      | refine Wm_skip ?_
      | refine Wm_ret ?_
      | refine Wm_block ?_
      | refine Wm_exit ?_
      | refine thenK_normal ?_
      | refine thenK_ret ?_
      | refine thenK_exit ?_
      | refine blockK_normal ?_
      | refine blockK_ret ?_
      | refine blockK_here ?_
      | refine loopK_ret ?_
      | refine loopK_exit ?_
      | refine unK_ret ?_
      | refine unK_exit ?_
      | refine unK_normal ?_
      | refine loopOk_succ ?_
      | refine blockK_exit (by decide) ?_
      | (refine wreg (mos := q14_0) hE [] (by kernel_rfl) ?_; intro K hK; simp [q14_0, awakeN, d15, d19, d53]; (repeat' (first | refine hK _ _ ?_ | refine And.intro ?_ ?_ | intro hc)) <;> (try clear hK K) <;> (try subst_vars))
      | (refine wreg (mos := q14_1) hE [0] (by kernel_rfl) ?_; intro K hK; simp [q14_1, awakeN, d15, d19, d53]; (repeat' (first | refine hK _ _ ?_ | refine And.intro ?_ ?_ | intro hc)) <;> (try clear hK K) <;> (try subst_vars))
      | (refine Wm_cond (b := _) (by with_unfolding_all rfl) (fun hc => ?_) (fun hc => ?_) <;> simp at hc <;> (try subst_vars)))
    all_goals first | (simp; done) | (simp at *; omega) | (simp[awakeN]; refine Imp.auto (by kernel_rfl) ?_ ?_ <;> simp [nmap, lkp, mkPl, prs, prsL, prT, ddL, idL, NLe, CRenL, CRen, Ren, RenL, NObj.none, awakeN])
  · cases h
end Go.W
