import Derived.Test.YthehmmodkhoieaaWsA
namespace Go.W
open Go.Proofs
set_option linter.unusedSimpArgs false
set_option linter.unusedVariables false
set_option maxHeartbeats 8000000
attribute [local irreducible] Wm

theorem rows_pl {els : List (List AV)} (h : els.all row12 = true) : (els.all fun c => c.all AV.plain) = true :=
  List.all_eq_true.2 fun c hc => datL_plain (row12_dat (List.all_eq_true.1 h c hc))

def d34 : List AV → List NObj → Option AV
  | [.sl (.top 0) 0 n, .ptr (.top 1) 0 0, .ptr (.top 2) 0 0], [.view 0 12 els, .view 0 1 [[.int .i64 kind]], .view 0 1 [[.int .i64 m]]] => if n = els.length ∧ els.all row12 = true ∧ els.length ≤ 200000 then some (.bool (decide (m ≤ sumZ els kind))) else none
  | _, _ => none

theorem ok34 : ROk d34 := by
  intro xs os r h
  unfold d34 at h
  (repeat' (split at h)) <;> first | (cases h; done) | (injection h with h; subst h; simp)
theorem s34 : Sound Try.prog 34 (rdS d34 ok34) := by
  refine rd_sound Try.func34 nm34 rc34 rv34 ok34 fun xs os r h vs ρ0 hvs => ⟨xs, ?_, fun _ h => h, fun w0 S hS => ?_⟩
  · unfold d34 at h
    (repeat' (split at h)) <;> first | (cases h; done) | exact Nat.le_of_ble_eq_true rfl
  unfold d34 at h
  split at h
  · split at h
    · rename_i n els kind m hcond
      injection h with h
      subst h
      have hE : SoundAll Try.prog (EL [(35, rdS d35 ok35)]) := EL_sound (by simp only [List.mem_cons, List.not_mem_nil, or_false, forall_eq_or_imp, forall_eq]; exact s35)
      obtain ⟨rfl, hrows, hlen⟩ := hcond
      have hdat := rows_dat hrows
      have hT0 := rows_t0 hrows
      have hCl := rows_cl hrows
      unfold m34
      repeat' with_reducible (first
        | refine Wm_seq ?_
        | refine Wm_skip ?_
        | refine Wm_ret ?_
        | refine Wm_block ?_
        | refine Wm_exit ?_
        | refine thenK_normal ?_
        | refine thenK_ret ?_
        | refine thenK_exit ?_
        | refine blockK_normal ?_
        | refine blockK_ret ?_
        | refine blockK_here ?_
        | refine loopK_ret ?_
        | refine loopK_exit ?_
        | refine unK_ret ?_
        | refine unK_exit ?_
        | refine unK_normal ?_
        | refine loopOk_succ ?_
        | refine blockK_exit (by decide) ?_
        | (refine wreg (mos := q34_0) hE [0, 1, 2] (by kernel_rfl) ?_; intro K hK; simp [q34_0, hdat, hrows, hlen, d35]; (repeat' (first | refine hK _ _ ?_ | refine And.intro ?_ ?_ | (intro hc; try subst hc))) <;> (try clear hK K))
        | (refine wdraw (mos := q34_1) hE mixT c34_1 [4] (by kernel_rfl) ?_; intro K hK; simp [q34_1, c34_1, hdat, hrows, hlen, d35]; (repeat' (first | refine hK _ _ ?_ | refine And.intro ?_ ?_ | (intro hc; try subst hc))) <;> (try clear hK K))
        | (refine Wm_cond (b := _) (by with_unfolding_all rfl) (fun hc => ?_) (fun hc => ?_) <;> simp at hc <;> (try subst hc)))
      all_goals first | (simp; done) | (simp at *; omega) | ((try simp[hT0, hCl]); refine Imp.auto (by kernel_rfl) ?_ ?_ <;> simp [nmap, lkp, mkPl, prs, prsL, prT, ddL, idL, NLe, CRenL, CRen, Ren, RenL, NObj.none, hT0, hCl])
    · cases h
  · cases h

def d39 : List AV → List NObj → Option AV
  | [.sl (.top 0) 0 n, .ptr (.top 1) 0 0, .ptr (.top 2) 0 0], [.view 0 12 els, .view 0 1 [[.int .i64 kind]], .view 0 1 [[.int .i64 m]]] => if n = els.length ∧ els.all row12 = true ∧ els.length ≤ 200000 then some (.bool (decide (m ≤ sumZ els kind))) else none
  | _, _ => none

theorem ok39 : ROk d39 := by
  intro xs os r h
  unfold d39 at h
  (repeat' (split at h)) <;> first | (cases h; done) | (injection h with h; subst h; simp)
theorem s39 : Sound Try.prog 39 (rdS d39 ok39) := by
  refine rd_sound Try.func39 nm39 rc39 rv39 ok39 fun xs os r h vs ρ0 hvs => ⟨xs, ?_, fun _ h => h, fun w0 S hS => ?_⟩
  · unfold d39 at h
    (repeat' (split at h)) <;> first | (cases h; done) | exact Nat.le_of_ble_eq_true rfl
  unfold d39 at h
  split at h
  · split at h
    · rename_i n els kind m hcond
      injection h with h
      subst h
      have hE : SoundAll Try.prog (EL [(35, rdS d35 ok35)]) := EL_sound (by simp only [List.mem_cons, List.not_mem_nil, or_false, forall_eq_or_imp, forall_eq]; exact s35)
      obtain ⟨rfl, hrows, hlen⟩ := hcond
      have hdat := rows_dat hrows
      have hT0 := rows_t0 hrows
      have hCl := rows_cl hrows
      unfold m39
      repeat' with_reducible (first
        | refine Wm_seq ?_
        | refine Wm_skip ?_
        | refine Wm_ret ?_
        | refine Wm_block ?_
        | refine Wm_exit ?_
        | refine thenK_normal ?_
        | refine thenK_ret ?_
        | refine thenK_exit ?_
        | refine blockK_normal ?_
        | refine blockK_ret ?_
        | refine blockK_here ?_
        | refine loopK_ret ?_
        | refine loopK_exit ?_
        | refine unK_ret ?_
        | refine unK_exit ?_
        | refine unK_normal ?_
        | refine loopOk_succ ?_
        | refine blockK_exit (by decide) ?_
        | (refine wreg (mos := q39_0) hE [0, 1, 2] (by kernel_rfl) ?_; intro K hK; simp [q39_0, hdat, hrows, hlen, d35]; (repeat' (first | refine hK _ _ ?_ | refine And.intro ?_ ?_ | (intro hc; try subst hc))) <;> (try clear hK K))
        | (refine wdraw (mos := q39_1) hE mixT c39_1 [4] (by kernel_rfl) ?_; intro K hK; simp [q39_1, c39_1, hdat, hrows, hlen, d35]; (repeat' (first | refine hK _ _ ?_ | refine And.intro ?_ ?_ | (intro hc; try subst hc))) <;> (try clear hK K))
        | (refine Wm_cond (b := _) (by with_unfolding_all rfl) (fun hc => ?_) (fun hc => ?_) <;> simp at hc <;> (try subst hc)))
      all_goals first | (simp; done) | (simp at *; omega) | ((try simp[hT0, hCl]); refine Imp.auto (by kernel_rfl) ?_ ?_ <;> simp [nmap, lkp, mkPl, prs, prsL, prT, ddL, idL, NLe, CRenL, CRen, Ren, RenL, NObj.none, hT0, hCl])
    · cases h
  · cases h

def d59 : List AV → List NObj → Option AV
  | [.sl (.top 0) 0 n], [.view 0 12 els] => if n = els.length ∧ els.all row12 = true ∧ els.length ≤ 200000 then some (.bool (decide (3 ≤ sumZ els 2))) else none
  | _, _ => none

theorem ok59 : ROk d59 := by
  intro xs os r h
  unfold d59 at h
  (repeat' (split at h)) <;> first | (cases h; done) | (injection h with h; subst h; simp)
theorem s59 : Sound Try.prog 59 (rdS d59 ok59) := by
  refine rd_sound Try.func59 nm59 rc59 rv59 ok59 fun xs os r h vs ρ0 hvs => ⟨xs, ?_, fun _ h => h, fun w0 S hS => ?_⟩
  · unfold d59 at h
    (repeat' (split at h)) <;> first | (cases h; done) | exact Nat.le_of_ble_eq_true rfl
  unfold d59 at h
  split at h
  · split at h
    · rename_i n els hcond
      injection h with h
      subst h
      have hE : SoundAll Try.prog (EL [(35, rdS d35 ok35)]) := EL_sound (by simp only [List.mem_cons, List.not_mem_nil, or_false, forall_eq_or_imp, forall_eq]; exact s35)
      obtain ⟨rfl, hrows, hlen⟩ := hcond
      have hdat := rows_dat hrows
      have hT0 := rows_t0 hrows
      have hCl := rows_cl hrows
      unfold m59
      repeat' with_reducible (first
        | refine Wm_seq ?_
        | refine Wm_skip ?_
        | refine Wm_ret ?_
        | refine Wm_block ?_
        | refine Wm_exit ?_
        | refine thenK_normal ?_
        | refine thenK_ret ?_
        | refine thenK_exit ?_
        | refine blockK_normal ?_
        | refine blockK_ret ?_
        | refine blockK_here ?_
        | refine loopK_ret ?_
        | refine loopK_exit ?_
        | refine unK_ret ?_
        | refine unK_exit ?_
        | refine unK_normal ?_
        | refine loopOk_succ ?_
        | refine blockK_exit (by decide) ?_
        | (refine wreg (mos := q59_0) hE [0] (by kernel_rfl) ?_; intro K hK; simp [q59_0, hdat, hrows, hlen, d35]; (repeat' (first | refine hK _ _ ?_ | refine And.intro ?_ ?_ | (intro hc; try subst hc))) <;> (try clear hK K))
        | (refine wreg (mos := q59_1) hE [2] (by kernel_rfl) ?_; intro K hK; simp [q59_1, hdat, hrows, hlen, d35]; (repeat' (first | refine hK _ _ ?_ | refine And.intro ?_ ?_ | (intro hc; try subst hc))) <;> (try clear hK K))
        | (refine Wm_cond (b := _) (by with_unfolding_all rfl) (fun hc => ?_) (fun hc => ?_) <;> simp at hc <;> (try subst hc)))
      all_goals first | (simp; done) | (simp at *; omega) | ((try simp[hT0, hCl]); refine Imp.auto (by kernel_rfl) ?_ ?_ <;> simp [nmap, lkp, mkPl, prs, prsL, prT, ddL, idL, NLe, CRenL, CRen, Ren, RenL, NObj.none, hT0, hCl])
    · cases h
  · cases h

/-- The number of an event. -/
def numAt (els : List (List AV)) (i : Nat) : Int := match els[i]? with
  | some (_ :: _ :: .int _ v :: _) => v
  | _ => 0

def d40 : List AV → List NObj → Option AV
  | [.sl (.top 0) 0 n, .ptr (.top 1) 0 0, .ptr (.top 2) 0 0], [.view 0 12 els, .view 0 1 [[.int .i64 at']], .view 0 1 [[.int .i64 m]]] => if n = els.length ∧ els.all row12 = true ∧ els.length ≤ 200000 ∧ 0 ≤ at' then some (.bool (decide (at' < els.length) && decide (m ≤ numAt els at'.toNat))) else none
  | _, _ => none

theorem ok40 : ROk d40 := by
  intro xs os r h
  unfold d40 at h
  (repeat' (split at h)) <;> first | (cases h; done) | (injection h with h; subst h; simp)
theorem s40 : Sound Try.prog 40 (rdS d40 ok40) := by
  refine rd_sound Try.func40 nm40 rc40 rv40 ok40 fun xs os r h vs ρ0 hvs => ⟨xs, ?_, fun _ h => h, fun w0 S hS => ?_⟩
  · unfold d40 at h
    (repeat' (split at h)) <;> first | (cases h; done) | exact Nat.le_of_ble_eq_true rfl
  unfold d40 at h
  split at h
  · split at h
    · rename_i n els at' m hcond
      injection h with h
      subst h
      have hE : SoundAll Try.prog (EL []) := EL_sound (by simp)
      obtain ⟨rfl, hrows, hlen, hat⟩ := hcond
      have hdat := rows_dat hrows
      have hT0 := rows_t0 hrows
      have hCl := rows_cl hrows
      obtain ⟨k, rfl⟩ : ∃ k : Nat, at' = (k : Int) := ⟨at'.toNat, by omega⟩
      by_cases hk : k < els.length
      · obtain ⟨n0, n1, n2, n3, n4, n5, n6, n7, n8, n9, n10, n11, hrow⟩ := row12_ex (List.all_eq_true.1 hrows _ (List.getElem_mem hk))
        have hrow2 : els[k]? = some [.int .i64 n0, .int .i64 n1, .int .i64 n2, .int .i64 n3, .int .i64 n4, .int .i64 n5, .int .i64 n6, .int .i64 n7, .int .i64 n8, .int .i64 n9, .int .i64 n10, .int .i64 n11] := by rw [List.getElem?_eq_getElem hk, hrow]
        have hkI : (k : Int) < (els.length : Int) := by omega
        unfold m40
        repeat' with_reducible (first
          | refine Wm_seq ?_
          | refine Wm_skip ?_
          | refine Wm_ret ?_
          | refine Wm_block ?_
          | refine Wm_exit ?_
          | refine thenK_normal ?_
          | refine thenK_ret ?_
          | refine thenK_exit ?_
          | refine blockK_normal ?_
          | refine blockK_ret ?_
          | refine blockK_here ?_
          | refine loopK_ret ?_
          | refine loopK_exit ?_
          | refine unK_ret ?_
          | refine unK_exit ?_
          | refine unK_normal ?_
          | refine loopOk_succ ?_
          | refine blockK_exit (by decide) ?_
          | (refine wreg (mos := q40_0) hE [0, 1, 2] (by kernel_rfl) ?_; intro K hK; simp [q40_0, hdat, hrows, hlen, hk, hkI, hrow, hrow2, numAt]; (repeat' (first | refine hK _ _ ?_ | refine And.intro ?_ ?_ | (intro hc; try subst hc))) <;> (try clear hK K))
          | (refine wdraw (mos := q40_1) hE mixT c40_1 [4] (by kernel_rfl) ?_; intro K hK; simp [q40_1, c40_1, hdat, hrows, hlen, hk, hkI, hrow, hrow2, numAt]; (repeat' (first | refine hK _ _ ?_ | refine And.intro ?_ ?_ | (intro hc; try subst hc))) <;> (try clear hK K))
          | (refine Wm_cond (b := _) (by with_unfolding_all rfl) (fun hc => ?_) (fun hc => ?_) <;> simp at hc <;> (try subst hc)))
        all_goals first | (simp; done) | (simp at *; omega) | ((try simp[hT0, hCl, hk, hkI, hrow, hrow2, numAt]); refine Imp.auto (by kernel_rfl) ?_ ?_ <;> simp [nmap, lkp, mkPl, prs, prsL, prT, ddL, idL, NLe, CRenL, CRen, Ren, RenL, NObj.none, hT0, hCl, hk, hkI, hrow, hrow2, numAt])
      · have hkI : ¬ (k : Int) < (els.length : Int) := by omega
        unfold m40
        repeat' with_reducible (first
          | refine Wm_seq ?_
          | refine Wm_skip ?_
          | refine Wm_ret ?_
          | refine Wm_block ?_
          | refine Wm_exit ?_
          | refine thenK_normal ?_
          | refine thenK_ret ?_
          | refine thenK_exit ?_
          | refine blockK_normal ?_
          | refine blockK_ret ?_
          | refine blockK_here ?_
          | refine loopK_ret ?_
          | refine loopK_exit ?_
          | refine unK_ret ?_
          | refine unK_exit ?_
          | refine unK_normal ?_
          | refine loopOk_succ ?_
          | refine blockK_exit (by decide) ?_
          | (refine wreg (mos := q40_0) hE [0, 1, 2] (by kernel_rfl) ?_; intro K hK; simp [q40_0, hdat, hrows, hlen, hk, hkI]; (repeat' (first | refine hK _ _ ?_ | refine And.intro ?_ ?_ | (intro hc; try subst hc))) <;> (try clear hK K))
          | (refine wdraw (mos := q40_1) hE mixT c40_1 [4] (by kernel_rfl) ?_; intro K hK; simp [q40_1, c40_1, hdat, hrows, hlen, hk, hkI]; (repeat' (first | refine hK _ _ ?_ | refine And.intro ?_ ?_ | (intro hc; try subst hc))) <;> (try clear hK K))
          | (refine Wm_cond (b := _) (by with_unfolding_all rfl) (fun hc => ?_) (fun hc => ?_) <;> simp at hc <;> (try subst hc)))
        all_goals first | (simp; done) | (simp at *; omega) | ((try simp[hT0, hCl, hk, hkI]); refine Imp.auto (by kernel_rfl) ?_ ?_ <;> simp [nmap, lkp, mkPl, prs, prsL, prT, ddL, idL, NLe, CRenL, CRen, Ren, RenL, NObj.none, hT0, hCl, hk, hkI])
    · cases h
  · cases h

def d61 : List AV → List NObj → Option AV
  | [.sl (.top 0) 0 n], [.view 0 12 els] => if n = els.length ∧ els.all row12 = true ∧ els.length ≤ 200000 then some (.os 0 12 els) else none
  | _, _ => none

theorem ok61 : ROk d61 := by
  intro xs os r h
  unfold d61 at h
  (repeat' (split at h)) <;> first | (cases h; done) | ((rename_i hc; injection h with h; subst h; simp; exact rows_dat hc.2.1))
theorem s61 : Sound Try.prog 61 (rdS d61 ok61) := by
  refine rd_sound Try.func61 nm61 rc61 rv61 ok61 fun xs os r h vs ρ0 hvs => ?_
  have hE : SoundAll Try.prog (EL []) := EL_sound (by simp)
  unfold d61 at h
  split at h
  · split at h
    · rename_i n els hcond
      injection h with h
      subst h
      obtain ⟨rfl, hrows, hlen⟩ := hcond
      have hdat := rows_dat hrows
      have hP := rows_pl hrows
      have hT0 := rows_t0 hrows
      have hCl := rows_cl hrows
      by_cases hpos : 0 < els.length
      · have hb1 : els.length * 96 ≤ 140737488355328 := by omega
        have hb2 : els.length ≤ 9223372036854775807 := by omega
        refine ⟨_, Nat.le_of_ble_eq_true rfl, fun _ h => h, fun w0 S hS => ?_⟩
        unfold m61
        repeat' with_reducible (first
          | refine Wm_seq ?_
          | refine Wm_skip ?_
          | refine Wm_ret ?_
          | refine Wm_block ?_
          | refine Wm_exit ?_
          | refine thenK_normal ?_
          | refine thenK_ret ?_
          | refine thenK_exit ?_
          | refine blockK_normal ?_
          | refine blockK_ret ?_
          | refine blockK_here ?_
          | refine loopK_ret ?_
          | refine loopK_exit ?_
          | refine unK_ret ?_
          | refine unK_exit ?_
          | refine unK_normal ?_
          | refine loopOk_succ ?_
          | refine blockK_exit (by decide) ?_
          | (refine wreg (mos := q61_0) hE [0] (by kernel_rfl) ?_; intro K hK; simp [q61_0, hdat, hrows, hlen, hpos, hb1, hb2, hP]; (repeat' (first | refine hK _ _ ?_ | refine And.intro ?_ ?_ | (intro hc; try subst hc))) <;> (try clear hK K))
          | (refine wreg (mos := q61_1) hE [0, 4] (by kernel_rfl) ?_; intro K hK; simp [q61_1, hdat, hrows, hlen, hpos, hb1, hb2, hP]; (repeat' (first | refine hK _ _ ?_ | refine And.intro ?_ ?_ | (intro hc; try subst hc))) <;> (try clear hK K))
          | (refine wreg (mos := q61_2) hE [2] (by kernel_rfl) ?_; intro K hK; simp [q61_2, hdat, hrows, hlen, hpos, hb1, hb2, hP]; (repeat' (first | refine hK _ _ ?_ | refine And.intro ?_ ?_ | (intro hc; try subst hc))) <;> (try clear hK K))
          | (refine wreg (mos := q61_3) hE [2] (by kernel_rfl) ?_; intro K hK; simp [q61_3, hdat, hrows, hlen, hpos, hb1, hb2, hP]; (repeat' (first | refine hK _ _ ?_ | refine And.intro ?_ ?_ | (intro hc; try subst hc))) <;> (try clear hK K))
          | (refine Wm_cond (b := _) (by with_unfolding_all rfl) (fun hc => ?_) (fun hc => ?_) <;> simp at hc <;> (try subst hc)))
        all_goals first | (simp; done) | (simp at *; omega) | ((try simp[hT0, hCl]); refine Imp.auto (by kernel_rfl) ?_ ?_ <;> simp [nmap, lkp, mkPl, prs, prsL, prT, ddL, idL, NLe, CRenL, CRen, Ren, RenL, NObj.none, hT0, hCl])
      · have he : els = [] := List.length_eq_zero_iff.1 (by omega)
        subst he
        obtain ⟨ad, c, rfl⟩ : ∃ ad c, vs = [.slice ad 0 c] := by
          simp only [RepL, Rep] at hvs
          obtain ⟨v, r, rfl, hv, rfl⟩ := hvs
          rcases hv with ⟨_, _, _, ad, rfl⟩ | ⟨_, _, off, rfl, _⟩
          · exact ⟨_, _, rfl⟩
          · exact ⟨_, _, rfl⟩
        cases ad with
        | none =>
          refine ⟨[.raw (.slice none 0 c)], Nat.le_of_ble_eq_true rfl, fun ρ _ => ⟨_, [], rfl, by rw [Rep], rfl⟩, fun w0 S hS => ?_⟩
          unfold m61
          repeat' with_reducible (first
            | refine Wm_seq ?_
            | refine Wm_skip ?_
            | refine Wm_ret ?_
            | refine Wm_block ?_
            | refine Wm_exit ?_
            | refine thenK_normal ?_
            | refine thenK_ret ?_
            | refine thenK_exit ?_
            | refine blockK_normal ?_
            | refine blockK_ret ?_
            | refine blockK_here ?_
            | refine loopK_ret ?_
            | refine loopK_exit ?_
            | refine unK_ret ?_
            | refine unK_exit ?_
            | refine unK_normal ?_
            | refine loopOk_succ ?_
            | refine blockK_exit (by decide) ?_
            | (refine wreg (mos := q61_0) hE [0] (by kernel_rfl) ?_; intro K hK; simp [q61_0]; (repeat' (first | refine hK _ _ ?_ | refine And.intro ?_ ?_ | (intro hc; try subst hc))) <;> (try clear hK K))
            | (refine wreg (mos := q61_1) hE [0, 4] (by kernel_rfl) ?_; intro K hK; simp [q61_1]; (repeat' (first | refine hK _ _ ?_ | refine And.intro ?_ ?_ | (intro hc; try subst hc))) <;> (try clear hK K))
            | (refine wreg (mos := q61_2) hE [2] (by kernel_rfl) ?_; intro K hK; simp [q61_2]; (repeat' (first | refine hK _ _ ?_ | refine And.intro ?_ ?_ | (intro hc; try subst hc))) <;> (try clear hK K))
            | (refine wreg (mos := q61_3) hE [2] (by kernel_rfl) ?_; intro K hK; simp [q61_3]; (repeat' (first | refine hK _ _ ?_ | refine And.intro ?_ ?_ | (intro hc; try subst hc))) <;> (try clear hK K))
            | (refine Wm_cond (b := _) (by with_unfolding_all rfl) (fun hc => ?_) (fun hc => ?_) <;> simp at hc <;> (try subst hc)))
          all_goals first | (simp; done) | (simp at *; omega) | ((try simp); refine Imp.auto (by kernel_rfl) ?_ ?_ <;> simp [nmap, lkp, mkPl, prs, prsL, prT, ddL, idL, NLe, CRenL, CRen, Ren, RenL, NObj.none])
        | some ad =>
          refine ⟨[.raw (.slice (some ad) 0 c)], Nat.le_of_ble_eq_true rfl, fun ρ _ => ⟨_, [], rfl, by rw [Rep], rfl⟩, fun w0 S hS => ?_⟩
          unfold m61
          repeat' with_reducible (first
            | refine Wm_seq ?_
            | refine Wm_skip ?_
            | refine Wm_ret ?_
            | refine Wm_block ?_
            | refine Wm_exit ?_
            | refine thenK_normal ?_
            | refine thenK_ret ?_
            | refine thenK_exit ?_
            | refine blockK_normal ?_
            | refine blockK_ret ?_
            | refine blockK_here ?_
            | refine loopK_ret ?_
            | refine loopK_exit ?_
            | refine unK_ret ?_
            | refine unK_exit ?_
            | refine unK_normal ?_
            | refine loopOk_succ ?_
            | refine blockK_exit (by decide) ?_
            | (refine wreg (mos := q61_0) hE [0] (by kernel_rfl) ?_; intro K hK; simp [q61_0]; (repeat' (first | refine hK _ _ ?_ | refine And.intro ?_ ?_ | (intro hc; try subst hc))) <;> (try clear hK K))
            | (refine wreg (mos := q61_1) hE [0, 4] (by kernel_rfl) ?_; intro K hK; simp [q61_1]; (repeat' (first | refine hK _ _ ?_ | refine And.intro ?_ ?_ | (intro hc; try subst hc))) <;> (try clear hK K))
            | (refine wreg (mos := q61_2) hE [2] (by kernel_rfl) ?_; intro K hK; simp [q61_2]; (repeat' (first | refine hK _ _ ?_ | refine And.intro ?_ ?_ | (intro hc; try subst hc))) <;> (try clear hK K))
            | (refine wreg (mos := q61_3) hE [2] (by kernel_rfl) ?_; intro K hK; simp [q61_3]; (repeat' (first | refine hK _ _ ?_ | refine And.intro ?_ ?_ | (intro hc; try subst hc))) <;> (try clear hK K))
            | (refine Wm_cond (b := _) (by with_unfolding_all rfl) (fun hc => ?_) (fun hc => ?_) <;> simp at hc <;> (try subst hc)))
          all_goals first | (simp; done) | (simp at *; omega) | ((try simp); refine Imp.auto (by kernel_rfl) ?_ ?_ <;> simp [nmap, lkp, mkPl, prs, prsL, prT, ddL, idL, NLe, CRenL, CRen, Ren, RenL, NObj.none])
    · cases h
  · cases h

def d102 : List AV → List NObj → Option AV
  | [.nsl, .int .i64 n], [] => if 0 ≤ n ∧ n ≤ 400000 then some (.os 0 12 []) else none
  | _, _ => none

theorem ok102 : ROk d102 := by
  intro xs os r h
  unfold d102 at h
  (repeat' (split at h)) <;> first | (cases h; done) | (injection h with h; subst h; simp)
theorem s102 : Sound Try.prog 102 (rdS d102 ok102) := by
  refine rd_sound Try.func102 nm102 rc102 rv102 ok102 fun xs os r h vs ρ0 hvs => ⟨xs, ?_, fun _ h => h, fun w0 S hS => ?_⟩
  · unfold d102 at h
    (repeat' (split at h)) <;> first | (cases h; done) | exact Nat.le_of_ble_eq_true rfl
  unfold d102 at h
  split at h
  · split at h
    · rename_i n hcond
      injection h with h
      subst h
      have hE : SoundAll Try.prog (EL []) := EL_sound (by simp)
      obtain ⟨h0, hn⟩ := hcond
      have w1 : IntKind.wrap .i64 n = n := wrap_in (by omega) (by omega)
      have h1 : ¬ n < 0 := by omega
      have z0 : IntKind.wrap .i64 0 = 0 := by decide
      by_cases hp : 0 < n
      · have hb1 : n * 96 ≤ 140737488355328 := by omega
        have hb2 : n ≤ 9223372036854775807 := by omega
        unfold m102
        repeat' with_reducible (first
          | refine Wm_seq ?_
          | refine Wm_skip ?_
          | refine Wm_ret ?_
          | refine Wm_block ?_
          | refine Wm_exit ?_
          | refine thenK_normal ?_
          | refine thenK_ret ?_
          | refine thenK_exit ?_
          | refine blockK_normal ?_
          | refine blockK_ret ?_
          | refine blockK_here ?_
          | refine loopK_ret ?_
          | refine loopK_exit ?_
          | refine unK_ret ?_
          | refine unK_exit ?_
          | refine unK_normal ?_
          | refine loopOk_succ ?_
          | refine blockK_exit (by decide) ?_
          | (refine wreg (mos := q102_0) hE [0, 1] (by kernel_rfl) ?_; intro K hK; simp [q102_0, w1, h1, hp, hb1, hb2, z0]; (repeat' (first | refine hK _ _ ?_ | refine And.intro ?_ ?_ | (intro hc; try subst hc))) <;> (try clear hK K))
          | (refine wreg (mos := q102_1) hE [0, 1, 6] (by kernel_rfl) ?_; intro K hK; simp [q102_1, w1, h1, hp, hb1, hb2, z0]; (repeat' (first | refine hK _ _ ?_ | refine And.intro ?_ ?_ | (intro hc; try subst hc))) <;> (try clear hK K))
          | (refine wreg (mos := q102_2) hE [0, 1] (by kernel_rfl) ?_; intro K hK; simp [q102_2, w1, h1, hp, hb1, hb2, z0]; (repeat' (first | refine hK _ _ ?_ | refine And.intro ?_ ?_ | (intro hc; try subst hc))) <;> (try clear hK K))
          | (refine wreg (mos := q102_3) hE [0, 1] (by kernel_rfl) ?_; intro K hK; simp [q102_3, w1, h1, hp, hb1, hb2, z0]; (repeat' (first | refine hK _ _ ?_ | refine And.intro ?_ ?_ | (intro hc; try subst hc))) <;> (try clear hK K))
          | (refine wreg (mos := q102_4) hE [0, 1, 16] (by kernel_rfl) ?_; intro K hK; simp [q102_4, w1, h1, hp, hb1, hb2, z0]; (repeat' (first | refine hK _ _ ?_ | refine And.intro ?_ ?_ | (intro hc; try subst hc))) <;> (try clear hK K))
          | (refine wreg (mos := q102_5) hE [0] (by kernel_rfl) ?_; intro K hK; simp [q102_5, w1, h1, hp, hb1, hb2, z0]; (repeat' (first | refine hK _ _ ?_ | refine And.intro ?_ ?_ | (intro hc; try subst hc))) <;> (try clear hK K))
          | (refine wreg (mos := q102_6) hE [4] (by kernel_rfl) ?_; intro K hK; simp [q102_6, w1, h1, hp, hb1, hb2, z0]; (repeat' (first | refine hK _ _ ?_ | refine And.intro ?_ ?_ | (intro hc; try subst hc))) <;> (try clear hK K))
          | (refine Wm_cond (b := _) (by with_unfolding_all rfl) (fun hc => ?_) (fun hc => ?_) <;> simp at hc <;> (try subst hc)))
        all_goals first | (simp; done) | (simp at *; omega) | ((try simp); refine Imp.auto (by kernel_rfl) ?_ ?_ <;> simp [nmap, lkp, mkPl, prs, prsL, prT, ddL, idL, NLe, CRenL, CRen, Ren, RenL, NObj.none])
      · unfold m102
        repeat' with_reducible (first
          | refine Wm_seq ?_
          | refine Wm_skip ?_
          | refine Wm_ret ?_
          | refine Wm_block ?_
          | refine Wm_exit ?_
          | refine thenK_normal ?_
          | refine thenK_ret ?_
          | refine thenK_exit ?_
          | refine blockK_normal ?_
          | refine blockK_ret ?_
          | refine blockK_here ?_
          | refine loopK_ret ?_
          | refine loopK_exit ?_
          | refine unK_ret ?_
          | refine unK_exit ?_
          | refine unK_normal ?_
          | refine loopOk_succ ?_
          | refine blockK_exit (by decide) ?_
          | (refine wreg (mos := q102_0) hE [0, 1] (by kernel_rfl) ?_; intro K hK; simp [q102_0, w1, h1, hp, z0]; (repeat' (first | refine hK _ _ ?_ | refine And.intro ?_ ?_ | (intro hc; try subst hc))) <;> (try clear hK K))
          | (refine wreg (mos := q102_1) hE [0, 1, 6] (by kernel_rfl) ?_; intro K hK; simp [q102_1, w1, h1, hp, z0]; (repeat' (first | refine hK _ _ ?_ | refine And.intro ?_ ?_ | (intro hc; try subst hc))) <;> (try clear hK K))
          | (refine wreg (mos := q102_2) hE [0, 1] (by kernel_rfl) ?_; intro K hK; simp [q102_2, w1, h1, hp, z0]; (repeat' (first | refine hK _ _ ?_ | refine And.intro ?_ ?_ | (intro hc; try subst hc))) <;> (try clear hK K))
          | (refine wreg (mos := q102_3) hE [0, 1] (by kernel_rfl) ?_; intro K hK; simp [q102_3, w1, h1, hp, z0]; (repeat' (first | refine hK _ _ ?_ | refine And.intro ?_ ?_ | (intro hc; try subst hc))) <;> (try clear hK K))
          | (refine wreg (mos := q102_4) hE [0, 1, 16] (by kernel_rfl) ?_; intro K hK; simp [q102_4, w1, h1, hp, z0]; (repeat' (first | refine hK _ _ ?_ | refine And.intro ?_ ?_ | (intro hc; try subst hc))) <;> (try clear hK K))
          | (refine wreg (mos := q102_5) hE [0] (by kernel_rfl) ?_; intro K hK; simp [q102_5, w1, h1, hp, z0]; (repeat' (first | refine hK _ _ ?_ | refine And.intro ?_ ?_ | (intro hc; try subst hc))) <;> (try clear hK K))
          | (refine wreg (mos := q102_6) hE [4] (by kernel_rfl) ?_; intro K hK; simp [q102_6, w1, h1, hp, z0]; (repeat' (first | refine hK _ _ ?_ | refine And.intro ?_ ?_ | (intro hc; try subst hc))) <;> (try clear hK K))
          | (refine Wm_cond (b := _) (by with_unfolding_all rfl) (fun hc => ?_) (fun hc => ?_) <;> simp at hc <;> (try subst hc)))
        all_goals first | (simp; done) | (simp at *; omega) | ((try simp); refine Imp.auto (by kernel_rfl) ?_ ?_ <;> simp [nmap, lkp, mkPl, prs, prsL, prT, ddL, idL, NLe, CRenL, CRen, Ren, RenL, NObj.none])
    · cases h
  · cases h

def d95 : List AV → List NObj → Option AV
  | [.sl (.top 0) 0 2], [.view 0 1 [[.sl (.top 1) 0 a], [.sl (.top 2) 0 b]], .view 0 12 A, .view 0 12 B] => if a = A.length ∧ b = B.length ∧ A.all row12 = true ∧ B.all row12 = true ∧ A.length ≤ 200000 ∧ B.length ≤ 200000 then some (.os 0 12 (A ++ B)) else none
  | _, _ => none

theorem ok95 : ROk d95 := by
  intro xs os r h
  unfold d95 at h
  (repeat' (split at h)) <;> first | (cases h; done) | ((rename_i hc; injection h with h; subst h; simp [rows_dat hc.2.2.1, rows_dat hc.2.2.2.1]))
theorem s95 : Sound Try.prog 95 (rdS d95 ok95) := by
  refine rd_sound Try.func95 nm95 rc95 rv95 ok95 fun xs os r h vs ρ0 hvs => ⟨xs, ?_, fun _ h => h, fun w0 S hS => ?_⟩
  · unfold d95 at h
    (repeat' (split at h)) <;> first | (cases h; done) | exact Nat.le_of_ble_eq_true rfl
  unfold d95 at h
  split at h
  · split at h
    · rename_i a b A B hcond
      injection h with h
      subst h
      have hE : SoundAll Try.prog (EL [(102, rdS d102 ok102)]) := EL_sound (by simp only [List.mem_cons, List.not_mem_nil, or_false, forall_eq_or_imp, forall_eq]; exact s102)
      obtain ⟨rfl, rfl, hA, hB, hlA, hlB⟩ := hcond
      have hdA := rows_dat hA
      have hdB := rows_dat hB
      have hpA := rows_pl hA
      have hpB := rows_pl hB
      have htA := fun n => rows_tl (n := n) hA
      have hab : (A ++ B).all row12 = true := by rw [List.all_append, hA, hB]; rfl
      have hT0 := rows_t0 hab
      have hCl := rows_cl hab
      have w1 : IntKind.wrap .i64 (A.length : Int) = A.length := wrap_in (by omega) (by omega)
      have w2 : IntKind.wrap .i64 ((A.length : Int) + B.length) = (A.length : Int) + B.length := wrap_in (by omega) (by omega)
      have z1 : IntKind.wrap .i64 1 = 1 := by decide
      have z2 : IntKind.wrap .i64 2 = 2 := by decide
      have n1 : ¬ (A.length : Int) < 0 := by omega
      have n2 : ¬ (A.length : Int) + B.length < 0 := by omega
      have n3 : 0 ≤ (A.length : Int) + B.length := by omega
      have n4 : (A.length : Int) + B.length ≤ 400000 := by omega
      have b1 : A.length * 96 ≤ 140737488355328 := by omega
      have b2 : A.length ≤ 9223372036854775807 := by omega
      have b3 : (A.length + B.length) * 96 ≤ 140737488355328 := by omega
      have b4 : A.length + B.length ≤ 9223372036854775807 := by omega
      unfold m95
      repeat' with_reducible (first
        | refine Wm_seq ?_
        | refine Wm_skip ?_
        | refine Wm_ret ?_
        | refine Wm_block ?_
        | refine Wm_exit ?_
        | refine thenK_normal ?_
        | refine thenK_ret ?_
        | refine thenK_exit ?_
        | refine blockK_normal ?_
        | refine blockK_ret ?_
        | refine blockK_here ?_
        | refine loopK_ret ?_
        | refine loopK_exit ?_
        | refine unK_ret ?_
        | refine unK_exit ?_
        | refine unK_normal ?_
        | refine loopOk_succ ?_
        | refine blockK_exit (by decide) ?_
        | (refine wreg (mos := q95_0) hE [0] (by kernel_rfl) ?_; intro K hK; simp [q95_0, w1, w2, n1, n2, n3, n4, b1, b2, b3, b4, hpA, hpB, htA, z1, z2, d102]; (repeat' (first | refine hK _ _ ?_ | refine And.intro ?_ ?_ | (intro hc; try subst hc))) <;> (try clear hK K))
        | (refine wreg (mos := q95_1) hE [0, 3] (by kernel_rfl) ?_; intro K hK; simp [q95_1, w1, w2, n1, n2, n3, n4, b1, b2, b3, b4, hpA, hpB, htA, z1, z2, d102]; (repeat' (first | refine hK _ _ ?_ | refine And.intro ?_ ?_ | (intro hc; try subst hc))) <;> (try clear hK K))
        | (refine wreg (mos := q95_2) hE [0, 3, 9, 10, 11] (by kernel_rfl) ?_; intro K hK; simp [q95_2, w1, w2, n1, n2, n3, n4, b1, b2, b3, b4, hpA, hpB, htA, z1, z2, d102]; (repeat' (first | refine hK _ _ ?_ | refine And.intro ?_ ?_ | (intro hc; try subst hc))) <;> (try clear hK K))
        | (refine wreg (mos := q95_3) hE [0, 3, 9, 10, 11, 12] (by kernel_rfl) ?_; intro K hK; simp [q95_3, w1, w2, n1, n2, n3, n4, b1, b2, b3, b4, hpA, hpB, htA, z1, z2, d102]; (repeat' (first | refine hK _ _ ?_ | refine And.intro ?_ ?_ | (intro hc; try subst hc))) <;> (try clear hK K))
        | (refine wreg (mos := q95_4) hE [0, 3, 5, 9, 10, 11] (by kernel_rfl) ?_; intro K hK; simp [q95_4, w1, w2, n1, n2, n3, n4, b1, b2, b3, b4, hpA, hpB, htA, z1, z2, d102]; (repeat' (first | refine hK _ _ ?_ | refine And.intro ?_ ?_ | (intro hc; try subst hc))) <;> (try clear hK K))
        | (refine wreg (mos := q95_5) hE [0, 3, 9, 10, 11] (by kernel_rfl) ?_; intro K hK; simp [q95_5, w1, w2, n1, n2, n3, n4, b1, b2, b3, b4, hpA, hpB, htA, z1, z2, d102]; (repeat' (first | refine hK _ _ ?_ | refine And.intro ?_ ?_ | (intro hc; try subst hc))) <;> (try clear hK K))
        | (refine wreg (mos := q95_6) hE [0, 3, 9, 10, 11, 20] (by kernel_rfl) ?_; intro K hK; simp [q95_6, w1, w2, n1, n2, n3, n4, b1, b2, b3, b4, hpA, hpB, htA, z1, z2, d102]; (repeat' (first | refine hK _ _ ?_ | refine And.intro ?_ ?_ | (intro hc; try subst hc))) <;> (try clear hK K))
        | (refine wreg (mos := q95_7) hE [0, 3, 9, 10, 11] (by kernel_rfl) ?_; intro K hK; simp [q95_7, w1, w2, n1, n2, n3, n4, b1, b2, b3, b4, hpA, hpB, htA, z1, z2, d102]; (repeat' (first | refine hK _ _ ?_ | refine And.intro ?_ ?_ | (intro hc; try subst hc))) <;> (try clear hK K))
        | (refine wreg (mos := q95_8) hE [0, 3, 9, 10, 11] (by kernel_rfl) ?_; intro K hK; simp [q95_8, w1, w2, n1, n2, n3, n4, b1, b2, b3, b4, hpA, hpB, htA, z1, z2, d102]; (repeat' (first | refine hK _ _ ?_ | refine And.intro ?_ ?_ | (intro hc; try subst hc))) <;> (try clear hK K))
        | (refine wreg (mos := q95_9) hE [0, 6] (by kernel_rfl) ?_; intro K hK; simp [q95_9, w1, w2, n1, n2, n3, n4, b1, b2, b3, b4, hpA, hpB, htA, z1, z2, d102]; (repeat' (first | refine hK _ _ ?_ | refine And.intro ?_ ?_ | (intro hc; try subst hc))) <;> (try clear hK K))
        | (refine wreg (mos := q95_10) hE [6, 25, 26, 27] (by kernel_rfl) ?_; intro K hK; simp [q95_10, w1, w2, n1, n2, n3, n4, b1, b2, b3, b4, hpA, hpB, htA, z1, z2, d102]; (repeat' (first | refine hK _ _ ?_ | refine And.intro ?_ ?_ | (intro hc; try subst hc))) <;> (try clear hK K))
        | (refine wreg (mos := q95_11) hE [6, 25, 26, 27, 28] (by kernel_rfl) ?_; intro K hK; simp [q95_11, w1, w2, n1, n2, n3, n4, b1, b2, b3, b4, hpA, hpB, htA, z1, z2, d102]; (repeat' (first | refine hK _ _ ?_ | refine And.intro ?_ ?_ | (intro hc; try subst hc))) <;> (try clear hK K))
        | (refine wreg (mos := q95_12) hE [6, 8, 25, 26, 27] (by kernel_rfl) ?_; intro K hK; simp [q95_12, w1, w2, n1, n2, n3, n4, b1, b2, b3, b4, hpA, hpB, htA, z1, z2, d102]; (repeat' (first | refine hK _ _ ?_ | refine And.intro ?_ ?_ | (intro hc; try subst hc))) <;> (try clear hK K))
        | (refine wreg (mos := q95_13) hE [6, 25, 26, 27] (by kernel_rfl) ?_; intro K hK; simp [q95_13, w1, w2, n1, n2, n3, n4, b1, b2, b3, b4, hpA, hpB, htA, z1, z2, d102]; (repeat' (first | refine hK _ _ ?_ | refine And.intro ?_ ?_ | (intro hc; try subst hc))) <;> (try clear hK K))
        | (refine wreg (mos := q95_14) hE [6, 25, 26, 27] (by kernel_rfl) ?_; intro K hK; simp [q95_14, w1, w2, n1, n2, n3, n4, b1, b2, b3, b4, hpA, hpB, htA, z1, z2, d102]; (repeat' (first | refine hK _ _ ?_ | refine And.intro ?_ ?_ | (intro hc; try subst hc))) <;> (try clear hK K))
        | (refine wreg (mos := q95_15) hE [2] (by kernel_rfl) ?_; intro K hK; simp [q95_15, w1, w2, n1, n2, n3, n4, b1, b2, b3, b4, hpA, hpB, htA, z1, z2, d102]; (repeat' (first | refine hK _ _ ?_ | refine And.intro ?_ ?_ | (intro hc; try subst hc))) <;> (try clear hK K))
        | (refine Wm_cond (b := _) (by with_unfolding_all rfl) (fun hc => ?_) (fun hc => ?_) <;> simp at hc <;> (try subst hc)))
      all_goals refine Wm_unroll 3 ?_
      repeat' with_reducible (first
        | refine Wm_seq ?_
        | refine Wm_skip ?_
        | refine Wm_ret ?_
        | refine Wm_block ?_
        | refine Wm_exit ?_
        | refine thenK_normal ?_
        | refine thenK_ret ?_
        | refine thenK_exit ?_
        | refine blockK_normal ?_
        | refine blockK_ret ?_
        | refine blockK_here ?_
        | refine loopK_ret ?_
        | refine loopK_exit ?_
        | refine unK_ret ?_
        | refine unK_exit ?_
        | refine unK_normal ?_
        | refine loopOk_succ ?_
        | refine blockK_exit (by decide) ?_
        | (refine wreg (mos := q95_0) hE [0] (by kernel_rfl) ?_; intro K hK; simp [q95_0, w1, w2, n1, n2, n3, n4, b1, b2, b3, b4, hpA, hpB, htA, z1, z2, d102]; (repeat' (first | refine hK _ _ ?_ | refine And.intro ?_ ?_ | (intro hc; try subst hc))) <;> (try clear hK K))
        | (refine wreg (mos := q95_1) hE [0, 3] (by kernel_rfl) ?_; intro K hK; simp [q95_1, w1, w2, n1, n2, n3, n4, b1, b2, b3, b4, hpA, hpB, htA, z1, z2, d102]; (repeat' (first | refine hK _ _ ?_ | refine And.intro ?_ ?_ | (intro hc; try subst hc))) <;> (try clear hK K))
        | (refine wreg (mos := q95_2) hE [0, 3, 9, 10, 11] (by kernel_rfl) ?_; intro K hK; simp [q95_2, w1, w2, n1, n2, n3, n4, b1, b2, b3, b4, hpA, hpB, htA, z1, z2, d102]; (repeat' (first | refine hK _ _ ?_ | refine And.intro ?_ ?_ | (intro hc; try subst hc))) <;> (try clear hK K))
        | (refine wreg (mos := q95_3) hE [0, 3, 9, 10, 11, 12] (by kernel_rfl) ?_; intro K hK; simp [q95_3, w1, w2, n1, n2, n3, n4, b1, b2, b3, b4, hpA, hpB, htA, z1, z2, d102]; (repeat' (first | refine hK _ _ ?_ | refine And.intro ?_ ?_ | (intro hc; try subst hc))) <;> (try clear hK K))
        | (refine wreg (mos := q95_4) hE [0, 3, 5, 9, 10, 11] (by kernel_rfl) ?_; intro K hK; simp [q95_4, w1, w2, n1, n2, n3, n4, b1, b2, b3, b4, hpA, hpB, htA, z1, z2, d102]; (repeat' (first | refine hK _ _ ?_ | refine And.intro ?_ ?_ | (intro hc; try subst hc))) <;> (try clear hK K))
        | (refine wreg (mos := q95_5) hE [0, 3, 9, 10, 11] (by kernel_rfl) ?_; intro K hK; simp [q95_5, w1, w2, n1, n2, n3, n4, b1, b2, b3, b4, hpA, hpB, htA, z1, z2, d102]; (repeat' (first | refine hK _ _ ?_ | refine And.intro ?_ ?_ | (intro hc; try subst hc))) <;> (try clear hK K))
        | (refine wreg (mos := q95_6) hE [0, 3, 9, 10, 11, 20] (by kernel_rfl) ?_; intro K hK; simp [q95_6, w1, w2, n1, n2, n3, n4, b1, b2, b3, b4, hpA, hpB, htA, z1, z2, d102]; (repeat' (first | refine hK _ _ ?_ | refine And.intro ?_ ?_ | (intro hc; try subst hc))) <;> (try clear hK K))
        | (refine wreg (mos := q95_7) hE [0, 3, 9, 10, 11] (by kernel_rfl) ?_; intro K hK; simp [q95_7, w1, w2, n1, n2, n3, n4, b1, b2, b3, b4, hpA, hpB, htA, z1, z2, d102]; (repeat' (first | refine hK _ _ ?_ | refine And.intro ?_ ?_ | (intro hc; try subst hc))) <;> (try clear hK K))
        | (refine wreg (mos := q95_8) hE [0, 3, 9, 10, 11] (by kernel_rfl) ?_; intro K hK; simp [q95_8, w1, w2, n1, n2, n3, n4, b1, b2, b3, b4, hpA, hpB, htA, z1, z2, d102]; (repeat' (first | refine hK _ _ ?_ | refine And.intro ?_ ?_ | (intro hc; try subst hc))) <;> (try clear hK K))
        | (refine wreg (mos := q95_9) hE [0, 6] (by kernel_rfl) ?_; intro K hK; simp [q95_9, w1, w2, n1, n2, n3, n4, b1, b2, b3, b4, hpA, hpB, htA, z1, z2, d102]; (repeat' (first | refine hK _ _ ?_ | refine And.intro ?_ ?_ | (intro hc; try subst hc))) <;> (try clear hK K))
        | (refine wreg (mos := q95_10) hE [6, 25, 26, 27] (by kernel_rfl) ?_; intro K hK; simp [q95_10, w1, w2, n1, n2, n3, n4, b1, b2, b3, b4, hpA, hpB, htA, z1, z2, d102]; (repeat' (first | refine hK _ _ ?_ | refine And.intro ?_ ?_ | (intro hc; try subst hc))) <;> (try clear hK K))
        | (refine wreg (mos := q95_11) hE [6, 25, 26, 27, 28] (by kernel_rfl) ?_; intro K hK; simp [q95_11, w1, w2, n1, n2, n3, n4, b1, b2, b3, b4, hpA, hpB, htA, z1, z2, d102]; (repeat' (first | refine hK _ _ ?_ | refine And.intro ?_ ?_ | (intro hc; try subst hc))) <;> (try clear hK K))
        | (refine wreg (mos := q95_12) hE [6, 8, 25, 26, 27] (by kernel_rfl) ?_; intro K hK; simp [q95_12, w1, w2, n1, n2, n3, n4, b1, b2, b3, b4, hpA, hpB, htA, z1, z2, d102]; (repeat' (first | refine hK _ _ ?_ | refine And.intro ?_ ?_ | (intro hc; try subst hc))) <;> (try clear hK K))
        | (refine wreg (mos := q95_13) hE [6, 25, 26, 27] (by kernel_rfl) ?_; intro K hK; simp [q95_13, w1, w2, n1, n2, n3, n4, b1, b2, b3, b4, hpA, hpB, htA, z1, z2, d102]; (repeat' (first | refine hK _ _ ?_ | refine And.intro ?_ ?_ | (intro hc; try subst hc))) <;> (try clear hK K))
        | (refine wreg (mos := q95_14) hE [6, 25, 26, 27] (by kernel_rfl) ?_; intro K hK; simp [q95_14, w1, w2, n1, n2, n3, n4, b1, b2, b3, b4, hpA, hpB, htA, z1, z2, d102]; (repeat' (first | refine hK _ _ ?_ | refine And.intro ?_ ?_ | (intro hc; try subst hc))) <;> (try clear hK K))
        | (refine wreg (mos := q95_15) hE [2] (by kernel_rfl) ?_; intro K hK; simp [q95_15, w1, w2, n1, n2, n3, n4, b1, b2, b3, b4, hpA, hpB, htA, z1, z2, d102]; (repeat' (first | refine hK _ _ ?_ | refine And.intro ?_ ?_ | (intro hc; try subst hc))) <;> (try clear hK K))
        | (refine Wm_cond (b := _) (by with_unfolding_all rfl) (fun hc => ?_) (fun hc => ?_) <;> simp at hc <;> (try subst hc)))
      all_goals refine Wm_unroll 3 ?_
      repeat' with_reducible (first
        | refine Wm_seq ?_
        | refine Wm_skip ?_
        | refine Wm_ret ?_
        | refine Wm_block ?_
        | refine Wm_exit ?_
        | refine thenK_normal ?_
        | refine thenK_ret ?_
        | refine thenK_exit ?_
        | refine blockK_normal ?_
        | refine blockK_ret ?_
        | refine blockK_here ?_
        | refine loopK_ret ?_
        | refine loopK_exit ?_
        | refine unK_ret ?_
        | refine unK_exit ?_
        | refine unK_normal ?_
        | refine loopOk_succ ?_
        | refine blockK_exit (by decide) ?_
        | (refine wreg (mos := q95_0) hE [0] (by kernel_rfl) ?_; intro K hK; simp [q95_0, w1, w2, n1, n2, n3, n4, b1, b2, b3, b4, hpA, hpB, htA, z1, z2, d102]; (repeat' (first | refine hK _ _ ?_ | refine And.intro ?_ ?_ | (intro hc; try subst hc))) <;> (try clear hK K))
        | (refine wreg (mos := q95_1) hE [0, 3] (by kernel_rfl) ?_; intro K hK; simp [q95_1, w1, w2, n1, n2, n3, n4, b1, b2, b3, b4, hpA, hpB, htA, z1, z2, d102]; (repeat' (first | refine hK _ _ ?_ | refine And.intro ?_ ?_ | (intro hc; try subst hc))) <;> (try clear hK K))
        | (refine wreg (mos := q95_2) hE [0, 3, 9, 10, 11] (by kernel_rfl) ?_; intro K hK; simp [q95_2, w1, w2, n1, n2, n3, n4, b1, b2, b3, b4, hpA, hpB, htA, z1, z2, d102]; (repeat' (first | refine hK _ _ ?_ | refine And.intro ?_ ?_ | (intro hc; try subst hc))) <;> (try clear hK K))
        | (refine wreg (mos := q95_3) hE [0, 3, 9, 10, 11, 12] (by kernel_rfl) ?_; intro K hK; simp [q95_3, w1, w2, n1, n2, n3, n4, b1, b2, b3, b4, hpA, hpB, htA, z1, z2, d102]; (repeat' (first | refine hK _ _ ?_ | refine And.intro ?_ ?_ | (intro hc; try subst hc))) <;> (try clear hK K))
        | (refine wreg (mos := q95_4) hE [0, 3, 5, 9, 10, 11] (by kernel_rfl) ?_; intro K hK; simp [q95_4, w1, w2, n1, n2, n3, n4, b1, b2, b3, b4, hpA, hpB, htA, z1, z2, d102]; (repeat' (first | refine hK _ _ ?_ | refine And.intro ?_ ?_ | (intro hc; try subst hc))) <;> (try clear hK K))
        | (refine wreg (mos := q95_5) hE [0, 3, 9, 10, 11] (by kernel_rfl) ?_; intro K hK; simp [q95_5, w1, w2, n1, n2, n3, n4, b1, b2, b3, b4, hpA, hpB, htA, z1, z2, d102]; (repeat' (first | refine hK _ _ ?_ | refine And.intro ?_ ?_ | (intro hc; try subst hc))) <;> (try clear hK K))
        | (refine wreg (mos := q95_6) hE [0, 3, 9, 10, 11, 20] (by kernel_rfl) ?_; intro K hK; simp [q95_6, w1, w2, n1, n2, n3, n4, b1, b2, b3, b4, hpA, hpB, htA, z1, z2, d102]; (repeat' (first | refine hK _ _ ?_ | refine And.intro ?_ ?_ | (intro hc; try subst hc))) <;> (try clear hK K))
        | (refine wreg (mos := q95_7) hE [0, 3, 9, 10, 11] (by kernel_rfl) ?_; intro K hK; simp [q95_7, w1, w2, n1, n2, n3, n4, b1, b2, b3, b4, hpA, hpB, htA, z1, z2, d102]; (repeat' (first | refine hK _ _ ?_ | refine And.intro ?_ ?_ | (intro hc; try subst hc))) <;> (try clear hK K))
        | (refine wreg (mos := q95_8) hE [0, 3, 9, 10, 11] (by kernel_rfl) ?_; intro K hK; simp [q95_8, w1, w2, n1, n2, n3, n4, b1, b2, b3, b4, hpA, hpB, htA, z1, z2, d102]; (repeat' (first | refine hK _ _ ?_ | refine And.intro ?_ ?_ | (intro hc; try subst hc))) <;> (try clear hK K))
        | (refine wreg (mos := q95_9) hE [0, 6] (by kernel_rfl) ?_; intro K hK; simp [q95_9, w1, w2, n1, n2, n3, n4, b1, b2, b3, b4, hpA, hpB, htA, z1, z2, d102]; (repeat' (first | refine hK _ _ ?_ | refine And.intro ?_ ?_ | (intro hc; try subst hc))) <;> (try clear hK K))
        | (refine wreg (mos := q95_10) hE [6, 25, 26, 27] (by kernel_rfl) ?_; intro K hK; simp [q95_10, w1, w2, n1, n2, n3, n4, b1, b2, b3, b4, hpA, hpB, htA, z1, z2, d102]; (repeat' (first | refine hK _ _ ?_ | refine And.intro ?_ ?_ | (intro hc; try subst hc))) <;> (try clear hK K))
        | (refine wreg (mos := q95_11) hE [6, 25, 26, 27, 28] (by kernel_rfl) ?_; intro K hK; simp [q95_11, w1, w2, n1, n2, n3, n4, b1, b2, b3, b4, hpA, hpB, htA, z1, z2, d102]; (repeat' (first | refine hK _ _ ?_ | refine And.intro ?_ ?_ | (intro hc; try subst hc))) <;> (try clear hK K))
        | (refine wreg (mos := q95_12) hE [6, 8, 25, 26, 27] (by kernel_rfl) ?_; intro K hK; simp [q95_12, w1, w2, n1, n2, n3, n4, b1, b2, b3, b4, hpA, hpB, htA, z1, z2, d102]; (repeat' (first | refine hK _ _ ?_ | refine And.intro ?_ ?_ | (intro hc; try subst hc))) <;> (try clear hK K))
        | (refine wreg (mos := q95_13) hE [6, 25, 26, 27] (by kernel_rfl) ?_; intro K hK; simp [q95_13, w1, w2, n1, n2, n3, n4, b1, b2, b3, b4, hpA, hpB, htA, z1, z2, d102]; (repeat' (first | refine hK _ _ ?_ | refine And.intro ?_ ?_ | (intro hc; try subst hc))) <;> (try clear hK K))
        | (refine wreg (mos := q95_14) hE [6, 25, 26, 27] (by kernel_rfl) ?_; intro K hK; simp [q95_14, w1, w2, n1, n2, n3, n4, b1, b2, b3, b4, hpA, hpB, htA, z1, z2, d102]; (repeat' (first | refine hK _ _ ?_ | refine And.intro ?_ ?_ | (intro hc; try subst hc))) <;> (try clear hK K))
        | (refine wreg (mos := q95_15) hE [2] (by kernel_rfl) ?_; intro K hK; simp [q95_15, w1, w2, n1, n2, n3, n4, b1, b2, b3, b4, hpA, hpB, htA, z1, z2, d102]; (repeat' (first | refine hK _ _ ?_ | refine And.intro ?_ ?_ | (intro hc; try subst hc))) <;> (try clear hK K))
        | (refine Wm_cond (b := _) (by with_unfolding_all rfl) (fun hc => ?_) (fun hc => ?_) <;> simp at hc <;> (try subst hc)))
      all_goals first | (simp; done) | (simp at *; omega) | ((try simp[hT0, hCl]); refine Imp.auto (by kernel_rfl) ?_ ?_ <;> simp [nmap, lkp, mkPl, prs, prsL, prT, ddL, idL, NLe, CRenL, CRen, Ren, RenL, NObj.none, hT0, hCl])
    · cases h
  · cases h
end Go.W
