import Derived.Test.YthehmmodkhoieaaWsD
namespace Go.W
open Go.Proofs
set_option linter.unusedSimpArgs false
set_option linter.unusedVariables false
set_option maxHeartbeats 8000000
attribute [local irreducible] Wm

theorem shrink_rows {p : List (List AV) → Bool} {els : List (List AV)} (h : els.all row12 = true) : (shrinkZ p els).all row12 = true := rows_sub (shrinkZ_sub els) h

def d36 : List AV → List NObj → Option AV
  | [.sl (.top 0) 0 n, .raw .nilFunc], [.view 0 12 els] => if n = els.length ∧ els.all row12 = true ∧ els.length ≤ 200000 then some (.tup [.nsl, .bool false]) else none
  | [.sl (.top 0) 0 n, .fn g caps], .view 0 12 els :: cos => match predZ g caps cos with
    | some p => if n = els.length ∧ els.all row12 = true ∧ els.length ≤ 200000 then some (if p els = true then .tup [.os 0 12 (shrinkZ p els), .bool true] else .tup [.nsl, .bool false]) else none
    | none => none
  | _, _ => none

def I36a (fv : AV) (cos : List (Nat × NObj)) (nb : Nat) : List (List AV) × Nat × Nat → St
  | (L, n, _) => ⟨[(0, .sl (.top nb) 0 L.length), (1, fv), (6, .int .i64 n)], (nb, .arr 0 12 L) :: cos, nb + 1⟩
def I36b (fv : AV) (cos : List (Nat × NObj)) (nb : Nat) : List (List AV) × Nat → St
  | (L, _) => ⟨[(0, .sl (.top nb) 0 L.length), (1, fv)], (nb, .arr 0 12 L) :: cos, nb + 1⟩

theorem ok36 : ROk d36 := by
  intro xs os r h
  unfold d36 at h
  split at h
  · split at h
    · injection h with h; subst h; simp
    · cases h
  · split at h
    · split at h
      · rename_i n g caps els cos _ p hp hc
        injection h with h; subst h
        have hd := rows_dat (shrink_rows (p := p) hc.2.1)
        split
        · simp [hd]
        · simp
      · cases h
    · cases h
  · cases h
theorem s36 : Sound Try.prog 36 (rdS d36 ok36) := by
  refine rd_sound Try.func36 nm36 rc36 rv36 ok36 fun xs os r h vs ρ0 hvs => ⟨xs, ?_, fun _ h => h, fun w0 S hS => ?_⟩
  · unfold d36 at h
    (repeat' (split at h)) <;> first | (cases h; done) | exact Nat.le_of_ble_eq_true rfl
  have hE : SoundAll Try.prog (EL [(61, rdS d61 ok61), (62, rdS d62 ok62), (34, rdS d34 ok34), (39, rdS d39 ok39), (59, rdS d59 ok59)]) := EL_sound (by simp only [List.mem_cons, List.not_mem_nil, or_false, forall_eq_or_imp, forall_eq]; exact ⟨s61, s62, s34, s39, s59⟩)
  unfold d36 at h
  split at h
  · split at h
    · rename_i n els hcond
      injection h with h
      subst h
      obtain ⟨rfl, hrows, hlen⟩ := hcond
      have hdat := rows_dat hrows
      unfold m36
      repeat' with_reducible (first
        | refine Wm_seq ?_
        | refine Wm_skip ?_
        | refine Wm_ret ?_
        | refine Wm_block ?_
        | refine Wm_exit ?_
        | refine thenK_normal ?_
        | refine thenK_ret ?_
        | refine thenK_exit ?_
        | refine blockK_normal ?_
        | refine blockK_ret ?_
        | refine blockK_here ?_
        | refine loopK_ret ?_
        | refine loopK_exit ?_
        | refine unK_ret ?_
        | refine unK_exit ?_
        | refine unK_normal ?_
        | refine loopOk_succ ?_
        | refine blockK_exit (by decide) ?_
        | (refine wreg (mos := q36_0) hE [0, 1] (by kernel_rfl) ?_; intro K hK; simp [q36_0, hdat, hrows, hlen, d61, d62, d34, d39, d59]; (repeat' (first | refine hK _ _ ?_ | refine And.intro ?_ ?_ | (intro hc; try subst hc))) <;> (try clear hK K))
        | (refine wreg (mos := q36_1) hE [0, 1] (by kernel_rfl) ?_; intro K hK; simp [q36_1, hdat, hrows, hlen, d61, d62, d34, d39, d59]; (repeat' (first | refine hK _ _ ?_ | refine And.intro ?_ ?_ | (intro hc; try subst hc))) <;> (try clear hK K))
        | (refine wreg (mos := q36_2) hE [0, 1, 17] (by kernel_rfl) ?_; intro K hK; simp [q36_2, hdat, hrows, hlen, d61, d62, d34, d39, d59]; (repeat' (first | refine hK _ _ ?_ | refine And.intro ?_ ?_ | (intro hc; try subst hc))) <;> (try clear hK K))
        | (refine wreg (mos := q36_3) hE [4, 5] (by kernel_rfl) ?_; intro K hK; simp [q36_3, hdat, hrows, hlen, d61, d62, d34, d39, d59]; (repeat' (first | refine hK _ _ ?_ | refine And.intro ?_ ?_ | (intro hc; try subst hc))) <;> (try clear hK K))
        | (refine wreg (mos := q36_4) hE [0, 1, 6] (by kernel_rfl) ?_; intro K hK; simp [q36_4, hdat, hrows, hlen, d61, d62, d34, d39, d59]; (repeat' (first | refine hK _ _ ?_ | refine And.intro ?_ ?_ | (intro hc; try subst hc))) <;> (try clear hK K))
        | (refine wreg (mos := q36_5) hE [0, 1, 6, 23] (by kernel_rfl) ?_; intro K hK; simp [q36_5, hdat, hrows, hlen, d61, d62, d34, d39, d59]; (repeat' (first | refine hK _ _ ?_ | refine And.intro ?_ ?_ | (intro hc; try subst hc))) <;> (try clear hK K))
        | (refine wreg (mos := q36_6) hE [0, 1, 6] (by kernel_rfl) ?_; intro K hK; simp [q36_6, hdat, hrows, hlen, d61, d62, d34, d39, d59]; (repeat' (first | refine hK _ _ ?_ | refine And.intro ?_ ?_ | (intro hc; try subst hc))) <;> (try clear hK K))
        | (refine wreg (mos := q36_7) hE [0, 1, 6] (by kernel_rfl) ?_; intro K hK; simp [q36_7, hdat, hrows, hlen, d61, d62, d34, d39, d59]; (repeat' (first | refine hK _ _ ?_ | refine And.intro ?_ ?_ | (intro hc; try subst hc))) <;> (try clear hK K))
        | (refine wreg (mos := q36_8) hE [0, 1, 7] (by kernel_rfl) ?_; intro K hK; simp [q36_8, hdat, hrows, hlen, d61, d62, d34, d39, d59]; (repeat' (first | refine hK _ _ ?_ | refine And.intro ?_ ?_ | (intro hc; try subst hc))) <;> (try clear hK K))
        | (refine wreg (mos := q36_9) hE [0, 1, 7] (by kernel_rfl) ?_; intro K hK; simp [q36_9, hdat, hrows, hlen, d61, d62, d34, d39, d59]; (repeat' (first | refine hK _ _ ?_ | refine And.intro ?_ ?_ | (intro hc; try subst hc))) <;> (try clear hK K))
        | (refine wreg (mos := q36_10) hE [0, 1, 38] (by kernel_rfl) ?_; intro K hK; simp [q36_10, hdat, hrows, hlen, d61, d62, d34, d39, d59]; (repeat' (first | refine hK _ _ ?_ | refine And.intro ?_ ?_ | (intro hc; try subst hc))) <;> (try clear hK K))
        | (refine wreg (mos := q36_11) hE [4, 5] (by kernel_rfl) ?_; intro K hK; simp [q36_11, hdat, hrows, hlen, d61, d62, d34, d39, d59]; (repeat' (first | refine hK _ _ ?_ | refine And.intro ?_ ?_ | (intro hc; try subst hc))) <;> (try clear hK K))
        | (refine Wm_cond (b := _) (by with_unfolding_all rfl) (fun hc => ?_) (fun hc => ?_) <;> simp at hc <;> (try subst hc)))
      all_goals first | (simp; done) | (simp at *; omega) | ((try simp); refine Imp.auto (by kernel_rfl) ?_ ?_ <;> simp [nmap, lkp, mkPl, prs, prsL, prT, ddL, idL, NLe, CRenL, CRen, Ren, RenL, NObj.none])
    · cases h
  · split at h
    · split at h
      · rename_i n g caps els cos _ p hp hcond
        injection h with h
        subst h
        obtain ⟨rfl, hrows, hlen⟩ := hcond
        have hT0 := rows_t0 hrows
        have hCl := rows_cl hrows
        have hdat := rows_dat hrows
        obtain ⟨fv, hfv⟩ : ∃ fv : AV, fv = .fn g caps := ⟨_, rfl⟩
        obtain ⟨cosl, hcos⟩ : ∃ cosl : List (Nat × NObj), cosl = idxO 1 cos := ⟨_, rfl⟩
        obtain ⟨nb, hnb⟩ : ∃ nb : Nat, nb = 1 + cos.length := ⟨_, rfl⟩
        obtain ⟨Hh, hHh⟩ : ∃ H, halvZ p (els.length + 1) (max (els.length / 2) 1) els = H := ⟨_, rfl⟩
        obtain ⟨SS, hSS⟩ : ∃ s, shrinkZ p els = s := ⟨_, rfl⟩
        have hSS2 : settleZ p (els.length + 1) Hh = SS := by rw [← hHh, ← hSS]; rfl
        have hHr : Hh.all row12 = true := by rw [← hHh]; exact rows_sub (halvZ_sub _ _ _) hrows
        have hSr : SS.all row12 = true := by rw [← hSS]; exact shrink_rows hrows
        have hTS := rows_t0 hSr
        have hCS := rows_cl hSr
        rw [hSS]
        clear hSS
        have hp2 := hp
        rcases predZ_some hp2 with ⟨kind, m, hg, rfl, rfl, hpe⟩ | ⟨rfl, rfl, rfl, hpe⟩
        rcases hg with rfl | rfl
        all_goals have hpx := fun X => (congrFun hpe X).symm
        all_goals clear hpe hp2
        all_goals simp only [idxO, List.length_cons, List.length_nil] at hcos hnb
        · by_cases hpe : p els = true
          · rw [if_pos hpe]
            unfold m36
            repeat' with_reducible (first
              | refine Wm_seq ?_
              | refine Wm_skip ?_
              | refine Wm_ret ?_
              | refine Wm_block ?_
              | refine Wm_exit ?_
              | refine thenK_normal ?_
              | refine thenK_ret ?_
              | refine thenK_exit ?_
              | refine blockK_normal ?_
              | refine blockK_ret ?_
              | refine blockK_here ?_
              | refine loopK_ret ?_
              | refine loopK_exit ?_
              | refine unK_ret ?_
              | refine unK_exit ?_
              | refine unK_normal ?_
              | refine loopOk_succ ?_
              | refine blockK_exit (by decide) ?_
              | (refine wreg (mos := q36_0) hE [0, 1] (by kernel_rfl) ?_; intro K hK; simp [q36_0, hpe, hfv, hcos, hnb, hdat, hrows, hlen, hpx, d61, d62, d34, d39, d59]; (repeat' (first | refine hK _ _ ?_ | refine And.intro ?_ ?_ | (intro hc; try subst hc))) <;> (try clear hK K))
              | (refine wreg (mos := q36_1) hE [0, 1] (by kernel_rfl) ?_; intro K hK; simp [q36_1, hpe, hfv, hcos, hnb, hdat, hrows, hlen, hpx, d61, d62, d34, d39, d59]; (repeat' (first | refine hK _ _ ?_ | refine And.intro ?_ ?_ | (intro hc; try subst hc))) <;> (try clear hK K))
              | (refine wreg (mos := q36_2) hE [0, 1, 17] (by kernel_rfl) ?_; intro K hK; simp [q36_2, hpe, hfv, hcos, hnb, hdat, hrows, hlen, hpx, d61, d62, d34, d39, d59]; (repeat' (first | refine hK _ _ ?_ | refine And.intro ?_ ?_ | (intro hc; try subst hc))) <;> (try clear hK K))
              | (refine wreg (mos := q36_3) hE [4, 5] (by kernel_rfl) ?_; intro K hK; simp [q36_3, hpe, hfv, hcos, hnb, hdat, hrows, hlen, hpx, d61, d62, d34, d39, d59]; (repeat' (first | refine hK _ _ ?_ | refine And.intro ?_ ?_ | (intro hc; try subst hc))) <;> (try clear hK K))
              | (refine wreg (mos := q36_4) hE [0, 1, 6] (by kernel_rfl) ?_; intro K hK; simp [q36_4, hpe, hfv, hcos, hnb, hdat, hrows, hlen, hpx, d61, d62, d34, d39, d59]; (repeat' (first | refine hK _ _ ?_ | refine And.intro ?_ ?_ | (intro hc; try subst hc))) <;> (try clear hK K))
              | (refine wreg (mos := q36_5) hE [0, 1, 6, 23] (by kernel_rfl) ?_; intro K hK; simp [q36_5, hpe, hfv, hcos, hnb, hdat, hrows, hlen, hpx, d61, d62, d34, d39, d59]; (repeat' (first | refine hK _ _ ?_ | refine And.intro ?_ ?_ | (intro hc; try subst hc))) <;> (try clear hK K))
              | (refine wreg (mos := q36_6) hE [0, 1, 6] (by kernel_rfl) ?_; intro K hK; simp [q36_6, hpe, hfv, hcos, hnb, hdat, hrows, hlen, hpx, d61, d62, d34, d39, d59]; (repeat' (first | refine hK _ _ ?_ | refine And.intro ?_ ?_ | (intro hc; try subst hc))) <;> (try clear hK K))
              | (refine wreg (mos := q36_7) hE [0, 1, 6] (by kernel_rfl) ?_; intro K hK; simp [q36_7, hpe, hfv, hcos, hnb, hdat, hrows, hlen, hpx, d61, d62, d34, d39, d59]; (repeat' (first | refine hK _ _ ?_ | refine And.intro ?_ ?_ | (intro hc; try subst hc))) <;> (try clear hK K))
              | (refine wreg (mos := q36_8) hE [0, 1, 7] (by kernel_rfl) ?_; intro K hK; simp [q36_8, hpe, hfv, hcos, hnb, hdat, hrows, hlen, hpx, d61, d62, d34, d39, d59]; (repeat' (first | refine hK _ _ ?_ | refine And.intro ?_ ?_ | (intro hc; try subst hc))) <;> (try clear hK K))
              | (refine wreg (mos := q36_9) hE [0, 1, 7] (by kernel_rfl) ?_; intro K hK; simp [q36_9, hpe, hfv, hcos, hnb, hdat, hrows, hlen, hpx, d61, d62, d34, d39, d59]; (repeat' (first | refine hK _ _ ?_ | refine And.intro ?_ ?_ | (intro hc; try subst hc))) <;> (try clear hK K))
              | (refine wreg (mos := q36_10) hE [0, 1, 38] (by kernel_rfl) ?_; intro K hK; simp [q36_10, hpe, hfv, hcos, hnb, hdat, hrows, hlen, hpx, d61, d62, d34, d39, d59]; (repeat' (first | refine hK _ _ ?_ | refine And.intro ?_ ?_ | (intro hc; try subst hc))) <;> (try clear hK K))
              | (refine wreg (mos := q36_11) hE [4, 5] (by kernel_rfl) ?_; intro K hK; simp [q36_11, hpe, hfv, hcos, hnb, hdat, hrows, hlen, hpx, d61, d62, d34, d39, d59]; (repeat' (first | refine hK _ _ ?_ | refine And.intro ?_ ?_ | (intro hc; try subst hc))) <;> (try clear hK K))
              | (refine Wm_cond (b := _) (by with_unfolding_all rfl) (fun hc => ?_) (fun hc => ?_) <;> simp at hc <;> (try subst hc)))
            all_goals (refine Wm_loop (I36a fv cosl nb) (fun x => x.1.all row12 = true ∧ x.1.length ≤ els.length ∧ 1 ≤ x.2.1 ∧ x.2.1 ≤ 200000 ∧ x.2.1 ≤ x.2.2 ∧ halvZ p x.2.2 x.2.1 x.1 = Hh) (fun x => x.2.2) (els, max (els.length / 2) 1, els.length + 1) ⟨hrows, Nat.le_refl _, Nat.le_max_right _ _, by show max (els.length / 2) 1 ≤ 200000; omega, by show max (els.length / 2) 1 ≤ els.length + 1; omega, hHh⟩ ?_ ?_)
            · simp only [I36a, hfv, hcos, hnb]
              rw [hS]
              refine Imp.auto (by kernel_rfl) ?_ ?_ <;> simp [nmap, lkp, mkPl, prs, prsL, prT, ddL, idL, NLe, CRenL, CRen, Ren, RenL, NObj.none, hT0, hCl]
              all_goals (have wq : IntKind.wrap .i64 ((els.length : Int) / 2) = (els.length : Int) / 2 := wrap_in (by omega) (by omega))
              all_goals rw [wq]
              all_goals (try split)
              all_goals omega
            · intro ⟨L, n, f⟩ ⟨hLr, hL0, hn0, hn2, hn4, hr⟩
              replace hLr : L.all row12 = true := hLr
              replace hL0 : L.length ≤ els.length := hL0
              replace hn0 : 1 ≤ n := hn0
              replace hn2 : n ≤ 200000 := hn2
              replace hn4 : n ≤ f := hn4
              replace hr : halvZ p f n L = Hh := hr
              obtain ⟨f, rfl⟩ : ∃ f', f = f' + 1 := ⟨f - 1, by omega⟩
              simp only [halvZ] at hr
              have hT1 := rows_t0 hLr
              have hC1 := rows_cl hLr
              by_cases hgt : 1 < n
              · rw [if_pos hgt] at hr
                have hn1 : (1 : Int) < (n : Int) := by omega
                have hn3 : (n : Int) ≤ 200000 := by omega
                have hn5 : (1 : Int) ≤ (n : Int) := by omega
                have hn6 : 1 ≤ n := hn0
                have hLl : L.length ≤ 200000 := by omega
                have hLd := rows_dat hLr
                have wq : IntKind.wrap .i64 ((n : Int) / 2) = (n : Int) / 2 := wrap_in (by omega) (by omega)
                cases hpp : pass1 p n L with
                | mk c L' =>
                  have hLr' : L'.all row12 = true := by have := pass1_rows (p := p) (n := n) hLr; rw [hpp] at this; exact this
                  have hLl' : L'.length ≤ L.length := by have := (pass1_sub (p := p) n L).length_le; rw [hpp] at this; exact this
                  have hT2 := rows_t0 hLr'
                  have hC2 := rows_cl hLr'
                  have hLd' := rows_dat hLr'
                  cases c
                  · have e : L' = L := by have := (passZ_false (p := p) n (L.length + 1) false L 0 (by show (pass1 p n L).1 = false; rw [hpp])).2; rw [show passZ p n (L.length + 1) false L 0 = pass1 p n L from rfl, hpp] at this; exact this
                    subst e
                    simp only [hpp] at hr
                    simp only [I36a, hfv, hcos, hnb]
                    repeat' with_reducible (first
                      | refine Wm_seq ?_
                      | refine Wm_skip ?_
                      | refine Wm_ret ?_
                      | refine Wm_block ?_
                      | refine Wm_exit ?_
                      | refine thenK_normal ?_
                      | refine thenK_ret ?_
                      | refine thenK_exit ?_
                      | refine blockK_normal ?_
                      | refine blockK_ret ?_
                      | refine blockK_here ?_
                      | refine loopK_ret ?_
                      | refine loopK_exit ?_
                      | refine unK_ret ?_
                      | refine unK_exit ?_
                      | refine unK_normal ?_
                      | refine loopOk_succ ?_
                      | refine blockK_exit (by decide) ?_
                      | (refine wreg (mos := q36_0) hE [0, 1] (by kernel_rfl) ?_; intro K hK; simp [q36_0, hgt, hn5, hn6, hLd, hLr, hLl, hn1, hn2, hn3, hp, hfv, hcos, hnb, hpp, res62, wq, d61, d62, d34, d39, d59]; (repeat' (first | refine hK _ _ ?_ | refine And.intro ?_ ?_ | (intro hc; try subst hc))) <;> (try clear hK K))
                      | (refine wreg (mos := q36_1) hE [0, 1] (by kernel_rfl) ?_; intro K hK; simp [q36_1, hgt, hn5, hn6, hLd, hLr, hLl, hn1, hn2, hn3, hp, hfv, hcos, hnb, hpp, res62, wq, d61, d62, d34, d39, d59]; (repeat' (first | refine hK _ _ ?_ | refine And.intro ?_ ?_ | (intro hc; try subst hc))) <;> (try clear hK K))
                      | (refine wreg (mos := q36_2) hE [0, 1, 17] (by kernel_rfl) ?_; intro K hK; simp [q36_2, hgt, hn5, hn6, hLd, hLr, hLl, hn1, hn2, hn3, hp, hfv, hcos, hnb, hpp, res62, wq, d61, d62, d34, d39, d59]; (repeat' (first | refine hK _ _ ?_ | refine And.intro ?_ ?_ | (intro hc; try subst hc))) <;> (try clear hK K))
                      | (refine wreg (mos := q36_3) hE [4, 5] (by kernel_rfl) ?_; intro K hK; simp [q36_3, hgt, hn5, hn6, hLd, hLr, hLl, hn1, hn2, hn3, hp, hfv, hcos, hnb, hpp, res62, wq, d61, d62, d34, d39, d59]; (repeat' (first | refine hK _ _ ?_ | refine And.intro ?_ ?_ | (intro hc; try subst hc))) <;> (try clear hK K))
                      | (refine wreg (mos := q36_4) hE [0, 1, 6] (by kernel_rfl) ?_; intro K hK; simp [q36_4, hgt, hn5, hn6, hLd, hLr, hLl, hn1, hn2, hn3, hp, hfv, hcos, hnb, hpp, res62, wq, d61, d62, d34, d39, d59]; (repeat' (first | refine hK _ _ ?_ | refine And.intro ?_ ?_ | (intro hc; try subst hc))) <;> (try clear hK K))
                      | (refine wreg (mos := q36_5) hE [0, 1, 6, 23] (by kernel_rfl) ?_; intro K hK; simp [q36_5, hgt, hn5, hn6, hLd, hLr, hLl, hn1, hn2, hn3, hp, hfv, hcos, hnb, hpp, res62, wq, d61, d62, d34, d39, d59]; (repeat' (first | refine hK _ _ ?_ | refine And.intro ?_ ?_ | (intro hc; try subst hc))) <;> (try clear hK K))
                      | (refine wreg (mos := q36_6) hE [0, 1, 6] (by kernel_rfl) ?_; intro K hK; simp [q36_6, hgt, hn5, hn6, hLd, hLr, hLl, hn1, hn2, hn3, hp, hfv, hcos, hnb, hpp, res62, wq, d61, d62, d34, d39, d59]; (repeat' (first | refine hK _ _ ?_ | refine And.intro ?_ ?_ | (intro hc; try subst hc))) <;> (try clear hK K))
                      | (refine wreg (mos := q36_7) hE [0, 1, 6] (by kernel_rfl) ?_; intro K hK; simp [q36_7, hgt, hn5, hn6, hLd, hLr, hLl, hn1, hn2, hn3, hp, hfv, hcos, hnb, hpp, res62, wq, d61, d62, d34, d39, d59]; (repeat' (first | refine hK _ _ ?_ | refine And.intro ?_ ?_ | (intro hc; try subst hc))) <;> (try clear hK K))
                      | (refine wreg (mos := q36_8) hE [0, 1, 7] (by kernel_rfl) ?_; intro K hK; simp [q36_8, hgt, hn5, hn6, hLd, hLr, hLl, hn1, hn2, hn3, hp, hfv, hcos, hnb, hpp, res62, wq, d61, d62, d34, d39, d59]; (repeat' (first | refine hK _ _ ?_ | refine And.intro ?_ ?_ | (intro hc; try subst hc))) <;> (try clear hK K))
                      | (refine wreg (mos := q36_9) hE [0, 1, 7] (by kernel_rfl) ?_; intro K hK; simp [q36_9, hgt, hn5, hn6, hLd, hLr, hLl, hn1, hn2, hn3, hp, hfv, hcos, hnb, hpp, res62, wq, d61, d62, d34, d39, d59]; (repeat' (first | refine hK _ _ ?_ | refine And.intro ?_ ?_ | (intro hc; try subst hc))) <;> (try clear hK K))
                      | (refine wreg (mos := q36_10) hE [0, 1, 38] (by kernel_rfl) ?_; intro K hK; simp [q36_10, hgt, hn5, hn6, hLd, hLr, hLl, hn1, hn2, hn3, hp, hfv, hcos, hnb, hpp, res62, wq, d61, d62, d34, d39, d59]; (repeat' (first | refine hK _ _ ?_ | refine And.intro ?_ ?_ | (intro hc; try subst hc))) <;> (try clear hK K))
                      | (refine wreg (mos := q36_11) hE [4, 5] (by kernel_rfl) ?_; intro K hK; simp [q36_11, hgt, hn5, hn6, hLd, hLr, hLl, hn1, hn2, hn3, hp, hfv, hcos, hnb, hpp, res62, wq, d61, d62, d34, d39, d59]; (repeat' (first | refine hK _ _ ?_ | refine And.intro ?_ ?_ | (intro hc; try subst hc))) <;> (try clear hK K))
                      | (refine Wm_cond (b := _) (by with_unfolding_all rfl) (fun hc => ?_) (fun hc => ?_) <;> simp at hc <;> (try subst hc)))
                    all_goals refine ⟨(L', n / 2, f), ⟨hLr', by show L'.length ≤ els.length; omega, by show 1 ≤ n / 2; omega, by show n / 2 ≤ 200000; omega, by show n / 2 ≤ f; omega, hr⟩, Nat.lt_succ_self f, ?_⟩
                    all_goals simp only [I36a, hfv, hcos, hnb]
                    all_goals rw [hS]
                    all_goals (refine Imp.auto (by kernel_rfl) ?_ ?_ <;> simp [nmap, lkp, mkPl, prs, prsL, prT, ddL, idL, NLe, CRenL, CRen, Ren, RenL, NObj.none, hT2, hC2])
                  · skip
                    simp only [hpp] at hr
                    simp only [I36a, hfv, hcos, hnb]
                    repeat' with_reducible (first
                      | refine Wm_seq ?_
                      | refine Wm_skip ?_
                      | refine Wm_ret ?_
                      | refine Wm_block ?_
                      | refine Wm_exit ?_
                      | refine thenK_normal ?_
                      | refine thenK_ret ?_
                      | refine thenK_exit ?_
                      | refine blockK_normal ?_
                      | refine blockK_ret ?_
                      | refine blockK_here ?_
                      | refine loopK_ret ?_
                      | refine loopK_exit ?_
                      | refine unK_ret ?_
                      | refine unK_exit ?_
                      | refine unK_normal ?_
                      | refine loopOk_succ ?_
                      | refine blockK_exit (by decide) ?_
                      | (refine wreg (mos := q36_0) hE [0, 1] (by kernel_rfl) ?_; intro K hK; simp [q36_0, hgt, hn5, hn6, hLd, hLr, hLl, hn1, hn2, hn3, hp, hfv, hcos, hnb, hpp, res62, wq, d61, d62, d34, d39, d59]; (repeat' (first | refine hK _ _ ?_ | refine And.intro ?_ ?_ | (intro hc; try subst hc))) <;> (try clear hK K))
                      | (refine wreg (mos := q36_1) hE [0, 1] (by kernel_rfl) ?_; intro K hK; simp [q36_1, hgt, hn5, hn6, hLd, hLr, hLl, hn1, hn2, hn3, hp, hfv, hcos, hnb, hpp, res62, wq, d61, d62, d34, d39, d59]; (repeat' (first | refine hK _ _ ?_ | refine And.intro ?_ ?_ | (intro hc; try subst hc))) <;> (try clear hK K))
                      | (refine wreg (mos := q36_2) hE [0, 1, 17] (by kernel_rfl) ?_; intro K hK; simp [q36_2, hgt, hn5, hn6, hLd, hLr, hLl, hn1, hn2, hn3, hp, hfv, hcos, hnb, hpp, res62, wq, d61, d62, d34, d39, d59]; (repeat' (first | refine hK _ _ ?_ | refine And.intro ?_ ?_ | (intro hc; try subst hc))) <;> (try clear hK K))
                      | (refine wreg (mos := q36_3) hE [4, 5] (by kernel_rfl) ?_; intro K hK; simp [q36_3, hgt, hn5, hn6, hLd, hLr, hLl, hn1, hn2, hn3, hp, hfv, hcos, hnb, hpp, res62, wq, d61, d62, d34, d39, d59]; (repeat' (first | refine hK _ _ ?_ | refine And.intro ?_ ?_ | (intro hc; try subst hc))) <;> (try clear hK K))
                      | (refine wreg (mos := q36_4) hE [0, 1, 6] (by kernel_rfl) ?_; intro K hK; simp [q36_4, hgt, hn5, hn6, hLd, hLr, hLl, hn1, hn2, hn3, hp, hfv, hcos, hnb, hpp, res62, wq, d61, d62, d34, d39, d59]; (repeat' (first | refine hK _ _ ?_ | refine And.intro ?_ ?_ | (intro hc; try subst hc))) <;> (try clear hK K))
                      | (refine wreg (mos := q36_5) hE [0, 1, 6, 23] (by kernel_rfl) ?_; intro K hK; simp [q36_5, hgt, hn5, hn6, hLd, hLr, hLl, hn1, hn2, hn3, hp, hfv, hcos, hnb, hpp, res62, wq, d61, d62, d34, d39, d59]; (repeat' (first | refine hK _ _ ?_ | refine And.intro ?_ ?_ | (intro hc; try subst hc))) <;> (try clear hK K))
                      | (refine wreg (mos := q36_6) hE [0, 1, 6] (by kernel_rfl) ?_; intro K hK; simp [q36_6, hgt, hn5, hn6, hLd, hLr, hLl, hn1, hn2, hn3, hp, hfv, hcos, hnb, hpp, res62, wq, d61, d62, d34, d39, d59]; (repeat' (first | refine hK _ _ ?_ | refine And.intro ?_ ?_ | (intro hc; try subst hc))) <;> (try clear hK K))
                      | (refine wreg (mos := q36_7) hE [0, 1, 6] (by kernel_rfl) ?_; intro K hK; simp [q36_7, hgt, hn5, hn6, hLd, hLr, hLl, hn1, hn2, hn3, hp, hfv, hcos, hnb, hpp, res62, wq, d61, d62, d34, d39, d59]; (repeat' (first | refine hK _ _ ?_ | refine And.intro ?_ ?_ | (intro hc; try subst hc))) <;> (try clear hK K))
                      | (refine wreg (mos := q36_8) hE [0, 1, 7] (by kernel_rfl) ?_; intro K hK; simp [q36_8, hgt, hn5, hn6, hLd, hLr, hLl, hn1, hn2, hn3, hp, hfv, hcos, hnb, hpp, res62, wq, d61, d62, d34, d39, d59]; (repeat' (first | refine hK _ _ ?_ | refine And.intro ?_ ?_ | (intro hc; try subst hc))) <;> (try clear hK K))
                      | (refine wreg (mos := q36_9) hE [0, 1, 7] (by kernel_rfl) ?_; intro K hK; simp [q36_9, hgt, hn5, hn6, hLd, hLr, hLl, hn1, hn2, hn3, hp, hfv, hcos, hnb, hpp, res62, wq, d61, d62, d34, d39, d59]; (repeat' (first | refine hK _ _ ?_ | refine And.intro ?_ ?_ | (intro hc; try subst hc))) <;> (try clear hK K))
                      | (refine wreg (mos := q36_10) hE [0, 1, 38] (by kernel_rfl) ?_; intro K hK; simp [q36_10, hgt, hn5, hn6, hLd, hLr, hLl, hn1, hn2, hn3, hp, hfv, hcos, hnb, hpp, res62, wq, d61, d62, d34, d39, d59]; (repeat' (first | refine hK _ _ ?_ | refine And.intro ?_ ?_ | (intro hc; try subst hc))) <;> (try clear hK K))
                      | (refine wreg (mos := q36_11) hE [4, 5] (by kernel_rfl) ?_; intro K hK; simp [q36_11, hgt, hn5, hn6, hLd, hLr, hLl, hn1, hn2, hn3, hp, hfv, hcos, hnb, hpp, res62, wq, d61, d62, d34, d39, d59]; (repeat' (first | refine hK _ _ ?_ | refine And.intro ?_ ?_ | (intro hc; try subst hc))) <;> (try clear hK K))
                      | (refine Wm_cond (b := _) (by with_unfolding_all rfl) (fun hc => ?_) (fun hc => ?_) <;> simp at hc <;> (try subst hc)))
                    all_goals refine ⟨(L', n / 2, f), ⟨hLr', by show L'.length ≤ els.length; omega, by show 1 ≤ n / 2; omega, by show n / 2 ≤ 200000; omega, by show n / 2 ≤ f; omega, hr⟩, Nat.lt_succ_self f, ?_⟩
                    all_goals simp only [I36a, hfv, hcos, hnb]
                    all_goals rw [hS]
                    all_goals (refine Imp.auto (by kernel_rfl) ?_ ?_ <;> simp [nmap, lkp, mkPl, prs, prsL, prT, ddL, idL, NLe, CRenL, CRen, Ren, RenL, NObj.none, hT2, hC2])
              · rw [if_neg hgt] at hr
                have hn1 : ¬ (1 : Int) < (n : Int) := by omega
                subst hr
                simp only [I36a, hfv, hcos, hnb]
                repeat' with_reducible (first
                  | refine Wm_seq ?_
                  | refine Wm_skip ?_
                  | refine Wm_ret ?_
                  | refine Wm_block ?_
                  | refine Wm_exit ?_
                  | refine thenK_normal ?_
                  | refine thenK_ret ?_
                  | refine thenK_exit ?_
                  | refine blockK_normal ?_
                  | refine blockK_ret ?_
                  | refine blockK_here ?_
                  | refine loopK_ret ?_
                  | refine loopK_exit ?_
                  | refine unK_ret ?_
                  | refine unK_exit ?_
                  | refine unK_normal ?_
                  | refine loopOk_succ ?_
                  | refine blockK_exit (by decide) ?_
                  | (refine wreg (mos := q36_0) hE [0, 1] (by kernel_rfl) ?_; intro K hK; simp [q36_0, hgt, hn1, hfv, hcos, hnb, d61, d62, d34, d39, d59]; (repeat' (first | refine hK _ _ ?_ | refine And.intro ?_ ?_ | (intro hc; try subst hc))) <;> (try clear hK K))
                  | (refine wreg (mos := q36_1) hE [0, 1] (by kernel_rfl) ?_; intro K hK; simp [q36_1, hgt, hn1, hfv, hcos, hnb, d61, d62, d34, d39, d59]; (repeat' (first | refine hK _ _ ?_ | refine And.intro ?_ ?_ | (intro hc; try subst hc))) <;> (try clear hK K))
                  | (refine wreg (mos := q36_2) hE [0, 1, 17] (by kernel_rfl) ?_; intro K hK; simp [q36_2, hgt, hn1, hfv, hcos, hnb, d61, d62, d34, d39, d59]; (repeat' (first | refine hK _ _ ?_ | refine And.intro ?_ ?_ | (intro hc; try subst hc))) <;> (try clear hK K))
                  | (refine wreg (mos := q36_3) hE [4, 5] (by kernel_rfl) ?_; intro K hK; simp [q36_3, hgt, hn1, hfv, hcos, hnb, d61, d62, d34, d39, d59]; (repeat' (first | refine hK _ _ ?_ | refine And.intro ?_ ?_ | (intro hc; try subst hc))) <;> (try clear hK K))
                  | (refine wreg (mos := q36_4) hE [0, 1, 6] (by kernel_rfl) ?_; intro K hK; simp [q36_4, hgt, hn1, hfv, hcos, hnb, d61, d62, d34, d39, d59]; (repeat' (first | refine hK _ _ ?_ | refine And.intro ?_ ?_ | (intro hc; try subst hc))) <;> (try clear hK K))
                  | (refine wreg (mos := q36_5) hE [0, 1, 6, 23] (by kernel_rfl) ?_; intro K hK; simp [q36_5, hgt, hn1, hfv, hcos, hnb, d61, d62, d34, d39, d59]; (repeat' (first | refine hK _ _ ?_ | refine And.intro ?_ ?_ | (intro hc; try subst hc))) <;> (try clear hK K))
                  | (refine wreg (mos := q36_6) hE [0, 1, 6] (by kernel_rfl) ?_; intro K hK; simp [q36_6, hgt, hn1, hfv, hcos, hnb, d61, d62, d34, d39, d59]; (repeat' (first | refine hK _ _ ?_ | refine And.intro ?_ ?_ | (intro hc; try subst hc))) <;> (try clear hK K))
                  | (refine wreg (mos := q36_7) hE [0, 1, 6] (by kernel_rfl) ?_; intro K hK; simp [q36_7, hgt, hn1, hfv, hcos, hnb, d61, d62, d34, d39, d59]; (repeat' (first | refine hK _ _ ?_ | refine And.intro ?_ ?_ | (intro hc; try subst hc))) <;> (try clear hK K))
                  | (refine wreg (mos := q36_8) hE [0, 1, 7] (by kernel_rfl) ?_; intro K hK; simp [q36_8, hgt, hn1, hfv, hcos, hnb, d61, d62, d34, d39, d59]; (repeat' (first | refine hK _ _ ?_ | refine And.intro ?_ ?_ | (intro hc; try subst hc))) <;> (try clear hK K))
                  | (refine wreg (mos := q36_9) hE [0, 1, 7] (by kernel_rfl) ?_; intro K hK; simp [q36_9, hgt, hn1, hfv, hcos, hnb, d61, d62, d34, d39, d59]; (repeat' (first | refine hK _ _ ?_ | refine And.intro ?_ ?_ | (intro hc; try subst hc))) <;> (try clear hK K))
                  | (refine wreg (mos := q36_10) hE [0, 1, 38] (by kernel_rfl) ?_; intro K hK; simp [q36_10, hgt, hn1, hfv, hcos, hnb, d61, d62, d34, d39, d59]; (repeat' (first | refine hK _ _ ?_ | refine And.intro ?_ ?_ | (intro hc; try subst hc))) <;> (try clear hK K))
                  | (refine wreg (mos := q36_11) hE [4, 5] (by kernel_rfl) ?_; intro K hK; simp [q36_11, hgt, hn1, hfv, hcos, hnb, d61, d62, d34, d39, d59]; (repeat' (first | refine hK _ _ ?_ | refine And.intro ?_ ?_ | (intro hc; try subst hc))) <;> (try clear hK K))
                  | (refine Wm_cond (b := _) (by with_unfolding_all rfl) (fun hc => ?_) (fun hc => ?_) <;> simp at hc <;> (try subst hc)))
                all_goals (refine Wm_loop (I36b fv cosl nb) (fun x => x.1.all row12 = true ∧ x.1.length ≤ els.length ∧ x.1.length < x.2 ∧ settleZ p x.2 x.1 = SS) (fun x => x.2) (L, els.length + 1) ⟨hLr, hL0, by show L.length < els.length + 1; omega, hSS2⟩ ?_ ?_)
                · simp only [I36b, hfv, hcos, hnb]
                  rw [hS]
                  refine Imp.auto (by kernel_rfl) ?_ ?_ <;> simp [nmap, lkp, mkPl, prs, prsL, prT, ddL, idL, NLe, CRenL, CRen, Ren, RenL, NObj.none, hT1, hC1]
                · clear hT1 hC1 hn0 hn2 hn4 hLr hL0 hSS2 hHr
                  intro ⟨L, f⟩ ⟨hLr, hL0, hLf, hr⟩
                  replace hLr : L.all row12 = true := hLr
                  replace hL0 : L.length ≤ els.length := hL0
                  replace hLf : L.length < f := hLf
                  replace hr : settleZ p f L = SS := hr
                  obtain ⟨f, rfl⟩ : ∃ f', f = f' + 1 := ⟨f - 1, by omega⟩
                  simp only [settleZ] at hr
                  have hLl : L.length ≤ 200000 := by omega
                  have hLd := rows_dat hLr
                  have hT1 := rows_t0 hLr
                  have hC1 := rows_cl hLr
                  have hn1 : (1 : Int) ≤ 1 := by omega
                  cases hpp : pass1 p 1 L with
                  | mk c L' =>
                    have hLr' : L'.all row12 = true := by have := pass1_rows (p := p) (n := 1) hLr; rw [hpp] at this; exact this
                    have hLl' : L'.length ≤ L.length := by have := (pass1_sub (p := p) 1 L).length_le; rw [hpp] at this; exact this
                    have hT2 := rows_t0 hLr'
                    have hC2 := rows_cl hLr'
                    have hLd' := rows_dat hLr'
                    cases c
                    · have e : L' = L := by have := (passZ_false (p := p) 1 (L.length + 1) false L 0 (by show (pass1 p 1 L).1 = false; rw [hpp])).2; rw [show passZ p 1 (L.length + 1) false L 0 = pass1 p 1 L from rfl, hpp] at this; exact this
                      subst e
                      simp only [hpp] at hr
                      rw [if_pos trivial] at hr
                      subst hr
                      simp only [I36b, hfv, hcos, hnb]
                      repeat' with_reducible (first
                        | refine Wm_seq ?_
                        | refine Wm_skip ?_
                        | refine Wm_ret ?_
                        | refine Wm_block ?_
                        | refine Wm_exit ?_
                        | refine thenK_normal ?_
                        | refine thenK_ret ?_
                        | refine thenK_exit ?_
                        | refine blockK_normal ?_
                        | refine blockK_ret ?_
                        | refine blockK_here ?_
                        | refine loopK_ret ?_
                        | refine loopK_exit ?_
                        | refine unK_ret ?_
                        | refine unK_exit ?_
                        | refine unK_normal ?_
                        | refine loopOk_succ ?_
                        | refine blockK_exit (by decide) ?_
                        | (refine wreg (mos := q36_0) hE [0, 1] (by kernel_rfl) ?_; intro K hK; simp [q36_0, hLd, hLr, hLl, hn1, hp, hfv, hcos, hnb, hpp, res62, d61, d62, d34, d39, d59]; (repeat' (first | refine hK _ _ ?_ | refine And.intro ?_ ?_ | (intro hc; try subst hc))) <;> (try clear hK K))
                        | (refine wreg (mos := q36_1) hE [0, 1] (by kernel_rfl) ?_; intro K hK; simp [q36_1, hLd, hLr, hLl, hn1, hp, hfv, hcos, hnb, hpp, res62, d61, d62, d34, d39, d59]; (repeat' (first | refine hK _ _ ?_ | refine And.intro ?_ ?_ | (intro hc; try subst hc))) <;> (try clear hK K))
                        | (refine wreg (mos := q36_2) hE [0, 1, 17] (by kernel_rfl) ?_; intro K hK; simp [q36_2, hLd, hLr, hLl, hn1, hp, hfv, hcos, hnb, hpp, res62, d61, d62, d34, d39, d59]; (repeat' (first | refine hK _ _ ?_ | refine And.intro ?_ ?_ | (intro hc; try subst hc))) <;> (try clear hK K))
                        | (refine wreg (mos := q36_3) hE [4, 5] (by kernel_rfl) ?_; intro K hK; simp [q36_3, hLd, hLr, hLl, hn1, hp, hfv, hcos, hnb, hpp, res62, d61, d62, d34, d39, d59]; (repeat' (first | refine hK _ _ ?_ | refine And.intro ?_ ?_ | (intro hc; try subst hc))) <;> (try clear hK K))
                        | (refine wreg (mos := q36_4) hE [0, 1, 6] (by kernel_rfl) ?_; intro K hK; simp [q36_4, hLd, hLr, hLl, hn1, hp, hfv, hcos, hnb, hpp, res62, d61, d62, d34, d39, d59]; (repeat' (first | refine hK _ _ ?_ | refine And.intro ?_ ?_ | (intro hc; try subst hc))) <;> (try clear hK K))
                        | (refine wreg (mos := q36_5) hE [0, 1, 6, 23] (by kernel_rfl) ?_; intro K hK; simp [q36_5, hLd, hLr, hLl, hn1, hp, hfv, hcos, hnb, hpp, res62, d61, d62, d34, d39, d59]; (repeat' (first | refine hK _ _ ?_ | refine And.intro ?_ ?_ | (intro hc; try subst hc))) <;> (try clear hK K))
                        | (refine wreg (mos := q36_6) hE [0, 1, 6] (by kernel_rfl) ?_; intro K hK; simp [q36_6, hLd, hLr, hLl, hn1, hp, hfv, hcos, hnb, hpp, res62, d61, d62, d34, d39, d59]; (repeat' (first | refine hK _ _ ?_ | refine And.intro ?_ ?_ | (intro hc; try subst hc))) <;> (try clear hK K))
                        | (refine wreg (mos := q36_7) hE [0, 1, 6] (by kernel_rfl) ?_; intro K hK; simp [q36_7, hLd, hLr, hLl, hn1, hp, hfv, hcos, hnb, hpp, res62, d61, d62, d34, d39, d59]; (repeat' (first | refine hK _ _ ?_ | refine And.intro ?_ ?_ | (intro hc; try subst hc))) <;> (try clear hK K))
                        | (refine wreg (mos := q36_8) hE [0, 1, 7] (by kernel_rfl) ?_; intro K hK; simp [q36_8, hLd, hLr, hLl, hn1, hp, hfv, hcos, hnb, hpp, res62, d61, d62, d34, d39, d59]; (repeat' (first | refine hK _ _ ?_ | refine And.intro ?_ ?_ | (intro hc; try subst hc))) <;> (try clear hK K))
                        | (refine wreg (mos := q36_9) hE [0, 1, 7] (by kernel_rfl) ?_; intro K hK; simp [q36_9, hLd, hLr, hLl, hn1, hp, hfv, hcos, hnb, hpp, res62, d61, d62, d34, d39, d59]; (repeat' (first | refine hK _ _ ?_ | refine And.intro ?_ ?_ | (intro hc; try subst hc))) <;> (try clear hK K))
                        | (refine wreg (mos := q36_10) hE [0, 1, 38] (by kernel_rfl) ?_; intro K hK; simp [q36_10, hLd, hLr, hLl, hn1, hp, hfv, hcos, hnb, hpp, res62, d61, d62, d34, d39, d59]; (repeat' (first | refine hK _ _ ?_ | refine And.intro ?_ ?_ | (intro hc; try subst hc))) <;> (try clear hK K))
                        | (refine wreg (mos := q36_11) hE [4, 5] (by kernel_rfl) ?_; intro K hK; simp [q36_11, hLd, hLr, hLl, hn1, hp, hfv, hcos, hnb, hpp, res62, d61, d62, d34, d39, d59]; (repeat' (first | refine hK _ _ ?_ | refine And.intro ?_ ?_ | (intro hc; try subst hc))) <;> (try clear hK K))
                        | (refine Wm_cond (b := _) (by with_unfolding_all rfl) (fun hc => ?_) (fun hc => ?_) <;> simp at hc <;> (try subst hc)))
                      all_goals first | (simp; done) | (simp at *; omega) | ((try simp[hTS, hCS]); refine Imp.auto (by kernel_rfl) ?_ ?_ <;> simp [nmap, lkp, mkPl, prs, prsL, prT, ddL, idL, NLe, CRenL, CRen, Ren, RenL, NObj.none, hTS, hCS])
                    · skip
                      simp only [hpp] at hr
                      by_cases hlen2 : L'.length = L.length
                      · rw [if_pos hlen2] at hr
                        subst hr
                        simp only [I36b, hfv, hcos, hnb]
                        repeat' with_reducible (first
                          | refine Wm_seq ?_
                          | refine Wm_skip ?_
                          | refine Wm_ret ?_
                          | refine Wm_block ?_
                          | refine Wm_exit ?_
                          | refine thenK_normal ?_
                          | refine thenK_ret ?_
                          | refine thenK_exit ?_
                          | refine blockK_normal ?_
                          | refine blockK_ret ?_
                          | refine blockK_here ?_
                          | refine loopK_ret ?_
                          | refine loopK_exit ?_
                          | refine unK_ret ?_
                          | refine unK_exit ?_
                          | refine unK_normal ?_
                          | refine loopOk_succ ?_
                          | refine blockK_exit (by decide) ?_
                          | (refine wreg (mos := q36_0) hE [0, 1] (by kernel_rfl) ?_; intro K hK; simp [q36_0, hlen2, hLd, hLr, hLl, hn1, hp, hfv, hcos, hnb, hpp, res62, d61, d62, d34, d39, d59]; (repeat' (first | refine hK _ _ ?_ | refine And.intro ?_ ?_ | (intro hc; try subst hc))) <;> (try clear hK K))
                          | (refine wreg (mos := q36_1) hE [0, 1] (by kernel_rfl) ?_; intro K hK; simp [q36_1, hlen2, hLd, hLr, hLl, hn1, hp, hfv, hcos, hnb, hpp, res62, d61, d62, d34, d39, d59]; (repeat' (first | refine hK _ _ ?_ | refine And.intro ?_ ?_ | (intro hc; try subst hc))) <;> (try clear hK K))
                          | (refine wreg (mos := q36_2) hE [0, 1, 17] (by kernel_rfl) ?_; intro K hK; simp [q36_2, hlen2, hLd, hLr, hLl, hn1, hp, hfv, hcos, hnb, hpp, res62, d61, d62, d34, d39, d59]; (repeat' (first | refine hK _ _ ?_ | refine And.intro ?_ ?_ | (intro hc; try subst hc))) <;> (try clear hK K))
                          | (refine wreg (mos := q36_3) hE [4, 5] (by kernel_rfl) ?_; intro K hK; simp [q36_3, hlen2, hLd, hLr, hLl, hn1, hp, hfv, hcos, hnb, hpp, res62, d61, d62, d34, d39, d59]; (repeat' (first | refine hK _ _ ?_ | refine And.intro ?_ ?_ | (intro hc; try subst hc))) <;> (try clear hK K))
                          | (refine wreg (mos := q36_4) hE [0, 1, 6] (by kernel_rfl) ?_; intro K hK; simp [q36_4, hlen2, hLd, hLr, hLl, hn1, hp, hfv, hcos, hnb, hpp, res62, d61, d62, d34, d39, d59]; (repeat' (first | refine hK _ _ ?_ | refine And.intro ?_ ?_ | (intro hc; try subst hc))) <;> (try clear hK K))
                          | (refine wreg (mos := q36_5) hE [0, 1, 6, 23] (by kernel_rfl) ?_; intro K hK; simp [q36_5, hlen2, hLd, hLr, hLl, hn1, hp, hfv, hcos, hnb, hpp, res62, d61, d62, d34, d39, d59]; (repeat' (first | refine hK _ _ ?_ | refine And.intro ?_ ?_ | (intro hc; try subst hc))) <;> (try clear hK K))
                          | (refine wreg (mos := q36_6) hE [0, 1, 6] (by kernel_rfl) ?_; intro K hK; simp [q36_6, hlen2, hLd, hLr, hLl, hn1, hp, hfv, hcos, hnb, hpp, res62, d61, d62, d34, d39, d59]; (repeat' (first | refine hK _ _ ?_ | refine And.intro ?_ ?_ | (intro hc; try subst hc))) <;> (try clear hK K))
                          | (refine wreg (mos := q36_7) hE [0, 1, 6] (by kernel_rfl) ?_; intro K hK; simp [q36_7, hlen2, hLd, hLr, hLl, hn1, hp, hfv, hcos, hnb, hpp, res62, d61, d62, d34, d39, d59]; (repeat' (first | refine hK _ _ ?_ | refine And.intro ?_ ?_ | (intro hc; try subst hc))) <;> (try clear hK K))
                          | (refine wreg (mos := q36_8) hE [0, 1, 7] (by kernel_rfl) ?_; intro K hK; simp [q36_8, hlen2, hLd, hLr, hLl, hn1, hp, hfv, hcos, hnb, hpp, res62, d61, d62, d34, d39, d59]; (repeat' (first | refine hK _ _ ?_ | refine And.intro ?_ ?_ | (intro hc; try subst hc))) <;> (try clear hK K))
                          | (refine wreg (mos := q36_9) hE [0, 1, 7] (by kernel_rfl) ?_; intro K hK; simp [q36_9, hlen2, hLd, hLr, hLl, hn1, hp, hfv, hcos, hnb, hpp, res62, d61, d62, d34, d39, d59]; (repeat' (first | refine hK _ _ ?_ | refine And.intro ?_ ?_ | (intro hc; try subst hc))) <;> (try clear hK K))
                          | (refine wreg (mos := q36_10) hE [0, 1, 38] (by kernel_rfl) ?_; intro K hK; simp [q36_10, hlen2, hLd, hLr, hLl, hn1, hp, hfv, hcos, hnb, hpp, res62, d61, d62, d34, d39, d59]; (repeat' (first | refine hK _ _ ?_ | refine And.intro ?_ ?_ | (intro hc; try subst hc))) <;> (try clear hK K))
                          | (refine wreg (mos := q36_11) hE [4, 5] (by kernel_rfl) ?_; intro K hK; simp [q36_11, hlen2, hLd, hLr, hLl, hn1, hp, hfv, hcos, hnb, hpp, res62, d61, d62, d34, d39, d59]; (repeat' (first | refine hK _ _ ?_ | refine And.intro ?_ ?_ | (intro hc; try subst hc))) <;> (try clear hK K))
                          | (refine Wm_cond (b := _) (by with_unfolding_all rfl) (fun hc => ?_) (fun hc => ?_) <;> simp at hc <;> (try subst hc)))
                        all_goals first | (simp; done) | (simp at *; omega) | ((try simp[hTS, hCS, hlen2]); refine Imp.auto (by kernel_rfl) ?_ ?_ <;> simp [nmap, lkp, mkPl, prs, prsL, prT, ddL, idL, NLe, CRenL, CRen, Ren, RenL, NObj.none, hTS, hCS, hlen2])
                      · rw [if_neg hlen2] at hr
                        have hlt : L'.length < L.length := by omega
                        have hne2 : ¬ (L'.length : Int) = L.length := by omega
                        simp only [I36b, hfv, hcos, hnb]
                        repeat' with_reducible (first
                          | refine Wm_seq ?_
                          | refine Wm_skip ?_
                          | refine Wm_ret ?_
                          | refine Wm_block ?_
                          | refine Wm_exit ?_
                          | refine thenK_normal ?_
                          | refine thenK_ret ?_
                          | refine thenK_exit ?_
                          | refine blockK_normal ?_
                          | refine blockK_ret ?_
                          | refine blockK_here ?_
                          | refine loopK_ret ?_
                          | refine loopK_exit ?_
                          | refine unK_ret ?_
                          | refine unK_exit ?_
                          | refine unK_normal ?_
                          | refine loopOk_succ ?_
                          | refine blockK_exit (by decide) ?_
                          | (refine wreg (mos := q36_0) hE [0, 1] (by kernel_rfl) ?_; intro K hK; simp [q36_0, hlen2, hne2, hLd, hLr, hLl, hn1, hp, hfv, hcos, hnb, hpp, res62, d61, d62, d34, d39, d59]; (repeat' (first | refine hK _ _ ?_ | refine And.intro ?_ ?_ | (intro hc; try subst hc))) <;> (try clear hK K))
                          | (refine wreg (mos := q36_1) hE [0, 1] (by kernel_rfl) ?_; intro K hK; simp [q36_1, hlen2, hne2, hLd, hLr, hLl, hn1, hp, hfv, hcos, hnb, hpp, res62, d61, d62, d34, d39, d59]; (repeat' (first | refine hK _ _ ?_ | refine And.intro ?_ ?_ | (intro hc; try subst hc))) <;> (try clear hK K))
                          | (refine wreg (mos := q36_2) hE [0, 1, 17] (by kernel_rfl) ?_; intro K hK; simp [q36_2, hlen2, hne2, hLd, hLr, hLl, hn1, hp, hfv, hcos, hnb, hpp, res62, d61, d62, d34, d39, d59]; (repeat' (first | refine hK _ _ ?_ | refine And.intro ?_ ?_ | (intro hc; try subst hc))) <;> (try clear hK K))
                          | (refine wreg (mos := q36_3) hE [4, 5] (by kernel_rfl) ?_; intro K hK; simp [q36_3, hlen2, hne2, hLd, hLr, hLl, hn1, hp, hfv, hcos, hnb, hpp, res62, d61, d62, d34, d39, d59]; (repeat' (first | refine hK _ _ ?_ | refine And.intro ?_ ?_ | (intro hc; try subst hc))) <;> (try clear hK K))
                          | (refine wreg (mos := q36_4) hE [0, 1, 6] (by kernel_rfl) ?_; intro K hK; simp [q36_4, hlen2, hne2, hLd, hLr, hLl, hn1, hp, hfv, hcos, hnb, hpp, res62, d61, d62, d34, d39, d59]; (repeat' (first | refine hK _ _ ?_ | refine And.intro ?_ ?_ | (intro hc; try subst hc))) <;> (try clear hK K))
                          | (refine wreg (mos := q36_5) hE [0, 1, 6, 23] (by kernel_rfl) ?_; intro K hK; simp [q36_5, hlen2, hne2, hLd, hLr, hLl, hn1, hp, hfv, hcos, hnb, hpp, res62, d61, d62, d34, d39, d59]; (repeat' (first | refine hK _ _ ?_ | refine And.intro ?_ ?_ | (intro hc; try subst hc))) <;> (try clear hK K))
                          | (refine wreg (mos := q36_6) hE [0, 1, 6] (by kernel_rfl) ?_; intro K hK; simp [q36_6, hlen2, hne2, hLd, hLr, hLl, hn1, hp, hfv, hcos, hnb, hpp, res62, d61, d62, d34, d39, d59]; (repeat' (first | refine hK _ _ ?_ | refine And.intro ?_ ?_ | (intro hc; try subst hc))) <;> (try clear hK K))
                          | (refine wreg (mos := q36_7) hE [0, 1, 6] (by kernel_rfl) ?_; intro K hK; simp [q36_7, hlen2, hne2, hLd, hLr, hLl, hn1, hp, hfv, hcos, hnb, hpp, res62, d61, d62, d34, d39, d59]; (repeat' (first | refine hK _ _ ?_ | refine And.intro ?_ ?_ | (intro hc; try subst hc))) <;> (try clear hK K))
                          | (refine wreg (mos := q36_8) hE [0, 1, 7] (by kernel_rfl) ?_; intro K hK; simp [q36_8, hlen2, hne2, hLd, hLr, hLl, hn1, hp, hfv, hcos, hnb, hpp, res62, d61, d62, d34, d39, d59]; (repeat' (first | refine hK _ _ ?_ | refine And.intro ?_ ?_ | (intro hc; try subst hc))) <;> (try clear hK K))
                          | (refine wreg (mos := q36_9) hE [0, 1, 7] (by kernel_rfl) ?_; intro K hK; simp [q36_9, hlen2, hne2, hLd, hLr, hLl, hn1, hp, hfv, hcos, hnb, hpp, res62, d61, d62, d34, d39, d59]; (repeat' (first | refine hK _ _ ?_ | refine And.intro ?_ ?_ | (intro hc; try subst hc))) <;> (try clear hK K))
                          | (refine wreg (mos := q36_10) hE [0, 1, 38] (by kernel_rfl) ?_; intro K hK; simp [q36_10, hlen2, hne2, hLd, hLr, hLl, hn1, hp, hfv, hcos, hnb, hpp, res62, d61, d62, d34, d39, d59]; (repeat' (first | refine hK _ _ ?_ | refine And.intro ?_ ?_ | (intro hc; try subst hc))) <;> (try clear hK K))
                          | (refine wreg (mos := q36_11) hE [4, 5] (by kernel_rfl) ?_; intro K hK; simp [q36_11, hlen2, hne2, hLd, hLr, hLl, hn1, hp, hfv, hcos, hnb, hpp, res62, d61, d62, d34, d39, d59]; (repeat' (first | refine hK _ _ ?_ | refine And.intro ?_ ?_ | (intro hc; try subst hc))) <;> (try clear hK K))
                          | (refine Wm_cond (b := _) (by with_unfolding_all rfl) (fun hc => ?_) (fun hc => ?_) <;> simp at hc <;> (try subst hc)))
                        all_goals refine ⟨(L', f), ⟨hLr', by show L'.length ≤ els.length; omega, by show L'.length < f; omega, hr⟩, Nat.lt_succ_self f, ?_⟩
                        all_goals simp only [I36b, hfv, hcos, hnb]
                        all_goals rw [hS]
                        all_goals (refine Imp.auto (by kernel_rfl) ?_ ?_ <;> simp [nmap, lkp, mkPl, prs, prsL, prT, ddL, idL, NLe, CRenL, CRen, Ren, RenL, NObj.none, hT2, hC2])
          · rw [if_neg hpe]
            have hpe' : p els = false := by simpa using hpe
            unfold m36
            repeat' with_reducible (first
              | refine Wm_seq ?_
              | refine Wm_skip ?_
              | refine Wm_ret ?_
              | refine Wm_block ?_
              | refine Wm_exit ?_
              | refine thenK_normal ?_
              | refine thenK_ret ?_
              | refine thenK_exit ?_
              | refine blockK_normal ?_
              | refine blockK_ret ?_
              | refine blockK_here ?_
              | refine loopK_ret ?_
              | refine loopK_exit ?_
              | refine unK_ret ?_
              | refine unK_exit ?_
              | refine unK_normal ?_
              | refine loopOk_succ ?_
              | refine blockK_exit (by decide) ?_
              | (refine wreg (mos := q36_0) hE [0, 1] (by kernel_rfl) ?_; intro K hK; simp [q36_0, hpe', hfv, hcos, hnb, hdat, hrows, hlen, hpx, d61, d62, d34, d39, d59]; (repeat' (first | refine hK _ _ ?_ | refine And.intro ?_ ?_ | (intro hc; try subst hc))) <;> (try clear hK K))
              | (refine wreg (mos := q36_1) hE [0, 1] (by kernel_rfl) ?_; intro K hK; simp [q36_1, hpe', hfv, hcos, hnb, hdat, hrows, hlen, hpx, d61, d62, d34, d39, d59]; (repeat' (first | refine hK _ _ ?_ | refine And.intro ?_ ?_ | (intro hc; try subst hc))) <;> (try clear hK K))
              | (refine wreg (mos := q36_2) hE [0, 1, 17] (by kernel_rfl) ?_; intro K hK; simp [q36_2, hpe', hfv, hcos, hnb, hdat, hrows, hlen, hpx, d61, d62, d34, d39, d59]; (repeat' (first | refine hK _ _ ?_ | refine And.intro ?_ ?_ | (intro hc; try subst hc))) <;> (try clear hK K))
              | (refine wreg (mos := q36_3) hE [4, 5] (by kernel_rfl) ?_; intro K hK; simp [q36_3, hpe', hfv, hcos, hnb, hdat, hrows, hlen, hpx, d61, d62, d34, d39, d59]; (repeat' (first | refine hK _ _ ?_ | refine And.intro ?_ ?_ | (intro hc; try subst hc))) <;> (try clear hK K))
              | (refine wreg (mos := q36_4) hE [0, 1, 6] (by kernel_rfl) ?_; intro K hK; simp [q36_4, hpe', hfv, hcos, hnb, hdat, hrows, hlen, hpx, d61, d62, d34, d39, d59]; (repeat' (first | refine hK _ _ ?_ | refine And.intro ?_ ?_ | (intro hc; try subst hc))) <;> (try clear hK K))
              | (refine wreg (mos := q36_5) hE [0, 1, 6, 23] (by kernel_rfl) ?_; intro K hK; simp [q36_5, hpe', hfv, hcos, hnb, hdat, hrows, hlen, hpx, d61, d62, d34, d39, d59]; (repeat' (first | refine hK _ _ ?_ | refine And.intro ?_ ?_ | (intro hc; try subst hc))) <;> (try clear hK K))
              | (refine wreg (mos := q36_6) hE [0, 1, 6] (by kernel_rfl) ?_; intro K hK; simp [q36_6, hpe', hfv, hcos, hnb, hdat, hrows, hlen, hpx, d61, d62, d34, d39, d59]; (repeat' (first | refine hK _ _ ?_ | refine And.intro ?_ ?_ | (intro hc; try subst hc))) <;> (try clear hK K))
              | (refine wreg (mos := q36_7) hE [0, 1, 6] (by kernel_rfl) ?_; intro K hK; simp [q36_7, hpe', hfv, hcos, hnb, hdat, hrows, hlen, hpx, d61, d62, d34, d39, d59]; (repeat' (first | refine hK _ _ ?_ | refine And.intro ?_ ?_ | (intro hc; try subst hc))) <;> (try clear hK K))
              | (refine wreg (mos := q36_8) hE [0, 1, 7] (by kernel_rfl) ?_; intro K hK; simp [q36_8, hpe', hfv, hcos, hnb, hdat, hrows, hlen, hpx, d61, d62, d34, d39, d59]; (repeat' (first | refine hK _ _ ?_ | refine And.intro ?_ ?_ | (intro hc; try subst hc))) <;> (try clear hK K))
              | (refine wreg (mos := q36_9) hE [0, 1, 7] (by kernel_rfl) ?_; intro K hK; simp [q36_9, hpe', hfv, hcos, hnb, hdat, hrows, hlen, hpx, d61, d62, d34, d39, d59]; (repeat' (first | refine hK _ _ ?_ | refine And.intro ?_ ?_ | (intro hc; try subst hc))) <;> (try clear hK K))
              | (refine wreg (mos := q36_10) hE [0, 1, 38] (by kernel_rfl) ?_; intro K hK; simp [q36_10, hpe', hfv, hcos, hnb, hdat, hrows, hlen, hpx, d61, d62, d34, d39, d59]; (repeat' (first | refine hK _ _ ?_ | refine And.intro ?_ ?_ | (intro hc; try subst hc))) <;> (try clear hK K))
              | (refine wreg (mos := q36_11) hE [4, 5] (by kernel_rfl) ?_; intro K hK; simp [q36_11, hpe', hfv, hcos, hnb, hdat, hrows, hlen, hpx, d61, d62, d34, d39, d59]; (repeat' (first | refine hK _ _ ?_ | refine And.intro ?_ ?_ | (intro hc; try subst hc))) <;> (try clear hK K))
              | (refine Wm_cond (b := _) (by with_unfolding_all rfl) (fun hc => ?_) (fun hc => ?_) <;> simp at hc <;> (try subst hc)))
            all_goals first | (simp; done) | (simp at *; omega) | ((try simp); refine Imp.auto (by kernel_rfl) ?_ ?_ <;> simp [nmap, lkp, mkPl, prs, prsL, prT, ddL, idL, NLe, CRenL, CRen, Ren, RenL, NObj.none])
        · by_cases hpe : p els = true
          · rw [if_pos hpe]
            unfold m36
            repeat' with_reducible (first
              | refine Wm_seq ?_
              | refine Wm_skip ?_
              | refine Wm_ret ?_
              | refine Wm_block ?_
              | refine Wm_exit ?_
              | refine thenK_normal ?_
              | refine thenK_ret ?_
              | refine thenK_exit ?_
              | refine blockK_normal ?_
              | refine blockK_ret ?_
              | refine blockK_here ?_
              | refine loopK_ret ?_
              | refine loopK_exit ?_
              | refine unK_ret ?_
              | refine unK_exit ?_
              | refine unK_normal ?_
              | refine loopOk_succ ?_
              | refine blockK_exit (by decide) ?_
              | (refine wreg (mos := q36_0) hE [0, 1] (by kernel_rfl) ?_; intro K hK; simp [q36_0, hpe, hfv, hcos, hnb, hdat, hrows, hlen, hpx, d61, d62, d34, d39, d59]; (repeat' (first | refine hK _ _ ?_ | refine And.intro ?_ ?_ | (intro hc; try subst hc))) <;> (try clear hK K))
              | (refine wreg (mos := q36_1) hE [0, 1] (by kernel_rfl) ?_; intro K hK; simp [q36_1, hpe, hfv, hcos, hnb, hdat, hrows, hlen, hpx, d61, d62, d34, d39, d59]; (repeat' (first | refine hK _ _ ?_ | refine And.intro ?_ ?_ | (intro hc; try subst hc))) <;> (try clear hK K))
              | (refine wreg (mos := q36_2) hE [0, 1, 17] (by kernel_rfl) ?_; intro K hK; simp [q36_2, hpe, hfv, hcos, hnb, hdat, hrows, hlen, hpx, d61, d62, d34, d39, d59]; (repeat' (first | refine hK _ _ ?_ | refine And.intro ?_ ?_ | (intro hc; try subst hc))) <;> (try clear hK K))
              | (refine wreg (mos := q36_3) hE [4, 5] (by kernel_rfl) ?_; intro K hK; simp [q36_3, hpe, hfv, hcos, hnb, hdat, hrows, hlen, hpx, d61, d62, d34, d39, d59]; (repeat' (first | refine hK _ _ ?_ | refine And.intro ?_ ?_ | (intro hc; try subst hc))) <;> (try clear hK K))
              | (refine wreg (mos := q36_4) hE [0, 1, 6] (by kernel_rfl) ?_; intro K hK; simp [q36_4, hpe, hfv, hcos, hnb, hdat, hrows, hlen, hpx, d61, d62, d34, d39, d59]; (repeat' (first | refine hK _ _ ?_ | refine And.intro ?_ ?_ | (intro hc; try subst hc))) <;> (try clear hK K))
              | (refine wreg (mos := q36_5) hE [0, 1, 6, 23] (by kernel_rfl) ?_; intro K hK; simp [q36_5, hpe, hfv, hcos, hnb, hdat, hrows, hlen, hpx, d61, d62, d34, d39, d59]; (repeat' (first | refine hK _ _ ?_ | refine And.intro ?_ ?_ | (intro hc; try subst hc))) <;> (try clear hK K))
              | (refine wreg (mos := q36_6) hE [0, 1, 6] (by kernel_rfl) ?_; intro K hK; simp [q36_6, hpe, hfv, hcos, hnb, hdat, hrows, hlen, hpx, d61, d62, d34, d39, d59]; (repeat' (first | refine hK _ _ ?_ | refine And.intro ?_ ?_ | (intro hc; try subst hc))) <;> (try clear hK K))
              | (refine wreg (mos := q36_7) hE [0, 1, 6] (by kernel_rfl) ?_; intro K hK; simp [q36_7, hpe, hfv, hcos, hnb, hdat, hrows, hlen, hpx, d61, d62, d34, d39, d59]; (repeat' (first | refine hK _ _ ?_ | refine And.intro ?_ ?_ | (intro hc; try subst hc))) <;> (try clear hK K))
              | (refine wreg (mos := q36_8) hE [0, 1, 7] (by kernel_rfl) ?_; intro K hK; simp [q36_8, hpe, hfv, hcos, hnb, hdat, hrows, hlen, hpx, d61, d62, d34, d39, d59]; (repeat' (first | refine hK _ _ ?_ | refine And.intro ?_ ?_ | (intro hc; try subst hc))) <;> (try clear hK K))
              | (refine wreg (mos := q36_9) hE [0, 1, 7] (by kernel_rfl) ?_; intro K hK; simp [q36_9, hpe, hfv, hcos, hnb, hdat, hrows, hlen, hpx, d61, d62, d34, d39, d59]; (repeat' (first | refine hK _ _ ?_ | refine And.intro ?_ ?_ | (intro hc; try subst hc))) <;> (try clear hK K))
              | (refine wreg (mos := q36_10) hE [0, 1, 38] (by kernel_rfl) ?_; intro K hK; simp [q36_10, hpe, hfv, hcos, hnb, hdat, hrows, hlen, hpx, d61, d62, d34, d39, d59]; (repeat' (first | refine hK _ _ ?_ | refine And.intro ?_ ?_ | (intro hc; try subst hc))) <;> (try clear hK K))
              | (refine wreg (mos := q36_11) hE [4, 5] (by kernel_rfl) ?_; intro K hK; simp [q36_11, hpe, hfv, hcos, hnb, hdat, hrows, hlen, hpx, d61, d62, d34, d39, d59]; (repeat' (first | refine hK _ _ ?_ | refine And.intro ?_ ?_ | (intro hc; try subst hc))) <;> (try clear hK K))
              | (refine Wm_cond (b := _) (by with_unfolding_all rfl) (fun hc => ?_) (fun hc => ?_) <;> simp at hc <;> (try subst hc)))
            all_goals (refine Wm_loop (I36a fv cosl nb) (fun x => x.1.all row12 = true ∧ x.1.length ≤ els.length ∧ 1 ≤ x.2.1 ∧ x.2.1 ≤ 200000 ∧ x.2.1 ≤ x.2.2 ∧ halvZ p x.2.2 x.2.1 x.1 = Hh) (fun x => x.2.2) (els, max (els.length / 2) 1, els.length + 1) ⟨hrows, Nat.le_refl _, Nat.le_max_right _ _, by show max (els.length / 2) 1 ≤ 200000; omega, by show max (els.length / 2) 1 ≤ els.length + 1; omega, hHh⟩ ?_ ?_)
            · simp only [I36a, hfv, hcos, hnb]
              rw [hS]
              refine Imp.auto (by kernel_rfl) ?_ ?_ <;> simp [nmap, lkp, mkPl, prs, prsL, prT, ddL, idL, NLe, CRenL, CRen, Ren, RenL, NObj.none, hT0, hCl]
              all_goals (have wq : IntKind.wrap .i64 ((els.length : Int) / 2) = (els.length : Int) / 2 := wrap_in (by omega) (by omega))
              all_goals rw [wq]
              all_goals (try split)
              all_goals omega
            · intro ⟨L, n, f⟩ ⟨hLr, hL0, hn0, hn2, hn4, hr⟩
              replace hLr : L.all row12 = true := hLr
              replace hL0 : L.length ≤ els.length := hL0
              replace hn0 : 1 ≤ n := hn0
              replace hn2 : n ≤ 200000 := hn2
              replace hn4 : n ≤ f := hn4
              replace hr : halvZ p f n L = Hh := hr
              obtain ⟨f, rfl⟩ : ∃ f', f = f' + 1 := ⟨f - 1, by omega⟩
              simp only [halvZ] at hr
              have hT1 := rows_t0 hLr
              have hC1 := rows_cl hLr
              by_cases hgt : 1 < n
              · rw [if_pos hgt] at hr
                have hn1 : (1 : Int) < (n : Int) := by omega
                have hn3 : (n : Int) ≤ 200000 := by omega
                have hn5 : (1 : Int) ≤ (n : Int) := by omega
                have hn6 : 1 ≤ n := hn0
                have hLl : L.length ≤ 200000 := by omega
                have hLd := rows_dat hLr
                have wq : IntKind.wrap .i64 ((n : Int) / 2) = (n : Int) / 2 := wrap_in (by omega) (by omega)
                cases hpp : pass1 p n L with
                | mk c L' =>
                  have hLr' : L'.all row12 = true := by have := pass1_rows (p := p) (n := n) hLr; rw [hpp] at this; exact this
                  have hLl' : L'.length ≤ L.length := by have := (pass1_sub (p := p) n L).length_le; rw [hpp] at this; exact this
                  have hT2 := rows_t0 hLr'
                  have hC2 := rows_cl hLr'
                  have hLd' := rows_dat hLr'
                  cases c
                  · have e : L' = L := by have := (passZ_false (p := p) n (L.length + 1) false L 0 (by show (pass1 p n L).1 = false; rw [hpp])).2; rw [show passZ p n (L.length + 1) false L 0 = pass1 p n L from rfl, hpp] at this; exact this
                    subst e
                    simp only [hpp] at hr
                    simp only [I36a, hfv, hcos, hnb]
                    repeat' with_reducible (first
                      | refine Wm_seq ?_
                      | refine Wm_skip ?_
                      | refine Wm_ret ?_
                      | refine Wm_block ?_
                      | refine Wm_exit ?_
                      | refine thenK_normal ?_
                      | refine thenK_ret ?_
                      | refine thenK_exit ?_
                      | refine blockK_normal ?_
                      | refine blockK_ret ?_
                      | refine blockK_here ?_
                      | refine loopK_ret ?_
                      | refine loopK_exit ?_
                      | refine unK_ret ?_
                      | refine unK_exit ?_
                      | refine unK_normal ?_
                      | refine loopOk_succ ?_
                      | refine blockK_exit (by decide) ?_
                      | (refine wreg (mos := q36_0) hE [0, 1] (by kernel_rfl) ?_; intro K hK; simp [q36_0, hgt, hn5, hn6, hLd, hLr, hLl, hn1, hn2, hn3, hp, hfv, hcos, hnb, hpp, res62, wq, d61, d62, d34, d39, d59]; (repeat' (first | refine hK _ _ ?_ | refine And.intro ?_ ?_ | (intro hc; try subst hc))) <;> (try clear hK K))
                      | (refine wreg (mos := q36_1) hE [0, 1] (by kernel_rfl) ?_; intro K hK; simp [q36_1, hgt, hn5, hn6, hLd, hLr, hLl, hn1, hn2, hn3, hp, hfv, hcos, hnb, hpp, res62, wq, d61, d62, d34, d39, d59]; (repeat' (first | refine hK _ _ ?_ | refine And.intro ?_ ?_ | (intro hc; try subst hc))) <;> (try clear hK K))
                      | (refine wreg (mos := q36_2) hE [0, 1, 17] (by kernel_rfl) ?_; intro K hK; simp [q36_2, hgt, hn5, hn6, hLd, hLr, hLl, hn1, hn2, hn3, hp, hfv, hcos, hnb, hpp, res62, wq, d61, d62, d34, d39, d59]; (repeat' (first | refine hK _ _ ?_ | refine And.intro ?_ ?_ | (intro hc; try subst hc))) <;> (try clear hK K))
                      | (refine wreg (mos := q36_3) hE [4, 5] (by kernel_rfl) ?_; intro K hK; simp [q36_3, hgt, hn5, hn6, hLd, hLr, hLl, hn1, hn2, hn3, hp, hfv, hcos, hnb, hpp, res62, wq, d61, d62, d34, d39, d59]; (repeat' (first | refine hK _ _ ?_ | refine And.intro ?_ ?_ | (intro hc; try subst hc))) <;> (try clear hK K))
                      | (refine wreg (mos := q36_4) hE [0, 1, 6] (by kernel_rfl) ?_; intro K hK; simp [q36_4, hgt, hn5, hn6, hLd, hLr, hLl, hn1, hn2, hn3, hp, hfv, hcos, hnb, hpp, res62, wq, d61, d62, d34, d39, d59]; (repeat' (first | refine hK _ _ ?_ | refine And.intro ?_ ?_ | (intro hc; try subst hc))) <;> (try clear hK K))
                      | (refine wreg (mos := q36_5) hE [0, 1, 6, 23] (by kernel_rfl) ?_; intro K hK; simp [q36_5, hgt, hn5, hn6, hLd, hLr, hLl, hn1, hn2, hn3, hp, hfv, hcos, hnb, hpp, res62, wq, d61, d62, d34, d39, d59]; (repeat' (first | refine hK _ _ ?_ | refine And.intro ?_ ?_ | (intro hc; try subst hc))) <;> (try clear hK K))
                      | (refine wreg (mos := q36_6) hE [0, 1, 6] (by kernel_rfl) ?_; intro K hK; simp [q36_6, hgt, hn5, hn6, hLd, hLr, hLl, hn1, hn2, hn3, hp, hfv, hcos, hnb, hpp, res62, wq, d61, d62, d34, d39, d59]; (repeat' (first | refine hK _ _ ?_ | refine And.intro ?_ ?_ | (intro hc; try subst hc))) <;> (try clear hK K))
                      | (refine wreg (mos := q36_7) hE [0, 1, 6] (by kernel_rfl) ?_; intro K hK; simp [q36_7, hgt, hn5, hn6, hLd, hLr, hLl, hn1, hn2, hn3, hp, hfv, hcos, hnb, hpp, res62, wq, d61, d62, d34, d39, d59]; (repeat' (first | refine hK _ _ ?_ | refine And.intro ?_ ?_ | (intro hc; try subst hc))) <;> (try clear hK K))
                      | (refine wreg (mos := q36_8) hE [0, 1, 7] (by kernel_rfl) ?_; intro K hK; simp [q36_8, hgt, hn5, hn6, hLd, hLr, hLl, hn1, hn2, hn3, hp, hfv, hcos, hnb, hpp, res62, wq, d61, d62, d34, d39, d59]; (repeat' (first | refine hK _ _ ?_ | refine And.intro ?_ ?_ | (intro hc; try subst hc))) <;> (try clear hK K))
                      | (refine wreg (mos := q36_9) hE [0, 1, 7] (by kernel_rfl) ?_; intro K hK; simp [q36_9, hgt, hn5, hn6, hLd, hLr, hLl, hn1, hn2, hn3, hp, hfv, hcos, hnb, hpp, res62, wq, d61, d62, d34, d39, d59]; (repeat' (first | refine hK _ _ ?_ | refine And.intro ?_ ?_ | (intro hc; try subst hc))) <;> (try clear hK K))
                      | (refine wreg (mos := q36_10) hE [0, 1, 38] (by kernel_rfl) ?_; intro K hK; simp [q36_10, hgt, hn5, hn6, hLd, hLr, hLl, hn1, hn2, hn3, hp, hfv, hcos, hnb, hpp, res62, wq, d61, d62, d34, d39, d59]; (repeat' (first | refine hK _ _ ?_ | refine And.intro ?_ ?_ | (intro hc; try subst hc))) <;> (try clear hK K))
                      | (refine wreg (mos := q36_11) hE [4, 5] (by kernel_rfl) ?_; intro K hK; simp [q36_11, hgt, hn5, hn6, hLd, hLr, hLl, hn1, hn2, hn3, hp, hfv, hcos, hnb, hpp, res62, wq, d61, d62, d34, d39, d59]; (repeat' (first | refine hK _ _ ?_ | refine And.intro ?_ ?_ | (intro hc; try subst hc))) <;> (try clear hK K))
                      | (refine Wm_cond (b := _) (by with_unfolding_all rfl) (fun hc => ?_) (fun hc => ?_) <;> simp at hc <;> (try subst hc)))
                    all_goals refine ⟨(L', n / 2, f), ⟨hLr', by show L'.length ≤ els.length; omega, by show 1 ≤ n / 2; omega, by show n / 2 ≤ 200000; omega, by show n / 2 ≤ f; omega, hr⟩, Nat.lt_succ_self f, ?_⟩
                    all_goals simp only [I36a, hfv, hcos, hnb]
                    all_goals rw [hS]
                    all_goals (refine Imp.auto (by kernel_rfl) ?_ ?_ <;> simp [nmap, lkp, mkPl, prs, prsL, prT, ddL, idL, NLe, CRenL, CRen, Ren, RenL, NObj.none, hT2, hC2])
                  · skip
                    simp only [hpp] at hr
                    simp only [I36a, hfv, hcos, hnb]
                    repeat' with_reducible (first
                      | refine Wm_seq ?_
                      | refine Wm_skip ?_
                      | refine Wm_ret ?_
                      | refine Wm_block ?_
                      | refine Wm_exit ?_
                      | refine thenK_normal ?_
                      | refine thenK_ret ?_
                      | refine thenK_exit ?_
                      | refine blockK_normal ?_
                      | refine blockK_ret ?_
                      | refine blockK_here ?_
                      | refine loopK_ret ?_
                      | refine loopK_exit ?_
                      | refine unK_ret ?_
                      | refine unK_exit ?_
                      | refine unK_normal ?_
                      | refine loopOk_succ ?_
                      | refine blockK_exit (by decide) ?_
                      | (refine wreg (mos := q36_0) hE [0, 1] (by kernel_rfl) ?_; intro K hK; simp [q36_0, hgt, hn5, hn6, hLd, hLr, hLl, hn1, hn2, hn3, hp, hfv, hcos, hnb, hpp, res62, wq, d61, d62, d34, d39, d59]; (repeat' (first | refine hK _ _ ?_ | refine And.intro ?_ ?_ | (intro hc; try subst hc))) <;> (try clear hK K))
                      | (refine wreg (mos := q36_1) hE [0, 1] (by kernel_rfl) ?_; intro K hK; simp [q36_1, hgt, hn5, hn6, hLd, hLr, hLl, hn1, hn2, hn3, hp, hfv, hcos, hnb, hpp, res62, wq, d61, d62, d34, d39, d59]; (repeat' (first | refine hK _ _ ?_ | refine And.intro ?_ ?_ | (intro hc; try subst hc))) <;> (try clear hK K))
                      | (refine wreg (mos := q36_2) hE [0, 1, 17] (by kernel_rfl) ?_; intro K hK; simp [q36_2, hgt, hn5, hn6, hLd, hLr, hLl, hn1, hn2, hn3, hp, hfv, hcos, hnb, hpp, res62, wq, d61, d62, d34, d39, d59]; (repeat' (first | refine hK _ _ ?_ | refine And.intro ?_ ?_ | (intro hc; try subst hc))) <;> (try clear hK K))
                      | (refine wreg (mos := q36_3) hE [4, 5] (by kernel_rfl) ?_; intro K hK; simp [q36_3, hgt, hn5, hn6, hLd, hLr, hLl, hn1, hn2, hn3, hp, hfv, hcos, hnb, hpp, res62, wq, d61, d62, d34, d39, d59]; (repeat' (first | refine hK _ _ ?_ | refine And.intro ?_ ?_ | (intro hc; try subst hc))) <;> (try clear hK K))
                      | (refine wreg (mos := q36_4) hE [0, 1, 6] (by kernel_rfl) ?_; intro K hK; simp [q36_4, hgt, hn5, hn6, hLd, hLr, hLl, hn1, hn2, hn3, hp, hfv, hcos, hnb, hpp, res62, wq, d61, d62, d34, d39, d59]; (repeat' (first | refine hK _ _ ?_ | refine And.intro ?_ ?_ | (intro hc; try subst hc))) <;> (try clear hK K))
                      | (refine wreg (mos := q36_5) hE [0, 1, 6, 23] (by kernel_rfl) ?_; intro K hK; simp [q36_5, hgt, hn5, hn6, hLd, hLr, hLl, hn1, hn2, hn3, hp, hfv, hcos, hnb, hpp, res62, wq, d61, d62, d34, d39, d59]; (repeat' (first | refine hK _ _ ?_ | refine And.intro ?_ ?_ | (intro hc; try subst hc))) <;> (try clear hK K))
                      | (refine wreg (mos := q36_6) hE [0, 1, 6] (by kernel_rfl) ?_; intro K hK; simp [q36_6, hgt, hn5, hn6, hLd, hLr, hLl, hn1, hn2, hn3, hp, hfv, hcos, hnb, hpp, res62, wq, d61, d62, d34, d39, d59]; (repeat' (first | refine hK _ _ ?_ | refine And.intro ?_ ?_ | (intro hc; try subst hc))) <;> (try clear hK K))
                      | (refine wreg (mos := q36_7) hE [0, 1, 6] (by kernel_rfl) ?_; intro K hK; simp [q36_7, hgt, hn5, hn6, hLd, hLr, hLl, hn1, hn2, hn3, hp, hfv, hcos, hnb, hpp, res62, wq, d61, d62, d34, d39, d59]; (repeat' (first | refine hK _ _ ?_ | refine And.intro ?_ ?_ | (intro hc; try subst hc))) <;> (try clear hK K))
                      | (refine wreg (mos := q36_8) hE [0, 1, 7] (by kernel_rfl) ?_; intro K hK; simp [q36_8, hgt, hn5, hn6, hLd, hLr, hLl, hn1, hn2, hn3, hp, hfv, hcos, hnb, hpp, res62, wq, d61, d62, d34, d39, d59]; (repeat' (first | refine hK _ _ ?_ | refine And.intro ?_ ?_ | (intro hc; try subst hc))) <;> (try clear hK K))
                      | (refine wreg (mos := q36_9) hE [0, 1, 7] (by kernel_rfl) ?_; intro K hK; simp [q36_9, hgt, hn5, hn6, hLd, hLr, hLl, hn1, hn2, hn3, hp, hfv, hcos, hnb, hpp, res62, wq, d61, d62, d34, d39, d59]; (repeat' (first | refine hK _ _ ?_ | refine And.intro ?_ ?_ | (intro hc; try subst hc))) <;> (try clear hK K))
                      | (refine wreg (mos := q36_10) hE [0, 1, 38] (by kernel_rfl) ?_; intro K hK; simp [q36_10, hgt, hn5, hn6, hLd, hLr, hLl, hn1, hn2, hn3, hp, hfv, hcos, hnb, hpp, res62, wq, d61, d62, d34, d39, d59]; (repeat' (first | refine hK _ _ ?_ | refine And.intro ?_ ?_ | (intro hc; try subst hc))) <;> (try clear hK K))
                      | (refine wreg (mos := q36_11) hE [4, 5] (by kernel_rfl) ?_; intro K hK; simp [q36_11, hgt, hn5, hn6, hLd, hLr, hLl, hn1, hn2, hn3, hp, hfv, hcos, hnb, hpp, res62, wq, d61, d62, d34, d39, d59]; (repeat' (first | refine hK _ _ ?_ | refine And.intro ?_ ?_ | (intro hc; try subst hc))) <;> (try clear hK K))
                      | (refine Wm_cond (b := _) (by with_unfolding_all rfl) (fun hc => ?_) (fun hc => ?_) <;> simp at hc <;> (try subst hc)))
                    all_goals refine ⟨(L', n / 2, f), ⟨hLr', by show L'.length ≤ els.length; omega, by show 1 ≤ n / 2; omega, by show n / 2 ≤ 200000; omega, by show n / 2 ≤ f; omega, hr⟩, Nat.lt_succ_self f, ?_⟩
                    all_goals simp only [I36a, hfv, hcos, hnb]
                    all_goals rw [hS]
                    all_goals (refine Imp.auto (by kernel_rfl) ?_ ?_ <;> simp [nmap, lkp, mkPl, prs, prsL, prT, ddL, idL, NLe, CRenL, CRen, Ren, RenL, NObj.none, hT2, hC2])
              · rw [if_neg hgt] at hr
                have hn1 : ¬ (1 : Int) < (n : Int) := by omega
                subst hr
                simp only [I36a, hfv, hcos, hnb]
                repeat' with_reducible (first
                  | refine Wm_seq ?_
                  | refine Wm_skip ?_
                  | refine Wm_ret ?_
                  | refine Wm_block ?_
                  | refine Wm_exit ?_
                  | refine thenK_normal ?_
                  | refine thenK_ret ?_
                  | refine thenK_exit ?_
                  | refine blockK_normal ?_
                  | refine blockK_ret ?_
                  | refine blockK_here ?_
                  | refine loopK_ret ?_
                  | refine loopK_exit ?_
                  | refine unK_ret ?_
                  | refine unK_exit ?_
                  | refine unK_normal ?_
                  | refine loopOk_succ ?_
                  | refine blockK_exit (by decide) ?_
                  | (refine wreg (mos := q36_0) hE [0, 1] (by kernel_rfl) ?_; intro K hK; simp [q36_0, hgt, hn1, hfv, hcos, hnb, d61, d62, d34, d39, d59]; (repeat' (first | refine hK _ _ ?_ | refine And.intro ?_ ?_ | (intro hc; try subst hc))) <;> (try clear hK K))
                  | (refine wreg (mos := q36_1) hE [0, 1] (by kernel_rfl) ?_; intro K hK; simp [q36_1, hgt, hn1, hfv, hcos, hnb, d61, d62, d34, d39, d59]; (repeat' (first | refine hK _ _ ?_ | refine And.intro ?_ ?_ | (intro hc; try subst hc))) <;> (try clear hK K))
                  | (refine wreg (mos := q36_2) hE [0, 1, 17] (by kernel_rfl) ?_; intro K hK; simp [q36_2, hgt, hn1, hfv, hcos, hnb, d61, d62, d34, d39, d59]; (repeat' (first | refine hK _ _ ?_ | refine And.intro ?_ ?_ | (intro hc; try subst hc))) <;> (try clear hK K))
                  | (refine wreg (mos := q36_3) hE [4, 5] (by kernel_rfl) ?_; intro K hK; simp [q36_3, hgt, hn1, hfv, hcos, hnb, d61, d62, d34, d39, d59]; (repeat' (first | refine hK _ _ ?_ | refine And.intro ?_ ?_ | (intro hc; try subst hc))) <;> (try clear hK K))
                  | (refine wreg (mos := q36_4) hE [0, 1, 6] (by kernel_rfl) ?_; intro K hK; simp [q36_4, hgt, hn1, hfv, hcos, hnb, d61, d62, d34, d39, d59]; (repeat' (first | refine hK _ _ ?_ | refine And.intro ?_ ?_ | (intro hc; try subst hc))) <;> (try clear hK K))
                  | (refine wreg (mos := q36_5) hE [0, 1, 6, 23] (by kernel_rfl) ?_; intro K hK; simp [q36_5, hgt, hn1, hfv, hcos, hnb, d61, d62, d34, d39, d59]; (repeat' (first | refine hK _ _ ?_ | refine And.intro ?_ ?_ | (intro hc; try subst hc))) <;> (try clear hK K))
                  | (refine wreg (mos := q36_6) hE [0, 1, 6] (by kernel_rfl) ?_; intro K hK; simp [q36_6, hgt, hn1, hfv, hcos, hnb, d61, d62, d34, d39, d59]; (repeat' (first | refine hK _ _ ?_ | refine And.intro ?_ ?_ | (intro hc; try subst hc))) <;> (try clear hK K))
                  | (refine wreg (mos := q36_7) hE [0, 1, 6] (by kernel_rfl) ?_; intro K hK; simp [q36_7, hgt, hn1, hfv, hcos, hnb, d61, d62, d34, d39, d59]; (repeat' (first | refine hK _ _ ?_ | refine And.intro ?_ ?_ | (intro hc; try subst hc))) <;> (try clear hK K))
                  | (refine wreg (mos := q36_8) hE [0, 1, 7] (by kernel_rfl) ?_; intro K hK; simp [q36_8, hgt, hn1, hfv, hcos, hnb, d61, d62, d34, d39, d59]; (repeat' (first | refine hK _ _ ?_ | refine And.intro ?_ ?_ | (intro hc; try subst hc))) <;> (try clear hK K))
                  | (refine wreg (mos := q36_9) hE [0, 1, 7] (by kernel_rfl) ?_; intro K hK; simp [q36_9, hgt, hn1, hfv, hcos, hnb, d61, d62, d34, d39, d59]; (repeat' (first | refine hK _ _ ?_ | refine And.intro ?_ ?_ | (intro hc; try subst hc))) <;> (try clear hK K))
                  | (refine wreg (mos := q36_10) hE [0, 1, 38] (by kernel_rfl) ?_; intro K hK; simp [q36_10, hgt, hn1, hfv, hcos, hnb, d61, d62, d34, d39, d59]; (repeat' (first | refine hK _ _ ?_ | refine And.intro ?_ ?_ | (intro hc; try subst hc))) <;> (try clear hK K))
                  | (refine wreg (mos := q36_11) hE [4, 5] (by kernel_rfl) ?_; intro K hK; simp [q36_11, hgt, hn1, hfv, hcos, hnb, d61, d62, d34, d39, d59]; (repeat' (first | refine hK _ _ ?_ | refine And.intro ?_ ?_ | (intro hc; try subst hc))) <;> (try clear hK K))
                  | (refine Wm_cond (b := _) (by with_unfolding_all rfl) (fun hc => ?_) (fun hc => ?_) <;> simp at hc <;> (try subst hc)))
                all_goals (refine Wm_loop (I36b fv cosl nb) (fun x => x.1.all row12 = true ∧ x.1.length ≤ els.length ∧ x.1.length < x.2 ∧ settleZ p x.2 x.1 = SS) (fun x => x.2) (L, els.length + 1) ⟨hLr, hL0, by show L.length < els.length + 1; omega, hSS2⟩ ?_ ?_)
                · simp only [I36b, hfv, hcos, hnb]
                  rw [hS]
                  refine Imp.auto (by kernel_rfl) ?_ ?_ <;> simp [nmap, lkp, mkPl, prs, prsL, prT, ddL, idL, NLe, CRenL, CRen, Ren, RenL, NObj.none, hT1, hC1]
                · clear hT1 hC1 hn0 hn2 hn4 hLr hL0 hSS2 hHr
                  intro ⟨L, f⟩ ⟨hLr, hL0, hLf, hr⟩
                  replace hLr : L.all row12 = true := hLr
                  replace hL0 : L.length ≤ els.length := hL0
                  replace hLf : L.length < f := hLf
                  replace hr : settleZ p f L = SS := hr
                  obtain ⟨f, rfl⟩ : ∃ f', f = f' + 1 := ⟨f - 1, by omega⟩
                  simp only [settleZ] at hr
                  have hLl : L.length ≤ 200000 := by omega
                  have hLd := rows_dat hLr
                  have hT1 := rows_t0 hLr
                  have hC1 := rows_cl hLr
                  have hn1 : (1 : Int) ≤ 1 := by omega
                  cases hpp : pass1 p 1 L with
                  | mk c L' =>
                    have hLr' : L'.all row12 = true := by have := pass1_rows (p := p) (n := 1) hLr; rw [hpp] at this; exact this
                    have hLl' : L'.length ≤ L.length := by have := (pass1_sub (p := p) 1 L).length_le; rw [hpp] at this; exact this
                    have hT2 := rows_t0 hLr'
                    have hC2 := rows_cl hLr'
                    have hLd' := rows_dat hLr'
                    cases c
                    · have e : L' = L := by have := (passZ_false (p := p) 1 (L.length + 1) false L 0 (by show (pass1 p 1 L).1 = false; rw [hpp])).2; rw [show passZ p 1 (L.length + 1) false L 0 = pass1 p 1 L from rfl, hpp] at this; exact this
                      subst e
                      simp only [hpp] at hr
                      rw [if_pos trivial] at hr
                      subst hr
                      simp only [I36b, hfv, hcos, hnb]
                      repeat' with_reducible (first
                        | refine Wm_seq ?_
                        | refine Wm_skip ?_
                        | refine Wm_ret ?_
                        | refine Wm_block ?_
                        | refine Wm_exit ?_
                        | refine thenK_normal ?_
                        | refine thenK_ret ?_
                        | refine thenK_exit ?_
                        | refine blockK_normal ?_
                        | refine blockK_ret ?_
                        | refine blockK_here ?_
                        | refine loopK_ret ?_
                        | refine loopK_exit ?_
                        | refine unK_ret ?_
                        | refine unK_exit ?_
                        | refine unK_normal ?_
                        | refine loopOk_succ ?_
                        | refine blockK_exit (by decide) ?_
                        | (refine wreg (mos := q36_0) hE [0, 1] (by kernel_rfl) ?_; intro K hK; simp [q36_0, hLd, hLr, hLl, hn1, hp, hfv, hcos, hnb, hpp, res62, d61, d62, d34, d39, d59]; (repeat' (first | refine hK _ _ ?_ | refine And.intro ?_ ?_ | (intro hc; try subst hc))) <;> (try clear hK K))
                        | (refine wreg (mos := q36_1) hE [0, 1] (by kernel_rfl) ?_; intro K hK; simp [q36_1, hLd, hLr, hLl, hn1, hp, hfv, hcos, hnb, hpp, res62, d61, d62, d34, d39, d59]; (repeat' (first | refine hK _ _ ?_ | refine And.intro ?_ ?_ | (intro hc; try subst hc))) <;> (try clear hK K))
                        | (refine wreg (mos := q36_2) hE [0, 1, 17] (by kernel_rfl) ?_; intro K hK; simp [q36_2, hLd, hLr, hLl, hn1, hp, hfv, hcos, hnb, hpp, res62, d61, d62, d34, d39, d59]; (repeat' (first | refine hK _ _ ?_ | refine And.intro ?_ ?_ | (intro hc; try subst hc))) <;> (try clear hK K))
                        | (refine wreg (mos := q36_3) hE [4, 5] (by kernel_rfl) ?_; intro K hK; simp [q36_3, hLd, hLr, hLl, hn1, hp, hfv, hcos, hnb, hpp, res62, d61, d62, d34, d39, d59]; (repeat' (first | refine hK _ _ ?_ | refine And.intro ?_ ?_ | (intro hc; try subst hc))) <;> (try clear hK K))
                        | (refine wreg (mos := q36_4) hE [0, 1, 6] (by kernel_rfl) ?_; intro K hK; simp [q36_4, hLd, hLr, hLl, hn1, hp, hfv, hcos, hnb, hpp, res62, d61, d62, d34, d39, d59]; (repeat' (first | refine hK _ _ ?_ | refine And.intro ?_ ?_ | (intro hc; try subst hc))) <;> (try clear hK K))
                        | (refine wreg (mos := q36_5) hE [0, 1, 6, 23] (by kernel_rfl) ?_; intro K hK; simp [q36_5, hLd, hLr, hLl, hn1, hp, hfv, hcos, hnb, hpp, res62, d61, d62, d34, d39, d59]; (repeat' (first | refine hK _ _ ?_ | refine And.intro ?_ ?_ | (intro hc; try subst hc))) <;> (try clear hK K))
                        | (refine wreg (mos := q36_6) hE [0, 1, 6] (by kernel_rfl) ?_; intro K hK; simp [q36_6, hLd, hLr, hLl, hn1, hp, hfv, hcos, hnb, hpp, res62, d61, d62, d34, d39, d59]; (repeat' (first | refine hK _ _ ?_ | refine And.intro ?_ ?_ | (intro hc; try subst hc))) <;> (try clear hK K))
                        | (refine wreg (mos := q36_7) hE [0, 1, 6] (by kernel_rfl) ?_; intro K hK; simp [q36_7, hLd, hLr, hLl, hn1, hp, hfv, hcos, hnb, hpp, res62, d61, d62, d34, d39, d59]; (repeat' (first | refine hK _ _ ?_ | refine And.intro ?_ ?_ | (intro hc; try subst hc))) <;> (try clear hK K))
                        | (refine wreg (mos := q36_8) hE [0, 1, 7] (by kernel_rfl) ?_; intro K hK; simp [q36_8, hLd, hLr, hLl, hn1, hp, hfv, hcos, hnb, hpp, res62, d61, d62, d34, d39, d59]; (repeat' (first | refine hK _ _ ?_ | refine And.intro ?_ ?_ | (intro hc; try subst hc))) <;> (try clear hK K))
                        | (refine wreg (mos := q36_9) hE [0, 1, 7] (by kernel_rfl) ?_; intro K hK; simp [q36_9, hLd, hLr, hLl, hn1, hp, hfv, hcos, hnb, hpp, res62, d61, d62, d34, d39, d59]; (repeat' (first | refine hK _ _ ?_ | refine And.intro ?_ ?_ | (intro hc; try subst hc))) <;> (try clear hK K))
                        | (refine wreg (mos := q36_10) hE [0, 1, 38] (by kernel_rfl) ?_; intro K hK; simp [q36_10, hLd, hLr, hLl, hn1, hp, hfv, hcos, hnb, hpp, res62, d61, d62, d34, d39, d59]; (repeat' (first | refine hK _ _ ?_ | refine And.intro ?_ ?_ | (intro hc; try subst hc))) <;> (try clear hK K))
                        | (refine wreg (mos := q36_11) hE [4, 5] (by kernel_rfl) ?_; intro K hK; simp [q36_11, hLd, hLr, hLl, hn1, hp, hfv, hcos, hnb, hpp, res62, d61, d62, d34, d39, d59]; (repeat' (first | refine hK _ _ ?_ | refine And.intro ?_ ?_ | (intro hc; try subst hc))) <;> (try clear hK K))
                        | (refine Wm_cond (b := _) (by with_unfolding_all rfl) (fun hc => ?_) (fun hc => ?_) <;> simp at hc <;> (try subst hc)))
                      all_goals first | (simp; done) | (simp at *; omega) | ((try simp[hTS, hCS]); refine Imp.auto (by kernel_rfl) ?_ ?_ <;> simp [nmap, lkp, mkPl, prs, prsL, prT, ddL, idL, NLe, CRenL, CRen, Ren, RenL, NObj.none, hTS, hCS])
                    · skip
                      simp only [hpp] at hr
                      by_cases hlen2 : L'.length = L.length
                      · rw [if_pos hlen2] at hr
                        subst hr
                        simp only [I36b, hfv, hcos, hnb]
                        repeat' with_reducible (first
                          | refine Wm_seq ?_
                          | refine Wm_skip ?_
                          | refine Wm_ret ?_
                          | refine Wm_block ?_
                          | refine Wm_exit ?_
                          | refine thenK_normal ?_
                          | refine thenK_ret ?_
                          | refine thenK_exit ?_
                          | refine blockK_normal ?_
                          | refine blockK_ret ?_
                          | refine blockK_here ?_
                          | refine loopK_ret ?_
                          | refine loopK_exit ?_
                          | refine unK_ret ?_
                          | refine unK_exit ?_
                          | refine unK_normal ?_
                          | refine loopOk_succ ?_
                          | refine blockK_exit (by decide) ?_
                          | (refine wreg (mos := q36_0) hE [0, 1] (by kernel_rfl) ?_; intro K hK; simp [q36_0, hlen2, hLd, hLr, hLl, hn1, hp, hfv, hcos, hnb, hpp, res62, d61, d62, d34, d39, d59]; (repeat' (first | refine hK _ _ ?_ | refine And.intro ?_ ?_ | (intro hc; try subst hc))) <;> (try clear hK K))
                          | (refine wreg (mos := q36_1) hE [0, 1] (by kernel_rfl) ?_; intro K hK; simp [q36_1, hlen2, hLd, hLr, hLl, hn1, hp, hfv, hcos, hnb, hpp, res62, d61, d62, d34, d39, d59]; (repeat' (first | refine hK _ _ ?_ | refine And.intro ?_ ?_ | (intro hc; try subst hc))) <;> (try clear hK K))
                          | (refine wreg (mos := q36_2) hE [0, 1, 17] (by kernel_rfl) ?_; intro K hK; simp [q36_2, hlen2, hLd, hLr, hLl, hn1, hp, hfv, hcos, hnb, hpp, res62, d61, d62, d34, d39, d59]; (repeat' (first | refine hK _ _ ?_ | refine And.intro ?_ ?_ | (intro hc; try subst hc))) <;> (try clear hK K))
                          | (refine wreg (mos := q36_3) hE [4, 5] (by kernel_rfl) ?_; intro K hK; simp [q36_3, hlen2, hLd, hLr, hLl, hn1, hp, hfv, hcos, hnb, hpp, res62, d61, d62, d34, d39, d59]; (repeat' (first | refine hK _ _ ?_ | refine And.intro ?_ ?_ | (intro hc; try subst hc))) <;> (try clear hK K))
                          | (refine wreg (mos := q36_4) hE [0, 1, 6] (by kernel_rfl) ?_; intro K hK; simp [q36_4, hlen2, hLd, hLr, hLl, hn1, hp, hfv, hcos, hnb, hpp, res62, d61, d62, d34, d39, d59]; (repeat' (first | refine hK _ _ ?_ | refine And.intro ?_ ?_ | (intro hc; try subst hc))) <;> (try clear hK K))
                          | (refine wreg (mos := q36_5) hE [0, 1, 6, 23] (by kernel_rfl) ?_; intro K hK; simp [q36_5, hlen2, hLd, hLr, hLl, hn1, hp, hfv, hcos, hnb, hpp, res62, d61, d62, d34, d39, d59]; (repeat' (first | refine hK _ _ ?_ | refine And.intro ?_ ?_ | (intro hc; try subst hc))) <;> (try clear hK K))
                          | (refine wreg (mos := q36_6) hE [0, 1, 6] (by kernel_rfl) ?_; intro K hK; simp [q36_6, hlen2, hLd, hLr, hLl, hn1, hp, hfv, hcos, hnb, hpp, res62, d61, d62, d34, d39, d59]; (repeat' (first | refine hK _ _ ?_ | refine And.intro ?_ ?_ | (intro hc; try subst hc))) <;> (try clear hK K))
                          | (refine wreg (mos := q36_7) hE [0, 1, 6] (by kernel_rfl) ?_; intro K hK; simp [q36_7, hlen2, hLd, hLr, hLl, hn1, hp, hfv, hcos, hnb, hpp, res62, d61, d62, d34, d39, d59]; (repeat' (first | refine hK _ _ ?_ | refine And.intro ?_ ?_ | (intro hc; try subst hc))) <;> (try clear hK K))
                          | (refine wreg (mos := q36_8) hE [0, 1, 7] (by kernel_rfl) ?_; intro K hK; simp [q36_8, hlen2, hLd, hLr, hLl, hn1, hp, hfv, hcos, hnb, hpp, res62, d61, d62, d34, d39, d59]; (repeat' (first | refine hK _ _ ?_ | refine And.intro ?_ ?_ | (intro hc; try subst hc))) <;> (try clear hK K))
                          | (refine wreg (mos := q36_9) hE [0, 1, 7] (by kernel_rfl) ?_; intro K hK; simp [q36_9, hlen2, hLd, hLr, hLl, hn1, hp, hfv, hcos, hnb, hpp, res62, d61, d62, d34, d39, d59]; (repeat' (first | refine hK _ _ ?_ | refine And.intro ?_ ?_ | (intro hc; try subst hc))) <;> (try clear hK K))
                          | (refine wreg (mos := q36_10) hE [0, 1, 38] (by kernel_rfl) ?_; intro K hK; simp [q36_10, hlen2, hLd, hLr, hLl, hn1, hp, hfv, hcos, hnb, hpp, res62, d61, d62, d34, d39, d59]; (repeat' (first | refine hK _ _ ?_ | refine And.intro ?_ ?_ | (intro hc; try subst hc))) <;> (try clear hK K))
                          | (refine wreg (mos := q36_11) hE [4, 5] (by kernel_rfl) ?_; intro K hK; simp [q36_11, hlen2, hLd, hLr, hLl, hn1, hp, hfv, hcos, hnb, hpp, res62, d61, d62, d34, d39, d59]; (repeat' (first | refine hK _ _ ?_ | refine And.intro ?_ ?_ | (intro hc; try subst hc))) <;> (try clear hK K))
                          | (refine Wm_cond (b := _) (by with_unfolding_all rfl) (fun hc => ?_) (fun hc => ?_) <;> simp at hc <;> (try subst hc)))
                        all_goals first | (simp; done) | (simp at *; omega) | ((try simp[hTS, hCS, hlen2]); refine Imp.auto (by kernel_rfl) ?_ ?_ <;> simp [nmap, lkp, mkPl, prs, prsL, prT, ddL, idL, NLe, CRenL, CRen, Ren, RenL, NObj.none, hTS, hCS, hlen2])
                      · rw [if_neg hlen2] at hr
                        have hlt : L'.length < L.length := by omega
                        have hne2 : ¬ (L'.length : Int) = L.length := by omega
                        simp only [I36b, hfv, hcos, hnb]
                        repeat' with_reducible (first
                          | refine Wm_seq ?_
                          | refine Wm_skip ?_
                          | refine Wm_ret ?_
                          | refine Wm_block ?_
                          | refine Wm_exit ?_
                          | refine thenK_normal ?_
                          | refine thenK_ret ?_
                          | refine thenK_exit ?_
                          | refine blockK_normal ?_
                          | refine blockK_ret ?_
                          | refine blockK_here ?_
                          | refine loopK_ret ?_
                          | refine loopK_exit ?_
                          | refine unK_ret ?_
                          | refine unK_exit ?_
                          | refine unK_normal ?_
                          | refine loopOk_succ ?_
                          | refine blockK_exit (by decide) ?_
                          | (refine wreg (mos := q36_0) hE [0, 1] (by kernel_rfl) ?_; intro K hK; simp [q36_0, hlen2, hne2, hLd, hLr, hLl, hn1, hp, hfv, hcos, hnb, hpp, res62, d61, d62, d34, d39, d59]; (repeat' (first | refine hK _ _ ?_ | refine And.intro ?_ ?_ | (intro hc; try subst hc))) <;> (try clear hK K))
                          | (refine wreg (mos := q36_1) hE [0, 1] (by kernel_rfl) ?_; intro K hK; simp [q36_1, hlen2, hne2, hLd, hLr, hLl, hn1, hp, hfv, hcos, hnb, hpp, res62, d61, d62, d34, d39, d59]; (repeat' (first | refine hK _ _ ?_ | refine And.intro ?_ ?_ | (intro hc; try subst hc))) <;> (try clear hK K))
                          | (refine wreg (mos := q36_2) hE [0, 1, 17] (by kernel_rfl) ?_; intro K hK; simp [q36_2, hlen2, hne2, hLd, hLr, hLl, hn1, hp, hfv, hcos, hnb, hpp, res62, d61, d62, d34, d39, d59]; (repeat' (first | refine hK _ _ ?_ | refine And.intro ?_ ?_ | (intro hc; try subst hc))) <;> (try clear hK K))
                          | (refine wreg (mos := q36_3) hE [4, 5] (by kernel_rfl) ?_; intro K hK; simp [q36_3, hlen2, hne2, hLd, hLr, hLl, hn1, hp, hfv, hcos, hnb, hpp, res62, d61, d62, d34, d39, d59]; (repeat' (first | refine hK _ _ ?_ | refine And.intro ?_ ?_ | (intro hc; try subst hc))) <;> (try clear hK K))
                          | (refine wreg (mos := q36_4) hE [0, 1, 6] (by kernel_rfl) ?_; intro K hK; simp [q36_4, hlen2, hne2, hLd, hLr, hLl, hn1, hp, hfv, hcos, hnb, hpp, res62, d61, d62, d34, d39, d59]; (repeat' (first | refine hK _ _ ?_ | refine And.intro ?_ ?_ | (intro hc; try subst hc))) <;> (try clear hK K))
                          | (refine wreg (mos := q36_5) hE [0, 1, 6, 23] (by kernel_rfl) ?_; intro K hK; simp [q36_5, hlen2, hne2, hLd, hLr, hLl, hn1, hp, hfv, hcos, hnb, hpp, res62, d61, d62, d34, d39, d59]; (repeat' (first | refine hK _ _ ?_ | refine And.intro ?_ ?_ | (intro hc; try subst hc))) <;> (try clear hK K))
                          | (refine wreg (mos := q36_6) hE [0, 1, 6] (by kernel_rfl) ?_; intro K hK; simp [q36_6, hlen2, hne2, hLd, hLr, hLl, hn1, hp, hfv, hcos, hnb, hpp, res62, d61, d62, d34, d39, d59]; (repeat' (first | refine hK _ _ ?_ | refine And.intro ?_ ?_ | (intro hc; try subst hc))) <;> (try clear hK K))
                          | (refine wreg (mos := q36_7) hE [0, 1, 6] (by kernel_rfl) ?_; intro K hK; simp [q36_7, hlen2, hne2, hLd, hLr, hLl, hn1, hp, hfv, hcos, hnb, hpp, res62, d61, d62, d34, d39, d59]; (repeat' (first | refine hK _ _ ?_ | refine And.intro ?_ ?_ | (intro hc; try subst hc))) <;> (try clear hK K))
                          | (refine wreg (mos := q36_8) hE [0, 1, 7] (by kernel_rfl) ?_; intro K hK; simp [q36_8, hlen2, hne2, hLd, hLr, hLl, hn1, hp, hfv, hcos, hnb, hpp, res62, d61, d62, d34, d39, d59]; (repeat' (first | refine hK _ _ ?_ | refine And.intro ?_ ?_ | (intro hc; try subst hc))) <;> (try clear hK K))
                          | (refine wreg (mos := q36_9) hE [0, 1, 7] (by kernel_rfl) ?_; intro K hK; simp [q36_9, hlen2, hne2, hLd, hLr, hLl, hn1, hp, hfv, hcos, hnb, hpp, res62, d61, d62, d34, d39, d59]; (repeat' (first | refine hK _ _ ?_ | refine And.intro ?_ ?_ | (intro hc; try subst hc))) <;> (try clear hK K))
                          | (refine wreg (mos := q36_10) hE [0, 1, 38] (by kernel_rfl) ?_; intro K hK; simp [q36_10, hlen2, hne2, hLd, hLr, hLl, hn1, hp, hfv, hcos, hnb, hpp, res62, d61, d62, d34, d39, d59]; (repeat' (first | refine hK _ _ ?_ | refine And.intro ?_ ?_ | (intro hc; try subst hc))) <;> (try clear hK K))
                          | (refine wreg (mos := q36_11) hE [4, 5] (by kernel_rfl) ?_; intro K hK; simp [q36_11, hlen2, hne2, hLd, hLr, hLl, hn1, hp, hfv, hcos, hnb, hpp, res62, d61, d62, d34, d39, d59]; (repeat' (first | refine hK _ _ ?_ | refine And.intro ?_ ?_ | (intro hc; try subst hc))) <;> (try clear hK K))
                          | (refine Wm_cond (b := _) (by with_unfolding_all rfl) (fun hc => ?_) (fun hc => ?_) <;> simp at hc <;> (try subst hc)))
                        all_goals refine ⟨(L', f), ⟨hLr', by show L'.length ≤ els.length; omega, by show L'.length < f; omega, hr⟩, Nat.lt_succ_self f, ?_⟩
                        all_goals simp only [I36b, hfv, hcos, hnb]
                        all_goals rw [hS]
                        all_goals (refine Imp.auto (by kernel_rfl) ?_ ?_ <;> simp [nmap, lkp, mkPl, prs, prsL, prT, ddL, idL, NLe, CRenL, CRen, Ren, RenL, NObj.none, hT2, hC2])
          · rw [if_neg hpe]
            have hpe' : p els = false := by simpa using hpe
            unfold m36
            repeat' with_reducible (first
              | refine Wm_seq ?_
              | refine Wm_skip ?_
              | refine Wm_ret ?_
              | refine Wm_block ?_
              | refine Wm_exit ?_
              | refine thenK_normal ?_
              | refine thenK_ret ?_
              | refine thenK_exit ?_
              | refine blockK_normal ?_
              | refine blockK_ret ?_
              | refine blockK_here ?_
              | refine loopK_ret ?_
              | refine loopK_exit ?_
              | refine unK_ret ?_
              | refine unK_exit ?_
              | refine unK_normal ?_
              | refine loopOk_succ ?_
              | refine blockK_exit (by decide) ?_
              | (refine wreg (mos := q36_0) hE [0, 1] (by kernel_rfl) ?_; intro K hK; simp [q36_0, hpe', hfv, hcos, hnb, hdat, hrows, hlen, hpx, d61, d62, d34, d39, d59]; (repeat' (first | refine hK _ _ ?_ | refine And.intro ?_ ?_ | (intro hc; try subst hc))) <;> (try clear hK K))
              | (refine wreg (mos := q36_1) hE [0, 1] (by kernel_rfl) ?_; intro K hK; simp [q36_1, hpe', hfv, hcos, hnb, hdat, hrows, hlen, hpx, d61, d62, d34, d39, d59]; (repeat' (first | refine hK _ _ ?_ | refine And.intro ?_ ?_ | (intro hc; try subst hc))) <;> (try clear hK K))
              | (refine wreg (mos := q36_2) hE [0, 1, 17] (by kernel_rfl) ?_; intro K hK; simp [q36_2, hpe', hfv, hcos, hnb, hdat, hrows, hlen, hpx, d61, d62, d34, d39, d59]; (repeat' (first | refine hK _ _ ?_ | refine And.intro ?_ ?_ | (intro hc; try subst hc))) <;> (try clear hK K))
              | (refine wreg (mos := q36_3) hE [4, 5] (by kernel_rfl) ?_; intro K hK; simp [q36_3, hpe', hfv, hcos, hnb, hdat, hrows, hlen, hpx, d61, d62, d34, d39, d59]; (repeat' (first | refine hK _ _ ?_ | refine And.intro ?_ ?_ | (intro hc; try subst hc))) <;> (try clear hK K))
              | (refine wreg (mos := q36_4) hE [0, 1, 6] (by kernel_rfl) ?_; intro K hK; simp [q36_4, hpe', hfv, hcos, hnb, hdat, hrows, hlen, hpx, d61, d62, d34, d39, d59]; (repeat' (first | refine hK _ _ ?_ | refine And.intro ?_ ?_ | (intro hc; try subst hc))) <;> (try clear hK K))
              | (refine wreg (mos := q36_5) hE [0, 1, 6, 23] (by kernel_rfl) ?_; intro K hK; simp [q36_5, hpe', hfv, hcos, hnb, hdat, hrows, hlen, hpx, d61, d62, d34, d39, d59]; (repeat' (first | refine hK _ _ ?_ | refine And.intro ?_ ?_ | (intro hc; try subst hc))) <;> (try clear hK K))
              | (refine wreg (mos := q36_6) hE [0, 1, 6] (by kernel_rfl) ?_; intro K hK; simp [q36_6, hpe', hfv, hcos, hnb, hdat, hrows, hlen, hpx, d61, d62, d34, d39, d59]; (repeat' (first | refine hK _ _ ?_ | refine And.intro ?_ ?_ | (intro hc; try subst hc))) <;> (try clear hK K))
              | (refine wreg (mos := q36_7) hE [0, 1, 6] (by kernel_rfl) ?_; intro K hK; simp [q36_7, hpe', hfv, hcos, hnb, hdat, hrows, hlen, hpx, d61, d62, d34, d39, d59]; (repeat' (first | refine hK _ _ ?_ | refine And.intro ?_ ?_ | (intro hc; try subst hc))) <;> (try clear hK K))
              | (refine wreg (mos := q36_8) hE [0, 1, 7] (by kernel_rfl) ?_; intro K hK; simp [q36_8, hpe', hfv, hcos, hnb, hdat, hrows, hlen, hpx, d61, d62, d34, d39, d59]; (repeat' (first | refine hK _ _ ?_ | refine And.intro ?_ ?_ | (intro hc; try subst hc))) <;> (try clear hK K))
              | (refine wreg (mos := q36_9) hE [0, 1, 7] (by kernel_rfl) ?_; intro K hK; simp [q36_9, hpe', hfv, hcos, hnb, hdat, hrows, hlen, hpx, d61, d62, d34, d39, d59]; (repeat' (first | refine hK _ _ ?_ | refine And.intro ?_ ?_ | (intro hc; try subst hc))) <;> (try clear hK K))
              | (refine wreg (mos := q36_10) hE [0, 1, 38] (by kernel_rfl) ?_; intro K hK; simp [q36_10, hpe', hfv, hcos, hnb, hdat, hrows, hlen, hpx, d61, d62, d34, d39, d59]; (repeat' (first | refine hK _ _ ?_ | refine And.intro ?_ ?_ | (intro hc; try subst hc))) <;> (try clear hK K))
              | (refine wreg (mos := q36_11) hE [4, 5] (by kernel_rfl) ?_; intro K hK; simp [q36_11, hpe', hfv, hcos, hnb, hdat, hrows, hlen, hpx, d61, d62, d34, d39, d59]; (repeat' (first | refine hK _ _ ?_ | refine And.intro ?_ ?_ | (intro hc; try subst hc))) <;> (try clear hK K))
              | (refine Wm_cond (b := _) (by with_unfolding_all rfl) (fun hc => ?_) (fun hc => ?_) <;> simp at hc <;> (try subst hc)))
            all_goals first | (simp; done) | (simp at *; omega) | ((try simp); refine Imp.auto (by kernel_rfl) ?_ ?_ <;> simp [nmap, lkp, mkPl, prs, prsL, prT, ddL, idL, NLe, CRenL, CRen, Ren, RenL, NObj.none])
        · by_cases hpe : p els = true
          · rw [if_pos hpe]
            unfold m36
            repeat' with_reducible (first
              | refine Wm_seq ?_
              | refine Wm_skip ?_
              | refine Wm_ret ?_
              | refine Wm_block ?_
              | refine Wm_exit ?_
              | refine thenK_normal ?_
              | refine thenK_ret ?_
              | refine thenK_exit ?_
              | refine blockK_normal ?_
              | refine blockK_ret ?_
              | refine blockK_here ?_
              | refine loopK_ret ?_
              | refine loopK_exit ?_
              | refine unK_ret ?_
              | refine unK_exit ?_
              | refine unK_normal ?_
              | refine loopOk_succ ?_
              | refine blockK_exit (by decide) ?_
              | (refine wreg (mos := q36_0) hE [0, 1] (by kernel_rfl) ?_; intro K hK; simp [q36_0, hpe, hfv, hcos, hnb, hdat, hrows, hlen, hpx, d61, d62, d34, d39, d59]; (repeat' (first | refine hK _ _ ?_ | refine And.intro ?_ ?_ | (intro hc; try subst hc))) <;> (try clear hK K))
              | (refine wreg (mos := q36_1) hE [0, 1] (by kernel_rfl) ?_; intro K hK; simp [q36_1, hpe, hfv, hcos, hnb, hdat, hrows, hlen, hpx, d61, d62, d34, d39, d59]; (repeat' (first | refine hK _ _ ?_ | refine And.intro ?_ ?_ | (intro hc; try subst hc))) <;> (try clear hK K))
              | (refine wreg (mos := q36_2) hE [0, 1, 17] (by kernel_rfl) ?_; intro K hK; simp [q36_2, hpe, hfv, hcos, hnb, hdat, hrows, hlen, hpx, d61, d62, d34, d39, d59]; (repeat' (first | refine hK _ _ ?_ | refine And.intro ?_ ?_ | (intro hc; try subst hc))) <;> (try clear hK K))
              | (refine wreg (mos := q36_3) hE [4, 5] (by kernel_rfl) ?_; intro K hK; simp [q36_3, hpe, hfv, hcos, hnb, hdat, hrows, hlen, hpx, d61, d62, d34, d39, d59]; (repeat' (first | refine hK _ _ ?_ | refine And.intro ?_ ?_ | (intro hc; try subst hc))) <;> (try clear hK K))
              | (refine wreg (mos := q36_4) hE [0, 1, 6] (by kernel_rfl) ?_; intro K hK; simp [q36_4, hpe, hfv, hcos, hnb, hdat, hrows, hlen, hpx, d61, d62, d34, d39, d59]; (repeat' (first | refine hK _ _ ?_ | refine And.intro ?_ ?_ | (intro hc; try subst hc))) <;> (try clear hK K))
              | (refine wreg (mos := q36_5) hE [0, 1, 6, 23] (by kernel_rfl) ?_; intro K hK; simp [q36_5, hpe, hfv, hcos, hnb, hdat, hrows, hlen, hpx, d61, d62, d34, d39, d59]; (repeat' (first | refine hK _ _ ?_ | refine And.intro ?_ ?_ | (intro hc; try subst hc))) <;> (try clear hK K))
              | (refine wreg (mos := q36_6) hE [0, 1, 6] (by kernel_rfl) ?_; intro K hK; simp [q36_6, hpe, hfv, hcos, hnb, hdat, hrows, hlen, hpx, d61, d62, d34, d39, d59]; (repeat' (first | refine hK _ _ ?_ | refine And.intro ?_ ?_ | (intro hc; try subst hc))) <;> (try clear hK K))
              | (refine wreg (mos := q36_7) hE [0, 1, 6] (by kernel_rfl) ?_; intro K hK; simp [q36_7, hpe, hfv, hcos, hnb, hdat, hrows, hlen, hpx, d61, d62, d34, d39, d59]; (repeat' (first | refine hK _ _ ?_ | refine And.intro ?_ ?_ | (intro hc; try subst hc))) <;> (try clear hK K))
              | (refine wreg (mos := q36_8) hE [0, 1, 7] (by kernel_rfl) ?_; intro K hK; simp [q36_8, hpe, hfv, hcos, hnb, hdat, hrows, hlen, hpx, d61, d62, d34, d39, d59]; (repeat' (first | refine hK _ _ ?_ | refine And.intro ?_ ?_ | (intro hc; try subst hc))) <;> (try clear hK K))
              | (refine wreg (mos := q36_9) hE [0, 1, 7] (by kernel_rfl) ?_; intro K hK; simp [q36_9, hpe, hfv, hcos, hnb, hdat, hrows, hlen, hpx, d61, d62, d34, d39, d59]; (repeat' (first | refine hK _ _ ?_ | refine And.intro ?_ ?_ | (intro hc; try subst hc))) <;> (try clear hK K))
              | (refine wreg (mos := q36_10) hE [0, 1, 38] (by kernel_rfl) ?_; intro K hK; simp [q36_10, hpe, hfv, hcos, hnb, hdat, hrows, hlen, hpx, d61, d62, d34, d39, d59]; (repeat' (first | refine hK _ _ ?_ | refine And.intro ?_ ?_ | (intro hc; try subst hc))) <;> (try clear hK K))
              | (refine wreg (mos := q36_11) hE [4, 5] (by kernel_rfl) ?_; intro K hK; simp [q36_11, hpe, hfv, hcos, hnb, hdat, hrows, hlen, hpx, d61, d62, d34, d39, d59]; (repeat' (first | refine hK _ _ ?_ | refine And.intro ?_ ?_ | (intro hc; try subst hc))) <;> (try clear hK K))
              | (refine Wm_cond (b := _) (by with_unfolding_all rfl) (fun hc => ?_) (fun hc => ?_) <;> simp at hc <;> (try subst hc)))
            all_goals (refine Wm_loop (I36a fv cosl nb) (fun x => x.1.all row12 = true ∧ x.1.length ≤ els.length ∧ 1 ≤ x.2.1 ∧ x.2.1 ≤ 200000 ∧ x.2.1 ≤ x.2.2 ∧ halvZ p x.2.2 x.2.1 x.1 = Hh) (fun x => x.2.2) (els, max (els.length / 2) 1, els.length + 1) ⟨hrows, Nat.le_refl _, Nat.le_max_right _ _, by show max (els.length / 2) 1 ≤ 200000; omega, by show max (els.length / 2) 1 ≤ els.length + 1; omega, hHh⟩ ?_ ?_)
            · simp only [I36a, hfv, hcos, hnb]
              rw [hS]
              refine Imp.auto (by kernel_rfl) ?_ ?_ <;> simp [nmap, lkp, mkPl, prs, prsL, prT, ddL, idL, NLe, CRenL, CRen, Ren, RenL, NObj.none, hT0, hCl]
              all_goals (have wq : IntKind.wrap .i64 ((els.length : Int) / 2) = (els.length : Int) / 2 := wrap_in (by omega) (by omega))
              all_goals rw [wq]
              all_goals (try split)
              all_goals omega
            · intro ⟨L, n, f⟩ ⟨hLr, hL0, hn0, hn2, hn4, hr⟩
              replace hLr : L.all row12 = true := hLr
              replace hL0 : L.length ≤ els.length := hL0
              replace hn0 : 1 ≤ n := hn0
              replace hn2 : n ≤ 200000 := hn2
              replace hn4 : n ≤ f := hn4
              replace hr : halvZ p f n L = Hh := hr
              obtain ⟨f, rfl⟩ : ∃ f', f = f' + 1 := ⟨f - 1, by omega⟩
              simp only [halvZ] at hr
              have hT1 := rows_t0 hLr
              have hC1 := rows_cl hLr
              by_cases hgt : 1 < n
              · rw [if_pos hgt] at hr
                have hn1 : (1 : Int) < (n : Int) := by omega
                have hn3 : (n : Int) ≤ 200000 := by omega
                have hn5 : (1 : Int) ≤ (n : Int) := by omega
                have hn6 : 1 ≤ n := hn0
                have hLl : L.length ≤ 200000 := by omega
                have hLd := rows_dat hLr
                have wq : IntKind.wrap .i64 ((n : Int) / 2) = (n : Int) / 2 := wrap_in (by omega) (by omega)
                cases hpp : pass1 p n L with
                | mk c L' =>
                  have hLr' : L'.all row12 = true := by have := pass1_rows (p := p) (n := n) hLr; rw [hpp] at this; exact this
                  have hLl' : L'.length ≤ L.length := by have := (pass1_sub (p := p) n L).length_le; rw [hpp] at this; exact this
                  have hT2 := rows_t0 hLr'
                  have hC2 := rows_cl hLr'
                  have hLd' := rows_dat hLr'
                  cases c
                  · have e : L' = L := by have := (passZ_false (p := p) n (L.length + 1) false L 0 (by show (pass1 p n L).1 = false; rw [hpp])).2; rw [show passZ p n (L.length + 1) false L 0 = pass1 p n L from rfl, hpp] at this; exact this
                    subst e
                    simp only [hpp] at hr
                    simp only [I36a, hfv, hcos, hnb]
                    repeat' with_reducible (first
                      | refine Wm_seq ?_
                      | refine Wm_skip ?_
                      | refine Wm_ret ?_
                      | refine Wm_block ?_
                      | refine Wm_exit ?_
                      | refine thenK_normal ?_
                      | refine thenK_ret ?_
                      | refine thenK_exit ?_
                      | refine blockK_normal ?_
                      | refine blockK_ret ?_
                      | refine blockK_here ?_
                      | refine loopK_ret ?_
                      | refine loopK_exit ?_
                      | refine unK_ret ?_
                      | refine unK_exit ?_
                      | refine unK_normal ?_
                      | refine loopOk_succ ?_
                      | refine blockK_exit (by decide) ?_
                      | (refine wreg (mos := q36_0) hE [0, 1] (by kernel_rfl) ?_; intro K hK; simp [q36_0, hgt, hn5, hn6, hLd, hLr, hLl, hn1, hn2, hn3, hp, hfv, hcos, hnb, hpp, res62, wq, d61, d62, d34, d39, d59]; (repeat' (first | refine hK _ _ ?_ | refine And.intro ?_ ?_ | (intro hc; try subst hc))) <;> (try clear hK K))
                      | (refine wreg (mos := q36_1) hE [0, 1] (by kernel_rfl) ?_; intro K hK; simp [q36_1, hgt, hn5, hn6, hLd, hLr, hLl, hn1, hn2, hn3, hp, hfv, hcos, hnb, hpp, res62, wq, d61, d62, d34, d39, d59]; (repeat' (first | refine hK _ _ ?_ | refine And.intro ?_ ?_ | (intro hc; try subst hc))) <;> (try clear hK K))
                      | (refine wreg (mos := q36_2) hE [0, 1, 17] (by kernel_rfl) ?_; intro K hK; simp [q36_2, hgt, hn5, hn6, hLd, hLr, hLl, hn1, hn2, hn3, hp, hfv, hcos, hnb, hpp, res62, wq, d61, d62, d34, d39, d59]; (repeat' (first | refine hK _ _ ?_ | refine And.intro ?_ ?_ | (intro hc; try subst hc))) <;> (try clear hK K))
                      | (refine wreg (mos := q36_3) hE [4, 5] (by kernel_rfl) ?_; intro K hK; simp [q36_3, hgt, hn5, hn6, hLd, hLr, hLl, hn1, hn2, hn3, hp, hfv, hcos, hnb, hpp, res62, wq, d61, d62, d34, d39, d59]; (repeat' (first | refine hK _ _ ?_ | refine And.intro ?_ ?_ | (intro hc; try subst hc))) <;> (try clear hK K))
                      | (refine wreg (mos := q36_4) hE [0, 1, 6] (by kernel_rfl) ?_; intro K hK; simp [q36_4, hgt, hn5, hn6, hLd, hLr, hLl, hn1, hn2, hn3, hp, hfv, hcos, hnb, hpp, res62, wq, d61, d62, d34, d39, d59]; (repeat' (first | refine hK _ _ ?_ | refine And.intro ?_ ?_ | (intro hc; try subst hc))) <;> (try clear hK K))
                      | (refine wreg (mos := q36_5) hE [0, 1, 6, 23] (by kernel_rfl) ?_; intro K hK; simp [q36_5, hgt, hn5, hn6, hLd, hLr, hLl, hn1, hn2, hn3, hp, hfv, hcos, hnb, hpp, res62, wq, d61, d62, d34, d39, d59]; (repeat' (first | refine hK _ _ ?_ | refine And.intro ?_ ?_ | (intro hc; try subst hc))) <;> (try clear hK K))
                      | (refine wreg (mos := q36_6) hE [0, 1, 6] (by kernel_rfl) ?_; intro K hK; simp [q36_6, hgt, hn5, hn6, hLd, hLr, hLl, hn1, hn2, hn3, hp, hfv, hcos, hnb, hpp, res62, wq, d61, d62, d34, d39, d59]; (repeat' (first | refine hK _ _ ?_ | refine And.intro ?_ ?_ | (intro hc; try subst hc))) <;> (try clear hK K))
                      | (refine wreg (mos := q36_7) hE [0, 1, 6] (by kernel_rfl) ?_; intro K hK; simp [q36_7, hgt, hn5, hn6, hLd, hLr, hLl, hn1, hn2, hn3, hp, hfv, hcos, hnb, hpp, res62, wq, d61, d62, d34, d39, d59]; (repeat' (first | refine hK _ _ ?_ | refine And.intro ?_ ?_ | (intro hc; try subst hc))) <;> (try clear hK K))
                      | (refine wreg (mos := q36_8) hE [0, 1, 7] (by kernel_rfl) ?_; intro K hK; simp [q36_8, hgt, hn5, hn6, hLd, hLr, hLl, hn1, hn2, hn3, hp, hfv, hcos, hnb, hpp, res62, wq, d61, d62, d34, d39, d59]; (repeat' (first | refine hK _ _ ?_ | refine And.intro ?_ ?_ | (intro hc; try subst hc))) <;> (try clear hK K))
                      | (refine wreg (mos := q36_9) hE [0, 1, 7] (by kernel_rfl) ?_; intro K hK; simp [q36_9, hgt, hn5, hn6, hLd, hLr, hLl, hn1, hn2, hn3, hp, hfv, hcos, hnb, hpp, res62, wq, d61, d62, d34, d39, d59]; (repeat' (first | refine hK _ _ ?_ | refine And.intro ?_ ?_ | (intro hc; try subst hc))) <;> (try clear hK K))
                      | (refine wreg (mos := q36_10) hE [0, 1, 38] (by kernel_rfl) ?_; intro K hK; simp [q36_10, hgt, hn5, hn6, hLd, hLr, hLl, hn1, hn2, hn3, hp, hfv, hcos, hnb, hpp, res62, wq, d61, d62, d34, d39, d59]; (repeat' (first | refine hK _ _ ?_ | refine And.intro ?_ ?_ | (intro hc; try subst hc))) <;> (try clear hK K))
                      | (refine wreg (mos := q36_11) hE [4, 5] (by kernel_rfl) ?_; intro K hK; simp [q36_11, hgt, hn5, hn6, hLd, hLr, hLl, hn1, hn2, hn3, hp, hfv, hcos, hnb, hpp, res62, wq, d61, d62, d34, d39, d59]; (repeat' (first | refine hK _ _ ?_ | refine And.intro ?_ ?_ | (intro hc; try subst hc))) <;> (try clear hK K))
                      | (refine Wm_cond (b := _) (by with_unfolding_all rfl) (fun hc => ?_) (fun hc => ?_) <;> simp at hc <;> (try subst hc)))
                    all_goals refine ⟨(L', n / 2, f), ⟨hLr', by show L'.length ≤ els.length; omega, by show 1 ≤ n / 2; omega, by show n / 2 ≤ 200000; omega, by show n / 2 ≤ f; omega, hr⟩, Nat.lt_succ_self f, ?_⟩
                    all_goals simp only [I36a, hfv, hcos, hnb]
                    all_goals rw [hS]
                    all_goals (refine Imp.auto (by kernel_rfl) ?_ ?_ <;> simp [nmap, lkp, mkPl, prs, prsL, prT, ddL, idL, NLe, CRenL, CRen, Ren, RenL, NObj.none, hT2, hC2])
                  · skip
                    simp only [hpp] at hr
                    simp only [I36a, hfv, hcos, hnb]
                    repeat' with_reducible (first
                      | refine Wm_seq ?_
                      | refine Wm_skip ?_
                      | refine Wm_ret ?_
                      | refine Wm_block ?_
                      | refine Wm_exit ?_
                      | refine thenK_normal ?_
                      | refine thenK_ret ?_
                      | refine thenK_exit ?_
                      | refine blockK_normal ?_
                      | refine blockK_ret ?_
                      | refine blockK_here ?_
                      | refine loopK_ret ?_
                      | refine loopK_exit ?_
                      | refine unK_ret ?_
                      | refine unK_exit ?_
                      | refine unK_normal ?_
                      | refine loopOk_succ ?_
                      | refine blockK_exit (by decide) ?_
                      | (refine wreg (mos := q36_0) hE [0, 1] (by kernel_rfl) ?_; intro K hK; simp [q36_0, hgt, hn5, hn6, hLd, hLr, hLl, hn1, hn2, hn3, hp, hfv, hcos, hnb, hpp, res62, wq, d61, d62, d34, d39, d59]; (repeat' (first | refine hK _ _ ?_ | refine And.intro ?_ ?_ | (intro hc; try subst hc))) <;> (try clear hK K))
                      | (refine wreg (mos := q36_1) hE [0, 1] (by kernel_rfl) ?_; intro K hK; simp [q36_1, hgt, hn5, hn6, hLd, hLr, hLl, hn1, hn2, hn3, hp, hfv, hcos, hnb, hpp, res62, wq, d61, d62, d34, d39, d59]; (repeat' (first | refine hK _ _ ?_ | refine And.intro ?_ ?_ | (intro hc; try subst hc))) <;> (try clear hK K))
                      | (refine wreg (mos := q36_2) hE [0, 1, 17] (by kernel_rfl) ?_; intro K hK; simp [q36_2, hgt, hn5, hn6, hLd, hLr, hLl, hn1, hn2, hn3, hp, hfv, hcos, hnb, hpp, res62, wq, d61, d62, d34, d39, d59]; (repeat' (first | refine hK _ _ ?_ | refine And.intro ?_ ?_ | (intro hc; try subst hc))) <;> (try clear hK K))
                      | (refine wreg (mos := q36_3) hE [4, 5] (by kernel_rfl) ?_; intro K hK; simp [q36_3, hgt, hn5, hn6, hLd, hLr, hLl, hn1, hn2, hn3, hp, hfv, hcos, hnb, hpp, res62, wq, d61, d62, d34, d39, d59]; (repeat' (first | refine hK _ _ ?_ | refine And.intro ?_ ?_ | (intro hc; try subst hc))) <;> (try clear hK K))
                      | (refine wreg (mos := q36_4) hE [0, 1, 6] (by kernel_rfl) ?_; intro K hK; simp [q36_4, hgt, hn5, hn6, hLd, hLr, hLl, hn1, hn2, hn3, hp, hfv, hcos, hnb, hpp, res62, wq, d61, d62, d34, d39, d59]; (repeat' (first | refine hK _ _ ?_ | refine And.intro ?_ ?_ | (intro hc; try subst hc))) <;> (try clear hK K))
                      | (refine wreg (mos := q36_5) hE [0, 1, 6, 23] (by kernel_rfl) ?_; intro K hK; simp [q36_5, hgt, hn5, hn6, hLd, hLr, hLl, hn1, hn2, hn3, hp, hfv, hcos, hnb, hpp, res62, wq, d61, d62, d34, d39, d59]; (repeat' (first | refine hK _ _ ?_ | refine And.intro ?_ ?_ | (intro hc; try subst hc))) <;> (try clear hK K))
                      | (refine wreg (mos := q36_6) hE [0, 1, 6] (by kernel_rfl) ?_; intro K hK; simp [q36_6, hgt, hn5, hn6, hLd, hLr, hLl, hn1, hn2, hn3, hp, hfv, hcos, hnb, hpp, res62, wq, d61, d62, d34, d39, d59]; (repeat' (first | refine hK _ _ ?_ | refine And.intro ?_ ?_ | (intro hc; try subst hc))) <;> (try clear hK K))
                      | (refine wreg (mos := q36_7) hE [0, 1, 6] (by kernel_rfl) ?_; intro K hK; simp [q36_7, hgt, hn5, hn6, hLd, hLr, hLl, hn1, hn2, hn3, hp, hfv, hcos, hnb, hpp, res62, wq, d61, d62, d34, d39, d59]; (repeat' (first | refine hK _ _ ?_ | refine And.intro ?_ ?_ | (intro hc; try subst hc))) <;> (try clear hK K))
                      | (refine wreg (mos := q36_8) hE [0, 1, 7] (by kernel_rfl) ?_; intro K hK; simp [q36_8, hgt, hn5, hn6, hLd, hLr, hLl, hn1, hn2, hn3, hp, hfv, hcos, hnb, hpp, res62, wq, d61, d62, d34, d39, d59]; (repeat' (first | refine hK _ _ ?_ | refine And.intro ?_ ?_ | (intro hc; try subst hc))) <;> (try clear hK K))
                      | (refine wreg (mos := q36_9) hE [0, 1, 7] (by kernel_rfl) ?_; intro K hK; simp [q36_9, hgt, hn5, hn6, hLd, hLr, hLl, hn1, hn2, hn3, hp, hfv, hcos, hnb, hpp, res62, wq, d61, d62, d34, d39, d59]; (repeat' (first | refine hK _ _ ?_ | refine And.intro ?_ ?_ | (intro hc; try subst hc))) <;> (try clear hK K))
                      | (refine wreg (mos := q36_10) hE [0, 1, 38] (by kernel_rfl) ?_; intro K hK; simp [q36_10, hgt, hn5, hn6, hLd, hLr, hLl, hn1, hn2, hn3, hp, hfv, hcos, hnb, hpp, res62, wq, d61, d62, d34, d39, d59]; (repeat' (first | refine hK _ _ ?_ | refine And.intro ?_ ?_ | (intro hc; try subst hc))) <;> (try clear hK K))
                      | (refine wreg (mos := q36_11) hE [4, 5] (by kernel_rfl) ?_; intro K hK; simp [q36_11, hgt, hn5, hn6, hLd, hLr, hLl, hn1, hn2, hn3, hp, hfv, hcos, hnb, hpp, res62, wq, d61, d62, d34, d39, d59]; (repeat' (first | refine hK _ _ ?_ | refine And.intro ?_ ?_ | (intro hc; try subst hc))) <;> (try clear hK K))
                      | (refine Wm_cond (b := _) (by with_unfolding_all rfl) (fun hc => ?_) (fun hc => ?_) <;> simp at hc <;> (try subst hc)))
                    all_goals refine ⟨(L', n / 2, f), ⟨hLr', by show L'.length ≤ els.length; omega, by show 1 ≤ n / 2; omega, by show n / 2 ≤ 200000; omega, by show n / 2 ≤ f; omega, hr⟩, Nat.lt_succ_self f, ?_⟩
                    all_goals simp only [I36a, hfv, hcos, hnb]
                    all_goals rw [hS]
                    all_goals (refine Imp.auto (by kernel_rfl) ?_ ?_ <;> simp [nmap, lkp, mkPl, prs, prsL, prT, ddL, idL, NLe, CRenL, CRen, Ren, RenL, NObj.none, hT2, hC2])
              · rw [if_neg hgt] at hr
                have hn1 : ¬ (1 : Int) < (n : Int) := by omega
                subst hr
                simp only [I36a, hfv, hcos, hnb]
                repeat' with_reducible (first
                  | refine Wm_seq ?_
                  | refine Wm_skip ?_
                  | refine Wm_ret ?_
                  | refine Wm_block ?_
                  | refine Wm_exit ?_
                  | refine thenK_normal ?_
                  | refine thenK_ret ?_
                  | refine thenK_exit ?_
                  | refine blockK_normal ?_
                  | refine blockK_ret ?_
                  | refine blockK_here ?_
                  | refine loopK_ret ?_
                  | refine loopK_exit ?_
                  | refine unK_ret ?_
                  | refine unK_exit ?_
                  | refine unK_normal ?_
                  | refine loopOk_succ ?_
                  | refine blockK_exit (by decide) ?_
                  | (refine wreg (mos := q36_0) hE [0, 1] (by kernel_rfl) ?_; intro K hK; simp [q36_0, hgt, hn1, hfv, hcos, hnb, d61, d62, d34, d39, d59]; (repeat' (first | refine hK _ _ ?_ | refine And.intro ?_ ?_ | (intro hc; try subst hc))) <;> (try clear hK K))
                  | (refine wreg (mos := q36_1) hE [0, 1] (by kernel_rfl) ?_; intro K hK; simp [q36_1, hgt, hn1, hfv, hcos, hnb, d61, d62, d34, d39, d59]; (repeat' (first | refine hK _ _ ?_ | refine And.intro ?_ ?_ | (intro hc; try subst hc))) <;> (try clear hK K))
                  | (refine wreg (mos := q36_2) hE [0, 1, 17] (by kernel_rfl) ?_; intro K hK; simp [q36_2, hgt, hn1, hfv, hcos, hnb, d61, d62, d34, d39, d59]; (repeat' (first | refine hK _ _ ?_ | refine And.intro ?_ ?_ | (intro hc; try subst hc))) <;> (try clear hK K))
                  | (refine wreg (mos := q36_3) hE [4, 5] (by kernel_rfl) ?_; intro K hK; simp [q36_3, hgt, hn1, hfv, hcos, hnb, d61, d62, d34, d39, d59]; (repeat' (first | refine hK _ _ ?_ | refine And.intro ?_ ?_ | (intro hc; try subst hc))) <;> (try clear hK K))
                  | (refine wreg (mos := q36_4) hE [0, 1, 6] (by kernel_rfl) ?_; intro K hK; simp [q36_4, hgt, hn1, hfv, hcos, hnb, d61, d62, d34, d39, d59]; (repeat' (first | refine hK _ _ ?_ | refine And.intro ?_ ?_ | (intro hc; try subst hc))) <;> (try clear hK K))
                  | (refine wreg (mos := q36_5) hE [0, 1, 6, 23] (by kernel_rfl) ?_; intro K hK; simp [q36_5, hgt, hn1, hfv, hcos, hnb, d61, d62, d34, d39, d59]; (repeat' (first | refine hK _ _ ?_ | refine And.intro ?_ ?_ | (intro hc; try subst hc))) <;> (try clear hK K))
                  | (refine wreg (mos := q36_6) hE [0, 1, 6] (by kernel_rfl) ?_; intro K hK; simp [q36_6, hgt, hn1, hfv, hcos, hnb, d61, d62, d34, d39, d59]; (repeat' (first | refine hK _ _ ?_ | refine And.intro ?_ ?_ | (intro hc; try subst hc))) <;> (try clear hK K))
                  | (refine wreg (mos := q36_7) hE [0, 1, 6] (by kernel_rfl) ?_; intro K hK; simp [q36_7, hgt, hn1, hfv, hcos, hnb, d61, d62, d34, d39, d59]; (repeat' (first | refine hK _ _ ?_ | refine And.intro ?_ ?_ | (intro hc; try subst hc))) <;> (try clear hK K))
                  | (refine wreg (mos := q36_8) hE [0, 1, 7] (by kernel_rfl) ?_; intro K hK; simp [q36_8, hgt, hn1, hfv, hcos, hnb, d61, d62, d34, d39, d59]; (repeat' (first | refine hK _ _ ?_ | refine And.intro ?_ ?_ | (intro hc; try subst hc))) <;> (try clear hK K))
                  | (refine wreg (mos := q36_9) hE [0, 1, 7] (by kernel_rfl) ?_; intro K hK; simp [q36_9, hgt, hn1, hfv, hcos, hnb, d61, d62, d34, d39, d59]; (repeat' (first | refine hK _ _ ?_ | refine And.intro ?_ ?_ | (intro hc; try subst hc))) <;> (try clear hK K))
                  | (refine wreg (mos := q36_10) hE [0, 1, 38] (by kernel_rfl) ?_; intro K hK; simp [q36_10, hgt, hn1, hfv, hcos, hnb, d61, d62, d34, d39, d59]; (repeat' (first | refine hK _ _ ?_ | refine And.intro ?_ ?_ | (intro hc; try subst hc))) <;> (try clear hK K))
                  | (refine wreg (mos := q36_11) hE [4, 5] (by kernel_rfl) ?_; intro K hK; simp [q36_11, hgt, hn1, hfv, hcos, hnb, d61, d62, d34, d39, d59]; (repeat' (first | refine hK _ _ ?_ | refine And.intro ?_ ?_ | (intro hc; try subst hc))) <;> (try clear hK K))
                  | (refine Wm_cond (b := _) (by with_unfolding_all rfl) (fun hc => ?_) (fun hc => ?_) <;> simp at hc <;> (try subst hc)))
                all_goals (refine Wm_loop (I36b fv cosl nb) (fun x => x.1.all row12 = true ∧ x.1.length ≤ els.length ∧ x.1.length < x.2 ∧ settleZ p x.2 x.1 = SS) (fun x => x.2) (L, els.length + 1) ⟨hLr, hL0, by show L.length < els.length + 1; omega, hSS2⟩ ?_ ?_)
                · simp only [I36b, hfv, hcos, hnb]
                  rw [hS]
                  refine Imp.auto (by kernel_rfl) ?_ ?_ <;> simp [nmap, lkp, mkPl, prs, prsL, prT, ddL, idL, NLe, CRenL, CRen, Ren, RenL, NObj.none, hT1, hC1]
                · clear hT1 hC1 hn0 hn2 hn4 hLr hL0 hSS2 hHr
                  intro ⟨L, f⟩ ⟨hLr, hL0, hLf, hr⟩
                  replace hLr : L.all row12 = true := hLr
                  replace hL0 : L.length ≤ els.length := hL0
                  replace hLf : L.length < f := hLf
                  replace hr : settleZ p f L = SS := hr
                  obtain ⟨f, rfl⟩ : ∃ f', f = f' + 1 := ⟨f - 1, by omega⟩
                  simp only [settleZ] at hr
                  have hLl : L.length ≤ 200000 := by omega
                  have hLd := rows_dat hLr
                  have hT1 := rows_t0 hLr
                  have hC1 := rows_cl hLr
                  have hn1 : (1 : Int) ≤ 1 := by omega
                  cases hpp : pass1 p 1 L with
                  | mk c L' =>
                    have hLr' : L'.all row12 = true := by have := pass1_rows (p := p) (n := 1) hLr; rw [hpp] at this; exact this
                    have hLl' : L'.length ≤ L.length := by have := (pass1_sub (p := p) 1 L).length_le; rw [hpp] at this; exact this
                    have hT2 := rows_t0 hLr'
                    have hC2 := rows_cl hLr'
                    have hLd' := rows_dat hLr'
                    cases c
                    · have e : L' = L := by have := (passZ_false (p := p) 1 (L.length + 1) false L 0 (by show (pass1 p 1 L).1 = false; rw [hpp])).2; rw [show passZ p 1 (L.length + 1) false L 0 = pass1 p 1 L from rfl, hpp] at this; exact this
                      subst e
                      simp only [hpp] at hr
                      rw [if_pos trivial] at hr
                      subst hr
                      simp only [I36b, hfv, hcos, hnb]
                      repeat' with_reducible (first
                        | refine Wm_seq ?_
                        | refine Wm_skip ?_
                        | refine Wm_ret ?_
                        | refine Wm_block ?_
                        | refine Wm_exit ?_
                        | refine thenK_normal ?_
                        | refine thenK_ret ?_
                        | refine thenK_exit ?_
                        | refine blockK_normal ?_
                        | refine blockK_ret ?_
                        | refine blockK_here ?_
                        | refine loopK_ret ?_
                        | refine loopK_exit ?_
                        | refine unK_ret ?_
                        | refine unK_exit ?_
                        | refine unK_normal ?_
                        | refine loopOk_succ ?_
                        | refine blockK_exit (by decide) ?_
                        | (refine wreg (mos := q36_0) hE [0, 1] (by kernel_rfl) ?_; intro K hK; simp [q36_0, hLd, hLr, hLl, hn1, hp, hfv, hcos, hnb, hpp, res62, d61, d62, d34, d39, d59]; (repeat' (first | refine hK _ _ ?_ | refine And.intro ?_ ?_ | (intro hc; try subst hc))) <;> (try clear hK K))
                        | (refine wreg (mos := q36_1) hE [0, 1] (by kernel_rfl) ?_; intro K hK; simp [q36_1, hLd, hLr, hLl, hn1, hp, hfv, hcos, hnb, hpp, res62, d61, d62, d34, d39, d59]; (repeat' (first | refine hK _ _ ?_ | refine And.intro ?_ ?_ | (intro hc; try subst hc))) <;> (try clear hK K))
                        | (refine wreg (mos := q36_2) hE [0, 1, 17] (by kernel_rfl) ?_; intro K hK; simp [q36_2, hLd, hLr, hLl, hn1, hp, hfv, hcos, hnb, hpp, res62, d61, d62, d34, d39, d59]; (repeat' (first | refine hK _ _ ?_ | refine And.intro ?_ ?_ | (intro hc; try subst hc))) <;> (try clear hK K))
                        | (refine wreg (mos := q36_3) hE [4, 5] (by kernel_rfl) ?_; intro K hK; simp [q36_3, hLd, hLr, hLl, hn1, hp, hfv, hcos, hnb, hpp, res62, d61, d62, d34, d39, d59]; (repeat' (first | refine hK _ _ ?_ | refine And.intro ?_ ?_ | (intro hc; try subst hc))) <;> (try clear hK K))
                        | (refine wreg (mos := q36_4) hE [0, 1, 6] (by kernel_rfl) ?_; intro K hK; simp [q36_4, hLd, hLr, hLl, hn1, hp, hfv, hcos, hnb, hpp, res62, d61, d62, d34, d39, d59]; (repeat' (first | refine hK _ _ ?_ | refine And.intro ?_ ?_ | (intro hc; try subst hc))) <;> (try clear hK K))
                        | (refine wreg (mos := q36_5) hE [0, 1, 6, 23] (by kernel_rfl) ?_; intro K hK; simp [q36_5, hLd, hLr, hLl, hn1, hp, hfv, hcos, hnb, hpp, res62, d61, d62, d34, d39, d59]; (repeat' (first | refine hK _ _ ?_ | refine And.intro ?_ ?_ | (intro hc; try subst hc))) <;> (try clear hK K))
                        | (refine wreg (mos := q36_6) hE [0, 1, 6] (by kernel_rfl) ?_; intro K hK; simp [q36_6, hLd, hLr, hLl, hn1, hp, hfv, hcos, hnb, hpp, res62, d61, d62, d34, d39, d59]; (repeat' (first | refine hK _ _ ?_ | refine And.intro ?_ ?_ | (intro hc; try subst hc))) <;> (try clear hK K))
                        | (refine wreg (mos := q36_7) hE [0, 1, 6] (by kernel_rfl) ?_; intro K hK; simp [q36_7, hLd, hLr, hLl, hn1, hp, hfv, hcos, hnb, hpp, res62, d61, d62, d34, d39, d59]; (repeat' (first | refine hK _ _ ?_ | refine And.intro ?_ ?_ | (intro hc; try subst hc))) <;> (try clear hK K))
                        | (refine wreg (mos := q36_8) hE [0, 1, 7] (by kernel_rfl) ?_; intro K hK; simp [q36_8, hLd, hLr, hLl, hn1, hp, hfv, hcos, hnb, hpp, res62, d61, d62, d34, d39, d59]; (repeat' (first | refine hK _ _ ?_ | refine And.intro ?_ ?_ | (intro hc; try subst hc))) <;> (try clear hK K))
                        | (refine wreg (mos := q36_9) hE [0, 1, 7] (by kernel_rfl) ?_; intro K hK; simp [q36_9, hLd, hLr, hLl, hn1, hp, hfv, hcos, hnb, hpp, res62, d61, d62, d34, d39, d59]; (repeat' (first | refine hK _ _ ?_ | refine And.intro ?_ ?_ | (intro hc; try subst hc))) <;> (try clear hK K))
                        | (refine wreg (mos := q36_10) hE [0, 1, 38] (by kernel_rfl) ?_; intro K hK; simp [q36_10, hLd, hLr, hLl, hn1, hp, hfv, hcos, hnb, hpp, res62, d61, d62, d34, d39, d59]; (repeat' (first | refine hK _ _ ?_ | refine And.intro ?_ ?_ | (intro hc; try subst hc))) <;> (try clear hK K))
                        | (refine wreg (mos := q36_11) hE [4, 5] (by kernel_rfl) ?_; intro K hK; simp [q36_11, hLd, hLr, hLl, hn1, hp, hfv, hcos, hnb, hpp, res62, d61, d62, d34, d39, d59]; (repeat' (first | refine hK _ _ ?_ | refine And.intro ?_ ?_ | (intro hc; try subst hc))) <;> (try clear hK K))
                        | (refine Wm_cond (b := _) (by with_unfolding_all rfl) (fun hc => ?_) (fun hc => ?_) <;> simp at hc <;> (try subst hc)))
                      all_goals first | (simp; done) | (simp at *; omega) | ((try simp[hTS, hCS]); refine Imp.auto (by kernel_rfl) ?_ ?_ <;> simp [nmap, lkp, mkPl, prs, prsL, prT, ddL, idL, NLe, CRenL, CRen, Ren, RenL, NObj.none, hTS, hCS])
                    · skip
                      simp only [hpp] at hr
                      by_cases hlen2 : L'.length = L.length
                      · rw [if_pos hlen2] at hr
                        subst hr
                        simp only [I36b, hfv, hcos, hnb]
                        repeat' with_reducible (first
                          | refine Wm_seq ?_
                          | refine Wm_skip ?_
                          | refine Wm_ret ?_
                          | refine Wm_block ?_
                          | refine Wm_exit ?_
                          | refine thenK_normal ?_
                          | refine thenK_ret ?_
                          | refine thenK_exit ?_
                          | refine blockK_normal ?_
                          | refine blockK_ret ?_
                          | refine blockK_here ?_
                          | refine loopK_ret ?_
                          | refine loopK_exit ?_
                          | refine unK_ret ?_
                          | refine unK_exit ?_
                          | refine unK_normal ?_
                          | refine loopOk_succ ?_
                          | refine blockK_exit (by decide) ?_
                          | (refine wreg (mos := q36_0) hE [0, 1] (by kernel_rfl) ?_; intro K hK; simp [q36_0, hlen2, hLd, hLr, hLl, hn1, hp, hfv, hcos, hnb, hpp, res62, d61, d62, d34, d39, d59]; (repeat' (first | refine hK _ _ ?_ | refine And.intro ?_ ?_ | (intro hc; try subst hc))) <;> (try clear hK K))
                          | (refine wreg (mos := q36_1) hE [0, 1] (by kernel_rfl) ?_; intro K hK; simp [q36_1, hlen2, hLd, hLr, hLl, hn1, hp, hfv, hcos, hnb, hpp, res62, d61, d62, d34, d39, d59]; (repeat' (first | refine hK _ _ ?_ | refine And.intro ?_ ?_ | (intro hc; try subst hc))) <;> (try clear hK K))
                          | (refine wreg (mos := q36_2) hE [0, 1, 17] (by kernel_rfl) ?_; intro K hK; simp [q36_2, hlen2, hLd, hLr, hLl, hn1, hp, hfv, hcos, hnb, hpp, res62, d61, d62, d34, d39, d59]; (repeat' (first | refine hK _ _ ?_ | refine And.intro ?_ ?_ | (intro hc; try subst hc))) <;> (try clear hK K))
                          | (refine wreg (mos := q36_3) hE [4, 5] (by kernel_rfl) ?_; intro K hK; simp [q36_3, hlen2, hLd, hLr, hLl, hn1, hp, hfv, hcos, hnb, hpp, res62, d61, d62, d34, d39, d59]; (repeat' (first | refine hK _ _ ?_ | refine And.intro ?_ ?_ | (intro hc; try subst hc))) <;> (try clear hK K))
                          | (refine wreg (mos := q36_4) hE [0, 1, 6] (by kernel_rfl) ?_; intro K hK; simp [q36_4, hlen2, hLd, hLr, hLl, hn1, hp, hfv, hcos, hnb, hpp, res62, d61, d62, d34, d39, d59]; (repeat' (first | refine hK _ _ ?_ | refine And.intro ?_ ?_ | (intro hc; try subst hc))) <;> (try clear hK K))
                          | (refine wreg (mos := q36_5) hE [0, 1, 6, 23] (by kernel_rfl) ?_; intro K hK; simp [q36_5, hlen2, hLd, hLr, hLl, hn1, hp, hfv, hcos, hnb, hpp, res62, d61, d62, d34, d39, d59]; (repeat' (first | refine hK _ _ ?_ | refine And.intro ?_ ?_ | (intro hc; try subst hc))) <;> (try clear hK K))
                          | (refine wreg (mos := q36_6) hE [0, 1, 6] (by kernel_rfl) ?_; intro K hK; simp [q36_6, hlen2, hLd, hLr, hLl, hn1, hp, hfv, hcos, hnb, hpp, res62, d61, d62, d34, d39, d59]; (repeat' (first | refine hK _ _ ?_ | refine And.intro ?_ ?_ | (intro hc; try subst hc))) <;> (try clear hK K))
                          | (refine wreg (mos := q36_7) hE [0, 1, 6] (by kernel_rfl) ?_; intro K hK; simp [q36_7, hlen2, hLd, hLr, hLl, hn1, hp, hfv, hcos, hnb, hpp, res62, d61, d62, d34, d39, d59]; (repeat' (first | refine hK _ _ ?_ | refine And.intro ?_ ?_ | (intro hc; try subst hc))) <;> (try clear hK K))
                          | (refine wreg (mos := q36_8) hE [0, 1, 7] (by kernel_rfl) ?_; intro K hK; simp [q36_8, hlen2, hLd, hLr, hLl, hn1, hp, hfv, hcos, hnb, hpp, res62, d61, d62, d34, d39, d59]; (repeat' (first | refine hK _ _ ?_ | refine And.intro ?_ ?_ | (intro hc; try subst hc))) <;> (try clear hK K))
                          | (refine wreg (mos := q36_9) hE [0, 1, 7] (by kernel_rfl) ?_; intro K hK; simp [q36_9, hlen2, hLd, hLr, hLl, hn1, hp, hfv, hcos, hnb, hpp, res62, d61, d62, d34, d39, d59]; (repeat' (first | refine hK _ _ ?_ | refine And.intro ?_ ?_ | (intro hc; try subst hc))) <;> (try clear hK K))
                          | (refine wreg (mos := q36_10) hE [0, 1, 38] (by kernel_rfl) ?_; intro K hK; simp [q36_10, hlen2, hLd, hLr, hLl, hn1, hp, hfv, hcos, hnb, hpp, res62, d61, d62, d34, d39, d59]; (repeat' (first | refine hK _ _ ?_ | refine And.intro ?_ ?_ | (intro hc; try subst hc))) <;> (try clear hK K))
                          | (refine wreg (mos := q36_11) hE [4, 5] (by kernel_rfl) ?_; intro K hK; simp [q36_11, hlen2, hLd, hLr, hLl, hn1, hp, hfv, hcos, hnb, hpp, res62, d61, d62, d34, d39, d59]; (repeat' (first | refine hK _ _ ?_ | refine And.intro ?_ ?_ | (intro hc; try subst hc))) <;> (try clear hK K))
                          | (refine Wm_cond (b := _) (by with_unfolding_all rfl) (fun hc => ?_) (fun hc => ?_) <;> simp at hc <;> (try subst hc)))
                        all_goals first | (simp; done) | (simp at *; omega) | ((try simp[hTS, hCS, hlen2]); refine Imp.auto (by kernel_rfl) ?_ ?_ <;> simp [nmap, lkp, mkPl, prs, prsL, prT, ddL, idL, NLe, CRenL, CRen, Ren, RenL, NObj.none, hTS, hCS, hlen2])
                      · rw [if_neg hlen2] at hr
                        have hlt : L'.length < L.length := by omega
                        have hne2 : ¬ (L'.length : Int) = L.length := by omega
                        simp only [I36b, hfv, hcos, hnb]
                        repeat' with_reducible (first
                          | refine Wm_seq ?_
                          | refine Wm_skip ?_
                          | refine Wm_ret ?_
                          | refine Wm_block ?_
                          | refine Wm_exit ?_
                          | refine thenK_normal ?_
                          | refine thenK_ret ?_
                          | refine thenK_exit ?_
                          | refine blockK_normal ?_
                          | refine blockK_ret ?_
                          | refine blockK_here ?_
                          | refine loopK_ret ?_
                          | refine loopK_exit ?_
                          | refine unK_ret ?_
                          | refine unK_exit ?_
                          | refine unK_normal ?_
                          | refine loopOk_succ ?_
                          | refine blockK_exit (by decide) ?_
                          | (refine wreg (mos := q36_0) hE [0, 1] (by kernel_rfl) ?_; intro K hK; simp [q36_0, hlen2, hne2, hLd, hLr, hLl, hn1, hp, hfv, hcos, hnb, hpp, res62, d61, d62, d34, d39, d59]; (repeat' (first | refine hK _ _ ?_ | refine And.intro ?_ ?_ | (intro hc; try subst hc))) <;> (try clear hK K))
                          | (refine wreg (mos := q36_1) hE [0, 1] (by kernel_rfl) ?_; intro K hK; simp [q36_1, hlen2, hne2, hLd, hLr, hLl, hn1, hp, hfv, hcos, hnb, hpp, res62, d61, d62, d34, d39, d59]; (repeat' (first | refine hK _ _ ?_ | refine And.intro ?_ ?_ | (intro hc; try subst hc))) <;> (try clear hK K))
                          | (refine wreg (mos := q36_2) hE [0, 1, 17] (by kernel_rfl) ?_; intro K hK; simp [q36_2, hlen2, hne2, hLd, hLr, hLl, hn1, hp, hfv, hcos, hnb, hpp, res62, d61, d62, d34, d39, d59]; (repeat' (first | refine hK _ _ ?_ | refine And.intro ?_ ?_ | (intro hc; try subst hc))) <;> (try clear hK K))
                          | (refine wreg (mos := q36_3) hE [4, 5] (by kernel_rfl) ?_; intro K hK; simp [q36_3, hlen2, hne2, hLd, hLr, hLl, hn1, hp, hfv, hcos, hnb, hpp, res62, d61, d62, d34, d39, d59]; (repeat' (first | refine hK _ _ ?_ | refine And.intro ?_ ?_ | (intro hc; try subst hc))) <;> (try clear hK K))
                          | (refine wreg (mos := q36_4) hE [0, 1, 6] (by kernel_rfl) ?_; intro K hK; simp [q36_4, hlen2, hne2, hLd, hLr, hLl, hn1, hp, hfv, hcos, hnb, hpp, res62, d61, d62, d34, d39, d59]; (repeat' (first | refine hK _ _ ?_ | refine And.intro ?_ ?_ | (intro hc; try subst hc))) <;> (try clear hK K))
                          | (refine wreg (mos := q36_5) hE [0, 1, 6, 23] (by kernel_rfl) ?_; intro K hK; simp [q36_5, hlen2, hne2, hLd, hLr, hLl, hn1, hp, hfv, hcos, hnb, hpp, res62, d61, d62, d34, d39, d59]; (repeat' (first | refine hK _ _ ?_ | refine And.intro ?_ ?_ | (intro hc; try subst hc))) <;> (try clear hK K))
                          | (refine wreg (mos := q36_6) hE [0, 1, 6] (by kernel_rfl) ?_; intro K hK; simp [q36_6, hlen2, hne2, hLd, hLr, hLl, hn1, hp, hfv, hcos, hnb, hpp, res62, d61, d62, d34, d39, d59]; (repeat' (first | refine hK _ _ ?_ | refine And.intro ?_ ?_ | (intro hc; try subst hc))) <;> (try clear hK K))
                          | (refine wreg (mos := q36_7) hE [0, 1, 6] (by kernel_rfl) ?_; intro K hK; simp [q36_7, hlen2, hne2, hLd, hLr, hLl, hn1, hp, hfv, hcos, hnb, hpp, res62, d61, d62, d34, d39, d59]; (repeat' (first | refine hK _ _ ?_ | refine And.intro ?_ ?_ | (intro hc; try subst hc))) <;> (try clear hK K))
                          | (refine wreg (mos := q36_8) hE [0, 1, 7] (by kernel_rfl) ?_; intro K hK; simp [q36_8, hlen2, hne2, hLd, hLr, hLl, hn1, hp, hfv, hcos, hnb, hpp, res62, d61, d62, d34, d39, d59]; (repeat' (first | refine hK _ _ ?_ | refine And.intro ?_ ?_ | (intro hc; try subst hc))) <;> (try clear hK K))
                          | (refine wreg (mos := q36_9) hE [0, 1, 7] (by kernel_rfl) ?_; intro K hK; simp [q36_9, hlen2, hne2, hLd, hLr, hLl, hn1, hp, hfv, hcos, hnb, hpp, res62, d61, d62, d34, d39, d59]; (repeat' (first | refine hK _ _ ?_ | refine And.intro ?_ ?_ | (intro hc; try subst hc))) <;> (try clear hK K))
                          | (refine wreg (mos := q36_10) hE [0, 1, 38] (by kernel_rfl) ?_; intro K hK; simp [q36_10, hlen2, hne2, hLd, hLr, hLl, hn1, hp, hfv, hcos, hnb, hpp, res62, d61, d62, d34, d39, d59]; (repeat' (first | refine hK _ _ ?_ | refine And.intro ?_ ?_ | (intro hc; try subst hc))) <;> (try clear hK K))
                          | (refine wreg (mos := q36_11) hE [4, 5] (by kernel_rfl) ?_; intro K hK; simp [q36_11, hlen2, hne2, hLd, hLr, hLl, hn1, hp, hfv, hcos, hnb, hpp, res62, d61, d62, d34, d39, d59]; (repeat' (first | refine hK _ _ ?_ | refine And.intro ?_ ?_ | (intro hc; try subst hc))) <;> (try clear hK K))
                          | (refine Wm_cond (b := _) (by with_unfolding_all rfl) (fun hc => ?_) (fun hc => ?_) <;> simp at hc <;> (try subst hc)))
                        all_goals refine ⟨(L', f), ⟨hLr', by show L'.length ≤ els.length; omega, by show L'.length < f; omega, hr⟩, Nat.lt_succ_self f, ?_⟩
                        all_goals simp only [I36b, hfv, hcos, hnb]
                        all_goals rw [hS]
                        all_goals (refine Imp.auto (by kernel_rfl) ?_ ?_ <;> simp [nmap, lkp, mkPl, prs, prsL, prT, ddL, idL, NLe, CRenL, CRen, Ren, RenL, NObj.none, hT2, hC2])
          · rw [if_neg hpe]
            have hpe' : p els = false := by simpa using hpe
            unfold m36
            repeat' with_reducible (first
              | refine Wm_seq ?_
              | refine Wm_skip ?_
              | refine Wm_ret ?_
              | refine Wm_block ?_
              | refine Wm_exit ?_
              | refine thenK_normal ?_
              | refine thenK_ret ?_
              | refine thenK_exit ?_
              | refine blockK_normal ?_
              | refine blockK_ret ?_
              | refine blockK_here ?_
              | refine loopK_ret ?_
              | refine loopK_exit ?_
              | refine unK_ret ?_
              | refine unK_exit ?_
              | refine unK_normal ?_
              | refine loopOk_succ ?_
              | refine blockK_exit (by decide) ?_
              | (refine wreg (mos := q36_0) hE [0, 1] (by kernel_rfl) ?_; intro K hK; simp [q36_0, hpe', hfv, hcos, hnb, hdat, hrows, hlen, hpx, d61, d62, d34, d39, d59]; (repeat' (first | refine hK _ _ ?_ | refine And.intro ?_ ?_ | (intro hc; try subst hc))) <;> (try clear hK K))
              | (refine wreg (mos := q36_1) hE [0, 1] (by kernel_rfl) ?_; intro K hK; simp [q36_1, hpe', hfv, hcos, hnb, hdat, hrows, hlen, hpx, d61, d62, d34, d39, d59]; (repeat' (first | refine hK _ _ ?_ | refine And.intro ?_ ?_ | (intro hc; try subst hc))) <;> (try clear hK K))
              | (refine wreg (mos := q36_2) hE [0, 1, 17] (by kernel_rfl) ?_; intro K hK; simp [q36_2, hpe', hfv, hcos, hnb, hdat, hrows, hlen, hpx, d61, d62, d34, d39, d59]; (repeat' (first | refine hK _ _ ?_ | refine And.intro ?_ ?_ | (intro hc; try subst hc))) <;> (try clear hK K))
              | (refine wreg (mos := q36_3) hE [4, 5] (by kernel_rfl) ?_; intro K hK; simp [q36_3, hpe', hfv, hcos, hnb, hdat, hrows, hlen, hpx, d61, d62, d34, d39, d59]; (repeat' (first | refine hK _ _ ?_ | refine And.intro ?_ ?_ | (intro hc; try subst hc))) <;> (try clear hK K))
              | (refine wreg (mos := q36_4) hE [0, 1, 6] (by kernel_rfl) ?_; intro K hK; simp [q36_4, hpe', hfv, hcos, hnb, hdat, hrows, hlen, hpx, d61, d62, d34, d39, d59]; (repeat' (first | refine hK _ _ ?_ | refine And.intro ?_ ?_ | (intro hc; try subst hc))) <;> (try clear hK K))
              | (refine wreg (mos := q36_5) hE [0, 1, 6, 23] (by kernel_rfl) ?_; intro K hK; simp [q36_5, hpe', hfv, hcos, hnb, hdat, hrows, hlen, hpx, d61, d62, d34, d39, d59]; (repeat' (first | refine hK _ _ ?_ | refine And.intro ?_ ?_ | (intro hc; try subst hc))) <;> (try clear hK K))
              | (refine wreg (mos := q36_6) hE [0, 1, 6] (by kernel_rfl) ?_; intro K hK; simp [q36_6, hpe', hfv, hcos, hnb, hdat, hrows, hlen, hpx, d61, d62, d34, d39, d59]; (repeat' (first | refine hK _ _ ?_ | refine And.intro ?_ ?_ | (intro hc; try subst hc))) <;> (try clear hK K))
              | (refine wreg (mos := q36_7) hE [0, 1, 6] (by kernel_rfl) ?_; intro K hK; simp [q36_7, hpe', hfv, hcos, hnb, hdat, hrows, hlen, hpx, d61, d62, d34, d39, d59]; (repeat' (first | refine hK _ _ ?_ | refine And.intro ?_ ?_ | (intro hc; try subst hc))) <;> (try clear hK K))
              | (refine wreg (mos := q36_8) hE [0, 1, 7] (by kernel_rfl) ?_; intro K hK; simp [q36_8, hpe', hfv, hcos, hnb, hdat, hrows, hlen, hpx, d61, d62, d34, d39, d59]; (repeat' (first | refine hK _ _ ?_ | refine And.intro ?_ ?_ | (intro hc; try subst hc))) <;> (try clear hK K))
              | (refine wreg (mos := q36_9) hE [0, 1, 7] (by kernel_rfl) ?_; intro K hK; simp [q36_9, hpe', hfv, hcos, hnb, hdat, hrows, hlen, hpx, d61, d62, d34, d39, d59]; (repeat' (first | refine hK _ _ ?_ | refine And.intro ?_ ?_ | (intro hc; try subst hc))) <;> (try clear hK K))
              | (refine wreg (mos := q36_10) hE [0, 1, 38] (by kernel_rfl) ?_; intro K hK; simp [q36_10, hpe', hfv, hcos, hnb, hdat, hrows, hlen, hpx, d61, d62, d34, d39, d59]; (repeat' (first | refine hK _ _ ?_ | refine And.intro ?_ ?_ | (intro hc; try subst hc))) <;> (try clear hK K))
              | (refine wreg (mos := q36_11) hE [4, 5] (by kernel_rfl) ?_; intro K hK; simp [q36_11, hpe', hfv, hcos, hnb, hdat, hrows, hlen, hpx, d61, d62, d34, d39, d59]; (repeat' (first | refine hK _ _ ?_ | refine And.intro ?_ ?_ | (intro hc; try subst hc))) <;> (try clear hK K))
              | (refine Wm_cond (b := _) (by with_unfolding_all rfl) (fun hc => ?_) (fun hc => ?_) <;> simp at hc <;> (try subst hc)))
            all_goals first | (simp; done) | (simp at *; omega) | ((try simp); refine Imp.auto (by kernel_rfl) ?_ ?_ <;> simp [nmap, lkp, mkPl, prs, prsL, prT, ddL, idL, NLe, CRenL, CRen, Ren, RenL, NObj.none])
      · cases h
    · cases h
  · cases h
end Go.W
