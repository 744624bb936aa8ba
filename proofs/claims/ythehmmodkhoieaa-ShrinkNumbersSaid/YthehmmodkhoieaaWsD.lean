import Derived.Test.YthehmmodkhoieaaWsC
namespace Go.W
open Go.Proofs
set_option linter.unusedSimpArgs false
set_option linter.unusedVariables false
set_option maxHeartbeats 8000000
attribute [local irreducible] Wm

/-- What a closure that came says of a script. -/
def predZ (g : Nat) (caps : List AV) (cos : List NObj) : Option (List (List AV) → Bool) :=
  match g, caps, cos with
  | 34, [.ptr (.top 1) 0 0, .ptr (.top 2) 0 0], [.view 0 1 [[.int .i64 kind]], .view 0 1 [[.int .i64 m]]] => some fun els => decide (m ≤ sumZ els kind)
  | 39, [.ptr (.top 1) 0 0, .ptr (.top 2) 0 0], [.view 0 1 [[.int .i64 kind]], .view 0 1 [[.int .i64 m]]] => some fun els => decide (m ≤ sumZ els kind)
  | 59, [], [] => some fun els => decide (3 ≤ sumZ els 2)
  | _, _, _ => none

theorem predZ_some {g : Nat} {caps : List AV} {cos : List NObj} {p : List (List AV) → Bool} (h : predZ g caps cos = some p) :
    (∃ kind m : Int, (g = 34 ∨ g = 39) ∧ caps = [.ptr (.top 1) 0 0, .ptr (.top 2) 0 0] ∧ cos = [.view 0 1 [[.int .i64 kind]], .view 0 1 [[.int .i64 m]]] ∧ p = fun els => decide (m ≤ sumZ els kind)) ∨
    (g = 59 ∧ caps = [] ∧ cos = [] ∧ p = fun els => decide (3 ≤ sumZ els 2)) := by
  unfold predZ at h
  split at h
  · injection h with h; exact .inl ⟨_, _, .inl rfl, rfl, rfl, h.symm⟩
  · injection h with h; exact .inl ⟨_, _, .inr rfl, rfl, rfl, h.symm⟩
  · injection h with h; exact .inr ⟨rfl, rfl, rfl, h.symm⟩
  · cases h

def res62 (els : List (List AV)) : Bool × List (List AV) → AV
  | (false, _) => .sl (.top 0) 0 els.length
  | (true, l) => .os 0 12 l

def d62 : List AV → List NObj → Option AV
  | [.sl (.top 0) 0 n, .int .i64 k, .fn g caps], .view 0 12 els :: cos => match predZ g caps cos with
    | some p => if n = els.length ∧ els.all row12 = true ∧ els.length ≤ 200000 ∧ 1 ≤ k ∧ k ≤ 200000 then some (res62 els (pass1 p k.toNat els)) else none
    | none => none
  | _, _ => none

def I62 (els : List (List AV)) (k : Int) (fv : AV) (cos : List (Nat × NObj)) (nb : Nat) : Bool × List (List AV) × Nat × Nat → St
  | (false, _, fr, _) => ⟨[(0, .sl (.top 0) 0 els.length), (1, .int .i64 k), (2, fv), (7, .int .i64 fr)], (0, .view 0 12 els) :: cos, nb⟩
  | (true, L, fr, _) => ⟨[(0, .sl (.top nb) 0 L.length), (1, .int .i64 k), (2, fv), (7, .int .i64 fr)], (nb, .arr 0 12 L) :: cos, nb + 1⟩

theorem pass1_rows {p : List (List AV) → Bool} {n : Nat} {els : List (List AV)} (h : els.all row12 = true) : (pass1 p n els).2.all row12 = true := rows_sub (pass1_sub n els) h

theorem ok62 : ROk d62 := by
  intro xs os r h
  unfold d62 at h
  split at h
  · split at h
    · split at h
      · rename_i n k g caps els cos _ p hp hc
        injection h with h; subst h
        have hr := pass1_rows (p := p) (n := k.toNat) hc.2.1
        cases hb : pass1 p k.toNat els with
        | mk b l =>
          rw [hb] at hr
          have hd := rows_dat hr
          cases b
          · simp [res62]
          · simp [res62, hd]
      · cases h
    · cases h
  · cases h
theorem s62 : Sound Try.prog 62 (rdS d62 ok62) := by
  refine rd_sound Try.func62 nm62 rc62 rv62 ok62 fun xs os r h vs ρ0 hvs => ⟨xs, ?_, fun _ h => h, fun w0 S hS => ?_⟩
  · unfold d62 at h
    (repeat' (split at h)) <;> first | (cases h; done) | exact Nat.le_of_ble_eq_true rfl
  unfold d62 at h
  split at h
  · split at h
    · split at h
      · rename_i n k g caps els cos _ p hp hcond
        injection h with h
        subst h
        have hE : SoundAll Try.prog (EL [(82, rdS d82 ok82), (34, rdS d34 ok34), (39, rdS d39 ok39), (59, rdS d59 ok59)]) := EL_sound (by simp only [List.mem_cons, List.not_mem_nil, or_false, forall_eq_or_imp, forall_eq]; exact ⟨s82, s34, s39, s59⟩)
        obtain ⟨rfl, hrows, hlen, hk0, hkk⟩ := hcond
        obtain ⟨b0, rfl⟩ : ∃ b : Nat, k = (b : Int) := ⟨k.toNat, by omega⟩
        simp only [Int.toNat_natCast]
        have hk1 : b0 ≤ 200000 := by omega
        have hk2 : ((b0 : Int)) ≤ 200000 := by omega
        have hk3 : 1 ≤ b0 := by omega
        obtain ⟨fv, hfv⟩ : ∃ fv : AV, fv = .fn g caps := ⟨_, rfl⟩
        obtain ⟨cosl, hcos⟩ : ∃ cosl : List (Nat × NObj), cosl = idxO 1 cos := ⟨_, rfl⟩
        obtain ⟨nb, hnb⟩ : ∃ nb : Nat, nb = 1 + cos.length := ⟨_, rfl⟩
        have hfin : ∃ f0 : Nat → Nat, True := ⟨id, trivial⟩
        have hT0 := rows_t0 hrows
        have hCl := rows_cl hrows
        obtain ⟨q, hq⟩ : ∃ q, q = pass1 p b0 els := ⟨_, rfl⟩
        rw [← hq]
        have hq0 : passZ p b0 (els.length + 1) false els 0 = q := hq.symm
        clear hq
        rcases predZ_some hp with ⟨kind, m, hg, rfl, rfl, hpe⟩ | ⟨rfl, rfl, rfl, hpe⟩
        rcases hg with rfl | rfl
        all_goals have hpx := fun X => (congrFun hpe X).symm
        all_goals clear hpe hp
        all_goals simp only [idxO, List.length_cons, List.length_nil] at hcos hnb
        · unfold m62
          repeat' with_reducible (first
            | refine Wm_seq ?_
            | refine Wm_skip ?_
            | refine Wm_ret ?_
            | refine Wm_block ?_
            | refine Wm_exit ?_
            | refine thenK_normal ?_
            | refine thenK_ret ?_
            | refine thenK_exit ?_
            | refine blockK_normal ?_
            | refine blockK_ret ?_
            | refine blockK_here ?_
            | refine loopK_ret ?_
            | refine loopK_exit ?_
            | refine unK_ret ?_
            | refine unK_exit ?_
            | refine unK_normal ?_
            | refine loopOk_succ ?_
            | refine blockK_exit (by decide) ?_
            | (refine wreg (mos := q62_0) hE [0, 1, 2] (by kernel_rfl) ?_; intro K hK; simp [q62_0, hfv, hcos, hnb, d82, d34, d39, d59]; (repeat' (first | refine hK _ _ ?_ | refine And.intro ?_ ?_ | (intro hc; try subst hc))) <;> (try clear hK K))
            | (refine wreg (mos := q62_1) hE [0, 1, 2, 7] (by kernel_rfl) ?_; intro K hK; simp [q62_1, hfv, hcos, hnb, d82, d34, d39, d59]; (repeat' (first | refine hK _ _ ?_ | refine And.intro ?_ ?_ | (intro hc; try subst hc))) <;> (try clear hK K))
            | (refine wreg (mos := q62_2) hE [0, 1, 2, 7, 12] (by kernel_rfl) ?_; intro K hK; simp [q62_2, hfv, hcos, hnb, d82, d34, d39, d59]; (repeat' (first | refine hK _ _ ?_ | refine And.intro ?_ ?_ | (intro hc; try subst hc))) <;> (try clear hK K))
            | (refine wreg (mos := q62_3) hE [0, 1, 2, 7, 8] (by kernel_rfl) ?_; intro K hK; simp [q62_3, hfv, hcos, hnb, d82, d34, d39, d59]; (repeat' (first | refine hK _ _ ?_ | refine And.intro ?_ ?_ | (intro hc; try subst hc))) <;> (try clear hK K))
            | (refine wreg (mos := q62_4) hE [0, 1, 2, 7, 8, 19] (by kernel_rfl) ?_; intro K hK; simp [q62_4, hfv, hcos, hnb, d82, d34, d39, d59]; (repeat' (first | refine hK _ _ ?_ | refine And.intro ?_ ?_ | (intro hc; try subst hc))) <;> (try clear hK K))
            | (refine wreg (mos := q62_5) hE [0, 1, 2, 7] (by kernel_rfl) ?_; intro K hK; simp [q62_5, hfv, hcos, hnb, d82, d34, d39, d59]; (repeat' (first | refine hK _ _ ?_ | refine And.intro ?_ ?_ | (intro hc; try subst hc))) <;> (try clear hK K))
            | (refine wreg (mos := q62_6) hE [0, 1, 2, 7] (by kernel_rfl) ?_; intro K hK; simp [q62_6, hfv, hcos, hnb, d82, d34, d39, d59]; (repeat' (first | refine hK _ _ ?_ | refine And.intro ?_ ?_ | (intro hc; try subst hc))) <;> (try clear hK K))
            | (refine wreg (mos := q62_7) hE [6] (by kernel_rfl) ?_; intro K hK; simp [q62_7, hfv, hcos, hnb, d82, d34, d39, d59]; (repeat' (first | refine hK _ _ ?_ | refine And.intro ?_ ?_ | (intro hc; try subst hc))) <;> (try clear hK K))
            | (refine Wm_cond (b := _) (by with_unfolding_all rfl) (fun hc => ?_) (fun hc => ?_) <;> simp at hc <;> (try subst hc)))
          all_goals (refine Wm_loop (I62 els b0 fv cosl nb) (fun x => (x.1 = false → x.2.1 = els) ∧ x.2.1.all row12 = true ∧ x.2.1.length ≤ 200000 ∧ x.2.2.1 ≤ 400000 ∧ passZ p b0 x.2.2.2 x.1 x.2.1 x.2.2.1 = q ∧ x.2.1.length - x.2.2.1 < x.2.2.2) (fun x => x.2.2.2) (false, els, 0, els.length + 1) ⟨fun _ => rfl, hrows, hlen, Nat.zero_le _, hq0, by simp⟩ ?_ ?_)
          · simp only [I62, hfv, hcos, hnb]
            rw [hS]
            refine Imp.auto (by kernel_rfl) ?_ ?_ <;> simp [nmap, lkp, mkPl, prs, prsL, prT, ddL, idL, NLe, CRenL, CRen, Ren, RenL, NObj.none, hT0, hCl]
          · intro ⟨b, L, fr, f⟩ ⟨r1, r2, r3, r4, r5, r6⟩
            replace r1 : b = false → L = els := r1
            replace r2 : L.all row12 = true := r2
            replace r3 : L.length ≤ 200000 := r3
            replace r4 : fr ≤ 400000 := r4
            replace r5 : passZ p b0 f b L fr = q := r5
            replace r6 : L.length - fr < f := r6
            obtain ⟨f, rfl⟩ : ∃ f', f = f' + 1 := ⟨f - 1, by omega⟩
            simp only [passZ] at r5
            have hT1 := rows_t0 r2
            have hC1 := rows_cl r2
            have hdat := rows_dat r2
            by_cases hfr : fr < L.length
            · rw [if_pos hfr] at r5
              have hflI : (fr : Int) < (L.length : Int) := by omega
              have hfl : fr ≤ L.length := by omega
              have hfl2 : (fr : Int) ≤ (L.length : Int) := by omega
              have w1 : IntKind.wrap .i64 ((fr : Int) + b0) = (fr : Int) + b0 := wrap_in (by omega) (by omega)
              have hlt := delZ_lt (n := b0) hfr hk3
              have hXr := rows_del r2 fr b0
              obtain ⟨X, hX⟩ : ∃ X, delZ L fr b0 = X := ⟨_, rfl⟩
              rw [hX] at hlt hXr r5
              have hXd := rows_dat hXr
              have hXl : X.length ≤ 200000 := by omega
              have hT2 := rows_t0 hXr
              have hC2 := rows_cl hXr
              by_cases hb : p X = true
              · rw [if_pos hb] at r5
                cases b
                · have e := r1 rfl
                  subst e
                  simp only [I62, hfv, hcos, hnb]
                  repeat' with_reducible (first
                    | refine Wm_seq ?_
                    | refine Wm_skip ?_
                    | refine Wm_ret ?_
                    | refine Wm_block ?_
                    | refine Wm_exit ?_
                    | refine thenK_normal ?_
                    | refine thenK_ret ?_
                    | refine thenK_exit ?_
                    | refine blockK_normal ?_
                    | refine blockK_ret ?_
                    | refine blockK_here ?_
                    | refine loopK_ret ?_
                    | refine loopK_exit ?_
                    | refine unK_ret ?_
                    | refine unK_exit ?_
                    | refine unK_normal ?_
                    | refine loopOk_succ ?_
                    | refine blockK_exit (by decide) ?_
                    | (refine wreg (mos := q62_0) hE [0, 1, 2] (by kernel_rfl) ?_; intro K hK; simp [q62_0, hb, hX, hXd, hXr, hXl, hdat, r2, r3, hfl, hfl2, hflI, hk1, hk2, w1, hpx, hfv, hcos, hnb, d82, d34, d39, d59]; (repeat' (first | refine hK _ _ ?_ | refine And.intro ?_ ?_ | (intro hc; try subst hc))) <;> (try clear hK K))
                    | (refine wreg (mos := q62_1) hE [0, 1, 2, 7] (by kernel_rfl) ?_; intro K hK; simp [q62_1, hb, hX, hXd, hXr, hXl, hdat, r2, r3, hfl, hfl2, hflI, hk1, hk2, w1, hpx, hfv, hcos, hnb, d82, d34, d39, d59]; (repeat' (first | refine hK _ _ ?_ | refine And.intro ?_ ?_ | (intro hc; try subst hc))) <;> (try clear hK K))
                    | (refine wreg (mos := q62_2) hE [0, 1, 2, 7, 12] (by kernel_rfl) ?_; intro K hK; simp [q62_2, hb, hX, hXd, hXr, hXl, hdat, r2, r3, hfl, hfl2, hflI, hk1, hk2, w1, hpx, hfv, hcos, hnb, d82, d34, d39, d59]; (repeat' (first | refine hK _ _ ?_ | refine And.intro ?_ ?_ | (intro hc; try subst hc))) <;> (try clear hK K))
                    | (refine wreg (mos := q62_3) hE [0, 1, 2, 7, 8] (by kernel_rfl) ?_; intro K hK; simp [q62_3, hb, hX, hXd, hXr, hXl, hdat, r2, r3, hfl, hfl2, hflI, hk1, hk2, w1, hpx, hfv, hcos, hnb, d82, d34, d39, d59]; (repeat' (first | refine hK _ _ ?_ | refine And.intro ?_ ?_ | (intro hc; try subst hc))) <;> (try clear hK K))
                    | (refine wreg (mos := q62_4) hE [0, 1, 2, 7, 8, 19] (by kernel_rfl) ?_; intro K hK; simp [q62_4, hb, hX, hXd, hXr, hXl, hdat, r2, r3, hfl, hfl2, hflI, hk1, hk2, w1, hpx, hfv, hcos, hnb, d82, d34, d39, d59]; (repeat' (first | refine hK _ _ ?_ | refine And.intro ?_ ?_ | (intro hc; try subst hc))) <;> (try clear hK K))
                    | (refine wreg (mos := q62_5) hE [0, 1, 2, 7] (by kernel_rfl) ?_; intro K hK; simp [q62_5, hb, hX, hXd, hXr, hXl, hdat, r2, r3, hfl, hfl2, hflI, hk1, hk2, w1, hpx, hfv, hcos, hnb, d82, d34, d39, d59]; (repeat' (first | refine hK _ _ ?_ | refine And.intro ?_ ?_ | (intro hc; try subst hc))) <;> (try clear hK K))
                    | (refine wreg (mos := q62_6) hE [0, 1, 2, 7] (by kernel_rfl) ?_; intro K hK; simp [q62_6, hb, hX, hXd, hXr, hXl, hdat, r2, r3, hfl, hfl2, hflI, hk1, hk2, w1, hpx, hfv, hcos, hnb, d82, d34, d39, d59]; (repeat' (first | refine hK _ _ ?_ | refine And.intro ?_ ?_ | (intro hc; try subst hc))) <;> (try clear hK K))
                    | (refine wreg (mos := q62_7) hE [6] (by kernel_rfl) ?_; intro K hK; simp [q62_7, hb, hX, hXd, hXr, hXl, hdat, r2, r3, hfl, hfl2, hflI, hk1, hk2, w1, hpx, hfv, hcos, hnb, d82, d34, d39, d59]; (repeat' (first | refine hK _ _ ?_ | refine And.intro ?_ ?_ | (intro hc; try subst hc))) <;> (try clear hK K))
                    | (refine Wm_cond (b := _) (by with_unfolding_all rfl) (fun hc => ?_) (fun hc => ?_) <;> simp at hc <;> (try subst hc)))
                  all_goals refine ⟨(true, X, fr, f), ⟨fun h => by (cases h), hXr, hXl, r4, r5, by show X.length - fr < f; omega⟩, Nat.lt_succ_self f, ?_⟩
                  all_goals simp only [I62, hfv, hcos, hnb]
                  all_goals rw [hS]
                  all_goals (refine Imp.auto (by kernel_rfl) ?_ ?_ <;> simp [nmap, lkp, mkPl, prs, prsL, prT, ddL, idL, NLe, CRenL, CRen, Ren, RenL, NObj.none, hT2, hC2])
                · simp only [I62, hfv, hcos, hnb]
                  repeat' with_reducible (first
                    | refine Wm_seq ?_
                    | refine Wm_skip ?_
                    | refine Wm_ret ?_
                    | refine Wm_block ?_
                    | refine Wm_exit ?_
                    | refine thenK_normal ?_
                    | refine thenK_ret ?_
                    | refine thenK_exit ?_
                    | refine blockK_normal ?_
                    | refine blockK_ret ?_
                    | refine blockK_here ?_
                    | refine loopK_ret ?_
                    | refine loopK_exit ?_
                    | refine unK_ret ?_
                    | refine unK_exit ?_
                    | refine unK_normal ?_
                    | refine loopOk_succ ?_
                    | refine blockK_exit (by decide) ?_
                    | (refine wreg (mos := q62_0) hE [0, 1, 2] (by kernel_rfl) ?_; intro K hK; simp [q62_0, hb, hX, hXd, hXr, hXl, hdat, r2, r3, hfl, hfl2, hflI, hk1, hk2, w1, hpx, hfv, hcos, hnb, d82, d34, d39, d59]; (repeat' (first | refine hK _ _ ?_ | refine And.intro ?_ ?_ | (intro hc; try subst hc))) <;> (try clear hK K))
                    | (refine wreg (mos := q62_1) hE [0, 1, 2, 7] (by kernel_rfl) ?_; intro K hK; simp [q62_1, hb, hX, hXd, hXr, hXl, hdat, r2, r3, hfl, hfl2, hflI, hk1, hk2, w1, hpx, hfv, hcos, hnb, d82, d34, d39, d59]; (repeat' (first | refine hK _ _ ?_ | refine And.intro ?_ ?_ | (intro hc; try subst hc))) <;> (try clear hK K))
                    | (refine wreg (mos := q62_2) hE [0, 1, 2, 7, 12] (by kernel_rfl) ?_; intro K hK; simp [q62_2, hb, hX, hXd, hXr, hXl, hdat, r2, r3, hfl, hfl2, hflI, hk1, hk2, w1, hpx, hfv, hcos, hnb, d82, d34, d39, d59]; (repeat' (first | refine hK _ _ ?_ | refine And.intro ?_ ?_ | (intro hc; try subst hc))) <;> (try clear hK K))
                    | (refine wreg (mos := q62_3) hE [0, 1, 2, 7, 8] (by kernel_rfl) ?_; intro K hK; simp [q62_3, hb, hX, hXd, hXr, hXl, hdat, r2, r3, hfl, hfl2, hflI, hk1, hk2, w1, hpx, hfv, hcos, hnb, d82, d34, d39, d59]; (repeat' (first | refine hK _ _ ?_ | refine And.intro ?_ ?_ | (intro hc; try subst hc))) <;> (try clear hK K))
                    | (refine wreg (mos := q62_4) hE [0, 1, 2, 7, 8, 19] (by kernel_rfl) ?_; intro K hK; simp [q62_4, hb, hX, hXd, hXr, hXl, hdat, r2, r3, hfl, hfl2, hflI, hk1, hk2, w1, hpx, hfv, hcos, hnb, d82, d34, d39, d59]; (repeat' (first | refine hK _ _ ?_ | refine And.intro ?_ ?_ | (intro hc; try subst hc))) <;> (try clear hK K))
                    | (refine wreg (mos := q62_5) hE [0, 1, 2, 7] (by kernel_rfl) ?_; intro K hK; simp [q62_5, hb, hX, hXd, hXr, hXl, hdat, r2, r3, hfl, hfl2, hflI, hk1, hk2, w1, hpx, hfv, hcos, hnb, d82, d34, d39, d59]; (repeat' (first | refine hK _ _ ?_ | refine And.intro ?_ ?_ | (intro hc; try subst hc))) <;> (try clear hK K))
                    | (refine wreg (mos := q62_6) hE [0, 1, 2, 7] (by kernel_rfl) ?_; intro K hK; simp [q62_6, hb, hX, hXd, hXr, hXl, hdat, r2, r3, hfl, hfl2, hflI, hk1, hk2, w1, hpx, hfv, hcos, hnb, d82, d34, d39, d59]; (repeat' (first | refine hK _ _ ?_ | refine And.intro ?_ ?_ | (intro hc; try subst hc))) <;> (try clear hK K))
                    | (refine wreg (mos := q62_7) hE [6] (by kernel_rfl) ?_; intro K hK; simp [q62_7, hb, hX, hXd, hXr, hXl, hdat, r2, r3, hfl, hfl2, hflI, hk1, hk2, w1, hpx, hfv, hcos, hnb, d82, d34, d39, d59]; (repeat' (first | refine hK _ _ ?_ | refine And.intro ?_ ?_ | (intro hc; try subst hc))) <;> (try clear hK K))
                    | (refine Wm_cond (b := _) (by with_unfolding_all rfl) (fun hc => ?_) (fun hc => ?_) <;> simp at hc <;> (try subst hc)))
                  all_goals refine ⟨(true, X, fr, f), ⟨fun h => by (cases h), hXr, hXl, r4, r5, by show X.length - fr < f; omega⟩, Nat.lt_succ_self f, ?_⟩
                  all_goals simp only [I62, hfv, hcos, hnb]
                  all_goals rw [hS]
                  all_goals (refine Imp.auto (by kernel_rfl) ?_ ?_ <;> simp [nmap, lkp, mkPl, prs, prsL, prT, ddL, idL, NLe, CRenL, CRen, Ren, RenL, NObj.none, hT2, hC2])
              · rw [if_neg hb] at r5
                have hb' : p X = false := by simpa using hb
                cases b
                · have e := r1 rfl
                  subst e
                  simp only [I62, hfv, hcos, hnb]
                  repeat' with_reducible (first
                    | refine Wm_seq ?_
                    | refine Wm_skip ?_
                    | refine Wm_ret ?_
                    | refine Wm_block ?_
                    | refine Wm_exit ?_
                    | refine thenK_normal ?_
                    | refine thenK_ret ?_
                    | refine thenK_exit ?_
                    | refine blockK_normal ?_
                    | refine blockK_ret ?_
                    | refine blockK_here ?_
                    | refine loopK_ret ?_
                    | refine loopK_exit ?_
                    | refine unK_ret ?_
                    | refine unK_exit ?_
                    | refine unK_normal ?_
                    | refine loopOk_succ ?_
                    | refine blockK_exit (by decide) ?_
                    | (refine wreg (mos := q62_0) hE [0, 1, 2] (by kernel_rfl) ?_; intro K hK; simp [q62_0, hb', hX, hXd, hXr, hXl, hdat, r2, r3, hfl, hfl2, hflI, hk1, hk2, w1, hpx, hfv, hcos, hnb, d82, d34, d39, d59]; (repeat' (first | refine hK _ _ ?_ | refine And.intro ?_ ?_ | (intro hc; try subst hc))) <;> (try clear hK K))
                    | (refine wreg (mos := q62_1) hE [0, 1, 2, 7] (by kernel_rfl) ?_; intro K hK; simp [q62_1, hb', hX, hXd, hXr, hXl, hdat, r2, r3, hfl, hfl2, hflI, hk1, hk2, w1, hpx, hfv, hcos, hnb, d82, d34, d39, d59]; (repeat' (first | refine hK _ _ ?_ | refine And.intro ?_ ?_ | (intro hc; try subst hc))) <;> (try clear hK K))
                    | (refine wreg (mos := q62_2) hE [0, 1, 2, 7, 12] (by kernel_rfl) ?_; intro K hK; simp [q62_2, hb', hX, hXd, hXr, hXl, hdat, r2, r3, hfl, hfl2, hflI, hk1, hk2, w1, hpx, hfv, hcos, hnb, d82, d34, d39, d59]; (repeat' (first | refine hK _ _ ?_ | refine And.intro ?_ ?_ | (intro hc; try subst hc))) <;> (try clear hK K))
                    | (refine wreg (mos := q62_3) hE [0, 1, 2, 7, 8] (by kernel_rfl) ?_; intro K hK; simp [q62_3, hb', hX, hXd, hXr, hXl, hdat, r2, r3, hfl, hfl2, hflI, hk1, hk2, w1, hpx, hfv, hcos, hnb, d82, d34, d39, d59]; (repeat' (first | refine hK _ _ ?_ | refine And.intro ?_ ?_ | (intro hc; try subst hc))) <;> (try clear hK K))
                    | (refine wreg (mos := q62_4) hE [0, 1, 2, 7, 8, 19] (by kernel_rfl) ?_; intro K hK; simp [q62_4, hb', hX, hXd, hXr, hXl, hdat, r2, r3, hfl, hfl2, hflI, hk1, hk2, w1, hpx, hfv, hcos, hnb, d82, d34, d39, d59]; (repeat' (first | refine hK _ _ ?_ | refine And.intro ?_ ?_ | (intro hc; try subst hc))) <;> (try clear hK K))
                    | (refine wreg (mos := q62_5) hE [0, 1, 2, 7] (by kernel_rfl) ?_; intro K hK; simp [q62_5, hb', hX, hXd, hXr, hXl, hdat, r2, r3, hfl, hfl2, hflI, hk1, hk2, w1, hpx, hfv, hcos, hnb, d82, d34, d39, d59]; (repeat' (first | refine hK _ _ ?_ | refine And.intro ?_ ?_ | (intro hc; try subst hc))) <;> (try clear hK K))
                    | (refine wreg (mos := q62_6) hE [0, 1, 2, 7] (by kernel_rfl) ?_; intro K hK; simp [q62_6, hb', hX, hXd, hXr, hXl, hdat, r2, r3, hfl, hfl2, hflI, hk1, hk2, w1, hpx, hfv, hcos, hnb, d82, d34, d39, d59]; (repeat' (first | refine hK _ _ ?_ | refine And.intro ?_ ?_ | (intro hc; try subst hc))) <;> (try clear hK K))
                    | (refine wreg (mos := q62_7) hE [6] (by kernel_rfl) ?_; intro K hK; simp [q62_7, hb', hX, hXd, hXr, hXl, hdat, r2, r3, hfl, hfl2, hflI, hk1, hk2, w1, hpx, hfv, hcos, hnb, d82, d34, d39, d59]; (repeat' (first | refine hK _ _ ?_ | refine And.intro ?_ ?_ | (intro hc; try subst hc))) <;> (try clear hK K))
                    | (refine Wm_cond (b := _) (by with_unfolding_all rfl) (fun hc => ?_) (fun hc => ?_) <;> simp at hc <;> (try subst hc)))
                  all_goals refine ⟨(false, L, fr + b0, f), ⟨fun _ => rfl, r2, r3, by show fr + b0 ≤ 400000; omega, r5, by show L.length - (fr + b0) < f; omega⟩, Nat.lt_succ_self f, ?_⟩
                  all_goals simp only [I62, hfv, hcos, hnb]
                  all_goals rw [hS]
                  all_goals (refine Imp.auto (by kernel_rfl) ?_ ?_ <;> simp [nmap, lkp, mkPl, prs, prsL, prT, ddL, idL, NLe, CRenL, CRen, Ren, RenL, NObj.none, hT1, hC1])
                · simp only [I62, hfv, hcos, hnb]
                  repeat' with_reducible (first
                    | refine Wm_seq ?_
                    | refine Wm_skip ?_
                    | refine Wm_ret ?_
                    | refine Wm_block ?_
                    | refine Wm_exit ?_
                    | refine thenK_normal ?_
                    | refine thenK_ret ?_
                    | refine thenK_exit ?_
                    | refine blockK_normal ?_
                    | refine blockK_ret ?_
                    | refine blockK_here ?_
                    | refine loopK_ret ?_
                    | refine loopK_exit ?_
                    | refine unK_ret ?_
                    | refine unK_exit ?_
                    | refine unK_normal ?_
                    | refine loopOk_succ ?_
                    | refine blockK_exit (by decide) ?_
                    | (refine wreg (mos := q62_0) hE [0, 1, 2] (by kernel_rfl) ?_; intro K hK; simp [q62_0, hb', hX, hXd, hXr, hXl, hdat, r2, r3, hfl, hfl2, hflI, hk1, hk2, w1, hpx, hfv, hcos, hnb, d82, d34, d39, d59]; (repeat' (first | refine hK _ _ ?_ | refine And.intro ?_ ?_ | (intro hc; try subst hc))) <;> (try clear hK K))
                    | (refine wreg (mos := q62_1) hE [0, 1, 2, 7] (by kernel_rfl) ?_; intro K hK; simp [q62_1, hb', hX, hXd, hXr, hXl, hdat, r2, r3, hfl, hfl2, hflI, hk1, hk2, w1, hpx, hfv, hcos, hnb, d82, d34, d39, d59]; (repeat' (first | refine hK _ _ ?_ | refine And.intro ?_ ?_ | (intro hc; try subst hc))) <;> (try clear hK K))
                    | (refine wreg (mos := q62_2) hE [0, 1, 2, 7, 12] (by kernel_rfl) ?_; intro K hK; simp [q62_2, hb', hX, hXd, hXr, hXl, hdat, r2, r3, hfl, hfl2, hflI, hk1, hk2, w1, hpx, hfv, hcos, hnb, d82, d34, d39, d59]; (repeat' (first | refine hK _ _ ?_ | refine And.intro ?_ ?_ | (intro hc; try subst hc))) <;> (try clear hK K))
                    | (refine wreg (mos := q62_3) hE [0, 1, 2, 7, 8] (by kernel_rfl) ?_; intro K hK; simp [q62_3, hb', hX, hXd, hXr, hXl, hdat, r2, r3, hfl, hfl2, hflI, hk1, hk2, w1, hpx, hfv, hcos, hnb, d82, d34, d39, d59]; (repeat' (first | refine hK _ _ ?_ | refine And.intro ?_ ?_ | (intro hc; try subst hc))) <;> (try clear hK K))
                    | (refine wreg (mos := q62_4) hE [0, 1, 2, 7, 8, 19] (by kernel_rfl) ?_; intro K hK; simp [q62_4, hb', hX, hXd, hXr, hXl, hdat, r2, r3, hfl, hfl2, hflI, hk1, hk2, w1, hpx, hfv, hcos, hnb, d82, d34, d39, d59]; (repeat' (first | refine hK _ _ ?_ | refine And.intro ?_ ?_ | (intro hc; try subst hc))) <;> (try clear hK K))
                    | (refine wreg (mos := q62_5) hE [0, 1, 2, 7] (by kernel_rfl) ?_; intro K hK; simp [q62_5, hb', hX, hXd, hXr, hXl, hdat, r2, r3, hfl, hfl2, hflI, hk1, hk2, w1, hpx, hfv, hcos, hnb, d82, d34, d39, d59]; (repeat' (first | refine hK _ _ ?_ | refine And.intro ?_ ?_ | (intro hc; try subst hc))) <;> (try clear hK K))
                    | (refine wreg (mos := q62_6) hE [0, 1, 2, 7] (by kernel_rfl) ?_; intro K hK; simp [q62_6, hb', hX, hXd, hXr, hXl, hdat, r2, r3, hfl, hfl2, hflI, hk1, hk2, w1, hpx, hfv, hcos, hnb, d82, d34, d39, d59]; (repeat' (first | refine hK _ _ ?_ | refine And.intro ?_ ?_ | (intro hc; try subst hc))) <;> (try clear hK K))
                    | (refine wreg (mos := q62_7) hE [6] (by kernel_rfl) ?_; intro K hK; simp [q62_7, hb', hX, hXd, hXr, hXl, hdat, r2, r3, hfl, hfl2, hflI, hk1, hk2, w1, hpx, hfv, hcos, hnb, d82, d34, d39, d59]; (repeat' (first | refine hK _ _ ?_ | refine And.intro ?_ ?_ | (intro hc; try subst hc))) <;> (try clear hK K))
                    | (refine Wm_cond (b := _) (by with_unfolding_all rfl) (fun hc => ?_) (fun hc => ?_) <;> simp at hc <;> (try subst hc)))
                  all_goals refine ⟨(true, L, fr + b0, f), ⟨fun h => by (cases h), r2, r3, by show fr + b0 ≤ 400000; omega, r5, by show L.length - (fr + b0) < f; omega⟩, Nat.lt_succ_self f, ?_⟩
                  all_goals simp only [I62, hfv, hcos, hnb]
                  all_goals rw [hS]
                  all_goals (refine Imp.auto (by kernel_rfl) ?_ ?_ <;> simp [nmap, lkp, mkPl, prs, prsL, prT, ddL, idL, NLe, CRenL, CRen, Ren, RenL, NObj.none, hT1, hC1])
            · rw [if_neg hfr] at r5
              have hflI : ¬ (fr : Int) < (L.length : Int) := by omega
              cases b
              · have e := r1 rfl
                subst e
                subst r5
                simp only [I62, hfv, hcos, hnb]
                repeat' with_reducible (first
                  | refine Wm_seq ?_
                  | refine Wm_skip ?_
                  | refine Wm_ret ?_
                  | refine Wm_block ?_
                  | refine Wm_exit ?_
                  | refine thenK_normal ?_
                  | refine thenK_ret ?_
                  | refine thenK_exit ?_
                  | refine blockK_normal ?_
                  | refine blockK_ret ?_
                  | refine blockK_here ?_
                  | refine loopK_ret ?_
                  | refine loopK_exit ?_
                  | refine unK_ret ?_
                  | refine unK_exit ?_
                  | refine unK_normal ?_
                  | refine loopOk_succ ?_
                  | refine blockK_exit (by decide) ?_
                  | (refine wreg (mos := q62_0) hE [0, 1, 2] (by kernel_rfl) ?_; intro K hK; simp [q62_0, hflI, res62, hfv, hcos, hnb, d82, d34, d39, d59]; (repeat' (first | refine hK _ _ ?_ | refine And.intro ?_ ?_ | (intro hc; try subst hc))) <;> (try clear hK K))
                  | (refine wreg (mos := q62_1) hE [0, 1, 2, 7] (by kernel_rfl) ?_; intro K hK; simp [q62_1, hflI, res62, hfv, hcos, hnb, d82, d34, d39, d59]; (repeat' (first | refine hK _ _ ?_ | refine And.intro ?_ ?_ | (intro hc; try subst hc))) <;> (try clear hK K))
                  | (refine wreg (mos := q62_2) hE [0, 1, 2, 7, 12] (by kernel_rfl) ?_; intro K hK; simp [q62_2, hflI, res62, hfv, hcos, hnb, d82, d34, d39, d59]; (repeat' (first | refine hK _ _ ?_ | refine And.intro ?_ ?_ | (intro hc; try subst hc))) <;> (try clear hK K))
                  | (refine wreg (mos := q62_3) hE [0, 1, 2, 7, 8] (by kernel_rfl) ?_; intro K hK; simp [q62_3, hflI, res62, hfv, hcos, hnb, d82, d34, d39, d59]; (repeat' (first | refine hK _ _ ?_ | refine And.intro ?_ ?_ | (intro hc; try subst hc))) <;> (try clear hK K))
                  | (refine wreg (mos := q62_4) hE [0, 1, 2, 7, 8, 19] (by kernel_rfl) ?_; intro K hK; simp [q62_4, hflI, res62, hfv, hcos, hnb, d82, d34, d39, d59]; (repeat' (first | refine hK _ _ ?_ | refine And.intro ?_ ?_ | (intro hc; try subst hc))) <;> (try clear hK K))
                  | (refine wreg (mos := q62_5) hE [0, 1, 2, 7] (by kernel_rfl) ?_; intro K hK; simp [q62_5, hflI, res62, hfv, hcos, hnb, d82, d34, d39, d59]; (repeat' (first | refine hK _ _ ?_ | refine And.intro ?_ ?_ | (intro hc; try subst hc))) <;> (try clear hK K))
                  | (refine wreg (mos := q62_6) hE [0, 1, 2, 7] (by kernel_rfl) ?_; intro K hK; simp [q62_6, hflI, res62, hfv, hcos, hnb, d82, d34, d39, d59]; (repeat' (first | refine hK _ _ ?_ | refine And.intro ?_ ?_ | (intro hc; try subst hc))) <;> (try clear hK K))
                  | (refine wreg (mos := q62_7) hE [6] (by kernel_rfl) ?_; intro K hK; simp [q62_7, hflI, res62, hfv, hcos, hnb, d82, d34, d39, d59]; (repeat' (first | refine hK _ _ ?_ | refine And.intro ?_ ?_ | (intro hc; try subst hc))) <;> (try clear hK K))
                  | (refine Wm_cond (b := _) (by with_unfolding_all rfl) (fun hc => ?_) (fun hc => ?_) <;> simp at hc <;> (try subst hc)))
                all_goals first | (simp; done) | (simp at *; omega) | ((try simp[res62, hT1, hC1]); refine Imp.auto (by kernel_rfl) ?_ ?_ <;> simp [nmap, lkp, mkPl, prs, prsL, prT, ddL, idL, NLe, CRenL, CRen, Ren, RenL, NObj.none, res62, hT1, hC1])
              · subst r5
                simp only [I62, hfv, hcos, hnb]
                repeat' with_reducible (first
                  | refine Wm_seq ?_
                  | refine Wm_skip ?_
                  | refine Wm_ret ?_
                  | refine Wm_block ?_
                  | refine Wm_exit ?_
                  | refine thenK_normal ?_
                  | refine thenK_ret ?_
                  | refine thenK_exit ?_
                  | refine blockK_normal ?_
                  | refine blockK_ret ?_
                  | refine blockK_here ?_
                  | refine loopK_ret ?_
                  | refine loopK_exit ?_
                  | refine unK_ret ?_
                  | refine unK_exit ?_
                  | refine unK_normal ?_
                  | refine loopOk_succ ?_
                  | refine blockK_exit (by decide) ?_
                  | (refine wreg (mos := q62_0) hE [0, 1, 2] (by kernel_rfl) ?_; intro K hK; simp [q62_0, hflI, res62, hfv, hcos, hnb, d82, d34, d39, d59]; (repeat' (first | refine hK _ _ ?_ | refine And.intro ?_ ?_ | (intro hc; try subst hc))) <;> (try clear hK K))
                  | (refine wreg (mos := q62_1) hE [0, 1, 2, 7] (by kernel_rfl) ?_; intro K hK; simp [q62_1, hflI, res62, hfv, hcos, hnb, d82, d34, d39, d59]; (repeat' (first | refine hK _ _ ?_ | refine And.intro ?_ ?_ | (intro hc; try subst hc))) <;> (try clear hK K))
                  | (refine wreg (mos := q62_2) hE [0, 1, 2, 7, 12] (by kernel_rfl) ?_; intro K hK; simp [q62_2, hflI, res62, hfv, hcos, hnb, d82, d34, d39, d59]; (repeat' (first | refine hK _ _ ?_ | refine And.intro ?_ ?_ | (intro hc; try subst hc))) <;> (try clear hK K))
                  | (refine wreg (mos := q62_3) hE [0, 1, 2, 7, 8] (by kernel_rfl) ?_; intro K hK; simp [q62_3, hflI, res62, hfv, hcos, hnb, d82, d34, d39, d59]; (repeat' (first | refine hK _ _ ?_ | refine And.intro ?_ ?_ | (intro hc; try subst hc))) <;> (try clear hK K))
                  | (refine wreg (mos := q62_4) hE [0, 1, 2, 7, 8, 19] (by kernel_rfl) ?_; intro K hK; simp [q62_4, hflI, res62, hfv, hcos, hnb, d82, d34, d39, d59]; (repeat' (first | refine hK _ _ ?_ | refine And.intro ?_ ?_ | (intro hc; try subst hc))) <;> (try clear hK K))
                  | (refine wreg (mos := q62_5) hE [0, 1, 2, 7] (by kernel_rfl) ?_; intro K hK; simp [q62_5, hflI, res62, hfv, hcos, hnb, d82, d34, d39, d59]; (repeat' (first | refine hK _ _ ?_ | refine And.intro ?_ ?_ | (intro hc; try subst hc))) <;> (try clear hK K))
                  | (refine wreg (mos := q62_6) hE [0, 1, 2, 7] (by kernel_rfl) ?_; intro K hK; simp [q62_6, hflI, res62, hfv, hcos, hnb, d82, d34, d39, d59]; (repeat' (first | refine hK _ _ ?_ | refine And.intro ?_ ?_ | (intro hc; try subst hc))) <;> (try clear hK K))
                  | (refine wreg (mos := q62_7) hE [6] (by kernel_rfl) ?_; intro K hK; simp [q62_7, hflI, res62, hfv, hcos, hnb, d82, d34, d39, d59]; (repeat' (first | refine hK _ _ ?_ | refine And.intro ?_ ?_ | (intro hc; try subst hc))) <;> (try clear hK K))
                  | (refine Wm_cond (b := _) (by with_unfolding_all rfl) (fun hc => ?_) (fun hc => ?_) <;> simp at hc <;> (try subst hc)))
                all_goals first | (simp; done) | (simp at *; omega) | ((try simp[res62, hT1, hC1]); refine Imp.auto (by kernel_rfl) ?_ ?_ <;> simp [nmap, lkp, mkPl, prs, prsL, prT, ddL, idL, NLe, CRenL, CRen, Ren, RenL, NObj.none, res62, hT1, hC1])
        · unfold m62
          repeat' with_reducible (first
            | refine Wm_seq ?_
            | refine Wm_skip ?_
            | refine Wm_ret ?_
            | refine Wm_block ?_
            | refine Wm_exit ?_
            | refine thenK_normal ?_
            | refine thenK_ret ?_
            | refine thenK_exit ?_
            | refine blockK_normal ?_
            | refine blockK_ret ?_
            | refine blockK_here ?_
            | refine loopK_ret ?_
            | refine loopK_exit ?_
            | refine unK_ret ?_
            | refine unK_exit ?_
            | refine unK_normal ?_
            | refine loopOk_succ ?_
            | refine blockK_exit (by decide) ?_
            | (refine wreg (mos := q62_0) hE [0, 1, 2] (by kernel_rfl) ?_; intro K hK; simp [q62_0, hfv, hcos, hnb, d82, d34, d39, d59]; (repeat' (first | refine hK _ _ ?_ | refine And.intro ?_ ?_ | (intro hc; try subst hc))) <;> (try clear hK K))
            | (refine wreg (mos := q62_1) hE [0, 1, 2, 7] (by kernel_rfl) ?_; intro K hK; simp [q62_1, hfv, hcos, hnb, d82, d34, d39, d59]; (repeat' (first | refine hK _ _ ?_ | refine And.intro ?_ ?_ | (intro hc; try subst hc))) <;> (try clear hK K))
            | (refine wreg (mos := q62_2) hE [0, 1, 2, 7, 12] (by kernel_rfl) ?_; intro K hK; simp [q62_2, hfv, hcos, hnb, d82, d34, d39, d59]; (repeat' (first | refine hK _ _ ?_ | refine And.intro ?_ ?_ | (intro hc; try subst hc))) <;> (try clear hK K))
            | (refine wreg (mos := q62_3) hE [0, 1, 2, 7, 8] (by kernel_rfl) ?_; intro K hK; simp [q62_3, hfv, hcos, hnb, d82, d34, d39, d59]; (repeat' (first | refine hK _ _ ?_ | refine And.intro ?_ ?_ | (intro hc; try subst hc))) <;> (try clear hK K))
            | (refine wreg (mos := q62_4) hE [0, 1, 2, 7, 8, 19] (by kernel_rfl) ?_; intro K hK; simp [q62_4, hfv, hcos, hnb, d82, d34, d39, d59]; (repeat' (first | refine hK _ _ ?_ | refine And.intro ?_ ?_ | (intro hc; try subst hc))) <;> (try clear hK K))
            | (refine wreg (mos := q62_5) hE [0, 1, 2, 7] (by kernel_rfl) ?_; intro K hK; simp [q62_5, hfv, hcos, hnb, d82, d34, d39, d59]; (repeat' (first | refine hK _ _ ?_ | refine And.intro ?_ ?_ | (intro hc; try subst hc))) <;> (try clear hK K))
            | (refine wreg (mos := q62_6) hE [0, 1, 2, 7] (by kernel_rfl) ?_; intro K hK; simp [q62_6, hfv, hcos, hnb, d82, d34, d39, d59]; (repeat' (first | refine hK _ _ ?_ | refine And.intro ?_ ?_ | (intro hc; try subst hc))) <;> (try clear hK K))
            | (refine wreg (mos := q62_7) hE [6] (by kernel_rfl) ?_; intro K hK; simp [q62_7, hfv, hcos, hnb, d82, d34, d39, d59]; (repeat' (first | refine hK _ _ ?_ | refine And.intro ?_ ?_ | (intro hc; try subst hc))) <;> (try clear hK K))
            | (refine Wm_cond (b := _) (by with_unfolding_all rfl) (fun hc => ?_) (fun hc => ?_) <;> simp at hc <;> (try subst hc)))
          all_goals (refine Wm_loop (I62 els b0 fv cosl nb) (fun x => (x.1 = false → x.2.1 = els) ∧ x.2.1.all row12 = true ∧ x.2.1.length ≤ 200000 ∧ x.2.2.1 ≤ 400000 ∧ passZ p b0 x.2.2.2 x.1 x.2.1 x.2.2.1 = q ∧ x.2.1.length - x.2.2.1 < x.2.2.2) (fun x => x.2.2.2) (false, els, 0, els.length + 1) ⟨fun _ => rfl, hrows, hlen, Nat.zero_le _, hq0, by simp⟩ ?_ ?_)
          · simp only [I62, hfv, hcos, hnb]
            rw [hS]
            refine Imp.auto (by kernel_rfl) ?_ ?_ <;> simp [nmap, lkp, mkPl, prs, prsL, prT, ddL, idL, NLe, CRenL, CRen, Ren, RenL, NObj.none, hT0, hCl]
          · intro ⟨b, L, fr, f⟩ ⟨r1, r2, r3, r4, r5, r6⟩
            replace r1 : b = false → L = els := r1
            replace r2 : L.all row12 = true := r2
            replace r3 : L.length ≤ 200000 := r3
            replace r4 : fr ≤ 400000 := r4
            replace r5 : passZ p b0 f b L fr = q := r5
            replace r6 : L.length - fr < f := r6
            obtain ⟨f, rfl⟩ : ∃ f', f = f' + 1 := ⟨f - 1, by omega⟩
            simp only [passZ] at r5
            have hT1 := rows_t0 r2
            have hC1 := rows_cl r2
            have hdat := rows_dat r2
            by_cases hfr : fr < L.length
            · rw [if_pos hfr] at r5
              have hflI : (fr : Int) < (L.length : Int) := by omega
              have hfl : fr ≤ L.length := by omega
              have hfl2 : (fr : Int) ≤ (L.length : Int) := by omega
              have w1 : IntKind.wrap .i64 ((fr : Int) + b0) = (fr : Int) + b0 := wrap_in (by omega) (by omega)
              have hlt := delZ_lt (n := b0) hfr hk3
              have hXr := rows_del r2 fr b0
              obtain ⟨X, hX⟩ : ∃ X, delZ L fr b0 = X := ⟨_, rfl⟩
              rw [hX] at hlt hXr r5
              have hXd := rows_dat hXr
              have hXl : X.length ≤ 200000 := by omega
              have hT2 := rows_t0 hXr
              have hC2 := rows_cl hXr
              by_cases hb : p X = true
              · rw [if_pos hb] at r5
                cases b
                · have e := r1 rfl
                  subst e
                  simp only [I62, hfv, hcos, hnb]
                  repeat' with_reducible (first
                    | refine Wm_seq ?_
                    | refine Wm_skip ?_
                    | refine Wm_ret ?_
                    | refine Wm_block ?_
                    | refine Wm_exit ?_
                    | refine thenK_normal ?_
                    | refine thenK_ret ?_
                    | refine thenK_exit ?_
                    | refine blockK_normal ?_
                    | refine blockK_ret ?_
                    | refine blockK_here ?_
                    | refine loopK_ret ?_
                    | refine loopK_exit ?_
                    | refine unK_ret ?_
                    | refine unK_exit ?_
                    | refine unK_normal ?_
                    | refine loopOk_succ ?_
                    | refine blockK_exit (by decide) ?_
                    | (refine wreg (mos := q62_0) hE [0, 1, 2] (by kernel_rfl) ?_; intro K hK; simp [q62_0, hb, hX, hXd, hXr, hXl, hdat, r2, r3, hfl, hfl2, hflI, hk1, hk2, w1, hpx, hfv, hcos, hnb, d82, d34, d39, d59]; (repeat' (first | refine hK _ _ ?_ | refine And.intro ?_ ?_ | (intro hc; try subst hc))) <;> (try clear hK K))
                    | (refine wreg (mos := q62_1) hE [0, 1, 2, 7] (by kernel_rfl) ?_; intro K hK; simp [q62_1, hb, hX, hXd, hXr, hXl, hdat, r2, r3, hfl, hfl2, hflI, hk1, hk2, w1, hpx, hfv, hcos, hnb, d82, d34, d39, d59]; (repeat' (first | refine hK _ _ ?_ | refine And.intro ?_ ?_ | (intro hc; try subst hc))) <;> (try clear hK K))
                    | (refine wreg (mos := q62_2) hE [0, 1, 2, 7, 12] (by kernel_rfl) ?_; intro K hK; simp [q62_2, hb, hX, hXd, hXr, hXl, hdat, r2, r3, hfl, hfl2, hflI, hk1, hk2, w1, hpx, hfv, hcos, hnb, d82, d34, d39, d59]; (repeat' (first | refine hK _ _ ?_ | refine And.intro ?_ ?_ | (intro hc; try subst hc))) <;> (try clear hK K))
                    | (refine wreg (mos := q62_3) hE [0, 1, 2, 7, 8] (by kernel_rfl) ?_; intro K hK; simp [q62_3, hb, hX, hXd, hXr, hXl, hdat, r2, r3, hfl, hfl2, hflI, hk1, hk2, w1, hpx, hfv, hcos, hnb, d82, d34, d39, d59]; (repeat' (first | refine hK _ _ ?_ | refine And.intro ?_ ?_ | (intro hc; try subst hc))) <;> (try clear hK K))
                    | (refine wreg (mos := q62_4) hE [0, 1, 2, 7, 8, 19] (by kernel_rfl) ?_; intro K hK; simp [q62_4, hb, hX, hXd, hXr, hXl, hdat, r2, r3, hfl, hfl2, hflI, hk1, hk2, w1, hpx, hfv, hcos, hnb, d82, d34, d39, d59]; (repeat' (first | refine hK _ _ ?_ | refine And.intro ?_ ?_ | (intro hc; try subst hc))) <;> (try clear hK K))
                    | (refine wreg (mos := q62_5) hE [0, 1, 2, 7] (by kernel_rfl) ?_; intro K hK; simp [q62_5, hb, hX, hXd, hXr, hXl, hdat, r2, r3, hfl, hfl2, hflI, hk1, hk2, w1, hpx, hfv, hcos, hnb, d82, d34, d39, d59]; (repeat' (first | refine hK _ _ ?_ | refine And.intro ?_ ?_ | (intro hc; try subst hc))) <;> (try clear hK K))
                    | (refine wreg (mos := q62_6) hE [0, 1, 2, 7] (by kernel_rfl) ?_; intro K hK; simp [q62_6, hb, hX, hXd, hXr, hXl, hdat, r2, r3, hfl, hfl2, hflI, hk1, hk2, w1, hpx, hfv, hcos, hnb, d82, d34, d39, d59]; (repeat' (first | refine hK _ _ ?_ | refine And.intro ?_ ?_ | (intro hc; try subst hc))) <;> (try clear hK K))
                    | (refine wreg (mos := q62_7) hE [6] (by kernel_rfl) ?_; intro K hK; simp [q62_7, hb, hX, hXd, hXr, hXl, hdat, r2, r3, hfl, hfl2, hflI, hk1, hk2, w1, hpx, hfv, hcos, hnb, d82, d34, d39, d59]; (repeat' (first | refine hK _ _ ?_ | refine And.intro ?_ ?_ | (intro hc; try subst hc))) <;> (try clear hK K))
                    | (refine Wm_cond (b := _) (by with_unfolding_all rfl) (fun hc => ?_) (fun hc => ?_) <;> simp at hc <;> (try subst hc)))
                  all_goals refine ⟨(true, X, fr, f), ⟨fun h => by (cases h), hXr, hXl, r4, r5, by show X.length - fr < f; omega⟩, Nat.lt_succ_self f, ?_⟩
                  all_goals simp only [I62, hfv, hcos, hnb]
                  all_goals rw [hS]
                  all_goals (refine Imp.auto (by kernel_rfl) ?_ ?_ <;> simp [nmap, lkp, mkPl, prs, prsL, prT, ddL, idL, NLe, CRenL, CRen, Ren, RenL, NObj.none, hT2, hC2])
                · simp only [I62, hfv, hcos, hnb]
                  repeat' with_reducible (first
                    | refine Wm_seq ?_
                    | refine Wm_skip ?_
                    | refine Wm_ret ?_
                    | refine Wm_block ?_
                    | refine Wm_exit ?_
                    | refine thenK_normal ?_
                    | refine thenK_ret ?_
                    | refine thenK_exit ?_
                    | refine blockK_normal ?_
                    | refine blockK_ret ?_
                    | refine blockK_here ?_
                    | refine loopK_ret ?_
                    | refine loopK_exit ?_
                    | refine unK_ret ?_
                    | refine unK_exit ?_
                    | refine unK_normal ?_
                    | refine loopOk_succ ?_
                    | refine blockK_exit (by decide) ?_
                    | (refine wreg (mos := q62_0) hE [0, 1, 2] (by kernel_rfl) ?_; intro K hK; simp [q62_0, hb, hX, hXd, hXr, hXl, hdat, r2, r3, hfl, hfl2, hflI, hk1, hk2, w1, hpx, hfv, hcos, hnb, d82, d34, d39, d59]; (repeat' (first | refine hK _ _ ?_ | refine And.intro ?_ ?_ | (intro hc; try subst hc))) <;> (try clear hK K))
                    | (refine wreg (mos := q62_1) hE [0, 1, 2, 7] (by kernel_rfl) ?_; intro K hK; simp [q62_1, hb, hX, hXd, hXr, hXl, hdat, r2, r3, hfl, hfl2, hflI, hk1, hk2, w1, hpx, hfv, hcos, hnb, d82, d34, d39, d59]; (repeat' (first | refine hK _ _ ?_ | refine And.intro ?_ ?_ | (intro hc; try subst hc))) <;> (try clear hK K))
                    | (refine wreg (mos := q62_2) hE [0, 1, 2, 7, 12] (by kernel_rfl) ?_; intro K hK; simp [q62_2, hb, hX, hXd, hXr, hXl, hdat, r2, r3, hfl, hfl2, hflI, hk1, hk2, w1, hpx, hfv, hcos, hnb, d82, d34, d39, d59]; (repeat' (first | refine hK _ _ ?_ | refine And.intro ?_ ?_ | (intro hc; try subst hc))) <;> (try clear hK K))
                    | (refine wreg (mos := q62_3) hE [0, 1, 2, 7, 8] (by kernel_rfl) ?_; intro K hK; simp [q62_3, hb, hX, hXd, hXr, hXl, hdat, r2, r3, hfl, hfl2, hflI, hk1, hk2, w1, hpx, hfv, hcos, hnb, d82, d34, d39, d59]; (repeat' (first | refine hK _ _ ?_ | refine And.intro ?_ ?_ | (intro hc; try subst hc))) <;> (try clear hK K))
                    | (refine wreg (mos := q62_4) hE [0, 1, 2, 7, 8, 19] (by kernel_rfl) ?_; intro K hK; simp [q62_4, hb, hX, hXd, hXr, hXl, hdat, r2, r3, hfl, hfl2, hflI, hk1, hk2, w1, hpx, hfv, hcos, hnb, d82, d34, d39, d59]; (repeat' (first | refine hK _ _ ?_ | refine And.intro ?_ ?_ | (intro hc; try subst hc))) <;> (try clear hK K))
                    | (refine wreg (mos := q62_5) hE [0, 1, 2, 7] (by kernel_rfl) ?_; intro K hK; simp [q62_5, hb, hX, hXd, hXr, hXl, hdat, r2, r3, hfl, hfl2, hflI, hk1, hk2, w1, hpx, hfv, hcos, hnb, d82, d34, d39, d59]; (repeat' (first | refine hK _ _ ?_ | refine And.intro ?_ ?_ | (intro hc; try subst hc))) <;> (try clear hK K))
                    | (refine wreg (mos := q62_6) hE [0, 1, 2, 7] (by kernel_rfl) ?_; intro K hK; simp [q62_6, hb, hX, hXd, hXr, hXl, hdat, r2, r3, hfl, hfl2, hflI, hk1, hk2, w1, hpx, hfv, hcos, hnb, d82, d34, d39, d59]; (repeat' (first | refine hK _ _ ?_ | refine And.intro ?_ ?_ | (intro hc; try subst hc))) <;> (try clear hK K))
                    | (refine wreg (mos := q62_7) hE [6] (by kernel_rfl) ?_; intro K hK; simp [q62_7, hb, hX, hXd, hXr, hXl, hdat, r2, r3, hfl, hfl2, hflI, hk1, hk2, w1, hpx, hfv, hcos, hnb, d82, d34, d39, d59]; (repeat' (first | refine hK _ _ ?_ | refine And.intro ?_ ?_ | (intro hc; try subst hc))) <;> (try clear hK K))
                    | (refine Wm_cond (b := _) (by with_unfolding_all rfl) (fun hc => ?_) (fun hc => ?_) <;> simp at hc <;> (try subst hc)))
                  all_goals refine ⟨(true, X, fr, f), ⟨fun h => by (cases h), hXr, hXl, r4, r5, by show X.length - fr < f; omega⟩, Nat.lt_succ_self f, ?_⟩
                  all_goals simp only [I62, hfv, hcos, hnb]
                  all_goals rw [hS]
                  all_goals (refine Imp.auto (by kernel_rfl) ?_ ?_ <;> simp [nmap, lkp, mkPl, prs, prsL, prT, ddL, idL, NLe, CRenL, CRen, Ren, RenL, NObj.none, hT2, hC2])
              · rw [if_neg hb] at r5
                have hb' : p X = false := by simpa using hb
                cases b
                · have e := r1 rfl
                  subst e
                  simp only [I62, hfv, hcos, hnb]
                  repeat' with_reducible (first
                    | refine Wm_seq ?_
                    | refine Wm_skip ?_
                    | refine Wm_ret ?_
                    | refine Wm_block ?_
                    | refine Wm_exit ?_
                    | refine thenK_normal ?_
                    | refine thenK_ret ?_
                    | refine thenK_exit ?_
                    | refine blockK_normal ?_
                    | refine blockK_ret ?_
                    | refine blockK_here ?_
                    | refine loopK_ret ?_
                    | refine loopK_exit ?_
                    | refine unK_ret ?_
                    | refine unK_exit ?_
                    | refine unK_normal ?_
                    | refine loopOk_succ ?_
                    | refine blockK_exit (by decide) ?_
                    | (refine wreg (mos := q62_0) hE [0, 1, 2] (by kernel_rfl) ?_; intro K hK; simp [q62_0, hb', hX, hXd, hXr, hXl, hdat, r2, r3, hfl, hfl2, hflI, hk1, hk2, w1, hpx, hfv, hcos, hnb, d82, d34, d39, d59]; (repeat' (first | refine hK _ _ ?_ | refine And.intro ?_ ?_ | (intro hc; try subst hc))) <;> (try clear hK K))
                    | (refine wreg (mos := q62_1) hE [0, 1, 2, 7] (by kernel_rfl) ?_; intro K hK; simp [q62_1, hb', hX, hXd, hXr, hXl, hdat, r2, r3, hfl, hfl2, hflI, hk1, hk2, w1, hpx, hfv, hcos, hnb, d82, d34, d39, d59]; (repeat' (first | refine hK _ _ ?_ | refine And.intro ?_ ?_ | (intro hc; try subst hc))) <;> (try clear hK K))
                    | (refine wreg (mos := q62_2) hE [0, 1, 2, 7, 12] (by kernel_rfl) ?_; intro K hK; simp [q62_2, hb', hX, hXd, hXr, hXl, hdat, r2, r3, hfl, hfl2, hflI, hk1, hk2, w1, hpx, hfv, hcos, hnb, d82, d34, d39, d59]; (repeat' (first | refine hK _ _ ?_ | refine And.intro ?_ ?_ | (intro hc; try subst hc))) <;> (try clear hK K))
                    | (refine wreg (mos := q62_3) hE [0, 1, 2, 7, 8] (by kernel_rfl) ?_; intro K hK; simp [q62_3, hb', hX, hXd, hXr, hXl, hdat, r2, r3, hfl, hfl2, hflI, hk1, hk2, w1, hpx, hfv, hcos, hnb, d82, d34, d39, d59]; (repeat' (first | refine hK _ _ ?_ | refine And.intro ?_ ?_ | (intro hc; try subst hc))) <;> (try clear hK K))
                    | (refine wreg (mos := q62_4) hE [0, 1, 2, 7, 8, 19] (by kernel_rfl) ?_; intro K hK; simp [q62_4, hb', hX, hXd, hXr, hXl, hdat, r2, r3, hfl, hfl2, hflI, hk1, hk2, w1, hpx, hfv, hcos, hnb, d82, d34, d39, d59]; (repeat' (first | refine hK _ _ ?_ | refine And.intro ?_ ?_ | (intro hc; try subst hc))) <;> (try clear hK K))
                    | (refine wreg (mos := q62_5) hE [0, 1, 2, 7] (by kernel_rfl) ?_; intro K hK; simp [q62_5, hb', hX, hXd, hXr, hXl, hdat, r2, r3, hfl, hfl2, hflI, hk1, hk2, w1, hpx, hfv, hcos, hnb, d82, d34, d39, d59]; (repeat' (first | refine hK _ _ ?_ | refine And.intro ?_ ?_ | (intro hc; try subst hc))) <;> (try clear hK K))
                    | (refine wreg (mos := q62_6) hE [0, 1, 2, 7] (by kernel_rfl) ?_; intro K hK; simp [q62_6, hb', hX, hXd, hXr, hXl, hdat, r2, r3, hfl, hfl2, hflI, hk1, hk2, w1, hpx, hfv, hcos, hnb, d82, d34, d39, d59]; (repeat' (first | refine hK _ _ ?_ | refine And.intro ?_ ?_ | (intro hc; try subst hc))) <;> (try clear hK K))
                    | (refine wreg (mos := q62_7) hE [6] (by kernel_rfl) ?_; intro K hK; simp [q62_7, hb', hX, hXd, hXr, hXl, hdat, r2, r3, hfl, hfl2, hflI, hk1, hk2, w1, hpx, hfv, hcos, hnb, d82, d34, d39, d59]; (repeat' (first | refine hK _ _ ?_ | refine And.intro ?_ ?_ | (intro hc; try subst hc))) <;> (try clear hK K))
                    | (refine Wm_cond (b := _) (by with_unfolding_all rfl) (fun hc => ?_) (fun hc => ?_) <;> simp at hc <;> (try subst hc)))
                  all_goals refine ⟨(false, L, fr + b0, f), ⟨fun _ => rfl, r2, r3, by show fr + b0 ≤ 400000; omega, r5, by show L.length - (fr + b0) < f; omega⟩, Nat.lt_succ_self f, ?_⟩
                  all_goals simp only [I62, hfv, hcos, hnb]
                  all_goals rw [hS]
                  all_goals (refine Imp.auto (by kernel_rfl) ?_ ?_ <;> simp [nmap, lkp, mkPl, prs, prsL, prT, ddL, idL, NLe, CRenL, CRen, Ren, RenL, NObj.none, hT1, hC1])
                · simp only [I62, hfv, hcos, hnb]
                  repeat' with_reducible (first
                    | refine Wm_seq ?_
                    | refine Wm_skip ?_
                    | refine Wm_ret ?_
                    | refine Wm_block ?_
                    | refine Wm_exit ?_
                    | refine thenK_normal ?_
                    | refine thenK_ret ?_
                    | refine thenK_exit ?_
                    | refine blockK_normal ?_
                    | refine blockK_ret ?_
                    | refine blockK_here ?_
                    | refine loopK_ret ?_
                    | refine loopK_exit ?_
                    | refine unK_ret ?_
                    | refine unK_exit ?_
                    | refine unK_normal ?_
                    | refine loopOk_succ ?_
                    | refine blockK_exit (by decide) ?_
                    | (refine wreg (mos := q62_0) hE [0, 1, 2] (by kernel_rfl) ?_; intro K hK; simp [q62_0, hb', hX, hXd, hXr, hXl, hdat, r2, r3, hfl, hfl2, hflI, hk1, hk2, w1, hpx, hfv, hcos, hnb, d82, d34, d39, d59]; (repeat' (first | refine hK _ _ ?_ | refine And.intro ?_ ?_ | (intro hc; try subst hc))) <;> (try clear hK K))
                    | (refine wreg (mos := q62_1) hE [0, 1, 2, 7] (by kernel_rfl) ?_; intro K hK; simp [q62_1, hb', hX, hXd, hXr, hXl, hdat, r2, r3, hfl, hfl2, hflI, hk1, hk2, w1, hpx, hfv, hcos, hnb, d82, d34, d39, d59]; (repeat' (first | refine hK _ _ ?_ | refine And.intro ?_ ?_ | (intro hc; try subst hc))) <;> (try clear hK K))
                    | (refine wreg (mos := q62_2) hE [0, 1, 2, 7, 12] (by kernel_rfl) ?_; intro K hK; simp [q62_2, hb', hX, hXd, hXr, hXl, hdat, r2, r3, hfl, hfl2, hflI, hk1, hk2, w1, hpx, hfv, hcos, hnb, d82, d34, d39, d59]; (repeat' (first | refine hK _ _ ?_ | refine And.intro ?_ ?_ | (intro hc; try subst hc))) <;> (try clear hK K))
                    | (refine wreg (mos := q62_3) hE [0, 1, 2, 7, 8] (by kernel_rfl) ?_; intro K hK; simp [q62_3, hb', hX, hXd, hXr, hXl, hdat, r2, r3, hfl, hfl2, hflI, hk1, hk2, w1, hpx, hfv, hcos, hnb, d82, d34, d39, d59]; (repeat' (first | refine hK _ _ ?_ | refine And.intro ?_ ?_ | (intro hc; try subst hc))) <;> (try clear hK K))
                    | (refine wreg (mos := q62_4) hE [0, 1, 2, 7, 8, 19] (by kernel_rfl) ?_; intro K hK; simp [q62_4, hb', hX, hXd, hXr, hXl, hdat, r2, r3, hfl, hfl2, hflI, hk1, hk2, w1, hpx, hfv, hcos, hnb, d82, d34, d39, d59]; (repeat' (first | refine hK _ _ ?_ | refine And.intro ?_ ?_ | (intro hc; try subst hc))) <;> (try clear hK K))
                    | (refine wreg (mos := q62_5) hE [0, 1, 2, 7] (by kernel_rfl) ?_; intro K hK; simp [q62_5, hb', hX, hXd, hXr, hXl, hdat, r2, r3, hfl, hfl2, hflI, hk1, hk2, w1, hpx, hfv, hcos, hnb, d82, d34, d39, d59]; (repeat' (first | refine hK _ _ ?_ | refine And.intro ?_ ?_ | (intro hc; try subst hc))) <;> (try clear hK K))
                    | (refine wreg (mos := q62_6) hE [0, 1, 2, 7] (by kernel_rfl) ?_; intro K hK; simp [q62_6, hb', hX, hXd, hXr, hXl, hdat, r2, r3, hfl, hfl2, hflI, hk1, hk2, w1, hpx, hfv, hcos, hnb, d82, d34, d39, d59]; (repeat' (first | refine hK _ _ ?_ | refine And.intro ?_ ?_ | (intro hc; try subst hc))) <;> (try clear hK K))
                    | (refine wreg (mos := q62_7) hE [6] (by kernel_rfl) ?_; intro K hK; simp [q62_7, hb', hX, hXd, hXr, hXl, hdat, r2, r3, hfl, hfl2, hflI, hk1, hk2, w1, hpx, hfv, hcos, hnb, d82, d34, d39, d59]; (repeat' (first | refine hK _ _ ?_ | refine And.intro ?_ ?_ | (intro hc; try subst hc))) <;> (try clear hK K))
                    | (refine Wm_cond (b := _) (by with_unfolding_all rfl) (fun hc => ?_) (fun hc => ?_) <;> simp at hc <;> (try subst hc)))
                  all_goals refine ⟨(true, L, fr + b0, f), ⟨fun h => by (cases h), r2, r3, by show fr + b0 ≤ 400000; omega, r5, by show L.length - (fr + b0) < f; omega⟩, Nat.lt_succ_self f, ?_⟩
                  all_goals simp only [I62, hfv, hcos, hnb]
                  all_goals rw [hS]
                  all_goals (refine Imp.auto (by kernel_rfl) ?_ ?_ <;> simp [nmap, lkp, mkPl, prs, prsL, prT, ddL, idL, NLe, CRenL, CRen, Ren, RenL, NObj.none, hT1, hC1])
            · rw [if_neg hfr] at r5
              have hflI : ¬ (fr : Int) < (L.length : Int) := by omega
              cases b
              · have e := r1 rfl
                subst e
                subst r5
                simp only [I62, hfv, hcos, hnb]
                repeat' with_reducible (first
                  | refine Wm_seq ?_
                  | refine Wm_skip ?_
                  | refine Wm_ret ?_
                  | refine Wm_block ?_
                  | refine Wm_exit ?_
                  | refine thenK_normal ?_
                  | refine thenK_ret ?_
                  | refine thenK_exit ?_
                  | refine blockK_normal ?_
                  | refine blockK_ret ?_
                  | refine blockK_here ?_
                  | refine loopK_ret ?_
                  | refine loopK_exit ?_
                  | refine unK_ret ?_
                  | refine unK_exit ?_
                  | refine unK_normal ?_
                  | refine loopOk_succ ?_
                  | refine blockK_exit (by decide) ?_
                  | (refine wreg (mos := q62_0) hE [0, 1, 2] (by kernel_rfl) ?_; intro K hK; simp [q62_0, hflI, res62, hfv, hcos, hnb, d82, d34, d39, d59]; (repeat' (first | refine hK _ _ ?_ | refine And.intro ?_ ?_ | (intro hc; try subst hc))) <;> (try clear hK K))
                  | (refine wreg (mos := q62_1) hE [0, 1, 2, 7] (by kernel_rfl) ?_; intro K hK; simp [q62_1, hflI, res62, hfv, hcos, hnb, d82, d34, d39, d59]; (repeat' (first | refine hK _ _ ?_ | refine And.intro ?_ ?_ | (intro hc; try subst hc))) <;> (try clear hK K))
                  | (refine wreg (mos := q62_2) hE [0, 1, 2, 7, 12] (by kernel_rfl) ?_; intro K hK; simp [q62_2, hflI, res62, hfv, hcos, hnb, d82, d34, d39, d59]; (repeat' (first | refine hK _ _ ?_ | refine And.intro ?_ ?_ | (intro hc; try subst hc))) <;> (try clear hK K))
                  | (refine wreg (mos := q62_3) hE [0, 1, 2, 7, 8] (by kernel_rfl) ?_; intro K hK; simp [q62_3, hflI, res62, hfv, hcos, hnb, d82, d34, d39, d59]; (repeat' (first | refine hK _ _ ?_ | refine And.intro ?_ ?_ | (intro hc; try subst hc))) <;> (try clear hK K))
                  | (refine wreg (mos := q62_4) hE [0, 1, 2, 7, 8, 19] (by kernel_rfl) ?_; intro K hK; simp [q62_4, hflI, res62, hfv, hcos, hnb, d82, d34, d39, d59]; (repeat' (first | refine hK _ _ ?_ | refine And.intro ?_ ?_ | (intro hc; try subst hc))) <;> (try clear hK K))
                  | (refine wreg (mos := q62_5) hE [0, 1, 2, 7] (by kernel_rfl) ?_; intro K hK; simp [q62_5, hflI, res62, hfv, hcos, hnb, d82, d34, d39, d59]; (repeat' (first | refine hK _ _ ?_ | refine And.intro ?_ ?_ | (intro hc; try subst hc))) <;> (try clear hK K))
                  | (refine wreg (mos := q62_6) hE [0, 1, 2, 7] (by kernel_rfl) ?_; intro K hK; simp [q62_6, hflI, res62, hfv, hcos, hnb, d82, d34, d39, d59]; (repeat' (first | refine hK _ _ ?_ | refine And.intro ?_ ?_ | (intro hc; try subst hc))) <;> (try clear hK K))
                  | (refine wreg (mos := q62_7) hE [6] (by kernel_rfl) ?_; intro K hK; simp [q62_7, hflI, res62, hfv, hcos, hnb, d82, d34, d39, d59]; (repeat' (first | refine hK _ _ ?_ | refine And.intro ?_ ?_ | (intro hc; try subst hc))) <;> (try clear hK K))
                  | (refine Wm_cond (b := _) (by with_unfolding_all rfl) (fun hc => ?_) (fun hc => ?_) <;> simp at hc <;> (try subst hc)))
                all_goals first | (simp; done) | (simp at *; omega) | ((try simp[res62, hT1, hC1]); refine Imp.auto (by kernel_rfl) ?_ ?_ <;> simp [nmap, lkp, mkPl, prs, prsL, prT, ddL, idL, NLe, CRenL, CRen, Ren, RenL, NObj.none, res62, hT1, hC1])
              · subst r5
                simp only [I62, hfv, hcos, hnb]
                repeat' with_reducible (first
                  | refine Wm_seq ?_
                  | refine Wm_skip ?_
                  | refine Wm_ret ?_
                  | refine Wm_block ?_
                  | refine Wm_exit ?_
                  | refine thenK_normal ?_
                  | refine thenK_ret ?_
                  | refine thenK_exit ?_
                  | refine blockK_normal ?_
                  | refine blockK_ret ?_
                  | refine blockK_here ?_
                  | refine loopK_ret ?_
                  | refine loopK_exit ?_
                  | refine unK_ret ?_
                  | refine unK_exit ?_
                  | refine unK_normal ?_
                  | refine loopOk_succ ?_
                  | refine blockK_exit (by decide) ?_
                  | (refine wreg (mos := q62_0) hE [0, 1, 2] (by kernel_rfl) ?_; intro K hK; simp [q62_0, hflI, res62, hfv, hcos, hnb, d82, d34, d39, d59]; (repeat' (first | refine hK _ _ ?_ | refine And.intro ?_ ?_ | (intro hc; try subst hc))) <;> (try clear hK K))
                  | (refine wreg (mos := q62_1) hE [0, 1, 2, 7] (by kernel_rfl) ?_; intro K hK; simp [q62_1, hflI, res62, hfv, hcos, hnb, d82, d34, d39, d59]; (repeat' (first | refine hK _ _ ?_ | refine And.intro ?_ ?_ | (intro hc; try subst hc))) <;> (try clear hK K))
                  | (refine wreg (mos := q62_2) hE [0, 1, 2, 7, 12] (by kernel_rfl) ?_; intro K hK; simp [q62_2, hflI, res62, hfv, hcos, hnb, d82, d34, d39, d59]; (repeat' (first | refine hK _ _ ?_ | refine And.intro ?_ ?_ | (intro hc; try subst hc))) <;> (try clear hK K))
                  | (refine wreg (mos := q62_3) hE [0, 1, 2, 7, 8] (by kernel_rfl) ?_; intro K hK; simp [q62_3, hflI, res62, hfv, hcos, hnb, d82, d34, d39, d59]; (repeat' (first | refine hK _ _ ?_ | refine And.intro ?_ ?_ | (intro hc; try subst hc))) <;> (try clear hK K))
                  | (refine wreg (mos := q62_4) hE [0, 1, 2, 7, 8, 19] (by kernel_rfl) ?_; intro K hK; simp [q62_4, hflI, res62, hfv, hcos, hnb, d82, d34, d39, d59]; (repeat' (first | refine hK _ _ ?_ | refine And.intro ?_ ?_ | (intro hc; try subst hc))) <;> (try clear hK K))
                  | (refine wreg (mos := q62_5) hE [0, 1, 2, 7] (by kernel_rfl) ?_; intro K hK; simp [q62_5, hflI, res62, hfv, hcos, hnb, d82, d34, d39, d59]; (repeat' (first | refine hK _ _ ?_ | refine And.intro ?_ ?_ | (intro hc; try subst hc))) <;> (try clear hK K))
                  | (refine wreg (mos := q62_6) hE [0, 1, 2, 7] (by kernel_rfl) ?_; intro K hK; simp [q62_6, hflI, res62, hfv, hcos, hnb, d82, d34, d39, d59]; (repeat' (first | refine hK _ _ ?_ | refine And.intro ?_ ?_ | (intro hc; try subst hc))) <;> (try clear hK K))
                  | (refine wreg (mos := q62_7) hE [6] (by kernel_rfl) ?_; intro K hK; simp [q62_7, hflI, res62, hfv, hcos, hnb, d82, d34, d39, d59]; (repeat' (first | refine hK _ _ ?_ | refine And.intro ?_ ?_ | (intro hc; try subst hc))) <;> (try clear hK K))
                  | (refine Wm_cond (b := _) (by with_unfolding_all rfl) (fun hc => ?_) (fun hc => ?_) <;> simp at hc <;> (try subst hc)))
                all_goals first | (simp; done) | (simp at *; omega) | ((try simp[res62, hT1, hC1]); refine Imp.auto (by kernel_rfl) ?_ ?_ <;> simp [nmap, lkp, mkPl, prs, prsL, prT, ddL, idL, NLe, CRenL, CRen, Ren, RenL, NObj.none, res62, hT1, hC1])
        · unfold m62
          repeat' with_reducible (first
            | refine Wm_seq ?_
            | refine Wm_skip ?_
            | refine Wm_ret ?_
            | refine Wm_block ?_
            | refine Wm_exit ?_
            | refine thenK_normal ?_
            | refine thenK_ret ?_
            | refine thenK_exit ?_
            | refine blockK_normal ?_
            | refine blockK_ret ?_
            | refine blockK_here ?_
            | refine loopK_ret ?_
            | refine loopK_exit ?_
            | refine unK_ret ?_
            | refine unK_exit ?_
            | refine unK_normal ?_
            | refine loopOk_succ ?_
            | refine blockK_exit (by decide) ?_
            | (refine wreg (mos := q62_0) hE [0, 1, 2] (by kernel_rfl) ?_; intro K hK; simp [q62_0, hfv, hcos, hnb, d82, d34, d39, d59]; (repeat' (first | refine hK _ _ ?_ | refine And.intro ?_ ?_ | (intro hc; try subst hc))) <;> (try clear hK K))
            | (refine wreg (mos := q62_1) hE [0, 1, 2, 7] (by kernel_rfl) ?_; intro K hK; simp [q62_1, hfv, hcos, hnb, d82, d34, d39, d59]; (repeat' (first | refine hK _ _ ?_ | refine And.intro ?_ ?_ | (intro hc; try subst hc))) <;> (try clear hK K))
            | (refine wreg (mos := q62_2) hE [0, 1, 2, 7, 12] (by kernel_rfl) ?_; intro K hK; simp [q62_2, hfv, hcos, hnb, d82, d34, d39, d59]; (repeat' (first | refine hK _ _ ?_ | refine And.intro ?_ ?_ | (intro hc; try subst hc))) <;> (try clear hK K))
            | (refine wreg (mos := q62_3) hE [0, 1, 2, 7, 8] (by kernel_rfl) ?_; intro K hK; simp [q62_3, hfv, hcos, hnb, d82, d34, d39, d59]; (repeat' (first | refine hK _ _ ?_ | refine And.intro ?_ ?_ | (intro hc; try subst hc))) <;> (try clear hK K))
            | (refine wreg (mos := q62_4) hE [0, 1, 2, 7, 8, 19] (by kernel_rfl) ?_; intro K hK; simp [q62_4, hfv, hcos, hnb, d82, d34, d39, d59]; (repeat' (first | refine hK _ _ ?_ | refine And.intro ?_ ?_ | (intro hc; try subst hc))) <;> (try clear hK K))
            | (refine wreg (mos := q62_5) hE [0, 1, 2, 7] (by kernel_rfl) ?_; intro K hK; simp [q62_5, hfv, hcos, hnb, d82, d34, d39, d59]; (repeat' (first | refine hK _ _ ?_ | refine And.intro ?_ ?_ | (intro hc; try subst hc))) <;> (try clear hK K))
            | (refine wreg (mos := q62_6) hE [0, 1, 2, 7] (by kernel_rfl) ?_; intro K hK; simp [q62_6, hfv, hcos, hnb, d82, d34, d39, d59]; (repeat' (first | refine hK _ _ ?_ | refine And.intro ?_ ?_ | (intro hc; try subst hc))) <;> (try clear hK K))
            | (refine wreg (mos := q62_7) hE [6] (by kernel_rfl) ?_; intro K hK; simp [q62_7, hfv, hcos, hnb, d82, d34, d39, d59]; (repeat' (first | refine hK _ _ ?_ | refine And.intro ?_ ?_ | (intro hc; try subst hc))) <;> (try clear hK K))
            | (refine Wm_cond (b := _) (by with_unfolding_all rfl) (fun hc => ?_) (fun hc => ?_) <;> simp at hc <;> (try subst hc)))
          all_goals (refine Wm_loop (I62 els b0 fv cosl nb) (fun x => (x.1 = false → x.2.1 = els) ∧ x.2.1.all row12 = true ∧ x.2.1.length ≤ 200000 ∧ x.2.2.1 ≤ 400000 ∧ passZ p b0 x.2.2.2 x.1 x.2.1 x.2.2.1 = q ∧ x.2.1.length - x.2.2.1 < x.2.2.2) (fun x => x.2.2.2) (false, els, 0, els.length + 1) ⟨fun _ => rfl, hrows, hlen, Nat.zero_le _, hq0, by simp⟩ ?_ ?_)
          · simp only [I62, hfv, hcos, hnb]
            rw [hS]
            refine Imp.auto (by kernel_rfl) ?_ ?_ <;> simp [nmap, lkp, mkPl, prs, prsL, prT, ddL, idL, NLe, CRenL, CRen, Ren, RenL, NObj.none, hT0, hCl]
          · intro ⟨b, L, fr, f⟩ ⟨r1, r2, r3, r4, r5, r6⟩
            replace r1 : b = false → L = els := r1
            replace r2 : L.all row12 = true := r2
            replace r3 : L.length ≤ 200000 := r3
            replace r4 : fr ≤ 400000 := r4
            replace r5 : passZ p b0 f b L fr = q := r5
            replace r6 : L.length - fr < f := r6
            obtain ⟨f, rfl⟩ : ∃ f', f = f' + 1 := ⟨f - 1, by omega⟩
            simp only [passZ] at r5
            have hT1 := rows_t0 r2
            have hC1 := rows_cl r2
            have hdat := rows_dat r2
            by_cases hfr : fr < L.length
            · rw [if_pos hfr] at r5
              have hflI : (fr : Int) < (L.length : Int) := by omega
              have hfl : fr ≤ L.length := by omega
              have hfl2 : (fr : Int) ≤ (L.length : Int) := by omega
              have w1 : IntKind.wrap .i64 ((fr : Int) + b0) = (fr : Int) + b0 := wrap_in (by omega) (by omega)
              have hlt := delZ_lt (n := b0) hfr hk3
              have hXr := rows_del r2 fr b0
              obtain ⟨X, hX⟩ : ∃ X, delZ L fr b0 = X := ⟨_, rfl⟩
              rw [hX] at hlt hXr r5
              have hXd := rows_dat hXr
              have hXl : X.length ≤ 200000 := by omega
              have hT2 := rows_t0 hXr
              have hC2 := rows_cl hXr
              by_cases hb : p X = true
              · rw [if_pos hb] at r5
                cases b
                · have e := r1 rfl
                  subst e
                  simp only [I62, hfv, hcos, hnb]
                  repeat' with_reducible (first
                    | refine Wm_seq ?_
                    | refine Wm_skip ?_
                    | refine Wm_ret ?_
                    | refine Wm_block ?_
                    | refine Wm_exit ?_
                    | refine thenK_normal ?_
                    | refine thenK_ret ?_
                    | refine thenK_exit ?_
                    | refine blockK_normal ?_
                    | refine blockK_ret ?_
                    | refine blockK_here ?_
                    | refine loopK_ret ?_
                    | refine loopK_exit ?_
                    | refine unK_ret ?_
                    | refine unK_exit ?_
                    | refine unK_normal ?_
                    | refine loopOk_succ ?_
                    | refine blockK_exit (by decide) ?_
                    | (refine wreg (mos := q62_0) hE [0, 1, 2] (by kernel_rfl) ?_; intro K hK; simp [q62_0, hb, hX, hXd, hXr, hXl, hdat, r2, r3, hfl, hfl2, hflI, hk1, hk2, w1, hpx, hfv, hcos, hnb, d82, d34, d39, d59]; (repeat' (first | refine hK _ _ ?_ | refine And.intro ?_ ?_ | (intro hc; try subst hc))) <;> (try clear hK K))
                    | (refine wreg (mos := q62_1) hE [0, 1, 2, 7] (by kernel_rfl) ?_; intro K hK; simp [q62_1, hb, hX, hXd, hXr, hXl, hdat, r2, r3, hfl, hfl2, hflI, hk1, hk2, w1, hpx, hfv, hcos, hnb, d82, d34, d39, d59]; (repeat' (first | refine hK _ _ ?_ | refine And.intro ?_ ?_ | (intro hc; try subst hc))) <;> (try clear hK K))
                    | (refine wreg (mos := q62_2) hE [0, 1, 2, 7, 12] (by kernel_rfl) ?_; intro K hK; simp [q62_2, hb, hX, hXd, hXr, hXl, hdat, r2, r3, hfl, hfl2, hflI, hk1, hk2, w1, hpx, hfv, hcos, hnb, d82, d34, d39, d59]; (repeat' (first | refine hK _ _ ?_ | refine And.intro ?_ ?_ | (intro hc; try subst hc))) <;> (try clear hK K))
                    | (refine wreg (mos := q62_3) hE [0, 1, 2, 7, 8] (by kernel_rfl) ?_; intro K hK; simp [q62_3, hb, hX, hXd, hXr, hXl, hdat, r2, r3, hfl, hfl2, hflI, hk1, hk2, w1, hpx, hfv, hcos, hnb, d82, d34, d39, d59]; (repeat' (first | refine hK _ _ ?_ | refine And.intro ?_ ?_ | (intro hc; try subst hc))) <;> (try clear hK K))
                    | (refine wreg (mos := q62_4) hE [0, 1, 2, 7, 8, 19] (by kernel_rfl) ?_; intro K hK; simp [q62_4, hb, hX, hXd, hXr, hXl, hdat, r2, r3, hfl, hfl2, hflI, hk1, hk2, w1, hpx, hfv, hcos, hnb, d82, d34, d39, d59]; (repeat' (first | refine hK _ _ ?_ | refine And.intro ?_ ?_ | (intro hc; try subst hc))) <;> (try clear hK K))
                    | (refine wreg (mos := q62_5) hE [0, 1, 2, 7] (by kernel_rfl) ?_; intro K hK; simp [q62_5, hb, hX, hXd, hXr, hXl, hdat, r2, r3, hfl, hfl2, hflI, hk1, hk2, w1, hpx, hfv, hcos, hnb, d82, d34, d39, d59]; (repeat' (first | refine hK _ _ ?_ | refine And.intro ?_ ?_ | (intro hc; try subst hc))) <;> (try clear hK K))
                    | (refine wreg (mos := q62_6) hE [0, 1, 2, 7] (by kernel_rfl) ?_; intro K hK; simp [q62_6, hb, hX, hXd, hXr, hXl, hdat, r2, r3, hfl, hfl2, hflI, hk1, hk2, w1, hpx, hfv, hcos, hnb, d82, d34, d39, d59]; (repeat' (first | refine hK _ _ ?_ | refine And.intro ?_ ?_ | (intro hc; try subst hc))) <;> (try clear hK K))
                    | (refine wreg (mos := q62_7) hE [6] (by kernel_rfl) ?_; intro K hK; simp [q62_7, hb, hX, hXd, hXr, hXl, hdat, r2, r3, hfl, hfl2, hflI, hk1, hk2, w1, hpx, hfv, hcos, hnb, d82, d34, d39, d59]; (repeat' (first | refine hK _ _ ?_ | refine And.intro ?_ ?_ | (intro hc; try subst hc))) <;> (try clear hK K))
                    | (refine Wm_cond (b := _) (by with_unfolding_all rfl) (fun hc => ?_) (fun hc => ?_) <;> simp at hc <;> (try subst hc)))
                  all_goals refine ⟨(true, X, fr, f), ⟨fun h => by (cases h), hXr, hXl, r4, r5, by show X.length - fr < f; omega⟩, Nat.lt_succ_self f, ?_⟩
                  all_goals simp only [I62, hfv, hcos, hnb]
                  all_goals rw [hS]
                  all_goals (refine Imp.auto (by kernel_rfl) ?_ ?_ <;> simp [nmap, lkp, mkPl, prs, prsL, prT, ddL, idL, NLe, CRenL, CRen, Ren, RenL, NObj.none, hT2, hC2])
                · simp only [I62, hfv, hcos, hnb]
                  repeat' with_reducible (first
                    | refine Wm_seq ?_
                    | refine Wm_skip ?_
                    | refine Wm_ret ?_
                    | refine Wm_block ?_
                    | refine Wm_exit ?_
                    | refine thenK_normal ?_
                    | refine thenK_ret ?_
                    | refine thenK_exit ?_
                    | refine blockK_normal ?_
                    | refine blockK_ret ?_
                    | refine blockK_here ?_
                    | refine loopK_ret ?_
                    | refine loopK_exit ?_
                    | refine unK_ret ?_
                    | refine unK_exit ?_
                    | refine unK_normal ?_
                    | refine loopOk_succ ?_
                    | refine blockK_exit (by decide) ?_
                    | (refine wreg (mos := q62_0) hE [0, 1, 2] (by kernel_rfl) ?_; intro K hK; simp [q62_0, hb, hX, hXd, hXr, hXl, hdat, r2, r3, hfl, hfl2, hflI, hk1, hk2, w1, hpx, hfv, hcos, hnb, d82, d34, d39, d59]; (repeat' (first | refine hK _ _ ?_ | refine And.intro ?_ ?_ | (intro hc; try subst hc))) <;> (try clear hK K))
                    | (refine wreg (mos := q62_1) hE [0, 1, 2, 7] (by kernel_rfl) ?_; intro K hK; simp [q62_1, hb, hX, hXd, hXr, hXl, hdat, r2, r3, hfl, hfl2, hflI, hk1, hk2, w1, hpx, hfv, hcos, hnb, d82, d34, d39, d59]; (repeat' (first | refine hK _ _ ?_ | refine And.intro ?_ ?_ | (intro hc; try subst hc))) <;> (try clear hK K))
                    | (refine wreg (mos := q62_2) hE [0, 1, 2, 7, 12] (by kernel_rfl) ?_; intro K hK; simp [q62_2, hb, hX, hXd, hXr, hXl, hdat, r2, r3, hfl, hfl2, hflI, hk1, hk2, w1, hpx, hfv, hcos, hnb, d82, d34, d39, d59]; (repeat' (first | refine hK _ _ ?_ | refine And.intro ?_ ?_ | (intro hc; try subst hc))) <;> (try clear hK K))
                    | (refine wreg (mos := q62_3) hE [0, 1, 2, 7, 8] (by kernel_rfl) ?_; intro K hK; simp [q62_3, hb, hX, hXd, hXr, hXl, hdat, r2, r3, hfl, hfl2, hflI, hk1, hk2, w1, hpx, hfv, hcos, hnb, d82, d34, d39, d59]; (repeat' (first | refine hK _ _ ?_ | refine And.intro ?_ ?_ | (intro hc; try subst hc))) <;> (try clear hK K))
                    | (refine wreg (mos := q62_4) hE [0, 1, 2, 7, 8, 19] (by kernel_rfl) ?_; intro K hK; simp [q62_4, hb, hX, hXd, hXr, hXl, hdat, r2, r3, hfl, hfl2, hflI, hk1, hk2, w1, hpx, hfv, hcos, hnb, d82, d34, d39, d59]; (repeat' (first | refine hK _ _ ?_ | refine And.intro ?_ ?_ | (intro hc; try subst hc))) <;> (try clear hK K))
                    | (refine wreg (mos := q62_5) hE [0, 1, 2, 7] (by kernel_rfl) ?_; intro K hK; simp [q62_5, hb, hX, hXd, hXr, hXl, hdat, r2, r3, hfl, hfl2, hflI, hk1, hk2, w1, hpx, hfv, hcos, hnb, d82, d34, d39, d59]; (repeat' (first | refine hK _ _ ?_ | refine And.intro ?_ ?_ | (intro hc; try subst hc))) <;> (try clear hK K))
                    | (refine wreg (mos := q62_6) hE [0, 1, 2, 7] (by kernel_rfl) ?_; intro K hK; simp [q62_6, hb, hX, hXd, hXr, hXl, hdat, r2, r3, hfl, hfl2, hflI, hk1, hk2, w1, hpx, hfv, hcos, hnb, d82, d34, d39, d59]; (repeat' (first | refine hK _ _ ?_ | refine And.intro ?_ ?_ | (intro hc; try subst hc))) <;> (try clear hK K))
                    | (refine wreg (mos := q62_7) hE [6] (by kernel_rfl) ?_; intro K hK; simp [q62_7, hb, hX, hXd, hXr, hXl, hdat, r2, r3, hfl, hfl2, hflI, hk1, hk2, w1, hpx, hfv, hcos, hnb, d82, d34, d39, d59]; (repeat' (first | refine hK _ _ ?_ | refine And.intro ?_ ?_ | (intro hc; try subst hc))) <;> (try clear hK K))
                    | (refine Wm_cond (b := _) (by with_unfolding_all rfl) (fun hc => ?_) (fun hc => ?_) <;> simp at hc <;> (try subst hc)))
                  all_goals refine ⟨(true, X, fr, f), ⟨fun h => by (cases h), hXr, hXl, r4, r5, by show X.length - fr < f; omega⟩, Nat.lt_succ_self f, ?_⟩
                  all_goals simp only [I62, hfv, hcos, hnb]
                  all_goals rw [hS]
                  all_goals (refine Imp.auto (by kernel_rfl) ?_ ?_ <;> simp [nmap, lkp, mkPl, prs, prsL, prT, ddL, idL, NLe, CRenL, CRen, Ren, RenL, NObj.none, hT2, hC2])
              · rw [if_neg hb] at r5
                have hb' : p X = false := by simpa using hb
                cases b
                · have e := r1 rfl
                  subst e
                  simp only [I62, hfv, hcos, hnb]
                  repeat' with_reducible (first
                    | refine Wm_seq ?_
                    | refine Wm_skip ?_
                    | refine Wm_ret ?_
                    | refine Wm_block ?_
                    | refine Wm_exit ?_
                    | refine thenK_normal ?_
                    | refine thenK_ret ?_
                    | refine thenK_exit ?_
                    | refine blockK_normal ?_
                    | refine blockK_ret ?_
                    | refine blockK_here ?_
                    | refine loopK_ret ?_
                    | refine loopK_exit ?_
                    | refine unK_ret ?_
                    | refine unK_exit ?_
                    | refine unK_normal ?_
                    | refine loopOk_succ ?_
                    | refine blockK_exit (by decide) ?_
                    | (refine wreg (mos := q62_0) hE [0, 1, 2] (by kernel_rfl) ?_; intro K hK; simp [q62_0, hb', hX, hXd, hXr, hXl, hdat, r2, r3, hfl, hfl2, hflI, hk1, hk2, w1, hpx, hfv, hcos, hnb, d82, d34, d39, d59]; (repeat' (first | refine hK _ _ ?_ | refine And.intro ?_ ?_ | (intro hc; try subst hc))) <;> (try clear hK K))
                    | (refine wreg (mos := q62_1) hE [0, 1, 2, 7] (by kernel_rfl) ?_; intro K hK; simp [q62_1, hb', hX, hXd, hXr, hXl, hdat, r2, r3, hfl, hfl2, hflI, hk1, hk2, w1, hpx, hfv, hcos, hnb, d82, d34, d39, d59]; (repeat' (first | refine hK _ _ ?_ | refine And.intro ?_ ?_ | (intro hc; try subst hc))) <;> (try clear hK K))
                    | (refine wreg (mos := q62_2) hE [0, 1, 2, 7, 12] (by kernel_rfl) ?_; intro K hK; simp [q62_2, hb', hX, hXd, hXr, hXl, hdat, r2, r3, hfl, hfl2, hflI, hk1, hk2, w1, hpx, hfv, hcos, hnb, d82, d34, d39, d59]; (repeat' (first | refine hK _ _ ?_ | refine And.intro ?_ ?_ | (intro hc; try subst hc))) <;> (try clear hK K))
                    | (refine wreg (mos := q62_3) hE [0, 1, 2, 7, 8] (by kernel_rfl) ?_; intro K hK; simp [q62_3, hb', hX, hXd, hXr, hXl, hdat, r2, r3, hfl, hfl2, hflI, hk1, hk2, w1, hpx, hfv, hcos, hnb, d82, d34, d39, d59]; (repeat' (first | refine hK _ _ ?_ | refine And.intro ?_ ?_ | (intro hc; try subst hc))) <;> (try clear hK K))
                    | (refine wreg (mos := q62_4) hE [0, 1, 2, 7, 8, 19] (by kernel_rfl) ?_; intro K hK; simp [q62_4, hb', hX, hXd, hXr, hXl, hdat, r2, r3, hfl, hfl2, hflI, hk1, hk2, w1, hpx, hfv, hcos, hnb, d82, d34, d39, d59]; (repeat' (first | refine hK _ _ ?_ | refine And.intro ?_ ?_ | (intro hc; try subst hc))) <;> (try clear hK K))
                    | (refine wreg (mos := q62_5) hE [0, 1, 2, 7] (by kernel_rfl) ?_; intro K hK; simp [q62_5, hb', hX, hXd, hXr, hXl, hdat, r2, r3, hfl, hfl2, hflI, hk1, hk2, w1, hpx, hfv, hcos, hnb, d82, d34, d39, d59]; (repeat' (first | refine hK _ _ ?_ | refine And.intro ?_ ?_ | (intro hc; try subst hc))) <;> (try clear hK K))
                    | (refine wreg (mos := q62_6) hE [0, 1, 2, 7] (by kernel_rfl) ?_; intro K hK; simp [q62_6, hb', hX, hXd, hXr, hXl, hdat, r2, r3, hfl, hfl2, hflI, hk1, hk2, w1, hpx, hfv, hcos, hnb, d82, d34, d39, d59]; (repeat' (first | refine hK _ _ ?_ | refine And.intro ?_ ?_ | (intro hc; try subst hc))) <;> (try clear hK K))
                    | (refine wreg (mos := q62_7) hE [6] (by kernel_rfl) ?_; intro K hK; simp [q62_7, hb', hX, hXd, hXr, hXl, hdat, r2, r3, hfl, hfl2, hflI, hk1, hk2, w1, hpx, hfv, hcos, hnb, d82, d34, d39, d59]; (repeat' (first | refine hK _ _ ?_ | refine And.intro ?_ ?_ | (intro hc; try subst hc))) <;> (try clear hK K))
                    | (refine Wm_cond (b := _) (by with_unfolding_all rfl) (fun hc => ?_) (fun hc => ?_) <;> simp at hc <;> (try subst hc)))
                  all_goals refine ⟨(false, L, fr + b0, f), ⟨fun _ => rfl, r2, r3, by show fr + b0 ≤ 400000; omega, r5, by show L.length - (fr + b0) < f; omega⟩, Nat.lt_succ_self f, ?_⟩
                  all_goals simp only [I62, hfv, hcos, hnb]
                  all_goals rw [hS]
                  all_goals (refine Imp.auto (by kernel_rfl) ?_ ?_ <;> simp [nmap, lkp, mkPl, prs, prsL, prT, ddL, idL, NLe, CRenL, CRen, Ren, RenL, NObj.none, hT1, hC1])
                · simp only [I62, hfv, hcos, hnb]
                  repeat' with_reducible (first
                    | refine Wm_seq ?_
                    | refine Wm_skip ?_
                    | refine Wm_ret ?_
                    | refine Wm_block ?_
                    | refine Wm_exit ?_
                    | refine thenK_normal ?_
                    | refine thenK_ret ?_
                    | refine thenK_exit ?_
                    | refine blockK_normal ?_
                    | refine blockK_ret ?_
                    | refine blockK_here ?_
                    | refine loopK_ret ?_
                    | refine loopK_exit ?_
                    | refine unK_ret ?_
                    | refine unK_exit ?_
                    | refine unK_normal ?_
                    | refine loopOk_succ ?_
                    | refine blockK_exit (by decide) ?_
                    | (refine wreg (mos := q62_0) hE [0, 1, 2] (by kernel_rfl) ?_; intro K hK; simp [q62_0, hb', hX, hXd, hXr, hXl, hdat, r2, r3, hfl, hfl2, hflI, hk1, hk2, w1, hpx, hfv, hcos, hnb, d82, d34, d39, d59]; (repeat' (first | refine hK _ _ ?_ | refine And.intro ?_ ?_ | (intro hc; try subst hc))) <;> (try clear hK K))
                    | (refine wreg (mos := q62_1) hE [0, 1, 2, 7] (by kernel_rfl) ?_; intro K hK; simp [q62_1, hb', hX, hXd, hXr, hXl, hdat, r2, r3, hfl, hfl2, hflI, hk1, hk2, w1, hpx, hfv, hcos, hnb, d82, d34, d39, d59]; (repeat' (first | refine hK _ _ ?_ | refine And.intro ?_ ?_ | (intro hc; try subst hc))) <;> (try clear hK K))
                    | (refine wreg (mos := q62_2) hE [0, 1, 2, 7, 12] (by kernel_rfl) ?_; intro K hK; simp [q62_2, hb', hX, hXd, hXr, hXl, hdat, r2, r3, hfl, hfl2, hflI, hk1, hk2, w1, hpx, hfv, hcos, hnb, d82, d34, d39, d59]; (repeat' (first | refine hK _ _ ?_ | refine And.intro ?_ ?_ | (intro hc; try subst hc))) <;> (try clear hK K))
                    | (refine wreg (mos := q62_3) hE [0, 1, 2, 7, 8] (by kernel_rfl) ?_; intro K hK; simp [q62_3, hb', hX, hXd, hXr, hXl, hdat, r2, r3, hfl, hfl2, hflI, hk1, hk2, w1, hpx, hfv, hcos, hnb, d82, d34, d39, d59]; (repeat' (first | refine hK _ _ ?_ | refine And.intro ?_ ?_ | (intro hc; try subst hc))) <;> (try clear hK K))
                    | (refine wreg (mos := q62_4) hE [0, 1, 2, 7, 8, 19] (by kernel_rfl) ?_; intro K hK; simp [q62_4, hb', hX, hXd, hXr, hXl, hdat, r2, r3, hfl, hfl2, hflI, hk1, hk2, w1, hpx, hfv, hcos, hnb, d82, d34, d39, d59]; (repeat' (first | refine hK _ _ ?_ | refine And.intro ?_ ?_ | (intro hc; try subst hc))) <;> (try clear hK K))
                    | (refine wreg (mos := q62_5) hE [0, 1, 2, 7] (by kernel_rfl) ?_; intro K hK; simp [q62_5, hb', hX, hXd, hXr, hXl, hdat, r2, r3, hfl, hfl2, hflI, hk1, hk2, w1, hpx, hfv, hcos, hnb, d82, d34, d39, d59]; (repeat' (first | refine hK _ _ ?_ | refine And.intro ?_ ?_ | (intro hc; try subst hc))) <;> (try clear hK K))
                    | (refine wreg (mos := q62_6) hE [0, 1, 2, 7] (by kernel_rfl) ?_; intro K hK; simp [q62_6, hb', hX, hXd, hXr, hXl, hdat, r2, r3, hfl, hfl2, hflI, hk1, hk2, w1, hpx, hfv, hcos, hnb, d82, d34, d39, d59]; (repeat' (first | refine hK _ _ ?_ | refine And.intro ?_ ?_ | (intro hc; try subst hc))) <;> (try clear hK K))
                    | (refine wreg (mos := q62_7) hE [6] (by kernel_rfl) ?_; intro K hK; simp [q62_7, hb', hX, hXd, hXr, hXl, hdat, r2, r3, hfl, hfl2, hflI, hk1, hk2, w1, hpx, hfv, hcos, hnb, d82, d34, d39, d59]; (repeat' (first | refine hK _ _ ?_ | refine And.intro ?_ ?_ | (intro hc; try subst hc))) <;> (try clear hK K))
                    | (refine Wm_cond (b := _) (by with_unfolding_all rfl) (fun hc => ?_) (fun hc => ?_) <;> simp at hc <;> (try subst hc)))
                  all_goals refine ⟨(true, L, fr + b0, f), ⟨fun h => by (cases h), r2, r3, by show fr + b0 ≤ 400000; omega, r5, by show L.length - (fr + b0) < f; omega⟩, Nat.lt_succ_self f, ?_⟩
                  all_goals simp only [I62, hfv, hcos, hnb]
                  all_goals rw [hS]
                  all_goals (refine Imp.auto (by kernel_rfl) ?_ ?_ <;> simp [nmap, lkp, mkPl, prs, prsL, prT, ddL, idL, NLe, CRenL, CRen, Ren, RenL, NObj.none, hT1, hC1])
            · rw [if_neg hfr] at r5
              have hflI : ¬ (fr : Int) < (L.length : Int) := by omega
              cases b
              · have e := r1 rfl
                subst e
                subst r5
                simp only [I62, hfv, hcos, hnb]
                repeat' with_reducible (first
                  | refine Wm_seq ?_
                  | refine Wm_skip ?_
                  | refine Wm_ret ?_
                  | refine Wm_block ?_
                  | refine Wm_exit ?_
                  | refine thenK_normal ?_
                  | refine thenK_ret ?_
                  | refine thenK_exit ?_
                  | refine blockK_normal ?_
                  | refine blockK_ret ?_
                  | refine blockK_here ?_
                  | refine loopK_ret ?_
                  | refine loopK_exit ?_
                  | refine unK_ret ?_
                  | refine unK_exit ?_
                  | refine unK_normal ?_
                  | refine loopOk_succ ?_
                  | refine blockK_exit (by decide) ?_
                  | (refine wreg (mos := q62_0) hE [0, 1, 2] (by kernel_rfl) ?_; intro K hK; simp [q62_0, hflI, res62, hfv, hcos, hnb, d82, d34, d39, d59]; (repeat' (first | refine hK _ _ ?_ | refine And.intro ?_ ?_ | (intro hc; try subst hc))) <;> (try clear hK K))
                  | (refine wreg (mos := q62_1) hE [0, 1, 2, 7] (by kernel_rfl) ?_; intro K hK; simp [q62_1, hflI, res62, hfv, hcos, hnb, d82, d34, d39, d59]; (repeat' (first | refine hK _ _ ?_ | refine And.intro ?_ ?_ | (intro hc; try subst hc))) <;> (try clear hK K))
                  | (refine wreg (mos := q62_2) hE [0, 1, 2, 7, 12] (by kernel_rfl) ?_; intro K hK; simp [q62_2, hflI, res62, hfv, hcos, hnb, d82, d34, d39, d59]; (repeat' (first | refine hK _ _ ?_ | refine And.intro ?_ ?_ | (intro hc; try subst hc))) <;> (try clear hK K))
                  | (refine wreg (mos := q62_3) hE [0, 1, 2, 7, 8] (by kernel_rfl) ?_; intro K hK; simp [q62_3, hflI, res62, hfv, hcos, hnb, d82, d34, d39, d59]; (repeat' (first | refine hK _ _ ?_ | refine And.intro ?_ ?_ | (intro hc; try subst hc))) <;> (try clear hK K))
                  | (refine wreg (mos := q62_4) hE [0, 1, 2, 7, 8, 19] (by kernel_rfl) ?_; intro K hK; simp [q62_4, hflI, res62, hfv, hcos, hnb, d82, d34, d39, d59]; (repeat' (first | refine hK _ _ ?_ | refine And.intro ?_ ?_ | (intro hc; try subst hc))) <;> (try clear hK K))
                  | (refine wreg (mos := q62_5) hE [0, 1, 2, 7] (by kernel_rfl) ?_; intro K hK; simp [q62_5, hflI, res62, hfv, hcos, hnb, d82, d34, d39, d59]; (repeat' (first | refine hK _ _ ?_ | refine And.intro ?_ ?_ | (intro hc; try subst hc))) <;> (try clear hK K))
                  | (refine wreg (mos := q62_6) hE [0, 1, 2, 7] (by kernel_rfl) ?_; intro K hK; simp [q62_6, hflI, res62, hfv, hcos, hnb, d82, d34, d39, d59]; (repeat' (first | refine hK _ _ ?_ | refine And.intro ?_ ?_ | (intro hc; try subst hc))) <;> (try clear hK K))
                  | (refine wreg (mos := q62_7) hE [6] (by kernel_rfl) ?_; intro K hK; simp [q62_7, hflI, res62, hfv, hcos, hnb, d82, d34, d39, d59]; (repeat' (first | refine hK _ _ ?_ | refine And.intro ?_ ?_ | (intro hc; try subst hc))) <;> (try clear hK K))
                  | (refine Wm_cond (b := _) (by with_unfolding_all rfl) (fun hc => ?_) (fun hc => ?_) <;> simp at hc <;> (try subst hc)))
                all_goals first | (simp; done) | (simp at *; omega) | ((try simp[res62, hT1, hC1]); refine Imp.auto (by kernel_rfl) ?_ ?_ <;> simp [nmap, lkp, mkPl, prs, prsL, prT, ddL, idL, NLe, CRenL, CRen, Ren, RenL, NObj.none, res62, hT1, hC1])
              · subst r5
                simp only [I62, hfv, hcos, hnb]
                repeat' with_reducible (first
                  | refine Wm_seq ?_
                  | refine Wm_skip ?_
                  | refine Wm_ret ?_
                  | refine Wm_block ?_
                  | refine Wm_exit ?_
                  | refine thenK_normal ?_
                  | refine thenK_ret ?_
                  | refine thenK_exit ?_
                  | refine blockK_normal ?_
                  | refine blockK_ret ?_
                  | refine blockK_here ?_
                  | refine loopK_ret ?_
                  | refine loopK_exit ?_
                  | refine unK_ret ?_
                  | refine unK_exit ?_
                  | refine unK_normal ?_
                  | refine loopOk_succ ?_
                  | refine blockK_exit (by decide) ?_
                  | (refine wreg (mos := q62_0) hE [0, 1, 2] (by kernel_rfl) ?_; intro K hK; simp [q62_0, hflI, res62, hfv, hcos, hnb, d82, d34, d39, d59]; (repeat' (first | refine hK _ _ ?_ | refine And.intro ?_ ?_ | (intro hc; try subst hc))) <;> (try clear hK K))
                  | (refine wreg (mos := q62_1) hE [0, 1, 2, 7] (by kernel_rfl) ?_; intro K hK; simp [q62_1, hflI, res62, hfv, hcos, hnb, d82, d34, d39, d59]; (repeat' (first | refine hK _ _ ?_ | refine And.intro ?_ ?_ | (intro hc; try subst hc))) <;> (try clear hK K))
                  | (refine wreg (mos := q62_2) hE [0, 1, 2, 7, 12] (by kernel_rfl) ?_; intro K hK; simp [q62_2, hflI, res62, hfv, hcos, hnb, d82, d34, d39, d59]; (repeat' (first | refine hK _ _ ?_ | refine And.intro ?_ ?_ | (intro hc; try subst hc))) <;> (try clear hK K))
                  | (refine wreg (mos := q62_3) hE [0, 1, 2, 7, 8] (by kernel_rfl) ?_; intro K hK; simp [q62_3, hflI, res62, hfv, hcos, hnb, d82, d34, d39, d59]; (repeat' (first | refine hK _ _ ?_ | refine And.intro ?_ ?_ | (intro hc; try subst hc))) <;> (try clear hK K))
                  | (refine wreg (mos := q62_4) hE [0, 1, 2, 7, 8, 19] (by kernel_rfl) ?_; intro K hK; simp [q62_4, hflI, res62, hfv, hcos, hnb, d82, d34, d39, d59]; (repeat' (first | refine hK _ _ ?_ | refine And.intro ?_ ?_ | (intro hc; try subst hc))) <;> (try clear hK K))
                  | (refine wreg (mos := q62_5) hE [0, 1, 2, 7] (by kernel_rfl) ?_; intro K hK; simp [q62_5, hflI, res62, hfv, hcos, hnb, d82, d34, d39, d59]; (repeat' (first | refine hK _ _ ?_ | refine And.intro ?_ ?_ | (intro hc; try subst hc))) <;> (try clear hK K))
                  | (refine wreg (mos := q62_6) hE [0, 1, 2, 7] (by kernel_rfl) ?_; intro K hK; simp [q62_6, hflI, res62, hfv, hcos, hnb, d82, d34, d39, d59]; (repeat' (first | refine hK _ _ ?_ | refine And.intro ?_ ?_ | (intro hc; try subst hc))) <;> (try clear hK K))
                  | (refine wreg (mos := q62_7) hE [6] (by kernel_rfl) ?_; intro K hK; simp [q62_7, hflI, res62, hfv, hcos, hnb, d82, d34, d39, d59]; (repeat' (first | refine hK _ _ ?_ | refine And.intro ?_ ?_ | (intro hc; try subst hc))) <;> (try clear hK K))
                  | (refine Wm_cond (b := _) (by with_unfolding_all rfl) (fun hc => ?_) (fun hc => ?_) <;> simp at hc <;> (try subst hc)))
                all_goals first | (simp; done) | (simp at *; omega) | ((try simp[res62, hT1, hC1]); refine Imp.auto (by kernel_rfl) ?_ ?_ <;> simp [nmap, lkp, mkPl, prs, prsL, prT, ddL, idL, NLe, CRenL, CRen, Ren, RenL, NObj.none, res62, hT1, hC1])
      · cases h
    · cases h
  · cases h
end Go.W
