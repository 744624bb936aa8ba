import Derived.Test.YthehmmodkhoieaaWtL
namespace Go.W
open Go.Proofs
set_option linter.unusedSimpArgs false
set_option linter.unusedVariables false
set_option maxHeartbeats 8000000
attribute [local irreducible] Wm


/-- The events of a script. -/
def scriptL (a b c d ma mt md ms mp mw s : Int) (n : Nat) : List (List AV) :=
  ((runZ (stepZ a b c d ma mt md ms mp mw) n n ⟨s, List.replicate a.toNat 0, 0, []⟩).out).take n

def d43 : List AV → Option Ans
  | [.agg [.int .i64 a, .int .i64 b, .int .i64 c, .int .i64 d, .int .i64 e, .int .i64 f, .int .i64 g], .int .u64 s, .agg [.int .i64 ma, .int .i64 mt, .int .i64 md, .int .i64 ms, .int .i64 mp, .int .i64 mw], .int .i64 n] => if checkZ a b c d e f g = -1 ∧ fitsB ma mt md ms mp mw = true ∧ n ≤ 65536 then some ⟨.os 0 12 (scriptL a b c d ma mt md ms mp mw s n.toNat), []⟩ else none
  | _ => none

def I43 (cfg mood : List AV) (n A : Nat) (q : Sto) : St := ⟨[(3, .int .i64 n), (4, .ptr (.top 0) 0 0), (6, .ptr (.top 1) 0 0), (9, .ptr (.top 2) 0 0), (10, .sl (.top 3) 0 A), (11, .ptr (.top 4) 0 0), (12, .sl (.top 5) 0 q.out.length)],
  [(0, .cells 0 cfg), (1, .cells 0 mood), (2, .cells 0 [.int .u64 q.s]), (3, .arr 0 1 (q.ids.map intR)), (4, .cells 0 [.int .u64 q.now]), (5, .arr 0 12 q.out)], 6⟩

def yZ (s w z : Int) : Int := pickZ s [w, w, z]

def J43 (cfg mood : List AV) (n A T : Nat) (q : Sto) (Y z : Int) (i : Nat) : St := ⟨[(3, .int .i64 n), (4, .ptr (.top 0) 0 0), (6, .ptr (.top 1) 0 0), (9, .ptr (.top 2) 0 0), (10, .sl (.top 3) 0 A), (11, .ptr (.top 4) 0 0), (12, .sl (.top 5) 0 (q.out.length + i)), (16, .ptr (.top 6) 0 0), (63, .int .i64 T), (64, .int .i64 i)],
  [(0, .cells 0 cfg), (1, .cells 0 mood), (2, .cells 0 [.int .u64 z]), (3, .arr 0 1 (q.ids.map intR)), (4, .cells 0 [.int .u64 q.now]), (5, .arr 0 12 (q.out ++ List.replicate i (evR 3 Y 0 0 0 0 0 0 0 0 0 0))), (6, .cells 0 (evR 3 Y 0 0 0 0 0 0 0 0 0 0))], 7⟩

theorem few1 {l N T i : Nat} (h1 : l < N) (h2 : N ≤ 65536) (h3 : i ≤ T) (h4 : T ≤ 10001) : (l + i + 1) * 96 ≤ 140737488355328 ∧ l + i + 1 ≤ 9223372036854775807 ∧ -9223372036854775808 ≤ (i : Int) + 1 ∧ (i : Int) + 1 ≤ 9223372036854775807 := by omega

theorem ints_t0 : ∀ (l : List Int), t0LL (l.map intR) = l.map intR
  | [] => rfl
  | x :: r => by simp [t0LL, t0L, AV.t0, intR, ints_t0 r]

theorem ints_cl : ∀ (l : List Int), clLL (l.map intR) = true
  | [] => rfl
  | x :: r => by simp [clLL, clL, AV.cl, intR, ints_cl r]

theorem rows_plain : ∀ {els : List (List AV)}, els.all row12 = true → els.all (fun c => c.all AV.plain) = true := by
  intro els h
  refine List.all_eq_true.2 fun c hc => ?_
  obtain ⟨n0, n1, n2, n3, n4, n5, n6, n7, n8, n9, n10, n11, rfl⟩ := row12_ex (List.all_eq_true.1 h c hc)
  rfl

theorem script_rows {a b c d ma mt md ms mp mw s : Int} {n : Nat} (hms : ms ≤ 10000) : (runZ (stepZ a b c d ma mt md ms mp mw) n n ⟨s, List.replicate a.toNat 0, 0, []⟩).out.all row12 = true := by
  have key : ∀ (f : Nat) (q : Sto), Keeps a.toNat n q → Keeps a.toNat n (runZ (stepZ a b c d ma mt md ms mp mw) n f q) := by
    intro f
    induction f with
    | zero => intro q h; exact h
    | succ f ih =>
      intro q h
      rw [runZ]
      split
      · rename_i hl; exact ih _ (h.step hl hms)
      · exact h
  exact (key n _ ⟨rfl, by simp, by simp, by simp, by simp⟩).rows

theorem script_ok {a b c d ma mt md ms mp mw s : Int} {n : Nat} (hms : ms ≤ 10000) : t0LL (scriptL a b c d ma mt md ms mp mw s n) = scriptL a b c d ma mt md ms mp mw s n ∧ clLL (scriptL a b c d ma mt md ms mp mw s n) = true := by
  have hr := rows_take (script_rows (a := a) (b := b) (c := c) (d := d) (ma := ma) (mt := mt) (md := md) (mp := mp) (mw := mw) (s := s) (n := n) hms) n
  exact ⟨rows_t0 hr, rows_cl hr⟩

theorem fits_ms {a b c d e f : Int} (h : fitsB a b c d e f = true) : d ≤ 10000 := (fits_in h).2.2.1.2

theorem ok43 : NOk [] d43 := by
  intro xs a h
  unfold d43 at h
  split at h
  · split at h
    · rename_i hc
      injection h with h; subst h; refine ⟨Ends_of ?_, ?_⟩ <;> simp [(script_ok (fits_ms hc.2.1)).1, (script_ok (fits_ms hc.2.1)).2]
    · cases h
  · cases h
theorem s43 : Sound Try.prog 43 (nestS [] d43 ok43) := by
  refine nest_sound Try.func43 nm43 rc43 rv43 ok43 (fun xs a h => ?_) fun xs a h w0 S hS => ?_
  · unfold d43 at h
    (repeat' (split at h)) <;> first | (cases h; done) | exact Nat.le_of_ble_eq_true rfl
  unfold d43 at h
  split at h
  · split at h
    · rename_i a b c d e f g s ma mt md ms mp mw n hcond
      injection h with h
      subst h
      have hE : SoundAll Try.prog (EL [(15, nestS [] d15 ok15), (16, nestS [(1, true)] d16 ok16), (18, nestS [(1, true), (1, false)] d18 ok18), (30, nestS [(1, true)] d30 ok30), (65, nestS [(1, false)] d65 ok65), (66, nestS [(1, true), (1, false)] d66 ok66), (67, nestS [] d67 ok67), (68, nestS [] d68 ok68)]) := EL_sound (by simp only [List.mem_cons, List.not_mem_nil, or_false, forall_eq_or_imp, forall_eq]; exact ⟨s15, s16, s18, s30, s65, s66, s67, s68⟩)
      obtain ⟨hck, hft, hn⟩ := hcond
      obtain ⟨ca, cb, cc, cd, ce, cf, cg⟩ := check_in hck
      obtain ⟨fe, ff, fd, fa, fb, fc⟩ := fits_in hft
      have hra := script_rows (a := a) (b := b) (c := c) (d := d) (ma := ma) (mt := mt) (md := md) (mp := mp) (mw := mw) (s := s) (n := n.toNat) fd.2
      obtain ⟨A, hA⟩ : ∃ A : Nat, a = A := ⟨a.toNat, by omega⟩
      subst hA
      obtain ⟨N, hNN, hNa, hNb⟩ : ∃ N : Nat, n.toNat = N ∧ max n 0 ≤ N ∧ (N : Int) ≤ max n 0 := ⟨n.toNat, rfl, by omega, by omega⟩
      rw [hNN] at hra ⊢
      clear hNN
      have hN : (if 0 < (if 65536 < n then 65536 else n) then (if 65536 < n then 65536 else n) else 0) = (N : Int) := by
        have h65 : ¬ 65536 < n := by omega
        rw [if_neg h65]
        split <;> omega
      have hrep1 : t0LL (List.replicate A [AV.int .i64 0]) = List.replicate A [AV.int .i64 0] := by simpa [intR] using ints_t0 (List.replicate A 0)
      have hrep2 : clLL (List.replicate A [AV.int .i64 0]) = true := by simpa [intR] using ints_cl (List.replicate A 0)
      have hms3 := mx0_in fa.2
      have hmt3 := mx0_in fb.2
      have hmd3 := mx0_in fc.2
      have hA8 : (A : Int) * 8 ≤ 281474976710656 := by omega
      have hA99 : (A : Int) ≤ 9223372036854775807 := by omega
      unfold m43
      repeat' with_reducible (first
        | refine Wm_seq ?_
        | refine Wm_skip ?_
        | refine Wm_ret ?_
        | refine Wm_block ?_
        | refine Wm_exit ?_
        | refine thenK_normal ?_
        | refine thenK_ret ?_
        | refine thenK_exit ?_
        | refine blockK_normal ?_
        | refine blockK_ret ?_
        | refine blockK_here ?_
        | refine loopK_ret ?_
        | refine loopK_exit ?_
        | refine unK_ret ?_
        | refine unK_exit ?_
        | refine unK_normal ?_
        | refine loopOk_succ ?_
        | refine blockK_exit (by decide) ?_
        | (refine wreg (mos := q43_0) hE [1, 3, 4, 6] (by kernel_rfl) ?_; intro K hK; simp [q43_0, wrap_in, hA8, hA99, d15, d16, d18, d30, d65, d66, d67, d68]; (repeat' (first | refine hK _ _ ?_ | refine And.intro ?_ ?_ | (intro hc; try subst hc))) <;> (try clear hK K))
        | (refine wreg (mos := q43_1) hE [3, 4, 6, 9] (by kernel_rfl) ?_; intro K hK; simp [q43_1, wrap_in, hA8, hA99, d15, d16, d18, d30, d65, d66, d67, d68]; (repeat' (first | refine hK _ _ ?_ | refine And.intro ?_ ?_ | (intro hc; try subst hc))) <;> (try clear hK K))
        | (refine wreg (mos := q43_2) hE [3, 4, 6, 9, 10] (by kernel_rfl) ?_; intro K hK; simp [q43_2, wrap_in, hA8, hA99, d15, d16, d18, d30, d65, d66, d67, d68]; (repeat' (first | refine hK _ _ ?_ | refine And.intro ?_ ?_ | (intro hc; try subst hc))) <;> (try clear hK K))
        | (refine wreg (mos := q43_3) hE [3, 4, 6, 9, 10, 11] (by kernel_rfl) ?_; intro K hK; simp [q43_3, wrap_in, hA8, hA99, d15, d16, d18, d30, d65, d66, d67, d68]; (repeat' (first | refine hK _ _ ?_ | refine And.intro ?_ ?_ | (intro hc; try subst hc))) <;> (try clear hK K))
        | (refine wreg (mos := q43_4) hE [3, 4, 6, 9, 10, 11, 12] (by kernel_rfl) ?_; intro K hK; simp [q43_4, wrap_in, hA8, hA99, d15, d16, d18, d30, d65, d66, d67, d68]; (repeat' (first | refine hK _ _ ?_ | refine And.intro ?_ ?_ | (intro hc; try subst hc))) <;> (try clear hK K))
        | (refine wreg (mos := q43_5) hE [3, 4, 6, 9, 10, 11, 12] (by kernel_rfl) ?_; intro K hK; simp [q43_5, wrap_in, hA8, hA99, d15, d16, d18, d30, d65, d66, d67, d68]; (repeat' (first | refine hK _ _ ?_ | refine And.intro ?_ ?_ | (intro hc; try subst hc))) <;> (try clear hK K))
        | (refine wreg (mos := q43_6) hE [3, 4, 6, 9, 10, 11, 12, 29] (by kernel_rfl) ?_; intro K hK; simp [q43_6, wrap_in, hA8, hA99, d15, d16, d18, d30, d65, d66, d67, d68]; (repeat' (first | refine hK _ _ ?_ | refine And.intro ?_ ?_ | (intro hc; try subst hc))) <;> (try clear hK K))
        | (refine wreg (mos := q43_7) hE [3, 4, 6, 9, 10, 11, 12, 13] (by kernel_rfl) ?_; intro K hK; simp [q43_7, wrap_in, hA8, hA99, d15, d16, d18, d30, d65, d66, d67, d68]; (repeat' (first | refine hK _ _ ?_ | refine And.intro ?_ ?_ | (intro hc; try subst hc))) <;> (try clear hK K))
        | (refine wreg (mos := q43_8) hE [3, 4, 6, 9, 10, 11, 12, 13, 14] (by kernel_rfl) ?_; intro K hK; simp [q43_8, wrap_in, hA8, hA99, d15, d16, d18, d30, d65, d66, d67, d68]; (repeat' (first | refine hK _ _ ?_ | refine And.intro ?_ ?_ | (intro hc; try subst hc))) <;> (try clear hK K))
        | (refine wreg (mos := q43_9) hE [3, 4, 6, 9, 10, 11, 12, 13, 14, 71] (by kernel_rfl) ?_; intro K hK; simp [q43_9, wrap_in, hA8, hA99, d15, d16, d18, d30, d65, d66, d67, d68]; (repeat' (first | refine hK _ _ ?_ | refine And.intro ?_ ?_ | (intro hc; try subst hc))) <;> (try clear hK K))
        | (refine wreg (mos := q43_10) hE [3, 4, 6, 9, 10, 11, 12, 13] (by kernel_rfl) ?_; intro K hK; simp [q43_10, wrap_in, hA8, hA99, d15, d16, d18, d30, d65, d66, d67, d68]; (repeat' (first | refine hK _ _ ?_ | refine And.intro ?_ ?_ | (intro hc; try subst hc))) <;> (try clear hK K))
        | (refine wdraw (mos := q43_11) hE mixT c43_11 [3, 4, 6, 9, 10, 11, 12] (by kernel_rfl) ?_; intro K hK; simp [q43_11, c43_11, wrap_in, hA8, hA99, d15, d16, d18, d30, d65, d66, d67, d68]; (repeat' (first | refine hK _ _ ?_ | refine And.intro ?_ ?_ | (intro hc; try subst hc))) <;> (try clear hK K))
        | (refine wreg (mos := q43_12) hE [3, 4, 6, 9, 10, 11, 12, 13, 14, 97] (by kernel_rfl) ?_; intro K hK; simp [q43_12, wrap_in, hA8, hA99, d15, d16, d18, d30, d65, d66, d67, d68]; (repeat' (first | refine hK _ _ ?_ | refine And.intro ?_ ?_ | (intro hc; try subst hc))) <;> (try clear hK K))
        | (refine wreg (mos := q43_13) hE [3, 4, 6, 9, 10, 11, 12, 15] (by kernel_rfl) ?_; intro K hK; simp [q43_13, wrap_in, hA8, hA99, d15, d16, d18, d30, d65, d66, d67, d68]; (repeat' (first | refine hK _ _ ?_ | refine And.intro ?_ ?_ | (intro hc; try subst hc))) <;> (try clear hK K))
        | (refine wreg (mos := q43_14) hE [3, 4, 6, 9, 10, 11, 12, 15] (by kernel_rfl) ?_; intro K hK; simp [q43_14, wrap_in, hA8, hA99, d15, d16, d18, d30, d65, d66, d67, d68]; (repeat' (first | refine hK _ _ ?_ | refine And.intro ?_ ?_ | (intro hc; try subst hc))) <;> (try clear hK K))
        | (refine wreg (mos := q43_15) hE [3, 4, 6, 9, 10, 11, 12] (by kernel_rfl) ?_; intro K hK; simp [q43_15, wrap_in, hA8, hA99, d15, d16, d18, d30, d65, d66, d67, d68]; (repeat' (first | refine hK _ _ ?_ | refine And.intro ?_ ?_ | (intro hc; try subst hc))) <;> (try clear hK K))
        | (refine wreg (mos := q43_16) hE [3, 4, 6, 9, 10, 11, 12, 13, 119] (by kernel_rfl) ?_; intro K hK; simp [q43_16, wrap_in, hA8, hA99, d15, d16, d18, d30, d65, d66, d67, d68]; (repeat' (first | refine hK _ _ ?_ | refine And.intro ?_ ?_ | (intro hc; try subst hc))) <;> (try clear hK K))
        | (refine wreg (mos := q43_17) hE [3, 4, 6, 9, 10, 11, 12] (by kernel_rfl) ?_; intro K hK; simp [q43_17, wrap_in, hA8, hA99, d15, d16, d18, d30, d65, d66, d67, d68]; (repeat' (first | refine hK _ _ ?_ | refine And.intro ?_ ?_ | (intro hc; try subst hc))) <;> (try clear hK K))
        | (refine wreg (mos := q43_18) hE [3, 4, 6, 9, 10, 11, 12, 16] (by kernel_rfl) ?_; intro K hK; simp [q43_18, wrap_in, hA8, hA99, d15, d16, d18, d30, d65, d66, d67, d68]; (repeat' (first | refine hK _ _ ?_ | refine And.intro ?_ ?_ | (intro hc; try subst hc))) <;> (try clear hK K))
        | (refine wreg (mos := q43_19) hE [3, 4, 6, 9, 10, 11, 12, 16, 63, 64] (by kernel_rfl) ?_; intro K hK; simp [q43_19, wrap_in, hA8, hA99, d15, d16, d18, d30, d65, d66, d67, d68]; (repeat' (first | refine hK _ _ ?_ | refine And.intro ?_ ?_ | (intro hc; try subst hc))) <;> (try clear hK K))
        | (refine wreg (mos := q43_20) hE [3, 4, 6, 9, 10, 11, 12, 16, 63, 64, 65] (by kernel_rfl) ?_; intro K hK; simp [q43_20, wrap_in, hA8, hA99, d15, d16, d18, d30, d65, d66, d67, d68]; (repeat' (first | refine hK _ _ ?_ | refine And.intro ?_ ?_ | (intro hc; try subst hc))) <;> (try clear hK K))
        | (refine wreg (mos := q43_21) hE [3, 4, 6, 9, 10, 11, 12, 16, 63, 64] (by kernel_rfl) ?_; intro K hK; simp [q43_21, wrap_in, hA8, hA99, d15, d16, d18, d30, d65, d66, d67, d68]; (repeat' (first | refine hK _ _ ?_ | refine And.intro ?_ ?_ | (intro hc; try subst hc))) <;> (try clear hK K))
        | (refine wreg (mos := q43_22) hE [3, 4, 6, 9, 10, 11, 12, 16, 63, 64] (by kernel_rfl) ?_; intro K hK; simp [q43_22, wrap_in, hA8, hA99, d15, d16, d18, d30, d65, d66, d67, d68]; (repeat' (first | refine hK _ _ ?_ | refine And.intro ?_ ?_ | (intro hc; try subst hc))) <;> (try clear hK K))
        | (refine wreg (mos := q43_23) hE [8] (by kernel_rfl) ?_; intro K hK; simp [q43_23, wrap_in, hA8, hA99, d15, d16, d18, d30, d65, d66, d67, d68]; (repeat' (first | refine hK _ _ ?_ | refine And.intro ?_ ?_ | (intro hc; try subst hc))) <;> (try clear hK K))
        | (refine Wm_cond (b := _) (by with_unfolding_all rfl) (fun hc => ?_) (fun hc => ?_) <;> simp at hc <;> (try subst hc)))
      all_goals (refine Wm_loop (I43 [.int .i64 (A : Int), .int .i64 b, .int .i64 c, .int .i64 d, .int .i64 e, .int .i64 f, .int .i64 g] [.int .i64 ma, .int .i64 mt, .int .i64 md, .int .i64 ms, .int .i64 mp, .int .i64 mw] N A) (fun q => Keeps A N q ∧ runZ (stepZ A b c d ma mt md ms mp mw) N (N - q.out.length) q = runZ (stepZ A b c d ma mt md ms mp mw) N N ⟨s, List.replicate A 0, 0, []⟩) (fun q => N - q.out.length) ⟨s, List.replicate A 0, 0, []⟩ ⟨⟨rfl, by simp, by simp, by simp, by simp⟩, by simp⟩ ?_ ?_)
      · simp only [I43]
        rw [hS]
        refine Imp.auto (by kernel_rfl) ?_ ?_ <;> simp [nmap, lkp, mkPl, prs, prsL, prT, ddL, idL, NLe, CRenL, CRen, Ren, RenL, NObj.none, hN, intR, hrep1, hrep2]
      · intro q ⟨hK, hR⟩
        simp only [I43]
        have hmx1 : (if ma < 0 then 0 else ma) = mx0 ma := rfl
        have hmx2 : (if mt < 0 then 0 else mt) = mx0 mt := rfl
        have hmx3 : (if md < 0 then 0 else md) = mx0 md := rfl
        have hta : ∀ n, tlLL n q.out = true := fun n => rows_tl hK.rows
        have hnow0 := hK.now.1
        have hnow1 := hK.now.2
        have hfew := hK.few
        have hit := ints_t0 q.ids
        have hic := ints_cl q.ids
        have hN65 : N ≤ 65536 := by omega
        by_cases hlen : q.out.length < N
        · have hNl : (q.out.length : Int) < (N : Int) := by omega
          obtain ⟨W, hWd⟩ : ∃ W : Nat, belowZ q.s A = W := ⟨(belowZ q.s A).toNat, by have := below_in (s := q.s) (n := A) (by omega); omega⟩
          have hWI : (W : Int) < (A : Int) := by have := below_in (s := q.s) (n := A) (by omega); omega
          have hWA : W < A := by omega
          have hWi : W < q.ids.length := by rw [hK.len]; exact hWA
          obtain ⟨x, hid⟩ : ∃ x, q.ids[W]? = some x := ⟨_, List.getElem?_eq_getElem hWi⟩
          have hset : ((List.map intR q.ids).set W [AV.int .i64 (x + 1)])[W]? = some [AV.int .i64 (x + 1)] := List.getElem?_set_self (by simpa using hWi)
          have hit2 : t0LL ((List.map intR q.ids).set W [AV.int .i64 (x + 1)]) = (List.map intR q.ids).set W [AV.int .i64 (x + 1)] := by simpa [intR] using ints_t0 (q.ids.set W (x + 1))
          have hic2 : clLL ((List.map intR q.ids).set W [AV.int .i64 (x + 1)]) = true := by simpa [intR] using ints_cl (q.ids.set W (x + 1))
          have hx := hK.num x (List.mem_of_getElem? hid)
          have hAA : (A : Int) ≤ 9223372036854775807 := by omega
          have hA9 : 0 ≤ x + 1 := by omega
          have hA10 : x + 1 ≤ 1048576 := by omega
          have w1 : IntKind.wrap .i64 (x + 1) = x + 1 := wrap_in (by omega) (by omega)
          have w2 : IntKind.wrap .i64 (mx0 ma + mx0 mt) = mx0 ma + mx0 mt := wrap_in (by omega) (by omega)
          have w3 : IntKind.wrap .i64 (mx0 ma + mx0 mt + mx0 md) = mx0 ma + mx0 mt + mx0 md := wrap_in (by omega) (by omega)
          have w4 : IntKind.wrap .i64 (mx0 ma + mx0 mt + mx0 md + 4) = mx0 ma + mx0 mt + mx0 md + 4 := wrap_in (by omega) (by omega)
          have hk9 : mx0 ma + mx0 mt + mx0 md + 4 ≤ 9223372036854775807 := by omega
          have hp1 : (q.out.length + 1) * 96 ≤ 140737488355328 := by omega
          have hp2 : q.out.length + 1 ≤ 9223372036854775807 := by omega
          by_cases hk1 : belowZ (nextS q.s) (mx0 ma + mx0 mt + mx0 md + 4) < mx0 ma
          · have hrt := rows_t0 (hK.step (b := b) (a := A) (c := c) (d := d) (ma := ma) (mt := mt) (md := md) (mp := mp) (mw := mw) hlen fd.2).rows
            have hrc := rows_cl (hK.step (b := b) (a := A) (c := c) (d := d) (ma := ma) (mt := mt) (md := md) (mp := mp) (mw := mw) hlen fd.2).rows
            simp [stepZ, kZ, whoZ, hWd, hid, hk1, evR] at hrt hrc
            repeat' with_reducible (first
              | refine Wm_seq ?_
              | refine Wm_skip ?_
              | refine Wm_ret ?_
              | refine Wm_block ?_
              | refine Wm_exit ?_
              | refine thenK_normal ?_
              | refine thenK_ret ?_
              | refine thenK_exit ?_
              | refine blockK_normal ?_
              | refine blockK_ret ?_
              | refine blockK_here ?_
              | refine loopK_ret ?_
              | refine loopK_exit ?_
              | refine unK_ret ?_
              | refine unK_exit ?_
              | refine unK_normal ?_
              | refine loopOk_succ ?_
              | refine blockK_exit (by decide) ?_
              | (refine wreg (mos := q43_0) hE [1, 3, 4, 6] (by kernel_rfl) ?_; intro K hK; simp [q43_0, intR, hset, hWd, hWA, hWI, hAA, hid, w1, w2, w3, w4, hmx1, hmx2, hmx3, hk9, hA9, hNl, hta, hnow0, hnow1, hck, hft, hA10, hp1, hp2, hk1, d15, d16, d18, d30, d65, d66, d67, d68]; (repeat' (first | refine hK _ _ ?_ | refine And.intro ?_ ?_ | (intro hc; try subst hc))) <;> (try clear hK K))
              | (refine wreg (mos := q43_1) hE [3, 4, 6, 9] (by kernel_rfl) ?_; intro K hK; simp [q43_1, intR, hset, hWd, hWA, hWI, hAA, hid, w1, w2, w3, w4, hmx1, hmx2, hmx3, hk9, hA9, hNl, hta, hnow0, hnow1, hck, hft, hA10, hp1, hp2, hk1, d15, d16, d18, d30, d65, d66, d67, d68]; (repeat' (first | refine hK _ _ ?_ | refine And.intro ?_ ?_ | (intro hc; try subst hc))) <;> (try clear hK K))
              | (refine wreg (mos := q43_2) hE [3, 4, 6, 9, 10] (by kernel_rfl) ?_; intro K hK; simp [q43_2, intR, hset, hWd, hWA, hWI, hAA, hid, w1, w2, w3, w4, hmx1, hmx2, hmx3, hk9, hA9, hNl, hta, hnow0, hnow1, hck, hft, hA10, hp1, hp2, hk1, d15, d16, d18, d30, d65, d66, d67, d68]; (repeat' (first | refine hK _ _ ?_ | refine And.intro ?_ ?_ | (intro hc; try subst hc))) <;> (try clear hK K))
              | (refine wreg (mos := q43_3) hE [3, 4, 6, 9, 10, 11] (by kernel_rfl) ?_; intro K hK; simp [q43_3, intR, hset, hWd, hWA, hWI, hAA, hid, w1, w2, w3, w4, hmx1, hmx2, hmx3, hk9, hA9, hNl, hta, hnow0, hnow1, hck, hft, hA10, hp1, hp2, hk1, d15, d16, d18, d30, d65, d66, d67, d68]; (repeat' (first | refine hK _ _ ?_ | refine And.intro ?_ ?_ | (intro hc; try subst hc))) <;> (try clear hK K))
              | (refine wreg (mos := q43_4) hE [3, 4, 6, 9, 10, 11, 12] (by kernel_rfl) ?_; intro K hK; simp [q43_4, intR, hset, hWd, hWA, hWI, hAA, hid, w1, w2, w3, w4, hmx1, hmx2, hmx3, hk9, hA9, hNl, hta, hnow0, hnow1, hck, hft, hA10, hp1, hp2, hk1, d15, d16, d18, d30, d65, d66, d67, d68]; (repeat' (first | refine hK _ _ ?_ | refine And.intro ?_ ?_ | (intro hc; try subst hc))) <;> (try clear hK K))
              | (refine wreg (mos := q43_5) hE [3, 4, 6, 9, 10, 11, 12] (by kernel_rfl) ?_; intro K hK; simp [q43_5, intR, hset, hWd, hWA, hWI, hAA, hid, w1, w2, w3, w4, hmx1, hmx2, hmx3, hk9, hA9, hNl, hta, hnow0, hnow1, hck, hft, hA10, hp1, hp2, hk1, d15, d16, d18, d30, d65, d66, d67, d68]; (repeat' (first | refine hK _ _ ?_ | refine And.intro ?_ ?_ | (intro hc; try subst hc))) <;> (try clear hK K))
              | (refine wreg (mos := q43_6) hE [3, 4, 6, 9, 10, 11, 12, 29] (by kernel_rfl) ?_; intro K hK; simp [q43_6, intR, hset, hWd, hWA, hWI, hAA, hid, w1, w2, w3, w4, hmx1, hmx2, hmx3, hk9, hA9, hNl, hta, hnow0, hnow1, hck, hft, hA10, hp1, hp2, hk1, d15, d16, d18, d30, d65, d66, d67, d68]; (repeat' (first | refine hK _ _ ?_ | refine And.intro ?_ ?_ | (intro hc; try subst hc))) <;> (try clear hK K))
              | (refine wreg (mos := q43_7) hE [3, 4, 6, 9, 10, 11, 12, 13] (by kernel_rfl) ?_; intro K hK; simp [q43_7, intR, hset, hWd, hWA, hWI, hAA, hid, w1, w2, w3, w4, hmx1, hmx2, hmx3, hk9, hA9, hNl, hta, hnow0, hnow1, hck, hft, hA10, hp1, hp2, hk1, d15, d16, d18, d30, d65, d66, d67, d68]; (repeat' (first | refine hK _ _ ?_ | refine And.intro ?_ ?_ | (intro hc; try subst hc))) <;> (try clear hK K))
              | (refine wreg (mos := q43_8) hE [3, 4, 6, 9, 10, 11, 12, 13, 14] (by kernel_rfl) ?_; intro K hK; simp [q43_8, intR, hset, hWd, hWA, hWI, hAA, hid, w1, w2, w3, w4, hmx1, hmx2, hmx3, hk9, hA9, hNl, hta, hnow0, hnow1, hck, hft, hA10, hp1, hp2, hk1, d15, d16, d18, d30, d65, d66, d67, d68]; (repeat' (first | refine hK _ _ ?_ | refine And.intro ?_ ?_ | (intro hc; try subst hc))) <;> (try clear hK K))
              | (refine wreg (mos := q43_9) hE [3, 4, 6, 9, 10, 11, 12, 13, 14, 71] (by kernel_rfl) ?_; intro K hK; simp [q43_9, intR, hset, hWd, hWA, hWI, hAA, hid, w1, w2, w3, w4, hmx1, hmx2, hmx3, hk9, hA9, hNl, hta, hnow0, hnow1, hck, hft, hA10, hp1, hp2, hk1, d15, d16, d18, d30, d65, d66, d67, d68]; (repeat' (first | refine hK _ _ ?_ | refine And.intro ?_ ?_ | (intro hc; try subst hc))) <;> (try clear hK K))
              | (refine wreg (mos := q43_10) hE [3, 4, 6, 9, 10, 11, 12, 13] (by kernel_rfl) ?_; intro K hK; simp [q43_10, intR, hset, hWd, hWA, hWI, hAA, hid, w1, w2, w3, w4, hmx1, hmx2, hmx3, hk9, hA9, hNl, hta, hnow0, hnow1, hck, hft, hA10, hp1, hp2, hk1, d15, d16, d18, d30, d65, d66, d67, d68]; (repeat' (first | refine hK _ _ ?_ | refine And.intro ?_ ?_ | (intro hc; try subst hc))) <;> (try clear hK K))
              | (refine wdraw (mos := q43_11) hE mixT c43_11 [3, 4, 6, 9, 10, 11, 12] (by kernel_rfl) ?_; intro K hK; simp [q43_11, c43_11, intR, hset, hWd, hWA, hWI, hAA, hid, w1, w2, w3, w4, hmx1, hmx2, hmx3, hk9, hA9, hNl, hta, hnow0, hnow1, hck, hft, hA10, hp1, hp2, hk1, d15, d16, d18, d30, d65, d66, d67, d68]; (repeat' (first | refine hK _ _ ?_ | refine And.intro ?_ ?_ | (intro hc; try subst hc))) <;> (try clear hK K))
              | (refine wreg (mos := q43_12) hE [3, 4, 6, 9, 10, 11, 12, 13, 14, 97] (by kernel_rfl) ?_; intro K hK; simp [q43_12, intR, hset, hWd, hWA, hWI, hAA, hid, w1, w2, w3, w4, hmx1, hmx2, hmx3, hk9, hA9, hNl, hta, hnow0, hnow1, hck, hft, hA10, hp1, hp2, hk1, d15, d16, d18, d30, d65, d66, d67, d68]; (repeat' (first | refine hK _ _ ?_ | refine And.intro ?_ ?_ | (intro hc; try subst hc))) <;> (try clear hK K))
              | (refine wreg (mos := q43_13) hE [3, 4, 6, 9, 10, 11, 12, 15] (by kernel_rfl) ?_; intro K hK; simp [q43_13, intR, hset, hWd, hWA, hWI, hAA, hid, w1, w2, w3, w4, hmx1, hmx2, hmx3, hk9, hA9, hNl, hta, hnow0, hnow1, hck, hft, hA10, hp1, hp2, hk1, d15, d16, d18, d30, d65, d66, d67, d68]; (repeat' (first | refine hK _ _ ?_ | refine And.intro ?_ ?_ | (intro hc; try subst hc))) <;> (try clear hK K))
              | (refine wreg (mos := q43_14) hE [3, 4, 6, 9, 10, 11, 12, 15] (by kernel_rfl) ?_; intro K hK; simp [q43_14, intR, hset, hWd, hWA, hWI, hAA, hid, w1, w2, w3, w4, hmx1, hmx2, hmx3, hk9, hA9, hNl, hta, hnow0, hnow1, hck, hft, hA10, hp1, hp2, hk1, d15, d16, d18, d30, d65, d66, d67, d68]; (repeat' (first | refine hK _ _ ?_ | refine And.intro ?_ ?_ | (intro hc; try subst hc))) <;> (try clear hK K))
              | (refine wreg (mos := q43_15) hE [3, 4, 6, 9, 10, 11, 12] (by kernel_rfl) ?_; intro K hK; simp [q43_15, intR, hset, hWd, hWA, hWI, hAA, hid, w1, w2, w3, w4, hmx1, hmx2, hmx3, hk9, hA9, hNl, hta, hnow0, hnow1, hck, hft, hA10, hp1, hp2, hk1, d15, d16, d18, d30, d65, d66, d67, d68]; (repeat' (first | refine hK _ _ ?_ | refine And.intro ?_ ?_ | (intro hc; try subst hc))) <;> (try clear hK K))
              | (refine wreg (mos := q43_16) hE [3, 4, 6, 9, 10, 11, 12, 13, 119] (by kernel_rfl) ?_; intro K hK; simp [q43_16, intR, hset, hWd, hWA, hWI, hAA, hid, w1, w2, w3, w4, hmx1, hmx2, hmx3, hk9, hA9, hNl, hta, hnow0, hnow1, hck, hft, hA10, hp1, hp2, hk1, d15, d16, d18, d30, d65, d66, d67, d68]; (repeat' (first | refine hK _ _ ?_ | refine And.intro ?_ ?_ | (intro hc; try subst hc))) <;> (try clear hK K))
              | (refine wreg (mos := q43_17) hE [3, 4, 6, 9, 10, 11, 12] (by kernel_rfl) ?_; intro K hK; simp [q43_17, intR, hset, hWd, hWA, hWI, hAA, hid, w1, w2, w3, w4, hmx1, hmx2, hmx3, hk9, hA9, hNl, hta, hnow0, hnow1, hck, hft, hA10, hp1, hp2, hk1, d15, d16, d18, d30, d65, d66, d67, d68]; (repeat' (first | refine hK _ _ ?_ | refine And.intro ?_ ?_ | (intro hc; try subst hc))) <;> (try clear hK K))
              | (refine wreg (mos := q43_18) hE [3, 4, 6, 9, 10, 11, 12, 16] (by kernel_rfl) ?_; intro K hK; simp [q43_18, intR, hset, hWd, hWA, hWI, hAA, hid, w1, w2, w3, w4, hmx1, hmx2, hmx3, hk9, hA9, hNl, hta, hnow0, hnow1, hck, hft, hA10, hp1, hp2, hk1, d15, d16, d18, d30, d65, d66, d67, d68]; (repeat' (first | refine hK _ _ ?_ | refine And.intro ?_ ?_ | (intro hc; try subst hc))) <;> (try clear hK K))
              | (refine wreg (mos := q43_19) hE [3, 4, 6, 9, 10, 11, 12, 16, 63, 64] (by kernel_rfl) ?_; intro K hK; simp [q43_19, intR, hset, hWd, hWA, hWI, hAA, hid, w1, w2, w3, w4, hmx1, hmx2, hmx3, hk9, hA9, hNl, hta, hnow0, hnow1, hck, hft, hA10, hp1, hp2, hk1, d15, d16, d18, d30, d65, d66, d67, d68]; (repeat' (first | refine hK _ _ ?_ | refine And.intro ?_ ?_ | (intro hc; try subst hc))) <;> (try clear hK K))
              | (refine wreg (mos := q43_20) hE [3, 4, 6, 9, 10, 11, 12, 16, 63, 64, 65] (by kernel_rfl) ?_; intro K hK; simp [q43_20, intR, hset, hWd, hWA, hWI, hAA, hid, w1, w2, w3, w4, hmx1, hmx2, hmx3, hk9, hA9, hNl, hta, hnow0, hnow1, hck, hft, hA10, hp1, hp2, hk1, d15, d16, d18, d30, d65, d66, d67, d68]; (repeat' (first | refine hK _ _ ?_ | refine And.intro ?_ ?_ | (intro hc; try subst hc))) <;> (try clear hK K))
              | (refine wreg (mos := q43_21) hE [3, 4, 6, 9, 10, 11, 12, 16, 63, 64] (by kernel_rfl) ?_; intro K hK; simp [q43_21, intR, hset, hWd, hWA, hWI, hAA, hid, w1, w2, w3, w4, hmx1, hmx2, hmx3, hk9, hA9, hNl, hta, hnow0, hnow1, hck, hft, hA10, hp1, hp2, hk1, d15, d16, d18, d30, d65, d66, d67, d68]; (repeat' (first | refine hK _ _ ?_ | refine And.intro ?_ ?_ | (intro hc; try subst hc))) <;> (try clear hK K))
              | (refine wreg (mos := q43_22) hE [3, 4, 6, 9, 10, 11, 12, 16, 63, 64] (by kernel_rfl) ?_; intro K hK; simp [q43_22, intR, hset, hWd, hWA, hWI, hAA, hid, w1, w2, w3, w4, hmx1, hmx2, hmx3, hk9, hA9, hNl, hta, hnow0, hnow1, hck, hft, hA10, hp1, hp2, hk1, d15, d16, d18, d30, d65, d66, d67, d68]; (repeat' (first | refine hK _ _ ?_ | refine And.intro ?_ ?_ | (intro hc; try subst hc))) <;> (try clear hK K))
              | (refine wreg (mos := q43_23) hE [8] (by kernel_rfl) ?_; intro K hK; simp [q43_23, intR, hset, hWd, hWA, hWI, hAA, hid, w1, w2, w3, w4, hmx1, hmx2, hmx3, hk9, hA9, hNl, hta, hnow0, hnow1, hck, hft, hA10, hp1, hp2, hk1, d15, d16, d18, d30, d65, d66, d67, d68]; (repeat' (first | refine hK _ _ ?_ | refine And.intro ?_ ?_ | (intro hc; try subst hc))) <;> (try clear hK K))
              | (refine Wm_cond (b := _) (by with_unfolding_all rfl) (fun hc => ?_) (fun hc => ?_) <;> simp at hc <;> (try subst hc)))
            all_goals refine ⟨(stepZ A b c d ma mt md ms mp mw) q, ⟨hK.step hlen fd.2, (run_step (step_more _ _ _ _ _ _ _ _ _ _) hlen).trans hR⟩, ?_, ?_⟩
            · show N - ((stepZ A b c d ma mt md ms mp mw) q).out.length < N - q.out.length
              have := step_more A b c d ma mt md ms mp mw q
              omega
            · simp [I43, stepZ, kZ, whoZ, hWd, hid, hk1]
              rw [hS]
              refine Imp.auto (by kernel_rfl) ?_ ?_ <;> simp [nmap, lkp, mkPl, prs, prsL, prT, ddL, idL, NLe, CRenL, CRen, Ren, RenL, NObj.none, hit, hic, hit2, hic2, intR, hrt, hrc, evR]
          · by_cases hk2 : belowZ (nextS q.s) (mx0 ma + mx0 mt + mx0 md + 4) < mx0 ma + mx0 mt
            · have hb3 := below_in (s := nextS (nextS q.s)) (n := 3) (by omega)
              have hb0 : 0 ≤ belowZ (nextS (nextS q.s)) 3 := hb3.1
              have hb1 : 1 + belowZ (nextS (nextS q.s)) 3 ≤ 3 := by omega
              have hb2 : 1 ≤ 1 + belowZ (nextS (nextS q.s)) 3 := by omega
              have wx : IntKind.wrap .i64 (1 + belowZ (nextS (nextS q.s)) 3) = 1 + belowZ (nextS (nextS q.s)) 3 := wrap_in (by omega) (by omega)
              have hrt := rows_t0 (hK.step (b := b) (a := A) (c := c) (d := d) (ma := ma) (mt := mt) (md := md) (mp := mp) (mw := mw) hlen fd.2).rows
              have hrc := rows_cl (hK.step (b := b) (a := A) (c := c) (d := d) (ma := ma) (mt := mt) (md := md) (mp := mp) (mw := mw) hlen fd.2).rows
              simp [stepZ, kZ, whoZ, hWd, hid, hk1, hk2, evR] at hrt hrc
              repeat' with_reducible (first
                | refine Wm_seq ?_
                | refine Wm_skip ?_
                | refine Wm_ret ?_
                | refine Wm_block ?_
                | refine Wm_exit ?_
                | refine thenK_normal ?_
                | refine thenK_ret ?_
                | refine thenK_exit ?_
                | refine blockK_normal ?_
                | refine blockK_ret ?_
                | refine blockK_here ?_
                | refine loopK_ret ?_
                | refine loopK_exit ?_
                | refine unK_ret ?_
                | refine unK_exit ?_
                | refine unK_normal ?_
                | refine loopOk_succ ?_
                | refine blockK_exit (by decide) ?_
                | (refine wreg (mos := q43_0) hE [1, 3, 4, 6] (by kernel_rfl) ?_; intro K hK; simp [q43_0, intR, hset, hWd, hWA, hWI, hAA, hid, w1, w2, w3, w4, hmx1, hmx2, hmx3, hk9, hA9, hNl, hta, hnow0, hnow1, hck, hft, hp1, hp2, hk1, hk2, hb0, hb1, hb2, wx, d15, d16, d18, d30, d65, d66, d67, d68]; (repeat' (first | refine hK _ _ ?_ | refine And.intro ?_ ?_ | (intro hc; try subst hc))) <;> (try clear hK K))
                | (refine wreg (mos := q43_1) hE [3, 4, 6, 9] (by kernel_rfl) ?_; intro K hK; simp [q43_1, intR, hset, hWd, hWA, hWI, hAA, hid, w1, w2, w3, w4, hmx1, hmx2, hmx3, hk9, hA9, hNl, hta, hnow0, hnow1, hck, hft, hp1, hp2, hk1, hk2, hb0, hb1, hb2, wx, d15, d16, d18, d30, d65, d66, d67, d68]; (repeat' (first | refine hK _ _ ?_ | refine And.intro ?_ ?_ | (intro hc; try subst hc))) <;> (try clear hK K))
                | (refine wreg (mos := q43_2) hE [3, 4, 6, 9, 10] (by kernel_rfl) ?_; intro K hK; simp [q43_2, intR, hset, hWd, hWA, hWI, hAA, hid, w1, w2, w3, w4, hmx1, hmx2, hmx3, hk9, hA9, hNl, hta, hnow0, hnow1, hck, hft, hp1, hp2, hk1, hk2, hb0, hb1, hb2, wx, d15, d16, d18, d30, d65, d66, d67, d68]; (repeat' (first | refine hK _ _ ?_ | refine And.intro ?_ ?_ | (intro hc; try subst hc))) <;> (try clear hK K))
                | (refine wreg (mos := q43_3) hE [3, 4, 6, 9, 10, 11] (by kernel_rfl) ?_; intro K hK; simp [q43_3, intR, hset, hWd, hWA, hWI, hAA, hid, w1, w2, w3, w4, hmx1, hmx2, hmx3, hk9, hA9, hNl, hta, hnow0, hnow1, hck, hft, hp1, hp2, hk1, hk2, hb0, hb1, hb2, wx, d15, d16, d18, d30, d65, d66, d67, d68]; (repeat' (first | refine hK _ _ ?_ | refine And.intro ?_ ?_ | (intro hc; try subst hc))) <;> (try clear hK K))
                | (refine wreg (mos := q43_4) hE [3, 4, 6, 9, 10, 11, 12] (by kernel_rfl) ?_; intro K hK; simp [q43_4, intR, hset, hWd, hWA, hWI, hAA, hid, w1, w2, w3, w4, hmx1, hmx2, hmx3, hk9, hA9, hNl, hta, hnow0, hnow1, hck, hft, hp1, hp2, hk1, hk2, hb0, hb1, hb2, wx, d15, d16, d18, d30, d65, d66, d67, d68]; (repeat' (first | refine hK _ _ ?_ | refine And.intro ?_ ?_ | (intro hc; try subst hc))) <;> (try clear hK K))
                | (refine wreg (mos := q43_5) hE [3, 4, 6, 9, 10, 11, 12] (by kernel_rfl) ?_; intro K hK; simp [q43_5, intR, hset, hWd, hWA, hWI, hAA, hid, w1, w2, w3, w4, hmx1, hmx2, hmx3, hk9, hA9, hNl, hta, hnow0, hnow1, hck, hft, hp1, hp2, hk1, hk2, hb0, hb1, hb2, wx, d15, d16, d18, d30, d65, d66, d67, d68]; (repeat' (first | refine hK _ _ ?_ | refine And.intro ?_ ?_ | (intro hc; try subst hc))) <;> (try clear hK K))
                | (refine wreg (mos := q43_6) hE [3, 4, 6, 9, 10, 11, 12, 29] (by kernel_rfl) ?_; intro K hK; simp [q43_6, intR, hset, hWd, hWA, hWI, hAA, hid, w1, w2, w3, w4, hmx1, hmx2, hmx3, hk9, hA9, hNl, hta, hnow0, hnow1, hck, hft, hp1, hp2, hk1, hk2, hb0, hb1, hb2, wx, d15, d16, d18, d30, d65, d66, d67, d68]; (repeat' (first | refine hK _ _ ?_ | refine And.intro ?_ ?_ | (intro hc; try subst hc))) <;> (try clear hK K))
                | (refine wreg (mos := q43_7) hE [3, 4, 6, 9, 10, 11, 12, 13] (by kernel_rfl) ?_; intro K hK; simp [q43_7, intR, hset, hWd, hWA, hWI, hAA, hid, w1, w2, w3, w4, hmx1, hmx2, hmx3, hk9, hA9, hNl, hta, hnow0, hnow1, hck, hft, hp1, hp2, hk1, hk2, hb0, hb1, hb2, wx, d15, d16, d18, d30, d65, d66, d67, d68]; (repeat' (first | refine hK _ _ ?_ | refine And.intro ?_ ?_ | (intro hc; try subst hc))) <;> (try clear hK K))
                | (refine wreg (mos := q43_8) hE [3, 4, 6, 9, 10, 11, 12, 13, 14] (by kernel_rfl) ?_; intro K hK; simp [q43_8, intR, hset, hWd, hWA, hWI, hAA, hid, w1, w2, w3, w4, hmx1, hmx2, hmx3, hk9, hA9, hNl, hta, hnow0, hnow1, hck, hft, hp1, hp2, hk1, hk2, hb0, hb1, hb2, wx, d15, d16, d18, d30, d65, d66, d67, d68]; (repeat' (first | refine hK _ _ ?_ | refine And.intro ?_ ?_ | (intro hc; try subst hc))) <;> (try clear hK K))
                | (refine wreg (mos := q43_9) hE [3, 4, 6, 9, 10, 11, 12, 13, 14, 71] (by kernel_rfl) ?_; intro K hK; simp [q43_9, intR, hset, hWd, hWA, hWI, hAA, hid, w1, w2, w3, w4, hmx1, hmx2, hmx3, hk9, hA9, hNl, hta, hnow0, hnow1, hck, hft, hp1, hp2, hk1, hk2, hb0, hb1, hb2, wx, d15, d16, d18, d30, d65, d66, d67, d68]; (repeat' (first | refine hK _ _ ?_ | refine And.intro ?_ ?_ | (intro hc; try subst hc))) <;> (try clear hK K))
                | (refine wreg (mos := q43_10) hE [3, 4, 6, 9, 10, 11, 12, 13] (by kernel_rfl) ?_; intro K hK; simp [q43_10, intR, hset, hWd, hWA, hWI, hAA, hid, w1, w2, w3, w4, hmx1, hmx2, hmx3, hk9, hA9, hNl, hta, hnow0, hnow1, hck, hft, hp1, hp2, hk1, hk2, hb0, hb1, hb2, wx, d15, d16, d18, d30, d65, d66, d67, d68]; (repeat' (first | refine hK _ _ ?_ | refine And.intro ?_ ?_ | (intro hc; try subst hc))) <;> (try clear hK K))
                | (refine wdraw (mos := q43_11) hE mixT c43_11 [3, 4, 6, 9, 10, 11, 12] (by kernel_rfl) ?_; intro K hK; simp [q43_11, c43_11, intR, hset, hWd, hWA, hWI, hAA, hid, w1, w2, w3, w4, hmx1, hmx2, hmx3, hk9, hA9, hNl, hta, hnow0, hnow1, hck, hft, hp1, hp2, hk1, hk2, hb0, hb1, hb2, wx, d15, d16, d18, d30, d65, d66, d67, d68]; (repeat' (first | refine hK _ _ ?_ | refine And.intro ?_ ?_ | (intro hc; try subst hc))) <;> (try clear hK K))
                | (refine wreg (mos := q43_12) hE [3, 4, 6, 9, 10, 11, 12, 13, 14, 97] (by kernel_rfl) ?_; intro K hK; simp [q43_12, intR, hset, hWd, hWA, hWI, hAA, hid, w1, w2, w3, w4, hmx1, hmx2, hmx3, hk9, hA9, hNl, hta, hnow0, hnow1, hck, hft, hp1, hp2, hk1, hk2, hb0, hb1, hb2, wx, d15, d16, d18, d30, d65, d66, d67, d68]; (repeat' (first | refine hK _ _ ?_ | refine And.intro ?_ ?_ | (intro hc; try subst hc))) <;> (try clear hK K))
                | (refine wreg (mos := q43_13) hE [3, 4, 6, 9, 10, 11, 12, 15] (by kernel_rfl) ?_; intro K hK; simp [q43_13, intR, hset, hWd, hWA, hWI, hAA, hid, w1, w2, w3, w4, hmx1, hmx2, hmx3, hk9, hA9, hNl, hta, hnow0, hnow1, hck, hft, hp1, hp2, hk1, hk2, hb0, hb1, hb2, wx, d15, d16, d18, d30, d65, d66, d67, d68]; (repeat' (first | refine hK _ _ ?_ | refine And.intro ?_ ?_ | (intro hc; try subst hc))) <;> (try clear hK K))
                | (refine wreg (mos := q43_14) hE [3, 4, 6, 9, 10, 11, 12, 15] (by kernel_rfl) ?_; intro K hK; simp [q43_14, intR, hset, hWd, hWA, hWI, hAA, hid, w1, w2, w3, w4, hmx1, hmx2, hmx3, hk9, hA9, hNl, hta, hnow0, hnow1, hck, hft, hp1, hp2, hk1, hk2, hb0, hb1, hb2, wx, d15, d16, d18, d30, d65, d66, d67, d68]; (repeat' (first | refine hK _ _ ?_ | refine And.intro ?_ ?_ | (intro hc; try subst hc))) <;> (try clear hK K))
                | (refine wreg (mos := q43_15) hE [3, 4, 6, 9, 10, 11, 12] (by kernel_rfl) ?_; intro K hK; simp [q43_15, intR, hset, hWd, hWA, hWI, hAA, hid, w1, w2, w3, w4, hmx1, hmx2, hmx3, hk9, hA9, hNl, hta, hnow0, hnow1, hck, hft, hp1, hp2, hk1, hk2, hb0, hb1, hb2, wx, d15, d16, d18, d30, d65, d66, d67, d68]; (repeat' (first | refine hK _ _ ?_ | refine And.intro ?_ ?_ | (intro hc; try subst hc))) <;> (try clear hK K))
                | (refine wreg (mos := q43_16) hE [3, 4, 6, 9, 10, 11, 12, 13, 119] (by kernel_rfl) ?_; intro K hK; simp [q43_16, intR, hset, hWd, hWA, hWI, hAA, hid, w1, w2, w3, w4, hmx1, hmx2, hmx3, hk9, hA9, hNl, hta, hnow0, hnow1, hck, hft, hp1, hp2, hk1, hk2, hb0, hb1, hb2, wx, d15, d16, d18, d30, d65, d66, d67, d68]; (repeat' (first | refine hK _ _ ?_ | refine And.intro ?_ ?_ | (intro hc; try subst hc))) <;> (try clear hK K))
                | (refine wreg (mos := q43_17) hE [3, 4, 6, 9, 10, 11, 12] (by kernel_rfl) ?_; intro K hK; simp [q43_17, intR, hset, hWd, hWA, hWI, hAA, hid, w1, w2, w3, w4, hmx1, hmx2, hmx3, hk9, hA9, hNl, hta, hnow0, hnow1, hck, hft, hp1, hp2, hk1, hk2, hb0, hb1, hb2, wx, d15, d16, d18, d30, d65, d66, d67, d68]; (repeat' (first | refine hK _ _ ?_ | refine And.intro ?_ ?_ | (intro hc; try subst hc))) <;> (try clear hK K))
                | (refine wreg (mos := q43_18) hE [3, 4, 6, 9, 10, 11, 12, 16] (by kernel_rfl) ?_; intro K hK; simp [q43_18, intR, hset, hWd, hWA, hWI, hAA, hid, w1, w2, w3, w4, hmx1, hmx2, hmx3, hk9, hA9, hNl, hta, hnow0, hnow1, hck, hft, hp1, hp2, hk1, hk2, hb0, hb1, hb2, wx, d15, d16, d18, d30, d65, d66, d67, d68]; (repeat' (first | refine hK _ _ ?_ | refine And.intro ?_ ?_ | (intro hc; try subst hc))) <;> (try clear hK K))
                | (refine wreg (mos := q43_19) hE [3, 4, 6, 9, 10, 11, 12, 16, 63, 64] (by kernel_rfl) ?_; intro K hK; simp [q43_19, intR, hset, hWd, hWA, hWI, hAA, hid, w1, w2, w3, w4, hmx1, hmx2, hmx3, hk9, hA9, hNl, hta, hnow0, hnow1, hck, hft, hp1, hp2, hk1, hk2, hb0, hb1, hb2, wx, d15, d16, d18, d30, d65, d66, d67, d68]; (repeat' (first | refine hK _ _ ?_ | refine And.intro ?_ ?_ | (intro hc; try subst hc))) <;> (try clear hK K))
                | (refine wreg (mos := q43_20) hE [3, 4, 6, 9, 10, 11, 12, 16, 63, 64, 65] (by kernel_rfl) ?_; intro K hK; simp [q43_20, intR, hset, hWd, hWA, hWI, hAA, hid, w1, w2, w3, w4, hmx1, hmx2, hmx3, hk9, hA9, hNl, hta, hnow0, hnow1, hck, hft, hp1, hp2, hk1, hk2, hb0, hb1, hb2, wx, d15, d16, d18, d30, d65, d66, d67, d68]; (repeat' (first | refine hK _ _ ?_ | refine And.intro ?_ ?_ | (intro hc; try subst hc))) <;> (try clear hK K))
                | (refine wreg (mos := q43_21) hE [3, 4, 6, 9, 10, 11, 12, 16, 63, 64] (by kernel_rfl) ?_; intro K hK; simp [q43_21, intR, hset, hWd, hWA, hWI, hAA, hid, w1, w2, w3, w4, hmx1, hmx2, hmx3, hk9, hA9, hNl, hta, hnow0, hnow1, hck, hft, hp1, hp2, hk1, hk2, hb0, hb1, hb2, wx, d15, d16, d18, d30, d65, d66, d67, d68]; (repeat' (first | refine hK _ _ ?_ | refine And.intro ?_ ?_ | (intro hc; try subst hc))) <;> (try clear hK K))
                | (refine wreg (mos := q43_22) hE [3, 4, 6, 9, 10, 11, 12, 16, 63, 64] (by kernel_rfl) ?_; intro K hK; simp [q43_22, intR, hset, hWd, hWA, hWI, hAA, hid, w1, w2, w3, w4, hmx1, hmx2, hmx3, hk9, hA9, hNl, hta, hnow0, hnow1, hck, hft, hp1, hp2, hk1, hk2, hb0, hb1, hb2, wx, d15, d16, d18, d30, d65, d66, d67, d68]; (repeat' (first | refine hK _ _ ?_ | refine And.intro ?_ ?_ | (intro hc; try subst hc))) <;> (try clear hK K))
                | (refine wreg (mos := q43_23) hE [8] (by kernel_rfl) ?_; intro K hK; simp [q43_23, intR, hset, hWd, hWA, hWI, hAA, hid, w1, w2, w3, w4, hmx1, hmx2, hmx3, hk9, hA9, hNl, hta, hnow0, hnow1, hck, hft, hp1, hp2, hk1, hk2, hb0, hb1, hb2, wx, d15, d16, d18, d30, d65, d66, d67, d68]; (repeat' (first | refine hK _ _ ?_ | refine And.intro ?_ ?_ | (intro hc; try subst hc))) <;> (try clear hK K))
                | (refine Wm_cond (b := _) (by with_unfolding_all rfl) (fun hc => ?_) (fun hc => ?_) <;> simp at hc <;> (try subst hc)))
              all_goals refine ⟨(stepZ A b c d ma mt md ms mp mw) q, ⟨hK.step hlen fd.2, (run_step (step_more _ _ _ _ _ _ _ _ _ _) hlen).trans hR⟩, ?_, ?_⟩
              · show N - ((stepZ A b c d ma mt md ms mp mw) q).out.length < N - q.out.length
                have := step_more A b c d ma mt md ms mp mw q
                omega
              · simp [I43, stepZ, kZ, whoZ, hWd, hid, hk1, hk2]
                rw [hS]
                refine Imp.auto (by kernel_rfl) ?_ ?_ <;> simp [nmap, lkp, mkPl, prs, prsL, prT, ddL, idL, NLe, CRenL, CRen, Ren, RenL, NObj.none, hit, hic, hit2, hic2, intR, hrt, hrc, evR]
            · by_cases hk3 : belowZ (nextS q.s) (mx0 ma + mx0 mt + mx0 md + 4) < mx0 ma + mx0 mt + mx0 md
              · have hab0 : 0 ≤ (A : Int) * b := Int.mul_nonneg (by omega) (by omega)
                have hab1 : (A : Int) * b ≤ 6 * 4 := Int.mul_le_mul (by omega) (by omega) (by omega) (by omega)
                have hab2 : (A : Int) * b ≤ 1000 := by omega
                have hab3 : (A : Int) * b ≤ 9223372036854775807 := by omega
                have hrt := rows_t0 (hK.step (b := b) (a := A) (c := c) (d := d) (ma := ma) (mt := mt) (md := md) (mp := mp) (mw := mw) hlen fd.2).rows
                have hrc := rows_cl (hK.step (b := b) (a := A) (c := c) (d := d) (ma := ma) (mt := mt) (md := md) (mp := mp) (mw := mw) hlen fd.2).rows
                simp [stepZ, kZ, whoZ, hWd, hid, hk1, hk2, hk3, evR] at hrt hrc
                repeat' with_reducible (first
                  | refine Wm_seq ?_
                  | refine Wm_skip ?_
                  | refine Wm_ret ?_
                  | refine Wm_block ?_
                  | refine Wm_exit ?_
                  | refine thenK_normal ?_
                  | refine thenK_ret ?_
                  | refine thenK_exit ?_
                  | refine blockK_normal ?_
                  | refine blockK_ret ?_
                  | refine blockK_here ?_
                  | refine loopK_ret ?_
                  | refine loopK_exit ?_
                  | refine unK_ret ?_
                  | refine unK_exit ?_
                  | refine unK_normal ?_
                  | refine loopOk_succ ?_
                  | refine blockK_exit (by decide) ?_
                  | (refine wreg (mos := q43_0) hE [1, 3, 4, 6] (by kernel_rfl) ?_; intro K hK; simp [q43_0, intR, hset, hWd, hWA, hWI, hAA, hid, w1, w2, w3, w4, hmx1, hmx2, hmx3, hk9, hA9, hNl, hta, hnow0, hnow1, hck, hft, hp1, hp2, hk1, hk2, hk3, hab0, hab2, hab3, d15, d16, d18, d30, d65, d66, d67, d68]; (repeat' (first | refine hK _ _ ?_ | refine And.intro ?_ ?_ | (intro hc; try subst hc))) <;> (try clear hK K))
                  | (refine wreg (mos := q43_1) hE [3, 4, 6, 9] (by kernel_rfl) ?_; intro K hK; simp [q43_1, intR, hset, hWd, hWA, hWI, hAA, hid, w1, w2, w3, w4, hmx1, hmx2, hmx3, hk9, hA9, hNl, hta, hnow0, hnow1, hck, hft, hp1, hp2, hk1, hk2, hk3, hab0, hab2, hab3, d15, d16, d18, d30, d65, d66, d67, d68]; (repeat' (first | refine hK _ _ ?_ | refine And.intro ?_ ?_ | (intro hc; try subst hc))) <;> (try clear hK K))
                  | (refine wreg (mos := q43_2) hE [3, 4, 6, 9, 10] (by kernel_rfl) ?_; intro K hK; simp [q43_2, intR, hset, hWd, hWA, hWI, hAA, hid, w1, w2, w3, w4, hmx1, hmx2, hmx3, hk9, hA9, hNl, hta, hnow0, hnow1, hck, hft, hp1, hp2, hk1, hk2, hk3, hab0, hab2, hab3, d15, d16, d18, d30, d65, d66, d67, d68]; (repeat' (first | refine hK _ _ ?_ | refine And.intro ?_ ?_ | (intro hc; try subst hc))) <;> (try clear hK K))
                  | (refine wreg (mos := q43_3) hE [3, 4, 6, 9, 10, 11] (by kernel_rfl) ?_; intro K hK; simp [q43_3, intR, hset, hWd, hWA, hWI, hAA, hid, w1, w2, w3, w4, hmx1, hmx2, hmx3, hk9, hA9, hNl, hta, hnow0, hnow1, hck, hft, hp1, hp2, hk1, hk2, hk3, hab0, hab2, hab3, d15, d16, d18, d30, d65, d66, d67, d68]; (repeat' (first | refine hK _ _ ?_ | refine And.intro ?_ ?_ | (intro hc; try subst hc))) <;> (try clear hK K))
                  | (refine wreg (mos := q43_4) hE [3, 4, 6, 9, 10, 11, 12] (by kernel_rfl) ?_; intro K hK; simp [q43_4, intR, hset, hWd, hWA, hWI, hAA, hid, w1, w2, w3, w4, hmx1, hmx2, hmx3, hk9, hA9, hNl, hta, hnow0, hnow1, hck, hft, hp1, hp2, hk1, hk2, hk3, hab0, hab2, hab3, d15, d16, d18, d30, d65, d66, d67, d68]; (repeat' (first | refine hK _ _ ?_ | refine And.intro ?_ ?_ | (intro hc; try subst hc))) <;> (try clear hK K))
                  | (refine wreg (mos := q43_5) hE [3, 4, 6, 9, 10, 11, 12] (by kernel_rfl) ?_; intro K hK; simp [q43_5, intR, hset, hWd, hWA, hWI, hAA, hid, w1, w2, w3, w4, hmx1, hmx2, hmx3, hk9, hA9, hNl, hta, hnow0, hnow1, hck, hft, hp1, hp2, hk1, hk2, hk3, hab0, hab2, hab3, d15, d16, d18, d30, d65, d66, d67, d68]; (repeat' (first | refine hK _ _ ?_ | refine And.intro ?_ ?_ | (intro hc; try subst hc))) <;> (try clear hK K))
                  | (refine wreg (mos := q43_6) hE [3, 4, 6, 9, 10, 11, 12, 29] (by kernel_rfl) ?_; intro K hK; simp [q43_6, intR, hset, hWd, hWA, hWI, hAA, hid, w1, w2, w3, w4, hmx1, hmx2, hmx3, hk9, hA9, hNl, hta, hnow0, hnow1, hck, hft, hp1, hp2, hk1, hk2, hk3, hab0, hab2, hab3, d15, d16, d18, d30, d65, d66, d67, d68]; (repeat' (first | refine hK _ _ ?_ | refine And.intro ?_ ?_ | (intro hc; try subst hc))) <;> (try clear hK K))
                  | (refine wreg (mos := q43_7) hE [3, 4, 6, 9, 10, 11, 12, 13] (by kernel_rfl) ?_; intro K hK; simp [q43_7, intR, hset, hWd, hWA, hWI, hAA, hid, w1, w2, w3, w4, hmx1, hmx2, hmx3, hk9, hA9, hNl, hta, hnow0, hnow1, hck, hft, hp1, hp2, hk1, hk2, hk3, hab0, hab2, hab3, d15, d16, d18, d30, d65, d66, d67, d68]; (repeat' (first | refine hK _ _ ?_ | refine And.intro ?_ ?_ | (intro hc; try subst hc))) <;> (try clear hK K))
                  | (refine wreg (mos := q43_8) hE [3, 4, 6, 9, 10, 11, 12, 13, 14] (by kernel_rfl) ?_; intro K hK; simp [q43_8, intR, hset, hWd, hWA, hWI, hAA, hid, w1, w2, w3, w4, hmx1, hmx2, hmx3, hk9, hA9, hNl, hta, hnow0, hnow1, hck, hft, hp1, hp2, hk1, hk2, hk3, hab0, hab2, hab3, d15, d16, d18, d30, d65, d66, d67, d68]; (repeat' (first | refine hK _ _ ?_ | refine And.intro ?_ ?_ | (intro hc; try subst hc))) <;> (try clear hK K))
                  | (refine wreg (mos := q43_9) hE [3, 4, 6, 9, 10, 11, 12, 13, 14, 71] (by kernel_rfl) ?_; intro K hK; simp [q43_9, intR, hset, hWd, hWA, hWI, hAA, hid, w1, w2, w3, w4, hmx1, hmx2, hmx3, hk9, hA9, hNl, hta, hnow0, hnow1, hck, hft, hp1, hp2, hk1, hk2, hk3, hab0, hab2, hab3, d15, d16, d18, d30, d65, d66, d67, d68]; (repeat' (first | refine hK _ _ ?_ | refine And.intro ?_ ?_ | (intro hc; try subst hc))) <;> (try clear hK K))
                  | (refine wreg (mos := q43_10) hE [3, 4, 6, 9, 10, 11, 12, 13] (by kernel_rfl) ?_; intro K hK; simp [q43_10, intR, hset, hWd, hWA, hWI, hAA, hid, w1, w2, w3, w4, hmx1, hmx2, hmx3, hk9, hA9, hNl, hta, hnow0, hnow1, hck, hft, hp1, hp2, hk1, hk2, hk3, hab0, hab2, hab3, d15, d16, d18, d30, d65, d66, d67, d68]; (repeat' (first | refine hK _ _ ?_ | refine And.intro ?_ ?_ | (intro hc; try subst hc))) <;> (try clear hK K))
                  | (refine wdraw (mos := q43_11) hE mixT c43_11 [3, 4, 6, 9, 10, 11, 12] (by kernel_rfl) ?_; intro K hK; simp [q43_11, c43_11, intR, hset, hWd, hWA, hWI, hAA, hid, w1, w2, w3, w4, hmx1, hmx2, hmx3, hk9, hA9, hNl, hta, hnow0, hnow1, hck, hft, hp1, hp2, hk1, hk2, hk3, hab0, hab2, hab3, d15, d16, d18, d30, d65, d66, d67, d68]; (repeat' (first | refine hK _ _ ?_ | refine And.intro ?_ ?_ | (intro hc; try subst hc))) <;> (try clear hK K))
                  | (refine wreg (mos := q43_12) hE [3, 4, 6, 9, 10, 11, 12, 13, 14, 97] (by kernel_rfl) ?_; intro K hK; simp [q43_12, intR, hset, hWd, hWA, hWI, hAA, hid, w1, w2, w3, w4, hmx1, hmx2, hmx3, hk9, hA9, hNl, hta, hnow0, hnow1, hck, hft, hp1, hp2, hk1, hk2, hk3, hab0, hab2, hab3, d15, d16, d18, d30, d65, d66, d67, d68]; (repeat' (first | refine hK _ _ ?_ | refine And.intro ?_ ?_ | (intro hc; try subst hc))) <;> (try clear hK K))
                  | (refine wreg (mos := q43_13) hE [3, 4, 6, 9, 10, 11, 12, 15] (by kernel_rfl) ?_; intro K hK; simp [q43_13, intR, hset, hWd, hWA, hWI, hAA, hid, w1, w2, w3, w4, hmx1, hmx2, hmx3, hk9, hA9, hNl, hta, hnow0, hnow1, hck, hft, hp1, hp2, hk1, hk2, hk3, hab0, hab2, hab3, d15, d16, d18, d30, d65, d66, d67, d68]; (repeat' (first | refine hK _ _ ?_ | refine And.intro ?_ ?_ | (intro hc; try subst hc))) <;> (try clear hK K))
                  | (refine wreg (mos := q43_14) hE [3, 4, 6, 9, 10, 11, 12, 15] (by kernel_rfl) ?_; intro K hK; simp [q43_14, intR, hset, hWd, hWA, hWI, hAA, hid, w1, w2, w3, w4, hmx1, hmx2, hmx3, hk9, hA9, hNl, hta, hnow0, hnow1, hck, hft, hp1, hp2, hk1, hk2, hk3, hab0, hab2, hab3, d15, d16, d18, d30, d65, d66, d67, d68]; (repeat' (first | refine hK _ _ ?_ | refine And.intro ?_ ?_ | (intro hc; try subst hc))) <;> (try clear hK K))
                  | (refine wreg (mos := q43_15) hE [3, 4, 6, 9, 10, 11, 12] (by kernel_rfl) ?_; intro K hK; simp [q43_15, intR, hset, hWd, hWA, hWI, hAA, hid, w1, w2, w3, w4, hmx1, hmx2, hmx3, hk9, hA9, hNl, hta, hnow0, hnow1, hck, hft, hp1, hp2, hk1, hk2, hk3, hab0, hab2, hab3, d15, d16, d18, d30, d65, d66, d67, d68]; (repeat' (first | refine hK _ _ ?_ | refine And.intro ?_ ?_ | (intro hc; try subst hc))) <;> (try clear hK K))
                  | (refine wreg (mos := q43_16) hE [3, 4, 6, 9, 10, 11, 12, 13, 119] (by kernel_rfl) ?_; intro K hK; simp [q43_16, intR, hset, hWd, hWA, hWI, hAA, hid, w1, w2, w3, w4, hmx1, hmx2, hmx3, hk9, hA9, hNl, hta, hnow0, hnow1, hck, hft, hp1, hp2, hk1, hk2, hk3, hab0, hab2, hab3, d15, d16, d18, d30, d65, d66, d67, d68]; (repeat' (first | refine hK _ _ ?_ | refine And.intro ?_ ?_ | (intro hc; try subst hc))) <;> (try clear hK K))
                  | (refine wreg (mos := q43_17) hE [3, 4, 6, 9, 10, 11, 12] (by kernel_rfl) ?_; intro K hK; simp [q43_17, intR, hset, hWd, hWA, hWI, hAA, hid, w1, w2, w3, w4, hmx1, hmx2, hmx3, hk9, hA9, hNl, hta, hnow0, hnow1, hck, hft, hp1, hp2, hk1, hk2, hk3, hab0, hab2, hab3, d15, d16, d18, d30, d65, d66, d67, d68]; (repeat' (first | refine hK _ _ ?_ | refine And.intro ?_ ?_ | (intro hc; try subst hc))) <;> (try clear hK K))
                  | (refine wreg (mos := q43_18) hE [3, 4, 6, 9, 10, 11, 12, 16] (by kernel_rfl) ?_; intro K hK; simp [q43_18, intR, hset, hWd, hWA, hWI, hAA, hid, w1, w2, w3, w4, hmx1, hmx2, hmx3, hk9, hA9, hNl, hta, hnow0, hnow1, hck, hft, hp1, hp2, hk1, hk2, hk3, hab0, hab2, hab3, d15, d16, d18, d30, d65, d66, d67, d68]; (repeat' (first | refine hK _ _ ?_ | refine And.intro ?_ ?_ | (intro hc; try subst hc))) <;> (try clear hK K))
                  | (refine wreg (mos := q43_19) hE [3, 4, 6, 9, 10, 11, 12, 16, 63, 64] (by kernel_rfl) ?_; intro K hK; simp [q43_19, intR, hset, hWd, hWA, hWI, hAA, hid, w1, w2, w3, w4, hmx1, hmx2, hmx3, hk9, hA9, hNl, hta, hnow0, hnow1, hck, hft, hp1, hp2, hk1, hk2, hk3, hab0, hab2, hab3, d15, d16, d18, d30, d65, d66, d67, d68]; (repeat' (first | refine hK _ _ ?_ | refine And.intro ?_ ?_ | (intro hc; try subst hc))) <;> (try clear hK K))
                  | (refine wreg (mos := q43_20) hE [3, 4, 6, 9, 10, 11, 12, 16, 63, 64, 65] (by kernel_rfl) ?_; intro K hK; simp [q43_20, intR, hset, hWd, hWA, hWI, hAA, hid, w1, w2, w3, w4, hmx1, hmx2, hmx3, hk9, hA9, hNl, hta, hnow0, hnow1, hck, hft, hp1, hp2, hk1, hk2, hk3, hab0, hab2, hab3, d15, d16, d18, d30, d65, d66, d67, d68]; (repeat' (first | refine hK _ _ ?_ | refine And.intro ?_ ?_ | (intro hc; try subst hc))) <;> (try clear hK K))
                  | (refine wreg (mos := q43_21) hE [3, 4, 6, 9, 10, 11, 12, 16, 63, 64] (by kernel_rfl) ?_; intro K hK; simp [q43_21, intR, hset, hWd, hWA, hWI, hAA, hid, w1, w2, w3, w4, hmx1, hmx2, hmx3, hk9, hA9, hNl, hta, hnow0, hnow1, hck, hft, hp1, hp2, hk1, hk2, hk3, hab0, hab2, hab3, d15, d16, d18, d30, d65, d66, d67, d68]; (repeat' (first | refine hK _ _ ?_ | refine And.intro ?_ ?_ | (intro hc; try subst hc))) <;> (try clear hK K))
                  | (refine wreg (mos := q43_22) hE [3, 4, 6, 9, 10, 11, 12, 16, 63, 64] (by kernel_rfl) ?_; intro K hK; simp [q43_22, intR, hset, hWd, hWA, hWI, hAA, hid, w1, w2, w3, w4, hmx1, hmx2, hmx3, hk9, hA9, hNl, hta, hnow0, hnow1, hck, hft, hp1, hp2, hk1, hk2, hk3, hab0, hab2, hab3, d15, d16, d18, d30, d65, d66, d67, d68]; (repeat' (first | refine hK _ _ ?_ | refine And.intro ?_ ?_ | (intro hc; try subst hc))) <;> (try clear hK K))
                  | (refine wreg (mos := q43_23) hE [8] (by kernel_rfl) ?_; intro K hK; simp [q43_23, intR, hset, hWd, hWA, hWI, hAA, hid, w1, w2, w3, w4, hmx1, hmx2, hmx3, hk9, hA9, hNl, hta, hnow0, hnow1, hck, hft, hp1, hp2, hk1, hk2, hk3, hab0, hab2, hab3, d15, d16, d18, d30, d65, d66, d67, d68]; (repeat' (first | refine hK _ _ ?_ | refine And.intro ?_ ?_ | (intro hc; try subst hc))) <;> (try clear hK K))
                  | (refine Wm_cond (b := _) (by with_unfolding_all rfl) (fun hc => ?_) (fun hc => ?_) <;> simp at hc <;> (try subst hc)))
                all_goals refine ⟨(stepZ A b c d ma mt md ms mp mw) q, ⟨hK.step hlen fd.2, (run_step (step_more _ _ _ _ _ _ _ _ _ _) hlen).trans hR⟩, ?_, ?_⟩
                · show N - ((stepZ A b c d ma mt md ms mp mw) q).out.length < N - q.out.length
                  have := step_more A b c d ma mt md ms mp mw q
                  omega
                · simp [I43, stepZ, kZ, whoZ, hWd, hid, hk1, hk2, hk3]
                  rw [hS]
                  refine Imp.auto (by kernel_rfl) ?_ ?_ <;> simp [nmap, lkp, mkPl, prs, prsL, prT, ddL, idL, NLe, CRenL, CRen, Ren, RenL, NObj.none, hit, hic, hit2, hic2, intR, hrt, hrc, evR]
              · have hcd0 : 0 ≤ c * d := Int.mul_nonneg (by omega) (by omega)
                have hcd1 : c * d ≤ 3 * 4 := Int.mul_le_mul (by omega) (by omega) (by omega) (by omega)
                have hcd2 : c * d ≤ 1000 := by omega
                have hcd3 : (A : Int) + 2 * (c * d) ≤ 9223372036854775807 := by omega
                have hA0 : (A : Int) ≤ 1000 := by omega
                have hms9 : ms ≤ 9223372036854775807 := by omega
                have hst0 : 0 ≤ belowZ (nextS (nextS (nextS (nextS q.s)))) ms ∧ belowZ (nextS (nextS (nextS (nextS q.s)))) ms ≤ 10000 := by
                  by_cases h : 1 ≤ ms
                  · have := below_in (s := nextS (nextS (nextS (nextS q.s)))) h; omega
                  · rw [belowZ, if_pos (by omega)]; omega
                obtain ⟨Tn, hTn, hTa, hTb⟩ : ∃ Tn : Nat, (1 + belowZ (nextS (nextS (nextS (nextS q.s)))) ms) = (Tn : Int) ∧ 1 ≤ Tn ∧ Tn ≤ 10001 := ⟨(1 + belowZ (nextS (nextS (nextS (nextS q.s)))) ms).toNat, by omega, by omega, by omega⟩
                have wT : IntKind.wrap .i64 (Tn : Int) = (Tn : Int) := wrap_in (by omega) (by omega)
                obtain ⟨Y, hY⟩ : ∃ Y, pickZ (nextS (nextS (nextS q.s))) [(W : Int), (W : Int), belowZ (nextS (nextS q.s)) ((A : Int) + 2 * (c * d))] = Y := ⟨_, rfl⟩
                have hrt := rows_t0 (hK.step (b := b) (a := A) (c := c) (d := d) (ma := ma) (mt := mt) (md := md) (mp := mp) (mw := mw) hlen fd.2).rows
                have hrc := rows_cl (hK.step (b := b) (a := A) (c := c) (d := d) (ma := ma) (mt := mt) (md := md) (mp := mp) (mw := mw) hlen fd.2).rows
                simp [stepZ, kZ, whoZ, hWd, hid, hk1, hk2, hk3, hTn, hY, evR] at hrt hrc
                repeat' with_reducible (first
                  | refine Wm_seq ?_
                  | refine Wm_skip ?_
                  | refine Wm_ret ?_
                  | refine Wm_block ?_
                  | refine Wm_exit ?_
                  | refine thenK_normal ?_
                  | refine thenK_ret ?_
                  | refine thenK_exit ?_
                  | refine blockK_normal ?_
                  | refine blockK_ret ?_
                  | refine blockK_here ?_
                  | refine loopK_ret ?_
                  | refine loopK_exit ?_
                  | refine unK_ret ?_
                  | refine unK_exit ?_
                  | refine unK_normal ?_
                  | refine loopOk_succ ?_
                  | refine blockK_exit (by decide) ?_
                  | (refine wreg (mos := q43_0) hE [1, 3, 4, 6] (by kernel_rfl) ?_; intro K hK; simp [q43_0, intR, hset, hWd, hWA, hWI, hAA, hid, w1, w2, w3, w4, hmx1, hmx2, hmx3, hk9, hA9, hNl, hta, hnow0, hnow1, hck, hft, hp1, hp2, hk1, hk2, hk3, hcd0, hcd2, hcd3, hA0, hms9, hTn, wT, ints, hY, d15, d16, d18, d30, d65, d66, d67, d68]; (repeat' (first | refine hK _ _ ?_ | refine And.intro ?_ ?_ | (intro hc; try subst hc))) <;> (try clear hK K))
                  | (refine wreg (mos := q43_1) hE [3, 4, 6, 9] (by kernel_rfl) ?_; intro K hK; simp [q43_1, intR, hset, hWd, hWA, hWI, hAA, hid, w1, w2, w3, w4, hmx1, hmx2, hmx3, hk9, hA9, hNl, hta, hnow0, hnow1, hck, hft, hp1, hp2, hk1, hk2, hk3, hcd0, hcd2, hcd3, hA0, hms9, hTn, wT, ints, hY, d15, d16, d18, d30, d65, d66, d67, d68]; (repeat' (first | refine hK _ _ ?_ | refine And.intro ?_ ?_ | (intro hc; try subst hc))) <;> (try clear hK K))
                  | (refine wreg (mos := q43_2) hE [3, 4, 6, 9, 10] (by kernel_rfl) ?_; intro K hK; simp [q43_2, intR, hset, hWd, hWA, hWI, hAA, hid, w1, w2, w3, w4, hmx1, hmx2, hmx3, hk9, hA9, hNl, hta, hnow0, hnow1, hck, hft, hp1, hp2, hk1, hk2, hk3, hcd0, hcd2, hcd3, hA0, hms9, hTn, wT, ints, hY, d15, d16, d18, d30, d65, d66, d67, d68]; (repeat' (first | refine hK _ _ ?_ | refine And.intro ?_ ?_ | (intro hc; try subst hc))) <;> (try clear hK K))
                  | (refine wreg (mos := q43_3) hE [3, 4, 6, 9, 10, 11] (by kernel_rfl) ?_; intro K hK; simp [q43_3, intR, hset, hWd, hWA, hWI, hAA, hid, w1, w2, w3, w4, hmx1, hmx2, hmx3, hk9, hA9, hNl, hta, hnow0, hnow1, hck, hft, hp1, hp2, hk1, hk2, hk3, hcd0, hcd2, hcd3, hA0, hms9, hTn, wT, ints, hY, d15, d16, d18, d30, d65, d66, d67, d68]; (repeat' (first | refine hK _ _ ?_ | refine And.intro ?_ ?_ | (intro hc; try subst hc))) <;> (try clear hK K))
                  | (refine wreg (mos := q43_4) hE [3, 4, 6, 9, 10, 11, 12] (by kernel_rfl) ?_; intro K hK; simp [q43_4, intR, hset, hWd, hWA, hWI, hAA, hid, w1, w2, w3, w4, hmx1, hmx2, hmx3, hk9, hA9, hNl, hta, hnow0, hnow1, hck, hft, hp1, hp2, hk1, hk2, hk3, hcd0, hcd2, hcd3, hA0, hms9, hTn, wT, ints, hY, d15, d16, d18, d30, d65, d66, d67, d68]; (repeat' (first | refine hK _ _ ?_ | refine And.intro ?_ ?_ | (intro hc; try subst hc))) <;> (try clear hK K))
                  | (refine wreg (mos := q43_5) hE [3, 4, 6, 9, 10, 11, 12] (by kernel_rfl) ?_; intro K hK; simp [q43_5, intR, hset, hWd, hWA, hWI, hAA, hid, w1, w2, w3, w4, hmx1, hmx2, hmx3, hk9, hA9, hNl, hta, hnow0, hnow1, hck, hft, hp1, hp2, hk1, hk2, hk3, hcd0, hcd2, hcd3, hA0, hms9, hTn, wT, ints, hY, d15, d16, d18, d30, d65, d66, d67, d68]; (repeat' (first | refine hK _ _ ?_ | refine And.intro ?_ ?_ | (intro hc; try subst hc))) <;> (try clear hK K))
                  | (refine wreg (mos := q43_6) hE [3, 4, 6, 9, 10, 11, 12, 29] (by kernel_rfl) ?_; intro K hK; simp [q43_6, intR, hset, hWd, hWA, hWI, hAA, hid, w1, w2, w3, w4, hmx1, hmx2, hmx3, hk9, hA9, hNl, hta, hnow0, hnow1, hck, hft, hp1, hp2, hk1, hk2, hk3, hcd0, hcd2, hcd3, hA0, hms9, hTn, wT, ints, hY, d15, d16, d18, d30, d65, d66, d67, d68]; (repeat' (first | refine hK _ _ ?_ | refine And.intro ?_ ?_ | (intro hc; try subst hc))) <;> (try clear hK K))
                  | (refine wreg (mos := q43_7) hE [3, 4, 6, 9, 10, 11, 12, 13] (by kernel_rfl) ?_; intro K hK; simp [q43_7, intR, hset, hWd, hWA, hWI, hAA, hid, w1, w2, w3, w4, hmx1, hmx2, hmx3, hk9, hA9, hNl, hta, hnow0, hnow1, hck, hft, hp1, hp2, hk1, hk2, hk3, hcd0, hcd2, hcd3, hA0, hms9, hTn, wT, ints, hY, d15, d16, d18, d30, d65, d66, d67, d68]; (repeat' (first | refine hK _ _ ?_ | refine And.intro ?_ ?_ | (intro hc; try subst hc))) <;> (try clear hK K))
                  | (refine wreg (mos := q43_8) hE [3, 4, 6, 9, 10, 11, 12, 13, 14] (by kernel_rfl) ?_; intro K hK; simp [q43_8, intR, hset, hWd, hWA, hWI, hAA, hid, w1, w2, w3, w4, hmx1, hmx2, hmx3, hk9, hA9, hNl, hta, hnow0, hnow1, hck, hft, hp1, hp2, hk1, hk2, hk3, hcd0, hcd2, hcd3, hA0, hms9, hTn, wT, ints, hY, d15, d16, d18, d30, d65, d66, d67, d68]; (repeat' (first | refine hK _ _ ?_ | refine And.intro ?_ ?_ | (intro hc; try subst hc))) <;> (try clear hK K))
                  | (refine wreg (mos := q43_9) hE [3, 4, 6, 9, 10, 11, 12, 13, 14, 71] (by kernel_rfl) ?_; intro K hK; simp [q43_9, intR, hset, hWd, hWA, hWI, hAA, hid, w1, w2, w3, w4, hmx1, hmx2, hmx3, hk9, hA9, hNl, hta, hnow0, hnow1, hck, hft, hp1, hp2, hk1, hk2, hk3, hcd0, hcd2, hcd3, hA0, hms9, hTn, wT, ints, hY, d15, d16, d18, d30, d65, d66, d67, d68]; (repeat' (first | refine hK _ _ ?_ | refine And.intro ?_ ?_ | (intro hc; try subst hc))) <;> (try clear hK K))
                  | (refine wreg (mos := q43_10) hE [3, 4, 6, 9, 10, 11, 12, 13] (by kernel_rfl) ?_; intro K hK; simp [q43_10, intR, hset, hWd, hWA, hWI, hAA, hid, w1, w2, w3, w4, hmx1, hmx2, hmx3, hk9, hA9, hNl, hta, hnow0, hnow1, hck, hft, hp1, hp2, hk1, hk2, hk3, hcd0, hcd2, hcd3, hA0, hms9, hTn, wT, ints, hY, d15, d16, d18, d30, d65, d66, d67, d68]; (repeat' (first | refine hK _ _ ?_ | refine And.intro ?_ ?_ | (intro hc; try subst hc))) <;> (try clear hK K))
                  | (refine wdraw (mos := q43_11) hE mixT c43_11 [3, 4, 6, 9, 10, 11, 12] (by kernel_rfl) ?_; intro K hK; simp [q43_11, c43_11, intR, hset, hWd, hWA, hWI, hAA, hid, w1, w2, w3, w4, hmx1, hmx2, hmx3, hk9, hA9, hNl, hta, hnow0, hnow1, hck, hft, hp1, hp2, hk1, hk2, hk3, hcd0, hcd2, hcd3, hA0, hms9, hTn, wT, ints, hY, d15, d16, d18, d30, d65, d66, d67, d68]; (repeat' (first | refine hK _ _ ?_ | refine And.intro ?_ ?_ | (intro hc; try subst hc))) <;> (try clear hK K))
                  | (refine wreg (mos := q43_12) hE [3, 4, 6, 9, 10, 11, 12, 13, 14, 97] (by kernel_rfl) ?_; intro K hK; simp [q43_12, intR, hset, hWd, hWA, hWI, hAA, hid, w1, w2, w3, w4, hmx1, hmx2, hmx3, hk9, hA9, hNl, hta, hnow0, hnow1, hck, hft, hp1, hp2, hk1, hk2, hk3, hcd0, hcd2, hcd3, hA0, hms9, hTn, wT, ints, hY, d15, d16, d18, d30, d65, d66, d67, d68]; (repeat' (first | refine hK _ _ ?_ | refine And.intro ?_ ?_ | (intro hc; try subst hc))) <;> (try clear hK K))
                  | (refine wreg (mos := q43_13) hE [3, 4, 6, 9, 10, 11, 12, 15] (by kernel_rfl) ?_; intro K hK; simp [q43_13, intR, hset, hWd, hWA, hWI, hAA, hid, w1, w2, w3, w4, hmx1, hmx2, hmx3, hk9, hA9, hNl, hta, hnow0, hnow1, hck, hft, hp1, hp2, hk1, hk2, hk3, hcd0, hcd2, hcd3, hA0, hms9, hTn, wT, ints, hY, d15, d16, d18, d30, d65, d66, d67, d68]; (repeat' (first | refine hK _ _ ?_ | refine And.intro ?_ ?_ | (intro hc; try subst hc))) <;> (try clear hK K))
                  | (refine wreg (mos := q43_14) hE [3, 4, 6, 9, 10, 11, 12, 15] (by kernel_rfl) ?_; intro K hK; simp [q43_14, intR, hset, hWd, hWA, hWI, hAA, hid, w1, w2, w3, w4, hmx1, hmx2, hmx3, hk9, hA9, hNl, hta, hnow0, hnow1, hck, hft, hp1, hp2, hk1, hk2, hk3, hcd0, hcd2, hcd3, hA0, hms9, hTn, wT, ints, hY, d15, d16, d18, d30, d65, d66, d67, d68]; (repeat' (first | refine hK _ _ ?_ | refine And.intro ?_ ?_ | (intro hc; try subst hc))) <;> (try clear hK K))
                  | (refine wreg (mos := q43_15) hE [3, 4, 6, 9, 10, 11, 12] (by kernel_rfl) ?_; intro K hK; simp [q43_15, intR, hset, hWd, hWA, hWI, hAA, hid, w1, w2, w3, w4, hmx1, hmx2, hmx3, hk9, hA9, hNl, hta, hnow0, hnow1, hck, hft, hp1, hp2, hk1, hk2, hk3, hcd0, hcd2, hcd3, hA0, hms9, hTn, wT, ints, hY, d15, d16, d18, d30, d65, d66, d67, d68]; (repeat' (first | refine hK _ _ ?_ | refine And.intro ?_ ?_ | (intro hc; try subst hc))) <;> (try clear hK K))
                  | (refine wreg (mos := q43_16) hE [3, 4, 6, 9, 10, 11, 12, 13, 119] (by kernel_rfl) ?_; intro K hK; simp [q43_16, intR, hset, hWd, hWA, hWI, hAA, hid, w1, w2, w3, w4, hmx1, hmx2, hmx3, hk9, hA9, hNl, hta, hnow0, hnow1, hck, hft, hp1, hp2, hk1, hk2, hk3, hcd0, hcd2, hcd3, hA0, hms9, hTn, wT, ints, hY, d15, d16, d18, d30, d65, d66, d67, d68]; (repeat' (first | refine hK _ _ ?_ | refine And.intro ?_ ?_ | (intro hc; try subst hc))) <;> (try clear hK K))
                  | (refine wreg (mos := q43_17) hE [3, 4, 6, 9, 10, 11, 12] (by kernel_rfl) ?_; intro K hK; simp [q43_17, intR, hset, hWd, hWA, hWI, hAA, hid, w1, w2, w3, w4, hmx1, hmx2, hmx3, hk9, hA9, hNl, hta, hnow0, hnow1, hck, hft, hp1, hp2, hk1, hk2, hk3, hcd0, hcd2, hcd3, hA0, hms9, hTn, wT, ints, hY, d15, d16, d18, d30, d65, d66, d67, d68]; (repeat' (first | refine hK _ _ ?_ | refine And.intro ?_ ?_ | (intro hc; try subst hc))) <;> (try clear hK K))
                  | (refine wreg (mos := q43_18) hE [3, 4, 6, 9, 10, 11, 12, 16] (by kernel_rfl) ?_; intro K hK; simp [q43_18, intR, hset, hWd, hWA, hWI, hAA, hid, w1, w2, w3, w4, hmx1, hmx2, hmx3, hk9, hA9, hNl, hta, hnow0, hnow1, hck, hft, hp1, hp2, hk1, hk2, hk3, hcd0, hcd2, hcd3, hA0, hms9, hTn, wT, ints, hY, d15, d16, d18, d30, d65, d66, d67, d68]; (repeat' (first | refine hK _ _ ?_ | refine And.intro ?_ ?_ | (intro hc; try subst hc))) <;> (try clear hK K))
                  | (refine wreg (mos := q43_19) hE [3, 4, 6, 9, 10, 11, 12, 16, 63, 64] (by kernel_rfl) ?_; intro K hK; simp [q43_19, intR, hset, hWd, hWA, hWI, hAA, hid, w1, w2, w3, w4, hmx1, hmx2, hmx3, hk9, hA9, hNl, hta, hnow0, hnow1, hck, hft, hp1, hp2, hk1, hk2, hk3, hcd0, hcd2, hcd3, hA0, hms9, hTn, wT, ints, hY, d15, d16, d18, d30, d65, d66, d67, d68]; (repeat' (first | refine hK _ _ ?_ | refine And.intro ?_ ?_ | (intro hc; try subst hc))) <;> (try clear hK K))
                  | (refine wreg (mos := q43_20) hE [3, 4, 6, 9, 10, 11, 12, 16, 63, 64, 65] (by kernel_rfl) ?_; intro K hK; simp [q43_20, intR, hset, hWd, hWA, hWI, hAA, hid, w1, w2, w3, w4, hmx1, hmx2, hmx3, hk9, hA9, hNl, hta, hnow0, hnow1, hck, hft, hp1, hp2, hk1, hk2, hk3, hcd0, hcd2, hcd3, hA0, hms9, hTn, wT, ints, hY, d15, d16, d18, d30, d65, d66, d67, d68]; (repeat' (first | refine hK _ _ ?_ | refine And.intro ?_ ?_ | (intro hc; try subst hc))) <;> (try clear hK K))
                  | (refine wreg (mos := q43_21) hE [3, 4, 6, 9, 10, 11, 12, 16, 63, 64] (by kernel_rfl) ?_; intro K hK; simp [q43_21, intR, hset, hWd, hWA, hWI, hAA, hid, w1, w2, w3, w4, hmx1, hmx2, hmx3, hk9, hA9, hNl, hta, hnow0, hnow1, hck, hft, hp1, hp2, hk1, hk2, hk3, hcd0, hcd2, hcd3, hA0, hms9, hTn, wT, ints, hY, d15, d16, d18, d30, d65, d66, d67, d68]; (repeat' (first | refine hK _ _ ?_ | refine And.intro ?_ ?_ | (intro hc; try subst hc))) <;> (try clear hK K))
                  | (refine wreg (mos := q43_22) hE [3, 4, 6, 9, 10, 11, 12, 16, 63, 64] (by kernel_rfl) ?_; intro K hK; simp [q43_22, intR, hset, hWd, hWA, hWI, hAA, hid, w1, w2, w3, w4, hmx1, hmx2, hmx3, hk9, hA9, hNl, hta, hnow0, hnow1, hck, hft, hp1, hp2, hk1, hk2, hk3, hcd0, hcd2, hcd3, hA0, hms9, hTn, wT, ints, hY, d15, d16, d18, d30, d65, d66, d67, d68]; (repeat' (first | refine hK _ _ ?_ | refine And.intro ?_ ?_ | (intro hc; try subst hc))) <;> (try clear hK K))
                  | (refine wreg (mos := q43_23) hE [8] (by kernel_rfl) ?_; intro K hK; simp [q43_23, intR, hset, hWd, hWA, hWI, hAA, hid, w1, w2, w3, w4, hmx1, hmx2, hmx3, hk9, hA9, hNl, hta, hnow0, hnow1, hck, hft, hp1, hp2, hk1, hk2, hk3, hcd0, hcd2, hcd3, hA0, hms9, hTn, wT, ints, hY, d15, d16, d18, d30, d65, d66, d67, d68]; (repeat' (first | refine hK _ _ ?_ | refine And.intro ?_ ?_ | (intro hc; try subst hc))) <;> (try clear hK K))
                  | (refine Wm_cond (b := _) (by with_unfolding_all rfl) (fun hc => ?_) (fun hc => ?_) <;> simp at hc <;> (try subst hc)))
                all_goals (refine Wm_loop (J43 [.int .i64 (A : Int), .int .i64 b, .int .i64 c, .int .i64 d, .int .i64 e, .int .i64 f, .int .i64 g] [.int .i64 ma, .int .i64 mt, .int .i64 md, .int .i64 ms, .int .i64 mp, .int .i64 mw] N A Tn q Y (nextS (nextS (nextS (nextS (nextS q.s)))))) (fun i => i ≤ Tn) (fun i => Tn - i) 0 (Nat.zero_le _) ?_ ?_)
                · simp only [J43]
                  rw [hS]
                  refine Imp.auto (by kernel_rfl) ?_ ?_ <;> simp [nmap, lkp, mkPl, prs, prsL, prT, ddL, idL, NLe, CRenL, CRen, Ren, RenL, NObj.none, hit, hic, intR, rows_t0 hK.rows, rows_cl hK.rows, evR]
                · intro i hi
                  replace hi : i ≤ Tn := hi
                  simp only [J43]
                  have hall : ∀ j, (q.out ++ List.replicate j (evR 3 Y 0 0 0 0 0 0 0 0 0 0)).all row12 = true := fun j => by simp [hK.rows, row_evR]
                  have htt : ∀ n, tlLL n (q.out ++ List.replicate i (evR 3 Y 0 0 0 0 0 0 0 0 0 0)) = true := fun n => rows_tl (hall i)
                  by_cases hin : i < Tn
                  · have hiI : (i : Int) < (Tn : Int) := Int.ofNat_lt.2 hin
                    obtain ⟨hq1, hq2, hq3, hq4⟩ := few1 hlen hN65 hi hTb
                    have wi : IntKind.wrap .i64 ((i : Int) + 1) = (i : Int) + 1 := wrap_in hq3 hq4
                    have hrep : q.out ++ List.replicate (i + 1) (evR 3 Y 0 0 0 0 0 0 0 0 0 0) = q.out ++ List.replicate i (evR 3 Y 0 0 0 0 0 0 0 0 0 0) ++ [evR 3 Y 0 0 0 0 0 0 0 0 0 0] := by rw [List.replicate_succ', List.append_assoc]
                    have hz1 := rows_t0 (hall (i + 1))
                    have hz2 := rows_cl (hall (i + 1))
                    rw [hrep] at hz1 hz2
                    simp [evR] at hz1 hz2 htt
                    repeat' with_reducible (first
                      | refine Wm_seq ?_
                      | refine Wm_skip ?_
                      | refine Wm_ret ?_
                      | refine Wm_block ?_
                      | refine Wm_exit ?_
                      | refine thenK_normal ?_
                      | refine thenK_ret ?_
                      | refine thenK_exit ?_
                      | refine blockK_normal ?_
                      | refine blockK_ret ?_
                      | refine blockK_here ?_
                      | refine loopK_ret ?_
                      | refine loopK_exit ?_
                      | refine unK_ret ?_
                      | refine unK_exit ?_
                      | refine unK_normal ?_
                      | refine loopOk_succ ?_
                      | refine blockK_exit (by decide) ?_
                      | (refine wreg (mos := q43_0) hE [1, 3, 4, 6] (by kernel_rfl) ?_; intro K hK; simp [q43_0, evR, hiI, wi, hq1, hq2, htt, d15, d16, d18, d30, d65, d66, d67, d68]; (repeat' (first | refine hK _ _ ?_ | refine And.intro ?_ ?_ | (intro hc; try subst hc))) <;> (try clear hK K))
                      | (refine wreg (mos := q43_1) hE [3, 4, 6, 9] (by kernel_rfl) ?_; intro K hK; simp [q43_1, evR, hiI, wi, hq1, hq2, htt, d15, d16, d18, d30, d65, d66, d67, d68]; (repeat' (first | refine hK _ _ ?_ | refine And.intro ?_ ?_ | (intro hc; try subst hc))) <;> (try clear hK K))
                      | (refine wreg (mos := q43_2) hE [3, 4, 6, 9, 10] (by kernel_rfl) ?_; intro K hK; simp [q43_2, evR, hiI, wi, hq1, hq2, htt, d15, d16, d18, d30, d65, d66, d67, d68]; (repeat' (first | refine hK _ _ ?_ | refine And.intro ?_ ?_ | (intro hc; try subst hc))) <;> (try clear hK K))
                      | (refine wreg (mos := q43_3) hE [3, 4, 6, 9, 10, 11] (by kernel_rfl) ?_; intro K hK; simp [q43_3, evR, hiI, wi, hq1, hq2, htt, d15, d16, d18, d30, d65, d66, d67, d68]; (repeat' (first | refine hK _ _ ?_ | refine And.intro ?_ ?_ | (intro hc; try subst hc))) <;> (try clear hK K))
                      | (refine wreg (mos := q43_4) hE [3, 4, 6, 9, 10, 11, 12] (by kernel_rfl) ?_; intro K hK; simp [q43_4, evR, hiI, wi, hq1, hq2, htt, d15, d16, d18, d30, d65, d66, d67, d68]; (repeat' (first | refine hK _ _ ?_ | refine And.intro ?_ ?_ | (intro hc; try subst hc))) <;> (try clear hK K))
                      | (refine wreg (mos := q43_5) hE [3, 4, 6, 9, 10, 11, 12] (by kernel_rfl) ?_; intro K hK; simp [q43_5, evR, hiI, wi, hq1, hq2, htt, d15, d16, d18, d30, d65, d66, d67, d68]; (repeat' (first | refine hK _ _ ?_ | refine And.intro ?_ ?_ | (intro hc; try subst hc))) <;> (try clear hK K))
                      | (refine wreg (mos := q43_6) hE [3, 4, 6, 9, 10, 11, 12, 29] (by kernel_rfl) ?_; intro K hK; simp [q43_6, evR, hiI, wi, hq1, hq2, htt, d15, d16, d18, d30, d65, d66, d67, d68]; (repeat' (first | refine hK _ _ ?_ | refine And.intro ?_ ?_ | (intro hc; try subst hc))) <;> (try clear hK K))
                      | (refine wreg (mos := q43_7) hE [3, 4, 6, 9, 10, 11, 12, 13] (by kernel_rfl) ?_; intro K hK; simp [q43_7, evR, hiI, wi, hq1, hq2, htt, d15, d16, d18, d30, d65, d66, d67, d68]; (repeat' (first | refine hK _ _ ?_ | refine And.intro ?_ ?_ | (intro hc; try subst hc))) <;> (try clear hK K))
                      | (refine wreg (mos := q43_8) hE [3, 4, 6, 9, 10, 11, 12, 13, 14] (by kernel_rfl) ?_; intro K hK; simp [q43_8, evR, hiI, wi, hq1, hq2, htt, d15, d16, d18, d30, d65, d66, d67, d68]; (repeat' (first | refine hK _ _ ?_ | refine And.intro ?_ ?_ | (intro hc; try subst hc))) <;> (try clear hK K))
                      | (refine wreg (mos := q43_9) hE [3, 4, 6, 9, 10, 11, 12, 13, 14, 71] (by kernel_rfl) ?_; intro K hK; simp [q43_9, evR, hiI, wi, hq1, hq2, htt, d15, d16, d18, d30, d65, d66, d67, d68]; (repeat' (first | refine hK _ _ ?_ | refine And.intro ?_ ?_ | (intro hc; try subst hc))) <;> (try clear hK K))
                      | (refine wreg (mos := q43_10) hE [3, 4, 6, 9, 10, 11, 12, 13] (by kernel_rfl) ?_; intro K hK; simp [q43_10, evR, hiI, wi, hq1, hq2, htt, d15, d16, d18, d30, d65, d66, d67, d68]; (repeat' (first | refine hK _ _ ?_ | refine And.intro ?_ ?_ | (intro hc; try subst hc))) <;> (try clear hK K))
                      | (refine wdraw (mos := q43_11) hE mixT c43_11 [3, 4, 6, 9, 10, 11, 12] (by kernel_rfl) ?_; intro K hK; simp [q43_11, c43_11, evR, hiI, wi, hq1, hq2, htt, d15, d16, d18, d30, d65, d66, d67, d68]; (repeat' (first | refine hK _ _ ?_ | refine And.intro ?_ ?_ | (intro hc; try subst hc))) <;> (try clear hK K))
                      | (refine wreg (mos := q43_12) hE [3, 4, 6, 9, 10, 11, 12, 13, 14, 97] (by kernel_rfl) ?_; intro K hK; simp [q43_12, evR, hiI, wi, hq1, hq2, htt, d15, d16, d18, d30, d65, d66, d67, d68]; (repeat' (first | refine hK _ _ ?_ | refine And.intro ?_ ?_ | (intro hc; try subst hc))) <;> (try clear hK K))
                      | (refine wreg (mos := q43_13) hE [3, 4, 6, 9, 10, 11, 12, 15] (by kernel_rfl) ?_; intro K hK; simp [q43_13, evR, hiI, wi, hq1, hq2, htt, d15, d16, d18, d30, d65, d66, d67, d68]; (repeat' (first | refine hK _ _ ?_ | refine And.intro ?_ ?_ | (intro hc; try subst hc))) <;> (try clear hK K))
                      | (refine wreg (mos := q43_14) hE [3, 4, 6, 9, 10, 11, 12, 15] (by kernel_rfl) ?_; intro K hK; simp [q43_14, evR, hiI, wi, hq1, hq2, htt, d15, d16, d18, d30, d65, d66, d67, d68]; (repeat' (first | refine hK _ _ ?_ | refine And.intro ?_ ?_ | (intro hc; try subst hc))) <;> (try clear hK K))
                      | (refine wreg (mos := q43_15) hE [3, 4, 6, 9, 10, 11, 12] (by kernel_rfl) ?_; intro K hK; simp [q43_15, evR, hiI, wi, hq1, hq2, htt, d15, d16, d18, d30, d65, d66, d67, d68]; (repeat' (first | refine hK _ _ ?_ | refine And.intro ?_ ?_ | (intro hc; try subst hc))) <;> (try clear hK K))
                      | (refine wreg (mos := q43_16) hE [3, 4, 6, 9, 10, 11, 12, 13, 119] (by kernel_rfl) ?_; intro K hK; simp [q43_16, evR, hiI, wi, hq1, hq2, htt, d15, d16, d18, d30, d65, d66, d67, d68]; (repeat' (first | refine hK _ _ ?_ | refine And.intro ?_ ?_ | (intro hc; try subst hc))) <;> (try clear hK K))
                      | (refine wreg (mos := q43_17) hE [3, 4, 6, 9, 10, 11, 12] (by kernel_rfl) ?_; intro K hK; simp [q43_17, evR, hiI, wi, hq1, hq2, htt, d15, d16, d18, d30, d65, d66, d67, d68]; (repeat' (first | refine hK _ _ ?_ | refine And.intro ?_ ?_ | (intro hc; try subst hc))) <;> (try clear hK K))
                      | (refine wreg (mos := q43_18) hE [3, 4, 6, 9, 10, 11, 12, 16] (by kernel_rfl) ?_; intro K hK; simp [q43_18, evR, hiI, wi, hq1, hq2, htt, d15, d16, d18, d30, d65, d66, d67, d68]; (repeat' (first | refine hK _ _ ?_ | refine And.intro ?_ ?_ | (intro hc; try subst hc))) <;> (try clear hK K))
                      | (refine wreg (mos := q43_19) hE [3, 4, 6, 9, 10, 11, 12, 16, 63, 64] (by kernel_rfl) ?_; intro K hK; simp [q43_19, evR, hiI, wi, hq1, hq2, htt, d15, d16, d18, d30, d65, d66, d67, d68]; (repeat' (first | refine hK _ _ ?_ | refine And.intro ?_ ?_ | (intro hc; try subst hc))) <;> (try clear hK K))
                      | (refine wreg (mos := q43_20) hE [3, 4, 6, 9, 10, 11, 12, 16, 63, 64, 65] (by kernel_rfl) ?_; intro K hK; simp [q43_20, evR, hiI, wi, hq1, hq2, htt, d15, d16, d18, d30, d65, d66, d67, d68]; (repeat' (first | refine hK _ _ ?_ | refine And.intro ?_ ?_ | (intro hc; try subst hc))) <;> (try clear hK K))
                      | (refine wreg (mos := q43_21) hE [3, 4, 6, 9, 10, 11, 12, 16, 63, 64] (by kernel_rfl) ?_; intro K hK; simp [q43_21, evR, hiI, wi, hq1, hq2, htt, d15, d16, d18, d30, d65, d66, d67, d68]; (repeat' (first | refine hK _ _ ?_ | refine And.intro ?_ ?_ | (intro hc; try subst hc))) <;> (try clear hK K))
                      | (refine wreg (mos := q43_22) hE [3, 4, 6, 9, 10, 11, 12, 16, 63, 64] (by kernel_rfl) ?_; intro K hK; simp [q43_22, evR, hiI, wi, hq1, hq2, htt, d15, d16, d18, d30, d65, d66, d67, d68]; (repeat' (first | refine hK _ _ ?_ | refine And.intro ?_ ?_ | (intro hc; try subst hc))) <;> (try clear hK K))
                      | (refine wreg (mos := q43_23) hE [8] (by kernel_rfl) ?_; intro K hK; simp [q43_23, evR, hiI, wi, hq1, hq2, htt, d15, d16, d18, d30, d65, d66, d67, d68]; (repeat' (first | refine hK _ _ ?_ | refine And.intro ?_ ?_ | (intro hc; try subst hc))) <;> (try clear hK K))
                      | (refine Wm_cond (b := _) (by with_unfolding_all rfl) (fun hc => ?_) (fun hc => ?_) <;> simp at hc <;> (try subst hc)))
                    all_goals refine ⟨i + 1, ?_, ?_, ?_⟩
                    · exact hin
                    · exact Nat.sub_lt_sub_left hin (Nat.lt_succ_self i)
                    · simp only [J43, hrep]
                      rw [hS]
                      refine Imp.auto (by kernel_rfl) ?_ ?_ <;> simp [nmap, lkp, mkPl, prs, prsL, prT, ddL, idL, NLe, CRenL, CRen, Ren, RenL, NObj.none, hit, hic, intR, evR, hz1, hz2] <;> (try exact Nat.add_assoc _ _ _)
                  · obtain rfl : i = Tn := Nat.le_antisymm hi (Nat.not_lt.1 hin)
                    repeat' with_reducible (first
                      | refine Wm_seq ?_
                      | refine Wm_skip ?_
                      | refine Wm_ret ?_
                      | refine Wm_block ?_
                      | refine Wm_exit ?_
                      | refine thenK_normal ?_
                      | refine thenK_ret ?_
                      | refine thenK_exit ?_
                      | refine blockK_normal ?_
                      | refine blockK_ret ?_
                      | refine blockK_here ?_
                      | refine loopK_ret ?_
                      | refine loopK_exit ?_
                      | refine unK_ret ?_
                      | refine unK_exit ?_
                      | refine unK_normal ?_
                      | refine loopOk_succ ?_
                      | refine blockK_exit (by decide) ?_
                      | (refine wreg (mos := q43_0) hE [1, 3, 4, 6] (by kernel_rfl) ?_; intro K hK; simp [q43_0, hin, d15, d16, d18, d30, d65, d66, d67, d68]; (repeat' (first | refine hK _ _ ?_ | refine And.intro ?_ ?_ | (intro hc; try subst hc))) <;> (try clear hK K))
                      | (refine wreg (mos := q43_1) hE [3, 4, 6, 9] (by kernel_rfl) ?_; intro K hK; simp [q43_1, hin, d15, d16, d18, d30, d65, d66, d67, d68]; (repeat' (first | refine hK _ _ ?_ | refine And.intro ?_ ?_ | (intro hc; try subst hc))) <;> (try clear hK K))
                      | (refine wreg (mos := q43_2) hE [3, 4, 6, 9, 10] (by kernel_rfl) ?_; intro K hK; simp [q43_2, hin, d15, d16, d18, d30, d65, d66, d67, d68]; (repeat' (first | refine hK _ _ ?_ | refine And.intro ?_ ?_ | (intro hc; try subst hc))) <;> (try clear hK K))
                      | (refine wreg (mos := q43_3) hE [3, 4, 6, 9, 10, 11] (by kernel_rfl) ?_; intro K hK; simp [q43_3, hin, d15, d16, d18, d30, d65, d66, d67, d68]; (repeat' (first | refine hK _ _ ?_ | refine And.intro ?_ ?_ | (intro hc; try subst hc))) <;> (try clear hK K))
                      | (refine wreg (mos := q43_4) hE [3, 4, 6, 9, 10, 11, 12] (by kernel_rfl) ?_; intro K hK; simp [q43_4, hin, d15, d16, d18, d30, d65, d66, d67, d68]; (repeat' (first | refine hK _ _ ?_ | refine And.intro ?_ ?_ | (intro hc; try subst hc))) <;> (try clear hK K))
                      | (refine wreg (mos := q43_5) hE [3, 4, 6, 9, 10, 11, 12] (by kernel_rfl) ?_; intro K hK; simp [q43_5, hin, d15, d16, d18, d30, d65, d66, d67, d68]; (repeat' (first | refine hK _ _ ?_ | refine And.intro ?_ ?_ | (intro hc; try subst hc))) <;> (try clear hK K))
                      | (refine wreg (mos := q43_6) hE [3, 4, 6, 9, 10, 11, 12, 29] (by kernel_rfl) ?_; intro K hK; simp [q43_6, hin, d15, d16, d18, d30, d65, d66, d67, d68]; (repeat' (first | refine hK _ _ ?_ | refine And.intro ?_ ?_ | (intro hc; try subst hc))) <;> (try clear hK K))
                      | (refine wreg (mos := q43_7) hE [3, 4, 6, 9, 10, 11, 12, 13] (by kernel_rfl) ?_; intro K hK; simp [q43_7, hin, d15, d16, d18, d30, d65, d66, d67, d68]; (repeat' (first | refine hK _ _ ?_ | refine And.intro ?_ ?_ | (intro hc; try subst hc))) <;> (try clear hK K))
                      | (refine wreg (mos := q43_8) hE [3, 4, 6, 9, 10, 11, 12, 13, 14] (by kernel_rfl) ?_; intro K hK; simp [q43_8, hin, d15, d16, d18, d30, d65, d66, d67, d68]; (repeat' (first | refine hK _ _ ?_ | refine And.intro ?_ ?_ | (intro hc; try subst hc))) <;> (try clear hK K))
                      | (refine wreg (mos := q43_9) hE [3, 4, 6, 9, 10, 11, 12, 13, 14, 71] (by kernel_rfl) ?_; intro K hK; simp [q43_9, hin, d15, d16, d18, d30, d65, d66, d67, d68]; (repeat' (first | refine hK _ _ ?_ | refine And.intro ?_ ?_ | (intro hc; try subst hc))) <;> (try clear hK K))
                      | (refine wreg (mos := q43_10) hE [3, 4, 6, 9, 10, 11, 12, 13] (by kernel_rfl) ?_; intro K hK; simp [q43_10, hin, d15, d16, d18, d30, d65, d66, d67, d68]; (repeat' (first | refine hK _ _ ?_ | refine And.intro ?_ ?_ | (intro hc; try subst hc))) <;> (try clear hK K))
                      | (refine wdraw (mos := q43_11) hE mixT c43_11 [3, 4, 6, 9, 10, 11, 12] (by kernel_rfl) ?_; intro K hK; simp [q43_11, c43_11, hin, d15, d16, d18, d30, d65, d66, d67, d68]; (repeat' (first | refine hK _ _ ?_ | refine And.intro ?_ ?_ | (intro hc; try subst hc))) <;> (try clear hK K))
                      | (refine wreg (mos := q43_12) hE [3, 4, 6, 9, 10, 11, 12, 13, 14, 97] (by kernel_rfl) ?_; intro K hK; simp [q43_12, hin, d15, d16, d18, d30, d65, d66, d67, d68]; (repeat' (first | refine hK _ _ ?_ | refine And.intro ?_ ?_ | (intro hc; try subst hc))) <;> (try clear hK K))
                      | (refine wreg (mos := q43_13) hE [3, 4, 6, 9, 10, 11, 12, 15] (by kernel_rfl) ?_; intro K hK; simp [q43_13, hin, d15, d16, d18, d30, d65, d66, d67, d68]; (repeat' (first | refine hK _ _ ?_ | refine And.intro ?_ ?_ | (intro hc; try subst hc))) <;> (try clear hK K))
                      | (refine wreg (mos := q43_14) hE [3, 4, 6, 9, 10, 11, 12, 15] (by kernel_rfl) ?_; intro K hK; simp [q43_14, hin, d15, d16, d18, d30, d65, d66, d67, d68]; (repeat' (first | refine hK _ _ ?_ | refine And.intro ?_ ?_ | (intro hc; try subst hc))) <;> (try clear hK K))
                      | (refine wreg (mos := q43_15) hE [3, 4, 6, 9, 10, 11, 12] (by kernel_rfl) ?_; intro K hK; simp [q43_15, hin, d15, d16, d18, d30, d65, d66, d67, d68]; (repeat' (first | refine hK _ _ ?_ | refine And.intro ?_ ?_ | (intro hc; try subst hc))) <;> (try clear hK K))
                      | (refine wreg (mos := q43_16) hE [3, 4, 6, 9, 10, 11, 12, 13, 119] (by kernel_rfl) ?_; intro K hK; simp [q43_16, hin, d15, d16, d18, d30, d65, d66, d67, d68]; (repeat' (first | refine hK _ _ ?_ | refine And.intro ?_ ?_ | (intro hc; try subst hc))) <;> (try clear hK K))
                      | (refine wreg (mos := q43_17) hE [3, 4, 6, 9, 10, 11, 12] (by kernel_rfl) ?_; intro K hK; simp [q43_17, hin, d15, d16, d18, d30, d65, d66, d67, d68]; (repeat' (first | refine hK _ _ ?_ | refine And.intro ?_ ?_ | (intro hc; try subst hc))) <;> (try clear hK K))
                      | (refine wreg (mos := q43_18) hE [3, 4, 6, 9, 10, 11, 12, 16] (by kernel_rfl) ?_; intro K hK; simp [q43_18, hin, d15, d16, d18, d30, d65, d66, d67, d68]; (repeat' (first | refine hK _ _ ?_ | refine And.intro ?_ ?_ | (intro hc; try subst hc))) <;> (try clear hK K))
                      | (refine wreg (mos := q43_19) hE [3, 4, 6, 9, 10, 11, 12, 16, 63, 64] (by kernel_rfl) ?_; intro K hK; simp [q43_19, hin, d15, d16, d18, d30, d65, d66, d67, d68]; (repeat' (first | refine hK _ _ ?_ | refine And.intro ?_ ?_ | (intro hc; try subst hc))) <;> (try clear hK K))
                      | (refine wreg (mos := q43_20) hE [3, 4, 6, 9, 10, 11, 12, 16, 63, 64, 65] (by kernel_rfl) ?_; intro K hK; simp [q43_20, hin, d15, d16, d18, d30, d65, d66, d67, d68]; (repeat' (first | refine hK _ _ ?_ | refine And.intro ?_ ?_ | (intro hc; try subst hc))) <;> (try clear hK K))
                      | (refine wreg (mos := q43_21) hE [3, 4, 6, 9, 10, 11, 12, 16, 63, 64] (by kernel_rfl) ?_; intro K hK; simp [q43_21, hin, d15, d16, d18, d30, d65, d66, d67, d68]; (repeat' (first | refine hK _ _ ?_ | refine And.intro ?_ ?_ | (intro hc; try subst hc))) <;> (try clear hK K))
                      | (refine wreg (mos := q43_22) hE [3, 4, 6, 9, 10, 11, 12, 16, 63, 64] (by kernel_rfl) ?_; intro K hK; simp [q43_22, hin, d15, d16, d18, d30, d65, d66, d67, d68]; (repeat' (first | refine hK _ _ ?_ | refine And.intro ?_ ?_ | (intro hc; try subst hc))) <;> (try clear hK K))
                      | (refine wreg (mos := q43_23) hE [8] (by kernel_rfl) ?_; intro K hK; simp [q43_23, hin, d15, d16, d18, d30, d65, d66, d67, d68]; (repeat' (first | refine hK _ _ ?_ | refine And.intro ?_ ?_ | (intro hc; try subst hc))) <;> (try clear hK K))
                      | (refine Wm_cond (b := _) (by with_unfolding_all rfl) (fun hc => ?_) (fun hc => ?_) <;> simp at hc <;> (try subst hc)))
                    all_goals refine ⟨(stepZ A b c d ma mt md ms mp mw) q, ⟨hK.step hlen fd.2, (run_step (step_more _ _ _ _ _ _ _ _ _ _) hlen).trans hR⟩, ?_, ?_⟩
                    · show N - ((stepZ A b c d ma mt md ms mp mw) q).out.length < N - q.out.length
                      have := step_more A b c d ma mt md ms mp mw q
                      omega
                    · simp [I43, stepZ, kZ, whoZ, hWd, hid, hk1, hk2, hk3, hTn, hY]
                      rw [hS]
                      refine Imp.auto (by kernel_rfl) ?_ ?_ <;> simp [nmap, lkp, mkPl, prs, prsL, prT, ddL, idL, NLe, CRenL, CRen, Ren, RenL, NObj.none, hit, hic, hit2, hic2, intR, hrt, hrc, evR]
        · have hnl : ¬ (q.out.length : Int) < (N : Int) := by omega
          have hnl2 : N ≤ q.out.length := by omega
          have hmn : min N q.out.length = N := Nat.min_eq_left hnl2
          have hfin : runZ (stepZ A b c d ma mt md ms mp mw) N N ⟨s, List.replicate A 0, 0, []⟩ = q := by rw [← hR, run_done hnl2]
          have hsc : scriptL A b c d ma mt md ms mp mw s N = q.out.take N := by simp only [scriptL, Int.toNat_natCast]; rw [hfin]
          have hr1 := rows_t0 (rows_take hK.rows N)
          have hr2 := rows_cl (rows_take hK.rows N)
          repeat' with_reducible (first
            | refine Wm_seq ?_
            | refine Wm_skip ?_
            | refine Wm_ret ?_
            | refine Wm_block ?_
            | refine Wm_exit ?_
            | refine thenK_normal ?_
            | refine thenK_ret ?_
            | refine thenK_exit ?_
            | refine blockK_normal ?_
            | refine blockK_ret ?_
            | refine blockK_here ?_
            | refine loopK_ret ?_
            | refine loopK_exit ?_
            | refine unK_ret ?_
            | refine unK_exit ?_
            | refine unK_normal ?_
            | refine loopOk_succ ?_
            | refine blockK_exit (by decide) ?_
            | (refine wreg (mos := q43_0) hE [1, 3, 4, 6] (by kernel_rfl) ?_; intro K hK; simp [q43_0, intR, hnl, hnl2, hta, hlen, d15, d16, d18, d30, d65, d66, d67, d68]; (repeat' (first | refine hK _ _ ?_ | refine And.intro ?_ ?_ | (intro hc; try subst hc))) <;> (try clear hK K))
            | (refine wreg (mos := q43_1) hE [3, 4, 6, 9] (by kernel_rfl) ?_; intro K hK; simp [q43_1, intR, hnl, hnl2, hta, hlen, d15, d16, d18, d30, d65, d66, d67, d68]; (repeat' (first | refine hK _ _ ?_ | refine And.intro ?_ ?_ | (intro hc; try subst hc))) <;> (try clear hK K))
            | (refine wreg (mos := q43_2) hE [3, 4, 6, 9, 10] (by kernel_rfl) ?_; intro K hK; simp [q43_2, intR, hnl, hnl2, hta, hlen, d15, d16, d18, d30, d65, d66, d67, d68]; (repeat' (first | refine hK _ _ ?_ | refine And.intro ?_ ?_ | (intro hc; try subst hc))) <;> (try clear hK K))
            | (refine wreg (mos := q43_3) hE [3, 4, 6, 9, 10, 11] (by kernel_rfl) ?_; intro K hK; simp [q43_3, intR, hnl, hnl2, hta, hlen, d15, d16, d18, d30, d65, d66, d67, d68]; (repeat' (first | refine hK _ _ ?_ | refine And.intro ?_ ?_ | (intro hc; try subst hc))) <;> (try clear hK K))
            | (refine wreg (mos := q43_4) hE [3, 4, 6, 9, 10, 11, 12] (by kernel_rfl) ?_; intro K hK; simp [q43_4, intR, hnl, hnl2, hta, hlen, d15, d16, d18, d30, d65, d66, d67, d68]; (repeat' (first | refine hK _ _ ?_ | refine And.intro ?_ ?_ | (intro hc; try subst hc))) <;> (try clear hK K))
            | (refine wreg (mos := q43_5) hE [3, 4, 6, 9, 10, 11, 12] (by kernel_rfl) ?_; intro K hK; simp [q43_5, intR, hnl, hnl2, hta, hlen, d15, d16, d18, d30, d65, d66, d67, d68]; (repeat' (first | refine hK _ _ ?_ | refine And.intro ?_ ?_ | (intro hc; try subst hc))) <;> (try clear hK K))
            | (refine wreg (mos := q43_6) hE [3, 4, 6, 9, 10, 11, 12, 29] (by kernel_rfl) ?_; intro K hK; simp [q43_6, intR, hnl, hnl2, hta, hlen, d15, d16, d18, d30, d65, d66, d67, d68]; (repeat' (first | refine hK _ _ ?_ | refine And.intro ?_ ?_ | (intro hc; try subst hc))) <;> (try clear hK K))
            | (refine wreg (mos := q43_7) hE [3, 4, 6, 9, 10, 11, 12, 13] (by kernel_rfl) ?_; intro K hK; simp [q43_7, intR, hnl, hnl2, hta, hlen, d15, d16, d18, d30, d65, d66, d67, d68]; (repeat' (first | refine hK _ _ ?_ | refine And.intro ?_ ?_ | (intro hc; try subst hc))) <;> (try clear hK K))
            | (refine wreg (mos := q43_8) hE [3, 4, 6, 9, 10, 11, 12, 13, 14] (by kernel_rfl) ?_; intro K hK; simp [q43_8, intR, hnl, hnl2, hta, hlen, d15, d16, d18, d30, d65, d66, d67, d68]; (repeat' (first | refine hK _ _ ?_ | refine And.intro ?_ ?_ | (intro hc; try subst hc))) <;> (try clear hK K))
            | (refine wreg (mos := q43_9) hE [3, 4, 6, 9, 10, 11, 12, 13, 14, 71] (by kernel_rfl) ?_; intro K hK; simp [q43_9, intR, hnl, hnl2, hta, hlen, d15, d16, d18, d30, d65, d66, d67, d68]; (repeat' (first | refine hK _ _ ?_ | refine And.intro ?_ ?_ | (intro hc; try subst hc))) <;> (try clear hK K))
            | (refine wreg (mos := q43_10) hE [3, 4, 6, 9, 10, 11, 12, 13] (by kernel_rfl) ?_; intro K hK; simp [q43_10, intR, hnl, hnl2, hta, hlen, d15, d16, d18, d30, d65, d66, d67, d68]; (repeat' (first | refine hK _ _ ?_ | refine And.intro ?_ ?_ | (intro hc; try subst hc))) <;> (try clear hK K))
            | (refine wdraw (mos := q43_11) hE mixT c43_11 [3, 4, 6, 9, 10, 11, 12] (by kernel_rfl) ?_; intro K hK; simp [q43_11, c43_11, intR, hnl, hnl2, hta, hlen, d15, d16, d18, d30, d65, d66, d67, d68]; (repeat' (first | refine hK _ _ ?_ | refine And.intro ?_ ?_ | (intro hc; try subst hc))) <;> (try clear hK K))
            | (refine wreg (mos := q43_12) hE [3, 4, 6, 9, 10, 11, 12, 13, 14, 97] (by kernel_rfl) ?_; intro K hK; simp [q43_12, intR, hnl, hnl2, hta, hlen, d15, d16, d18, d30, d65, d66, d67, d68]; (repeat' (first | refine hK _ _ ?_ | refine And.intro ?_ ?_ | (intro hc; try subst hc))) <;> (try clear hK K))
            | (refine wreg (mos := q43_13) hE [3, 4, 6, 9, 10, 11, 12, 15] (by kernel_rfl) ?_; intro K hK; simp [q43_13, intR, hnl, hnl2, hta, hlen, d15, d16, d18, d30, d65, d66, d67, d68]; (repeat' (first | refine hK _ _ ?_ | refine And.intro ?_ ?_ | (intro hc; try subst hc))) <;> (try clear hK K))
            | (refine wreg (mos := q43_14) hE [3, 4, 6, 9, 10, 11, 12, 15] (by kernel_rfl) ?_; intro K hK; simp [q43_14, intR, hnl, hnl2, hta, hlen, d15, d16, d18, d30, d65, d66, d67, d68]; (repeat' (first | refine hK _ _ ?_ | refine And.intro ?_ ?_ | (intro hc; try subst hc))) <;> (try clear hK K))
            | (refine wreg (mos := q43_15) hE [3, 4, 6, 9, 10, 11, 12] (by kernel_rfl) ?_; intro K hK; simp [q43_15, intR, hnl, hnl2, hta, hlen, d15, d16, d18, d30, d65, d66, d67, d68]; (repeat' (first | refine hK _ _ ?_ | refine And.intro ?_ ?_ | (intro hc; try subst hc))) <;> (try clear hK K))
            | (refine wreg (mos := q43_16) hE [3, 4, 6, 9, 10, 11, 12, 13, 119] (by kernel_rfl) ?_; intro K hK; simp [q43_16, intR, hnl, hnl2, hta, hlen, d15, d16, d18, d30, d65, d66, d67, d68]; (repeat' (first | refine hK _ _ ?_ | refine And.intro ?_ ?_ | (intro hc; try subst hc))) <;> (try clear hK K))
            | (refine wreg (mos := q43_17) hE [3, 4, 6, 9, 10, 11, 12] (by kernel_rfl) ?_; intro K hK; simp [q43_17, intR, hnl, hnl2, hta, hlen, d15, d16, d18, d30, d65, d66, d67, d68]; (repeat' (first | refine hK _ _ ?_ | refine And.intro ?_ ?_ | (intro hc; try subst hc))) <;> (try clear hK K))
            | (refine wreg (mos := q43_18) hE [3, 4, 6, 9, 10, 11, 12, 16] (by kernel_rfl) ?_; intro K hK; simp [q43_18, intR, hnl, hnl2, hta, hlen, d15, d16, d18, d30, d65, d66, d67, d68]; (repeat' (first | refine hK _ _ ?_ | refine And.intro ?_ ?_ | (intro hc; try subst hc))) <;> (try clear hK K))
            | (refine wreg (mos := q43_19) hE [3, 4, 6, 9, 10, 11, 12, 16, 63, 64] (by kernel_rfl) ?_; intro K hK; simp [q43_19, intR, hnl, hnl2, hta, hlen, d15, d16, d18, d30, d65, d66, d67, d68]; (repeat' (first | refine hK _ _ ?_ | refine And.intro ?_ ?_ | (intro hc; try subst hc))) <;> (try clear hK K))
            | (refine wreg (mos := q43_20) hE [3, 4, 6, 9, 10, 11, 12, 16, 63, 64, 65] (by kernel_rfl) ?_; intro K hK; simp [q43_20, intR, hnl, hnl2, hta, hlen, d15, d16, d18, d30, d65, d66, d67, d68]; (repeat' (first | refine hK _ _ ?_ | refine And.intro ?_ ?_ | (intro hc; try subst hc))) <;> (try clear hK K))
            | (refine wreg (mos := q43_21) hE [3, 4, 6, 9, 10, 11, 12, 16, 63, 64] (by kernel_rfl) ?_; intro K hK; simp [q43_21, intR, hnl, hnl2, hta, hlen, d15, d16, d18, d30, d65, d66, d67, d68]; (repeat' (first | refine hK _ _ ?_ | refine And.intro ?_ ?_ | (intro hc; try subst hc))) <;> (try clear hK K))
            | (refine wreg (mos := q43_22) hE [3, 4, 6, 9, 10, 11, 12, 16, 63, 64] (by kernel_rfl) ?_; intro K hK; simp [q43_22, intR, hnl, hnl2, hta, hlen, d15, d16, d18, d30, d65, d66, d67, d68]; (repeat' (first | refine hK _ _ ?_ | refine And.intro ?_ ?_ | (intro hc; try subst hc))) <;> (try clear hK K))
            | (refine wreg (mos := q43_23) hE [8] (by kernel_rfl) ?_; intro K hK; simp [q43_23, intR, hnl, hnl2, hta, hlen, d15, d16, d18, d30, d65, d66, d67, d68]; (repeat' (first | refine hK _ _ ?_ | refine And.intro ?_ ?_ | (intro hc; try subst hc))) <;> (try clear hK K))
            | (refine Wm_cond (b := _) (by with_unfolding_all rfl) (fun hc => ?_) (fun hc => ?_) <;> simp at hc <;> (try subst hc)))
          all_goals (simp [hsc]; refine (Imp.shrink (k := 5) N rfl (rows_plain hK.rows)).trans ?_; refine Imp.auto (by kernel_rfl) ?_ ?_ <;> simp [nmap, lkp, mkPl, prs, prsL, prT, ddL, idL, NLe, CRenL, CRen, Ren, RenL, NObj.none, hr1, hr2, hmn])
    · cases h
  · cases h
end Go.W
