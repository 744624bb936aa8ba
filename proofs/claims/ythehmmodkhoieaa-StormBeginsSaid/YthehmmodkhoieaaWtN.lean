import Derived.Test.YthehmmodkhoieaaWtM
namespace Go.W
open Go.Proofs
set_option linter.unusedSimpArgs false
set_option linter.unusedVariables false
set_option maxHeartbeats 8000000
attribute [local irreducible] Wm

theorem hold_mx {n : Int} : holdZ n 0 (n + 1) = mx0 n := by
  unfold holdZ mx0; split <;> (try split) <;> omega

theorem hold_n {n : Int} {N : Nat} (h : n ≤ 65536) (hNa : max n 0 ≤ N) (hNb : (N : Int) ≤ max n 0) : holdZ n 0 65536 = N := by
  unfold holdZ; split <;> (try split) <;> omega

theorem hold_clock {x y : Int} (h : 0 ≤ x) (h' : 1 ≤ y) : holdZ (x + y) 0 1000000 = clockZ x y := by
  unfold holdZ clockZ; split <;> (try split) <;> omega

theorem pick3_z {s w z : Int} (h : belowZ s 3 = 2) : pickZ s [w, w, z] = z := by
  simp [pickZ, h]

theorem pick3_w {s w z : Int} (h : ¬ belowZ s 3 = 2) : pickZ s [w, w, z] = w := by
  have h1 := below_in (s := s) (n := 3) (by omega)
  have : belowZ s 3 = 0 ∨ belowZ s 3 = 1 := by omega
  rcases this with e | e <;> simp [pickZ, e]

def d44 : List AV → Option Ans
  | [.agg [.int .i64 a, .int .i64 b, .int .i64 c, .int .i64 d, .int .i64 e, .int .i64 f, .int .i64 g], .int .u64 s, .agg [.int .i64 ma, .int .i64 mt, .int .i64 md, .int .i64 ms, .int .i64 mp, .int .i64 mw], .int .i64 n] => if checkZ a b c d e f g = -1 ∧ fitsB ma mt md ms mp mw = true ∧ n ≤ 65536 then some ⟨.os 0 12 (scriptL a b c d ma mt md ms mp mw s n.toNat), []⟩ else none
  | _ => none

def I44 (cfg mood : List AV) (n A : Nat) (x y z ab : Int) (q : Sto) : St := ⟨[(3, .int .i64 n), (4, .ptr (.top 0) 0 0), (6, .ptr (.top 1) 0 0), (9, .ptr (.top 2) 0 0), (10, .sl (.top 3) 0 A), (11, .int .i64 q.now), (12, .sl (.top 4) 0 q.out.length), (13, .int .i64 x), (14, .int .i64 y), (15, .int .i64 z), (16, .int .i64 ab)],
  [(0, .cells 0 cfg), (1, .cells 0 mood), (2, .cells 0 [.int .u64 q.s]), (3, .arr 0 1 (q.ids.map intR)), (4, .arr 0 12 q.out)], 5⟩

def J44 (cfg mood : List AV) (n A T : Nat) (x y z ab : Int) (q : Sto) (Y s : Int) (i : Nat) : St := ⟨[(3, .int .i64 n), (4, .ptr (.top 0) 0 0), (6, .ptr (.top 1) 0 0), (9, .ptr (.top 2) 0 0), (10, .sl (.top 3) 0 A), (11, .int .i64 q.now), (12, .sl (.top 4) 0 (q.out.length + i)), (13, .int .i64 x), (14, .int .i64 y), (15, .int .i64 z), (16, .int .i64 ab), (17, .int .i64 Y), (21, .int .i64 ((T : Int) - i))],
  [(0, .cells 0 cfg), (1, .cells 0 mood), (2, .cells 0 [.int .u64 s]), (3, .arr 0 1 (q.ids.map intR)), (4, .arr 0 12 (q.out ++ List.replicate i (evR 3 Y 0 0 0 0 0 0 0 0 0 0)))], 5⟩

theorem few2 {T i : Nat} (h3 : i < T) (h4 : T ≤ 10001) : (0 : Int) < T - i ∧ IntKind.wrap .i64 ((T : Int) - i - 1) = (T : Int) - (i + 1) := ⟨by omega, by rw [wrap_in (by omega) (by omega)]; omega⟩

theorem few3 {x y : Int} (hx : 0 ≤ x ∧ x ≤ 1000000) (hy : 0 ≤ y ∧ y < 3) : 1 ≤ 1 + y ∧ IntKind.wrap .i64 (1 + y) = 1 + y ∧ IntKind.wrap .i64 (x + (1 + y)) = x + (1 + y) := ⟨by omega, wrap_in (by omega) (by omega), wrap_in (by omega) (by omega)⟩

theorem few4 {a c d : Int} (ha : 1 ≤ a ∧ a ≤ 6) (hc : 1 ≤ c ∧ c ≤ 3) (hd : 1 ≤ d ∧ d ≤ 4) : IntKind.wrap .i64 (2 * c) = 2 * c ∧ IntKind.wrap .i64 (2 * c * d) = 2 * (c * d) ∧ IntKind.wrap .i64 (a + 2 * (c * d)) = a + 2 * (c * d) ∧ a + 2 * (c * d) ≤ 9223372036854775807 := by
  have h0 : 0 ≤ c * d := Int.mul_nonneg (by omega) (by omega)
  have h1 : c * d ≤ 3 * 4 := Int.mul_le_mul (by omega) (by omega) (by omega) (by omega)
  have h2 : 2 * c * d = 2 * (c * d) := Int.mul_assoc _ _ _
  rw [h2]
  exact ⟨wrap_in (by omega) (by omega), wrap_in (by omega) (by omega), wrap_in (by omega) (by omega), by omega⟩

theorem few5 {a b : Int} (ha : 1 ≤ a ∧ a ≤ 6) (hb : 1 ≤ b ∧ b ≤ 4) : IntKind.wrap .i64 (a * b) = a * b ∧ a * b ≤ 9223372036854775807 := by
  have h0 : 0 ≤ a * b := Int.mul_nonneg (by omega) (by omega)
  have h1 : a * b ≤ 6 * 4 := Int.mul_le_mul (by omega) (by omega) (by omega) (by omega)
  exact ⟨wrap_in (by omega) (by omega), by omega⟩

theorem few6 {ms s : Int} (h : ms ≤ 10000) : ∃ Tn : Nat, (1 + belowZ s ms) = (Tn : Int) ∧ 1 ≤ Tn ∧ Tn ≤ 10001 := by
  have hst : 0 ≤ belowZ s ms ∧ belowZ s ms ≤ 10000 := by
    by_cases h : 1 ≤ ms
    · have := below_in (s := s) h; omega
    · rw [belowZ, if_pos (by omega)]; omega
  exact ⟨(1 + belowZ s ms).toNat, by omega, by omega, by omega⟩

theorem ok44 : NOk [] d44 := by
  intro xs a h
  unfold d44 at h
  split at h
  · split at h
    · rename_i hc
      injection h with h; subst h; refine ⟨Ends_of ?_, ?_⟩ <;> simp [(script_ok (fits_ms hc.2.1)).1, (script_ok (fits_ms hc.2.1)).2]
    · cases h
  · cases h
theorem s44 : Sound Try.prog 44 (nestS [] d44 ok44) := by
  refine nest_sound Try.func44 nm44 rc44 rv44 ok44 (fun xs a h => ?_) fun xs a h w0 S hS => ?_
  · unfold d44 at h
    (repeat' (split at h)) <;> first | (cases h; done) | exact Nat.le_of_ble_eq_true rfl
  unfold d44 at h
  split at h
  · split at h
    · rename_i a b c d e f g s ma mt md ms mp mw n hcond
      injection h with h
      subst h
      have hE : SoundAll Try.prog (EL [(17, nestS [(1, true)] d17 ok17), (31, nestS [(1, true)] d31 ok31), (58, nestS [] d58 ok58)]) := EL_sound (by simp only [List.mem_cons, List.not_mem_nil, or_false, forall_eq_or_imp, forall_eq]; exact ⟨s17, s31, s58⟩)
      obtain ⟨hck, hft, hn⟩ := hcond
      obtain ⟨ca, cb, cc, cd, ce, cf, cg⟩ := check_in hck
      obtain ⟨fe, ff, fd, fa, fb, fc⟩ := fits_in hft
      have hra := script_rows (a := a) (b := b) (c := c) (d := d) (ma := ma) (mt := mt) (md := md) (mp := mp) (mw := mw) (s := s) (n := n.toNat) fd.2
      obtain ⟨A, hA⟩ : ∃ A : Nat, a = A := ⟨a.toNat, by omega⟩
      subst hA
      obtain ⟨N, hNN, hNa, hNb⟩ : ∃ N : Nat, n.toNat = N ∧ max n 0 ≤ N ∧ (N : Int) ≤ max n 0 := ⟨n.toNat, rfl, by omega, by omega⟩
      rw [hNN] at hra ⊢
      clear hNN
      have hN : (if 0 < (if 65536 < n then 65536 else n) then (if 65536 < n then 65536 else n) else 0) = (N : Int) := by
        have h65 : ¬ 65536 < n := by omega
        rw [if_neg h65]
        split <;> omega
      have hrep1 : t0LL (List.replicate A [AV.int .i64 0]) = List.replicate A [AV.int .i64 0] := by simpa [intR] using ints_t0 (List.replicate A 0)
      have hrep2 : clLL (List.replicate A [AV.int .i64 0]) = true := by simpa [intR] using ints_cl (List.replicate A 0)
      have hms3 := mx0_in fa.2
      have hmt3 := mx0_in fb.2
      have hmd3 := mx0_in fc.2
      have hA8 : (A : Int) * 8 ≤ 281474976710656 := by omega
      have hA99 : (A : Int) ≤ 9223372036854775807 := by omega
      have hh1 : IntKind.wrap .i64 (ma + 1) = ma + 1 := wrap_in (by omega) (by omega)
      have hh2 : IntKind.wrap .i64 (mt + 1) = mt + 1 := wrap_in (by omega) (by omega)
      have hh3 : IntKind.wrap .i64 (md + 1) = md + 1 := wrap_in (by omega) (by omega)
      obtain ⟨hab1, hab2⟩ := few5 ca cb
      have hhn := hold_n hn hNa hNb
      unfold m44
      repeat' with_reducible (first
        | refine Wm_seq ?_
        | refine Wm_skip ?_
        | refine Wm_ret ?_
        | refine Wm_block ?_
        | refine Wm_exit ?_
        | refine thenK_normal ?_
        | refine thenK_ret ?_
        | refine thenK_exit ?_
        | refine blockK_normal ?_
        | refine blockK_ret ?_
        | refine blockK_here ?_
        | refine loopK_ret ?_
        | refine loopK_exit ?_
        | refine unK_ret ?_
        | refine unK_exit ?_
        | refine unK_normal ?_
        | refine loopOk_succ ?_
        | refine blockK_exit (by decide) ?_
        | (refine wreg (mos := q44_0) hE [1, 3, 4, 6] (by kernel_rfl) ?_; intro K hK; simp [q44_0, hA8, hA99, hh1, hh2, hh3, hold_mx, hhn, hab1, d17, d31, d58]; (repeat' (first | refine hK _ _ ?_ | refine And.intro ?_ ?_ | (intro hc; try subst hc))) <;> (try clear hK K))
        | (refine wreg (mos := q44_1) hE [3, 4, 6, 9] (by kernel_rfl) ?_; intro K hK; simp [q44_1, hA8, hA99, hh1, hh2, hh3, hold_mx, hhn, hab1, d17, d31, d58]; (repeat' (first | refine hK _ _ ?_ | refine And.intro ?_ ?_ | (intro hc; try subst hc))) <;> (try clear hK K))
        | (refine wreg (mos := q44_2) hE [3, 4, 6, 9, 10] (by kernel_rfl) ?_; intro K hK; simp [q44_2, hA8, hA99, hh1, hh2, hh3, hold_mx, hhn, hab1, d17, d31, d58]; (repeat' (first | refine hK _ _ ?_ | refine And.intro ?_ ?_ | (intro hc; try subst hc))) <;> (try clear hK K))
        | (refine wreg (mos := q44_3) hE [3, 4, 6, 9, 10, 11] (by kernel_rfl) ?_; intro K hK; simp [q44_3, hA8, hA99, hh1, hh2, hh3, hold_mx, hhn, hab1, d17, d31, d58]; (repeat' (first | refine hK _ _ ?_ | refine And.intro ?_ ?_ | (intro hc; try subst hc))) <;> (try clear hK K))
        | (refine wreg (mos := q44_4) hE [3, 4, 6, 9, 10, 11, 12] (by kernel_rfl) ?_; intro K hK; simp [q44_4, hA8, hA99, hh1, hh2, hh3, hold_mx, hhn, hab1, d17, d31, d58]; (repeat' (first | refine hK _ _ ?_ | refine And.intro ?_ ?_ | (intro hc; try subst hc))) <;> (try clear hK K))
        | (refine wdraw (mos := q44_5) hE mixT c44_5 [3, 4, 6, 9, 10, 11, 12, 13, 14, 15] (by kernel_rfl) ?_; intro K hK; simp [q44_5, c44_5, hA8, hA99, hh1, hh2, hh3, hold_mx, hhn, hab1, d17, d31, d58]; (repeat' (first | refine hK _ _ ?_ | refine And.intro ?_ ?_ | (intro hc; try subst hc))) <;> (try clear hK K))
        | (refine wreg (mos := q44_6) hE [3, 4, 6, 9, 10, 11, 12, 13, 14, 15] (by kernel_rfl) ?_; intro K hK; simp [q44_6, hA8, hA99, hh1, hh2, hh3, hold_mx, hhn, hab1, d17, d31, d58]; (repeat' (first | refine hK _ _ ?_ | refine And.intro ?_ ?_ | (intro hc; try subst hc))) <;> (try clear hK K))
        | (refine wreg (mos := q44_7) hE [3, 4, 6, 9, 10, 11, 12, 13, 14, 15, 16] (by kernel_rfl) ?_; intro K hK; simp [q44_7, hA8, hA99, hh1, hh2, hh3, hold_mx, hhn, hab1, d17, d31, d58]; (repeat' (first | refine hK _ _ ?_ | refine And.intro ?_ ?_ | (intro hc; try subst hc))) <;> (try clear hK K))
        | (refine wreg (mos := q44_8) hE [3, 4, 6, 9, 10, 11, 12, 13, 14, 15, 16, 56] (by kernel_rfl) ?_; intro K hK; simp [q44_8, hA8, hA99, hh1, hh2, hh3, hold_mx, hhn, hab1, d17, d31, d58]; (repeat' (first | refine hK _ _ ?_ | refine And.intro ?_ ?_ | (intro hc; try subst hc))) <;> (try clear hK K))
        | (refine wreg (mos := q44_9) hE [3, 4, 6, 9, 10, 11, 12, 13, 14, 15, 16, 17] (by kernel_rfl) ?_; intro K hK; simp [q44_9, hA8, hA99, hh1, hh2, hh3, hold_mx, hhn, hab1, d17, d31, d58]; (repeat' (first | refine hK _ _ ?_ | refine And.intro ?_ ?_ | (intro hc; try subst hc))) <;> (try clear hK K))
        | (refine wreg (mos := q44_10) hE [3, 4, 6, 9, 10, 11, 12, 13, 14, 15, 16, 17, 18] (by kernel_rfl) ?_; intro K hK; simp [q44_10, hA8, hA99, hh1, hh2, hh3, hold_mx, hhn, hab1, d17, d31, d58]; (repeat' (first | refine hK _ _ ?_ | refine And.intro ?_ ?_ | (intro hc; try subst hc))) <;> (try clear hK K))
        | (refine wreg (mos := q44_11) hE [3, 4, 6, 9, 10, 11, 12, 13, 14, 15, 16, 17, 18, 71] (by kernel_rfl) ?_; intro K hK; simp [q44_11, hA8, hA99, hh1, hh2, hh3, hold_mx, hhn, hab1, d17, d31, d58]; (repeat' (first | refine hK _ _ ?_ | refine And.intro ?_ ?_ | (intro hc; try subst hc))) <;> (try clear hK K))
        | (refine wreg (mos := q44_12) hE [3, 4, 6, 9, 10, 11, 12, 13, 14, 15, 16, 17] (by kernel_rfl) ?_; intro K hK; simp [q44_12, hA8, hA99, hh1, hh2, hh3, hold_mx, hhn, hab1, d17, d31, d58]; (repeat' (first | refine hK _ _ ?_ | refine And.intro ?_ ?_ | (intro hc; try subst hc))) <;> (try clear hK K))
        | (refine wdraw (mos := q44_13) hE mixT c44_13 [3, 4, 6, 9, 10, 11, 12, 13, 14, 15, 16] (by kernel_rfl) ?_; intro K hK; simp [q44_13, c44_13, hA8, hA99, hh1, hh2, hh3, hold_mx, hhn, hab1, d17, d31, d58]; (repeat' (first | refine hK _ _ ?_ | refine And.intro ?_ ?_ | (intro hc; try subst hc))) <;> (try clear hK K))
        | (refine wreg (mos := q44_14) hE [3, 4, 6, 9, 10, 11, 12, 13, 14, 15, 16, 17, 18, 96] (by kernel_rfl) ?_; intro K hK; simp [q44_14, hA8, hA99, hh1, hh2, hh3, hold_mx, hhn, hab1, d17, d31, d58]; (repeat' (first | refine hK _ _ ?_ | refine And.intro ?_ ?_ | (intro hc; try subst hc))) <;> (try clear hK K))
        | (refine wreg (mos := q44_15) hE [3, 4, 6, 9, 10, 11, 12, 13, 14, 15, 16, 19] (by kernel_rfl) ?_; intro K hK; simp [q44_15, hA8, hA99, hh1, hh2, hh3, hold_mx, hhn, hab1, d17, d31, d58]; (repeat' (first | refine hK _ _ ?_ | refine And.intro ?_ ?_ | (intro hc; try subst hc))) <;> (try clear hK K))
        | (refine wreg (mos := q44_16) hE [3, 4, 6, 9, 10, 11, 12, 13, 14, 15, 16, 19] (by kernel_rfl) ?_; intro K hK; simp [q44_16, hA8, hA99, hh1, hh2, hh3, hold_mx, hhn, hab1, d17, d31, d58]; (repeat' (first | refine hK _ _ ?_ | refine And.intro ?_ ?_ | (intro hc; try subst hc))) <;> (try clear hK K))
        | (refine wreg (mos := q44_17) hE [3, 4, 6, 9, 10, 11, 12, 13, 14, 15, 16] (by kernel_rfl) ?_; intro K hK; simp [q44_17, hA8, hA99, hh1, hh2, hh3, hold_mx, hhn, hab1, d17, d31, d58]; (repeat' (first | refine hK _ _ ?_ | refine And.intro ?_ ?_ | (intro hc; try subst hc))) <;> (try clear hK K))
        | (refine wreg (mos := q44_18) hE [3, 4, 6, 9, 10, 11, 12, 13, 14, 15, 16, 17, 115] (by kernel_rfl) ?_; intro K hK; simp [q44_18, hA8, hA99, hh1, hh2, hh3, hold_mx, hhn, hab1, d17, d31, d58]; (repeat' (first | refine hK _ _ ?_ | refine And.intro ?_ ?_ | (intro hc; try subst hc))) <;> (try clear hK K))
        | (refine wreg (mos := q44_19) hE [3, 4, 6, 9, 10, 11, 12, 13, 14, 15, 16] (by kernel_rfl) ?_; intro K hK; simp [q44_19, hA8, hA99, hh1, hh2, hh3, hold_mx, hhn, hab1, d17, d31, d58]; (repeat' (first | refine hK _ _ ?_ | refine And.intro ?_ ?_ | (intro hc; try subst hc))) <;> (try clear hK K))
        | (refine wreg (mos := q44_20) hE [3, 4, 6, 9, 10, 11, 12, 13, 14, 15, 16, 17, 20] (by kernel_rfl) ?_; intro K hK; simp [q44_20, hA8, hA99, hh1, hh2, hh3, hold_mx, hhn, hab1, d17, d31, d58]; (repeat' (first | refine hK _ _ ?_ | refine And.intro ?_ ?_ | (intro hc; try subst hc))) <;> (try clear hK K))
        | (refine wreg (mos := q44_21) hE [3, 4, 6, 9, 10, 11, 12, 13, 14, 15, 16, 17, 20, 137] (by kernel_rfl) ?_; intro K hK; simp [q44_21, hA8, hA99, hh1, hh2, hh3, hold_mx, hhn, hab1, d17, d31, d58]; (repeat' (first | refine hK _ _ ?_ | refine And.intro ?_ ?_ | (intro hc; try subst hc))) <;> (try clear hK K))
        | (refine wreg (mos := q44_22) hE [3, 4, 6, 9, 10, 11, 12, 13, 14, 15, 16, 17] (by kernel_rfl) ?_; intro K hK; simp [q44_22, hA8, hA99, hh1, hh2, hh3, hold_mx, hhn, hab1, d17, d31, d58]; (repeat' (first | refine hK _ _ ?_ | refine And.intro ?_ ?_ | (intro hc; try subst hc))) <;> (try clear hK K))
        | (refine wreg (mos := q44_23) hE [3, 4, 6, 9, 10, 11, 12, 13, 14, 15, 16, 17, 21] (by kernel_rfl) ?_; intro K hK; simp [q44_23, hA8, hA99, hh1, hh2, hh3, hold_mx, hhn, hab1, d17, d31, d58]; (repeat' (first | refine hK _ _ ?_ | refine And.intro ?_ ?_ | (intro hc; try subst hc))) <;> (try clear hK K))
        | (refine wreg (mos := q44_24) hE [3, 4, 6, 9, 10, 11, 12, 13, 14, 15, 16, 17, 21, 145] (by kernel_rfl) ?_; intro K hK; simp [q44_24, hA8, hA99, hh1, hh2, hh3, hold_mx, hhn, hab1, d17, d31, d58]; (repeat' (first | refine hK _ _ ?_ | refine And.intro ?_ ?_ | (intro hc; try subst hc))) <;> (try clear hK K))
        | (refine wreg (mos := q44_25) hE [3, 4, 6, 9, 10, 11, 12, 13, 14, 15, 16, 17, 21] (by kernel_rfl) ?_; intro K hK; simp [q44_25, hA8, hA99, hh1, hh2, hh3, hold_mx, hhn, hab1, d17, d31, d58]; (repeat' (first | refine hK _ _ ?_ | refine And.intro ?_ ?_ | (intro hc; try subst hc))) <;> (try clear hK K))
        | (refine wreg (mos := q44_26) hE [3, 4, 6, 9, 10, 11, 12, 13, 14, 15, 16, 17, 21] (by kernel_rfl) ?_; intro K hK; simp [q44_26, hA8, hA99, hh1, hh2, hh3, hold_mx, hhn, hab1, d17, d31, d58]; (repeat' (first | refine hK _ _ ?_ | refine And.intro ?_ ?_ | (intro hc; try subst hc))) <;> (try clear hK K))
        | (refine wreg (mos := q44_27) hE [8] (by kernel_rfl) ?_; intro K hK; simp [q44_27, hA8, hA99, hh1, hh2, hh3, hold_mx, hhn, hab1, d17, d31, d58]; (repeat' (first | refine hK _ _ ?_ | refine And.intro ?_ ?_ | (intro hc; try subst hc))) <;> (try clear hK K))
        | (refine Wm_cond (b := _) (by with_unfolding_all rfl) (fun hc => ?_) (fun hc => ?_) <;> simp at hc <;> (try subst hc)))
      all_goals (refine Wm_loop (I44 [.int .i64 (A : Int), .int .i64 b, .int .i64 c, .int .i64 d, .int .i64 e, .int .i64 f, .int .i64 g] [.int .i64 ma, .int .i64 mt, .int .i64 md, .int .i64 ms, .int .i64 mp, .int .i64 mw] N A (mx0 ma) (mx0 mt) (mx0 md) (A * b)) (fun q => Keeps A N q ∧ runZ (stepZ A b c d ma mt md ms mp mw) N (N - q.out.length) q = runZ (stepZ A b c d ma mt md ms mp mw) N N ⟨s, List.replicate A 0, 0, []⟩) (fun q => N - q.out.length) ⟨s, List.replicate A 0, 0, []⟩ ⟨⟨rfl, by simp, by simp, by simp, by simp⟩, by simp⟩ ?_ ?_)
      · simp only [I44]
        rw [hS]
        refine Imp.auto (by kernel_rfl) ?_ ?_ <;> simp [nmap, lkp, mkPl, prs, prsL, prT, ddL, idL, NLe, CRenL, CRen, Ren, RenL, NObj.none, intR, hrep1, hrep2]
      · intro q ⟨hK, hR⟩
        simp only [I44]
        have hta : ∀ n, tlLL n q.out = true := fun n => rows_tl hK.rows
        have hnow0 := hK.now.1
        have hnow1 := hK.now.2
        have hfew := hK.few
        have hit := ints_t0 q.ids
        have hic := ints_cl q.ids
        have hN65 : N ≤ 65536 := by omega
        by_cases hlen : q.out.length < N
        · have hNl : (q.out.length : Int) < (N : Int) := by omega
          obtain ⟨W, hWd⟩ : ∃ W : Nat, belowZ q.s A = W := ⟨(belowZ q.s A).toNat, by have := below_in (s := q.s) (n := A) (by omega); omega⟩
          have hWI : (W : Int) < (A : Int) := by have := below_in (s := q.s) (n := A) (by omega); omega
          have hWA : W < A := by omega
          have hWi : W < q.ids.length := by rw [hK.len]; exact hWA
          obtain ⟨x, hid⟩ : ∃ x, q.ids[W]? = some x := ⟨_, List.getElem?_eq_getElem hWi⟩
          have hset : ((List.map intR q.ids).set W [AV.int .i64 (x + 1)])[W]? = some [AV.int .i64 (x + 1)] := List.getElem?_set_self (by simpa using hWi)
          have hit2 : t0LL ((List.map intR q.ids).set W [AV.int .i64 (x + 1)]) = (List.map intR q.ids).set W [AV.int .i64 (x + 1)] := by simpa [intR] using ints_t0 (q.ids.set W (x + 1))
          have hic2 : clLL ((List.map intR q.ids).set W [AV.int .i64 (x + 1)]) = true := by simpa [intR] using ints_cl (q.ids.set W (x + 1))
          have hx := hK.num x (List.mem_of_getElem? hid)
          have hAA : (A : Int) ≤ 9223372036854775807 := by omega
          have hA9 : 0 ≤ x + 1 := by omega
          have hA10 : x + 1 ≤ 1048576 := by omega
          have w1 : IntKind.wrap .i64 (x + 1) = x + 1 := wrap_in (by omega) (by omega)
          have w2 : IntKind.wrap .i64 (mx0 ma + mx0 mt) = mx0 ma + mx0 mt := wrap_in (by omega) (by omega)
          have w3 : IntKind.wrap .i64 (mx0 ma + mx0 mt + mx0 md) = mx0 ma + mx0 mt + mx0 md := wrap_in (by omega) (by omega)
          have w4 : IntKind.wrap .i64 (mx0 ma + mx0 mt + mx0 md + 4) = mx0 ma + mx0 mt + mx0 md + 4 := wrap_in (by omega) (by omega)
          have hk9 : mx0 ma + mx0 mt + mx0 md + 4 ≤ 9223372036854775807 := by omega
          have hp1 : (q.out.length + 1) * 96 ≤ 140737488355328 := by omega
          have hp2 : q.out.length + 1 ≤ 9223372036854775807 := by omega
          by_cases hk1 : belowZ (nextS q.s) (mx0 ma + mx0 mt + mx0 md + 4) < mx0 ma
          · have hrt := rows_t0 (hK.step (b := b) (a := A) (c := c) (d := d) (ma := ma) (mt := mt) (md := md) (mp := mp) (mw := mw) hlen fd.2).rows
            have hrc := rows_cl (hK.step (b := b) (a := A) (c := c) (d := d) (ma := ma) (mt := mt) (md := md) (mp := mp) (mw := mw) hlen fd.2).rows
            simp [stepZ, kZ, whoZ, hWd, hid, hk1, evR] at hrt hrc
            repeat' with_reducible (first
              | refine Wm_seq ?_
              | refine Wm_skip ?_
              | refine Wm_ret ?_
              | refine Wm_block ?_
              | refine Wm_exit ?_
              | refine thenK_normal ?_
              | refine thenK_ret ?_
              | refine thenK_exit ?_
              | refine blockK_normal ?_
              | refine blockK_ret ?_
              | refine blockK_here ?_
              | refine loopK_ret ?_
              | refine loopK_exit ?_
              | refine unK_ret ?_
              | refine unK_exit ?_
              | refine unK_normal ?_
              | refine loopOk_succ ?_
              | refine blockK_exit (by decide) ?_
              | (refine wreg (mos := q44_0) hE [1, 3, 4, 6] (by kernel_rfl) ?_; intro K hK; simp [q44_0, intR, hset, hWd, hWA, hWI, hAA, hid, w1, w2, w3, w4, hk9, hA9, hNl, hta, hnow0, hnow1, hck, hft, hA10, hp1, hp2, hk1, d17, d31, d58]; (repeat' (first | refine hK _ _ ?_ | refine And.intro ?_ ?_ | (intro hc; try subst hc))) <;> (try clear hK K))
              | (refine wreg (mos := q44_1) hE [3, 4, 6, 9] (by kernel_rfl) ?_; intro K hK; simp [q44_1, intR, hset, hWd, hWA, hWI, hAA, hid, w1, w2, w3, w4, hk9, hA9, hNl, hta, hnow0, hnow1, hck, hft, hA10, hp1, hp2, hk1, d17, d31, d58]; (repeat' (first | refine hK _ _ ?_ | refine And.intro ?_ ?_ | (intro hc; try subst hc))) <;> (try clear hK K))
              | (refine wreg (mos := q44_2) hE [3, 4, 6, 9, 10] (by kernel_rfl) ?_; intro K hK; simp [q44_2, intR, hset, hWd, hWA, hWI, hAA, hid, w1, w2, w3, w4, hk9, hA9, hNl, hta, hnow0, hnow1, hck, hft, hA10, hp1, hp2, hk1, d17, d31, d58]; (repeat' (first | refine hK _ _ ?_ | refine And.intro ?_ ?_ | (intro hc; try subst hc))) <;> (try clear hK K))
              | (refine wreg (mos := q44_3) hE [3, 4, 6, 9, 10, 11] (by kernel_rfl) ?_; intro K hK; simp [q44_3, intR, hset, hWd, hWA, hWI, hAA, hid, w1, w2, w3, w4, hk9, hA9, hNl, hta, hnow0, hnow1, hck, hft, hA10, hp1, hp2, hk1, d17, d31, d58]; (repeat' (first | refine hK _ _ ?_ | refine And.intro ?_ ?_ | (intro hc; try subst hc))) <;> (try clear hK K))
              | (refine wreg (mos := q44_4) hE [3, 4, 6, 9, 10, 11, 12] (by kernel_rfl) ?_; intro K hK; simp [q44_4, intR, hset, hWd, hWA, hWI, hAA, hid, w1, w2, w3, w4, hk9, hA9, hNl, hta, hnow0, hnow1, hck, hft, hA10, hp1, hp2, hk1, d17, d31, d58]; (repeat' (first | refine hK _ _ ?_ | refine And.intro ?_ ?_ | (intro hc; try subst hc))) <;> (try clear hK K))
              | (refine wdraw (mos := q44_5) hE mixT c44_5 [3, 4, 6, 9, 10, 11, 12, 13, 14, 15] (by kernel_rfl) ?_; intro K hK; simp [q44_5, c44_5, intR, hset, hWd, hWA, hWI, hAA, hid, w1, w2, w3, w4, hk9, hA9, hNl, hta, hnow0, hnow1, hck, hft, hA10, hp1, hp2, hk1, d17, d31, d58]; (repeat' (first | refine hK _ _ ?_ | refine And.intro ?_ ?_ | (intro hc; try subst hc))) <;> (try clear hK K))
              | (refine wreg (mos := q44_6) hE [3, 4, 6, 9, 10, 11, 12, 13, 14, 15] (by kernel_rfl) ?_; intro K hK; simp [q44_6, intR, hset, hWd, hWA, hWI, hAA, hid, w1, w2, w3, w4, hk9, hA9, hNl, hta, hnow0, hnow1, hck, hft, hA10, hp1, hp2, hk1, d17, d31, d58]; (repeat' (first | refine hK _ _ ?_ | refine And.intro ?_ ?_ | (intro hc; try subst hc))) <;> (try clear hK K))
              | (refine wreg (mos := q44_7) hE [3, 4, 6, 9, 10, 11, 12, 13, 14, 15, 16] (by kernel_rfl) ?_; intro K hK; simp [q44_7, intR, hset, hWd, hWA, hWI, hAA, hid, w1, w2, w3, w4, hk9, hA9, hNl, hta, hnow0, hnow1, hck, hft, hA10, hp1, hp2, hk1, d17, d31, d58]; (repeat' (first | refine hK _ _ ?_ | refine And.intro ?_ ?_ | (intro hc; try subst hc))) <;> (try clear hK K))
              | (refine wreg (mos := q44_8) hE [3, 4, 6, 9, 10, 11, 12, 13, 14, 15, 16, 56] (by kernel_rfl) ?_; intro K hK; simp [q44_8, intR, hset, hWd, hWA, hWI, hAA, hid, w1, w2, w3, w4, hk9, hA9, hNl, hta, hnow0, hnow1, hck, hft, hA10, hp1, hp2, hk1, d17, d31, d58]; (repeat' (first | refine hK _ _ ?_ | refine And.intro ?_ ?_ | (intro hc; try subst hc))) <;> (try clear hK K))
              | (refine wreg (mos := q44_9) hE [3, 4, 6, 9, 10, 11, 12, 13, 14, 15, 16, 17] (by kernel_rfl) ?_; intro K hK; simp [q44_9, intR, hset, hWd, hWA, hWI, hAA, hid, w1, w2, w3, w4, hk9, hA9, hNl, hta, hnow0, hnow1, hck, hft, hA10, hp1, hp2, hk1, d17, d31, d58]; (repeat' (first | refine hK _ _ ?_ | refine And.intro ?_ ?_ | (intro hc; try subst hc))) <;> (try clear hK K))
              | (refine wreg (mos := q44_10) hE [3, 4, 6, 9, 10, 11, 12, 13, 14, 15, 16, 17, 18] (by kernel_rfl) ?_; intro K hK; simp [q44_10, intR, hset, hWd, hWA, hWI, hAA, hid, w1, w2, w3, w4, hk9, hA9, hNl, hta, hnow0, hnow1, hck, hft, hA10, hp1, hp2, hk1, d17, d31, d58]; (repeat' (first | refine hK _ _ ?_ | refine And.intro ?_ ?_ | (intro hc; try subst hc))) <;> (try clear hK K))
              | (refine wreg (mos := q44_11) hE [3, 4, 6, 9, 10, 11, 12, 13, 14, 15, 16, 17, 18, 71] (by kernel_rfl) ?_; intro K hK; simp [q44_11, intR, hset, hWd, hWA, hWI, hAA, hid, w1, w2, w3, w4, hk9, hA9, hNl, hta, hnow0, hnow1, hck, hft, hA10, hp1, hp2, hk1, d17, d31, d58]; (repeat' (first | refine hK _ _ ?_ | refine And.intro ?_ ?_ | (intro hc; try subst hc))) <;> (try clear hK K))
              | (refine wreg (mos := q44_12) hE [3, 4, 6, 9, 10, 11, 12, 13, 14, 15, 16, 17] (by kernel_rfl) ?_; intro K hK; simp [q44_12, intR, hset, hWd, hWA, hWI, hAA, hid, w1, w2, w3, w4, hk9, hA9, hNl, hta, hnow0, hnow1, hck, hft, hA10, hp1, hp2, hk1, d17, d31, d58]; (repeat' (first | refine hK _ _ ?_ | refine And.intro ?_ ?_ | (intro hc; try subst hc))) <;> (try clear hK K))
              | (refine wdraw (mos := q44_13) hE mixT c44_13 [3, 4, 6, 9, 10, 11, 12, 13, 14, 15, 16] (by kernel_rfl) ?_; intro K hK; simp [q44_13, c44_13, intR, hset, hWd, hWA, hWI, hAA, hid, w1, w2, w3, w4, hk9, hA9, hNl, hta, hnow0, hnow1, hck, hft, hA10, hp1, hp2, hk1, d17, d31, d58]; (repeat' (first | refine hK _ _ ?_ | refine And.intro ?_ ?_ | (intro hc; try subst hc))) <;> (try clear hK K))
              | (refine wreg (mos := q44_14) hE [3, 4, 6, 9, 10, 11, 12, 13, 14, 15, 16, 17, 18, 96] (by kernel_rfl) ?_; intro K hK; simp [q44_14, intR, hset, hWd, hWA, hWI, hAA, hid, w1, w2, w3, w4, hk9, hA9, hNl, hta, hnow0, hnow1, hck, hft, hA10, hp1, hp2, hk1, d17, d31, d58]; (repeat' (first | refine hK _ _ ?_ | refine And.intro ?_ ?_ | (intro hc; try subst hc))) <;> (try clear hK K))
              | (refine wreg (mos := q44_15) hE [3, 4, 6, 9, 10, 11, 12, 13, 14, 15, 16, 19] (by kernel_rfl) ?_; intro K hK; simp [q44_15, intR, hset, hWd, hWA, hWI, hAA, hid, w1, w2, w3, w4, hk9, hA9, hNl, hta, hnow0, hnow1, hck, hft, hA10, hp1, hp2, hk1, d17, d31, d58]; (repeat' (first | refine hK _ _ ?_ | refine And.intro ?_ ?_ | (intro hc; try subst hc))) <;> (try clear hK K))
              | (refine wreg (mos := q44_16) hE [3, 4, 6, 9, 10, 11, 12, 13, 14, 15, 16, 19] (by kernel_rfl) ?_; intro K hK; simp [q44_16, intR, hset, hWd, hWA, hWI, hAA, hid, w1, w2, w3, w4, hk9, hA9, hNl, hta, hnow0, hnow1, hck, hft, hA10, hp1, hp2, hk1, d17, d31, d58]; (repeat' (first | refine hK _ _ ?_ | refine And.intro ?_ ?_ | (intro hc; try subst hc))) <;> (try clear hK K))
              | (refine wreg (mos := q44_17) hE [3, 4, 6, 9, 10, 11, 12, 13, 14, 15, 16] (by kernel_rfl) ?_; intro K hK; simp [q44_17, intR, hset, hWd, hWA, hWI, hAA, hid, w1, w2, w3, w4, hk9, hA9, hNl, hta, hnow0, hnow1, hck, hft, hA10, hp1, hp2, hk1, d17, d31, d58]; (repeat' (first | refine hK _ _ ?_ | refine And.intro ?_ ?_ | (intro hc; try subst hc))) <;> (try clear hK K))
              | (refine wreg (mos := q44_18) hE [3, 4, 6, 9, 10, 11, 12, 13, 14, 15, 16, 17, 115] (by kernel_rfl) ?_; intro K hK; simp [q44_18, intR, hset, hWd, hWA, hWI, hAA, hid, w1, w2, w3, w4, hk9, hA9, hNl, hta, hnow0, hnow1, hck, hft, hA10, hp1, hp2, hk1, d17, d31, d58]; (repeat' (first | refine hK _ _ ?_ | refine And.intro ?_ ?_ | (intro hc; try subst hc))) <;> (try clear hK K))
              | (refine wreg (mos := q44_19) hE [3, 4, 6, 9, 10, 11, 12, 13, 14, 15, 16] (by kernel_rfl) ?_; intro K hK; simp [q44_19, intR, hset, hWd, hWA, hWI, hAA, hid, w1, w2, w3, w4, hk9, hA9, hNl, hta, hnow0, hnow1, hck, hft, hA10, hp1, hp2, hk1, d17, d31, d58]; (repeat' (first | refine hK _ _ ?_ | refine And.intro ?_ ?_ | (intro hc; try subst hc))) <;> (try clear hK K))
              | (refine wreg (mos := q44_20) hE [3, 4, 6, 9, 10, 11, 12, 13, 14, 15, 16, 17, 20] (by kernel_rfl) ?_; intro K hK; simp [q44_20, intR, hset, hWd, hWA, hWI, hAA, hid, w1, w2, w3, w4, hk9, hA9, hNl, hta, hnow0, hnow1, hck, hft, hA10, hp1, hp2, hk1, d17, d31, d58]; (repeat' (first | refine hK _ _ ?_ | refine And.intro ?_ ?_ | (intro hc; try subst hc))) <;> (try clear hK K))
              | (refine wreg (mos := q44_21) hE [3, 4, 6, 9, 10, 11, 12, 13, 14, 15, 16, 17, 20, 137] (by kernel_rfl) ?_; intro K hK; simp [q44_21, intR, hset, hWd, hWA, hWI, hAA, hid, w1, w2, w3, w4, hk9, hA9, hNl, hta, hnow0, hnow1, hck, hft, hA10, hp1, hp2, hk1, d17, d31, d58]; (repeat' (first | refine hK _ _ ?_ | refine And.intro ?_ ?_ | (intro hc; try subst hc))) <;> (try clear hK K))
              | (refine wreg (mos := q44_22) hE [3, 4, 6, 9, 10, 11, 12, 13, 14, 15, 16, 17] (by kernel_rfl) ?_; intro K hK; simp [q44_22, intR, hset, hWd, hWA, hWI, hAA, hid, w1, w2, w3, w4, hk9, hA9, hNl, hta, hnow0, hnow1, hck, hft, hA10, hp1, hp2, hk1, d17, d31, d58]; (repeat' (first | refine hK _ _ ?_ | refine And.intro ?_ ?_ | (intro hc; try subst hc))) <;> (try clear hK K))
              | (refine wreg (mos := q44_23) hE [3, 4, 6, 9, 10, 11, 12, 13, 14, 15, 16, 17, 21] (by kernel_rfl) ?_; intro K hK; simp [q44_23, intR, hset, hWd, hWA, hWI, hAA, hid, w1, w2, w3, w4, hk9, hA9, hNl, hta, hnow0, hnow1, hck, hft, hA10, hp1, hp2, hk1, d17, d31, d58]; (repeat' (first | refine hK _ _ ?_ | refine And.intro ?_ ?_ | (intro hc; try subst hc))) <;> (try clear hK K))
              | (refine wreg (mos := q44_24) hE [3, 4, 6, 9, 10, 11, 12, 13, 14, 15, 16, 17, 21, 145] (by kernel_rfl) ?_; intro K hK; simp [q44_24, intR, hset, hWd, hWA, hWI, hAA, hid, w1, w2, w3, w4, hk9, hA9, hNl, hta, hnow0, hnow1, hck, hft, hA10, hp1, hp2, hk1, d17, d31, d58]; (repeat' (first | refine hK _ _ ?_ | refine And.intro ?_ ?_ | (intro hc; try subst hc))) <;> (try clear hK K))
              | (refine wreg (mos := q44_25) hE [3, 4, 6, 9, 10, 11, 12, 13, 14, 15, 16, 17, 21] (by kernel_rfl) ?_; intro K hK; simp [q44_25, intR, hset, hWd, hWA, hWI, hAA, hid, w1, w2, w3, w4, hk9, hA9, hNl, hta, hnow0, hnow1, hck, hft, hA10, hp1, hp2, hk1, d17, d31, d58]; (repeat' (first | refine hK _ _ ?_ | refine And.intro ?_ ?_ | (intro hc; try subst hc))) <;> (try clear hK K))
              | (refine wreg (mos := q44_26) hE [3, 4, 6, 9, 10, 11, 12, 13, 14, 15, 16, 17, 21] (by kernel_rfl) ?_; intro K hK; simp [q44_26, intR, hset, hWd, hWA, hWI, hAA, hid, w1, w2, w3, w4, hk9, hA9, hNl, hta, hnow0, hnow1, hck, hft, hA10, hp1, hp2, hk1, d17, d31, d58]; (repeat' (first | refine hK _ _ ?_ | refine And.intro ?_ ?_ | (intro hc; try subst hc))) <;> (try clear hK K))
              | (refine wreg (mos := q44_27) hE [8] (by kernel_rfl) ?_; intro K hK; simp [q44_27, intR, hset, hWd, hWA, hWI, hAA, hid, w1, w2, w3, w4, hk9, hA9, hNl, hta, hnow0, hnow1, hck, hft, hA10, hp1, hp2, hk1, d17, d31, d58]; (repeat' (first | refine hK _ _ ?_ | refine And.intro ?_ ?_ | (intro hc; try subst hc))) <;> (try clear hK K))
              | (refine Wm_cond (b := _) (by with_unfolding_all rfl) (fun hc => ?_) (fun hc => ?_) <;> simp at hc <;> (try subst hc)))
            all_goals refine ⟨(stepZ A b c d ma mt md ms mp mw) q, ⟨hK.step hlen fd.2, (run_step (step_more _ _ _ _ _ _ _ _ _ _) hlen).trans hR⟩, ?_, ?_⟩
            · show N - ((stepZ A b c d ma mt md ms mp mw) q).out.length < N - q.out.length
              have := step_more A b c d ma mt md ms mp mw q
              omega
            · simp [I44, stepZ, kZ, whoZ, hWd, hid, hk1]
              rw [hS]
              refine Imp.auto (by kernel_rfl) ?_ ?_ <;> simp [nmap, lkp, mkPl, prs, prsL, prT, ddL, idL, NLe, CRenL, CRen, Ren, RenL, NObj.none, hit, hic, hit2, hic2, intR, hrt, hrc, evR]
          · by_cases hk2 : belowZ (nextS q.s) (mx0 ma + mx0 mt + mx0 md + 4) < mx0 ma + mx0 mt
            · have hb3 := below_in (s := nextS (nextS q.s)) (n := 3) (by omega)
              obtain ⟨hb1, wx, wy⟩ := few3 hK.now hb3
              have hcl := hold_clock hK.now.1 hb1
              have hrt := rows_t0 (hK.step (b := b) (a := A) (c := c) (d := d) (ma := ma) (mt := mt) (md := md) (mp := mp) (mw := mw) hlen fd.2).rows
              have hrc := rows_cl (hK.step (b := b) (a := A) (c := c) (d := d) (ma := ma) (mt := mt) (md := md) (mp := mp) (mw := mw) hlen fd.2).rows
              simp [stepZ, kZ, whoZ, hWd, hid, hk1, hk2, evR] at hrt hrc
              repeat' with_reducible (first
                | refine Wm_seq ?_
                | refine Wm_skip ?_
                | refine Wm_ret ?_
                | refine Wm_block ?_
                | refine Wm_exit ?_
                | refine thenK_normal ?_
                | refine thenK_ret ?_
                | refine thenK_exit ?_
                | refine blockK_normal ?_
                | refine blockK_ret ?_
                | refine blockK_here ?_
                | refine loopK_ret ?_
                | refine loopK_exit ?_
                | refine unK_ret ?_
                | refine unK_exit ?_
                | refine unK_normal ?_
                | refine loopOk_succ ?_
                | refine blockK_exit (by decide) ?_
                | (refine wreg (mos := q44_0) hE [1, 3, 4, 6] (by kernel_rfl) ?_; intro K hK; simp [q44_0, intR, hset, hWd, hWA, hWI, hAA, hid, w1, w2, w3, w4, hk9, hA9, hNl, hta, hnow0, hnow1, hck, hft, hp1, hp2, hk1, hk2, wx, wy, hcl, d17, d31, d58]; (repeat' (first | refine hK _ _ ?_ | refine And.intro ?_ ?_ | (intro hc; try subst hc))) <;> (try clear hK K))
                | (refine wreg (mos := q44_1) hE [3, 4, 6, 9] (by kernel_rfl) ?_; intro K hK; simp [q44_1, intR, hset, hWd, hWA, hWI, hAA, hid, w1, w2, w3, w4, hk9, hA9, hNl, hta, hnow0, hnow1, hck, hft, hp1, hp2, hk1, hk2, wx, wy, hcl, d17, d31, d58]; (repeat' (first | refine hK _ _ ?_ | refine And.intro ?_ ?_ | (intro hc; try subst hc))) <;> (try clear hK K))
                | (refine wreg (mos := q44_2) hE [3, 4, 6, 9, 10] (by kernel_rfl) ?_; intro K hK; simp [q44_2, intR, hset, hWd, hWA, hWI, hAA, hid, w1, w2, w3, w4, hk9, hA9, hNl, hta, hnow0, hnow1, hck, hft, hp1, hp2, hk1, hk2, wx, wy, hcl, d17, d31, d58]; (repeat' (first | refine hK _ _ ?_ | refine And.intro ?_ ?_ | (intro hc; try subst hc))) <;> (try clear hK K))
                | (refine wreg (mos := q44_3) hE [3, 4, 6, 9, 10, 11] (by kernel_rfl) ?_; intro K hK; simp [q44_3, intR, hset, hWd, hWA, hWI, hAA, hid, w1, w2, w3, w4, hk9, hA9, hNl, hta, hnow0, hnow1, hck, hft, hp1, hp2, hk1, hk2, wx, wy, hcl, d17, d31, d58]; (repeat' (first | refine hK _ _ ?_ | refine And.intro ?_ ?_ | (intro hc; try subst hc))) <;> (try clear hK K))
                | (refine wreg (mos := q44_4) hE [3, 4, 6, 9, 10, 11, 12] (by kernel_rfl) ?_; intro K hK; simp [q44_4, intR, hset, hWd, hWA, hWI, hAA, hid, w1, w2, w3, w4, hk9, hA9, hNl, hta, hnow0, hnow1, hck, hft, hp1, hp2, hk1, hk2, wx, wy, hcl, d17, d31, d58]; (repeat' (first | refine hK _ _ ?_ | refine And.intro ?_ ?_ | (intro hc; try subst hc))) <;> (try clear hK K))
                | (refine wdraw (mos := q44_5) hE mixT c44_5 [3, 4, 6, 9, 10, 11, 12, 13, 14, 15] (by kernel_rfl) ?_; intro K hK; simp [q44_5, c44_5, intR, hset, hWd, hWA, hWI, hAA, hid, w1, w2, w3, w4, hk9, hA9, hNl, hta, hnow0, hnow1, hck, hft, hp1, hp2, hk1, hk2, wx, wy, hcl, d17, d31, d58]; (repeat' (first | refine hK _ _ ?_ | refine And.intro ?_ ?_ | (intro hc; try subst hc))) <;> (try clear hK K))
                | (refine wreg (mos := q44_6) hE [3, 4, 6, 9, 10, 11, 12, 13, 14, 15] (by kernel_rfl) ?_; intro K hK; simp [q44_6, intR, hset, hWd, hWA, hWI, hAA, hid, w1, w2, w3, w4, hk9, hA9, hNl, hta, hnow0, hnow1, hck, hft, hp1, hp2, hk1, hk2, wx, wy, hcl, d17, d31, d58]; (repeat' (first | refine hK _ _ ?_ | refine And.intro ?_ ?_ | (intro hc; try subst hc))) <;> (try clear hK K))
                | (refine wreg (mos := q44_7) hE [3, 4, 6, 9, 10, 11, 12, 13, 14, 15, 16] (by kernel_rfl) ?_; intro K hK; simp [q44_7, intR, hset, hWd, hWA, hWI, hAA, hid, w1, w2, w3, w4, hk9, hA9, hNl, hta, hnow0, hnow1, hck, hft, hp1, hp2, hk1, hk2, wx, wy, hcl, d17, d31, d58]; (repeat' (first | refine hK _ _ ?_ | refine And.intro ?_ ?_ | (intro hc; try subst hc))) <;> (try clear hK K))
                | (refine wreg (mos := q44_8) hE [3, 4, 6, 9, 10, 11, 12, 13, 14, 15, 16, 56] (by kernel_rfl) ?_; intro K hK; simp [q44_8, intR, hset, hWd, hWA, hWI, hAA, hid, w1, w2, w3, w4, hk9, hA9, hNl, hta, hnow0, hnow1, hck, hft, hp1, hp2, hk1, hk2, wx, wy, hcl, d17, d31, d58]; (repeat' (first | refine hK _ _ ?_ | refine And.intro ?_ ?_ | (intro hc; try subst hc))) <;> (try clear hK K))
                | (refine wreg (mos := q44_9) hE [3, 4, 6, 9, 10, 11, 12, 13, 14, 15, 16, 17] (by kernel_rfl) ?_; intro K hK; simp [q44_9, intR, hset, hWd, hWA, hWI, hAA, hid, w1, w2, w3, w4, hk9, hA9, hNl, hta, hnow0, hnow1, hck, hft, hp1, hp2, hk1, hk2, wx, wy, hcl, d17, d31, d58]; (repeat' (first | refine hK _ _ ?_ | refine And.intro ?_ ?_ | (intro hc; try subst hc))) <;> (try clear hK K))
                | (refine wreg (mos := q44_10) hE [3, 4, 6, 9, 10, 11, 12, 13, 14, 15, 16, 17, 18] (by kernel_rfl) ?_; intro K hK; simp [q44_10, intR, hset, hWd, hWA, hWI, hAA, hid, w1, w2, w3, w4, hk9, hA9, hNl, hta, hnow0, hnow1, hck, hft, hp1, hp2, hk1, hk2, wx, wy, hcl, d17, d31, d58]; (repeat' (first | refine hK _ _ ?_ | refine And.intro ?_ ?_ | (intro hc; try subst hc))) <;> (try clear hK K))
                | (refine wreg (mos := q44_11) hE [3, 4, 6, 9, 10, 11, 12, 13, 14, 15, 16, 17, 18, 71] (by kernel_rfl) ?_; intro K hK; simp [q44_11, intR, hset, hWd, hWA, hWI, hAA, hid, w1, w2, w3, w4, hk9, hA9, hNl, hta, hnow0, hnow1, hck, hft, hp1, hp2, hk1, hk2, wx, wy, hcl, d17, d31, d58]; (repeat' (first | refine hK _ _ ?_ | refine And.intro ?_ ?_ | (intro hc; try subst hc))) <;> (try clear hK K))
                | (refine wreg (mos := q44_12) hE [3, 4, 6, 9, 10, 11, 12, 13, 14, 15, 16, 17] (by kernel_rfl) ?_; intro K hK; simp [q44_12, intR, hset, hWd, hWA, hWI, hAA, hid, w1, w2, w3, w4, hk9, hA9, hNl, hta, hnow0, hnow1, hck, hft, hp1, hp2, hk1, hk2, wx, wy, hcl, d17, d31, d58]; (repeat' (first | refine hK _ _ ?_ | refine And.intro ?_ ?_ | (intro hc; try subst hc))) <;> (try clear hK K))
                | (refine wdraw (mos := q44_13) hE mixT c44_13 [3, 4, 6, 9, 10, 11, 12, 13, 14, 15, 16] (by kernel_rfl) ?_; intro K hK; simp [q44_13, c44_13, intR, hset, hWd, hWA, hWI, hAA, hid, w1, w2, w3, w4, hk9, hA9, hNl, hta, hnow0, hnow1, hck, hft, hp1, hp2, hk1, hk2, wx, wy, hcl, d17, d31, d58]; (repeat' (first | refine hK _ _ ?_ | refine And.intro ?_ ?_ | (intro hc; try subst hc))) <;> (try clear hK K))
                | (refine wreg (mos := q44_14) hE [3, 4, 6, 9, 10, 11, 12, 13, 14, 15, 16, 17, 18, 96] (by kernel_rfl) ?_; intro K hK; simp [q44_14, intR, hset, hWd, hWA, hWI, hAA, hid, w1, w2, w3, w4, hk9, hA9, hNl, hta, hnow0, hnow1, hck, hft, hp1, hp2, hk1, hk2, wx, wy, hcl, d17, d31, d58]; (repeat' (first | refine hK _ _ ?_ | refine And.intro ?_ ?_ | (intro hc; try subst hc))) <;> (try clear hK K))
                | (refine wreg (mos := q44_15) hE [3, 4, 6, 9, 10, 11, 12, 13, 14, 15, 16, 19] (by kernel_rfl) ?_; intro K hK; simp [q44_15, intR, hset, hWd, hWA, hWI, hAA, hid, w1, w2, w3, w4, hk9, hA9, hNl, hta, hnow0, hnow1, hck, hft, hp1, hp2, hk1, hk2, wx, wy, hcl, d17, d31, d58]; (repeat' (first | refine hK _ _ ?_ | refine And.intro ?_ ?_ | (intro hc; try subst hc))) <;> (try clear hK K))
                | (refine wreg (mos := q44_16) hE [3, 4, 6, 9, 10, 11, 12, 13, 14, 15, 16, 19] (by kernel_rfl) ?_; intro K hK; simp [q44_16, intR, hset, hWd, hWA, hWI, hAA, hid, w1, w2, w3, w4, hk9, hA9, hNl, hta, hnow0, hnow1, hck, hft, hp1, hp2, hk1, hk2, wx, wy, hcl, d17, d31, d58]; (repeat' (first | refine hK _ _ ?_ | refine And.intro ?_ ?_ | (intro hc; try subst hc))) <;> (try clear hK K))
                | (refine wreg (mos := q44_17) hE [3, 4, 6, 9, 10, 11, 12, 13, 14, 15, 16] (by kernel_rfl) ?_; intro K hK; simp [q44_17, intR, hset, hWd, hWA, hWI, hAA, hid, w1, w2, w3, w4, hk9, hA9, hNl, hta, hnow0, hnow1, hck, hft, hp1, hp2, hk1, hk2, wx, wy, hcl, d17, d31, d58]; (repeat' (first | refine hK _ _ ?_ | refine And.intro ?_ ?_ | (intro hc; try subst hc))) <;> (try clear hK K))
                | (refine wreg (mos := q44_18) hE [3, 4, 6, 9, 10, 11, 12, 13, 14, 15, 16, 17, 115] (by kernel_rfl) ?_; intro K hK; simp [q44_18, intR, hset, hWd, hWA, hWI, hAA, hid, w1, w2, w3, w4, hk9, hA9, hNl, hta, hnow0, hnow1, hck, hft, hp1, hp2, hk1, hk2, wx, wy, hcl, d17, d31, d58]; (repeat' (first | refine hK _ _ ?_ | refine And.intro ?_ ?_ | (intro hc; try subst hc))) <;> (try clear hK K))
                | (refine wreg (mos := q44_19) hE [3, 4, 6, 9, 10, 11, 12, 13, 14, 15, 16] (by kernel_rfl) ?_; intro K hK; simp [q44_19, intR, hset, hWd, hWA, hWI, hAA, hid, w1, w2, w3, w4, hk9, hA9, hNl, hta, hnow0, hnow1, hck, hft, hp1, hp2, hk1, hk2, wx, wy, hcl, d17, d31, d58]; (repeat' (first | refine hK _ _ ?_ | refine And.intro ?_ ?_ | (intro hc; try subst hc))) <;> (try clear hK K))
                | (refine wreg (mos := q44_20) hE [3, 4, 6, 9, 10, 11, 12, 13, 14, 15, 16, 17, 20] (by kernel_rfl) ?_; intro K hK; simp [q44_20, intR, hset, hWd, hWA, hWI, hAA, hid, w1, w2, w3, w4, hk9, hA9, hNl, hta, hnow0, hnow1, hck, hft, hp1, hp2, hk1, hk2, wx, wy, hcl, d17, d31, d58]; (repeat' (first | refine hK _ _ ?_ | refine And.intro ?_ ?_ | (intro hc; try subst hc))) <;> (try clear hK K))
                | (refine wreg (mos := q44_21) hE [3, 4, 6, 9, 10, 11, 12, 13, 14, 15, 16, 17, 20, 137] (by kernel_rfl) ?_; intro K hK; simp [q44_21, intR, hset, hWd, hWA, hWI, hAA, hid, w1, w2, w3, w4, hk9, hA9, hNl, hta, hnow0, hnow1, hck, hft, hp1, hp2, hk1, hk2, wx, wy, hcl, d17, d31, d58]; (repeat' (first | refine hK _ _ ?_ | refine And.intro ?_ ?_ | (intro hc; try subst hc))) <;> (try clear hK K))
                | (refine wreg (mos := q44_22) hE [3, 4, 6, 9, 10, 11, 12, 13, 14, 15, 16, 17] (by kernel_rfl) ?_; intro K hK; simp [q44_22, intR, hset, hWd, hWA, hWI, hAA, hid, w1, w2, w3, w4, hk9, hA9, hNl, hta, hnow0, hnow1, hck, hft, hp1, hp2, hk1, hk2, wx, wy, hcl, d17, d31, d58]; (repeat' (first | refine hK _ _ ?_ | refine And.intro ?_ ?_ | (intro hc; try subst hc))) <;> (try clear hK K))
                | (refine wreg (mos := q44_23) hE [3, 4, 6, 9, 10, 11, 12, 13, 14, 15, 16, 17, 21] (by kernel_rfl) ?_; intro K hK; simp [q44_23, intR, hset, hWd, hWA, hWI, hAA, hid, w1, w2, w3, w4, hk9, hA9, hNl, hta, hnow0, hnow1, hck, hft, hp1, hp2, hk1, hk2, wx, wy, hcl, d17, d31, d58]; (repeat' (first | refine hK _ _ ?_ | refine And.intro ?_ ?_ | (intro hc; try subst hc))) <;> (try clear hK K))
                | (refine wreg (mos := q44_24) hE [3, 4, 6, 9, 10, 11, 12, 13, 14, 15, 16, 17, 21, 145] (by kernel_rfl) ?_; intro K hK; simp [q44_24, intR, hset, hWd, hWA, hWI, hAA, hid, w1, w2, w3, w4, hk9, hA9, hNl, hta, hnow0, hnow1, hck, hft, hp1, hp2, hk1, hk2, wx, wy, hcl, d17, d31, d58]; (repeat' (first | refine hK _ _ ?_ | refine And.intro ?_ ?_ | (intro hc; try subst hc))) <;> (try clear hK K))
                | (refine wreg (mos := q44_25) hE [3, 4, 6, 9, 10, 11, 12, 13, 14, 15, 16, 17, 21] (by kernel_rfl) ?_; intro K hK; simp [q44_25, intR, hset, hWd, hWA, hWI, hAA, hid, w1, w2, w3, w4, hk9, hA9, hNl, hta, hnow0, hnow1, hck, hft, hp1, hp2, hk1, hk2, wx, wy, hcl, d17, d31, d58]; (repeat' (first | refine hK _ _ ?_ | refine And.intro ?_ ?_ | (intro hc; try subst hc))) <;> (try clear hK K))
                | (refine wreg (mos := q44_26) hE [3, 4, 6, 9, 10, 11, 12, 13, 14, 15, 16, 17, 21] (by kernel_rfl) ?_; intro K hK; simp [q44_26, intR, hset, hWd, hWA, hWI, hAA, hid, w1, w2, w3, w4, hk9, hA9, hNl, hta, hnow0, hnow1, hck, hft, hp1, hp2, hk1, hk2, wx, wy, hcl, d17, d31, d58]; (repeat' (first | refine hK _ _ ?_ | refine And.intro ?_ ?_ | (intro hc; try subst hc))) <;> (try clear hK K))
                | (refine wreg (mos := q44_27) hE [8] (by kernel_rfl) ?_; intro K hK; simp [q44_27, intR, hset, hWd, hWA, hWI, hAA, hid, w1, w2, w3, w4, hk9, hA9, hNl, hta, hnow0, hnow1, hck, hft, hp1, hp2, hk1, hk2, wx, wy, hcl, d17, d31, d58]; (repeat' (first | refine hK _ _ ?_ | refine And.intro ?_ ?_ | (intro hc; try subst hc))) <;> (try clear hK K))
                | (refine Wm_cond (b := _) (by with_unfolding_all rfl) (fun hc => ?_) (fun hc => ?_) <;> simp at hc <;> (try subst hc)))
              all_goals refine ⟨(stepZ A b c d ma mt md ms mp mw) q, ⟨hK.step hlen fd.2, (run_step (step_more _ _ _ _ _ _ _ _ _ _) hlen).trans hR⟩, ?_, ?_⟩
              · show N - ((stepZ A b c d ma mt md ms mp mw) q).out.length < N - q.out.length
                have := step_more A b c d ma mt md ms mp mw q
                omega
              · simp [I44, stepZ, kZ, whoZ, hWd, hid, hk1, hk2]
                rw [hS]
                refine Imp.auto (by kernel_rfl) ?_ ?_ <;> simp [nmap, lkp, mkPl, prs, prsL, prT, ddL, idL, NLe, CRenL, CRen, Ren, RenL, NObj.none, hit, hic, hit2, hic2, intR, hrt, hrc, evR]
            · by_cases hk3 : belowZ (nextS q.s) (mx0 ma + mx0 mt + mx0 md + 4) < mx0 ma + mx0 mt + mx0 md
              · have hrt := rows_t0 (hK.step (b := b) (a := A) (c := c) (d := d) (ma := ma) (mt := mt) (md := md) (mp := mp) (mw := mw) hlen fd.2).rows
                have hrc := rows_cl (hK.step (b := b) (a := A) (c := c) (d := d) (ma := ma) (mt := mt) (md := md) (mp := mp) (mw := mw) hlen fd.2).rows
                simp [stepZ, kZ, whoZ, hWd, hid, hk1, hk2, hk3, evR] at hrt hrc
                repeat' with_reducible (first
                  | refine Wm_seq ?_
                  | refine Wm_skip ?_
                  | refine Wm_ret ?_
                  | refine Wm_block ?_
                  | refine Wm_exit ?_
                  | refine thenK_normal ?_
                  | refine thenK_ret ?_
                  | refine thenK_exit ?_
                  | refine blockK_normal ?_
                  | refine blockK_ret ?_
                  | refine blockK_here ?_
                  | refine loopK_ret ?_
                  | refine loopK_exit ?_
                  | refine unK_ret ?_
                  | refine unK_exit ?_
                  | refine unK_normal ?_
                  | refine loopOk_succ ?_
                  | refine blockK_exit (by decide) ?_
                  | (refine wreg (mos := q44_0) hE [1, 3, 4, 6] (by kernel_rfl) ?_; intro K hK; simp [q44_0, intR, hset, hWd, hWA, hWI, hAA, hid, w1, w2, w3, w4, hk9, hA9, hNl, hta, hnow0, hnow1, hck, hft, hp1, hp2, hk1, hk2, hk3, hab2, d17, d31, d58]; (repeat' (first | refine hK _ _ ?_ | refine And.intro ?_ ?_ | (intro hc; try subst hc))) <;> (try clear hK K))
                  | (refine wreg (mos := q44_1) hE [3, 4, 6, 9] (by kernel_rfl) ?_; intro K hK; simp [q44_1, intR, hset, hWd, hWA, hWI, hAA, hid, w1, w2, w3, w4, hk9, hA9, hNl, hta, hnow0, hnow1, hck, hft, hp1, hp2, hk1, hk2, hk3, hab2, d17, d31, d58]; (repeat' (first | refine hK _ _ ?_ | refine And.intro ?_ ?_ | (intro hc; try subst hc))) <;> (try clear hK K))
                  | (refine wreg (mos := q44_2) hE [3, 4, 6, 9, 10] (by kernel_rfl) ?_; intro K hK; simp [q44_2, intR, hset, hWd, hWA, hWI, hAA, hid, w1, w2, w3, w4, hk9, hA9, hNl, hta, hnow0, hnow1, hck, hft, hp1, hp2, hk1, hk2, hk3, hab2, d17, d31, d58]; (repeat' (first | refine hK _ _ ?_ | refine And.intro ?_ ?_ | (intro hc; try subst hc))) <;> (try clear hK K))
                  | (refine wreg (mos := q44_3) hE [3, 4, 6, 9, 10, 11] (by kernel_rfl) ?_; intro K hK; simp [q44_3, intR, hset, hWd, hWA, hWI, hAA, hid, w1, w2, w3, w4, hk9, hA9, hNl, hta, hnow0, hnow1, hck, hft, hp1, hp2, hk1, hk2, hk3, hab2, d17, d31, d58]; (repeat' (first | refine hK _ _ ?_ | refine And.intro ?_ ?_ | (intro hc; try subst hc))) <;> (try clear hK K))
                  | (refine wreg (mos := q44_4) hE [3, 4, 6, 9, 10, 11, 12] (by kernel_rfl) ?_; intro K hK; simp [q44_4, intR, hset, hWd, hWA, hWI, hAA, hid, w1, w2, w3, w4, hk9, hA9, hNl, hta, hnow0, hnow1, hck, hft, hp1, hp2, hk1, hk2, hk3, hab2, d17, d31, d58]; (repeat' (first | refine hK _ _ ?_ | refine And.intro ?_ ?_ | (intro hc; try subst hc))) <;> (try clear hK K))
                  | (refine wdraw (mos := q44_5) hE mixT c44_5 [3, 4, 6, 9, 10, 11, 12, 13, 14, 15] (by kernel_rfl) ?_; intro K hK; simp [q44_5, c44_5, intR, hset, hWd, hWA, hWI, hAA, hid, w1, w2, w3, w4, hk9, hA9, hNl, hta, hnow0, hnow1, hck, hft, hp1, hp2, hk1, hk2, hk3, hab2, d17, d31, d58]; (repeat' (first | refine hK _ _ ?_ | refine And.intro ?_ ?_ | (intro hc; try subst hc))) <;> (try clear hK K))
                  | (refine wreg (mos := q44_6) hE [3, 4, 6, 9, 10, 11, 12, 13, 14, 15] (by kernel_rfl) ?_; intro K hK; simp [q44_6, intR, hset, hWd, hWA, hWI, hAA, hid, w1, w2, w3, w4, hk9, hA9, hNl, hta, hnow0, hnow1, hck, hft, hp1, hp2, hk1, hk2, hk3, hab2, d17, d31, d58]; (repeat' (first | refine hK _ _ ?_ | refine And.intro ?_ ?_ | (intro hc; try subst hc))) <;> (try clear hK K))
                  | (refine wreg (mos := q44_7) hE [3, 4, 6, 9, 10, 11, 12, 13, 14, 15, 16] (by kernel_rfl) ?_; intro K hK; simp [q44_7, intR, hset, hWd, hWA, hWI, hAA, hid, w1, w2, w3, w4, hk9, hA9, hNl, hta, hnow0, hnow1, hck, hft, hp1, hp2, hk1, hk2, hk3, hab2, d17, d31, d58]; (repeat' (first | refine hK _ _ ?_ | refine And.intro ?_ ?_ | (intro hc; try subst hc))) <;> (try clear hK K))
                  | (refine wreg (mos := q44_8) hE [3, 4, 6, 9, 10, 11, 12, 13, 14, 15, 16, 56] (by kernel_rfl) ?_; intro K hK; simp [q44_8, intR, hset, hWd, hWA, hWI, hAA, hid, w1, w2, w3, w4, hk9, hA9, hNl, hta, hnow0, hnow1, hck, hft, hp1, hp2, hk1, hk2, hk3, hab2, d17, d31, d58]; (repeat' (first | refine hK _ _ ?_ | refine And.intro ?_ ?_ | (intro hc; try subst hc))) <;> (try clear hK K))
                  | (refine wreg (mos := q44_9) hE [3, 4, 6, 9, 10, 11, 12, 13, 14, 15, 16, 17] (by kernel_rfl) ?_; intro K hK; simp [q44_9, intR, hset, hWd, hWA, hWI, hAA, hid, w1, w2, w3, w4, hk9, hA9, hNl, hta, hnow0, hnow1, hck, hft, hp1, hp2, hk1, hk2, hk3, hab2, d17, d31, d58]; (repeat' (first | refine hK _ _ ?_ | refine And.intro ?_ ?_ | (intro hc; try subst hc))) <;> (try clear hK K))
                  | (refine wreg (mos := q44_10) hE [3, 4, 6, 9, 10, 11, 12, 13, 14, 15, 16, 17, 18] (by kernel_rfl) ?_; intro K hK; simp [q44_10, intR, hset, hWd, hWA, hWI, hAA, hid, w1, w2, w3, w4, hk9, hA9, hNl, hta, hnow0, hnow1, hck, hft, hp1, hp2, hk1, hk2, hk3, hab2, d17, d31, d58]; (repeat' (first | refine hK _ _ ?_ | refine And.intro ?_ ?_ | (intro hc; try subst hc))) <;> (try clear hK K))
                  | (refine wreg (mos := q44_11) hE [3, 4, 6, 9, 10, 11, 12, 13, 14, 15, 16, 17, 18, 71] (by kernel_rfl) ?_; intro K hK; simp [q44_11, intR, hset, hWd, hWA, hWI, hAA, hid, w1, w2, w3, w4, hk9, hA9, hNl, hta, hnow0, hnow1, hck, hft, hp1, hp2, hk1, hk2, hk3, hab2, d17, d31, d58]; (repeat' (first | refine hK _ _ ?_ | refine And.intro ?_ ?_ | (intro hc; try subst hc))) <;> (try clear hK K))
                  | (refine wreg (mos := q44_12) hE [3, 4, 6, 9, 10, 11, 12, 13, 14, 15, 16, 17] (by kernel_rfl) ?_; intro K hK; simp [q44_12, intR, hset, hWd, hWA, hWI, hAA, hid, w1, w2, w3, w4, hk9, hA9, hNl, hta, hnow0, hnow1, hck, hft, hp1, hp2, hk1, hk2, hk3, hab2, d17, d31, d58]; (repeat' (first | refine hK _ _ ?_ | refine And.intro ?_ ?_ | (intro hc; try subst hc))) <;> (try clear hK K))
                  | (refine wdraw (mos := q44_13) hE mixT c44_13 [3, 4, 6, 9, 10, 11, 12, 13, 14, 15, 16] (by kernel_rfl) ?_; intro K hK; simp [q44_13, c44_13, intR, hset, hWd, hWA, hWI, hAA, hid, w1, w2, w3, w4, hk9, hA9, hNl, hta, hnow0, hnow1, hck, hft, hp1, hp2, hk1, hk2, hk3, hab2, d17, d31, d58]; (repeat' (first | refine hK _ _ ?_ | refine And.intro ?_ ?_ | (intro hc; try subst hc))) <;> (try clear hK K))
                  | (refine wreg (mos := q44_14) hE [3, 4, 6, 9, 10, 11, 12, 13, 14, 15, 16, 17, 18, 96] (by kernel_rfl) ?_; intro K hK; simp [q44_14, intR, hset, hWd, hWA, hWI, hAA, hid, w1, w2, w3, w4, hk9, hA9, hNl, hta, hnow0, hnow1, hck, hft, hp1, hp2, hk1, hk2, hk3, hab2, d17, d31, d58]; (repeat' (first | refine hK _ _ ?_ | refine And.intro ?_ ?_ | (intro hc; try subst hc))) <;> (try clear hK K))
                  | (refine wreg (mos := q44_15) hE [3, 4, 6, 9, 10, 11, 12, 13, 14, 15, 16, 19] (by kernel_rfl) ?_; intro K hK; simp [q44_15, intR, hset, hWd, hWA, hWI, hAA, hid, w1, w2, w3, w4, hk9, hA9, hNl, hta, hnow0, hnow1, hck, hft, hp1, hp2, hk1, hk2, hk3, hab2, d17, d31, d58]; (repeat' (first | refine hK _ _ ?_ | refine And.intro ?_ ?_ | (intro hc; try subst hc))) <;> (try clear hK K))
                  | (refine wreg (mos := q44_16) hE [3, 4, 6, 9, 10, 11, 12, 13, 14, 15, 16, 19] (by kernel_rfl) ?_; intro K hK; simp [q44_16, intR, hset, hWd, hWA, hWI, hAA, hid, w1, w2, w3, w4, hk9, hA9, hNl, hta, hnow0, hnow1, hck, hft, hp1, hp2, hk1, hk2, hk3, hab2, d17, d31, d58]; (repeat' (first | refine hK _ _ ?_ | refine And.intro ?_ ?_ | (intro hc; try subst hc))) <;> (try clear hK K))
                  | (refine wreg (mos := q44_17) hE [3, 4, 6, 9, 10, 11, 12, 13, 14, 15, 16] (by kernel_rfl) ?_; intro K hK; simp [q44_17, intR, hset, hWd, hWA, hWI, hAA, hid, w1, w2, w3, w4, hk9, hA9, hNl, hta, hnow0, hnow1, hck, hft, hp1, hp2, hk1, hk2, hk3, hab2, d17, d31, d58]; (repeat' (first | refine hK _ _ ?_ | refine And.intro ?_ ?_ | (intro hc; try subst hc))) <;> (try clear hK K))
                  | (refine wreg (mos := q44_18) hE [3, 4, 6, 9, 10, 11, 12, 13, 14, 15, 16, 17, 115] (by kernel_rfl) ?_; intro K hK; simp [q44_18, intR, hset, hWd, hWA, hWI, hAA, hid, w1, w2, w3, w4, hk9, hA9, hNl, hta, hnow0, hnow1, hck, hft, hp1, hp2, hk1, hk2, hk3, hab2, d17, d31, d58]; (repeat' (first | refine hK _ _ ?_ | refine And.intro ?_ ?_ | (intro hc; try subst hc))) <;> (try clear hK K))
                  | (refine wreg (mos := q44_19) hE [3, 4, 6, 9, 10, 11, 12, 13, 14, 15, 16] (by kernel_rfl) ?_; intro K hK; simp [q44_19, intR, hset, hWd, hWA, hWI, hAA, hid, w1, w2, w3, w4, hk9, hA9, hNl, hta, hnow0, hnow1, hck, hft, hp1, hp2, hk1, hk2, hk3, hab2, d17, d31, d58]; (repeat' (first | refine hK _ _ ?_ | refine And.intro ?_ ?_ | (intro hc; try subst hc))) <;> (try clear hK K))
                  | (refine wreg (mos := q44_20) hE [3, 4, 6, 9, 10, 11, 12, 13, 14, 15, 16, 17, 20] (by kernel_rfl) ?_; intro K hK; simp [q44_20, intR, hset, hWd, hWA, hWI, hAA, hid, w1, w2, w3, w4, hk9, hA9, hNl, hta, hnow0, hnow1, hck, hft, hp1, hp2, hk1, hk2, hk3, hab2, d17, d31, d58]; (repeat' (first | refine hK _ _ ?_ | refine And.intro ?_ ?_ | (intro hc; try subst hc))) <;> (try clear hK K))
                  | (refine wreg (mos := q44_21) hE [3, 4, 6, 9, 10, 11, 12, 13, 14, 15, 16, 17, 20, 137] (by kernel_rfl) ?_; intro K hK; simp [q44_21, intR, hset, hWd, hWA, hWI, hAA, hid, w1, w2, w3, w4, hk9, hA9, hNl, hta, hnow0, hnow1, hck, hft, hp1, hp2, hk1, hk2, hk3, hab2, d17, d31, d58]; (repeat' (first | refine hK _ _ ?_ | refine And.intro ?_ ?_ | (intro hc; try subst hc))) <;> (try clear hK K))
                  | (refine wreg (mos := q44_22) hE [3, 4, 6, 9, 10, 11, 12, 13, 14, 15, 16, 17] (by kernel_rfl) ?_; intro K hK; simp [q44_22, intR, hset, hWd, hWA, hWI, hAA, hid, w1, w2, w3, w4, hk9, hA9, hNl, hta, hnow0, hnow1, hck, hft, hp1, hp2, hk1, hk2, hk3, hab2, d17, d31, d58]; (repeat' (first | refine hK _ _ ?_ | refine And.intro ?_ ?_ | (intro hc; try subst hc))) <;> (try clear hK K))
                  | (refine wreg (mos := q44_23) hE [3, 4, 6, 9, 10, 11, 12, 13, 14, 15, 16, 17, 21] (by kernel_rfl) ?_; intro K hK; simp [q44_23, intR, hset, hWd, hWA, hWI, hAA, hid, w1, w2, w3, w4, hk9, hA9, hNl, hta, hnow0, hnow1, hck, hft, hp1, hp2, hk1, hk2, hk3, hab2, d17, d31, d58]; (repeat' (first | refine hK _ _ ?_ | refine And.intro ?_ ?_ | (intro hc; try subst hc))) <;> (try clear hK K))
                  | (refine wreg (mos := q44_24) hE [3, 4, 6, 9, 10, 11, 12, 13, 14, 15, 16, 17, 21, 145] (by kernel_rfl) ?_; intro K hK; simp [q44_24, intR, hset, hWd, hWA, hWI, hAA, hid, w1, w2, w3, w4, hk9, hA9, hNl, hta, hnow0, hnow1, hck, hft, hp1, hp2, hk1, hk2, hk3, hab2, d17, d31, d58]; (repeat' (first | refine hK _ _ ?_ | refine And.intro ?_ ?_ | (intro hc; try subst hc))) <;> (try clear hK K))
                  | (refine wreg (mos := q44_25) hE [3, 4, 6, 9, 10, 11, 12, 13, 14, 15, 16, 17, 21] (by kernel_rfl) ?_; intro K hK; simp [q44_25, intR, hset, hWd, hWA, hWI, hAA, hid, w1, w2, w3, w4, hk9, hA9, hNl, hta, hnow0, hnow1, hck, hft, hp1, hp2, hk1, hk2, hk3, hab2, d17, d31, d58]; (repeat' (first | refine hK _ _ ?_ | refine And.intro ?_ ?_ | (intro hc; try subst hc))) <;> (try clear hK K))
                  | (refine wreg (mos := q44_26) hE [3, 4, 6, 9, 10, 11, 12, 13, 14, 15, 16, 17, 21] (by kernel_rfl) ?_; intro K hK; simp [q44_26, intR, hset, hWd, hWA, hWI, hAA, hid, w1, w2, w3, w4, hk9, hA9, hNl, hta, hnow0, hnow1, hck, hft, hp1, hp2, hk1, hk2, hk3, hab2, d17, d31, d58]; (repeat' (first | refine hK _ _ ?_ | refine And.intro ?_ ?_ | (intro hc; try subst hc))) <;> (try clear hK K))
                  | (refine wreg (mos := q44_27) hE [8] (by kernel_rfl) ?_; intro K hK; simp [q44_27, intR, hset, hWd, hWA, hWI, hAA, hid, w1, w2, w3, w4, hk9, hA9, hNl, hta, hnow0, hnow1, hck, hft, hp1, hp2, hk1, hk2, hk3, hab2, d17, d31, d58]; (repeat' (first | refine hK _ _ ?_ | refine And.intro ?_ ?_ | (intro hc; try subst hc))) <;> (try clear hK K))
                  | (refine Wm_cond (b := _) (by with_unfolding_all rfl) (fun hc => ?_) (fun hc => ?_) <;> simp at hc <;> (try subst hc)))
                all_goals refine ⟨(stepZ A b c d ma mt md ms mp mw) q, ⟨hK.step hlen fd.2, (run_step (step_more _ _ _ _ _ _ _ _ _ _) hlen).trans hR⟩, ?_, ?_⟩
                · show N - ((stepZ A b c d ma mt md ms mp mw) q).out.length < N - q.out.length
                  have := step_more A b c d ma mt md ms mp mw q
                  omega
                · simp [I44, stepZ, kZ, whoZ, hWd, hid, hk1, hk2, hk3]
                  rw [hS]
                  refine Imp.auto (by kernel_rfl) ?_ ?_ <;> simp [nmap, lkp, mkPl, prs, prsL, prT, ddL, idL, NLe, CRenL, CRen, Ren, RenL, NObj.none, hit, hic, hit2, hic2, intR, hrt, hrc, evR]
              · obtain ⟨w5, w6, w7, w8⟩ := few4 ca cc cd
                have hms9 : ms ≤ 9223372036854775807 := by omega
                obtain ⟨Tn, hTn, hTa, hTb⟩ := few6 (s := nextS (nextS (nextS (nextS q.s)))) fd.2
                have wT : IntKind.wrap .i64 (Tn : Int) = (Tn : Int) := wrap_in (by omega) (by omega)
                by_cases hk4 : belowZ (nextS (nextS (nextS q.s))) 3 = 2
                · have hpk := pick3_z (w := (W : Int)) (z := (belowZ (nextS (nextS q.s)) ((A : Int) + 2 * (c * d)))) hk4
                  have hrt := rows_t0 (hK.step (b := b) (a := A) (c := c) (d := d) (ma := ma) (mt := mt) (md := md) (mp := mp) (mw := mw) hlen fd.2).rows
                  have hrc := rows_cl (hK.step (b := b) (a := A) (c := c) (d := d) (ma := ma) (mt := mt) (md := md) (mp := mp) (mw := mw) hlen fd.2).rows
                  simp [stepZ, kZ, whoZ, hWd, hid, hk1, hk2, hk3, hTn, hpk, evR] at hrt hrc
                  repeat' with_reducible (first
                    | refine Wm_seq ?_
                    | refine Wm_skip ?_
                    | refine Wm_ret ?_
                    | refine Wm_block ?_
                    | refine Wm_exit ?_
                    | refine thenK_normal ?_
                    | refine thenK_ret ?_
                    | refine thenK_exit ?_
                    | refine blockK_normal ?_
                    | refine blockK_ret ?_
                    | refine blockK_here ?_
                    | refine loopK_ret ?_
                    | refine loopK_exit ?_
                    | refine unK_ret ?_
                    | refine unK_exit ?_
                    | refine unK_normal ?_
                    | refine loopOk_succ ?_
                    | refine blockK_exit (by decide) ?_
                    | (refine wreg (mos := q44_0) hE [1, 3, 4, 6] (by kernel_rfl) ?_; intro K hK; simp [q44_0, intR, hset, hWd, hWA, hWI, hAA, hid, w1, w2, w3, w4, hk9, hA9, hNl, hta, hnow0, hnow1, hck, hft, hp1, hp2, hk1, hk2, hk3, w5, w6, w7, w8, hk4, hms9, hTn, wT, ints, d17, d31, d58]; (repeat' (first | refine hK _ _ ?_ | refine And.intro ?_ ?_ | (intro hc; try subst hc))) <;> (try clear hK K))
                    | (refine wreg (mos := q44_1) hE [3, 4, 6, 9] (by kernel_rfl) ?_; intro K hK; simp [q44_1, intR, hset, hWd, hWA, hWI, hAA, hid, w1, w2, w3, w4, hk9, hA9, hNl, hta, hnow0, hnow1, hck, hft, hp1, hp2, hk1, hk2, hk3, w5, w6, w7, w8, hk4, hms9, hTn, wT, ints, d17, d31, d58]; (repeat' (first | refine hK _ _ ?_ | refine And.intro ?_ ?_ | (intro hc; try subst hc))) <;> (try clear hK K))
                    | (refine wreg (mos := q44_2) hE [3, 4, 6, 9, 10] (by kernel_rfl) ?_; intro K hK; simp [q44_2, intR, hset, hWd, hWA, hWI, hAA, hid, w1, w2, w3, w4, hk9, hA9, hNl, hta, hnow0, hnow1, hck, hft, hp1, hp2, hk1, hk2, hk3, w5, w6, w7, w8, hk4, hms9, hTn, wT, ints, d17, d31, d58]; (repeat' (first | refine hK _ _ ?_ | refine And.intro ?_ ?_ | (intro hc; try subst hc))) <;> (try clear hK K))
                    | (refine wreg (mos := q44_3) hE [3, 4, 6, 9, 10, 11] (by kernel_rfl) ?_; intro K hK; simp [q44_3, intR, hset, hWd, hWA, hWI, hAA, hid, w1, w2, w3, w4, hk9, hA9, hNl, hta, hnow0, hnow1, hck, hft, hp1, hp2, hk1, hk2, hk3, w5, w6, w7, w8, hk4, hms9, hTn, wT, ints, d17, d31, d58]; (repeat' (first | refine hK _ _ ?_ | refine And.intro ?_ ?_ | (intro hc; try subst hc))) <;> (try clear hK K))
                    | (refine wreg (mos := q44_4) hE [3, 4, 6, 9, 10, 11, 12] (by kernel_rfl) ?_; intro K hK; simp [q44_4, intR, hset, hWd, hWA, hWI, hAA, hid, w1, w2, w3, w4, hk9, hA9, hNl, hta, hnow0, hnow1, hck, hft, hp1, hp2, hk1, hk2, hk3, w5, w6, w7, w8, hk4, hms9, hTn, wT, ints, d17, d31, d58]; (repeat' (first | refine hK _ _ ?_ | refine And.intro ?_ ?_ | (intro hc; try subst hc))) <;> (try clear hK K))
                    | (refine wdraw (mos := q44_5) hE mixT c44_5 [3, 4, 6, 9, 10, 11, 12, 13, 14, 15] (by kernel_rfl) ?_; intro K hK; simp [q44_5, c44_5, intR, hset, hWd, hWA, hWI, hAA, hid, w1, w2, w3, w4, hk9, hA9, hNl, hta, hnow0, hnow1, hck, hft, hp1, hp2, hk1, hk2, hk3, w5, w6, w7, w8, hk4, hms9, hTn, wT, ints, d17, d31, d58]; (repeat' (first | refine hK _ _ ?_ | refine And.intro ?_ ?_ | (intro hc; try subst hc))) <;> (try clear hK K))
                    | (refine wreg (mos := q44_6) hE [3, 4, 6, 9, 10, 11, 12, 13, 14, 15] (by kernel_rfl) ?_; intro K hK; simp [q44_6, intR, hset, hWd, hWA, hWI, hAA, hid, w1, w2, w3, w4, hk9, hA9, hNl, hta, hnow0, hnow1, hck, hft, hp1, hp2, hk1, hk2, hk3, w5, w6, w7, w8, hk4, hms9, hTn, wT, ints, d17, d31, d58]; (repeat' (first | refine hK _ _ ?_ | refine And.intro ?_ ?_ | (intro hc; try subst hc))) <;> (try clear hK K))
                    | (refine wreg (mos := q44_7) hE [3, 4, 6, 9, 10, 11, 12, 13, 14, 15, 16] (by kernel_rfl) ?_; intro K hK; simp [q44_7, intR, hset, hWd, hWA, hWI, hAA, hid, w1, w2, w3, w4, hk9, hA9, hNl, hta, hnow0, hnow1, hck, hft, hp1, hp2, hk1, hk2, hk3, w5, w6, w7, w8, hk4, hms9, hTn, wT, ints, d17, d31, d58]; (repeat' (first | refine hK _ _ ?_ | refine And.intro ?_ ?_ | (intro hc; try subst hc))) <;> (try clear hK K))
                    | (refine wreg (mos := q44_8) hE [3, 4, 6, 9, 10, 11, 12, 13, 14, 15, 16, 56] (by kernel_rfl) ?_; intro K hK; simp [q44_8, intR, hset, hWd, hWA, hWI, hAA, hid, w1, w2, w3, w4, hk9, hA9, hNl, hta, hnow0, hnow1, hck, hft, hp1, hp2, hk1, hk2, hk3, w5, w6, w7, w8, hk4, hms9, hTn, wT, ints, d17, d31, d58]; (repeat' (first | refine hK _ _ ?_ | refine And.intro ?_ ?_ | (intro hc; try subst hc))) <;> (try clear hK K))
                    | (refine wreg (mos := q44_9) hE [3, 4, 6, 9, 10, 11, 12, 13, 14, 15, 16, 17] (by kernel_rfl) ?_; intro K hK; simp [q44_9, intR, hset, hWd, hWA, hWI, hAA, hid, w1, w2, w3, w4, hk9, hA9, hNl, hta, hnow0, hnow1, hck, hft, hp1, hp2, hk1, hk2, hk3, w5, w6, w7, w8, hk4, hms9, hTn, wT, ints, d17, d31, d58]; (repeat' (first | refine hK _ _ ?_ | refine And.intro ?_ ?_ | (intro hc; try subst hc))) <;> (try clear hK K))
                    | (refine wreg (mos := q44_10) hE [3, 4, 6, 9, 10, 11, 12, 13, 14, 15, 16, 17, 18] (by kernel_rfl) ?_; intro K hK; simp [q44_10, intR, hset, hWd, hWA, hWI, hAA, hid, w1, w2, w3, w4, hk9, hA9, hNl, hta, hnow0, hnow1, hck, hft, hp1, hp2, hk1, hk2, hk3, w5, w6, w7, w8, hk4, hms9, hTn, wT, ints, d17, d31, d58]; (repeat' (first | refine hK _ _ ?_ | refine And.intro ?_ ?_ | (intro hc; try subst hc))) <;> (try clear hK K))
                    | (refine wreg (mos := q44_11) hE [3, 4, 6, 9, 10, 11, 12, 13, 14, 15, 16, 17, 18, 71] (by kernel_rfl) ?_; intro K hK; simp [q44_11, intR, hset, hWd, hWA, hWI, hAA, hid, w1, w2, w3, w4, hk9, hA9, hNl, hta, hnow0, hnow1, hck, hft, hp1, hp2, hk1, hk2, hk3, w5, w6, w7, w8, hk4, hms9, hTn, wT, ints, d17, d31, d58]; (repeat' (first | refine hK _ _ ?_ | refine And.intro ?_ ?_ | (intro hc; try subst hc))) <;> (try clear hK K))
                    | (refine wreg (mos := q44_12) hE [3, 4, 6, 9, 10, 11, 12, 13, 14, 15, 16, 17] (by kernel_rfl) ?_; intro K hK; simp [q44_12, intR, hset, hWd, hWA, hWI, hAA, hid, w1, w2, w3, w4, hk9, hA9, hNl, hta, hnow0, hnow1, hck, hft, hp1, hp2, hk1, hk2, hk3, w5, w6, w7, w8, hk4, hms9, hTn, wT, ints, d17, d31, d58]; (repeat' (first | refine hK _ _ ?_ | refine And.intro ?_ ?_ | (intro hc; try subst hc))) <;> (try clear hK K))
                    | (refine wdraw (mos := q44_13) hE mixT c44_13 [3, 4, 6, 9, 10, 11, 12, 13, 14, 15, 16] (by kernel_rfl) ?_; intro K hK; simp [q44_13, c44_13, intR, hset, hWd, hWA, hWI, hAA, hid, w1, w2, w3, w4, hk9, hA9, hNl, hta, hnow0, hnow1, hck, hft, hp1, hp2, hk1, hk2, hk3, w5, w6, w7, w8, hk4, hms9, hTn, wT, ints, d17, d31, d58]; (repeat' (first | refine hK _ _ ?_ | refine And.intro ?_ ?_ | (intro hc; try subst hc))) <;> (try clear hK K))
                    | (refine wreg (mos := q44_14) hE [3, 4, 6, 9, 10, 11, 12, 13, 14, 15, 16, 17, 18, 96] (by kernel_rfl) ?_; intro K hK; simp [q44_14, intR, hset, hWd, hWA, hWI, hAA, hid, w1, w2, w3, w4, hk9, hA9, hNl, hta, hnow0, hnow1, hck, hft, hp1, hp2, hk1, hk2, hk3, w5, w6, w7, w8, hk4, hms9, hTn, wT, ints, d17, d31, d58]; (repeat' (first | refine hK _ _ ?_ | refine And.intro ?_ ?_ | (intro hc; try subst hc))) <;> (try clear hK K))
                    | (refine wreg (mos := q44_15) hE [3, 4, 6, 9, 10, 11, 12, 13, 14, 15, 16, 19] (by kernel_rfl) ?_; intro K hK; simp [q44_15, intR, hset, hWd, hWA, hWI, hAA, hid, w1, w2, w3, w4, hk9, hA9, hNl, hta, hnow0, hnow1, hck, hft, hp1, hp2, hk1, hk2, hk3, w5, w6, w7, w8, hk4, hms9, hTn, wT, ints, d17, d31, d58]; (repeat' (first | refine hK _ _ ?_ | refine And.intro ?_ ?_ | (intro hc; try subst hc))) <;> (try clear hK K))
                    | (refine wreg (mos := q44_16) hE [3, 4, 6, 9, 10, 11, 12, 13, 14, 15, 16, 19] (by kernel_rfl) ?_; intro K hK; simp [q44_16, intR, hset, hWd, hWA, hWI, hAA, hid, w1, w2, w3, w4, hk9, hA9, hNl, hta, hnow0, hnow1, hck, hft, hp1, hp2, hk1, hk2, hk3, w5, w6, w7, w8, hk4, hms9, hTn, wT, ints, d17, d31, d58]; (repeat' (first | refine hK _ _ ?_ | refine And.intro ?_ ?_ | (intro hc; try subst hc))) <;> (try clear hK K))
                    | (refine wreg (mos := q44_17) hE [3, 4, 6, 9, 10, 11, 12, 13, 14, 15, 16] (by kernel_rfl) ?_; intro K hK; simp [q44_17, intR, hset, hWd, hWA, hWI, hAA, hid, w1, w2, w3, w4, hk9, hA9, hNl, hta, hnow0, hnow1, hck, hft, hp1, hp2, hk1, hk2, hk3, w5, w6, w7, w8, hk4, hms9, hTn, wT, ints, d17, d31, d58]; (repeat' (first | refine hK _ _ ?_ | refine And.intro ?_ ?_ | (intro hc; try subst hc))) <;> (try clear hK K))
                    | (refine wreg (mos := q44_18) hE [3, 4, 6, 9, 10, 11, 12, 13, 14, 15, 16, 17, 115] (by kernel_rfl) ?_; intro K hK; simp [q44_18, intR, hset, hWd, hWA, hWI, hAA, hid, w1, w2, w3, w4, hk9, hA9, hNl, hta, hnow0, hnow1, hck, hft, hp1, hp2, hk1, hk2, hk3, w5, w6, w7, w8, hk4, hms9, hTn, wT, ints, d17, d31, d58]; (repeat' (first | refine hK _ _ ?_ | refine And.intro ?_ ?_ | (intro hc; try subst hc))) <;> (try clear hK K))
                    | (refine wreg (mos := q44_19) hE [3, 4, 6, 9, 10, 11, 12, 13, 14, 15, 16] (by kernel_rfl) ?_; intro K hK; simp [q44_19, intR, hset, hWd, hWA, hWI, hAA, hid, w1, w2, w3, w4, hk9, hA9, hNl, hta, hnow0, hnow1, hck, hft, hp1, hp2, hk1, hk2, hk3, w5, w6, w7, w8, hk4, hms9, hTn, wT, ints, d17, d31, d58]; (repeat' (first | refine hK _ _ ?_ | refine And.intro ?_ ?_ | (intro hc; try subst hc))) <;> (try clear hK K))
                    | (refine wreg (mos := q44_20) hE [3, 4, 6, 9, 10, 11, 12, 13, 14, 15, 16, 17, 20] (by kernel_rfl) ?_; intro K hK; simp [q44_20, intR, hset, hWd, hWA, hWI, hAA, hid, w1, w2, w3, w4, hk9, hA9, hNl, hta, hnow0, hnow1, hck, hft, hp1, hp2, hk1, hk2, hk3, w5, w6, w7, w8, hk4, hms9, hTn, wT, ints, d17, d31, d58]; (repeat' (first | refine hK _ _ ?_ | refine And.intro ?_ ?_ | (intro hc; try subst hc))) <;> (try clear hK K))
                    | (refine wreg (mos := q44_21) hE [3, 4, 6, 9, 10, 11, 12, 13, 14, 15, 16, 17, 20, 137] (by kernel_rfl) ?_; intro K hK; simp [q44_21, intR, hset, hWd, hWA, hWI, hAA, hid, w1, w2, w3, w4, hk9, hA9, hNl, hta, hnow0, hnow1, hck, hft, hp1, hp2, hk1, hk2, hk3, w5, w6, w7, w8, hk4, hms9, hTn, wT, ints, d17, d31, d58]; (repeat' (first | refine hK _ _ ?_ | refine And.intro ?_ ?_ | (intro hc; try subst hc))) <;> (try clear hK K))
                    | (refine wreg (mos := q44_22) hE [3, 4, 6, 9, 10, 11, 12, 13, 14, 15, 16, 17] (by kernel_rfl) ?_; intro K hK; simp [q44_22, intR, hset, hWd, hWA, hWI, hAA, hid, w1, w2, w3, w4, hk9, hA9, hNl, hta, hnow0, hnow1, hck, hft, hp1, hp2, hk1, hk2, hk3, w5, w6, w7, w8, hk4, hms9, hTn, wT, ints, d17, d31, d58]; (repeat' (first | refine hK _ _ ?_ | refine And.intro ?_ ?_ | (intro hc; try subst hc))) <;> (try clear hK K))
                    | (refine wreg (mos := q44_23) hE [3, 4, 6, 9, 10, 11, 12, 13, 14, 15, 16, 17, 21] (by kernel_rfl) ?_; intro K hK; simp [q44_23, intR, hset, hWd, hWA, hWI, hAA, hid, w1, w2, w3, w4, hk9, hA9, hNl, hta, hnow0, hnow1, hck, hft, hp1, hp2, hk1, hk2, hk3, w5, w6, w7, w8, hk4, hms9, hTn, wT, ints, d17, d31, d58]; (repeat' (first | refine hK _ _ ?_ | refine And.intro ?_ ?_ | (intro hc; try subst hc))) <;> (try clear hK K))
                    | (refine wreg (mos := q44_24) hE [3, 4, 6, 9, 10, 11, 12, 13, 14, 15, 16, 17, 21, 145] (by kernel_rfl) ?_; intro K hK; simp [q44_24, intR, hset, hWd, hWA, hWI, hAA, hid, w1, w2, w3, w4, hk9, hA9, hNl, hta, hnow0, hnow1, hck, hft, hp1, hp2, hk1, hk2, hk3, w5, w6, w7, w8, hk4, hms9, hTn, wT, ints, d17, d31, d58]; (repeat' (first | refine hK _ _ ?_ | refine And.intro ?_ ?_ | (intro hc; try subst hc))) <;> (try clear hK K))
                    | (refine wreg (mos := q44_25) hE [3, 4, 6, 9, 10, 11, 12, 13, 14, 15, 16, 17, 21] (by kernel_rfl) ?_; intro K hK; simp [q44_25, intR, hset, hWd, hWA, hWI, hAA, hid, w1, w2, w3, w4, hk9, hA9, hNl, hta, hnow0, hnow1, hck, hft, hp1, hp2, hk1, hk2, hk3, w5, w6, w7, w8, hk4, hms9, hTn, wT, ints, d17, d31, d58]; (repeat' (first | refine hK _ _ ?_ | refine And.intro ?_ ?_ | (intro hc; try subst hc))) <;> (try clear hK K))
                    | (refine wreg (mos := q44_26) hE [3, 4, 6, 9, 10, 11, 12, 13, 14, 15, 16, 17, 21] (by kernel_rfl) ?_; intro K hK; simp [q44_26, intR, hset, hWd, hWA, hWI, hAA, hid, w1, w2, w3, w4, hk9, hA9, hNl, hta, hnow0, hnow1, hck, hft, hp1, hp2, hk1, hk2, hk3, w5, w6, w7, w8, hk4, hms9, hTn, wT, ints, d17, d31, d58]; (repeat' (first | refine hK _ _ ?_ | refine And.intro ?_ ?_ | (intro hc; try subst hc))) <;> (try clear hK K))
                    | (refine wreg (mos := q44_27) hE [8] (by kernel_rfl) ?_; intro K hK; simp [q44_27, intR, hset, hWd, hWA, hWI, hAA, hid, w1, w2, w3, w4, hk9, hA9, hNl, hta, hnow0, hnow1, hck, hft, hp1, hp2, hk1, hk2, hk3, w5, w6, w7, w8, hk4, hms9, hTn, wT, ints, d17, d31, d58]; (repeat' (first | refine hK _ _ ?_ | refine And.intro ?_ ?_ | (intro hc; try subst hc))) <;> (try clear hK K))
                    | (refine Wm_cond (b := _) (by with_unfolding_all rfl) (fun hc => ?_) (fun hc => ?_) <;> simp at hc <;> (try subst hc)))
                  all_goals (refine Wm_loop (J44 [.int .i64 (A : Int), .int .i64 b, .int .i64 c, .int .i64 d, .int .i64 e, .int .i64 f, .int .i64 g] [.int .i64 ma, .int .i64 mt, .int .i64 md, .int .i64 ms, .int .i64 mp, .int .i64 mw] N A Tn (mx0 ma) (mx0 mt) (mx0 md) (A * b) q (belowZ (nextS (nextS q.s)) ((A : Int) + 2 * (c * d))) (nextS (nextS (nextS (nextS (nextS q.s)))))) (fun i => i ≤ Tn) (fun i => Tn - i) 0 (Nat.zero_le _) ?_ ?_)
                  · simp only [J44]
                    rw [hS]
                    refine Imp.auto (by kernel_rfl) ?_ ?_ <;> simp [nmap, lkp, mkPl, prs, prsL, prT, ddL, idL, NLe, CRenL, CRen, Ren, RenL, NObj.none, hit, hic, intR, rows_t0 hK.rows, rows_cl hK.rows, evR]
                  · intro i hi
                    replace hi : i ≤ Tn := hi
                    simp only [J44]
                    have hall : ∀ j, (q.out ++ List.replicate j (evR 3 (belowZ (nextS (nextS q.s)) ((A : Int) + 2 * (c * d))) 0 0 0 0 0 0 0 0 0 0)).all row12 = true := fun j => by simp [hK.rows, row_evR]
                    have htt : ∀ n, tlLL n (q.out ++ List.replicate i (evR 3 (belowZ (nextS (nextS q.s)) ((A : Int) + 2 * (c * d))) 0 0 0 0 0 0 0 0 0 0)) = true := fun n => rows_tl (hall i)
                    by_cases hin : i < Tn
                    · have hiI : (i : Int) < (Tn : Int) := Int.ofNat_lt.2 hin
                      obtain ⟨hq1, hq2, hq3, hq4⟩ := few1 hlen hN65 hi hTb
                      obtain ⟨hi5, wi⟩ := few2 hin hTb
                      have hrep : q.out ++ List.replicate (i + 1) (evR 3 (belowZ (nextS (nextS q.s)) ((A : Int) + 2 * (c * d))) 0 0 0 0 0 0 0 0 0 0) = q.out ++ List.replicate i (evR 3 (belowZ (nextS (nextS q.s)) ((A : Int) + 2 * (c * d))) 0 0 0 0 0 0 0 0 0 0) ++ [evR 3 (belowZ (nextS (nextS q.s)) ((A : Int) + 2 * (c * d))) 0 0 0 0 0 0 0 0 0 0] := by rw [List.replicate_succ', List.append_assoc]
                      have hz1 := rows_t0 (hall (i + 1))
                      have hz2 := rows_cl (hall (i + 1))
                      rw [hrep] at hz1 hz2
                      simp [evR] at hz1 hz2 htt
                      repeat' with_reducible (first
                        | refine Wm_seq ?_
                        | refine Wm_skip ?_
                        | refine Wm_ret ?_
                        | refine Wm_block ?_
                        | refine Wm_exit ?_
                        | refine thenK_normal ?_
                        | refine thenK_ret ?_
                        | refine thenK_exit ?_
                        | refine blockK_normal ?_
                        | refine blockK_ret ?_
                        | refine blockK_here ?_
                        | refine loopK_ret ?_
                        | refine loopK_exit ?_
                        | refine unK_ret ?_
                        | refine unK_exit ?_
                        | refine unK_normal ?_
                        | refine loopOk_succ ?_
                        | refine blockK_exit (by decide) ?_
                        | (refine wreg (mos := q44_0) hE [1, 3, 4, 6] (by kernel_rfl) ?_; intro K hK; simp [q44_0, evR, hiI, hi5, wi, hq1, hq2, htt, d17, d31, d58]; (repeat' (first | refine hK _ _ ?_ | refine And.intro ?_ ?_ | (intro hc; try subst hc))) <;> (try clear hK K))
                        | (refine wreg (mos := q44_1) hE [3, 4, 6, 9] (by kernel_rfl) ?_; intro K hK; simp [q44_1, evR, hiI, hi5, wi, hq1, hq2, htt, d17, d31, d58]; (repeat' (first | refine hK _ _ ?_ | refine And.intro ?_ ?_ | (intro hc; try subst hc))) <;> (try clear hK K))
                        | (refine wreg (mos := q44_2) hE [3, 4, 6, 9, 10] (by kernel_rfl) ?_; intro K hK; simp [q44_2, evR, hiI, hi5, wi, hq1, hq2, htt, d17, d31, d58]; (repeat' (first | refine hK _ _ ?_ | refine And.intro ?_ ?_ | (intro hc; try subst hc))) <;> (try clear hK K))
                        | (refine wreg (mos := q44_3) hE [3, 4, 6, 9, 10, 11] (by kernel_rfl) ?_; intro K hK; simp [q44_3, evR, hiI, hi5, wi, hq1, hq2, htt, d17, d31, d58]; (repeat' (first | refine hK _ _ ?_ | refine And.intro ?_ ?_ | (intro hc; try subst hc))) <;> (try clear hK K))
                        | (refine wreg (mos := q44_4) hE [3, 4, 6, 9, 10, 11, 12] (by kernel_rfl) ?_; intro K hK; simp [q44_4, evR, hiI, hi5, wi, hq1, hq2, htt, d17, d31, d58]; (repeat' (first | refine hK _ _ ?_ | refine And.intro ?_ ?_ | (intro hc; try subst hc))) <;> (try clear hK K))
                        | (refine wdraw (mos := q44_5) hE mixT c44_5 [3, 4, 6, 9, 10, 11, 12, 13, 14, 15] (by kernel_rfl) ?_; intro K hK; simp [q44_5, c44_5, evR, hiI, hi5, wi, hq1, hq2, htt, d17, d31, d58]; (repeat' (first | refine hK _ _ ?_ | refine And.intro ?_ ?_ | (intro hc; try subst hc))) <;> (try clear hK K))
                        | (refine wreg (mos := q44_6) hE [3, 4, 6, 9, 10, 11, 12, 13, 14, 15] (by kernel_rfl) ?_; intro K hK; simp [q44_6, evR, hiI, hi5, wi, hq1, hq2, htt, d17, d31, d58]; (repeat' (first | refine hK _ _ ?_ | refine And.intro ?_ ?_ | (intro hc; try subst hc))) <;> (try clear hK K))
                        | (refine wreg (mos := q44_7) hE [3, 4, 6, 9, 10, 11, 12, 13, 14, 15, 16] (by kernel_rfl) ?_; intro K hK; simp [q44_7, evR, hiI, hi5, wi, hq1, hq2, htt, d17, d31, d58]; (repeat' (first | refine hK _ _ ?_ | refine And.intro ?_ ?_ | (intro hc; try subst hc))) <;> (try clear hK K))
                        | (refine wreg (mos := q44_8) hE [3, 4, 6, 9, 10, 11, 12, 13, 14, 15, 16, 56] (by kernel_rfl) ?_; intro K hK; simp [q44_8, evR, hiI, hi5, wi, hq1, hq2, htt, d17, d31, d58]; (repeat' (first | refine hK _ _ ?_ | refine And.intro ?_ ?_ | (intro hc; try subst hc))) <;> (try clear hK K))
                        | (refine wreg (mos := q44_9) hE [3, 4, 6, 9, 10, 11, 12, 13, 14, 15, 16, 17] (by kernel_rfl) ?_; intro K hK; simp [q44_9, evR, hiI, hi5, wi, hq1, hq2, htt, d17, d31, d58]; (repeat' (first | refine hK _ _ ?_ | refine And.intro ?_ ?_ | (intro hc; try subst hc))) <;> (try clear hK K))
                        | (refine wreg (mos := q44_10) hE [3, 4, 6, 9, 10, 11, 12, 13, 14, 15, 16, 17, 18] (by kernel_rfl) ?_; intro K hK; simp [q44_10, evR, hiI, hi5, wi, hq1, hq2, htt, d17, d31, d58]; (repeat' (first | refine hK _ _ ?_ | refine And.intro ?_ ?_ | (intro hc; try subst hc))) <;> (try clear hK K))
                        | (refine wreg (mos := q44_11) hE [3, 4, 6, 9, 10, 11, 12, 13, 14, 15, 16, 17, 18, 71] (by kernel_rfl) ?_; intro K hK; simp [q44_11, evR, hiI, hi5, wi, hq1, hq2, htt, d17, d31, d58]; (repeat' (first | refine hK _ _ ?_ | refine And.intro ?_ ?_ | (intro hc; try subst hc))) <;> (try clear hK K))
                        | (refine wreg (mos := q44_12) hE [3, 4, 6, 9, 10, 11, 12, 13, 14, 15, 16, 17] (by kernel_rfl) ?_; intro K hK; simp [q44_12, evR, hiI, hi5, wi, hq1, hq2, htt, d17, d31, d58]; (repeat' (first | refine hK _ _ ?_ | refine And.intro ?_ ?_ | (intro hc; try subst hc))) <;> (try clear hK K))
                        | (refine wdraw (mos := q44_13) hE mixT c44_13 [3, 4, 6, 9, 10, 11, 12, 13, 14, 15, 16] (by kernel_rfl) ?_; intro K hK; simp [q44_13, c44_13, evR, hiI, hi5, wi, hq1, hq2, htt, d17, d31, d58]; (repeat' (first | refine hK _ _ ?_ | refine And.intro ?_ ?_ | (intro hc; try subst hc))) <;> (try clear hK K))
                        | (refine wreg (mos := q44_14) hE [3, 4, 6, 9, 10, 11, 12, 13, 14, 15, 16, 17, 18, 96] (by kernel_rfl) ?_; intro K hK; simp [q44_14, evR, hiI, hi5, wi, hq1, hq2, htt, d17, d31, d58]; (repeat' (first | refine hK _ _ ?_ | refine And.intro ?_ ?_ | (intro hc; try subst hc))) <;> (try clear hK K))
                        | (refine wreg (mos := q44_15) hE [3, 4, 6, 9, 10, 11, 12, 13, 14, 15, 16, 19] (by kernel_rfl) ?_; intro K hK; simp [q44_15, evR, hiI, hi5, wi, hq1, hq2, htt, d17, d31, d58]; (repeat' (first | refine hK _ _ ?_ | refine And.intro ?_ ?_ | (intro hc; try subst hc))) <;> (try clear hK K))
                        | (refine wreg (mos := q44_16) hE [3, 4, 6, 9, 10, 11, 12, 13, 14, 15, 16, 19] (by kernel_rfl) ?_; intro K hK; simp [q44_16, evR, hiI, hi5, wi, hq1, hq2, htt, d17, d31, d58]; (repeat' (first | refine hK _ _ ?_ | refine And.intro ?_ ?_ | (intro hc; try subst hc))) <;> (try clear hK K))
                        | (refine wreg (mos := q44_17) hE [3, 4, 6, 9, 10, 11, 12, 13, 14, 15, 16] (by kernel_rfl) ?_; intro K hK; simp [q44_17, evR, hiI, hi5, wi, hq1, hq2, htt, d17, d31, d58]; (repeat' (first | refine hK _ _ ?_ | refine And.intro ?_ ?_ | (intro hc; try subst hc))) <;> (try clear hK K))
                        | (refine wreg (mos := q44_18) hE [3, 4, 6, 9, 10, 11, 12, 13, 14, 15, 16, 17, 115] (by kernel_rfl) ?_; intro K hK; simp [q44_18, evR, hiI, hi5, wi, hq1, hq2, htt, d17, d31, d58]; (repeat' (first | refine hK _ _ ?_ | refine And.intro ?_ ?_ | (intro hc; try subst hc))) <;> (try clear hK K))
                        | (refine wreg (mos := q44_19) hE [3, 4, 6, 9, 10, 11, 12, 13, 14, 15, 16] (by kernel_rfl) ?_; intro K hK; simp [q44_19, evR, hiI, hi5, wi, hq1, hq2, htt, d17, d31, d58]; (repeat' (first | refine hK _ _ ?_ | refine And.intro ?_ ?_ | (intro hc; try subst hc))) <;> (try clear hK K))
                        | (refine wreg (mos := q44_20) hE [3, 4, 6, 9, 10, 11, 12, 13, 14, 15, 16, 17, 20] (by kernel_rfl) ?_; intro K hK; simp [q44_20, evR, hiI, hi5, wi, hq1, hq2, htt, d17, d31, d58]; (repeat' (first | refine hK _ _ ?_ | refine And.intro ?_ ?_ | (intro hc; try subst hc))) <;> (try clear hK K))
                        | (refine wreg (mos := q44_21) hE [3, 4, 6, 9, 10, 11, 12, 13, 14, 15, 16, 17, 20, 137] (by kernel_rfl) ?_; intro K hK; simp [q44_21, evR, hiI, hi5, wi, hq1, hq2, htt, d17, d31, d58]; (repeat' (first | refine hK _ _ ?_ | refine And.intro ?_ ?_ | (intro hc; try subst hc))) <;> (try clear hK K))
                        | (refine wreg (mos := q44_22) hE [3, 4, 6, 9, 10, 11, 12, 13, 14, 15, 16, 17] (by kernel_rfl) ?_; intro K hK; simp [q44_22, evR, hiI, hi5, wi, hq1, hq2, htt, d17, d31, d58]; (repeat' (first | refine hK _ _ ?_ | refine And.intro ?_ ?_ | (intro hc; try subst hc))) <;> (try clear hK K))
                        | (refine wreg (mos := q44_23) hE [3, 4, 6, 9, 10, 11, 12, 13, 14, 15, 16, 17, 21] (by kernel_rfl) ?_; intro K hK; simp [q44_23, evR, hiI, hi5, wi, hq1, hq2, htt, d17, d31, d58]; (repeat' (first | refine hK _ _ ?_ | refine And.intro ?_ ?_ | (intro hc; try subst hc))) <;> (try clear hK K))
                        | (refine wreg (mos := q44_24) hE [3, 4, 6, 9, 10, 11, 12, 13, 14, 15, 16, 17, 21, 145] (by kernel_rfl) ?_; intro K hK; simp [q44_24, evR, hiI, hi5, wi, hq1, hq2, htt, d17, d31, d58]; (repeat' (first | refine hK _ _ ?_ | refine And.intro ?_ ?_ | (intro hc; try subst hc))) <;> (try clear hK K))
                        | (refine wreg (mos := q44_25) hE [3, 4, 6, 9, 10, 11, 12, 13, 14, 15, 16, 17, 21] (by kernel_rfl) ?_; intro K hK; simp [q44_25, evR, hiI, hi5, wi, hq1, hq2, htt, d17, d31, d58]; (repeat' (first | refine hK _ _ ?_ | refine And.intro ?_ ?_ | (intro hc; try subst hc))) <;> (try clear hK K))
                        | (refine wreg (mos := q44_26) hE [3, 4, 6, 9, 10, 11, 12, 13, 14, 15, 16, 17, 21] (by kernel_rfl) ?_; intro K hK; simp [q44_26, evR, hiI, hi5, wi, hq1, hq2, htt, d17, d31, d58]; (repeat' (first | refine hK _ _ ?_ | refine And.intro ?_ ?_ | (intro hc; try subst hc))) <;> (try clear hK K))
                        | (refine wreg (mos := q44_27) hE [8] (by kernel_rfl) ?_; intro K hK; simp [q44_27, evR, hiI, hi5, wi, hq1, hq2, htt, d17, d31, d58]; (repeat' (first | refine hK _ _ ?_ | refine And.intro ?_ ?_ | (intro hc; try subst hc))) <;> (try clear hK K))
                        | (refine Wm_cond (b := _) (by with_unfolding_all rfl) (fun hc => ?_) (fun hc => ?_) <;> simp at hc <;> (try subst hc)))
                      all_goals refine ⟨i + 1, ?_, ?_, ?_⟩
                      · exact hin
                      · exact Nat.sub_lt_sub_left hin (Nat.lt_succ_self i)
                      · simp only [J44, hrep]
                        rw [hS]
                        refine Imp.auto (by kernel_rfl) ?_ ?_ <;> simp [nmap, lkp, mkPl, prs, prsL, prT, ddL, idL, NLe, CRenL, CRen, Ren, RenL, NObj.none, hit, hic, intR, evR, hz1, hz2] <;> (try exact Nat.add_assoc _ _ _)
                    · obtain rfl : i = Tn := Nat.le_antisymm hi (Nat.not_lt.1 hin)
                      repeat' with_reducible (first
                        | refine Wm_seq ?_
                        | refine Wm_skip ?_
                        | refine Wm_ret ?_
                        | refine Wm_block ?_
                        | refine Wm_exit ?_
                        | refine thenK_normal ?_
                        | refine thenK_ret ?_
                        | refine thenK_exit ?_
                        | refine blockK_normal ?_
                        | refine blockK_ret ?_
                        | refine blockK_here ?_
                        | refine loopK_ret ?_
                        | refine loopK_exit ?_
                        | refine unK_ret ?_
                        | refine unK_exit ?_
                        | refine unK_normal ?_
                        | refine loopOk_succ ?_
                        | refine blockK_exit (by decide) ?_
                        | (refine wreg (mos := q44_0) hE [1, 3, 4, 6] (by kernel_rfl) ?_; intro K hK; simp [q44_0, hin, d17, d31, d58]; (repeat' (first | refine hK _ _ ?_ | refine And.intro ?_ ?_ | (intro hc; try subst hc))) <;> (try clear hK K))
                        | (refine wreg (mos := q44_1) hE [3, 4, 6, 9] (by kernel_rfl) ?_; intro K hK; simp [q44_1, hin, d17, d31, d58]; (repeat' (first | refine hK _ _ ?_ | refine And.intro ?_ ?_ | (intro hc; try subst hc))) <;> (try clear hK K))
                        | (refine wreg (mos := q44_2) hE [3, 4, 6, 9, 10] (by kernel_rfl) ?_; intro K hK; simp [q44_2, hin, d17, d31, d58]; (repeat' (first | refine hK _ _ ?_ | refine And.intro ?_ ?_ | (intro hc; try subst hc))) <;> (try clear hK K))
                        | (refine wreg (mos := q44_3) hE [3, 4, 6, 9, 10, 11] (by kernel_rfl) ?_; intro K hK; simp [q44_3, hin, d17, d31, d58]; (repeat' (first | refine hK _ _ ?_ | refine And.intro ?_ ?_ | (intro hc; try subst hc))) <;> (try clear hK K))
                        | (refine wreg (mos := q44_4) hE [3, 4, 6, 9, 10, 11, 12] (by kernel_rfl) ?_; intro K hK; simp [q44_4, hin, d17, d31, d58]; (repeat' (first | refine hK _ _ ?_ | refine And.intro ?_ ?_ | (intro hc; try subst hc))) <;> (try clear hK K))
                        | (refine wdraw (mos := q44_5) hE mixT c44_5 [3, 4, 6, 9, 10, 11, 12, 13, 14, 15] (by kernel_rfl) ?_; intro K hK; simp [q44_5, c44_5, hin, d17, d31, d58]; (repeat' (first | refine hK _ _ ?_ | refine And.intro ?_ ?_ | (intro hc; try subst hc))) <;> (try clear hK K))
                        | (refine wreg (mos := q44_6) hE [3, 4, 6, 9, 10, 11, 12, 13, 14, 15] (by kernel_rfl) ?_; intro K hK; simp [q44_6, hin, d17, d31, d58]; (repeat' (first | refine hK _ _ ?_ | refine And.intro ?_ ?_ | (intro hc; try subst hc))) <;> (try clear hK K))
                        | (refine wreg (mos := q44_7) hE [3, 4, 6, 9, 10, 11, 12, 13, 14, 15, 16] (by kernel_rfl) ?_; intro K hK; simp [q44_7, hin, d17, d31, d58]; (repeat' (first | refine hK _ _ ?_ | refine And.intro ?_ ?_ | (intro hc; try subst hc))) <;> (try clear hK K))
                        | (refine wreg (mos := q44_8) hE [3, 4, 6, 9, 10, 11, 12, 13, 14, 15, 16, 56] (by kernel_rfl) ?_; intro K hK; simp [q44_8, hin, d17, d31, d58]; (repeat' (first | refine hK _ _ ?_ | refine And.intro ?_ ?_ | (intro hc; try subst hc))) <;> (try clear hK K))
                        | (refine wreg (mos := q44_9) hE [3, 4, 6, 9, 10, 11, 12, 13, 14, 15, 16, 17] (by kernel_rfl) ?_; intro K hK; simp [q44_9, hin, d17, d31, d58]; (repeat' (first | refine hK _ _ ?_ | refine And.intro ?_ ?_ | (intro hc; try subst hc))) <;> (try clear hK K))
                        | (refine wreg (mos := q44_10) hE [3, 4, 6, 9, 10, 11, 12, 13, 14, 15, 16, 17, 18] (by kernel_rfl) ?_; intro K hK; simp [q44_10, hin, d17, d31, d58]; (repeat' (first | refine hK _ _ ?_ | refine And.intro ?_ ?_ | (intro hc; try subst hc))) <;> (try clear hK K))
                        | (refine wreg (mos := q44_11) hE [3, 4, 6, 9, 10, 11, 12, 13, 14, 15, 16, 17, 18, 71] (by kernel_rfl) ?_; intro K hK; simp [q44_11, hin, d17, d31, d58]; (repeat' (first | refine hK _ _ ?_ | refine And.intro ?_ ?_ | (intro hc; try subst hc))) <;> (try clear hK K))
                        | (refine wreg (mos := q44_12) hE [3, 4, 6, 9, 10, 11, 12, 13, 14, 15, 16, 17] (by kernel_rfl) ?_; intro K hK; simp [q44_12, hin, d17, d31, d58]; (repeat' (first | refine hK _ _ ?_ | refine And.intro ?_ ?_ | (intro hc; try subst hc))) <;> (try clear hK K))
                        | (refine wdraw (mos := q44_13) hE mixT c44_13 [3, 4, 6, 9, 10, 11, 12, 13, 14, 15, 16] (by kernel_rfl) ?_; intro K hK; simp [q44_13, c44_13, hin, d17, d31, d58]; (repeat' (first | refine hK _ _ ?_ | refine And.intro ?_ ?_ | (intro hc; try subst hc))) <;> (try clear hK K))
                        | (refine wreg (mos := q44_14) hE [3, 4, 6, 9, 10, 11, 12, 13, 14, 15, 16, 17, 18, 96] (by kernel_rfl) ?_; intro K hK; simp [q44_14, hin, d17, d31, d58]; (repeat' (first | refine hK _ _ ?_ | refine And.intro ?_ ?_ | (intro hc; try subst hc))) <;> (try clear hK K))
                        | (refine wreg (mos := q44_15) hE [3, 4, 6, 9, 10, 11, 12, 13, 14, 15, 16, 19] (by kernel_rfl) ?_; intro K hK; simp [q44_15, hin, d17, d31, d58]; (repeat' (first | refine hK _ _ ?_ | refine And.intro ?_ ?_ | (intro hc; try subst hc))) <;> (try clear hK K))
                        | (refine wreg (mos := q44_16) hE [3, 4, 6, 9, 10, 11, 12, 13, 14, 15, 16, 19] (by kernel_rfl) ?_; intro K hK; simp [q44_16, hin, d17, d31, d58]; (repeat' (first | refine hK _ _ ?_ | refine And.intro ?_ ?_ | (intro hc; try subst hc))) <;> (try clear hK K))
                        | (refine wreg (mos := q44_17) hE [3, 4, 6, 9, 10, 11, 12, 13, 14, 15, 16] (by kernel_rfl) ?_; intro K hK; simp [q44_17, hin, d17, d31, d58]; (repeat' (first | refine hK _ _ ?_ | refine And.intro ?_ ?_ | (intro hc; try subst hc))) <;> (try clear hK K))
                        | (refine wreg (mos := q44_18) hE [3, 4, 6, 9, 10, 11, 12, 13, 14, 15, 16, 17, 115] (by kernel_rfl) ?_; intro K hK; simp [q44_18, hin, d17, d31, d58]; (repeat' (first | refine hK _ _ ?_ | refine And.intro ?_ ?_ | (intro hc; try subst hc))) <;> (try clear hK K))
                        | (refine wreg (mos := q44_19) hE [3, 4, 6, 9, 10, 11, 12, 13, 14, 15, 16] (by kernel_rfl) ?_; intro K hK; simp [q44_19, hin, d17, d31, d58]; (repeat' (first | refine hK _ _ ?_ | refine And.intro ?_ ?_ | (intro hc; try subst hc))) <;> (try clear hK K))
                        | (refine wreg (mos := q44_20) hE [3, 4, 6, 9, 10, 11, 12, 13, 14, 15, 16, 17, 20] (by kernel_rfl) ?_; intro K hK; simp [q44_20, hin, d17, d31, d58]; (repeat' (first | refine hK _ _ ?_ | refine And.intro ?_ ?_ | (intro hc; try subst hc))) <;> (try clear hK K))
                        | (refine wreg (mos := q44_21) hE [3, 4, 6, 9, 10, 11, 12, 13, 14, 15, 16, 17, 20, 137] (by kernel_rfl) ?_; intro K hK; simp [q44_21, hin, d17, d31, d58]; (repeat' (first | refine hK _ _ ?_ | refine And.intro ?_ ?_ | (intro hc; try subst hc))) <;> (try clear hK K))
                        | (refine wreg (mos := q44_22) hE [3, 4, 6, 9, 10, 11, 12, 13, 14, 15, 16, 17] (by kernel_rfl) ?_; intro K hK; simp [q44_22, hin, d17, d31, d58]; (repeat' (first | refine hK _ _ ?_ | refine And.intro ?_ ?_ | (intro hc; try subst hc))) <;> (try clear hK K))
                        | (refine wreg (mos := q44_23) hE [3, 4, 6, 9, 10, 11, 12, 13, 14, 15, 16, 17, 21] (by kernel_rfl) ?_; intro K hK; simp [q44_23, hin, d17, d31, d58]; (repeat' (first | refine hK _ _ ?_ | refine And.intro ?_ ?_ | (intro hc; try subst hc))) <;> (try clear hK K))
                        | (refine wreg (mos := q44_24) hE [3, 4, 6, 9, 10, 11, 12, 13, 14, 15, 16, 17, 21, 145] (by kernel_rfl) ?_; intro K hK; simp [q44_24, hin, d17, d31, d58]; (repeat' (first | refine hK _ _ ?_ | refine And.intro ?_ ?_ | (intro hc; try subst hc))) <;> (try clear hK K))
                        | (refine wreg (mos := q44_25) hE [3, 4, 6, 9, 10, 11, 12, 13, 14, 15, 16, 17, 21] (by kernel_rfl) ?_; intro K hK; simp [q44_25, hin, d17, d31, d58]; (repeat' (first | refine hK _ _ ?_ | refine And.intro ?_ ?_ | (intro hc; try subst hc))) <;> (try clear hK K))
                        | (refine wreg (mos := q44_26) hE [3, 4, 6, 9, 10, 11, 12, 13, 14, 15, 16, 17, 21] (by kernel_rfl) ?_; intro K hK; simp [q44_26, hin, d17, d31, d58]; (repeat' (first | refine hK _ _ ?_ | refine And.intro ?_ ?_ | (intro hc; try subst hc))) <;> (try clear hK K))
                        | (refine wreg (mos := q44_27) hE [8] (by kernel_rfl) ?_; intro K hK; simp [q44_27, hin, d17, d31, d58]; (repeat' (first | refine hK _ _ ?_ | refine And.intro ?_ ?_ | (intro hc; try subst hc))) <;> (try clear hK K))
                        | (refine Wm_cond (b := _) (by with_unfolding_all rfl) (fun hc => ?_) (fun hc => ?_) <;> simp at hc <;> (try subst hc)))
                      all_goals refine ⟨(stepZ A b c d ma mt md ms mp mw) q, ⟨hK.step hlen fd.2, (run_step (step_more _ _ _ _ _ _ _ _ _ _) hlen).trans hR⟩, ?_, ?_⟩
                      · show N - ((stepZ A b c d ma mt md ms mp mw) q).out.length < N - q.out.length
                        have := step_more A b c d ma mt md ms mp mw q
                        omega
                      · simp [I44, stepZ, kZ, whoZ, hWd, hid, hk1, hk2, hk3, hTn, hpk]
                        rw [hS]
                        refine Imp.auto (by kernel_rfl) ?_ ?_ <;> simp [nmap, lkp, mkPl, prs, prsL, prT, ddL, idL, NLe, CRenL, CRen, Ren, RenL, NObj.none, hit, hic, hit2, hic2, intR, hrt, hrc, evR]
                · have hpk := pick3_w (w := (W : Int)) (z := (belowZ (nextS (nextS q.s)) ((A : Int) + 2 * (c * d)))) hk4
                  have hrt := rows_t0 (hK.step (b := b) (a := A) (c := c) (d := d) (ma := ma) (mt := mt) (md := md) (mp := mp) (mw := mw) hlen fd.2).rows
                  have hrc := rows_cl (hK.step (b := b) (a := A) (c := c) (d := d) (ma := ma) (mt := mt) (md := md) (mp := mp) (mw := mw) hlen fd.2).rows
                  simp [stepZ, kZ, whoZ, hWd, hid, hk1, hk2, hk3, hTn, hpk, evR] at hrt hrc
                  repeat' with_reducible (first
                    | refine Wm_seq ?_
                    | refine Wm_skip ?_
                    | refine Wm_ret ?_
                    | refine Wm_block ?_
                    | refine Wm_exit ?_
                    | refine thenK_normal ?_
                    | refine thenK_ret ?_
                    | refine thenK_exit ?_
                    | refine blockK_normal ?_
                    | refine blockK_ret ?_
                    | refine blockK_here ?_
                    | refine loopK_ret ?_
                    | refine loopK_exit ?_
                    | refine unK_ret ?_
                    | refine unK_exit ?_
                    | refine unK_normal ?_
                    | refine loopOk_succ ?_
                    | refine blockK_exit (by decide) ?_
                    | (refine wreg (mos := q44_0) hE [1, 3, 4, 6] (by kernel_rfl) ?_; intro K hK; simp [q44_0, intR, hset, hWd, hWA, hWI, hAA, hid, w1, w2, w3, w4, hk9, hA9, hNl, hta, hnow0, hnow1, hck, hft, hp1, hp2, hk1, hk2, hk3, w5, w6, w7, w8, hk4, hms9, hTn, wT, ints, d17, d31, d58]; (repeat' (first | refine hK _ _ ?_ | refine And.intro ?_ ?_ | (intro hc; try subst hc))) <;> (try clear hK K))
                    | (refine wreg (mos := q44_1) hE [3, 4, 6, 9] (by kernel_rfl) ?_; intro K hK; simp [q44_1, intR, hset, hWd, hWA, hWI, hAA, hid, w1, w2, w3, w4, hk9, hA9, hNl, hta, hnow0, hnow1, hck, hft, hp1, hp2, hk1, hk2, hk3, w5, w6, w7, w8, hk4, hms9, hTn, wT, ints, d17, d31, d58]; (repeat' (first | refine hK _ _ ?_ | refine And.intro ?_ ?_ | (intro hc; try subst hc))) <;> (try clear hK K))
                    | (refine wreg (mos := q44_2) hE [3, 4, 6, 9, 10] (by kernel_rfl) ?_; intro K hK; simp [q44_2, intR, hset, hWd, hWA, hWI, hAA, hid, w1, w2, w3, w4, hk9, hA9, hNl, hta, hnow0, hnow1, hck, hft, hp1, hp2, hk1, hk2, hk3, w5, w6, w7, w8, hk4, hms9, hTn, wT, ints, d17, d31, d58]; (repeat' (first | refine hK _ _ ?_ | refine And.intro ?_ ?_ | (intro hc; try subst hc))) <;> (try clear hK K))
                    | (refine wreg (mos := q44_3) hE [3, 4, 6, 9, 10, 11] (by kernel_rfl) ?_; intro K hK; simp [q44_3, intR, hset, hWd, hWA, hWI, hAA, hid, w1, w2, w3, w4, hk9, hA9, hNl, hta, hnow0, hnow1, hck, hft, hp1, hp2, hk1, hk2, hk3, w5, w6, w7, w8, hk4, hms9, hTn, wT, ints, d17, d31, d58]; (repeat' (first | refine hK _ _ ?_ | refine And.intro ?_ ?_ | (intro hc; try subst hc))) <;> (try clear hK K))
                    | (refine wreg (mos := q44_4) hE [3, 4, 6, 9, 10, 11, 12] (by kernel_rfl) ?_; intro K hK; simp [q44_4, intR, hset, hWd, hWA, hWI, hAA, hid, w1, w2, w3, w4, hk9, hA9, hNl, hta, hnow0, hnow1, hck, hft, hp1, hp2, hk1, hk2, hk3, w5, w6, w7, w8, hk4, hms9, hTn, wT, ints, d17, d31, d58]; (repeat' (first | refine hK _ _ ?_ | refine And.intro ?_ ?_ | (intro hc; try subst hc))) <;> (try clear hK K))
                    | (refine wdraw (mos := q44_5) hE mixT c44_5 [3, 4, 6, 9, 10, 11, 12, 13, 14, 15] (by kernel_rfl) ?_; intro K hK; simp [q44_5, c44_5, intR, hset, hWd, hWA, hWI, hAA, hid, w1, w2, w3, w4, hk9, hA9, hNl, hta, hnow0, hnow1, hck, hft, hp1, hp2, hk1, hk2, hk3, w5, w6, w7, w8, hk4, hms9, hTn, wT, ints, d17, d31, d58]; (repeat' (first | refine hK _ _ ?_ | refine And.intro ?_ ?_ | (intro hc; try subst hc))) <;> (try clear hK K))
                    | (refine wreg (mos := q44_6) hE [3, 4, 6, 9, 10, 11, 12, 13, 14, 15] (by kernel_rfl) ?_; intro K hK; simp [q44_6, intR, hset, hWd, hWA, hWI, hAA, hid, w1, w2, w3, w4, hk9, hA9, hNl, hta, hnow0, hnow1, hck, hft, hp1, hp2, hk1, hk2, hk3, w5, w6, w7, w8, hk4, hms9, hTn, wT, ints, d17, d31, d58]; (repeat' (first | refine hK _ _ ?_ | refine And.intro ?_ ?_ | (intro hc; try subst hc))) <;> (try clear hK K))
                    | (refine wreg (mos := q44_7) hE [3, 4, 6, 9, 10, 11, 12, 13, 14, 15, 16] (by kernel_rfl) ?_; intro K hK; simp [q44_7, intR, hset, hWd, hWA, hWI, hAA, hid, w1, w2, w3, w4, hk9, hA9, hNl, hta, hnow0, hnow1, hck, hft, hp1, hp2, hk1, hk2, hk3, w5, w6, w7, w8, hk4, hms9, hTn, wT, ints, d17, d31, d58]; (repeat' (first | refine hK _ _ ?_ | refine And.intro ?_ ?_ | (intro hc; try subst hc))) <;> (try clear hK K))
                    | (refine wreg (mos := q44_8) hE [3, 4, 6, 9, 10, 11, 12, 13, 14, 15, 16, 56] (by kernel_rfl) ?_; intro K hK; simp [q44_8, intR, hset, hWd, hWA, hWI, hAA, hid, w1, w2, w3, w4, hk9, hA9, hNl, hta, hnow0, hnow1, hck, hft, hp1, hp2, hk1, hk2, hk3, w5, w6, w7, w8, hk4, hms9, hTn, wT, ints, d17, d31, d58]; (repeat' (first | refine hK _ _ ?_ | refine And.intro ?_ ?_ | (intro hc; try subst hc))) <;> (try clear hK K))
                    | (refine wreg (mos := q44_9) hE [3, 4, 6, 9, 10, 11, 12, 13, 14, 15, 16, 17] (by kernel_rfl) ?_; intro K hK; simp [q44_9, intR, hset, hWd, hWA, hWI, hAA, hid, w1, w2, w3, w4, hk9, hA9, hNl, hta, hnow0, hnow1, hck, hft, hp1, hp2, hk1, hk2, hk3, w5, w6, w7, w8, hk4, hms9, hTn, wT, ints, d17, d31, d58]; (repeat' (first | refine hK _ _ ?_ | refine And.intro ?_ ?_ | (intro hc; try subst hc))) <;> (try clear hK K))
                    | (refine wreg (mos := q44_10) hE [3, 4, 6, 9, 10, 11, 12, 13, 14, 15, 16, 17, 18] (by kernel_rfl) ?_; intro K hK; simp [q44_10, intR, hset, hWd, hWA, hWI, hAA, hid, w1, w2, w3, w4, hk9, hA9, hNl, hta, hnow0, hnow1, hck, hft, hp1, hp2, hk1, hk2, hk3, w5, w6, w7, w8, hk4, hms9, hTn, wT, ints, d17, d31, d58]; (repeat' (first | refine hK _ _ ?_ | refine And.intro ?_ ?_ | (intro hc; try subst hc))) <;> (try clear hK K))
                    | (refine wreg (mos := q44_11) hE [3, 4, 6, 9, 10, 11, 12, 13, 14, 15, 16, 17, 18, 71] (by kernel_rfl) ?_; intro K hK; simp [q44_11, intR, hset, hWd, hWA, hWI, hAA, hid, w1, w2, w3, w4, hk9, hA9, hNl, hta, hnow0, hnow1, hck, hft, hp1, hp2, hk1, hk2, hk3, w5, w6, w7, w8, hk4, hms9, hTn, wT, ints, d17, d31, d58]; (repeat' (first | refine hK _ _ ?_ | refine And.intro ?_ ?_ | (intro hc; try subst hc))) <;> (try clear hK K))
                    | (refine wreg (mos := q44_12) hE [3, 4, 6, 9, 10, 11, 12, 13, 14, 15, 16, 17] (by kernel_rfl) ?_; intro K hK; simp [q44_12, intR, hset, hWd, hWA, hWI, hAA, hid, w1, w2, w3, w4, hk9, hA9, hNl, hta, hnow0, hnow1, hck, hft, hp1, hp2, hk1, hk2, hk3, w5, w6, w7, w8, hk4, hms9, hTn, wT, ints, d17, d31, d58]; (repeat' (first | refine hK _ _ ?_ | refine And.intro ?_ ?_ | (intro hc; try subst hc))) <;> (try clear hK K))
                    | (refine wdraw (mos := q44_13) hE mixT c44_13 [3, 4, 6, 9, 10, 11, 12, 13, 14, 15, 16] (by kernel_rfl) ?_; intro K hK; simp [q44_13, c44_13, intR, hset, hWd, hWA, hWI, hAA, hid, w1, w2, w3, w4, hk9, hA9, hNl, hta, hnow0, hnow1, hck, hft, hp1, hp2, hk1, hk2, hk3, w5, w6, w7, w8, hk4, hms9, hTn, wT, ints, d17, d31, d58]; (repeat' (first | refine hK _ _ ?_ | refine And.intro ?_ ?_ | (intro hc; try subst hc))) <;> (try clear hK K))
                    | (refine wreg (mos := q44_14) hE [3, 4, 6, 9, 10, 11, 12, 13, 14, 15, 16, 17, 18, 96] (by kernel_rfl) ?_; intro K hK; simp [q44_14, intR, hset, hWd, hWA, hWI, hAA, hid, w1, w2, w3, w4, hk9, hA9, hNl, hta, hnow0, hnow1, hck, hft, hp1, hp2, hk1, hk2, hk3, w5, w6, w7, w8, hk4, hms9, hTn, wT, ints, d17, d31, d58]; (repeat' (first | refine hK _ _ ?_ | refine And.intro ?_ ?_ | (intro hc; try subst hc))) <;> (try clear hK K))
                    | (refine wreg (mos := q44_15) hE [3, 4, 6, 9, 10, 11, 12, 13, 14, 15, 16, 19] (by kernel_rfl) ?_; intro K hK; simp [q44_15, intR, hset, hWd, hWA, hWI, hAA, hid, w1, w2, w3, w4, hk9, hA9, hNl, hta, hnow0, hnow1, hck, hft, hp1, hp2, hk1, hk2, hk3, w5, w6, w7, w8, hk4, hms9, hTn, wT, ints, d17, d31, d58]; (repeat' (first | refine hK _ _ ?_ | refine And.intro ?_ ?_ | (intro hc; try subst hc))) <;> (try clear hK K))
                    | (refine wreg (mos := q44_16) hE [3, 4, 6, 9, 10, 11, 12, 13, 14, 15, 16, 19] (by kernel_rfl) ?_; intro K hK; simp [q44_16, intR, hset, hWd, hWA, hWI, hAA, hid, w1, w2, w3, w4, hk9, hA9, hNl, hta, hnow0, hnow1, hck, hft, hp1, hp2, hk1, hk2, hk3, w5, w6, w7, w8, hk4, hms9, hTn, wT, ints, d17, d31, d58]; (repeat' (first | refine hK _ _ ?_ | refine And.intro ?_ ?_ | (intro hc; try subst hc))) <;> (try clear hK K))
                    | (refine wreg (mos := q44_17) hE [3, 4, 6, 9, 10, 11, 12, 13, 14, 15, 16] (by kernel_rfl) ?_; intro K hK; simp [q44_17, intR, hset, hWd, hWA, hWI, hAA, hid, w1, w2, w3, w4, hk9, hA9, hNl, hta, hnow0, hnow1, hck, hft, hp1, hp2, hk1, hk2, hk3, w5, w6, w7, w8, hk4, hms9, hTn, wT, ints, d17, d31, d58]; (repeat' (first | refine hK _ _ ?_ | refine And.intro ?_ ?_ | (intro hc; try subst hc))) <;> (try clear hK K))
                    | (refine wreg (mos := q44_18) hE [3, 4, 6, 9, 10, 11, 12, 13, 14, 15, 16, 17, 115] (by kernel_rfl) ?_; intro K hK; simp [q44_18, intR, hset, hWd, hWA, hWI, hAA, hid, w1, w2, w3, w4, hk9, hA9, hNl, hta, hnow0, hnow1, hck, hft, hp1, hp2, hk1, hk2, hk3, w5, w6, w7, w8, hk4, hms9, hTn, wT, ints, d17, d31, d58]; (repeat' (first | refine hK _ _ ?_ | refine And.intro ?_ ?_ | (intro hc; try subst hc))) <;> (try clear hK K))
                    | (refine wreg (mos := q44_19) hE [3, 4, 6, 9, 10, 11, 12, 13, 14, 15, 16] (by kernel_rfl) ?_; intro K hK; simp [q44_19, intR, hset, hWd, hWA, hWI, hAA, hid, w1, w2, w3, w4, hk9, hA9, hNl, hta, hnow0, hnow1, hck, hft, hp1, hp2, hk1, hk2, hk3, w5, w6, w7, w8, hk4, hms9, hTn, wT, ints, d17, d31, d58]; (repeat' (first | refine hK _ _ ?_ | refine And.intro ?_ ?_ | (intro hc; try subst hc))) <;> (try clear hK K))
                    | (refine wreg (mos := q44_20) hE [3, 4, 6, 9, 10, 11, 12, 13, 14, 15, 16, 17, 20] (by kernel_rfl) ?_; intro K hK; simp [q44_20, intR, hset, hWd, hWA, hWI, hAA, hid, w1, w2, w3, w4, hk9, hA9, hNl, hta, hnow0, hnow1, hck, hft, hp1, hp2, hk1, hk2, hk3, w5, w6, w7, w8, hk4, hms9, hTn, wT, ints, d17, d31, d58]; (repeat' (first | refine hK _ _ ?_ | refine And.intro ?_ ?_ | (intro hc; try subst hc))) <;> (try clear hK K))
                    | (refine wreg (mos := q44_21) hE [3, 4, 6, 9, 10, 11, 12, 13, 14, 15, 16, 17, 20, 137] (by kernel_rfl) ?_; intro K hK; simp [q44_21, intR, hset, hWd, hWA, hWI, hAA, hid, w1, w2, w3, w4, hk9, hA9, hNl, hta, hnow0, hnow1, hck, hft, hp1, hp2, hk1, hk2, hk3, w5, w6, w7, w8, hk4, hms9, hTn, wT, ints, d17, d31, d58]; (repeat' (first | refine hK _ _ ?_ | refine And.intro ?_ ?_ | (intro hc; try subst hc))) <;> (try clear hK K))
                    | (refine wreg (mos := q44_22) hE [3, 4, 6, 9, 10, 11, 12, 13, 14, 15, 16, 17] (by kernel_rfl) ?_; intro K hK; simp [q44_22, intR, hset, hWd, hWA, hWI, hAA, hid, w1, w2, w3, w4, hk9, hA9, hNl, hta, hnow0, hnow1, hck, hft, hp1, hp2, hk1, hk2, hk3, w5, w6, w7, w8, hk4, hms9, hTn, wT, ints, d17, d31, d58]; (repeat' (first | refine hK _ _ ?_ | refine And.intro ?_ ?_ | (intro hc; try subst hc))) <;> (try clear hK K))
                    | (refine wreg (mos := q44_23) hE [3, 4, 6, 9, 10, 11, 12, 13, 14, 15, 16, 17, 21] (by kernel_rfl) ?_; intro K hK; simp [q44_23, intR, hset, hWd, hWA, hWI, hAA, hid, w1, w2, w3, w4, hk9, hA9, hNl, hta, hnow0, hnow1, hck, hft, hp1, hp2, hk1, hk2, hk3, w5, w6, w7, w8, hk4, hms9, hTn, wT, ints, d17, d31, d58]; (repeat' (first | refine hK _ _ ?_ | refine And.intro ?_ ?_ | (intro hc; try subst hc))) <;> (try clear hK K))
                    | (refine wreg (mos := q44_24) hE [3, 4, 6, 9, 10, 11, 12, 13, 14, 15, 16, 17, 21, 145] (by kernel_rfl) ?_; intro K hK; simp [q44_24, intR, hset, hWd, hWA, hWI, hAA, hid, w1, w2, w3, w4, hk9, hA9, hNl, hta, hnow0, hnow1, hck, hft, hp1, hp2, hk1, hk2, hk3, w5, w6, w7, w8, hk4, hms9, hTn, wT, ints, d17, d31, d58]; (repeat' (first | refine hK _ _ ?_ | refine And.intro ?_ ?_ | (intro hc; try subst hc))) <;> (try clear hK K))
                    | (refine wreg (mos := q44_25) hE [3, 4, 6, 9, 10, 11, 12, 13, 14, 15, 16, 17, 21] (by kernel_rfl) ?_; intro K hK; simp [q44_25, intR, hset, hWd, hWA, hWI, hAA, hid, w1, w2, w3, w4, hk9, hA9, hNl, hta, hnow0, hnow1, hck, hft, hp1, hp2, hk1, hk2, hk3, w5, w6, w7, w8, hk4, hms9, hTn, wT, ints, d17, d31, d58]; (repeat' (first | refine hK _ _ ?_ | refine And.intro ?_ ?_ | (intro hc; try subst hc))) <;> (try clear hK K))
                    | (refine wreg (mos := q44_26) hE [3, 4, 6, 9, 10, 11, 12, 13, 14, 15, 16, 17, 21] (by kernel_rfl) ?_; intro K hK; simp [q44_26, intR, hset, hWd, hWA, hWI, hAA, hid, w1, w2, w3, w4, hk9, hA9, hNl, hta, hnow0, hnow1, hck, hft, hp1, hp2, hk1, hk2, hk3, w5, w6, w7, w8, hk4, hms9, hTn, wT, ints, d17, d31, d58]; (repeat' (first | refine hK _ _ ?_ | refine And.intro ?_ ?_ | (intro hc; try subst hc))) <;> (try clear hK K))
                    | (refine wreg (mos := q44_27) hE [8] (by kernel_rfl) ?_; intro K hK; simp [q44_27, intR, hset, hWd, hWA, hWI, hAA, hid, w1, w2, w3, w4, hk9, hA9, hNl, hta, hnow0, hnow1, hck, hft, hp1, hp2, hk1, hk2, hk3, w5, w6, w7, w8, hk4, hms9, hTn, wT, ints, d17, d31, d58]; (repeat' (first | refine hK _ _ ?_ | refine And.intro ?_ ?_ | (intro hc; try subst hc))) <;> (try clear hK K))
                    | (refine Wm_cond (b := _) (by with_unfolding_all rfl) (fun hc => ?_) (fun hc => ?_) <;> simp at hc <;> (try subst hc)))
                  all_goals (refine Wm_loop (J44 [.int .i64 (A : Int), .int .i64 b, .int .i64 c, .int .i64 d, .int .i64 e, .int .i64 f, .int .i64 g] [.int .i64 ma, .int .i64 mt, .int .i64 md, .int .i64 ms, .int .i64 mp, .int .i64 mw] N A Tn (mx0 ma) (mx0 mt) (mx0 md) (A * b) q (W : Int) (nextS (nextS (nextS (nextS (nextS q.s)))))) (fun i => i ≤ Tn) (fun i => Tn - i) 0 (Nat.zero_le _) ?_ ?_)
                  · simp only [J44]
                    rw [hS]
                    refine Imp.auto (by kernel_rfl) ?_ ?_ <;> simp [nmap, lkp, mkPl, prs, prsL, prT, ddL, idL, NLe, CRenL, CRen, Ren, RenL, NObj.none, hit, hic, intR, rows_t0 hK.rows, rows_cl hK.rows, evR]
                  · intro i hi
                    replace hi : i ≤ Tn := hi
                    simp only [J44]
                    have hall : ∀ j, (q.out ++ List.replicate j (evR 3 (W : Int) 0 0 0 0 0 0 0 0 0 0)).all row12 = true := fun j => by simp [hK.rows, row_evR]
                    have htt : ∀ n, tlLL n (q.out ++ List.replicate i (evR 3 (W : Int) 0 0 0 0 0 0 0 0 0 0)) = true := fun n => rows_tl (hall i)
                    by_cases hin : i < Tn
                    · have hiI : (i : Int) < (Tn : Int) := Int.ofNat_lt.2 hin
                      obtain ⟨hq1, hq2, hq3, hq4⟩ := few1 hlen hN65 hi hTb
                      obtain ⟨hi5, wi⟩ := few2 hin hTb
                      have hrep : q.out ++ List.replicate (i + 1) (evR 3 (W : Int) 0 0 0 0 0 0 0 0 0 0) = q.out ++ List.replicate i (evR 3 (W : Int) 0 0 0 0 0 0 0 0 0 0) ++ [evR 3 (W : Int) 0 0 0 0 0 0 0 0 0 0] := by rw [List.replicate_succ', List.append_assoc]
                      have hz1 := rows_t0 (hall (i + 1))
                      have hz2 := rows_cl (hall (i + 1))
                      rw [hrep] at hz1 hz2
                      simp [evR] at hz1 hz2 htt
                      repeat' with_reducible (first
                        | refine Wm_seq ?_
                        | refine Wm_skip ?_
                        | refine Wm_ret ?_
                        | refine Wm_block ?_
                        | refine Wm_exit ?_
                        | refine thenK_normal ?_
                        | refine thenK_ret ?_
                        | refine thenK_exit ?_
                        | refine blockK_normal ?_
                        | refine blockK_ret ?_
                        | refine blockK_here ?_
                        | refine loopK_ret ?_
                        | refine loopK_exit ?_
                        | refine unK_ret ?_
                        | refine unK_exit ?_
                        | refine unK_normal ?_
                        | refine loopOk_succ ?_
                        | refine blockK_exit (by decide) ?_
                        | (refine wreg (mos := q44_0) hE [1, 3, 4, 6] (by kernel_rfl) ?_; intro K hK; simp [q44_0, evR, hiI, hi5, wi, hq1, hq2, htt, d17, d31, d58]; (repeat' (first | refine hK _ _ ?_ | refine And.intro ?_ ?_ | (intro hc; try subst hc))) <;> (try clear hK K))
                        | (refine wreg (mos := q44_1) hE [3, 4, 6, 9] (by kernel_rfl) ?_; intro K hK; simp [q44_1, evR, hiI, hi5, wi, hq1, hq2, htt, d17, d31, d58]; (repeat' (first | refine hK _ _ ?_ | refine And.intro ?_ ?_ | (intro hc; try subst hc))) <;> (try clear hK K))
                        | (refine wreg (mos := q44_2) hE [3, 4, 6, 9, 10] (by kernel_rfl) ?_; intro K hK; simp [q44_2, evR, hiI, hi5, wi, hq1, hq2, htt, d17, d31, d58]; (repeat' (first | refine hK _ _ ?_ | refine And.intro ?_ ?_ | (intro hc; try subst hc))) <;> (try clear hK K))
                        | (refine wreg (mos := q44_3) hE [3, 4, 6, 9, 10, 11] (by kernel_rfl) ?_; intro K hK; simp [q44_3, evR, hiI, hi5, wi, hq1, hq2, htt, d17, d31, d58]; (repeat' (first | refine hK _ _ ?_ | refine And.intro ?_ ?_ | (intro hc; try subst hc))) <;> (try clear hK K))
                        | (refine wreg (mos := q44_4) hE [3, 4, 6, 9, 10, 11, 12] (by kernel_rfl) ?_; intro K hK; simp [q44_4, evR, hiI, hi5, wi, hq1, hq2, htt, d17, d31, d58]; (repeat' (first | refine hK _ _ ?_ | refine And.intro ?_ ?_ | (intro hc; try subst hc))) <;> (try clear hK K))
                        | (refine wdraw (mos := q44_5) hE mixT c44_5 [3, 4, 6, 9, 10, 11, 12, 13, 14, 15] (by kernel_rfl) ?_; intro K hK; simp [q44_5, c44_5, evR, hiI, hi5, wi, hq1, hq2, htt, d17, d31, d58]; (repeat' (first | refine hK _ _ ?_ | refine And.intro ?_ ?_ | (intro hc; try subst hc))) <;> (try clear hK K))
                        | (refine wreg (mos := q44_6) hE [3, 4, 6, 9, 10, 11, 12, 13, 14, 15] (by kernel_rfl) ?_; intro K hK; simp [q44_6, evR, hiI, hi5, wi, hq1, hq2, htt, d17, d31, d58]; (repeat' (first | refine hK _ _ ?_ | refine And.intro ?_ ?_ | (intro hc; try subst hc))) <;> (try clear hK K))
                        | (refine wreg (mos := q44_7) hE [3, 4, 6, 9, 10, 11, 12, 13, 14, 15, 16] (by kernel_rfl) ?_; intro K hK; simp [q44_7, evR, hiI, hi5, wi, hq1, hq2, htt, d17, d31, d58]; (repeat' (first | refine hK _ _ ?_ | refine And.intro ?_ ?_ | (intro hc; try subst hc))) <;> (try clear hK K))
                        | (refine wreg (mos := q44_8) hE [3, 4, 6, 9, 10, 11, 12, 13, 14, 15, 16, 56] (by kernel_rfl) ?_; intro K hK; simp [q44_8, evR, hiI, hi5, wi, hq1, hq2, htt, d17, d31, d58]; (repeat' (first | refine hK _ _ ?_ | refine And.intro ?_ ?_ | (intro hc; try subst hc))) <;> (try clear hK K))
                        | (refine wreg (mos := q44_9) hE [3, 4, 6, 9, 10, 11, 12, 13, 14, 15, 16, 17] (by kernel_rfl) ?_; intro K hK; simp [q44_9, evR, hiI, hi5, wi, hq1, hq2, htt, d17, d31, d58]; (repeat' (first | refine hK _ _ ?_ | refine And.intro ?_ ?_ | (intro hc; try subst hc))) <;> (try clear hK K))
                        | (refine wreg (mos := q44_10) hE [3, 4, 6, 9, 10, 11, 12, 13, 14, 15, 16, 17, 18] (by kernel_rfl) ?_; intro K hK; simp [q44_10, evR, hiI, hi5, wi, hq1, hq2, htt, d17, d31, d58]; (repeat' (first | refine hK _ _ ?_ | refine And.intro ?_ ?_ | (intro hc; try subst hc))) <;> (try clear hK K))
                        | (refine wreg (mos := q44_11) hE [3, 4, 6, 9, 10, 11, 12, 13, 14, 15, 16, 17, 18, 71] (by kernel_rfl) ?_; intro K hK; simp [q44_11, evR, hiI, hi5, wi, hq1, hq2, htt, d17, d31, d58]; (repeat' (first | refine hK _ _ ?_ | refine And.intro ?_ ?_ | (intro hc; try subst hc))) <;> (try clear hK K))
                        | (refine wreg (mos := q44_12) hE [3, 4, 6, 9, 10, 11, 12, 13, 14, 15, 16, 17] (by kernel_rfl) ?_; intro K hK; simp [q44_12, evR, hiI, hi5, wi, hq1, hq2, htt, d17, d31, d58]; (repeat' (first | refine hK _ _ ?_ | refine And.intro ?_ ?_ | (intro hc; try subst hc))) <;> (try clear hK K))
                        | (refine wdraw (mos := q44_13) hE mixT c44_13 [3, 4, 6, 9, 10, 11, 12, 13, 14, 15, 16] (by kernel_rfl) ?_; intro K hK; simp [q44_13, c44_13, evR, hiI, hi5, wi, hq1, hq2, htt, d17, d31, d58]; (repeat' (first | refine hK _ _ ?_ | refine And.intro ?_ ?_ | (intro hc; try subst hc))) <;> (try clear hK K))
                        | (refine wreg (mos := q44_14) hE [3, 4, 6, 9, 10, 11, 12, 13, 14, 15, 16, 17, 18, 96] (by kernel_rfl) ?_; intro K hK; simp [q44_14, evR, hiI, hi5, wi, hq1, hq2, htt, d17, d31, d58]; (repeat' (first | refine hK _ _ ?_ | refine And.intro ?_ ?_ | (intro hc; try subst hc))) <;> (try clear hK K))
                        | (refine wreg (mos := q44_15) hE [3, 4, 6, 9, 10, 11, 12, 13, 14, 15, 16, 19] (by kernel_rfl) ?_; intro K hK; simp [q44_15, evR, hiI, hi5, wi, hq1, hq2, htt, d17, d31, d58]; (repeat' (first | refine hK _ _ ?_ | refine And.intro ?_ ?_ | (intro hc; try subst hc))) <;> (try clear hK K))
                        | (refine wreg (mos := q44_16) hE [3, 4, 6, 9, 10, 11, 12, 13, 14, 15, 16, 19] (by kernel_rfl) ?_; intro K hK; simp [q44_16, evR, hiI, hi5, wi, hq1, hq2, htt, d17, d31, d58]; (repeat' (first | refine hK _ _ ?_ | refine And.intro ?_ ?_ | (intro hc; try subst hc))) <;> (try clear hK K))
                        | (refine wreg (mos := q44_17) hE [3, 4, 6, 9, 10, 11, 12, 13, 14, 15, 16] (by kernel_rfl) ?_; intro K hK; simp [q44_17, evR, hiI, hi5, wi, hq1, hq2, htt, d17, d31, d58]; (repeat' (first | refine hK _ _ ?_ | refine And.intro ?_ ?_ | (intro hc; try subst hc))) <;> (try clear hK K))
                        | (refine wreg (mos := q44_18) hE [3, 4, 6, 9, 10, 11, 12, 13, 14, 15, 16, 17, 115] (by kernel_rfl) ?_; intro K hK; simp [q44_18, evR, hiI, hi5, wi, hq1, hq2, htt, d17, d31, d58]; (repeat' (first | refine hK _ _ ?_ | refine And.intro ?_ ?_ | (intro hc; try subst hc))) <;> (try clear hK K))
                        | (refine wreg (mos := q44_19) hE [3, 4, 6, 9, 10, 11, 12, 13, 14, 15, 16] (by kernel_rfl) ?_; intro K hK; simp [q44_19, evR, hiI, hi5, wi, hq1, hq2, htt, d17, d31, d58]; (repeat' (first | refine hK _ _ ?_ | refine And.intro ?_ ?_ | (intro hc; try subst hc))) <;> (try clear hK K))
                        | (refine wreg (mos := q44_20) hE [3, 4, 6, 9, 10, 11, 12, 13, 14, 15, 16, 17, 20] (by kernel_rfl) ?_; intro K hK; simp [q44_20, evR, hiI, hi5, wi, hq1, hq2, htt, d17, d31, d58]; (repeat' (first | refine hK _ _ ?_ | refine And.intro ?_ ?_ | (intro hc; try subst hc))) <;> (try clear hK K))
                        | (refine wreg (mos := q44_21) hE [3, 4, 6, 9, 10, 11, 12, 13, 14, 15, 16, 17, 20, 137] (by kernel_rfl) ?_; intro K hK; simp [q44_21, evR, hiI, hi5, wi, hq1, hq2, htt, d17, d31, d58]; (repeat' (first | refine hK _ _ ?_ | refine And.intro ?_ ?_ | (intro hc; try subst hc))) <;> (try clear hK K))
                        | (refine wreg (mos := q44_22) hE [3, 4, 6, 9, 10, 11, 12, 13, 14, 15, 16, 17] (by kernel_rfl) ?_; intro K hK; simp [q44_22, evR, hiI, hi5, wi, hq1, hq2, htt, d17, d31, d58]; (repeat' (first | refine hK _ _ ?_ | refine And.intro ?_ ?_ | (intro hc; try subst hc))) <;> (try clear hK K))
                        | (refine wreg (mos := q44_23) hE [3, 4, 6, 9, 10, 11, 12, 13, 14, 15, 16, 17, 21] (by kernel_rfl) ?_; intro K hK; simp [q44_23, evR, hiI, hi5, wi, hq1, hq2, htt, d17, d31, d58]; (repeat' (first | refine hK _ _ ?_ | refine And.intro ?_ ?_ | (intro hc; try subst hc))) <;> (try clear hK K))
                        | (refine wreg (mos := q44_24) hE [3, 4, 6, 9, 10, 11, 12, 13, 14, 15, 16, 17, 21, 145] (by kernel_rfl) ?_; intro K hK; simp [q44_24, evR, hiI, hi5, wi, hq1, hq2, htt, d17, d31, d58]; (repeat' (first | refine hK _ _ ?_ | refine And.intro ?_ ?_ | (intro hc; try subst hc))) <;> (try clear hK K))
                        | (refine wreg (mos := q44_25) hE [3, 4, 6, 9, 10, 11, 12, 13, 14, 15, 16, 17, 21] (by kernel_rfl) ?_; intro K hK; simp [q44_25, evR, hiI, hi5, wi, hq1, hq2, htt, d17, d31, d58]; (repeat' (first | refine hK _ _ ?_ | refine And.intro ?_ ?_ | (intro hc; try subst hc))) <;> (try clear hK K))
                        | (refine wreg (mos := q44_26) hE [3, 4, 6, 9, 10, 11, 12, 13, 14, 15, 16, 17, 21] (by kernel_rfl) ?_; intro K hK; simp [q44_26, evR, hiI, hi5, wi, hq1, hq2, htt, d17, d31, d58]; (repeat' (first | refine hK _ _ ?_ | refine And.intro ?_ ?_ | (intro hc; try subst hc))) <;> (try clear hK K))
                        | (refine wreg (mos := q44_27) hE [8] (by kernel_rfl) ?_; intro K hK; simp [q44_27, evR, hiI, hi5, wi, hq1, hq2, htt, d17, d31, d58]; (repeat' (first | refine hK _ _ ?_ | refine And.intro ?_ ?_ | (intro hc; try subst hc))) <;> (try clear hK K))
                        | (refine Wm_cond (b := _) (by with_unfolding_all rfl) (fun hc => ?_) (fun hc => ?_) <;> simp at hc <;> (try subst hc)))
                      all_goals refine ⟨i + 1, ?_, ?_, ?_⟩
                      · exact hin
                      · exact Nat.sub_lt_sub_left hin (Nat.lt_succ_self i)
                      · simp only [J44, hrep]
                        rw [hS]
                        refine Imp.auto (by kernel_rfl) ?_ ?_ <;> simp [nmap, lkp, mkPl, prs, prsL, prT, ddL, idL, NLe, CRenL, CRen, Ren, RenL, NObj.none, hit, hic, intR, evR, hz1, hz2] <;> (try exact Nat.add_assoc _ _ _)
                    · obtain rfl : i = Tn := Nat.le_antisymm hi (Nat.not_lt.1 hin)
                      repeat' with_reducible (first
                        | refine Wm_seq ?_
                        | refine Wm_skip ?_
                        | refine Wm_ret ?_
                        | refine Wm_block ?_
                        | refine Wm_exit ?_
                        | refine thenK_normal ?_
                        | refine thenK_ret ?_
                        | refine thenK_exit ?_
                        | refine blockK_normal ?_
                        | refine blockK_ret ?_
                        | refine blockK_here ?_
                        | refine loopK_ret ?_
                        | refine loopK_exit ?_
                        | refine unK_ret ?_
                        | refine unK_exit ?_
                        | refine unK_normal ?_
                        | refine loopOk_succ ?_
                        | refine blockK_exit (by decide) ?_
                        | (refine wreg (mos := q44_0) hE [1, 3, 4, 6] (by kernel_rfl) ?_; intro K hK; simp [q44_0, hin, d17, d31, d58]; (repeat' (first | refine hK _ _ ?_ | refine And.intro ?_ ?_ | (intro hc; try subst hc))) <;> (try clear hK K))
                        | (refine wreg (mos := q44_1) hE [3, 4, 6, 9] (by kernel_rfl) ?_; intro K hK; simp [q44_1, hin, d17, d31, d58]; (repeat' (first | refine hK _ _ ?_ | refine And.intro ?_ ?_ | (intro hc; try subst hc))) <;> (try clear hK K))
                        | (refine wreg (mos := q44_2) hE [3, 4, 6, 9, 10] (by kernel_rfl) ?_; intro K hK; simp [q44_2, hin, d17, d31, d58]; (repeat' (first | refine hK _ _ ?_ | refine And.intro ?_ ?_ | (intro hc; try subst hc))) <;> (try clear hK K))
                        | (refine wreg (mos := q44_3) hE [3, 4, 6, 9, 10, 11] (by kernel_rfl) ?_; intro K hK; simp [q44_3, hin, d17, d31, d58]; (repeat' (first | refine hK _ _ ?_ | refine And.intro ?_ ?_ | (intro hc; try subst hc))) <;> (try clear hK K))
                        | (refine wreg (mos := q44_4) hE [3, 4, 6, 9, 10, 11, 12] (by kernel_rfl) ?_; intro K hK; simp [q44_4, hin, d17, d31, d58]; (repeat' (first | refine hK _ _ ?_ | refine And.intro ?_ ?_ | (intro hc; try subst hc))) <;> (try clear hK K))
                        | (refine wdraw (mos := q44_5) hE mixT c44_5 [3, 4, 6, 9, 10, 11, 12, 13, 14, 15] (by kernel_rfl) ?_; intro K hK; simp [q44_5, c44_5, hin, d17, d31, d58]; (repeat' (first | refine hK _ _ ?_ | refine And.intro ?_ ?_ | (intro hc; try subst hc))) <;> (try clear hK K))
                        | (refine wreg (mos := q44_6) hE [3, 4, 6, 9, 10, 11, 12, 13, 14, 15] (by kernel_rfl) ?_; intro K hK; simp [q44_6, hin, d17, d31, d58]; (repeat' (first | refine hK _ _ ?_ | refine And.intro ?_ ?_ | (intro hc; try subst hc))) <;> (try clear hK K))
                        | (refine wreg (mos := q44_7) hE [3, 4, 6, 9, 10, 11, 12, 13, 14, 15, 16] (by kernel_rfl) ?_; intro K hK; simp [q44_7, hin, d17, d31, d58]; (repeat' (first | refine hK _ _ ?_ | refine And.intro ?_ ?_ | (intro hc; try subst hc))) <;> (try clear hK K))
                        | (refine wreg (mos := q44_8) hE [3, 4, 6, 9, 10, 11, 12, 13, 14, 15, 16, 56] (by kernel_rfl) ?_; intro K hK; simp [q44_8, hin, d17, d31, d58]; (repeat' (first | refine hK _ _ ?_ | refine And.intro ?_ ?_ | (intro hc; try subst hc))) <;> (try clear hK K))
                        | (refine wreg (mos := q44_9) hE [3, 4, 6, 9, 10, 11, 12, 13, 14, 15, 16, 17] (by kernel_rfl) ?_; intro K hK; simp [q44_9, hin, d17, d31, d58]; (repeat' (first | refine hK _ _ ?_ | refine And.intro ?_ ?_ | (intro hc; try subst hc))) <;> (try clear hK K))
                        | (refine wreg (mos := q44_10) hE [3, 4, 6, 9, 10, 11, 12, 13, 14, 15, 16, 17, 18] (by kernel_rfl) ?_; intro K hK; simp [q44_10, hin, d17, d31, d58]; (repeat' (first | refine hK _ _ ?_ | refine And.intro ?_ ?_ | (intro hc; try subst hc))) <;> (try clear hK K))
                        | (refine wreg (mos := q44_11) hE [3, 4, 6, 9, 10, 11, 12, 13, 14, 15, 16, 17, 18, 71] (by kernel_rfl) ?_; intro K hK; simp [q44_11, hin, d17, d31, d58]; (repeat' (first | refine hK _ _ ?_ | refine And.intro ?_ ?_ | (intro hc; try subst hc))) <;> (try clear hK K))
                        | (refine wreg (mos := q44_12) hE [3, 4, 6, 9, 10, 11, 12, 13, 14, 15, 16, 17] (by kernel_rfl) ?_; intro K hK; simp [q44_12, hin, d17, d31, d58]; (repeat' (first | refine hK _ _ ?_ | refine And.intro ?_ ?_ | (intro hc; try subst hc))) <;> (try clear hK K))
                        | (refine wdraw (mos := q44_13) hE mixT c44_13 [3, 4, 6, 9, 10, 11, 12, 13, 14, 15, 16] (by kernel_rfl) ?_; intro K hK; simp [q44_13, c44_13, hin, d17, d31, d58]; (repeat' (first | refine hK _ _ ?_ | refine And.intro ?_ ?_ | (intro hc; try subst hc))) <;> (try clear hK K))
                        | (refine wreg (mos := q44_14) hE [3, 4, 6, 9, 10, 11, 12, 13, 14, 15, 16, 17, 18, 96] (by kernel_rfl) ?_; intro K hK; simp [q44_14, hin, d17, d31, d58]; (repeat' (first | refine hK _ _ ?_ | refine And.intro ?_ ?_ | (intro hc; try subst hc))) <;> (try clear hK K))
                        | (refine wreg (mos := q44_15) hE [3, 4, 6, 9, 10, 11, 12, 13, 14, 15, 16, 19] (by kernel_rfl) ?_; intro K hK; simp [q44_15, hin, d17, d31, d58]; (repeat' (first | refine hK _ _ ?_ | refine And.intro ?_ ?_ | (intro hc; try subst hc))) <;> (try clear hK K))
                        | (refine wreg (mos := q44_16) hE [3, 4, 6, 9, 10, 11, 12, 13, 14, 15, 16, 19] (by kernel_rfl) ?_; intro K hK; simp [q44_16, hin, d17, d31, d58]; (repeat' (first | refine hK _ _ ?_ | refine And.intro ?_ ?_ | (intro hc; try subst hc))) <;> (try clear hK K))
                        | (refine wreg (mos := q44_17) hE [3, 4, 6, 9, 10, 11, 12, 13, 14, 15, 16] (by kernel_rfl) ?_; intro K hK; simp [q44_17, hin, d17, d31, d58]; (repeat' (first | refine hK _ _ ?_ | refine And.intro ?_ ?_ | (intro hc; try subst hc))) <;> (try clear hK K))
                        | (refine wreg (mos := q44_18) hE [3, 4, 6, 9, 10, 11, 12, 13, 14, 15, 16, 17, 115] (by kernel_rfl) ?_; intro K hK; simp [q44_18, hin, d17, d31, d58]; (repeat' (first | refine hK _ _ ?_ | refine And.intro ?_ ?_ | (intro hc; try subst hc))) <;> (try clear hK K))
                        | (refine wreg (mos := q44_19) hE [3, 4, 6, 9, 10, 11, 12, 13, 14, 15, 16] (by kernel_rfl) ?_; intro K hK; simp [q44_19, hin, d17, d31, d58]; (repeat' (first | refine hK _ _ ?_ | refine And.intro ?_ ?_ | (intro hc; try subst hc))) <;> (try clear hK K))
                        | (refine wreg (mos := q44_20) hE [3, 4, 6, 9, 10, 11, 12, 13, 14, 15, 16, 17, 20] (by kernel_rfl) ?_; intro K hK; simp [q44_20, hin, d17, d31, d58]; (repeat' (first | refine hK _ _ ?_ | refine And.intro ?_ ?_ | (intro hc; try subst hc))) <;> (try clear hK K))
                        | (refine wreg (mos := q44_21) hE [3, 4, 6, 9, 10, 11, 12, 13, 14, 15, 16, 17, 20, 137] (by kernel_rfl) ?_; intro K hK; simp [q44_21, hin, d17, d31, d58]; (repeat' (first | refine hK _ _ ?_ | refine And.intro ?_ ?_ | (intro hc; try subst hc))) <;> (try clear hK K))
                        | (refine wreg (mos := q44_22) hE [3, 4, 6, 9, 10, 11, 12, 13, 14, 15, 16, 17] (by kernel_rfl) ?_; intro K hK; simp [q44_22, hin, d17, d31, d58]; (repeat' (first | refine hK _ _ ?_ | refine And.intro ?_ ?_ | (intro hc; try subst hc))) <;> (try clear hK K))
                        | (refine wreg (mos := q44_23) hE [3, 4, 6, 9, 10, 11, 12, 13, 14, 15, 16, 17, 21] (by kernel_rfl) ?_; intro K hK; simp [q44_23, hin, d17, d31, d58]; (repeat' (first | refine hK _ _ ?_ | refine And.intro ?_ ?_ | (intro hc; try subst hc))) <;> (try clear hK K))
                        | (refine wreg (mos := q44_24) hE [3, 4, 6, 9, 10, 11, 12, 13, 14, 15, 16, 17, 21, 145] (by kernel_rfl) ?_; intro K hK; simp [q44_24, hin, d17, d31, d58]; (repeat' (first | refine hK _ _ ?_ | refine And.intro ?_ ?_ | (intro hc; try subst hc))) <;> (try clear hK K))
                        | (refine wreg (mos := q44_25) hE [3, 4, 6, 9, 10, 11, 12, 13, 14, 15, 16, 17, 21] (by kernel_rfl) ?_; intro K hK; simp [q44_25, hin, d17, d31, d58]; (repeat' (first | refine hK _ _ ?_ | refine And.intro ?_ ?_ | (intro hc; try subst hc))) <;> (try clear hK K))
                        | (refine wreg (mos := q44_26) hE [3, 4, 6, 9, 10, 11, 12, 13, 14, 15, 16, 17, 21] (by kernel_rfl) ?_; intro K hK; simp [q44_26, hin, d17, d31, d58]; (repeat' (first | refine hK _ _ ?_ | refine And.intro ?_ ?_ | (intro hc; try subst hc))) <;> (try clear hK K))
                        | (refine wreg (mos := q44_27) hE [8] (by kernel_rfl) ?_; intro K hK; simp [q44_27, hin, d17, d31, d58]; (repeat' (first | refine hK _ _ ?_ | refine And.intro ?_ ?_ | (intro hc; try subst hc))) <;> (try clear hK K))
                        | (refine Wm_cond (b := _) (by with_unfolding_all rfl) (fun hc => ?_) (fun hc => ?_) <;> simp at hc <;> (try subst hc)))
                      all_goals refine ⟨(stepZ A b c d ma mt md ms mp mw) q, ⟨hK.step hlen fd.2, (run_step (step_more _ _ _ _ _ _ _ _ _ _) hlen).trans hR⟩, ?_, ?_⟩
                      · show N - ((stepZ A b c d ma mt md ms mp mw) q).out.length < N - q.out.length
                        have := step_more A b c d ma mt md ms mp mw q
                        omega
                      · simp [I44, stepZ, kZ, whoZ, hWd, hid, hk1, hk2, hk3, hTn, hpk]
                        rw [hS]
                        refine Imp.auto (by kernel_rfl) ?_ ?_ <;> simp [nmap, lkp, mkPl, prs, prsL, prT, ddL, idL, NLe, CRenL, CRen, Ren, RenL, NObj.none, hit, hic, hit2, hic2, intR, hrt, hrc, evR]
        · have hnl : ¬ (q.out.length : Int) < (N : Int) := by omega
          have hnl2 : N ≤ q.out.length := by omega
          have hmn : min N q.out.length = N := Nat.min_eq_left hnl2
          have hfin : runZ (stepZ A b c d ma mt md ms mp mw) N N ⟨s, List.replicate A 0, 0, []⟩ = q := by rw [← hR, run_done hnl2]
          have hsc : scriptL A b c d ma mt md ms mp mw s N = q.out.take N := by simp only [scriptL, Int.toNat_natCast]; rw [hfin]
          have hr1 := rows_t0 (rows_take hK.rows N)
          have hr2 := rows_cl (rows_take hK.rows N)
          repeat' with_reducible (first
            | refine Wm_seq ?_
            | refine Wm_skip ?_
            | refine Wm_ret ?_
            | refine Wm_block ?_
            | refine Wm_exit ?_
            | refine thenK_normal ?_
            | refine thenK_ret ?_
            | refine thenK_exit ?_
            | refine blockK_normal ?_
            | refine blockK_ret ?_
            | refine blockK_here ?_
            | refine loopK_ret ?_
            | refine loopK_exit ?_
            | refine unK_ret ?_
            | refine unK_exit ?_
            | refine unK_normal ?_
            | refine loopOk_succ ?_
            | refine blockK_exit (by decide) ?_
            | (refine wreg (mos := q44_0) hE [1, 3, 4, 6] (by kernel_rfl) ?_; intro K hK; simp [q44_0, intR, hnl, hnl2, hta, hlen, d17, d31, d58]; (repeat' (first | refine hK _ _ ?_ | refine And.intro ?_ ?_ | (intro hc; try subst hc))) <;> (try clear hK K))
            | (refine wreg (mos := q44_1) hE [3, 4, 6, 9] (by kernel_rfl) ?_; intro K hK; simp [q44_1, intR, hnl, hnl2, hta, hlen, d17, d31, d58]; (repeat' (first | refine hK _ _ ?_ | refine And.intro ?_ ?_ | (intro hc; try subst hc))) <;> (try clear hK K))
            | (refine wreg (mos := q44_2) hE [3, 4, 6, 9, 10] (by kernel_rfl) ?_; intro K hK; simp [q44_2, intR, hnl, hnl2, hta, hlen, d17, d31, d58]; (repeat' (first | refine hK _ _ ?_ | refine And.intro ?_ ?_ | (intro hc; try subst hc))) <;> (try clear hK K))
            | (refine wreg (mos := q44_3) hE [3, 4, 6, 9, 10, 11] (by kernel_rfl) ?_; intro K hK; simp [q44_3, intR, hnl, hnl2, hta, hlen, d17, d31, d58]; (repeat' (first | refine hK _ _ ?_ | refine And.intro ?_ ?_ | (intro hc; try subst hc))) <;> (try clear hK K))
            | (refine wreg (mos := q44_4) hE [3, 4, 6, 9, 10, 11, 12] (by kernel_rfl) ?_; intro K hK; simp [q44_4, intR, hnl, hnl2, hta, hlen, d17, d31, d58]; (repeat' (first | refine hK _ _ ?_ | refine And.intro ?_ ?_ | (intro hc; try subst hc))) <;> (try clear hK K))
            | (refine wdraw (mos := q44_5) hE mixT c44_5 [3, 4, 6, 9, 10, 11, 12, 13, 14, 15] (by kernel_rfl) ?_; intro K hK; simp [q44_5, c44_5, intR, hnl, hnl2, hta, hlen, d17, d31, d58]; (repeat' (first | refine hK _ _ ?_ | refine And.intro ?_ ?_ | (intro hc; try subst hc))) <;> (try clear hK K))
            | (refine wreg (mos := q44_6) hE [3, 4, 6, 9, 10, 11, 12, 13, 14, 15] (by kernel_rfl) ?_; intro K hK; simp [q44_6, intR, hnl, hnl2, hta, hlen, d17, d31, d58]; (repeat' (first | refine hK _ _ ?_ | refine And.intro ?_ ?_ | (intro hc; try subst hc))) <;> (try clear hK K))
            | (refine wreg (mos := q44_7) hE [3, 4, 6, 9, 10, 11, 12, 13, 14, 15, 16] (by kernel_rfl) ?_; intro K hK; simp [q44_7, intR, hnl, hnl2, hta, hlen, d17, d31, d58]; (repeat' (first | refine hK _ _ ?_ | refine And.intro ?_ ?_ | (intro hc; try subst hc))) <;> (try clear hK K))
            | (refine wreg (mos := q44_8) hE [3, 4, 6, 9, 10, 11, 12, 13, 14, 15, 16, 56] (by kernel_rfl) ?_; intro K hK; simp [q44_8, intR, hnl, hnl2, hta, hlen, d17, d31, d58]; (repeat' (first | refine hK _ _ ?_ | refine And.intro ?_ ?_ | (intro hc; try subst hc))) <;> (try clear hK K))
            | (refine wreg (mos := q44_9) hE [3, 4, 6, 9, 10, 11, 12, 13, 14, 15, 16, 17] (by kernel_rfl) ?_; intro K hK; simp [q44_9, intR, hnl, hnl2, hta, hlen, d17, d31, d58]; (repeat' (first | refine hK _ _ ?_ | refine And.intro ?_ ?_ | (intro hc; try subst hc))) <;> (try clear hK K))
            | (refine wreg (mos := q44_10) hE [3, 4, 6, 9, 10, 11, 12, 13, 14, 15, 16, 17, 18] (by kernel_rfl) ?_; intro K hK; simp [q44_10, intR, hnl, hnl2, hta, hlen, d17, d31, d58]; (repeat' (first | refine hK _ _ ?_ | refine And.intro ?_ ?_ | (intro hc; try subst hc))) <;> (try clear hK K))
            | (refine wreg (mos := q44_11) hE [3, 4, 6, 9, 10, 11, 12, 13, 14, 15, 16, 17, 18, 71] (by kernel_rfl) ?_; intro K hK; simp [q44_11, intR, hnl, hnl2, hta, hlen, d17, d31, d58]; (repeat' (first | refine hK _ _ ?_ | refine And.intro ?_ ?_ | (intro hc; try subst hc))) <;> (try clear hK K))
            | (refine wreg (mos := q44_12) hE [3, 4, 6, 9, 10, 11, 12, 13, 14, 15, 16, 17] (by kernel_rfl) ?_; intro K hK; simp [q44_12, intR, hnl, hnl2, hta, hlen, d17, d31, d58]; (repeat' (first | refine hK _ _ ?_ | refine And.intro ?_ ?_ | (intro hc; try subst hc))) <;> (try clear hK K))
            | (refine wdraw (mos := q44_13) hE mixT c44_13 [3, 4, 6, 9, 10, 11, 12, 13, 14, 15, 16] (by kernel_rfl) ?_; intro K hK; simp [q44_13, c44_13, intR, hnl, hnl2, hta, hlen, d17, d31, d58]; (repeat' (first | refine hK _ _ ?_ | refine And.intro ?_ ?_ | (intro hc; try subst hc))) <;> (try clear hK K))
            | (refine wreg (mos := q44_14) hE [3, 4, 6, 9, 10, 11, 12, 13, 14, 15, 16, 17, 18, 96] (by kernel_rfl) ?_; intro K hK; simp [q44_14, intR, hnl, hnl2, hta, hlen, d17, d31, d58]; (repeat' (first | refine hK _ _ ?_ | refine And.intro ?_ ?_ | (intro hc; try subst hc))) <;> (try clear hK K))
            | (refine wreg (mos := q44_15) hE [3, 4, 6, 9, 10, 11, 12, 13, 14, 15, 16, 19] (by kernel_rfl) ?_; intro K hK; simp [q44_15, intR, hnl, hnl2, hta, hlen, d17, d31, d58]; (repeat' (first | refine hK _ _ ?_ | refine And.intro ?_ ?_ | (intro hc; try subst hc))) <;> (try clear hK K))
            | (refine wreg (mos := q44_16) hE [3, 4, 6, 9, 10, 11, 12, 13, 14, 15, 16, 19] (by kernel_rfl) ?_; intro K hK; simp [q44_16, intR, hnl, hnl2, hta, hlen, d17, d31, d58]; (repeat' (first | refine hK _ _ ?_ | refine And.intro ?_ ?_ | (intro hc; try subst hc))) <;> (try clear hK K))
            | (refine wreg (mos := q44_17) hE [3, 4, 6, 9, 10, 11, 12, 13, 14, 15, 16] (by kernel_rfl) ?_; intro K hK; simp [q44_17, intR, hnl, hnl2, hta, hlen, d17, d31, d58]; (repeat' (first | refine hK _ _ ?_ | refine And.intro ?_ ?_ | (intro hc; try subst hc))) <;> (try clear hK K))
            | (refine wreg (mos := q44_18) hE [3, 4, 6, 9, 10, 11, 12, 13, 14, 15, 16, 17, 115] (by kernel_rfl) ?_; intro K hK; simp [q44_18, intR, hnl, hnl2, hta, hlen, d17, d31, d58]; (repeat' (first | refine hK _ _ ?_ | refine And.intro ?_ ?_ | (intro hc; try subst hc))) <;> (try clear hK K))
            | (refine wreg (mos := q44_19) hE [3, 4, 6, 9, 10, 11, 12, 13, 14, 15, 16] (by kernel_rfl) ?_; intro K hK; simp [q44_19, intR, hnl, hnl2, hta, hlen, d17, d31, d58]; (repeat' (first | refine hK _ _ ?_ | refine And.intro ?_ ?_ | (intro hc; try subst hc))) <;> (try clear hK K))
            | (refine wreg (mos := q44_20) hE [3, 4, 6, 9, 10, 11, 12, 13, 14, 15, 16, 17, 20] (by kernel_rfl) ?_; intro K hK; simp [q44_20, intR, hnl, hnl2, hta, hlen, d17, d31, d58]; (repeat' (first | refine hK _ _ ?_ | refine And.intro ?_ ?_ | (intro hc; try subst hc))) <;> (try clear hK K))
            | (refine wreg (mos := q44_21) hE [3, 4, 6, 9, 10, 11, 12, 13, 14, 15, 16, 17, 20, 137] (by kernel_rfl) ?_; intro K hK; simp [q44_21, intR, hnl, hnl2, hta, hlen, d17, d31, d58]; (repeat' (first | refine hK _ _ ?_ | refine And.intro ?_ ?_ | (intro hc; try subst hc))) <;> (try clear hK K))
            | (refine wreg (mos := q44_22) hE [3, 4, 6, 9, 10, 11, 12, 13, 14, 15, 16, 17] (by kernel_rfl) ?_; intro K hK; simp [q44_22, intR, hnl, hnl2, hta, hlen, d17, d31, d58]; (repeat' (first | refine hK _ _ ?_ | refine And.intro ?_ ?_ | (intro hc; try subst hc))) <;> (try clear hK K))
            | (refine wreg (mos := q44_23) hE [3, 4, 6, 9, 10, 11, 12, 13, 14, 15, 16, 17, 21] (by kernel_rfl) ?_; intro K hK; simp [q44_23, intR, hnl, hnl2, hta, hlen, d17, d31, d58]; (repeat' (first | refine hK _ _ ?_ | refine And.intro ?_ ?_ | (intro hc; try subst hc))) <;> (try clear hK K))
            | (refine wreg (mos := q44_24) hE [3, 4, 6, 9, 10, 11, 12, 13, 14, 15, 16, 17, 21, 145] (by kernel_rfl) ?_; intro K hK; simp [q44_24, intR, hnl, hnl2, hta, hlen, d17, d31, d58]; (repeat' (first | refine hK _ _ ?_ | refine And.intro ?_ ?_ | (intro hc; try subst hc))) <;> (try clear hK K))
            | (refine wreg (mos := q44_25) hE [3, 4, 6, 9, 10, 11, 12, 13, 14, 15, 16, 17, 21] (by kernel_rfl) ?_; intro K hK; simp [q44_25, intR, hnl, hnl2, hta, hlen, d17, d31, d58]; (repeat' (first | refine hK _ _ ?_ | refine And.intro ?_ ?_ | (intro hc; try subst hc))) <;> (try clear hK K))
            | (refine wreg (mos := q44_26) hE [3, 4, 6, 9, 10, 11, 12, 13, 14, 15, 16, 17, 21] (by kernel_rfl) ?_; intro K hK; simp [q44_26, intR, hnl, hnl2, hta, hlen, d17, d31, d58]; (repeat' (first | refine hK _ _ ?_ | refine And.intro ?_ ?_ | (intro hc; try subst hc))) <;> (try clear hK K))
            | (refine wreg (mos := q44_27) hE [8] (by kernel_rfl) ?_; intro K hK; simp [q44_27, intR, hnl, hnl2, hta, hlen, d17, d31, d58]; (repeat' (first | refine hK _ _ ?_ | refine And.intro ?_ ?_ | (intro hc; try subst hc))) <;> (try clear hK K))
            | (refine Wm_cond (b := _) (by with_unfolding_all rfl) (fun hc => ?_) (fun hc => ?_) <;> simp at hc <;> (try subst hc)))
          all_goals (simp [hsc]; refine (Imp.shrink (k := 4) N rfl (rows_plain hK.rows)).trans ?_; refine Imp.auto (by kernel_rfl) ?_ ?_ <;> simp [nmap, lkp, mkPl, prs, prsL, prT, ddL, idL, NLe, CRenL, CRen, Ren, RenL, NObj.none, hr1, hr2, hmn])
    · cases h
  · cases h
end Go.W
