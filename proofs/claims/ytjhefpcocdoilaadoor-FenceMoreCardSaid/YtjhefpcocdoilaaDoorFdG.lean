/- A part of the proof (FdF, FcA, FdG). -/
import Derived.Test.YtjhefpcocdoilaaDoorFdD
import Derived.Test.YtjhefpcocdoilaaDoorWbA
import Derived.Test.YtjhefpcocdoilaaDoorPqA
namespace Go.W
open Go.Proofs
set_option linter.unusedSimpArgs false
set_option linter.unusedVariables false
set_option maxHeartbeats 8000000
attribute [local irreducible] Wm
attribute [local simp] nmap lkp mkPl prs prsL prT ddL idL CRenL CRen Ren RenL NObj.none CRenLL

def d12 : List AV → Option Ans
  | [.op _ lc, .int .i64 p, .agg [.int .i64 uo, .int .i64 uq, .int .i64 uw, .int .i64 un, .int .i64 ub, .int .i64 us]] => (match fcOf lc with
    | some Z => if 0 ≤ p ∧ bd un ∧ bd ub ∧ bd us then (match Z.L[p.toNat]? with
      | some r => some ⟨.bool (decide (withinP r uo uq uw un ub us)), [.free]⟩
      | none => none) else none
    | none => none)
  | _ => none
theorem ok12 : NOk [(8, false)] d12 := by
  intro xs aa h
  unfold d12 at h
  split at h
  · split at h
    · rename_i Z hz
      obtain rfl := fcOf_ex hz
      (repeat' (split at h)) <;> first | (cases h; done) | (injection h with h; subst h; refine ⟨Ends_of ?_, ?_⟩ <;> simp [fc_t0, fc_cl])
    · cases h
  · cases h
theorem s12 : Sound Tryd.prog 12 (nestS [(8, false)] d12 ok12) := by
  refine nest_sound Tryd.func12 nm12 rc12 rv12 ok12 (fun xs a h => ?_) fun xs a h w0 S hS => ?_
  · unfold d12 at h
    (repeat' (split at h)) <;> first | (cases h; done) | exact Nat.le_of_ble_eq_true rfl
  unfold d12 at h
  split at h
  · rename_i u lc p uo uq uw un ub us
    split at h
    · rename_i Z hZ
      obtain rfl := fcOf_ex hZ
      clear hZ
      have z1 := l5_t0 Z.L
      have z2 := l5_cl Z.L
      have l1 := l5_len Z.L
      split at h
      · rename_i hp
        split at h
        · rename_i r hr
          injection h with h
          subst h
          obtain ⟨hp, b1, b2, b3⟩ := hp
          have hE : SoundAll Tryd.prog (EL [(18, nestS [(8, false)] d18 ok18), (19, nestS [] d19 ok19)]) := EL_sound (by simp only [List.mem_cons, List.not_mem_nil, or_false, forall_eq_or_imp, forall_eq]; exact ⟨s18, s19⟩)
          have h18 : ∀ u, d18 [.op u (fcC Z), .int .i64 p] = some ⟨.tup [.agg (l5C r), .bool true], [.free]⟩ := fun u => by
            simp only [d18, fcOf_C]
            rw [if_pos hp]
            simp only [hr]
          have h19 : d19 [.agg [.int .i64 uo, .int .i64 uq, .int .i64 uw, .int .i64 un, .int .i64 ub, .int .i64 us], .int .i64 (-1), .int .i64 0] = some ⟨.int .i64 (farZ un ub us (-1) 0), []⟩ := by
            simp only [d19]
            rw [if_pos ⟨b1, b2, b3, by unfold bd; omega⟩]
          simp only [fcC, l5C] at hS h18 ⊢
          by_cases e0 : uo ≤ r.o
          · by_cases e1 : uq ≤ r.q
            · by_cases e2 : uw ≤ r.w
              · by_cases e3 : farZ un ub us (-1) 0 ≤ r.n
                · have hw : decide (withinP r uo uq uw un ub us) = true := decide_eq_true ⟨e0, e1, e2, e3⟩
                  rw [hw]
                  unfold m12
                  repeat' with_reducible (first
                    | refine ZR.h ?_ | refine zI (by decide) ?_
                    | ((first | refine zK hE ?_ | refine zL hE mixT ?_); intro K hK; simp [KR.ks, KD.ks, KD.cl, q12_0, q12_1, q12_2, z1, z2, l1, h18, h19, e0, e1, e2, e3]; (repeat' (first | refine hK _ _ ?_ | refine And.intro ?_ ?_ | (intro hc; try subst hc))) <;> (try clear hK K))
                    | (refine zJ (b := _) (by with_unfolding_all rfl) (fun hc => ?_) (fun hc => ?_) <;> simp at hc <;> (try subst hc)))
                  all_goals first | (simp; done) | (simp at *; omega) | ((try simp[z1, z2]); refine Imp.auto (by kernel_rfl) ?_ ?_ <;> simp [NLe, z1, z2])
                · have hw : decide (withinP r uo uq uw un ub us) = false := decide_eq_false fun h => e3 h.2.2.2
                  rw [hw]
                  unfold m12
                  repeat' with_reducible (first
                    | refine ZR.h ?_ | refine zI (by decide) ?_
                    | ((first | refine zK hE ?_ | refine zL hE mixT ?_); intro K hK; simp [KR.ks, KD.ks, KD.cl, q12_0, q12_1, q12_2, z1, z2, l1, h18, h19, e0, e1, e2, e3]; (repeat' (first | refine hK _ _ ?_ | refine And.intro ?_ ?_ | (intro hc; try subst hc))) <;> (try clear hK K))
                    | (refine zJ (b := _) (by with_unfolding_all rfl) (fun hc => ?_) (fun hc => ?_) <;> simp at hc <;> (try subst hc)))
                  all_goals first | (simp; done) | (simp at *; omega) | ((try simp[z1, z2]); refine Imp.auto (by kernel_rfl) ?_ ?_ <;> simp [NLe, z1, z2])
              · have hw : decide (withinP r uo uq uw un ub us) = false := decide_eq_false fun h => e2 h.2.2.1
                rw [hw]
                unfold m12
                repeat' with_reducible (first
                  | refine ZR.h ?_ | refine zI (by decide) ?_
                  | ((first | refine zK hE ?_ | refine zL hE mixT ?_); intro K hK; simp [KR.ks, KD.ks, KD.cl, q12_0, q12_1, q12_2, z1, z2, l1, h18, h19, e0, e1, e2]; (repeat' (first | refine hK _ _ ?_ | refine And.intro ?_ ?_ | (intro hc; try subst hc))) <;> (try clear hK K))
                  | (refine zJ (b := _) (by with_unfolding_all rfl) (fun hc => ?_) (fun hc => ?_) <;> simp at hc <;> (try subst hc)))
                all_goals first | (simp; done) | (simp at *; omega) | ((try simp[z1, z2]); refine Imp.auto (by kernel_rfl) ?_ ?_ <;> simp [NLe, z1, z2])
            · have hw : decide (withinP r uo uq uw un ub us) = false := decide_eq_false fun h => e1 h.2.1
              rw [hw]
              unfold m12
              repeat' with_reducible (first
                | refine ZR.h ?_ | refine zI (by decide) ?_
                | ((first | refine zK hE ?_ | refine zL hE mixT ?_); intro K hK; simp [KR.ks, KD.ks, KD.cl, q12_0, q12_1, q12_2, z1, z2, l1, h18, h19, e0, e1]; (repeat' (first | refine hK _ _ ?_ | refine And.intro ?_ ?_ | (intro hc; try subst hc))) <;> (try clear hK K))
                | (refine zJ (b := _) (by with_unfolding_all rfl) (fun hc => ?_) (fun hc => ?_) <;> simp at hc <;> (try subst hc)))
              all_goals first | (simp; done) | (simp at *; omega) | ((try simp[z1, z2]); refine Imp.auto (by kernel_rfl) ?_ ?_ <;> simp [NLe, z1, z2])
          · have hw : decide (withinP r uo uq uw un ub us) = false := decide_eq_false fun h => e0 h.1
            rw [hw]
            unfold m12
            repeat' with_reducible (first
              | refine ZR.h ?_ | refine zI (by decide) ?_
              | ((first | refine zK hE ?_ | refine zL hE mixT ?_); intro K hK; simp [KR.ks, KD.ks, KD.cl, q12_0, q12_1, q12_2, z1, z2, l1, h18, h19, e0]; (repeat' (first | refine hK _ _ ?_ | refine And.intro ?_ ?_ | (intro hc; try subst hc))) <;> (try clear hK K))
              | (refine zJ (b := _) (by with_unfolding_all rfl) (fun hc => ?_) (fun hc => ?_) <;> simp at hc <;> (try subst hc)))
            all_goals first | (simp; done) | (simp at *; omega) | ((try simp[z1, z2]); refine Imp.auto (by kernel_rfl) ?_ ?_ <;> simp [NLe, z1, z2])
        · cases h
      · cases h
    · cases h
  · cases h
end Go.W
namespace Go.W
open Go.Proofs
set_option linter.unusedSimpArgs false
set_option linter.unusedVariables false
set_option maxHeartbeats 8000000
attribute [local irreducible] Wm
attribute [local simp] nmap lkp mkPl prs prsL prT ddL idL CRenL CRen Ren RenL NObj.none CRenLL

def d14 : List AV → List NObj → Option AV
  | [.int .i64 _, .iface _ _], [] => some (.iface 71 .bot)
  | _, _ => none

theorem ok14 : ROk d14 := by
  intro xs os r h
  unfold d14 at h
  (repeat' (split at h)) <;> first | (cases h; done) | (injection h with h; subst h; simp)

theorem s14 : Sound Tryd.prog 14 (rdS d14 ok14) := by
  refine rd_sound Tryd.func14 nm14 rc14 rv14 ok14 fun xs os r h vs ρ0 hvs => ⟨xs, ?_, fun _ h => h, fun w0 S hS => ?_⟩
  · unfold d14 at h
    (repeat' (split at h)) <;> first | (cases h; done) | exact Nat.le_of_ble_eq_true rfl
  unfold d14 at h
  split at h
  · skip
    injection h with h
    subst h
    have hE : SoundAll Tryd.prog (EL []) := EL_sound (by simp)
    unfold m14
    repeat' with_reducible (first
      | refine ZR.h ?_ | refine zI (by decide) ?_
      | (refine zK hE ?_; intro K hK; simp [KR.ks, q14_0, q14_1, q14_2, q14_3]; (repeat' (first | refine hK _ _ ?_ | refine And.intro ?_ ?_ | (intro hc; try subst hc))) <;> (try clear hK K))
      | (refine zJ (b := _) (by with_unfolding_all rfl) (fun hc => ?_) (fun hc => ?_) <;> simp at hc <;> (try subst hc)))
    all_goals first | (simp; done) | (simp at *; omega) | ((try simp); refine Imp.auto (by kernel_rfl) ?_ ?_ <;> simp [NLe])
  · cases h

def d15 : List AV → List NObj → Option AV
  | [.str _, .iface _ _], [] => some (.iface 74 .bot)
  | _, _ => none

theorem ok15 : ROk d15 := by
  intro xs os r h
  unfold d15 at h
  (repeat' (split at h)) <;> first | (cases h; done) | (injection h with h; subst h; simp)

theorem s15 : Sound Tryd.prog 15 (rdS d15 ok15) := by
  refine rd_sound Tryd.func15 nm15 rc15 rv15 ok15 fun xs os r h vs ρ0 hvs => ⟨xs, ?_, fun _ h => h, fun w0 S hS => ?_⟩
  · unfold d15 at h
    (repeat' (split at h)) <;> first | (cases h; done) | exact Nat.le_of_ble_eq_true rfl
  unfold d15 at h
  split at h
  · skip
    injection h with h
    subst h
    have hE : SoundAll Tryd.prog (EL []) := EL_sound (by simp)
    unfold m15
    repeat' with_reducible (first
      | refine ZR.h ?_ | refine zI (by decide) ?_
      | (refine zK hE ?_; intro K hK; simp [KR.ks, q15_0, q15_1, q15_2, q15_3]; (repeat' (first | refine hK _ _ ?_ | refine And.intro ?_ ?_ | (intro hc; try subst hc))) <;> (try clear hK K))
      | (refine zJ (b := _) (by with_unfolding_all rfl) (fun hc => ?_) (fun hc => ?_) <;> simp at hc <;> (try subst hc)))
    all_goals first | (simp; done) | (simp at *; omega) | ((try simp); refine Imp.auto (by kernel_rfl) ?_ ?_ <;> simp [NLe])
  · cases h

def d13 : List AV → Option Ans
  | [.agg [.int .i64 a, .int .i64 b, .int .i64 c, .int .i64 d, .int .i64 e, .int .i64 f, .int .i64 g]] => some ⟨.os 0 4 [[(.str (ByteArray.mk #[112, 97, 114, 116, 115])), .int .i64 a, .int .i64 1, .int .i64 6], [(.str (ByteArray.mk #[99, 101, 108, 108, 115])), .int .i64 b, .int .i64 1, .int .i64 4], [(.str (ByteArray.mk #[110, 97, 109, 101, 115])), .int .i64 c, .int .i64 1, .int .i64 3], [(.str (ByteArray.mk #[98, 97, 110, 100, 115])), .int .i64 d, .int .i64 1, .int .i64 4], [(.str (ByteArray.mk #[112, 114, 111, 98, 101, 115])), .int .i64 e, .int .i64 0, .int .i64 4], [(.str (ByteArray.mk #[102, 105, 108, 108, 115])), .int .i64 f, .int .i64 1, .int .i64 4], [(.str (ByteArray.mk #[103, 101, 110, 115])), .int .i64 g, .int .i64 1, .int .i64 15]], []⟩
  | _ => none

theorem ok13 : NOk [] d13 := by
  intro xs a h
  unfold d13 at h
  (repeat' (split at h)) <;> first | (cases h; done) | (injection h with h; subst h; refine ⟨Ends_of ?_, ?_⟩ <;> simp)

theorem s13 : Sound Tryd.prog 13 (nestS [] d13 ok13) := by
  refine nest_sound Tryd.func13 nm13 rc13 rv13 ok13 (fun xs a h => ?_) fun xs a h w0 S hS => ?_
  · unfold d13 at h
    (repeat' (split at h)) <;> first | (cases h; done) | exact Nat.le_of_ble_eq_true rfl
  unfold d13 at h
  split at h
  · rename_i a b c d e f g
    injection h with h
    subst h
    have hE : SoundAll Tryd.prog (EL []) := EL_sound (by simp)
    unfold m13
    repeat' with_reducible (first
      | refine ZR.h ?_ | refine zI (by decide) ?_
      | (refine zK hE ?_; intro K hK; simp [KR.ks, q13_0, q13_1]; (repeat' (first | refine hK _ _ ?_ | refine And.intro ?_ ?_ | (intro hc; try subst hc))) <;> (try clear hK K))
      | (refine zJ (b := _) (by with_unfolding_all rfl) (fun hc => ?_) (fun hc => ?_) <;> simp at hc <;> (try subst hc)))
    all_goals first | (simp; done) | (simp at *; omega) | ((try simp); refine Imp.auto (by kernel_rfl) ?_ ?_ <;> simp [NLe])
  · cases h

/-- The first number of a configuration that may not be; -1: none. -/
def checkZ (a b c d e f g : Int) : Int :=
  if a < 1 ∨ 6 < a then 0 else if b < 1 ∨ 4 < b then 1 else if c < 1 ∨ 3 < c then 2 else if d < 1 ∨ 4 < d then 3 else if e < 0 ∨ 4 < e then 4 else if f < 1 ∨ 4 < f then 5 else if g < 1 ∨ 15 < g then 6 else -1

def d4 : List AV → Option Ans
  | [.agg [.int .i64 a, .int .i64 b, .int .i64 c, .int .i64 d, .int .i64 e, .int .i64 f, .int .i64 g]] => some ⟨if checkZ a b c d e f g = -1 then .tup [.agg [.int .i64 a, .int .i64 b, .int .i64 c, .int .i64 d, .int .i64 e, .int .i64 f, .int .i64 g], .raw .nilIface] else .tup [.agg [.int .i64 0, .int .i64 0, .int .i64 0, .int .i64 0, .int .i64 0, .int .i64 0, .int .i64 0], .iface 71 .bot], []⟩
  | _ => none

theorem ok4 : NOk [] d4 := by
  intro xs a h
  unfold d4 at h
  split at h
  · injection h with h; subst h
    split <;> refine ⟨Ends_of ?_, ?_⟩ <;> simp
  · cases h

theorem s4 : Sound Tryd.prog 4 (nestS [] d4 ok4) := by
  refine nest_sound Tryd.func4 nm4 rc4 rv4 ok4 (fun xs a h => ?_) fun xs a h w0 S hS => ?_
  · unfold d4 at h
    (repeat' (split at h)) <;> first | (cases h; done) | exact Nat.le_of_ble_eq_true rfl
  unfold d4 at h
  split at h
  · rename_i a b c d e f g
    injection h with h
    subst h
    have hE : SoundAll Tryd.prog (EL [(13, nestS [] d13 ok13), (14, rdS d14 ok14), (15, rdS d15 ok15)]) := EL_sound (by simp only [List.mem_cons, List.not_mem_nil, or_false, forall_eq_or_imp, forall_eq]; exact ⟨s13, s14, s15⟩)
    unfold m4
    repeat' with_reducible (first
      | refine ZR.h ?_ | refine zI (by decide) ?_
      | (refine zK hE ?_; intro K hK; simp [KR.ks, q4_0, q4_1, q4_2, q4_3, q4_4, q4_5, q4_6, q4_7, d13, d14, d15]; (repeat' (first | refine hK _ _ ?_ | refine And.intro ?_ ?_ | (intro hc; try subst hc))) <;> (try clear hK K))
      | (refine zJ (b := _) (by with_unfolding_all rfl) (fun hc => ?_) (fun hc => ?_) <;> simp at hc <;> (try subst hc)))
    all_goals refine Wm_unroll 8 ?_
    repeat' with_reducible (first
      | refine ZR.h ?_ | refine zI (by decide) ?_
      | (refine zK hE ?_; intro K hK; simp [KR.ks, q4_0, q4_1, q4_2, q4_3, q4_4, q4_5, q4_6, q4_7, wrap_in, d13, d14, d15]; (repeat' (first | refine hK _ _ ?_ | refine And.intro ?_ ?_ | (intro hc; try subst hc))) <;> (try clear hK K))
      | (refine zJ (b := _) (by with_unfolding_all rfl) (fun hc => ?_) (fun hc => ?_) <;> simp at hc <;> (try subst hc)))
    all_goals first | (simp; done) | (have hz : checkZ a b c d e f g = -1 := (by simp [checkZ]; omega); simp [hz]; refine Imp.auto (by kernel_rfl) ?_ ?_ <;> simp [NLe]; done) | (have hz : ¬ checkZ a b c d e f g = -1 := (by simp [checkZ]; (repeat' split) <;> omega); simp [hz]; refine Imp.auto (by kernel_rfl) ?_ ?_ <;> simp [NLe])
  · cases h
end Go.W
namespace Go.W
open Go.Proofs
set_option linter.unusedSimpArgs false
set_option linter.unusedVariables false
set_option maxHeartbeats 8000000
attribute [local irreducible] Wm
attribute [local simp] nmap lkp mkPl prs prsL prT ddL idL CRenL CRen Ren RenL NObj.none CRenLL

theorem mul_bd {a b : Int} (h1 : smP a) (h2 : smP b) : -1152921504606846976 ≤ a * b ∧ a * b ≤ 1152921504606846976 := by
  obtain ⟨h1, h3⟩ := h1
  obtain ⟨h2, h4⟩ := h2
  have e : (a * b).natAbs = a.natAbs * b.natAbs := Int.natAbs_mul a b
  have f : a.natAbs * b.natAbs ≤ 1073741824 * 1073741824 := Nat.mul_le_mul (by omega) (by omega)
  omega
def d11 : List AV → Option Ans
  | [.op _ lc, .int .i64 p, .agg [.int .i64 kd, .int .i64 a1, .int .i64 a2, .int .i64 nm, .int .i64 sd, .int .i64 pr, .int .i64 a6, .int .i64 a7, .int .i64 qt], .agg [.int .i64 uo, .int .i64 uq, .int .i64 uw, .int .i64 un, .int .i64 ub, .int .i64 us], .int .i64 last] => (match fcOf lc with
    | some Z => if 0 ≤ p ∧ smP qt ∧ smP pr ∧ smP uo ∧ smP uq ∧ smP uw ∧ smP un ∧ smP ub ∧ smP us ∧ smP last then (match Z.L[p.toNat]? with
      | some r => some ⟨if kd ≠ 1 ∨ mayP r sd pr qt uo uq uw un ub us last then .raw .nilIface else .iface 74 .bot, [.free]⟩
      | none => none) else none
    | none => none)
  | _ => none
theorem ok11 : NOk [(8, false)] d11 := by
  intro xs aa h
  unfold d11 at h
  split at h
  · split at h
    · rename_i Z hz
      obtain rfl := fcOf_ex hz
      split at h
      · split at h
        · injection h with h; subst h; split <;> refine ⟨Ends_of ?_, ?_⟩ <;> simp [fc_t0, fc_cl]
        · cases h
      · cases h
    · cases h
  · cases h
theorem s11 : Sound Tryd.prog 11 (nestS [(8, false)] d11 ok11) := by
  refine nest_sound Tryd.func11 nm11 rc11 rv11 ok11 (fun xs a h => ?_) fun xs a h w0 S hS => ?_
  · unfold d11 at h
    (repeat' (split at h)) <;> first | (cases h; done) | exact Nat.le_of_ble_eq_true rfl
  unfold d11 at h
  split at h
  · rename_i u lc p kd a1 a2 nm sd pr a6 a7 qt uo uq uw un ub us last
    split at h
    · rename_i Z hZ
      obtain rfl := fcOf_ex hZ
      clear hZ
      have z1 := l5_t0 Z.L
      have z2 := l5_cl Z.L
      have l1 := l5_len Z.L
      split at h
      · rename_i hp
        split at h
        · rename_i r hr
          injection h with h
          subst h
          obtain ⟨hp, b1, b2, b3, b4, b5, b6, b7, b8, b9⟩ := hp
          obtain ⟨m1, m2⟩ := mul_bd b1 b2
          have hE : SoundAll Tryd.prog (EL [(18, nestS [(8, false)] d18 ok18), (19, nestS [] d19 ok19), (15, rdS d15 ok15)]) := EL_sound (by simp only [List.mem_cons, List.not_mem_nil, or_false, forall_eq_or_imp, forall_eq]; exact ⟨s18, s19, s15⟩)
          have h18 : ∀ u, d18 [.op u (fcC Z), .int .i64 p] = some ⟨.tup [.agg (l5C r), .bool true], [.free]⟩ := fun u => by
            simp only [d18, fcOf_C]
            rw [if_pos hp]
            simp only [hr]
          unfold smP at b1 b2 b3 b4 b5 b6 b7 b8 b9
          have h19 : d19 [.agg [.int .i64 uo, .int .i64 uq, .int .i64 uw, .int .i64 un, .int .i64 ub, .int .i64 us], .int .i64 sd, .int .i64 qt] = some ⟨.int .i64 (farZ un ub us sd qt), []⟩ := by
            simp only [d19]
            rw [if_pos ⟨by unfold bd; omega, by unfold bd; omega, by unfold bd; omega, by unfold bd; omega⟩]
          have w1 : IntKind.wrap .i64 (uo + 1) = uo + 1 := wrap_in (by omega) (by omega)
          have w2 : IntKind.wrap .i64 (uq + qt) = uq + qt := wrap_in (by omega) (by omega)
          have w3 : IntKind.wrap .i64 (qt * pr) = qt * pr := wrap_in (by omega) (by omega)
          have w4 : IntKind.wrap .i64 (uw + qt * pr) = uw + qt * pr := wrap_in (by omega) (by omega)
          have w5 : IntKind.wrap .i64 (pr - last) = pr - last := wrap_in (by omega) (by omega)
          have w6 : IntKind.wrap .i64 (last - pr) = last - pr := wrap_in (by omega) (by omega)
          simp only [fcC, l5C] at hS h18 ⊢
          by_cases hkd : kd = 1
          · by_cases e0 : r.o < uo + 1
            · have hw : ¬ (kd ≠ 1 ∨ mayP r sd pr qt uo uq uw un ub us last) := fun h => h.elim (fun h => h hkd) fun h => by have := h.1; omega
              rw [if_neg hw]
              unfold m11
              repeat' with_reducible (first
                | refine ZR.h ?_ | refine zI (by decide) ?_
                | ((first | refine zK hE ?_ | refine zL hE mixT ?_); intro K hK; simp [KR.ks, KD.ks, KD.cl, q11_0, q11_1, q11_2, q11_3, q11_4, q11_5, q11_6, q11_7, q11_8, q11_9, q11_10, q11_11, q11_12, q11_13, q11_14, q11_15, q11_16, q11_17, z1, z2, l1, h18, h19, w1, w2, w3, w4, w5, w6, hkd, e0, d15]; (repeat' (first | refine hK _ _ ?_ | refine And.intro ?_ ?_ | (intro hc; try subst hc))) <;> (try clear hK K))
                | (refine zJ (b := _) (by with_unfolding_all rfl) (fun hc => ?_) (fun hc => ?_) <;> simp at hc <;> (try subst hc)))
              all_goals first | (simp; done) | (simp at *; omega) | ((try simp[z1, z2]); refine Imp.auto (by kernel_rfl) ?_ ?_ <;> simp [NLe, z1, z2])
            · by_cases e1 : r.q < uq + qt
              · have hw : ¬ (kd ≠ 1 ∨ mayP r sd pr qt uo uq uw un ub us last) := fun h => h.elim (fun h => h hkd) fun h => by have := h.2.1; omega
                rw [if_neg hw]
                unfold m11
                repeat' with_reducible (first
                  | refine ZR.h ?_ | refine zI (by decide) ?_
                  | ((first | refine zK hE ?_ | refine zL hE mixT ?_); intro K hK; simp [KR.ks, KD.ks, KD.cl, q11_0, q11_1, q11_2, q11_3, q11_4, q11_5, q11_6, q11_7, q11_8, q11_9, q11_10, q11_11, q11_12, q11_13, q11_14, q11_15, q11_16, q11_17, z1, z2, l1, h18, h19, w1, w2, w3, w4, w5, w6, hkd, e0, e1, d15]; (repeat' (first | refine hK _ _ ?_ | refine And.intro ?_ ?_ | (intro hc; try subst hc))) <;> (try clear hK K))
                  | (refine zJ (b := _) (by with_unfolding_all rfl) (fun hc => ?_) (fun hc => ?_) <;> simp at hc <;> (try subst hc)))
                all_goals first | (simp; done) | (simp at *; omega) | ((try simp[z1, z2]); refine Imp.auto (by kernel_rfl) ?_ ?_ <;> simp [NLe, z1, z2])
              · by_cases e2 : r.w < uw + qt * pr
                · have hw : ¬ (kd ≠ 1 ∨ mayP r sd pr qt uo uq uw un ub us last) := fun h => h.elim (fun h => h hkd) fun h => by have := h.2.2.1; omega
                  rw [if_neg hw]
                  unfold m11
                  repeat' with_reducible (first
                    | refine ZR.h ?_ | refine zI (by decide) ?_
                    | ((first | refine zK hE ?_ | refine zL hE mixT ?_); intro K hK; simp [KR.ks, KD.ks, KD.cl, q11_0, q11_1, q11_2, q11_3, q11_4, q11_5, q11_6, q11_7, q11_8, q11_9, q11_10, q11_11, q11_12, q11_13, q11_14, q11_15, q11_16, q11_17, z1, z2, l1, h18, h19, w1, w2, w3, w4, w5, w6, hkd, e0, e1, e2, d15]; (repeat' (first | refine hK _ _ ?_ | refine And.intro ?_ ?_ | (intro hc; try subst hc))) <;> (try clear hK K))
                    | (refine zJ (b := _) (by with_unfolding_all rfl) (fun hc => ?_) (fun hc => ?_) <;> simp at hc <;> (try subst hc)))
                  all_goals first | (simp; done) | (simp at *; omega) | ((try simp[z1, z2]); refine Imp.auto (by kernel_rfl) ?_ ?_ <;> simp [NLe, z1, z2])
                · by_cases e3 : r.n < farZ un ub us sd qt
                  · have hw : ¬ (kd ≠ 1 ∨ mayP r sd pr qt uo uq uw un ub us last) := fun h => h.elim (fun h => h hkd) fun h => by have := h.2.2.2.1; omega
                    rw [if_neg hw]
                    unfold m11
                    repeat' with_reducible (first
                      | refine ZR.h ?_ | refine zI (by decide) ?_
                      | ((first | refine zK hE ?_ | refine zL hE mixT ?_); intro K hK; simp [KR.ks, KD.ks, KD.cl, q11_0, q11_1, q11_2, q11_3, q11_4, q11_5, q11_6, q11_7, q11_8, q11_9, q11_10, q11_11, q11_12, q11_13, q11_14, q11_15, q11_16, q11_17, z1, z2, l1, h18, h19, w1, w2, w3, w4, w5, w6, hkd, e0, e1, e2, e3, d15]; (repeat' (first | refine hK _ _ ?_ | refine And.intro ?_ ?_ | (intro hc; try subst hc))) <;> (try clear hK K))
                      | (refine zJ (b := _) (by with_unfolding_all rfl) (fun hc => ?_) (fun hc => ?_) <;> simp at hc <;> (try subst hc)))
                    all_goals first | (simp; done) | (simp at *; omega) | ((try simp[z1, z2]); refine Imp.auto (by kernel_rfl) ?_ ?_ <;> simp [NLe, z1, z2])
                  · by_cases e4 : 0 < last
                    · by_cases e5 : r.p < (if pr - last < last - pr then last - pr else pr - last)
                      · have hw : ¬ (kd ≠ 1 ∨ mayP r sd pr qt uo uq uw un ub us last) := fun h => h.elim (fun h => h hkd) fun h => by have := h.2.2.2.2; split at e5 <;> omega
                        rw [if_neg hw]
                        unfold m11
                        repeat' with_reducible (first
                          | refine ZR.h ?_ | refine zI (by decide) ?_
                          | ((first | refine zK hE ?_ | refine zL hE mixT ?_); intro K hK; simp [KR.ks, KD.ks, KD.cl, q11_0, q11_1, q11_2, q11_3, q11_4, q11_5, q11_6, q11_7, q11_8, q11_9, q11_10, q11_11, q11_12, q11_13, q11_14, q11_15, q11_16, q11_17, z1, z2, l1, h18, h19, w1, w2, w3, w4, w5, w6, hkd, e0, e1, e2, e3, e4, e5, d15]; (repeat' (first | refine hK _ _ ?_ | refine And.intro ?_ ?_ | (intro hc; try subst hc))) <;> (try clear hK K))
                          | (refine zJ (b := _) (by with_unfolding_all rfl) (fun hc => ?_) (fun hc => ?_) <;> simp at hc <;> (try subst hc)))
                        all_goals first | (simp; done) | (simp at *; omega) | ((try simp[z1, z2]); refine Imp.auto (by kernel_rfl) ?_ ?_ <;> simp [NLe, z1, z2])
                      · have hw : kd ≠ 1 ∨ mayP r sd pr qt uo uq uw un ub us last := .inr ⟨by omega, by omega, by omega, by omega, .inr (by split at e5 <;> omega)⟩
                        rw [if_pos hw]
                        unfold m11
                        repeat' with_reducible (first
                          | refine ZR.h ?_ | refine zI (by decide) ?_
                          | ((first | refine zK hE ?_ | refine zL hE mixT ?_); intro K hK; simp [KR.ks, KD.ks, KD.cl, q11_0, q11_1, q11_2, q11_3, q11_4, q11_5, q11_6, q11_7, q11_8, q11_9, q11_10, q11_11, q11_12, q11_13, q11_14, q11_15, q11_16, q11_17, z1, z2, l1, h18, h19, w1, w2, w3, w4, w5, w6, hkd, e0, e1, e2, e3, e4, e5, d15]; (repeat' (first | refine hK _ _ ?_ | refine And.intro ?_ ?_ | (intro hc; try subst hc))) <;> (try clear hK K))
                          | (refine zJ (b := _) (by with_unfolding_all rfl) (fun hc => ?_) (fun hc => ?_) <;> simp at hc <;> (try subst hc)))
                        all_goals first | (simp; done) | (simp at *; omega) | ((try simp[z1, z2]); refine Imp.auto (by kernel_rfl) ?_ ?_ <;> simp [NLe, z1, z2])
                    · have hw : kd ≠ 1 ∨ mayP r sd pr qt uo uq uw un ub us last := .inr ⟨by omega, by omega, by omega, by omega, .inl (by omega)⟩
                      rw [if_pos hw]
                      unfold m11
                      repeat' with_reducible (first
                        | refine ZR.h ?_ | refine zI (by decide) ?_
                        | ((first | refine zK hE ?_ | refine zL hE mixT ?_); intro K hK; simp [KR.ks, KD.ks, KD.cl, q11_0, q11_1, q11_2, q11_3, q11_4, q11_5, q11_6, q11_7, q11_8, q11_9, q11_10, q11_11, q11_12, q11_13, q11_14, q11_15, q11_16, q11_17, z1, z2, l1, h18, h19, w1, w2, w3, w4, w5, w6, hkd, e0, e1, e2, e3, e4, d15]; (repeat' (first | refine hK _ _ ?_ | refine And.intro ?_ ?_ | (intro hc; try subst hc))) <;> (try clear hK K))
                        | (refine zJ (b := _) (by with_unfolding_all rfl) (fun hc => ?_) (fun hc => ?_) <;> simp at hc <;> (try subst hc)))
                      all_goals first | (simp; done) | (simp at *; omega) | ((try simp[z1, z2]); refine Imp.auto (by kernel_rfl) ?_ ?_ <;> simp [NLe, z1, z2])
          · have hw : kd ≠ 1 ∨ mayP r sd pr qt uo uq uw un ub us last := .inl hkd
            rw [if_pos hw]
            unfold m11
            repeat' with_reducible (first
              | refine ZR.h ?_ | refine zI (by decide) ?_
              | ((first | refine zK hE ?_ | refine zL hE mixT ?_); intro K hK; simp [KR.ks, KD.ks, KD.cl, q11_0, q11_1, q11_2, q11_3, q11_4, q11_5, q11_6, q11_7, q11_8, q11_9, q11_10, q11_11, q11_12, q11_13, q11_14, q11_15, q11_16, q11_17, z1, z2, l1, h18, h19, w1, w2, w3, w4, w5, w6, hkd, d15]; (repeat' (first | refine hK _ _ ?_ | refine And.intro ?_ ?_ | (intro hc; try subst hc))) <;> (try clear hK K))
              | (refine zJ (b := _) (by with_unfolding_all rfl) (fun hc => ?_) (fun hc => ?_) <;> simp at hc <;> (try subst hc)))
            all_goals first | (simp; done) | (simp at *; omega) | ((try simp[z1, z2]); refine Imp.auto (by kernel_rfl) ?_ ?_ <;> simp [NLe, z1, z2])
        · cases h
      · cases h
    · cases h
  · cases h
end Go.W
