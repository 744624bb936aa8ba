/- A part of the proof (BbM). -/
import Derived.Test.YtfkdcpgphindiaaPsJ
import Derived.Test.YtfkdcpgphindiaaBaC
import Derived.Test.YtfkdcpgphindiaaBbJ
namespace Go.W
open Go.Proofs
set_option linter.unusedSimpArgs false
set_option linter.unusedVariables false
set_option maxHeartbeats 8000000
attribute [local irreducible] Wm
attribute [local simp] nmap lkp mkPl prs prsL prT ddL idL CRenL CRen Ren RenL NObj.none CRenLL

theorem shs_bnd {c d s : Int} {l : List OZ} (h : ∀ o ∈ l, 1 ≤ o.p ∧ o.p ≤ 9999 ∧ 0 ≤ o.q ∧ o.q ≤ 9999) (k : Nat) : 0 ≤ shSide s c d l k ∧ shSide s c d l k ≤ 9999 * l.length := by
  have := shards_bnd c d k h
  unfold shSide
  split <;> omega
theorem sumL_bnd {s : Int} {os : List OZ} (h : ∀ o ∈ os, 1 ≤ o.p ∧ o.p ≤ 9999 ∧ 0 ≤ o.q ∧ o.q ≤ 9999) : ∀ j : Nat, j ≤ (levelsZ s os).length → 0 ≤ sumL ((levelsZ s os).take j) ∧ sumL ((levelsZ s os).take j) ≤ 9999 * os.length * j ∧ 0 ≤ cntL ((levelsZ s os).take j) ∧ cntL ((levelsZ s os).take j) ≤ os.length * j
  | 0, _ => by simp [sumL, cntL]
  | j + 1, hj => by
    have ih := sumL_bnd (s := s) h j (by omega)
    obtain ⟨x, hx⟩ : ∃ x, (levelsZ s os)[j]? = some x := ⟨_, List.getElem?_eq_getElem (by omega)⟩
    have hm := (lev_mem (List.mem_of_getElem? hx)).2.2.1
    have b1 := at_l x.p (os := os) fun o ho => (h o ho).2.2
    have b2 := at_o x.p os
    rw [← hm] at b1 b2
    rw [take_snoc hx, sumL_snoc, cntL_snoc]
    have e1 : (9999 * (os.length : Int)) * ((j + 1 : Nat) : Int) = 9999 * (os.length : Int) * j + 9999 * os.length := by rw [Int.natCast_add, Int.mul_add]; simp
    have e2 : (os.length : Int) * ((j + 1 : Nat) : Int) = (os.length : Int) * j + os.length := by rw [Int.natCast_add, Int.mul_add]; simp
    rw [e1, e2]
    omega
def d3 : List AV → List NObj → Option AV
  | [.agg [.int .i64 a, .int .i64 b, .int .i64 c, .int .i64 d, .int .i64 e, .int .i64 f, .int .i64 g], .sl (.top 0) 0 n, .int .i64 ss], [.view 0 7 els] => (match mapV ozOf els with
    | some l => if n = els.length then some (.bool true) else none
    | none => none)
  | _, _ => none

theorem ok3 : ROk d3 := by
  intro xs os r h
  unfold d3 at h
  (repeat' (split at h)) <;> first | (cases h; done) | (injection h with h; subst h; simp)

def I3a (a b c d e f g ss : Int) (l : List OZ) (k : Nat) : St := ⟨[(1, .sl (.top 0) 0 l.length), (2, .int .i64 ss), (3, .ptr (.top 1) 0 0), (7, .ptr (.top 2) 0 0), (11, .int .i64 (sumTo (shSide ss c d l) k)), (48, .int .i64 (c * d)), (49, .int .i64 k)], [(0, .view 0 7 (ozLL l)), (1, .cells 0 [.int .i64 a, .int .i64 b, .int .i64 c, .int .i64 d, .int .i64 e, .int .i64 f, .int .i64 g]), (2, .cells 0 [.int .i64 a, .int .i64 b, .int .i64 c, .int .i64 d, .int .i64 e, .int .i64 f, .int .i64 g, .sl (.top 3) 0 l.length]), (3, .arr 0 7 (ozLL l))], 4⟩
def I3b (a b c d e f g ss : Int) (l : List OZ) (T : Int) (k : Nat) : St := ⟨[(1, .sl (.top 0) 0 l.length), (2, .int .i64 ss), (7, .ptr (.top 1) 0 0), (11, .int .i64 T), (13, .int .i64 (sumTo (fun n => leftZ n ss l) k)), (62, .int .i64 c), (63, .int .i64 k)], [(0, .view 0 7 (ozLL l)), (1, .cells 0 [.int .i64 a, .int .i64 b, .int .i64 c, .int .i64 d, .int .i64 e, .int .i64 f, .int .i64 g, .sl (.top 2) 0 l.length]), (2, .arr 0 7 (ozLL l))], 3⟩
def I3c (a b c d e f g ss : Int) (l : List OZ) (T A : Int) (k : Nat) (L : List LZ) (bst : Int) (j : Nat) : St := ⟨[(1, .sl (.top 0) 0 l.length), (2, .int .i64 ss), (7, .ptr (.top 1) 0 0), (11, .int .i64 T), (13, .int .i64 A), (14, .int .i64 k), (15, .int .i64 (sumL (L.take j))), (16, .int .i64 (cntL (L.take j))), (17, .int .i64 bst), (62, .int .i64 c), (63, .int .i64 k), (76, .sl (.top 3) 0 L.length), (77, .int .i64 L.length), (78, .int .i64 j)], [(0, .view 0 7 (ozLL l)), (1, .cells 0 [.int .i64 a, .int .i64 b, .int .i64 c, .int .i64 d, .int .i64 e, .int .i64 f, .int .i64 g, .sl (.top 2) 0 l.length]), (2, .arr 0 7 (ozLL l)), (3, .arr 0 3 (lzLL L))], 4⟩
def I3d (a b c d e f g ss : Int) (l : List OZ) (T A : Int) (k : Nat) (SL CL : Int) (j : Nat) : St := ⟨[(1, .sl (.top 0) 0 l.length), (2, .int .i64 ss), (7, .ptr (.top 1) 0 0), (11, .int .i64 T), (13, .int .i64 A), (14, .int .i64 k), (15, .int .i64 SL), (16, .int .i64 CL), (21, .int .i64 (leftZ k ss (l.take j))), (22, .int .i64 (cntZ k ss (l.take j))), (62, .int .i64 c), (63, .int .i64 k), (109, .sl (.top 0) 0 l.length), (110, .int .i64 l.length), (111, .int .i64 j)], [(0, .view 0 7 (ozLL l)), (1, .cells 0 [.int .i64 a, .int .i64 b, .int .i64 c, .int .i64 d, .int .i64 e, .int .i64 f, .int .i64 g, .sl (.top 2) 0 l.length]), (2, .arr 0 7 (ozLL l))], 3⟩
theorem s3 : Sound Try.prog 3 (rdS d3 ok3) := by
  refine rd_sound Try.func3 nm3 rc3 rv3 ok3 fun xs os r h vs ρ0 hvs => ⟨xs, ?_, fun _ h => h, fun w0 S hS => ?_⟩
  · unfold d3 at h
    (repeat' (split at h)) <;> first | (cases h; done) | exact Nat.le_of_ble_eq_true rfl
  unfold d3 at h
  split at h
  · rename_i a b c d e f g n ss els
    split at h
    · rename_i l hml
      obtain rfl := mapV_ex (g := ozC) (fun _ _ => ozOf_ex) hml
      clear hml
      split at h
      · rename_i hcond
        injection h with h
        subst h
        subst hcond
        simp only [oz_map, oz_len] at hvs hS ⊢
        have hE : SoundAll Try.prog (EL [(6, nestS [(7, false)] d6 ok6), (7, nestS [] d7 ok7), (8, nestS [] d8 ok8), (9, rdS d9 ok9), (10, rdS d10 ok10), (11, rdS d11 ok11), (12, rdS d12 ok12)]) := EL_sound (by simp only [List.mem_cons, List.not_mem_nil, or_false, forall_eq_or_imp, forall_eq]; exact ⟨s6, s7, s8, s9, s10, s11, s12⟩)
        have hl := oz_len l
        have hD := oz_dat l
        have hT := oz_t0 l
        have hC := oz_cl l
        have hk : (ozLL l).take l.length = ozLL l := List.take_of_length_le (by rw [hl]; exact Nat.le_refl _)
        have hm : mapV ozOf (ozLL l) = some l := mapV_map (f := ozOf) (g := ozC) ozOf_C l
        have h7 : d7 [] = some ⟨.bool true, []⟩ := rfl
        cases hmd : madeB a b c d e f g l with
        | false =>
          have h6 : d6 [.agg [.int .i64 a, .int .i64 b, .int .i64 c, .int .i64 d, .int .i64 e, .int .i64 f, .int .i64 g], .os 0 7 (ozLL l)] = some ⟨.tup [.agg [.int .i64 0, .int .i64 0, .int .i64 0, .int .i64 0, .int .i64 0, .int .i64 0, .int .i64 0, .nsl], .bool false], [.free]⟩ := by
            simp only [d6, hm]; rw [if_neg (by rw [hmd]; simp)]
          unfold m3
          repeat' with_reducible (first
            | refine ZR.h ?_ | refine zI (by decide) ?_
            | (refine zK hE ?_; intro K hK; simp [KR.ks, q3_0, q3_1, q3_2, q3_3, q3_4, q3_5, q3_6, q3_7, q3_8, q3_9, q3_10, q3_11, q3_12, q3_13, q3_14, q3_15, q3_16, q3_17, q3_18, q3_19, q3_20, q3_21, q3_22, q3_23, q3_24, q3_25, q3_26, q3_27, q3_28, q3_29, q3_30, q3_31, q3_32, q3_33, q3_34, q3_35, q3_36, q3_37, hT, hC, hD, hl, hk, h6, h7]; (repeat' (first | refine hK _ _ ?_ | refine And.intro ?_ ?_ | (intro hc; try subst hc))) <;> (try clear hK K))
            | (refine zJ (b := _) (by with_unfolding_all rfl) (fun hc => ?_) (fun hc => ?_) <;> simp at hc <;> (try subst hc)))
          all_goals first | (exfalso; omega) | skip
          all_goals first | (simp; done) | (simp at *; omega) | ((try simp[hT, hC, hl]); refine Imp.auto (by kernel_rfl) ?_ ?_ <;> simp [NLe, hT, hC, hl])
        | true =>
          by_cases hz0 : ss = 0
          · subst hz0
            have h6 : d6 [.agg [.int .i64 a, .int .i64 b, .int .i64 c, .int .i64 d, .int .i64 e, .int .i64 f, .int .i64 g], .os 0 7 (ozLL l)] = some ⟨.tup [.agg [.int .i64 a, .int .i64 b, .int .i64 c, .int .i64 d, .int .i64 e, .int .i64 f, .int .i64 g, .os 0 7 (ozLL l)], .bool true], [.free]⟩ := by
              simp only [d6, hm]; rw [if_pos hmd]
            obtain ⟨hcf, hok, hle⟩ := made_ok hmd
            have hob := (okO_ex hok).2
            obtain ⟨y1, y2, y3, y4, y5, y6, y7, y8, _⟩ := cfg_ex hcf
            have hch : checkZ a b c d e f g = -1 := by rw [check_cfg]; exact hcf
            have h8 : d8 [.agg [.int .i64 a, .int .i64 b, .int .i64 c, .int .i64 d, .int .i64 e, .int .i64 f, .int .i64 g]] = some ⟨.tup [.agg [.int .i64 a, .int .i64 b, .int .i64 c, .int .i64 d, .int .i64 e, .int .i64 f, .int .i64 g], .raw .nilIface], []⟩ := by simp only [d8]; rw [if_pos hch]
            have h9 : d9 [.agg [.int .i64 a, .int .i64 b, .int .i64 c, .int .i64 d, .int .i64 e, .int .i64 f, .int .i64 g]] [] = some (.int .i64 (c * d)) := by simp only [d9]; rw [if_pos hcf]
            have h10 : ∀ sh, d10 [.agg [.int .i64 a, .int .i64 b, .int .i64 c, .int .i64 d, .int .i64 e, .int .i64 f, .int .i64 g, .sl (.top 0) 0 l.length], .int .i64 sh] [.view 0 7 (ozLL l)] = some (.agg [.int .i64 (shardsZ c d sh l).1.p, .int .i64 (shardsZ c d sh l).1.l, .int .i64 (shardsZ c d sh l).1.o, .int .i64 (shardsZ c d sh l).2.p, .int .i64 (shardsZ c d sh l).2.l, .int .i64 (shardsZ c d sh l).2.o]) := fun sh => by
              simp only [d10, hm, hl]; rw [if_pos ⟨trivial, hok, trivial, hcf⟩]
            have h11 : ∀ n, d11 [.agg [.int .i64 a, .int .i64 b, .int .i64 c, .int .i64 d, .int .i64 e, .int .i64 f, .int .i64 g, .sl (.top 0) 0 l.length], .int .i64 n, .int .i64 0] [.view 0 7 (ozLL l)] = some (.tup [.int .i64 (bestZ (levelsZ 0 (keepZ (prA n 0) l))).1, .bool (bestZ (levelsZ 0 (keepZ (prA n 0) l))).2]) := fun n => by
              simp only [d11, hm, hl]; rw [if_pos ⟨trivial, hok⟩]
            have h12 : ∀ n, d12 [.agg [.int .i64 a, .int .i64 b, .int .i64 c, .int .i64 d, .int .i64 e, .int .i64 f, .int .i64 g, .sl (.top 0) 0 l.length], .int .i64 n, .int .i64 0] [.view 0 7 (ozLL l)] = some (.os 0 3 (lzLL (levelsZ 0 (keepZ (prA n 0) l)))) := fun n => by
              simp only [d12, hm, hl]; rw [if_pos ⟨trivial, hok⟩]
            have cd1 : 1 ≤ c * d := by
              have := Int.mul_le_mul y5 y7 (by decide) (by omega); omega
            have cd2 : c * d ≤ 12 := by
              have := Int.mul_le_mul y6 y8 (by omega) (by decide); omega
            have tot := shard_sums (s := 0) y5 y7 (by decide) hob
            generalize hN : (c * d).toNat = N at tot
            generalize hM : c.toNat = MM at tot
            have hcd : c * d = (N : Int) := by omega
            have hcM : c = (MM : Int) := by omega
            have hN12 : N ≤ 12 := by omega
            have hM3 : MM ≤ 3 := by omega
            unfold m3
            repeat' with_reducible (first
              | refine ZR.h ?_ | refine zI (by decide) ?_
              | (refine zK hE ?_; intro K hK; simp [KR.ks, q3_0, q3_1, q3_2, q3_3, q3_4, q3_5, q3_6, q3_7, q3_8, q3_9, q3_10, q3_11, q3_12, q3_13, q3_14, q3_15, q3_16, q3_17, q3_18, q3_19, q3_20, q3_21, q3_22, q3_23, q3_24, q3_25, q3_26, q3_27, q3_28, q3_29, q3_30, q3_31, q3_32, q3_33, q3_34, q3_35, q3_36, q3_37, hT, hC, hD, hl, hk, h6, h8, h9]; (repeat' (first | refine hK _ _ ?_ | refine And.intro ?_ ?_ | (intro hc; try subst hc))) <;> (try clear hK K))
              | (refine zJ (b := _) (by with_unfolding_all rfl) (fun hc => ?_) (fun hc => ?_) <;> simp at hc <;> (try subst hc)))
            all_goals first | (exfalso; omega) | skip
            all_goals (refine Wm_loop (fun k => I3a a b c d e f g 0 l k) (fun k => k ≤ N) (fun k => N - k) 0 (Nat.zero_le _) ?_ ?_)
            · simp only [I3a, sumTo]
              rw [hS]
              (refine Imp.autoX [(3, some 33)] (by kernel_rfl) ?_ ?_ <;> simp [NLe, mkPlX, hT, hC, hl])
            rintro k hkn
            (try simp only at hkn)
            simp only [I3a]
            by_cases hlt : k < N
            · have hki : (k : Int) < c * d := by omega
              have ww : IntKind.wrap .i64 ((k : Int) + 1) = (k : Int) + 1 := wrap_in (by omega) (by omega)
              have b1 := sum_bnd (n := k) (f := shSide 0 c d l) fun k _ => shs_bnd hob k
              have b2 := shs_bnd (c := c) (d := d) (s := 0) hob k
              have b3 : 9999 * (l.length : Int) * k ≤ 399960 * 12 := by
                have := Int.mul_le_mul (show 9999 * (l.length : Int) ≤ 399960 by omega) (show (k : Int) ≤ 12 by omega) (by omega) (by decide); omega
              have hst : sumTo (shSide 0 c d l) (k + 1) = sumTo (shSide 0 c d l) k + (shardsZ c d k l).1.l := by
                simp [sumTo, shSide]
              have hsd : shSide 0 c d l k = (shardsZ c d k l).1.l := by simp [shSide]
              rw [hsd] at b2
              have h10k := h10 k
              generalize sumTo (shSide 0 c d l) k = n1 at hst b1 ⊢
              generalize shardsZ c d k l = shp at hst b2 h10k
              have w1 : IntKind.wrap .i64 (n1 + shp.1.l) = n1 + shp.1.l := wrap_in (by omega) (by omega)
              repeat' with_reducible (first
                | refine ZR.h ?_ | refine zI (by decide) ?_
                | (refine zK hE ?_; intro K hK; simp [KR.ks, q3_0, q3_1, q3_2, q3_3, q3_4, q3_5, q3_6, q3_7, q3_8, q3_9, q3_10, q3_11, q3_12, q3_13, q3_14, q3_15, q3_16, q3_17, q3_18, q3_19, q3_20, q3_21, q3_22, q3_23, q3_24, q3_25, q3_26, q3_27, q3_28, q3_29, q3_30, q3_31, q3_32, q3_33, q3_34, q3_35, q3_36, q3_37, hT, hC, hD, hl, hk, hki, ww, h10k, w1]; (repeat' (first | refine hK _ _ ?_ | refine And.intro ?_ ?_ | (intro hc; try subst hc))) <;> (try clear hK K))
                | (refine zJ (b := _) (by with_unfolding_all rfl) (fun hc => ?_) (fun hc => ?_) <;> simp at hc <;> (try subst hc)))
              all_goals first | (exfalso; omega) | skip
              all_goals refine ⟨k + 1, hlt, Nat.sub_lt_sub_left hlt (Nat.lt_succ_self k), ?_⟩
              all_goals simp only [I3a, hst]
              all_goals rw [hS]
              all_goals (refine Imp.autoX [(3, some 3)] (by kernel_rfl) ?_ ?_ <;> simp [NLe, mkPlX, hT, hC, hl])
            obtain rfl : k = N := by omega
            clear hlt hkn h10
            have hki : ¬ ((k : Int) < c * d) := by omega
            have hNN : k ≤ 12 := hN12
            rw [tot]
            generalize hTT : sumTo (fun n => leftZ n 0 l) MM = T
            repeat' with_reducible (first
              | refine ZR.h ?_ | refine zI (by decide) ?_
              | (refine zK hE ?_; intro K hK; simp [KR.ks, q3_0, q3_1, q3_2, q3_3, q3_4, q3_5, q3_6, q3_7, q3_8, q3_9, q3_10, q3_11, q3_12, q3_13, q3_14, q3_15, q3_16, q3_17, q3_18, q3_19, q3_20, q3_21, q3_22, q3_23, q3_24, q3_25, q3_26, q3_27, q3_28, q3_29, q3_30, q3_31, q3_32, q3_33, q3_34, q3_35, q3_36, q3_37, hT, hC, hD, hl, hk, hki]; (repeat' (first | refine hK _ _ ?_ | refine And.intro ?_ ?_ | (intro hc; try subst hc))) <;> (try clear hK K))
              | (refine zJ (b := _) (by with_unfolding_all rfl) (fun hc => ?_) (fun hc => ?_) <;> simp at hc <;> (try subst hc)))
            all_goals first | (exfalso; omega) | skip
            all_goals (refine Wm_loop (fun i => I3b a b c d e f g 0 l T i) (fun i => i ≤ MM) (fun i => MM - i) 0 (Nat.zero_le _) ?_ ?_)
            · simp only [I3b, sumTo]
              rw [hS]
              (refine Imp.autoX [(2, some 3)] (by kernel_rfl) ?_ ?_ <;> simp [NLe, mkPlX, hT, hC, hl])
            clear hki
            rintro i him
            (try simp only at him)
            simp only [I3b]
            by_cases hlt : i < MM
            · have hki : (i : Int) < c := by omega
              have wi : IntKind.wrap .i64 ((i : Int) + 1) = (i : Int) + 1 := wrap_in (by omega) (by omega)
              have b1 := sum_bnd (n := i) (f := fun n => leftZ n 0 l) (B := 9999 * l.length) fun k _ => by have := left_bnd k 0 hob; omega
              have b2 := left_bnd i 0 hob
              have b3 : 9999 * (l.length : Int) * i ≤ 399960 * 3 := by
                have := Int.mul_le_mul (show 9999 * (l.length : Int) ≤ 399960 by omega) (show (i : Int) ≤ 3 by omega) (by omega) (by decide); omega
              have hst : sumTo (fun n => leftZ n 0 l) (i + 1) = sumTo (fun n => leftZ n 0 l) i + leftZ i 0 l := rfl
              generalize sumTo (fun n => leftZ n 0 l) i = A at hst b1 ⊢
              have wA : IntKind.wrap .i64 (A + leftZ i 0 l) = A + leftZ i 0 l := wrap_in (by omega) (by omega)
              have h11i := h11 i
              have h12i := h12 i
              have hko := side_ok hok i 0
              have hkob := (okO_ex hko).2
              have hkl : (keepZ (prA i 0) l).length ≤ 40 := Nat.le_trans (keep_len _ _) hle
              have lsum := lev_sums 0 hkob
              rw [(left_is i 0 l).1, (left_is i 0 l).2] at lsum
              have lbn := sumL_bnd (s := 0) hkob
              have llen := lev_len 0 (keepZ (prA i 0) l)
              have lbst : ∀ x ∈ levelsZ 0 (keepZ (prA i 0) l), _ := fun x hx => best_ok hx
              generalize (bestZ (levelsZ 0 (keepZ (prA i 0) l))).1 = bst at h11i lbst
              generalize keepZ (prA i 0) l = os at *
              generalize levelsZ 0 os = L at *
              have lT := lz_t0 L
              have lC := lz_cl L
              have ll := lz_len L
              have lD := lz_dat L
              repeat' with_reducible (first
                | refine ZR.h ?_ | refine zI (by decide) ?_
                | (refine zK hE ?_; intro K hK; simp [KR.ks, q3_0, q3_1, q3_2, q3_3, q3_4, q3_5, q3_6, q3_7, q3_8, q3_9, q3_10, q3_11, q3_12, q3_13, q3_14, q3_15, q3_16, q3_17, q3_18, q3_19, q3_20, q3_21, q3_22, q3_23, q3_24, q3_25, q3_26, q3_27, q3_28, q3_29, q3_30, q3_31, q3_32, q3_33, q3_34, q3_35, q3_36, q3_37, hT, hC, hD, hl, hk, hki, h11i, h12i, ll, lD]; (repeat' (first | refine hK _ _ ?_ | refine And.intro ?_ ?_ | (intro hc; try subst hc))) <;> (try clear hK K))
                | (refine zJ (b := _) (by with_unfolding_all rfl) (fun hc => ?_) (fun hc => ?_) <;> simp at hc <;> (try subst hc)))
              all_goals first | (exfalso; omega) | skip
              all_goals (refine Wm_loop (fun j => I3c a b c d e f g 0 l T A i L bst j) (fun j => j ≤ L.length) (fun j => L.length - j) 0 (Nat.zero_le _) ?_ ?_)
              · simp only [I3c, List.take_zero, sumL, cntL, List.foldl_nil]
                rw [hS]
                (refine Imp.autoX [(2, some 2)] (by kernel_rfl) ?_ ?_ <;> simp [NLe, mkPlX, hT, hC, hl, lT, lC, ll])
              rintro j hjl
              (try simp only at hjl)
              simp only [I3c]
              by_cases hjt : j < L.length
              · obtain ⟨x, hx⟩ : ∃ x, L[j]? = some x := ⟨_, List.getElem?_eq_getElem hjt⟩
                obtain ⟨hg, hge⟩ := lz_at hx
                have hji : (j : Int) < (L.length : Int) := by omega
                have wj : IntKind.wrap .i64 ((j : Int) + 1) = (j : Int) + 1 := wrap_in (by omega) (by omega)
                have c1 := lbn j hjl
                have c2 := lbn (j + 1) hjt
                have s1 : sumL (L.take (j + 1)) = sumL (L.take j) + x.l := by rw [take_snoc hx, sumL_snoc]
                have s2 : cntL (L.take (j + 1)) = cntL (L.take j) + x.o := by rw [take_snoc hx, cntL_snoc]
                rw [s1, s2] at c2
                have c3 : 9999 * (os.length : Int) * ((j + 1 : Nat) : Int) ≤ 399960 * 9999 := by
                  have := Int.mul_le_mul (show 9999 * (os.length : Int) ≤ 399960 by omega) (show ((j + 1 : Nat) : Int) ≤ 9999 by omega) (by omega) (by decide); omega
                have c4 : (os.length : Int) * ((j + 1 : Nat) : Int) ≤ 40 * 9999 := by
                  have := Int.mul_le_mul (show (os.length : Int) ≤ 40 by omega) (show ((j + 1 : Nat) : Int) ≤ 9999 by omega) (by omega) (by decide); omega
                generalize sumL (L.take j) = n1 at s1 c1 c2 ⊢
                generalize cntL (L.take j) = n2 at s2 c1 c2 ⊢
                have w1 : IntKind.wrap .i64 (n1 + x.l) = n1 + x.l := wrap_in (by omega) (by omega)
                have w2 : IntKind.wrap .i64 (n2 + x.o) = n2 + x.o := wrap_in (by omega) (by omega)
                have lb := lbst x (List.mem_of_getElem? hx)
                have lb1 : ¬ bst < x.p := fun h => lb.1 ⟨rfl, h⟩
                simp only [lzC] at hg hge
                repeat' with_reducible (first
                  | refine ZR.h ?_ | refine zI (by decide) ?_
                  | (refine zK hE ?_; intro K hK; simp [KR.ks, q3_0, q3_1, q3_2, q3_3, q3_4, q3_5, q3_6, q3_7, q3_8, q3_9, q3_10, q3_11, q3_12, q3_13, q3_14, q3_15, q3_16, q3_17, q3_18, q3_19, q3_20, q3_21, q3_22, q3_23, q3_24, q3_25, q3_26, q3_27, q3_28, q3_29, q3_30, q3_31, q3_32, q3_33, q3_34, q3_35, q3_36, q3_37, hT, hC, hD, hl, hk, lT, lC, ll, lD, hjt, hji, hg, hge, wj, w1, w2, lb1]; (repeat' (first | refine hK _ _ ?_ | refine And.intro ?_ ?_ | (intro hc; try subst hc))) <;> (try clear hK K))
                  | (refine zJ (b := _) (by with_unfolding_all rfl) (fun hc => ?_) (fun hc => ?_) <;> simp at hc <;> (try subst hc)))
                all_goals first | (exfalso; omega) | skip
                all_goals refine ⟨j + 1, hjt, Nat.sub_lt_sub_left hjt (Nat.lt_succ_self j), ?_⟩
                all_goals simp only [I3c, s1, s2]
                all_goals rw [hS]
                all_goals (refine Imp.autoX [(2, some 2)] (by kernel_rfl) ?_ ?_ <;> simp [NLe, mkPlX, hT, hC, hl, lT, lC, ll])
              obtain rfl : j = L.length := by omega
              have hji : ¬ ((L.length : Int) < (L.length : Int)) := by omega
              rw [List.take_length, lsum.1, lsum.2]
              clear hjl hjt lbn lbst h11i h12i llen
              repeat' with_reducible (first
                | refine ZR.h ?_ | refine zI (by decide) ?_
                | (refine zK hE ?_; intro K hK; simp [KR.ks, q3_0, q3_1, q3_2, q3_3, q3_4, q3_5, q3_6, q3_7, q3_8, q3_9, q3_10, q3_11, q3_12, q3_13, q3_14, q3_15, q3_16, q3_17, q3_18, q3_19, q3_20, q3_21, q3_22, q3_23, q3_24, q3_25, q3_26, q3_27, q3_28, q3_29, q3_30, q3_31, q3_32, q3_33, q3_34, q3_35, q3_36, q3_37, hT, hC, hD, hl, hk, lT, lC, ll, lD, hji]; (repeat' (first | refine hK _ _ ?_ | refine And.intro ?_ ?_ | (intro hc; try subst hc))) <;> (try clear hK K))
                | (refine zJ (b := _) (by with_unfolding_all rfl) (fun hc => ?_) (fun hc => ?_) <;> simp at hc <;> (try subst hc)))
              all_goals first | (exfalso; omega) | skip
              clear hji lT lC ll lD
              all_goals (refine Wm_loop (fun j => I3d a b c d e f g 0 l T A i (leftZ i 0 l) (cntZ i 0 l) j) (fun j => j ≤ l.length) (fun j => l.length - j) 0 (Nat.zero_le _) ?_ ?_)
              · simp only [I3d, List.take_zero, show leftZ i 0 [] = 0 from rfl, show cntZ i 0 [] = 0 from rfl]
                rw [hS]
                (refine Imp.autoX [(2, some 2)] (by kernel_rfl) ?_ ?_ <;> simp [NLe, mkPlX, hT, hC, hl])
              rintro j hjl
              (try simp only at hjl)
              simp only [I3d]
              by_cases hjt : j < l.length
              · obtain ⟨x, hx⟩ : ∃ x, l[j]? = some x := ⟨_, List.getElem?_eq_getElem hjt⟩
                obtain ⟨hg, hge⟩ := oz_at hx
                have hji : (j : Int) < (l.length : Int) := by omega
                have wj : IntKind.wrap .i64 ((j : Int) + 1) = (j : Int) + 1 := wrap_in (by omega) (by omega)
                have hq := hob x (List.mem_of_getElem? hx)
                have c1 := left_bnd i 0 (l := l.take j) fun o ho => hob o (List.mem_of_mem_take ho)
                rw [List.length_take, Nat.min_eq_left hjl] at c1
                have s1 : leftZ i 0 (l.take (j + 1)) = leftA i 0 (leftZ i 0 (l.take j)) x := by rw [take_snoc hx, left_snoc]
                have s2 : cntZ i 0 (l.take (j + 1)) = cntA i 0 (cntZ i 0 (l.take j)) x := by rw [take_snoc hx, cnt_snoc]
                generalize leftZ i 0 (l.take j) = n1 at s1 c1 ⊢
                generalize cntZ i 0 (l.take j) = n2 at s2 c1 ⊢
                have w1 : IntKind.wrap .i64 (n1 + x.q) = n1 + x.q := wrap_in (by omega) (by omega)
                have w2 : IntKind.wrap .i64 (n2 + 1) = n2 + 1 := wrap_in (by omega) (by omega)
                simp only [ozC] at hg hge
                simp only [leftA, cntA] at s1 s2
                by_cases z1 : x.n = (i : Int)
                · by_cases z2 : x.s = 0
                  · simp only [z1, z2, and_self, if_true] at s1 s2
                    repeat' with_reducible (first
                      | refine ZR.h ?_ | refine zI (by decide) ?_
                      | (refine zK hE ?_; intro K hK; simp [KR.ks, q3_0, q3_1, q3_2, q3_3, q3_4, q3_5, q3_6, q3_7, q3_8, q3_9, q3_10, q3_11, q3_12, q3_13, q3_14, q3_15, q3_16, q3_17, q3_18, q3_19, q3_20, q3_21, q3_22, q3_23, q3_24, q3_25, q3_26, q3_27, q3_28, q3_29, q3_30, q3_31, q3_32, q3_33, q3_34, q3_35, q3_36, q3_37, hT, hC, hD, hl, hk, hjt, hji, hg, hge, wj, w1, w2, z1, z2]; (repeat' (first | refine hK _ _ ?_ | refine And.intro ?_ ?_ | (intro hc; try subst hc))) <;> (try clear hK K))
                      | (refine zJ (b := _) (by with_unfolding_all rfl) (fun hc => ?_) (fun hc => ?_) <;> simp at hc <;> (try subst hc)))
                    all_goals first | (exfalso; omega) | skip
                    all_goals refine ⟨j + 1, hjt, Nat.sub_lt_sub_left hjt (Nat.lt_succ_self j), ?_⟩
                    all_goals simp only [I3d, s1, s2]
                    all_goals rw [hS]
                    all_goals (refine Imp.autoX [(2, some 2)] (by kernel_rfl) ?_ ?_ <;> simp [NLe, mkPlX, hT, hC, hl])
                  · simp only [z1, z2, and_false, if_false] at s1 s2
                    repeat' with_reducible (first
                      | refine ZR.h ?_ | refine zI (by decide) ?_
                      | (refine zK hE ?_; intro K hK; simp [KR.ks, q3_0, q3_1, q3_2, q3_3, q3_4, q3_5, q3_6, q3_7, q3_8, q3_9, q3_10, q3_11, q3_12, q3_13, q3_14, q3_15, q3_16, q3_17, q3_18, q3_19, q3_20, q3_21, q3_22, q3_23, q3_24, q3_25, q3_26, q3_27, q3_28, q3_29, q3_30, q3_31, q3_32, q3_33, q3_34, q3_35, q3_36, q3_37, hT, hC, hD, hl, hk, hjt, hji, hg, hge, wj, z1, z2]; (repeat' (first | refine hK _ _ ?_ | refine And.intro ?_ ?_ | (intro hc; try subst hc))) <;> (try clear hK K))
                      | (refine zJ (b := _) (by with_unfolding_all rfl) (fun hc => ?_) (fun hc => ?_) <;> simp at hc <;> (try subst hc)))
                    all_goals first | (exfalso; omega) | skip
                    all_goals refine ⟨j + 1, hjt, Nat.sub_lt_sub_left hjt (Nat.lt_succ_self j), ?_⟩
                    all_goals simp only [I3d, s1, s2]
                    all_goals rw [hS]
                    all_goals (refine Imp.autoX [(2, some 2)] (by kernel_rfl) ?_ ?_ <;> simp [NLe, mkPlX, hT, hC, hl])
                · simp only [z1, false_and, if_false] at s1 s2
                  repeat' with_reducible (first
                    | refine ZR.h ?_ | refine zI (by decide) ?_
                    | (refine zK hE ?_; intro K hK; simp [KR.ks, q3_0, q3_1, q3_2, q3_3, q3_4, q3_5, q3_6, q3_7, q3_8, q3_9, q3_10, q3_11, q3_12, q3_13, q3_14, q3_15, q3_16, q3_17, q3_18, q3_19, q3_20, q3_21, q3_22, q3_23, q3_24, q3_25, q3_26, q3_27, q3_28, q3_29, q3_30, q3_31, q3_32, q3_33, q3_34, q3_35, q3_36, q3_37, hT, hC, hD, hl, hk, hjt, hji, hg, hge, wj, z1]; (repeat' (first | refine hK _ _ ?_ | refine And.intro ?_ ?_ | (intro hc; try subst hc))) <;> (try clear hK K))
                    | (refine zJ (b := _) (by with_unfolding_all rfl) (fun hc => ?_) (fun hc => ?_) <;> simp at hc <;> (try subst hc)))
                  all_goals first | (exfalso; omega) | skip
                  all_goals refine ⟨j + 1, hjt, Nat.sub_lt_sub_left hjt (Nat.lt_succ_self j), ?_⟩
                  all_goals simp only [I3d, s1, s2]
                  all_goals rw [hS]
                  all_goals (refine Imp.autoX [(2, some 2)] (by kernel_rfl) ?_ ?_ <;> simp [NLe, mkPlX, hT, hC, hl])
              obtain rfl : j = l.length := by omega
              have hji : ¬ ((l.length : Int) < (l.length : Int)) := by omega
              rw [List.take_length]
              repeat' with_reducible (first
                | refine ZR.h ?_ | refine zI (by decide) ?_
                | (refine zK hE ?_; intro K hK; simp [KR.ks, q3_0, q3_1, q3_2, q3_3, q3_4, q3_5, q3_6, q3_7, q3_8, q3_9, q3_10, q3_11, q3_12, q3_13, q3_14, q3_15, q3_16, q3_17, q3_18, q3_19, q3_20, q3_21, q3_22, q3_23, q3_24, q3_25, q3_26, q3_27, q3_28, q3_29, q3_30, q3_31, q3_32, q3_33, q3_34, q3_35, q3_36, q3_37, hT, hC, hD, hl, hk, hji, wA, wi]; (repeat' (first | refine hK _ _ ?_ | refine And.intro ?_ ?_ | (intro hc; try subst hc))) <;> (try clear hK K))
                | (refine zJ (b := _) (by with_unfolding_all rfl) (fun hc => ?_) (fun hc => ?_) <;> simp at hc <;> (try subst hc)))
              all_goals first | (exfalso; omega) | skip
              all_goals refine ⟨i + 1, hlt, Nat.sub_lt_sub_left hlt (Nat.lt_succ_self i), ?_⟩
              all_goals simp only [I3b, hst]
              all_goals rw [hS]
              all_goals (refine Imp.autoX [(2, some 2)] (by kernel_rfl) ?_ ?_ <;> simp [NLe, mkPlX, hT, hC, hl])
            obtain rfl : i = MM := by omega
            have hki : ¬ ((i : Int) < c) := by omega
            rw [hTT]
            repeat' with_reducible (first
              | refine ZR.h ?_ | refine zI (by decide) ?_
              | (refine zK hE ?_; intro K hK; simp [KR.ks, q3_0, q3_1, q3_2, q3_3, q3_4, q3_5, q3_6, q3_7, q3_8, q3_9, q3_10, q3_11, q3_12, q3_13, q3_14, q3_15, q3_16, q3_17, q3_18, q3_19, q3_20, q3_21, q3_22, q3_23, q3_24, q3_25, q3_26, q3_27, q3_28, q3_29, q3_30, q3_31, q3_32, q3_33, q3_34, q3_35, q3_36, q3_37, hT, hC, hD, hl, hk, hki, h7]; (repeat' (first | refine hK _ _ ?_ | refine And.intro ?_ ?_ | (intro hc; try subst hc))) <;> (try clear hK K))
              | (refine zJ (b := _) (by with_unfolding_all rfl) (fun hc => ?_) (fun hc => ?_) <;> simp at hc <;> (try subst hc)))
            all_goals first | (exfalso; omega) | skip
            all_goals first | (simp; done) | (simp at *; omega) | ((try simp[hT, hC, hl]); refine Imp.auto (by kernel_rfl) ?_ ?_ <;> simp [NLe, hT, hC, hl])
          by_cases hz1 : ss = 1
          · subst hz1
            clear hz0
            have h6 : d6 [.agg [.int .i64 a, .int .i64 b, .int .i64 c, .int .i64 d, .int .i64 e, .int .i64 f, .int .i64 g], .os 0 7 (ozLL l)] = some ⟨.tup [.agg [.int .i64 a, .int .i64 b, .int .i64 c, .int .i64 d, .int .i64 e, .int .i64 f, .int .i64 g, .os 0 7 (ozLL l)], .bool true], [.free]⟩ := by
              simp only [d6, hm]; rw [if_pos hmd]
            obtain ⟨hcf, hok, hle⟩ := made_ok hmd
            have hob := (okO_ex hok).2
            obtain ⟨y1, y2, y3, y4, y5, y6, y7, y8, _⟩ := cfg_ex hcf
            have hch : checkZ a b c d e f g = -1 := by rw [check_cfg]; exact hcf
            have h8 : d8 [.agg [.int .i64 a, .int .i64 b, .int .i64 c, .int .i64 d, .int .i64 e, .int .i64 f, .int .i64 g]] = some ⟨.tup [.agg [.int .i64 a, .int .i64 b, .int .i64 c, .int .i64 d, .int .i64 e, .int .i64 f, .int .i64 g], .raw .nilIface], []⟩ := by simp only [d8]; rw [if_pos hch]
            have h9 : d9 [.agg [.int .i64 a, .int .i64 b, .int .i64 c, .int .i64 d, .int .i64 e, .int .i64 f, .int .i64 g]] [] = some (.int .i64 (c * d)) := by simp only [d9]; rw [if_pos hcf]
            have h10 : ∀ sh, d10 [.agg [.int .i64 a, .int .i64 b, .int .i64 c, .int .i64 d, .int .i64 e, .int .i64 f, .int .i64 g, .sl (.top 0) 0 l.length], .int .i64 sh] [.view 0 7 (ozLL l)] = some (.agg [.int .i64 (shardsZ c d sh l).1.p, .int .i64 (shardsZ c d sh l).1.l, .int .i64 (shardsZ c d sh l).1.o, .int .i64 (shardsZ c d sh l).2.p, .int .i64 (shardsZ c d sh l).2.l, .int .i64 (shardsZ c d sh l).2.o]) := fun sh => by
              simp only [d10, hm, hl]; rw [if_pos ⟨trivial, hok, trivial, hcf⟩]
            have h11 : ∀ n, d11 [.agg [.int .i64 a, .int .i64 b, .int .i64 c, .int .i64 d, .int .i64 e, .int .i64 f, .int .i64 g, .sl (.top 0) 0 l.length], .int .i64 n, .int .i64 1] [.view 0 7 (ozLL l)] = some (.tup [.int .i64 (bestZ (levelsZ 1 (keepZ (prA n 1) l))).1, .bool (bestZ (levelsZ 1 (keepZ (prA n 1) l))).2]) := fun n => by
              simp only [d11, hm, hl]; rw [if_pos ⟨trivial, hok⟩]
            have h12 : ∀ n, d12 [.agg [.int .i64 a, .int .i64 b, .int .i64 c, .int .i64 d, .int .i64 e, .int .i64 f, .int .i64 g, .sl (.top 0) 0 l.length], .int .i64 n, .int .i64 1] [.view 0 7 (ozLL l)] = some (.os 0 3 (lzLL (levelsZ 1 (keepZ (prA n 1) l)))) := fun n => by
              simp only [d12, hm, hl]; rw [if_pos ⟨trivial, hok⟩]
            have cd1 : 1 ≤ c * d := by
              have := Int.mul_le_mul y5 y7 (by decide) (by omega); omega
            have cd2 : c * d ≤ 12 := by
              have := Int.mul_le_mul y6 y8 (by omega) (by decide); omega
            have tot := shard_sums (s := 1) y5 y7 (by decide) hob
            generalize hN : (c * d).toNat = N at tot
            generalize hM : c.toNat = MM at tot
            have hcd : c * d = (N : Int) := by omega
            have hcM : c = (MM : Int) := by omega
            have hN12 : N ≤ 12 := by omega
            have hM3 : MM ≤ 3 := by omega
            unfold m3
            repeat' with_reducible (first
              | refine ZR.h ?_ | refine zI (by decide) ?_
              | (refine zK hE ?_; intro K hK; simp [KR.ks, q3_0, q3_1, q3_2, q3_3, q3_4, q3_5, q3_6, q3_7, q3_8, q3_9, q3_10, q3_11, q3_12, q3_13, q3_14, q3_15, q3_16, q3_17, q3_18, q3_19, q3_20, q3_21, q3_22, q3_23, q3_24, q3_25, q3_26, q3_27, q3_28, q3_29, q3_30, q3_31, q3_32, q3_33, q3_34, q3_35, q3_36, q3_37, hT, hC, hD, hl, hk, h6, h8, h9]; (repeat' (first | refine hK _ _ ?_ | refine And.intro ?_ ?_ | (intro hc; try subst hc))) <;> (try clear hK K))
              | (refine zJ (b := _) (by with_unfolding_all rfl) (fun hc => ?_) (fun hc => ?_) <;> simp at hc <;> (try subst hc)))
            all_goals first | (exfalso; omega) | skip
            all_goals (refine Wm_loop (fun k => I3a a b c d e f g 1 l k) (fun k => k ≤ N) (fun k => N - k) 0 (Nat.zero_le _) ?_ ?_)
            · simp only [I3a, sumTo]
              rw [hS]
              (refine Imp.autoX [(3, some 33)] (by kernel_rfl) ?_ ?_ <;> simp [NLe, mkPlX, hT, hC, hl])
            rintro k hkn
            (try simp only at hkn)
            simp only [I3a]
            by_cases hlt : k < N
            · have hki : (k : Int) < c * d := by omega
              have ww : IntKind.wrap .i64 ((k : Int) + 1) = (k : Int) + 1 := wrap_in (by omega) (by omega)
              have b1 := sum_bnd (n := k) (f := shSide 1 c d l) fun k _ => shs_bnd hob k
              have b2 := shs_bnd (c := c) (d := d) (s := 1) hob k
              have b3 : 9999 * (l.length : Int) * k ≤ 399960 * 12 := by
                have := Int.mul_le_mul (show 9999 * (l.length : Int) ≤ 399960 by omega) (show (k : Int) ≤ 12 by omega) (by omega) (by decide); omega
              have hst : sumTo (shSide 1 c d l) (k + 1) = sumTo (shSide 1 c d l) k + (shardsZ c d k l).2.l := by
                simp [sumTo, shSide]
              have hsd : shSide 1 c d l k = (shardsZ c d k l).2.l := by simp [shSide]
              rw [hsd] at b2
              have h10k := h10 k
              generalize sumTo (shSide 1 c d l) k = n1 at hst b1 ⊢
              generalize shardsZ c d k l = shp at hst b2 h10k
              have w1 : IntKind.wrap .i64 (n1 + shp.2.l) = n1 + shp.2.l := wrap_in (by omega) (by omega)
              repeat' with_reducible (first
                | refine ZR.h ?_ | refine zI (by decide) ?_
                | (refine zK hE ?_; intro K hK; simp [KR.ks, q3_0, q3_1, q3_2, q3_3, q3_4, q3_5, q3_6, q3_7, q3_8, q3_9, q3_10, q3_11, q3_12, q3_13, q3_14, q3_15, q3_16, q3_17, q3_18, q3_19, q3_20, q3_21, q3_22, q3_23, q3_24, q3_25, q3_26, q3_27, q3_28, q3_29, q3_30, q3_31, q3_32, q3_33, q3_34, q3_35, q3_36, q3_37, hT, hC, hD, hl, hk, hki, ww, h10k, w1]; (repeat' (first | refine hK _ _ ?_ | refine And.intro ?_ ?_ | (intro hc; try subst hc))) <;> (try clear hK K))
                | (refine zJ (b := _) (by with_unfolding_all rfl) (fun hc => ?_) (fun hc => ?_) <;> simp at hc <;> (try subst hc)))
              all_goals first | (exfalso; omega) | skip
              all_goals refine ⟨k + 1, hlt, Nat.sub_lt_sub_left hlt (Nat.lt_succ_self k), ?_⟩
              all_goals simp only [I3a, hst]
              all_goals rw [hS]
              all_goals (refine Imp.autoX [(3, some 3)] (by kernel_rfl) ?_ ?_ <;> simp [NLe, mkPlX, hT, hC, hl])
            obtain rfl : k = N := by omega
            clear hlt hkn h10
            have hki : ¬ ((k : Int) < c * d) := by omega
            have hNN : k ≤ 12 := hN12
            rw [tot]
            generalize hTT : sumTo (fun n => leftZ n 1 l) MM = T
            repeat' with_reducible (first
              | refine ZR.h ?_ | refine zI (by decide) ?_
              | (refine zK hE ?_; intro K hK; simp [KR.ks, q3_0, q3_1, q3_2, q3_3, q3_4, q3_5, q3_6, q3_7, q3_8, q3_9, q3_10, q3_11, q3_12, q3_13, q3_14, q3_15, q3_16, q3_17, q3_18, q3_19, q3_20, q3_21, q3_22, q3_23, q3_24, q3_25, q3_26, q3_27, q3_28, q3_29, q3_30, q3_31, q3_32, q3_33, q3_34, q3_35, q3_36, q3_37, hT, hC, hD, hl, hk, hki]; (repeat' (first | refine hK _ _ ?_ | refine And.intro ?_ ?_ | (intro hc; try subst hc))) <;> (try clear hK K))
              | (refine zJ (b := _) (by with_unfolding_all rfl) (fun hc => ?_) (fun hc => ?_) <;> simp at hc <;> (try subst hc)))
            all_goals first | (exfalso; omega) | skip
            all_goals (refine Wm_loop (fun i => I3b a b c d e f g 1 l T i) (fun i => i ≤ MM) (fun i => MM - i) 0 (Nat.zero_le _) ?_ ?_)
            · simp only [I3b, sumTo]
              rw [hS]
              (refine Imp.autoX [(2, some 3)] (by kernel_rfl) ?_ ?_ <;> simp [NLe, mkPlX, hT, hC, hl])
            clear hki
            rintro i him
            (try simp only at him)
            simp only [I3b]
            by_cases hlt : i < MM
            · have hki : (i : Int) < c := by omega
              have wi : IntKind.wrap .i64 ((i : Int) + 1) = (i : Int) + 1 := wrap_in (by omega) (by omega)
              have b1 := sum_bnd (n := i) (f := fun n => leftZ n 1 l) (B := 9999 * l.length) fun k _ => by have := left_bnd k 1 hob; omega
              have b2 := left_bnd i 1 hob
              have b3 : 9999 * (l.length : Int) * i ≤ 399960 * 3 := by
                have := Int.mul_le_mul (show 9999 * (l.length : Int) ≤ 399960 by omega) (show (i : Int) ≤ 3 by omega) (by omega) (by decide); omega
              have hst : sumTo (fun n => leftZ n 1 l) (i + 1) = sumTo (fun n => leftZ n 1 l) i + leftZ i 1 l := rfl
              generalize sumTo (fun n => leftZ n 1 l) i = A at hst b1 ⊢
              have wA : IntKind.wrap .i64 (A + leftZ i 1 l) = A + leftZ i 1 l := wrap_in (by omega) (by omega)
              have h11i := h11 i
              have h12i := h12 i
              have hko := side_ok hok i 1
              have hkob := (okO_ex hko).2
              have hkl : (keepZ (prA i 1) l).length ≤ 40 := Nat.le_trans (keep_len _ _) hle
              have lsum := lev_sums 1 hkob
              rw [(left_is i 1 l).1, (left_is i 1 l).2] at lsum
              have lbn := sumL_bnd (s := 1) hkob
              have llen := lev_len 1 (keepZ (prA i 1) l)
              have lbst : ∀ x ∈ levelsZ 1 (keepZ (prA i 1) l), _ := fun x hx => best_ok hx
              generalize (bestZ (levelsZ 1 (keepZ (prA i 1) l))).1 = bst at h11i lbst
              generalize keepZ (prA i 1) l = os at *
              generalize levelsZ 1 os = L at *
              have lT := lz_t0 L
              have lC := lz_cl L
              have ll := lz_len L
              have lD := lz_dat L
              repeat' with_reducible (first
                | refine ZR.h ?_ | refine zI (by decide) ?_
                | (refine zK hE ?_; intro K hK; simp [KR.ks, q3_0, q3_1, q3_2, q3_3, q3_4, q3_5, q3_6, q3_7, q3_8, q3_9, q3_10, q3_11, q3_12, q3_13, q3_14, q3_15, q3_16, q3_17, q3_18, q3_19, q3_20, q3_21, q3_22, q3_23, q3_24, q3_25, q3_26, q3_27, q3_28, q3_29, q3_30, q3_31, q3_32, q3_33, q3_34, q3_35, q3_36, q3_37, hT, hC, hD, hl, hk, hki, h11i, h12i, ll, lD]; (repeat' (first | refine hK _ _ ?_ | refine And.intro ?_ ?_ | (intro hc; try subst hc))) <;> (try clear hK K))
                | (refine zJ (b := _) (by with_unfolding_all rfl) (fun hc => ?_) (fun hc => ?_) <;> simp at hc <;> (try subst hc)))
              all_goals first | (exfalso; omega) | skip
              all_goals (refine Wm_loop (fun j => I3c a b c d e f g 1 l T A i L bst j) (fun j => j ≤ L.length) (fun j => L.length - j) 0 (Nat.zero_le _) ?_ ?_)
              · simp only [I3c, List.take_zero, sumL, cntL, List.foldl_nil]
                rw [hS]
                (refine Imp.autoX [(2, some 2)] (by kernel_rfl) ?_ ?_ <;> simp [NLe, mkPlX, hT, hC, hl, lT, lC, ll])
              rintro j hjl
              (try simp only at hjl)
              simp only [I3c]
              by_cases hjt : j < L.length
              · obtain ⟨x, hx⟩ : ∃ x, L[j]? = some x := ⟨_, List.getElem?_eq_getElem hjt⟩
                obtain ⟨hg, hge⟩ := lz_at hx
                have hji : (j : Int) < (L.length : Int) := by omega
                have wj : IntKind.wrap .i64 ((j : Int) + 1) = (j : Int) + 1 := wrap_in (by omega) (by omega)
                have c1 := lbn j hjl
                have c2 := lbn (j + 1) hjt
                have s1 : sumL (L.take (j + 1)) = sumL (L.take j) + x.l := by rw [take_snoc hx, sumL_snoc]
                have s2 : cntL (L.take (j + 1)) = cntL (L.take j) + x.o := by rw [take_snoc hx, cntL_snoc]
                rw [s1, s2] at c2
                have c3 : 9999 * (os.length : Int) * ((j + 1 : Nat) : Int) ≤ 399960 * 9999 := by
                  have := Int.mul_le_mul (show 9999 * (os.length : Int) ≤ 399960 by omega) (show ((j + 1 : Nat) : Int) ≤ 9999 by omega) (by omega) (by decide); omega
                have c4 : (os.length : Int) * ((j + 1 : Nat) : Int) ≤ 40 * 9999 := by
                  have := Int.mul_le_mul (show (os.length : Int) ≤ 40 by omega) (show ((j + 1 : Nat) : Int) ≤ 9999 by omega) (by omega) (by decide); omega
                generalize sumL (L.take j) = n1 at s1 c1 c2 ⊢
                generalize cntL (L.take j) = n2 at s2 c1 c2 ⊢
                have w1 : IntKind.wrap .i64 (n1 + x.l) = n1 + x.l := wrap_in (by omega) (by omega)
                have w2 : IntKind.wrap .i64 (n2 + x.o) = n2 + x.o := wrap_in (by omega) (by omega)
                have lb := lbst x (List.mem_of_getElem? hx)
                have lb1 : ¬ x.p < bst := fun h => lb.2 ⟨rfl, h⟩
                simp only [lzC] at hg hge
                repeat' with_reducible (first
                  | refine ZR.h ?_ | refine zI (by decide) ?_
                  | (refine zK hE ?_; intro K hK; simp [KR.ks, q3_0, q3_1, q3_2, q3_3, q3_4, q3_5, q3_6, q3_7, q3_8, q3_9, q3_10, q3_11, q3_12, q3_13, q3_14, q3_15, q3_16, q3_17, q3_18, q3_19, q3_20, q3_21, q3_22, q3_23, q3_24, q3_25, q3_26, q3_27, q3_28, q3_29, q3_30, q3_31, q3_32, q3_33, q3_34, q3_35, q3_36, q3_37, hT, hC, hD, hl, hk, lT, lC, ll, lD, hjt, hji, hg, hge, wj, w1, w2, lb1]; (repeat' (first | refine hK _ _ ?_ | refine And.intro ?_ ?_ | (intro hc; try subst hc))) <;> (try clear hK K))
                  | (refine zJ (b := _) (by with_unfolding_all rfl) (fun hc => ?_) (fun hc => ?_) <;> simp at hc <;> (try subst hc)))
                all_goals first | (exfalso; omega) | skip
                all_goals refine ⟨j + 1, hjt, Nat.sub_lt_sub_left hjt (Nat.lt_succ_self j), ?_⟩
                all_goals simp only [I3c, s1, s2]
                all_goals rw [hS]
                all_goals (refine Imp.autoX [(2, some 2)] (by kernel_rfl) ?_ ?_ <;> simp [NLe, mkPlX, hT, hC, hl, lT, lC, ll])
              obtain rfl : j = L.length := by omega
              have hji : ¬ ((L.length : Int) < (L.length : Int)) := by omega
              rw [List.take_length, lsum.1, lsum.2]
              clear hjl hjt lbn lbst h11i h12i llen
              repeat' with_reducible (first
                | refine ZR.h ?_ | refine zI (by decide) ?_
                | (refine zK hE ?_; intro K hK; simp [KR.ks, q3_0, q3_1, q3_2, q3_3, q3_4, q3_5, q3_6, q3_7, q3_8, q3_9, q3_10, q3_11, q3_12, q3_13, q3_14, q3_15, q3_16, q3_17, q3_18, q3_19, q3_20, q3_21, q3_22, q3_23, q3_24, q3_25, q3_26, q3_27, q3_28, q3_29, q3_30, q3_31, q3_32, q3_33, q3_34, q3_35, q3_36, q3_37, hT, hC, hD, hl, hk, lT, lC, ll, lD, hji]; (repeat' (first | refine hK _ _ ?_ | refine And.intro ?_ ?_ | (intro hc; try subst hc))) <;> (try clear hK K))
                | (refine zJ (b := _) (by with_unfolding_all rfl) (fun hc => ?_) (fun hc => ?_) <;> simp at hc <;> (try subst hc)))
              all_goals first | (exfalso; omega) | skip
              clear hji lT lC ll lD
              all_goals (refine Wm_loop (fun j => I3d a b c d e f g 1 l T A i (leftZ i 1 l) (cntZ i 1 l) j) (fun j => j ≤ l.length) (fun j => l.length - j) 0 (Nat.zero_le _) ?_ ?_)
              · simp only [I3d, List.take_zero, show leftZ i 1 [] = 0 from rfl, show cntZ i 1 [] = 0 from rfl]
                rw [hS]
                (refine Imp.autoX [(2, some 2)] (by kernel_rfl) ?_ ?_ <;> simp [NLe, mkPlX, hT, hC, hl])
              rintro j hjl
              (try simp only at hjl)
              simp only [I3d]
              by_cases hjt : j < l.length
              · obtain ⟨x, hx⟩ : ∃ x, l[j]? = some x := ⟨_, List.getElem?_eq_getElem hjt⟩
                obtain ⟨hg, hge⟩ := oz_at hx
                have hji : (j : Int) < (l.length : Int) := by omega
                have wj : IntKind.wrap .i64 ((j : Int) + 1) = (j : Int) + 1 := wrap_in (by omega) (by omega)
                have hq := hob x (List.mem_of_getElem? hx)
                have c1 := left_bnd i 1 (l := l.take j) fun o ho => hob o (List.mem_of_mem_take ho)
                rw [List.length_take, Nat.min_eq_left hjl] at c1
                have s1 : leftZ i 1 (l.take (j + 1)) = leftA i 1 (leftZ i 1 (l.take j)) x := by rw [take_snoc hx, left_snoc]
                have s2 : cntZ i 1 (l.take (j + 1)) = cntA i 1 (cntZ i 1 (l.take j)) x := by rw [take_snoc hx, cnt_snoc]
                generalize leftZ i 1 (l.take j) = n1 at s1 c1 ⊢
                generalize cntZ i 1 (l.take j) = n2 at s2 c1 ⊢
                have w1 : IntKind.wrap .i64 (n1 + x.q) = n1 + x.q := wrap_in (by omega) (by omega)
                have w2 : IntKind.wrap .i64 (n2 + 1) = n2 + 1 := wrap_in (by omega) (by omega)
                simp only [ozC] at hg hge
                simp only [leftA, cntA] at s1 s2
                by_cases z1 : x.n = (i : Int)
                · by_cases z2 : x.s = 1
                  · simp only [z1, z2, and_self, if_true] at s1 s2
                    repeat' with_reducible (first
                      | refine ZR.h ?_ | refine zI (by decide) ?_
                      | (refine zK hE ?_; intro K hK; simp [KR.ks, q3_0, q3_1, q3_2, q3_3, q3_4, q3_5, q3_6, q3_7, q3_8, q3_9, q3_10, q3_11, q3_12, q3_13, q3_14, q3_15, q3_16, q3_17, q3_18, q3_19, q3_20, q3_21, q3_22, q3_23, q3_24, q3_25, q3_26, q3_27, q3_28, q3_29, q3_30, q3_31, q3_32, q3_33, q3_34, q3_35, q3_36, q3_37, hT, hC, hD, hl, hk, hjt, hji, hg, hge, wj, w1, w2, z1, z2]; (repeat' (first | refine hK _ _ ?_ | refine And.intro ?_ ?_ | (intro hc; try subst hc))) <;> (try clear hK K))
                      | (refine zJ (b := _) (by with_unfolding_all rfl) (fun hc => ?_) (fun hc => ?_) <;> simp at hc <;> (try subst hc)))
                    all_goals first | (exfalso; omega) | skip
                    all_goals refine ⟨j + 1, hjt, Nat.sub_lt_sub_left hjt (Nat.lt_succ_self j), ?_⟩
                    all_goals simp only [I3d, s1, s2]
                    all_goals rw [hS]
                    all_goals (refine Imp.autoX [(2, some 2)] (by kernel_rfl) ?_ ?_ <;> simp [NLe, mkPlX, hT, hC, hl])
                  · simp only [z1, z2, and_false, if_false] at s1 s2
                    repeat' with_reducible (first
                      | refine ZR.h ?_ | refine zI (by decide) ?_
                      | (refine zK hE ?_; intro K hK; simp [KR.ks, q3_0, q3_1, q3_2, q3_3, q3_4, q3_5, q3_6, q3_7, q3_8, q3_9, q3_10, q3_11, q3_12, q3_13, q3_14, q3_15, q3_16, q3_17, q3_18, q3_19, q3_20, q3_21, q3_22, q3_23, q3_24, q3_25, q3_26, q3_27, q3_28, q3_29, q3_30, q3_31, q3_32, q3_33, q3_34, q3_35, q3_36, q3_37, hT, hC, hD, hl, hk, hjt, hji, hg, hge, wj, z1, z2]; (repeat' (first | refine hK _ _ ?_ | refine And.intro ?_ ?_ | (intro hc; try subst hc))) <;> (try clear hK K))
                      | (refine zJ (b := _) (by with_unfolding_all rfl) (fun hc => ?_) (fun hc => ?_) <;> simp at hc <;> (try subst hc)))
                    all_goals first | (exfalso; omega) | skip
                    all_goals refine ⟨j + 1, hjt, Nat.sub_lt_sub_left hjt (Nat.lt_succ_self j), ?_⟩
                    all_goals simp only [I3d, s1, s2]
                    all_goals rw [hS]
                    all_goals (refine Imp.autoX [(2, some 2)] (by kernel_rfl) ?_ ?_ <;> simp [NLe, mkPlX, hT, hC, hl])
                · simp only [z1, false_and, if_false] at s1 s2
                  repeat' with_reducible (first
                    | refine ZR.h ?_ | refine zI (by decide) ?_
                    | (refine zK hE ?_; intro K hK; simp [KR.ks, q3_0, q3_1, q3_2, q3_3, q3_4, q3_5, q3_6, q3_7, q3_8, q3_9, q3_10, q3_11, q3_12, q3_13, q3_14, q3_15, q3_16, q3_17, q3_18, q3_19, q3_20, q3_21, q3_22, q3_23, q3_24, q3_25, q3_26, q3_27, q3_28, q3_29, q3_30, q3_31, q3_32, q3_33, q3_34, q3_35, q3_36, q3_37, hT, hC, hD, hl, hk, hjt, hji, hg, hge, wj, z1]; (repeat' (first | refine hK _ _ ?_ | refine And.intro ?_ ?_ | (intro hc; try subst hc))) <;> (try clear hK K))
                    | (refine zJ (b := _) (by with_unfolding_all rfl) (fun hc => ?_) (fun hc => ?_) <;> simp at hc <;> (try subst hc)))
                  all_goals first | (exfalso; omega) | skip
                  all_goals refine ⟨j + 1, hjt, Nat.sub_lt_sub_left hjt (Nat.lt_succ_self j), ?_⟩
                  all_goals simp only [I3d, s1, s2]
                  all_goals rw [hS]
                  all_goals (refine Imp.autoX [(2, some 2)] (by kernel_rfl) ?_ ?_ <;> simp [NLe, mkPlX, hT, hC, hl])
              obtain rfl : j = l.length := by omega
              have hji : ¬ ((l.length : Int) < (l.length : Int)) := by omega
              rw [List.take_length]
              repeat' with_reducible (first
                | refine ZR.h ?_ | refine zI (by decide) ?_
                | (refine zK hE ?_; intro K hK; simp [KR.ks, q3_0, q3_1, q3_2, q3_3, q3_4, q3_5, q3_6, q3_7, q3_8, q3_9, q3_10, q3_11, q3_12, q3_13, q3_14, q3_15, q3_16, q3_17, q3_18, q3_19, q3_20, q3_21, q3_22, q3_23, q3_24, q3_25, q3_26, q3_27, q3_28, q3_29, q3_30, q3_31, q3_32, q3_33, q3_34, q3_35, q3_36, q3_37, hT, hC, hD, hl, hk, hji, wA, wi]; (repeat' (first | refine hK _ _ ?_ | refine And.intro ?_ ?_ | (intro hc; try subst hc))) <;> (try clear hK K))
                | (refine zJ (b := _) (by with_unfolding_all rfl) (fun hc => ?_) (fun hc => ?_) <;> simp at hc <;> (try subst hc)))
              all_goals first | (exfalso; omega) | skip
              all_goals refine ⟨i + 1, hlt, Nat.sub_lt_sub_left hlt (Nat.lt_succ_self i), ?_⟩
              all_goals simp only [I3b, hst]
              all_goals rw [hS]
              all_goals (refine Imp.autoX [(2, some 2)] (by kernel_rfl) ?_ ?_ <;> simp [NLe, mkPlX, hT, hC, hl])
            obtain rfl : i = MM := by omega
            have hki : ¬ ((i : Int) < c) := by omega
            rw [hTT]
            repeat' with_reducible (first
              | refine ZR.h ?_ | refine zI (by decide) ?_
              | (refine zK hE ?_; intro K hK; simp [KR.ks, q3_0, q3_1, q3_2, q3_3, q3_4, q3_5, q3_6, q3_7, q3_8, q3_9, q3_10, q3_11, q3_12, q3_13, q3_14, q3_15, q3_16, q3_17, q3_18, q3_19, q3_20, q3_21, q3_22, q3_23, q3_24, q3_25, q3_26, q3_27, q3_28, q3_29, q3_30, q3_31, q3_32, q3_33, q3_34, q3_35, q3_36, q3_37, hT, hC, hD, hl, hk, hki, h7]; (repeat' (first | refine hK _ _ ?_ | refine And.intro ?_ ?_ | (intro hc; try subst hc))) <;> (try clear hK K))
              | (refine zJ (b := _) (by with_unfolding_all rfl) (fun hc => ?_) (fun hc => ?_) <;> simp at hc <;> (try subst hc)))
            all_goals first | (exfalso; omega) | skip
            all_goals first | (simp; done) | (simp at *; omega) | ((try simp[hT, hC, hl]); refine Imp.auto (by kernel_rfl) ?_ ?_ <;> simp [NLe, hT, hC, hl])
          have h6 : d6 [.agg [.int .i64 a, .int .i64 b, .int .i64 c, .int .i64 d, .int .i64 e, .int .i64 f, .int .i64 g], .os 0 7 (ozLL l)] = some ⟨.tup [.agg [.int .i64 a, .int .i64 b, .int .i64 c, .int .i64 d, .int .i64 e, .int .i64 f, .int .i64 g, .os 0 7 (ozLL l)], .bool true], [.free]⟩ := by
            simp only [d6, hm]; rw [if_pos hmd]
          unfold m3
          repeat' with_reducible (first
            | refine ZR.h ?_ | refine zI (by decide) ?_
            | (refine zK hE ?_; intro K hK; simp [KR.ks, q3_0, q3_1, q3_2, q3_3, q3_4, q3_5, q3_6, q3_7, q3_8, q3_9, q3_10, q3_11, q3_12, q3_13, q3_14, q3_15, q3_16, q3_17, q3_18, q3_19, q3_20, q3_21, q3_22, q3_23, q3_24, q3_25, q3_26, q3_27, q3_28, q3_29, q3_30, q3_31, q3_32, q3_33, q3_34, q3_35, q3_36, q3_37, hT, hC, hD, hl, hk, h6, h7, hz0, hz1]; (repeat' (first | refine hK _ _ ?_ | refine And.intro ?_ ?_ | (intro hc; try subst hc))) <;> (try clear hK K))
            | (refine zJ (b := _) (by with_unfolding_all rfl) (fun hc => ?_) (fun hc => ?_) <;> simp at hc <;> (try subst hc)))
          all_goals first | (exfalso; omega) | skip
          all_goals first | (simp; done) | (simp at *; omega) | ((try simp[hT, hC, hl]); refine Imp.auto (by kernel_rfl) ?_ ?_ <;> simp [NLe, hT, hC, hl])
      · cases h
    · cases h
  · cases h
end Go.W
