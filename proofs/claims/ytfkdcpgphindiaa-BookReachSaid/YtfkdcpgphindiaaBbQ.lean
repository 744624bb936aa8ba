/- A part of the proof (BbQ). -/
import Derived.Test.YtfkdcpgphindiaaBbL
import Derived.Test.YtfkdcpgphindiaaBbU
import Derived.Test.YtfkdcpgphindiaaBbR
namespace Go.W
open Go.Proofs
set_option linter.unusedSimpArgs false
set_option linter.unusedVariables false
set_option maxHeartbeats 8000000
attribute [local irreducible] Wm
attribute [local simp] nmap lkp mkPl prs prsL prT ddL idL CRenL CRen Ren RenL NObj.none CRenLL

theorem keep_at {f : OZ → Bool} {l : List OZ} {j : Nat} {x : OZ} (h : l[j]? = some x) (hf : f x = false) : (keepZ f l)[(keepZ f (l.take j)).length]? = some x := by
  obtain ⟨hj, e⟩ := List.getElem?_eq_some_iff.1 h
  have e1 : l = l.take j ++ x :: l.drop (j + 1) := by
    conv => lhs; rw [← List.take_append_drop j l]
    congr 1
    rw [List.drop_eq_getElem_cons hj, e]
  have e2 : keepZ f l = keepZ f (l.take j) ++ x :: keepZ f (l.drop (j + 1)) := by
    conv => lhs; rw [e1]
    unfold keepZ
    rw [List.filter_append, List.filter_cons_of_pos (by simp [hf])]
  rw [e2, List.getElem?_append_right (Nat.le_refl _), Nat.sub_self]; rfl
def nZ (a b pp : Int) (l : List OZ) : Nat := (keepZ (prB a b pp) l).length
theorem nZ_snoc (a b pp : Int) {l : List OZ} {j : Nat} {x : OZ} (h : l[j]? = some x) : nZ a b pp (l.take (j + 1)) = if ownZ a b x.c = pp then nZ a b pp (l.take j) + 1 else nZ a b pp (l.take j) := by
  unfold nZ
  rw [keep_snoc h]
  by_cases e : ownZ a b x.c = pp
  · rw [if_pos e, if_neg (by unfold prB; simp [e]), List.length_append]; rfl
  · rw [if_neg e, if_pos (by unfold prB; simp [e])]
def d5 : List AV → List NObj → Option AV
  | [.agg [.int .i64 a, .int .i64 b, .int .i64 c, .int .i64 d, .int .i64 e, .int .i64 f, .int .i64 g], .sl (.top 0) 0 n, .agg [.int .i64 o0, .int .i64 o1, .int .i64 o2, .int .i64 o3, .int .i64 o4, .int .i64 o5, .int .i64 o6], .int .i64 nn, .int .i64 pp], [.view 0 7 els] => (match mapV ozOf els with
    | some l => if n = els.length then some (.bool true) else none
    | none => none)
  | _, _ => none

theorem ok5 : ROk d5 := by
  intro xs os r h
  unfold d5 at h
  (repeat' (split at h)) <;> first | (cases h; done) | (injection h with h; subst h; simp)

def I5 (a b c d e f g pp : Int) (l K : List OZ) (k : Nat) : St := ⟨[(1, .sl (.top 0) 0 l.length), (4, .int .i64 pp), (5, .ptr (.top 1) 0 0), (11, .ptr (.top 2) 0 0), (17, .int .i64 (nZ a b pp (l.take k))), (18, .sl (.top 4) 0 K.length), (80, .sl (.top 0) 0 l.length), (81, .int .i64 l.length), (82, .int .i64 k)], [(0, .view 0 7 (ozLL l)), (1, .cells 0 [.int .i64 a, .int .i64 b, .int .i64 c, .int .i64 d, .int .i64 e, .int .i64 f, .int .i64 g]), (2, .cells 0 [.int .i64 a, .int .i64 b, .int .i64 c, .int .i64 d, .int .i64 e, .int .i64 f, .int .i64 g, .sl (.top 3) 0 l.length]), (3, .arr 0 7 (ozLL l)), (4, .arr 0 7 (ozLL K))], 5⟩
theorem s5 : Sound Try.prog 5 (rdS d5 ok5) := by
  refine rd_sound Try.func5 nm5 rc5 rv5 ok5 fun xs os r h vs ρ0 hvs => ⟨xs, ?_, fun _ h => h, fun w0 S hS => ?_⟩
  · unfold d5 at h
    (repeat' (split at h)) <;> first | (cases h; done) | exact Nat.le_of_ble_eq_true rfl
  unfold d5 at h
  split at h
  · rename_i a b c d e f g n o0 o1 o2 o3 o4 o5 o6 nn pp els
    split at h
    · rename_i l hml
      obtain rfl := mapV_ex (g := ozC) (fun _ _ => ozOf_ex) hml
      clear hml
      split at h
      · rename_i hcond
        injection h with h
        subst h
        subst hcond
        simp only [oz_map, oz_len] at hvs hS ⊢
        have hE : SoundAll Try.prog (EL [(6, nestS [(7, false)] d6 ok6), (7, nestS [] d7 ok7), (16, rdS d16 ok16), (17, rdS d17 ok17), (18, rdS d18 ok18), (19, rdS d19 ok19), (20, rdS d20 ok20), (21, rdS d21 ok21)]) := EL_sound (by simp only [List.mem_cons, List.not_mem_nil, or_false, forall_eq_or_imp, forall_eq]; exact ⟨s6, s7, s16, s17, s18, s19, s20, s21⟩)
        have hl := oz_len l
        have hD := oz_dat l
        have hT := oz_t0 l
        have hC := oz_cl l
        have hk : (ozLL l).take l.length = ozLL l := List.take_of_length_le (by rw [hl]; exact Nat.le_refl _)
        have hm : mapV ozOf (ozLL l) = some l := mapV_map (f := ozOf) (g := ozC) ozOf_C l
        have h7 : d7 [] = some ⟨.bool true, []⟩ := rfl
        cases hmd : madeB a b c d e f g l with
        | false =>
          have h6 : d6 [.agg [.int .i64 a, .int .i64 b, .int .i64 c, .int .i64 d, .int .i64 e, .int .i64 f, .int .i64 g], .os 0 7 (ozLL l)] = some ⟨.tup [.agg [.int .i64 0, .int .i64 0, .int .i64 0, .int .i64 0, .int .i64 0, .int .i64 0, .int .i64 0, .nsl], .bool false], [.free]⟩ := by
            simp only [d6, hm]; rw [if_neg (by rw [hmd]; simp)]
          unfold m5
          repeat' with_reducible (first
            | refine ZR.h ?_ | refine zI (by decide) ?_
            | ((first | refine zK hE ?_ | refine zL hE mixT ?_); intro K hK; simp [KR.ks, KD.ks, KD.cl, q5_0, q5_1, q5_2, q5_3, q5_4, q5_5, q5_6, q5_7, q5_8, q5_9, q5_10, q5_11, q5_12, q5_13, q5_14, q5_15, q5_16, q5_17, q5_18, q5_19, q5_20, q5_21, hT, hC, hD, hl, hk, h6, h7]; (repeat' (first | refine hK _ _ ?_ | refine And.intro ?_ ?_ | (intro hc; try subst hc))) <;> (try clear hK K))
            | (refine zJ (b := _) (by with_unfolding_all rfl) (fun hc => ?_) (fun hc => ?_) <;> simp at hc <;> (try subst hc)))
          all_goals first | (exfalso; omega) | skip
          all_goals first | (simp; done) | (simp at *; omega) | ((try simp[hT, hC, hl]); refine Imp.auto (by kernel_rfl) ?_ ?_ <;> simp [NLe, hT, hC, hl])
        | true =>
          by_cases z1 : o3 < 1
          · skip
            have h6 : d6 [.agg [.int .i64 a, .int .i64 b, .int .i64 c, .int .i64 d, .int .i64 e, .int .i64 f, .int .i64 g], .os 0 7 (ozLL l)] = some ⟨.tup [.agg [.int .i64 a, .int .i64 b, .int .i64 c, .int .i64 d, .int .i64 e, .int .i64 f, .int .i64 g, .os 0 7 (ozLL l)], .bool true], [.free]⟩ := by
              simp only [d6, hm]; rw [if_pos hmd]
            unfold m5
            repeat' with_reducible (first
              | refine ZR.h ?_ | refine zI (by decide) ?_
              | ((first | refine zK hE ?_ | refine zL hE mixT ?_); intro K hK; simp [KR.ks, KD.ks, KD.cl, q5_0, q5_1, q5_2, q5_3, q5_4, q5_5, q5_6, q5_7, q5_8, q5_9, q5_10, q5_11, q5_12, q5_13, q5_14, q5_15, q5_16, q5_17, q5_18, q5_19, q5_20, q5_21, hT, hC, hD, hl, hk, h6, h7, z1]; (repeat' (first | refine hK _ _ ?_ | refine And.intro ?_ ?_ | (intro hc; try subst hc))) <;> (try clear hK K))
              | (refine zJ (b := _) (by with_unfolding_all rfl) (fun hc => ?_) (fun hc => ?_) <;> simp at hc <;> (try subst hc)))
            all_goals first | (exfalso; omega) | skip
            all_goals first | (simp; done) | (simp at *; omega) | ((try simp[hT, hC, hl]); refine Imp.auto (by kernel_rfl) ?_ ?_ <;> simp [NLe, hT, hC, hl])
          by_cases z2 : 9999 < o3
          · skip
            have h6 : d6 [.agg [.int .i64 a, .int .i64 b, .int .i64 c, .int .i64 d, .int .i64 e, .int .i64 f, .int .i64 g], .os 0 7 (ozLL l)] = some ⟨.tup [.agg [.int .i64 a, .int .i64 b, .int .i64 c, .int .i64 d, .int .i64 e, .int .i64 f, .int .i64 g, .os 0 7 (ozLL l)], .bool true], [.free]⟩ := by
              simp only [d6, hm]; rw [if_pos hmd]
            unfold m5
            repeat' with_reducible (first
              | refine ZR.h ?_ | refine zI (by decide) ?_
              | ((first | refine zK hE ?_ | refine zL hE mixT ?_); intro K hK; simp [KR.ks, KD.ks, KD.cl, q5_0, q5_1, q5_2, q5_3, q5_4, q5_5, q5_6, q5_7, q5_8, q5_9, q5_10, q5_11, q5_12, q5_13, q5_14, q5_15, q5_16, q5_17, q5_18, q5_19, q5_20, q5_21, hT, hC, hD, hl, hk, h6, h7, z1, z2]; (repeat' (first | refine hK _ _ ?_ | refine And.intro ?_ ?_ | (intro hc; try subst hc))) <;> (try clear hK K))
              | (refine zJ (b := _) (by with_unfolding_all rfl) (fun hc => ?_) (fun hc => ?_) <;> simp at hc <;> (try subst hc)))
            all_goals first | (exfalso; omega) | skip
            all_goals first | (simp; done) | (simp at *; omega) | ((try simp[hT, hC, hl]); refine Imp.auto (by kernel_rfl) ?_ ?_ <;> simp [NLe, hT, hC, hl])
          by_cases z3 : 9999 < o6
          · skip
            have h6 : d6 [.agg [.int .i64 a, .int .i64 b, .int .i64 c, .int .i64 d, .int .i64 e, .int .i64 f, .int .i64 g], .os 0 7 (ozLL l)] = some ⟨.tup [.agg [.int .i64 a, .int .i64 b, .int .i64 c, .int .i64 d, .int .i64 e, .int .i64 f, .int .i64 g, .os 0 7 (ozLL l)], .bool true], [.free]⟩ := by
              simp only [d6, hm]; rw [if_pos hmd]
            unfold m5
            repeat' with_reducible (first
              | refine ZR.h ?_ | refine zI (by decide) ?_
              | ((first | refine zK hE ?_ | refine zL hE mixT ?_); intro K hK; simp [KR.ks, KD.ks, KD.cl, q5_0, q5_1, q5_2, q5_3, q5_4, q5_5, q5_6, q5_7, q5_8, q5_9, q5_10, q5_11, q5_12, q5_13, q5_14, q5_15, q5_16, q5_17, q5_18, q5_19, q5_20, q5_21, hT, hC, hD, hl, hk, h6, h7, z1, z2, z3]; (repeat' (first | refine hK _ _ ?_ | refine And.intro ?_ ?_ | (intro hc; try subst hc))) <;> (try clear hK K))
              | (refine zJ (b := _) (by with_unfolding_all rfl) (fun hc => ?_) (fun hc => ?_) <;> simp at hc <;> (try subst hc)))
            all_goals first | (exfalso; omega) | skip
            all_goals first | (simp; done) | (simp at *; omega) | ((try simp[hT, hC, hl]); refine Imp.auto (by kernel_rfl) ?_ ?_ <;> simp [NLe, hT, hC, hl])
          have h6 : d6 [.agg [.int .i64 a, .int .i64 b, .int .i64 c, .int .i64 d, .int .i64 e, .int .i64 f, .int .i64 g], .os 0 7 (ozLL l)] = some ⟨.tup [.agg [.int .i64 a, .int .i64 b, .int .i64 c, .int .i64 d, .int .i64 e, .int .i64 f, .int .i64 g, .os 0 7 (ozLL l)], .bool true], [.free]⟩ := by
            simp only [d6, hm]; rw [if_pos hmd]
          obtain ⟨hcf, hok, hle⟩ := made_ok hmd
          have hob := (okO_ex hok).2
          have hlen := (okO_ex hok).1
          obtain ⟨y1, y2, y3, y4, _⟩ := cfg_ex hcf
          have hab := cfg_all hcf
          have wab : IntKind.wrap .i64 (a * b) = a * b := wrap_in (by omega) (by omega)
          have nb0 : ¬ b = 0 := by omega
          have h16 : d16 [.agg [.int .i64 a, .int .i64 b, .int .i64 c, .int .i64 d, .int .i64 e, .int .i64 f, .int .i64 g, .sl (.top 0) 0 l.length], .int .i64 nn] [.view 0 7 (ozLL l)] = some (.tup [.int .i64 (crossZ nn l).1, .int .i64 (crossZ nn l).2]) := by
            simp only [d16, hm, hl]; rw [if_pos ⟨trivial, hok⟩]
          have h17 : d17 [.sl (.top 0) 0 l.length, .int .i64 nn] [.view 0 7 (ozLL l)] = some (.tup [.int .i64 (crossZ nn l).1, .int .i64 (crossZ nn l).2]) := by
            simp only [d17, hm, hl]; rw [if_pos ⟨trivial, hok⟩]
          have h18 : d18 [.agg [.int .i64 a, .int .i64 b, .int .i64 c, .int .i64 d, .int .i64 e, .int .i64 f, .int .i64 g, .sl (.top 0) 0 l.length], .agg [.int .i64 o0, .int .i64 o1, .int .i64 o2, .int .i64 o3, .int .i64 o4, .int .i64 o5, .int .i64 o6]] [.view 0 7 (ozLL l)] = some (.int .i64 (reachZ a b ⟨o0, o1, o2, o3, o4, o5, o6⟩ l)) := by
            simp only [d18, hm, hl]; rw [if_pos ⟨trivial, hok, hcf, by omega, by omega⟩]
          have h19 : d19 [.agg [.int .i64 a, .int .i64 b, .int .i64 c, .int .i64 d, .int .i64 e, .int .i64 f, .int .i64 g], .sl (.top 0) 0 l.length, .agg [.int .i64 o0, .int .i64 o1, .int .i64 o2, .int .i64 o3, .int .i64 o4, .int .i64 o5, .int .i64 o6]] [.view 0 7 (ozLL l)] = some (.int .i64 (reachZ a b ⟨o0, o1, o2, o3, o4, o5, o6⟩ l)) := by
            simp only [d19, hm, hl]; rw [if_pos ⟨trivial, hok, hcf, by omega, by omega⟩]
          have h20 : d20 [.agg [.int .i64 a, .int .i64 b, .int .i64 c, .int .i64 d, .int .i64 e, .int .i64 f, .int .i64 g, .sl (.top 0) 0 l.length], .int .i64 pp] [.view 0 7 (ozLL l)] = some (.os 0 7 (ozLL (keepZ (prB a b pp) l))) := by
            simp only [d20, hm, hl]; rw [if_pos ⟨trivial, hlen, hcf⟩]
          have h21 : d21 [.agg [.int .i64 a, .int .i64 b, .int .i64 c, .int .i64 d, .int .i64 e, .int .i64 f, .int .i64 g, .sl (.top 0) 0 l.length]] [.view 0 7 (ozLL l)] = some (.os 0 7 (ozLL l)) := by
            simp only [d21, hm, hl]; rw [if_pos ⟨trivial, hlen⟩]
          generalize crossZ nn l = crz at h16 h17
          generalize reachZ a b ⟨o0, o1, o2, o3, o4, o5, o6⟩ l = rcz at h18 h19
          have hkat : ∀ (k : Nat) (x : OZ), l[k]? = some x → ownZ a b x.c = pp → (keepZ (prB a b pp) l)[nZ a b pp (l.take k)]? = some x := fun k x hx he => keep_at hx (by unfold prB; simp [he])
          have hkn : nZ a b pp (l.take l.length) = (keepZ (prB a b pp) l).length := by rw [List.take_length]; rfl
          have hkl : (keepZ (prB a b pp) l).length ≤ l.length := keep_len _ _
          have hkt : ∀ k, nZ a b pp (l.take k) ≤ l.length := fun k => Nat.le_trans (keep_len _ _) (by rw [List.length_take]; exact Nat.min_le_right ..)
          generalize keepZ (prB a b pp) l = K at *
          have kT := oz_t0 K
          have kC := oz_cl K
          have kl := oz_len K
          have kD := oz_dat K
          unfold m5
          repeat' with_reducible (first
            | refine ZR.h ?_ | refine zI (by decide) ?_
            | ((first | refine zK hE ?_ | refine zL hE mixT ?_); intro K hK; simp [KR.ks, KD.ks, KD.cl, q5_0, q5_1, q5_2, q5_3, q5_4, q5_5, q5_6, q5_7, q5_8, q5_9, q5_10, q5_11, q5_12, q5_13, q5_14, q5_15, q5_16, q5_17, q5_18, q5_19, q5_20, q5_21, hT, hC, hD, hl, hk, kT, kC, kl, kD, h6, z1, z2, z3, h16, h17, h18, h19, h20]; (repeat' (first | refine hK _ _ ?_ | refine And.intro ?_ ?_ | (intro hc; try subst hc))) <;> (try clear hK K))
            | (refine zJ (b := _) (by with_unfolding_all rfl) (fun hc => ?_) (fun hc => ?_) <;> simp at hc <;> (try subst hc)))
          all_goals first | (exfalso; omega) | skip
          all_goals (refine Wm_loop (fun k => I5 a b c d e f g pp l K k) (fun k => k ≤ l.length) (fun k => l.length - k) 0 (Nat.zero_le _) ?_ ?_)
          · simp only [I5, List.take_zero, show nZ a b pp [] = 0 from rfl]
            rw [hS]
            (refine Imp.autoX [(3, some 41)] (by kernel_rfl) ?_ ?_ <;> simp [NLe, mkPlX, hT, hC, hl, kT, kC, kl])
          clear h6 h16 h17 h18 h19 h20
          rintro k hkl2
          (try simp only at hkl2)
          simp only [I5]
          by_cases hlt : k < l.length
          · obtain ⟨x, hx⟩ : ∃ x, l[k]? = some x := ⟨_, List.getElem?_eq_getElem hlt⟩
            obtain ⟨hg, hge⟩ := oz_at hx
            have hji : (k : Int) < (l.length : Int) := by omega
            have wj : IntKind.wrap .i64 ((k : Int) + 1) = (k : Int) + 1 := wrap_in (by omega) (by omega)
            have hst := nZ_snoc a b pp hx
            have hka := hkat k x hx
            have hkb := hkt k
            simp only [ownZ] at hst hka
            generalize nZ a b pp (l.take k) = m at hst hka hkb ⊢
            have w1 : IntKind.wrap .i64 ((m : Int) + 1) = (m : Int) + 1 := wrap_in (by omega) (by omega)
            simp only [ozC] at hg hge
            by_cases c1 : x.c < 0
            · simp only [c1, if_true] at hst hka
              by_cases c2 : pp = -1
              · subst c2
                have s1 : nZ a b (-1) (l.take (k + 1)) = m + 1 := by rw [hst]; simp [c1]
                repeat' with_reducible (first
                  | refine ZR.h ?_ | refine zI (by decide) ?_
                  | ((first | refine zK hE ?_ | refine zL hE mixT ?_); intro K hK; simp [KR.ks, KD.ks, KD.cl, q5_0, q5_1, q5_2, q5_3, q5_4, q5_5, q5_6, q5_7, q5_8, q5_9, q5_10, q5_11, q5_12, q5_13, q5_14, q5_15, q5_16, q5_17, q5_18, q5_19, q5_20, q5_21, hT, hC, hD, hl, hk, kT, kC, kl, kD, hlt, hji, hg, hge, wj, w1, wab, c1]; (repeat' (first | refine hK _ _ ?_ | refine And.intro ?_ ?_ | (intro hc; try subst hc))) <;> (try clear hK K))
                  | (refine zJ (b := _) (by with_unfolding_all rfl) (fun hc => ?_) (fun hc => ?_) <;> simp at hc <;> (try subst hc)))
                all_goals first | (exfalso; omega) | skip
                all_goals refine ⟨k + 1, hlt, Nat.sub_lt_sub_left hlt (Nat.lt_succ_self k), ?_⟩
                all_goals simp only [I5, s1]
                all_goals rw [hS]
                all_goals (refine Imp.autoX [(3, some 3)] (by kernel_rfl) ?_ ?_ <;> simp [NLe, mkPlX, hT, hC, hl, kT, kC, kl])
              · have c3 : ¬ (-1 : Int) = pp := fun e => c2 e.symm
                have s1 : nZ a b pp (l.take (k + 1)) = m := by rw [hst]; simp [c1, c2, c3]
                repeat' with_reducible (first
                  | refine ZR.h ?_ | refine zI (by decide) ?_
                  | ((first | refine zK hE ?_ | refine zL hE mixT ?_); intro K hK; simp [KR.ks, KD.ks, KD.cl, q5_0, q5_1, q5_2, q5_3, q5_4, q5_5, q5_6, q5_7, q5_8, q5_9, q5_10, q5_11, q5_12, q5_13, q5_14, q5_15, q5_16, q5_17, q5_18, q5_19, q5_20, q5_21, hT, hC, hD, hl, hk, kT, kC, kl, kD, hlt, hji, hg, hge, wj, w1, wab, c1, c2, c3]; (repeat' (first | refine hK _ _ ?_ | refine And.intro ?_ ?_ | (intro hc; try subst hc))) <;> (try clear hK K))
                  | (refine zJ (b := _) (by with_unfolding_all rfl) (fun hc => ?_) (fun hc => ?_) <;> simp at hc <;> (try subst hc)))
                all_goals first | (exfalso; omega) | skip
                all_goals refine ⟨k + 1, hlt, Nat.sub_lt_sub_left hlt (Nat.lt_succ_self k), ?_⟩
                all_goals simp only [I5, s1]
                all_goals rw [hS]
                all_goals (refine Imp.autoX [(3, some 3)] (by kernel_rfl) ?_ ?_ <;> simp [NLe, mkPlX, hT, hC, hl, kT, kC, kl])
            by_cases c4 : x.c < a * b
            · have c5 : ¬ a * b ≤ x.c := by omega
              have eq1 : x.c.tdiv b = x.c / b := Int.tdiv_eq_ediv_of_nonneg (by omega)
              have q1 : 0 ≤ x.c / b := Int.ediv_nonneg (by omega) (by omega)
              have q2 : x.c / b ≤ x.c := Int.ediv_le_self _ (by omega)
              have w2 : IntKind.wrap .i64 (x.c / b) = x.c / b := wrap_in (by omega) (by omega)
              simp only [c1, c4, if_false, if_true] at hst hka
              generalize x.c / b = ow at *
              by_cases c6 : ow = pp
              · subst c6
                have hka := hka rfl
                obtain ⟨ga, gb⟩ := oz_at hka
                have hmK : m < K.length := (List.getElem?_eq_some_iff.1 hka).1
                have hmK2 : (m : Int) < (K.length : Int) := by omega
                have hmK3 : ¬ ((K.length : Int) ≤ (m : Int)) := by omega
                have hmK4 : ¬ (K.length ≤ m) := by omega
                simp only [ozC] at ga gb
                have s1 : nZ a b ow (l.take (k + 1)) = m + 1 := by rw [hst]; simp [c1, c4, c5, eq1, w2, nb0, ga, gb, hmK, hmK2, hmK3, hmK4]
                repeat' with_reducible (first
                  | refine ZR.h ?_ | refine zI (by decide) ?_
                  | ((first | refine zK hE ?_ | refine zL hE mixT ?_); intro K hK; simp [KR.ks, KD.ks, KD.cl, q5_0, q5_1, q5_2, q5_3, q5_4, q5_5, q5_6, q5_7, q5_8, q5_9, q5_10, q5_11, q5_12, q5_13, q5_14, q5_15, q5_16, q5_17, q5_18, q5_19, q5_20, q5_21, hT, hC, hD, hl, hk, kT, kC, kl, kD, hlt, hji, hg, hge, wj, w1, wab, c1, c4, c5, eq1, w2, nb0, ga, gb, hmK, hmK2, hmK3, hmK4]; (repeat' (first | refine hK _ _ ?_ | refine And.intro ?_ ?_ | (intro hc; try subst hc))) <;> (try clear hK K))
                  | (refine zJ (b := _) (by with_unfolding_all rfl) (fun hc => ?_) (fun hc => ?_) <;> simp at hc <;> (try subst hc)))
                all_goals first | (exfalso; omega) | skip
                all_goals refine ⟨k + 1, hlt, Nat.sub_lt_sub_left hlt (Nat.lt_succ_self k), ?_⟩
                all_goals simp only [I5, s1]
                all_goals rw [hS]
                all_goals (refine Imp.autoX [(3, some 3)] (by kernel_rfl) ?_ ?_ <;> simp [NLe, mkPlX, hT, hC, hl, kT, kC, kl])
              ·
                have s1 : nZ a b pp (l.take (k + 1)) = m := by rw [hst]; simp [c1, c4, c5, eq1, w2, nb0, c6]
                repeat' with_reducible (first
                  | refine ZR.h ?_ | refine zI (by decide) ?_
                  | ((first | refine zK hE ?_ | refine zL hE mixT ?_); intro K hK; simp [KR.ks, KD.ks, KD.cl, q5_0, q5_1, q5_2, q5_3, q5_4, q5_5, q5_6, q5_7, q5_8, q5_9, q5_10, q5_11, q5_12, q5_13, q5_14, q5_15, q5_16, q5_17, q5_18, q5_19, q5_20, q5_21, hT, hC, hD, hl, hk, kT, kC, kl, kD, hlt, hji, hg, hge, wj, w1, wab, c1, c4, c5, eq1, w2, nb0, c6]; (repeat' (first | refine hK _ _ ?_ | refine And.intro ?_ ?_ | (intro hc; try subst hc))) <;> (try clear hK K))
                  | (refine zJ (b := _) (by with_unfolding_all rfl) (fun hc => ?_) (fun hc => ?_) <;> simp at hc <;> (try subst hc)))
                all_goals first | (exfalso; omega) | skip
                all_goals refine ⟨k + 1, hlt, Nat.sub_lt_sub_left hlt (Nat.lt_succ_self k), ?_⟩
                all_goals simp only [I5, s1]
                all_goals rw [hS]
                all_goals (refine Imp.autoX [(3, some 3)] (by kernel_rfl) ?_ ?_ <;> simp [NLe, mkPlX, hT, hC, hl, kT, kC, kl])
            · have c5 : a * b ≤ x.c := by omega
              simp only [c1, c4, if_false] at hst hka
              by_cases c2 : pp = -1
              · subst c2
                have s1 : nZ a b (-1) (l.take (k + 1)) = m + 1 := by rw [hst]; simp [c1, c4, c5]
                repeat' with_reducible (first
                  | refine ZR.h ?_ | refine zI (by decide) ?_
                  | ((first | refine zK hE ?_ | refine zL hE mixT ?_); intro K hK; simp [KR.ks, KD.ks, KD.cl, q5_0, q5_1, q5_2, q5_3, q5_4, q5_5, q5_6, q5_7, q5_8, q5_9, q5_10, q5_11, q5_12, q5_13, q5_14, q5_15, q5_16, q5_17, q5_18, q5_19, q5_20, q5_21, hT, hC, hD, hl, hk, kT, kC, kl, kD, hlt, hji, hg, hge, wj, w1, wab, c1, c4, c5]; (repeat' (first | refine hK _ _ ?_ | refine And.intro ?_ ?_ | (intro hc; try subst hc))) <;> (try clear hK K))
                  | (refine zJ (b := _) (by with_unfolding_all rfl) (fun hc => ?_) (fun hc => ?_) <;> simp at hc <;> (try subst hc)))
                all_goals first | (exfalso; omega) | skip
                all_goals refine ⟨k + 1, hlt, Nat.sub_lt_sub_left hlt (Nat.lt_succ_self k), ?_⟩
                all_goals simp only [I5, s1]
                all_goals rw [hS]
                all_goals (refine Imp.autoX [(3, some 3)] (by kernel_rfl) ?_ ?_ <;> simp [NLe, mkPlX, hT, hC, hl, kT, kC, kl])
              · have c3 : ¬ (-1 : Int) = pp := fun e => c2 e.symm
                have s1 : nZ a b pp (l.take (k + 1)) = m := by rw [hst]; simp [c1, c4, c5, c2, c3]
                repeat' with_reducible (first
                  | refine ZR.h ?_ | refine zI (by decide) ?_
                  | ((first | refine zK hE ?_ | refine zL hE mixT ?_); intro K hK; simp [KR.ks, KD.ks, KD.cl, q5_0, q5_1, q5_2, q5_3, q5_4, q5_5, q5_6, q5_7, q5_8, q5_9, q5_10, q5_11, q5_12, q5_13, q5_14, q5_15, q5_16, q5_17, q5_18, q5_19, q5_20, q5_21, hT, hC, hD, hl, hk, kT, kC, kl, kD, hlt, hji, hg, hge, wj, w1, wab, c1, c4, c5, c2, c3]; (repeat' (first | refine hK _ _ ?_ | refine And.intro ?_ ?_ | (intro hc; try subst hc))) <;> (try clear hK K))
                  | (refine zJ (b := _) (by with_unfolding_all rfl) (fun hc => ?_) (fun hc => ?_) <;> simp at hc <;> (try subst hc)))
                all_goals first | (exfalso; omega) | skip
                all_goals refine ⟨k + 1, hlt, Nat.sub_lt_sub_left hlt (Nat.lt_succ_self k), ?_⟩
                all_goals simp only [I5, s1]
                all_goals rw [hS]
                all_goals (refine Imp.autoX [(3, some 3)] (by kernel_rfl) ?_ ?_ <;> simp [NLe, mkPlX, hT, hC, hl, kT, kC, kl])
          obtain rfl : k = l.length := by omega
          have hji : ¬ ((l.length : Int) < (l.length : Int)) := by omega
          rw [hkn]
          by_cases hpn : pp < 0
          · repeat' with_reducible (first
              | refine ZR.h ?_ | refine zI (by decide) ?_
              | ((first | refine zK hE ?_ | refine zL hE mixT ?_); intro K hK; simp [KR.ks, KD.ks, KD.cl, q5_0, q5_1, q5_2, q5_3, q5_4, q5_5, q5_6, q5_7, q5_8, q5_9, q5_10, q5_11, q5_12, q5_13, q5_14, q5_15, q5_16, q5_17, q5_18, q5_19, q5_20, q5_21, hT, hC, hD, hl, hk, kT, kC, kl, kD, hji, h7, h21, hpn]; (repeat' (first | refine hK _ _ ?_ | refine And.intro ?_ ?_ | (intro hc; try subst hc))) <;> (try clear hK K))
              | (refine zJ (b := _) (by with_unfolding_all rfl) (fun hc => ?_) (fun hc => ?_) <;> simp at hc <;> (try subst hc)))
            all_goals first | (exfalso; omega) | skip
            all_goals first | (simp; done) | (simp at *; omega) | ((try simp[hT, hC, hl]); refine Imp.auto (by kernel_rfl) ?_ ?_ <;> simp [NLe, hT, hC, hl])
          · repeat' with_reducible (first
              | refine ZR.h ?_ | refine zI (by decide) ?_
              | ((first | refine zK hE ?_ | refine zL hE mixT ?_); intro K hK; simp [KR.ks, KD.ks, KD.cl, q5_0, q5_1, q5_2, q5_3, q5_4, q5_5, q5_6, q5_7, q5_8, q5_9, q5_10, q5_11, q5_12, q5_13, q5_14, q5_15, q5_16, q5_17, q5_18, q5_19, q5_20, q5_21, hT, hC, hD, hl, hk, kT, kC, kl, kD, hji, h7, h21, hpn]; (repeat' (first | refine hK _ _ ?_ | refine And.intro ?_ ?_ | (intro hc; try subst hc))) <;> (try clear hK K))
              | (refine zJ (b := _) (by with_unfolding_all rfl) (fun hc => ?_) (fun hc => ?_) <;> simp at hc <;> (try subst hc)))
            all_goals first | (exfalso; omega) | skip
            all_goals first | (simp; done) | (simp at *; omega) | ((try simp[hT, hC, hl]); refine Imp.auto (by kernel_rfl) ?_ ?_ <;> simp [NLe, hT, hC, hl])
      · cases h
    · cases h
  · cases h
end Go.W
