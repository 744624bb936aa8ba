/- A part of the proof (BbI, BbR). -/
import Derived.Test.YtfkdcpgphindiaaBbG
import Derived.Test.YtfkdcpgphindiaaPsG
import Derived.Test.YtfkdcpgphindiaaPsI
import Derived.Test.YtfkdcpgphindiaaPuA
namespace Go.W
open Go.Proofs
set_option linter.unusedSimpArgs false
set_option linter.unusedVariables false
set_option maxHeartbeats 8000000
attribute [local irreducible] Wm
attribute [local simp] nmap lkp mkPl prs prsL prT ddL idL CRenL CRen Ren RenL NObj.none CRenLL

def tmZ (o : OZ) : TmZ := ⟨o.n, o.s, o.p, o.l, o.u⟩
theorem match_bnd (x y : TmZ) (l o : Int) : 0 ≤ (matchZ x y l o).1 ∧ ((matchZ x y l o).1 ≤ o ∨ (matchZ x y l o).1 = 0) := by
  unfold matchZ
  repeat' split
  all_goals first | (simp; done) | (simp only; omega)
def rcStep (a b : Int) (o : OZ) (n : Int) (x : OZ) : Int := if ownZ a b x.c = ownZ a b o.c then n else n + (matchZ (tmZ o) (tmZ x) o.q x.q).1
def reachS (a b : Int) (o : OZ) (os : List OZ) : Int := os.foldl (rcStep a b o) 0
/-- HOW MUCH AN ORDER REACHES. -/
def reachZ (a b : Int) (o : OZ) (os : List OZ) : Int := if (if o.q < 0 then 0 else o.q) < reachS a b o os then (if o.q < 0 then 0 else o.q) else reachS a b o os
theorem reach_snoc (a b : Int) (o : OZ) (os : List OZ) (x : OZ) : reachS a b o (os ++ [x]) = rcStep a b o (reachS a b o os) x := by unfold reachS; rw [List.foldl_append]; rfl
theorem reach_bnd (a b : Int) (o : OZ) {os : List OZ} (h : ∀ o ∈ os, 1 ≤ o.p ∧ o.p ≤ 9999 ∧ 0 ≤ o.q ∧ o.q ≤ 9999) : 0 ≤ reachS a b o os ∧ reachS a b o os ≤ 9999 * os.length := by
  revert h
  refine snoc_ind (m := fun os => (∀ o ∈ os, 1 ≤ o.p ∧ o.p ≤ 9999 ∧ 0 ≤ o.q ∧ o.q ≤ 9999) → 0 ≤ reachS a b o os ∧ reachS a b o os ≤ 9999 * os.length) (fun _ => by simp [reachS]) (fun l x ih h => ?_) os
  have h1 := ih fun o ho => h o (List.mem_append_left _ ho)
  have h2 := h x (by simp)
  have h3 := match_bnd (tmZ o) (tmZ x) o.q x.q
  rw [reach_snoc, List.length_append, List.length_singleton]
  unfold rcStep
  split <;> omega
def I18 (a b c d e f g o0 o1 o2 o3 o4 o5 o6 : Int) (l : List OZ) (k : Nat) : St := ⟨[(2, .ptr (.top 1) 0 0), (3, .ptr (.top 2) 0 0), (5, .int .i64 (reachS a b ⟨o0, o1, o2, o3, o4, o5, o6⟩ (l.take k))), (9, .sl (.top 0) 0 l.length), (10, .int .i64 l.length), (11, .int .i64 k)], [(0, .view 0 7 (ozLL l)), (1, .cells 0 [.int .i64 a, .int .i64 b, .int .i64 c, .int .i64 d, .int .i64 e, .int .i64 f, .int .i64 g, .sl (.top 0) 0 l.length]), (2, .cells 0 [.int .i64 o0, .int .i64 o1, .int .i64 o2, .int .i64 o3, .int .i64 o4, .int .i64 o5, .int .i64 o6])], 3⟩

def d18 : List AV → List NObj → Option AV
  | [.agg [.int .i64 a, .int .i64 b, .int .i64 c, .int .i64 d, .int .i64 e, .int .i64 f, .int .i64 g, .sl (.top 0) 0 n], .agg [.int .i64 o0, .int .i64 o1, .int .i64 o2, .int .i64 o3, .int .i64 o4, .int .i64 o5, .int .i64 o6]], [.view 0 7 els] => (match mapV ozOf els with
    | some l => if n = els.length ∧ okO l = true ∧ cfgB a b c d e f g = true ∧ 0 ≤ o3 ∧ o3 ≤ 1000000 then some (.int .i64 (reachZ a b ⟨o0, o1, o2, o3, o4, o5, o6⟩ l)) else none
    | none => none)
  | _, _ => none
theorem ok18 : ROk d18 := by
  intro xs os r h
  unfold d18 at h
  split at h
  · split at h
    · split at h
      · injection h with h; subst h; simp
      · cases h
    · cases h
  · cases h
theorem s18 : Sound Try.prog 18 (rdS d18 ok18) := by
  refine rd_sound Try.func18 nm18 rc18 rv18 ok18 fun xs os r h vs ρ0 hvs => ⟨xs, ?_, fun _ h => h, fun w0 S hS => ?_⟩
  · unfold d18 at h
    (repeat' (split at h)) <;> first | (cases h; done) | exact Nat.le_of_ble_eq_true rfl
  unfold d18 at h
  split at h
  · rename_i a b c d e f g n o0 o1 o2 o3 o4 o5 o6 els
    split at h
    · rename_i l hml
      obtain rfl := mapV_ex (g := ozC) (fun _ _ => ozOf_ex) hml
      clear hml
      split at h
      · rename_i hcond
        injection h with h
        subst h
        obtain ⟨rfl, hok, hcf⟩ := hcond
        simp only [oz_map, oz_len] at hvs hS ⊢
        have hlen := (okO_ex hok).1
        have hob := (okO_ex hok).2
        have hE : SoundAll Try.prog (EL [(33, rdS d33 ok33), (34, rdS d34 ok34)]) := EL_sound (by simp only [List.mem_cons, List.not_mem_nil, or_false, forall_eq_or_imp, forall_eq]; exact ⟨s33, s34⟩)
        have hl := oz_len l
        have hD := oz_dat l
        have hT := oz_t0 l
        have hC := oz_cl l
        have hk : (ozLL l).take l.length = ozLL l := List.take_of_length_le (by rw [hl]; exact Nat.le_refl _)
        have hm : mapV ozOf (ozLL l) = some l := mapV_map (f := ozOf) (g := ozC) ozOf_C l
        unfold m18
        repeat' with_reducible (first
          | refine ZR.h ?_ | refine zI (by decide) ?_
          | ((first | refine zK hE ?_ | refine zL hE mixT ?_); intro K hK; simp [KR.ks, KD.ks, KD.cl, q18_0, q18_1, q18_2, q18_3, q18_4, q18_5, q18_6, q18_7, q18_8, hD, hl, hT, hC]; (repeat' (first | refine hK _ _ ?_ | refine And.intro ?_ ?_ | (intro hc; try subst hc))) <;> (try clear hK K))
          | (refine zJ (b := _) (by with_unfolding_all rfl) (fun hc => ?_) (fun hc => ?_) <;> simp at hc <;> (try subst hc)))
        all_goals (refine Wm_loop (fun k => I18 a b c d e f g o0 o1 o2 o3 o4 o5 o6 l k) (fun k => k ≤ l.length) (fun k => l.length - k) 0 (Nat.zero_le _) ?_ ?_)
        · simp only [I18, List.take_zero]
          rw [hS]
          (refine Imp.auto (by kernel_rfl) ?_ ?_ <;> simp [NLe, mkPlX, hT, hC, hl, reachS])
        rintro k hkl
        (try simp only at hkl)
        simp only [I18]
        by_cases hlt : k < l.length
        · obtain ⟨x, hx⟩ : ∃ x, l[k]? = some x := ⟨_, List.getElem?_eq_getElem hlt⟩
          obtain ⟨hg, hge⟩ := oz_at hx
          have hki : (k : Int) < (l.length : Int) := by omega
          have ww : IntKind.wrap .i64 ((k : Int) + 1) = (k : Int) + 1 := wrap_in (by omega) (by omega)
          have hstep : reachS a b ⟨o0, o1, o2, o3, o4, o5, o6⟩ (l.take (k + 1)) = rcStep a b ⟨o0, o1, o2, o3, o4, o5, o6⟩ (reachS a b ⟨o0, o1, o2, o3, o4, o5, o6⟩ (l.take k)) x := by rw [take_snoc hx, reach_snoc]
          have hq := hob x (List.mem_of_getElem? hx)
          have hbd := reach_bnd a b ⟨o0, o1, o2, o3, o4, o5, o6⟩ (os := l.take k) fun o ho => hob o (List.mem_of_mem_take ho)
          rw [List.length_take, Nat.min_eq_left hkl] at hbd
          have h33 : ∀ v, d33 [.agg [.int .i64 a, .int .i64 b, .int .i64 c, .int .i64 d, .int .i64 e, .int .i64 f, .int .i64 g], .int .i64 v] [] = some (.int .i64 (ownZ a b v)) := fun v => by simp only [d33]; rw [if_pos hcf.1]
          have h34 : d34 [.agg [.int .i64 o1, .int .i64 o2, .int .i64 o3, .int .i64 o4, .int .i64 o5], .agg [.int .i64 x.n, .int .i64 x.s, .int .i64 x.p, .int .i64 x.l, .int .i64 x.u], .int .i64 o6, .int .i64 x.q] [] = some (.agg [.int .i64 (matchZ (tmZ ⟨o0, o1, o2, o3, o4, o5, o6⟩) (tmZ x) o6 x.q).1, .int .i64 (matchZ (tmZ ⟨o0, o1, o2, o3, o4, o5, o6⟩) (tmZ x) o6 x.q).2]) := by
            simp only [d34, tmZ]; rw [if_pos (by omega)]
          have hmb := match_bnd (tmZ ⟨o0, o1, o2, o3, o4, o5, o6⟩) (tmZ x) o6 x.q
          simp only [rcStep] at hstep
          generalize reachS a b ⟨o0, o1, o2, o3, o4, o5, o6⟩ (l.take k) = nn at hstep hbd ⊢
          generalize matchZ (tmZ ⟨o0, o1, o2, o3, o4, o5, o6⟩) (tmZ x) o6 x.q = mm at hstep h34 hmb
          have w1 : IntKind.wrap .i64 (nn + mm.1) = nn + mm.1 := wrap_in (by omega) (by omega)
          simp only [ozC] at hg hge
          by_cases he : ownZ a b x.c = ownZ a b o0
          ·
            have hst : reachS a b ⟨o0, o1, o2, o3, o4, o5, o6⟩ (l.take (k + 1)) = nn := by rw [hstep]; simp [rcStep, he]
            repeat' with_reducible (first
              | refine ZR.h ?_ | refine zI (by decide) ?_
              | ((first | refine zK hE ?_ | refine zL hE mixT ?_); intro K hK; simp [KR.ks, KD.ks, KD.cl, q18_0, q18_1, q18_2, q18_3, q18_4, q18_5, q18_6, q18_7, q18_8, hD, hl, hlt, hki, hg, hge, ww, h33, h34, w1, he]; (repeat' (first | refine hK _ _ ?_ | refine And.intro ?_ ?_ | (intro hc; try subst hc))) <;> (try clear hK K))
              | (refine zJ (b := _) (by with_unfolding_all rfl) (fun hc => ?_) (fun hc => ?_) <;> simp at hc <;> (try subst hc)))
            all_goals first | (exfalso; omega) | skip
            all_goals refine ⟨k + 1, hlt, Nat.sub_lt_sub_left hlt (Nat.lt_succ_self k), ?_⟩
            all_goals simp only [I18, hst]
            all_goals rw [hS]
            all_goals (refine Imp.auto (by kernel_rfl) ?_ ?_ <;> simp [NLe, mkPlX, hT, hC, hl])
          ·
            have hst : reachS a b ⟨o0, o1, o2, o3, o4, o5, o6⟩ (l.take (k + 1)) = nn + mm.1 := by rw [hstep]; simp [rcStep, he]
            repeat' with_reducible (first
              | refine ZR.h ?_ | refine zI (by decide) ?_
              | ((first | refine zK hE ?_ | refine zL hE mixT ?_); intro K hK; simp [KR.ks, KD.ks, KD.cl, q18_0, q18_1, q18_2, q18_3, q18_4, q18_5, q18_6, q18_7, q18_8, hD, hl, hlt, hki, hg, hge, ww, h33, h34, w1, he]; (repeat' (first | refine hK _ _ ?_ | refine And.intro ?_ ?_ | (intro hc; try subst hc))) <;> (try clear hK K))
              | (refine zJ (b := _) (by with_unfolding_all rfl) (fun hc => ?_) (fun hc => ?_) <;> simp at hc <;> (try subst hc)))
            all_goals first | (exfalso; omega) | skip
            all_goals refine ⟨k + 1, hlt, Nat.sub_lt_sub_left hlt (Nat.lt_succ_self k), ?_⟩
            all_goals simp only [I18, hst]
            all_goals rw [hS]
            all_goals (refine Imp.auto (by kernel_rfl) ?_ ?_ <;> simp [NLe, mkPlX, hT, hC, hl])
        · obtain rfl : k = l.length := by omega
          have hki : ¬ ((l.length : Int) < (l.length : Int)) := by omega
          rw [List.take_length]
          have hrz : reachZ a b ⟨o0, o1, o2, o3, o4, o5, o6⟩ l = if (if o6 < 0 then 0 else o6) < reachS a b ⟨o0, o1, o2, o3, o4, o5, o6⟩ l then (if o6 < 0 then 0 else o6) else reachS a b ⟨o0, o1, o2, o3, o4, o5, o6⟩ l := rfl
          rw [hrz]
          by_cases z1 : o6 < 0
          · by_cases z2 : 0 < reachS a b ⟨o0, o1, o2, o3, o4, o5, o6⟩ l
            · simp only [z1, z2, if_true]
              repeat' with_reducible (first
                | refine ZR.h ?_ | refine zI (by decide) ?_
                | ((first | refine zK hE ?_ | refine zL hE mixT ?_); intro K hK; simp [KR.ks, KD.ks, KD.cl, q18_0, q18_1, q18_2, q18_3, q18_4, q18_5, q18_6, q18_7, q18_8, hD, hl, hki, z1, z2]; (repeat' (first | refine hK _ _ ?_ | refine And.intro ?_ ?_ | (intro hc; try subst hc))) <;> (try clear hK K))
                | (refine zJ (b := _) (by with_unfolding_all rfl) (fun hc => ?_) (fun hc => ?_) <;> simp at hc <;> (try subst hc)))
              all_goals first | (simp; done) | (simp at *; omega) | ((try simp[hT, hC, hl, z1, z2]); refine Imp.auto (by kernel_rfl) ?_ ?_ <;> simp [NLe, hT, hC, hl, z1, z2])
            · simp only [z1, z2, if_true, if_false]
              repeat' with_reducible (first
                | refine ZR.h ?_ | refine zI (by decide) ?_
                | ((first | refine zK hE ?_ | refine zL hE mixT ?_); intro K hK; simp [KR.ks, KD.ks, KD.cl, q18_0, q18_1, q18_2, q18_3, q18_4, q18_5, q18_6, q18_7, q18_8, hD, hl, hki, z1, z2]; (repeat' (first | refine hK _ _ ?_ | refine And.intro ?_ ?_ | (intro hc; try subst hc))) <;> (try clear hK K))
                | (refine zJ (b := _) (by with_unfolding_all rfl) (fun hc => ?_) (fun hc => ?_) <;> simp at hc <;> (try subst hc)))
              all_goals first | (simp; done) | (simp at *; omega) | ((try simp[hT, hC, hl, z1, z2]); refine Imp.auto (by kernel_rfl) ?_ ?_ <;> simp [NLe, hT, hC, hl, z1, z2])
          · by_cases z2 : o6 < reachS a b ⟨o0, o1, o2, o3, o4, o5, o6⟩ l
            · simp only [z1, z2, if_true, if_false]
              repeat' with_reducible (first
                | refine ZR.h ?_ | refine zI (by decide) ?_
                | ((first | refine zK hE ?_ | refine zL hE mixT ?_); intro K hK; simp [KR.ks, KD.ks, KD.cl, q18_0, q18_1, q18_2, q18_3, q18_4, q18_5, q18_6, q18_7, q18_8, hD, hl, hki, z1, z2]; (repeat' (first | refine hK _ _ ?_ | refine And.intro ?_ ?_ | (intro hc; try subst hc))) <;> (try clear hK K))
                | (refine zJ (b := _) (by with_unfolding_all rfl) (fun hc => ?_) (fun hc => ?_) <;> simp at hc <;> (try subst hc)))
              all_goals first | (simp; done) | (simp at *; omega) | ((try simp[hT, hC, hl, z1, z2]); refine Imp.auto (by kernel_rfl) ?_ ?_ <;> simp [NLe, hT, hC, hl, z1, z2])
            · simp only [z1, z2, if_false]
              repeat' with_reducible (first
                | refine ZR.h ?_ | refine zI (by decide) ?_
                | ((first | refine zK hE ?_ | refine zL hE mixT ?_); intro K hK; simp [KR.ks, KD.ks, KD.cl, q18_0, q18_1, q18_2, q18_3, q18_4, q18_5, q18_6, q18_7, q18_8, hD, hl, hki, z1, z2]; (repeat' (first | refine hK _ _ ?_ | refine And.intro ?_ ?_ | (intro hc; try subst hc))) <;> (try clear hK K))
                | (refine zJ (b := _) (by with_unfolding_all rfl) (fun hc => ?_) (fun hc => ?_) <;> simp at hc <;> (try subst hc)))
              all_goals first | (simp; done) | (simp at *; omega) | ((try simp[hT, hC, hl, z1, z2]); refine Imp.auto (by kernel_rfl) ?_ ?_ <;> simp [NLe, hT, hC, hl, z1, z2])
      · cases h
    · cases h
  · cases h
end Go.W
namespace Go.W
open Go.Proofs
set_option linter.unusedSimpArgs false
set_option linter.unusedVariables false
set_option maxHeartbeats 8000000
attribute [local irreducible] Wm
attribute [local simp] nmap lkp mkPl prs prsL prT ddL idL CRenL CRen Ren RenL NObj.none CRenLL

def d35 : List AV → List NObj → Option AV
  | [.agg [.int .i64 a, .int .i64 b, .int .i64 c, .int .i64 d, .int .i64 e, .int .i64 f, .int .i64 g], .int .i64 x], [] => if cfgB a b c d e f g = true then some (.int .i64 (ownZ a b x)) else none
  | _, _ => none

theorem ok35 : ROk d35 := by
  intro xs os r h
  unfold d35 at h
  (repeat' (split at h)) <;> first | (cases h; done) | (injection h with h; subst h; simp)
theorem s35 : Sound Try.prog 35 (rdS d35 ok35) := by
  refine rd_sound Try.func35 nm35 rc35 rv35 ok35 fun xs os r h vs ρ0 hvs => ⟨xs, ?_, fun _ h => h, fun w0 S hS => ?_⟩
  · unfold d35 at h
    (repeat' (split at h)) <;> first | (cases h; done) | exact Nat.le_of_ble_eq_true rfl
  unfold d35 at h
  split at h
  · split at h
    · rename_i a b c d e f g x hcond
      injection h with h
      subst h
      have hE : SoundAll Try.prog (EL []) := EL_sound (by simp)
      obtain ⟨h1, h2, h3, h4, _⟩ := cfg_ex hcond
      have hab := cfg_all hcond
      have w1 : IntKind.wrap .i64 (a * b) = a * b := wrap_in (by omega) (by omega)
      have nb0 : ¬ b = 0 := by omega
      by_cases z1 : x < 0
      · simp only [ownZ, z1, if_true]
        unfold m35
        repeat' with_reducible (first
          | refine ZR.h ?_ | refine zI (by decide) ?_
          | (refine zK hE ?_; intro K hK; simp [KR.ks, q35_0, q35_1, q35_2, q35_3, z1]; (repeat' (first | refine hK _ _ ?_ | refine And.intro ?_ ?_ | (intro hc; try subst hc))) <;> (try clear hK K))
          | (refine zJ (b := _) (by with_unfolding_all rfl) (fun hc => ?_) (fun hc => ?_) <;> simp at hc <;> (try subst hc)))
        all_goals first | (simp; done) | (simp at *; omega) | ((try simp); refine Imp.auto (by kernel_rfl) ?_ ?_ <;> simp [NLe])
      by_cases z2 : x < a * b
      · have z3 : ¬ a * b ≤ x := by omega
        have e : x.tdiv b = x / b := Int.tdiv_eq_ediv_of_nonneg (by omega)
        have q1 : 0 ≤ x / b := Int.ediv_nonneg (by omega) (by omega)
        have q2 : x / b ≤ x := Int.ediv_le_self _ (by omega)
        have w2 : IntKind.wrap .i64 (x / b) = x / b := wrap_in (by omega) (by omega)
        simp only [ownZ, z1, z2, if_false, if_true]
        unfold m35
        repeat' with_reducible (first
          | refine ZR.h ?_ | refine zI (by decide) ?_
          | (refine zK hE ?_; intro K hK; simp [KR.ks, q35_0, q35_1, q35_2, q35_3, z1, z2, z3, w1, e, w2, nb0]; (repeat' (first | refine hK _ _ ?_ | refine And.intro ?_ ?_ | (intro hc; try subst hc))) <;> (try clear hK K))
          | (refine zJ (b := _) (by with_unfolding_all rfl) (fun hc => ?_) (fun hc => ?_) <;> simp at hc <;> (try subst hc)))
        all_goals first | (exfalso; omega) | skip
        all_goals first | (simp; done) | (simp at *; omega) | ((try simp); refine Imp.auto (by kernel_rfl) ?_ ?_ <;> simp [NLe])
      · have z3 : a * b ≤ x := by omega
        simp only [ownZ, z1, z2, if_false]
        unfold m35
        repeat' with_reducible (first
          | refine ZR.h ?_ | refine zI (by decide) ?_
          | (refine zK hE ?_; intro K hK; simp [KR.ks, q35_0, q35_1, q35_2, q35_3, z1, z2, z3, w1]; (repeat' (first | refine hK _ _ ?_ | refine And.intro ?_ ?_ | (intro hc; try subst hc))) <;> (try clear hK K))
          | (refine zJ (b := _) (by with_unfolding_all rfl) (fun hc => ?_) (fun hc => ?_) <;> simp at hc <;> (try subst hc)))
        all_goals first | (exfalso; omega) | skip
        all_goals first | (simp; done) | (simp at *; omega) | ((try simp); refine Imp.auto (by kernel_rfl) ?_ ?_ <;> simp [NLe])
    · cases h
  · cases h

def I19 (a b c d e f g o0 o1 o2 o3 o4 o5 o6 : Int) (l : List OZ) (k : Nat) : St := ⟨[(1, .sl (.top 0) 0 l.length), (3, .ptr (.top 1) 0 0), (5, .ptr (.top 2) 0 0), (7, .int .i64 (reachS a b ⟨o0, o1, o2, o3, o4, o5, o6⟩ (l.take k))), (8, .int .i64 k)], [(0, .view 0 7 (ozLL l)), (1, .cells 0 [.int .i64 a, .int .i64 b, .int .i64 c, .int .i64 d, .int .i64 e, .int .i64 f, .int .i64 g]), (2, .cells 0 [.int .i64 o0, .int .i64 o1, .int .i64 o2, .int .i64 o3, .int .i64 o4, .int .i64 o5, .int .i64 o6])], 3⟩
def d19 : List AV → List NObj → Option AV
  | [.agg [.int .i64 a, .int .i64 b, .int .i64 c, .int .i64 d, .int .i64 e, .int .i64 f, .int .i64 g], .sl (.top 0) 0 n, .agg [.int .i64 o0, .int .i64 o1, .int .i64 o2, .int .i64 o3, .int .i64 o4, .int .i64 o5, .int .i64 o6]], [.view 0 7 els] => (match mapV ozOf els with
    | some l => if n = els.length ∧ okO l = true ∧ cfgB a b c d e f g = true ∧ 0 ≤ o3 ∧ o3 ≤ 1000000 then some (.int .i64 (reachZ a b ⟨o0, o1, o2, o3, o4, o5, o6⟩ l)) else none
    | none => none)
  | _, _ => none

theorem ok19 : ROk d19 := by
  intro xs os r h
  unfold d19 at h
  (repeat' (split at h)) <;> first | (cases h; done) | (injection h with h; subst h; simp)
theorem s19 : Sound Try.prog 19 (rdS d19 ok19) := by
  refine rd_sound Try.func19 nm19 rc19 rv19 ok19 fun xs os r h vs ρ0 hvs => ⟨xs, ?_, fun _ h => h, fun w0 S hS => ?_⟩
  · unfold d19 at h
    (repeat' (split at h)) <;> first | (cases h; done) | exact Nat.le_of_ble_eq_true rfl
  unfold d19 at h
  split at h
  · rename_i a b c d e f g n o0 o1 o2 o3 o4 o5 o6 els
    split at h
    · rename_i l hml
      obtain rfl := mapV_ex (g := ozC) (fun _ _ => ozOf_ex) hml
      clear hml
      split at h
      · rename_i hcond
        injection h with h
        subst h
        obtain ⟨rfl, hok, hcf⟩ := hcond
        simp only [oz_map, oz_len] at hvs hS ⊢
        have hlen := (okO_ex hok).1
        have hob := (okO_ex hok).2
        have hE : SoundAll Try.prog (EL [(35, rdS d35 ok35), (36, rdS d36 ok36)]) := EL_sound (by simp only [List.mem_cons, List.not_mem_nil, or_false, forall_eq_or_imp, forall_eq]; exact ⟨s35, s36⟩)
        have hl := oz_len l
        have hD := oz_dat l
        have hT := oz_t0 l
        have hC := oz_cl l
        have hk : (ozLL l).take l.length = ozLL l := List.take_of_length_le (by rw [hl]; exact Nat.le_refl _)
        unfold m19
        repeat' with_reducible (first
          | refine ZR.h ?_ | refine zI (by decide) ?_
          | ((first | refine zK hE ?_ | refine zL hE mixT ?_); intro K hK; simp [KR.ks, KD.ks, KD.cl, q19_0, q19_1, q19_2, q19_3, q19_4, q19_5, q19_6, q19_7, q19_8, q19_9, q19_10, q19_11, q19_12, hD, hl, hT, hC, hk]; (repeat' (first | refine hK _ _ ?_ | refine And.intro ?_ ?_ | (intro hc; try subst hc))) <;> (try clear hK K))
          | (refine zJ (b := _) (by with_unfolding_all rfl) (fun hc => ?_) (fun hc => ?_) <;> simp at hc <;> (try subst hc)))
        all_goals (refine Wm_loop (fun k => I19 a b c d e f g o0 o1 o2 o3 o4 o5 o6 l k) (fun k => k ≤ l.length) (fun k => l.length - k) 0 (Nat.zero_le _) ?_ ?_)
        · simp only [I19, List.take_zero]
          rw [hS]
          (refine Imp.auto (by kernel_rfl) ?_ ?_ <;> simp [NLe, mkPlX, hT, hC, hl, reachS])
        rintro k hkl
        (try simp only at hkl)
        simp only [I19]
        by_cases hlt : k < l.length
        · obtain ⟨x, hx⟩ : ∃ x, l[k]? = some x := ⟨_, List.getElem?_eq_getElem hlt⟩
          obtain ⟨hg, hge⟩ := oz_at hx
          have hki : (k : Int) < (l.length : Int) := by omega
          have ww : IntKind.wrap .i64 ((k : Int) + 1) = (k : Int) + 1 := wrap_in (by omega) (by omega)
          have hstep : reachS a b ⟨o0, o1, o2, o3, o4, o5, o6⟩ (l.take (k + 1)) = rcStep a b ⟨o0, o1, o2, o3, o4, o5, o6⟩ (reachS a b ⟨o0, o1, o2, o3, o4, o5, o6⟩ (l.take k)) x := by rw [take_snoc hx, reach_snoc]
          have hq := hob x (List.mem_of_getElem? hx)
          have hbd := reach_bnd a b ⟨o0, o1, o2, o3, o4, o5, o6⟩ (os := l.take k) fun o ho => hob o (List.mem_of_mem_take ho)
          rw [List.length_take, Nat.min_eq_left hkl] at hbd
          have h35 : ∀ v, d35 [.agg [.int .i64 a, .int .i64 b, .int .i64 c, .int .i64 d, .int .i64 e, .int .i64 f, .int .i64 g], .int .i64 v] [] = some (.int .i64 (ownZ a b v)) := fun v => by simp only [d35]; rw [if_pos hcf.1]
          have h36 : d36 [.agg [.int .i64 o1, .int .i64 o2, .int .i64 o3, .int .i64 o4, .int .i64 o5], .agg [.int .i64 x.n, .int .i64 x.s, .int .i64 x.p, .int .i64 x.l, .int .i64 x.u], .int .i64 o6, .int .i64 x.q] [] = some (.tup [.int .i64 (matchZ (tmZ ⟨o0, o1, o2, o3, o4, o5, o6⟩) (tmZ x) o6 x.q).1, .int .i64 (matchZ (tmZ ⟨o0, o1, o2, o3, o4, o5, o6⟩) (tmZ x) o6 x.q).2]) := by
            simp only [d36, tmZ]; rw [if_pos (by omega)]
          have hmb := match_bnd (tmZ ⟨o0, o1, o2, o3, o4, o5, o6⟩) (tmZ x) o6 x.q
          simp only [rcStep] at hstep
          generalize reachS a b ⟨o0, o1, o2, o3, o4, o5, o6⟩ (l.take k) = nn at hstep hbd ⊢
          generalize matchZ (tmZ ⟨o0, o1, o2, o3, o4, o5, o6⟩) (tmZ x) o6 x.q = mm at hstep h36 hmb
          have w1 : IntKind.wrap .i64 (nn + mm.1) = nn + mm.1 := wrap_in (by omega) (by omega)
          simp only [ozC] at hg hge
          by_cases he : ownZ a b x.c = ownZ a b o0
          ·
            have hst : reachS a b ⟨o0, o1, o2, o3, o4, o5, o6⟩ (l.take (k + 1)) = nn := by rw [hstep]; simp [he]
            repeat' with_reducible (first
              | refine ZR.h ?_ | refine zI (by decide) ?_
              | ((first | refine zK hE ?_ | refine zL hE mixT ?_); intro K hK; simp [KR.ks, KD.ks, KD.cl, q19_0, q19_1, q19_2, q19_3, q19_4, q19_5, q19_6, q19_7, q19_8, q19_9, q19_10, q19_11, q19_12, hD, hl, hk, hlt, hki, hg, hge, ww, h35, h36, w1, he]; (repeat' (first | refine hK _ _ ?_ | refine And.intro ?_ ?_ | (intro hc; try subst hc))) <;> (try clear hK K))
              | (refine zJ (b := _) (by with_unfolding_all rfl) (fun hc => ?_) (fun hc => ?_) <;> simp at hc <;> (try subst hc)))
            all_goals first | (exfalso; omega) | skip
            all_goals refine ⟨k + 1, hlt, Nat.sub_lt_sub_left hlt (Nat.lt_succ_self k), ?_⟩
            all_goals simp only [I19, hst]
            all_goals rw [hS]
            all_goals (refine Imp.auto (by kernel_rfl) ?_ ?_ <;> simp [NLe, mkPlX, hT, hC, hl])
          ·
            have hst : reachS a b ⟨o0, o1, o2, o3, o4, o5, o6⟩ (l.take (k + 1)) = nn + mm.1 := by rw [hstep]; simp [he]
            repeat' with_reducible (first
              | refine ZR.h ?_ | refine zI (by decide) ?_
              | ((first | refine zK hE ?_ | refine zL hE mixT ?_); intro K hK; simp [KR.ks, KD.ks, KD.cl, q19_0, q19_1, q19_2, q19_3, q19_4, q19_5, q19_6, q19_7, q19_8, q19_9, q19_10, q19_11, q19_12, hD, hl, hk, hlt, hki, hg, hge, ww, h35, h36, w1, he]; (repeat' (first | refine hK _ _ ?_ | refine And.intro ?_ ?_ | (intro hc; try subst hc))) <;> (try clear hK K))
              | (refine zJ (b := _) (by with_unfolding_all rfl) (fun hc => ?_) (fun hc => ?_) <;> simp at hc <;> (try subst hc)))
            all_goals first | (exfalso; omega) | skip
            all_goals refine ⟨k + 1, hlt, Nat.sub_lt_sub_left hlt (Nat.lt_succ_self k), ?_⟩
            all_goals simp only [I19, hst]
            all_goals rw [hS]
            all_goals (refine Imp.auto (by kernel_rfl) ?_ ?_ <;> simp [NLe, mkPlX, hT, hC, hl])
        obtain rfl : k = l.length := by omega
        have hki : ¬ ((l.length : Int) < (l.length : Int)) := by omega
        rw [List.take_length]
        have hbd := reach_bnd a b ⟨o0, o1, o2, o3, o4, o5, o6⟩ hob
        have hrz : reachZ a b ⟨o0, o1, o2, o3, o4, o5, o6⟩ l = if (if o6 < 0 then 0 else o6) < reachS a b ⟨o0, o1, o2, o3, o4, o5, o6⟩ l then (if o6 < 0 then 0 else o6) else reachS a b ⟨o0, o1, o2, o3, o4, o5, o6⟩ l := rfl
        rw [hrz]
        clear hrz
        generalize reachS a b ⟨o0, o1, o2, o3, o4, o5, o6⟩ l = R at hbd ⊢
        by_cases z2 : o6 < R
        · by_cases z1 : o6 < 0
          · have hv : (if (if o6 < 0 then 0 else o6) < R then (if o6 < 0 then 0 else o6) else R) = 0 := by rw [if_pos z1]; split <;> omega
            rw [hv]
            repeat' with_reducible (first
              | refine ZR.h ?_ | refine zI (by decide) ?_
              | ((first | refine zK hE ?_ | refine zL hE mixT ?_); intro K hK; simp [KR.ks, KD.ks, KD.cl, q19_0, q19_1, q19_2, q19_3, q19_4, q19_5, q19_6, q19_7, q19_8, q19_9, q19_10, q19_11, q19_12, hD, hl, hk, hki, z1, z2]; (repeat' (first | refine hK _ _ ?_ | refine And.intro ?_ ?_ | (intro hc; try subst hc))) <;> (try clear hK K))
              | (refine zJ (b := _) (by with_unfolding_all rfl) (fun hc => ?_) (fun hc => ?_) <;> simp at hc <;> (try subst hc)))
            all_goals first | (simp; done) | (simp at *; omega) | ((try simp[hT, hC, hl, z1, z2]); refine Imp.auto (by kernel_rfl) ?_ ?_ <;> simp [NLe, hT, hC, hl, z1, z2])
          · simp only [z1, z2, if_true, if_false]
            repeat' with_reducible (first
              | refine ZR.h ?_ | refine zI (by decide) ?_
              | ((first | refine zK hE ?_ | refine zL hE mixT ?_); intro K hK; simp [KR.ks, KD.ks, KD.cl, q19_0, q19_1, q19_2, q19_3, q19_4, q19_5, q19_6, q19_7, q19_8, q19_9, q19_10, q19_11, q19_12, hD, hl, hk, hki, z1, z2]; (repeat' (first | refine hK _ _ ?_ | refine And.intro ?_ ?_ | (intro hc; try subst hc))) <;> (try clear hK K))
              | (refine zJ (b := _) (by with_unfolding_all rfl) (fun hc => ?_) (fun hc => ?_) <;> simp at hc <;> (try subst hc)))
            all_goals first | (simp; done) | (simp at *; omega) | ((try simp[hT, hC, hl, z1, z2]); refine Imp.auto (by kernel_rfl) ?_ ?_ <;> simp [NLe, hT, hC, hl, z1, z2])
        · have z1 : ¬ R < 0 := by omega
          have z0 : ¬ o6 < 0 := by omega
          simp only [z0, z2, if_false]
          repeat' with_reducible (first
            | refine ZR.h ?_ | refine zI (by decide) ?_
            | ((first | refine zK hE ?_ | refine zL hE mixT ?_); intro K hK; simp [KR.ks, KD.ks, KD.cl, q19_0, q19_1, q19_2, q19_3, q19_4, q19_5, q19_6, q19_7, q19_8, q19_9, q19_10, q19_11, q19_12, hD, hl, hk, hki, z1, z2]; (repeat' (first | refine hK _ _ ?_ | refine And.intro ?_ ?_ | (intro hc; try subst hc))) <;> (try clear hK K))
            | (refine zJ (b := _) (by with_unfolding_all rfl) (fun hc => ?_) (fun hc => ?_) <;> simp at hc <;> (try subst hc)))
          all_goals first | (simp; done) | (simp at *; omega) | ((try simp[hT, hC, hl, z1, z2]); refine Imp.auto (by kernel_rfl) ?_ ?_ <;> simp [NLe, hT, hC, hl, z1, z2])
      · cases h
    · cases h
  · cases h
end Go.W
