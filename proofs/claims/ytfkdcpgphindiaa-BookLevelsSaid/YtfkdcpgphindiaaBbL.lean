/- A part of the proof (BbK, BbL). -/
import Derived.Test.YtfkdcpgphindiaaBbG
import Derived.Test.YtfkdcpgphindiaaPsI
import Derived.Test.YtfkdcpgphindiaaLqB
namespace Go.W
open Go.Proofs
set_option linter.unusedSimpArgs false
set_option linter.unusedVariables false
set_option maxHeartbeats 8000000
attribute [local irreducible] Wm
attribute [local simp] nmap lkp mkPl prs prsL prT ddL idL CRenL CRen Ren RenL NObj.none CRenLL

def okE (o : OZ) : Bool := decide (1 ≤ o.p ∧ o.p ≤ 9999 ∧ 0 ≤ o.q ∧ o.q ≤ 9999)
/-- What may be a book. -/
def madeB (a b c d e f g : Int) (l : List OZ) : Bool := decide (checkZ a b c d e f g = -1 ∧ l.length ≤ 40 ∧ ∀ o ∈ l, okE o = true)
theorem made_ok {a b c d e f g : Int} {l : List OZ} (h : madeB a b c d e f g l = true) : cfgB a b c d e f g = true ∧ okO l = true ∧ l.length ≤ 40 := by
  obtain ⟨h1, h2, h3⟩ := of_decide_eq_true h
  rw [check_cfg] at h1
  exact ⟨h1, decide_eq_true ⟨by omega, fun o ho => of_decide_eq_true (h3 o ho)⟩, h2⟩
def d6 : List AV → Option Ans
  | [.agg [.int .i64 a, .int .i64 b, .int .i64 c, .int .i64 d, .int .i64 e, .int .i64 f, .int .i64 g], .os _ _ els] => (match mapV ozOf els with
    | some l => some ⟨if madeB a b c d e f g l = true then .tup [.agg [.int .i64 a, .int .i64 b, .int .i64 c, .int .i64 d, .int .i64 e, .int .i64 f, .int .i64 g, .os 0 7 (ozLL l)], .bool true] else .tup [.agg [.int .i64 0, .int .i64 0, .int .i64 0, .int .i64 0, .int .i64 0, .int .i64 0, .int .i64 0, .nsl], .bool false], [.free]⟩
    | none => none)
  | _ => none
theorem ok6 : NOk [(7, false)] d6 := by
  intro xs aa h
  unfold d6 at h
  split at h
  · split at h
    · rename_i hm
      obtain rfl := mapV_ex (g := ozC) (fun _ _ => ozOf_ex) hm
      injection h with h; subst h
      split
      · refine ⟨Ends_of ?_, ?_⟩ <;> simp [oz_map, oz_t0, oz_cl]
      · refine ⟨Ends_of ?_, ?_⟩ <;> simp [oz_map, oz_t0, oz_cl]
    · cases h
  · cases h
def I6 (a b c d e f g : Int) (l : List OZ) (k : Nat) : St := ⟨[(4, .ptr (.top 1) 0 0), (6, .ptr (.top 2) 0 0), (8, .sl (.top 3) 0 k), (29, .sl (.top 0) 0 l.length), (30, .int .i64 l.length), (31, .int .i64 k)], [(0, .view 0 7 (ozLL l)), (1, .cells 0 [.int .i64 0, .int .i64 0, .int .i64 0, .int .i64 0, .int .i64 0, .int .i64 0, .int .i64 0, .nsl]), (2, .cells 0 [.int .i64 a, .int .i64 b, .int .i64 c, .int .i64 d, .int .i64 e, .int .i64 f, .int .i64 g]), (3, .arr 0 7 (ozLL (l.take k)))], 4⟩
theorem s6 : Sound Try.prog 6 (nestS [(7, false)] d6 ok6) := by
  refine nest_sound Try.func6 nm6 rc6 rv6 ok6 (fun xs a h => ?_) fun xs a h w0 S hS => ?_
  · unfold d6 at h
    (repeat' (split at h)) <;> first | (cases h; done) | exact Nat.le_of_ble_eq_true rfl
  unfold d6 at h
  split at h
  · rename_i a b c d e f g u v els
    split at h
    · rename_i l hml
      obtain rfl := mapV_ex (g := ozC) (fun _ _ => ozOf_ex) hml
      clear hml
      injection h with h
      subst h
      simp only [oz_map] at hS ⊢
      have hE : SoundAll Try.prog (EL [(8, nestS [] d8 ok8), (22, nestS [] d22 ok22), (23, nestS [(7, false)] d23 ok23)]) := EL_sound (by simp only [List.mem_cons, List.not_mem_nil, or_false, forall_eq_or_imp, forall_eq]; exact ⟨s8, s22, s23⟩)
      have hl := oz_len l
      have hD := oz_dat l
      have hT := oz_t0 l
      have hC := oz_cl l
      have hk : (ozLL l).take l.length = ozLL l := List.take_of_length_le (by rw [hl]; exact Nat.le_refl _)
      have hm : mapV ozOf (ozLL l) = some l := mapV_map (f := ozOf) (g := ozC) ozOf_C l
      have h22 : d22 [.agg [.int .i64 a, .int .i64 b, .int .i64 c, .int .i64 d, .int .i64 e, .int .i64 f, .int .i64 g]] = some ⟨.int .i64 (checkZ a b c d e f g), []⟩ := rfl
      by_cases hch : checkZ a b c d e f g = -1
      · have h8 : d8 [.agg [.int .i64 a, .int .i64 b, .int .i64 c, .int .i64 d, .int .i64 e, .int .i64 f, .int .i64 g]] = some ⟨.tup [.agg [.int .i64 a, .int .i64 b, .int .i64 c, .int .i64 d, .int .i64 e, .int .i64 f, .int .i64 g], .raw .nilIface], []⟩ := by simp only [d8]; rw [if_pos hch]
        rw [hch] at h22
        by_cases hle : l.length ≤ 40
        · have hleI : ¬ ((40 : Int) < (l.length : Int)) := by omega
          have h23 : d23 [.agg [.int .i64 a, .int .i64 b, .int .i64 c, .int .i64 d, .int .i64 e, .int .i64 f, .int .i64 g], .os 0 7 (ozLL l)] = some ⟨.agg [.int .i64 a, .int .i64 b, .int .i64 c, .int .i64 d, .int .i64 e, .int .i64 f, .int .i64 g, .os 0 7 (ozLL l)], [.free]⟩ := by
            simp only [d23, hm, hl]; rw [if_pos (by omega)]
          unfold m6
          repeat' with_reducible (first
            | refine ZR.h ?_ | refine zI (by decide) ?_
            | (refine zK hE ?_; intro K hK; simp [KR.ks, q6_0, q6_1, q6_2, q6_3, q6_4, q6_5, q6_6, q6_7, q6_8, q6_9, q6_10, q6_11, q6_12, hT, hC, hD, hl, hk, h8, h22, hleI]; (repeat' (first | refine hK _ _ ?_ | refine And.intro ?_ ?_ | (intro hc; try subst hc))) <;> (try clear hK K))
            | (refine zJ (b := _) (by with_unfolding_all rfl) (fun hc => ?_) (fun hc => ?_) <;> simp at hc <;> (try subst hc)))
          all_goals first | (exfalso; omega) | skip
          all_goals (refine Wm_loop (fun k => I6 a b c d e f g l k) (fun k => k ≤ l.length ∧ ∀ (j : Nat) (y : OZ), j < k → l[j]? = some y → okE y = true) (fun k => l.length - k) 0 ⟨Nat.zero_le _, fun j y hj => absurd hj (Nat.not_lt_zero j)⟩ ?_ ?_)
          · simp only [I6, List.take_zero]
            rw [hS]
            (refine Imp.auto (by kernel_rfl) ?_ ?_ <;> simp [NLe, mkPlX, hT, hC, hl, show ozLL [] = [] from rfl])
          rintro k ⟨hkl, hno⟩
          (try simp only at hkl hno)
          simp only [I6]
          have t1 := oz_t0 (l.take k)
          have t2 := oz_cl (l.take k)
          have t3 := oz_len (l.take k)
          have t4 := oz_dat (l.take k)
          rw [List.length_take, Nat.min_eq_left hkl] at t3
          by_cases hlt : k < l.length
          · obtain ⟨x, hx⟩ : ∃ x, l[k]? = some x := ⟨_, List.getElem?_eq_getElem hlt⟩
            obtain ⟨hg, hge⟩ := oz_at hx
            have hki : (k : Int) < (l.length : Int) := by omega
            have ww : IntKind.wrap .i64 ((k : Int) + 1) = (k : Int) + 1 := wrap_in (by omega) (by omega)
            have q6 := oz_app (l.take k) x
            rw [← take_snoc hx] at q6
            have t5 := oz_t0 (l.take (k + 1))
            have t6 := oz_cl (l.take (k + 1))
            have htl : ∀ q, tlLL q (ozLL (l.take k)) = true := fun q => oz_tl q _
            have b1 : (k + 1) * 56 ≤ 140737488355328 := by omega
            have b2 : k + 1 ≤ 9223372036854775807 := by omega
            have b3 : k ≤ 9223372036854775806 := by omega
            simp only [ozC] at hg hge q6
            have hbad : okE x = false → madeB a b c d e f g l = false := fun hb => by
              unfold madeB
              rw [decide_eq_false_iff_not]
              rintro ⟨_, _, h3⟩
              rw [h3 x (List.mem_of_getElem? hx)] at hb
              cases hb
            by_cases c1 : x.p < 1
            · rw [hbad (decide_eq_false (by omega))]
              repeat' with_reducible (first
                | refine ZR.h ?_ | refine zI (by decide) ?_
                | (refine zK hE ?_; intro K hK; simp [KR.ks, q6_0, q6_1, q6_2, q6_3, q6_4, q6_5, q6_6, q6_7, q6_8, q6_9, q6_10, q6_11, q6_12, hT, hC, hD, hl, hk, hlt, hki, hg, hge, c1]; (repeat' (first | refine hK _ _ ?_ | refine And.intro ?_ ?_ | (intro hc; try subst hc))) <;> (try clear hK K))
                | (refine zJ (b := _) (by with_unfolding_all rfl) (fun hc => ?_) (fun hc => ?_) <;> simp at hc <;> (try subst hc)))
              all_goals first | (exfalso; omega) | skip
              all_goals first | (simp; done) | (simp at *; omega) | ((try simp[hT, hC, hl]); refine Imp.auto (by kernel_rfl) ?_ ?_ <;> simp [NLe, hT, hC, hl])
            by_cases c2 : 9999 < x.p
            · rw [hbad (decide_eq_false (by omega))]
              repeat' with_reducible (first
                | refine ZR.h ?_ | refine zI (by decide) ?_
                | (refine zK hE ?_; intro K hK; simp [KR.ks, q6_0, q6_1, q6_2, q6_3, q6_4, q6_5, q6_6, q6_7, q6_8, q6_9, q6_10, q6_11, q6_12, hT, hC, hD, hl, hk, hlt, hki, hg, hge, c1, c2]; (repeat' (first | refine hK _ _ ?_ | refine And.intro ?_ ?_ | (intro hc; try subst hc))) <;> (try clear hK K))
                | (refine zJ (b := _) (by with_unfolding_all rfl) (fun hc => ?_) (fun hc => ?_) <;> simp at hc <;> (try subst hc)))
              all_goals first | (exfalso; omega) | skip
              all_goals first | (simp; done) | (simp at *; omega) | ((try simp[hT, hC, hl]); refine Imp.auto (by kernel_rfl) ?_ ?_ <;> simp [NLe, hT, hC, hl])
            by_cases c3 : x.q < 0
            · rw [hbad (decide_eq_false (by omega))]
              repeat' with_reducible (first
                | refine ZR.h ?_ | refine zI (by decide) ?_
                | (refine zK hE ?_; intro K hK; simp [KR.ks, q6_0, q6_1, q6_2, q6_3, q6_4, q6_5, q6_6, q6_7, q6_8, q6_9, q6_10, q6_11, q6_12, hT, hC, hD, hl, hk, hlt, hki, hg, hge, c1, c2, c3]; (repeat' (first | refine hK _ _ ?_ | refine And.intro ?_ ?_ | (intro hc; try subst hc))) <;> (try clear hK K))
                | (refine zJ (b := _) (by with_unfolding_all rfl) (fun hc => ?_) (fun hc => ?_) <;> simp at hc <;> (try subst hc)))
              all_goals first | (exfalso; omega) | skip
              all_goals first | (simp; done) | (simp at *; omega) | ((try simp[hT, hC, hl]); refine Imp.auto (by kernel_rfl) ?_ ?_ <;> simp [NLe, hT, hC, hl])
            by_cases c4 : 9999 < x.q
            · rw [hbad (decide_eq_false (by omega))]
              repeat' with_reducible (first
                | refine ZR.h ?_ | refine zI (by decide) ?_
                | (refine zK hE ?_; intro K hK; simp [KR.ks, q6_0, q6_1, q6_2, q6_3, q6_4, q6_5, q6_6, q6_7, q6_8, q6_9, q6_10, q6_11, q6_12, hT, hC, hD, hl, hk, hlt, hki, hg, hge, c1, c2, c3, c4]; (repeat' (first | refine hK _ _ ?_ | refine And.intro ?_ ?_ | (intro hc; try subst hc))) <;> (try clear hK K))
                | (refine zJ (b := _) (by with_unfolding_all rfl) (fun hc => ?_) (fun hc => ?_) <;> simp at hc <;> (try subst hc)))
              all_goals first | (exfalso; omega) | skip
              all_goals first | (simp; done) | (simp at *; omega) | ((try simp[hT, hC, hl]); refine Imp.auto (by kernel_rfl) ?_ ?_ <;> simp [NLe, hT, hC, hl])
            clear hbad
            have hgood : okE x = true := decide_eq_true (by omega)
            repeat' with_reducible (first
              | refine ZR.h ?_ | refine zI (by decide) ?_
              | (refine zK hE ?_; intro K hK; simp [KR.ks, q6_0, q6_1, q6_2, q6_3, q6_4, q6_5, q6_6, q6_7, q6_8, q6_9, q6_10, q6_11, q6_12, hT, hC, hD, hl, hk, hlt, hki, hg, hge, ww, c1, c2, c3, c4, t1, t2, t3, t4, q6, htl, b1, b2, b3]; (repeat' (first | refine hK _ _ ?_ | refine And.intro ?_ ?_ | (intro hc; try subst hc))) <;> (try clear hK K))
              | (refine zJ (b := _) (by with_unfolding_all rfl) (fun hc => ?_) (fun hc => ?_) <;> simp at hc <;> (try subst hc)))
            all_goals first | (exfalso; omega) | skip
            all_goals refine ⟨k + 1, ⟨hlt, fun j y hj hy => ?_⟩, Nat.sub_lt_sub_left hlt (Nat.lt_succ_self k), ?_⟩
            · by_cases e : j = k
              · subst e
                rw [hx] at hy
                injection hy with hy
                rw [← hy]; exact hgood
              · exact hno j y (by omega) hy
            · simp only [I6]
              rw [hS]
              (refine Imp.auto (by kernel_rfl) ?_ ?_ <;> simp [NLe, mkPlX, hT, hC, hl, q6, t5, t6])
          · obtain rfl : k = l.length := by omega
            have hki : ¬ ((l.length : Int) < (l.length : Int)) := by omega
            have hmd : madeB a b c d e f g l = true := decide_eq_true ⟨hch, hle, fun o ho => by
              obtain ⟨j, hj⟩ := List.getElem?_of_mem ho
              exact hno j o (List.getElem?_eq_some_iff.1 hj).1 hj⟩
            rw [hmd]
            rw [List.take_length] at t1 t2 t3 t4 ⊢
            clear hlt hkl hno t1 t2 t3 t4
            repeat' with_reducible (first
              | refine ZR.h ?_ | refine zI (by decide) ?_
              | (refine zK hE ?_; intro K hK; simp [KR.ks, q6_0, q6_1, q6_2, q6_3, q6_4, q6_5, q6_6, q6_7, q6_8, q6_9, q6_10, q6_11, q6_12, hT, hC, hD, hl, hk, hki, h23]; (repeat' (first | refine hK _ _ ?_ | refine And.intro ?_ ?_ | (intro hc; try subst hc))) <;> (try clear hK K))
              | (refine zJ (b := _) (by with_unfolding_all rfl) (fun hc => ?_) (fun hc => ?_) <;> simp at hc <;> (try subst hc)))
            all_goals first | (exfalso; omega) | skip
            all_goals first | (simp; done) | (simp at *; omega) | ((try simp[hT, hC, hl]); refine Imp.auto (by kernel_rfl) ?_ ?_ <;> simp [NLe, hT, hC, hl])
        · have hleI : (40 : Int) < (l.length : Int) := by omega
          have hmd : madeB a b c d e f g l = false := decide_eq_false (fun h => hle h.2.1)
          rw [hmd]
          unfold m6
          repeat' with_reducible (first
            | refine ZR.h ?_ | refine zI (by decide) ?_
            | (refine zK hE ?_; intro K hK; simp [KR.ks, q6_0, q6_1, q6_2, q6_3, q6_4, q6_5, q6_6, q6_7, q6_8, q6_9, q6_10, q6_11, q6_12, hT, hC, hD, hl, hk, h8, h22, hleI]; (repeat' (first | refine hK _ _ ?_ | refine And.intro ?_ ?_ | (intro hc; try subst hc))) <;> (try clear hK K))
            | (refine zJ (b := _) (by with_unfolding_all rfl) (fun hc => ?_) (fun hc => ?_) <;> simp at hc <;> (try subst hc)))
          all_goals first | (exfalso; omega) | skip
          all_goals first | (simp; done) | (simp at *; omega) | ((try simp[hT, hC, hl]); refine Imp.auto (by kernel_rfl) ?_ ?_ <;> simp [NLe, hT, hC, hl])
      · have h8 : d8 [.agg [.int .i64 a, .int .i64 b, .int .i64 c, .int .i64 d, .int .i64 e, .int .i64 f, .int .i64 g]] = some ⟨.tup [.agg [.int .i64 0, .int .i64 0, .int .i64 0, .int .i64 0, .int .i64 0, .int .i64 0, .int .i64 0], .iface 93 .bot], []⟩ := by simp only [d8]; rw [if_neg hch]
        have hmd : madeB a b c d e f g l = false := decide_eq_false (fun h => hch h.1)
        rw [hmd]
        unfold m6
        repeat' with_reducible (first
          | refine ZR.h ?_ | refine zI (by decide) ?_
          | (refine zK hE ?_; intro K hK; simp [KR.ks, q6_0, q6_1, q6_2, q6_3, q6_4, q6_5, q6_6, q6_7, q6_8, q6_9, q6_10, q6_11, q6_12, hT, hC, hD, hl, hk, h8]; (repeat' (first | refine hK _ _ ?_ | refine And.intro ?_ ?_ | (intro hc; try subst hc))) <;> (try clear hK K))
          | (refine zJ (b := _) (by with_unfolding_all rfl) (fun hc => ?_) (fun hc => ?_) <;> simp at hc <;> (try subst hc)))
        all_goals first | (exfalso; omega) | skip
        all_goals first | (simp; done) | (simp at *; omega) | ((try simp[hT, hC, hl]); refine Imp.auto (by kernel_rfl) ?_ ?_ <;> simp [NLe, hT, hC, hl])
    · cases h
  · cases h
end Go.W
namespace Go.W
open Go.Proofs
set_option linter.unusedSimpArgs false
set_option linter.unusedVariables false
set_option maxHeartbeats 8000000
attribute [local irreducible] Wm
attribute [local simp] nmap lkp mkPl prs prsL prT ddL idL CRenL CRen Ren RenL NObj.none CRenLL

theorem lev_ex : levelsZ 0 (keepZ (prA 0 0) [⟨0, 0, 0, 9, 1, 9, 5⟩, ⟨1, 0, 0, 9, 1, 9, 3⟩]) = [⟨9, 8, 2⟩] := by kernel_rfl
def d7 : List AV → Option Ans
  | [] => some ⟨.bool true, []⟩
  | _ => none

theorem ok7 : NOk [] d7 := by
  intro xs a h
  unfold d7 at h
  (repeat' (split at h)) <;> first | (cases h; done) | (injection h with h; subst h; refine ⟨Ends_of ?_, ?_⟩ <;> simp)
theorem s7 : Sound Try.prog 7 (nestS [] d7 ok7) := by
  refine nest_sound Try.func7 nm7 rc7 rv7 ok7 (fun xs a h => ?_) fun xs a h w0 S hS => ?_
  · unfold d7 at h
    (repeat' (split at h)) <;> first | (cases h; done) | exact Nat.le_of_ble_eq_true rfl
  unfold d7 at h
  split at h
  · injection h with h
    subst h
    have hE : SoundAll Try.prog (EL [(8, nestS [] d8 ok8), (12, rdS d12 ok12), (23, nestS [(7, false)] d23 ok23)]) := EL_sound (by simp only [List.mem_cons, List.not_mem_nil, or_false, forall_eq_or_imp, forall_eq]; exact ⟨s8, s12, s23⟩)
    have h8 : d8 [.agg [.int .i64 2, .int .i64 1, .int .i64 1, .int .i64 1, .int .i64 0, .int .i64 1, .int .i64 1]] = some ⟨.tup [.agg [.int .i64 2, .int .i64 1, .int .i64 1, .int .i64 1, .int .i64 0, .int .i64 1, .int .i64 1], .raw .nilIface], []⟩ := rfl
    have h23 : d23 [.agg [.int .i64 2, .int .i64 1, .int .i64 1, .int .i64 1, .int .i64 0, .int .i64 1, .int .i64 1], .os 0 7 [[.int .i64 0, .int .i64 0, .int .i64 0, .int .i64 9, .int .i64 1, .int .i64 9, .int .i64 5], [.int .i64 1, .int .i64 0, .int .i64 0, .int .i64 9, .int .i64 1, .int .i64 9, .int .i64 3]]] = some ⟨.agg [.int .i64 2, .int .i64 1, .int .i64 1, .int .i64 1, .int .i64 0, .int .i64 1, .int .i64 1, .os 0 7 [[.int .i64 0, .int .i64 0, .int .i64 0, .int .i64 9, .int .i64 1, .int .i64 9, .int .i64 5], [.int .i64 1, .int .i64 0, .int .i64 0, .int .i64 9, .int .i64 1, .int .i64 9, .int .i64 3]]], [.free]⟩ := rfl
    have h12 : d12 [.agg [.int .i64 2, .int .i64 1, .int .i64 1, .int .i64 1, .int .i64 0, .int .i64 1, .int .i64 1, .sl (.top 0) 0 2], .int .i64 0, .int .i64 0] [.view 0 7 [[.int .i64 0, .int .i64 0, .int .i64 0, .int .i64 9, .int .i64 1, .int .i64 9, .int .i64 5], [.int .i64 1, .int .i64 0, .int .i64 0, .int .i64 9, .int .i64 1, .int .i64 9, .int .i64 3]]] = some (.os 0 3 [[.int .i64 9, .int .i64 8, .int .i64 2]]) := by
      simp only [d12, mapV, ozOf]
      rw [if_pos ⟨rfl, by decide⟩, lev_ex]; rfl
    unfold m7
    repeat' with_reducible (first
      | refine ZR.h ?_ | refine zI (by decide) ?_
      | (refine zK hE ?_; intro K hK; simp [KR.ks, q7_0, q7_1, q7_2, q7_3, q7_4, h8, h12, h23]; (repeat' (first | refine hK _ _ ?_ | refine And.intro ?_ ?_ | (intro hc; try subst hc))) <;> (try clear hK K))
      | (refine zJ (b := _) (by with_unfolding_all rfl) (fun hc => ?_) (fun hc => ?_) <;> simp at hc <;> (try subst hc)))
    all_goals first | (simp; done) | (simp at *; omega) | ((try simp); refine Imp.auto (by kernel_rfl) ?_ ?_ <;> simp [NLe])
  · cases h
end Go.W
