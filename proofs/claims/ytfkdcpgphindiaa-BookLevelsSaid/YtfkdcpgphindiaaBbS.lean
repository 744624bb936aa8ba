/- A part of the proof (BbS). -/
import Derived.Test.YtfkdcpgphindiaaBbH
import Derived.Test.YtfkdcpgphindiaaPuA
namespace Go.W
open Go.Proofs
set_option linter.unusedSimpArgs false
set_option linter.unusedVariables false
set_option maxHeartbeats 8000000
attribute [local irreducible] Wm
attribute [local simp] nmap lkp mkPl prs prsL prT ddL idL CRenL CRen Ren RenL NObj.none CRenLL

theorem sh_step0 (c d sh : Int) (st : LZ × LZ) (x : OZ) : (shStep c d sh st x).1 = if x.s = 0 ∧ shardZ c d x.n (bandZ d x.p) = sh then accL 0 st.1 x else st.1 := by
  unfold shStep
  by_cases h1 : shardZ c d x.n (bandZ d x.p) = sh
  · by_cases h2 : x.s = 0
    · rw [if_neg (by omega), if_pos h2, if_pos ⟨h2, h1⟩]
    · rw [if_neg (show ¬ (x.s = 0 ∧ _) from fun q => h2 q.1)]
      split
      · rfl
      · rfl
  · rw [if_pos (.inl h1), if_neg (fun q => h1 q.2)]
theorem sh_step1 (c d sh : Int) (st : LZ × LZ) (x : OZ) : (shStep c d sh st x).2 = if x.s = 1 ∧ shardZ c d x.n (bandZ d x.p) = sh then accL 1 st.2 x else st.2 := by
  unfold shStep
  by_cases h1 : shardZ c d x.n (bandZ d x.p) = sh
  · by_cases h2 : x.s = 1
    · rw [if_neg (by omega), if_neg (by omega), if_pos ⟨h2, h1⟩]
    · rw [if_neg (show ¬ (x.s = 1 ∧ _) from fun q => h2 q.1)]
      split
      · rfl
      · rename_i h3
        rw [if_pos (by omega)]
  · rw [if_pos (.inl h1), if_neg (fun q => h1 q.2)]
def d15 : List AV → List NObj → Option AV
  | [.agg [.int .i64 a, .int .i64 b, .int .i64 c, .int .i64 d, .int .i64 e, .int .i64 f, .int .i64 g], .sl (.top 0) 0 n, .int .i64 sh, .int .i64 s], [.view 0 7 els] => (match mapV ozOf els with
    | some l => if n = els.length ∧ okO l = true ∧ cfgB a b c d e f g = true ∧ (s = 0 ∨ s = 1) then some (.agg (lzC (if s = 0 then (shardsZ c d sh l).1 else (shardsZ c d sh l).2))) else none
    | none => none)
  | _, _ => none
theorem ok15 : ROk d15 := by
  intro xs os r h
  unfold d15 at h
  split at h
  · split at h
    · split at h
      · injection h with h; subst h; simp [lzC]
      · cases h
    · cases h
  · cases h
def I15_0 (a b c d e f g sh : Int) (l : List OZ) (k : Nat) : St := ⟨[(1, .sl (.top 0) 0 l.length), (2, .int .i64 sh), (3, .int .i64 0), (4, .ptr (.top 1) 0 0), (8, .ptr (.top 2) 0 0), (9, .ptr (.top 3) 0 0), (10, .int .i64 k)], [(0, .view 0 7 (ozLL l)), (1, .cells 0 [.int .i64 a, .int .i64 b, .int .i64 c, .int .i64 d, .int .i64 e, .int .i64 f, .int .i64 g]), (2, .cells 0 [.int .i64 0, .int .i64 0, .int .i64 0]), (3, .cells 0 [.int .i64 (shardsZ c d sh (l.take k)).1.p, .int .i64 (shardsZ c d sh (l.take k)).1.l, .int .i64 (shardsZ c d sh (l.take k)).1.o])], 4⟩
def I15_1 (a b c d e f g sh : Int) (l : List OZ) (k : Nat) : St := ⟨[(1, .sl (.top 0) 0 l.length), (2, .int .i64 sh), (3, .int .i64 1), (4, .ptr (.top 1) 0 0), (8, .ptr (.top 2) 0 0), (9, .ptr (.top 3) 0 0), (10, .int .i64 k)], [(0, .view 0 7 (ozLL l)), (1, .cells 0 [.int .i64 a, .int .i64 b, .int .i64 c, .int .i64 d, .int .i64 e, .int .i64 f, .int .i64 g]), (2, .cells 0 [.int .i64 0, .int .i64 0, .int .i64 0]), (3, .cells 0 [.int .i64 (shardsZ c d sh (l.take k)).2.p, .int .i64 (shardsZ c d sh (l.take k)).2.l, .int .i64 (shardsZ c d sh (l.take k)).2.o])], 4⟩
theorem s15 : Sound Try.prog 15 (rdS d15 ok15) := by
  refine rd_sound Try.func15 nm15 rc15 rv15 ok15 fun xs os r h vs ρ0 hvs => ⟨xs, ?_, fun _ h => h, fun w0 S hS => ?_⟩
  · unfold d15 at h
    (repeat' (split at h)) <;> first | (cases h; done) | exact Nat.le_of_ble_eq_true rfl
  unfold d15 at h
  split at h
  · rename_i a b c d e f g n sh s els
    split at h
    · rename_i l hml
      obtain rfl := mapV_ex (g := ozC) (fun _ _ => ozOf_ex) hml
      clear hml
      split at h
      · rename_i hcond
        injection h with h
        subst h
        obtain ⟨rfl, hok, hcf, hs01⟩ := hcond
        simp only [oz_map, oz_len] at hvs hS ⊢
        have hlen := (okO_ex hok).1
        have hob := (okO_ex hok).2
        have hE : SoundAll Try.prog (EL [(32, rdS d32 ok32)]) := EL_sound (by simp only [List.mem_cons, List.not_mem_nil, or_false, forall_eq_or_imp, forall_eq]; exact s32)
        have hl := oz_len l
        have hD := oz_dat l
        have hT := oz_t0 l
        have hC := oz_cl l
        have hk : (ozLL l).take l.length = ozLL l := List.take_of_length_le (by rw [hl]; exact Nat.le_refl _)
        rcases hs01 with rfl | rfl
        · rw [if_pos rfl]
          unfold m15
          repeat' with_reducible (first
            | refine ZR.h ?_ | refine zI (by decide) ?_
            | ((first | refine zK hE ?_ | refine zL hE mixT ?_); intro K hK; simp [KR.ks, KD.ks, KD.cl, q15_0, q15_1, q15_2, q15_3, q15_4, q15_5, q15_6, q15_7, q15_8, q15_9, q15_10, q15_11, hD, hl, hT, hC, hk]; (repeat' (first | refine hK _ _ ?_ | refine And.intro ?_ ?_ | (intro hc; try subst hc))) <;> (try clear hK K))
            | (refine zJ (b := _) (by with_unfolding_all rfl) (fun hc => ?_) (fun hc => ?_) <;> simp at hc <;> (try subst hc)))
          all_goals (refine Wm_loop (fun k => I15_0 a b c d e f g sh l k) (fun k => k ≤ l.length) (fun k => l.length - k) 0 (Nat.zero_le _) ?_ ?_)
          · simp only [I15_0, List.take_zero]
            rw [hS]
            (refine Imp.auto (by kernel_rfl) ?_ ?_ <;> simp [NLe, mkPlX, hT, hC, hl, shardsZ])
          rintro k hkl
          (try simp only at hkl)
          simp only [I15_0]
          by_cases hlt : k < l.length
          · obtain ⟨x, hx⟩ : ∃ x, l[k]? = some x := ⟨_, List.getElem?_eq_getElem hlt⟩
            obtain ⟨hg, hge⟩ := oz_at hx
            have hki : (k : Int) < (l.length : Int) := by omega
            have ww : IntKind.wrap .i64 ((k : Int) + 1) = (k : Int) + 1 := wrap_in (by omega) (by omega)
            have hstep : (shardsZ c d sh (l.take (k + 1))).1 = if x.s = 0 ∧ shardZ c d x.n (bandZ d x.p) = sh then accL 0 (shardsZ c d sh (l.take k)).1 x else (shardsZ c d sh (l.take k)).1 := by rw [take_snoc hx, shards_snoc, sh_step0]
            have hq := hob x (List.mem_of_getElem? hx)
            have hbd := (shards_bnd c d sh (os := l.take k) fun o ho => hob o (List.mem_of_mem_take ho)).1
            rw [List.length_take, Nat.min_eq_left hkl] at hbd
            have h32 : d32 [.agg [.int .i64 a, .int .i64 b, .int .i64 c, .int .i64 d, .int .i64 e, .int .i64 f, .int .i64 g], .agg [.int .i64 x.n, .int .i64 x.s, .int .i64 x.p, .int .i64 x.l, .int .i64 x.u]] [] = some (.int .i64 (shardZ c d x.n (bandZ d x.p))) := by
              simp only [d32]; rw [if_pos hcf]
            generalize (shardsZ c d sh (l.take k)).1 = u at hstep hbd ⊢
            have w1 : IntKind.wrap .i64 (u.l + x.q) = u.l + x.q := wrap_in (by omega) (by omega)
            have w2 : IntKind.wrap .i64 (u.o + 1) = u.o + 1 := wrap_in (by omega) (by omega)
            simp only [ozC] at hg hge
            by_cases z1 : x.s = 0
            · rw [z1] at hg hge h32
              by_cases z2 : shardZ c d x.n (bandZ d x.p) = sh
              · by_cases z3 : u.p = 0
                ·
                  have hst : (shardsZ c d sh (l.take (k + 1))).1 = ⟨x.p, u.l + x.q, u.o + 1⟩ := by rw [hstep]; simp [z1, z2, z3, accL]
                  repeat' with_reducible (first
                    | refine ZR.h ?_ | refine zI (by decide) ?_
                    | ((first | refine zK hE ?_ | refine zL hE mixT ?_); intro K hK; simp [KR.ks, KD.ks, KD.cl, q15_0, q15_1, q15_2, q15_3, q15_4, q15_5, q15_6, q15_7, q15_8, q15_9, q15_10, q15_11, hD, hl, hk, hlt, hki, hg, hge, ww, h32, w1, w2, z2, z3]; (repeat' (first | refine hK _ _ ?_ | refine And.intro ?_ ?_ | (intro hc; try subst hc))) <;> (try clear hK K))
                    | (refine zJ (b := _) (by with_unfolding_all rfl) (fun hc => ?_) (fun hc => ?_) <;> simp at hc <;> (try subst hc)))
                  all_goals first | (exfalso; omega) | skip
                  all_goals refine ⟨k + 1, hlt, Nat.sub_lt_sub_left hlt (Nat.lt_succ_self k), ?_⟩
                  all_goals simp only [I15_0, hst]
                  all_goals rw [hS]
                  all_goals (refine Imp.auto (by kernel_rfl) ?_ ?_ <;> simp [NLe, mkPlX, hT, hC, hl])
                · by_cases z4 : u.p < x.p
                  ·
                    have hst : (shardsZ c d sh (l.take (k + 1))).1 = ⟨x.p, u.l + x.q, u.o + 1⟩ := by rw [hstep]; simp [z1, z2, z3, z4, accL, betterZ]
                    repeat' with_reducible (first
                      | refine ZR.h ?_ | refine zI (by decide) ?_
                      | ((first | refine zK hE ?_ | refine zL hE mixT ?_); intro K hK; simp [KR.ks, KD.ks, KD.cl, q15_0, q15_1, q15_2, q15_3, q15_4, q15_5, q15_6, q15_7, q15_8, q15_9, q15_10, q15_11, hD, hl, hk, hlt, hki, hg, hge, ww, h32, w1, w2, z2, z3, z4]; (repeat' (first | refine hK _ _ ?_ | refine And.intro ?_ ?_ | (intro hc; try subst hc))) <;> (try clear hK K))
                      | (refine zJ (b := _) (by with_unfolding_all rfl) (fun hc => ?_) (fun hc => ?_) <;> simp at hc <;> (try subst hc)))
                    all_goals first | (exfalso; omega) | skip
                    all_goals refine ⟨k + 1, hlt, Nat.sub_lt_sub_left hlt (Nat.lt_succ_self k), ?_⟩
                    all_goals simp only [I15_0, hst]
                    all_goals rw [hS]
                    all_goals (refine Imp.auto (by kernel_rfl) ?_ ?_ <;> simp [NLe, mkPlX, hT, hC, hl])
                  ·
                    have hst : (shardsZ c d sh (l.take (k + 1))).1 = ⟨u.p, u.l + x.q, u.o + 1⟩ := by rw [hstep]; simp [z1, z2, z3, z4, accL, betterZ]
                    repeat' with_reducible (first
                      | refine ZR.h ?_ | refine zI (by decide) ?_
                      | ((first | refine zK hE ?_ | refine zL hE mixT ?_); intro K hK; simp [KR.ks, KD.ks, KD.cl, q15_0, q15_1, q15_2, q15_3, q15_4, q15_5, q15_6, q15_7, q15_8, q15_9, q15_10, q15_11, hD, hl, hk, hlt, hki, hg, hge, ww, h32, w1, w2, z2, z3, z4]; (repeat' (first | refine hK _ _ ?_ | refine And.intro ?_ ?_ | (intro hc; try subst hc))) <;> (try clear hK K))
                      | (refine zJ (b := _) (by with_unfolding_all rfl) (fun hc => ?_) (fun hc => ?_) <;> simp at hc <;> (try subst hc)))
                    all_goals first | (exfalso; omega) | skip
                    all_goals refine ⟨k + 1, hlt, Nat.sub_lt_sub_left hlt (Nat.lt_succ_self k), ?_⟩
                    all_goals simp only [I15_0, hst]
                    all_goals rw [hS]
                    all_goals (refine Imp.auto (by kernel_rfl) ?_ ?_ <;> simp [NLe, mkPlX, hT, hC, hl])
              ·
                have hst : (shardsZ c d sh (l.take (k + 1))).1 = u := by rw [hstep]; simp [z1, z2]
                repeat' with_reducible (first
                  | refine ZR.h ?_ | refine zI (by decide) ?_
                  | ((first | refine zK hE ?_ | refine zL hE mixT ?_); intro K hK; simp [KR.ks, KD.ks, KD.cl, q15_0, q15_1, q15_2, q15_3, q15_4, q15_5, q15_6, q15_7, q15_8, q15_9, q15_10, q15_11, hD, hl, hk, hlt, hki, hg, hge, ww, h32, w1, w2, z2]; (repeat' (first | refine hK _ _ ?_ | refine And.intro ?_ ?_ | (intro hc; try subst hc))) <;> (try clear hK K))
                  | (refine zJ (b := _) (by with_unfolding_all rfl) (fun hc => ?_) (fun hc => ?_) <;> simp at hc <;> (try subst hc)))
                all_goals first | (exfalso; omega) | skip
                all_goals refine ⟨k + 1, hlt, Nat.sub_lt_sub_left hlt (Nat.lt_succ_self k), ?_⟩
                all_goals simp only [I15_0, hst]
                all_goals rw [hS]
                all_goals (refine Imp.auto (by kernel_rfl) ?_ ?_ <;> simp [NLe, mkPlX, hT, hC, hl])
            ·
              have hst : (shardsZ c d sh (l.take (k + 1))).1 = u := by rw [hstep]; simp [z1]
              repeat' with_reducible (first
                | refine ZR.h ?_ | refine zI (by decide) ?_
                | ((first | refine zK hE ?_ | refine zL hE mixT ?_); intro K hK; simp [KR.ks, KD.ks, KD.cl, q15_0, q15_1, q15_2, q15_3, q15_4, q15_5, q15_6, q15_7, q15_8, q15_9, q15_10, q15_11, hD, hl, hk, hlt, hki, hg, hge, ww, h32, w1, w2, z1]; (repeat' (first | refine hK _ _ ?_ | refine And.intro ?_ ?_ | (intro hc; try subst hc))) <;> (try clear hK K))
                | (refine zJ (b := _) (by with_unfolding_all rfl) (fun hc => ?_) (fun hc => ?_) <;> simp at hc <;> (try subst hc)))
              all_goals first | (exfalso; omega) | skip
              all_goals refine ⟨k + 1, hlt, Nat.sub_lt_sub_left hlt (Nat.lt_succ_self k), ?_⟩
              all_goals simp only [I15_0, hst]
              all_goals rw [hS]
              all_goals (refine Imp.auto (by kernel_rfl) ?_ ?_ <;> simp [NLe, mkPlX, hT, hC, hl])
          obtain rfl : k = l.length := by omega
          have hki : ¬ ((l.length : Int) < (l.length : Int)) := by omega
          rw [List.take_length]
          simp only [lzC]
          repeat' with_reducible (first
            | refine ZR.h ?_ | refine zI (by decide) ?_
            | ((first | refine zK hE ?_ | refine zL hE mixT ?_); intro K hK; simp [KR.ks, KD.ks, KD.cl, q15_0, q15_1, q15_2, q15_3, q15_4, q15_5, q15_6, q15_7, q15_8, q15_9, q15_10, q15_11, hD, hl, hk, hki]; (repeat' (first | refine hK _ _ ?_ | refine And.intro ?_ ?_ | (intro hc; try subst hc))) <;> (try clear hK K))
            | (refine zJ (b := _) (by with_unfolding_all rfl) (fun hc => ?_) (fun hc => ?_) <;> simp at hc <;> (try subst hc)))
          all_goals first | (simp; done) | (simp at *; omega) | ((try simp[hT, hC, hl]); refine Imp.auto (by kernel_rfl) ?_ ?_ <;> simp [NLe, hT, hC, hl])
        · rw [if_neg (by decide)]
          unfold m15
          repeat' with_reducible (first
            | refine ZR.h ?_ | refine zI (by decide) ?_
            | ((first | refine zK hE ?_ | refine zL hE mixT ?_); intro K hK; simp [KR.ks, KD.ks, KD.cl, q15_0, q15_1, q15_2, q15_3, q15_4, q15_5, q15_6, q15_7, q15_8, q15_9, q15_10, q15_11, hD, hl, hT, hC, hk]; (repeat' (first | refine hK _ _ ?_ | refine And.intro ?_ ?_ | (intro hc; try subst hc))) <;> (try clear hK K))
            | (refine zJ (b := _) (by with_unfolding_all rfl) (fun hc => ?_) (fun hc => ?_) <;> simp at hc <;> (try subst hc)))
          all_goals (refine Wm_loop (fun k => I15_1 a b c d e f g sh l k) (fun k => k ≤ l.length) (fun k => l.length - k) 0 (Nat.zero_le _) ?_ ?_)
          · simp only [I15_1, List.take_zero]
            rw [hS]
            (refine Imp.auto (by kernel_rfl) ?_ ?_ <;> simp [NLe, mkPlX, hT, hC, hl, shardsZ])
          rintro k hkl
          (try simp only at hkl)
          simp only [I15_1]
          by_cases hlt : k < l.length
          · obtain ⟨x, hx⟩ : ∃ x, l[k]? = some x := ⟨_, List.getElem?_eq_getElem hlt⟩
            obtain ⟨hg, hge⟩ := oz_at hx
            have hki : (k : Int) < (l.length : Int) := by omega
            have ww : IntKind.wrap .i64 ((k : Int) + 1) = (k : Int) + 1 := wrap_in (by omega) (by omega)
            have hstep : (shardsZ c d sh (l.take (k + 1))).2 = if x.s = 1 ∧ shardZ c d x.n (bandZ d x.p) = sh then accL 1 (shardsZ c d sh (l.take k)).2 x else (shardsZ c d sh (l.take k)).2 := by rw [take_snoc hx, shards_snoc, sh_step1]
            have hq := hob x (List.mem_of_getElem? hx)
            have hbd := (shards_bnd c d sh (os := l.take k) fun o ho => hob o (List.mem_of_mem_take ho)).2
            rw [List.length_take, Nat.min_eq_left hkl] at hbd
            have h32 : d32 [.agg [.int .i64 a, .int .i64 b, .int .i64 c, .int .i64 d, .int .i64 e, .int .i64 f, .int .i64 g], .agg [.int .i64 x.n, .int .i64 x.s, .int .i64 x.p, .int .i64 x.l, .int .i64 x.u]] [] = some (.int .i64 (shardZ c d x.n (bandZ d x.p))) := by
              simp only [d32]; rw [if_pos hcf]
            generalize (shardsZ c d sh (l.take k)).2 = u at hstep hbd ⊢
            have w1 : IntKind.wrap .i64 (u.l + x.q) = u.l + x.q := wrap_in (by omega) (by omega)
            have w2 : IntKind.wrap .i64 (u.o + 1) = u.o + 1 := wrap_in (by omega) (by omega)
            simp only [ozC] at hg hge
            by_cases z1 : x.s = 1
            · rw [z1] at hg hge h32
              by_cases z2 : shardZ c d x.n (bandZ d x.p) = sh
              · by_cases z3 : u.p = 0
                ·
                  have hst : (shardsZ c d sh (l.take (k + 1))).2 = ⟨x.p, u.l + x.q, u.o + 1⟩ := by rw [hstep]; simp [z1, z2, z3, accL]
                  repeat' with_reducible (first
                    | refine ZR.h ?_ | refine zI (by decide) ?_
                    | ((first | refine zK hE ?_ | refine zL hE mixT ?_); intro K hK; simp [KR.ks, KD.ks, KD.cl, q15_0, q15_1, q15_2, q15_3, q15_4, q15_5, q15_6, q15_7, q15_8, q15_9, q15_10, q15_11, hD, hl, hk, hlt, hki, hg, hge, ww, h32, w1, w2, z2, z3]; (repeat' (first | refine hK _ _ ?_ | refine And.intro ?_ ?_ | (intro hc; try subst hc))) <;> (try clear hK K))
                    | (refine zJ (b := _) (by with_unfolding_all rfl) (fun hc => ?_) (fun hc => ?_) <;> simp at hc <;> (try subst hc)))
                  all_goals first | (exfalso; omega) | skip
                  all_goals refine ⟨k + 1, hlt, Nat.sub_lt_sub_left hlt (Nat.lt_succ_self k), ?_⟩
                  all_goals simp only [I15_1, hst]
                  all_goals rw [hS]
                  all_goals (refine Imp.auto (by kernel_rfl) ?_ ?_ <;> simp [NLe, mkPlX, hT, hC, hl])
                · by_cases z4 : x.p < u.p
                  ·
                    have hst : (shardsZ c d sh (l.take (k + 1))).2 = ⟨x.p, u.l + x.q, u.o + 1⟩ := by rw [hstep]; simp [z1, z2, z3, z4, accL, betterZ]
                    repeat' with_reducible (first
                      | refine ZR.h ?_ | refine zI (by decide) ?_
                      | ((first | refine zK hE ?_ | refine zL hE mixT ?_); intro K hK; simp [KR.ks, KD.ks, KD.cl, q15_0, q15_1, q15_2, q15_3, q15_4, q15_5, q15_6, q15_7, q15_8, q15_9, q15_10, q15_11, hD, hl, hk, hlt, hki, hg, hge, ww, h32, w1, w2, z2, z3, z4]; (repeat' (first | refine hK _ _ ?_ | refine And.intro ?_ ?_ | (intro hc; try subst hc))) <;> (try clear hK K))
                      | (refine zJ (b := _) (by with_unfolding_all rfl) (fun hc => ?_) (fun hc => ?_) <;> simp at hc <;> (try subst hc)))
                    all_goals first | (exfalso; omega) | skip
                    all_goals refine ⟨k + 1, hlt, Nat.sub_lt_sub_left hlt (Nat.lt_succ_self k), ?_⟩
                    all_goals simp only [I15_1, hst]
                    all_goals rw [hS]
                    all_goals (refine Imp.auto (by kernel_rfl) ?_ ?_ <;> simp [NLe, mkPlX, hT, hC, hl])
                  ·
                    have hst : (shardsZ c d sh (l.take (k + 1))).2 = ⟨u.p, u.l + x.q, u.o + 1⟩ := by rw [hstep]; simp [z1, z2, z3, z4, accL, betterZ]
                    repeat' with_reducible (first
                      | refine ZR.h ?_ | refine zI (by decide) ?_
                      | ((first | refine zK hE ?_ | refine zL hE mixT ?_); intro K hK; simp [KR.ks, KD.ks, KD.cl, q15_0, q15_1, q15_2, q15_3, q15_4, q15_5, q15_6, q15_7, q15_8, q15_9, q15_10, q15_11, hD, hl, hk, hlt, hki, hg, hge, ww, h32, w1, w2, z2, z3, z4]; (repeat' (first | refine hK _ _ ?_ | refine And.intro ?_ ?_ | (intro hc; try subst hc))) <;> (try clear hK K))
                      | (refine zJ (b := _) (by with_unfolding_all rfl) (fun hc => ?_) (fun hc => ?_) <;> simp at hc <;> (try subst hc)))
                    all_goals first | (exfalso; omega) | skip
                    all_goals refine ⟨k + 1, hlt, Nat.sub_lt_sub_left hlt (Nat.lt_succ_self k), ?_⟩
                    all_goals simp only [I15_1, hst]
                    all_goals rw [hS]
                    all_goals (refine Imp.auto (by kernel_rfl) ?_ ?_ <;> simp [NLe, mkPlX, hT, hC, hl])
              ·
                have hst : (shardsZ c d sh (l.take (k + 1))).2 = u := by rw [hstep]; simp [z1, z2]
                repeat' with_reducible (first
                  | refine ZR.h ?_ | refine zI (by decide) ?_
                  | ((first | refine zK hE ?_ | refine zL hE mixT ?_); intro K hK; simp [KR.ks, KD.ks, KD.cl, q15_0, q15_1, q15_2, q15_3, q15_4, q15_5, q15_6, q15_7, q15_8, q15_9, q15_10, q15_11, hD, hl, hk, hlt, hki, hg, hge, ww, h32, w1, w2, z2]; (repeat' (first | refine hK _ _ ?_ | refine And.intro ?_ ?_ | (intro hc; try subst hc))) <;> (try clear hK K))
                  | (refine zJ (b := _) (by with_unfolding_all rfl) (fun hc => ?_) (fun hc => ?_) <;> simp at hc <;> (try subst hc)))
                all_goals first | (exfalso; omega) | skip
                all_goals refine ⟨k + 1, hlt, Nat.sub_lt_sub_left hlt (Nat.lt_succ_self k), ?_⟩
                all_goals simp only [I15_1, hst]
                all_goals rw [hS]
                all_goals (refine Imp.auto (by kernel_rfl) ?_ ?_ <;> simp [NLe, mkPlX, hT, hC, hl])
            ·
              have hst : (shardsZ c d sh (l.take (k + 1))).2 = u := by rw [hstep]; simp [z1]
              repeat' with_reducible (first
                | refine ZR.h ?_ | refine zI (by decide) ?_
                | ((first | refine zK hE ?_ | refine zL hE mixT ?_); intro K hK; simp [KR.ks, KD.ks, KD.cl, q15_0, q15_1, q15_2, q15_3, q15_4, q15_5, q15_6, q15_7, q15_8, q15_9, q15_10, q15_11, hD, hl, hk, hlt, hki, hg, hge, ww, h32, w1, w2, z1]; (repeat' (first | refine hK _ _ ?_ | refine And.intro ?_ ?_ | (intro hc; try subst hc))) <;> (try clear hK K))
                | (refine zJ (b := _) (by with_unfolding_all rfl) (fun hc => ?_) (fun hc => ?_) <;> simp at hc <;> (try subst hc)))
              all_goals first | (exfalso; omega) | skip
              all_goals refine ⟨k + 1, hlt, Nat.sub_lt_sub_left hlt (Nat.lt_succ_self k), ?_⟩
              all_goals simp only [I15_1, hst]
              all_goals rw [hS]
              all_goals (refine Imp.auto (by kernel_rfl) ?_ ?_ <;> simp [NLe, mkPlX, hT, hC, hl])
          obtain rfl : k = l.length := by omega
          have hki : ¬ ((l.length : Int) < (l.length : Int)) := by omega
          rw [List.take_length]
          simp only [lzC]
          repeat' with_reducible (first
            | refine ZR.h ?_ | refine zI (by decide) ?_
            | ((first | refine zK hE ?_ | refine zL hE mixT ?_); intro K hK; simp [KR.ks, KD.ks, KD.cl, q15_0, q15_1, q15_2, q15_3, q15_4, q15_5, q15_6, q15_7, q15_8, q15_9, q15_10, q15_11, hD, hl, hk, hki]; (repeat' (first | refine hK _ _ ?_ | refine And.intro ?_ ?_ | (intro hc; try subst hc))) <;> (try clear hK K))
            | (refine zJ (b := _) (by with_unfolding_all rfl) (fun hc => ?_) (fun hc => ?_) <;> simp at hc <;> (try subst hc)))
          all_goals first | (simp; done) | (simp at *; omega) | ((try simp[hT, hC, hl]); refine Imp.auto (by kernel_rfl) ?_ ?_ <;> simp [NLe, hT, hC, hl])
      · cases h
    · cases h
  · cases h
end Go.W
