/- A part of the proof (BbH, BaC). -/
import Derived.Test.YtfkdcpgphindiaaBbG
import Derived.Test.YtfkdcpgphindiaaPsJ
namespace Go.W
open Go.Proofs
set_option linter.unusedSimpArgs false
set_option linter.unusedVariables false
set_option maxHeartbeats 8000000
attribute [local irreducible] Wm
attribute [local simp] nmap lkp mkPl prs prsL prT ddL idL CRenL CRen Ren RenL NObj.none CRenLL

def accL (s : Int) (x : LZ) (o : OZ) : LZ := ⟨if x.p = 0 ∨ betterZ s o.p x.p = true then o.p else x.p, x.l + o.q, x.o + 1⟩
def shStep (c d sh : Int) (st : LZ × LZ) (o : OZ) : LZ × LZ := if shardZ c d o.n (bandZ d o.p) ≠ sh ∨ o.s < 0 ∨ 1 < o.s then st else if o.s = 0 then (accL 0 st.1 o, st.2) else (st.1, accL 1 st.2 o)
/-- WHAT WAITS IN A SHARD, on both sides. -/
def shardsZ (c d sh : Int) (os : List OZ) : LZ × LZ := os.foldl (shStep c d sh) (⟨0, 0, 0⟩, ⟨0, 0, 0⟩)
theorem shards_snoc (c d sh : Int) (os : List OZ) (o : OZ) : shardsZ c d sh (os ++ [o]) = shStep c d sh (shardsZ c d sh os) o := by unfold shardsZ; rw [List.foldl_append]; rfl
theorem shards_bnd (c d sh : Int) {os : List OZ} (h : ∀ o ∈ os, 1 ≤ o.p ∧ o.p ≤ 9999 ∧ 0 ≤ o.q ∧ o.q ≤ 9999) : (0 ≤ (shardsZ c d sh os).1.l ∧ (shardsZ c d sh os).1.l ≤ 9999 * os.length ∧ 0 ≤ (shardsZ c d sh os).1.o ∧ (shardsZ c d sh os).1.o ≤ os.length) ∧ (0 ≤ (shardsZ c d sh os).2.l ∧ (shardsZ c d sh os).2.l ≤ 9999 * os.length ∧ 0 ≤ (shardsZ c d sh os).2.o ∧ (shardsZ c d sh os).2.o ≤ os.length) := by
  revert h
  refine snoc_ind (m := fun os => (∀ o ∈ os, 1 ≤ o.p ∧ o.p ≤ 9999 ∧ 0 ≤ o.q ∧ o.q ≤ 9999) → (0 ≤ (shardsZ c d sh os).1.l ∧ (shardsZ c d sh os).1.l ≤ 9999 * os.length ∧ 0 ≤ (shardsZ c d sh os).1.o ∧ (shardsZ c d sh os).1.o ≤ os.length) ∧ (0 ≤ (shardsZ c d sh os).2.l ∧ (shardsZ c d sh os).2.l ≤ 9999 * os.length ∧ 0 ≤ (shardsZ c d sh os).2.o ∧ (shardsZ c d sh os).2.o ≤ os.length)) (fun _ => by simp [shardsZ]) (fun l x ih h => ?_) os
  have h1 := ih fun o ho => h o (List.mem_append_left _ ho)
  have h2 := h x (by simp)
  rw [shards_snoc, List.length_append, List.length_singleton]
  generalize shardsZ c d sh l = st at h1
  unfold shStep accL
  split
  · omega
  · split
    · simp only; omega
    · simp only; omega
def I10 (a b c d e f g sh : Int) (l : List OZ) (k : Nat) : St := ⟨[(1, .int .i64 sh), (2, .ptr (.top 1) 0 0), (4, .ptr (.top 2) 0 0), (5, .ptr (.top 3) 0 0), (10, .sl (.top 0) 0 l.length), (11, .int .i64 l.length), (12, .int .i64 k)], [(0, .view 0 7 (ozLL l)), (1, .cells 0 [.int .i64 a, .int .i64 b, .int .i64 c, .int .i64 d, .int .i64 e, .int .i64 f, .int .i64 g, .sl (.top 0) 0 l.length]), (2, .cells 0 [.int .i64 0, .int .i64 0, .int .i64 0, .int .i64 0, .int .i64 0, .int .i64 0]), (3, .cells 0 [.int .i64 (shardsZ c d sh (l.take k)).1.p, .int .i64 (shardsZ c d sh (l.take k)).1.l, .int .i64 (shardsZ c d sh (l.take k)).1.o, .int .i64 (shardsZ c d sh (l.take k)).2.p, .int .i64 (shardsZ c d sh (l.take k)).2.l, .int .i64 (shardsZ c d sh (l.take k)).2.o])], 4⟩

def d10 : List AV → List NObj → Option AV
  | [.agg [.int .i64 a, .int .i64 b, .int .i64 c, .int .i64 d, .int .i64 e, .int .i64 f, .int .i64 g, .sl (.top 0) 0 n], .int .i64 sh], [.view 0 7 els] => (match mapV ozOf els with
    | some l => if n = els.length ∧ okO l = true ∧ True ∧ cfgB a b c d e f g = true then some (.agg [.int .i64 (shardsZ c d sh l).1.p, .int .i64 (shardsZ c d sh l).1.l, .int .i64 (shardsZ c d sh l).1.o, .int .i64 (shardsZ c d sh l).2.p, .int .i64 (shardsZ c d sh l).2.l, .int .i64 (shardsZ c d sh l).2.o]) else none
    | none => none)
  | _, _ => none
theorem ok10 : ROk d10 := by
  intro xs os r h
  unfold d10 at h
  split at h
  · split at h
    · split at h
      · injection h with h; subst h; simp
      · cases h
    · cases h
  · cases h
theorem s10 : Sound Try.prog 10 (rdS d10 ok10) := by
  refine rd_sound Try.func10 nm10 rc10 rv10 ok10 fun xs os r h vs ρ0 hvs => ⟨xs, ?_, fun _ h => h, fun w0 S hS => ?_⟩
  · unfold d10 at h
    (repeat' (split at h)) <;> first | (cases h; done) | exact Nat.le_of_ble_eq_true rfl
  unfold d10 at h
  split at h
  · rename_i a b c d e f g n sh els
    split at h
    · rename_i l hml
      obtain rfl := mapV_ex (g := ozC) (fun _ _ => ozOf_ex) hml
      clear hml
      split at h
      · rename_i hcond
        injection h with h
        subst h
        obtain ⟨rfl, hok, hcf⟩ := hcond
        simp only [oz_map, oz_len] at hvs hS ⊢
        have hlen := (okO_ex hok).1
        have hob := (okO_ex hok).2
        have hE : SoundAll Try.prog (EL [(27, rdS d27 ok27), (28, rdS d28 ok28)]) := EL_sound (by simp only [List.mem_cons, List.not_mem_nil, or_false, forall_eq_or_imp, forall_eq]; exact ⟨s27, s28⟩)
        have hl := oz_len l
        have hD := oz_dat l
        have hT := oz_t0 l
        have hC := oz_cl l
        have hk : (ozLL l).take l.length = ozLL l := List.take_of_length_le (by rw [hl]; exact Nat.le_refl _)
        have hm : mapV ozOf (ozLL l) = some l := mapV_map (f := ozOf) (g := ozC) ozOf_C l
        unfold m10
        repeat' with_reducible (first
          | refine ZR.h ?_ | refine zI (by decide) ?_
          | ((first | refine zK hE ?_ | refine zL hE mixT ?_); intro K hK; simp [KR.ks, KD.ks, KD.cl, q10_0, q10_1, q10_2, q10_3, q10_4, q10_5, q10_6, q10_7, q10_8, q10_9, q10_10, q10_11, q10_12, hD, hl, hT, hC]; (repeat' (first | refine hK _ _ ?_ | refine And.intro ?_ ?_ | (intro hc; try subst hc))) <;> (try clear hK K))
          | (refine zJ (b := _) (by with_unfolding_all rfl) (fun hc => ?_) (fun hc => ?_) <;> simp at hc <;> (try subst hc)))
        all_goals (refine Wm_loop (fun k => I10 a b c d e f g sh l k) (fun k => k ≤ l.length) (fun k => l.length - k) 0 (Nat.zero_le _) ?_ ?_)
        · simp only [I10, List.take_zero]
          rw [hS]
          (refine Imp.auto (by kernel_rfl) ?_ ?_ <;> simp [NLe, mkPlX, hT, hC, hl, shardsZ])
        rintro k hkl
        (try simp only at hkl)
        simp only [I10]
        by_cases hlt : k < l.length
        · obtain ⟨x, hx⟩ : ∃ x, l[k]? = some x := ⟨_, List.getElem?_eq_getElem hlt⟩
          obtain ⟨hg, hge⟩ := oz_at hx
          have hki : (k : Int) < (l.length : Int) := by omega
          have ww : IntKind.wrap .i64 ((k : Int) + 1) = (k : Int) + 1 := wrap_in (by omega) (by omega)
          have hstep : shardsZ c d sh (l.take (k + 1)) = shStep c d sh (shardsZ c d sh (l.take k)) x := by rw [take_snoc hx, shards_snoc]
          have hq := hob x (List.mem_of_getElem? hx)
          have hbd := shards_bnd c d sh (os := l.take k) fun o ho => hob o (List.mem_of_mem_take ho)
          rw [List.length_take, Nat.min_eq_left hkl] at hbd
          have h27 : d27 [.agg [.int .i64 a, .int .i64 b, .int .i64 c, .int .i64 d, .int .i64 e, .int .i64 f, .int .i64 g], .agg [.int .i64 x.n, .int .i64 x.s, .int .i64 x.p, .int .i64 x.l, .int .i64 x.u]] [] = some (.int .i64 (shardZ c d x.n (bandZ d x.p))) := by
            simp only [d27]; rw [if_pos hcf.2]
          generalize shardsZ c d sh (l.take k) = st at hstep hbd ⊢
          obtain ⟨x0, x1⟩ := st
          simp only at hstep hbd ⊢
          have w1 : IntKind.wrap .i64 (x0.l + x.q) = x0.l + x.q := wrap_in (by omega) (by omega)
          have w2 : IntKind.wrap .i64 (x0.o + 1) = x0.o + 1 := wrap_in (by omega) (by omega)
          have w3 : IntKind.wrap .i64 (x1.l + x.q) = x1.l + x.q := wrap_in (by omega) (by omega)
          have w4 : IntKind.wrap .i64 (x1.o + 1) = x1.o + 1 := wrap_in (by omega) (by omega)
          simp only [ozC] at hg hge
          have hb1 : True := trivial
          have hb2 : True := trivial
          by_cases hsh : shardZ c d x.n (bandZ d x.p) = sh
          · by_cases hneg : x.s < 0
            ·
              have hst : shardsZ c d sh (l.take (k + 1)) = (x0, x1) := by rw [hstep]; simp [shStep, accL, hsh, hneg]
              repeat' with_reducible (first
                | refine ZR.h ?_ | refine zI (by decide) ?_
                | ((first | refine zK hE ?_ | refine zL hE mixT ?_); intro K hK; simp [KR.ks, KD.ks, KD.cl, q10_0, q10_1, q10_2, q10_3, q10_4, q10_5, q10_6, q10_7, q10_8, q10_9, q10_10, q10_11, q10_12, hD, hl, hlt, hki, hg, hge, ww, h27, w1, w2, w3, w4, hb1, hb2, hsh, hneg]; (repeat' (first | refine hK _ _ ?_ | refine And.intro ?_ ?_ | (intro hc; try subst hc))) <;> (try clear hK K))
                | (refine zJ (b := _) (by with_unfolding_all rfl) (fun hc => ?_) (fun hc => ?_) <;> simp at hc <;> (try subst hc)))
              all_goals first | (exfalso; omega) | skip
              all_goals refine ⟨k + 1, hlt, Nat.sub_lt_sub_left hlt (Nat.lt_succ_self k), ?_⟩
              all_goals simp only [I10, hst]
              all_goals rw [hS]
              all_goals (refine Imp.auto (by kernel_rfl) ?_ ?_ <;> simp [NLe, mkPlX, hT, hC, hl])
            · by_cases hgt : 1 < x.s
              ·
                have hst : shardsZ c d sh (l.take (k + 1)) = (x0, x1) := by rw [hstep]; simp [shStep, accL, hsh, hneg, hgt]
                repeat' with_reducible (first
                  | refine ZR.h ?_ | refine zI (by decide) ?_
                  | ((first | refine zK hE ?_ | refine zL hE mixT ?_); intro K hK; simp [KR.ks, KD.ks, KD.cl, q10_0, q10_1, q10_2, q10_3, q10_4, q10_5, q10_6, q10_7, q10_8, q10_9, q10_10, q10_11, q10_12, hD, hl, hlt, hki, hg, hge, ww, h27, w1, w2, w3, w4, hb1, hb2, hsh, hneg, hgt]; (repeat' (first | refine hK _ _ ?_ | refine And.intro ?_ ?_ | (intro hc; try subst hc))) <;> (try clear hK K))
                  | (refine zJ (b := _) (by with_unfolding_all rfl) (fun hc => ?_) (fun hc => ?_) <;> simp at hc <;> (try subst hc)))
                all_goals first | (exfalso; omega) | skip
                all_goals refine ⟨k + 1, hlt, Nat.sub_lt_sub_left hlt (Nat.lt_succ_self k), ?_⟩
                all_goals simp only [I10, hst]
                all_goals rw [hS]
                all_goals (refine Imp.auto (by kernel_rfl) ?_ ?_ <;> simp [NLe, mkPlX, hT, hC, hl])
              · have hs01 : x.s = 0 ∨ x.s = 1 := by omega
                rcases hs01 with hsd | hsd
                · clear hneg hgt
                  rw [hsd] at hg hge h27
                  have hb1 : betterZ 0 x.p x0.p = betterZ 0 x.p x0.p := rfl
                  have hb2 : d28 [.int .i64 0, .int .i64 x.p, .int .i64 x0.p] [] = some (.bool (betterZ 0 x.p x0.p)) := rfl
                  by_cases hz : x0.p = 0
                  ·
                    have hst : shardsZ c d sh (l.take (k + 1)) = (⟨x.p, x0.l + x.q, x0.o + 1⟩, x1) := by rw [hstep]; simp [shStep, accL, h27, hsh, hsd, hz]
                    repeat' with_reducible (first
                      | refine ZR.h ?_ | refine zI (by decide) ?_
                      | ((first | refine zK hE ?_ | refine zL hE mixT ?_); intro K hK; simp [KR.ks, KD.ks, KD.cl, q10_0, q10_1, q10_2, q10_3, q10_4, q10_5, q10_6, q10_7, q10_8, q10_9, q10_10, q10_11, q10_12, hD, hl, hlt, hki, hg, hge, ww, h27, w1, w2, w3, w4, hb1, hb2, h27, hsh, hsd, hz]; (repeat' (first | refine hK _ _ ?_ | refine And.intro ?_ ?_ | (intro hc; try subst hc))) <;> (try clear hK K))
                      | (refine zJ (b := _) (by with_unfolding_all rfl) (fun hc => ?_) (fun hc => ?_) <;> simp at hc <;> (try subst hc)))
                    all_goals first | (exfalso; omega) | skip
                    all_goals refine ⟨k + 1, hlt, Nat.sub_lt_sub_left hlt (Nat.lt_succ_self k), ?_⟩
                    all_goals simp only [I10, hst]
                    all_goals rw [hS]
                    all_goals (refine Imp.auto (by kernel_rfl) ?_ ?_ <;> simp [NLe, mkPlX, hT, hC, hl])
                  · by_cases hbt : betterZ 0 x.p x0.p = true
                    ·
                      have hst : shardsZ c d sh (l.take (k + 1)) = (⟨x.p, x0.l + x.q, x0.o + 1⟩, x1) := by rw [hstep]; simp [shStep, accL, h27, hsh, hsd, hz, hbt]
                      repeat' with_reducible (first
                        | refine ZR.h ?_ | refine zI (by decide) ?_
                        | ((first | refine zK hE ?_ | refine zL hE mixT ?_); intro K hK; simp [KR.ks, KD.ks, KD.cl, q10_0, q10_1, q10_2, q10_3, q10_4, q10_5, q10_6, q10_7, q10_8, q10_9, q10_10, q10_11, q10_12, hD, hl, hlt, hki, hg, hge, ww, h27, w1, w2, w3, w4, hb1, hb2, h27, hsh, hsd, hz, hbt]; (repeat' (first | refine hK _ _ ?_ | refine And.intro ?_ ?_ | (intro hc; try subst hc))) <;> (try clear hK K))
                        | (refine zJ (b := _) (by with_unfolding_all rfl) (fun hc => ?_) (fun hc => ?_) <;> simp at hc <;> (try subst hc)))
                      all_goals first | (exfalso; omega) | skip
                      all_goals refine ⟨k + 1, hlt, Nat.sub_lt_sub_left hlt (Nat.lt_succ_self k), ?_⟩
                      all_goals simp only [I10, hst]
                      all_goals rw [hS]
                      all_goals (refine Imp.auto (by kernel_rfl) ?_ ?_ <;> simp [NLe, mkPlX, hT, hC, hl])
                    · have hbt : betterZ 0 x.p x0.p = false := by simpa using hbt
                      have hst : shardsZ c d sh (l.take (k + 1)) = (⟨x0.p, x0.l + x.q, x0.o + 1⟩, x1) := by rw [hstep]; simp [shStep, accL, h27, hsh, hsd, hz, hbt]
                      repeat' with_reducible (first
                        | refine ZR.h ?_ | refine zI (by decide) ?_
                        | ((first | refine zK hE ?_ | refine zL hE mixT ?_); intro K hK; simp [KR.ks, KD.ks, KD.cl, q10_0, q10_1, q10_2, q10_3, q10_4, q10_5, q10_6, q10_7, q10_8, q10_9, q10_10, q10_11, q10_12, hD, hl, hlt, hki, hg, hge, ww, h27, w1, w2, w3, w4, hb1, hb2, h27, hsh, hsd, hz, hbt]; (repeat' (first | refine hK _ _ ?_ | refine And.intro ?_ ?_ | (intro hc; try subst hc))) <;> (try clear hK K))
                        | (refine zJ (b := _) (by with_unfolding_all rfl) (fun hc => ?_) (fun hc => ?_) <;> simp at hc <;> (try subst hc)))
                      all_goals first | (exfalso; omega) | skip
                      all_goals refine ⟨k + 1, hlt, Nat.sub_lt_sub_left hlt (Nat.lt_succ_self k), ?_⟩
                      all_goals simp only [I10, hst]
                      all_goals rw [hS]
                      all_goals (refine Imp.auto (by kernel_rfl) ?_ ?_ <;> simp [NLe, mkPlX, hT, hC, hl])
                · clear hneg hgt
                  rw [hsd] at hg hge h27
                  have hb1 : betterZ 1 x.p x1.p = betterZ 1 x.p x1.p := rfl
                  have hb2 : d28 [.int .i64 1, .int .i64 x.p, .int .i64 x1.p] [] = some (.bool (betterZ 1 x.p x1.p)) := rfl
                  by_cases hz : x1.p = 0
                  ·
                    have hst : shardsZ c d sh (l.take (k + 1)) = (x0, ⟨x.p, x1.l + x.q, x1.o + 1⟩) := by rw [hstep]; simp [shStep, accL, h27, hsh, hsd, hz]
                    repeat' with_reducible (first
                      | refine ZR.h ?_ | refine zI (by decide) ?_
                      | ((first | refine zK hE ?_ | refine zL hE mixT ?_); intro K hK; simp [KR.ks, KD.ks, KD.cl, q10_0, q10_1, q10_2, q10_3, q10_4, q10_5, q10_6, q10_7, q10_8, q10_9, q10_10, q10_11, q10_12, hD, hl, hlt, hki, hg, hge, ww, h27, w1, w2, w3, w4, hb1, hb2, h27, hsh, hsd, hz]; (repeat' (first | refine hK _ _ ?_ | refine And.intro ?_ ?_ | (intro hc; try subst hc))) <;> (try clear hK K))
                      | (refine zJ (b := _) (by with_unfolding_all rfl) (fun hc => ?_) (fun hc => ?_) <;> simp at hc <;> (try subst hc)))
                    all_goals first | (exfalso; omega) | skip
                    all_goals refine ⟨k + 1, hlt, Nat.sub_lt_sub_left hlt (Nat.lt_succ_self k), ?_⟩
                    all_goals simp only [I10, hst]
                    all_goals rw [hS]
                    all_goals (refine Imp.auto (by kernel_rfl) ?_ ?_ <;> simp [NLe, mkPlX, hT, hC, hl])
                  · by_cases hbt : betterZ 1 x.p x1.p = true
                    ·
                      have hst : shardsZ c d sh (l.take (k + 1)) = (x0, ⟨x.p, x1.l + x.q, x1.o + 1⟩) := by rw [hstep]; simp [shStep, accL, h27, hsh, hsd, hz, hbt]
                      repeat' with_reducible (first
                        | refine ZR.h ?_ | refine zI (by decide) ?_
                        | ((first | refine zK hE ?_ | refine zL hE mixT ?_); intro K hK; simp [KR.ks, KD.ks, KD.cl, q10_0, q10_1, q10_2, q10_3, q10_4, q10_5, q10_6, q10_7, q10_8, q10_9, q10_10, q10_11, q10_12, hD, hl, hlt, hki, hg, hge, ww, h27, w1, w2, w3, w4, hb1, hb2, h27, hsh, hsd, hz, hbt]; (repeat' (first | refine hK _ _ ?_ | refine And.intro ?_ ?_ | (intro hc; try subst hc))) <;> (try clear hK K))
                        | (refine zJ (b := _) (by with_unfolding_all rfl) (fun hc => ?_) (fun hc => ?_) <;> simp at hc <;> (try subst hc)))
                      all_goals first | (exfalso; omega) | skip
                      all_goals refine ⟨k + 1, hlt, Nat.sub_lt_sub_left hlt (Nat.lt_succ_self k), ?_⟩
                      all_goals simp only [I10, hst]
                      all_goals rw [hS]
                      all_goals (refine Imp.auto (by kernel_rfl) ?_ ?_ <;> simp [NLe, mkPlX, hT, hC, hl])
                    · have hbt : betterZ 1 x.p x1.p = false := by simpa using hbt
                      have hst : shardsZ c d sh (l.take (k + 1)) = (x0, ⟨x1.p, x1.l + x.q, x1.o + 1⟩) := by rw [hstep]; simp [shStep, accL, h27, hsh, hsd, hz, hbt]
                      repeat' with_reducible (first
                        | refine ZR.h ?_ | refine zI (by decide) ?_
                        | ((first | refine zK hE ?_ | refine zL hE mixT ?_); intro K hK; simp [KR.ks, KD.ks, KD.cl, q10_0, q10_1, q10_2, q10_3, q10_4, q10_5, q10_6, q10_7, q10_8, q10_9, q10_10, q10_11, q10_12, hD, hl, hlt, hki, hg, hge, ww, h27, w1, w2, w3, w4, hb1, hb2, h27, hsh, hsd, hz, hbt]; (repeat' (first | refine hK _ _ ?_ | refine And.intro ?_ ?_ | (intro hc; try subst hc))) <;> (try clear hK K))
                        | (refine zJ (b := _) (by with_unfolding_all rfl) (fun hc => ?_) (fun hc => ?_) <;> simp at hc <;> (try subst hc)))
                      all_goals first | (exfalso; omega) | skip
                      all_goals refine ⟨k + 1, hlt, Nat.sub_lt_sub_left hlt (Nat.lt_succ_self k), ?_⟩
                      all_goals simp only [I10, hst]
                      all_goals rw [hS]
                      all_goals (refine Imp.auto (by kernel_rfl) ?_ ?_ <;> simp [NLe, mkPlX, hT, hC, hl])
          ·
            have hst : shardsZ c d sh (l.take (k + 1)) = (x0, x1) := by rw [hstep]; simp [shStep, accL, hsh]
            repeat' with_reducible (first
              | refine ZR.h ?_ | refine zI (by decide) ?_
              | ((first | refine zK hE ?_ | refine zL hE mixT ?_); intro K hK; simp [KR.ks, KD.ks, KD.cl, q10_0, q10_1, q10_2, q10_3, q10_4, q10_5, q10_6, q10_7, q10_8, q10_9, q10_10, q10_11, q10_12, hD, hl, hlt, hki, hg, hge, ww, h27, w1, w2, w3, w4, hb1, hb2, hsh]; (repeat' (first | refine hK _ _ ?_ | refine And.intro ?_ ?_ | (intro hc; try subst hc))) <;> (try clear hK K))
              | (refine zJ (b := _) (by with_unfolding_all rfl) (fun hc => ?_) (fun hc => ?_) <;> simp at hc <;> (try subst hc)))
            all_goals first | (exfalso; omega) | skip
            all_goals refine ⟨k + 1, hlt, Nat.sub_lt_sub_left hlt (Nat.lt_succ_self k), ?_⟩
            all_goals simp only [I10, hst]
            all_goals rw [hS]
            all_goals (refine Imp.auto (by kernel_rfl) ?_ ?_ <;> simp [NLe, mkPlX, hT, hC, hl])
        · obtain rfl : k = l.length := by omega
          have hki : ¬ ((l.length : Int) < (l.length : Int)) := by omega
          rw [List.take_length]
          repeat' with_reducible (first
            | refine ZR.h ?_ | refine zI (by decide) ?_
            | ((first | refine zK hE ?_ | refine zL hE mixT ?_); intro K hK; simp [KR.ks, KD.ks, KD.cl, q10_0, q10_1, q10_2, q10_3, q10_4, q10_5, q10_6, q10_7, q10_8, q10_9, q10_10, q10_11, q10_12, hD, hl, hki]; (repeat' (first | refine hK _ _ ?_ | refine And.intro ?_ ?_ | (intro hc; try subst hc))) <;> (try clear hK K))
            | (refine zJ (b := _) (by with_unfolding_all rfl) (fun hc => ?_) (fun hc => ?_) <;> simp at hc <;> (try subst hc)))
          all_goals first | (simp; done) | (simp at *; omega) | ((try simp[hT, hC, hl]); refine Imp.auto (by kernel_rfl) ?_ ?_ <;> simp [NLe, hT, hC, hl])
      · cases h
    · cases h
  · cases h
end Go.W
namespace Go.W
open Go.Proofs
set_option linter.unusedSimpArgs false
set_option linter.unusedVariables false
set_option maxHeartbeats 8000000
attribute [local irreducible] Wm
attribute [local simp] nmap lkp mkPl prs prsL prT ddL idL CRenL CRen Ren RenL NObj.none CRenLL

def sumTo (f : Nat → Int) : Nat → Int
  | 0 => 0
  | n + 1 => sumTo f n + f n
theorem sum_add {f g : Nat → Int} {q : Int} {k0 : Nat} : ∀ {n : Nat}, (∀ k, k < n → g k = f k + if k = k0 then q else 0) → sumTo g n = sumTo f n + if k0 < n then q else 0
  | 0, _ => by simp [sumTo]
  | n + 1, h => by
    simp only [sumTo]
    rw [sum_add fun k hk => h k (by omega), h n (by omega)]
    by_cases e : n = k0
    · rw [if_pos e, if_neg (by omega), if_pos (by omega)]; omega
    · rw [if_neg e]
      by_cases e2 : k0 < n
      · rw [if_pos e2, if_pos (by omega)]; omega
      · rw [if_neg e2, if_neg (by omega)]; omega
theorem sum_same {f g : Nat → Int} : ∀ {n : Nat}, (∀ k, k < n → g k = f k) → sumTo g n = sumTo f n
  | 0, _ => rfl
  | n + 1, h => by simp only [sumTo]; rw [sum_same fun k hk => h k (by omega), h n (by omega)]
theorem sum_bnd {f : Nat → Int} {B : Int} : ∀ {n : Nat}, (∀ k, k < n → 0 ≤ f k ∧ f k ≤ B) → 0 ≤ sumTo f n ∧ sumTo f n ≤ B * n
  | 0, _ => by simp [sumTo]
  | n + 1, h => by
    have h1 := sum_bnd (n := n) fun k hk => h k (by omega)
    have h2 := h n (by omega)
    simp only [sumTo]
    have e : B * ((n + 1 : Nat) : Int) = B * n + B := by rw [Int.natCast_add, Int.mul_add]; simp
    rw [e]; omega
/-- What all levels come to. -/
def sumL (L : List LZ) : Int := L.foldl (fun a x => a + x.l) 0
def cntL (L : List LZ) : Int := L.foldl (fun a x => a + x.o) 0
theorem sumL_snoc (L : List LZ) (x : LZ) : sumL (L ++ [x]) = sumL L + x.l := by unfold sumL; rw [List.foldl_append]; rfl
theorem cntL_snoc (L : List LZ) (x : LZ) : cntL (L ++ [x]) = cntL L + x.o := by unfold cntL; rw [List.foldl_append]; rfl
theorem lev_to (s : Int) (os : List OZ) : sumL (levelsZ s os) = sumTo (fun k => if 0 < (atZ (prZ s k) os).o then (atZ (prZ s k) os).l else 0) 9999 ∧ cntL (levelsZ s os) = sumTo (fun k => (atZ (prZ s k) os).o) 9999 := by
  unfold levelsZ
  generalize 9999 = n
  induction n with
  | zero => exact ⟨rfl, rfl⟩
  | succ n ih =>
    rw [List.range_succ, List.filterMap_append]
    simp only [sumTo]
    rw [← ih.1, ← ih.2]
    simp only [List.filterMap_cons, List.filterMap_nil]
    by_cases h : 0 < (atZ (prZ s n) os).o
    · simp only [h, if_true]
      exact ⟨sumL_snoc _ _, cntL_snoc _ _⟩
    · have := (at_o (prZ s n) os).1
      simp only [h, if_false, List.append_nil]
      exact ⟨by omega, by omega⟩
def idxP (s p : Int) : Nat := if s = 0 then (9999 - p).toNat else (p - 1).toNat
theorem idxP_in {s p : Int} (h : 1 ≤ p ∧ p ≤ 9999) : idxP s p < 9999 ∧ ∀ k : Nat, k < 9999 → (p = prZ s k ↔ k = idxP s p) := by
  unfold idxP prZ
  split
  · exact ⟨by omega, fun k hk => by omega⟩
  · exact ⟨by omega, fun k hk => by omega⟩
def qs (os : List OZ) : Int := os.foldl (fun a o => a + o.q) 0
theorem qs_snoc (os : List OZ) (x : OZ) : qs (os ++ [x]) = qs os + x.q := by unfold qs; rw [List.foldl_append]; rfl
theorem at_z {p : Int} {os : List OZ} (h : ¬ 0 < (atZ p os).o) : atZ p os = ⟨p, 0, 0⟩ := by
  revert h
  refine snoc_ind (m := fun os => ¬ 0 < (atZ p os).o → atZ p os = ⟨p, 0, 0⟩) (fun _ => rfl) (fun l x ih hx => ?_) os
  rw [at_snoc] at hx ⊢
  unfold addL at hx ⊢
  have := (at_o p l).1
  by_cases e : x.p = p
  · rw [if_pos e] at hx; simp only at hx; omega
  · rw [if_neg e] at hx ⊢; exact ih hx
theorem lev_sums (s : Int) {os : List OZ} (h : ∀ o ∈ os, 1 ≤ o.p ∧ o.p ≤ 9999 ∧ 0 ≤ o.q ∧ o.q ≤ 9999) : sumL (levelsZ s os) = qs os ∧ cntL (levelsZ s os) = os.length := by
  obtain ⟨h1, h2⟩ := lev_to s os
  rw [h1, h2]
  clear h1 h2
  have e : sumTo (fun k => if 0 < (atZ (prZ s k) os).o then (atZ (prZ s k) os).l else 0) 9999 = sumTo (fun k => (atZ (prZ s k) os).l) 9999 := sum_same fun k hk => by
    by_cases hp : 0 < (atZ (prZ s k) os).o
    · rw [if_pos hp]
    · rw [if_neg hp, at_z hp]
  rw [e]
  clear e
  revert h
  refine snoc_ind (m := fun os => (∀ o ∈ os, 1 ≤ o.p ∧ o.p ≤ 9999 ∧ 0 ≤ o.q ∧ o.q ≤ 9999) → sumTo (fun k => (atZ (prZ s k) os).l) 9999 = qs os ∧ sumTo (fun k => (atZ (prZ s k) os).o) 9999 = os.length) (fun _ => ?_) (fun l x ih h => ?_) os
  · have z1 : ∀ n, sumTo (fun k => (atZ (prZ s k) []).l) n = 0 := fun n => by
      induction n with
      | zero => rfl
      | succ n ih => simp only [sumTo, ih]; rfl
    have z2 : ∀ n, sumTo (fun k => (atZ (prZ s k) []).o) n = 0 := fun n => by
      induction n with
      | zero => rfl
      | succ n ih => simp only [sumTo, ih]; rfl
    exact ⟨z1 _, z2 _⟩
  · obtain ⟨i1, i2⟩ := ih fun o ho => h o (List.mem_append_left _ ho)
    have hx := h x (by simp)
    obtain ⟨a1, a2⟩ := idxP_in (s := s) (p := x.p) ⟨hx.1, hx.2.1⟩
    rw [qs_snoc, List.length_append, List.length_singleton, ← i1]
    constructor
    · have := sum_add (n := 9999) (f := fun k => (atZ (prZ s k) l).l) (g := fun k => (atZ (prZ s k) (l ++ [x])).l) (q := x.q) (k0 := idxP s x.p) fun k hk => by
        rw [at_snoc]; unfold addL
        by_cases e : k = idxP s x.p
        · rw [if_pos ((a2 k hk).2 e), if_pos e]
        · rw [if_neg (fun q => e ((a2 k hk).1 q)), if_neg e]; omega
      rw [this, if_pos a1]
    · have := sum_add (n := 9999) (f := fun k => (atZ (prZ s k) l).o) (g := fun k => (atZ (prZ s k) (l ++ [x])).o) (q := 1) (k0 := idxP s x.p) fun k hk => by
        rw [at_snoc]; unfold addL
        by_cases e : k = idxP s x.p
        · rw [if_pos ((a2 k hk).2 e), if_pos e]
        · rw [if_neg (fun q => e ((a2 k hk).1 q)), if_neg e]; omega
      rw [this, if_pos a1, i2]; simp
/-- What a name's side has. -/
def leftA (n s : Int) (a : Int) (o : OZ) : Int := if o.n = n ∧ o.s = s then a + o.q else a
def cntA (n s : Int) (a : Int) (o : OZ) : Int := if o.n = n ∧ o.s = s then a + 1 else a
def leftZ (n s : Int) (l : List OZ) : Int := l.foldl (leftA n s) 0
def cntZ (n s : Int) (l : List OZ) : Int := l.foldl (cntA n s) 0
theorem left_snoc (n s : Int) (l : List OZ) (x : OZ) : leftZ n s (l ++ [x]) = leftA n s (leftZ n s l) x := by unfold leftZ; rw [List.foldl_append]; rfl
theorem cnt_snoc (n s : Int) (l : List OZ) (x : OZ) : cntZ n s (l ++ [x]) = cntA n s (cntZ n s l) x := by unfold cntZ; rw [List.foldl_append]; rfl
theorem left_is (n s : Int) (l : List OZ) : qs (keepZ (prA n s) l) = leftZ n s l ∧ (((keepZ (prA n s) l).length : Nat) : Int) = cntZ n s l := by
  refine snoc_ind (m := fun l => qs (keepZ (prA n s) l) = leftZ n s l ∧ (((keepZ (prA n s) l).length : Nat) : Int) = cntZ n s l) ⟨rfl, rfl⟩ (fun l x ih => ?_) l
  rw [left_snoc, cnt_snoc, ← ih.1, ← ih.2]
  unfold keepZ leftA cntA
  rw [List.filter_append]
  by_cases h : x.n = n ∧ x.s = s
  · have e : [x].filter (fun o => !prA n s o) = [x] := by simp [prA, h.1, h.2]
    rw [e, qs_snoc, if_pos h, if_pos h, List.length_append]
    exact ⟨rfl, by simp⟩
  · have e : [x].filter (fun o => !prA n s o) = [] := by
      have : prA n s x = true := decide_eq_true (by omega)
      simp [this]
    rw [e, List.append_nil, if_neg h, if_neg h]
    exact ⟨rfl, rfl⟩
theorem left_bnd (n s : Int) {l : List OZ} (h : ∀ o ∈ l, 1 ≤ o.p ∧ o.p ≤ 9999 ∧ 0 ≤ o.q ∧ o.q ≤ 9999) : 0 ≤ leftZ n s l ∧ leftZ n s l ≤ 9999 * l.length ∧ 0 ≤ cntZ n s l ∧ cntZ n s l ≤ l.length := by
  revert h
  refine snoc_ind (m := fun l => (∀ o ∈ l, 1 ≤ o.p ∧ o.p ≤ 9999 ∧ 0 ≤ o.q ∧ o.q ≤ 9999) → 0 ≤ leftZ n s l ∧ leftZ n s l ≤ 9999 * l.length ∧ 0 ≤ cntZ n s l ∧ cntZ n s l ≤ l.length) (fun _ => by simp [leftZ, cntZ]) (fun l x ih h => ?_) l
  have h1 := ih fun o ho => h o (List.mem_append_left _ ho)
  have h2 := h x (by simp)
  rw [left_snoc, cnt_snoc, List.length_append, List.length_singleton]
  unfold leftA cntA
  split <;> omega
/-- What a side of a shard has. -/
def shSide (s c d : Int) (l : List OZ) (k : Nat) : Int := if s = 0 then (shardsZ c d k l).1.l else (shardsZ c d k l).2.l
theorem band_bt {d p : Int} (hd : 1 ≤ d) (h : 1 ≤ p ∧ p ≤ 9999) : 0 ≤ bandZ d p ∧ bandZ d p < d := by
  unfold bandZ
  rw [if_neg (by omega)]
  refine ⟨Int.ediv_nonneg (Int.mul_nonneg (by omega) (by omega)) (by omega), Int.ediv_lt_of_lt_mul (by omega) ?_⟩
  rw [Int.mul_comm]
  exact Int.mul_lt_mul_of_pos_left (by omega) (by omega)
theorem shs_in {c d s : Int} (hs : s = 0 ∨ s = 1) {l : List OZ} {x : OZ} {k : Nat} (h : shardZ c d x.n (bandZ d x.p) = (k : Int)) (hx : x.s = s) : shSide s c d (l ++ [x]) k = shSide s c d l k + x.q := by
  rcases hs with rfl | rfl
  · have e0 : ∀ l, shSide 0 c d l k = (shardsZ c d k l).1.l := fun _ => if_pos rfl
    rw [e0, e0, shards_snoc]; unfold shStep accL
    rw [if_neg (by rw [h, hx]; simp), if_pos hx]
  · have e0 : ∀ l, shSide 1 c d l k = (shardsZ c d k l).2.l := fun _ => if_neg (by decide)
    rw [e0, e0, shards_snoc]; unfold shStep accL
    rw [if_neg (by rw [h, hx]; simp), if_neg (by rw [hx]; decide)]
theorem shs_out {c d s : Int} (hs : s = 0 ∨ s = 1) {l : List OZ} {x : OZ} {k : Nat} (h : shardZ c d x.n (bandZ d x.p) ≠ (k : Int) ∨ x.s ≠ s) : shSide s c d (l ++ [x]) k = shSide s c d l k := by
  rcases hs with rfl | rfl
  · have e0 : ∀ l, shSide 0 c d l k = (shardsZ c d k l).1.l := fun _ => if_pos rfl
    rw [e0, e0, shards_snoc]; unfold shStep accL
    split
    · rfl
    · rename_i hn
      split
      · rename_i h0; exact absurd h0 (by rcases h with h | h; exact fun _ => hn (.inl h); exact h)
      · rfl
  · have e0 : ∀ l, shSide 1 c d l k = (shardsZ c d k l).2.l := fun _ => if_neg (by decide)
    rw [e0, e0, shards_snoc]; unfold shStep accL
    split
    · rfl
    · rename_i hn
      split
      · rfl
      · rename_i h0
        exfalso
        rcases h with h | h
        · exact hn (.inl h)
        · exact hn (by omega)
theorem shard_sums {c d s : Int} (hc : 1 ≤ c) (hd : 1 ≤ d) (hs : s = 0 ∨ s = 1) {l : List OZ} (h : ∀ o ∈ l, 1 ≤ o.p ∧ o.p ≤ 9999 ∧ 0 ≤ o.q ∧ o.q ≤ 9999) : sumTo (shSide s c d l) (c * d).toNat = sumTo (fun n => leftZ n s l) c.toNat := by
  revert h
  refine snoc_ind (m := fun l => (∀ o ∈ l, 1 ≤ o.p ∧ o.p ≤ 9999 ∧ 0 ≤ o.q ∧ o.q ≤ 9999) → sumTo (shSide s c d l) (c * d).toNat = sumTo (fun n => leftZ n s l) c.toNat) (fun _ => ?_) (fun l x ih h => ?_) l
  · have z1 : ∀ n, sumTo (shSide s c d []) n = 0 := fun n => by
      induction n with
      | zero => rfl
      | succ n ih =>
        simp only [sumTo, ih, shSide]
        split <;> rfl
    have z2 : ∀ m, sumTo (fun n => leftZ n s []) m = 0 := fun m => by
      induction m with
      | zero => rfl
      | succ n ih => simp only [sumTo, ih]; rfl
    rw [z1, z2]
  · have hx := h x (by simp)
    have ih := ih fun o ho => h o (List.mem_append_left _ ho)
    obtain ⟨b1, b2⟩ := band_bt hd ⟨hx.1, hx.2.1⟩
    by_cases hg : x.s = s ∧ 0 ≤ x.n ∧ x.n < c
    · obtain ⟨g1, g2, g3⟩ := hg
      have hsh : shardZ c d x.n (bandZ d x.p) = x.n * d + bandZ d x.p := by unfold shardZ; rw [if_neg (by omega)]
      have p0 : 0 ≤ x.n * d := Int.mul_nonneg g2 (by omega)
      have p1 : x.n * d + d ≤ c * d := by
        have := Int.mul_le_mul_of_nonneg_right (show x.n + 1 ≤ c by omega) (show 0 ≤ d by omega)
        rw [Int.add_mul, Int.one_mul] at this
        exact this
      rw [sum_add (f := shSide s c d l) (q := x.q) (k0 := (x.n * d + bandZ d x.p).toNat) (n := (c * d).toNat) fun k hk => ?_, sum_add (f := fun n => leftZ n s l) (q := x.q) (k0 := x.n.toNat) (n := c.toNat) fun k hk => ?_, ih, if_pos (show (x.n * d + bandZ d x.p).toNat < (c * d).toNat by generalize x.n * d = u at *; generalize c * d = v at *; omega), if_pos (by omega)]
      · rw [left_snoc]; unfold leftA
        by_cases e : k = x.n.toNat
        · rw [if_pos ⟨by omega, g1⟩, if_pos e]
        · rw [if_neg (by omega), if_neg e]; omega
      · by_cases e : k = (x.n * d + bandZ d x.p).toNat
        · rw [shs_in hs (by rw [hsh]; omega) g1, if_pos e]
        · rw [shs_out hs (.inl (by rw [hsh]; omega)), if_neg e]; omega
    · have e1 : sumTo (shSide s c d (l ++ [x])) (c * d).toNat = sumTo (shSide s c d l) (c * d).toNat := sum_same fun k hk => shs_out hs (by
        by_cases e : shardZ c d x.n (bandZ d x.p) = (k : Int)
        · have hn : 0 ≤ x.n ∧ x.n < c := by
            unfold shardZ at e
            split at e <;> omega
          exact .inr fun q => hg ⟨q, hn⟩
        · exact .inl e)
      have e2 : sumTo (fun n => leftZ n s (l ++ [x])) c.toNat = sumTo (fun n => leftZ n s l) c.toNat := sum_same fun k hk => by
        rw [left_snoc]; unfold leftA
        rw [if_neg (by omega)]
      rw [e1, e2, ih]
theorem lev_sorted (s : Int) (os : List OZ) : (levelsZ s os).Pairwise fun x y => betterZ s x.p y.p = true := by
  unfold levelsZ
  refine List.Pairwise.filterMap _ (fun a b hab x hx y hy => ?_) List.pairwise_lt_range
  split at hx
  · split at hy
    · injection hx with hx
      injection hy with hy
      rw [← hx, ← hy, at_p, at_p]
      unfold betterZ prZ
      split <;> simp <;> omega
    · cases hy
  · cases hx
theorem best_ok {s : Int} {os : List OZ} {x : LZ} (h : x ∈ levelsZ s os) : ¬ (s = 0 ∧ (bestZ (levelsZ s os)).1 < x.p) ∧ ¬ (s = 1 ∧ x.p < (bestZ (levelsZ s os)).1) := by
  have hp := lev_sorted s os
  cases hL : levelsZ s os with
  | nil => rw [hL] at h; simp at h
  | cons y t =>
    rw [hL] at h hp
    rw [List.pairwise_cons] at hp
    simp only [bestZ]
    rcases List.mem_cons.1 h with rfl | h
    · omega
    · have := hp.1 x h
      unfold betterZ at this
      split at this <;> simp at this <;> omega
end Go.W
