/- A part of the proof (BbH). -/
import Derived.Test.YtfkdcpgphindiaaBbG
import Derived.Test.YtfkdcpgphindiaaPsJ
namespace Go.W
open Go.Proofs
set_option linter.unusedSimpArgs false
set_option linter.unusedVariables false
set_option maxHeartbeats 8000000
attribute [local irreducible] Wm
attribute [local simp] nmap lkp mkPl prs prsL prT ddL idL CRenL CRen Ren RenL NObj.none CRenLL

def accL (s : Int) (x : LZ) (o : OZ) : LZ := ⟨if x.p = 0 ∨ betterZ s o.p x.p = true then o.p else x.p, x.l + o.q, x.o + 1⟩
def shStep (c d sh : Int) (st : LZ × LZ) (o : OZ) : LZ × LZ := if shardZ c d o.n (bandZ d o.p) ≠ sh ∨ o.s < 0 ∨ 1 < o.s then st else if o.s = 0 then (accL 0 st.1 o, st.2) else (st.1, accL 1 st.2 o)
/-- WHAT WAITS IN A SHARD, on both sides. -/
def shardsZ (c d sh : Int) (os : List OZ) : LZ × LZ := os.foldl (shStep c d sh) (⟨0, 0, 0⟩, ⟨0, 0, 0⟩)
theorem shards_snoc (c d sh : Int) (os : List OZ) (o : OZ) : shardsZ c d sh (os ++ [o]) = shStep c d sh (shardsZ c d sh os) o := by unfold shardsZ; rw [List.foldl_append]; rfl
theorem shards_bnd (c d sh : Int) {os : List OZ} (h : ∀ o ∈ os, 1 ≤ o.p ∧ o.p ≤ 9999 ∧ 0 ≤ o.q ∧ o.q ≤ 9999) : (0 ≤ (shardsZ c d sh os).1.l ∧ (shardsZ c d sh os).1.l ≤ 9999 * os.length ∧ 0 ≤ (shardsZ c d sh os).1.o ∧ (shardsZ c d sh os).1.o ≤ os.length) ∧ (0 ≤ (shardsZ c d sh os).2.l ∧ (shardsZ c d sh os).2.l ≤ 9999 * os.length ∧ 0 ≤ (shardsZ c d sh os).2.o ∧ (shardsZ c d sh os).2.o ≤ os.length) := by
  revert h
  refine snoc_ind (m := fun os => (∀ o ∈ os, 1 ≤ o.p ∧ o.p ≤ 9999 ∧ 0 ≤ o.q ∧ o.q ≤ 9999) → (0 ≤ (shardsZ c d sh os).1.l ∧ (shardsZ c d sh os).1.l ≤ 9999 * os.length ∧ 0 ≤ (shardsZ c d sh os).1.o ∧ (shardsZ c d sh os).1.o ≤ os.length) ∧ (0 ≤ (shardsZ c d sh os).2.l ∧ (shardsZ c d sh os).2.l ≤ 9999 * os.length ∧ 0 ≤ (shardsZ c d sh os).2.o ∧ (shardsZ c d sh os).2.o ≤ os.length)) (fun _ => by simp [shardsZ]) (fun l x ih h => ?_) os
  have h1 := ih fun o ho => h o (List.mem_append_left _ ho)
  have h2 := h x (by simp)
  rw [shards_snoc, List.length_append, List.length_singleton]
  generalize shardsZ c d sh l = st at h1
  unfold shStep accL
  split
  · omega
  · split
    · simp only; omega
    · simp only; omega
def I10 (a b c d e f g sh : Int) (l : List OZ) (k : Nat) : St := ⟨[(1, .int .i64 sh), (2, .ptr (.top 1) 0 0), (4, .ptr (.top 2) 0 0), (5, .ptr (.top 3) 0 0), (10, .sl (.top 0) 0 l.length), (11, .int .i64 l.length), (12, .int .i64 k)], [(0, .view 0 7 (ozLL l)), (1, .cells 0 [.int .i64 a, .int .i64 b, .int .i64 c, .int .i64 d, .int .i64 e, .int .i64 f, .int .i64 g, .sl (.top 0) 0 l.length]), (2, .cells 0 [.int .i64 0, .int .i64 0, .int .i64 0, .int .i64 0, .int .i64 0, .int .i64 0]), (3, .cells 0 [.int .i64 (shardsZ c d sh (l.take k)).1.p, .int .i64 (shardsZ c d sh (l.take k)).1.l, .int .i64 (shardsZ c d sh (l.take k)).1.o, .int .i64 (shardsZ c d sh (l.take k)).2.p, .int .i64 (shardsZ c d sh (l.take k)).2.l, .int .i64 (shardsZ c d sh (l.take k)).2.o])], 4⟩

def d10 : List AV → List NObj → Option AV
  | [.agg [.int .i64 a, .int .i64 b, .int .i64 c, .int .i64 d, .int .i64 e, .int .i64 f, .int .i64 g, .sl (.top 0) 0 n], .int .i64 sh], [.view 0 7 els] => (match mapV ozOf els with
    | some l => if n = els.length ∧ okO l = true ∧ True ∧ cfgB a b c d e f g = true then some (.agg [.int .i64 (shardsZ c d sh l).1.p, .int .i64 (shardsZ c d sh l).1.l, .int .i64 (shardsZ c d sh l).1.o, .int .i64 (shardsZ c d sh l).2.p, .int .i64 (shardsZ c d sh l).2.l, .int .i64 (shardsZ c d sh l).2.o]) else none
    | none => none)
  | _, _ => none
theorem ok10 : ROk d10 := by
  intro xs os r h
  unfold d10 at h
  split at h
  · split at h
    · split at h
      · injection h with h; subst h; simp
      · cases h
    · cases h
  · cases h
theorem s10 : Sound Try.prog 10 (rdS d10 ok10) := by
  refine rd_sound Try.func10 nm10 rc10 rv10 ok10 fun xs os r h vs ρ0 hvs => ⟨xs, ?_, fun _ h => h, fun w0 S hS => ?_⟩
  · unfold d10 at h
    (repeat' (split at h)) <;> first | (cases h; done) | exact Nat.le_of_ble_eq_true rfl
  unfold d10 at h
  split at h
  · rename_i a b c d e f g n sh els
    split at h
    · rename_i l hml
      obtain rfl := mapV_ex (g := ozC) (fun _ _ => ozOf_ex) hml
      clear hml
      split at h
      · rename_i hcond
        injection h with h
        subst h
        obtain ⟨rfl, hok, hcf⟩ := hcond
        simp only [oz_map, oz_len] at hvs hS ⊢
        have hlen := (okO_ex hok).1
        have hob := (okO_ex hok).2
        have hE : SoundAll Try.prog (EL [(27, rdS d27 ok27), (28, rdS d28 ok28)]) := EL_sound (by simp only [List.mem_cons, List.not_mem_nil, or_false, forall_eq_or_imp, forall_eq]; exact ⟨s27, s28⟩)
        have hl := oz_len l
        have hD := oz_dat l
        have hT := oz_t0 l
        have hC := oz_cl l
        have hk : (ozLL l).take l.length = ozLL l := List.take_of_length_le (by rw [hl]; exact Nat.le_refl _)
        have hm : mapV ozOf (ozLL l) = some l := mapV_map (f := ozOf) (g := ozC) ozOf_C l
        unfold m10
        repeat' with_reducible (first
          | refine ZR.h ?_ | refine zI (by decide) ?_
          | ((first | refine zK hE ?_ | refine zL hE mixT ?_); intro K hK; simp [KR.ks, KD.ks, KD.cl, q10_0, q10_1, q10_2, q10_3, q10_4, q10_5, q10_6, q10_7, q10_8, q10_9, q10_10, q10_11, q10_12, hD, hl, hT, hC]; (repeat' (first | refine hK _ _ ?_ | refine And.intro ?_ ?_ | (intro hc; try subst hc))) <;> (try clear hK K))
          | (refine zJ (b := _) (by with_unfolding_all rfl) (fun hc => ?_) (fun hc => ?_) <;> simp at hc <;> (try subst hc)))
        all_goals (refine Wm_loop (fun k => I10 a b c d e f g sh l k) (fun k => k ≤ l.length) (fun k => l.length - k) 0 (Nat.zero_le _) ?_ ?_)
        · simp only [I10, List.take_zero]
          rw [hS]
          (refine Imp.auto (by kernel_rfl) ?_ ?_ <;> simp [NLe, mkPlX, hT, hC, hl, shardsZ])
        rintro k hkl
        (try simp only at hkl)
        simp only [I10]
        by_cases hlt : k < l.length
        · obtain ⟨x, hx⟩ : ∃ x, l[k]? = some x := ⟨_, List.getElem?_eq_getElem hlt⟩
          obtain ⟨hg, hge⟩ := oz_at hx
          have hki : (k : Int) < (l.length : Int) := by omega
          have ww : IntKind.wrap .i64 ((k : Int) + 1) = (k : Int) + 1 := wrap_in (by omega) (by omega)
          have hstep : shardsZ c d sh (l.take (k + 1)) = shStep c d sh (shardsZ c d sh (l.take k)) x := by rw [take_snoc hx, shards_snoc]
          have hq := hob x (List.mem_of_getElem? hx)
          have hbd := shards_bnd c d sh (os := l.take k) fun o ho => hob o (List.mem_of_mem_take ho)
          rw [List.length_take, Nat.min_eq_left hkl] at hbd
          have h27 : d27 [.agg [.int .i64 a, .int .i64 b, .int .i64 c, .int .i64 d, .int .i64 e, .int .i64 f, .int .i64 g], .agg [.int .i64 x.n, .int .i64 x.s, .int .i64 x.p, .int .i64 x.l, .int .i64 x.u]] [] = some (.int .i64 (shardZ c d x.n (bandZ d x.p))) := by
            simp only [d27]; rw [if_pos hcf.2]
          generalize shardsZ c d sh (l.take k) = st at hstep hbd ⊢
          obtain ⟨x0, x1⟩ := st
          simp only at hstep hbd ⊢
          have w1 : IntKind.wrap .i64 (x0.l + x.q) = x0.l + x.q := wrap_in (by omega) (by omega)
          have w2 : IntKind.wrap .i64 (x0.o + 1) = x0.o + 1 := wrap_in (by omega) (by omega)
          have w3 : IntKind.wrap .i64 (x1.l + x.q) = x1.l + x.q := wrap_in (by omega) (by omega)
          have w4 : IntKind.wrap .i64 (x1.o + 1) = x1.o + 1 := wrap_in (by omega) (by omega)
          simp only [ozC] at hg hge
          have hb1 : True := trivial
          have hb2 : True := trivial
          by_cases hsh : shardZ c d x.n (bandZ d x.p) = sh
          · by_cases hneg : x.s < 0
            ·
              have hst : shardsZ c d sh (l.take (k + 1)) = (x0, x1) := by rw [hstep]; simp [shStep, accL, hsh, hneg]
              repeat' with_reducible (first
                | refine ZR.h ?_ | refine zI (by decide) ?_
                | ((first | refine zK hE ?_ | refine zL hE mixT ?_); intro K hK; simp [KR.ks, KD.ks, KD.cl, q10_0, q10_1, q10_2, q10_3, q10_4, q10_5, q10_6, q10_7, q10_8, q10_9, q10_10, q10_11, q10_12, hD, hl, hlt, hki, hg, hge, ww, h27, w1, w2, w3, w4, hb1, hb2, hsh, hneg]; (repeat' (first | refine hK _ _ ?_ | refine And.intro ?_ ?_ | (intro hc; try subst hc))) <;> (try clear hK K))
                | (refine zJ (b := _) (by with_unfolding_all rfl) (fun hc => ?_) (fun hc => ?_) <;> simp at hc <;> (try subst hc)))
              all_goals first | (exfalso; omega) | skip
              all_goals refine ⟨k + 1, hlt, Nat.sub_lt_sub_left hlt (Nat.lt_succ_self k), ?_⟩
              all_goals simp only [I10, hst]
              all_goals rw [hS]
              all_goals (refine Imp.auto (by kernel_rfl) ?_ ?_ <;> simp [NLe, mkPlX, hT, hC, hl])
            · by_cases hgt : 1 < x.s
              ·
                have hst : shardsZ c d sh (l.take (k + 1)) = (x0, x1) := by rw [hstep]; simp [shStep, accL, hsh, hneg, hgt]
                repeat' with_reducible (first
                  | refine ZR.h ?_ | refine zI (by decide) ?_
                  | ((first | refine zK hE ?_ | refine zL hE mixT ?_); intro K hK; simp [KR.ks, KD.ks, KD.cl, q10_0, q10_1, q10_2, q10_3, q10_4, q10_5, q10_6, q10_7, q10_8, q10_9, q10_10, q10_11, q10_12, hD, hl, hlt, hki, hg, hge, ww, h27, w1, w2, w3, w4, hb1, hb2, hsh, hneg, hgt]; (repeat' (first | refine hK _ _ ?_ | refine And.intro ?_ ?_ | (intro hc; try subst hc))) <;> (try clear hK K))
                  | (refine zJ (b := _) (by with_unfolding_all rfl) (fun hc => ?_) (fun hc => ?_) <;> simp at hc <;> (try subst hc)))
                all_goals first | (exfalso; omega) | skip
                all_goals refine ⟨k + 1, hlt, Nat.sub_lt_sub_left hlt (Nat.lt_succ_self k), ?_⟩
                all_goals simp only [I10, hst]
                all_goals rw [hS]
                all_goals (refine Imp.auto (by kernel_rfl) ?_ ?_ <;> simp [NLe, mkPlX, hT, hC, hl])
              · have hs01 : x.s = 0 ∨ x.s = 1 := by omega
                rcases hs01 with hsd | hsd
                · clear hneg hgt
                  rw [hsd] at hg hge h27
                  have hb1 : betterZ 0 x.p x0.p = betterZ 0 x.p x0.p := rfl
                  have hb2 : d28 [.int .i64 0, .int .i64 x.p, .int .i64 x0.p] [] = some (.bool (betterZ 0 x.p x0.p)) := rfl
                  by_cases hz : x0.p = 0
                  ·
                    have hst : shardsZ c d sh (l.take (k + 1)) = (⟨x.p, x0.l + x.q, x0.o + 1⟩, x1) := by rw [hstep]; simp [shStep, accL, h27, hsh, hsd, hz]
                    repeat' with_reducible (first
                      | refine ZR.h ?_ | refine zI (by decide) ?_
                      | ((first | refine zK hE ?_ | refine zL hE mixT ?_); intro K hK; simp [KR.ks, KD.ks, KD.cl, q10_0, q10_1, q10_2, q10_3, q10_4, q10_5, q10_6, q10_7, q10_8, q10_9, q10_10, q10_11, q10_12, hD, hl, hlt, hki, hg, hge, ww, h27, w1, w2, w3, w4, hb1, hb2, h27, hsh, hsd, hz]; (repeat' (first | refine hK _ _ ?_ | refine And.intro ?_ ?_ | (intro hc; try subst hc))) <;> (try clear hK K))
                      | (refine zJ (b := _) (by with_unfolding_all rfl) (fun hc => ?_) (fun hc => ?_) <;> simp at hc <;> (try subst hc)))
                    all_goals first | (exfalso; omega) | skip
                    all_goals refine ⟨k + 1, hlt, Nat.sub_lt_sub_left hlt (Nat.lt_succ_self k), ?_⟩
                    all_goals simp only [I10, hst]
                    all_goals rw [hS]
                    all_goals (refine Imp.auto (by kernel_rfl) ?_ ?_ <;> simp [NLe, mkPlX, hT, hC, hl])
                  · by_cases hbt : betterZ 0 x.p x0.p = true
                    ·
                      have hst : shardsZ c d sh (l.take (k + 1)) = (⟨x.p, x0.l + x.q, x0.o + 1⟩, x1) := by rw [hstep]; simp [shStep, accL, h27, hsh, hsd, hz, hbt]
                      repeat' with_reducible (first
                        | refine ZR.h ?_ | refine zI (by decide) ?_
                        | ((first | refine zK hE ?_ | refine zL hE mixT ?_); intro K hK; simp [KR.ks, KD.ks, KD.cl, q10_0, q10_1, q10_2, q10_3, q10_4, q10_5, q10_6, q10_7, q10_8, q10_9, q10_10, q10_11, q10_12, hD, hl, hlt, hki, hg, hge, ww, h27, w1, w2, w3, w4, hb1, hb2, h27, hsh, hsd, hz, hbt]; (repeat' (first | refine hK _ _ ?_ | refine And.intro ?_ ?_ | (intro hc; try subst hc))) <;> (try clear hK K))
                        | (refine zJ (b := _) (by with_unfolding_all rfl) (fun hc => ?_) (fun hc => ?_) <;> simp at hc <;> (try subst hc)))
                      all_goals first | (exfalso; omega) | skip
                      all_goals refine ⟨k + 1, hlt, Nat.sub_lt_sub_left hlt (Nat.lt_succ_self k), ?_⟩
                      all_goals simp only [I10, hst]
                      all_goals rw [hS]
                      all_goals (refine Imp.auto (by kernel_rfl) ?_ ?_ <;> simp [NLe, mkPlX, hT, hC, hl])
                    · have hbt : betterZ 0 x.p x0.p = false := by simpa using hbt
                      have hst : shardsZ c d sh (l.take (k + 1)) = (⟨x0.p, x0.l + x.q, x0.o + 1⟩, x1) := by rw [hstep]; simp [shStep, accL, h27, hsh, hsd, hz, hbt]
                      repeat' with_reducible (first
                        | refine ZR.h ?_ | refine zI (by decide) ?_
                        | ((first | refine zK hE ?_ | refine zL hE mixT ?_); intro K hK; simp [KR.ks, KD.ks, KD.cl, q10_0, q10_1, q10_2, q10_3, q10_4, q10_5, q10_6, q10_7, q10_8, q10_9, q10_10, q10_11, q10_12, hD, hl, hlt, hki, hg, hge, ww, h27, w1, w2, w3, w4, hb1, hb2, h27, hsh, hsd, hz, hbt]; (repeat' (first | refine hK _ _ ?_ | refine And.intro ?_ ?_ | (intro hc; try subst hc))) <;> (try clear hK K))
                        | (refine zJ (b := _) (by with_unfolding_all rfl) (fun hc => ?_) (fun hc => ?_) <;> simp at hc <;> (try subst hc)))
                      all_goals first | (exfalso; omega) | skip
                      all_goals refine ⟨k + 1, hlt, Nat.sub_lt_sub_left hlt (Nat.lt_succ_self k), ?_⟩
                      all_goals simp only [I10, hst]
                      all_goals rw [hS]
                      all_goals (refine Imp.auto (by kernel_rfl) ?_ ?_ <;> simp [NLe, mkPlX, hT, hC, hl])
                · clear hneg hgt
                  rw [hsd] at hg hge h27
                  have hb1 : betterZ 1 x.p x1.p = betterZ 1 x.p x1.p := rfl
                  have hb2 : d28 [.int .i64 1, .int .i64 x.p, .int .i64 x1.p] [] = some (.bool (betterZ 1 x.p x1.p)) := rfl
                  by_cases hz : x1.p = 0
                  ·
                    have hst : shardsZ c d sh (l.take (k + 1)) = (x0, ⟨x.p, x1.l + x.q, x1.o + 1⟩) := by rw [hstep]; simp [shStep, accL, h27, hsh, hsd, hz]
                    repeat' with_reducible (first
                      | refine ZR.h ?_ | refine zI (by decide) ?_
                      | ((first | refine zK hE ?_ | refine zL hE mixT ?_); intro K hK; simp [KR.ks, KD.ks, KD.cl, q10_0, q10_1, q10_2, q10_3, q10_4, q10_5, q10_6, q10_7, q10_8, q10_9, q10_10, q10_11, q10_12, hD, hl, hlt, hki, hg, hge, ww, h27, w1, w2, w3, w4, hb1, hb2, h27, hsh, hsd, hz]; (repeat' (first | refine hK _ _ ?_ | refine And.intro ?_ ?_ | (intro hc; try subst hc))) <;> (try clear hK K))
                      | (refine zJ (b := _) (by with_unfolding_all rfl) (fun hc => ?_) (fun hc => ?_) <;> simp at hc <;> (try subst hc)))
                    all_goals first | (exfalso; omega) | skip
                    all_goals refine ⟨k + 1, hlt, Nat.sub_lt_sub_left hlt (Nat.lt_succ_self k), ?_⟩
                    all_goals simp only [I10, hst]
                    all_goals rw [hS]
                    all_goals (refine Imp.auto (by kernel_rfl) ?_ ?_ <;> simp [NLe, mkPlX, hT, hC, hl])
                  · by_cases hbt : betterZ 1 x.p x1.p = true
                    ·
                      have hst : shardsZ c d sh (l.take (k + 1)) = (x0, ⟨x.p, x1.l + x.q, x1.o + 1⟩) := by rw [hstep]; simp [shStep, accL, h27, hsh, hsd, hz, hbt]
                      repeat' with_reducible (first
                        | refine ZR.h ?_ | refine zI (by decide) ?_
                        | ((first | refine zK hE ?_ | refine zL hE mixT ?_); intro K hK; simp [KR.ks, KD.ks, KD.cl, q10_0, q10_1, q10_2, q10_3, q10_4, q10_5, q10_6, q10_7, q10_8, q10_9, q10_10, q10_11, q10_12, hD, hl, hlt, hki, hg, hge, ww, h27, w1, w2, w3, w4, hb1, hb2, h27, hsh, hsd, hz, hbt]; (repeat' (first | refine hK _ _ ?_ | refine And.intro ?_ ?_ | (intro hc; try subst hc))) <;> (try clear hK K))
                        | (refine zJ (b := _) (by with_unfolding_all rfl) (fun hc => ?_) (fun hc => ?_) <;> simp at hc <;> (try subst hc)))
                      all_goals first | (exfalso; omega) | skip
                      all_goals refine ⟨k + 1, hlt, Nat.sub_lt_sub_left hlt (Nat.lt_succ_self k), ?_⟩
                      all_goals simp only [I10, hst]
                      all_goals rw [hS]
                      all_goals (refine Imp.auto (by kernel_rfl) ?_ ?_ <;> simp [NLe, mkPlX, hT, hC, hl])
                    · have hbt : betterZ 1 x.p x1.p = false := by simpa using hbt
                      have hst : shardsZ c d sh (l.take (k + 1)) = (x0, ⟨x1.p, x1.l + x.q, x1.o + 1⟩) := by rw [hstep]; simp [shStep, accL, h27, hsh, hsd, hz, hbt]
                      repeat' with_reducible (first
                        | refine ZR.h ?_ | refine zI (by decide) ?_
                        | ((first | refine zK hE ?_ | refine zL hE mixT ?_); intro K hK; simp [KR.ks, KD.ks, KD.cl, q10_0, q10_1, q10_2, q10_3, q10_4, q10_5, q10_6, q10_7, q10_8, q10_9, q10_10, q10_11, q10_12, hD, hl, hlt, hki, hg, hge, ww, h27, w1, w2, w3, w4, hb1, hb2, h27, hsh, hsd, hz, hbt]; (repeat' (first | refine hK _ _ ?_ | refine And.intro ?_ ?_ | (intro hc; try subst hc))) <;> (try clear hK K))
                        | (refine zJ (b := _) (by with_unfolding_all rfl) (fun hc => ?_) (fun hc => ?_) <;> simp at hc <;> (try subst hc)))
                      all_goals first | (exfalso; omega) | skip
                      all_goals refine ⟨k + 1, hlt, Nat.sub_lt_sub_left hlt (Nat.lt_succ_self k), ?_⟩
                      all_goals simp only [I10, hst]
                      all_goals rw [hS]
                      all_goals (refine Imp.auto (by kernel_rfl) ?_ ?_ <;> simp [NLe, mkPlX, hT, hC, hl])
          ·
            have hst : shardsZ c d sh (l.take (k + 1)) = (x0, x1) := by rw [hstep]; simp [shStep, accL, hsh]
            repeat' with_reducible (first
              | refine ZR.h ?_ | refine zI (by decide) ?_
              | ((first | refine zK hE ?_ | refine zL hE mixT ?_); intro K hK; simp [KR.ks, KD.ks, KD.cl, q10_0, q10_1, q10_2, q10_3, q10_4, q10_5, q10_6, q10_7, q10_8, q10_9, q10_10, q10_11, q10_12, hD, hl, hlt, hki, hg, hge, ww, h27, w1, w2, w3, w4, hb1, hb2, hsh]; (repeat' (first | refine hK _ _ ?_ | refine And.intro ?_ ?_ | (intro hc; try subst hc))) <;> (try clear hK K))
              | (refine zJ (b := _) (by with_unfolding_all rfl) (fun hc => ?_) (fun hc => ?_) <;> simp at hc <;> (try subst hc)))
            all_goals first | (exfalso; omega) | skip
            all_goals refine ⟨k + 1, hlt, Nat.sub_lt_sub_left hlt (Nat.lt_succ_self k), ?_⟩
            all_goals simp only [I10, hst]
            all_goals rw [hS]
            all_goals (refine Imp.auto (by kernel_rfl) ?_ ?_ <;> simp [NLe, mkPlX, hT, hC, hl])
        · obtain rfl : k = l.length := by omega
          have hki : ¬ ((l.length : Int) < (l.length : Int)) := by omega
          rw [List.take_length]
          repeat' with_reducible (first
            | refine ZR.h ?_ | refine zI (by decide) ?_
            | ((first | refine zK hE ?_ | refine zL hE mixT ?_); intro K hK; simp [KR.ks, KD.ks, KD.cl, q10_0, q10_1, q10_2, q10_3, q10_4, q10_5, q10_6, q10_7, q10_8, q10_9, q10_10, q10_11, q10_12, hD, hl, hki]; (repeat' (first | refine hK _ _ ?_ | refine And.intro ?_ ?_ | (intro hc; try subst hc))) <;> (try clear hK K))
            | (refine zJ (b := _) (by with_unfolding_all rfl) (fun hc => ?_) (fun hc => ?_) <;> simp at hc <;> (try subst hc)))
          all_goals first | (simp; done) | (simp at *; omega) | ((try simp[hT, hC, hl]); refine Imp.auto (by kernel_rfl) ?_ ?_ <;> simp [NLe, hT, hC, hl])
      · cases h
    · cases h
  · cases h
end Go.W
