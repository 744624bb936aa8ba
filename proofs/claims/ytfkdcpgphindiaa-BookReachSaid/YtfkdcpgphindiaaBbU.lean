/- A part of the proof (BbU). -/
import Derived.Test.YtfkdcpgphindiaaBaD
namespace Go.W
open Go.Proofs
set_option linter.unusedSimpArgs false
set_option linter.unusedVariables false
set_option maxHeartbeats 8000000
attribute [local irreducible] Wm
attribute [local simp] nmap lkp mkPl prs prsL prT ddL idL CRenL CRen Ren RenL NObj.none CRenLL

theorem qty_cr (n p : Int) (l : List OZ) : qtyP n p l = lessI (crAt n p l).b (crAt n p l).s := by
  obtain ⟨h1, h2, _⟩ := crAt_is n p l
  rw [h1, h2]; rfl
theorem crAt_bnd (n p : Int) {l : List OZ} (h : ∀ o ∈ l, 1 ≤ o.p ∧ o.p ≤ 9999 ∧ 0 ≤ o.q ∧ o.q ≤ 9999) : 0 ≤ (crAt n p l).b ∧ (crAt n p l).b ≤ 9999 * l.length ∧ 0 ≤ (crAt n p l).s ∧ (crAt n p l).s ≤ 9999 * l.length := by
  obtain ⟨h1, h2, _⟩ := crAt_is n p l
  have a := buy_bnd p (os := keepZ (prA n 0) l) fun o ho => h o (List.mem_filter.1 ho).1
  have b := sell_bnd p (os := keepZ (prA n 1) l) fun o ho => h o (List.mem_filter.1 ho).1
  have c1 := keep_len (prA n 0) l
  have c2 := keep_len (prA n 1) l
  rw [h1, h2]; omega
def d17 : List AV → List NObj → Option AV
  | [.sl (.top 0) 0 n, .int .i64 nn], [.view 0 7 els] => (match mapV ozOf els with
    | some l => if n = els.length ∧ okO l = true then some (.tup [.int .i64 (crossZ nn l).1, .int .i64 (crossZ nn l).2]) else none
    | none => none)
  | _, _ => none
theorem ok17 : ROk d17 := by
  intro xs os r h
  unfold d17 at h
  split at h
  · split at h
    · split at h
      · injection h with h; subst h; simp
      · cases h
    · cases h
  · cases h
def I17 (nn : Int) (l : List OZ) (k : Nat) : St := ⟨[(0, .sl (.top 0) 0 l.length), (1, .int .i64 nn), (6, .int .i64 (pxTo nn l k).1), (7, .int .i64 (pxTo nn l k).2), (8, .int .i64 ((k : Int) + 1))], [(0, .view 0 7 (ozLL l))], 1⟩
def I17b (nn : Int) (l : List OZ) (pr mo p : Int) (j : Nat) : St := ⟨[(0, .sl (.top 0) 0 l.length), (1, .int .i64 nn), (6, .int .i64 pr), (7, .int .i64 mo), (8, .int .i64 p), (9, .int .i64 (crAt nn p (l.take j)).b), (10, .int .i64 (crAt nn p (l.take j)).s), (11, .bool (crAt nn p (l.take j)).t), (12, .int .i64 j)], [(0, .view 0 7 (ozLL l))], 1⟩
theorem s17 : Sound Try.prog 17 (rdS d17 ok17) := by
  refine rd_sound Try.func17 nm17 rc17 rv17 ok17 fun xs os r h vs ρ0 hvs => ⟨xs, ?_, fun _ h => h, fun w0 S hS => ?_⟩
  · unfold d17 at h
    (repeat' (split at h)) <;> first | (cases h; done) | exact Nat.le_of_ble_eq_true rfl
  unfold d17 at h
  split at h
  · rename_i n nn els
    split at h
    · rename_i l hml
      obtain rfl := mapV_ex (g := ozC) (fun _ _ => ozOf_ex) hml
      clear hml
      split at h
      · rename_i hcond
        injection h with h
        subst h
        obtain ⟨rfl, hok⟩ := hcond
        simp only [oz_map, oz_len] at hvs hS ⊢
        have hlen := (okO_ex hok).1
        have hob := (okO_ex hok).2
        have hE : SoundAll Try.prog (EL []) := EL_sound (by simp)
        have hl := oz_len l
        have hD := oz_dat l
        have hT := oz_t0 l
        have hC := oz_cl l
        have hk : (ozLL l).take l.length = ozLL l := List.take_of_length_le (by rw [hl]; exact Nat.le_refl _)
        unfold m17
        repeat' with_reducible (first
          | refine ZR.h ?_ | refine zI (by decide) ?_
          | (refine zK hE ?_; intro K hK; simp [KR.ks, q17_0, q17_1, q17_2, q17_3, q17_4, q17_5, q17_6, q17_7, q17_8, q17_9, q17_10, q17_11, q17_12, q17_13, q17_14, q17_15, q17_16, q17_17, q17_18, q17_19, q17_20, hT, hC, hD, hl, hk]; (repeat' (first | refine hK _ _ ?_ | refine And.intro ?_ ?_ | (intro hc; try subst hc))) <;> (try clear hK K))
          | (refine zJ (b := _) (by with_unfolding_all rfl) (fun hc => ?_) (fun hc => ?_) <;> simp at hc <;> (try subst hc)))
        all_goals (refine Wm_loop (fun k => I17 nn l k) (fun k => k ≤ 9999) (fun k => 9999 - k) 0 (Nat.zero_le _) ?_ ?_)
        · simp only [I17, pxTo]
          rw [hS]
          (refine Imp.auto (by kernel_rfl) ?_ ?_ <;> simp [NLe, mkPlX, hT, hC, hl])
        rintro k hk9
        (try simp only at hk9)
        simp only [I17]
        by_cases hlt : k < 9999
        · have hst0 : pxTo nn l (k + 1) = pxStep nn l (pxTo nn l k) ((k : Int) + 1) := rfl
          have hki : (k : Int) + 1 ≤ 9999 := by omega
          have hki2 : ¬ ((9999 : Int) < (k : Int) + 1) := by omega
          have wk : IntKind.wrap .i64 ((k : Int) + 1 + 1) = ((k : Int) + 1 + 1) := wrap_in (by omega) (by omega)
          simp only [pxStep, qty_cr] at hst0
          obtain ⟨p, hp⟩ : ∃ p : Int, (k : Int) + 1 = p := ⟨_, rfl⟩
          rw [hp] at hki hki2 wk hst0 ⊢
          generalize pxTo nn l k = st at hst0 ⊢
          obtain ⟨pr, mo⟩ := st
          simp only at hst0 ⊢
          repeat' with_reducible (first
            | refine ZR.h ?_ | refine zI (by decide) ?_
            | (refine zK hE ?_; intro K hK; simp [KR.ks, q17_0, q17_1, q17_2, q17_3, q17_4, q17_5, q17_6, q17_7, q17_8, q17_9, q17_10, q17_11, q17_12, q17_13, q17_14, q17_15, q17_16, q17_17, q17_18, q17_19, q17_20, hT, hC, hD, hl, hk, hki, hki2]; (repeat' (first | refine hK _ _ ?_ | refine And.intro ?_ ?_ | (intro hc; try subst hc))) <;> (try clear hK K))
            | (refine zJ (b := _) (by with_unfolding_all rfl) (fun hc => ?_) (fun hc => ?_) <;> simp at hc <;> (try subst hc)))
          all_goals first | (exfalso; omega) | skip
          all_goals (refine Wm_loop (fun j => I17b nn l pr mo p j) (fun j => j ≤ l.length) (fun j => l.length - j) 0 (Nat.zero_le _) ?_ ?_)
          · simp only [I17b, List.take_zero, show crAt nn p [] = ⟨0, 0, false⟩ from rfl]
            rw [hS]
            (refine Imp.auto (by kernel_rfl) ?_ ?_ <;> simp [NLe, mkPlX, hT, hC, hl])
          rintro j hjl
          (try simp only at hjl)
          simp only [I17b]
          by_cases hjt : j < l.length
          · obtain ⟨x, hx⟩ : ∃ x, l[j]? = some x := ⟨_, List.getElem?_eq_getElem hjt⟩
            obtain ⟨hg, hge⟩ := oz_at hx
            have hji : (j : Int) < (l.length : Int) := by omega
            have wj : IntKind.wrap .i64 ((j : Int) + 1) = (j : Int) + 1 := wrap_in (by omega) (by omega)
            have hq := hob x (List.mem_of_getElem? hx)
            have hst := crAt_snoc nn p (l.take j) x
            rw [← take_snoc hx] at hst
            have hbd := crAt_bnd nn p (l := l.take j) fun o ho => hob o (List.mem_of_mem_take ho)
            rw [List.length_take, Nat.min_eq_left hjl] at hbd
            generalize crAt nn p (l.take j) = z at hst hbd ⊢
            obtain ⟨zb, zs, zt⟩ := z
            simp only at hbd ⊢
            have w1 : IntKind.wrap .i64 (zb + x.q) = zb + x.q := wrap_in (by omega) (by omega)
            have w2 : IntKind.wrap .i64 (zs + x.q) = zs + x.q := wrap_in (by omega) (by omega)
            simp only [ozC] at hg hge
            cases zt with
            | true =>
              by_cases z1 : x.n = nn
              · by_cases z2 : x.s = 0
                · rw [z2] at hg hge
                  by_cases z4 : p ≤ x.p
                  ·
                    have s1 : crAt nn p (l.take (j + 1)) = ⟨zb + x.q, zs, true⟩ := by rw [hst]; simp [crIn, z1, z2, z4]
                    repeat' with_reducible (first
                      | refine ZR.h ?_ | refine zI (by decide) ?_
                      | (refine zK hE ?_; intro K hK; simp [KR.ks, q17_0, q17_1, q17_2, q17_3, q17_4, q17_5, q17_6, q17_7, q17_8, q17_9, q17_10, q17_11, q17_12, q17_13, q17_14, q17_15, q17_16, q17_17, q17_18, q17_19, q17_20, hT, hC, hD, hl, hk, hjt, hji, hg, hge, wj, w1, w2, z1, z2, z4]; (repeat' (first | refine hK _ _ ?_ | refine And.intro ?_ ?_ | (intro hc; try subst hc))) <;> (try clear hK K))
                      | (refine zJ (b := _) (by with_unfolding_all rfl) (fun hc => ?_) (fun hc => ?_) <;> simp at hc <;> (try subst hc)))
                    all_goals first | (exfalso; omega) | skip
                    all_goals refine ⟨j + 1, hjt, Nat.sub_lt_sub_left hjt (Nat.lt_succ_self j), ?_⟩
                    all_goals simp only [I17b, s1]
                    all_goals rw [hS]
                    all_goals (refine Imp.auto (by kernel_rfl) ?_ ?_ <;> simp [NLe, mkPlX, hT, hC, hl])
                  ·
                    have s1 : crAt nn p (l.take (j + 1)) = ⟨zb, zs, true⟩ := by rw [hst]; simp [crIn, z1, z2, z4]
                    repeat' with_reducible (first
                      | refine ZR.h ?_ | refine zI (by decide) ?_
                      | (refine zK hE ?_; intro K hK; simp [KR.ks, q17_0, q17_1, q17_2, q17_3, q17_4, q17_5, q17_6, q17_7, q17_8, q17_9, q17_10, q17_11, q17_12, q17_13, q17_14, q17_15, q17_16, q17_17, q17_18, q17_19, q17_20, hT, hC, hD, hl, hk, hjt, hji, hg, hge, wj, w1, w2, z1, z2, z4]; (repeat' (first | refine hK _ _ ?_ | refine And.intro ?_ ?_ | (intro hc; try subst hc))) <;> (try clear hK K))
                      | (refine zJ (b := _) (by with_unfolding_all rfl) (fun hc => ?_) (fun hc => ?_) <;> simp at hc <;> (try subst hc)))
                    all_goals first | (exfalso; omega) | skip
                    all_goals refine ⟨j + 1, hjt, Nat.sub_lt_sub_left hjt (Nat.lt_succ_self j), ?_⟩
                    all_goals simp only [I17b, s1]
                    all_goals rw [hS]
                    all_goals (refine Imp.auto (by kernel_rfl) ?_ ?_ <;> simp [NLe, mkPlX, hT, hC, hl])
                · by_cases z5 : x.s = 1
                  · rw [z5] at hg hge
                    by_cases z4 : x.p ≤ p
                    ·
                      have s1 : crAt nn p (l.take (j + 1)) = ⟨zb, zs + x.q, true⟩ := by rw [hst]; simp [crIn, z1, z2, z5, z4]
                      repeat' with_reducible (first
                        | refine ZR.h ?_ | refine zI (by decide) ?_
                        | (refine zK hE ?_; intro K hK; simp [KR.ks, q17_0, q17_1, q17_2, q17_3, q17_4, q17_5, q17_6, q17_7, q17_8, q17_9, q17_10, q17_11, q17_12, q17_13, q17_14, q17_15, q17_16, q17_17, q17_18, q17_19, q17_20, hT, hC, hD, hl, hk, hjt, hji, hg, hge, wj, w1, w2, z1, z2, z5, z4]; (repeat' (first | refine hK _ _ ?_ | refine And.intro ?_ ?_ | (intro hc; try subst hc))) <;> (try clear hK K))
                        | (refine zJ (b := _) (by with_unfolding_all rfl) (fun hc => ?_) (fun hc => ?_) <;> simp at hc <;> (try subst hc)))
                      all_goals first | (exfalso; omega) | skip
                      all_goals refine ⟨j + 1, hjt, Nat.sub_lt_sub_left hjt (Nat.lt_succ_self j), ?_⟩
                      all_goals simp only [I17b, s1]
                      all_goals rw [hS]
                      all_goals (refine Imp.auto (by kernel_rfl) ?_ ?_ <;> simp [NLe, mkPlX, hT, hC, hl])
                    ·
                      have s1 : crAt nn p (l.take (j + 1)) = ⟨zb, zs, true⟩ := by rw [hst]; simp [crIn, z1, z2, z5, z4]
                      repeat' with_reducible (first
                        | refine ZR.h ?_ | refine zI (by decide) ?_
                        | (refine zK hE ?_; intro K hK; simp [KR.ks, q17_0, q17_1, q17_2, q17_3, q17_4, q17_5, q17_6, q17_7, q17_8, q17_9, q17_10, q17_11, q17_12, q17_13, q17_14, q17_15, q17_16, q17_17, q17_18, q17_19, q17_20, hT, hC, hD, hl, hk, hjt, hji, hg, hge, wj, w1, w2, z1, z2, z5, z4]; (repeat' (first | refine hK _ _ ?_ | refine And.intro ?_ ?_ | (intro hc; try subst hc))) <;> (try clear hK K))
                        | (refine zJ (b := _) (by with_unfolding_all rfl) (fun hc => ?_) (fun hc => ?_) <;> simp at hc <;> (try subst hc)))
                      all_goals first | (exfalso; omega) | skip
                      all_goals refine ⟨j + 1, hjt, Nat.sub_lt_sub_left hjt (Nat.lt_succ_self j), ?_⟩
                      all_goals simp only [I17b, s1]
                      all_goals rw [hS]
                      all_goals (refine Imp.auto (by kernel_rfl) ?_ ?_ <;> simp [NLe, mkPlX, hT, hC, hl])
                  ·
                    have s1 : crAt nn p (l.take (j + 1)) = ⟨zb, zs, true⟩ := by rw [hst]; simp [crIn, z1, z2, z5]
                    repeat' with_reducible (first
                      | refine ZR.h ?_ | refine zI (by decide) ?_
                      | (refine zK hE ?_; intro K hK; simp [KR.ks, q17_0, q17_1, q17_2, q17_3, q17_4, q17_5, q17_6, q17_7, q17_8, q17_9, q17_10, q17_11, q17_12, q17_13, q17_14, q17_15, q17_16, q17_17, q17_18, q17_19, q17_20, hT, hC, hD, hl, hk, hjt, hji, hg, hge, wj, w1, w2, z1, z2, z5]; (repeat' (first | refine hK _ _ ?_ | refine And.intro ?_ ?_ | (intro hc; try subst hc))) <;> (try clear hK K))
                      | (refine zJ (b := _) (by with_unfolding_all rfl) (fun hc => ?_) (fun hc => ?_) <;> simp at hc <;> (try subst hc)))
                    all_goals first | (exfalso; omega) | skip
                    all_goals refine ⟨j + 1, hjt, Nat.sub_lt_sub_left hjt (Nat.lt_succ_self j), ?_⟩
                    all_goals simp only [I17b, s1]
                    all_goals rw [hS]
                    all_goals (refine Imp.auto (by kernel_rfl) ?_ ?_ <;> simp [NLe, mkPlX, hT, hC, hl])
              ·
                have s1 : crAt nn p (l.take (j + 1)) = ⟨zb, zs, true⟩ := by rw [hst]; simp [crIn, z1]
                repeat' with_reducible (first
                  | refine ZR.h ?_ | refine zI (by decide) ?_
                  | (refine zK hE ?_; intro K hK; simp [KR.ks, q17_0, q17_1, q17_2, q17_3, q17_4, q17_5, q17_6, q17_7, q17_8, q17_9, q17_10, q17_11, q17_12, q17_13, q17_14, q17_15, q17_16, q17_17, q17_18, q17_19, q17_20, hT, hC, hD, hl, hk, hjt, hji, hg, hge, wj, w1, w2, z1]; (repeat' (first | refine hK _ _ ?_ | refine And.intro ?_ ?_ | (intro hc; try subst hc))) <;> (try clear hK K))
                  | (refine zJ (b := _) (by with_unfolding_all rfl) (fun hc => ?_) (fun hc => ?_) <;> simp at hc <;> (try subst hc)))
                all_goals first | (exfalso; omega) | skip
                all_goals refine ⟨j + 1, hjt, Nat.sub_lt_sub_left hjt (Nat.lt_succ_self j), ?_⟩
                all_goals simp only [I17b, s1]
                all_goals rw [hS]
                all_goals (refine Imp.auto (by kernel_rfl) ?_ ?_ <;> simp [NLe, mkPlX, hT, hC, hl])
            | false =>
              by_cases z1 : x.n = nn
              · by_cases z2 : x.s = 0
                · rw [z2] at hg hge
                  by_cases z3 : x.p = p
                  ·
                    have s1 : crAt nn p (l.take (j + 1)) = ⟨zb + x.q, zs, true⟩ := by rw [hst]; simp [crIn, z1, z2, z3]
                    repeat' with_reducible (first
                      | refine ZR.h ?_ | refine zI (by decide) ?_
                      | (refine zK hE ?_; intro K hK; simp [KR.ks, q17_0, q17_1, q17_2, q17_3, q17_4, q17_5, q17_6, q17_7, q17_8, q17_9, q17_10, q17_11, q17_12, q17_13, q17_14, q17_15, q17_16, q17_17, q17_18, q17_19, q17_20, hT, hC, hD, hl, hk, hjt, hji, hg, hge, wj, w1, w2, z1, z2, z3]; (repeat' (first | refine hK _ _ ?_ | refine And.intro ?_ ?_ | (intro hc; try subst hc))) <;> (try clear hK K))
                      | (refine zJ (b := _) (by with_unfolding_all rfl) (fun hc => ?_) (fun hc => ?_) <;> simp at hc <;> (try subst hc)))
                    all_goals first | (exfalso; omega) | skip
                    all_goals refine ⟨j + 1, hjt, Nat.sub_lt_sub_left hjt (Nat.lt_succ_self j), ?_⟩
                    all_goals simp only [I17b, s1]
                    all_goals rw [hS]
                    all_goals (refine Imp.auto (by kernel_rfl) ?_ ?_ <;> simp [NLe, mkPlX, hT, hC, hl])
                  ·
                    by_cases z4 : p ≤ x.p
                    ·
                      have s1 : crAt nn p (l.take (j + 1)) = ⟨zb + x.q, zs, false⟩ := by rw [hst]; simp [crIn, z1, z2, z3, z4]
                      repeat' with_reducible (first
                        | refine ZR.h ?_ | refine zI (by decide) ?_
                        | (refine zK hE ?_; intro K hK; simp [KR.ks, q17_0, q17_1, q17_2, q17_3, q17_4, q17_5, q17_6, q17_7, q17_8, q17_9, q17_10, q17_11, q17_12, q17_13, q17_14, q17_15, q17_16, q17_17, q17_18, q17_19, q17_20, hT, hC, hD, hl, hk, hjt, hji, hg, hge, wj, w1, w2, z1, z2, z3, z4]; (repeat' (first | refine hK _ _ ?_ | refine And.intro ?_ ?_ | (intro hc; try subst hc))) <;> (try clear hK K))
                        | (refine zJ (b := _) (by with_unfolding_all rfl) (fun hc => ?_) (fun hc => ?_) <;> simp at hc <;> (try subst hc)))
                      all_goals first | (exfalso; omega) | skip
                      all_goals refine ⟨j + 1, hjt, Nat.sub_lt_sub_left hjt (Nat.lt_succ_self j), ?_⟩
                      all_goals simp only [I17b, s1]
                      all_goals rw [hS]
                      all_goals (refine Imp.auto (by kernel_rfl) ?_ ?_ <;> simp [NLe, mkPlX, hT, hC, hl])
                    ·
                      have s1 : crAt nn p (l.take (j + 1)) = ⟨zb, zs, false⟩ := by rw [hst]; simp [crIn, z1, z2, z3, z4]
                      repeat' with_reducible (first
                        | refine ZR.h ?_ | refine zI (by decide) ?_
                        | (refine zK hE ?_; intro K hK; simp [KR.ks, q17_0, q17_1, q17_2, q17_3, q17_4, q17_5, q17_6, q17_7, q17_8, q17_9, q17_10, q17_11, q17_12, q17_13, q17_14, q17_15, q17_16, q17_17, q17_18, q17_19, q17_20, hT, hC, hD, hl, hk, hjt, hji, hg, hge, wj, w1, w2, z1, z2, z3, z4]; (repeat' (first | refine hK _ _ ?_ | refine And.intro ?_ ?_ | (intro hc; try subst hc))) <;> (try clear hK K))
                        | (refine zJ (b := _) (by with_unfolding_all rfl) (fun hc => ?_) (fun hc => ?_) <;> simp at hc <;> (try subst hc)))
                      all_goals first | (exfalso; omega) | skip
                      all_goals refine ⟨j + 1, hjt, Nat.sub_lt_sub_left hjt (Nat.lt_succ_self j), ?_⟩
                      all_goals simp only [I17b, s1]
                      all_goals rw [hS]
                      all_goals (refine Imp.auto (by kernel_rfl) ?_ ?_ <;> simp [NLe, mkPlX, hT, hC, hl])
                · by_cases z5 : x.s = 1
                  · rw [z5] at hg hge
                    by_cases z3 : x.p = p
                    ·
                      have s1 : crAt nn p (l.take (j + 1)) = ⟨zb, zs + x.q, true⟩ := by rw [hst]; simp [crIn, z1, z2, z5, z3]
                      repeat' with_reducible (first
                        | refine ZR.h ?_ | refine zI (by decide) ?_
                        | (refine zK hE ?_; intro K hK; simp [KR.ks, q17_0, q17_1, q17_2, q17_3, q17_4, q17_5, q17_6, q17_7, q17_8, q17_9, q17_10, q17_11, q17_12, q17_13, q17_14, q17_15, q17_16, q17_17, q17_18, q17_19, q17_20, hT, hC, hD, hl, hk, hjt, hji, hg, hge, wj, w1, w2, z1, z2, z5, z3]; (repeat' (first | refine hK _ _ ?_ | refine And.intro ?_ ?_ | (intro hc; try subst hc))) <;> (try clear hK K))
                        | (refine zJ (b := _) (by with_unfolding_all rfl) (fun hc => ?_) (fun hc => ?_) <;> simp at hc <;> (try subst hc)))
                      all_goals first | (exfalso; omega) | skip
                      all_goals refine ⟨j + 1, hjt, Nat.sub_lt_sub_left hjt (Nat.lt_succ_self j), ?_⟩
                      all_goals simp only [I17b, s1]
                      all_goals rw [hS]
                      all_goals (refine Imp.auto (by kernel_rfl) ?_ ?_ <;> simp [NLe, mkPlX, hT, hC, hl])
                    ·
                      by_cases z4 : x.p ≤ p
                      ·
                        have s1 : crAt nn p (l.take (j + 1)) = ⟨zb, zs + x.q, false⟩ := by rw [hst]; simp [crIn, z1, z2, z5, z3, z4]
                        repeat' with_reducible (first
                          | refine ZR.h ?_ | refine zI (by decide) ?_
                          | (refine zK hE ?_; intro K hK; simp [KR.ks, q17_0, q17_1, q17_2, q17_3, q17_4, q17_5, q17_6, q17_7, q17_8, q17_9, q17_10, q17_11, q17_12, q17_13, q17_14, q17_15, q17_16, q17_17, q17_18, q17_19, q17_20, hT, hC, hD, hl, hk, hjt, hji, hg, hge, wj, w1, w2, z1, z2, z5, z3, z4]; (repeat' (first | refine hK _ _ ?_ | refine And.intro ?_ ?_ | (intro hc; try subst hc))) <;> (try clear hK K))
                          | (refine zJ (b := _) (by with_unfolding_all rfl) (fun hc => ?_) (fun hc => ?_) <;> simp at hc <;> (try subst hc)))
                        all_goals first | (exfalso; omega) | skip
                        all_goals refine ⟨j + 1, hjt, Nat.sub_lt_sub_left hjt (Nat.lt_succ_self j), ?_⟩
                        all_goals simp only [I17b, s1]
                        all_goals rw [hS]
                        all_goals (refine Imp.auto (by kernel_rfl) ?_ ?_ <;> simp [NLe, mkPlX, hT, hC, hl])
                      ·
                        have s1 : crAt nn p (l.take (j + 1)) = ⟨zb, zs, false⟩ := by rw [hst]; simp [crIn, z1, z2, z5, z3, z4]
                        repeat' with_reducible (first
                          | refine ZR.h ?_ | refine zI (by decide) ?_
                          | (refine zK hE ?_; intro K hK; simp [KR.ks, q17_0, q17_1, q17_2, q17_3, q17_4, q17_5, q17_6, q17_7, q17_8, q17_9, q17_10, q17_11, q17_12, q17_13, q17_14, q17_15, q17_16, q17_17, q17_18, q17_19, q17_20, hT, hC, hD, hl, hk, hjt, hji, hg, hge, wj, w1, w2, z1, z2, z5, z3, z4]; (repeat' (first | refine hK _ _ ?_ | refine And.intro ?_ ?_ | (intro hc; try subst hc))) <;> (try clear hK K))
                          | (refine zJ (b := _) (by with_unfolding_all rfl) (fun hc => ?_) (fun hc => ?_) <;> simp at hc <;> (try subst hc)))
                        all_goals first | (exfalso; omega) | skip
                        all_goals refine ⟨j + 1, hjt, Nat.sub_lt_sub_left hjt (Nat.lt_succ_self j), ?_⟩
                        all_goals simp only [I17b, s1]
                        all_goals rw [hS]
                        all_goals (refine Imp.auto (by kernel_rfl) ?_ ?_ <;> simp [NLe, mkPlX, hT, hC, hl])
                  ·
                    have s1 : crAt nn p (l.take (j + 1)) = ⟨zb, zs, false⟩ := by rw [hst]; simp [crIn, z1, z2, z5]
                    repeat' with_reducible (first
                      | refine ZR.h ?_ | refine zI (by decide) ?_
                      | (refine zK hE ?_; intro K hK; simp [KR.ks, q17_0, q17_1, q17_2, q17_3, q17_4, q17_5, q17_6, q17_7, q17_8, q17_9, q17_10, q17_11, q17_12, q17_13, q17_14, q17_15, q17_16, q17_17, q17_18, q17_19, q17_20, hT, hC, hD, hl, hk, hjt, hji, hg, hge, wj, w1, w2, z1, z2, z5]; (repeat' (first | refine hK _ _ ?_ | refine And.intro ?_ ?_ | (intro hc; try subst hc))) <;> (try clear hK K))
                      | (refine zJ (b := _) (by with_unfolding_all rfl) (fun hc => ?_) (fun hc => ?_) <;> simp at hc <;> (try subst hc)))
                    all_goals first | (exfalso; omega) | skip
                    all_goals refine ⟨j + 1, hjt, Nat.sub_lt_sub_left hjt (Nat.lt_succ_self j), ?_⟩
                    all_goals simp only [I17b, s1]
                    all_goals rw [hS]
                    all_goals (refine Imp.auto (by kernel_rfl) ?_ ?_ <;> simp [NLe, mkPlX, hT, hC, hl])
              ·
                have s1 : crAt nn p (l.take (j + 1)) = ⟨zb, zs, false⟩ := by rw [hst]; simp [crIn, z1]
                repeat' with_reducible (first
                  | refine ZR.h ?_ | refine zI (by decide) ?_
                  | (refine zK hE ?_; intro K hK; simp [KR.ks, q17_0, q17_1, q17_2, q17_3, q17_4, q17_5, q17_6, q17_7, q17_8, q17_9, q17_10, q17_11, q17_12, q17_13, q17_14, q17_15, q17_16, q17_17, q17_18, q17_19, q17_20, hT, hC, hD, hl, hk, hjt, hji, hg, hge, wj, w1, w2, z1]; (repeat' (first | refine hK _ _ ?_ | refine And.intro ?_ ?_ | (intro hc; try subst hc))) <;> (try clear hK K))
                  | (refine zJ (b := _) (by with_unfolding_all rfl) (fun hc => ?_) (fun hc => ?_) <;> simp at hc <;> (try subst hc)))
                all_goals first | (exfalso; omega) | skip
                all_goals refine ⟨j + 1, hjt, Nat.sub_lt_sub_left hjt (Nat.lt_succ_self j), ?_⟩
                all_goals simp only [I17b, s1]
                all_goals rw [hS]
                all_goals (refine Imp.auto (by kernel_rfl) ?_ ?_ <;> simp [NLe, mkPlX, hT, hC, hl])
          obtain rfl : j = l.length := by omega
          have hji : ¬ ((l.length : Int) < (l.length : Int)) := by omega
          rw [List.take_length]
          generalize crAt nn p l = z at hst0 ⊢
          obtain ⟨zb, zs, zt⟩ := z
          simp only [lessI] at hst0 ⊢
          cases zt with
          | false =>
            by_cases z1 : zs < zb
            ·
              have s1 : pxTo nn l (k + 1) = (pr, mo) := by rw [hst0]; simp [z1]
              repeat' with_reducible (first
                | refine ZR.h ?_ | refine zI (by decide) ?_
                | (refine zK hE ?_; intro K hK; simp [KR.ks, q17_0, q17_1, q17_2, q17_3, q17_4, q17_5, q17_6, q17_7, q17_8, q17_9, q17_10, q17_11, q17_12, q17_13, q17_14, q17_15, q17_16, q17_17, q17_18, q17_19, q17_20, hT, hC, hD, hl, hk, hji, wk, z1]; (repeat' (first | refine hK _ _ ?_ | refine And.intro ?_ ?_ | (intro hc; try subst hc))) <;> (try clear hK K))
                | (refine zJ (b := _) (by with_unfolding_all rfl) (fun hc => ?_) (fun hc => ?_) <;> simp at hc <;> (try subst hc)))
              all_goals first | (exfalso; omega) | skip
              all_goals refine ⟨k + 1, hlt, Nat.sub_lt_sub_left hlt (Nat.lt_succ_self k), ?_⟩
              all_goals simp only [I17, s1]
              all_goals rw [hS]
              all_goals (refine Imp.auto (by kernel_rfl) ?_ ?_ <;> simp [NLe, mkPlX, hT, hC, hl, hp])
            ·
              have s1 : pxTo nn l (k + 1) = (pr, mo) := by rw [hst0]; simp [z1]
              repeat' with_reducible (first
                | refine ZR.h ?_ | refine zI (by decide) ?_
                | (refine zK hE ?_; intro K hK; simp [KR.ks, q17_0, q17_1, q17_2, q17_3, q17_4, q17_5, q17_6, q17_7, q17_8, q17_9, q17_10, q17_11, q17_12, q17_13, q17_14, q17_15, q17_16, q17_17, q17_18, q17_19, q17_20, hT, hC, hD, hl, hk, hji, wk, z1]; (repeat' (first | refine hK _ _ ?_ | refine And.intro ?_ ?_ | (intro hc; try subst hc))) <;> (try clear hK K))
                | (refine zJ (b := _) (by with_unfolding_all rfl) (fun hc => ?_) (fun hc => ?_) <;> simp at hc <;> (try subst hc)))
              all_goals first | (exfalso; omega) | skip
              all_goals refine ⟨k + 1, hlt, Nat.sub_lt_sub_left hlt (Nat.lt_succ_self k), ?_⟩
              all_goals simp only [I17, s1]
              all_goals rw [hS]
              all_goals (refine Imp.auto (by kernel_rfl) ?_ ?_ <;> simp [NLe, mkPlX, hT, hC, hl, hp])
          | true =>
            by_cases z1 : zs < zb
            · by_cases z2 : mo < zs
              ·
                have s1 : pxTo nn l (k + 1) = (p, zs) := by rw [hst0]; simp [z1, z2]
                repeat' with_reducible (first
                  | refine ZR.h ?_ | refine zI (by decide) ?_
                  | (refine zK hE ?_; intro K hK; simp [KR.ks, q17_0, q17_1, q17_2, q17_3, q17_4, q17_5, q17_6, q17_7, q17_8, q17_9, q17_10, q17_11, q17_12, q17_13, q17_14, q17_15, q17_16, q17_17, q17_18, q17_19, q17_20, hT, hC, hD, hl, hk, hji, wk, z1, z2]; (repeat' (first | refine hK _ _ ?_ | refine And.intro ?_ ?_ | (intro hc; try subst hc))) <;> (try clear hK K))
                  | (refine zJ (b := _) (by with_unfolding_all rfl) (fun hc => ?_) (fun hc => ?_) <;> simp at hc <;> (try subst hc)))
                all_goals first | (exfalso; omega) | skip
                all_goals refine ⟨k + 1, hlt, Nat.sub_lt_sub_left hlt (Nat.lt_succ_self k), ?_⟩
                all_goals simp only [I17, s1]
                all_goals rw [hS]
                all_goals (refine Imp.auto (by kernel_rfl) ?_ ?_ <;> simp [NLe, mkPlX, hT, hC, hl, hp])
              ·
                have s1 : pxTo nn l (k + 1) = (pr, mo) := by rw [hst0]; simp [z1, z2]
                repeat' with_reducible (first
                  | refine ZR.h ?_ | refine zI (by decide) ?_
                  | (refine zK hE ?_; intro K hK; simp [KR.ks, q17_0, q17_1, q17_2, q17_3, q17_4, q17_5, q17_6, q17_7, q17_8, q17_9, q17_10, q17_11, q17_12, q17_13, q17_14, q17_15, q17_16, q17_17, q17_18, q17_19, q17_20, hT, hC, hD, hl, hk, hji, wk, z1, z2]; (repeat' (first | refine hK _ _ ?_ | refine And.intro ?_ ?_ | (intro hc; try subst hc))) <;> (try clear hK K))
                  | (refine zJ (b := _) (by with_unfolding_all rfl) (fun hc => ?_) (fun hc => ?_) <;> simp at hc <;> (try subst hc)))
                all_goals first | (exfalso; omega) | skip
                all_goals refine ⟨k + 1, hlt, Nat.sub_lt_sub_left hlt (Nat.lt_succ_self k), ?_⟩
                all_goals simp only [I17, s1]
                all_goals rw [hS]
                all_goals (refine Imp.auto (by kernel_rfl) ?_ ?_ <;> simp [NLe, mkPlX, hT, hC, hl, hp])
            · by_cases z2 : mo < zb
              ·
                have s1 : pxTo nn l (k + 1) = (p, zb) := by rw [hst0]; simp [z1, z2]
                repeat' with_reducible (first
                  | refine ZR.h ?_ | refine zI (by decide) ?_
                  | (refine zK hE ?_; intro K hK; simp [KR.ks, q17_0, q17_1, q17_2, q17_3, q17_4, q17_5, q17_6, q17_7, q17_8, q17_9, q17_10, q17_11, q17_12, q17_13, q17_14, q17_15, q17_16, q17_17, q17_18, q17_19, q17_20, hT, hC, hD, hl, hk, hji, wk, z1, z2]; (repeat' (first | refine hK _ _ ?_ | refine And.intro ?_ ?_ | (intro hc; try subst hc))) <;> (try clear hK K))
                  | (refine zJ (b := _) (by with_unfolding_all rfl) (fun hc => ?_) (fun hc => ?_) <;> simp at hc <;> (try subst hc)))
                all_goals first | (exfalso; omega) | skip
                all_goals refine ⟨k + 1, hlt, Nat.sub_lt_sub_left hlt (Nat.lt_succ_self k), ?_⟩
                all_goals simp only [I17, s1]
                all_goals rw [hS]
                all_goals (refine Imp.auto (by kernel_rfl) ?_ ?_ <;> simp [NLe, mkPlX, hT, hC, hl, hp])
              ·
                have s1 : pxTo nn l (k + 1) = (pr, mo) := by rw [hst0]; simp [z1, z2]
                repeat' with_reducible (first
                  | refine ZR.h ?_ | refine zI (by decide) ?_
                  | (refine zK hE ?_; intro K hK; simp [KR.ks, q17_0, q17_1, q17_2, q17_3, q17_4, q17_5, q17_6, q17_7, q17_8, q17_9, q17_10, q17_11, q17_12, q17_13, q17_14, q17_15, q17_16, q17_17, q17_18, q17_19, q17_20, hT, hC, hD, hl, hk, hji, wk, z1, z2]; (repeat' (first | refine hK _ _ ?_ | refine And.intro ?_ ?_ | (intro hc; try subst hc))) <;> (try clear hK K))
                  | (refine zJ (b := _) (by with_unfolding_all rfl) (fun hc => ?_) (fun hc => ?_) <;> simp at hc <;> (try subst hc)))
                all_goals first | (exfalso; omega) | skip
                all_goals refine ⟨k + 1, hlt, Nat.sub_lt_sub_left hlt (Nat.lt_succ_self k), ?_⟩
                all_goals simp only [I17, s1]
                all_goals rw [hS]
                all_goals (refine Imp.auto (by kernel_rfl) ?_ ?_ <;> simp [NLe, mkPlX, hT, hC, hl, hp])
        obtain rfl : k = 9999 := by omega
        have hki : ¬ (((9999 : Nat) : Int) + 1 ≤ 9999) := by omega
        have hki2 : (9999 : Int) < ((9999 : Nat) : Int) + 1 := by omega
        rw [cross_px nn hob]
        generalize crossZ nn l = st
        repeat' with_reducible (first
          | refine ZR.h ?_ | refine zI (by decide) ?_
          | (refine zK hE ?_; intro K hK; simp [KR.ks, q17_0, q17_1, q17_2, q17_3, q17_4, q17_5, q17_6, q17_7, q17_8, q17_9, q17_10, q17_11, q17_12, q17_13, q17_14, q17_15, q17_16, q17_17, q17_18, q17_19, q17_20, hT, hC, hD, hl, hk, hki, hki2]; (repeat' (first | refine hK _ _ ?_ | refine And.intro ?_ ?_ | (intro hc; try subst hc))) <;> (try clear hK K))
          | (refine zJ (b := _) (by with_unfolding_all rfl) (fun hc => ?_) (fun hc => ?_) <;> simp at hc <;> (try subst hc)))
        all_goals first | (simp; done) | (simp at *; omega) | ((try simp[hT, hC, hl]); refine Imp.auto (by kernel_rfl) ?_ ?_ <;> simp [NLe, hT, hC, hl])
      · cases h
    · cases h
  · cases h
end Go.W
