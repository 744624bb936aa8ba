/- A part of the proof (BbT). -/
import Derived.Test.YtfkdcpgphindiaaBbG
namespace Go.W
open Go.Proofs
set_option linter.unusedSimpArgs false
set_option linter.unusedVariables false
set_option maxHeartbeats 8000000
attribute [local irreducible] Wm
attribute [local simp] nmap lkp mkPl prs prsL prT ddL idL CRenL CRen Ren RenL NObj.none CRenLL

def levTo (s : Int) (os : List OZ) (n : Nat) : List LZ := (List.range n).filterMap fun k => if 0 < (atZ (prZ s k) os).o then some (atZ (prZ s k) os) else none
theorem levTo_all (s : Int) (os : List OZ) : levTo s os 9999 = levelsZ s os := rfl
theorem levTo_0 (s : Int) (os : List OZ) : levTo s os 0 = [] := rfl
theorem levTo_s (s : Int) (os : List OZ) (n : Nat) : levTo s os (n + 1) = if 0 < (atZ (prZ s n) os).o then levTo s os n ++ [atZ (prZ s n) os] else levTo s os n := by
  unfold levTo
  rw [List.range_succ, List.filterMap_append]
  simp only [List.filterMap_cons, List.filterMap_nil]
  by_cases h : 0 < (atZ (prZ s n) os).o
  · simp only [h, if_true]
  · simp only [h, if_false, List.append_nil]
theorem levTo_len (s : Int) (os : List OZ) (n : Nat) : (levTo s os n).length ≤ n := by
  unfold levTo
  exact Nat.le_trans (List.length_filterMap_le _ _) (by rw [List.length_range]; exact Nat.le_refl _)
theorem at_keep (p n s : Int) (l : List OZ) (x : OZ) : atZ p (keepZ (prA n s) (l ++ [x])) = if x.n = n ∧ x.s = s ∧ x.p = p then ⟨p, (atZ p (keepZ (prA n s) l)).l + x.q, (atZ p (keepZ (prA n s) l)).o + 1⟩ else atZ p (keepZ (prA n s) l) := by
  unfold keepZ
  rw [List.filter_append]
  by_cases h : x.n = n ∧ x.s = s
  · have e : [x].filter (fun o => !prA n s o) = [x] := by simp [prA, h.1, h.2]
    rw [e, at_snoc]; unfold addL
    by_cases hp : x.p = p
    · rw [if_pos hp, if_pos ⟨h.1, h.2, hp⟩]
    · rw [if_neg hp, if_neg (fun q => hp q.2.2)]
  · have e : [x].filter (fun o => !prA n s o) = [] := by
      have : prA n s x = true := decide_eq_true (by omega)
      simp [this]
    rw [e, List.append_nil, if_neg (fun q => h ⟨q.1, q.2.1⟩)]
def d13 : List AV → List NObj → Option AV
  | [.sl (.top 0) 0 n, .int .i64 nn, .int .i64 ss], [.view 0 7 els] => (match mapV ozOf els with
    | some l => if n = els.length ∧ okO l = true then some (.os 0 3 (lzLL (levelsZ ss (keepZ (prA nn ss) l)))) else none
    | none => none)
  | _, _ => none
theorem ok13 : ROk d13 := by
  intro xs os r h
  unfold d13 at h
  split at h
  · split at h
    · split at h
      · injection h with h; subst h; simp; exact lz_dat _
      · cases h
    · cases h
  · cases h
def I13 (nn ss : Int) (l : List OZ) (k : Nat) : St := ⟨[(0, .sl (.top 0) 0 l.length), (1, .int .i64 nn), (2, .int .i64 ss), (7, .sl (.top 1) 0 (levTo ss (keepZ (prA nn ss) l) k).length), (8, .int .i64 ((k : Int) + 1))], [(0, .view 0 7 (ozLL l)), (1, .arr 0 3 (lzLL (levTo ss (keepZ (prA nn ss) l) k)))], 2⟩
def I13b (nn ss : Int) (l : List OZ) (L : List LZ) (k : Nat) (p : Int) (j : Nat) : St := ⟨[(0, .sl (.top 0) 0 l.length), (1, .int .i64 nn), (2, .int .i64 ss), (7, .sl (.top 1) 0 L.length), (8, .int .i64 ((k : Int) + 1)), (9, .int .i64 p), (10, .ptr (.top 2) 0 0), (11, .int .i64 j)], [(0, .view 0 7 (ozLL l)), (1, .arr 0 3 (lzLL L)), (2, .cells 0 [.int .i64 p, .int .i64 (atZ p (keepZ (prA nn ss) (l.take j))).l, .int .i64 (atZ p (keepZ (prA nn ss) (l.take j))).o])], 3⟩
theorem s13 : Sound Try.prog 13 (rdS d13 ok13) := by
  refine rd_sound Try.func13 nm13 rc13 rv13 ok13 fun xs os r h vs ρ0 hvs => ⟨xs, ?_, fun _ h => h, fun w0 S hS => ?_⟩
  · unfold d13 at h
    (repeat' (split at h)) <;> first | (cases h; done) | exact Nat.le_of_ble_eq_true rfl
  unfold d13 at h
  split at h
  · rename_i n nn ss els
    split at h
    · rename_i l hml
      obtain rfl := mapV_ex (g := ozC) (fun _ _ => ozOf_ex) hml
      clear hml
      split at h
      · rename_i hcond
        injection h with h
        subst h
        obtain ⟨rfl, hok⟩ := hcond
        simp only [oz_map, oz_len] at hvs hS ⊢
        have hlen := (okO_ex hok).1
        have hob := (okO_ex hok).2
        have hE : SoundAll Try.prog (EL []) := EL_sound (by simp)
        have hl := oz_len l
        have hD := oz_dat l
        have hT := oz_t0 l
        have hC := oz_cl l
        have hk : (ozLL l).take l.length = ozLL l := List.take_of_length_le (by rw [hl]; exact Nat.le_refl _)
        unfold m13
        repeat' with_reducible (first
          | refine ZR.h ?_ | refine zI (by decide) ?_
          | ((first | refine zK hE ?_ | refine zL hE mixT ?_); intro K hK; simp [KR.ks, KD.ks, KD.cl, q13_0, q13_1, q13_2, q13_3, q13_4, q13_5, q13_6, q13_7, q13_8, q13_9, q13_10, q13_11, q13_12, q13_13, q13_14, q13_15, q13_16, q13_17, hT, hC, hD, hl, hk]; (repeat' (first | refine hK _ _ ?_ | refine And.intro ?_ ?_ | (intro hc; try subst hc))) <;> (try clear hK K))
          | (refine zJ (b := _) (by with_unfolding_all rfl) (fun hc => ?_) (fun hc => ?_) <;> simp at hc <;> (try subst hc)))
        all_goals (refine Wm_loop (fun k => I13 nn ss l k) (fun k => k ≤ 9999) (fun k => 9999 - k) 0 (Nat.zero_le _) ?_ ?_)
        · simp only [I13, levTo_0]
          rw [hS]
          (refine Imp.auto (by kernel_rfl) ?_ ?_ <;> simp [NLe, mkPlX, hT, hC, hl, show lzLL [] = [] from rfl])
        rintro k hk9
        (try simp only at hk9)
        simp only [I13]
        have llen := levTo_len ss (keepZ (prA nn ss) l) k
        by_cases hlt : k < 9999
        · have hki : (k : Int) + 1 ≤ 9999 := by omega
          have hki2 : ¬ ((9999 : Int) < (k : Int) + 1) := by omega
          have wk : IntKind.wrap .i64 ((k : Int) + 1 + 1) = ((k : Int) + 1 + 1) := wrap_in (by omega) (by omega)
          have wp : IntKind.wrap .i64 (10000 - ((k : Int) + 1)) = 10000 - ((k : Int) + 1) := wrap_in (by omega) (by omega)
          have hst0 := levTo_s ss (keepZ (prA nn ss) l) k
          have hpp : (atZ (prZ ss k) (keepZ (prA nn ss) l)).p = prZ ss k := at_p _ _
          generalize levTo ss (keepZ (prA nn ss) l) k = L at hst0 llen ⊢
          have lT := lz_t0 L
          have lC := lz_cl L
          have ll := lz_len L
          have lD := lz_dat L
          obtain ⟨p, hp⟩ : ∃ p, p = prZ ss k := ⟨_, rfl⟩
          rw [← hp] at hst0 hpp
          by_cases h0 : ss = 0
          · have hpv : 10000 - ((k : Int) + 1) = p := by rw [hp]; unfold prZ; rw [if_pos h0]; omega
            rw [hpv] at wp
            have hd0 : decide (ss = 0) = true := decide_eq_true h0
            repeat' with_reducible (first
              | refine ZR.h ?_ | refine zI (by decide) ?_
              | ((first | refine zK hE ?_ | refine zL hE mixT ?_); intro K hK; simp [KR.ks, KD.ks, KD.cl, q13_0, q13_1, q13_2, q13_3, q13_4, q13_5, q13_6, q13_7, q13_8, q13_9, q13_10, q13_11, q13_12, q13_13, q13_14, q13_15, q13_16, q13_17, hT, hC, hD, hl, hk, lT, lC, ll, lD, hki, hki2, wp, hd0, hpv]; (repeat' (first | refine hK _ _ ?_ | refine And.intro ?_ ?_ | (intro hc; try subst hc))) <;> (try clear hK K))
              | (refine zJ (b := _) (by with_unfolding_all rfl) (fun hc => ?_) (fun hc => ?_) <;> simp at hc <;> (try subst hc)))
            all_goals first | (exfalso; omega) | skip
            all_goals (refine Wm_loop (fun j => I13b nn ss l L k p j) (fun j => j ≤ l.length) (fun j => l.length - j) 0 (Nat.zero_le _) ?_ ?_)
            · simp only [I13b, List.take_zero, show atZ p (keepZ (prA nn ss) []) = ⟨p, 0, 0⟩ from rfl]
              rw [hS]
              (refine Imp.auto (by kernel_rfl) ?_ ?_ <;> simp [NLe, mkPlX, hT, hC, hl, lT, lC, ll, hpv])
            rintro j hjl
            (try simp only at hjl)
            simp only [I13b]
            by_cases hjt : j < l.length
            · obtain ⟨x, hx⟩ : ∃ x, l[j]? = some x := ⟨_, List.getElem?_eq_getElem hjt⟩
              obtain ⟨hg, hge⟩ := oz_at hx
              have hji : (j : Int) < (l.length : Int) := by omega
              have wj : IntKind.wrap .i64 ((j : Int) + 1) = (j : Int) + 1 := wrap_in (by omega) (by omega)
              have hq := hob x (List.mem_of_getElem? hx)
              have hkm : ∀ o ∈ keepZ (prA nn ss) (l.take j), 0 ≤ o.q ∧ o.q ≤ 9999 := fun o ho => (hob o (List.mem_of_mem_take (List.mem_filter.1 ho).1)).2.2
              have hkln := keep_len (prA nn ss) (l.take j)
              rw [List.length_take, Nat.min_eq_left hjl] at hkln
              have b1 := at_l p hkm
              have b2 := at_o p (keepZ (prA nn ss) (l.take j))
              have hst := at_keep p nn ss (l.take j) x
              rw [← take_snoc hx] at hst
              have hup : (atZ p (keepZ (prA nn ss) (l.take j))).p = p := at_p _ _
              generalize atZ p (keepZ (prA nn ss) (l.take j)) = u at hst b1 b2 hup ⊢
              have w1 : IntKind.wrap .i64 (u.l + x.q) = u.l + x.q := wrap_in (by omega) (by omega)
              have w2 : IntKind.wrap .i64 (u.o + 1) = u.o + 1 := wrap_in (by omega) (by omega)
              simp only [ozC] at hg hge
              by_cases z1 : x.n = nn
              · by_cases z2 : x.s = ss
                · by_cases z3 : x.p = p
                  ·
                    have s1 : atZ p (keepZ (prA nn ss) (l.take (j + 1))) = ⟨p, u.l + x.q, u.o + 1⟩ := by rw [hst]; simp [z1, z2, z3]
                    repeat' with_reducible (first
                      | refine ZR.h ?_ | refine zI (by decide) ?_
                      | ((first | refine zK hE ?_ | refine zL hE mixT ?_); intro K hK; simp [KR.ks, KD.ks, KD.cl, q13_0, q13_1, q13_2, q13_3, q13_4, q13_5, q13_6, q13_7, q13_8, q13_9, q13_10, q13_11, q13_12, q13_13, q13_14, q13_15, q13_16, q13_17, hT, hC, hD, hl, hk, lT, lC, ll, lD, hjt, hji, hg, hge, wj, w1, w2, z1, z2, z3]; (repeat' (first | refine hK _ _ ?_ | refine And.intro ?_ ?_ | (intro hc; try subst hc))) <;> (try clear hK K))
                      | (refine zJ (b := _) (by with_unfolding_all rfl) (fun hc => ?_) (fun hc => ?_) <;> simp at hc <;> (try subst hc)))
                    all_goals first | (exfalso; omega) | skip
                    all_goals refine ⟨j + 1, hjt, Nat.sub_lt_sub_left hjt (Nat.lt_succ_self j), ?_⟩
                    all_goals simp only [I13b, s1]
                    all_goals rw [hS]
                    all_goals (refine Imp.auto (by kernel_rfl) ?_ ?_ <;> simp [NLe, mkPlX, hT, hC, hl, lT, lC, ll])
                  ·
                    have s1 : atZ p (keepZ (prA nn ss) (l.take (j + 1))) = u := by rw [hst]; simp [z1, z2, z3]
                    repeat' with_reducible (first
                      | refine ZR.h ?_ | refine zI (by decide) ?_
                      | ((first | refine zK hE ?_ | refine zL hE mixT ?_); intro K hK; simp [KR.ks, KD.ks, KD.cl, q13_0, q13_1, q13_2, q13_3, q13_4, q13_5, q13_6, q13_7, q13_8, q13_9, q13_10, q13_11, q13_12, q13_13, q13_14, q13_15, q13_16, q13_17, hT, hC, hD, hl, hk, lT, lC, ll, lD, hjt, hji, hg, hge, wj, w1, w2, z1, z2, z3]; (repeat' (first | refine hK _ _ ?_ | refine And.intro ?_ ?_ | (intro hc; try subst hc))) <;> (try clear hK K))
                      | (refine zJ (b := _) (by with_unfolding_all rfl) (fun hc => ?_) (fun hc => ?_) <;> simp at hc <;> (try subst hc)))
                    all_goals first | (exfalso; omega) | skip
                    all_goals refine ⟨j + 1, hjt, Nat.sub_lt_sub_left hjt (Nat.lt_succ_self j), ?_⟩
                    all_goals simp only [I13b, s1]
                    all_goals rw [hS]
                    all_goals (refine Imp.auto (by kernel_rfl) ?_ ?_ <;> simp [NLe, mkPlX, hT, hC, hl, lT, lC, ll])
                ·
                  have s1 : atZ p (keepZ (prA nn ss) (l.take (j + 1))) = u := by rw [hst]; simp [z1, z2]
                  repeat' with_reducible (first
                    | refine ZR.h ?_ | refine zI (by decide) ?_
                    | ((first | refine zK hE ?_ | refine zL hE mixT ?_); intro K hK; simp [KR.ks, KD.ks, KD.cl, q13_0, q13_1, q13_2, q13_3, q13_4, q13_5, q13_6, q13_7, q13_8, q13_9, q13_10, q13_11, q13_12, q13_13, q13_14, q13_15, q13_16, q13_17, hT, hC, hD, hl, hk, lT, lC, ll, lD, hjt, hji, hg, hge, wj, w1, w2, z1, z2]; (repeat' (first | refine hK _ _ ?_ | refine And.intro ?_ ?_ | (intro hc; try subst hc))) <;> (try clear hK K))
                    | (refine zJ (b := _) (by with_unfolding_all rfl) (fun hc => ?_) (fun hc => ?_) <;> simp at hc <;> (try subst hc)))
                  all_goals first | (exfalso; omega) | skip
                  all_goals refine ⟨j + 1, hjt, Nat.sub_lt_sub_left hjt (Nat.lt_succ_self j), ?_⟩
                  all_goals simp only [I13b, s1]
                  all_goals rw [hS]
                  all_goals (refine Imp.auto (by kernel_rfl) ?_ ?_ <;> simp [NLe, mkPlX, hT, hC, hl, lT, lC, ll])
              ·
                have s1 : atZ p (keepZ (prA nn ss) (l.take (j + 1))) = u := by rw [hst]; simp [z1]
                repeat' with_reducible (first
                  | refine ZR.h ?_ | refine zI (by decide) ?_
                  | ((first | refine zK hE ?_ | refine zL hE mixT ?_); intro K hK; simp [KR.ks, KD.ks, KD.cl, q13_0, q13_1, q13_2, q13_3, q13_4, q13_5, q13_6, q13_7, q13_8, q13_9, q13_10, q13_11, q13_12, q13_13, q13_14, q13_15, q13_16, q13_17, hT, hC, hD, hl, hk, lT, lC, ll, lD, hjt, hji, hg, hge, wj, w1, w2, z1]; (repeat' (first | refine hK _ _ ?_ | refine And.intro ?_ ?_ | (intro hc; try subst hc))) <;> (try clear hK K))
                  | (refine zJ (b := _) (by with_unfolding_all rfl) (fun hc => ?_) (fun hc => ?_) <;> simp at hc <;> (try subst hc)))
                all_goals first | (exfalso; omega) | skip
                all_goals refine ⟨j + 1, hjt, Nat.sub_lt_sub_left hjt (Nat.lt_succ_self j), ?_⟩
                all_goals simp only [I13b, s1]
                all_goals rw [hS]
                all_goals (refine Imp.auto (by kernel_rfl) ?_ ?_ <;> simp [NLe, mkPlX, hT, hC, hl, lT, lC, ll])
            obtain rfl : j = l.length := by omega
            have hji : ¬ ((l.length : Int) < (l.length : Int)) := by omega
            rw [List.take_length]
            generalize atZ p (keepZ (prA nn ss) l) = u at hst0 hpp ⊢
            obtain ⟨up, ul, uo⟩ := u
            simp only at hpp hst0 ⊢
            subst hpp
            by_cases hpos : 0 < uo
            · rw [if_pos hpos] at hst0
              have g1 := lz_app L ⟨up, ul, uo⟩
              have g2 := lz_t0 (L ++ [⟨up, ul, uo⟩])
              have g3 := lz_cl (L ++ [⟨up, ul, uo⟩])
              have g4 := lz_len (L ++ [⟨up, ul, uo⟩])
              have htl : ∀ q, tlLL q (lzLL L) = true := fun q => lz_tl q _
              simp only [lzC] at g1
              have u1 : (L.length + 1) * 24 ≤ 140737488355328 := by omega
              have u2 : L.length + 1 ≤ 9223372036854775807 := by omega
              have u3 : L.length ≤ 9223372036854775806 := by omega
              repeat' with_reducible (first
                | refine ZR.h ?_ | refine zI (by decide) ?_
                | ((first | refine zK hE ?_ | refine zL hE mixT ?_); intro K hK; simp [KR.ks, KD.ks, KD.cl, q13_0, q13_1, q13_2, q13_3, q13_4, q13_5, q13_6, q13_7, q13_8, q13_9, q13_10, q13_11, q13_12, q13_13, q13_14, q13_15, q13_16, q13_17, hT, hC, hD, hl, hk, lT, lC, ll, lD, hji, hpos, wk, g1, g2, g3, g4, htl, u1, u2, u3]; (repeat' (first | refine hK _ _ ?_ | refine And.intro ?_ ?_ | (intro hc; try subst hc))) <;> (try clear hK K))
                | (refine zJ (b := _) (by with_unfolding_all rfl) (fun hc => ?_) (fun hc => ?_) <;> simp at hc <;> (try subst hc)))
              all_goals first | (exfalso; omega) | skip
              all_goals refine ⟨k + 1, hlt, Nat.sub_lt_sub_left hlt (Nat.lt_succ_self k), ?_⟩
              all_goals simp only [I13, hst0]
              all_goals rw [hS]
              all_goals (refine Imp.auto (by kernel_rfl) ?_ ?_ <;> simp [NLe, mkPlX, hT, hC, hl, g1, g2, g3, g4, hpv])
            · rw [if_neg hpos] at hst0
              repeat' with_reducible (first
                | refine ZR.h ?_ | refine zI (by decide) ?_
                | ((first | refine zK hE ?_ | refine zL hE mixT ?_); intro K hK; simp [KR.ks, KD.ks, KD.cl, q13_0, q13_1, q13_2, q13_3, q13_4, q13_5, q13_6, q13_7, q13_8, q13_9, q13_10, q13_11, q13_12, q13_13, q13_14, q13_15, q13_16, q13_17, hT, hC, hD, hl, hk, lT, lC, ll, lD, hji, hpos, wk]; (repeat' (first | refine hK _ _ ?_ | refine And.intro ?_ ?_ | (intro hc; try subst hc))) <;> (try clear hK K))
                | (refine zJ (b := _) (by with_unfolding_all rfl) (fun hc => ?_) (fun hc => ?_) <;> simp at hc <;> (try subst hc)))
              all_goals first | (exfalso; omega) | skip
              all_goals refine ⟨k + 1, hlt, Nat.sub_lt_sub_left hlt (Nat.lt_succ_self k), ?_⟩
              all_goals simp only [I13, hst0]
              all_goals rw [hS]
              all_goals (refine Imp.auto (by kernel_rfl) ?_ ?_ <;> simp [NLe, mkPlX, hT, hC, hl, lT, lC, ll, hpv])
          · have hpv : ((k : Int) + 1) = p := by rw [hp]; unfold prZ; rw [if_neg h0]
            repeat' with_reducible (first
              | refine ZR.h ?_ | refine zI (by decide) ?_
              | ((first | refine zK hE ?_ | refine zL hE mixT ?_); intro K hK; simp [KR.ks, KD.ks, KD.cl, q13_0, q13_1, q13_2, q13_3, q13_4, q13_5, q13_6, q13_7, q13_8, q13_9, q13_10, q13_11, q13_12, q13_13, q13_14, q13_15, q13_16, q13_17, hT, hC, hD, hl, hk, lT, lC, ll, lD, hki, hki2, h0]; (repeat' (first | refine hK _ _ ?_ | refine And.intro ?_ ?_ | (intro hc; try subst hc))) <;> (try clear hK K))
              | (refine zJ (b := _) (by with_unfolding_all rfl) (fun hc => ?_) (fun hc => ?_) <;> simp at hc <;> (try subst hc)))
            all_goals first | (exfalso; omega) | skip
            all_goals rw [hpv]
            all_goals (refine Wm_loop (fun j => I13b nn ss l L k p j) (fun j => j ≤ l.length) (fun j => l.length - j) 0 (Nat.zero_le _) ?_ ?_)
            · simp only [I13b, List.take_zero, show atZ p (keepZ (prA nn ss) []) = ⟨p, 0, 0⟩ from rfl]
              rw [hS]
              (refine Imp.auto (by kernel_rfl) ?_ ?_ <;> simp [NLe, mkPlX, hT, hC, hl, lT, lC, ll, hpv])
            rintro j hjl
            (try simp only at hjl)
            simp only [I13b]
            by_cases hjt : j < l.length
            · obtain ⟨x, hx⟩ : ∃ x, l[j]? = some x := ⟨_, List.getElem?_eq_getElem hjt⟩
              obtain ⟨hg, hge⟩ := oz_at hx
              have hji : (j : Int) < (l.length : Int) := by omega
              have wj : IntKind.wrap .i64 ((j : Int) + 1) = (j : Int) + 1 := wrap_in (by omega) (by omega)
              have hq := hob x (List.mem_of_getElem? hx)
              have hkm : ∀ o ∈ keepZ (prA nn ss) (l.take j), 0 ≤ o.q ∧ o.q ≤ 9999 := fun o ho => (hob o (List.mem_of_mem_take (List.mem_filter.1 ho).1)).2.2
              have hkln := keep_len (prA nn ss) (l.take j)
              rw [List.length_take, Nat.min_eq_left hjl] at hkln
              have b1 := at_l p hkm
              have b2 := at_o p (keepZ (prA nn ss) (l.take j))
              have hst := at_keep p nn ss (l.take j) x
              rw [← take_snoc hx] at hst
              have hup : (atZ p (keepZ (prA nn ss) (l.take j))).p = p := at_p _ _
              generalize atZ p (keepZ (prA nn ss) (l.take j)) = u at hst b1 b2 hup ⊢
              have w1 : IntKind.wrap .i64 (u.l + x.q) = u.l + x.q := wrap_in (by omega) (by omega)
              have w2 : IntKind.wrap .i64 (u.o + 1) = u.o + 1 := wrap_in (by omega) (by omega)
              simp only [ozC] at hg hge
              by_cases z1 : x.n = nn
              · by_cases z2 : x.s = ss
                · by_cases z3 : x.p = p
                  ·
                    have s1 : atZ p (keepZ (prA nn ss) (l.take (j + 1))) = ⟨p, u.l + x.q, u.o + 1⟩ := by rw [hst]; simp [z1, z2, z3]
                    repeat' with_reducible (first
                      | refine ZR.h ?_ | refine zI (by decide) ?_
                      | ((first | refine zK hE ?_ | refine zL hE mixT ?_); intro K hK; simp [KR.ks, KD.ks, KD.cl, q13_0, q13_1, q13_2, q13_3, q13_4, q13_5, q13_6, q13_7, q13_8, q13_9, q13_10, q13_11, q13_12, q13_13, q13_14, q13_15, q13_16, q13_17, hT, hC, hD, hl, hk, lT, lC, ll, lD, hjt, hji, hg, hge, wj, w1, w2, z1, z2, z3]; (repeat' (first | refine hK _ _ ?_ | refine And.intro ?_ ?_ | (intro hc; try subst hc))) <;> (try clear hK K))
                      | (refine zJ (b := _) (by with_unfolding_all rfl) (fun hc => ?_) (fun hc => ?_) <;> simp at hc <;> (try subst hc)))
                    all_goals first | (exfalso; omega) | skip
                    all_goals refine ⟨j + 1, hjt, Nat.sub_lt_sub_left hjt (Nat.lt_succ_self j), ?_⟩
                    all_goals simp only [I13b, s1]
                    all_goals rw [hS]
                    all_goals (refine Imp.auto (by kernel_rfl) ?_ ?_ <;> simp [NLe, mkPlX, hT, hC, hl, lT, lC, ll])
                  ·
                    have s1 : atZ p (keepZ (prA nn ss) (l.take (j + 1))) = u := by rw [hst]; simp [z1, z2, z3]
                    repeat' with_reducible (first
                      | refine ZR.h ?_ | refine zI (by decide) ?_
                      | ((first | refine zK hE ?_ | refine zL hE mixT ?_); intro K hK; simp [KR.ks, KD.ks, KD.cl, q13_0, q13_1, q13_2, q13_3, q13_4, q13_5, q13_6, q13_7, q13_8, q13_9, q13_10, q13_11, q13_12, q13_13, q13_14, q13_15, q13_16, q13_17, hT, hC, hD, hl, hk, lT, lC, ll, lD, hjt, hji, hg, hge, wj, w1, w2, z1, z2, z3]; (repeat' (first | refine hK _ _ ?_ | refine And.intro ?_ ?_ | (intro hc; try subst hc))) <;> (try clear hK K))
                      | (refine zJ (b := _) (by with_unfolding_all rfl) (fun hc => ?_) (fun hc => ?_) <;> simp at hc <;> (try subst hc)))
                    all_goals first | (exfalso; omega) | skip
                    all_goals refine ⟨j + 1, hjt, Nat.sub_lt_sub_left hjt (Nat.lt_succ_self j), ?_⟩
                    all_goals simp only [I13b, s1]
                    all_goals rw [hS]
                    all_goals (refine Imp.auto (by kernel_rfl) ?_ ?_ <;> simp [NLe, mkPlX, hT, hC, hl, lT, lC, ll])
                ·
                  have s1 : atZ p (keepZ (prA nn ss) (l.take (j + 1))) = u := by rw [hst]; simp [z1, z2]
                  repeat' with_reducible (first
                    | refine ZR.h ?_ | refine zI (by decide) ?_
                    | ((first | refine zK hE ?_ | refine zL hE mixT ?_); intro K hK; simp [KR.ks, KD.ks, KD.cl, q13_0, q13_1, q13_2, q13_3, q13_4, q13_5, q13_6, q13_7, q13_8, q13_9, q13_10, q13_11, q13_12, q13_13, q13_14, q13_15, q13_16, q13_17, hT, hC, hD, hl, hk, lT, lC, ll, lD, hjt, hji, hg, hge, wj, w1, w2, z1, z2]; (repeat' (first | refine hK _ _ ?_ | refine And.intro ?_ ?_ | (intro hc; try subst hc))) <;> (try clear hK K))
                    | (refine zJ (b := _) (by with_unfolding_all rfl) (fun hc => ?_) (fun hc => ?_) <;> simp at hc <;> (try subst hc)))
                  all_goals first | (exfalso; omega) | skip
                  all_goals refine ⟨j + 1, hjt, Nat.sub_lt_sub_left hjt (Nat.lt_succ_self j), ?_⟩
                  all_goals simp only [I13b, s1]
                  all_goals rw [hS]
                  all_goals (refine Imp.auto (by kernel_rfl) ?_ ?_ <;> simp [NLe, mkPlX, hT, hC, hl, lT, lC, ll])
              ·
                have s1 : atZ p (keepZ (prA nn ss) (l.take (j + 1))) = u := by rw [hst]; simp [z1]
                repeat' with_reducible (first
                  | refine ZR.h ?_ | refine zI (by decide) ?_
                  | ((first | refine zK hE ?_ | refine zL hE mixT ?_); intro K hK; simp [KR.ks, KD.ks, KD.cl, q13_0, q13_1, q13_2, q13_3, q13_4, q13_5, q13_6, q13_7, q13_8, q13_9, q13_10, q13_11, q13_12, q13_13, q13_14, q13_15, q13_16, q13_17, hT, hC, hD, hl, hk, lT, lC, ll, lD, hjt, hji, hg, hge, wj, w1, w2, z1]; (repeat' (first | refine hK _ _ ?_ | refine And.intro ?_ ?_ | (intro hc; try subst hc))) <;> (try clear hK K))
                  | (refine zJ (b := _) (by with_unfolding_all rfl) (fun hc => ?_) (fun hc => ?_) <;> simp at hc <;> (try subst hc)))
                all_goals first | (exfalso; omega) | skip
                all_goals refine ⟨j + 1, hjt, Nat.sub_lt_sub_left hjt (Nat.lt_succ_self j), ?_⟩
                all_goals simp only [I13b, s1]
                all_goals rw [hS]
                all_goals (refine Imp.auto (by kernel_rfl) ?_ ?_ <;> simp [NLe, mkPlX, hT, hC, hl, lT, lC, ll])
            obtain rfl : j = l.length := by omega
            have hji : ¬ ((l.length : Int) < (l.length : Int)) := by omega
            rw [List.take_length]
            generalize atZ p (keepZ (prA nn ss) l) = u at hst0 hpp ⊢
            obtain ⟨up, ul, uo⟩ := u
            simp only at hpp hst0 ⊢
            subst hpp
            by_cases hpos : 0 < uo
            · rw [if_pos hpos] at hst0
              have g1 := lz_app L ⟨up, ul, uo⟩
              have g2 := lz_t0 (L ++ [⟨up, ul, uo⟩])
              have g3 := lz_cl (L ++ [⟨up, ul, uo⟩])
              have g4 := lz_len (L ++ [⟨up, ul, uo⟩])
              have htl : ∀ q, tlLL q (lzLL L) = true := fun q => lz_tl q _
              simp only [lzC] at g1
              have u1 : (L.length + 1) * 24 ≤ 140737488355328 := by omega
              have u2 : L.length + 1 ≤ 9223372036854775807 := by omega
              have u3 : L.length ≤ 9223372036854775806 := by omega
              repeat' with_reducible (first
                | refine ZR.h ?_ | refine zI (by decide) ?_
                | ((first | refine zK hE ?_ | refine zL hE mixT ?_); intro K hK; simp [KR.ks, KD.ks, KD.cl, q13_0, q13_1, q13_2, q13_3, q13_4, q13_5, q13_6, q13_7, q13_8, q13_9, q13_10, q13_11, q13_12, q13_13, q13_14, q13_15, q13_16, q13_17, hT, hC, hD, hl, hk, lT, lC, ll, lD, hji, hpos, wk, g1, g2, g3, g4, htl, u1, u2, u3]; (repeat' (first | refine hK _ _ ?_ | refine And.intro ?_ ?_ | (intro hc; try subst hc))) <;> (try clear hK K))
                | (refine zJ (b := _) (by with_unfolding_all rfl) (fun hc => ?_) (fun hc => ?_) <;> simp at hc <;> (try subst hc)))
              all_goals first | (exfalso; omega) | skip
              all_goals refine ⟨k + 1, hlt, Nat.sub_lt_sub_left hlt (Nat.lt_succ_self k), ?_⟩
              all_goals simp only [I13, hst0]
              all_goals rw [hS]
              all_goals (refine Imp.auto (by kernel_rfl) ?_ ?_ <;> simp [NLe, mkPlX, hT, hC, hl, g1, g2, g3, g4, hpv])
            · rw [if_neg hpos] at hst0
              repeat' with_reducible (first
                | refine ZR.h ?_ | refine zI (by decide) ?_
                | ((first | refine zK hE ?_ | refine zL hE mixT ?_); intro K hK; simp [KR.ks, KD.ks, KD.cl, q13_0, q13_1, q13_2, q13_3, q13_4, q13_5, q13_6, q13_7, q13_8, q13_9, q13_10, q13_11, q13_12, q13_13, q13_14, q13_15, q13_16, q13_17, hT, hC, hD, hl, hk, lT, lC, ll, lD, hji, hpos, wk]; (repeat' (first | refine hK _ _ ?_ | refine And.intro ?_ ?_ | (intro hc; try subst hc))) <;> (try clear hK K))
                | (refine zJ (b := _) (by with_unfolding_all rfl) (fun hc => ?_) (fun hc => ?_) <;> simp at hc <;> (try subst hc)))
              all_goals first | (exfalso; omega) | skip
              all_goals refine ⟨k + 1, hlt, Nat.sub_lt_sub_left hlt (Nat.lt_succ_self k), ?_⟩
              all_goals simp only [I13, hst0]
              all_goals rw [hS]
              all_goals (refine Imp.auto (by kernel_rfl) ?_ ?_ <;> simp [NLe, mkPlX, hT, hC, hl, lT, lC, ll, hpv])
        obtain rfl : k = 9999 := by omega
        have hki : ¬ (((9999 : Nat) : Int) + 1 ≤ 9999) := by omega
        have hki2 : (9999 : Int) < ((9999 : Nat) : Int) + 1 := by omega
        rw [levTo_all]
        have lT := lz_t0 (levelsZ ss (keepZ (prA nn ss) l))
        have lC := lz_cl (levelsZ ss (keepZ (prA nn ss) l))
        have ll := lz_len (levelsZ ss (keepZ (prA nn ss) l))
        generalize levelsZ ss (keepZ (prA nn ss) l) = L at lT lC ll ⊢
        repeat' with_reducible (first
          | refine ZR.h ?_ | refine zI (by decide) ?_
          | ((first | refine zK hE ?_ | refine zL hE mixT ?_); intro K hK; simp [KR.ks, KD.ks, KD.cl, q13_0, q13_1, q13_2, q13_3, q13_4, q13_5, q13_6, q13_7, q13_8, q13_9, q13_10, q13_11, q13_12, q13_13, q13_14, q13_15, q13_16, q13_17, hT, hC, hD, hl, hk, hki, hki2]; (repeat' (first | refine hK _ _ ?_ | refine And.intro ?_ ?_ | (intro hc; try subst hc))) <;> (try clear hK K))
          | (refine zJ (b := _) (by with_unfolding_all rfl) (fun hc => ?_) (fun hc => ?_) <;> simp at hc <;> (try subst hc)))
        all_goals first | (simp; done) | (simp at *; omega) | ((try simp[hT, hC, hl, lT, lC, ll]); refine Imp.auto (by kernel_rfl) ?_ ?_ <;> simp [NLe, hT, hC, hl, lT, lC, ll])
      · cases h
    · cases h
  · cases h
end Go.W
