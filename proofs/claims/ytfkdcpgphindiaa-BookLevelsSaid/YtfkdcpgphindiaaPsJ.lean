/- A part of the proof (BbJ, PsJ). -/
import Derived.Test.YtfkdcpgphindiaaBbG
import Derived.Test.YtfkdcpgphindiaaPsI
import Derived.Test.YtfkdcpgphindiaaPqA
namespace Go.W
open Go.Proofs
set_option linter.unusedSimpArgs false
set_option linter.unusedVariables false
set_option maxHeartbeats 8000000
attribute [local irreducible] Wm
attribute [local simp] nmap lkp mkPl prs prsL prT ddL idL CRenL CRen Ren RenL NObj.none CRenLL

theorem lev_len (s : Int) (os : List OZ) : (levelsZ s os).length ≤ 9999 := by
  unfold levelsZ
  exact Nat.le_trans (List.length_filterMap_le _ _) (by rw [List.length_range]; exact Nat.le_refl _)
def buyA (p n : Int) (o : OZ) : Int := if p ≤ o.p then n + o.q else n
def sellA (p n : Int) (o : OZ) : Int := if o.p ≤ p then n + o.q else n
def buyS (p : Int) (os : List OZ) : Int := os.foldl (buyA p) 0
def sellS (p : Int) (os : List OZ) : Int := os.foldl (sellA p) 0
theorem buy_snoc (p : Int) (os : List OZ) (x : OZ) : buyS p (os ++ [x]) = buyA p (buyS p os) x := by unfold buyS; rw [List.foldl_append]; rfl
theorem sell_snoc (p : Int) (os : List OZ) (x : OZ) : sellS p (os ++ [x]) = sellA p (sellS p os) x := by unfold sellS; rw [List.foldl_append]; rfl
theorem acc_bnd (f : Int → OZ → Int) (hf : ∀ n x, 0 ≤ x.q → f n x = n ∨ f n x = n + x.q) {os : List OZ} (h : ∀ o ∈ os, 1 ≤ o.p ∧ o.p ≤ 9999 ∧ 0 ≤ o.q ∧ o.q ≤ 9999) : 0 ≤ os.foldl f 0 ∧ os.foldl f 0 ≤ 9999 * os.length := by
  revert h
  refine snoc_ind (m := fun os => (∀ o ∈ os, 1 ≤ o.p ∧ o.p ≤ 9999 ∧ 0 ≤ o.q ∧ o.q ≤ 9999) → 0 ≤ os.foldl f 0 ∧ os.foldl f 0 ≤ 9999 * os.length) (fun _ => by simp) (fun l x ih h => ?_) os
  have h1 := ih fun o ho => h o (List.mem_append_left _ ho)
  have h2 := h x (by simp)
  rw [List.foldl_append, List.length_append, List.length_singleton]
  simp only [List.foldl_cons, List.foldl_nil]
  rcases hf (l.foldl f 0) x (by omega) with e | e <;> rw [e] <;> omega
theorem buy_bnd (p : Int) {os : List OZ} (h : ∀ o ∈ os, 1 ≤ o.p ∧ o.p ≤ 9999 ∧ 0 ≤ o.q ∧ o.q ≤ 9999) : 0 ≤ buyS p os ∧ buyS p os ≤ 9999 * os.length := acc_bnd (buyA p) (fun n x _ => by unfold buyA; split <;> simp) h
theorem sell_bnd (p : Int) {os : List OZ} (h : ∀ o ∈ os, 1 ≤ o.p ∧ o.p ≤ 9999 ∧ 0 ≤ o.q ∧ o.q ≤ 9999) : 0 ≤ sellS p os ∧ sellS p os ≤ 9999 * os.length := acc_bnd (sellA p) (fun n x _ => by unfold sellA; split <;> simp) h
def lessI (x y : Int) : Int := if y < x then y else x
def crStep (B S : List OZ) (st : Int × Int) (x : LZ) : Int × Int := if st.2 < lessI (buyS x.p B) (sellS x.p S) ∨ (lessI (buyS x.p B) (sellS x.p S) = st.2 ∧ 0 < lessI (buyS x.p B) (sellS x.p S) ∧ x.p < st.1) then (x.p, lessI (buyS x.p B) (sellS x.p S)) else st
def crossS (B S : List OZ) (L : List LZ) : Int × Int := L.foldl (crStep B S) (0, 0)
theorem cross_snoc (B S : List OZ) (L : List LZ) (x : LZ) : crossS B S (L ++ [x]) = crStep B S (crossS B S L) x := by unfold crossS; rw [List.foldl_append]; rfl
/-- AT WHICH PRICE MOST COULD BE EXCHANGED, AND HOW MUCH. -/
def crossZ (n : Int) (l : List OZ) : Int × Int := crossS (keepZ (prA n 0) l) (keepZ (prA n 1) l) (levelsZ 0 (keepZ (prA n 0) l) ++ levelsZ 1 (keepZ (prA n 1) l))
def I16 (a b c d e f g nn : Int) (l B S : List OZ) (L : List LZ) (k : Nat) : St := ⟨[(1, .int .i64 nn), (2, .ptr (.top 1) 0 0), (4, .int .i64 (crossS B S (L.take k)).1), (5, .int .i64 (crossS B S (L.take k)).2), (21, .sl (.top 2) 0 L.length), (22, .int .i64 L.length), (23, .int .i64 k)], [(0, .view 0 7 (ozLL l)), (1, .cells 0 [.int .i64 a, .int .i64 b, .int .i64 c, .int .i64 d, .int .i64 e, .int .i64 f, .int .i64 g, .sl (.top 0) 0 l.length]), (2, .arr 0 3 (lzLL L))], 3⟩
def I16b (a b c d e f g nn : Int) (l B : List OZ) (L : List LZ) (k : Nat) (pr qt : Int) (x : LZ) (j : Nat) : St := ⟨[(1, .int .i64 nn), (2, .ptr (.top 1) 0 0), (4, .int .i64 pr), (5, .int .i64 qt), (7, .ptr (.top 3) 0 0), (8, .int .i64 (buyS x.p (B.take j))), (9, .int .i64 0), (21, .sl (.top 2) 0 L.length), (22, .int .i64 L.length), (23, .int .i64 k), (29, .sl (.top 4) 0 B.length), (30, .int .i64 B.length), (31, .int .i64 j)], [(0, .view 0 7 (ozLL l)), (1, .cells 0 [.int .i64 a, .int .i64 b, .int .i64 c, .int .i64 d, .int .i64 e, .int .i64 f, .int .i64 g, .sl (.top 0) 0 l.length]), (2, .arr 0 3 (lzLL L)), (3, .cells 0 [.int .i64 x.p, .int .i64 x.l, .int .i64 x.o]), (4, .arr 0 7 (ozLL B))], 5⟩
def I16c (a b c d e f g nn : Int) (l S : List OZ) (L : List LZ) (k : Nat) (pr qt bb : Int) (x : LZ) (j : Nat) : St := ⟨[(1, .int .i64 nn), (2, .ptr (.top 1) 0 0), (4, .int .i64 pr), (5, .int .i64 qt), (7, .ptr (.top 3) 0 0), (8, .int .i64 bb), (9, .int .i64 (sellS x.p (S.take j))), (21, .sl (.top 2) 0 L.length), (22, .int .i64 L.length), (23, .int .i64 k), (48, .sl (.top 4) 0 S.length), (49, .int .i64 S.length), (50, .int .i64 j)], [(0, .view 0 7 (ozLL l)), (1, .cells 0 [.int .i64 a, .int .i64 b, .int .i64 c, .int .i64 d, .int .i64 e, .int .i64 f, .int .i64 g, .sl (.top 0) 0 l.length]), (2, .arr 0 3 (lzLL L)), (3, .cells 0 [.int .i64 x.p, .int .i64 x.l, .int .i64 x.o]), (4, .arr 0 7 (ozLL S))], 5⟩

def d16 : List AV → List NObj → Option AV
  | [.agg [.int .i64 a, .int .i64 b, .int .i64 c, .int .i64 d, .int .i64 e, .int .i64 f, .int .i64 g, .sl (.top 0) 0 n], .int .i64 nn], [.view 0 7 els] => (match mapV ozOf els with
    | some l => if n = els.length ∧ okO l = true then some (.tup [.int .i64 (crossZ nn l).1, .int .i64 (crossZ nn l).2]) else none
    | none => none)
  | _, _ => none
theorem ok16 : ROk d16 := by
  intro xs os r h
  unfold d16 at h
  split at h
  · split at h
    · split at h
      · injection h with h; subst h; simp
      · cases h
    · cases h
  · cases h
theorem s16 : Sound Try.prog 16 (rdS d16 ok16) := by
  refine rd_sound Try.func16 nm16 rc16 rv16 ok16 fun xs os r h vs ρ0 hvs => ⟨xs, ?_, fun _ h => h, fun w0 S hS => ?_⟩
  · unfold d16 at h
    (repeat' (split at h)) <;> first | (cases h; done) | exact Nat.le_of_ble_eq_true rfl
  unfold d16 at h
  split at h
  · rename_i a b c d e f g n nn els
    split at h
    · rename_i l hml
      obtain rfl := mapV_ex (g := ozC) (fun _ _ => ozOf_ex) hml
      clear hml
      split at h
      · rename_i hcond
        injection h with h
        subst h
        obtain ⟨rfl, hok⟩ := hcond
        simp only [oz_map, oz_len] at hvs hS ⊢
        have hlen := (okO_ex hok).1
        have hob := (okO_ex hok).2
        have hE : SoundAll Try.prog (EL [(12, rdS d12 ok12), (29, rdS d29 ok29)]) := EL_sound (by simp only [List.mem_cons, List.not_mem_nil, or_false, forall_eq_or_imp, forall_eq]; exact ⟨s12, s29⟩)
        have hl := oz_len l
        have hD := oz_dat l
        have hT := oz_t0 l
        have hC := oz_cl l
        have hk : (ozLL l).take l.length = ozLL l := List.take_of_length_le (by rw [hl]; exact Nat.le_refl _)
        have hm : mapV ozOf (ozLL l) = some l := mapV_map (f := ozOf) (g := ozC) ozOf_C l
        have hS1 := hS
        have hokB := side_ok hok nn 0
        have hokS := side_ok hok nn 1
        have h12 : ∀ s, d12 [.agg [.int .i64 a, .int .i64 b, .int .i64 c, .int .i64 d, .int .i64 e, .int .i64 f, .int .i64 g, .sl (.top 0) 0 l.length], .int .i64 nn, .int .i64 s] [.view 0 7 (ozLL l)] = some (.os 0 3 (lzLL (levelsZ s (keepZ (prA nn s) l)))) := fun s => by
          simp only [d12, hm, hl]
          rw [if_pos ⟨trivial, hok⟩]
        have h29 : ∀ s, d29 [.agg [.int .i64 a, .int .i64 b, .int .i64 c, .int .i64 d, .int .i64 e, .int .i64 f, .int .i64 g, .sl (.top 0) 0 l.length], .int .i64 nn, .int .i64 s] [.view 0 7 (ozLL l)] = some (.os 0 7 (ozLL (keepZ (prA nn s) l))) := fun s => by
          simp only [d29, hm, hl]
          rw [if_pos ⟨trivial, hlen⟩]
        have g0 := h12 0
        have g1 := h12 1
        have j0 := h29 0
        have j1 := h29 1
        clear h12 h29
        have n0 := lev_len 0 (keepZ (prA nn 0) l)
        have n1 := lev_len 1 (keepZ (prA nn 1) l)
        simp only [crossZ]
        generalize keepZ (prA nn 0) l = B at *
        generalize keepZ (prA nn 1) l = Z at *
        generalize levelsZ 0 B = L0 at *
        generalize levelsZ 1 Z = L1 at *
        have Bb := (okO_ex hokB).2
        have Zb := (okO_ex hokS).2
        have Bn := (okO_ex hokB).1
        have Zn := (okO_ex hokS).1
        have Bt := oz_t0 B
        have Bc := oz_cl B
        have Bl := oz_len B
        have Bd := oz_dat B
        have Zt := oz_t0 Z
        have Zc := oz_cl Z
        have Zl := oz_len Z
        have Zd := oz_dat Z
        have l0l := lz_len L0
        have l1l := lz_len L1
        have l0d := lz_dat L0
        have l1d := lz_dat L1
        have l1p := lz_all L1
        have l1q := lz_pl L1
        have l0t : ∀ q, tlLL q (lzLL L0) = true := fun q => lz_tl q _
        have l1t : ∀ q, tlLL q (lzLL L1) = true := fun q => lz_tl q _
        have k1 : (lzLL L1).take L1.length = lzLL L1 := List.take_of_length_le (by rw [l1l]; exact Nat.le_refl _)
        have ap := lz_apps L0 L1
        have u1 : (L0.length + L1.length) * 24 ≤ 140737488355328 := by omega
        have u2 : L0.length + L1.length ≤ 9223372036854775807 := by omega
        have u3 : L0.length ≤ 9223372036854775807 - L1.length := by omega
        have hLl : (L0 ++ L1).length = L0.length + L1.length := List.length_append
        have hLn : (L0 ++ L1).length ≤ 100000 := by omega
        have lT := lz_t0 (L0 ++ L1)
        have lC := lz_cl (L0 ++ L1)
        have ll := lz_len (L0 ++ L1)
        have lD := lz_dat (L0 ++ L1)
        unfold m16
        repeat' with_reducible (first
          | refine ZR.h ?_ | refine zI (by decide) ?_
          | ((first | refine zK hE ?_ | refine zL hE mixT ?_); intro K hK; simp [KR.ks, KD.ks, KD.cl, q16_0, q16_1, q16_2, q16_3, q16_4, q16_5, q16_6, q16_7, q16_8, q16_9, q16_10, q16_11, q16_12, q16_13, q16_14, q16_15, q16_16, q16_17, q16_18, q16_19, q16_20, q16_21, hD, hl, hT, hC, hk, g0, g1, l0l, l1l, l0d, l1d, l1p, l1q, l0t, l1t, k1, ap, u1, u2, u3]; (repeat' (first | refine hK _ _ ?_ | refine And.intro ?_ ?_ | (intro hc; try subst hc))) <;> (try clear hK K))
          | (refine zJ (b := _) (by with_unfolding_all rfl) (fun hc => ?_) (fun hc => ?_) <;> simp at hc <;> (try subst hc)))
        generalize L0 ++ L1 = L at *
        all_goals (refine Wm_loop (fun k => I16 a b c d e f g nn l B Z L k) (fun k => k ≤ L.length) (fun k => L.length - k) 0 (Nat.zero_le _) ?_ ?_)
        · simp only [I16, List.take_zero]
          rw [hS]
          (refine Imp.auto (by kernel_rfl) ?_ ?_ <;> simp [NLe, mkPlX, hT, hC, hl, lT, lC, ll, hLl, crossS])
        clear l0l l1l l0d l1d l1p l1q l0t l1t k1 ap u1 u2 u3 hLl g0 g1 n0 n1
        rintro k hkl
        (try simp only at hkl)
        simp only [I16]
        by_cases hlt : k < L.length
        · obtain ⟨x, hx⟩ : ∃ x, L[k]? = some x := ⟨_, List.getElem?_eq_getElem hlt⟩
          obtain ⟨hg, hge⟩ := lz_at hx
          have hki : (k : Int) < (L.length : Int) := by omega
          have wk : IntKind.wrap .i64 ((k : Int) + 1) = (k : Int) + 1 := wrap_in (by omega) (by omega)
          have hstep : crossS B Z (L.take (k + 1)) = crStep B Z (crossS B Z (L.take k)) x := by rw [take_snoc hx, cross_snoc]
          generalize crossS B Z (L.take k) = st at hstep ⊢
          obtain ⟨pr, qt⟩ := st
          simp only [crStep] at hstep ⊢
          simp only [lzC] at hg hge
          repeat' with_reducible (first
            | refine ZR.h ?_ | refine zI (by decide) ?_
            | ((first | refine zK hE ?_ | refine zL hE mixT ?_); intro K hK; simp [KR.ks, KD.ks, KD.cl, q16_0, q16_1, q16_2, q16_3, q16_4, q16_5, q16_6, q16_7, q16_8, q16_9, q16_10, q16_11, q16_12, q16_13, q16_14, q16_15, q16_16, q16_17, q16_18, q16_19, q16_20, q16_21, hT, hC, hD, hl, hk, lT, lC, ll, lD, Bt, Bc, Bl, Bd, hlt, hki, hg, hge, j0]; (repeat' (first | refine hK _ _ ?_ | refine And.intro ?_ ?_ | (intro hc; try subst hc))) <;> (try clear hK K))
            | (refine zJ (b := _) (by with_unfolding_all rfl) (fun hc => ?_) (fun hc => ?_) <;> simp at hc <;> (try subst hc)))
          all_goals first | (exfalso; omega) | skip
          all_goals (refine Wm_loop (fun j => I16b a b c d e f g nn l B L k pr qt x j) (fun j => j ≤ B.length) (fun j => B.length - j) 0 (Nat.zero_le _) ?_ ?_)
          · simp only [I16b, List.take_zero]
            rw [hS]
            (refine Imp.auto (by kernel_rfl) ?_ ?_ <;> simp [NLe, mkPlX, hT, hC, hl, lT, lC, ll, Bt, Bc, Bl, buyS])
          rintro j hj
          (try simp only at hj)
          simp only [I16b]
          by_cases hjt : j < B.length
          · obtain ⟨y, hy⟩ : ∃ y, B[j]? = some y := ⟨_, List.getElem?_eq_getElem hjt⟩
            obtain ⟨ga, gb⟩ := oz_at hy
            have hji : (j : Int) < (B.length : Int) := by omega
            have wj : IntKind.wrap .i64 ((j : Int) + 1) = (j : Int) + 1 := wrap_in (by omega) (by omega)
            have hq := Bb y (List.mem_of_getElem? hy)
            have hbd := buy_bnd x.p (os := B.take j) fun o ho => Bb o (List.mem_of_mem_take ho)
            rw [List.length_take, Nat.min_eq_left hj] at hbd
            have hst : buyS x.p (B.take (j + 1)) = buyA x.p (buyS x.p (B.take j)) y := by rw [take_snoc hy, buy_snoc]
            simp only [buyA] at hst
            generalize buyS x.p (B.take j) = nn2 at hst hbd ⊢
            have w1 : IntKind.wrap .i64 (nn2 + y.q) = nn2 + y.q := wrap_in (by omega) (by omega)
            simp only [ozC] at ga gb
            by_cases hc1 : x.p ≤ y.p
            · rw [if_pos hc1] at hst
              repeat' with_reducible (first
                | refine ZR.h ?_ | refine zI (by decide) ?_
                | ((first | refine zK hE ?_ | refine zL hE mixT ?_); intro K hK; simp [KR.ks, KD.ks, KD.cl, q16_0, q16_1, q16_2, q16_3, q16_4, q16_5, q16_6, q16_7, q16_8, q16_9, q16_10, q16_11, q16_12, q16_13, q16_14, q16_15, q16_16, q16_17, q16_18, q16_19, q16_20, q16_21, hT, hC, hD, hl, hk, lT, lC, ll, lD, Bt, Bc, Bl, Bd, hjt, hji, ga, gb, wj, w1, hc1]; (repeat' (first | refine hK _ _ ?_ | refine And.intro ?_ ?_ | (intro hc; try subst hc))) <;> (try clear hK K))
                | (refine zJ (b := _) (by with_unfolding_all rfl) (fun hc => ?_) (fun hc => ?_) <;> simp at hc <;> (try subst hc)))
              all_goals first | (exfalso; omega) | skip
              all_goals refine ⟨j + 1, hjt, Nat.sub_lt_sub_left hjt (Nat.lt_succ_self j), ?_⟩
              all_goals simp only [I16b, hst]
              all_goals rw [hS]
              all_goals (refine Imp.auto (by kernel_rfl) ?_ ?_ <;> simp [NLe, mkPlX, hT, hC, hl, lT, lC, ll, Bt, Bc, Bl])
            · rw [if_neg hc1] at hst
              repeat' with_reducible (first
                | refine ZR.h ?_ | refine zI (by decide) ?_
                | ((first | refine zK hE ?_ | refine zL hE mixT ?_); intro K hK; simp [KR.ks, KD.ks, KD.cl, q16_0, q16_1, q16_2, q16_3, q16_4, q16_5, q16_6, q16_7, q16_8, q16_9, q16_10, q16_11, q16_12, q16_13, q16_14, q16_15, q16_16, q16_17, q16_18, q16_19, q16_20, q16_21, hT, hC, hD, hl, hk, lT, lC, ll, lD, Bt, Bc, Bl, Bd, hjt, hji, ga, gb, wj, w1, hc1]; (repeat' (first | refine hK _ _ ?_ | refine And.intro ?_ ?_ | (intro hc; try subst hc))) <;> (try clear hK K))
                | (refine zJ (b := _) (by with_unfolding_all rfl) (fun hc => ?_) (fun hc => ?_) <;> simp at hc <;> (try subst hc)))
              all_goals first | (exfalso; omega) | skip
              all_goals refine ⟨j + 1, hjt, Nat.sub_lt_sub_left hjt (Nat.lt_succ_self j), ?_⟩
              all_goals simp only [I16b, hst]
              all_goals rw [hS]
              all_goals (refine Imp.auto (by kernel_rfl) ?_ ?_ <;> simp [NLe, mkPlX, hT, hC, hl, lT, lC, ll, Bt, Bc, Bl])
          obtain rfl : j = B.length := by omega
          have hji : ¬ ((B.length : Int) < (B.length : Int)) := by omega
          rw [List.take_length]
          clear hj hjt
          repeat' with_reducible (first
            | refine ZR.h ?_ | refine zI (by decide) ?_
            | ((first | refine zK hE ?_ | refine zL hE mixT ?_); intro K hK; simp [KR.ks, KD.ks, KD.cl, q16_0, q16_1, q16_2, q16_3, q16_4, q16_5, q16_6, q16_7, q16_8, q16_9, q16_10, q16_11, q16_12, q16_13, q16_14, q16_15, q16_16, q16_17, q16_18, q16_19, q16_20, q16_21, hT, hC, hD, hl, hk, lT, lC, ll, lD, Bt, Bc, Bl, Bd, hji, Zt, Zc, Zl, Zd, j1]; (repeat' (first | refine hK _ _ ?_ | refine And.intro ?_ ?_ | (intro hc; try subst hc))) <;> (try clear hK K))
            | (refine zJ (b := _) (by with_unfolding_all rfl) (fun hc => ?_) (fun hc => ?_) <;> simp at hc <;> (try subst hc)))
          all_goals first | (exfalso; omega) | skip
          have hmm0 : lessI (buyS x.p B) (sellS x.p Z) = if sellS x.p Z < buyS x.p B then sellS x.p Z else buyS x.p B := rfl
          rw [hmm0] at hstep
          clear hmm0 hji
          generalize buyS x.p B = bb at hstep ⊢
          all_goals (refine Wm_loop (fun j => I16c a b c d e f g nn l Z L k pr qt bb x j) (fun j => j ≤ Z.length) (fun j => Z.length - j) 0 (Nat.zero_le _) ?_ ?_)
          · simp only [I16c, List.take_zero]
            rw [hS]
            (refine Imp.auto (by kernel_rfl) ?_ ?_ <;> simp [NLe, mkPlX, hT, hC, hl, lT, lC, ll, Zt, Zc, Zl, sellS])
          rintro j hj
          (try simp only at hj)
          simp only [I16c]
          by_cases hjt : j < Z.length
          · obtain ⟨y, hy⟩ : ∃ y, Z[j]? = some y := ⟨_, List.getElem?_eq_getElem hjt⟩
            obtain ⟨ga, gb⟩ := oz_at hy
            have hji : (j : Int) < (Z.length : Int) := by omega
            have wj : IntKind.wrap .i64 ((j : Int) + 1) = (j : Int) + 1 := wrap_in (by omega) (by omega)
            have hq := Zb y (List.mem_of_getElem? hy)
            have hbd := sell_bnd x.p (os := Z.take j) fun o ho => Zb o (List.mem_of_mem_take ho)
            rw [List.length_take, Nat.min_eq_left hj] at hbd
            have hst : sellS x.p (Z.take (j + 1)) = sellA x.p (sellS x.p (Z.take j)) y := by rw [take_snoc hy, sell_snoc]
            simp only [sellA] at hst
            generalize sellS x.p (Z.take j) = nn2 at hst hbd ⊢
            have w1 : IntKind.wrap .i64 (nn2 + y.q) = nn2 + y.q := wrap_in (by omega) (by omega)
            simp only [ozC] at ga gb
            by_cases hc1 : y.p ≤ x.p
            · rw [if_pos hc1] at hst
              repeat' with_reducible (first
                | refine ZR.h ?_ | refine zI (by decide) ?_
                | ((first | refine zK hE ?_ | refine zL hE mixT ?_); intro K hK; simp [KR.ks, KD.ks, KD.cl, q16_0, q16_1, q16_2, q16_3, q16_4, q16_5, q16_6, q16_7, q16_8, q16_9, q16_10, q16_11, q16_12, q16_13, q16_14, q16_15, q16_16, q16_17, q16_18, q16_19, q16_20, q16_21, hT, hC, hD, hl, hk, lT, lC, ll, lD, Zt, Zc, Zl, Zd, hjt, hji, ga, gb, wj, w1, hc1]; (repeat' (first | refine hK _ _ ?_ | refine And.intro ?_ ?_ | (intro hc; try subst hc))) <;> (try clear hK K))
                | (refine zJ (b := _) (by with_unfolding_all rfl) (fun hc => ?_) (fun hc => ?_) <;> simp at hc <;> (try subst hc)))
              all_goals first | (exfalso; omega) | skip
              all_goals refine ⟨j + 1, hjt, Nat.sub_lt_sub_left hjt (Nat.lt_succ_self j), ?_⟩
              all_goals simp only [I16c, hst]
              all_goals rw [hS]
              all_goals (refine Imp.auto (by kernel_rfl) ?_ ?_ <;> simp [NLe, mkPlX, hT, hC, hl, lT, lC, ll, Zt, Zc, Zl])
            · rw [if_neg hc1] at hst
              repeat' with_reducible (first
                | refine ZR.h ?_ | refine zI (by decide) ?_
                | ((first | refine zK hE ?_ | refine zL hE mixT ?_); intro K hK; simp [KR.ks, KD.ks, KD.cl, q16_0, q16_1, q16_2, q16_3, q16_4, q16_5, q16_6, q16_7, q16_8, q16_9, q16_10, q16_11, q16_12, q16_13, q16_14, q16_15, q16_16, q16_17, q16_18, q16_19, q16_20, q16_21, hT, hC, hD, hl, hk, lT, lC, ll, lD, Zt, Zc, Zl, Zd, hjt, hji, ga, gb, wj, w1, hc1]; (repeat' (first | refine hK _ _ ?_ | refine And.intro ?_ ?_ | (intro hc; try subst hc))) <;> (try clear hK K))
                | (refine zJ (b := _) (by with_unfolding_all rfl) (fun hc => ?_) (fun hc => ?_) <;> simp at hc <;> (try subst hc)))
              all_goals first | (exfalso; omega) | skip
              all_goals refine ⟨j + 1, hjt, Nat.sub_lt_sub_left hjt (Nat.lt_succ_self j), ?_⟩
              all_goals simp only [I16c, hst]
              all_goals rw [hS]
              all_goals (refine Imp.auto (by kernel_rfl) ?_ ?_ <;> simp [NLe, mkPlX, hT, hC, hl, lT, lC, ll, Zt, Zc, Zl])
          obtain rfl : j = Z.length := by omega
          have hji : ¬ ((Z.length : Int) < (Z.length : Int)) := by omega
          rw [List.take_length]
          clear hj hjt
          generalize sellS x.p Z = sv at hstep ⊢
          by_cases hsv : sv < bb
          · simp only [hsv, if_true] at hstep
            by_cases c1 : qt < sv
            ·
              have hst2 : crossS B Z (L.take (k + 1)) = (x.p, sv) := by rw [hstep]; simp [c1]
              repeat' with_reducible (first
                | refine ZR.h ?_ | refine zI (by decide) ?_
                | ((first | refine zK hE ?_ | refine zL hE mixT ?_); intro K hK; simp [KR.ks, KD.ks, KD.cl, q16_0, q16_1, q16_2, q16_3, q16_4, q16_5, q16_6, q16_7, q16_8, q16_9, q16_10, q16_11, q16_12, q16_13, q16_14, q16_15, q16_16, q16_17, q16_18, q16_19, q16_20, q16_21, hT, hC, hD, hl, hk, lT, lC, ll, lD, Zt, Zc, Zl, Zd, hji, wk, hsv, c1]; (repeat' (first | refine hK _ _ ?_ | refine And.intro ?_ ?_ | (intro hc; try subst hc))) <;> (try clear hK K))
                | (refine zJ (b := _) (by with_unfolding_all rfl) (fun hc => ?_) (fun hc => ?_) <;> simp at hc <;> (try subst hc)))
              all_goals first | (exfalso; omega) | skip
              all_goals refine ⟨k + 1, hlt, Nat.sub_lt_sub_left hlt (Nat.lt_succ_self k), ?_⟩
              all_goals simp only [I16, hst2]
              all_goals rw [hS]
              all_goals (refine Imp.auto (by kernel_rfl) ?_ ?_ <;> simp [NLe, mkPlX, hT, hC, hl, lT, lC, ll])
            · by_cases c2 : sv = qt
              · subst c2
                by_cases c3 : 0 < sv
                · by_cases c4 : x.p < pr
                  ·
                    have hst2 : crossS B Z (L.take (k + 1)) = (x.p, sv) := by rw [hstep]; simp [c1, c3, c4]
                    repeat' with_reducible (first
                      | refine ZR.h ?_ | refine zI (by decide) ?_
                      | ((first | refine zK hE ?_ | refine zL hE mixT ?_); intro K hK; simp [KR.ks, KD.ks, KD.cl, q16_0, q16_1, q16_2, q16_3, q16_4, q16_5, q16_6, q16_7, q16_8, q16_9, q16_10, q16_11, q16_12, q16_13, q16_14, q16_15, q16_16, q16_17, q16_18, q16_19, q16_20, q16_21, hT, hC, hD, hl, hk, lT, lC, ll, lD, Zt, Zc, Zl, Zd, hji, wk, hsv, c1, c3, c4]; (repeat' (first | refine hK _ _ ?_ | refine And.intro ?_ ?_ | (intro hc; try subst hc))) <;> (try clear hK K))
                      | (refine zJ (b := _) (by with_unfolding_all rfl) (fun hc => ?_) (fun hc => ?_) <;> simp at hc <;> (try subst hc)))
                    all_goals first | (exfalso; omega) | skip
                    all_goals refine ⟨k + 1, hlt, Nat.sub_lt_sub_left hlt (Nat.lt_succ_self k), ?_⟩
                    all_goals simp only [I16, hst2]
                    all_goals rw [hS]
                    all_goals (refine Imp.auto (by kernel_rfl) ?_ ?_ <;> simp [NLe, mkPlX, hT, hC, hl, lT, lC, ll])
                  ·
                    have hst2 : crossS B Z (L.take (k + 1)) = (pr, sv) := by rw [hstep]; simp [c1, c3, c4]
                    repeat' with_reducible (first
                      | refine ZR.h ?_ | refine zI (by decide) ?_
                      | ((first | refine zK hE ?_ | refine zL hE mixT ?_); intro K hK; simp [KR.ks, KD.ks, KD.cl, q16_0, q16_1, q16_2, q16_3, q16_4, q16_5, q16_6, q16_7, q16_8, q16_9, q16_10, q16_11, q16_12, q16_13, q16_14, q16_15, q16_16, q16_17, q16_18, q16_19, q16_20, q16_21, hT, hC, hD, hl, hk, lT, lC, ll, lD, Zt, Zc, Zl, Zd, hji, wk, hsv, c1, c3, c4]; (repeat' (first | refine hK _ _ ?_ | refine And.intro ?_ ?_ | (intro hc; try subst hc))) <;> (try clear hK K))
                      | (refine zJ (b := _) (by with_unfolding_all rfl) (fun hc => ?_) (fun hc => ?_) <;> simp at hc <;> (try subst hc)))
                    all_goals first | (exfalso; omega) | skip
                    all_goals refine ⟨k + 1, hlt, Nat.sub_lt_sub_left hlt (Nat.lt_succ_self k), ?_⟩
                    all_goals simp only [I16, hst2]
                    all_goals rw [hS]
                    all_goals (refine Imp.auto (by kernel_rfl) ?_ ?_ <;> simp [NLe, mkPlX, hT, hC, hl, lT, lC, ll])
                ·
                  have hst2 : crossS B Z (L.take (k + 1)) = (pr, sv) := by rw [hstep]; simp [c1, c3]
                  repeat' with_reducible (first
                    | refine ZR.h ?_ | refine zI (by decide) ?_
                    | ((first | refine zK hE ?_ | refine zL hE mixT ?_); intro K hK; simp [KR.ks, KD.ks, KD.cl, q16_0, q16_1, q16_2, q16_3, q16_4, q16_5, q16_6, q16_7, q16_8, q16_9, q16_10, q16_11, q16_12, q16_13, q16_14, q16_15, q16_16, q16_17, q16_18, q16_19, q16_20, q16_21, hT, hC, hD, hl, hk, lT, lC, ll, lD, Zt, Zc, Zl, Zd, hji, wk, hsv, c1, c3]; (repeat' (first | refine hK _ _ ?_ | refine And.intro ?_ ?_ | (intro hc; try subst hc))) <;> (try clear hK K))
                    | (refine zJ (b := _) (by with_unfolding_all rfl) (fun hc => ?_) (fun hc => ?_) <;> simp at hc <;> (try subst hc)))
                  all_goals first | (exfalso; omega) | skip
                  all_goals refine ⟨k + 1, hlt, Nat.sub_lt_sub_left hlt (Nat.lt_succ_self k), ?_⟩
                  all_goals simp only [I16, hst2]
                  all_goals rw [hS]
                  all_goals (refine Imp.auto (by kernel_rfl) ?_ ?_ <;> simp [NLe, mkPlX, hT, hC, hl, lT, lC, ll])
              ·
                have hst2 : crossS B Z (L.take (k + 1)) = (pr, qt) := by rw [hstep]; simp [c1, c2]
                repeat' with_reducible (first
                  | refine ZR.h ?_ | refine zI (by decide) ?_
                  | ((first | refine zK hE ?_ | refine zL hE mixT ?_); intro K hK; simp [KR.ks, KD.ks, KD.cl, q16_0, q16_1, q16_2, q16_3, q16_4, q16_5, q16_6, q16_7, q16_8, q16_9, q16_10, q16_11, q16_12, q16_13, q16_14, q16_15, q16_16, q16_17, q16_18, q16_19, q16_20, q16_21, hT, hC, hD, hl, hk, lT, lC, ll, lD, Zt, Zc, Zl, Zd, hji, wk, hsv, c1, c2]; (repeat' (first | refine hK _ _ ?_ | refine And.intro ?_ ?_ | (intro hc; try subst hc))) <;> (try clear hK K))
                  | (refine zJ (b := _) (by with_unfolding_all rfl) (fun hc => ?_) (fun hc => ?_) <;> simp at hc <;> (try subst hc)))
                all_goals first | (exfalso; omega) | skip
                all_goals refine ⟨k + 1, hlt, Nat.sub_lt_sub_left hlt (Nat.lt_succ_self k), ?_⟩
                all_goals simp only [I16, hst2]
                all_goals rw [hS]
                all_goals (refine Imp.auto (by kernel_rfl) ?_ ?_ <;> simp [NLe, mkPlX, hT, hC, hl, lT, lC, ll])
          · simp only [hsv, if_false] at hstep
            by_cases c1 : qt < bb
            ·
              have hst2 : crossS B Z (L.take (k + 1)) = (x.p, bb) := by rw [hstep]; simp [c1]
              repeat' with_reducible (first
                | refine ZR.h ?_ | refine zI (by decide) ?_
                | ((first | refine zK hE ?_ | refine zL hE mixT ?_); intro K hK; simp [KR.ks, KD.ks, KD.cl, q16_0, q16_1, q16_2, q16_3, q16_4, q16_5, q16_6, q16_7, q16_8, q16_9, q16_10, q16_11, q16_12, q16_13, q16_14, q16_15, q16_16, q16_17, q16_18, q16_19, q16_20, q16_21, hT, hC, hD, hl, hk, lT, lC, ll, lD, Zt, Zc, Zl, Zd, hji, wk, hsv, c1]; (repeat' (first | refine hK _ _ ?_ | refine And.intro ?_ ?_ | (intro hc; try subst hc))) <;> (try clear hK K))
                | (refine zJ (b := _) (by with_unfolding_all rfl) (fun hc => ?_) (fun hc => ?_) <;> simp at hc <;> (try subst hc)))
              all_goals first | (exfalso; omega) | skip
              all_goals refine ⟨k + 1, hlt, Nat.sub_lt_sub_left hlt (Nat.lt_succ_self k), ?_⟩
              all_goals simp only [I16, hst2]
              all_goals rw [hS]
              all_goals (refine Imp.auto (by kernel_rfl) ?_ ?_ <;> simp [NLe, mkPlX, hT, hC, hl, lT, lC, ll])
            · by_cases c2 : bb = qt
              · subst c2
                by_cases c3 : 0 < bb
                · by_cases c4 : x.p < pr
                  ·
                    have hst2 : crossS B Z (L.take (k + 1)) = (x.p, bb) := by rw [hstep]; simp [c1, c3, c4]
                    repeat' with_reducible (first
                      | refine ZR.h ?_ | refine zI (by decide) ?_
                      | ((first | refine zK hE ?_ | refine zL hE mixT ?_); intro K hK; simp [KR.ks, KD.ks, KD.cl, q16_0, q16_1, q16_2, q16_3, q16_4, q16_5, q16_6, q16_7, q16_8, q16_9, q16_10, q16_11, q16_12, q16_13, q16_14, q16_15, q16_16, q16_17, q16_18, q16_19, q16_20, q16_21, hT, hC, hD, hl, hk, lT, lC, ll, lD, Zt, Zc, Zl, Zd, hji, wk, hsv, c1, c3, c4]; (repeat' (first | refine hK _ _ ?_ | refine And.intro ?_ ?_ | (intro hc; try subst hc))) <;> (try clear hK K))
                      | (refine zJ (b := _) (by with_unfolding_all rfl) (fun hc => ?_) (fun hc => ?_) <;> simp at hc <;> (try subst hc)))
                    all_goals first | (exfalso; omega) | skip
                    all_goals refine ⟨k + 1, hlt, Nat.sub_lt_sub_left hlt (Nat.lt_succ_self k), ?_⟩
                    all_goals simp only [I16, hst2]
                    all_goals rw [hS]
                    all_goals (refine Imp.auto (by kernel_rfl) ?_ ?_ <;> simp [NLe, mkPlX, hT, hC, hl, lT, lC, ll])
                  ·
                    have hst2 : crossS B Z (L.take (k + 1)) = (pr, bb) := by rw [hstep]; simp [c1, c3, c4]
                    repeat' with_reducible (first
                      | refine ZR.h ?_ | refine zI (by decide) ?_
                      | ((first | refine zK hE ?_ | refine zL hE mixT ?_); intro K hK; simp [KR.ks, KD.ks, KD.cl, q16_0, q16_1, q16_2, q16_3, q16_4, q16_5, q16_6, q16_7, q16_8, q16_9, q16_10, q16_11, q16_12, q16_13, q16_14, q16_15, q16_16, q16_17, q16_18, q16_19, q16_20, q16_21, hT, hC, hD, hl, hk, lT, lC, ll, lD, Zt, Zc, Zl, Zd, hji, wk, hsv, c1, c3, c4]; (repeat' (first | refine hK _ _ ?_ | refine And.intro ?_ ?_ | (intro hc; try subst hc))) <;> (try clear hK K))
                      | (refine zJ (b := _) (by with_unfolding_all rfl) (fun hc => ?_) (fun hc => ?_) <;> simp at hc <;> (try subst hc)))
                    all_goals first | (exfalso; omega) | skip
                    all_goals refine ⟨k + 1, hlt, Nat.sub_lt_sub_left hlt (Nat.lt_succ_self k), ?_⟩
                    all_goals simp only [I16, hst2]
                    all_goals rw [hS]
                    all_goals (refine Imp.auto (by kernel_rfl) ?_ ?_ <;> simp [NLe, mkPlX, hT, hC, hl, lT, lC, ll])
                ·
                  have hst2 : crossS B Z (L.take (k + 1)) = (pr, bb) := by rw [hstep]; simp [c1, c3]
                  repeat' with_reducible (first
                    | refine ZR.h ?_ | refine zI (by decide) ?_
                    | ((first | refine zK hE ?_ | refine zL hE mixT ?_); intro K hK; simp [KR.ks, KD.ks, KD.cl, q16_0, q16_1, q16_2, q16_3, q16_4, q16_5, q16_6, q16_7, q16_8, q16_9, q16_10, q16_11, q16_12, q16_13, q16_14, q16_15, q16_16, q16_17, q16_18, q16_19, q16_20, q16_21, hT, hC, hD, hl, hk, lT, lC, ll, lD, Zt, Zc, Zl, Zd, hji, wk, hsv, c1, c3]; (repeat' (first | refine hK _ _ ?_ | refine And.intro ?_ ?_ | (intro hc; try subst hc))) <;> (try clear hK K))
                    | (refine zJ (b := _) (by with_unfolding_all rfl) (fun hc => ?_) (fun hc => ?_) <;> simp at hc <;> (try subst hc)))
                  all_goals first | (exfalso; omega) | skip
                  all_goals refine ⟨k + 1, hlt, Nat.sub_lt_sub_left hlt (Nat.lt_succ_self k), ?_⟩
                  all_goals simp only [I16, hst2]
                  all_goals rw [hS]
                  all_goals (refine Imp.auto (by kernel_rfl) ?_ ?_ <;> simp [NLe, mkPlX, hT, hC, hl, lT, lC, ll])
              ·
                have hst2 : crossS B Z (L.take (k + 1)) = (pr, qt) := by rw [hstep]; simp [c1, c2]
                repeat' with_reducible (first
                  | refine ZR.h ?_ | refine zI (by decide) ?_
                  | ((first | refine zK hE ?_ | refine zL hE mixT ?_); intro K hK; simp [KR.ks, KD.ks, KD.cl, q16_0, q16_1, q16_2, q16_3, q16_4, q16_5, q16_6, q16_7, q16_8, q16_9, q16_10, q16_11, q16_12, q16_13, q16_14, q16_15, q16_16, q16_17, q16_18, q16_19, q16_20, q16_21, hT, hC, hD, hl, hk, lT, lC, ll, lD, Zt, Zc, Zl, Zd, hji, wk, hsv, c1, c2]; (repeat' (first | refine hK _ _ ?_ | refine And.intro ?_ ?_ | (intro hc; try subst hc))) <;> (try clear hK K))
                  | (refine zJ (b := _) (by with_unfolding_all rfl) (fun hc => ?_) (fun hc => ?_) <;> simp at hc <;> (try subst hc)))
                all_goals first | (exfalso; omega) | skip
                all_goals refine ⟨k + 1, hlt, Nat.sub_lt_sub_left hlt (Nat.lt_succ_self k), ?_⟩
                all_goals simp only [I16, hst2]
                all_goals rw [hS]
                all_goals (refine Imp.auto (by kernel_rfl) ?_ ?_ <;> simp [NLe, mkPlX, hT, hC, hl, lT, lC, ll])
        · obtain rfl : k = L.length := by omega
          have hki : ¬ ((L.length : Int) < (L.length : Int)) := by omega
          rw [List.take_length]
          repeat' with_reducible (first
            | refine ZR.h ?_ | refine zI (by decide) ?_
            | ((first | refine zK hE ?_ | refine zL hE mixT ?_); intro K hK; simp [KR.ks, KD.ks, KD.cl, q16_0, q16_1, q16_2, q16_3, q16_4, q16_5, q16_6, q16_7, q16_8, q16_9, q16_10, q16_11, q16_12, q16_13, q16_14, q16_15, q16_16, q16_17, q16_18, q16_19, q16_20, q16_21, hT, hC, hD, hl, hki, lT, lC, ll, lD]; (repeat' (first | refine hK _ _ ?_ | refine And.intro ?_ ?_ | (intro hc; try subst hc))) <;> (try clear hK K))
            | (refine zJ (b := _) (by with_unfolding_all rfl) (fun hc => ?_) (fun hc => ?_) <;> simp at hc <;> (try subst hc)))
          all_goals first | (simp; done) | (simp at *; omega) | ((try simp[hT, hC, hl]); refine Imp.auto (by kernel_rfl) ?_ ?_ <;> simp [NLe, hT, hC, hl])
      · cases h
    · cases h
  · cases h
end Go.W
namespace Go.W
open Go.Proofs
set_option linter.unusedSimpArgs false
set_option linter.unusedVariables false
set_option maxHeartbeats 8000000
attribute [local irreducible] Wm
attribute [local simp] nmap lkp mkPl prs prsL prT ddL idL CRenL CRen Ren RenL NObj.none CRenLL

def d27 : List AV → List NObj → Option AV
  | [.agg [.int .i64 a, .int .i64 b, .int .i64 c, .int .i64 d, .int .i64 e, .int .i64 f, .int .i64 g], .agg [.int .i64 n0, .int .i64 n1, .int .i64 n2, .int .i64 n3, .int .i64 n4]], [] => if cfgB a b c d e f g = true then some (.int .i64 (shardZ c d n0 (bandZ d n2))) else none
  | _, _ => none

theorem ok27 : ROk d27 := by
  intro xs os r h
  unfold d27 at h
  (repeat' (split at h)) <;> first | (cases h; done) | (injection h with h; subst h; simp)
theorem s27 : Sound Try.prog 27 (rdS d27 ok27) := by
  refine rd_sound Try.func27 nm27 rc27 rv27 ok27 fun xs os r h vs ρ0 hvs => ⟨xs, ?_, fun _ h => h, fun w0 S hS => ?_⟩
  · unfold d27 at h
    (repeat' (split at h)) <;> first | (cases h; done) | exact Nat.le_of_ble_eq_true rfl
  unfold d27 at h
  split at h
  · split at h
    · rename_i a b c d e f g n0 n1 n2 n3 n4 hcond
      injection h with h
      subst h
      have hE : SoundAll Try.prog (EL [(40, rdS d40 ok40), (41, rdS d41 ok41)]) := EL_sound (by simp only [List.mem_cons, List.not_mem_nil, or_false, forall_eq_or_imp, forall_eq]; exact ⟨s40, s41⟩)
      unfold m27
      repeat' with_reducible (first
        | refine ZR.h ?_ | refine zI (by decide) ?_
        | ((first | refine zK hE ?_ | refine zL hE mixT ?_); intro K hK; simp [KR.ks, KD.ks, KD.cl, q27_0, q27_1, hcond, d40, d41]; (repeat' (first | refine hK _ _ ?_ | refine And.intro ?_ ?_ | (intro hc; try subst hc))) <;> (try clear hK K))
        | (refine zJ (b := _) (by with_unfolding_all rfl) (fun hc => ?_) (fun hc => ?_) <;> simp at hc <;> (try subst hc)))
      all_goals first | (simp; done) | (simp at *; omega) | ((try simp); refine Imp.auto (by kernel_rfl) ?_ ?_ <;> simp [NLe])
    · cases h
  · cases h

/-- A row of fourteen integers. -/
def intR (c : List AV) : Bool := c.all (fun v => match v with | .int .i64 _ => true | _ => false)
def row14 (c : List AV) : Bool := intR c && decide (c.length = 14)
theorem intR_t0 : ∀ {c : List AV}, intR c = true → t0L c = c
  | [], _ => rfl
  | v :: r, h => by
    simp only [intR, List.all_cons, Bool.and_eq_true] at h
    have := intR_t0 (c := r) h.2
    cases v <;> simp at h
    simp [t0L, AV.t0, this]
theorem intR_cl : ∀ {c : List AV}, intR c = true → clL c = true
  | [], _ => rfl
  | v :: r, h => by
    simp only [intR, List.all_cons, Bool.and_eq_true] at h
    have := intR_cl (c := r) h.2
    cases v <;> simp at h
    simp [clL, AV.cl, this]
theorem intR_tl {n : Nat} : ∀ {c : List AV}, intR c = true → tlL n c = true
  | [], _ => rfl
  | v :: r, h => by
    simp only [intR, List.all_cons, Bool.and_eq_true] at h
    have := intR_tl (n := n) (c := r) h.2
    cases v <;> simp at h
    simp [tlL, AV.tl, this]
theorem l_t0 : ∀ {els : List (List AV)}, els.all row14 = true → t0LL els = els
  | [], _ => rfl
  | c :: r, h => by
    simp only [List.all_cons, Bool.and_eq_true, row14] at h
    simp [t0LL, intR_t0 h.1.1, l_t0 (els := r) (by simpa [row14] using h.2)]
theorem l_cl : ∀ {els : List (List AV)}, els.all row14 = true → clLL els = true
  | [], _ => rfl
  | c :: r, h => by
    simp only [List.all_cons, Bool.and_eq_true, row14] at h
    simp [clLL, intR_cl h.1.1, l_cl (els := r) (by simpa [row14] using h.2)]
theorem l_tl {n : Nat} : ∀ {els : List (List AV)}, els.all row14 = true → tlLL n els = true
  | [], _ => rfl
  | c :: r, h => by
    simp only [List.all_cons, Bool.and_eq_true, row14] at h
    simp [tlLL, intR_tl h.1.1, l_tl (els := r) (by simpa [row14] using h.2)]

theorem getZ_u {x : Int} {lo n : Nat} {B : Int} (h : (2 : Int) ^ n ≤ B) : 0 ≤ getZ x lo n ∧ getZ x lo n < B := by
  have := getZ_in x lo n
  omega

end Go.W
