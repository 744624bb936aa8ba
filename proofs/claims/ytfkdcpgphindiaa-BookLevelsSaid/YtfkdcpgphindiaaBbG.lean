/- A part of the proof (BbF, BbG). -/
import Derived.Test.YtfkdcpgphindiaaBcT
import Derived.Test.YtfkdcpgphindiaaBcV
import Derived.Test.YtfkdcpgphindiaaWMe
namespace Go.W
open Go.Proofs
set_option linter.unusedSimpArgs false
set_option linter.unusedVariables false
set_option maxHeartbeats 8000000
attribute [local irreducible] Wm
attribute [local simp] nmap lkp mkPl prs prsL prT ddL idL CRenL CRen Ren RenL NObj.none CRenLL

attribute [local irreducible] Wx
def okO (l : List OZ) : Bool := decide (l.length ≤ 100000 ∧ ∀ o ∈ l, 1 ≤ o.p ∧ o.p ≤ 9999 ∧ 0 ≤ o.q ∧ o.q ≤ 9999)
theorem okO_ex {l : List OZ} (h : okO l = true) : l.length ≤ 100000 ∧ ∀ o ∈ l, 1 ≤ o.p ∧ o.p ≤ 9999 ∧ 0 ≤ o.q ∧ o.q ≤ 9999 := of_decide_eq_true h
theorem sort_len' {s : Int} {l : List LZ} (hn : (l.map LZ.p).Nodup) (hb : ∀ x ∈ l, 1 ≤ x.p ∧ x.p ≤ 9999) : (sortZ s l).length = l.length := by
  refine sort_len (d := l.mergeSort fun x y => !betterZ s y.p x.p) hn hb (List.mergeSort_perm _ _) ?_
  refine (List.pairwise_mergeSort (le := fun x y => !betterZ s y.p x.p) (fun a b c h1 h2 => ?_) (fun a b => ?_) l).imp fun h => by simpa using h
  · unfold betterZ at *; split at h1 <;> simp_all <;> omega
  · unfold betterZ; split <;> simp <;> omega
theorem sortS_fn (args : List AV) (G : NH) (nb : Nat) : sortS.fn args G nb = sortF args G nb := rfl
theorem side_ok {l : List OZ} (h : okO l = true) (n s : Int) : okO (keepZ (prA n s) l) = true := by
  obtain ⟨h1, h2⟩ := okO_ex h
  exact decide_eq_true ⟨Nat.le_trans (keep_len _ _) h1, fun o ho => h2 o (List.mem_filter.1 ho).1⟩
def d12 : List AV → List NObj → Option AV
  | [.agg [.int .i64 a, .int .i64 b, .int .i64 c, .int .i64 d, .int .i64 e, .int .i64 f, .int .i64 g, .sl (.top 0) 0 n], .int .i64 nn, .int .i64 ss], [.view 0 7 els] => (match mapV ozOf els with
    | some l => if n = els.length ∧ okO l = true then some (.os 0 3 (lzLL (levelsZ ss (keepZ (prA nn ss) l)))) else none
    | none => none)
  | _, _ => none
theorem ok12 : ROk d12 := by
  intro xs os r h
  unfold d12 at h
  split at h
  · split at h
    · split at h
      · injection h with h; subst h; simp; exact lz_dat _
      · cases h
    · cases h
  · cases h
def I12a (b : Nat) (ss : Int) (os : List OZ) (x : Nat × List (Int × AV)) : St := ⟨[(5, .ptr (.top 2) 0 0), (7, .raw (.map (some b))), (18, .sl (.top 1) 0 os.length), (19, .int .i64 os.length), (20, .int .i64 x.1)], [(1, .arr 0 7 (ozLL os)), (2, .cells 0 [.int .i64 ss])], 3⟩
def I12b (b' : Nat) (ss : Int) (x : List Nat × List LZ) : St := ⟨[(5, .ptr (.top 2) 0 0), (11, .sl (.top 1) 0 x.2.length), (47, .raw (.pointer (some ⟨b', 0, none⟩)))], [(1, .arr 0 3 (lzLL x.2)), (2, .cells 0 [.int .i64 ss])], 3⟩
theorem s12 : Sound Try.prog 12 (rdS d12 ok12) := by
  refine rd_sound Try.func12 nm12 rc12 rv12 ok12 fun xs os r h vs ρ0 hvs => ⟨xs, ?_, fun _ h => h, fun w0 S hS => ?_⟩
  · unfold d12 at h
    (repeat' (split at h)) <;> first | (cases h; done) | exact Nat.le_of_ble_eq_true rfl
  unfold d12 at h
  split at h
  · rename_i a b c d e f g n nn ss els
    split at h
    · rename_i l hml
      obtain rfl := mapV_ex (g := ozC) (fun _ _ => ozOf_ex) hml
      clear hml
      split at h
      · rename_i hcond
        injection h with h
        subst h
        obtain ⟨rfl, hok⟩ := hcond
        simp only [oz_map, oz_len] at hvs hS ⊢
        have hS1 : S.m = 1 := hS
        have hlen := (okO_ex hok).1
        have hE : SoundAll Try.prog (EL [(29, rdS d29 ok29), (30, sortS)]) := EL_sound (by simp only [List.mem_cons, List.not_mem_nil, or_false, forall_eq_or_imp, forall_eq]; exact ⟨s29, s30⟩)
        have hl := oz_len l
        have hD := oz_dat l
        have hk : (ozLL l).take l.length = ozLL l := List.take_of_length_le (by rw [hl]; exact Nat.le_refl _)
        have hm : mapV ozOf (ozLL l) = some l := mapV_map (f := ozOf) (g := ozC) ozOf_C l
        have hok' := side_ok hok nn ss
        have h29 : d29 [.agg [.int .i64 a, .int .i64 b, .int .i64 c, .int .i64 d, .int .i64 e, .int .i64 f, .int .i64 g, .sl (.top 0) 0 l.length], .int .i64 nn, .int .i64 ss] [.view 0 7 (ozLL l)] = some (.os 0 7 (ozLL (keepZ (prA nn ss) l))) := by
          simp only [d29, hm, hl]
          rw [if_pos ⟨trivial, hlen⟩]
        generalize keepZ (prA nn ss) l = os at h29 hok' ⊢
        obtain ⟨hol, hob⟩ := okO_ex hok'
        have e1 := oz_t0 os
        have e2 := oz_cl os
        have e3 := oz_len os
        have e4 := oz_dat os
        refine Wm_of_Wx ?_
        unfold m12
        repeat' with_reducible (first
          | refine ZR.h ?_ | refine blockX_exit (by decide) ?_
          | (refine zM hE ?_; intro K hK; simp [Ma, Mb, KR.ks, getM, setM, mapStep, q12_0, q12_1, q12_2, q12_3, q12_4, q12_5, q12_6, q12_7, q12_8, q12_9, q12_10, q12_11, q12_12, q12_13, q12_14, hD, hl, hk, h29, e3, e4]; (repeat' (first | refine hK _ _ _ ?_ | refine And.intro ?_ ?_ | (intro hc; try subst hc))) <;> (try clear hK K))
          | (refine Wx_cond (b := _) (by with_unfolding_all rfl) (fun hc => ?_) (fun hc => ?_) <;> simp at hc <;> (try subst hc)))
        rename Nat => mb
        refine Wx_loop (fun x => I12a mb ss os x) (fun x => [(mb, .mp x.2)]) (fun x => x.1 ≤ os.length ∧ EntR (os.take x.1) x.2) (fun x => os.length - x.1) (0, []) ⟨Nat.zero_le _, by rw [List.take_zero]; exact ent_0⟩ ?_ rfl ?_
        · simp only [I12a]
          rw [hS1]
          (refine Imp.auto (by kernel_rfl) ?_ ?_ <;> simp [NLe, mkPlX, e1, e2, e3])
        rintro ⟨k, M⟩ ⟨hkl, hM⟩
        (try simp only at hkl hM)
        simp only [I12a]
        by_cases hlt : k < os.length
        · obtain ⟨x, hx⟩ : ∃ x, os[k]? = some x := ⟨_, List.getElem?_eq_getElem hlt⟩
          obtain ⟨hg, hge⟩ := oz_at hx
          have hkI : (k : Int) < (os.length : Int) := by omega
          have ww : IntKind.wrap .i64 ((k : Int) + 1) = (k : Int) + 1 := wrap_in (by omega) (by omega)
          have hlk := ent_look hM x.p
          have hq := hob x (List.mem_of_getElem? hx)
          have b1 := at_l x.p (os := os.take k) fun o ho => (hob o (List.mem_of_mem_take ho)).2.2
          have b2 := at_o x.p (os.take k)
          rw [List.length_take, Nat.min_eq_left hkl] at b1 b2
          have w1 : IntKind.wrap .i64 ((atZ x.p (os.take k)).l + x.q) = (atZ x.p (os.take k)).l + x.q := wrap_in (by omega) (by omega)
          have w2 : IntKind.wrap .i64 ((atZ x.p (os.take k)).o + 1) = (atZ x.p (os.take k)).o + 1 := wrap_in (by omega) (by omega)
          have hn := ent_next hM x
          rw [← take_snoc hx] at hn
          simp only [ozC] at hg hge
          repeat' with_reducible (first
            | refine ZR.h ?_ | refine blockX_exit (by decide) ?_
            | (refine zM hE ?_; intro K hK; simp [Ma, Mb, KR.ks, getM, setM, mapStep, q12_0, q12_1, q12_2, q12_3, q12_4, q12_5, q12_6, q12_7, q12_8, q12_9, q12_10, q12_11, q12_12, q12_13, q12_14, e3, e4, hlt, hkI, hg, hge, ww, hlk, w1, w2]; (repeat' (first | refine hK _ _ _ ?_ | refine And.intro ?_ ?_ | (intro hc; try subst hc))) <;> (try clear hK K))
            | (refine Wx_cond (b := _) (by with_unfolding_all rfl) (fun hc => ?_) (fun hc => ?_) <;> simp at hc <;> (try subst hc)))
          all_goals refine ⟨(k + 1, _), ⟨hlt, hn⟩, by simp only; omega, ?_, rfl⟩
          all_goals simp only [I12a]
          all_goals rw [hS1]
          all_goals (refine Imp.auto (by kernel_rfl) ?_ ?_ <;> simp [NLe, mkPlX, e1, e2, e3])
        · obtain rfl : k = os.length := by omega
          rw [List.take_length] at hM
          repeat' with_reducible (first
            | refine ZR.h ?_ | refine blockX_exit (by decide) ?_
            | (refine zM hE ?_; intro K hK; simp [Ma, Mb, KR.ks, getM, setM, mapStep, q12_0, q12_1, q12_2, q12_3, q12_4, q12_5, q12_6, q12_7, q12_8, q12_9, q12_10, q12_11, q12_12, q12_13, q12_14, e3, e4]; (repeat' (first | refine hK _ _ _ ?_ | refine And.intro ?_ ?_ | (intro hc; try subst hc))) <;> (try clear hK K))
            | (refine Wx_cond (b := _) (by with_unfolding_all rfl) (fun hc => ?_) (fun hc => ?_) <;> simp at hc <;> (try subst hc)))
          rename_i ib
          have hne : ¬ ib = mb := fun e => hc e.symm
          clear hlt hkl
          refine Wx_loop (fun x => I12b ib ss x) (fun x => [(ib, .it mb M.length x.1), (mb, .mp M)]) (fun x => OutR M x.1 x.2) (fun x => M.length - x.1.length) ([], []) (out_0 M) ?_ rfl ?_
          · simp only [I12b]
            rw [hS1]
            (refine Imp.auto (by kernel_rfl) ?_ ?_ <;> simp [NLe, mkPlX, lzLL])
          rintro ⟨seen, out⟩ hR
          (try simp only at hR)
          simp only [I12b]
          have hol2 := out_len hR
          have hmle := ent_len hM fun o ho => ⟨(hob o ho).1, (hob o ho).2.1⟩
          have f1 := lz_t0 out
          have f2 := lz_cl out
          have f3 := lz_len out
          have f4 := lz_dat out
          refine ZR.h ?_
          refine zM hE ?_
          intro K hK
          simp [KR.ks, getM, setM, mapStep, q12_10, hc, hne]
          refine ⟨fun j kk v hj hns => ?_, fun hall => ?_⟩
          · refine hK _ _ _ ?_
            clear hK K
            obtain ⟨x, hjx, rfl, rfl⟩ : ∃ x : LZ, M[j]? = some (x.p, lzV x) ∧ x.p = kk ∧ lzV x = v := by
              obtain ⟨q1, q2⟩ := ent_at hM hj
              exact ⟨atZ kk os, by rw [at_p, ← q2]; exact hj, at_p _ _, q2.symm⟩
            clear hj
            have hR2 := out_next hR hjx hns
            have hl2 := out_len hR2
            have hl3 := nodup_len _ _ hR2.1 hR2.2.2.1
            rw [List.length_append, List.length_singleton] at hl2 hl3
            have hse := hR.2.1
            have g1 := lz_app out x
            have g2 := lz_t0 (out ++ [x])
            have g3 := lz_cl (out ++ [x])
            have g4 := lz_len (out ++ [x])
            have htl : ∀ q, tlLL q (lzLL out) = true := fun q => lz_tl q _
            have hjv := hjx
            simp only [lzV, lzC] at hjv g1
            have u1 : (out.length + 1) * 24 ≤ 140737488355328 := by omega
            have u2 : out.length + 1 ≤ 9223372036854775807 := by omega
            have u3 : out.length ≤ 9223372036854775806 := by omega
            repeat' with_reducible (first
              | refine ZR.h ?_ | refine blockX_exit (by decide) ?_
              | (refine zM hE ?_; intro K hK; simp [Ma, Mb, KR.ks, getM, setM, mapStep, q12_0, q12_1, q12_2, q12_3, q12_4, q12_5, q12_6, q12_7, q12_8, q12_9, q12_10, q12_11, q12_12, q12_13, q12_14, hc, hne, f1, f2, f3, f4, hjv, g1, g2, g3, g4, htl, u1, u2, u3]; (repeat' (first | refine hK _ _ _ ?_ | refine And.intro ?_ ?_ | (intro hc; try subst hc))) <;> (try clear hK K))
              | (refine Wx_cond (b := _) (by with_unfolding_all rfl) (fun hc => ?_) (fun hc => ?_) <;> simp at hc <;> (try subst hc)))
            all_goals first | (exfalso; omega) | skip
            all_goals refine ⟨(seen ++ [j], out ++ [x]), hR2, by simp only [List.length_append, List.length_singleton]; omega, ?_, rfl⟩
            all_goals simp only [I12b]
            all_goals rw [hS1]
            all_goals (refine Imp.auto (by kernel_rfl) ?_ ?_ <;> simp [NLe, mkPlX, g1, g2, g3, g4])
          · refine hK _ _ _ ?_
            clear hK K
            obtain ⟨o1, o2, o3⟩ := out_end hM hR hall
            have o4 : ∀ x ∈ out, 1 ≤ x.p ∧ x.p ≤ 9999 := fun x hx => by
              obtain ⟨o, ho, e⟩ := o2 x hx
              rw [← e]; exact ⟨(hob o ho).1, (hob o ho).2.1⟩
            have o5 : okL out = true := decide_eq_true ⟨o1, o4, by omega⟩
            have o6 := sort_out (s := ss) o3
            have o7 := sort_len' (s := ss) o1 o4
            have hmo : mapV lzOf (lzLL out) = some out := mapV_map (f := lzOf) (g := lzC) lzOf_C out
            rw [o6] at o7
            have y1 := lz_t0 (levelsZ ss os)
            have y2 := lz_cl (levelsZ ss os)
            have y3 := lz_len (levelsZ ss os)
            rw [o7] at y3
            repeat' with_reducible (first
              | refine ZR.h ?_ | refine blockX_exit (by decide) ?_
              | (refine zM hE ?_; intro K hK; simp [Ma, Mb, KR.ks, getM, setM, mapStep, q12_0, q12_1, q12_2, q12_3, q12_4, q12_5, q12_6, q12_7, q12_8, q12_9, q12_10, q12_11, q12_12, q12_13, q12_14, hc, hne, f3, f4, sortS_fn, sortF, hmo, o5, o6]; (repeat' (first | refine hK _ _ _ ?_ | refine And.intro ?_ ?_ | (intro hc; try subst hc))) <;> (try clear hK K))
              | (refine Wx_cond (b := _) (by with_unfolding_all rfl) (fun hc => ?_) (fun hc => ?_) <;> simp at hc <;> (try subst hc)))
            all_goals refine ⟨⟨[(6, .sl (.top 1) 0 out.length)], [(1, .arr 0 3 (lzLL (levelsZ ss os)))], 2⟩, ?_, noV_of rfl, ?_⟩
            · rw [hS1]
              (refine Imp.auto (by kernel_rfl) ?_ ?_ <;> simp [NLe, mkPlX, y1, y2, y3])
            · (try simp [y3]); refine Imp.auto (by kernel_rfl) ?_ ?_ <;> simp [NLe, mkPlX, y1, y2, y3]
      · cases h
    · cases h
  · cases h
end Go.W
namespace Go.W
open Go.Proofs
set_option linter.unusedSimpArgs false
set_option linter.unusedVariables false
set_option maxHeartbeats 8000000
attribute [local irreducible] Wm
attribute [local simp] nmap lkp mkPl prs prsL prT ddL idL CRenL CRen Ren RenL NObj.none CRenLL

theorem lev_mem {s : Int} {os : List OZ} {x : LZ} (h : x ∈ levelsZ s os) : 1 ≤ x.p ∧ x.p ≤ 9999 ∧ x = atZ x.p os ∧ 0 < x.o := by
  unfold levelsZ at h
  obtain ⟨k, hk, e⟩ := List.mem_filterMap.1 h
  rw [List.mem_range] at hk
  split at e
  · rename_i hp
    injection e with e
    have hpx : x.p = prZ s k := by rw [← e, at_p]
    refine ⟨?_, ?_, by rw [hpx]; exact e.symm, by rw [← e]; exact hp⟩
    · rw [hpx]; unfold prZ; split <;> omega
    · rw [hpx]; unfold prZ; split <;> omega
  · cases e
def bestZ : List LZ → Int × Bool
  | [] => (0, false)
  | x :: _ => (x.p, true)
theorem best_bnd (s : Int) (os : List OZ) : 0 ≤ (bestZ (levelsZ s os)).1 ∧ (bestZ (levelsZ s os)).1 ≤ 9999 := by
  cases h : levelsZ s os with
  | nil => simp [bestZ]
  | cons x t =>
    have := lev_mem (s := s) (os := os) (x := x) (by rw [h]; simp)
    simp only [bestZ]; omega

def d11 : List AV → List NObj → Option AV
  | [.agg [.int .i64 a, .int .i64 b, .int .i64 c, .int .i64 d, .int .i64 e, .int .i64 f, .int .i64 g, .sl (.top 0) 0 n], .int .i64 nn, .int .i64 ss], [.view 0 7 els] => (match mapV ozOf els with
    | some l => if n = els.length ∧ okO l = true then some (.tup [.int .i64 (bestZ (levelsZ ss (keepZ (prA nn ss) l))).1, .bool (bestZ (levelsZ ss (keepZ (prA nn ss) l))).2]) else none
    | none => none)
  | _, _ => none
theorem ok11 : ROk d11 := by
  intro xs os r h
  unfold d11 at h
  split at h
  · split at h
    · split at h
      · injection h with h; subst h; simp
      · cases h
    · cases h
  · cases h
theorem s11 : Sound Try.prog 11 (rdS d11 ok11) := by
  refine rd_sound Try.func11 nm11 rc11 rv11 ok11 fun xs os r h vs ρ0 hvs => ⟨xs, ?_, fun _ h => h, fun w0 S hS => ?_⟩
  · unfold d11 at h
    (repeat' (split at h)) <;> first | (cases h; done) | exact Nat.le_of_ble_eq_true rfl
  unfold d11 at h
  split at h
  · rename_i a b c d e f g n nn ss els
    split at h
    · rename_i l hml
      obtain rfl := mapV_ex (g := ozC) (fun _ _ => ozOf_ex) hml
      clear hml
      split at h
      · rename_i hcond
        injection h with h
        subst h
        obtain ⟨rfl, hok⟩ := hcond
        simp only [oz_map, oz_len] at hvs hS ⊢
        have hlen := (okO_ex hok).1
        have hob := (okO_ex hok).2
        have hE : SoundAll Try.prog (EL [(12, rdS d12 ok12)]) := EL_sound (by simp only [List.mem_cons, List.not_mem_nil, or_false, forall_eq_or_imp, forall_eq]; exact s12)
        have hl := oz_len l
        have hD := oz_dat l
        have hT := oz_t0 l
        have hC := oz_cl l
        have hk : (ozLL l).take l.length = ozLL l := List.take_of_length_le (by rw [hl]; exact Nat.le_refl _)
        have hm : mapV ozOf (ozLL l) = some l := mapV_map (f := ozOf) (g := ozC) ozOf_C l
        have h12 : d12 [.agg [.int .i64 a, .int .i64 b, .int .i64 c, .int .i64 d, .int .i64 e, .int .i64 f, .int .i64 g, .sl (.top 0) 0 l.length], .int .i64 nn, .int .i64 ss] [.view 0 7 (ozLL l)] = some (.os 0 3 (lzLL (levelsZ ss (keepZ (prA nn ss) l)))) := by
          simp only [d12, hm, hl]
          rw [if_pos ⟨trivial, hok⟩]
        generalize levelsZ ss (keepZ (prA nn ss) l) = L at h12 ⊢
        cases L with
        | nil =>
          simp only [bestZ]
          simp only [lzLL, List.map_nil] at h12
          unfold m11
          repeat' with_reducible (first
            | refine ZR.h ?_ | refine zI (by decide) ?_
            | (refine zK hE ?_; intro K hK; simp [KR.ks, q11_0, q11_1, q11_2, q11_3, q11_4, hD, hl, hk, h12]; (repeat' (first | refine hK _ _ ?_ | refine And.intro ?_ ?_ | (intro hc; try subst hc))) <;> (try clear hK K))
            | (refine zJ (b := _) (by with_unfolding_all rfl) (fun hc => ?_) (fun hc => ?_) <;> simp at hc <;> (try subst hc)))
          all_goals first | (simp; done) | (simp at *; omega) | ((try simp); refine Imp.auto (by kernel_rfl) ?_ ?_ <;> simp [NLe])
        | cons x t =>
          simp only [bestZ]
          have e1 := lz_dat (x :: t)
          have e2 := lz_len (x :: t)
          have hg : (lzLL (x :: t))[0]? = some [.int .i64 x.p, .int .i64 x.l, .int .i64 x.o] := rfl
          have hge : ∀ hk, (lzLL (x :: t))[0]'hk = [.int .i64 x.p, .int .i64 x.l, .int .i64 x.o] := fun _ => rfl
          rw [List.length_cons] at e2
          have hz : ¬ ((t.length : Int) + 1 = 0) := by omega
          have hz2 : (0 : Int) < (t.length : Int) + 1 := by omega
          generalize lzLL (x :: t) = Z at h12 e1 e2 hg hge
          unfold m11
          repeat' with_reducible (first
            | refine ZR.h ?_ | refine zI (by decide) ?_
            | (refine zK hE ?_; intro K hK; simp [KR.ks, q11_0, q11_1, q11_2, q11_3, q11_4, hD, hl, hk, h12, e1, e2, hg, hge, hz, hz2]; (repeat' (first | refine hK _ _ ?_ | refine And.intro ?_ ?_ | (intro hc; try subst hc))) <;> (try clear hK K))
            | (refine zJ (b := _) (by with_unfolding_all rfl) (fun hc => ?_) (fun hc => ?_) <;> simp at hc <;> (try subst hc)))
          all_goals first | (exfalso; omega) | skip
          all_goals first | (simp; done) | (simp at *; omega) | ((try simp); refine Imp.auto (by kernel_rfl) ?_ ?_ <;> simp [NLe])
      · cases h
    · cases h
  · cases h

def spreadZ (x y : Int × Bool) : Int × Bool := if x.2 = true ∧ y.2 = true then (y.1 - x.1, true) else (0, false)

def d14 : List AV → List NObj → Option AV
  | [.agg [.int .i64 a, .int .i64 b, .int .i64 c, .int .i64 d, .int .i64 e, .int .i64 f, .int .i64 g, .sl (.top 0) 0 n], .int .i64 nn], [.view 0 7 els] => (match mapV ozOf els with
    | some l => if n = els.length ∧ okO l = true then some (.tup [.int .i64 (spreadZ (bestZ (levelsZ 0 (keepZ (prA nn 0) l))) (bestZ (levelsZ 1 (keepZ (prA nn 1) l)))).1, .bool (spreadZ (bestZ (levelsZ 0 (keepZ (prA nn 0) l))) (bestZ (levelsZ 1 (keepZ (prA nn 1) l)))).2]) else none
    | none => none)
  | _, _ => none
theorem ok14 : ROk d14 := by
  intro xs os r h
  unfold d14 at h
  split at h
  · split at h
    · split at h
      · injection h with h; subst h; simp
      · cases h
    · cases h
  · cases h
theorem s14 : Sound Try.prog 14 (rdS d14 ok14) := by
  refine rd_sound Try.func14 nm14 rc14 rv14 ok14 fun xs os r h vs ρ0 hvs => ⟨xs, ?_, fun _ h => h, fun w0 S hS => ?_⟩
  · unfold d14 at h
    (repeat' (split at h)) <;> first | (cases h; done) | exact Nat.le_of_ble_eq_true rfl
  unfold d14 at h
  split at h
  · rename_i a b c d e f g n nn els
    split at h
    · rename_i l hml
      obtain rfl := mapV_ex (g := ozC) (fun _ _ => ozOf_ex) hml
      clear hml
      split at h
      · rename_i hcond
        injection h with h
        subst h
        obtain ⟨rfl, hok⟩ := hcond
        simp only [oz_map, oz_len] at hvs hS ⊢
        have hlen := (okO_ex hok).1
        have hob := (okO_ex hok).2
        have hE : SoundAll Try.prog (EL [(11, rdS d11 ok11)]) := EL_sound (by simp only [List.mem_cons, List.not_mem_nil, or_false, forall_eq_or_imp, forall_eq]; exact s11)
        have hl := oz_len l
        have hD := oz_dat l
        have hT := oz_t0 l
        have hC := oz_cl l
        have hk : (ozLL l).take l.length = ozLL l := List.take_of_length_le (by rw [hl]; exact Nat.le_refl _)
        have hm : mapV ozOf (ozLL l) = some l := mapV_map (f := ozOf) (g := ozC) ozOf_C l
        have h11 : ∀ s, d11 [.agg [.int .i64 a, .int .i64 b, .int .i64 c, .int .i64 d, .int .i64 e, .int .i64 f, .int .i64 g, .sl (.top 0) 0 l.length], .int .i64 nn, .int .i64 s] [.view 0 7 (ozLL l)] = some (.tup [.int .i64 (bestZ (levelsZ s (keepZ (prA nn s) l))).1, .bool (bestZ (levelsZ s (keepZ (prA nn s) l))).2]) := fun s => by
          simp only [d11, hm, hl]
          rw [if_pos ⟨trivial, hok⟩]
        have q0 := best_bnd 0 (keepZ (prA nn 0) l)
        have q1 := best_bnd 1 (keepZ (prA nn 1) l)
        have h0 := h11 0
        have h1 := h11 1
        clear h11
        generalize bestZ (levelsZ 0 (keepZ (prA nn 0) l)) = x at h0 q0 ⊢
        generalize bestZ (levelsZ 1 (keepZ (prA nn 1) l)) = y at h1 q1 ⊢
        obtain ⟨x1, x2⟩ := x
        obtain ⟨y1, y2⟩ := y
        simp only at h0 h1 q0 q1
        have w1 : IntKind.wrap .i64 (y1 - x1) = y1 - x1 := wrap_in (by omega) (by omega)
        cases x2 with
        | false =>
          unfold m14
          repeat' with_reducible (first
            | refine ZR.h ?_ | refine zI (by decide) ?_
            | (refine zK hE ?_; intro K hK; simp [KR.ks, q14_0, q14_1, q14_2, q14_3, q14_4, q14_5, hD, hl, hk, h0, h1]; (repeat' (first | refine hK _ _ ?_ | refine And.intro ?_ ?_ | (intro hc; try subst hc))) <;> (try clear hK K))
            | (refine zJ (b := _) (by with_unfolding_all rfl) (fun hc => ?_) (fun hc => ?_) <;> simp at hc <;> (try subst hc)))
          all_goals first | (simp; done) | (simp at *; omega) | ((try simp[spreadZ]); refine Imp.auto (by kernel_rfl) ?_ ?_ <;> simp [NLe, spreadZ])
        | true =>
          cases y2 with
          | false =>
            unfold m14
            repeat' with_reducible (first
              | refine ZR.h ?_ | refine zI (by decide) ?_
              | (refine zK hE ?_; intro K hK; simp [KR.ks, q14_0, q14_1, q14_2, q14_3, q14_4, q14_5, hD, hl, hk, h0, h1]; (repeat' (first | refine hK _ _ ?_ | refine And.intro ?_ ?_ | (intro hc; try subst hc))) <;> (try clear hK K))
              | (refine zJ (b := _) (by with_unfolding_all rfl) (fun hc => ?_) (fun hc => ?_) <;> simp at hc <;> (try subst hc)))
            all_goals first | (simp; done) | (simp at *; omega) | ((try simp[spreadZ]); refine Imp.auto (by kernel_rfl) ?_ ?_ <;> simp [NLe, spreadZ])
          | true =>
            unfold m14
            repeat' with_reducible (first
              | refine ZR.h ?_ | refine zI (by decide) ?_
              | (refine zK hE ?_; intro K hK; simp [KR.ks, q14_0, q14_1, q14_2, q14_3, q14_4, q14_5, hD, hl, hk, h0, h1, w1]; (repeat' (first | refine hK _ _ ?_ | refine And.intro ?_ ?_ | (intro hc; try subst hc))) <;> (try clear hK K))
              | (refine zJ (b := _) (by with_unfolding_all rfl) (fun hc => ?_) (fun hc => ?_) <;> simp at hc <;> (try subst hc)))
            all_goals first | (simp; done) | (simp at *; omega) | ((try simp[spreadZ]); refine Imp.auto (by kernel_rfl) ?_ ?_ <;> simp [NLe, spreadZ])
      · cases h
    · cases h
  · cases h
end Go.W
