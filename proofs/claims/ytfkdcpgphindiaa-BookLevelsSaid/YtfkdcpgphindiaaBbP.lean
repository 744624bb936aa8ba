/- A part of the proof (BbP). -/
import Derived.Test.YtfkdcpgphindiaaBbL
import Derived.Test.YtfkdcpgphindiaaPsJ
import Derived.Test.YtfkdcpgphindiaaBbS
import Derived.Test.YtfkdcpgphindiaaBbT
namespace Go.W
open Go.Proofs
set_option linter.unusedSimpArgs false
set_option linter.unusedVariables false
set_option maxHeartbeats 8000000
attribute [local irreducible] Wm
attribute [local simp] nmap lkp mkPl prs prsL prT ddL idL CRenL CRen Ren RenL NObj.none CRenLL

def d4 : List AV → List NObj → Option AV
  | [.agg [.int .i64 a, .int .i64 b, .int .i64 c, .int .i64 d, .int .i64 e, .int .i64 f, .int .i64 g], .sl (.top 0) 0 n, .int .i64 nn, .int .i64 ss, .int .i64 sh], [.view 0 7 els] => (match mapV ozOf els with
    | some l => if n = els.length then some (.bool true) else none
    | none => none)
  | _, _ => none

theorem ok4 : ROk d4 := by
  intro xs os r h
  unfold d4 at h
  (repeat' (split at h)) <;> first | (cases h; done) | (injection h with h; subst h; simp)

def I4 (a b c d e f g nn ss sh : Int) (l : List OZ) (L : List LZ) (k : Nat) : St := ⟨[(1, .sl (.top 0) 0 l.length), (2, .int .i64 nn), (3, .int .i64 ss), (4, .int .i64 sh), (5, .ptr (.top 1) 0 0), (11, .ptr (.top 2) 0 0), (13, .sl (.top 4) 0 L.length), (14, .sl (.top 5) 0 L.length), (54, .int .i64 L.length), (55, .int .i64 k)], [(0, .view 0 7 (ozLL l)), (1, .cells 0 [.int .i64 a, .int .i64 b, .int .i64 c, .int .i64 d, .int .i64 e, .int .i64 f, .int .i64 g]), (2, .cells 0 [.int .i64 a, .int .i64 b, .int .i64 c, .int .i64 d, .int .i64 e, .int .i64 f, .int .i64 g, .sl (.top 3) 0 l.length]), (3, .arr 0 7 (ozLL l)), (4, .arr 0 3 (lzLL L)), (5, .arr 0 3 (lzLL L))], 6⟩
theorem s4 : Sound Try.prog 4 (rdS d4 ok4) := by
  refine rd_sound Try.func4 nm4 rc4 rv4 ok4 fun xs os r h vs ρ0 hvs => ⟨xs, ?_, fun _ h => h, fun w0 S hS => ?_⟩
  · unfold d4 at h
    (repeat' (split at h)) <;> first | (cases h; done) | exact Nat.le_of_ble_eq_true rfl
  unfold d4 at h
  split at h
  · rename_i a b c d e f g n nn ss sh els
    split at h
    · rename_i l hml
      obtain rfl := mapV_ex (g := ozC) (fun _ _ => ozOf_ex) hml
      clear hml
      split at h
      · rename_i hcond
        injection h with h
        subst h
        subst hcond
        simp only [oz_map, oz_len] at hvs hS ⊢
        have hE : SoundAll Try.prog (EL [(6, nestS [(7, false)] d6 ok6), (7, nestS [] d7 ok7), (10, rdS d10 ok10), (11, rdS d11 ok11), (12, rdS d12 ok12), (13, rdS d13 ok13), (14, rdS d14 ok14), (15, rdS d15 ok15)]) := EL_sound (by simp only [List.mem_cons, List.not_mem_nil, or_false, forall_eq_or_imp, forall_eq]; exact ⟨s6, s7, s10, s11, s12, s13, s14, s15⟩)
        have hl := oz_len l
        have hD := oz_dat l
        have hT := oz_t0 l
        have hC := oz_cl l
        have hk : (ozLL l).take l.length = ozLL l := List.take_of_length_le (by rw [hl]; exact Nat.le_refl _)
        have hm : mapV ozOf (ozLL l) = some l := mapV_map (f := ozOf) (g := ozC) ozOf_C l
        have h7 : d7 [] = some ⟨.bool true, []⟩ := rfl
        cases hmd : madeB a b c d e f g l with
        | false =>
          have h6 : d6 [.agg [.int .i64 a, .int .i64 b, .int .i64 c, .int .i64 d, .int .i64 e, .int .i64 f, .int .i64 g], .os 0 7 (ozLL l)] = some ⟨.tup [.agg [.int .i64 0, .int .i64 0, .int .i64 0, .int .i64 0, .int .i64 0, .int .i64 0, .int .i64 0, .nsl], .bool false], [.free]⟩ := by
            simp only [d6, hm]; rw [if_neg (by rw [hmd]; simp)]
          unfold m4
          repeat' with_reducible (first
            | refine ZR.h ?_ | refine zI (by decide) ?_
            | ((first | refine zK hE ?_ | refine zL hE mixT ?_); intro K hK; simp [KR.ks, KD.ks, KD.cl, q4_0, q4_1, q4_2, q4_3, q4_4, q4_5, q4_6, q4_7, q4_8, q4_9, q4_10, q4_11, q4_12, q4_13, q4_14, q4_15, q4_16, q4_17, q4_18, q4_19, q4_20, q4_21, q4_22, q4_23, q4_24, hT, hC, hD, hl, hk, h6, h7]; (repeat' (first | refine hK _ _ ?_ | refine And.intro ?_ ?_ | (intro hc; try subst hc))) <;> (try clear hK K))
            | (refine zJ (b := _) (by with_unfolding_all rfl) (fun hc => ?_) (fun hc => ?_) <;> simp at hc <;> (try subst hc)))
          all_goals first | (exfalso; omega) | skip
          all_goals first | (simp; done) | (simp at *; omega) | ((try simp[hT, hC, hl]); refine Imp.auto (by kernel_rfl) ?_ ?_ <;> simp [NLe, hT, hC, hl])
        | true =>
          by_cases hz0 : ss = 0
          · subst hz0
            have h6 : d6 [.agg [.int .i64 a, .int .i64 b, .int .i64 c, .int .i64 d, .int .i64 e, .int .i64 f, .int .i64 g], .os 0 7 (ozLL l)] = some ⟨.tup [.agg [.int .i64 a, .int .i64 b, .int .i64 c, .int .i64 d, .int .i64 e, .int .i64 f, .int .i64 g, .os 0 7 (ozLL l)], .bool true], [.free]⟩ := by
              simp only [d6, hm]; rw [if_pos hmd]
            obtain ⟨hcf, hok, hle⟩ := made_ok hmd
            have h10s : d10 [.agg [.int .i64 a, .int .i64 b, .int .i64 c, .int .i64 d, .int .i64 e, .int .i64 f, .int .i64 g, .sl (.top 0) 0 l.length], .int .i64 sh] [.view 0 7 (ozLL l)] = some (.agg [.int .i64 (shardsZ c d sh l).1.p, .int .i64 (shardsZ c d sh l).1.l, .int .i64 (shardsZ c d sh l).1.o, .int .i64 (shardsZ c d sh l).2.p, .int .i64 (shardsZ c d sh l).2.l, .int .i64 (shardsZ c d sh l).2.o]) := by
              simp only [d10, hm, hl]; rw [if_pos ⟨trivial, hok, trivial, hcf⟩]
            have h11s : d11 [.agg [.int .i64 a, .int .i64 b, .int .i64 c, .int .i64 d, .int .i64 e, .int .i64 f, .int .i64 g, .sl (.top 0) 0 l.length], .int .i64 nn, .int .i64 0] [.view 0 7 (ozLL l)] = some (.tup [.int .i64 (bestZ (levelsZ 0 (keepZ (prA nn 0) l))).1, .bool (bestZ (levelsZ 0 (keepZ (prA nn 0) l))).2]) := by
              simp only [d11, hm, hl]; rw [if_pos ⟨trivial, hok⟩]
            have h12s : d12 [.agg [.int .i64 a, .int .i64 b, .int .i64 c, .int .i64 d, .int .i64 e, .int .i64 f, .int .i64 g, .sl (.top 0) 0 l.length], .int .i64 nn, .int .i64 0] [.view 0 7 (ozLL l)] = some (.os 0 3 (lzLL (levelsZ 0 (keepZ (prA nn 0) l)))) := by
              simp only [d12, hm, hl]; rw [if_pos ⟨trivial, hok⟩]
            have h13s : d13 [.sl (.top 0) 0 l.length, .int .i64 nn, .int .i64 0] [.view 0 7 (ozLL l)] = some (.os 0 3 (lzLL (levelsZ 0 (keepZ (prA nn 0) l)))) := by
              simp only [d13, hm, hl]; rw [if_pos ⟨trivial, hok⟩]
            have h13o : d13 [.sl (.top 0) 0 l.length, .int .i64 nn, .int .i64 1] [.view 0 7 (ozLL l)] = some (.os 0 3 (lzLL (levelsZ 1 (keepZ (prA nn 1) l)))) := by
              simp only [d13, hm, hl]; rw [if_pos ⟨trivial, hok⟩]
            have h14 : d14 [.agg [.int .i64 a, .int .i64 b, .int .i64 c, .int .i64 d, .int .i64 e, .int .i64 f, .int .i64 g, .sl (.top 0) 0 l.length], .int .i64 nn] [.view 0 7 (ozLL l)] = some (.tup [.int .i64 (spreadZ (bestZ (levelsZ 0 (keepZ (prA nn 0) l))) (bestZ (levelsZ 1 (keepZ (prA nn 1) l)))).1, .bool (spreadZ (bestZ (levelsZ 0 (keepZ (prA nn 0) l))) (bestZ (levelsZ 1 (keepZ (prA nn 1) l)))).2]) := by
              simp only [d14, hm, hl]; rw [if_pos ⟨trivial, hok⟩]
            have h15a : d15 [.agg [.int .i64 a, .int .i64 b, .int .i64 c, .int .i64 d, .int .i64 e, .int .i64 f, .int .i64 g], .sl (.top 0) 0 l.length, .int .i64 sh, .int .i64 0] [.view 0 7 (ozLL l)] = some (.agg [.int .i64 (shardsZ c d sh l).1.p, .int .i64 (shardsZ c d sh l).1.l, .int .i64 (shardsZ c d sh l).1.o]) := by
              simp only [d15, hm, hl]; rw [if_pos ⟨trivial, hok, hcf, Or.inl (by first | rfl | trivial)⟩]; rfl
            have h15b : d15 [.agg [.int .i64 a, .int .i64 b, .int .i64 c, .int .i64 d, .int .i64 e, .int .i64 f, .int .i64 g], .sl (.top 0) 0 l.length, .int .i64 sh, .int .i64 1] [.view 0 7 (ozLL l)] = some (.agg [.int .i64 (shardsZ c d sh l).2.p, .int .i64 (shardsZ c d sh l).2.l, .int .i64 (shardsZ c d sh l).2.o]) := by
              simp only [d15, hm, hl]; rw [if_pos ⟨trivial, hok, hcf, Or.inr (by first | rfl | trivial)⟩]; rfl
            have wc0 : IntKind.wrap .i64 0 = 0 := rfl
            have wc1 : IntKind.wrap .i64 1 = 1 := rfl
            have lm1 := fun x (hx : x ∈ levelsZ 0 (keepZ (prA nn 0) l)) => lev_mem hx
            have lm2 := fun x (hx : x ∈ levelsZ 1 (keepZ (prA nn 1) l)) => lev_mem hx
            have llen := lev_len 0 (keepZ (prA nn 0) l)
            generalize levelsZ 0 (keepZ (prA nn 0) l) = L at *
            generalize levelsZ 1 (keepZ (prA nn 1) l) = L2 at *
            generalize shardsZ c d sh l = shp at *
            have lT := lz_t0 L
            have lC := lz_cl L
            have ll := lz_len L
            have lD := lz_dat L
            unfold m4
            repeat' with_reducible (first
              | refine ZR.h ?_ | refine zI (by decide) ?_
              | ((first | refine zK hE ?_ | refine zL hE mixT ?_); intro K hK; simp [KR.ks, KD.ks, KD.cl, q4_0, q4_1, q4_2, q4_3, q4_4, q4_5, q4_6, q4_7, q4_8, q4_9, q4_10, q4_11, q4_12, q4_13, q4_14, q4_15, q4_16, q4_17, q4_18, q4_19, q4_20, q4_21, q4_22, q4_23, q4_24, hT, hC, hD, hl, hk, h6, h12s, h13s, ll, lD, lT, lC]; (repeat' (first | refine hK _ _ ?_ | refine And.intro ?_ ?_ | (intro hc; try subst hc))) <;> (try clear hK K))
              | (refine zJ (b := _) (by with_unfolding_all rfl) (fun hc => ?_) (fun hc => ?_) <;> simp at hc <;> (try subst hc)))
            all_goals first | (exfalso; omega) | skip
            all_goals (refine Wm_loop (fun k => I4 a b c d e f g nn 0 sh l L k) (fun k => k ≤ L.length) (fun k => L.length - k) 0 (Nat.zero_le _) ?_ ?_)
            · simp only [I4]
              rw [hS]
              (refine Imp.autoX [(3, some 33)] (by kernel_rfl) ?_ ?_ <;> simp [NLe, mkPlX, hT, hC, hl, lT, lC, ll])
            rintro k hkl
            (try simp only at hkl)
            simp only [I4]
            by_cases hlt : k < L.length
            · obtain ⟨x, hx⟩ : ∃ x, L[k]? = some x := ⟨_, List.getElem?_eq_getElem hlt⟩
              obtain ⟨hg, hge⟩ := lz_at hx
              have hji : (k : Int) < (L.length : Int) := by omega
              have wj : IntKind.wrap .i64 ((k : Int) + 1) = (k : Int) + 1 := wrap_in (by omega) (by omega)
              simp only [lzC] at hg hge
              repeat' with_reducible (first
                | refine ZR.h ?_ | refine zI (by decide) ?_
                | ((first | refine zK hE ?_ | refine zL hE mixT ?_); intro K hK; simp [KR.ks, KD.ks, KD.cl, q4_0, q4_1, q4_2, q4_3, q4_4, q4_5, q4_6, q4_7, q4_8, q4_9, q4_10, q4_11, q4_12, q4_13, q4_14, q4_15, q4_16, q4_17, q4_18, q4_19, q4_20, q4_21, q4_22, q4_23, q4_24, hT, hC, hD, hl, hk, lT, lC, ll, lD, hlt, hji, hg, hge, wj]; (repeat' (first | refine hK _ _ ?_ | refine And.intro ?_ ?_ | (intro hc; try subst hc))) <;> (try clear hK K))
                | (refine zJ (b := _) (by with_unfolding_all rfl) (fun hc => ?_) (fun hc => ?_) <;> simp at hc <;> (try subst hc)))
              all_goals first | (exfalso; omega) | skip
              all_goals refine ⟨k + 1, hlt, Nat.sub_lt_sub_left hlt (Nat.lt_succ_self k), ?_⟩
              all_goals simp only [I4]
              all_goals rw [hS]
              all_goals (refine Imp.autoX [(3, some 3)] (by kernel_rfl) ?_ ?_ <;> simp [NLe, mkPlX, hT, hC, hl, lT, lC, ll])
            obtain rfl : k = L.length := by omega
            have hji : ¬ ((L.length : Int) < (L.length : Int)) := by omega
            clear hlt hkl llen h12s h13s lT lC ll lD h6
            cases L with
            | nil =>
              simp only [bestZ, List.length_nil] at *
              cases L2 with
              | nil =>
                simp only [bestZ, spreadZ] at *
                simp only [show lzLL [] = [] from rfl] at *
                repeat' with_reducible (first
                  | refine ZR.h ?_ | refine zI (by decide) ?_
                  | ((first | refine zK hE ?_ | refine zL hE mixT ?_); intro K hK; simp [KR.ks, KD.ks, KD.cl, q4_0, q4_1, q4_2, q4_3, q4_4, q4_5, q4_6, q4_7, q4_8, q4_9, q4_10, q4_11, q4_12, q4_13, q4_14, q4_15, q4_16, q4_17, q4_18, q4_19, q4_20, q4_21, q4_22, q4_23, q4_24, hT, hC, hD, hl, hk, h7, h10s, h11s, h13o, h14, h15a, h15b, hji, wc0, wc1, and_self]; (repeat' (first | refine hK _ _ ?_ | refine And.intro ?_ ?_ | (intro hc; try subst hc))) <;> (try clear hK K))
                  | (refine zJ (b := _) (by with_unfolding_all rfl) (fun hc => ?_) (fun hc => ?_) <;> simp at hc <;> (try subst hc)))
                all_goals first | (exfalso; omega) | skip
                all_goals first | (simp; done) | (simp at *; omega) | ((try simp[hT, hC, hl, spreadZ, bestZ]); refine Imp.auto (by kernel_rfl) ?_ ?_ <;> simp [NLe, hT, hC, hl, spreadZ, bestZ])
              | cons y u =>
                simp only [bestZ, spreadZ] at *
                simp only [show lzLL [] = [] from rfl] at *
                have m2 := lm2 y (by simp)
                have e2 := lz_len (y :: u)
                have e2d := lz_dat (y :: u)
                have hg2 : (lzLL (y :: u))[0]? = some [.int .i64 y.p, .int .i64 y.l, .int .i64 y.o] := rfl
                have hge2 : ∀ hk, (lzLL (y :: u))[0]'hk = [.int .i64 y.p, .int .i64 y.l, .int .i64 y.o] := fun _ => rfl
                rw [List.length_cons] at e2
                have p2 : (0 : Int) < (u.length : Int) + 1 := by omega
                have p2b : ¬ ((u.length : Int) + 1 ≤ 0) := by omega
                generalize lzLL (y :: u) = Y2 at *
                repeat' with_reducible (first
                  | refine ZR.h ?_ | refine zI (by decide) ?_
                  | ((first | refine zK hE ?_ | refine zL hE mixT ?_); intro K hK; simp [KR.ks, KD.ks, KD.cl, q4_0, q4_1, q4_2, q4_3, q4_4, q4_5, q4_6, q4_7, q4_8, q4_9, q4_10, q4_11, q4_12, q4_13, q4_14, q4_15, q4_16, q4_17, q4_18, q4_19, q4_20, q4_21, q4_22, q4_23, q4_24, hT, hC, hD, hl, hk, h7, h10s, h11s, h13o, h14, h15a, h15b, hji, wc0, wc1, e2, e2d, hg2, hge2, p2, p2b, and_self]; (repeat' (first | refine hK _ _ ?_ | refine And.intro ?_ ?_ | (intro hc; try subst hc))) <;> (try clear hK K))
                  | (refine zJ (b := _) (by with_unfolding_all rfl) (fun hc => ?_) (fun hc => ?_) <;> simp at hc <;> (try subst hc)))
                all_goals first | (exfalso; omega) | skip
                all_goals first | (simp; done) | (simp at *; omega) | ((try simp[hT, hC, hl, spreadZ, bestZ]); refine Imp.auto (by kernel_rfl) ?_ ?_ <;> simp [NLe, hT, hC, hl, spreadZ, bestZ])
            | cons x t =>
              simp only [bestZ, List.length_cons] at *
              cases L2 with
              | nil =>
                simp only [bestZ, spreadZ] at *
                have m1 := lm1 x (by simp)
                have e1 := lz_len (x :: t)
                have e1d := lz_dat (x :: t)
                have hg1 : (lzLL (x :: t))[0]? = some [.int .i64 x.p, .int .i64 x.l, .int .i64 x.o] := rfl
                have hge1 : ∀ hk, (lzLL (x :: t))[0]'hk = [.int .i64 x.p, .int .i64 x.l, .int .i64 x.o] := fun _ => rfl
                rw [List.length_cons] at e1
                have p1 : (0 : Int) < (t.length : Int) + 1 := by omega
                have p1b : ¬ ((t.length : Int) + 1 ≤ 0) := by omega
                generalize lzLL (x :: t) = Y1 at *
                simp only [show lzLL [] = [] from rfl] at *
                repeat' with_reducible (first
                  | refine ZR.h ?_ | refine zI (by decide) ?_
                  | ((first | refine zK hE ?_ | refine zL hE mixT ?_); intro K hK; simp [KR.ks, KD.ks, KD.cl, q4_0, q4_1, q4_2, q4_3, q4_4, q4_5, q4_6, q4_7, q4_8, q4_9, q4_10, q4_11, q4_12, q4_13, q4_14, q4_15, q4_16, q4_17, q4_18, q4_19, q4_20, q4_21, q4_22, q4_23, q4_24, hT, hC, hD, hl, hk, h7, h10s, h11s, h13o, h14, h15a, h15b, hji, wc0, wc1, e1, e1d, hg1, hge1, p1, p1b, and_self]; (repeat' (first | refine hK _ _ ?_ | refine And.intro ?_ ?_ | (intro hc; try subst hc))) <;> (try clear hK K))
                  | (refine zJ (b := _) (by with_unfolding_all rfl) (fun hc => ?_) (fun hc => ?_) <;> simp at hc <;> (try subst hc)))
                all_goals first | (exfalso; omega) | skip
                all_goals first | (simp; done) | (simp at *; omega) | ((try simp[hT, hC, hl, spreadZ, bestZ]); refine Imp.auto (by kernel_rfl) ?_ ?_ <;> simp [NLe, hT, hC, hl, spreadZ, bestZ])
              | cons y u =>
                simp only [bestZ, spreadZ] at *
                have m1 := lm1 x (by simp)
                have e1 := lz_len (x :: t)
                have e1d := lz_dat (x :: t)
                have hg1 : (lzLL (x :: t))[0]? = some [.int .i64 x.p, .int .i64 x.l, .int .i64 x.o] := rfl
                have hge1 : ∀ hk, (lzLL (x :: t))[0]'hk = [.int .i64 x.p, .int .i64 x.l, .int .i64 x.o] := fun _ => rfl
                rw [List.length_cons] at e1
                have p1 : (0 : Int) < (t.length : Int) + 1 := by omega
                have p1b : ¬ ((t.length : Int) + 1 ≤ 0) := by omega
                generalize lzLL (x :: t) = Y1 at *
                have m2 := lm2 y (by simp)
                have e2 := lz_len (y :: u)
                have e2d := lz_dat (y :: u)
                have hg2 : (lzLL (y :: u))[0]? = some [.int .i64 y.p, .int .i64 y.l, .int .i64 y.o] := rfl
                have hge2 : ∀ hk, (lzLL (y :: u))[0]'hk = [.int .i64 y.p, .int .i64 y.l, .int .i64 y.o] := fun _ => rfl
                rw [List.length_cons] at e2
                have p2 : (0 : Int) < (u.length : Int) + 1 := by omega
                have p2b : ¬ ((u.length : Int) + 1 ≤ 0) := by omega
                generalize lzLL (y :: u) = Y2 at *
                have wg : IntKind.wrap .i64 (y.p - x.p) = y.p - x.p := wrap_in (by omega) (by omega)
                have wg2 : IntKind.wrap .i64 (-(y.p - x.p)) = x.p - y.p := by rw [wrap_in (by omega) (by omega)]; omega
                have wg3 : IntKind.wrap .i64 (x.p - y.p) = x.p - y.p := wrap_in (by omega) (by omega)
                have ng : -(y.p - x.p) = x.p - y.p := by omega
                repeat' with_reducible (first
                  | refine ZR.h ?_ | refine zI (by decide) ?_
                  | ((first | refine zK hE ?_ | refine zL hE mixT ?_); intro K hK; simp [KR.ks, KD.ks, KD.cl, q4_0, q4_1, q4_2, q4_3, q4_4, q4_5, q4_6, q4_7, q4_8, q4_9, q4_10, q4_11, q4_12, q4_13, q4_14, q4_15, q4_16, q4_17, q4_18, q4_19, q4_20, q4_21, q4_22, q4_23, q4_24, hT, hC, hD, hl, hk, h7, h10s, h11s, h13o, h14, h15a, h15b, hji, wc0, wc1, e1, e1d, hg1, hge1, p1, p1b, e2, e2d, hg2, hge2, p2, p2b, wg, wg2, wg3, ng, and_self]; (repeat' (first | refine hK _ _ ?_ | refine And.intro ?_ ?_ | (intro hc; try subst hc))) <;> (try clear hK K))
                  | (refine zJ (b := _) (by with_unfolding_all rfl) (fun hc => ?_) (fun hc => ?_) <;> simp at hc <;> (try subst hc)))
                all_goals first | (exfalso; omega) | skip
                all_goals first | (simp; done) | (simp at *; omega) | ((try simp[hT, hC, hl, spreadZ, bestZ]); refine Imp.auto (by kernel_rfl) ?_ ?_ <;> simp [NLe, hT, hC, hl, spreadZ, bestZ])
          by_cases hz1 : ss = 1
          · subst hz1
            clear hz0
            have h6 : d6 [.agg [.int .i64 a, .int .i64 b, .int .i64 c, .int .i64 d, .int .i64 e, .int .i64 f, .int .i64 g], .os 0 7 (ozLL l)] = some ⟨.tup [.agg [.int .i64 a, .int .i64 b, .int .i64 c, .int .i64 d, .int .i64 e, .int .i64 f, .int .i64 g, .os 0 7 (ozLL l)], .bool true], [.free]⟩ := by
              simp only [d6, hm]; rw [if_pos hmd]
            obtain ⟨hcf, hok, hle⟩ := made_ok hmd
            have h10s : d10 [.agg [.int .i64 a, .int .i64 b, .int .i64 c, .int .i64 d, .int .i64 e, .int .i64 f, .int .i64 g, .sl (.top 0) 0 l.length], .int .i64 sh] [.view 0 7 (ozLL l)] = some (.agg [.int .i64 (shardsZ c d sh l).1.p, .int .i64 (shardsZ c d sh l).1.l, .int .i64 (shardsZ c d sh l).1.o, .int .i64 (shardsZ c d sh l).2.p, .int .i64 (shardsZ c d sh l).2.l, .int .i64 (shardsZ c d sh l).2.o]) := by
              simp only [d10, hm, hl]; rw [if_pos ⟨trivial, hok, trivial, hcf⟩]
            have h11s : d11 [.agg [.int .i64 a, .int .i64 b, .int .i64 c, .int .i64 d, .int .i64 e, .int .i64 f, .int .i64 g, .sl (.top 0) 0 l.length], .int .i64 nn, .int .i64 1] [.view 0 7 (ozLL l)] = some (.tup [.int .i64 (bestZ (levelsZ 1 (keepZ (prA nn 1) l))).1, .bool (bestZ (levelsZ 1 (keepZ (prA nn 1) l))).2]) := by
              simp only [d11, hm, hl]; rw [if_pos ⟨trivial, hok⟩]
            have h12s : d12 [.agg [.int .i64 a, .int .i64 b, .int .i64 c, .int .i64 d, .int .i64 e, .int .i64 f, .int .i64 g, .sl (.top 0) 0 l.length], .int .i64 nn, .int .i64 1] [.view 0 7 (ozLL l)] = some (.os 0 3 (lzLL (levelsZ 1 (keepZ (prA nn 1) l)))) := by
              simp only [d12, hm, hl]; rw [if_pos ⟨trivial, hok⟩]
            have h13s : d13 [.sl (.top 0) 0 l.length, .int .i64 nn, .int .i64 1] [.view 0 7 (ozLL l)] = some (.os 0 3 (lzLL (levelsZ 1 (keepZ (prA nn 1) l)))) := by
              simp only [d13, hm, hl]; rw [if_pos ⟨trivial, hok⟩]
            have h13o : d13 [.sl (.top 0) 0 l.length, .int .i64 nn, .int .i64 0] [.view 0 7 (ozLL l)] = some (.os 0 3 (lzLL (levelsZ 0 (keepZ (prA nn 0) l)))) := by
              simp only [d13, hm, hl]; rw [if_pos ⟨trivial, hok⟩]
            have h14 : d14 [.agg [.int .i64 a, .int .i64 b, .int .i64 c, .int .i64 d, .int .i64 e, .int .i64 f, .int .i64 g, .sl (.top 0) 0 l.length], .int .i64 nn] [.view 0 7 (ozLL l)] = some (.tup [.int .i64 (spreadZ (bestZ (levelsZ 0 (keepZ (prA nn 0) l))) (bestZ (levelsZ 1 (keepZ (prA nn 1) l)))).1, .bool (spreadZ (bestZ (levelsZ 0 (keepZ (prA nn 0) l))) (bestZ (levelsZ 1 (keepZ (prA nn 1) l)))).2]) := by
              simp only [d14, hm, hl]; rw [if_pos ⟨trivial, hok⟩]
            have h15a : d15 [.agg [.int .i64 a, .int .i64 b, .int .i64 c, .int .i64 d, .int .i64 e, .int .i64 f, .int .i64 g], .sl (.top 0) 0 l.length, .int .i64 sh, .int .i64 0] [.view 0 7 (ozLL l)] = some (.agg [.int .i64 (shardsZ c d sh l).1.p, .int .i64 (shardsZ c d sh l).1.l, .int .i64 (shardsZ c d sh l).1.o]) := by
              simp only [d15, hm, hl]; rw [if_pos ⟨trivial, hok, hcf, Or.inl (by first | rfl | trivial)⟩]; rfl
            have h15b : d15 [.agg [.int .i64 a, .int .i64 b, .int .i64 c, .int .i64 d, .int .i64 e, .int .i64 f, .int .i64 g], .sl (.top 0) 0 l.length, .int .i64 sh, .int .i64 1] [.view 0 7 (ozLL l)] = some (.agg [.int .i64 (shardsZ c d sh l).2.p, .int .i64 (shardsZ c d sh l).2.l, .int .i64 (shardsZ c d sh l).2.o]) := by
              simp only [d15, hm, hl]; rw [if_pos ⟨trivial, hok, hcf, Or.inr (by first | rfl | trivial)⟩]; rfl
            have wc0 : IntKind.wrap .i64 0 = 0 := rfl
            have wc1 : IntKind.wrap .i64 1 = 1 := rfl
            have lm1 := fun x (hx : x ∈ levelsZ 1 (keepZ (prA nn 1) l)) => lev_mem hx
            have lm2 := fun x (hx : x ∈ levelsZ 0 (keepZ (prA nn 0) l)) => lev_mem hx
            have llen := lev_len 1 (keepZ (prA nn 1) l)
            generalize levelsZ 1 (keepZ (prA nn 1) l) = L at *
            generalize levelsZ 0 (keepZ (prA nn 0) l) = L2 at *
            generalize shardsZ c d sh l = shp at *
            have lT := lz_t0 L
            have lC := lz_cl L
            have ll := lz_len L
            have lD := lz_dat L
            unfold m4
            repeat' with_reducible (first
              | refine ZR.h ?_ | refine zI (by decide) ?_
              | ((first | refine zK hE ?_ | refine zL hE mixT ?_); intro K hK; simp [KR.ks, KD.ks, KD.cl, q4_0, q4_1, q4_2, q4_3, q4_4, q4_5, q4_6, q4_7, q4_8, q4_9, q4_10, q4_11, q4_12, q4_13, q4_14, q4_15, q4_16, q4_17, q4_18, q4_19, q4_20, q4_21, q4_22, q4_23, q4_24, hT, hC, hD, hl, hk, h6, h12s, h13s, ll, lD, lT, lC]; (repeat' (first | refine hK _ _ ?_ | refine And.intro ?_ ?_ | (intro hc; try subst hc))) <;> (try clear hK K))
              | (refine zJ (b := _) (by with_unfolding_all rfl) (fun hc => ?_) (fun hc => ?_) <;> simp at hc <;> (try subst hc)))
            all_goals first | (exfalso; omega) | skip
            all_goals (refine Wm_loop (fun k => I4 a b c d e f g nn 1 sh l L k) (fun k => k ≤ L.length) (fun k => L.length - k) 0 (Nat.zero_le _) ?_ ?_)
            · simp only [I4]
              rw [hS]
              (refine Imp.autoX [(3, some 33)] (by kernel_rfl) ?_ ?_ <;> simp [NLe, mkPlX, hT, hC, hl, lT, lC, ll])
            rintro k hkl
            (try simp only at hkl)
            simp only [I4]
            by_cases hlt : k < L.length
            · obtain ⟨x, hx⟩ : ∃ x, L[k]? = some x := ⟨_, List.getElem?_eq_getElem hlt⟩
              obtain ⟨hg, hge⟩ := lz_at hx
              have hji : (k : Int) < (L.length : Int) := by omega
              have wj : IntKind.wrap .i64 ((k : Int) + 1) = (k : Int) + 1 := wrap_in (by omega) (by omega)
              simp only [lzC] at hg hge
              repeat' with_reducible (first
                | refine ZR.h ?_ | refine zI (by decide) ?_
                | ((first | refine zK hE ?_ | refine zL hE mixT ?_); intro K hK; simp [KR.ks, KD.ks, KD.cl, q4_0, q4_1, q4_2, q4_3, q4_4, q4_5, q4_6, q4_7, q4_8, q4_9, q4_10, q4_11, q4_12, q4_13, q4_14, q4_15, q4_16, q4_17, q4_18, q4_19, q4_20, q4_21, q4_22, q4_23, q4_24, hT, hC, hD, hl, hk, lT, lC, ll, lD, hlt, hji, hg, hge, wj]; (repeat' (first | refine hK _ _ ?_ | refine And.intro ?_ ?_ | (intro hc; try subst hc))) <;> (try clear hK K))
                | (refine zJ (b := _) (by with_unfolding_all rfl) (fun hc => ?_) (fun hc => ?_) <;> simp at hc <;> (try subst hc)))
              all_goals first | (exfalso; omega) | skip
              all_goals refine ⟨k + 1, hlt, Nat.sub_lt_sub_left hlt (Nat.lt_succ_self k), ?_⟩
              all_goals simp only [I4]
              all_goals rw [hS]
              all_goals (refine Imp.autoX [(3, some 3)] (by kernel_rfl) ?_ ?_ <;> simp [NLe, mkPlX, hT, hC, hl, lT, lC, ll])
            obtain rfl : k = L.length := by omega
            have hji : ¬ ((L.length : Int) < (L.length : Int)) := by omega
            clear hlt hkl llen h12s h13s lT lC ll lD h6
            cases L with
            | nil =>
              simp only [bestZ, List.length_nil] at *
              cases L2 with
              | nil =>
                simp only [bestZ, spreadZ] at *
                simp only [show lzLL [] = [] from rfl] at *
                repeat' with_reducible (first
                  | refine ZR.h ?_ | refine zI (by decide) ?_
                  | ((first | refine zK hE ?_ | refine zL hE mixT ?_); intro K hK; simp [KR.ks, KD.ks, KD.cl, q4_0, q4_1, q4_2, q4_3, q4_4, q4_5, q4_6, q4_7, q4_8, q4_9, q4_10, q4_11, q4_12, q4_13, q4_14, q4_15, q4_16, q4_17, q4_18, q4_19, q4_20, q4_21, q4_22, q4_23, q4_24, hT, hC, hD, hl, hk, h7, h10s, h11s, h13o, h14, h15a, h15b, hji, wc0, wc1, and_self]; (repeat' (first | refine hK _ _ ?_ | refine And.intro ?_ ?_ | (intro hc; try subst hc))) <;> (try clear hK K))
                  | (refine zJ (b := _) (by with_unfolding_all rfl) (fun hc => ?_) (fun hc => ?_) <;> simp at hc <;> (try subst hc)))
                all_goals first | (exfalso; omega) | skip
                all_goals first | (simp; done) | (simp at *; omega) | ((try simp[hT, hC, hl, spreadZ, bestZ]); refine Imp.auto (by kernel_rfl) ?_ ?_ <;> simp [NLe, hT, hC, hl, spreadZ, bestZ])
              | cons y u =>
                simp only [bestZ, spreadZ] at *
                simp only [show lzLL [] = [] from rfl] at *
                have m2 := lm2 y (by simp)
                have e2 := lz_len (y :: u)
                have e2d := lz_dat (y :: u)
                have hg2 : (lzLL (y :: u))[0]? = some [.int .i64 y.p, .int .i64 y.l, .int .i64 y.o] := rfl
                have hge2 : ∀ hk, (lzLL (y :: u))[0]'hk = [.int .i64 y.p, .int .i64 y.l, .int .i64 y.o] := fun _ => rfl
                rw [List.length_cons] at e2
                have p2 : (0 : Int) < (u.length : Int) + 1 := by omega
                have p2b : ¬ ((u.length : Int) + 1 ≤ 0) := by omega
                generalize lzLL (y :: u) = Y2 at *
                repeat' with_reducible (first
                  | refine ZR.h ?_ | refine zI (by decide) ?_
                  | ((first | refine zK hE ?_ | refine zL hE mixT ?_); intro K hK; simp [KR.ks, KD.ks, KD.cl, q4_0, q4_1, q4_2, q4_3, q4_4, q4_5, q4_6, q4_7, q4_8, q4_9, q4_10, q4_11, q4_12, q4_13, q4_14, q4_15, q4_16, q4_17, q4_18, q4_19, q4_20, q4_21, q4_22, q4_23, q4_24, hT, hC, hD, hl, hk, h7, h10s, h11s, h13o, h14, h15a, h15b, hji, wc0, wc1, e2, e2d, hg2, hge2, p2, p2b, and_self]; (repeat' (first | refine hK _ _ ?_ | refine And.intro ?_ ?_ | (intro hc; try subst hc))) <;> (try clear hK K))
                  | (refine zJ (b := _) (by with_unfolding_all rfl) (fun hc => ?_) (fun hc => ?_) <;> simp at hc <;> (try subst hc)))
                all_goals first | (exfalso; omega) | skip
                all_goals first | (simp; done) | (simp at *; omega) | ((try simp[hT, hC, hl, spreadZ, bestZ]); refine Imp.auto (by kernel_rfl) ?_ ?_ <;> simp [NLe, hT, hC, hl, spreadZ, bestZ])
            | cons x t =>
              simp only [bestZ, List.length_cons] at *
              cases L2 with
              | nil =>
                simp only [bestZ, spreadZ] at *
                have m1 := lm1 x (by simp)
                have e1 := lz_len (x :: t)
                have e1d := lz_dat (x :: t)
                have hg1 : (lzLL (x :: t))[0]? = some [.int .i64 x.p, .int .i64 x.l, .int .i64 x.o] := rfl
                have hge1 : ∀ hk, (lzLL (x :: t))[0]'hk = [.int .i64 x.p, .int .i64 x.l, .int .i64 x.o] := fun _ => rfl
                rw [List.length_cons] at e1
                have p1 : (0 : Int) < (t.length : Int) + 1 := by omega
                have p1b : ¬ ((t.length : Int) + 1 ≤ 0) := by omega
                generalize lzLL (x :: t) = Y1 at *
                simp only [show lzLL [] = [] from rfl] at *
                repeat' with_reducible (first
                  | refine ZR.h ?_ | refine zI (by decide) ?_
                  | ((first | refine zK hE ?_ | refine zL hE mixT ?_); intro K hK; simp [KR.ks, KD.ks, KD.cl, q4_0, q4_1, q4_2, q4_3, q4_4, q4_5, q4_6, q4_7, q4_8, q4_9, q4_10, q4_11, q4_12, q4_13, q4_14, q4_15, q4_16, q4_17, q4_18, q4_19, q4_20, q4_21, q4_22, q4_23, q4_24, hT, hC, hD, hl, hk, h7, h10s, h11s, h13o, h14, h15a, h15b, hji, wc0, wc1, e1, e1d, hg1, hge1, p1, p1b, and_self]; (repeat' (first | refine hK _ _ ?_ | refine And.intro ?_ ?_ | (intro hc; try subst hc))) <;> (try clear hK K))
                  | (refine zJ (b := _) (by with_unfolding_all rfl) (fun hc => ?_) (fun hc => ?_) <;> simp at hc <;> (try subst hc)))
                all_goals first | (exfalso; omega) | skip
                all_goals first | (simp; done) | (simp at *; omega) | ((try simp[hT, hC, hl, spreadZ, bestZ]); refine Imp.auto (by kernel_rfl) ?_ ?_ <;> simp [NLe, hT, hC, hl, spreadZ, bestZ])
              | cons y u =>
                simp only [bestZ, spreadZ] at *
                have m1 := lm1 x (by simp)
                have e1 := lz_len (x :: t)
                have e1d := lz_dat (x :: t)
                have hg1 : (lzLL (x :: t))[0]? = some [.int .i64 x.p, .int .i64 x.l, .int .i64 x.o] := rfl
                have hge1 : ∀ hk, (lzLL (x :: t))[0]'hk = [.int .i64 x.p, .int .i64 x.l, .int .i64 x.o] := fun _ => rfl
                rw [List.length_cons] at e1
                have p1 : (0 : Int) < (t.length : Int) + 1 := by omega
                have p1b : ¬ ((t.length : Int) + 1 ≤ 0) := by omega
                generalize lzLL (x :: t) = Y1 at *
                have m2 := lm2 y (by simp)
                have e2 := lz_len (y :: u)
                have e2d := lz_dat (y :: u)
                have hg2 : (lzLL (y :: u))[0]? = some [.int .i64 y.p, .int .i64 y.l, .int .i64 y.o] := rfl
                have hge2 : ∀ hk, (lzLL (y :: u))[0]'hk = [.int .i64 y.p, .int .i64 y.l, .int .i64 y.o] := fun _ => rfl
                rw [List.length_cons] at e2
                have p2 : (0 : Int) < (u.length : Int) + 1 := by omega
                have p2b : ¬ ((u.length : Int) + 1 ≤ 0) := by omega
                generalize lzLL (y :: u) = Y2 at *
                have wg : IntKind.wrap .i64 (y.p - x.p) = y.p - x.p := wrap_in (by omega) (by omega)
                have wg2 : IntKind.wrap .i64 (-(y.p - x.p)) = x.p - y.p := by rw [wrap_in (by omega) (by omega)]; omega
                have wg3 : IntKind.wrap .i64 (x.p - y.p) = x.p - y.p := wrap_in (by omega) (by omega)
                have ng : -(y.p - x.p) = x.p - y.p := by omega
                repeat' with_reducible (first
                  | refine ZR.h ?_ | refine zI (by decide) ?_
                  | ((first | refine zK hE ?_ | refine zL hE mixT ?_); intro K hK; simp [KR.ks, KD.ks, KD.cl, q4_0, q4_1, q4_2, q4_3, q4_4, q4_5, q4_6, q4_7, q4_8, q4_9, q4_10, q4_11, q4_12, q4_13, q4_14, q4_15, q4_16, q4_17, q4_18, q4_19, q4_20, q4_21, q4_22, q4_23, q4_24, hT, hC, hD, hl, hk, h7, h10s, h11s, h13o, h14, h15a, h15b, hji, wc0, wc1, e1, e1d, hg1, hge1, p1, p1b, e2, e2d, hg2, hge2, p2, p2b, wg, wg2, wg3, ng, and_self]; (repeat' (first | refine hK _ _ ?_ | refine And.intro ?_ ?_ | (intro hc; try subst hc))) <;> (try clear hK K))
                  | (refine zJ (b := _) (by with_unfolding_all rfl) (fun hc => ?_) (fun hc => ?_) <;> simp at hc <;> (try subst hc)))
                all_goals first | (exfalso; omega) | skip
                all_goals first | (simp; done) | (simp at *; omega) | ((try simp[hT, hC, hl, spreadZ, bestZ]); refine Imp.auto (by kernel_rfl) ?_ ?_ <;> simp [NLe, hT, hC, hl, spreadZ, bestZ])
          have h6 : d6 [.agg [.int .i64 a, .int .i64 b, .int .i64 c, .int .i64 d, .int .i64 e, .int .i64 f, .int .i64 g], .os 0 7 (ozLL l)] = some ⟨.tup [.agg [.int .i64 a, .int .i64 b, .int .i64 c, .int .i64 d, .int .i64 e, .int .i64 f, .int .i64 g, .os 0 7 (ozLL l)], .bool true], [.free]⟩ := by
            simp only [d6, hm]; rw [if_pos hmd]
          unfold m4
          repeat' with_reducible (first
            | refine ZR.h ?_ | refine zI (by decide) ?_
            | ((first | refine zK hE ?_ | refine zL hE mixT ?_); intro K hK; simp [KR.ks, KD.ks, KD.cl, q4_0, q4_1, q4_2, q4_3, q4_4, q4_5, q4_6, q4_7, q4_8, q4_9, q4_10, q4_11, q4_12, q4_13, q4_14, q4_15, q4_16, q4_17, q4_18, q4_19, q4_20, q4_21, q4_22, q4_23, q4_24, hT, hC, hD, hl, hk, h6, h7, hz0, hz1]; (repeat' (first | refine hK _ _ ?_ | refine And.intro ?_ ?_ | (intro hc; try subst hc))) <;> (try clear hK K))
            | (refine zJ (b := _) (by with_unfolding_all rfl) (fun hc => ?_) (fun hc => ?_) <;> simp at hc <;> (try subst hc)))
          all_goals first | (exfalso; omega) | skip
          all_goals first | (simp; done) | (simp at *; omega) | ((try simp[hT, hC, hl]); refine Imp.auto (by kernel_rfl) ?_ ?_ <;> simp [NLe, hT, hC, hl])
      · cases h
    · cases h
  · cases h
end Go.W
