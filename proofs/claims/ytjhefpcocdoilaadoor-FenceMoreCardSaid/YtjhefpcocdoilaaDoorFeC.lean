/- A part of the proof (FeB, FeC). -/
import Derived.Test.YtjhefpcocdoilaaDoorFdG
import Derived.Test.YtjhefpcocdoilaaDoorFaA
import Derived.Test.YtjhefpcocdoilaaDoorFeA
import Derived.Test.YtjhefpcocdoilaaDoorFdA
namespace Go.W
open Go.Proofs
set_option linter.unusedSimpArgs false
set_option linter.unusedVariables false
set_option maxHeartbeats 8000000
attribute [local irreducible] Wm
attribute [local simp] nmap lkp mkPl prs prsL prT ddL idL CRenL CRen Ren RenL NObj.none CRenLL

def r3b : MCode := .seq (.draw q3_13 p3_13) (.seq (.draw q3_14 p3_14) (.seq (.seq (.reg q3_15) (.cond (.t 163) (.seq (.reg q3_16) .ret) .skip)) (.seq (.reg q3_17) (.seq (.seq (.reg q3_18) (.cond (.t 194) (.seq (.reg q3_19) .ret) .skip)) (.seq (.reg q3_20) (.seq (.reg q3_21) .ret))))))
theorem m3_eq : m3 = .seq (.reg q3_0) (.seq (.reg q3_1) (.seq (.seq (.reg q3_2) (.cond (.t 77) (.seq (.reg q3_3) .ret) .skip)) (.seq (.reg q3_4) (.seq (.seq (.reg q3_5) (.block 0 (.loop (.seq (.reg q3_6) (.seq (.cond (.t 82) .skip (.exit 0)) (.seq (.block 1 (.seq (.reg q3_7) (.seq (.seq (.reg q3_8) (.cond (.t 107) (.seq (.reg q3_9) .ret) .skip)) (.seq (.reg q3_10) (.reg q3_11))))) (.reg q3_12))))))) r3b)))) := rfl
def E3 : St := ⟨[(0, .bool true)], [], 1⟩
def grL (L : List L5) (n : Int) : List L5 := L.map fun x => addL x n
theorem gr_len (L : List L5) (n : Int) : (grL L n).length = L.length := List.length_map ..
theorem gr_at {L : List L5} {n : Int} {k : Nat} {x : L5} (h : L[k]? = some x) : (grL L n)[k]? = some (addL x n) := by
  unfold grL; rw [List.getElem?_map, h]; rfl
theorem gr_snoc {L : List L5} {n : Int} {k : Nat} {x : L5} (h : L[k]? = some x) : grL (L.take (k + 1)) n = grL (L.take k) n ++ [addL x n] := by
  rw [take_snoc h]; unfold grL; rw [List.map_append]; rfl
def bigP (x : L5) : Prop := 1073741824 < x.o ∨ 1073741824 < x.q ∨ 1073741824 < x.w ∨ 1073741824 < x.n ∨ 1073741824 < x.p
instance (x : L5) : Decidable (bigP x) := by unfold bigP; infer_instance
theorem wrong_all : ∀ {L : List L5} {i : Int}, (∀ x, x ∈ L → ¬ badP x) → wrongZ L i = -1
  | [], _, _ => rfl
  | x :: L, i, h => by
    unfold wrongZ
    rw [if_neg (h x (List.mem_cons_self ..))]
    exact wrong_all fun y hy => h y (List.mem_cons_of_mem _ hy)
theorem gr_ok {L : List L5} {n : Int} (h0 : 0 ≤ n) (h1 : n ≤ 65535) (hb : ∀ x, x ∈ L → ¬ badP x) (hg : ∀ x, x ∈ L → ¬ bigP x) : wrongZ (grL L n) 0 = -1 := wrong_all fun y hy => by
  obtain ⟨x, hx, rfl⟩ := List.mem_map.1 hy
  have h2 := hb x hx
  have h3 := hg x hx
  unfold badP at h2 ⊢
  unfold bigP at h3
  simp only [addL]
  omega
theorem wrong_m1 : ∀ {L : List L5} {i : Int}, 0 ≤ i → wrongZ L i < 0 → wrongZ L i = -1
  | [], _, _, _ => rfl
  | x :: L, i, h, h2 => by
    unfold wrongZ at h2 ⊢
    split at h2
    · omega
    · rw [if_neg ‹_›]
      exact wrong_m1 (by omega) h2
def S3b (a b c d e f g p kd a1 a2 nm sd pr a6 a7 qt uo uq uw un ub us last n : Int) (L : List L5) : St := ⟨[(1, .sl (.top 0) 0 L.length), (3, .int .i64 p), (6, .int .i64 last), (11, .ptr (.top 1) 0 0), (12, .ptr (.top 2) 0 0), (15, .ptr (.top 3) 0 0), (17, .sl (.top 4) 0 L.length)], [(0, .view 0 5 (l5LL L)), (1, .cells 0 [.int .i64 kd, .int .i64 a1, .int .i64 a2, .int .i64 nm, .int .i64 sd, .int .i64 pr, .int .i64 a6, .int .i64 a7, .int .i64 qt]), (2, .cells 0 [.int .i64 uo, .int .i64 uq, .int .i64 uw, .int .i64 un, .int .i64 ub, .int .i64 us]), (3, .cells 0 [.int .i64 a, .int .i64 b, .int .i64 c, .int .i64 d, .int .i64 e, .int .i64 f, .int .i64 g]), (4, .arr 0 5 (l5LL (grL L n)))], 5⟩
theorem w3b {a b c d e f g p kd a1 a2 nm sd pr a6 a7 qt uo uq uw un ub us last n : Int} {L : List L5} {w0 : World} {S : Sc} {Q : Exit → St → Prop}
    (hS : S.m = 1) (hla : (L.length : Int) = a) (ha0 : 0 < a) (ha1 : a ≤ 6) (hw : wrongZ L 0 = -1) (hw2 : wrongZ (grL L n) 0 = -1) (hp0 : 0 ≤ p) (hp1 : p < a) (hn : 0 ≤ n)
    (b1 : smP qt) (b2 : smP pr) (b3 : smP uo) (b4 : smP uq) (b5 : smP uw) (b6 : smP un) (b7 : smP ub) (b8 : smP us) (b9 : smP last) (hQ : ∀ s : St, lk s.tl 14 = .bool true → Imp 1 ⟨[(0, .bool true)], s.hl, s.nb⟩ E3 → Q .ret s) : Wm Tryd.prog w0 S Tryd.f3.ntmps [] r3b (S3b a b c d e f g p kd a1 a2 nm sd pr a6 a7 qt uo uq uw un ub us last n L) Q := by
  have hE : SoundAll Tryd.prog (EL [(4, nestS [] d4 ok4), (5, rdS d5 ok5), (6, rdS d6 ok6), (7, rdS d7 ok7), (8, nestS [(5, false)] d8 ok8), (9, rdS d9 ok9), (10, nestS [] d10 ok10), (11, nestS [(8, false)] d11 ok11), (12, nestS [(8, false)] d12 ok12)]) := EL_sound (by simp only [List.mem_cons, List.not_mem_nil, or_false, forall_eq_or_imp, forall_eq]; exact ⟨s4, s5, s6, s7, s8, s9, s10, s11, s12⟩)
  have hT := l5_t0 L
  have hC := l5_cl L
  have hl := l5_len L
  have hD := l5_dat L
  obtain ⟨G, hG⟩ : ∃ G, grL L n = G := ⟨_, rfl⟩
  have hGl : G.length = L.length := by rw [← hG, gr_len]
  have gT := l5_t0 G
  have gC := l5_cl G
  have gl := l5_len G
  rw [hGl] at gl
  have gD := l5_dat G
  have htk : (l5LL L).take L.length = l5LL L := List.take_of_length_le (by omega)
  have gtk : (l5LL G).take L.length = l5LL G := List.take_of_length_le (by omega)
  have hm : ∀ M : List L5, mapV l5Of (l5LL M) = some M := fun M => mapV_map (f := l5Of) (g := l5C) l5Of_C _
  have h7 : d7 [] [] = some (.bool true) := rfl
  have h9 : d9 [.sl (.top 0) 0 L.length] [.view 0 5 (l5LL L)] = some (.os 0 5 (l5LL L)) := by
    simp only [d9, hm]; rw [if_pos ⟨hl.symm, by omega⟩]
  have g9 : d9 [.sl (.top 0) 0 L.length] [.view 0 5 (l5LL G)] = some (.os 0 5 (l5LL G)) := by
    simp only [d9, hm]; rw [if_pos ⟨gl.symm, by omega⟩]
  obtain ⟨x, hx⟩ : ∃ x, L[p.toNat]? = some x := ⟨_, List.getElem?_eq_getElem (by omega)⟩
  have hgx : G[p.toNat]? = some (addL x n) := by rw [← hG]; exact gr_at hx
  rw [hG] at hw2
  obtain ⟨lf, hlf⟩ : ∃ z, fcC ⟨a, b, c, d, e, f, g, L⟩ = z := ⟨_, rfl⟩
  obtain ⟨lg, hlg⟩ : ∃ z, fcC ⟨a, b, c, d, e, f, g, G⟩ = z := ⟨_, rfl⟩
  have f1 := fc_t0 ⟨a, b, c, d, e, f, g, L⟩
  have f2 := fc_cl ⟨a, b, c, d, e, f, g, L⟩
  have f3 := fc_t0 ⟨a, b, c, d, e, f, g, G⟩
  have f4 := fc_cl ⟨a, b, c, d, e, f, g, G⟩
  rw [hlf] at f1 f2
  rw [hlg] at f3 f4
  have h8 : ∀ u, d8 [.agg [.int .i64 a, .int .i64 b, .int .i64 c, .int .i64 d, .int .i64 e, .int .i64 f, .int .i64 g], .os u 5 (l5LL L)] = some ⟨.tup [.op 0 lf, .raw .nilIface], [.free]⟩ := fun u => by
    simp only [d8, hm]; rw [if_pos ⟨hla, ha0, by omega, hw⟩, hlf]
  have g8 : ∀ u, d8 [.agg [.int .i64 a, .int .i64 b, .int .i64 c, .int .i64 d, .int .i64 e, .int .i64 f, .int .i64 g], .os u 5 (l5LL G)] = some ⟨.tup [.op 0 lg, .raw .nilIface], [.free]⟩ := fun u => by
    simp only [d8, hm]; rw [if_pos ⟨by omega, ha0, by omega, hw2⟩, hlg]
  have h10 : d10 [.agg [.int .i64 kd, .int .i64 a1, .int .i64 a2, .int .i64 nm, .int .i64 sd, .int .i64 pr, .int .i64 a6, .int .i64 a7, .int .i64 qt]] = some ⟨.agg [.int .i64 kd, .int .i64 a1, .int .i64 a2, .int .i64 nm, .int .i64 sd, .int .i64 pr, .int .i64 a6, .int .i64 a7, .int .i64 qt], []⟩ := rfl
  have hbds : 0 ≤ p ∧ smP qt ∧ smP pr ∧ smP uo ∧ smP uq ∧ smP uw ∧ smP un ∧ smP ub ∧ smP us ∧ smP last := ⟨hp0, b1, b2, b3, b4, b5, b6, b7, b8, b9⟩
  have sb : ∀ z : Int, smP z → bd z := fun z hz => by unfold smP at hz; unfold bd; omega
  have h11 : ∀ u k, d11 [.op u lf, .int .i64 p, .agg [.int .i64 k, .int .i64 a1, .int .i64 a2, .int .i64 nm, .int .i64 sd, .int .i64 pr, .int .i64 a6, .int .i64 a7, .int .i64 qt], .agg [.int .i64 uo, .int .i64 uq, .int .i64 uw, .int .i64 un, .int .i64 ub, .int .i64 us], .int .i64 last] = some ⟨if k ≠ 1 ∨ mayP x sd pr qt uo uq uw un ub us last then .raw .nilIface else .iface 74 .bot, [.free]⟩ := fun u k => by
    simp only [d11, ← hlf, fcOf_C]
    rw [if_pos hbds]
    simp only [hx]
  have g11 : ∀ u k, d11 [.op u lg, .int .i64 p, .agg [.int .i64 k, .int .i64 a1, .int .i64 a2, .int .i64 nm, .int .i64 sd, .int .i64 pr, .int .i64 a6, .int .i64 a7, .int .i64 qt], .agg [.int .i64 uo, .int .i64 uq, .int .i64 uw, .int .i64 un, .int .i64 ub, .int .i64 us], .int .i64 last] = some ⟨if k ≠ 1 ∨ mayP (addL x n) sd pr qt uo uq uw un ub us last then .raw .nilIface else .iface 74 .bot, [.free]⟩ := fun u k => by
    simp only [d11, ← hlg, fcOf_C]
    rw [if_pos hbds]
    simp only [hgx]
  have h12 : ∀ u, d12 [.op u lf, .int .i64 p, .agg [.int .i64 uo, .int .i64 uq, .int .i64 uw, .int .i64 un, .int .i64 ub, .int .i64 us]] = some ⟨.bool (decide (withinP x uo uq uw un ub us)), [.free]⟩ := fun u => by
    simp only [d12, ← hlf, fcOf_C]
    rw [if_pos ⟨hp0, sb _ b6, sb _ b7, sb _ b8⟩]
    simp only [hx]
  have g12 : ∀ u, d12 [.op u lg, .int .i64 p, .agg [.int .i64 uo, .int .i64 uq, .int .i64 uw, .int .i64 un, .int .i64 ub, .int .i64 us]] = some ⟨.bool (decide (withinP (addL x n) uo uq uw un ub us)), [.free]⟩ := fun u => by
    simp only [d12, ← hlg, fcOf_C]
    rw [if_pos ⟨hp0, sb _ b6, sb _ b7, sb _ b8⟩]
    simp only [hgx]
  have v11 : ∀ u, d11 [.op u lf, .int .i64 p, .agg [.int .i64 4, .int .i64 a1, .int .i64 a2, .int .i64 nm, .int .i64 sd, .int .i64 pr, .int .i64 a6, .int .i64 a7, .int .i64 qt], .agg [.int .i64 uo, .int .i64 uq, .int .i64 uw, .int .i64 un, .int .i64 ub, .int .i64 us], .int .i64 last] = some ⟨.raw .nilIface, [.free]⟩ := fun u => by
    rw [h11]; rw [if_pos (.inl (by decide))]
  have m1 := may_mono (l := x) (side := sd) (price := pr) (qty := qt) (uo := uo) (uq := uq) (uw := uw) (un := un) (ub := ub) (us := us) (last := last) hn
  have m2 := within_mono (l := x) (uo := uo) (uq := uq) (uw := uw) (un := un) (ub := ub) (us := us) hn
  replace h11 := fun u => h11 u kd
  replace g11 := fun u => g11 u kd
  clear hlf hlg hx hgx
  simp only [S3b, hG]
  by_cases hm1 : kd ≠ 1 ∨ mayP x sd pr qt uo uq uw un ub us last
  · by_cases hw1 : withinP x uo uq uw un ub us
    · rw [if_pos hm1] at h11
      rw [if_pos (hm1.elim .inl fun h => .inr (m1 h))] at g11
      rw [decide_eq_true hw1] at h12
      rw [decide_eq_true (m2 hw1)] at g12
      unfold r3b
      repeat' with_reducible (first
        | refine ZR.h ?_ | refine zI (by decide) ?_
        | ((first | refine zK hE ?_ | refine zL hE mixT ?_); intro K hK; simp [KR.ks, KD.ks, KD.cl, q3_0, q3_1, q3_2, q3_3, q3_4, q3_5, q3_6, q3_7, q3_8, q3_9, q3_10, q3_11, q3_12, q3_13, q3_14, q3_15, q3_16, q3_17, q3_18, q3_19, q3_20, q3_21, hT, hC, hl, hD, gT, gC, gl, gD, htk, gtk, f1, f2, f3, f4, h7, h8, g8, h9, g9, h10, v11, h11, h12, g11, g12]; (repeat' (first | refine hK _ _ ?_ | refine And.intro ?_ ?_ | (intro hc; try subst hc))) <;> (try clear hK K))
        | (refine zJ (b := _) (by with_unfolding_all rfl) (fun hc => ?_) (fun hc => ?_) <;> simp at hc <;> (try subst hc)))
      all_goals first | (simp; done) | (exfalso; omega) | (refine hQ _ rfl ?_; (try simp only [E3]); refine Imp.auto (by kernel_rfl) ?_ ?_ <;> simp [NLe, mkPlX, hT, hC])
    · rw [if_pos hm1] at h11
      rw [if_pos (hm1.elim .inl fun h => .inr (m1 h))] at g11
      rw [decide_eq_false hw1] at h12
      unfold r3b
      repeat' with_reducible (first
        | refine ZR.h ?_ | refine zI (by decide) ?_
        | ((first | refine zK hE ?_ | refine zL hE mixT ?_); intro K hK; simp [KR.ks, KD.ks, KD.cl, q3_0, q3_1, q3_2, q3_3, q3_4, q3_5, q3_6, q3_7, q3_8, q3_9, q3_10, q3_11, q3_12, q3_13, q3_14, q3_15, q3_16, q3_17, q3_18, q3_19, q3_20, q3_21, hT, hC, hl, hD, gT, gC, gl, gD, htk, gtk, f1, f2, f3, f4, h7, h8, g8, h9, g9, h10, v11, h11, h12, g11]; (repeat' (first | refine hK _ _ ?_ | refine And.intro ?_ ?_ | (intro hc; try subst hc))) <;> (try clear hK K))
        | (refine zJ (b := _) (by with_unfolding_all rfl) (fun hc => ?_) (fun hc => ?_) <;> simp at hc <;> (try subst hc)))
      all_goals first | (simp; done) | (exfalso; omega) | (refine hQ _ rfl ?_; (try simp only [E3]); refine Imp.auto (by kernel_rfl) ?_ ?_ <;> simp [NLe, mkPlX, hT, hC])
  · by_cases hw1 : withinP x uo uq uw un ub us
    · rw [if_neg hm1] at h11
      rw [decide_eq_true hw1] at h12
      rw [decide_eq_true (m2 hw1)] at g12
      unfold r3b
      repeat' with_reducible (first
        | refine ZR.h ?_ | refine zI (by decide) ?_
        | ((first | refine zK hE ?_ | refine zL hE mixT ?_); intro K hK; simp [KR.ks, KD.ks, KD.cl, q3_0, q3_1, q3_2, q3_3, q3_4, q3_5, q3_6, q3_7, q3_8, q3_9, q3_10, q3_11, q3_12, q3_13, q3_14, q3_15, q3_16, q3_17, q3_18, q3_19, q3_20, q3_21, hT, hC, hl, hD, gT, gC, gl, gD, htk, gtk, f1, f2, f3, f4, h7, h8, g8, h9, g9, h10, v11, h11, h12, g12]; (repeat' (first | refine hK _ _ ?_ | refine And.intro ?_ ?_ | (intro hc; try subst hc))) <;> (try clear hK K))
        | (refine zJ (b := _) (by with_unfolding_all rfl) (fun hc => ?_) (fun hc => ?_) <;> simp at hc <;> (try subst hc)))
      all_goals first | (simp; done) | (exfalso; omega) | (refine hQ _ rfl ?_; (try simp only [E3]); refine Imp.auto (by kernel_rfl) ?_ ?_ <;> simp [NLe, mkPlX, hT, hC])
    · rw [if_neg hm1] at h11
      rw [decide_eq_false hw1] at h12
      unfold r3b
      repeat' with_reducible (first
        | refine ZR.h ?_ | refine zI (by decide) ?_
        | ((first | refine zK hE ?_ | refine zL hE mixT ?_); intro K hK; simp [KR.ks, KD.ks, KD.cl, q3_0, q3_1, q3_2, q3_3, q3_4, q3_5, q3_6, q3_7, q3_8, q3_9, q3_10, q3_11, q3_12, q3_13, q3_14, q3_15, q3_16, q3_17, q3_18, q3_19, q3_20, q3_21, hT, hC, hl, hD, gT, gC, gl, gD, htk, gtk, f1, f2, f3, f4, h7, h8, g8, h9, g9, h10, v11, h11, h12]; (repeat' (first | refine hK _ _ ?_ | refine And.intro ?_ ?_ | (intro hc; try subst hc))) <;> (try clear hK K))
        | (refine zJ (b := _) (by with_unfolding_all rfl) (fun hc => ?_) (fun hc => ?_) <;> simp at hc <;> (try subst hc)))
      all_goals first | (simp; done) | (exfalso; omega) | (refine hQ _ rfl ?_; (try simp only [E3]); refine Imp.auto (by kernel_rfl) ?_ ?_ <;> simp [NLe, mkPlX, hT, hC])
end Go.W
namespace Go.W
open Go.Proofs
set_option linter.unusedSimpArgs false
set_option linter.unusedVariables false
set_option maxHeartbeats 8000000
attribute [local irreducible] Wm
attribute [local simp] nmap lkp mkPl prs prsL prT ddL idL CRenL CRen Ren RenL NObj.none CRenLL

def I3 (a b c d e f g p kd a1 a2 nm sd pr a6 a7 qt uo uq uw un ub us last n : Int) (L : List L5) (k : Nat) : St := ⟨[(1, .sl (.top 0) 0 L.length), (2, .int .u16 n), (3, .int .i64 p), (6, .int .i64 last), (11, .ptr (.top 1) 0 0), (12, .ptr (.top 2) 0 0), (15, .ptr (.top 3) 0 0), (17, .sl (.top 4) 0 k), (79, .sl (.top 0) 0 L.length), (80, .int .i64 L.length), (81, .int .i64 k)], [(0, .view 0 5 (l5LL L)), (1, .cells 0 [.int .i64 kd, .int .i64 a1, .int .i64 a2, .int .i64 nm, .int .i64 sd, .int .i64 pr, .int .i64 a6, .int .i64 a7, .int .i64 qt]), (2, .cells 0 [.int .i64 uo, .int .i64 uq, .int .i64 uw, .int .i64 un, .int .i64 ub, .int .i64 us]), (3, .cells 0 [.int .i64 a, .int .i64 b, .int .i64 c, .int .i64 d, .int .i64 e, .int .i64 f, .int .i64 g]), (4, .arr 0 5 (l5LL (grL (L.take k) n)))], 5⟩
def d3 : List AV → List NObj → Option AV
  | [.agg [.int .i64 a, .int .i64 b, .int .i64 c, .int .i64 d, .int .i64 e, .int .i64 f, .int .i64 g], .sl (.top 0) 0 m, .int .u16 n, .int .i64 p, .agg [.int .i64 kd, .int .i64 a1, .int .i64 a2, .int .i64 nm, .int .i64 sd, .int .i64 pr, .int .i64 a6, .int .i64 a7, .int .i64 qt], .agg [.int .i64 uo, .int .i64 uq, .int .i64 uw, .int .i64 un, .int .i64 ub, .int .i64 us], .int .i64 last], [.view 0 5 els] => (match mapV l5Of els with
    | some L => if m = els.length ∧ els.length ≤ 9223372036854775807 ∧ 0 ≤ n ∧ n ≤ 65535 then some (.bool true) else none
    | none => none)
  | _, _ => none

theorem ok3 : ROk d3 := by
  intro xs os r h
  unfold d3 at h
  (repeat' (split at h)) <;> first | (cases h; done) | (injection h with h; subst h; simp)
theorem chk_6 {a b c d e f g : Int} (h : checkZ a b c d e f g = -1) : 0 < a ∧ a ≤ 6 := by
  unfold checkZ at h
  split at h
  · omega
  · omega
theorem s3 : Sound Tryd.prog 3 (rdS d3 ok3) := by
  refine rd_sound Tryd.func3 nm3 rc3 rv3 ok3 fun xs os r h vs ρ0 hvs => ⟨xs, ?_, fun _ h => h, fun w0 S hS => ?_⟩
  · unfold d3 at h
    (repeat' (split at h)) <;> first | (cases h; done) | exact Nat.le_of_ble_eq_true rfl
  unfold d3 at h
  split at h
  · rename_i a b c d e f g m n p kd a1 a2 nm sd pr a6 a7 qt uo uq uw un ub us last els
    split at h
    · rename_i L hL
      obtain rfl := mapV_ex (g := l5C) (fun _ _ => l5Of_ex) hL
      clear hL
      split at h
      · rename_i hcond
        injection h with h
        subst h
        obtain ⟨rfl, hlen, hn0, hn1⟩ := hcond
        have hll : List.map l5C L = l5LL L := rfl
        rw [hll] at hvs hlen ⊢
        change S.m = 1 at hS
        have hE : SoundAll Tryd.prog (EL [(4, nestS [] d4 ok4), (5, rdS d5 ok5), (6, rdS d6 ok6), (7, rdS d7 ok7), (8, nestS [(5, false)] d8 ok8), (9, rdS d9 ok9), (10, nestS [] d10 ok10), (11, nestS [(8, false)] d11 ok11), (12, nestS [(8, false)] d12 ok12)]) := EL_sound (by simp only [List.mem_cons, List.not_mem_nil, or_false, forall_eq_or_imp, forall_eq]; exact ⟨s4, s5, s6, s7, s8, s9, s10, s11, s12⟩)
        have hT := l5_t0 L
        have hC := l5_cl L
        have hl := l5_len L
        have hD := l5_dat L
        rw [hl] at hlen
        have htk : (l5LL L).take L.length = l5LL L := List.take_of_length_le (by omega)
        have hm : ∀ M : List L5, mapV l5Of (l5LL M) = some M := fun M => mapV_map (f := l5Of) (g := l5C) l5Of_C _
        have h7 : d7 [] [] = some (.bool true) := rfl
        change Wm _ _ _ _ _ _ ⟨argL 0 [.agg [.int .i64 a, .int .i64 b, .int .i64 c, .int .i64 d, .int .i64 e, .int .i64 f, .int .i64 g], .sl (.top 0) 0 (l5LL L).length, .int .u16 n, .int .i64 p, .agg [.int .i64 kd, .int .i64 a1, .int .i64 a2, .int .i64 nm, .int .i64 sd, .int .i64 pr, .int .i64 a6, .int .i64 a7, .int .i64 qt], .agg [.int .i64 uo, .int .i64 uq, .int .i64 uw, .int .i64 un, .int .i64 ub, .int .i64 us], .int .i64 last], idxO 0 [.view 0 5 (l5LL L)], 1⟩ _
        by_cases hck : checkZ a b c d e f g = -1
        · have h4 : d4 [.agg [.int .i64 a, .int .i64 b, .int .i64 c, .int .i64 d, .int .i64 e, .int .i64 f, .int .i64 g]] = some ⟨.tup [.agg [.int .i64 a, .int .i64 b, .int .i64 c, .int .i64 d, .int .i64 e, .int .i64 f, .int .i64 g], .raw .nilIface], []⟩ := by
            simp only [d4]; rw [if_pos hck]
          by_cases hla : (L.length : Int) = a
          · have hlen6 : (L.length : Int) ≤ 6 := by rw [hla]; exact (chk_6 hck).2
            have h5 : d5 [.sl (.top 0) 0 L.length] [.view 0 5 (l5LL L)] = some (.int .i64 (wrongZ L 0)) := by
              simp only [d5, hm]; rw [if_pos ⟨hl.symm, by omega⟩]
            by_cases hw : wrongZ L 0 < 0
            · have hw0 : ¬ 0 ≤ wrongZ L 0 := by omega
              by_cases hp0 : p < 0
              · unfold m3
                repeat' with_reducible (first
                  | refine ZR.h ?_ | refine zI (by decide) ?_
                  | ((first | refine zK hE ?_ | refine zL hE mixT ?_); intro K hK; simp [KR.ks, KD.ks, KD.cl, q3_0, q3_1, q3_2, q3_3, q3_4, q3_5, q3_6, q3_7, q3_8, q3_9, q3_10, q3_11, q3_12, q3_13, q3_14, q3_15, q3_16, q3_17, q3_18, q3_19, q3_20, q3_21, hT, hC, hl, hD, htk, h4, h7, h5, hla, hw0, hp0]; (repeat' (first | refine hK _ _ ?_ | refine And.intro ?_ ?_ | (intro hc; try subst hc))) <;> (try clear hK K))
                  | (refine zJ (b := _) (by with_unfolding_all rfl) (fun hc => ?_) (fun hc => ?_) <;> simp at hc <;> (try subst hc)))
                all_goals first | (simp; done) | (simp at *; omega) | ((try simp[hT, hC]); refine Imp.auto (by kernel_rfl) ?_ ?_ <;> simp [NLe, mkPlX, hT, hC])
              · by_cases hp1 : a ≤ p
                · unfold m3
                  repeat' with_reducible (first
                    | refine ZR.h ?_ | refine zI (by decide) ?_
                    | ((first | refine zK hE ?_ | refine zL hE mixT ?_); intro K hK; simp [KR.ks, KD.ks, KD.cl, q3_0, q3_1, q3_2, q3_3, q3_4, q3_5, q3_6, q3_7, q3_8, q3_9, q3_10, q3_11, q3_12, q3_13, q3_14, q3_15, q3_16, q3_17, q3_18, q3_19, q3_20, q3_21, hT, hC, hl, hD, htk, h4, h7, h5, hla, hw0, hp0, hp1]; (repeat' (first | refine hK _ _ ?_ | refine And.intro ?_ ?_ | (intro hc; try subst hc))) <;> (try clear hK K))
                    | (refine zJ (b := _) (by with_unfolding_all rfl) (fun hc => ?_) (fun hc => ?_) <;> simp at hc <;> (try subst hc)))
                  all_goals first | (simp; done) | (simp at *; omega) | ((try simp[hT, hC]); refine Imp.auto (by kernel_rfl) ?_ ?_ <;> simp [NLe, mkPlX, hT, hC])
                · have h6 : d6 [.sl (.top 0) 0 9] [.view 0 1 [[.int .i64 qt], [.int .i64 pr], [.int .i64 uo], [.int .i64 uq], [.int .i64 uw], [.int .i64 un], [.int .i64 ub], [.int .i64 us], [.int .i64 last]]] = some (.bool (smallZ [qt, pr, uo, uq, uw, un, ub, us, last])) := by
                    have := mapV_map (f := inOf) (g := inC) inOf_C [qt, pr, uo, uq, uw, un, ub, us, last]
                    simp only [List.map_cons, List.map_nil, inC] at this
                    simp only [d6, this]
                    rfl
                  obtain ⟨sm, hsm⟩ : ∃ z, smallZ [qt, pr, uo, uq, uw, un, ub, us, last] = z := ⟨_, rfl⟩
                  rw [hsm] at h6
                  by_cases hs1 : sm = true
                  · subst hs1
                    have hal : ∀ q ∈ [qt, pr, uo, uq, uw, un, ub, us, last], smP q := by
                      intro q hq
                      have := List.all_eq_true.1 hsm q hq
                      simpa using this
                    have sb : smP qt ∧ smP pr ∧ smP uo ∧ smP uq ∧ smP uw ∧ smP un ∧ smP ub ∧ smP us ∧ smP last := by
                      refine ⟨?_, ?_, ?_, ?_, ?_, ?_, ?_, ?_, ?_⟩ <;> apply hal <;> simp
                    obtain ⟨y0, y1, y2, y3, y4, y5, y6, y7, y8⟩ := sb
                    have hwm := wrong_m1 (Int.le_refl 0) hw
                    have hnb := wrong_neg (Int.le_refl 0) hw
                    obtain ⟨h0a, h6a⟩ := chk_6 hck
                    rw [m3_eq]
                    repeat' with_reducible (first
                      | refine ZR.h ?_ | refine zI (by decide) ?_
                      | ((first | refine zK hE ?_ | refine zL hE mixT ?_); intro K hK; simp [KR.ks, KD.ks, KD.cl, q3_0, q3_1, q3_2, q3_3, q3_4, q3_5, q3_6, q3_7, q3_8, q3_9, q3_10, q3_11, q3_12, q3_13, q3_14, q3_15, q3_16, q3_17, q3_18, q3_19, q3_20, q3_21, hT, hC, hl, hD, htk, h4, h7, h5, h6, hla, hw0, hp0, hp1]; (repeat' (first | refine hK _ _ ?_ | refine And.intro ?_ ?_ | (intro hc; try subst hc))) <;> (try clear hK K))
                      | (refine zJ (b := _) (by with_unfolding_all rfl) (fun hc => ?_) (fun hc => ?_) <;> simp at hc <;> (try subst hc)))
                    all_goals refine Wm_loop (fun k => I3 a b c d e f g p kd a1 a2 nm sd pr a6 a7 qt uo uq uw un ub us last n L k) (fun k => k ≤ L.length ∧ ∀ x, x ∈ L.take k → ¬ bigP x) (fun k => L.length - k) 0 ⟨Nat.zero_le _, fun x hx => by simp at hx⟩ ?_ ?_
                    · simp only [I3, List.take_zero, grL, List.map_nil, l5LL]
                      simp only [← show l5LL L = List.map l5C L from rfl]
                      rw [hS]
                      (refine Imp.auto (by kernel_rfl) ?_ ?_ <;> simp [NLe, mkPlX, hT, hC, hl, hla])
                    rintro k ⟨hk, hbg⟩
                    (try simp only at hk hbg)
                    simp only [I3]
                    have t1 := l5_t0 (grL (L.take k) n)
                    have t2 := l5_cl (grL (L.take k) n)
                    have t3 := l5_len (grL (L.take k) n)
                    rw [gr_len, List.length_take, Nat.min_eq_left hk] at t3
                    by_cases hkl : k < L.length
                    · obtain ⟨x, hx⟩ : ∃ e, L[k]? = some e := ⟨_, List.getElem?_eq_getElem hkl⟩
                      have ww : IntKind.wrap .i64 ((k : Int) + 1) = (k : Int) + 1 := wrap_in (by omega) (by omega)
                      have hki : (k : Int) < (L.length : Int) := by omega
                      obtain ⟨g1, g2⟩ := l5_at hx
                      simp only [l5C] at g1 g2
                      by_cases hb : bigP x
                      · unfold bigP at hb
                        repeat' with_reducible (first
                          | refine ZR.h ?_ | refine zI (by decide) ?_
                          | ((first | refine zK hE ?_ | refine zL hE mixT ?_); intro K hK; simp [KR.ks, KD.ks, KD.cl, q3_0, q3_1, q3_2, q3_3, q3_4, q3_5, q3_6, q3_7, q3_8, q3_9, q3_10, q3_11, q3_12, q3_13, q3_14, q3_15, q3_16, q3_17, q3_18, q3_19, q3_20, q3_21, hT, hC, hl, hD, htk, h7, hkl, hki, g1, g2]; (repeat' (first | refine hK _ _ ?_ | refine And.intro ?_ ?_ | (intro hc; try subst hc))) <;> (try clear hK K))
                          | (refine zJ (b := _) (by with_unfolding_all rfl) (fun hc => ?_) (fun hc => ?_) <;> simp at hc <;> (try subst hc)))
                        all_goals first | (exfalso; omega) | skip
                        all_goals first | (simp; done) | (simp at *; omega) | ((try simp[hT, hC]); refine Imp.auto (by kernel_rfl) ?_ ?_ <;> simp [NLe, mkPlX, hT, hC])
                      · have hnx := hnb x (List.mem_of_getElem? hx)
                        have hbg2 : ∀ y, y ∈ L.take (k + 1) → ¬ bigP y := fun y hy => by
                          rw [take_snoc hx] at hy
                          rcases List.mem_append.1 hy with h | h
                          · exact hbg y h
                          · rw [List.mem_singleton.1 h]; exact hb
                        have c1 : ¬ 1073741824 < x.o := by unfold bigP at hb; omega
                        have c2 : ¬ 1073741824 < x.q := by unfold bigP at hb; omega
                        have c3 : ¬ 1073741824 < x.w := by unfold bigP at hb; omega
                        have c4 : ¬ 1073741824 < x.n := by unfold bigP at hb; omega
                        have c5 : ¬ 1073741824 < x.p := by unfold bigP at hb; omega
                        have e0 : IntKind.wrap .i64 n = n := wrap_in (by omega) (by omega)
                        have e1 : IntKind.wrap .i64 (x.o + n) = x.o + n := wrap_in (by unfold badP at hnx; omega) (by omega)
                        have e2 : IntKind.wrap .i64 (x.q + n) = x.q + n := wrap_in (by unfold badP at hnx; omega) (by omega)
                        have e3 : IntKind.wrap .i64 (x.w + n) = x.w + n := wrap_in (by unfold badP at hnx; omega) (by omega)
                        have e4 : IntKind.wrap .i64 (x.n + n) = x.n + n := wrap_in (by unfold badP at hnx; omega) (by omega)
                        have e5 : IntKind.wrap .i64 (x.p + n) = x.p + n := wrap_in (by unfold badP at hnx; omega) (by omega)
                        have q6 := l5_app (grL (L.take k) n) (addL x n)
                        rw [← gr_snoc hx] at q6
                        have t4 := l5_t0 (grL (L.take (k + 1)) n)
                        have t5 := l5_cl (grL (L.take (k + 1)) n)
                        have htl : ∀ q, tlLL q (l5LL (grL (L.take k) n)) = true := fun q => l5_tl q _
                        have d1 : (k + 1) * 40 ≤ 140737488355328 := by omega
                        have d2 : k + 1 ≤ 9223372036854775807 := by omega
                        have d3' : k ≤ 9223372036854775806 := by omega
                        simp only [l5C, addL] at q6
                        repeat' with_reducible (first
                          | refine ZR.h ?_ | refine zI (by decide) ?_
                          | ((first | refine zK hE ?_ | refine zL hE mixT ?_); intro K hK; simp [KR.ks, KD.ks, KD.cl, q3_0, q3_1, q3_2, q3_3, q3_4, q3_5, q3_6, q3_7, q3_8, q3_9, q3_10, q3_11, q3_12, q3_13, q3_14, q3_15, q3_16, q3_17, q3_18, q3_19, q3_20, q3_21, hT, hC, hl, hD, htk, hkl, hki, g1, g2, ww, c1, c2, c3, c4, c5, e0, e1, e2, e3, e4, e5, t1, t2, t3, q6, htl, d1, d2, d3']; (repeat' (first | refine hK _ _ ?_ | refine And.intro ?_ ?_ | (intro hc; try subst hc))) <;> (try clear hK K))
                          | (refine zJ (b := _) (by with_unfolding_all rfl) (fun hc => ?_) (fun hc => ?_) <;> simp at hc <;> (try subst hc)))
                        all_goals first | (exfalso; omega) | omega | skip
                        all_goals refine ⟨k + 1, ⟨hkl, hbg2⟩, Nat.sub_lt_sub_left hkl (Nat.lt_succ_self k), ?_⟩
                        all_goals simp only [I3]
                        all_goals rw [hS]
                        all_goals (refine Imp.auto (by kernel_rfl) ?_ ?_ <;> simp [NLe, mkPlX, hT, hC, hl, q6, t4, t5])
                    · obtain rfl : k = L.length := by omega
                      have hki : ¬ ((L.length : Int) < (L.length : Int)) := by omega
                      rw [List.take_length] at hbg t1 t2 t3 ⊢
                      have hw2 := gr_ok hn0 hn1 hnb hbg
                      repeat' with_reducible (first
                        | refine ZR.h ?_ | refine zI (by decide) ?_
                        | ((first | refine zK hE ?_ | refine zL hE mixT ?_); intro K hK; simp [KR.ks, KD.ks, KD.cl, q3_0, q3_1, q3_2, q3_3, q3_4, q3_5, q3_6, q3_7, q3_8, q3_9, q3_10, q3_11, q3_12, q3_13, q3_14, q3_15, q3_16, q3_17, q3_18, q3_19, q3_20, q3_21, hT, hC, hl, hD, htk, hki]; (repeat' (first | refine hK _ _ ?_ | refine And.intro ?_ ?_ | (intro hc; try subst hc))) <;> (try clear hK K))
                        | (refine zJ (b := _) (by with_unfolding_all rfl) (fun hc => ?_) (fun hc => ?_) <;> simp at hc <;> (try subst hc)))
                      all_goals refine Wm_imp (s' := S3b a b c d e f g p kd a1 a2 nm sd pr a6 a7 qt uo uq uw un ub us last n L) ?_ (w3b hS hla h0a h6a hwm hw2 (by omega) (by omega) hn0 y0 y1 y2 y3 y4 y5 y6 y7 y8 ?_)
                      · rw [hS]
                        simp only [S3b]
                        (refine Imp.auto (by kernel_rfl) ?_ ?_ <;> simp [NLe, mkPlX, hT, hC, t1, t2])
                      · intro s h6' hs
                        show Holds (rdRes s [.t 14]) _
                        simp only [rdRes, rdRV, h6']
                        refine ⟨_, rfl, ?_⟩
                        show Imp 1 _ _
                        refine Imp.trans hs ?_
                        simp only [E3]
                        (refine Imp.auto (by kernel_rfl) ?_ ?_ <;> simp [NLe, mkPlX, hT, hC])
                  · replace hs1 : sm = false := by simpa using hs1
                    subst hs1
                    unfold m3
                    repeat' with_reducible (first
                      | refine ZR.h ?_ | refine zI (by decide) ?_
                      | ((first | refine zK hE ?_ | refine zL hE mixT ?_); intro K hK; simp [KR.ks, KD.ks, KD.cl, q3_0, q3_1, q3_2, q3_3, q3_4, q3_5, q3_6, q3_7, q3_8, q3_9, q3_10, q3_11, q3_12, q3_13, q3_14, q3_15, q3_16, q3_17, q3_18, q3_19, q3_20, q3_21, hT, hC, hl, hD, htk, h4, h7, h5, h6, hla, hw0, hp0, hp1]; (repeat' (first | refine hK _ _ ?_ | refine And.intro ?_ ?_ | (intro hc; try subst hc))) <;> (try clear hK K))
                      | (refine zJ (b := _) (by with_unfolding_all rfl) (fun hc => ?_) (fun hc => ?_) <;> simp at hc <;> (try subst hc)))
                    all_goals first | (simp; done) | (simp at *; omega) | ((try simp[hT, hC]); refine Imp.auto (by kernel_rfl) ?_ ?_ <;> simp [NLe, mkPlX, hT, hC])
            · have hw0 : 0 ≤ wrongZ L 0 := by omega
              unfold m3
              repeat' with_reducible (first
                | refine ZR.h ?_ | refine zI (by decide) ?_
                | ((first | refine zK hE ?_ | refine zL hE mixT ?_); intro K hK; simp [KR.ks, KD.ks, KD.cl, q3_0, q3_1, q3_2, q3_3, q3_4, q3_5, q3_6, q3_7, q3_8, q3_9, q3_10, q3_11, q3_12, q3_13, q3_14, q3_15, q3_16, q3_17, q3_18, q3_19, q3_20, q3_21, hT, hC, hl, hD, htk, h4, h7, h5, hla, hw0]; (repeat' (first | refine hK _ _ ?_ | refine And.intro ?_ ?_ | (intro hc; try subst hc))) <;> (try clear hK K))
                | (refine zJ (b := _) (by with_unfolding_all rfl) (fun hc => ?_) (fun hc => ?_) <;> simp at hc <;> (try subst hc)))
              all_goals first | (simp; done) | (simp at *; omega) | ((try simp[hT, hC]); refine Imp.auto (by kernel_rfl) ?_ ?_ <;> simp [NLe, mkPlX, hT, hC])
          · unfold m3
            repeat' with_reducible (first
              | refine ZR.h ?_ | refine zI (by decide) ?_
              | ((first | refine zK hE ?_ | refine zL hE mixT ?_); intro K hK; simp [KR.ks, KD.ks, KD.cl, q3_0, q3_1, q3_2, q3_3, q3_4, q3_5, q3_6, q3_7, q3_8, q3_9, q3_10, q3_11, q3_12, q3_13, q3_14, q3_15, q3_16, q3_17, q3_18, q3_19, q3_20, q3_21, hT, hC, hl, hD, htk, h4, h7, hla]; (repeat' (first | refine hK _ _ ?_ | refine And.intro ?_ ?_ | (intro hc; try subst hc))) <;> (try clear hK K))
              | (refine zJ (b := _) (by with_unfolding_all rfl) (fun hc => ?_) (fun hc => ?_) <;> simp at hc <;> (try subst hc)))
            all_goals first | (simp; done) | (simp at *; omega) | ((try simp[hT, hC]); refine Imp.auto (by kernel_rfl) ?_ ?_ <;> simp [NLe, mkPlX, hT, hC])
        · have h4 : d4 [.agg [.int .i64 a, .int .i64 b, .int .i64 c, .int .i64 d, .int .i64 e, .int .i64 f, .int .i64 g]] = some ⟨.tup [.agg [.int .i64 0, .int .i64 0, .int .i64 0, .int .i64 0, .int .i64 0, .int .i64 0, .int .i64 0], .iface 71 .bot], []⟩ := by
            simp only [d4]; rw [if_neg hck]
          unfold m3
          repeat' with_reducible (first
            | refine ZR.h ?_ | refine zI (by decide) ?_
            | ((first | refine zK hE ?_ | refine zL hE mixT ?_); intro K hK; simp [KR.ks, KD.ks, KD.cl, q3_0, q3_1, q3_2, q3_3, q3_4, q3_5, q3_6, q3_7, q3_8, q3_9, q3_10, q3_11, q3_12, q3_13, q3_14, q3_15, q3_16, q3_17, q3_18, q3_19, q3_20, q3_21, hT, hC, hl, hD, htk, h4, h7]; (repeat' (first | refine hK _ _ ?_ | refine And.intro ?_ ?_ | (intro hc; try subst hc))) <;> (try clear hK K))
            | (refine zJ (b := _) (by with_unfolding_all rfl) (fun hc => ?_) (fun hc => ?_) <;> simp at hc <;> (try subst hc)))
          all_goals first | (simp; done) | (simp at *; omega) | ((try simp[hT, hC]); refine Imp.auto (by kernel_rfl) ?_ ?_ <;> simp [NLe, mkPlX, hT, hC])
      · cases h
    · cases h
  · cases h
end Go.W
