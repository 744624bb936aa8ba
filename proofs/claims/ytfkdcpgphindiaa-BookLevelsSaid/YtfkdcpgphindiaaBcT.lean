/- The sort of levels: where its code lies in this program (printed by the kit's lay-plain). -/
import Derived.Test.YtfkdcpgphindiaaBbC
import Derived.Test.YtfkdcpgphindiaaWRm
import Derived.Test.YtfkdcpgphindiaaChecked
import Derived.Shelf.SlLaysF0
namespace Go.W
open Go.Proofs
set_option linter.unusedSimpArgs false
set_option linter.unusedVariables false
set_option maxHeartbeats 8000000
attribute [local irreducible] Wm
attribute [local simp] nmap lkp mkPl prs prsL prT ddL idL CRenL CRen Ren RenL NObj.none CRenLL

def DelR (f : OZ → Bool) (os A : List OZ) (k : Nat) : Prop := k ≤ os.length ∧ A.length = os.length ∧ (keepZ f (os.take k)).length < k ∧ A.take (keepZ f (os.take k)).length = keepZ f (os.take k) ∧ ∀ j, k ≤ j → A[j]? = os[j]?
theorem del_0 {f : OZ → Bool} {os : List OZ} {i : Nat} (h : os.findIdx? f = some i) : DelR f os os (i + 1) ∧ (keepZ f (os.take (i + 1))).length = i ∧ i < os.length := by
  have hi : i < os.length := by rw [List.findIdx?_eq_some_iff_getElem] at h; exact h.1
  have e := keep_take h
  have l : (os.take i).length = i := by rw [List.length_take]; omega
  refine ⟨⟨hi, rfl, by rw [e, l]; omega, by rw [e, l], fun _ _ => rfl⟩, by rw [e, l], hi⟩
theorem del_t {f : OZ → Bool} {os A : List OZ} {k : Nat} {x : OZ} (h : DelR f os A k) (hx : os[k]? = some x) (hf : f x = true) : DelR f os A (k + 1) ∧ (keepZ f (os.take (k + 1))).length = (keepZ f (os.take k)).length := by
  obtain ⟨h1, h2, h3, h4, h5⟩ := h
  have e := keep_snoc (f := f) hx
  rw [if_pos hf] at e
  have := (List.getElem?_eq_some_iff.1 hx).1
  exact ⟨⟨this, h2, by rw [e]; omega, by rw [e]; exact h4, fun j hj => h5 j (by omega)⟩, by rw [e]⟩
theorem del_f {f : OZ → Bool} {os A : List OZ} {k : Nat} {x : OZ} (h : DelR f os A k) (hx : os[k]? = some x) (hf : f x = false) : DelR f os (A.set (keepZ f (os.take k)).length x) (k + 1) ∧ (keepZ f (os.take (k + 1))).length = (keepZ f (os.take k)).length + 1 := by
  obtain ⟨h1, h2, h3, h4, h5⟩ := h
  have e := keep_snoc (f := f) hx
  rw [if_neg (by rw [hf]; simp)] at e
  have hk := (List.getElem?_eq_some_iff.1 hx).1
  have el : (keepZ f (os.take (k + 1))).length = (keepZ f (os.take k)).length + 1 := by rw [e, List.length_append]; rfl
  have hlt : (keepZ f (os.take k)).length < A.length := by omega
  have hs : (A.set (keepZ f (os.take k)).length x)[(keepZ f (os.take k)).length]? = some x := by rw [List.getElem?_set_self hlt]
  refine ⟨⟨hk, by rw [List.length_set]; exact h2, by rw [el]; omega, ?_, fun j hj => ?_⟩, el⟩
  · rw [el, take_snoc hs, e]
    congr 1
    rw [List.take_set_of_le (Nat.le_refl _)]; exact h4
  · rw [List.getElem?_set_ne (by omega)]; exact h5 j (by omega)
theorem del_end {f : OZ → Bool} {os A : List OZ} (h : DelR f os A os.length) : A.take (keepZ f os).length = keepZ f os ∧ (keepZ f os).length < os.length ∧ A.length = os.length := by
  obtain ⟨h1, h2, h3, h4, h5⟩ := h
  rw [List.take_length] at h3 h4
  exact ⟨h4, h3, h2⟩
def d37 : List AV → List NObj → Option (List (List AV))
  | [.sl (.top 0) 0 n, .fn 42 [.ptr (.top 1) 0 0, .ptr (.top 2) 0 0]], [.arr 0 7 els, .view 0 1 [[.int .i64 nn]], .view 0 1 [[.int .i64 ss]]] => (match mapV ozOf els with
    | some os => if n = els.length ∧ els.length ≤ 100000 ∧ True then some (ozLL (keepZ (prA nn ss) os)) else none
    | none => none)
  | [.sl (.top 0) 0 n, .fn 38 [.ptr (.top 1) 0 0, .ptr (.top 3) 0 0]], [.arr 0 7 els, .view 0 8 [[.int .i64 a, .int .i64 b, .int .i64 c, .int .i64 d, .int .i64 e, .int .i64 f, .int .i64 g, .sl (.top 2) 0 mm]], .view 0 7 ws, .view 0 1 [[.int .i64 pp]]] => (match mapV ozOf els with
    | some os => if n = els.length ∧ els.length ≤ 100000 ∧ cfgB a b c d e f g = true ∧ (mapV ozOf ws).isSome = true ∧ mm = ws.length then some (ozLL (keepZ (prB a b pp) os)) else none
    | none => none)
  | _, _ => none
def I37A (nn ss : Int) (os : List OZ) (y : Nat × List OZ) : St := ⟨[(0, .sl (.top 0) 0 os.length), (1, .fn 42 [.ptr (.top 1) 0 0, .ptr (.top 2) 0 0]), (5, .int .i64 (keepZ (prA nn ss) (os.take y.1)).length), (6, .int .i64 y.1)], [(0, .arr 0 7 (ozLL y.2)), (1, .view 0 1 [[.int .i64 nn]]), (2, .view 0 1 [[.int .i64 ss]])], 3⟩
def I37B (a b c d e f g : Int) (L2 : List OZ) (pp : Int) (os : List OZ) (y : Nat × List OZ) : St := ⟨[(0, .sl (.top 0) 0 os.length), (1, .fn 38 [.ptr (.top 1) 0 0, .ptr (.top 3) 0 0]), (5, .int .i64 (keepZ (prB a b pp) (os.take y.1)).length), (6, .int .i64 y.1)], [(0, .arr 0 7 (ozLL y.2)), (1, .view 0 8 [[.int .i64 a, .int .i64 b, .int .i64 c, .int .i64 d, .int .i64 e, .int .i64 f, .int .i64 g, .sl (.top 2) 0 L2.length]]), (2, .view 0 7 (ozLL L2)), (3, .view 0 1 [[.int .i64 pp]])], 4⟩

theorem s37 : Sound Try.prog 37 (mixS 7 d37) := by
  refine mix_sound Try.func37 nm37 rc37 rv37 fun xs qs els els' h => ?_
  unfold d37 at h
  split at h
  · rename_i n els2 nn ss h1 h2
    cases h1
    cases h2
    split at h
    · rename_i os hos
      split at h
      · rename_i hcond
        injection h with h
        subst h
        refine ⟨Nat.le_of_ble_eq_true rfl, fun w0 S hS => ?_⟩
        obtain ⟨-, hn, hcf⟩ := hcond
        obtain rfl := mapV_ex (g := ozC) (fun _ _ => ozOf_ex) hos
        clear hos
        change List.length (ozLL os) ≤ 100000 at hn
        rw [oz_len] at hn
        simp only [oz_map, oz_len] at hS ⊢
        have hE : SoundAll Try.prog (EL [(42, rdS d42 ok42), (48, rdS d48 ok48)]) := EL_sound (by simp only [List.mem_cons, List.not_mem_nil, or_false, forall_eq_or_imp, forall_eq]; exact ⟨s42, s48⟩)
        have hT := oz_t0 os
        have hC := oz_cl os
        have hD := oz_dat os
        have hl := oz_len os
        have hP := oz_all os
        have hkk : (ozLL os).take os.length = ozLL os := List.take_of_length_le (by rw [hl]; exact Nat.le_refl _)
        have h48 : d48 [.sl (.top 0) 0 os.length, .fn 42 [.ptr (.top 1) 0 0, .ptr (.top 2) 0 0]] [.view 0 7 (ozLL os), .view 0 1 [[.int .i64 nn]], .view 0 1 [[.int .i64 ss]]] = some (.int .i64 (idxZ (os.findIdx? (prA nn ss)))) := by simp only [d48, show mapV ozOf (ozLL os) = some os from mapV_map (f := ozOf) (g := ozC) ozOf_C os, oz_len]; rw [if_pos ⟨trivial, hn, trivial⟩]
        cases hfi : os.findIdx? (prA nn ss) with
        | none =>
          rw [hfi] at h48
          simp only [idxZ] at h48
          rw [keep_none hfi]
          unfold m37
          repeat' with_reducible (first
            | refine ZR.h ?_ | refine zI (by decide) ?_
            | (refine zK hE ?_; intro K hK; simp [KR.ks, q37_0, q37_1, q37_2, q37_3, q37_4, q37_5, q37_6, q37_7, q37_8, q37_9, q37_10, q37_11, q37_12, hT, hC, hD, hl, hP, hkk, h48]; (repeat' (first | refine hK _ _ ?_ | refine And.intro ?_ ?_ | (intro hc; try subst hc))) <;> (try clear hK K))
            | (refine zJ (b := _) (by with_unfolding_all rfl) (fun hc => ?_) (fun hc => ?_) <;> simp at hc <;> (try subst hc)))
          all_goals ((try simp); refine Imp.auto (by kernel_rfl) ?_ ?_ <;> simp [NLe, mkPlX, hT, hC, hl])
        | some i0 =>
          rw [hfi] at h48
          simp only [idxZ] at h48
          obtain ⟨r0, l0, i0l⟩ := del_0 hfi
          have w0' : IntKind.wrap .i64 ((i0 : Int) + 1) = (i0 : Int) + 1 := wrap_in (by omega) (by omega)
          have ne1 : ¬ ((i0 : Int) = -1) := by omega
          unfold m37
          repeat' with_reducible (first
            | refine ZR.h ?_ | refine zI (by decide) ?_
            | (refine zK hE ?_; intro K hK; simp [KR.ks, q37_0, q37_1, q37_2, q37_3, q37_4, q37_5, q37_6, q37_7, q37_8, q37_9, q37_10, q37_11, q37_12, hT, hC, hD, hl, hP, hkk, h48, ne1, w0']; (repeat' (first | refine hK _ _ ?_ | refine And.intro ?_ ?_ | (intro hc; try subst hc))) <;> (try clear hK K))
            | (refine zJ (b := _) (by with_unfolding_all rfl) (fun hc => ?_) (fun hc => ?_) <;> simp at hc <;> (try subst hc)))
          all_goals first | (exfalso; omega) | skip
          all_goals (refine Wm_loop (fun y => I37A nn ss os y) (fun y => DelR (prA nn ss) os y.2 y.1) (fun y => os.length - y.1) (i0 + 1, os) r0 ?_ ?_)
          · simp only [I37A, l0]
            rw [hS]
            (refine Imp.auto (by kernel_rfl) ?_ ?_ <;> simp [NLe, mkPlX, hT, hC, hl])
          rintro ⟨j, A⟩ hr
          (try simp only at hr)
          obtain ⟨hj, hAl, hij, hAt, hAd⟩ := id hr
          simp only [I37A]
          have t1 := oz_t0 A
          have t2 := oz_cl A
          have t3 := oz_dat A
          have t4 := oz_len A
          rw [hAl] at t4
          have t5 : (ozLL A).take os.length = ozLL A := List.take_of_length_le (by rw [t4]; exact Nat.le_refl _)
          have t6 := oz_all A
          generalize hi : (keepZ (prA nn ss) (os.take j)).length = i at hij ⊢
          by_cases hjl : j < os.length
          · obtain ⟨x, hx⟩ : ∃ x, os[j]? = some x := ⟨_, List.getElem?_eq_getElem hjl⟩
            have hAx : A[j]? = some x := by rw [hAd j (Nat.le_refl _)]; exact hx
            obtain ⟨hg, hge⟩ := oz_at hAx
            have hjI : (j : Int) < (os.length : Int) := by omega
            have ww : IntKind.wrap .i64 ((j : Int) + 1) = (j : Int) + 1 := wrap_in (by omega) (by omega)
            have w2 : IntKind.wrap .i64 ((i : Int) + 1) = (i : Int) + 1 := wrap_in (by omega) (by omega)
            have hcall : d42 [.agg (ozC x), .ptr (.top 0) 0 0, .ptr (.top 1) 0 0] [.view 0 1 [[.int .i64 nn]], .view 0 1 [[.int .i64 ss]]] = some (.bool (prA nn ss x)) := by simp only [d42, ozOf_C]
            have hil : i < os.length := by omega
            have hiI : (i : Int) < (os.length : Int) := by omega
            have qs := oz_set A i x
            have t7 := oz_t0 (A.set i x)
            have t8 := oz_cl (A.set i x)
            simp only [ozC] at hcall hg hge qs
            by_cases hb : prA nn ss x = true
            · rw [hb] at hcall
              obtain ⟨r1, r2⟩ := del_t hr hx hb
              repeat' with_reducible (first
                | refine ZR.h ?_ | refine zI (by decide) ?_
                | (refine zK hE ?_; intro K hK; simp [KR.ks, q37_0, q37_1, q37_2, q37_3, q37_4, q37_5, q37_6, q37_7, q37_8, q37_9, q37_10, q37_11, q37_12, hT, hC, hD, hl, hjl, hjI, hg, hge, hcall, ww, w2, t1, t2, t3, t4, t5, t6]; (repeat' (first | refine hK _ _ ?_ | refine And.intro ?_ ?_ | (intro hc; try subst hc))) <;> (try clear hK K))
                | (refine zJ (b := _) (by with_unfolding_all rfl) (fun hc => ?_) (fun hc => ?_) <;> simp at hc <;> (try subst hc)))
              all_goals first | (exfalso; omega) | skip
              all_goals refine ⟨(j + 1, A), r1, by simp only; omega, ?_⟩
              all_goals simp only [I37A, r2, hi]
              all_goals rw [hS]
              all_goals (refine Imp.auto (by kernel_rfl) ?_ ?_ <;> simp [NLe, mkPlX, hT, hC, hl, t1, t2])
            · have hb : prA nn ss x = false := by simpa using hb
              rw [hb] at hcall
              obtain ⟨r1, r2⟩ := del_f hr hx hb
              rw [hi] at r1 r2
              obtain ⟨y, hy⟩ : ∃ y, A[i]? = some y := ⟨_, List.getElem?_eq_getElem (by omega)⟩
              obtain ⟨hg2, hge2⟩ := oz_at hy
              simp only [ozC] at hg2 hge2
              repeat' with_reducible (first
                | refine ZR.h ?_ | refine zI (by decide) ?_
                | (refine zK hE ?_; intro K hK; simp [KR.ks, q37_0, q37_1, q37_2, q37_3, q37_4, q37_5, q37_6, q37_7, q37_8, q37_9, q37_10, q37_11, q37_12, hT, hC, hD, hl, hjl, hjI, hil, hiI, hg, hge, hg2, hge2, hcall, ww, w2, t1, t2, t3, t4, t5, t6, qs]; (repeat' (first | refine hK _ _ ?_ | refine And.intro ?_ ?_ | (intro hc; try subst hc))) <;> (try clear hK K))
                | (refine zJ (b := _) (by with_unfolding_all rfl) (fun hc => ?_) (fun hc => ?_) <;> simp at hc <;> (try subst hc)))
              all_goals first | (exfalso; omega) | skip
              all_goals refine ⟨(j + 1, A.set i x), r1, by simp only; omega, ?_⟩
              all_goals simp only [I37A, r2]
              all_goals rw [hS]
              all_goals (refine Imp.auto (by kernel_rfl) ?_ ?_ <;> simp [NLe, mkPlX, hT, hC, hl, t7, t8, qs])
          · obtain rfl : j = os.length := by omega
            obtain ⟨e1, e2, e3⟩ := del_end hr
            rw [List.take_length] at hi hAt
            have hjI : ¬ ((os.length : Int) < (os.length : Int)) := by omega
            have q1 := oz_take A i
            rw [← hi, e1] at q1
            have t7 := oz_t0 (keepZ (prA nn ss) os)
            have t8 := oz_cl (keepZ (prA nn ss) os)
            have t9 := oz_len (keepZ (prA nn ss) os)
            subst hi
            have c1 : 0 < os.length - (keepZ (prA nn ss) os).length := by omega
            have c2 : (keepZ (prA nn ss) os).length + (os.length - (keepZ (prA nn ss) os).length) = os.length := by omega
            have c3 : (keepZ (prA nn ss) os).length ≤ os.length := by omega
            repeat' with_reducible (first
              | refine ZR.h ?_ | refine zI (by decide) ?_
              | (refine zK hE ?_; intro K hK; simp [KR.ks, q37_0, q37_1, q37_2, q37_3, q37_4, q37_5, q37_6, q37_7, q37_8, q37_9, q37_10, q37_11, q37_12, hT, hC, hD, hl, hjI, t1, t2, t3, t4, t5, t6, q1, c1, c2, c3, t7, t8, t9]; (repeat' (first | refine hK _ _ ?_ | refine And.intro ?_ ?_ | (intro hc; try subst hc))) <;> (try clear hK K))
              | (refine zJ (b := _) (by with_unfolding_all rfl) (fun hc => ?_) (fun hc => ?_) <;> simp at hc <;> (try subst hc)))
            all_goals first | (exfalso; omega) | skip
            all_goals ((try simp); refine Imp.auto (by kernel_rfl) ?_ ?_ <;> simp [NLe, mkPlX, hT, hC, hl, t7, t8, t9])
      · cases h
    · cases h
  · rename_i n els2 a b c d e f g mm ws pp h1 h2
    cases h1
    cases h2
    split at h
    · rename_i os hos
      split at h
      · rename_i hcond
        injection h with h
        subst h
        refine ⟨Nat.le_of_ble_eq_true rfl, fun w0 S hS => ?_⟩
        obtain ⟨-, hn, hcf⟩ := hcond
        obtain rfl := mapV_ex (g := ozC) (fun _ _ => ozOf_ex) hos
        clear hos
        change List.length (ozLL os) ≤ 100000 at hn
        rw [oz_len] at hn
        obtain ⟨hcf, hws, rfl⟩ := hcf
        obtain ⟨L2, hL2⟩ := Option.isSome_iff_exists.1 hws
        obtain rfl := mapV_ex (g := ozC) (fun _ _ => ozOf_ex) hL2
        clear hws hL2
        simp only [oz_map, oz_len] at hS ⊢
        have k1 := oz_t0 L2
        have k2 := oz_cl L2
        have k3 := oz_dat L2
        have k4 := oz_len L2
        have k5 : (ozLL L2).take L2.length = ozLL L2 := List.take_of_length_le (by rw [k4]; exact Nat.le_refl _)
        have hE : SoundAll Try.prog (EL [(38, rdS d38 ok38), (48, rdS d48 ok48)]) := EL_sound (by simp only [List.mem_cons, List.not_mem_nil, or_false, forall_eq_or_imp, forall_eq]; exact ⟨s38, s48⟩)
        have hT := oz_t0 os
        have hC := oz_cl os
        have hD := oz_dat os
        have hl := oz_len os
        have hP := oz_all os
        have hkk : (ozLL os).take os.length = ozLL os := List.take_of_length_le (by rw [hl]; exact Nat.le_refl _)
        have h48 : d48 [.sl (.top 0) 0 os.length, .fn 38 [.ptr (.top 1) 0 0, .ptr (.top 3) 0 0]] [.view 0 7 (ozLL os), .view 0 8 [[.int .i64 a, .int .i64 b, .int .i64 c, .int .i64 d, .int .i64 e, .int .i64 f, .int .i64 g, .sl (.top 2) 0 L2.length]], .view 0 7 (ozLL L2), .view 0 1 [[.int .i64 pp]]] = some (.int .i64 (idxZ (os.findIdx? (prB a b pp)))) := by simp only [d48, show mapV ozOf (ozLL os) = some os from mapV_map (f := ozOf) (g := ozC) ozOf_C os, show mapV ozOf (ozLL L2) = some L2 from mapV_map (f := ozOf) (g := ozC) ozOf_C L2, oz_len]; rw [if_pos ⟨trivial, hn, hcf, rfl, trivial⟩]
        cases hfi : os.findIdx? (prB a b pp) with
        | none =>
          rw [hfi] at h48
          simp only [idxZ] at h48
          rw [keep_none hfi]
          unfold m37
          repeat' with_reducible (first
            | refine ZR.h ?_ | refine zI (by decide) ?_
            | (refine zK hE ?_; intro K hK; simp [KR.ks, q37_0, q37_1, q37_2, q37_3, q37_4, q37_5, q37_6, q37_7, q37_8, q37_9, q37_10, q37_11, q37_12, hT, hC, hD, hl, hP, hkk, h48, k1, k2, k3, k4, k5]; (repeat' (first | refine hK _ _ ?_ | refine And.intro ?_ ?_ | (intro hc; try subst hc))) <;> (try clear hK K))
            | (refine zJ (b := _) (by with_unfolding_all rfl) (fun hc => ?_) (fun hc => ?_) <;> simp at hc <;> (try subst hc)))
          all_goals ((try simp); refine Imp.auto (by kernel_rfl) ?_ ?_ <;> simp [NLe, mkPlX, hT, hC, hl, k1, k2, k3, k4, k5])
        | some i0 =>
          rw [hfi] at h48
          simp only [idxZ] at h48
          obtain ⟨r0, l0, i0l⟩ := del_0 hfi
          have w0' : IntKind.wrap .i64 ((i0 : Int) + 1) = (i0 : Int) + 1 := wrap_in (by omega) (by omega)
          have ne1 : ¬ ((i0 : Int) = -1) := by omega
          unfold m37
          repeat' with_reducible (first
            | refine ZR.h ?_ | refine zI (by decide) ?_
            | (refine zK hE ?_; intro K hK; simp [KR.ks, q37_0, q37_1, q37_2, q37_3, q37_4, q37_5, q37_6, q37_7, q37_8, q37_9, q37_10, q37_11, q37_12, hT, hC, hD, hl, hP, hkk, h48, ne1, w0', k1, k2, k3, k4, k5]; (repeat' (first | refine hK _ _ ?_ | refine And.intro ?_ ?_ | (intro hc; try subst hc))) <;> (try clear hK K))
            | (refine zJ (b := _) (by with_unfolding_all rfl) (fun hc => ?_) (fun hc => ?_) <;> simp at hc <;> (try subst hc)))
          all_goals first | (exfalso; omega) | skip
          all_goals (refine Wm_loop (fun y => I37B a b c d e f g L2 pp os y) (fun y => DelR (prB a b pp) os y.2 y.1) (fun y => os.length - y.1) (i0 + 1, os) r0 ?_ ?_)
          · simp only [I37B, l0]
            rw [hS]
            (refine Imp.auto (by kernel_rfl) ?_ ?_ <;> simp [NLe, mkPlX, hT, hC, hl, k1, k2, k3, k4, k5])
          rintro ⟨j, A⟩ hr
          (try simp only at hr)
          obtain ⟨hj, hAl, hij, hAt, hAd⟩ := id hr
          simp only [I37B]
          have t1 := oz_t0 A
          have t2 := oz_cl A
          have t3 := oz_dat A
          have t4 := oz_len A
          rw [hAl] at t4
          have t5 : (ozLL A).take os.length = ozLL A := List.take_of_length_le (by rw [t4]; exact Nat.le_refl _)
          have t6 := oz_all A
          generalize hi : (keepZ (prB a b pp) (os.take j)).length = i at hij ⊢
          by_cases hjl : j < os.length
          · obtain ⟨x, hx⟩ : ∃ x, os[j]? = some x := ⟨_, List.getElem?_eq_getElem hjl⟩
            have hAx : A[j]? = some x := by rw [hAd j (Nat.le_refl _)]; exact hx
            obtain ⟨hg, hge⟩ := oz_at hAx
            have hjI : (j : Int) < (os.length : Int) := by omega
            have ww : IntKind.wrap .i64 ((j : Int) + 1) = (j : Int) + 1 := wrap_in (by omega) (by omega)
            have w2 : IntKind.wrap .i64 ((i : Int) + 1) = (i : Int) + 1 := wrap_in (by omega) (by omega)
            have hcall : d38 [.agg (ozC x), .ptr (.top 0) 0 0, .ptr (.top 2) 0 0] [.view 0 8 [[.int .i64 a, .int .i64 b, .int .i64 c, .int .i64 d, .int .i64 e, .int .i64 f, .int .i64 g, .sl (.top 1) 0 L2.length]], .view 0 7 (ozLL L2), .view 0 1 [[.int .i64 pp]]] = some (.bool (prB a b pp x)) := by simp only [d38, ozOf_C]; rw [if_pos hcf]
            have hil : i < os.length := by omega
            have hiI : (i : Int) < (os.length : Int) := by omega
            have qs := oz_set A i x
            have t7 := oz_t0 (A.set i x)
            have t8 := oz_cl (A.set i x)
            simp only [ozC] at hcall hg hge qs
            by_cases hb : prB a b pp x = true
            · rw [hb] at hcall
              obtain ⟨r1, r2⟩ := del_t hr hx hb
              repeat' with_reducible (first
                | refine ZR.h ?_ | refine zI (by decide) ?_
                | (refine zK hE ?_; intro K hK; simp [KR.ks, q37_0, q37_1, q37_2, q37_3, q37_4, q37_5, q37_6, q37_7, q37_8, q37_9, q37_10, q37_11, q37_12, hT, hC, hD, hl, hjl, hjI, hg, hge, hcall, ww, w2, t1, t2, t3, t4, t5, t6, k1, k2, k3, k4, k5]; (repeat' (first | refine hK _ _ ?_ | refine And.intro ?_ ?_ | (intro hc; try subst hc))) <;> (try clear hK K))
                | (refine zJ (b := _) (by with_unfolding_all rfl) (fun hc => ?_) (fun hc => ?_) <;> simp at hc <;> (try subst hc)))
              all_goals first | (exfalso; omega) | skip
              all_goals refine ⟨(j + 1, A), r1, by simp only; omega, ?_⟩
              all_goals simp only [I37B, r2, hi]
              all_goals rw [hS]
              all_goals (refine Imp.auto (by kernel_rfl) ?_ ?_ <;> simp [NLe, mkPlX, hT, hC, hl, t1, t2, k1, k2, k3, k4, k5])
            · have hb : prB a b pp x = false := by simpa using hb
              rw [hb] at hcall
              obtain ⟨r1, r2⟩ := del_f hr hx hb
              rw [hi] at r1 r2
              obtain ⟨y, hy⟩ : ∃ y, A[i]? = some y := ⟨_, List.getElem?_eq_getElem (by omega)⟩
              obtain ⟨hg2, hge2⟩ := oz_at hy
              simp only [ozC] at hg2 hge2
              repeat' with_reducible (first
                | refine ZR.h ?_ | refine zI (by decide) ?_
                | (refine zK hE ?_; intro K hK; simp [KR.ks, q37_0, q37_1, q37_2, q37_3, q37_4, q37_5, q37_6, q37_7, q37_8, q37_9, q37_10, q37_11, q37_12, hT, hC, hD, hl, hjl, hjI, hil, hiI, hg, hge, hg2, hge2, hcall, ww, w2, t1, t2, t3, t4, t5, t6, qs, k1, k2, k3, k4, k5]; (repeat' (first | refine hK _ _ ?_ | refine And.intro ?_ ?_ | (intro hc; try subst hc))) <;> (try clear hK K))
                | (refine zJ (b := _) (by with_unfolding_all rfl) (fun hc => ?_) (fun hc => ?_) <;> simp at hc <;> (try subst hc)))
              all_goals first | (exfalso; omega) | skip
              all_goals refine ⟨(j + 1, A.set i x), r1, by simp only; omega, ?_⟩
              all_goals simp only [I37B, r2]
              all_goals rw [hS]
              all_goals (refine Imp.auto (by kernel_rfl) ?_ ?_ <;> simp [NLe, mkPlX, hT, hC, hl, t7, t8, qs, k1, k2, k3, k4, k5])
          · obtain rfl : j = os.length := by omega
            obtain ⟨e1, e2, e3⟩ := del_end hr
            rw [List.take_length] at hi hAt
            have hjI : ¬ ((os.length : Int) < (os.length : Int)) := by omega
            have q1 := oz_take A i
            rw [← hi, e1] at q1
            have t7 := oz_t0 (keepZ (prB a b pp) os)
            have t8 := oz_cl (keepZ (prB a b pp) os)
            have t9 := oz_len (keepZ (prB a b pp) os)
            subst hi
            have c1 : 0 < os.length - (keepZ (prB a b pp) os).length := by omega
            have c2 : (keepZ (prB a b pp) os).length + (os.length - (keepZ (prB a b pp) os).length) = os.length := by omega
            have c3 : (keepZ (prB a b pp) os).length ≤ os.length := by omega
            repeat' with_reducible (first
              | refine ZR.h ?_ | refine zI (by decide) ?_
              | (refine zK hE ?_; intro K hK; simp [KR.ks, q37_0, q37_1, q37_2, q37_3, q37_4, q37_5, q37_6, q37_7, q37_8, q37_9, q37_10, q37_11, q37_12, hT, hC, hD, hl, hjI, t1, t2, t3, t4, t5, t6, q1, c1, c2, c3, t7, t8, t9, k1, k2, k3, k4, k5]; (repeat' (first | refine hK _ _ ?_ | refine And.intro ?_ ?_ | (intro hc; try subst hc))) <;> (try clear hK K))
              | (refine zJ (b := _) (by with_unfolding_all rfl) (fun hc => ?_) (fun hc => ?_) <;> simp at hc <;> (try subst hc)))
            all_goals first | (exfalso; omega) | skip
            all_goals ((try simp); refine Imp.auto (by kernel_rfl) ?_ ?_ <;> simp [NLe, mkPlX, hT, hC, hl, t7, t8, t9, k1, k2, k3, k4, k5])
      · cases h
    · cases h
  · cases h
end Go.W
namespace Go.W
open Go.Proofs
set_option linter.unusedSimpArgs false
set_option linter.unusedVariables false
set_option maxHeartbeats 8000000
attribute [local irreducible] Wm
attribute [local simp] nmap lkp mkPl prs prsL prT ddL idL CRenL CRen Ren RenL NObj.none CRenLL

def d29 : List AV → List NObj → Option AV
  | [.agg [.int .i64 a, .int .i64 b, .int .i64 c, .int .i64 d, .int .i64 e, .int .i64 f, .int .i64 g, .sl (.top 0) 0 n], .int .i64 nn, .int .i64 ss], [.view 0 7 els] => (match mapV ozOf els with
    | some l => if n = els.length ∧ els.length ≤ 100000 then some (.os 0 7 (ozLL (keepZ (prA nn ss) l))) else none
    | none => none)
  | _, _ => none
theorem ok29 : ROk d29 := by
  intro xs os r h
  unfold d29 at h
  split at h
  · split at h
    · rename_i l hl
      obtain rfl := mapV_ex (g := ozC) (fun _ _ => ozOf_ex) hl
      split at h
      · injection h with h; subst h; simp; exact oz_dat _
      · cases h
    · cases h
  · cases h
theorem s29 : Sound Try.prog 29 (rdS d29 ok29) := by
  refine rd_sound Try.func29 nm29 rc29 rv29 ok29 fun xs os r h vs ρ0 hvs => ⟨xs, ?_, fun _ h => h, fun w0 S hS => ?_⟩
  · unfold d29 at h
    (repeat' (split at h)) <;> first | (cases h; done) | exact Nat.le_of_ble_eq_true rfl
  unfold d29 at h
  split at h
  · rename_i a b c d e f g n nn ss els
    split at h
    · rename_i l hml
      obtain rfl := mapV_ex (g := ozC) (fun _ _ => ozOf_ex) hml
      clear hml
      split at h
      · rename_i hcond
        injection h with h
        subst h
        obtain ⟨rfl, hlen⟩ := hcond
        simp only [oz_map, oz_len] at hlen hvs hS ⊢
        have hE : SoundAll Try.prog (EL [(21, rdS d21 ok21), (37, mixS 7 d37)]) := EL_sound (by simp only [List.mem_cons, List.not_mem_nil, or_false, forall_eq_or_imp, forall_eq]; exact ⟨s21, s37⟩)
        have hl := oz_len l
        have hD := oz_dat l
        have hT := oz_t0 l
        have hC := oz_cl l
        have hk : (ozLL l).take l.length = ozLL l := List.take_of_length_le (by rw [hl]; exact Nat.le_refl _)
        have hm : mapV ozOf (ozLL l) = some l := mapV_map (f := ozOf) (g := ozC) ozOf_C l
        have h21 : d21 [.agg [.int .i64 a, .int .i64 b, .int .i64 c, .int .i64 d, .int .i64 e, .int .i64 f, .int .i64 g, .sl (.top 0) 0 l.length]] [.view 0 7 (ozLL l)] = some (.os 0 7 (ozLL l)) := by
          simp only [d21, hm, hl]
          rw [if_pos ⟨trivial, hlen⟩]
        have h37 : d37 [.sl (.top 0) 0 l.length, .fn 42 [.ptr (.top 1) 0 0, .ptr (.top 2) 0 0]] [.arr 0 7 (ozLL l), .view 0 1 [[.int .i64 nn]], .view 0 1 [[.int .i64 ss]]] = some (ozLL (keepZ (prA nn ss) l)) := by
          simp only [d37, hm, hl]
          rw [if_pos ⟨trivial, hlen, trivial⟩]
        have e1 := oz_t0 (keepZ (prA nn ss) l)
        have e2 := oz_cl (keepZ (prA nn ss) l)
        have e3 := oz_len (keepZ (prA nn ss) l)
        have e4 := oz_dat (keepZ (prA nn ss) l)
        unfold m29
        repeat' with_reducible (first
          | refine ZR.h ?_ | refine zI (by decide) ?_
          | (refine zK hE ?_; intro K hK; simp [KR.ks, q29_0, q29_1, hT, hC, hD, hl, hk, h21, h37, e3, e4]; (repeat' (first | refine hK _ _ ?_ | refine And.intro ?_ ?_ | (intro hc; try subst hc))) <;> (try clear hK K))
          | (refine zJ (b := _) (by with_unfolding_all rfl) (fun hc => ?_) (fun hc => ?_) <;> simp at hc <;> (try subst hc)))
        all_goals first | (simp; done) | (simp at *; omega) | ((try simp[hT, hC, hl, e1, e2, e3]); refine Imp.auto (by kernel_rfl) ?_ ?_ <;> simp [NLe, hT, hC, hl, e1, e2, e3])
      · cases h
    · cases h
  · cases h

def d20 : List AV → List NObj → Option AV
  | [.agg [.int .i64 a, .int .i64 b, .int .i64 c, .int .i64 d, .int .i64 e, .int .i64 f, .int .i64 g, .sl (.top 0) 0 n], .int .i64 pp], [.view 0 7 els] => (match mapV ozOf els with
    | some l => if n = els.length ∧ els.length ≤ 100000 ∧ cfgB a b c d e f g = true then some (.os 0 7 (ozLL (keepZ (prB a b pp) l))) else none
    | none => none)
  | _, _ => none
theorem ok20 : ROk d20 := by
  intro xs os r h
  unfold d20 at h
  split at h
  · split at h
    · rename_i l hl
      obtain rfl := mapV_ex (g := ozC) (fun _ _ => ozOf_ex) hl
      split at h
      · injection h with h; subst h; simp; exact oz_dat _
      · cases h
    · cases h
  · cases h
theorem s20 : Sound Try.prog 20 (rdS d20 ok20) := by
  refine rd_sound Try.func20 nm20 rc20 rv20 ok20 fun xs os r h vs ρ0 hvs => ⟨xs, ?_, fun _ h => h, fun w0 S hS => ?_⟩
  · unfold d20 at h
    (repeat' (split at h)) <;> first | (cases h; done) | exact Nat.le_of_ble_eq_true rfl
  unfold d20 at h
  split at h
  · rename_i a b c d e f g n pp els
    split at h
    · rename_i l hml
      obtain rfl := mapV_ex (g := ozC) (fun _ _ => ozOf_ex) hml
      clear hml
      split at h
      · rename_i hcond
        injection h with h
        subst h
        obtain ⟨rfl, hlen, hcf⟩ := hcond
        simp only [oz_map, oz_len] at hlen hvs hS ⊢
        have hE : SoundAll Try.prog (EL [(21, rdS d21 ok21), (37, mixS 7 d37)]) := EL_sound (by simp only [List.mem_cons, List.not_mem_nil, or_false, forall_eq_or_imp, forall_eq]; exact ⟨s21, s37⟩)
        have hl := oz_len l
        have hD := oz_dat l
        have hT := oz_t0 l
        have hC := oz_cl l
        have hk : (ozLL l).take l.length = ozLL l := List.take_of_length_le (by rw [hl]; exact Nat.le_refl _)
        have hm : mapV ozOf (ozLL l) = some l := mapV_map (f := ozOf) (g := ozC) ozOf_C l
        have h21 : d21 [.agg [.int .i64 a, .int .i64 b, .int .i64 c, .int .i64 d, .int .i64 e, .int .i64 f, .int .i64 g, .sl (.top 0) 0 l.length]] [.view 0 7 (ozLL l)] = some (.os 0 7 (ozLL l)) := by
          simp only [d21, hm, hl]
          rw [if_pos ⟨trivial, hlen⟩]
        have h37 : d37 [.sl (.top 0) 0 l.length, .fn 38 [.ptr (.top 1) 0 0, .ptr (.top 3) 0 0]] [.arr 0 7 (ozLL l), .view 0 8 [[.int .i64 a, .int .i64 b, .int .i64 c, .int .i64 d, .int .i64 e, .int .i64 f, .int .i64 g, .sl (.top 2) 0 l.length]], .view 0 7 (ozLL l), .view 0 1 [[.int .i64 pp]]] = some (ozLL (keepZ (prB a b pp) l)) := by
          simp only [d37, hm, hl]
          rw [if_pos ⟨trivial, hlen, hcf, rfl, trivial⟩]
        have e1 := oz_t0 (keepZ (prB a b pp) l)
        have e2 := oz_cl (keepZ (prB a b pp) l)
        have e3 := oz_len (keepZ (prB a b pp) l)
        have e4 := oz_dat (keepZ (prB a b pp) l)
        unfold m20
        repeat' with_reducible (first
          | refine ZR.h ?_ | refine zI (by decide) ?_
          | (refine zK hE ?_; intro K hK; simp [KR.ks, q20_0, q20_1, hT, hC, hD, hl, hk, h21, h37, e3, e4]; (repeat' (first | refine hK _ _ ?_ | refine And.intro ?_ ?_ | (intro hc; try subst hc))) <;> (try clear hK K))
          | (refine zJ (b := _) (by with_unfolding_all rfl) (fun hc => ?_) (fun hc => ?_) <;> simp at hc <;> (try subst hc)))
        all_goals first | (simp; done) | (simp at *; omega) | ((try simp[hT, hC, hl, e1, e2, e3]); refine Imp.auto (by kernel_rfl) ?_ ?_ <;> simp [NLe, hT, hC, hl, e1, e2, e3])
      · cases h
    · cases h
  · cases h
end Go.W
namespace Go.Proofs
open Go.Shelf
def Try.sortLv_ren : Go.Shelf.Ren := ⟨fun | 6 => 30 | 15 => 44 | 14 => 43 | 28 => 57 | 29 => 58 | 20 => 49 | 21 => 50 | 22 => 51 | 23 => 52 | 24 => 53 | 25 => 54 | 26 => 55 | 27 => 56 | 46 => 60 | 47 => 61 | 48 => 62 | 49 => 63 | 50 => 64 | 57 => 65 | n => n, fun | 22 => 44 | 24 => 39 | 25 => 81 | 3 => 3 | 39 => 102 | 0 => 0 | 53 => 112 | 55 => 114 | 4 => 4 | 46 => 106 | 45 => 105 | 50 => 42 | 5 => 5 | 9 => 9 | 66 => 115 | 70 => 119 | 76 => 121 | 77 => 57 | n => n, fun | n => n⟩
theorem Try.sortLv : Go.Proofs.SlLaysF0.n6 Try.prog Try.sortLv_ren := {
  mixed := by kernel_rfl
  f6 := ⟨Try.f30.name, by decide, Try.func30.trans (congrArg some (by kernel_rfl))⟩
  f14 := ⟨Try.f43.name, by decide, Try.func43.trans (congrArg some (by kernel_rfl))⟩
  f15 := Try.func44.trans (congrArg some (by kernel_rfl))
  f20 := ⟨Try.f49.name, by decide, Try.func49.trans (congrArg some (by kernel_rfl))⟩
  f21 := ⟨Try.f50.name, by decide, Try.func50.trans (congrArg some (by kernel_rfl))⟩
  f22 := ⟨Try.f51.name, by decide, Try.func51.trans (congrArg some (by kernel_rfl))⟩
  f23 := ⟨Try.f52.name, by decide, Try.func52.trans (congrArg some (by kernel_rfl))⟩
  f24 := ⟨Try.f53.name, by decide, Try.func53.trans (congrArg some (by kernel_rfl))⟩
  f25 := ⟨Try.f54.name, by decide, Try.func54.trans (congrArg some (by kernel_rfl))⟩
  f26 := ⟨Try.f55.name, by decide, Try.func55.trans (congrArg some (by kernel_rfl))⟩
  f27 := ⟨Try.f56.name, by decide, Try.func56.trans (congrArg some (by kernel_rfl))⟩
  f28 := Try.func57.trans (congrArg some (by kernel_rfl))
  f29 := Try.func58.trans (congrArg some (by kernel_rfl))
  f46 := ⟨Try.f60.name, by decide, Try.func60.trans (congrArg some (by kernel_rfl))⟩
  f47 := Try.func61.trans (congrArg some (by kernel_rfl))
  f48 := Try.func62.trans (congrArg some (by kernel_rfl))
  f49 := ⟨Try.f63.name, by decide, Try.func63.trans (congrArg some (by kernel_rfl))⟩
  f50 := ⟨Try.f64.name, by decide, Try.func64.trans (congrArg some (by kernel_rfl))⟩
  f57 := ⟨Try.f65.name, by decide, Try.func65.trans (congrArg some (by kernel_rfl))⟩
  t0 := Try.underlying0
  a0 := Try.isAgg0
  z0 := Try.sizeOf0
  v0 := Try.zeroValue0
  t3 := Try.underlying3
  a3 := Try.isAgg3
  z3 := Try.sizeOf3
  v3 := Try.zeroValue3
  t4 := Try.underlying4
  a4 := Try.isAgg4
  z4 := Try.sizeOf4
  v4 := Try.zeroValue4
  t5 := Try.underlying5
  a5 := Try.isAgg5
  z5 := Try.sizeOf5
  v5 := Try.zeroValue5
  t9 := Try.underlying9
  a9 := Try.isAgg9
  z9 := Try.sizeOf9
  v9 := Try.zeroValue9
  t22 := Try.underlying44
  a22 := Try.isAgg44
  z22 := Try.sizeOf44
  v22 := Try.zeroValue44
  t25 := Try.underlying81
  a25 := Try.isAgg81
  z25 := Try.sizeOf81
  v25 := Try.zeroValue81
  t39 := Try.underlying102
  a39 := Try.isAgg102
  z39 := Try.sizeOf102
  v39 := Try.zeroValue102
  t45 := Try.underlying105
  a45 := Try.isAgg105
  z45 := Try.sizeOf105
  v45 := Try.zeroValue105
  t46 := Try.underlying106
  a46 := Try.isAgg106
  z46 := Try.sizeOf106
  v46 := Try.zeroValue106
  t50 := Try.underlying42
  a50 := Try.isAgg42
  z50 := Try.sizeOf42
  v50 := Try.zeroValue42
  t53 := Try.underlying112
  a53 := Try.isAgg112
  z53 := Try.sizeOf112
  v53 := Try.zeroValue112
  t55 := Try.underlying114
  a55 := Try.isAgg114
  z55 := Try.sizeOf114
  v55 := Try.zeroValue114
  t66 := Try.underlying115
  a66 := Try.isAgg115
  z66 := Try.sizeOf115
  v66 := Try.zeroValue115
  t70 := Try.underlying119
  a70 := Try.isAgg119
  z70 := Try.sizeOf119
  v70 := Try.zeroValue119
  t76 := Try.underlying121
  a76 := Try.isAgg121
  z76 := Try.sizeOf121
  v76 := Try.zeroValue121
  t77 := Try.underlying57
  a77 := Try.isAgg57
  z77 := Try.sizeOf57
  v77 := Try.zeroValue57 }
end Go.Proofs
