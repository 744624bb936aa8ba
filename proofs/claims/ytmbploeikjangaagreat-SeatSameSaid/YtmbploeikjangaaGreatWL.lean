/- Every operation but a call does what the step over a heap of trees says. -/
import Derived.Test.YtmbploeikjangaaGreatWK
set_option linter.unusedSimpArgs false
set_option linter.unusedVariables false
namespace Go.W

section
variable {P : Program} {w0 : World} {S : Sc} {Es : Env → Prop} {U : Nm → Prop} {T : Nat → AV} {G : NH} {a : Act} {w : World}

theorem hf_get {G : NH} {p : Nm} {i : Nat} {c : List AV} (h : elemN (getP G p) i = some c) : elemOf (HF G p) i = some (flC p (getP G p).tag i c) := by
  rw [elemOf_HF, h]; rfl

theorem readN_raw {v : Value} {els : List (List AV)} {rd : List Nat} {sz : Nat} (h : readN G (.raw v) = some (els, rd, sz)) : ∃ ad c, v = .slice (some ad) 0 c ∧ els = [] ∧ rd = [] ∧ sz = 0 := by
  cases v with
  | slice a l c =>
    cases a with
    | none => simp [readN] at h
    | some ad => cases l with
      | zero => simp only [readN, Option.some.injEq, Prod.mk.injEq] at h; exact ⟨ad, c, rfl, h.1.symm, h.2.1.symm, h.2.2.symm⟩
      | succ l => simp [readN] at h
  | _ => simp [readN] at h

theorem readN_flat {v : AV} {els : List (List AV)} {rd : List Nat} {sz : Nat} (h : readN G v = some (els, rd, sz)) (hp : els.all (fun c => c.all AV.plain) = true) : ∃ (g : Nat → List AV) (rd' : List Nm), readSl (HF G) v = some (els.length, g, rd', sz) ∧ ∀ j, j < els.length → g j = els.getD j [] := by
  cases v <;> (try simp only [readN, reduceCtorEq] at h)
  case raw v =>
    obtain ⟨ad, c, rfl, rfl, rfl, rfl⟩ := readN_raw h
    exact ⟨_, _, rfl, fun j hj => by simp at hj⟩
  case nsl =>
    simp only [Option.some.injEq, Prod.mk.injEq] at h
    obtain ⟨rfl, rfl, rfl⟩ := h
    exact ⟨_, _, rfl, fun j hj => by simp at hj⟩
  case sl p i n =>
    have key : ∀ (t : Nat) (l : List (List AV)), i + n ≤ l.length → els = (l.drop i).take n → (∀ j, j < els.length → flC p t (i + j) (l.getD (i + j) []) = els.getD j []) ∧ els.length = n := fun t l hle e => by
      have hlen : els.length = n := by rw [e, List.length_take, List.length_drop]; omega
      refine ⟨fun j hj => ?_, hlen⟩
      have hij : i + j < l.length := by omega
      have e1 : els[j]? = l[i + j]? := by rw [e, List.getElem?_take, if_pos (by omega), List.getElem?_drop]
      rw [List.getD_eq_getElem?_getD, List.getD_eq_getElem?_getD, e1, List.getElem?_eq_getElem hij, Option.getD_some]
      refine flC_plain (List.all_eq_true.1 hp _ ?_)
      rw [List.getElem?_eq_getElem hij] at e1
      exact List.mem_of_getElem? e1
    have hHF : HF G p = flO p (getP G p) := rfl
    cases ho : getP G p with
    | free => simp [ho] at h
    | cells t c => simp [ho] at h
    | arr t z l =>
      simp only [ho] at h
      split at h
      · rename_i hle
        simp only [Option.some.injEq, Prod.mk.injEq] at h
        obtain ⟨k1, k2⟩ := key t l hle h.1.symm
        refine ⟨fun j => flC p t (i + j) (l.getD (i + j) []), [p], ?_, k1⟩
        simp only [readSl, hHF, ho, flO]
        rw [if_pos hle, k2, h.2.2]
      · cases h
    | view t z l =>
      simp only [ho] at h
      split at h
      · rename_i hle
        simp only [Option.some.injEq, Prod.mk.injEq] at h
        obtain ⟨k1, k2⟩ := key t l hle h.1.symm
        refine ⟨fun j => flC p t (i + j) (l.getD (i + j) []), [p], ?_, k1⟩
        simp only [readSl, hHF, ho, flO]
        rw [if_pos hle, k2, h.2.2]
      · cases h

/-- A row of new elements that own nothing, seen flat. -/
theorem flO_row {nb sz n : Nat} {els : List (List AV)} {g : Nat → List AV} (hn : els.length = n) (hp : ∀ (j : Nat) (c : List AV), els[j]? = some c → c.all AV.plain = true) (hg : ∀ j, j < n → g j = els.getD j []) (h0 : ∀ j, n ≤ j → g j = []) : flO (.top nb) (.arr 0 sz els) = .arr sz n g := by
  simp only [flO, hn, AObj.arr.injEq, true_and]
  funext j
  rcases Nat.lt_or_ge j n with h | h
  · rw [hg j h, List.getD_eq_getElem?_getD, List.getElem?_eq_getElem (by omega), Option.getD_some]
    exact flC_plain (hp j _ (List.getElem?_eq_getElem (by omega)))
  · rw [h0 j h, List.getD_eq_getElem?_getD, List.getElem?_eq_none (by omega)]; rfl

theorem Does.row {o : Oper} {F : Nm → Prop} {v : AV} {hs : List (Nm × AObj)} {rd : List Nm} {x : Nm} {sz n : Nat} {g g' : Nat → List AV} (h : Does P w0 S Es (HF G) a w o ⟨v, [(x, .arr sz n g)], rd⟩ F) (hg : ∀ j, j < n → g j = g' j) : Does P w0 S Es (HF G) a w o ⟨v, [(x, .arr sz n g')], rd⟩ F := by
  obtain ⟨w', g0, nx, h1, h2, h3⟩ := h
  refine ⟨w', g0, nx, h1, h2, fun ρ hρ hgg => ?_⟩
  have c := h3 ρ hρ hgg
  refine c.ole id (fun y => ?_) (fun _ _ => rfl) (fun _ _ _ _ e => e) c.an
  show OLe ρ ρ (upd (HF G) x (.arr sz n g) y) (upd (HF G) x (.arr sz n g') y)
  by_cases e : y = x
  · subst e; rw [upd_same, upd_same]; exact .arr fun i hi => by rw [hg i hi]; exact CLe.refl _ _
  · rw [upd_other _ _ e, upd_other _ _ e]
    cases HF G y with
    | free => exact .free _
    | cells c => exact .cells (CLe.refl _ _)
    | arr sz n f => exact .arr fun _ _ => CLe.refl _ _
    | view sz n f => exact .view fun _ _ => CLe.refl _ _

theorem flO_rowt {p t sz : Nat} {els : List (List AV)} (hp : ∀ (j : Nat) (c : List AV), els[j]? = some c → c.all AV.plain = true) : flO (.top p) (.arr t sz els) = .arr sz els.length (fun j => els.getD j []) := by
  show AObj.arr sz els.length _ = _
  congr 1
  funext j
  by_cases hj : j < els.length
  · rw [List.getD_eq_getElem?_getD, List.getElem?_eq_getElem hj]; exact flC_plain (hp j _ (List.getElem?_eq_getElem hj))
  · rw [List.getD_eq_getElem?_getD, List.getElem?_eq_none (by omega)]; rfl

set_option maxHeartbeats 2000000 in
/-- EVERY OPERATION BUT A CALL. -/
theorem stepN_ok (h : Sat w0 S Es U T (HF G) a w) {F : Nm → Prop} {o : Oper} {nb : Nat} (hF0 : ∀ x : Nm, x.mx = nb → F x) (hFU : ∀ x, F x → U x) {E : FuncId → Option Spec} {m : MOp} {r : Res} (hm : rOp P o.op = some m) (hc : m.isCall = false) (hs : stepN E T G nb m = some r) : DoesN P w0 S Es G a w o r F := by
  have hF : F (.top nb) := hF0 _ rfl
  have hU : U (.top nb) := hFU _ hF
  have hnbf : G nb = .free := HF_free.1 (h.fr _ hU)
  by_cases hp : m.isPure = true
  · rw [stepN_pure hp] at hs
    cases hf : stepF T noH (.top 0) m with
    | none => simp [hf] at hs
    | some rf =>
      simp only [hf, Option.map_some, Option.some.injEq] at hs
      subst hs
      obtain ⟨h1, h2⟩ := stepF_pure (H' := HF G) (nb' := .top nb) hp hf
      exact DoesN.of_same (step_ok h hF hU hm hc h1) rfl h2 rfl
  have ok := fun {rf : FRes} (hs : stepF T (HF G) (.top nb) m = some rf) => step_ok h hF hU hm hc hs
  have one : ∀ {c : List AV}, c.all AV.st = true → ∀ j d, elemN (.cells 0 c) j = some d → d.all AV.plain = true := fun {c} hst j d hd => by
    simp only [elemN] at hd
    split at hd
    · injection hd with hd; subst hd; exact st_all_plain hst
    · cases hd
  cases m <;> simp only [MOp.isPure, not_true_eq_false, Bool.false_eq_true, not_false_eq_true] at hp <;> simp only [stepN] at hs
  case mp o => cases hs
  case clr sz x =>
    split at hs
    · rename_i p s n hx
      split at hs
      · rename_i t sz' els hp
        split at hs
        · rename_i hcond
          injection hs with hs; subst hs
          obtain ⟨rfl, h1, h2, h3⟩ := hcond
          have hpl : ∀ (j : Nat) (c : List AV), els[j]? = some c → c.all AV.plain = true := fun j c hc => List.all_eq_true.1 h3 c (List.mem_of_getElem? hc)
          have e1 : HF G (.top p) = .arr sz' els.length (fun j => els.getD j []) := by
            show flO (.top p) (G p) = _
            rw [hp]
            exact flO_rowt hpl
          have this : Does P w0 S Es (HF G) a w o ⟨.tup [], [(.top p, .arr sz' s (fun j => els.getD j []))], []⟩ F := ok (by simp only [stepF, hx, e1, true_and]; rw [if_pos ⟨h1, h2⟩])
          have this := Does.row (hs := []) this (g' := fun j => (els.take s).getD j []) (fun j hj => by
            rw [List.getD_eq_getElem?_getD, List.getD_eq_getElem?_getD, List.getElem?_take, if_pos hj])
          have hs' : (els.take s).length = s := by rw [List.length_take]; omega
          have hpl2 : ∀ (j : Nat) (c : List AV), (els.take s)[j]? = some c → c.all AV.plain = true := fun j c hc => by
            rw [List.getElem?_take] at hc
            split at hc
            · exact hpl j c hc
            · cases hc
          have kf : ∀ (q : NObj), (∀ j c, elemN q j = some c → c.all AV.plain = true) → ∀ t j f, kid q t j f = .free := fun q hq t j f => kid_plainO hq t j f
          have k1 : ∀ t j f, kid (G p) t j f = .free := kf _ (fun j c hc => hpl j c (by rw [hp] at hc; exact hc))
          have k2 : ∀ t' j f, kid (.arr t sz' (els.take s)) t' j f = .free := kf _ (fun j c hc => hpl2 j c hc)
          have below : ∀ (G2 : NH), (∀ t j f, kid (G2 p) t j f = .free) → ∀ x : Nm, x.root = p → x ≠ .top p → getP G2 x = .free := fun G2 hk x => by
            induction x with
            | top n => intro hr hne; simp only [Nm.root] at hr; subst hr; exact absurd rfl hne
            | sub y t j f ih =>
              intro hr _
              simp only [Nm.root] at hr
              by_cases hy : y = .top p
              · subst hy; exact hk t j f
              · rw [getP, ih hr hy]; simp [kid, elemN]
          have hall : HF (upd G p (.arr t sz' (els.take s))) = upd (HF G) (.top p) (.arr sz' s (fun j => (els.take s).getD j [])) := by
            funext x
            by_cases hr : x.root = p
            · by_cases hx' : x = .top p
              · subst hx'
                rw [upd_same]
                show flO (.top p) (upd G p _ p) = _
                rw [upd_same]
                rw [flO_rowt hpl2, hs']
              · rw [upd_other _ _ hx']
                unfold HF
                rw [below _ (fun t' j f => by rw [upd_same]; exact k2 t' j f) x hr hx', below G k1 x hr hx']
            · have hx' : x ≠ .top p := fun e => hr (by rw [e]; rfl)
              rw [upd_other _ _ hx']
              unfold HF
              rw [getP_other hr]
          obtain ⟨w', g, nx, q1, q2, q3⟩ := this
          refine ⟨⟨w', g, nx, q1, q2, fun ρ hρ hg => ?_⟩, fun x _ hx' => ?_⟩
          · show HCore w0 S ρ (HF (upd G p (.arr t sz' (els.take s)))) w'
            rw [hall]
            exact q3 ρ hρ hg
          · change getP (upd G p (.arr t sz' (els.take s))) x ≠ .free at hx'
            by_cases hr : x.root = p
            · by_cases e : x = .top p
              · subst e; show G p ≠ .free; rw [hp]; simp
              · exact absurd (below _ (fun t' j f => by rw [upd_same]; exact k2 t' j f) x hr e) hx'
            · rwa [getP_other hr] at hx'
        · cases hs
      · cases hs
    · cases hs
  case alloc z =>
    split at hs
    · rename_i hst
      injection hs with hs; subst hs
      have := ok (rf := ⟨.ptr (.top nb) 0 0, [(.top nb, .cells z)], []⟩) rfl
      exact DoesN.of_new this rfl rfl (by simp [flO, flC_plain (st_all_plain hst)]) hnbf hF (one hst)
    · cases hs
  case box x =>
    split at hs
    · rename_i hst
      injection hs with hs; subst hs
      have := ok (rf := ⟨.ptr (.top nb) 0 0, [(.top nb, .cells (x.ev T).cells)], []⟩) (by simp only [stepF]; rw [if_pos (st_all_one hst)])
      exact DoesN.of_new this rfl rfl (by simp [flO, flC_plain (st_all_plain hst)]) hnbf hF (one hst)
    · cases hs
  case load ag n x =>
    split at hs
    · rename_i p i f hx
      split at hs
      · rename_i c hc'
        split at hs
        · rename_i hag
          split at hs
          · rename_i hle
            injection hs with hs; subst hs
            have := ok (rf := ⟨.agg (((flC p (getP G p).tag i c).drop f).take n), [], [p]⟩) (by simp only [stepF, hx, hf_get hc', if_pos hag, flC_length, if_pos hle])
            exact DoesN.of_same this rfl rfl rfl
          · cases hs
        · rename_i hag
          split at hs
          · rename_i v hv
            injection hs with hs; subst hs
            have := ok (rf := ⟨flV p (getP G p).tag i f v, [], [p]⟩) (by simp only [stepF, hx, hf_get hc', if_neg hag, flC_get, hv, Option.map_some])
            exact DoesN.of_same this rfl rfl rfl
          · cases hs
      · cases hs
    · cases hs
  case store n x y =>
    split at hs
    · rename_i p i f hx
      split at hs
      · rename_i hcond
        split at hs
        · rename_i o' ho'
          injection hs with hs; subst hs
          have hpl := st_all_plain hcond.1
          have := ok (rf := ⟨.bot, [(p, flO p o')], []⟩) (by
            have e := setN_flat (p := p) hpl ho'
            simp only [stepF, hx]
            rw [if_pos ⟨st_all_one hcond.1, hcond.2⟩]
            unfold HF
            rw [e])
          have hlike := (setN_like ho').1
          have hkid := setN_kid hpl ho'
          obtain ⟨w', g, nx, h1, h2, h3⟩ := this
          refine ⟨⟨w', g, nx, h1, h2, fun ρ hρ hg => (h3 ρ hρ hg).weaken (HF_wr hlike hkid)⟩, fun x _ hx => nw_wr hlike hkid x hx⟩
        · cases hs
      · cases hs
    · cases hs
  case iaddr sz x i =>
    split at hs
    · rename_i p s n k j hx hi
      split at hs
      · rename_i hsz
        split at hs
        · rename_i hj
          injection hs with hs; subst hs
          have := ok (rf := ⟨.ptr p (s + j.toNat) 0, [], [p]⟩) (by simp only [stepF, hx, hi]; rw [szObj_HF, if_pos hsz, if_pos hj])
          exact DoesN.of_same this rfl rfl rfl
        · cases hs
      · cases hs
    · cases hs
  case stop => cases hs
  case slc sz x lo hi =>
    split at hs
    · rename_i p s n hx
      split at hs
      · rename_i k1 l k2 hh hl1 hl2
        split at hs
        · rename_i hsz
          split at hs
          · rename_i hle
            injection hs with hs; subst hs
            have := ok (rf := ⟨.sl p (s + l.toNat) (hh.toNat - l.toNat), [], [p]⟩) (by simp only [stepF, hx, hl1, hl2]; rw [szObj_HF, if_pos hsz, if_pos hle])
            exact DoesN.of_same this rfl rfl rfl
          · cases hs
        · cases hs
      · cases hs
    · rename_i hx
      split at hs
      · rename_i k1 l k2 hh hl1 hl2
        split at hs
        · rename_i hle
          injection hs with hs; subst hs
          have := ok (rf := ⟨.nsl, [], []⟩) (by simp only [stepF, hx, hl1, hl2]; rw [if_pos hle])
          exact DoesN.of_same this rfl rfl rfl
        · cases hs
      · cases hs
    · cases hs
  case app sz bytes x y =>
    split at hs
    · rename_i els' rd sz' hr
      split at hs
      · rename_i hcond
        obtain ⟨hsz, hpl⟩ := hcond
        obtain ⟨g, rd', hrs, hgg⟩ := readN_flat hr hpl
        have hsz2 : els'.length = 0 ∨ sz' = sz := hsz.imp (fun e => by rw [e]; rfl) id
        have hplj : ∀ (j : Nat) (c : List AV), els'[j]? = some c → c.all AV.plain = true := fun j c hc => List.all_eq_true.1 hpl c (List.mem_of_getElem? hc)
        split at hs
        · rename_i hx
          split at hs
          · rename_i hb
            injection hs with hs; subst hs
            have := ok (rf := ⟨.sl (.top nb) 0 els'.length, [(.top nb, .arr sz els'.length g)], rd'⟩) (by simp only [stepF, hrs, hx]; rw [if_pos hsz2, if_pos hb])
            have := Does.row (hs := []) this (g' := fun j => if j < els'.length then els'.getD j [] else []) (fun j hj => by rw [hgg j hj, if_pos hj])
            exact DoesN.of_new this rfl rfl (by rw [flO_row rfl hplj (fun j hj => if_pos hj) (fun j hj => if_neg (by omega))]) hnbf hF (fun j c hc => hplj j c hc)
          · cases hs
        · rename_i p s n hx
          split at hs
          · rename_i t0 sz2 els hp
            split at hs
            · rename_i hb
              obtain ⟨rfl, hsn, htl, hb1, hb2⟩ := hb
              injection hs with hs; subst hs
              have hstep : stepF T (HF G) (.top nb) (.app sz2 bytes x y) = some ⟨.sl (.top nb) 0 (n + els'.length), [(p, .free), (.top nb, .arr sz2 (n + els'.length) (appF n (fun j => flC p t0 (s + j) (els.getD (s + j) [])) g))], rd'⟩ := by
                have hHF : HF G p = .arr sz2 els.length (fun j => flC p t0 j (els.getD j [])) := by unfold HF; rw [hp]; rfl
                simp only [stepF, hrs, hx, hHF]
                rw [if_pos hsz2, if_pos ⟨trivial, hsn, hb1, hb2⟩]
              have := step_ok h (F := fun x => x = .top nb) (nb := .top nb) rfl hU hm hc hstep
              exact doesN_app h hF0 hFU hp hsn rfl hpl htl hgg this
            · cases hs
          · cases hs
        · cases hs
      · cases hs
    · cases hs
  case appz sz bytes x y =>
    split at hs
    · rename_i n hx hy
      split at hs
      · rename_i hcond
        injection hs with hs; subst hs
        have := ok (rf := ⟨.sl (.top nb) 0 n.toNat, [(.top nb, .arr sz 0 (fun _ => []))], []⟩) (by simp only [stepF, hx, hy]; rw [if_pos hcond])
        exact DoesN.of_new this rfl rfl (by simp [flO, flC]) hnbf hF (fun j c hc => by simp [elemN] at hc)
      · cases hs
    · cases hs
  case mks sz bytes z l c =>
    split at hs
    · rename_i k1 x k2 y hl hc'
      split at hs
      · rename_i hcond
        obtain ⟨e1, e2, e3, e4, e5, e6⟩ := hcond
        injection hs with hs; subst hs
        have := ok (rf := ⟨.sl (.top nb) 0 x.toNat, [(.top nb, .arr sz x.toNat (fun _ => z))], []⟩) (by simp only [stepF, hl, hc']; rw [if_pos ⟨e1, e2, e3, e4, e5⟩])
        have := Does.row (hs := []) this (g' := fun j => if j < x.toNat then z else []) (fun j hj => by rw [if_pos hj])
        refine DoesN.of_new this rfl rfl ?_ hnbf hF (fun j c hc => ?_)
        · have e := flO_row (nb := nb) (sz := sz) (n := x.toNat) (els := List.replicate x.toNat z) (g := fun j => if j < x.toNat then z else []) (by simp) (fun j d hd => by
            rw [List.getElem?_replicate] at hd
            split at hd
            · injection hd with hd; subst hd; exact st_all_plain e6
            · cases hd) (fun j hj => by
            rw [List.getD_eq_getElem?_getD, List.getElem?_replicate, if_pos hj, if_pos hj]; rfl) (fun j hj => if_neg (by omega))
          rw [e]
        · simp only [elemN] at hc
          rw [List.getElem?_replicate] at hc
          split at hc
          · injection hc with hc; subst hc; exact st_all_plain e6
          · cases hc
      · cases hs
    · cases hs
  case bsl sz n z ps =>
    split at hs
    · rename_i c hc'
      split at hs
      · rename_i hcond
        obtain ⟨e1, e2, e3, e4⟩ := hcond
        injection hs with hs; subst hs
        have hpl : ∀ j : Nat, ((c.drop (j * sz)).take sz).all AV.plain = true := fun j => List.all_eq_true.2 fun v hv => List.all_eq_true.1 (st_all_plain e4) v (List.mem_of_mem_drop (List.mem_of_mem_take hv))
        have := ok (rf := ⟨.sl (.top nb) 0 n, [(.top nb, .arr sz n (fun j => (c.drop (j * sz)).take sz))], []⟩) (by simp only [stepF, hc']; rw [if_pos ⟨e1, e2, e3⟩])
        have := Does.row (hs := []) this (g' := fun j => if j < n then (c.drop (j * sz)).take sz else []) (fun j hj => by rw [if_pos hj])
        have hget : ∀ j, ((List.range n).map fun j => (c.drop (j * sz)).take sz)[j]? = if j < n then some ((c.drop (j * sz)).take sz) else none := fun j => by
          rw [List.getElem?_map]
          rcases Nat.lt_or_ge j n with h | h
          · rw [List.getElem?_range h, if_pos h]; rfl
          · rw [List.getElem?_eq_none (by simpa using h), if_neg (by omega)]; rfl
        refine DoesN.of_new this rfl rfl ?_ hnbf hF (fun j d hd => ?_)
        · have e := flO_row (nb := nb) (sz := sz) (n := n) (els := (List.range n).map fun j => (c.drop (j * sz)).take sz) (g := fun j => if j < n then (c.drop (j * sz)).take sz else []) (by simp) (fun j d hd => by
            rw [hget] at hd
            split at hd
            · injection hd with hd; subst hd; exact hpl j
            · cases hd) (fun j hj => by
            rw [List.getD_eq_getElem?_getD, hget, if_pos hj, if_pos hj]; rfl) (fun j hj => if_neg (by omega))
          rw [e]
        · simp only [elemN] at hd
          rw [hget] at hd
          split at hd
          · injection hd with hd; subst hd; exact hpl j
          · cases hd
      · cases hs
    · cases hs
  case call f args => simp [MOp.isCall] at hc

end
end Go.W
