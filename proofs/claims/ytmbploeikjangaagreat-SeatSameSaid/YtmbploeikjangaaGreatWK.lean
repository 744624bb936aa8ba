/- Every operation but a call, told of a heap of trees. -/
import Derived.Test.YtmbploeikjangaaGreatWJ
set_option linter.unusedSimpArgs false
set_option linter.unusedVariables false
namespace Go.W

/-- Cells that read alike. -/
def CLe (ρ ρ' : Env) (c c' : List AV) : Prop := c.length = c'.length ∧ ∀ (k : Nat) (v' : AV), c'[k]? = some v' → ∃ v, c[k]? = some v ∧ ∀ u, Rep ρ v u → Rep ρ' v' u

theorem CLe.refl (ρ : Env) (c : List AV) : CLe ρ ρ c c := ⟨rfl, fun k v h => ⟨v, h, fun _ h => h⟩⟩

theorem Reg.cle {ρ ρ' : Env} {L : Loc} {sz n : Nat} {f f' : Nat → List AV} {w : World} (h : Reg ρ L sz n f w) (hf : ∀ i, i < n → CLe ρ ρ' (f i) (f' i)) : Reg ρ' L sz n f' w :=
  ⟨h.nn, h.esz, h.cap, fun i hi => by rw [← (hf i hi).1]; exact h.len i hi, fun i hi j v hv => by
    obtain ⟨u, hu, hr⟩ := (hf i hi).2 j v hv
    obtain ⟨x, h1, h2, h3⟩ := h.cell i hi j u hu
    exact ⟨x, h1, hr x h2, h3⟩⟩

/-- Objects of one shape whose cells read alike. -/
inductive OLe (ρ ρ' : Env) : AObj → AObj → Prop
  | free (o : AObj) : OLe ρ ρ' o .free
  | cells {c c' : List AV} (h : CLe ρ ρ' c c') : OLe ρ ρ' (.cells c) (.cells c')
  | arr {sz n : Nat} {f f' : Nat → List AV} (h : ∀ i, i < n → CLe ρ ρ' (f i) (f' i)) : OLe ρ ρ' (.arr sz n f) (.arr sz n f')
  | view {sz n : Nat} {f f' : Nat → List AV} (h : ∀ i, i < n → CLe ρ ρ' (f i) (f' i)) : OLe ρ ρ' (.view sz n f) (.view sz n f')

theorem OLe.ok {ρ ρ' : Env} {o o' : AObj} (h : OLe ρ ρ' o o') {L : Loc} {w : World} (hok : ObjOk ρ L o w) : ObjOk ρ' L o' w := by
  cases h with
  | free => trivial
  | cells h =>
    refine ⟨?_, by rw [← h.1]; exact hok.2⟩
    have := hok.1.cle (f' := fun _ => _) (fun i _ => h)
    rw [h.1] at this
    exact this
  | arr h => exact hok.imp id fun hok => ⟨hok.1.cle h, hok.2⟩
  | view h => exact hok.imp id fun hok => hok.cle h

theorem OLe.own {ρ ρ' : Env} {o o' : AObj} (h : OLe ρ ρ' o o') {L : Loc} (ho : Owned L o') : Owned L o := by
  cases h with
  | free => exact ho.elim
  | cells h => trivial
  | arr h => exact ho
  | view h => exact ho

theorem OLe.viewed {ρ ρ' : Env} {o o' : AObj} (h : OLe ρ ρ' o o') {L : Loc} (ho : Viewed L o') : Viewed L o := by
  cases h with
  | free => exact ho.elim
  | cells h => exact ho
  | arr h => exact ho
  | view h => exact ho

/-- The cells of two elements that are alike, under two owners. -/
theorem flC_cle {ρ ρ' : Env} {x y : Nm} {t t' i i' : Nat} {c : List AV} (hp : ∀ v ∈ c, v.plain = true → ∀ u, Rep ρ v u → Rep ρ' v u) (hk : ∀ f v, c[f]? = some v → v.plain = false → ρ' (.sub x t i f) = ρ (.sub y t' i' f)) : CLe ρ ρ' (flC y t' i' c) (flC x t i c) := by
  refine ⟨by simp, fun k v' hv => ?_⟩
  rw [flC_get] at hv ⊢
  cases hc : c[k]? with
  | none => simp [hc] at hv
  | some v =>
    simp only [hc, Option.map_some, Option.some.injEq] at hv ⊢
    refine ⟨_, rfl, fun u hu => ?_⟩
    subst hv
    cases hpl : v.plain with
    | true => rw [flV_plain hpl] at hu ⊢; exact hp v (List.mem_of_getElem? hc) hpl u hu
    | false =>
      have := hk k v hc hpl
      cases v <;> simp only [AV.plain, Bool.true_eq_false] at hpl
      · simp only [flV, Rep] at hu ⊢; rw [this]; exact hu
      · simp only [flV, Rep] at hu ⊢; rw [this]; exact hu

/-- Objects by other names, under another environment. -/
theorem HCore.ole {w0 : World} {S : Sc} {ρ ρ' : Env} {H H' : Nm → AObj} {w : World} (h : HCore w0 S ρ H w) (φ : Nm → Nm) (hle : ∀ x, OLe ρ ρ' (H (φ x)) (H' x)) (hρ : ∀ x, H' x ≠ .free → ρ' x = ρ (φ x)) (hinj : ∀ x y, H' x ≠ .free → H' y ≠ .free → φ x = φ y → x = y) (han : ∀ x, x < S.m → ρ' (.top x) = S.A x) : HCore w0 S ρ' H' w := by
  have nf : ∀ {x L}, Owned L (H' x) → H' x ≠ .free := fun ho e => by rw [e] at ho; exact ho
  refine h.re φ (fun x => ?_) (fun x hx => ?_) (fun x hx => ?_) (fun x y hx hy e => hinj x y (nf hx) (nf hy) e) han
  · by_cases e : H' x = .free
    · rw [e]; trivial
    · rw [hρ x e]; exact (hle x).ok (h.obj _)
  · have e := nf hx
    rw [hρ x e] at hx ⊢
    exact ⟨(hle x).own hx, rfl⟩
  · have e : H' x ≠ .free := fun e => by rw [e] at hx; exact hx
    rw [hρ x e] at hx ⊢
    exact h.vw _ ((hle x).viewed hx)

section
variable {P : Program} {w0 : World} {S : Sc} {Es : Env → Prop} {U : Nm → Prop} {T : Nat → AV} {G : NH} {a : Act} {w : World}

/-- Where a name below a new row lay ahead. -/
def mvN (n : Nat) (p : Nm) (t s : Nat) : Nm → Nm
  | .top m => .top m
  | .sub y t' j f => if y = .top n then .sub p t (s + j) f else .sub (mvN n p t s y) t' j f

theorem kid_elem {o o' : NObj} {t t' j j' : Nat} (ht : o.tag = t) (ht' : o'.tag = t') (hr : o.ro = o'.ro) (he : elemN o j = elemN o' j') (f : Nat) : kid o t j f = kid o' t' j' f := by
  unfold kid
  rw [if_pos ht, if_pos ht', he, hr]

theorem mvN_below {n : Nat} {p : Nm} {t s : Nat} : ∀ {x : Nm}, x.root = n → x ≠ .top n → pre p (mvN n p t s x) ∧ mvN n p t s x ≠ p ∧ depth p < depth (mvN n p t s x)
  | .top m, h, hne => by simp only [Nm.root] at h; subst h; exact absurd rfl hne
  | .sub y t' j f, h, hne => by
    simp only [Nm.root] at h
    simp only [mvN]
    split
    · refine ⟨.inr (pre_refl _), fun e => ?_, by simp [depth]⟩
      have := congrArg depth e
      simp [depth] at this
    · rename_i hy
      obtain ⟨h1, h2, h3⟩ := mvN_below (p := p) (t := t) (s := s) h hy
      refine ⟨.inr h1, fun e => ?_, by simp only [depth]; omega⟩
      have := congrArg depth e
      simp only [depth] at this
      omega

theorem mvN_inj {n : Nat} {p : Nm} {t s : Nat} : ∀ {x y : Nm}, x.root = n → y.root = n → x ≠ .top n → y ≠ .top n → (∀ z u j f, pre (.sub z u j f) x → z = .top n → u = 0) → (∀ z u j f, pre (.sub z u j f) y → z = .top n → u = 0) → mvN n p t s x = mvN n p t s y → x = y
  | .top m, _, h, _, hne, _, _, _, _ => by simp only [Nm.root] at h; subst h; exact absurd rfl hne
  | .sub x t1 j1 f1, .top m, _, h, _, hne, _, _, _ => by simp only [Nm.root] at h; subst h; exact absurd rfl hne
  | .sub x t1 j1 f1, .sub y t2 j2 f2, h1, h2, _, _, hx, hy, e => by
    simp only [Nm.root] at h1 h2
    simp only [mvN] at e
    by_cases ex : x = .top n
    · rw [if_pos ex] at e
      by_cases ey : y = .top n
      · rw [if_pos ey] at e
        simp only [Nm.sub.injEq, true_and] at e
        have u1 := hx x t1 j1 f1 (.inl rfl) ex
        have u2 := hy y t2 j2 f2 (.inl rfl) ey
        have : j1 = j2 := by omega
        rw [ex, ey, u1, u2, this, e.2]
      · rw [if_neg ey] at e
        simp only [Nm.sub.injEq] at e
        have := (mvN_below (p := p) (t := t) (s := s) h2 ey).2.1
        exact absurd e.1.symm this
    · rw [if_neg ex] at e
      by_cases ey : y = .top n
      · rw [if_pos ey] at e
        simp only [Nm.sub.injEq] at e
        have := (mvN_below (p := p) (t := t) (s := s) h1 ex).2.1
        exact absurd e.1 this
      · rw [if_neg ey] at e
        simp only [Nm.sub.injEq] at e
        rw [mvN_inj h1 h2 ex ey (fun z u j f hz ht => hx z u j f (.inr hz) ht) (fun z u j f hz ht => hy z u j f (.inr hz) ht) e.1, e.2.1, e.2.2.1, e.2.2.2]

/-- What a new row, to which elements have moved, has below it. -/
theorem row_below {G0 G1 : NH} {n t0 s sz : Nat} {p : Nm} {els els' : List (List AV)} (hp : getP G0 p = .arr t0 sz els) (h1 : G1 n = .arr 0 sz (els.drop s ++ els')) (hpl : els'.all (fun c => c.all AV.plain) = true) :
    ∀ x : Nm, x.root = n → x ≠ .top n → getP G1 x ≠ .free → getP G1 x = getP G0 (mvN n p t0 s x) ∧ ∀ z u j f, pre (.sub z u j f) x → z = .top n → u = 0 := by
  intro x
  induction x with
  | top m => intro hr hne; simp only [Nm.root] at hr; subst hr; exact absurd rfl hne
  | sub y t j f ih =>
    intro hr hne hg
    simp only [Nm.root] at hr
    by_cases ey : y = .top n
    · subst ey
      simp only [mvN, if_true]
      rw [getP, getP, h1] at hg ⊢
      have ht : t = 0 := by
        by_cases e : t = 0
        · exact e
        · exact absurd (kid_tag (by simp only [NObj.tag]; exact fun e' => e e'.symm)) hg
      subst ht
      have hj : j < els.length - s := by
        rcases Nat.lt_or_ge j (els.length - s) with h | h
        · exact h
        · exfalso
          apply hg
          unfold kid
          simp only [NObj.tag, if_true, elemN]
          rw [List.getElem?_append_right (by simpa using h)]
          cases hc : els'[j - (els.drop s).length]? with
          | none => rfl
          | some c =>
            have hc2 := List.all_eq_true.1 hpl c (List.mem_of_getElem? hc)
            unfold kidC
            simp only
            cases hv : c[f]? with
            | none => rfl
            | some v =>
              have := List.all_eq_true.1 hc2 v (List.mem_of_getElem? hv)
              cases v <;> first | rfl | simp [AV.plain] at this
      refine ⟨?_, fun z u j' f' hz hzt => ?_⟩
      · rw [getP, hp]
        refine kid_elem (o := .arr 0 sz (els.drop s ++ els')) (o' := .arr t0 sz els) rfl rfl rfl ?_ f
        simp only [elemN]
        rw [List.getElem?_append_left (by simpa using hj), List.getElem?_drop]
      · rcases hz with hz | hz
        · injection hz
        · subst hzt; simp only [pre, reduceCtorEq] at hz
    · have hgy : getP G1 y ≠ .free := fun h => hg (by rw [getP, h]; simp [kid, elemN])
      obtain ⟨i1, i2⟩ := ih hr ey hgy
      simp only [mvN, if_neg ey]
      refine ⟨by rw [getP, getP, i1], fun z u j' f' hz hzt => ?_⟩
      rcases hz with hz | hz
      · injection hz with e1 e2 e3 e4; exact absurd (e1.symm.trans hzt) ey
      · exact i2 z u j' f' hz hzt


def NObj.tlO (n : Nat) : NObj → Bool
  | .cells t c => decide (t < n) && tlL n c
  | .arr t _ els => decide (t < n) && tlLL n els
  | .view t _ els => decide (t < n) && tlLL n els
  | .free => true

theorem tlO_elem {n : Nat} {o : NObj} (h : o.tlO n = true) {j : Nat} {c : List AV} (hc : elemN o j = some c) : tlL n c = true := by
  cases o <;> simp only [elemN, reduceCtorEq] at hc <;> simp only [NObj.tlO, Bool.and_eq_true] at h
  · split at hc
    · injection hc with hc; subst hc; exact h.2
    · cases hc
  · exact tlLL_get h.2 hc
  · exact tlLL_get h.2 hc

theorem tl_kid {n : Nat} {o : NObj} (h : ∀ j c, elemN o j = some c → tlL n c = true) (t j f : Nat) : (kid o t j f).tlO n = true := by
  unfold kid
  split
  · cases he : elemN o j with
    | none => rfl
    | some c =>
      simp only [kidC]
      cases hv : c[f]? with
      | none => rfl
      | some v =>
        have := tlL_get (h j c he) hv
        cases v <;> try rfl
        · simp only [kidV]
          split <;> exact this
        · rename_i t' c'
          simp only [kidV]
          split
          · simp only [AV.tl, Bool.and_eq_true] at this
            have t1 := of_decide_eq_true this.1
            simp [NObj.tlO, tlLL, t1, this.2]
          · exact this
  · rfl

theorem tlO_tag {n : Nat} {o : NObj} (h : o.tlO n = true) (hf : o ≠ .free) : o.tag < n := by
  cases o <;> simp_all [NObj.tlO, NObj.tag]

theorem row_mx {G1 : NH} {n : Nat} (ht : (G1 n).tag = 0) (hg : ∀ j c, elemN (G1 n) j = some c → tlL n c = true) : ∀ x : Nm, x.root = n → getP G1 x ≠ .free → x.mx = n ∧ (x ≠ .top n → (getP G1 x).tlO n = true)
  | .top m, hr, _ => by simp only [Nm.root] at hr; subst hr; exact ⟨rfl, fun h => absurd rfl h⟩
  | .sub y t j f, hr, hne => by
    simp only [Nm.root] at hr
    rw [getP] at hne
    have hgy : getP G1 y ≠ .free := fun h => hne (by rw [h]; simp [kid, elemN])
    obtain ⟨i1, i2⟩ := row_mx ht hg y hr hgy
    have htag : (getP G1 y).tag = t := by
      by_cases e : (getP G1 y).tag = t
      · exact e
      · exact absurd (kid_tag e) hne
    by_cases ey : y = .top n
    · subst ey
      rw [getP] at htag
      refine ⟨by simp only [Nm.mx]; omega, fun _ => ?_⟩
      rw [getP, getP]
      exact tl_kid hg t j f
    · have h2 := i2 ey
      have := tlO_tag h2 hgy
      refine ⟨by simp only [Nm.mx]; omega, fun _ => ?_⟩
      rw [getP]
      exact tl_kid (fun j c hc => tlO_elem h2 hc) t j f

theorem below_free {G : NH} {p : Nm} (h : getP G p = .free) : ∀ {x : Nm}, pre p x → getP G x = .free
  | .top m, hx => by simp only [pre] at hx; subst hx; exact h
  | .sub y t j f, hx => by
    rcases hx with hx | hx
    · subst hx; exact h
    · rw [getP, below_free h hx]; simp [kid, elemN]

theorem mvN_root {n : Nat} {p : Nm} {t s : Nat} : ∀ {x : Nm}, x.root = n → x ≠ .top n → (mvN n p t s x).root = p.root
  | .top m, h, hne => by simp only [Nm.root] at h; subst h; exact absurd rfl hne
  | .sub y t' j f, h, hne => by
    simp only [Nm.root] at h
    simp only [mvN]
    split
    · rfl
    · rename_i hy; exact mvN_root (x := y) h hy

set_option maxHeartbeats 2000000 in
/-- A ROW IS MADE LONGER: what its elements own moves with them. -/
theorem doesN_app {F : Nm → Prop} {o : Oper} {nb : Nat} (h : Sat w0 S Es U T (HF G) a w) (hF0 : ∀ x : Nm, x.mx = nb → F x) (hFU : ∀ x, F x → U x) {p : Nm} {t0 sz s n n' : Nat} {els els' : List (List AV)} {g : Nat → List AV} {rd : List Nm} {rd' : List Nat}
    (hp : getP G p = .arr t0 sz els) (hsn : s + n = els.length) (hn' : els'.length = n') (hpl : els'.all (fun c => c.all AV.plain) = true) (htl : tlLL nb els = true) (hg : ∀ j, j < n' → g j = els'.getD j [])
    (hd : Does P w0 S Es (HF G) a w o ⟨.sl (.top nb) 0 (n + n'), [(p, .free), (.top nb, .arr sz (n + n') (appF n (fun j => flC p t0 (s + j) (els.getD (s + j) [])) g))], rd⟩ (fun x => x = .top nb)) :
    DoesN P w0 S Es G a w o ⟨.sl (.top nb) 0 (n + n'), [wr G p .free, (nb, .arr 0 sz (els.drop s ++ els'))], rd', 8⟩ F := by
  obtain ⟨w', g0, nx, h1, h2, h3⟩ := hd
  obtain ⟨ρ0, hρ0⟩ := h.ne
  have hnbU : U (.top nb) := hFU _ (hF0 _ rfl)
  have hnbf : G nb = .free := HF_free.1 (h.fr _ hnbU)
  have hrp : p.root ≠ nb := fun e => by have := getP_free hnbf e; rw [hp] at this; cases this
  have hlike : Like (getP G p) .free := by rw [hp]; trivial
  have hkf : ∀ t j f, kid .free t j f = kid (getP G p) t j f ∨ kid .free t j f = .free := fun t j f => .inr (by simp [kid, elemN])
  obtain ⟨a1, a2, a3⟩ := wr_get G p .free hlike
  generalize hG1 : upd G (wr G p .free).1 (wr G p .free).2 = G1 at a1 a2 a3
  have hwr : ∀ x, HF G1 x = upd (HF G) p .free x ∨ HF G1 x = .free := by rw [← hG1]; exact HF_wr hlike hkf
  have hnw1 : ∀ x, getP G1 x ≠ .free → getP G x ≠ .free := by rw [← hG1]; exact nw_wr hlike hkf
  let G2 : NH := upd G1 nb (.arr 0 sz (els.drop s ++ els'))
  have hG2 : updL G [wr G p .free, (nb, .arr 0 sz (els.drop s ++ els'))] = G2 := by show upd (upd G _ _) _ _ = _; rw [hG1]
  have hnb2 : G2 nb = .arr 0 sz (els.drop s ++ els') := upd_same _ _ _
  have hoth : ∀ x : Nm, x.root ≠ nb → getP G2 x = getP G1 x := fun x hx => getP_other hx
  have hrow := row_below (G0 := G) (G1 := G2) hp hnb2 hpl
  have hmx : ∀ x : Nm, x.root = nb → getP G2 x ≠ .free → x.mx = nb := fun x hr hx => (row_mx (G1 := G2) (by rw [hnb2]; rfl) (fun j c hc => by
    rw [hnb2] at hc
    simp only [elemN] at hc
    rcases Nat.lt_or_ge j (els.drop s).length with hj | hj
    · rw [List.getElem?_append_left hj, List.getElem?_drop] at hc
      exact tlLL_get htl hc
    · rw [List.getElem?_append_right hj] at hc
      have := List.all_eq_true.1 hpl c (List.mem_of_getElem? hc)
      clear hc
      induction c with
      | nil => rfl
      | cons v r ih =>
        simp only [List.all_cons, Bool.and_eq_true] at this
        simp only [tlL, Bool.and_eq_true]
        exact ⟨by have := this.1; cases v <;> simp_all [AV.plain, AV.tl], ih this.2⟩) x hr hx).1
  have lenE : (els.drop s ++ els').length = n + n' := by rw [List.length_append, List.length_drop, hn']; omega
  refine ⟨⟨w', fun x => if x = .top nb then g0 x else if x.root = nb then ρ0 (mvN nb p t0 s x) else g0 x, nx, h1, ?_, fun ρ hρ hgg => ?_⟩, fun x hx hne => ?_⟩
  · rcases h2 with ⟨v, e1, e2⟩ | e
    · refine .inl ⟨v, e1, fun ρ hρ hgg => e2 ρ hρ fun x hx => ?_⟩
      subst hx
      rw [hgg _ (hF0 _ rfl)]
      exact if_pos rfl
    · exact .inr e
  · have c1 := h3 ρ hρ fun x hx => by subst hx; rw [hgg _ (hF0 _ rfl)]; exact if_pos rfl
    show HCore w0 S ρ (HF (updL G [wr G p .free, (nb, .arr 0 sz (els.drop s ++ els'))])) w'
    rw [hG2]
    have e1 : updL (HF G) [(p, AObj.free), (.top nb, .arr sz (n + n') (appF n (fun j => flC p t0 (s + j) (els.getD (s + j) [])) g))] = upd (upd (HF G) p .free) (.top nb) (.arr sz (n + n') (appF n (fun j => flC p t0 (s + j) (els.getD (s + j) [])) g)) := rfl
    rw [e1] at c1
    have moved : ∀ x : Nm, x.root = nb → x ≠ .top nb → getP G2 x ≠ .free → ρ x = ρ (mvN nb p t0 s x) := fun x hr hne hx => by
      rw [hgg x (hF0 _ (hmx x hr hx))]
      simp only
      rw [if_neg hne, if_pos hr]
      refine h.pin ρ0 ρ hρ0 hρ _ fun e => hx ?_
      rw [(hrow x hr hne hx).1]; exact HF_free.1 e
    refine c1.ole (fun x => if x.root = nb ∧ x ≠ .top nb then mvN nb p t0 s x else x) (fun x => ?_) (fun x hx => ?_) (fun x y hx hy e => ?_) c1.an
    · by_cases hr : x.root = nb
      · by_cases e : x = .top nb
        · subst e
          rw [if_neg (fun hh => hh.2 rfl), upd_same]
          have : HF G2 (.top nb) = .arr sz (n + n') (fun j => flC (.top nb) 0 j ((els.drop s ++ els').getD j [])) := by unfold HF; rw [getP, hnb2, flO, lenE]
          rw [this]
          refine .arr fun i hi => ?_
          unfold appF
          by_cases hin : i < n
          · rw [if_pos hin]
            have e2 : (els.drop s ++ els').getD i [] = els.getD (s + i) [] := by
              rw [List.getD_eq_getElem?_getD, List.getD_eq_getElem?_getD, List.getElem?_append_left (by rw [List.length_drop]; omega), List.getElem?_drop]
            rw [e2]
            refine flC_cle (fun v _ _ u hu => hu) fun f v hv hpv => ?_
            have hk : getP G2 (.sub (.top nb) 0 i f) ≠ .free := by
              rw [getP, getP, hnb2]
              unfold kid
              simp only [NObj.tag, if_true, elemN, NObj.ro]
              have hsi : s + i < els.length := by omega
              rw [List.getElem?_append_left (by rw [List.length_drop]; omega), List.getElem?_drop, List.getElem?_eq_getElem hsi]
              rw [List.getD_eq_getElem?_getD, List.getElem?_eq_getElem hsi, Option.getD_some] at hv
              simp only [kidC, hv]
              cases v <;> first | (simp only [AV.plain, Bool.true_eq_false] at hpv; done) | simp [kidV]
            have := moved _ rfl (by simp) hk
            rw [this]
            simp [mvN]
          · rw [if_neg hin, hg (i - n) (by omega)]
            have e2 : (els.drop s ++ els').getD i [] = els'.getD (i - n) [] := by
              rw [List.getD_eq_getElem?_getD, List.getD_eq_getElem?_getD, List.getElem?_append_right (by rw [List.length_drop]; omega), List.length_drop]
              congr 3; omega
            rw [e2]
            have hcp : (els'.getD (i - n) []).all AV.plain = true := by
              rw [List.getD_eq_getElem?_getD]
              cases hc : els'[i - n]? with
              | none => rfl
              | some c => exact List.all_eq_true.1 hpl c (List.mem_of_getElem? hc)
            rw [flC_plain hcp]
            exact CLe.refl _ _
        · rw [if_pos ⟨hr, e⟩]
          by_cases hfree : getP G2 x = .free
          · rw [HF_free.2 hfree]; exact .free _
          · obtain ⟨b1, b2⟩ := hrow x hr e hfree
            obtain ⟨d1, d2, _⟩ := mvN_below (p := p) (t := t0) (s := s) hr e
            have hmr := mvN_root (p := p) (t := t0) (s := s) hr e
            rw [upd_other _ _ (fun hh => by rw [hh] at hmr; exact hrp hmr.symm), upd_other _ _ d2]
            unfold HF
            rw [b1]
            have hkk : ∀ i f c v, elemN (getP G (mvN nb p t0 s x)) i = some c → c[f]? = some v → v.plain = false → ρ (.sub x (getP G (mvN nb p t0 s x)).tag i f) = ρ (.sub (mvN nb p t0 s x) (getP G (mvN nb p t0 s x)).tag i f) := fun i f c v hc hv hpv => by
              have hk : getP G2 (.sub x (getP G (mvN nb p t0 s x)).tag i f) ≠ .free := by
                rw [getP, b1]
                unfold kid
                rw [if_pos rfl, hc]
                simp only [kidC, hv]
                cases v <;> simp only [AV.plain, Bool.true_eq_false] at hpv <;> simp only [kidV] <;> split <;> simp
              have := moved _ (by exact hr) (by simp) hk
              rw [this]
              simp only [mvN, if_neg e]
            cases hob : getP G (mvN nb p t0 s x) with
            | free => exact .free _
            | cells t c =>
              rw [hob] at hkk
              exact .cells (flC_cle (fun v _ _ u hu => hu) fun f v hv hpv => hkk 0 f c v (by simp [elemN]) hv hpv)
            | arr t z l =>
              rw [hob] at hkk
              refine .arr fun i hi => flC_cle (fun v _ _ u hu => hu) fun f v hv hpv => ?_
              rw [List.getD_eq_getElem?_getD, List.getElem?_eq_getElem hi, Option.getD_some] at hv
              exact hkk i f _ v (by simp [elemN, hi]) hv hpv
            | view t z l =>
              rw [hob] at hkk
              refine .view fun i hi => flC_cle (fun v _ _ u hu => hu) fun f v hv hpv => ?_
              rw [List.getD_eq_getElem?_getD, List.getElem?_eq_getElem hi, Option.getD_some] at hv
              exact hkk i f _ v (by simp [elemN, hi]) hv hpv
      · rw [if_neg (fun hh => hr hh.1), upd_other _ _ (fun e => hr (by rw [e]; rfl))]
        have : HF G2 x = HF G1 x := by unfold HF; rw [hoth x hr]
        rw [this]
        rcases hwr x with e | e
        · rw [e]
          cases upd (HF G) p .free x with
          | free => exact .free _
          | cells c => exact .cells (CLe.refl _ _)
          | arr sz n f => exact .arr fun _ _ => CLe.refl _ _
          | view sz n f => exact .view fun _ _ => CLe.refl _ _
        · rw [e]; exact .free _
    · by_cases hr : x.root = nb ∧ x ≠ .top nb
      · rw [if_pos hr]; exact moved x hr.1 hr.2 fun e => hx (HF_free.2 e)
      · rw [if_neg hr]
    · have hx' : getP G2 x ≠ .free := fun e => hx (HF_free.2 e)
      have hy' : getP G2 y ≠ .free := fun e => hy (HF_free.2 e)
      have mixed : ∀ x y : Nm, getP G2 x ≠ .free → getP G2 y ≠ .free → (x.root = nb ∧ x ≠ .top nb) → ¬ (y.root = nb ∧ y ≠ .top nb) → mvN nb p t0 s x ≠ y := fun x y hx hy hc hc' e => by
        obtain ⟨d1, d2, _⟩ := mvN_below (p := p) (t := t0) (s := s) hc.1 hc.2
        have hmr := mvN_root (p := p) (t := t0) (s := s) hc.1 hc.2
        rw [e] at d1 hmr
        have hyr : y.root ≠ nb := by rw [hmr]; exact hrp
        rw [hoth y hyr] at hy
        exact hy (below_free a1 d1)
      by_cases hc : x.root = nb ∧ x ≠ .top nb
      · by_cases hc' : y.root = nb ∧ y ≠ .top nb
        · rw [if_pos hc, if_pos hc'] at e
          exact mvN_inj hc.1 hc'.1 hc.2 hc'.2 (hrow x hc.1 hc.2 hx').2 (hrow y hc'.1 hc'.2 hy').2 e
        · rw [if_pos hc, if_neg hc'] at e
          exact absurd e (mixed x y hx' hy' hc hc')
      · by_cases hc' : y.root = nb ∧ y ≠ .top nb
        · rw [if_neg hc, if_pos hc'] at e
          exact absurd e.symm (mixed y x hy' hx' hc' hc)
        · rw [if_neg hc, if_neg hc'] at e; exact e
  · have hne' : getP G2 x ≠ .free := by rw [← hG2]; exact hne
    by_cases hr : x.root = nb
    · exact absurd (hF0 x (hmx x hr hne')) hx
    · rw [hoth x hr] at hne'
      exact hnw1 x hne'
end
end Go.W
