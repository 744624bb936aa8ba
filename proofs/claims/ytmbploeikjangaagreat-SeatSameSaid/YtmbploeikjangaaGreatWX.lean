/- A call keeps what its body's walk says. -/
import Derived.Test.YtmbploeikjangaaGreatWW
set_option linter.unusedSimpArgs false
set_option linter.unusedVariables false
namespace Go.W

/-- The callee's name, by the caller. -/
def bkN (nb m : Nat) (ml : ML) : Nm → Nm
  | .top x => if m ≤ x then .top (nb + (x - m)) else (match ml[x]? with
    | some (some (p, _)) => p
    | _ => .top x)
  | x => x

mutual
/-- A callee's value, by the caller's names. -/
def backV (f : Nm → Nm) : AV → AV
  | .sl x i n => .sl (f x) i n
  | .ptr x i g => .ptr (f x) i g
  | .fn g c => .fn g (backL f c)
  | .iface t a => .iface t (backV f a)
  | .agg l => .agg (backL f l)
  | .tup l => .tup (backL f l)
  | v => v
def backL (f : Nm → Nm) : List AV → List AV
  | [] => []
  | a :: as => backV f a :: backL f as
end

mutual
/-- Does a value name only objects of which this holds? -/
def namesOk (p : Nm → Bool) : AV → Bool
  | .sl x _ _ => p x
  | .ptr x _ _ => p x
  | .fn _ c => namesOkL p c
  | .iface _ a => namesOk p a
  | .agg l => namesOkL p l
  | .tup l => namesOkL p l
  | _ => true
def namesOkL (p : Nm → Bool) : List AV → Bool
  | [] => true
  | a :: as => namesOk p a && namesOkL p as
end

mutual
theorem backV_rep {p : Nm → Bool} {f : Nm → Nm} {ρ ρ' : Env} (hb : ∀ x, p x = true → ρ' (f x) = ρ x) : ∀ {a : AV} {v : Value}, namesOk p a = true → Rep ρ a v → Rep ρ' (backV f a) v := fun {a} {v} h hr => by
  cases a with
  | sl x i n => simp only [backV, Rep] at hr ⊢; rw [hb x h]; exact hr
  | ptr x i n => simp only [backV, Rep] at hr ⊢; rw [hb x h]; exact hr
  | fn g c =>
    simp only [namesOk] at h
    simp only [backV, Rep] at hr ⊢
    obtain ⟨cs, h1, h2⟩ := hr
    exact ⟨cs, h1, backL_rep hb h h2⟩
  | iface t a =>
    simp only [namesOk] at h
    simp only [backV, Rep] at hr ⊢
    obtain ⟨x, h1, h2⟩ := hr
    exact ⟨x, h1, backV_rep hb h h2⟩
  | agg l =>
    simp only [namesOk] at h
    simp only [backV, Rep] at hr ⊢
    obtain ⟨cs, h1, h2⟩ := hr
    exact ⟨cs, h1, backL_rep hb h h2⟩
  | tup l =>
    simp only [namesOk] at h
    simp only [backV, Rep] at hr ⊢
    obtain ⟨cs, h1, h2⟩ := hr
    exact ⟨cs, h1, backL_rep hb h h2⟩
  | _ => simp only [backV, Rep] at hr ⊢ <;> exact hr
theorem backL_rep {p : Nm → Bool} {f : Nm → Nm} {ρ ρ' : Env} (hb : ∀ x, p x = true → ρ' (f x) = ρ x) : ∀ {as : List AV} {vs : List Value}, namesOkL p as = true → RepL ρ as vs → RepL ρ' (backL f as) vs := fun {as} {vs} h hr => by
  cases as with
  | nil => exact hr
  | cons a as =>
    simp only [namesOkL, Bool.and_eq_true] at h
    simp only [backL, RepL] at hr ⊢
    obtain ⟨v, r, h1, h2, h3⟩ := hr
    exact ⟨v, r, h1, backV_rep hb h.1 h2, backL_rep hb h.2 h3⟩
end

/-- A name that a result may bear: of a new object, or of an owned one that came. -/
def mayN (objs : List NObj) (n : Nat) : Nm → Bool
  | .top x => if objs.length ≤ x then decide (x < objs.length + n) else (match objs[x]? with
    | some (.cells _ _) => true
    | _ => false)
  | _ => false

/-- Cells of one content, under two owners, by two environments. -/
theorem cl_ole {ρ ρ' : Env} {x z : Nm} {o : NObj} (t : Nat) (hcl : o.clO = true) (hk : ∀ j f, kid o o.tag j f ≠ .free → ρ' (.sub x t j f) = ρ (.sub z o.tag j f)) : OLe ρ ρ' (flO z o) (flO x (o.retag t)) := by
  have cell : ∀ i c, elemN o i = some c → CLe ρ ρ' (flC z o.tag i c) (flC x t i c) := fun i c hc => flC_cle (fun v hv hp u hu => by
      obtain ⟨k, hk'⟩ := List.getElem?_of_mem hv
      exact cl_rep (clL_get (clO_elem hcl hc) hk') hp hu) (fun f v hv hp => hk i f (by
      unfold kid
      rw [if_pos rfl, hc]
      simp only [kidC, hv]
      cases v <;> simp only [AV.plain, Bool.true_eq_false] at hp <;> simp only [kidV] <;> split <;> simp))
  cases o with
  | free => exact .free _
  | cells t c => exact .cells (cell 0 c (by simp [elemN]))
  | arr t z l =>
    refine .arr fun i hi => ?_
    rw [List.getD_eq_getElem?_getD, List.getElem?_eq_getElem hi, Option.getD_some]
    exact cell i _ (by simp [elemN, hi])
  | view t z l =>
    refine .view fun i hi => ?_
    rw [List.getD_eq_getElem?_getD, List.getElem?_eq_getElem hi, Option.getD_some]
    exact cell i _ (by simp [elemN, hi])

section
variable {P : Program}

set_option maxHeartbeats 2000000 in
/-- A CALL DOES WHAT ITS BODY's WALK SAYS. -/
theorem nest_calls {f : FuncId} {fn : Func} {c : Code} {mc : MCode} {res : List RV} (hf : P.funcs[f]? = some fn) (hb : fn.body = some c) (hrc : rC P c = some mc) (hres : rRVs P fn.results.toList = some res)
    {largs : List AV} {objs outs news : List NObj} {lres : AV} (harg : largs.length ≤ fn.ntmps) (hend : Ends objs outs news) (hnms : namesOk (mayN objs news.length) lres = true)
    (hw : ∀ (w0 : World) (S : Sc), S.m = objs.length → Wm P w0 S fn.ntmps [] mc ⟨argL 0 largs, idxO 0 objs, objs.length⟩ (retK res fun v s => Imp objs.length ⟨[(0, v)], s.hl, s.nb⟩ ⟨[(0, lres)], idxO 0 (outs ++ news), objs.length + news.length⟩))
    {w0 : World} {S : Sc} {Es : Env → Prop} {U : Nm → Prop} {G : NH} {w : World} {avs : List AV} {vs : List Value} {nb : Nat} {ml : ML} (hne : ∃ ρ, Es ρ) (hfr : ∀ x, U x → HF G x = .free) (hpin : ∀ ρ ρ', Es ρ → Es ρ' → ∀ x, HF G x ≠ .free → ρ x = ρ' x)
    (hp : ∀ ρ, Es ρ → HCore w0 S ρ (HF G) w) (hrep : ∀ ρ, Es ρ → RepL ρ avs vs) (hF : ∀ x : Nm, nb ≤ x.mx ∧ x.mx < nb + 8 → U x) (hargs : ArgSL ml largs avs) (hc : Cames G ml objs) (hap : Apart ml objs) (hnm : Names ml nb) :
    (Calls P f vs.toArray w fun e w' => ∃ (v : Value) (g : Env), e = .returned v ∧ ∀ ρ, Es ρ → (∀ x : Nm, nb ≤ x.mx ∧ x.mx < nb + 8 → ρ x = g x) → Rep ρ (backV (bkN nb objs.length ml) lres) v ∧ HCore w0 S ρ (HF (updL G (afterL G nb ml objs outs news))) w') ∧
    ∀ x : Nm, ¬ (nb ≤ x.mx ∧ x.mx < nb + 8) → getP (updL G (afterL G nb ml objs outs news)) x ≠ .free → getP G x ≠ .free := by
  obtain ⟨ρ0, h0⟩ := hne
  have hlen : ml.length = objs.length := hc.1
  have hnew : ∀ k, nb ≤ k → k < nb + 8 → G k = .free := fun k h1 h2 => HF_free.1 (hfr (.top k) (hF _ ⟨h1, h2⟩))
  generalize hG' : updL G (afterL G nb ml objs outs news) = G'
  generalize hGf : hk (idxO 0 (outs ++ news)) = Gf
  have after := after_get (G := G) (G' := G') (Gf := Gf) (nb := nb) (m := objs.length) (ml := ml) (objs := objs) (outs := outs) (news := news) hc hap hnm hend hnew hG'.symm hGf.symm rfl
  have far := fun {x : Nm} => after_far (G := G) (G' := G') (nb := nb) (ml := ml) (objs := objs) (outs := outs) (news := news) hc hap hnm hend hnew hG'.symm (x := x)
  let aff : Nm → Prop := fun x => (nb ≤ x.root ∧ x.root < nb + 8) ∨ ∃ (k i : Nat) (p : Nm) (o : NObj), ml[k]? = some (some (p, i)) ∧ objs[k]? = some o ∧ o.own = true ∧ pre p x
  have unaff : ∀ {x : Nm}, ¬ aff x → HF G' x = HF G x := fun {x} hx => far (fun h => hx (.inl h)) fun k i p o h1 h2 h3 h4 => hx (.inr ⟨k, i, p, o, h1, h2, h3, h4⟩)
  have cameO : ∀ {k i : Nat} {p : Nm} {o : NObj}, ml[k]? = some (some (p, i)) → objs[k]? = some o → o.own = true → getP G p ≠ .free ∧ i = 0 := fun {k i p o} h1 h2 h3 => by
    have hs := hc.2 k _ o h1 h2
    simp only at hs
    cases hs with
    | own h _ => exact ⟨own_ne h, rfl⟩
    | row h _ _ => cases h3
    | one h _ => cases h3
  -- the callee's walk
  have hroot : ∀ x : Nm, getP (hk (idxO 0 objs)) x ≠ .free → x.mx < objs.length := fun x hx => by
    obtain ⟨h1, h2, _⟩ := psi_get hc x hx
    omega
  let El : Env → Prop := fun ρl => ∀ x, (getP (hk (idxO 0 objs)) x ≠ .free ∨ ∃ k, k < objs.length ∧ x = .top k) → ρl x = lenv ρ0 ml G x
  have hcalls := calls_of_Wm (P := P) (w0 := w) (S := locSc ρ0 G ml objs) (avs := largs) (vs := vs) (hl := idxO 0 objs) (nb := objs.length) (Es := El) (w := w) hf hb hrc hres ⟨lenv ρ0 ml G, fun _ _ => rfl⟩ (fun ρ ρ' hρ he x hx => by
      rw [he x (by
        rcases hx with hx | ⟨k, hk, rfl⟩
        · have := hroot x hx; omega
        · simp only [Nm.mx]; omega)]
      exact hρ x hx) (fun x hx => by
      by_cases e : getP (hk (idxO 0 objs)) x = .free
      · exact HF_free.2 e
      · have := hroot x e; omega) (fun ρ ρ' h1 h2 x hx => by
      have hx' : getP (hk (idxO 0 objs)) x ≠ .free := fun e => hx (HF_free.2 e)
      rw [h1 x (.inl hx'), h2 x (.inl hx')]) (fun ρ hρ => loc_hcore (hp ρ0 h0) hc hap hρ) (fun ρ hρ => hargs.rep (ρ := ρ0) (fun k hk => by rw [hρ _ (.inr ⟨k, by omega, rfl⟩)]; rfl) (hrep ρ0 h0)) harg (hw w (locSc ρ0 G ml objs) rfl)
  have came_c : ∀ {ρf : Env} {H : Nm → AObj} {w' : World}, HCore w (locSc ρ0 G ml objs) ρf H w' → ∀ {k i : Nat} {p : Nm} {o : NObj}, ml[k]? = some (some (p, i)) → objs[k]? = some o → o.own = true → ρf (.top k) = ρ0 p := fun {ρf H w'} hcf {k i p o} h1 h2 h3 => by
    have := hcf.an k (by show k < objs.length; exact (List.getElem?_eq_some_iff.1 h2).1)
    rw [this]
    show locE ρ0 ml k = _
    rw [locE, h1, (cameO h1 h2 h3).2]
    exact shiftL_zero _
  refine ⟨hcalls.mono fun e w' ⟨v, av, s', he, hK, a', ha', hsat⟩ => ?_, fun x hx hg => ?_⟩
  · have hfin := hK _ _ _ _ _ _ rfl hsat
    obtain ⟨Ef, hs⟩ := hfin.sat
    obtain ⟨ρf, hρf⟩ := hs.ne
    have hcf := hs.hp ρf hρf
    have hGf' : HF (hk (idxO 0 (outs ++ news))) = HF Gf := by rw [hGf]
    rw [show (⟨[(0, lres)], idxO 0 (outs ++ news), objs.length + news.length⟩ : St).hl = idxO 0 (outs ++ news) from rfl, hGf'] at hcf
    have hres' : ∃ u, a'.tmps[0]? = some u ∧ Rep ρf lres u ∨ lres = .bot := by
      by_cases hb : lres = .bot
      · exact ⟨.nilIface, .inr hb⟩
      · obtain ⟨u, h1, h2⟩ := hs.tm ρf hρf 0 (by simpa [lk] using hb)
        exact ⟨u, .inl ⟨h1, by simpa [lk] using h2⟩⟩
    have hvrep : Rep ρf lres v := by
      obtain ⟨u, h⟩ := hres'
      rcases h with ⟨h1, h2⟩ | h
      · rw [ha'] at h1
        simp at h1
        subst h1; exact h2
      · rw [h]; simp [Rep]
    classical
    refine ⟨v, fun x => if h : ∃ z, Back G' Gf nb objs.length ml objs x z then ρf h.choose else ρ0 x, he, fun ρ hρ hg => ?_⟩
    have hgz : ∀ {x z : Nm}, nb ≤ x.mx ∧ x.mx < nb + 8 → Back G' Gf nb objs.length ml objs x z → ρ x = ρf z := fun {x z} hx hz => by
      rw [hg x hx]
      have hex : ∃ z, Back G' Gf nb objs.length ml objs x z := ⟨z, hz⟩
      simp only [dif_pos hex]
      rw [back_fun hap hnm hex.choose_spec hz]
    have hcame : ∀ {k i : Nat} {p : Nm} {o : NObj}, ml[k]? = some (some (p, i)) → objs[k]? = some o → o.own = true → ρ p = ρf (.top k) := fun {k i p o} h1 h2 h3 => by
      rw [came_c hcf h1 h2 h3]
      exact hpin ρ ρ0 hρ h0 p fun e => (cameO h1 h2 h3).1 (HF_free.1 e)
    have hbk : ∀ {x z : Nm}, getP G' x ≠ .free → aff x → Back G' Gf nb objs.length ml objs x z → ρ x = ρf z := fun {x z} hx ha hz => by
      obtain ⟨z', b1, b2, b3, b4, b5⟩ := after x hx ha
      have := back_fun hap hnm b1 hz
      subst this
      rcases b4 with ⟨c1, c2, _⟩ | ⟨k, i, o, g1, g2, g3, g4⟩
      · exact hgz ⟨c2, c1⟩ b1
      · rw [g4]; exact hcame g1 g2 g3
    have affsub : ∀ {x : Nm} {t j f : Nat}, aff x → aff (.sub x t j f) := fun {x t j f} h => by
      rcases h with h | ⟨k, i, p, o, h1, h2, h3, h4⟩
      · exact .inl h
      · exact .inr ⟨k, i, p, o, h1, h2, h3, .inr h4⟩
    have cρ := hp ρ hρ
    -- objects that were written
    have wrote : ∀ {x : Nm}, getP G' x ≠ .free → aff x → ∃ z, Back G' Gf nb objs.length ml objs x z ∧ ρ x = ρf z ∧ OLe ρf ρ (HF Gf z) (HF G' x) ∧ (getP Gf z).own = true := fun {x} hx ha => by
      obtain ⟨z, b1, ⟨t, b2⟩, b3, b4, b5⟩ := after x hx ha
      refine ⟨z, b1, hbk hx ha b1, ?_, b5⟩
      have e1 : HF G' x = flO x ((getP Gf z).retag t) := by unfold HF; rw [b2]
      have e2 : HF Gf z = flO z (getP Gf z) := rfl
      rw [e1, e2]
      have hzne := own_ne b5
      have htag : (getP G' x).tag = t := by rw [b2, retag_tag t hzne]
      refine cl_ole t b3 fun j f hk => ?_
      have hkn : getP G' (.sub x t j f) ≠ .free := by rw [getP, b2, retag_kid t hzne]; exact hk
      have := Back.sub j f b1
      rw [htag] at this
      exact hbk hkn (affsub ha) this
    -- blocks of the callee's own objects
    have ownB : ∀ {b : Nat}, (locSc ρ0 G ml objs).own b → ∃ y, aff y ∧ Owned (ρ0 y) (HF G y) ∧ b = (ρ0 y).blk := fun {b} ⟨z, z1, z2, z3⟩ => by
      rcases (psi_get hc z z1).2.2 with ⟨y, g1, g2, g3⟩ | ⟨k, sz, rfl, g1, g2⟩
      · have hl := lenv_psi (ρ0 := ρ0) g1
        have hown : (getP (hk (idxO 0 objs)) z).own = true := by
          have e : HF (hk (idxO 0 objs)) z = flO z (getP (hk (idxO 0 objs)) z) := rfl
          rw [e] at z2
          cases hgz : getP (hk (idxO 0 objs)) z <;> rw [hgz] at z2 <;> first | rfl | exact z2.elim
        obtain ⟨p, i, a1, a2, a3⟩ := psi_pre hc g1
        have hro := seen_own_root hc hown
        obtain ⟨_, o, c1, c2, c3, c4⟩ := came_root hc (own_ne hro)
        rw [c3] at hro
        refine ⟨y, .inr ⟨_, i, p, o, a1, c2, hro, a2⟩, ?_, by rw [z3, hl]; rfl⟩
        have := seen_ok (ρ := ρ0) (ρl := lenv ρ0 ml G) (x := z) (y := y) (w := w) g2 ((hp ρ0 h0).obj y) hl (fun j f hk => by
          rw [lenv_psi (by rw [psi_sub, g1]; rfl)]
          simp only [shOf, shiftL_zero])
        exact this.2.1 z2
      · have e : lenv ρ0 ml G (.top k) = nilLoc := by simp [lenv, locE, g1]
        have e2 : HF (hk (idxO 0 objs)) (.top k) = flO (.top k) (getP (hk (idxO 0 objs)) (.top k)) := rfl
        rw [e, e2] at z2
        rcases g2 with g2 | g2 <;> rw [g2] at z2 <;> cases z2
    have pinO : ∀ {y : Nm}, Owned (ρ0 y) (HF G y) → ρ y = ρ0 y ∧ HF G y ≠ .free := fun {y} hy => by
      have hne : HF G y ≠ .free := fun e => by rw [e] at hy; exact hy
      exact ⟨hpin ρ ρ0 hρ h0 y hne, hne⟩
    have ownB' : ∀ {b : Nat}, (locSc ρ0 G ml objs).own b → ∃ y, aff y ∧ Owned (ρ y) (HF G y) ∧ b = (ρ y).blk := fun {b} hb => by
      obtain ⟨y, h1, h2, h3⟩ := ownB hb
      have := (pinO h2).1
      exact ⟨y, h1, by rw [this]; exact h2, by rw [this]; exact h3⟩
    have still : ∀ {x : Nm}, ¬ aff x → (Owned (ρ x) (HF G x) ∨ Viewed (ρ x) (HF G x)) → ¬ (locSc ρ0 G ml objs).own (ρ x).blk ∧ (ρ x).blk < w.heap.size := fun {x} hx ho => by
      refine ⟨fun hb => ?_, ?_⟩
      · obtain ⟨y, h1, h2, h3⟩ := ownB' hb
        rcases ho with ho | ho
        · have := cρ.dist x y ho h2 h3
          subst this
          exact hx h1
        · have a1 := cρ.vw x ho
          have a2 := (cρ.own y h2).2
          rw [h3] at a1
          rcases a2 with a2 | a2
          · omega
          · exact a1.2 a2
      · rcases ho with ho | ho
        · exact (cρ.own x ho).1
        · have := (cρ.vw x ho).1; have := cρ.size; omega
    have blkW : ∀ {z : Nm}, Owned (ρf z) (HF Gf z) → (ρf z).blk < w'.heap.size ∧ (w0.heap.size ≤ (ρf z).blk ∨ S.own (ρf z).blk) := fun {z} hz => by
      obtain ⟨h1, h2⟩ := hcf.own z hz
      refine ⟨h1, ?_⟩
      rcases h2 with h2 | h2
      · have := cρ.size; exact .inl (by omega)
      · obtain ⟨y, _, h3, h4⟩ := ownB' h2
        rw [h4]; exact (cρ.own y h3).2
    have nf : ∀ {x : Nm} {L : Loc}, Owned L (HF G' x) → getP G' x ≠ .free := fun ho e => by rw [HF_free.2 e] at ho; exact ho
    have nfv : ∀ {x : Nm} {L : Loc}, Viewed L (HF G' x) → getP G' x ≠ .free := fun ho e => by rw [HF_free.2 e] at ho; exact ho
    refine ⟨backV_rep (p := mayN objs news.length) (f := bkN nb objs.length ml) (ρ := ρf) (fun x hx => ?_) hnms hvrep, ?_⟩
    · cases x with
      | sub p t j f => cases hx
      | top n =>
        simp only [mayN] at hx
        simp only [bkN]
        split at hx
        · rename_i hle
          have hlt := of_decide_eq_true hx
          rw [if_pos hle]
          have hb := Back.new (G' := G') (Gf := Gf) (nb := nb) (m := objs.length) (ml := ml) (objs := objs) (n - objs.length)
          rw [show objs.length + (n - objs.length) = n by omega] at hb
          have := hend.few
          exact hgz (by simp only [Nm.mx]; omega) hb
        · rename_i hle
          rw [if_neg hle]
          have hnl : n < objs.length := by omega
          obtain ⟨t, cc, ho⟩ : ∃ t cc, objs[n]? = some (.cells t cc) := by
            cases ho : objs[n]? with
            | none => rw [ho] at hx; cases hx
            | some o => cases o <;> rw [ho] at hx <;> first | exact ⟨_, _, rfl⟩ | cases hx
          have hm : ml[n]? = some ml[n] := List.getElem?_eq_getElem (by omega)
          cases hmn : ml[n] with
          | none =>
            exfalso
            have := hc.2 n _ _ hm ho
            rw [hmn] at this
            obtain ⟨sz, h | h⟩ := this <;> cases h
          | some q =>
            obtain ⟨p, i⟩ := q
            rw [hmn] at hm
            rw [hm]
            exact hcame hm ho rfl
    · refine ⟨hcf.os.trans cρ.os, hcf.tape.trans cρ.tape, hcf.output.trans cρ.output, Nat.le_trans cρ.size hcf.size, fun b h1 h2 => ?_, fun x => ?_, fun x hx => ?_, fun x x' hx hx' e => ?_, fun x hx => ?_, cρ.an⟩
      · rw [hcf.frame b (by have := cρ.size; omega) fun hb => ?_]
        · exact cρ.frame b h1 h2
        · obtain ⟨y, _, h3, h4⟩ := ownB' hb
          have := (cρ.own y h3).2
          rw [← h4] at this
          rcases this with h | h
          · omega
          · exact h2 h
      · by_cases hfx : getP G' x = .free
        · rw [HF_free.2 hfx]; trivial
        · by_cases ha : aff x
          · obtain ⟨z, b1, b2, b3, b4⟩ := wrote hfx ha
            rw [b2]
            exact b3.ok (hcf.obj z)
          · rw [unaff ha]
            by_cases ho : Owned (ρ x) (HF G x)
            · have := still ha (.inl ho)
              exact (cρ.obj x).same (hcf.frame _ this.2 this.1)
            · by_cases hv : Viewed (ρ x) (HF G x)
              · have := still ha (.inr hv)
                exact (cρ.obj x).same (hcf.frame _ this.2 this.1)
              · exact (cρ.obj x).nil_same ho hv
      · by_cases ha : aff x
        · obtain ⟨z, b1, b2, b3, b4⟩ := wrote (nf hx) ha
          rw [b2] at hx ⊢
          exact blkW (b3.own hx)
        · rw [unaff ha] at hx
          have := cρ.own x hx
          have := hcf.size
          exact ⟨by omega, (cρ.own x hx).2⟩
      · have mixed : ∀ {x x' : Nm}, Owned (ρ x) (HF G' x) → Owned (ρ x') (HF G' x') → aff x → ¬ aff x' → (ρ x).blk = (ρ x').blk → False := fun {x x'} hx hx' ha ha' e => by
          obtain ⟨z, b1, b2, b3, b4⟩ := wrote (nf hx) ha
          rw [unaff ha'] at hx'
          have h1 := still ha' (.inl hx')
          rw [b2] at hx e
          have h2 := (hcf.own z (b3.own hx)).2
          rw [e] at h2
          rcases h2 with h2 | h2
          · omega
          · exact h1.1 h2
        by_cases ha : aff x
        · by_cases ha' : aff x'
          · obtain ⟨z, b1, b2, b3, b4⟩ := wrote (nf hx) ha
            obtain ⟨z', b1', b2', b3', b4'⟩ := wrote (nf hx') ha'
            rw [b2] at hx e
            rw [b2'] at hx' e
            have := hcf.dist z z' (b3.own hx) (b3'.own hx') e
            subst this
            exact back_inj hlen b1 b1'
          · exact (mixed hx hx' ha ha' e).elim
        · by_cases ha' : aff x'
          · exact (mixed hx' hx ha' ha e.symm).elim
          · rw [unaff ha] at hx
            rw [unaff ha'] at hx'
            exact cρ.dist x x' hx hx' e
      · by_cases ha : aff x
        · exfalso
          obtain ⟨z, b1, b2, b3, b4⟩ := wrote (nfv hx) ha
          have h1 := b3.viewed hx
          have e : HF Gf z = flO z (getP Gf z) := rfl
          rw [e] at h1
          cases hgz : getP Gf z <;> rw [hgz] at h1 b4 <;> simp_all [NObj.own, flO, Viewed]
        · rw [unaff ha] at hx
          exact cρ.vw x hx
  · by_cases ha : aff x
    · obtain ⟨z, b1, b2, b3, b4, b5⟩ := after x hg ha
      rcases b4 with ⟨c1, c2, _⟩ | ⟨k, i, o, g1, g2, g3, g4⟩
      · exact absurd ⟨c2, c1⟩ hx
      · exact (cameO g1 g2 g3).1
    · intro e
      exact hg (HF_free.1 (by rw [unaff ha]; exact HF_free.2 e))

end
end Go.W
