/- A call: the callee's world, and back. -/
import Derived.Test.YtmbploeikjangaaGreatWU
set_option linter.unusedSimpArgs false
set_option linter.unusedVariables false
namespace Go.W

theorem t0_cle {ρ ρl : Env} {x y : Nm} {t j j' : Nat} {c : List AV} (hcl : clL (t0L c) = true) (hk : ∀ (f : Nat) (v : AV), (t0L c)[f]? = some v → v.plain = false → ρl (.sub x 0 j f) = ρ (.sub y t j' f)) : CLe ρ ρl (flC y t j' c) (flC x 0 j (t0L c)) := by
  refine ⟨by simp [t0L_length], fun k v' hv => ?_⟩
  rw [flC_get, t0L_get] at hv
  rw [flC_get]
  cases hc : c[k]? with
  | none => rw [hc] at hv; cases hv
  | some u =>
    rw [hc] at hv
    simp only [Option.map_some, Option.some.injEq] at hv
    subst hv
    refine ⟨_, rfl, fun z hz => ?_⟩
    have hg : (t0L c)[k]? = some u.t0 := by rw [t0L_get, hc]; rfl
    have hucl := clL_get hcl hg
    cases hp : u.plain with
    | true =>
      rw [flV_plain hp] at hz
      rw [t0_plain hp] at hucl ⊢
      rw [flV_plain hp]
      exact cl_rep hucl hp hz
    | false =>
      have := hk k u.t0 hg (by rw [plain_t0]; exact hp)
      cases u <;> simp only [AV.plain, Bool.true_eq_false] at hp
      · simp only [AV.t0, flV, Rep, t0LL_length] at hz ⊢; rw [this]; exact hz
      · simp only [AV.t0, flV, Rep] at hz ⊢; rw [this]; exact hz

theorem Reg.shift {ρ ρl : Env} {L : Loc} {sz n n' i : Nat} {f f' : Nat → List AV} {w : World} (h : Reg ρ L sz n' f' w) (hn : i + n ≤ n') (hc : ∀ j, j < n → CLe ρ ρl (f' (i + j)) (f j)) : Reg ρl (shiftL L i) sz n f w where
  nn := h.nn
  esz := h.esz
  cap := by have := h.cap; simp only [shiftL]; omega
  len j hj := by rw [← (hc j hj).1]; exact h.len _ (by omega)
  cell j hj k v hv := by
    obtain ⟨u, h1, h2⟩ := (hc j hj).2 k v hv
    obtain ⟨x, h3, h4, h5⟩ := h.cell (i + j) (by omega) k u h1
    refine ⟨x, ?_, h2 x h4, h5⟩
    rw [← h3]
    simp only [shiftL, h.esz]
    congr 2
    rw [Nat.add_mul]; omega

/-- What the callee has is as it is told. -/
theorem seen_ok {ρ ρl : Env} {x y : Nm} {i : Nat} {og o : NObj} {w : World} (hs : Seen i og o) (hok : ObjOk ρ (ρ y) (flO y og) w) (hx : ρl x = shiftL (ρ y) i) (hk : ∀ j f, kid o 0 j f ≠ .free → ρl (.sub x 0 j f) = ρ (.sub y og.tag (i + j) f)) :
    ObjOk ρl (ρl x) (flO x o) w ∧ (Owned (ρl x) (flO x o) → Owned (ρ y) (flO y og)) ∧ (Viewed (ρl x) (flO x o) → Owned (ρ y) (flO y og) ∨ Viewed (ρ y) (flO y og)) := by
  have hcl := hs.cl
  have htag := hs.tag
  have cell : ∀ j c c', elemN o j = some c → elemN og (i + j) = some c' → c = t0L c' → CLe ρ ρl (flC y og.tag (i + j) c') (flC x 0 j c) := fun j c c' h1 h2 e => by
    subst e
    refine t0_cle (clO_elem hcl h1) fun f v hv hp => hk j f ?_
    unfold kid
    rw [if_pos htag, h1]
    simp only [kidC, hv]
    cases v <;> simp only [AV.plain, Bool.true_eq_false] at hp <;> simp only [kidV] <;> split <;> simp
  rw [hx]
  cases hs with
  | own h hc =>
    rw [shiftL_zero]
    have ole : OLe ρ ρl (flO y og) (flO x og.t0) := by
      cases og with
      | free => cases h
      | view t sz els => cases h
      | cells t c => exact .cells (cell 0 (t0L c) c (by simp [elemN, NObj.t0]) (by simp [elemN]) rfl)
      | arr t sz els =>
        simp only [NObj.t0, flO, t0LL_length]
        refine .arr fun j hj => ?_
        have e1 : (t0LL els)[j]? = some (t0L els[j]) := by rw [t0LL_get, List.getElem?_eq_getElem hj]; rfl
        rw [List.getD_eq_getElem?_getD, List.getD_eq_getElem?_getD, List.getElem?_eq_getElem hj, e1, Option.getD_some, Option.getD_some]
        have := cell j (t0L els[j]) els[j] (by simp only [NObj.t0, elemN]; exact e1) (by simp [elemN, hj]) rfl
        rw [Nat.zero_add] at this
        exact this
    exact ⟨ole.ok hok, fun h => ole.own h, fun h => .inr (ole.viewed h)⟩
  | @row _ t sz n els _ h hn hc =>
    have len : (t0LL ((els.drop i).take n)).length = n := by rw [t0LL_length, List.length_take, List.length_drop]; omega
    have reg : Reg ρ (ρ y) sz els.length (fun j => flC y t j (els.getD j [])) w → Reg ρl (shiftL (ρ y) i) sz n (fun j => flC x 0 j ((t0LL ((els.drop i).take n)).getD j [])) w := fun hr => by
      refine hr.shift hn fun j hj => ?_
      have e0 : els[i + j]? = some els[i + j] := List.getElem?_eq_getElem (by omega)
      have e1 : (t0LL ((els.drop i).take n))[j]? = some (t0L els[i + j]) := by rw [t0LL_get, List.getElem?_take, if_pos hj, List.getElem?_drop, e0]; rfl
      rw [List.getD_eq_getElem?_getD, List.getD_eq_getElem?_getD, e0, e1, Option.getD_some, Option.getD_some]
      have := cell j (t0L els[i + j]) els[i + j] (by simp only [elemN]; exact e1) (by rcases h with rfl | rfl <;> simp only [elemN] <;> exact e0) rfl
      rcases h with rfl | rfl <;> exact this
    rcases h with rfl | rfl
    · simp only [flO, len] at hok ⊢
      refine ⟨?_, fun h => h.elim, fun h => .inl h⟩
      rcases hok with ⟨h1, h2⟩ | ⟨h1, _⟩
      · exact .inl ⟨h1, by omega⟩
      · exact .inr (reg h1)
    · simp only [flO, len] at hok ⊢
      refine ⟨?_, fun h => h.elim, fun h => .inr h⟩
      rcases hok with ⟨h1, h2⟩ | h1
      · exact .inl ⟨h1, by omega⟩
      · exact .inr (reg h1)
  | @one t z c _ h hc =>
    rw [shiftL_zero]
    have hcell : ∀ tg, og.tag = tg → CLe ρ ρl (flC y tg 0 c) (flC x 0 0 (t0L c)) := fun tg e => by
      have := cell 0 (t0L c) c (by simp [elemN]) (by rcases h with rfl | rfl <;> simp [elemN]) rfl
      rw [e] at this
      exact this
    rcases h with rfl | rfl
    · simp only [flO, List.length_singleton] at hok ⊢
      refine ⟨.inr ?_, fun h => h.elim, fun h => .inl trivial⟩
      have h1 := hok.1
      rw [flC_length] at h1
      refine h1.cle fun j hj => ?_
      obtain rfl : j = 0 := by omega
      exact hcell t rfl
    · simp only [flO, List.length_singleton] at hok ⊢
      refine ⟨?_, fun h => h.elim, fun h => .inr h⟩
      rcases hok with ⟨_, h2⟩ | h1
      · cases h2
      · right
        have hz := h1.len 0 (by omega)
        simp at hz
        rw [← hz] at h1
        refine h1.cle fun j hj => ?_
        obtain rfl : j = 0 := by omega
        exact hcell t rfl

def lenv (ρ0 : Env) (ml : ML) (G : NH) : Env
  | .top k => locE ρ0 ml k
  | .sub p t j f => match psi ml G (.sub p t j f) with
    | some y => ρ0 y
    | none => nilLoc

theorem lenv_psi {ρ0 : Env} {ml : ML} {G : NH} {x y : Nm} (h : psi ml G x = some y) : lenv ρ0 ml G x = shiftL (ρ0 y) (shOf ml x) := by
  cases x with
  | top k =>
    simp only [psi] at h
    simp only [lenv, locE, shOf]
    cases hm : ml[k]? with
    | none => simp [hm] at h
    | some q =>
      cases q with
      | none => simp [hm] at h
      | some q => obtain ⟨p, i⟩ := q; simp [hm] at h; subst h; rfl
  | sub p t j f => simp only [lenv, h, shOf, shiftL_zero]

/-- What the callee may write. -/
def locSc (ρ0 : Env) (G : NH) (ml : ML) (objs : List NObj) : Sc where
  own b := ∃ x, getP (hk (idxO 0 objs)) x ≠ .free ∧ Owned (lenv ρ0 ml G x) (HF (hk (idxO 0 objs)) x) ∧ b = (lenv ρ0 ml G x).blk
  m := objs.length
  A := fun k => locE ρ0 ml k

/-- No object that is owned overlaps with another one. -/
def Apart (ml : ML) (objs : List NObj) : Prop := ∀ (k k' : Nat) (p p' : Nm) (i i' : Nat) (o : NObj), k ≠ k' → ml[k]? = some (some (p, i)) → ml[k']? = some (some (p', i')) → objs[k]? = some o → o.own = true → ¬ pre p p' ∧ ¬ pre p' p

theorem pre_trans {p q : Nm} (h : pre p q) : ∀ {x : Nm}, pre q x → pre p x
  | .top n, hx => by simp only [pre] at hx; subst hx; exact h
  | .sub y t j f, hx => by
    rcases hx with hx | hx
    · subst hx; exact h
    · exact .inr (pre_trans h hx)

theorem pre_comp {p q : Nm} : ∀ {x : Nm}, pre p x → pre q x → pre p q ∨ pre q p
  | .top n, h, h' => by simp only [pre] at h h'; subst h h'; exact .inl (pre_refl _)
  | .sub y t j f, h, h' => by
    rcases h with h | h
    · subst h; exact .inr h'
    · rcases h' with h' | h'
      · subst h'; exact .inl (.inr h)
      · exact pre_comp h h'

section
variable {w0 : World} {S : Sc} {ρ0 : Env} {G : NH} {w : World} {ml : ML} {objs : List NObj}

theorem psi_pre (hc : Cames G ml objs) : ∀ {x y : Nm}, psi ml G x = some y → ∃ p i, ml[x.root]? = some (some (p, i)) ∧ pre p y ∧ (∀ k, x = .top k → y = p)
  | .top k, y, h => by
    simp only [psi] at h
    cases hm : ml[k]? with
    | none => simp [hm] at h
    | some q =>
      cases q with
      | none => simp [hm] at h
      | some q => obtain ⟨p, i⟩ := q; simp [hm] at h; subst h; exact ⟨p, i, hm, pre_refl _, fun _ _ => rfl⟩
  | .sub x t j f, y, h => by
    rw [psi_sub] at h
    cases hx : psi ml G x with
    | none => simp [hx] at h
    | some z =>
      simp [hx] at h
      subst h
      obtain ⟨p, i, h1, h2, _⟩ := psi_pre hc hx
      exact ⟨p, i, h1, .inr h2, fun k e => by cases e⟩

theorem seen_own_root (hc : Cames G ml objs) : ∀ {x : Nm}, (getP (hk (idxO 0 objs)) x).own = true → (hk (idxO 0 objs) x.root).own = true
  | .top k, h => h
  | .sub x t j f, h => seen_own_root hc (x := x) (kid_own h).1

/-- Two names of one root stand for two. -/
theorem psi_inj (hc : Cames G ml objs) : ∀ {x x' y : Nm}, x.root = x'.root → getP (hk (idxO 0 objs)) x ≠ .free → getP (hk (idxO 0 objs)) x' ≠ .free → psi ml G x = some y → psi ml G x' = some y → x = x'
  | .top k, .top k', y, hr, _, _, _, _ => by simp only [Nm.root] at hr; rw [hr]
  | .top k, .sub x t j f, y, hr, _, _, h, h' => by
    exfalso
    obtain ⟨p, i, h1, h2, h3⟩ := psi_pre hc h
    have e := h3 k rfl
    subst e
    rw [psi_sub] at h'
    cases hx : psi ml G x with
    | none => simp [hx] at h'
    | some z =>
      simp only [hx, Option.map_some, Option.some.injEq] at h'
      obtain ⟨p', i', g1, g2, _⟩ := psi_pre hc hx
      simp only [Nm.root] at hr h1
      rw [← hr, h1] at g1
      simp only [Option.some.injEq, Prod.mk.injEq] at g1
      have := pre_depth g2
      rw [← g1.1, ← h'] at this
      simp only [depth] at this
      omega
  | .sub x t j f, .top k, y, hr, _, _, h, h' => by
    exfalso
    obtain ⟨p, i, h1, h2, h3⟩ := psi_pre hc h'
    have e := h3 k rfl
    subst e
    rw [psi_sub] at h
    cases hx : psi ml G x with
    | none => simp [hx] at h
    | some z =>
      simp only [hx, Option.map_some, Option.some.injEq] at h
      obtain ⟨p', i', g1, g2, _⟩ := psi_pre hc hx
      simp only [Nm.root] at hr h1
      rw [hr, h1] at g1
      simp only [Option.some.injEq, Prod.mk.injEq] at g1
      have := pre_depth g2
      rw [← g1.1, ← h] at this
      simp only [depth] at this
      omega
  | .sub x t j f, .sub x' t' j' f', y, hr, g, g', h, h' => by
    have gx : getP (hk (idxO 0 objs)) x ≠ .free := fun e => g (by rw [getP, e]; simp [kid, elemN])
    have gx' : getP (hk (idxO 0 objs)) x' ≠ .free := fun e => g' (by rw [getP, e]; simp [kid, elemN])
    have tag0 : ∀ {x : Nm} {t j f}, getP (hk (idxO 0 objs)) (.sub x t j f) ≠ .free → getP (hk (idxO 0 objs)) x ≠ .free → t = 0 := fun {x t j f} g gx => by
      rw [getP] at g
      have ht : (getP (hk (idxO 0 objs)) x).tag = t := by
        by_cases e : (getP (hk (idxO 0 objs)) x).tag = t
        · exact e
        · exact absurd (kid_tag e) g
      rcases (psi_get hc x gx).2.2 with ⟨y, _, hs, _⟩ | ⟨k, sz, rfl, _, hs⟩
      · rw [← ht, hs.tag]
      · rcases hs with hs | hs <;> rw [hs] at ht <;> exact ht.symm
    rw [psi_sub] at h h'
    cases hx : psi ml G x with
    | none => simp [hx] at h
    | some z =>
      cases hx' : psi ml G x' with
      | none => simp [hx'] at h'
      | some z' =>
        simp only [hx, hx', Option.map_some, Option.some.injEq] at h h'
        rw [← h'] at h
        simp only [Nm.sub.injEq] at h
        obtain ⟨rfl, _, e3, e4⟩ := h
        have := psi_inj hc (x := x) (x' := x') hr gx gx' hx hx'
        subst this
        rw [tag0 g gx, tag0 g' gx', e4, show j = j' by omega]

/-- THE CALLEE's WORLD. -/
theorem loc_hcore (h : HCore w0 S ρ0 (HF G) w) (hc : Cames G ml objs) (hap : Apart ml objs) {ρl : Env} (hl : ∀ x, (getP (hk (idxO 0 objs)) x ≠ .free ∨ ∃ k, k < objs.length ∧ x = .top k) → ρl x = lenv ρ0 ml G x) : HCore w (locSc ρ0 G ml objs) ρl (HF (hk (idxO 0 objs))) w := by
  have nf : ∀ {x : Nm} {L : Loc}, Owned L (HF (hk (idxO 0 objs)) x) → getP (hk (idxO 0 objs)) x ≠ .free := fun ho e => by rw [HF_free.2 e] at ho; exact ho
  have nfv : ∀ {x : Nm} {L : Loc}, Viewed L (HF (hk (idxO 0 objs)) x) → getP (hk (idxO 0 objs)) x ≠ .free := fun ho e => by rw [HF_free.2 e] at ho; exact ho
  have main : ∀ x, getP (hk (idxO 0 objs)) x ≠ .free → ObjOk ρl (ρl x) (HF (hk (idxO 0 objs)) x) w ∧ (Owned (ρl x) (HF (hk (idxO 0 objs)) x) → ∃ y, psi ml G x = some y ∧ Owned (ρ0 y) (HF G y) ∧ (ρl x).blk = (ρ0 y).blk) ∧ (Viewed (ρl x) (HF (hk (idxO 0 objs)) x) → ∃ y, psi ml G x = some y ∧ (Owned (ρ0 y) (HF G y) ∨ Viewed (ρ0 y) (HF G y)) ∧ (ρl x).blk = (ρ0 y).blk) := fun x hx => by
    rcases (psi_get hc x hx).2.2 with ⟨y, g1, g2, g3⟩ | ⟨k, sz, rfl, g1, g2⟩
    · have hρ : ρl x = shiftL (ρ0 y) (shOf ml x) := by rw [hl x (.inl hx), lenv_psi g1]
      have := seen_ok (ρ := ρ0) (ρl := ρl) (x := x) (y := y) (w := w) g2 (h.obj y) hρ (fun j f hkk => by
        have hkn : getP (hk (idxO 0 objs)) (.sub x 0 j f) ≠ .free := hkk
        rw [hl _ (.inl hkn), lenv_psi (by rw [psi_sub, g1]; rfl)]
        simp only [shOf, shiftL_zero])
      refine ⟨this.1, fun ho => ⟨y, g1, this.2.1 ho, by rw [hρ]; rfl⟩, fun ho => ⟨y, g1, this.2.2 ho, by rw [hρ]; rfl⟩⟩
    · have hρ : ρl (.top k) = nilLoc := by rw [hl _ (.inl hx)]; simp [lenv, locE, g1]
      have e : HF (hk (idxO 0 objs)) (.top k) = flO (.top k) (getP (hk (idxO 0 objs)) (.top k)) := rfl
      rw [e, hρ]
      rcases g2 with g2 | g2 <;> rw [g2]
      · exact ⟨.inl ⟨rfl, rfl⟩, (fun h => h.elim), (fun h => by cases h)⟩
      · exact ⟨.inl ⟨rfl, rfl⟩, (fun h => by cases h), (fun h => h.elim)⟩
  have lown : ∀ {x}, Owned (ρl x) (HF (hk (idxO 0 objs)) x) → (hk (idxO 0 objs) x.root).own = true := fun {x} ho => by
    refine seen_own_root hc ?_
    have e : HF (hk (idxO 0 objs)) x = flO x (getP (hk (idxO 0 objs)) x) := rfl
    rw [e] at ho
    cases hg : getP (hk (idxO 0 objs)) x <;> rw [hg] at ho <;> first | rfl | exact ho.elim
  have meet : ∀ {x x' y : Nm}, Owned (ρl x) (HF (hk (idxO 0 objs)) x) → getP (hk (idxO 0 objs)) x' ≠ .free → psi ml G x = some y → psi ml G x' = some y → x = x' := fun {x x' y} ho hx' h1 h2 => by
    by_cases hr : x.root = x'.root
    · exact psi_inj hc hr (nf ho) hx' h1 h2
    · exfalso
      obtain ⟨p, i, a1, a2, _⟩ := psi_pre hc h1
      obtain ⟨p', i', b1, b2, _⟩ := psi_pre hc h2
      have hro := lown ho
      have hne : hk (idxO 0 objs) x.root ≠ .free := own_ne hro
      obtain ⟨_, o, c1, c2, c3, c4⟩ := came_root hc hne
      rw [c3] at hro
      obtain ⟨d1, d2⟩ := hap _ _ p p' i i' o hr a1 b1 c2 hro
      rcases pre_comp a2 b2 with e | e
      · exact d1 e
      · exact d2 e
  refine ⟨rfl, rfl, rfl, Nat.le_refl _, fun _ _ _ => rfl, fun x => ?_, fun x hx => ?_, fun x x' hx hx' e => ?_, fun x hx => ?_, fun x hx => ?_⟩
  · by_cases e : getP (hk (idxO 0 objs)) x = .free
    · rw [HF_free.2 e]; trivial
    · exact (main x e).1
  · obtain ⟨y, g1, g2, g3⟩ := (main x (nf hx)).2.1 hx
    rw [g3]
    refine ⟨(h.own y g2).1, .inr ⟨x, nf hx, ?_, ?_⟩⟩
    · rw [← hl x (.inl (nf hx))]; exact hx
    · rw [← hl x (.inl (nf hx))]; exact g3.symm
  · obtain ⟨y, g1, g2, g3⟩ := (main x (nf hx)).2.1 hx
    obtain ⟨y', k1, k2, k3⟩ := (main x' (nf hx')).2.1 hx'
    rw [g3, k3] at e
    have := h.dist y y' g2 k2 e
    subst this
    exact meet hx (nf hx') g1 k1
  · have hxv := nfv hx
    obtain ⟨y, g1, g2, g3⟩ := (main x hxv).2.2 hx
    rw [g3]
    refine ⟨?_, ?_⟩
    · rcases g2 with g2 | g2
      · exact (h.own y g2).1
      · have := (h.vw y g2).1; have := h.size; omega
    · rintro ⟨z, z1, z2, z3⟩
      have hz : Owned (ρl z) (HF (hk (idxO 0 objs)) z) := by rw [hl z (.inl z1)]; exact z2
      obtain ⟨y', k1, k2, k3⟩ := (main z z1).2.1 hz
      rw [← hl z (.inl z1), k3] at z3
      rcases g2 with g2 | g2
      · have := h.dist y y' g2 k2 z3
        subst this
        have := meet hz hxv k1 g1
        subst this
        cases ho : HF (hk (idxO 0 objs)) z <;> rw [ho] at hx hz <;> simp [Owned, Viewed] at hx hz
      · have a1 := h.vw y g2
        have a2 := (h.own y' k2).2
        rw [z3] at a1
        rcases a2 with a2 | a2
        · omega
        · exact a1.2 a2
  · have hx : x < objs.length := hx
    rw [hl _ (.inr ⟨x, hx, rfl⟩)]; rfl

end
end Go.W
