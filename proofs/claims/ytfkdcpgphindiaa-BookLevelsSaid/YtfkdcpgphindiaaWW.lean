/- A call: the callee's world, and back. A call: back to the caller. -/
import Derived.Test.YtfkdcpgphindiaaWU
set_option linter.unusedSimpArgs false
set_option linter.unusedVariables false
namespace Go.W

theorem t0_cle {ρ ρl : Env} {x y : Nm} {t j j' : Nat} {c : List AV} (hcl : clL (t0L c) = true) (hk : ∀ (f : Nat) (v : AV), (t0L c)[f]? = some v → v.plain = false → ρl (.sub x 0 j f) = ρ (.sub y t j' f)) : CLe ρ ρl (flC y t j' c) (flC x 0 j (t0L c)) := by
  refine ⟨by simp [t0L_length], fun k v' hv => ?_⟩
  rw [flC_get, t0L_get] at hv
  rw [flC_get]
  cases hc : c[k]? with
  | none => rw [hc] at hv; cases hv
  | some u =>
    rw [hc] at hv
    simp only [Option.map_some, Option.some.injEq] at hv
    subst hv
    refine ⟨_, rfl, fun z hz => ?_⟩
    have hg : (t0L c)[k]? = some u.t0 := by rw [t0L_get, hc]; rfl
    have hucl := clL_get hcl hg
    cases hp : u.plain with
    | true =>
      rw [flV_plain hp] at hz
      rw [t0_plain hp] at hucl ⊢
      rw [flV_plain hp]
      exact cl_rep hucl hp hz
    | false =>
      have := hk k u.t0 hg (by rw [plain_t0]; exact hp)
      cases u <;> simp only [AV.plain, Bool.true_eq_false] at hp
      · simp only [AV.t0, flV, Rep, t0LL_length] at hz ⊢; rw [this]; exact hz
      · simp only [AV.t0, flV, Rep] at hz ⊢; rw [this]; exact hz

theorem Reg.shift {ρ ρl : Env} {L : Loc} {sz n n' i : Nat} {f f' : Nat → List AV} {w : World} (h : Reg ρ L sz n' f' w) (hn : i + n ≤ n') (hc : ∀ j, j < n → CLe ρ ρl (f' (i + j)) (f j)) : Reg ρl (shiftL L i) sz n f w where
  nn := h.nn
  esz := h.esz
  cap := by have := h.cap; simp only [shiftL]; omega
  len j hj := by rw [← (hc j hj).1]; exact h.len _ (by omega)
  cell j hj k v hv := by
    obtain ⟨u, h1, h2⟩ := (hc j hj).2 k v hv
    obtain ⟨x, h3, h4, h5⟩ := h.cell (i + j) (by omega) k u h1
    refine ⟨x, ?_, h2 x h4, h5⟩
    rw [← h3]
    simp only [shiftL, h.esz]
    congr 2
    rw [Nat.add_mul]; omega

/-- What the callee has is as it is told. -/
theorem seen_ok {ρ ρl : Env} {x y : Nm} {i : Nat} {og o : NObj} {w : World} (hs : Seen i og o) (hok : ObjOk ρ (ρ y) (flO y og) w) (hx : ρl x = shiftL (ρ y) i) (hk : ∀ j f, kid o 0 j f ≠ .free → ρl (.sub x 0 j f) = ρ (.sub y og.tag (i + j) f)) :
    ObjOk ρl (ρl x) (flO x o) w ∧ (Owned (ρl x) (flO x o) → Owned (ρ y) (flO y og)) ∧ (Viewed (ρl x) (flO x o) → Owned (ρ y) (flO y og) ∨ Viewed (ρ y) (flO y og)) := by
  have hcl := hs.cl
  have htag := hs.tag
  have cell : ∀ j c c', elemN o j = some c → elemN og (i + j) = some c' → c = t0L c' → CLe ρ ρl (flC y og.tag (i + j) c') (flC x 0 j c) := fun j c c' h1 h2 e => by
    subst e
    refine t0_cle (clO_elem hcl h1) fun f v hv hp => hk j f ?_
    unfold kid
    rw [if_pos htag, h1]
    simp only [kidC, hv]
    cases v <;> simp only [AV.plain, Bool.true_eq_false] at hp <;> simp only [kidV] <;> split <;> simp
  rw [hx]
  cases hs with
  | own h hc =>
    rw [shiftL_zero]
    have ole : OLe ρ ρl (flO y og) (flO x og.t0) := by
      cases og with
      | free => cases h
      | view t sz els => cases h
      | cells t c => exact .cells (cell 0 (t0L c) c (by simp [elemN, NObj.t0]) (by simp [elemN]) rfl)
      | arr t sz els =>
        simp only [NObj.t0, flO, t0LL_length]
        refine .arr fun j hj => ?_
        have e1 : (t0LL els)[j]? = some (t0L els[j]) := by rw [t0LL_get, List.getElem?_eq_getElem hj]; rfl
        rw [List.getD_eq_getElem?_getD, List.getD_eq_getElem?_getD, List.getElem?_eq_getElem hj, e1, Option.getD_some, Option.getD_some]
        have := cell j (t0L els[j]) els[j] (by simp only [NObj.t0, elemN]; exact e1) (by simp [elemN, hj]) rfl
        rw [Nat.zero_add] at this
        exact this
    exact ⟨ole.ok hok, fun h => ole.own h, fun h => .inr (ole.viewed h)⟩
  | @row _ t sz n els _ h hn hc =>
    have len : (t0LL ((els.drop i).take n)).length = n := by rw [t0LL_length, List.length_take, List.length_drop]; omega
    have reg : Reg ρ (ρ y) sz els.length (fun j => flC y t j (els.getD j [])) w → Reg ρl (shiftL (ρ y) i) sz n (fun j => flC x 0 j ((t0LL ((els.drop i).take n)).getD j [])) w := fun hr => by
      refine hr.shift hn fun j hj => ?_
      have e0 : els[i + j]? = some els[i + j] := List.getElem?_eq_getElem (by omega)
      have e1 : (t0LL ((els.drop i).take n))[j]? = some (t0L els[i + j]) := by rw [t0LL_get, List.getElem?_take, if_pos hj, List.getElem?_drop, e0]; rfl
      rw [List.getD_eq_getElem?_getD, List.getD_eq_getElem?_getD, e0, e1, Option.getD_some, Option.getD_some]
      have := cell j (t0L els[i + j]) els[i + j] (by simp only [elemN]; exact e1) (by rcases h with rfl | rfl <;> simp only [elemN] <;> exact e0) rfl
      rcases h with rfl | rfl <;> exact this
    rcases h with rfl | rfl
    · simp only [flO, len] at hok ⊢
      refine ⟨?_, fun h => h.elim, fun h => .inl h⟩
      rcases hok with ⟨h1, h2⟩ | ⟨h1, _⟩
      · exact .inl ⟨h1, by omega⟩
      · exact .inr (reg h1)
    · simp only [flO, len] at hok ⊢
      refine ⟨?_, fun h => h.elim, fun h => .inr h⟩
      rcases hok with ⟨h1, h2⟩ | h1
      · exact .inl ⟨h1, by omega⟩
      · exact .inr (reg h1)
  | @one t z c _ h hc =>
    rw [shiftL_zero]
    have hcell : ∀ tg, og.tag = tg → CLe ρ ρl (flC y tg 0 c) (flC x 0 0 (t0L c)) := fun tg e => by
      have := cell 0 (t0L c) c (by simp [elemN]) (by rcases h with rfl | rfl <;> simp [elemN]) rfl
      rw [e] at this
      exact this
    rcases h with rfl | rfl
    · simp only [flO, List.length_singleton] at hok ⊢
      refine ⟨.inr ?_, fun h => h.elim, fun h => .inl trivial⟩
      have h1 := hok.1
      rw [flC_length] at h1
      refine h1.cle fun j hj => ?_
      obtain rfl : j = 0 := by omega
      exact hcell t rfl
    · simp only [flO, List.length_singleton] at hok ⊢
      refine ⟨?_, fun h => h.elim, fun h => .inr h⟩
      rcases hok with ⟨_, h2⟩ | h1
      · cases h2
      · right
        have hz := h1.len 0 (by omega)
        simp at hz
        rw [← hz] at h1
        refine h1.cle fun j hj => ?_
        obtain rfl : j = 0 := by omega
        exact hcell t rfl

def lenv (ρ0 : Env) (ml : ML) (G : NH) : Env
  | .top k => locE ρ0 ml k
  | .sub p t j f => match psi ml G (.sub p t j f) with
    | some y => ρ0 y
    | none => nilLoc

theorem lenv_psi {ρ0 : Env} {ml : ML} {G : NH} {x y : Nm} (h : psi ml G x = some y) : lenv ρ0 ml G x = shiftL (ρ0 y) (shOf ml x) := by
  cases x with
  | top k =>
    simp only [psi] at h
    simp only [lenv, locE, shOf]
    cases hm : ml[k]? with
    | none => simp [hm] at h
    | some q =>
      cases q with
      | none => simp [hm] at h
      | some q => obtain ⟨p, i⟩ := q; simp [hm] at h; subst h; rfl
  | sub p t j f => simp only [lenv, h, shOf, shiftL_zero]

/-- What the callee may write. -/
def locSc (ρ0 : Env) (G : NH) (ml : ML) (objs : List NObj) : Sc where
  own b := ∃ x, getP (hk (idxO 0 objs)) x ≠ .free ∧ Owned (lenv ρ0 ml G x) (HF (hk (idxO 0 objs)) x) ∧ b = (lenv ρ0 ml G x).blk
  m := objs.length
  A := fun k => locE ρ0 ml k

/-- No object that is owned overlaps with another one. -/
def Apart (ml : ML) (objs : List NObj) : Prop := ∀ (k k' : Nat) (p p' : Nm) (i i' : Nat) (o : NObj), k ≠ k' → ml[k]? = some (some (p, i)) → ml[k']? = some (some (p', i')) → objs[k]? = some o → o.own = true → ¬ pre p p' ∧ ¬ pre p' p

theorem pre_trans {p q : Nm} (h : pre p q) : ∀ {x : Nm}, pre q x → pre p x
  | .top n, hx => by simp only [pre] at hx; subst hx; exact h
  | .sub y t j f, hx => by
    rcases hx with hx | hx
    · subst hx; exact h
    · exact .inr (pre_trans h hx)

theorem pre_comp {p q : Nm} : ∀ {x : Nm}, pre p x → pre q x → pre p q ∨ pre q p
  | .top n, h, h' => by simp only [pre] at h h'; subst h h'; exact .inl (pre_refl _)
  | .sub y t j f, h, h' => by
    rcases h with h | h
    · subst h; exact .inr h'
    · rcases h' with h' | h'
      · subst h'; exact .inl (.inr h)
      · exact pre_comp h h'

section
variable {w0 : World} {S : Sc} {ρ0 : Env} {G : NH} {w : World} {ml : ML} {objs : List NObj}

theorem psi_pre (hc : Cames G ml objs) : ∀ {x y : Nm}, psi ml G x = some y → ∃ p i, ml[x.root]? = some (some (p, i)) ∧ pre p y ∧ (∀ k, x = .top k → y = p)
  | .top k, y, h => by
    simp only [psi] at h
    cases hm : ml[k]? with
    | none => simp [hm] at h
    | some q =>
      cases q with
      | none => simp [hm] at h
      | some q => obtain ⟨p, i⟩ := q; simp [hm] at h; subst h; exact ⟨p, i, hm, pre_refl _, fun _ _ => rfl⟩
  | .sub x t j f, y, h => by
    rw [psi_sub] at h
    cases hx : psi ml G x with
    | none => simp [hx] at h
    | some z =>
      simp [hx] at h
      subst h
      obtain ⟨p, i, h1, h2, _⟩ := psi_pre hc hx
      exact ⟨p, i, h1, .inr h2, fun k e => by cases e⟩

theorem seen_own_root (hc : Cames G ml objs) : ∀ {x : Nm}, (getP (hk (idxO 0 objs)) x).own = true → (hk (idxO 0 objs) x.root).own = true
  | .top k, h => h
  | .sub x t j f, h => seen_own_root hc (x := x) (kid_own h).1

/-- Two names of one root stand for two. -/
theorem psi_inj (hc : Cames G ml objs) : ∀ {x x' y : Nm}, x.root = x'.root → getP (hk (idxO 0 objs)) x ≠ .free → getP (hk (idxO 0 objs)) x' ≠ .free → psi ml G x = some y → psi ml G x' = some y → x = x'
  | .top k, .top k', y, hr, _, _, _, _ => by simp only [Nm.root] at hr; rw [hr]
  | .top k, .sub x t j f, y, hr, _, _, h, h' => by
    exfalso
    obtain ⟨p, i, h1, h2, h3⟩ := psi_pre hc h
    have e := h3 k rfl
    subst e
    rw [psi_sub] at h'
    cases hx : psi ml G x with
    | none => simp [hx] at h'
    | some z =>
      simp only [hx, Option.map_some, Option.some.injEq] at h'
      obtain ⟨p', i', g1, g2, _⟩ := psi_pre hc hx
      simp only [Nm.root] at hr h1
      rw [← hr, h1] at g1
      simp only [Option.some.injEq, Prod.mk.injEq] at g1
      have := pre_depth g2
      rw [← g1.1, ← h'] at this
      simp only [depth] at this
      omega
  | .sub x t j f, .top k, y, hr, _, _, h, h' => by
    exfalso
    obtain ⟨p, i, h1, h2, h3⟩ := psi_pre hc h'
    have e := h3 k rfl
    subst e
    rw [psi_sub] at h
    cases hx : psi ml G x with
    | none => simp [hx] at h
    | some z =>
      simp only [hx, Option.map_some, Option.some.injEq] at h
      obtain ⟨p', i', g1, g2, _⟩ := psi_pre hc hx
      simp only [Nm.root] at hr h1
      rw [hr, h1] at g1
      simp only [Option.some.injEq, Prod.mk.injEq] at g1
      have := pre_depth g2
      rw [← g1.1, ← h] at this
      simp only [depth] at this
      omega
  | .sub x t j f, .sub x' t' j' f', y, hr, g, g', h, h' => by
    have gx : getP (hk (idxO 0 objs)) x ≠ .free := fun e => g (by rw [getP, e]; simp [kid, elemN])
    have gx' : getP (hk (idxO 0 objs)) x' ≠ .free := fun e => g' (by rw [getP, e]; simp [kid, elemN])
    have tag0 : ∀ {x : Nm} {t j f}, getP (hk (idxO 0 objs)) (.sub x t j f) ≠ .free → getP (hk (idxO 0 objs)) x ≠ .free → t = 0 := fun {x t j f} g gx => by
      rw [getP] at g
      have ht : (getP (hk (idxO 0 objs)) x).tag = t := by
        by_cases e : (getP (hk (idxO 0 objs)) x).tag = t
        · exact e
        · exact absurd (kid_tag e) g
      rcases (psi_get hc x gx).2.2 with ⟨y, _, hs, _⟩ | ⟨k, sz, rfl, _, hs⟩
      · rw [← ht, hs.tag]
      · rcases hs with hs | hs <;> rw [hs] at ht <;> exact ht.symm
    rw [psi_sub] at h h'
    cases hx : psi ml G x with
    | none => simp [hx] at h
    | some z =>
      cases hx' : psi ml G x' with
      | none => simp [hx'] at h'
      | some z' =>
        simp only [hx, hx', Option.map_some, Option.some.injEq] at h h'
        rw [← h'] at h
        simp only [Nm.sub.injEq] at h
        obtain ⟨rfl, _, e3, e4⟩ := h
        have := psi_inj hc (x := x) (x' := x') hr gx gx' hx hx'
        subst this
        rw [tag0 g gx, tag0 g' gx', e4, show j = j' by omega]

/-- THE CALLEE's WORLD. -/
theorem loc_hcore (h : HCore w0 S ρ0 (HF G) w) (hc : Cames G ml objs) (hap : Apart ml objs) {ρl : Env} (hl : ∀ x, (getP (hk (idxO 0 objs)) x ≠ .free ∨ ∃ k, k < objs.length ∧ x = .top k) → ρl x = lenv ρ0 ml G x) : HCore w (locSc ρ0 G ml objs) ρl (HF (hk (idxO 0 objs))) w := by
  have nf : ∀ {x : Nm} {L : Loc}, Owned L (HF (hk (idxO 0 objs)) x) → getP (hk (idxO 0 objs)) x ≠ .free := fun ho e => by rw [HF_free.2 e] at ho; exact ho
  have nfv : ∀ {x : Nm} {L : Loc}, Viewed L (HF (hk (idxO 0 objs)) x) → getP (hk (idxO 0 objs)) x ≠ .free := fun ho e => by rw [HF_free.2 e] at ho; exact ho
  have main : ∀ x, getP (hk (idxO 0 objs)) x ≠ .free → ObjOk ρl (ρl x) (HF (hk (idxO 0 objs)) x) w ∧ (Owned (ρl x) (HF (hk (idxO 0 objs)) x) → ∃ y, psi ml G x = some y ∧ Owned (ρ0 y) (HF G y) ∧ (ρl x).blk = (ρ0 y).blk) ∧ (Viewed (ρl x) (HF (hk (idxO 0 objs)) x) → ∃ y, psi ml G x = some y ∧ (Owned (ρ0 y) (HF G y) ∨ Viewed (ρ0 y) (HF G y)) ∧ (ρl x).blk = (ρ0 y).blk) := fun x hx => by
    rcases (psi_get hc x hx).2.2 with ⟨y, g1, g2, g3⟩ | ⟨k, sz, rfl, g1, g2⟩
    · have hρ : ρl x = shiftL (ρ0 y) (shOf ml x) := by rw [hl x (.inl hx), lenv_psi g1]
      have := seen_ok (ρ := ρ0) (ρl := ρl) (x := x) (y := y) (w := w) g2 (h.obj y) hρ (fun j f hkk => by
        have hkn : getP (hk (idxO 0 objs)) (.sub x 0 j f) ≠ .free := hkk
        rw [hl _ (.inl hkn), lenv_psi (by rw [psi_sub, g1]; rfl)]
        simp only [shOf, shiftL_zero])
      refine ⟨this.1, fun ho => ⟨y, g1, this.2.1 ho, by rw [hρ]; rfl⟩, fun ho => ⟨y, g1, this.2.2 ho, by rw [hρ]; rfl⟩⟩
    · have hρ : ρl (.top k) = nilLoc := by rw [hl _ (.inl hx)]; simp [lenv, locE, g1]
      have e : HF (hk (idxO 0 objs)) (.top k) = flO (.top k) (getP (hk (idxO 0 objs)) (.top k)) := rfl
      rw [e, hρ]
      rcases g2 with g2 | g2 <;> rw [g2]
      · exact ⟨.inl ⟨rfl, rfl⟩, (fun h => h.elim), (fun h => by cases h)⟩
      · exact ⟨.inl ⟨rfl, rfl⟩, (fun h => by cases h), (fun h => h.elim)⟩
  have lown : ∀ {x}, Owned (ρl x) (HF (hk (idxO 0 objs)) x) → (hk (idxO 0 objs) x.root).own = true := fun {x} ho => by
    refine seen_own_root hc ?_
    have e : HF (hk (idxO 0 objs)) x = flO x (getP (hk (idxO 0 objs)) x) := rfl
    rw [e] at ho
    cases hg : getP (hk (idxO 0 objs)) x <;> rw [hg] at ho <;> first | rfl | exact ho.elim
  have meet : ∀ {x x' y : Nm}, Owned (ρl x) (HF (hk (idxO 0 objs)) x) → getP (hk (idxO 0 objs)) x' ≠ .free → psi ml G x = some y → psi ml G x' = some y → x = x' := fun {x x' y} ho hx' h1 h2 => by
    by_cases hr : x.root = x'.root
    · exact psi_inj hc hr (nf ho) hx' h1 h2
    · exfalso
      obtain ⟨p, i, a1, a2, _⟩ := psi_pre hc h1
      obtain ⟨p', i', b1, b2, _⟩ := psi_pre hc h2
      have hro := lown ho
      have hne : hk (idxO 0 objs) x.root ≠ .free := own_ne hro
      obtain ⟨_, o, c1, c2, c3, c4⟩ := came_root hc hne
      rw [c3] at hro
      obtain ⟨d1, d2⟩ := hap _ _ p p' i i' o hr a1 b1 c2 hro
      rcases pre_comp a2 b2 with e | e
      · exact d1 e
      · exact d2 e
  refine ⟨rfl, rfl, rfl, Nat.le_refl _, fun _ _ _ => rfl, fun x => ?_, fun x hx => ?_, fun x x' hx hx' e => ?_, fun x hx => ?_, fun x hx => ?_⟩
  · by_cases e : getP (hk (idxO 0 objs)) x = .free
    · rw [HF_free.2 e]; trivial
    · exact (main x e).1
  · obtain ⟨y, g1, g2, g3⟩ := (main x (nf hx)).2.1 hx
    rw [g3]
    refine ⟨(h.own y g2).1, .inr ⟨x, nf hx, ?_, ?_⟩⟩
    · rw [← hl x (.inl (nf hx))]; exact hx
    · rw [← hl x (.inl (nf hx))]; exact g3.symm
  · obtain ⟨y, g1, g2, g3⟩ := (main x (nf hx)).2.1 hx
    obtain ⟨y', k1, k2, k3⟩ := (main x' (nf hx')).2.1 hx'
    rw [g3, k3] at e
    have := h.dist y y' g2 k2 e
    subst this
    exact meet hx (nf hx') g1 k1
  · have hxv := nfv hx
    obtain ⟨y, g1, g2, g3⟩ := (main x hxv).2.2 hx
    rw [g3]
    refine ⟨?_, ?_⟩
    · rcases g2 with g2 | g2
      · exact (h.own y g2).1
      · have := (h.vw y g2).1; have := h.size; omega
    · rintro ⟨z, z1, z2, z3⟩
      have hz : Owned (ρl z) (HF (hk (idxO 0 objs)) z) := by rw [hl z (.inl z1)]; exact z2
      obtain ⟨y', k1, k2, k3⟩ := (main z z1).2.1 hz
      rw [← hl z (.inl z1), k3] at z3
      rcases g2 with g2 | g2
      · have := h.dist y y' g2 k2 z3
        subst this
        have := meet hz hxv k1 g1
        subst this
        cases ho : HF (hk (idxO 0 objs)) z <;> rw [ho] at hx hz <;> simp [Owned, Viewed] at hx hz
      · have a1 := h.vw y g2
        have a2 := (h.own y' k2).2
        rw [z3] at a1
        rcases a2 with a2 | a2
        · omega
        · exact a1.2 a2
  · have hx : x < objs.length := hx
    rw [hl _ (.inr ⟨x, hx, rfl⟩)]; rfl

end
end Go.W
set_option linter.unusedSimpArgs false
set_option linter.unusedVariables false
namespace Go.W

def wrs (G : NH) : List (Nm × NObj) → List (Nat × NObj)
  | [] => []
  | (p, o) :: r => wr G p o :: wrs (upd G (wr G p o).1 (wr G p o).2) r

theorem wrs_get : ∀ (ws : List (Nm × NObj)) (G : NH), (∀ q ∈ ws, Like (getP G q.1) q.2) → ws.Pairwise (fun a b => ¬ pre a.1 b.1 ∧ ¬ pre b.1 a.1) →
    (∀ q ∈ ws, getP (updL G (wrs G ws)) q.1 = q.2) ∧ (∀ x, (∀ q ∈ ws, ¬ pre q.1 x) → HF (updL G (wrs G ws)) x = HF G x) ∧ (∀ x, (∀ q ∈ ws, ¬ pre q.1 x ∧ ¬ pre x q.1) → getP (updL G (wrs G ws)) x = getP G x)
  | [], G, _, _ => ⟨by simp, fun _ _ => rfl, fun _ _ => rfl⟩
  | (p, o) :: r, G, hl, hp => by
    rw [List.pairwise_cons] at hp
    obtain ⟨a1, a2, a3⟩ := wr_get G p o (hl _ List.mem_cons_self)
    obtain ⟨b1, b2, b3⟩ := wrs_get r (upd G (wr G p o).1 (wr G p o).2) (fun q hq => by
      rw [a3 q.1 (hp.1 q hq).1 (hp.1 q hq).2]; exact hl q (List.mem_cons_of_mem _ hq)) hp.2
    refine ⟨fun q hq => ?_, fun x hx => ?_, fun x hx => ?_⟩
    · rcases List.mem_cons.1 hq with rfl | hq
      · show getP (updL (upd G _ _) (wrs _ r)) p = o
        rw [b3 p fun q hq => ⟨(hp.1 q hq).2, (hp.1 q hq).1⟩]; exact a1
      · exact b1 q hq
    · show HF (updL (upd G _ _) (wrs _ r)) x = _
      rw [b2 x fun q hq => hx q (List.mem_cons_of_mem _ hq)]
      exact a2 x (hx _ List.mem_cons_self)
    · show getP (updL (upd G _ _) (wrs _ r)) x = _
      rw [b3 x fun q hq => hx q (List.mem_cons_of_mem _ hq)]
      exact a3 x (hx _ List.mem_cons_self).1 (hx _ List.mem_cons_self).2

/-- What is written: the objects that came and are owned. -/
def wl (nb : Nat) : ML → List NObj → List NObj → List (Nm × NObj)
  | some (p, _) :: r, o :: os, o' :: os' => if o.own = true then (p, o'.retag nb) :: wl nb r os os' else wl nb r os os'
  | none :: r, _ :: os, _ :: os' => wl nb r os os'
  | _, _, _ => []

theorem wl_mem {nb : Nat} : ∀ {ml : ML} {objs outs : List NObj} {q : Nm × NObj}, q ∈ wl nb ml objs outs → ∃ (k i : Nat) (o o' : NObj), ml[k]? = some (some (q.1, i)) ∧ objs[k]? = some o ∧ outs[k]? = some o' ∧ o.own = true ∧ q.2 = o'.retag nb
  | some (p, i) :: r, o :: os, o' :: os', q, h => by
    simp only [wl] at h
    split at h
    · rename_i ho
      rcases List.mem_cons.1 h with rfl | h
      · exact ⟨0, i, o, o', rfl, rfl, rfl, ho, rfl⟩
      · obtain ⟨k, j, a, b, h1, h2, h3, h4, h5⟩ := wl_mem h
        exact ⟨k + 1, j, a, b, by simpa using h1, by simpa using h2, by simpa using h3, h4, h5⟩
    · obtain ⟨k, j, a, b, h1, h2, h3, h4, h5⟩ := wl_mem h
      exact ⟨k + 1, j, a, b, by simpa using h1, by simpa using h2, by simpa using h3, h4, h5⟩
  | none :: r, o :: os, o' :: os', q, h => by
    simp only [wl] at h
    obtain ⟨k, j, a, b, h1, h2, h3, h4, h5⟩ := wl_mem h
    exact ⟨k + 1, j, a, b, by simpa using h1, by simpa using h2, by simpa using h3, h4, h5⟩
  | [], _, _, _, h => by simp [wl] at h
  | some (p, i) :: r, [], _, _, h => by simp [wl] at h
  | some (p, i) :: r, _ :: _, [], _, h => by simp [wl] at h
  | none :: r, [], _, _, h => by simp [wl] at h
  | none :: r, _ :: _, [], _, h => by simp [wl] at h

theorem wl_of {nb : Nat} : ∀ {ml : ML} {objs outs : List NObj} {k i : Nat} {p : Nm} {o o' : NObj}, ml[k]? = some (some (p, i)) → objs[k]? = some o → outs[k]? = some o' → o.own = true → (p, o'.retag nb) ∈ wl nb ml objs outs
  | [], _, _, k, _, _, _, _, h, _, _, _ => by simp at h
  | m :: r, [], _, k, _, _, _, _, _, h, _, _ => by simp at h
  | m :: r, _ :: _, [], k, _, _, _, _, _, _, h, _ => by simp at h
  | some (p', i') :: r, o1 :: os, o1' :: os', k, i, p, o, o', h1, h2, h3, h4 => by
    cases k with
    | zero => simp at h1 h2 h3; obtain ⟨rfl, rfl⟩ := h1; subst h2 h3; simp [wl, h4]
    | succ k =>
      have := wl_of (nb := nb) (by simpa using h1) (by simpa using h2) (by simpa using h3) h4
      simp only [wl]; split
      · exact List.mem_cons_of_mem _ this
      · exact this
  | none :: r, o1 :: os, o1' :: os', k, i, p, o, o', h1, h2, h3, h4 => by
    cases k with
    | zero => simp at h1
    | succ k =>
      have := wl_of (nb := nb) (by simpa using h1) (by simpa using h2) (by simpa using h3) h4
      simp only [wl]; exact this

theorem wl_pair {nb : Nat} : ∀ {ml : ML} {objs outs : List NObj}, Apart ml objs → (wl nb ml objs outs).Pairwise (fun a b => ¬ pre a.1 b.1 ∧ ¬ pre b.1 a.1)
  | some (p, i) :: r, o :: os, o' :: os', h => by
    have tail : Apart r os := fun k k' p p' i i' o hne h1 h2 h3 h4 => h (k + 1) (k' + 1) p p' i i' o (by omega) (by simpa using h1) (by simpa using h2) (by simpa using h3) h4
    simp only [wl]
    split
    · rename_i ho
      rw [List.pairwise_cons]
      refine ⟨fun q hq => ?_, wl_pair tail⟩
      obtain ⟨k, j, a, b, h1, h2, h3, h4, h5⟩ := wl_mem hq
      exact h 0 (k + 1) p q.1 i j o (by omega) rfl (by simpa using h1) rfl ho
    · exact wl_pair tail
  | none :: r, o :: os, o' :: os', h => by
    have tail : Apart r os := fun k k' p p' i i' o hne h1 h2 h3 h4 => h (k + 1) (k' + 1) p p' i i' o (by omega) (by simpa using h1) (by simpa using h2) (by simpa using h3) h4
    simp only [wl]
    exact wl_pair tail
  | [], _, _, _ => by simp [wl]
  | some (p, i) :: r, [], _, _ => by simp [wl]
  | some (p, i) :: r, _ :: _, [], _ => by simp [wl]
  | none :: r, [], _, _ => by simp [wl]
  | none :: r, _ :: _, [], _ => by simp [wl]

/-- The caller's names are older than the call. -/
def Names (ml : ML) (nb : Nat) : Prop := ∀ (k : Nat) (p : Nm) (i : Nat), ml[k]? = some (some (p, i)) → p.mx < nb

theorem cl_kid_tag {o : NObj} (h : o.clO = true) (t j f : Nat) : (kid o t j f).tag = 0 := by
  unfold kid
  split
  · cases he : elemN o j with
    | none => rfl
    | some c =>
      simp only [kidC]
      cases hv : c[f]? with
      | none => rfl
      | some v =>
        have := clL_get (clO_elem h he) hv
        cases v <;> try rfl
        · simp only [AV.cl, Bool.and_eq_true] at this
          have := of_decide_eq_true this.1
          simp only [kidV]; split <;> exact this
        · simp only [AV.cl, Bool.and_eq_true] at this
          have := of_decide_eq_true this.1
          simp only [kidV]; split <;> exact this
  · rfl

/-- Which of the callee's names stands for which. -/
inductive Back (G' Gf : NH) (nb m : Nat) (ml : ML) (objs : List NObj) : Nm → Nm → Prop
  | new (i : Nat) : Back G' Gf nb m ml objs (.top (nb + i)) (.top (m + i))
  | came {k i : Nat} {p : Nm} {o : NObj} (h1 : ml[k]? = some (some (p, i))) (h2 : objs[k]? = some o) (h3 : o.own = true) : Back G' Gf nb m ml objs p (.top k)
  | sub {x z : Nm} (j f : Nat) (h : Back G' Gf nb m ml objs x z) : Back G' Gf nb m ml objs (.sub x (getP G' x).tag j f) (.sub z (getP Gf z).tag j f)

section
variable {G G' Gf : NH} {nb m : Nat} {ml : ML} {objs outs news : List NObj}

theorem back_where {x z : Nm} (h : Back G' Gf nb m ml objs x z) : nb ≤ x.root ∨ ∃ (k i : Nat) (p : Nm) (o : NObj), ml[k]? = some (some (p, i)) ∧ objs[k]? = some o ∧ o.own = true ∧ pre p x := by
  induction h with
  | new i => left; simp [Nm.root]
  | came h1 h2 h3 => exact .inr ⟨_, _, _, _, h1, h2, h3, pre_refl _⟩
  | sub j f h ih =>
    rcases ih with ih | ⟨k, i, p, o, a1, a2, a3, a4⟩
    · exact .inl ih
    · exact .inr ⟨k, i, p, o, a1, a2, a3, .inr a4⟩

theorem came_not_sub (hap : Apart ml objs) (hnm : Names ml nb) {x z : Nm} (h : Back G' Gf nb m ml objs x z) {k i t j f : Nat} {o : NObj} (h1 : ml[k]? = some (some (.sub x t j f, i))) (h2 : objs[k]? = some o) (h3 : o.own = true) : False := by
  rcases back_where h with h4 | ⟨k', i', p, o', a1, a2, a3, a4⟩
  · have := hnm _ _ _ h1
    have := root_mx x
    simp only [Nm.mx] at *
    omega
  · by_cases e : k' = k
    · subst e
      rw [h1] at a1
      simp only [Option.some.injEq, Prod.mk.injEq] at a1
      have := pre_depth a4
      rw [← a1.1] at this
      simp only [depth] at this
      omega
    · exact (hap k' k p _ i' i o' e a1 h1 a2 a3).1 (.inr a4)

theorem back_fun (hap : Apart ml objs) (hnm : Names ml nb) {x z : Nm} (h : Back G' Gf nb m ml objs x z) : ∀ {z'}, Back G' Gf nb m ml objs x z' → z = z' := by
  induction h with
  | new i =>
    intro z' h'
    generalize hx : Nm.top (nb + i) = x at h'
    cases h' with
    | new i' => injection hx with hx; rw [show i = i' by omega]
    | came h1 h2 h3 => have := hnm _ _ _ h1; rw [← hx] at this; simp only [Nm.mx] at this; omega
    | sub j f h => cases hx
  | @came k i p o h1 h2 h3 =>
    intro z' h'
    cases h' with
    | new i' => have := hnm _ _ _ h1; simp only [Nm.mx] at this; omega
    | @came k' i' _ o' g1 g2 g3 =>
      by_cases e : k = k'
      · rw [e]
      · exact absurd (pre_refl p) (hap k k' p p i i' o e h1 g1 h2 h3).1
    | sub j f h => exact (came_not_sub hap hnm h h1 h2 h3).elim
  | @sub x z j f h ih =>
    intro z' h'
    generalize hx : Nm.sub x (getP G' x).tag j f = y at h'
    cases h' with
    | new i' => cases hx
    | came h1 h2 h3 => rw [← hx] at h1; exact (came_not_sub hap hnm h h1 h2 h3).elim
    | sub j' f' h' =>
      injection hx with e1 e2 e3 e4
      subst e1 e3 e4
      rw [ih h']

theorem back_inj (hlen : ml.length = m) {x z : Nm} (h : Back G' Gf nb m ml objs x z) : ∀ {x'}, Back G' Gf nb m ml objs x' z → x = x' := by
  induction h with
  | new i =>
    intro x' h'
    generalize hz : Nm.top (m + i) = z at h'
    cases h' with
    | new i' => injection hz with hz; rw [show i = i' by omega]
    | came h1 h2 h3 =>
      injection hz with hz
      have := (List.getElem?_eq_some_iff.1 h1).1
      omega
    | sub j f h => cases hz
  | @came k i p o h1 h2 h3 =>
    intro x' h'
    generalize hz : Nm.top k = z at h'
    cases h' with
    | new i' =>
      injection hz with hz
      have := (List.getElem?_eq_some_iff.1 h1).1
      omega
    | came g1 g2 g3 =>
      injection hz with hz
      subst hz
      rw [h1] at g1
      simp only [Option.some.injEq, Prod.mk.injEq] at g1
      exact g1.1
    | sub j f h => cases hz
  | @sub x z j f h ih =>
    intro x' h'
    generalize hz : Nm.sub z (getP Gf z).tag j f = y at h'
    cases h' with
    | new i' => cases hz
    | came h1 h2 h3 => cases hz
    | sub j' f' h' =>
      injection hz with e1 e2 e3 e4
      subst e1 e3 e4
      rw [ih h']

/-- The heap behind the call. -/
def afterL (G : NH) (nb : Nat) (ml : ML) (objs outs news : List NObj) : List (Nat × NObj) := wrs G (wl nb ml objs outs) ++ idxO nb news

theorem updL_app {κ α : Type} [DecidableEq κ] : ∀ (a b : List (κ × α)) (H : κ → α), updL H (a ++ b) = updL (updL H a) b
  | [], _, _ => rfl
  | (x, o) :: r, b, H => by simp [updL, updL_app r]

theorem updL_idxO : ∀ (l : List NObj) (i : Nat) (H : NH) (x : Nat), updL H (idxO i l) x = if i ≤ x ∧ x < i + l.length then (l[x - i]?).getD .free else H x
  | [], i, H, x => by simp [idxO, updL]; omega
  | o :: r, i, H, x => by
    rw [idxO, updL, updL_idxO r]
    by_cases e : x = i
    · subst e
      rw [if_neg (by omega), upd_same, if_pos (by simp)]
      simp
    · rw [upd_other _ _ e]
      by_cases h : i + 1 ≤ x ∧ x < i + 1 + r.length
      · rw [if_pos h, if_pos (by simp; omega)]
        obtain ⟨d, hd⟩ : ∃ d, x - i = d + 1 := ⟨x - i - 1, by omega⟩
        rw [hd, show x - (i + 1) = d by omega]; simp
      · rw [if_neg h, if_neg (by simp; omega)]

structure Ends (objs outs news : List NObj) : Prop where
  len : outs.length = objs.length
  out : ∀ (k : Nat) (o o' : NObj), objs[k]? = some o → outs[k]? = some o' → (o.own = true → Like o o') ∧ (o.own = false → o' = .free) ∧ o'.clO = true ∧ o'.tag = 0
  new : ∀ (k : Nat) (o : NObj), news[k]? = some o → o.own = true ∧ o.clO = true ∧ o.tag = 0
  few : news.length ≤ 8

theorem Like.trans0 {og o : NObj} (h : og.own = true) {nb : Nat} (hl : Like og.t0 o) : Like og (o.retag nb) := by
  cases og <;> simp [NObj.own] at h <;> cases o <;> simp_all [Like, NObj.t0, NObj.retag, t0LL_length]

set_option linter.unusedSectionVars false
section
variable (hc : Cames G ml objs) (hap : Apart ml objs) (hnm : Names ml nb) (hend : Ends objs outs news) (hnew : ∀ k, nb ≤ k → k < nb + 8 → G k = .free) (hG' : G' = updL G (afterL G nb ml objs outs news)) (hGf : Gf = hk (idxO 0 (outs ++ news))) (hm : m = objs.length)
include hc hap hnm hend hnew hG'

theorem ws_like : ∀ q ∈ wl nb ml objs outs, Like (getP G q.1) q.2 := fun q hq => by
  obtain ⟨k, i, o, o', h1, h2, h3, h4, h5⟩ := wl_mem hq
  have hs := hc.2 k _ o h1 h2
  simp only at hs
  have hl := (hend.out k o o' h2 h3).1 h4
  rw [h5]
  cases hs with
  | own h hcl => exact Like.trans0 h hl
  | row h _ _ => cases h4
  | one h _ => cases h4

/-- Names that a call leaves alone. -/
theorem after_far {x : Nm} (hr : ¬ (nb ≤ x.root ∧ x.root < nb + 8)) (hx : ∀ (k i : Nat) (p : Nm) (o : NObj), ml[k]? = some (some (p, i)) → objs[k]? = some o → o.own = true → ¬ pre p x) : HF G' x = HF G x := by
  have h1 := (wrs_get _ G (ws_like hc hap hnm hend hnew hG') (wl_pair hap)).2.1 x fun q hq => by
    obtain ⟨k, i, o, o', h1, h2, h3, h4, h5⟩ := wl_mem hq
    exact hx k i q.1 o h1 h2 h4
  rw [← h1, hG', afterL, updL_app]
  have : ∀ {y : Nm}, ¬ (nb ≤ y.root ∧ y.root < nb + 8) → getP (updL (updL G (wrs G (wl nb ml objs outs))) (idxO nb news)) y = getP (updL G (wrs G (wl nb ml objs outs))) y := fun {y} hy => getP_same (by rw [updL_idxO, if_neg]; have := hend.few; omega)
  unfold HF
  rw [this hr]

theorem after_came {k i : Nat} {p : Nm} {o o' : NObj} (h1 : ml[k]? = some (some (p, i))) (h2 : objs[k]? = some o) (h3 : outs[k]? = some o') (h4 : o.own = true) : getP G' p = o'.retag nb := by
  have := (wrs_get _ G (ws_like hc hap hnm hend hnew hG') (wl_pair hap)).1 _ (wl_of (nb := nb) h1 h2 h3 h4)
  rw [hG', afterL, updL_app]
  refine Eq.trans ?_ this
  exact getP_same (by
    have := hnm _ _ _ h1
    have := root_mx p
    rw [updL_idxO, if_neg (by omega)])

include hGf hm

/-- What stands behind the call where it wrote. -/
theorem after_get : ∀ x : Nm, getP G' x ≠ .free → (nb ≤ x.root ∧ x.root < nb + 8 ∨ ∃ (k i : Nat) (p : Nm) (o : NObj), ml[k]? = some (some (p, i)) ∧ objs[k]? = some o ∧ o.own = true ∧ pre p x) → ∃ z, Back G' Gf nb m ml objs x z ∧ (∃ t, getP G' x = (getP Gf z).retag t) ∧ (getP Gf z).clO = true ∧ ((x.mx < nb + 8 ∧ nb ≤ x.mx ∧ (getP G' x).tag = 0) ∨ ∃ (k i : Nat) (o : NObj), ml[k]? = some (some (x, i)) ∧ objs[k]? = some o ∧ o.own = true ∧ z = .top k) ∧ (getP Gf z).own = true
  | x, hne, hw => by
    have came : ∀ {k i : Nat} {o : NObj}, ml[k]? = some (some (x, i)) → objs[k]? = some o → o.own = true → ∃ z, Back G' Gf nb m ml objs x z ∧ (∃ t, getP G' x = (getP Gf z).retag t) ∧ (getP Gf z).clO = true ∧ ((x.mx < nb + 8 ∧ nb ≤ x.mx ∧ (getP G' x).tag = 0) ∨ ∃ (k i : Nat) (o : NObj), ml[k]? = some (some (x, i)) ∧ objs[k]? = some o ∧ o.own = true ∧ z = .top k) ∧ (getP Gf z).own = true := fun {k i o} h1 h2 h3 => by
      have hk := (List.getElem?_eq_some_iff.1 h2).1
      obtain ⟨oo, h4⟩ : ∃ oo, outs[k]? = some oo := ⟨_, List.getElem?_eq_getElem (by rw [hend.len]; exact hk)⟩
      have h5 := after_came hc hap hnm hend hnew hG' h1 h2 h4 h3
      have h6 : getP Gf (.top k) = oo := by
        rw [hGf, getP, hk_idx0, List.getElem?_append_left (by rw [hend.len]; exact hk), h4]; rfl
      refine ⟨.top k, .came h1 h2 h3, ⟨nb, by rw [h5, h6]⟩, by rw [h6]; exact (hend.out k o _ h2 h4).2.2.1, .inr ⟨k, i, o, h1, h2, h3, rfl⟩, ?_⟩
      rw [h6]
      have hl := (hend.out k o _ h2 h4).1 h3
      rw [h5] at hne
      cases o <;> cases oo <;> first | rfl | exact hl.elim | exact absurd rfl hne | (simp [NObj.own] at h3)
    by_cases hcm : ∃ (k i : Nat) (o : NObj), ml[k]? = some (some (x, i)) ∧ objs[k]? = some o ∧ o.own = true
    · obtain ⟨k, i, o, h1, h2, h3⟩ := hcm
      exact came h1 h2 h3
    cases x with
    | top n =>
      rcases hw with ⟨h1, h2⟩ | ⟨k, i, p, o, h1, h2, h3, h4⟩
      · simp only [Nm.root] at h1 h2
        have e : G' n = if nb ≤ n ∧ n < nb + news.length then (news[n - nb]?).getD .free else updL G (wrs G (wl nb ml objs outs)) n := by rw [hG', afterL, updL_app, updL_idxO]
        have hf : updL G (wrs G (wl nb ml objs outs)) n = .free := by
          have := (wrs_get _ G (ws_like hc hap hnm hend hnew hG') (wl_pair hap)).2.2 (.top n) fun q hq => by
            obtain ⟨k, i, o, o', g1, g2, g3, g4, g5⟩ := wl_mem hq
            have h7 := hnm _ _ _ g1
            have h8 := root_mx q.1
            refine ⟨fun h => ?_, fun h => ?_⟩
            · simp only [pre] at h
              rw [h] at h7
              simp only [Nm.mx] at h7
              omega
            · have h9 := pre_root.1 h
              omega
          rw [show updL G (wrs G (wl nb ml objs outs)) n = getP (updL G (wrs G (wl nb ml objs outs))) (.top n) from rfl, this]
          exact hnew n h1 h2
        rw [getP, e] at hne ⊢
        by_cases hlt : nb ≤ n ∧ n < nb + news.length
        · rw [if_pos hlt] at hne ⊢
          obtain ⟨o1, hg⟩ : ∃ o1, news[n - nb]? = some o1 := ⟨_, List.getElem?_eq_getElem (by omega)⟩
          have h6 : getP Gf (.top (m + (n - nb))) = o1 := by
            rw [hGf, getP, hk_idx0, List.getElem?_append_right (by rw [hend.len]; omega), hend.len, show m + (n - nb) - objs.length = n - nb by omega, hg]; rfl
          have hnw := hend.new _ _ hg
          refine ⟨.top (m + (n - nb)), ?_, ⟨0, ?_⟩, by rw [h6]; exact hnw.2.1, .inl ⟨h2, h1, by rw [hg]; exact hnw.2.2⟩, by rw [h6]; exact hnw.1⟩
          · have := Back.new (G' := G') (Gf := Gf) (nb := nb) (m := m) (ml := ml) (objs := objs) (n - nb)
            rw [show nb + (n - nb) = n by omega] at this
            exact this
          · rw [hg, h6, Option.getD_some]
            have := hnw.2.2
            clear hg h6 hnw
            cases o1 <;> simp only [NObj.tag] at this <;> simp [NObj.retag, this]
        · rw [if_neg hlt, hf] at hne; exact absurd rfl hne
      · simp only [pre] at h4
        subst h4
        exact absurd ⟨k, i, o, h1, h2, h3⟩ hcm
    | sub y t j f =>
      have hgy : getP G' y ≠ .free := fun e => hne (by rw [getP, e]; simp [kid, elemN])
      have hwy : nb ≤ y.root ∧ y.root < nb + 8 ∨ ∃ (k i : Nat) (p : Nm) (o : NObj), ml[k]? = some (some (p, i)) ∧ objs[k]? = some o ∧ o.own = true ∧ pre p y := by
        rcases hw with hw | ⟨k, i, p, o, h1, h2, h3, h4⟩
        · exact .inl hw
        · rcases h4 with h4 | h4
          · subst h4; exact absurd ⟨k, i, o, h1, h2, h3⟩ hcm
          · exact .inr ⟨k, i, p, o, h1, h2, h3, h4⟩
      obtain ⟨z, b1, ⟨ty, b2⟩, b3, b4, b5⟩ := after_get y hgy hwy
      have hzne : getP Gf z ≠ .free := fun e => hgy (by rw [b2, e]; rfl)
      have htag : (getP G' y).tag = t := by
        by_cases e : (getP G' y).tag = t
        · exact e
        · exact absurd (kid_tag e) hne
      have hty : ty = t := by rw [b2, retag_tag ty hzne] at htag; exact htag
      have key : getP G' (.sub y t j f) = getP Gf (.sub z (getP Gf z).tag j f) := by
        rw [getP, getP, b2, ← hty, retag_kid ty hzne]
      have hcl : (kid (getP Gf z) (getP Gf z).tag j f).clO = true := cl_kid (fun j c v f hc hv hp => clL_get (clO_elem b3 hc) hv) _ j f
      have hkne : kid (getP Gf z) (getP Gf z).tag j f ≠ .free := by rw [key] at hne; exact hne
      refine ⟨.sub z (getP Gf z).tag j f, by rw [← htag]; exact .sub j f b1, ⟨(getP G' (.sub y t j f)).tag, ?_⟩, hcl, .inl ?_, ?_⟩
      · rw [← key]; cases getP G' (.sub y t j f) <;> rfl
      · simp only [Nm.mx]
        have htx : (getP G' (.sub y t j f)).tag = 0 := by rw [key]; exact cl_kid_tag b3 _ _ _
        rcases b4 with ⟨b4, b4', b4''⟩ | ⟨k, i, o, g1, g2, g3, g4⟩
        · rw [htag] at b4''
          exact ⟨by omega, by omega, htx⟩
        · have := hnm _ _ _ g1
          have : t = nb := by
            have hk := (List.getElem?_eq_some_iff.1 g2).1
            obtain ⟨oo, h4⟩ : ∃ oo, outs[k]? = some oo := ⟨_, List.getElem?_eq_getElem (by rw [hend.len]; exact hk)⟩
            have h5 := after_came hc hap hnm hend hnew hG' g1 g2 h4 g3
            have hon : oo ≠ .free := fun e => hgy (by rw [h5, e]; rfl)
            rw [h5, retag_tag nb hon] at htag
            exact htag.symm
          exact ⟨by omega, by omega, htx⟩
      · have : ∀ {o : NObj} {t j f}, o.own = true → kid o t j f ≠ .free → (kid o t j f).own = true := fun {o t j f} ho hk => by
          unfold kid at hk ⊢
          split at hk
          · rename_i h
            rw [if_pos h]
            cases he : elemN o j with
            | none => rw [he] at hk; exact absurd rfl hk
            | some c =>
              rw [he] at hk
              simp only [kidC] at hk ⊢
              cases hv : c[f]? with
              | none => rw [hv] at hk; exact absurd rfl hk
              | some v =>
                rw [hv] at hk
                simp only at hk ⊢
                have hro : o.ro = false := by cases o <;> simp_all [NObj.own, NObj.ro]
                rw [hro] at hk ⊢
                cases v <;> simp only [kidV] at hk ⊢ <;> first | exact absurd rfl hk | rfl
          · exact absurd rfl hk
        exact this b5 hkne
end
end
end Go.W
