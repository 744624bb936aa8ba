/- An object that a cell names comes to be owned by that cell. -/
import Derived.Test.YtmbploeikjangaaGreatWQ
set_option linter.unusedSimpArgs false
set_option linter.unusedVariables false
namespace Go.W

def NObj.retag (t : Nat) : NObj → NObj
  | .free => .free
  | .cells _ c => .cells t c
  | .arr _ sz els => .arr t sz els
  | .view _ sz els => .view t sz els

def newcell : NObj → AV
  | .arr _ sz els => .os 0 sz els
  | .cells _ c => .op 0 c
  | _ => .bot

theorem OLe.refl (ρ : Env) (o : AObj) : OLe ρ ρ o o := by
  cases o with
  | free => exact .free _
  | cells c => exact .cells (CLe.refl _ _)
  | arr sz n f => exact .arr fun _ _ => CLe.refl _ _
  | view sz n f => exact .view fun _ _ => CLe.refl _ _

theorem retag_elem (t : Nat) (o : NObj) (j : Nat) : elemN (o.retag t) j = elemN o j := by cases o <;> rfl
theorem retag_ro (t : Nat) (o : NObj) : (o.retag t).ro = o.ro := by cases o <;> rfl
theorem retag_tag (t : Nat) {o : NObj} (h : o ≠ .free) : (o.retag t).tag = t := by cases o <;> first | rfl | exact absurd rfl h
theorem retag_kid (t : Nat) {o : NObj} (h : o ≠ .free) (j f : Nat) : kid (o.retag t) t j f = kid o o.tag j f :=
  kid_elem (retag_tag t h) rfl (retag_ro t o) (retag_elem t o j) f
theorem own_ne {o : NObj} (h : o.own = true) : o ≠ .free := by intro e; rw [e] at h; cases h

/-- One content, under two owners. -/
theorem ole_same {ρ : Env} {x y : Nm} {o : NObj} (t' : Nat) (hk : ∀ (a b : Nat) (c : List AV) (v : AV), elemN o a = some c → c[b]? = some v → v.plain = false → ρ (.sub x t' a b) = ρ (.sub y o.tag a b)) : OLe ρ ρ (flO y o) (flO x (o.retag t')) := by
  cases o with
  | free => exact .free _
  | cells t c => exact .cells (flC_cle (fun v _ _ u hu => hu) fun f v hv hp => hk 0 f c v (by simp [elemN]) hv hp)
  | arr t z l =>
    refine .arr fun i hi => flC_cle (fun v _ _ u hu => hu) fun f v hv hpv => ?_
    rw [List.getD_eq_getElem?_getD, List.getElem?_eq_getElem hi, Option.getD_some] at hv
    exact hk i f _ v (by simp [elemN, hi]) hv hpv
  | view t z l =>
    refine .view fun i hi => flC_cle (fun v _ _ u hu => hu) fun f v hv hpv => ?_
    rw [List.getD_eq_getElem?_getD, List.getElem?_eq_getElem hi, Option.getD_some] at hv
    exact hk i f _ v (by simp [elemN, hi]) hv hpv

section
variable {w0 : World} {S : Sc} {Es : Env → Prop} {U U' : Nm → Prop} {T : Nat → AV} {G G' : NH} {a : Act} {w : World}

/-- New names stand for what others stood for. -/
theorem Sat.graft (h : Sat w0 S Es U T (HF G) a w) (φ : Nm → Option Nm) (hdom : ∀ x y, φ x = some y → U x ∧ ¬ U' x ∧ ¬ U' y ∧ φ y = none) (hU : ∀ x, U' x → U x)
    (hob : ∀ x, HF G' x ≠ .free → HF G ((φ x).getD x) ≠ .free ∧ ∀ ρ, Es ρ → (∀ x y, φ x = some y → ρ x = ρ y) → OLe ρ ρ (HF G ((φ x).getD x)) (HF G' x)) (hfree : ∀ x, U' x → HF G' x = .free)
    (hinj : ∀ x x', HF G' x ≠ .free → HF G' x' ≠ .free → (φ x).getD x = (φ x').getD x' → x = x') : Sat w0 S (fun ρ => Es ρ ∧ ∀ x y, φ x = some y → ρ x = ρ y) U' T (HF G') a w where
  ne := by
    obtain ⟨ρ0, h0⟩ := h.ne
    refine ⟨fun x => ρ0 ((φ x).getD x), h.cl ρ0 _ h0 fun x hx => ?_, fun x y hxy => ?_⟩
    · cases e : φ x with
      | none => rfl
      | some y => exact absurd (hdom x y e).1 hx
    · simp only [hxy, (hdom x y hxy).2.2.2, Option.getD_some, Option.getD_none]
  cl := fun ρ ρ' ⟨h1, h2⟩ he => ⟨h.cl ρ ρ' h1 fun x hx => he x fun hu => hx (hU x hu), fun x y hxy => by
    obtain ⟨_, d2, d3, _⟩ := hdom x y hxy
    rw [he x d2, he y d3]; exact h2 x y hxy⟩
  fr := hfree
  pin := fun ρ ρ' ⟨h1, h2⟩ ⟨h3, h4⟩ x hx => by
    have hn := (hob x hx).1
    have := h.pin ρ ρ' h1 h3 _ hn
    cases e : φ x with
    | none => simpa [e] using this
    | some y => rw [h2 x y e, h4 x y e]; simpa [e] using this
  tm := fun ρ ⟨h1, _⟩ t ht => h.tm ρ h1 t ht
  hp := fun ρ ⟨h1, h2⟩ => by
    refine (h.hp ρ h1).ole (fun x => (φ x).getD x) (fun x => ?_) (fun x hx => ?_) (fun x y hx hy e => hinj x y hx hy e) (h.hp ρ h1).an
    · by_cases e : HF G' x = .free
      · rw [e]; exact .free _
      · exact (hob x e).2 ρ h1 h2
    · cases e : φ x with
      | none => rfl
      | some y => exact h2 x y e

end

/-- What a name below a grafted cell was. -/
def gmap (p : Nm) (tp nb j f k tk : Nat) : Nm → Option Nm
  | .top _ => none
  | .sub y t a b => if y = p ∧ t = nb then (if a = j ∧ b = f then some (.top k) else some (.sub p tp a b))
    else match gmap p tp nb j f k tk y with
      | some z => some (.sub z (if y = .sub p nb j f then tk else t) a b)
      | none => none

theorem gmap_range {p : Nm} {tp nb j f k tk : Nat} : ∀ {x z : Nm}, gmap p tp nb j f k tk x = some z → (pre p x ∧ x ≠ p ∧ nb ≤ x.mx) ∧ (pre (.top k) z ∨ (∃ a b, pre (.sub p tp a b) z))
  | .top n, z, h => by cases h
  | .sub y t a b, z, h => by
    simp only [gmap] at h
    have nself : ∀ {y : Nm}, Nm.sub y t a b ≠ y := fun {y} e => by have := congrArg depth e; simp [depth] at this
    split at h
    · rename_i hc
      obtain ⟨rfl, rfl⟩ := hc
      refine ⟨⟨.inr (pre_refl _), nself, by simp only [Nm.mx]; omega⟩, ?_⟩
      split at h
      · injection h with h; subst h; exact .inl (pre_refl _)
      · injection h with h; subst h; exact .inr ⟨a, b, pre_refl _⟩
    · split at h
      · rename_i z' hz
        injection h with h
        subst h
        obtain ⟨⟨h1, h2, h3⟩, h4⟩ := gmap_range hz
        refine ⟨⟨.inr h1, fun e => ?_, by simp only [Nm.mx]; omega⟩, ?_⟩
        · have := pre_depth h1
          rw [← e] at this
          simp only [depth] at this
          omega
        · rcases h4 with h4 | ⟨a', b', h4⟩
          · exact .inl (.inr h4)
          · exact .inr ⟨a', b', .inr h4⟩
      · cases h

/-- The heap in which the cell owns the object. -/
def absorbG (G : NH) (nb : Nat) (p : Nm) (j f k : Nat) : List (Nat × NObj) := [(k, .free), wr G p ((putKid (getP G p) j f (newcell (G k))).retag nb)]

section
variable {G : NH} {nb k j f : Nat} {p : Nm} {c : List AV} {v : AV}

def namesObj (v : AV) (k : Nat) (o : NObj) : Prop := (∃ t sz els, v = .sl (.top k) 0 els.length ∧ o = .arr t sz els) ∨ (∃ t cs, v = .ptr (.top k) 0 0 ∧ o = .cells t cs)

theorem namesObj.kid {o : NObj} (h : namesObj v k o) : kidV false (newcell o) = o.retag 0 := by
  rcases h with ⟨t, sz, els, _, rfl⟩ | ⟨t, cs, _, rfl⟩ <;> rfl

theorem namesObj.ne {o : NObj} (h : namesObj v k o) : o ≠ .free := by
  rcases h with ⟨t, sz, els, _, rfl⟩ | ⟨t, cs, _, rfl⟩ <;> simp

/-- What stands below. -/
theorem graft_get (hown : (getP G p).own = true) (hc : elemN (getP G p) j = some c) (hv : c[f]? = some v) (hk : namesObj v k (G k)) (hr : p.root ≠ k) (G' : NH) (hG' : G' = updL G (absorbG G nb p j f k)) :
    getP G' p = (putKid (getP G p) j f (newcell (G k))).retag nb ∧ (∀ x : Nm, x.root = k → getP G' x = .free) ∧ (∀ x, ¬ pre p x → x.root ≠ k → HF G' x = HF G x) ∧
    ∀ x, pre p x → x ≠ p → getP G' x ≠ .free → ∃ z, gmap p (getP G p).tag nb j f k (G k).tag x = some z ∧ getP G z ≠ .free ∧ x.mx ≤ max (max nb p.mx) z.mx ∧ (x = .sub p nb j f → z = .top k ∧ getP G' x = (G k).retag 0) ∧ (x ≠ .sub p nb j f → getP G' x = getP G z) := by
  have hlike : Like (getP (upd G k .free) p) ((putKid (getP G p) j f (newcell (G k))).retag nb) := by
    rw [getP_other hr]
    cases ho : getP G p <;> rw [ho] at hown <;> simp_all [NObj.own, putKid, NObj.retag, Like]
  have hwr : wr (upd G k .free) p ((putKid (getP G p) j f (newcell (G k))).retag nb) = wr G p ((putKid (getP G p) j f (newcell (G k))).retag nb) := wr_same (by rw [upd_other _ _ hr])
  obtain ⟨a1, a2, a3⟩ := wr_get (upd G k .free) p _ hlike
  rw [hwr] at a1 a2 a3
  have e0 : upd (upd G k .free) (wr G p ((putKid (getP G p) j f (newcell (G k))).retag nb)).1 (wr G p ((putKid (getP G p) j f (newcell (G k))).retag nb)).2 = G' := by rw [hG']; rfl
  rw [e0] at a1 a2 a3
  have hkfree : G' k = .free := by
    rw [← e0, upd_other _ _ (by rw [wr_root]; exact fun e => hr e.symm), upd_same]
  refine ⟨a1, fun x hx => getP_free hkfree hx, fun x h1 h2 => ?_, fun x => ?_⟩
  · rw [a2 x h1]; unfold HF; rw [getP_other h2]
  · induction x with
    | top n => intro hx hne; simp only [pre] at hx; exact absurd hx.symm hne
    | sub y t a b ih =>
      intro hx hne hg
      have hy : pre p y := by
        rcases hx with hx | hx
        · exact absurd hx.symm hne
        · exact hx
      have hpk : (putKid (getP G p) j f (newcell (G k))) ≠ .free := by
        intro e
        have := putKid_like (v := newcell (G k)) (j := j) (f := f) hown
        rw [e] at this
        cases ho : getP G p <;> rw [ho] at e <;> simp_all [putKid, NObj.own]
      by_cases e : y = p
      · subst e
        have hg0 := hg
        rw [getP, a1] at hg
        have ht : t = nb := by
          by_cases et : t = nb
          · exact et
          · exact absurd (kid_tag (by rw [retag_tag nb hpk]; exact fun e => et e.symm)) hg
        subst ht
        have key : getP G' (.sub y t a b) = if a = j ∧ b = f then (G k).retag 0 else kid (getP G y) (getP G y).tag a b := by
          rw [getP, a1, retag_kid t hpk, putKid_tag, putKid_kid hown hc hv, hk.kid]
        by_cases hab : a = j ∧ b = f
        · obtain ⟨rfl, rfl⟩ := hab
          rw [if_pos ⟨rfl, rfl⟩] at key
          refine ⟨.top k, by simp [gmap], hk.ne, ?_, fun _ => ⟨rfl, key⟩, fun h => absurd rfl h⟩
          simp only [Nm.mx]
          omega
        · rw [if_neg hab] at key
          refine ⟨.sub y (getP G y).tag a b, by simp [gmap, hab], ?_, by simp only [Nm.mx]; omega, fun h => ?_, fun _ => key⟩
          · rw [getP, ← key]; exact hg0
          · injection h with _ _ h3 h4; exact absurd ⟨h3, h4⟩ hab
      · have hgy : getP G' y ≠ .free := fun e => hg (by rw [getP, e]; simp [kid, elemN])
        obtain ⟨z, i1, i2, i3, i4, i5⟩ := ih hy e hgy
        by_cases eq : y = .sub p nb j f
        · obtain ⟨hz, q4⟩ := i4 eq
          subst hz
          have hg1 := hg
          rw [getP, q4] at hg1
          have ht : t = 0 := by
            by_cases et : t = 0
            · exact et
            · exact absurd (kid_tag (by rw [retag_tag 0 hk.ne]; exact fun e => et e.symm)) hg1
          subst ht
          have key : getP G' (.sub y 0 a b) = getP G (.sub (.top k) (G k).tag a b) := by
            rw [getP, q4, retag_kid 0 hk.ne]; rfl
          refine ⟨.sub (.top k) (G k).tag a b, by simp only [gmap, i1]; rw [if_neg (fun h => e h.1), if_pos eq], by rw [← key]; exact hg, by simp only [Nm.mx] at i3 ⊢; omega, fun h => ?_, fun _ => key⟩
          have := congrArg depth h
          rw [eq] at this
          simp [depth] at this
        · have i5 := i5 eq
          have key : getP G' (.sub y t a b) = getP G (.sub z t a b) := by rw [getP, i5]; rfl
          refine ⟨.sub z t a b, by simp only [gmap, i1]; rw [if_neg (fun h => e h.1), if_neg eq], by rw [← key]; exact hg, by simp only [Nm.mx] at i3 ⊢; omega, fun h => ?_, fun _ => key⟩
          injection h with h1; exact absurd h1 e

theorem gmap_inj {G' : NH} (hr : p.root ≠ k) (h0 : ∀ t a b, getP G' (.sub (.sub p nb j f) t a b) ≠ .free → t = 0) {tp tk : Nat} : ∀ {x x' z : Nm}, gmap p tp nb j f k tk x = some z → gmap p tp nb j f k tk x' = some z → getP G' x ≠ .free → getP G' x' ≠ .free → x = x'
  | .top n, _, _, h, _, _, _ => by cases h
  | .sub y t a b, .top n, _, _, h, _, _ => by cases h
  | .sub y t a b, .sub y' t' a' b', z, h, h', g, g' => by
    have gy : getP G' y ≠ .free := fun e => g (by rw [getP, e]; simp [kid, elemN])
    have gy' : getP G' y' ≠ .free := fun e => g' (by rw [getP, e]; simp [kid, elemN])
    have notp : ∀ {y z : Nm}, gmap p tp nb j f k tk y = some z → z ≠ p := fun {y z} h e => by
      subst e
      rcases (gmap_range h).2 with h | ⟨a, b, h⟩
      · exact hr (pre_root.1 h)
      · have := pre_depth h; simp only [depth] at this; omega
    have mixed : ∀ {y t a b y' t' a' b' z}, y = p ∧ t = nb → ¬ (y' = p ∧ t' = nb) → gmap p tp nb j f k tk (.sub y t a b) = some z → gmap p tp nb j f k tk (.sub y' t' a' b') = some z → False := fun {y t a b y' t' a' b' z} hc hc' h h' => by
      simp only [gmap, if_pos hc] at h
      simp only [gmap, if_neg hc'] at h'
      split at h'
      · rename_i z' hz'
        injection h' with h'
        split at h
        · injection h with h; rw [← h'] at h; cases h
        · injection h with h
          rw [← h'] at h
          injection h with h1
          exact notp hz' h1.symm
      · cases h'
    by_cases hc : y = p ∧ t = nb
    · by_cases hc' : y' = p ∧ t' = nb
      · simp only [gmap, if_pos hc] at h
        simp only [gmap, if_pos hc'] at h'
        obtain ⟨rfl, rfl⟩ := hc
        obtain ⟨rfl, rfl⟩ := hc'
        split at h
        · rename_i q
          split at h'
          · rename_i q'; rw [q.1, q.2, q'.1, q'.2]
          · injection h with h; injection h' with h'; rw [← h] at h'; cases h'
        · split at h'
          · injection h with h; injection h' with h'; rw [← h'] at h; cases h
          · injection h with h; injection h' with h'; rw [← h'] at h; injection h with _ _ h3 h4; rw [h3, h4]
      · exact (mixed hc hc' h h').elim
    · by_cases hc' : y' = p ∧ t' = nb
      · exact (mixed hc' hc h' h).elim
      · simp only [gmap, if_neg hc] at h
        simp only [gmap, if_neg hc'] at h'
        split at h
        · rename_i z1 e1
          split at h'
          · rename_i z2 e2
            injection h with h
            injection h' with h'
            rw [← h'] at h
            injection h with h1 h2 h3 h4
            subst h1
            have := gmap_inj hr h0 e1 e2 gy gy'
            subst this
            by_cases eq : y = .sub p nb j f
            · subst eq
              rw [h0 _ _ _ g, h0 _ _ _ g', h3, h4]
            · rw [if_neg eq, if_neg eq] at h2
              rw [h2, h3, h4]
          · cases h'
        · cases h

end

section
variable {w0 : World} {S : Sc} {N : Nat} {D : List Deferred} {s : St}

set_option maxHeartbeats 1000000 in
/-- AN OBJECT COMES TO BE OWNED by a cell that names it. -/
theorem SatS.absorb {a : Act} {w : World} (h : SatS w0 S N D s a w) (p : Nm) (j f k : Nat) {c : List AV} {v : AV} (hown : (getP (hk s.hl) p).own = true) (hc : elemN (getP (hk s.hl) p) j = some c) (hv : c[f]? = some v) (hn : namesObj v k (hk s.hl k)) (hr : p.root ≠ k) :
    SatS w0 S N D ⟨s.tl, updH s.hl (absorbG (hk s.hl) s.nb p j f k), s.nb + 1⟩ a w := by
  obtain ⟨Es, hs⟩ := h.sat
  generalize hG : hk s.hl = G at hs hown hc hv hn ⊢
  generalize hG' : hk (updH s.hl (absorbG G s.nb p j f k)) = G'
  have hG2 : G' = updL G (absorbG G s.nb p j f k) := by rw [← hG', updH_eq, hG]
  obtain ⟨b1, b2, b3, b4⟩ := graft_get (nb := s.nb) hown hc hv hn hr G' hG2
  have valid : ∀ {x : Nm}, getP G x ≠ .free → x.mx < s.nb := fun {x} hx => by
    rcases Nat.lt_or_ge x.mx s.nb with h | h
    · exact h
    · exact absurd (HF_free.1 (hs.fr x h)) hx
  have hpm : p.mx < s.nb := valid (own_ne hown)
  have hpk : (putKid (getP G p) j f (newcell (G k))) ≠ .free := by
    intro e
    cases ho : getP G p <;> rw [ho] at e hown <;> simp_all [putKid, NObj.own]
  have tagp : ∀ t a b, kid (getP G' p) t a b ≠ .free → t = s.nb := fun t a b hk => by
    rw [b1] at hk
    by_cases et : t = s.nb
    · exact et
    · exact absurd (kid_tag (by rw [retag_tag _ hpk]; exact fun e => et e.symm)) hk
  let φ : Nm → Option Nm := fun x => if (getP G' x).isFree = true then none else gmap p (getP G p).tag s.nb j f k (G k).tag x
  have φv : ∀ {x : Nm}, getP G' x ≠ .free → φ x = gmap p (getP G p).tag s.nb j f k (G k).tag x := fun {x} hx => if_neg (fun e => hx (isFree_iff.1 e))
  have φs : ∀ {x y : Nm}, φ x = some y → getP G' x ≠ .free ∧ gmap p (getP G p).tag s.nb j f k (G k).tag x = some y := fun {x y} hxy => by
    by_cases e : (getP G' x).isFree = true
    · have : φ x = none := if_pos e
      rw [this] at hxy; cases hxy
    · have hx : getP G' x ≠ .free := fun e' => e (isFree_iff.2 e')
      exact ⟨hx, by rw [← φv hx]; exact hxy⟩
  have old : ∀ {y : Nm}, getP G y ≠ .free → (pre (.top k) y ∨ ∃ a b, pre (.sub p (getP G p).tag a b) y) → getP G' y = .free := fun {y} hy hh => by
    rcases hh with hh | ⟨a, b, hh⟩
    · exact b2 y (pre_root.1 hh)
    · have hq : getP G (.sub p (getP G p).tag a b) ≠ .free := fun e => hy (below_free e hh)
      have htp : (getP G p).tag < s.nb := by have := valid hq; simp only [Nm.mx] at this; omega
      refine below_free ?_ hh
      rw [getP]
      by_cases e : kid (getP G' p) (getP G p).tag a b = .free
      · exact e
      · have := tagp _ _ _ e; omega
  have h00 : ∀ t a b, getP G' (.sub (.sub p s.nb j f) t a b) ≠ .free → t = 0 := fun t a b hg => by
    have hq : getP G' (.sub p s.nb j f) ≠ .free := fun e => hg (by rw [getP, e]; simp [kid, elemN])
    obtain ⟨z, _, _, _, i4, _⟩ := b4 (.sub p s.nb j f) (Or.inr (pre_refl _)) (fun e => by have := congrArg depth e; simp [depth] at this) hq
    obtain ⟨_, i4⟩ := i4 rfl
    rw [getP, i4] at hg
    by_cases et : t = 0
    · exact et
    · exact absurd (kid_tag (by rw [retag_tag 0 hn.ne]; exact fun e => et e.symm)) hg
  have below : ∀ {x : Nm}, φ x ≠ none → pre p x ∧ x ≠ p := fun {x} hx => by
    cases e : φ x with
    | none => exact absurd e hx
    | some y => have := (gmap_range (φs e).2).1; exact ⟨this.1, this.2.1⟩
  suffices hfin : ∃ Es', Sat w0 S Es' (fun x : Nm => s.nb + 1 ≤ x.mx) (lk s.tl) (HF G') a w by
    rw [← hG'] at hfin
    exact ⟨hfin, h.size, h.defers⟩
  refine ⟨_, hs.graft (G' := G') (U' := fun x : Nm => s.nb + 1 ≤ x.mx) φ (fun x y hxy => ?_) (fun x hx => by show s.nb ≤ x.mx; omega) (fun x hx => ?_) (fun x hx => ?_) (fun x x' hx hx' e => ?_)⟩
  · obtain ⟨hx, hg⟩ := φs hxy
    obtain ⟨⟨r1, r2, r3⟩, r4⟩ := gmap_range hg
    obtain ⟨z, i1, i2, i3, _⟩ := b4 x r1 r2 hx
    rw [hg] at i1
    injection i1 with i1
    subst i1
    have hym := valid i2
    refine ⟨r3, by omega, by omega, if_pos (isFree_iff.2 (old i2 r4))⟩
  · have hx' : getP G' x ≠ .free := fun e => hx (HF_free.2 e)
    by_cases hpx : pre p x ∧ x ≠ p
    · obtain ⟨z, i1, i2, i3, i4, i5⟩ := b4 x hpx.1 hpx.2 hx'
      have e : φ x = some z := by rw [φv hx']; exact i1
      rw [e, Option.getD_some]
      refine ⟨fun e => i2 (HF_free.1 e), fun ρ hρ hg => ?_⟩
      have kids : ∀ t t' a b, getP G' (.sub x t a b) ≠ .free → (if x = .sub p s.nb j f then (G k).tag else t) = t' → ρ (.sub x t a b) = ρ (.sub z t' a b) := fun t t' a b hk ht' => by
        refine hg _ _ ?_
        rw [φv hk]
        simp only [gmap, i1]
        rw [if_neg (fun h => hpx.2 h.1), ht']
      by_cases eq : x = .sub p s.nb j f
      · obtain ⟨hz, q4⟩ := i4 eq
        subst hz
        have e1 : HF G' x = flO x ((G k).retag 0) := by unfold HF; rw [q4]
        have e2 : HF G (.top k) = flO (.top k) (G k) := rfl
        rw [e1, e2]
        refine ole_same 0 fun a b c v hc hv hp => kids 0 (G k).tag a b ?_ (if_pos eq)
        rw [getP, q4, retag_kid 0 hn.ne]
        unfold kid
        rw [if_pos rfl, hc]
        simp only [kidC, hv]
        cases v <;> simp only [AV.plain, Bool.true_eq_false] at hp <;> simp only [kidV] <;> split <;> simp
      · have i5 := i5 eq
        have e1 : HF G' x = flO x ((getP G z).retag (getP G z).tag) := by
          unfold HF; rw [i5]; congr 1; cases getP G z <;> rfl
        rw [e1]
        refine ole_same _ fun a b c v hc hv hp => kids _ _ a b ?_ (if_neg eq)
        rw [getP, i5]
        unfold kid
        rw [if_pos rfl, hc]
        simp only [kidC, hv]
        cases v <;> simp only [AV.plain, Bool.true_eq_false] at hp <;> simp only [kidV] <;> split <;> simp
    · have e : φ x = none := by
        by_cases e : φ x = none
        · exact e
        · exact absurd (below e) hpx
      rw [e, Option.getD_none]
      by_cases exp : x = p
      · subst exp
        have hne : HF G x ≠ .free := fun e => own_ne hown (HF_free.1 e)
        refine ⟨hne, fun ρ hρ hg => ?_⟩
        have e1 : HF G' x = flO x ((putKid (getP G x) j f (newcell (G k))).retag s.nb) := by unfold HF; rw [b1]
        have e2 : HF G x = flO x (getP G x) := rfl
        rw [e1, e2]
        have kidq : ∀ a b, kid (getP G' x) s.nb a b = if a = j ∧ b = f then (G k).retag 0 else kid (getP G x) (getP G x).tag a b := fun a b => by
          rw [b1, retag_kid s.nb hpk, putKid_tag, putKid_kid hown hc hv, hn.kid]
        have cell : ∀ i d, elemN (getP G x) i = some d → CLe ρ ρ (flC x (getP G x).tag i d) (flC x s.nb i (if i = j then d.set f (newcell (G k)) else d)) := fun i d hd => by
          refine ⟨by split <;> simp, fun b v' hv' => ?_⟩
          rw [flC_get] at hv' ⊢
          cases hdb : d[b]? with
          | none =>
            have hlt := List.getElem?_eq_none_iff.1 hdb
            rw [List.getElem?_eq_none (by split <;> simpa using hlt)] at hv'
            cases hv'
          | some u =>
            have hlt := (List.getElem?_eq_some_iff.1 hdb).1
            refine ⟨_, rfl, fun z hz => ?_⟩
            by_cases hab : i = j ∧ b = f
            · obtain ⟨rfl, rfl⟩ := hab
              rw [hc] at hd
              injection hd with hd
              subst hd
              rw [hv] at hdb
              injection hdb with hdb
              subst hdb
              rw [if_pos rfl, List.getElem?_set, if_pos rfl, if_pos hlt] at hv'
              simp only [Option.map_some, Option.some.injEq] at hv'
              subst hv'
              have hkn : getP G' (.sub x s.nb i b) ≠ .free := by
                rw [getP, kidq, if_pos ⟨rfl, rfl⟩]
                intro e; have := hn.ne; cases hgk : G k <;> rw [hgk] at e this <;> simp [NObj.retag] at e this
              have hρq : ρ (.sub x s.nb i b) = ρ (.top k) := hg _ _ (by rw [φv hkn]; simp [gmap])
              rcases hn with ⟨t, sz, els, rfl, hgk⟩ | ⟨t, cs, rfl, hgk⟩
              · rw [hgk]; simp only [newcell, flV, Rep] at hz ⊢; rw [hρq]; exact hz
              · rw [hgk]; simp only [newcell, flV, Rep] at hz ⊢; rw [hρq]; exact hz
            · have e3 : (if i = j then d.set f (newcell (G k)) else d)[b]? = some u := by
                split
                · rename_i eij
                  rw [List.getElem?_set, if_neg (fun e => hab ⟨eij, e.symm⟩)]; exact hdb
                · exact hdb
              rw [e3] at hv'
              simp only [Option.map_some, Option.some.injEq] at hv'
              subst hv'
              cases hp : u.plain with
              | true => rw [flV_plain hp] at hz ⊢; exact hz
              | false =>
                have hkn : getP G' (.sub x s.nb i b) ≠ .free := by
                  rw [getP, kidq, if_neg hab]
                  unfold kid
                  rw [if_pos rfl, hd]
                  simp only [kidC, hdb]
                  cases u <;> simp only [AV.plain, Bool.true_eq_false] at hp <;> simp only [kidV] <;> split <;> simp
                have hρq : ρ (.sub x s.nb i b) = ρ (.sub x (getP G x).tag i b) := hg _ _ (by rw [φv hkn]; simp [gmap, hab])
                cases u <;> simp only [AV.plain, Bool.true_eq_false] at hp
                · simp only [flV, Rep] at hz ⊢; rw [hρq]; exact hz
                · simp only [flV, Rep] at hz ⊢; rw [hρq]; exact hz
        cases ho : getP G x with
        | free => rw [ho] at hown; cases hown
        | view t z l => rw [ho] at hown; cases hown
        | cells t d =>
          rw [ho] at cell
          have := cell 0 d (by simp [elemN])
          simp only [putKid, NObj.retag, flO]
          refine .cells ?_
          by_cases ej : j = 0
          · subst ej; rw [if_pos rfl] at this ⊢; exact this
          · rw [if_neg (fun e => ej e.symm)] at this; rw [if_neg ej]; exact this
        | arr t z l =>
          rw [ho] at cell hc
          simp only [elemN] at hc
          simp only [putKid, NObj.retag, flO, List.length_set]
          refine .arr fun i hi => ?_
          have := cell i l[i] (by simp [elemN, hi])
          rw [List.getD_eq_getElem?_getD, List.getD_eq_getElem?_getD, List.getD_eq_getElem?_getD, List.getElem?_eq_getElem hi, Option.getD_some, List.getElem?_set, hc, Option.getD_some]
          by_cases ej : j = i
          · subst ej
            rw [if_pos rfl, if_pos hi, Option.getD_some]
            rw [if_pos rfl] at this
            have e5 : l[j] = c := by rw [List.getElem?_eq_getElem hi] at hc; injection hc
            rw [e5] at this ⊢
            exact this
          · rw [if_neg ej, List.getElem?_eq_getElem hi, Option.getD_some]
            rw [if_neg (fun e => ej e.symm)] at this
            exact this
      · have hnp : ¬ pre p x := fun hh => hpx ⟨hh, exp⟩
        have hrk : x.root ≠ k := fun e => hx' (b2 x e)
        rw [b3 x hnp hrk] at hx ⊢
        exact ⟨hx, fun ρ _ _ => OLe.refl _ _⟩
  · refine HF_free.2 ?_
    by_cases e : getP G' x = .free
    · exact e
    · exfalso
      have hx : s.nb + 1 ≤ x.mx := hx
      by_cases hpx : pre p x ∧ x ≠ p
      · obtain ⟨z, _, i2, i3, _⟩ := b4 x hpx.1 hpx.2 e
        have := valid i2
        omega
      · by_cases exp : x = p
        · subst exp; omega
        · have hnp : ¬ pre p x := fun hh => hpx ⟨hh, exp⟩
          have hrk : x.root ≠ k := fun h => e (b2 x h)
          have : getP G x ≠ .free := fun h => e (HF_free.1 (by rw [b3 x hnp hrk]; exact HF_free.2 h))
          have := valid this
          omega
  · have hx1 : getP G' x ≠ .free := fun e => hx (HF_free.2 e)
    have hx2 : getP G' x' ≠ .free := fun e => hx' (HF_free.2 e)
    have mixed : ∀ {x x' z : Nm}, getP G' x' ≠ .free → φ x = some z → z = x' → False := fun {x x' z} hx' hφ e => by
      subst e
      obtain ⟨g1, g2⟩ := φs hφ
      obtain ⟨⟨r1, r2, _⟩, r4⟩ := gmap_range g2
      obtain ⟨z', i1, i2, _⟩ := b4 _ r1 r2 g1
      rw [g2] at i1
      injection i1 with i1
      subst i1
      exact hx' (old i2 r4)
    cases e1 : φ x with
    | none =>
      cases e2 : φ x' with
      | none => simpa [e1, e2] using e
      | some z' => simp only [e1, e2, Option.getD_none, Option.getD_some] at e; exact (mixed hx1 e2 e.symm).elim
    | some z =>
      cases e2 : φ x' with
      | none => simp only [e1, e2, Option.getD_none, Option.getD_some] at e; exact (mixed hx2 e1 e).elim
      | some z' =>
        simp only [e1, e2, Option.getD_some] at e
        subst e
        exact gmap_inj hr h00 (φs e1).2 (φs e2).2 hx1 hx2

variable {P : Program} {Q : Exit → St → Prop}

theorem Wm_absorb {cd : MCode} (p : Nm) (j f k : Nat) {c : List AV} {v : AV} (hown : (getP (hk s.hl) p).own = true) (hc : elemN (getP (hk s.hl) p) j = some c) (hv : c[f]? = some v) (hn : namesObj v k (hk s.hl k)) (hr : p.root ≠ k)
    (h : Wm P w0 S N D cd ⟨s.tl, updH s.hl (absorbG (hk s.hl) s.nb p j f k), s.nb + 1⟩ Q) : Wm P w0 S N D cd s Q := fun code hcd a w hs => h code hcd a w (hs.absorb p j f k hown hc hv hn hr)

end
end Go.W
