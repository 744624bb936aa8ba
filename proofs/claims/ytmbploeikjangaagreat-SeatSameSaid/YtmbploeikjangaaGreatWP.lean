/- States by other names: what is said, is said by other names, or not at all. -/
import Derived.Test.YtmbploeikjangaaGreatWO
set_option linter.unusedSimpArgs false
set_option linter.unusedVariables false
namespace Go.W

abbrev NMap := Nm → Option (Option Nm)

mutual
/-- An old value, and a new one that says the same by new names. -/
def Ren (φ : NMap) : AV → AV → Prop
  | _, .bot => True
  | .int k n, .int k' n' => k = k' ∧ n = n'
  | .bool b, .bool b' => b = b'
  | .str s, .str s' => s = s'
  | .raw v, .raw v' => v = v'
  | .nsl, .nsl => True
  | .nsl, .sl x i n => φ x = some none ∧ i = 0 ∧ n = 0
  | .sl y i n, .sl x i' n' => φ x = some (some y) ∧ i = i' ∧ n = n'
  | .ptr y i f, .ptr x i' f' => φ x = some (some y) ∧ i = i' ∧ f = f'
  | .fn f c, .fn f' c' => f = f' ∧ RenL φ c c'
  | .iface t a, .iface t' a' => t = t' ∧ Ren φ a a'
  | .agg l, .agg l' => RenL φ l l'
  | .tup l, .tup l' => RenL φ l l'
  | _, _ => False
def RenL (φ : NMap) : List AV → List AV → Prop
  | [], [] => True
  | a :: as, b :: bs => Ren φ a b ∧ RenL φ as bs
  | _, _ => False
end

def nilLoc : Loc := ⟨0, 0, 0, 0, true⟩

def Env.by (ρ ρ' : Env) (φ : NMap) : Prop := ∀ x v, φ x = some v → ρ' x = match v with | some y => ρ y | none => nilLoc

mutual
theorem Ren.rep {φ : NMap} {ρ ρ' : Env} (hb : Env.by ρ ρ' φ) : ∀ {a b : AV} {v : Value}, Ren φ a b → Rep ρ a v → Rep ρ' b v := fun {a} {b} {v} h hr => by
  cases b with
  | bot => simp [Rep]
  | int k n => cases a <;> simp only [Ren] at h; simp only [Rep] at hr ⊢; rw [← h.1, ← h.2]; exact hr
  | bool k => cases a <;> simp only [Ren] at h; simp only [Rep] at hr ⊢; rw [← h]; exact hr
  | str k => cases a <;> simp only [Ren] at h; simp only [Rep] at hr ⊢; rw [← h]; exact hr
  | raw k => cases a <;> simp only [Ren] at h; simp only [Rep] at hr ⊢; rw [← h]; exact hr
  | nsl => cases a <;> simp only [Ren] at h; simp only [Rep] at hr ⊢; exact hr
  | ptr x i f =>
    cases a <;> simp only [Ren] at h
    simp only [Rep] at hr ⊢
    have := hb x _ h.1
    simp only at this
    rw [this, ← h.2.1, ← h.2.2]; exact hr
  | sl x i n =>
    cases a <;> simp only [Ren] at h
    · simp only [Rep] at hr ⊢
      have := hb x _ h.1
      simp only at this
      rw [this, ← h.2.1, ← h.2.2]; exact hr
    · simp only [Rep] at hr ⊢
      have := hb x _ h.1
      exact .inl ⟨by rw [this]; rfl, h.2.1, h.2.2, hr⟩
  | fn f c =>
    cases a <;> simp only [Ren] at h
    simp only [Rep] at hr ⊢
    obtain ⟨cs, h1, h2⟩ := hr
    exact ⟨cs, by rw [← h.1]; exact h1, RenL.rep hb h.2 h2⟩
  | iface t x =>
    cases a <;> simp only [Ren] at h
    simp only [Rep] at hr ⊢
    obtain ⟨u, h1, h2⟩ := hr
    exact ⟨u, by rw [← h.1]; exact h1, Ren.rep hb h.2 h2⟩
  | agg l =>
    cases a <;> simp only [Ren] at h
    simp only [Rep] at hr ⊢
    obtain ⟨cs, h1, h2⟩ := hr
    exact ⟨cs, h1, RenL.rep hb h h2⟩
  | tup l =>
    cases a <;> simp only [Ren] at h
    simp only [Rep] at hr ⊢
    obtain ⟨cs, h1, h2⟩ := hr
    exact ⟨cs, h1, RenL.rep hb h h2⟩
  | os t sz els => cases a <;> simp only [Ren] at h
  | op t c => cases a <;> simp only [Ren] at h
theorem RenL.rep {φ : NMap} {ρ ρ' : Env} (hb : Env.by ρ ρ' φ) : ∀ {as bs : List AV} {vs : List Value}, RenL φ as bs → RepL ρ as vs → RepL ρ' bs vs := fun {as} {bs} {vs} h hr => by
  cases bs with
  | nil => cases as <;> simp only [RenL] at h; exact hr
  | cons b bs =>
    cases as <;> simp only [RenL] at h
    simp only [RepL] at hr ⊢
    obtain ⟨v, r, h1, h2, h3⟩ := hr
    exact ⟨v, r, h1, Ren.rep hb h.1 h2, RenL.rep hb h.2 h3⟩
end

def AObj.none : AObj → Prop
  | .arr _ n _ => n = 0
  | .view _ n _ => n = 0
  | _ => False

section
variable {w0 : World} {S : Sc} {Es : Env → Prop} {U U' : Nm → Prop} {T T' : Nat → AV} {G G' : NH} {a : Act} {w : World}

/-- THE SAME STATE, BY OTHER NAMES. -/
theorem Sat.ren (h : Sat w0 S Es U T (HF G) a w) (φ : NMap) (hob : ∀ x, HF G' x ≠ .free → (∃ y, φ x = some (some y) ∧ HF G y ≠ .free ∧ ∀ ρ ρ', Env.by ρ ρ' φ → OLe ρ ρ' (HF G y) (HF G' x)) ∨ (φ x = some none ∧ (HF G' x).none))
    (hinj : ∀ x x' y, φ x = some (some y) → φ x' = some (some y) → HF G' x ≠ .free → HF G' x' ≠ .free → x = x') (hkeys : ∀ x v, φ x = some v → ¬ U' x) (han : ∀ x, x < S.m → φ (.top x) = some (some (.top x))) (htm : ∀ t, Ren φ (T t) (T' t)) :
    Sat w0 S (fun ρ' => ∃ ρ, Es ρ ∧ Env.by ρ ρ' φ) U' T' (HF G') a w where
  ne := by
    obtain ⟨ρ, hρ⟩ := h.ne
    refine ⟨fun x => match φ x with | some (some y) => ρ y | _ => nilLoc, ρ, hρ, fun x v hv => ?_⟩
    simp only [hv]
    cases v <;> rfl
  cl := fun ρ ρ' ⟨ρ1, h1, h2⟩ he => ⟨ρ1, h1, fun x v hv => by rw [he x (hkeys x v hv)]; exact h2 x v hv⟩
  fr := fun x hx => by
    by_cases e : HF G' x = .free
    · exact e
    · rcases hob x e with ⟨y, h1, _⟩ | ⟨h1, _⟩
      · exact absurd hx (hkeys x _ h1)
      · exact absurd hx (hkeys x _ h1)
  pin := fun ρ ρ' ⟨ρ1, h1, h2⟩ ⟨ρ2, h3, h4⟩ x hx => by
    rcases hob x hx with ⟨y, e1, e2, _⟩ | ⟨e1, _⟩
    · have a1 := h2 x _ e1
      have a2 := h4 x _ e1
      simp only at a1 a2
      rw [a1, a2]
      exact h.pin ρ1 ρ2 h1 h3 y e2
    · rw [h2 x _ e1, h4 x _ e1]
  tm := fun ρ' ⟨ρ, h1, h2⟩ t ht => by
    have hr := htm t
    have ht0 : T t ≠ .bot := fun e => by rw [e] at hr; cases hT : T' t <;> rw [hT] at hr ht <;> simp [Ren] at hr ht
    obtain ⟨v, hv, hrep⟩ := h.tm ρ h1 t ht0
    exact ⟨v, hv, hr.rep h2 hrep⟩
  hp := fun ρ' ⟨ρ, h1, h2⟩ => by
    have c := h.hp ρ h1
    have owned : ∀ {x}, Owned (ρ' x) (HF G' x) → ∃ y, φ x = some (some y) ∧ ρ' x = ρ y ∧ Owned (ρ y) (HF G y) := fun {x} hx => by
      have hne : HF G' x ≠ .free := fun e => by rw [e] at hx; exact hx
      rcases hob x hne with ⟨y, e1, e2, e3⟩ | ⟨e1, e2⟩
      · have a1 := h2 x _ e1
        simp only at a1
        refine ⟨y, e1, a1, ?_⟩
        rw [a1] at hx
        exact (e3 ρ ρ' h2).own hx
      · exfalso
        have a1 := h2 x _ e1
        simp only at a1
        rw [a1] at hx
        cases hH : HF G' x <;> rw [hH] at hx e2 <;> simp_all [Owned, AObj.none, nilLoc]
    refine c.re (fun x => ((φ x).bind id).getD x) (fun x => ?_) (fun x hx => ?_) (fun x hx => ?_) (fun x x' hx hx' e => ?_) (fun x hx => ?_)
    · by_cases hne : HF G' x = .free
      · rw [hne]; trivial
      · rcases hob x hne with ⟨y, e1, e2, e3⟩ | ⟨e1, e2⟩
        · have a1 := h2 x _ e1
          simp only at a1
          rw [a1]
          exact (e3 ρ ρ' h2).ok (c.obj y)
        · have a1 := h2 x _ e1
          simp only at a1
          rw [a1]
          cases hH : HF G' x with
          | free => trivial
          | cells c => rw [hH] at e2; exact e2.elim
          | arr sz n f => rw [hH] at e2; exact .inl ⟨rfl, e2⟩
          | view sz n f => rw [hH] at e2; exact .inl ⟨rfl, e2⟩
    · obtain ⟨y, e1, e2, e3⟩ := owned hx
      simp only [e1, Option.bind_some, id, Option.getD_some]
      exact ⟨e3, by rw [e2]⟩
    · have hne : HF G' x ≠ .free := fun e => by rw [e] at hx; exact hx
      rcases hob x hne with ⟨y, e1, e2, e3⟩ | ⟨e1, e2⟩
      · have a1 := h2 x _ e1
        simp only at a1
        rw [a1] at hx ⊢
        exact c.vw y ((e3 ρ ρ' h2).viewed hx)
      · exfalso
        have a1 := h2 x _ e1
        simp only at a1
        rw [a1] at hx
        cases hH : HF G' x <;> rw [hH] at hx e2 <;> simp_all [Viewed, AObj.none, nilLoc]
    · obtain ⟨y, e1, _, _⟩ := owned hx
      obtain ⟨y', e1', _, _⟩ := owned hx'
      simp only [e1, e1', Option.bind_some, id, Option.getD_some] at e
      subst e
      exact hinj x x' y e1 e1' (fun e => by rw [e] at hx; exact hx) (fun e => by rw [e] at hx'; exact hx')
    · have a1 := h2 _ _ (han x hx)
      simp only at a1
      rw [a1]; exact c.an x hx

end

mutual
/-- Names nothing; what it owns bears no tags. -/
def AV.cl : AV → Bool
  | .ptr _ _ _ | .sl _ _ _ => false
  | .fn _ c => clP c
  | .iface _ a => a.cl && a.plain
  | .agg l => clP l
  | .tup l => clP l
  | .os t _ els => decide (t = 0) && clLL els
  | .op t c => decide (t = 0) && clL c
  | _ => true
def clP : List AV → Bool
  | [] => true
  | a :: as => (a.cl && a.plain) && clP as
def clL : List AV → Bool
  | [] => true
  | a :: as => a.cl && clL as
def clLL : List (List AV) → Bool
  | [] => true
  | a :: as => clL a && clLL as
end

mutual
theorem cl_rep {ρ ρ' : Env} : ∀ {a : AV} {v : Value}, a.cl = true → a.plain = true → Rep ρ a v → Rep ρ' a v := fun {a} {v} h hp hr => by
  cases a with
  | ptr x i f => simp [AV.cl] at h
  | sl x i n => simp [AV.cl] at h
  | os t sz els => simp [AV.plain] at hp
  | op t c => simp [AV.plain] at hp
  | fn f c =>
    simp only [AV.cl] at h
    simp only [Rep] at hr ⊢
    obtain ⟨cs, h1, h2⟩ := hr
    exact ⟨cs, h1, clP_rep h h2⟩
  | iface t x =>
    simp only [AV.cl, Bool.and_eq_true] at h
    simp only [Rep] at hr ⊢
    obtain ⟨u, h1, h2⟩ := hr
    exact ⟨u, h1, cl_rep h.1 h.2 h2⟩
  | agg l =>
    simp only [AV.cl] at h
    simp only [Rep] at hr ⊢
    obtain ⟨cs, h1, h2⟩ := hr
    exact ⟨cs, h1, clP_rep h h2⟩
  | tup l =>
    simp only [AV.cl] at h
    simp only [Rep] at hr ⊢
    obtain ⟨cs, h1, h2⟩ := hr
    exact ⟨cs, h1, clP_rep h h2⟩
  | _ => simp only [Rep] at hr ⊢ <;> exact hr
theorem clP_rep {ρ ρ' : Env} : ∀ {as : List AV} {vs : List Value}, clP as = true → RepL ρ as vs → RepL ρ' as vs := fun {as} {vs} h hr => by
  cases as with
  | nil => exact hr
  | cons a as =>
    simp only [clP, Bool.and_eq_true] at h
    simp only [RepL] at hr ⊢
    obtain ⟨v, r, h1, h2, h3⟩ := hr
    exact ⟨v, r, h1, cl_rep h.1.1 h.1.2 h2, clP_rep h.2 h3⟩
end

theorem clL_get : ∀ {l : List AV}, clL l = true → ∀ {j : Nat} {v : AV}, l[j]? = some v → v.cl = true
  | [], _, j, v, h => by simp at h
  | a :: as, h, j, v, hj => by
    simp only [clL, Bool.and_eq_true] at h
    cases j with
    | zero => simp at hj; subst hj; exact h.1
    | succ j => exact clL_get h.2 (by simpa using hj)

theorem clLL_get : ∀ {l : List (List AV)}, clLL l = true → ∀ {j : Nat} {v : List AV}, l[j]? = some v → clL v = true
  | [], _, j, v, h => by simp at h
  | a :: as, h, j, v, hj => by
    simp only [clLL, Bool.and_eq_true] at h
    cases j with
    | zero => simp at hj; subst hj; exact h.1
    | succ j => exact clLL_get h.2 (by simpa using hj)

def NObj.clO : NObj → Bool
  | .cells _ c => clL c
  | .arr _ _ els => clLL els
  | .view _ _ els => clLL els
  | .free => true

theorem clO_elem {o : NObj} (h : o.clO = true) {j : Nat} {c : List AV} (hc : elemN o j = some c) : clL c = true := by
  cases o <;> simp only [elemN, reduceCtorEq] at hc <;> simp only [NObj.clO] at h
  · split at hc
    · injection hc with hc; subst hc; exact h
    · cases hc
  · exact clLL_get h hc
  · exact clLL_get h hc

theorem clV_kid {v : AV} (h : v.cl = true) (ro : Bool) : (kidV ro v).clO = true := by
  cases v <;> try rfl
  · simp only [AV.cl, Bool.and_eq_true] at h
    simp only [kidV]; split <;> exact h.2
  · simp only [AV.cl, Bool.and_eq_true] at h
    simp only [kidV]; split
    · simp [NObj.clO, clLL, h.2]
    · exact h.2

theorem cl_kid {o : NObj} (h : ∀ (j : Nat) (c : List AV) (v : AV) (f : Nat), elemN o j = some c → c[f]? = some v → v.plain = false → v.cl = true) (t j f : Nat) : (kid o t j f).clO = true := by
  unfold kid
  split
  · cases he : elemN o j with
    | none => rfl
    | some c =>
      simp only [kidC]
      cases hv : c[f]? with
      | none => rfl
      | some v =>
        cases hp : v.plain with
        | true => cases v <;> first | rfl | simp [AV.plain] at hp
        | false => exact clV_kid (h j c v f he hv hp) _
  · rfl

end Go.W
