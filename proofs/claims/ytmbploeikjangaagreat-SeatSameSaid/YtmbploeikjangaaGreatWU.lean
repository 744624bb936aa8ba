/- What comes with a call, as the callee has it. -/
import Derived.Test.YtmbploeikjangaaGreatWT
set_option linter.unusedSimpArgs false
set_option linter.unusedVariables false
namespace Go.W

/-- By which name the caller has what the callee has at each place, and from which element on; none: a nil slice. -/
abbrev ML := List (Option (Nm × Nat))

def mlAt (ml : ML) : Nm → Option (Option (Nm × Nat))
  | .top k => ml[k]?
  | _ => none

mutual
/-- A value as the callee names it, and as the caller does. -/
def ArgS (ml : ML) : AV → AV → Prop
  | .bot, _ => True
  | .int k n, .int k' n' => k = k' ∧ n = n'
  | .bool b, .bool b' => b = b'
  | .str s, .str s' => s = s'
  | .raw v, .raw v' => v = v'
  | .nsl, .nsl => True
  | .sl x i n, .sl y j n' => match mlAt ml x with
    | some (some (y', k)) => y' = y ∧ j = i + k ∧ n = n'
    | _ => False
  | .sl x i n, .nsl => mlAt ml x = some none ∧ i = 0 ∧ n = 0
  | .ptr x i f, .ptr y j f' => match mlAt ml x with
    | some (some (y', k)) => y' = y ∧ j = i + k ∧ f = f'
    | _ => False
  | .fn f c, .fn f' c' => f = f' ∧ ArgSL ml c c'
  | .iface t a, .iface t' a' => t = t' ∧ ArgS ml a a'
  | .agg l, .agg l' => ArgSL ml l l'
  | .tup l, .tup l' => ArgSL ml l l'
  | _, _ => False
def ArgSL (ml : ML) : List AV → List AV → Prop
  | [], [] => True
  | a :: as, b :: bs => ArgS ml a b ∧ ArgSL ml as bs
  | _, _ => False
end

def shiftL (L : Loc) (k : Nat) : Loc := { L with base := L.base + k * L.sz, cap := L.cap - k }

def locE (ρ : Env) (ml : ML) (x : Nat) : Loc := match ml[x]? with
  | some (some (y, k)) => shiftL (ρ y) k
  | _ => nilLoc

theorem shiftL_zero (L : Loc) : shiftL L 0 = L := by simp [shiftL]

def inML (ml : ML) (ρ ρl : Env) : Prop := ∀ x, x < ml.length → ρl (.top x) = locE ρ ml x

theorem mlAt_top {ml : ML} {x : Nm} {v : Option (Nm × Nat)} (h : mlAt ml x = some v) : ∃ k, x = .top k ∧ ml[k]? = some v ∧ k < ml.length := by
  cases x with
  | top k => exact ⟨k, rfl, h, (List.getElem?_eq_some_iff.1 h).1⟩
  | sub p t j f => cases h

mutual
theorem ArgS.rep {ml : ML} {ρ ρl : Env} (hb : inML ml ρ ρl) : ∀ {a g : AV} {v : Value}, ArgS ml a g → Rep ρ g v → Rep ρl a v := fun {a} {g} {v} h hr => by
  cases a with
  | int k n => cases g <;> simp only [ArgS] at h <;> (obtain ⟨rfl, rfl⟩ := h; simp only [Rep] at hr ⊢; exact hr)
  | bool b => cases g <;> simp only [ArgS] at h <;> (subst h; simp only [Rep] at hr ⊢; exact hr)
  | str b => cases g <;> simp only [ArgS] at h <;> (subst h; simp only [Rep] at hr ⊢; exact hr)
  | raw b => cases g <;> simp only [ArgS] at h <;> (subst h; simp only [Rep] at hr ⊢; exact hr)
  | bot => simp [Rep]
  | nsl => cases g <;> simp only [ArgS] at h; simp only [Rep] at hr ⊢; exact hr
  | sl x i n =>
    cases g <;> simp only [ArgS] at h
    case nsl =>
      simp only [Rep] at hr ⊢
      obtain ⟨h1, rfl, rfl⟩ := h
      refine .inl ⟨?_, rfl, rfl, hr⟩
      obtain ⟨k, rfl, h1, hk⟩ := mlAt_top h1
      rw [hb k hk]; simp [locE, h1, nilLoc]
    case sl y j n' =>
      split at h
      · rename_i y' k h1
        obtain ⟨rfl, rfl, rfl⟩ := h
        have he : ρl x = shiftL (ρ y') k := by
          obtain ⟨q, rfl, h1, hq⟩ := mlAt_top h1
          rw [hb q hq]; simp [locE, h1]
        simp only [Rep] at hr ⊢
        rw [he]
        rcases hr with ⟨h2, h3, h4, h5⟩ | ⟨h2, h3, off, h4, h5⟩
        · exact .inl ⟨h2, by omega, h4, h5⟩
        · refine .inr ⟨h2, by simp only [shiftL]; omega, off, ?_, fun hlt => ?_⟩
          · rw [h4]; simp only [shiftL]; congr 1; omega
          · simp only [shiftL] at hlt ⊢
            rw [h5 (by omega), Nat.add_mul]; omega
      · exact h.elim
  | ptr x i f =>
    cases g <;> simp only [ArgS] at h
    case ptr y j f' =>
      split at h
      · rename_i y' k h1
        obtain ⟨rfl, rfl, rfl⟩ := h
        have he : ρl x = shiftL (ρ y') k := by
          obtain ⟨q, rfl, h1, hq⟩ := mlAt_top h1
          rw [hb q hq]; simp [locE, h1]
        simp only [Rep] at hr ⊢
        rw [he]
        refine ⟨hr.1, ?_⟩
        rw [hr.2]; simp only [shiftL]; congr 3; rw [Nat.add_mul]; omega
      · exact h.elim
  | fn f c =>
    cases g <;> simp only [ArgS] at h
    obtain ⟨rfl, h⟩ := h
    simp only [Rep] at hr ⊢
    obtain ⟨cs, h1, h2⟩ := hr
    exact ⟨cs, h1, ArgSL.rep hb h h2⟩
  | iface t a =>
    cases g <;> simp only [ArgS] at h
    obtain ⟨rfl, h⟩ := h
    simp only [Rep] at hr ⊢
    obtain ⟨y, h1, h2⟩ := hr
    exact ⟨y, h1, ArgS.rep hb h h2⟩
  | agg l =>
    cases g <;> simp only [ArgS] at h
    simp only [Rep] at hr ⊢
    obtain ⟨cs, h1, h2⟩ := hr
    exact ⟨cs, h1, ArgSL.rep hb h h2⟩
  | tup l =>
    cases g <;> simp only [ArgS] at h
    simp only [Rep] at hr ⊢
    obtain ⟨cs, h1, h2⟩ := hr
    exact ⟨cs, h1, ArgSL.rep hb h h2⟩
  | os t sz els => cases g <;> simp only [ArgS] at h
  | op t c => cases g <;> simp only [ArgS] at h
theorem ArgSL.rep {ml : ML} {ρ ρl : Env} (hb : inML ml ρ ρl) : ∀ {as gs : List AV} {vs : List Value}, ArgSL ml as gs → RepL ρ gs vs → RepL ρl as vs := fun {as} {gs} {vs} h hr => by
  cases as with
  | nil => cases gs <;> simp only [ArgSL] at h; simp only [RepL] at hr ⊢; exact hr
  | cons a as =>
    cases gs <;> simp only [ArgSL] at h
    simp only [RepL] at hr ⊢
    obtain ⟨v, r, h1, h2, h3⟩ := hr
    exact ⟨v, r, h1, ArgS.rep hb h.1 h2, ArgSL.rep hb h.2 h3⟩
end

theorem ArgSL.get {ml : ML} : ∀ {as bs : List AV}, ArgSL ml as bs → as.length = bs.length ∧ ∀ (j : Nat) (a : AV), as[j]? = some a → ∃ b, bs[j]? = some b ∧ ArgS ml a b
  | [], [], _ => ⟨rfl, fun j b h => by simp at h⟩
  | a :: as, b :: bs, h => by
    rw [ArgSL] at h
    obtain ⟨h1, h2⟩ := ArgSL.get h.2
    refine ⟨by simp [h1], fun j c hc => ?_⟩
    cases j with
    | zero => simp at hc; subst hc; exact ⟨b, rfl, h.1⟩
    | succ j => simpa using h2 j c (by simpa using hc)
  | [], b :: bs, h => by simp [ArgSL] at h
  | a :: as, [], h => by simp [ArgSL] at h


/-- An object as the callee has it. -/
inductive Seen : Nat → NObj → NObj → Prop
  | own {og : NObj} (h : og.own = true) (hc : og.t0.clO = true) : Seen 0 og og.t0
  | row {i t sz n : Nat} {els : List (List AV)} {og : NObj} (h : og = .arr t sz els ∨ og = .view t sz els) (hn : i + n ≤ els.length) (hc : clLL (t0LL ((els.drop i).take n)) = true) : Seen i og (.view 0 sz (t0LL ((els.drop i).take n)))
  | one {t z : Nat} {c : List AV} {og : NObj} (h : og = .cells t c ∨ og = .view t z [c]) (hc : clL (t0L c) = true) : Seen 0 og (.view 0 c.length [t0L c])

theorem Seen.cl {i : Nat} {og o : NObj} (h : Seen i og o) : o.clO = true := by
  cases h with
  | own h hc => exact hc
  | row h hn hc => exact hc
  | one h hc => simp [NObj.clO, clLL, hc]

theorem Seen.tag {i : Nat} {og o : NObj} (h : Seen i og o) : o.tag = 0 := by
  cases h with
  | own h hc => cases og <;> rfl
  | row h hn hc => rfl
  | one h hc => rfl

theorem Seen.elem {i : Nat} {og o : NObj} (h : Seen i og o) {j : Nat} {c : List AV} (hc : elemN o j = some c) : ∃ c', elemN og (i + j) = some c' ∧ c = t0L c' := by
  cases h with
  | own h hcl =>
    rw [elemN_t0] at hc
    rw [Nat.zero_add]
    cases he : elemN og j with
    | none => rw [he] at hc; cases hc
    | some c' => rw [he] at hc; simp at hc; exact ⟨c', rfl, hc.symm⟩
  | @row _ t sz n els _ h hn hcl =>
    simp only [elemN] at hc
    rw [t0LL_get, List.getElem?_take] at hc
    split at hc
    · rw [List.getElem?_drop] at hc
      cases he : els[i + j]? with
      | none => rw [he] at hc; cases hc
      | some c' =>
        rw [he] at hc
        simp at hc
        refine ⟨c', ?_, hc.symm⟩
        rcases h with rfl | rfl <;> exact he
    · cases hc
  | @one t z c0 _ h hcl =>
    rw [Nat.zero_add]
    simp only [elemN] at hc
    cases j with
    | zero =>
      simp at hc
      refine ⟨c0, ?_, hc.symm⟩
      rcases h with rfl | rfl <;> rfl
    | succ j => simp at hc

theorem seen_kidV {u : AV} (r ro : Bool) (hr : r = false → ro = false) (hne : kidV r u.t0 ≠ .free) (hcl : (kidV r u.t0).clO = true) : Seen 0 (kidV ro u) (kidV r u.t0) := by
  cases u <;> simp only [AV.t0, kidV] at hne hcl ⊢ <;> try (exact absurd rfl hne)
  case os t sz els =>
    cases r with
    | false =>
      rw [hr rfl]
      simp only [Bool.false_eq_true, if_false] at hcl ⊢
      exact Seen.own (og := .arr t sz els) rfl hcl
    | true =>
      simp only [if_true] at hcl ⊢
      have e : t0LL els = t0LL ((els.drop 0).take els.length) := by simp
      rw [e] at hcl ⊢
      exact Seen.row (t := t) (by cases ro <;> simp) (by simp) hcl
  case op t c =>
    cases r with
    | false =>
      rw [hr rfl]
      simp only [Bool.false_eq_true, if_false] at hcl ⊢
      exact Seen.own (og := .cells t c) rfl hcl
    | true =>
      simp only [if_true, t0L_length] at hcl ⊢
      refine Seen.one (t := t) (z := c.length) (by cases ro <;> simp) ?_
      simpa [NObj.clO, clLL] using hcl

/-- What it owns. -/
theorem Seen.kid {i : Nat} {og o : NObj} (h : Seen i og o) {t j f : Nat} (hne : kid o t j f ≠ .free) : t = 0 ∧ Seen 0 (kid og og.tag (i + j) f) (kid o t j f) := by
  have ht : t = 0 := by
    by_cases e : o.tag = t
    · rw [← e, h.tag]
    · exact absurd (kid_tag e) hne
  subst ht
  refine ⟨rfl, ?_⟩
  have hcl : (Go.W.kid o 0 j f).clO = true := cl_kid (fun j c v f hc hv hp => clL_get (clO_elem h.cl hc) hv) 0 j f
  unfold Go.W.kid at hne hcl ⊢
  rw [if_pos h.tag] at hne hcl ⊢
  rw [if_pos rfl]
  cases he : elemN o j with
  | none => rw [he] at hne; exact absurd rfl hne
  | some c =>
    obtain ⟨c', e1, e2⟩ := h.elem he
    rw [he] at hne hcl
    rw [e1]
    simp only [kidC] at hne hcl ⊢
    rw [e2, t0L_get] at hne hcl ⊢
    cases hu : c'[f]? with
    | none => rw [hu] at hne; exact absurd rfl hne
    | some u =>
      rw [hu] at hne hcl
      simp only [Option.map_some] at hne hcl ⊢
      refine seen_kidV _ _ (fun hr => ?_) hne hcl
      cases h with
      | own h hc => cases og <;> simp_all [NObj.own, NObj.ro]
      | row h hn hc => cases hr
      | one h hc => cases hr

def shOf (ml : ML) : Nm → Nat
  | .top k => match ml[k]? with
    | some (some (_, i)) => i
    | _ => 0
  | _ => 0

def psi (ml : ML) (G : NH) : Nm → Option Nm
  | .top k => match ml[k]? with
    | some (some (p, _)) => some p
    | _ => none
  | .sub x _ j f => match psi ml G x with
    | some y => some (.sub y (getP G y).tag (shOf ml x + j) f)
    | none => none

theorem psi_sub (ml : ML) (G : NH) (x : Nm) (t j f : Nat) : psi ml G (.sub x t j f) = (psi ml G x).map fun y => .sub y (getP G y).tag (shOf ml x + j) f := by
  rw [psi]
  cases psi ml G x <;> rfl

/-- The objects that came. -/
def Cames (G : NH) (ml : ML) (objs : List NObj) : Prop := ml.length = objs.length ∧ ∀ (k : Nat) (x : Option (Nm × Nat)) (o : NObj), ml[k]? = some x → objs[k]? = some o → match x with
  | some (p, i) => Seen i (getP G p) o
  | none => (∃ sz, o = .view 0 sz [] ∨ o = .arr 0 sz [])

def idxO : Nat → List NObj → List (Nat × NObj)
  | _, [] => []
  | i, o :: r => (i, o) :: idxO (i + 1) r

theorem hk_idxO : ∀ (l : List NObj) (i x : Nat), hk (idxO i l) x = if i ≤ x then (l[x - i]?).getD .free else .free
  | [], i, x => by simp [idxO, hk]
  | o :: r, i, x => by
    rw [idxO, hk, hk_idxO r]
    by_cases e : x = i
    · subst e; simp
    · rw [if_neg e]
      by_cases h : i ≤ x
      · rw [if_pos h, if_pos (by omega)]
        obtain ⟨d, hd⟩ : ∃ d, x - i = d + 1 := ⟨x - i - 1, by omega⟩
        rw [hd, show x - (i + 1) = d by omega]; simp
      · rw [if_neg h, if_neg (by omega)]

theorem hk_idx0 (l : List NObj) (x : Nat) : hk (idxO 0 l) x = (l[x]?).getD .free := by simp [hk_idxO]

section
variable {G : NH} {ml : ML} {objs : List NObj}

theorem came_root (h : Cames G ml objs) {k : Nat} (hne : hk (idxO 0 objs) k ≠ .free) : ∃ x o, ml[k]? = some x ∧ objs[k]? = some o ∧ hk (idxO 0 objs) k = o ∧ k < objs.length := by
  rw [hk_idx0] at hne ⊢
  cases ho : objs[k]? with
  | none => rw [ho] at hne; exact absurd rfl hne
  | some o =>
    have hk := (List.getElem?_eq_some_iff.1 ho).1
    exact ⟨_, o, List.getElem?_eq_getElem (by rw [h.1]; exact hk), rfl, rfl, hk⟩

/-- By which name the caller has what lies within. -/
theorem psi_get (h : Cames G ml objs) : ∀ x : Nm, getP (hk (idxO 0 objs)) x ≠ .free → x.mx = x.root ∧ x.root < objs.length ∧ ((∃ y, psi ml G x = some y ∧ Seen (shOf ml x) (getP G y) (getP (hk (idxO 0 objs)) x) ∧ getP G y ≠ .free) ∨ (∃ k sz, x = .top k ∧ ml[k]? = some none ∧ (getP (hk (idxO 0 objs)) x = .view 0 sz [] ∨ getP (hk (idxO 0 objs)) x = .arr 0 sz [])))
  | .top k, hne => by
    obtain ⟨x, o, h1, h2, h3, h4⟩ := came_root h hne
    refine ⟨rfl, h4, ?_⟩
    have h5 := h.2 k x o h1 h2
    rw [getP, h3]
    cases x with
    | none => obtain ⟨sz, h5⟩ := h5; exact .inr ⟨k, sz, rfl, h1, h5⟩
    | some q =>
      obtain ⟨p, i⟩ := q
      refine .inl ⟨p, by simp [psi, h1], by simpa [shOf, h1] using h5, fun e => ?_⟩
      simp only at h5
      rw [e] at h5
      cases h5 with
      | own h _ => cases h
      | row h _ _ => rcases h with h | h <;> cases h
      | one h _ => rcases h with h | h <;> cases h
  | .sub x t j f, hne => by
    rw [getP] at hne
    have hgx : getP (hk (idxO 0 objs)) x ≠ .free := fun e => hne (by rw [e]; simp [kid, elemN])
    obtain ⟨i1, i2, i3⟩ := psi_get h x hgx
    rcases i3 with ⟨y, g1, g2, g3⟩ | ⟨k, sz, rfl, g1, g2⟩
    · obtain ⟨rfl, hs⟩ := g2.kid hne
      refine ⟨by simp only [Nm.mx, Nm.root]; omega, i2, .inl ⟨_, by rw [psi_sub, g1]; rfl, ?_, ?_⟩⟩
      · rw [getP, getP]; exact hs
      · rw [getP]
        intro e
        rw [e] at hs
        generalize kid _ 0 j f = o at hs
        cases hs with
        | own h _ => cases h
        | row h _ _ => rcases h with h | h <;> cases h
        | one h _ => rcases h with h | h <;> cases h
    · exfalso
      apply hne
      rcases g2 with g2 | g2 <;> rw [g2] <;> exact kid_plainO (fun j c hc => by simp [elemN] at hc) _ _ _

end
end Go.W
