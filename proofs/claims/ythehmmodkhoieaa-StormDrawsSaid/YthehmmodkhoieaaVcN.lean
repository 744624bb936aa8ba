/- Specifications told of a function's own few objects, and how a call meets them. -/
import Derived.Test.YthehmmodkhoieaaVcM
namespace Go.Vc

abbrev ML := List (Option (Nat × Nat))

mutual
/-- A value as the callee names it, and as the caller does. -/
def ArgS (ml : ML) : AV → AV → Prop
  | .int k n, .int k' n' => k = k' ∧ n = n'
  | .bool b, .bool b' => b = b'
  | .str s, .str s' => s = s'
  | .raw v, .raw v' => v = v'
  | .nsl, .nsl => True
  | .sl x i n, .sl y j n' => match ml[x]? with
    | some (some (y', k)) => y' = y ∧ j = i + k ∧ n = n'
    | _ => False
  | .sl x i n, .nsl => ml[x]? = some none ∧ i = 0 ∧ n = 0
  | .ptr x i f, .ptr y j f' => match ml[x]? with
    | some (some (y', k)) => y' = y ∧ j = i + k ∧ f = f'
    | _ => False
  | .fn f c, .fn f' c' => f = f' ∧ ArgSL ml c c'
  | .iface t a, .iface t' a' => t = t' ∧ ArgS ml a a'
  | .agg l, .agg l' => ArgSL ml l l'
  | .tup l, .tup l' => ArgSL ml l l'
  | _, _ => False
def ArgSL (ml : ML) : List AV → List AV → Prop
  | [], [] => True
  | a :: as, b :: bs => ArgS ml a b ∧ ArgSL ml as bs
  | _, _ => False
end

def shiftL (L : Loc) (k : Nat) : Loc := { L with base := L.base + k * L.sz, cap := L.cap - k }

def locE (ρ : Env) (ml : ML) : Env := fun x => match ml[x]? with
  | some (some (y, k)) => shiftL (ρ y) k
  | _ => nilLoc

theorem shiftL_zero (L : Loc) : shiftL L 0 = L := by simp [shiftL]

def inML (ml : ML) (ρ ρl : Env) : Prop := ∀ x, x < ml.length → ρl x = locE ρ ml x

theorem ml_lt {ml : ML} {x : Nat} {v : Option (Nat × Nat)} (h : ml[x]? = some v) : x < ml.length := (List.getElem?_eq_some_iff.1 h).1

mutual
theorem ArgS.rep {ml : ML} {ρ ρl : Env} (hb : inML ml ρ ρl) : ∀ {a g : AV} {v : Value}, ArgS ml a g → Rep ρ g v → Rep ρl a v := fun {a} {g} {v} h hr => by
  cases a with
  | int k n => cases g <;> simp only [ArgS] at h <;> (obtain ⟨rfl, rfl⟩ := h; simp only [Rep] at hr ⊢; exact hr)
  | bool b => cases g <;> simp only [ArgS] at h <;> (subst h; simp only [Rep] at hr ⊢; exact hr)
  | str b => cases g <;> simp only [ArgS] at h <;> (subst h; simp only [Rep] at hr ⊢; exact hr)
  | raw b => cases g <;> simp only [ArgS] at h <;> (subst h; simp only [Rep] at hr ⊢; exact hr)
  | bot => cases g <;> simp only [ArgS] at h
  | nsl => cases g <;> simp only [ArgS] at h; simp only [Rep] at hr ⊢; exact hr
  | sl x i n =>
    cases g <;> simp only [ArgS] at h
    case nsl =>
      simp only [Rep] at hr ⊢
      obtain ⟨h1, rfl, rfl⟩ := h
      refine .inl ⟨?_, rfl, rfl, hr⟩
      rw [hb x (ml_lt h1)]; simp [locE, h1, nilLoc]
    case sl y j n' =>
      split at h
      · rename_i y' k h1
        obtain ⟨rfl, rfl, rfl⟩ := h
        have he : ρl x = shiftL (ρ y') k := by rw [hb x (ml_lt h1)]; simp [locE, h1]
        simp only [Rep] at hr ⊢
        rw [he]
        rcases hr with ⟨h2, h3, h4, h5⟩ | ⟨h2, h3, off, h4, h5⟩
        · exact .inl ⟨h2, by omega, h4, h5⟩
        · refine .inr ⟨h2, by simp only [shiftL]; omega, off, ?_, fun hlt => ?_⟩
          · rw [h4]; simp only [shiftL]; congr 1; omega
          · simp only [shiftL] at hlt ⊢
            rw [h5 (by omega), Nat.add_mul]; omega
      · exact h.elim
  | ptr x i f =>
    cases g <;> simp only [ArgS] at h
    case ptr y j f' =>
      split at h
      · rename_i y' k h1
        obtain ⟨rfl, rfl, rfl⟩ := h
        have he : ρl x = shiftL (ρ y') k := by rw [hb x (ml_lt h1)]; simp [locE, h1]
        simp only [Rep] at hr ⊢
        rw [he]
        refine ⟨hr.1, ?_⟩
        rw [hr.2]; simp only [shiftL]; congr 3; rw [Nat.add_mul]; omega
      · exact h.elim
  | fn f c =>
    cases g <;> simp only [ArgS] at h
    obtain ⟨rfl, h⟩ := h
    simp only [Rep] at hr ⊢
    obtain ⟨cs, h1, h2⟩ := hr
    exact ⟨cs, h1, ArgSL.rep hb h h2⟩
  | iface t a =>
    cases g <;> simp only [ArgS] at h
    obtain ⟨rfl, h⟩ := h
    simp only [Rep] at hr ⊢
    obtain ⟨y, h1, h2⟩ := hr
    exact ⟨y, h1, ArgS.rep hb h h2⟩
  | agg l =>
    cases g <;> simp only [ArgS] at h
    simp only [Rep] at hr ⊢
    obtain ⟨cs, h1, h2⟩ := hr
    exact ⟨cs, h1, ArgSL.rep hb h h2⟩
  | tup l =>
    cases g <;> simp only [ArgS] at h
    simp only [Rep] at hr ⊢
    obtain ⟨cs, h1, h2⟩ := hr
    exact ⟨cs, h1, ArgSL.rep hb h h2⟩
theorem ArgSL.rep {ml : ML} {ρ ρl : Env} (hb : inML ml ρ ρl) : ∀ {as gs : List AV} {vs : List Value}, ArgSL ml as gs → RepL ρ gs vs → RepL ρl as vs := fun {as} {gs} {vs} h hr => by
  cases as with
  | nil => cases gs <;> simp only [ArgSL] at h; simp only [RepL] at hr ⊢; exact hr
  | cons a as =>
    cases gs <;> simp only [ArgSL] at h
    simp only [RepL] at hr ⊢
    obtain ⟨v, r, h1, h2, h3⟩ := hr
    exact ⟨v, r, h1, ArgS.rep hb h.1 h2, ArgSL.rep hb h.2 h3⟩
end

theorem ArgSL.get {ml : ML} : ∀ {as bs : List AV}, ArgSL ml as bs → as.length = bs.length ∧ ∀ (j : Nat) (a : AV), as[j]? = some a → ∃ b, bs[j]? = some b ∧ ArgS ml a b
  | [], [], _ => ⟨rfl, fun j b h => by simp at h⟩
  | a :: as, b :: bs, h => by
    rw [ArgSL] at h
    obtain ⟨h1, h2⟩ := ArgSL.get h.2
    refine ⟨by simp [h1], fun j c hc => ?_⟩
    cases j with
    | zero => simp at hc; subst hc; exact ⟨b, rfl, h.1⟩
    | succ j => simpa using h2 j c (by simpa using hc)
  | [], b :: bs, h => by simp [ArgSL] at h
  | a :: as, [], h => by simp [ArgSL] at h

/-- An object as the callee knows it, and as the caller does. -/
def ObjS (ml : ML) (k : Nat) : AObj → AObj → Prop
  | .free, .free => False
  | .free, _ => True
  | .cells c, .cells c' => k = 0 ∧ ArgSL ml c c'
  | .arr sz n f, .arr sz' n' f' => k = 0 ∧ sz = sz' ∧ n = n' ∧ ∀ i, i < n → ArgSL ml (f i) (f' i)
  | .view sz n f, .arr sz' n' f' => sz = sz' ∧ k + n ≤ n' ∧ ∀ i, i < n → ArgSL ml (f i) (f' (k + i))
  | .view sz n f, .view sz' n' f' => sz = sz' ∧ k + n ≤ n' ∧ ∀ i, i < n → ArgSL ml (f i) (f' (k + i))
  | _, _ => False

def isOwn : AObj → Bool
  | .cells _ | .arr _ _ _ => true
  | _ => false

def ObjsS (ml : ML) (H : Nat → AObj) : ML → List AObj → Prop
  | [], [] => True
  | some (y, k) :: r, o :: os => ObjS ml k o (H y) ∧ ObjsS ml H r os
  | none :: r, o :: os => (match o with
    | .arr _ n _ => n = 0
    | .view _ n _ => n = 0
    | _ => False) ∧ ObjsS ml H r os
  | _, _ => False

def mlNames (ml : ML) : List Nat := ml.filterMap fun x => x.map (·.1)

mutual
/-- A callee's value, by the caller's names. -/
def backV (f : Nat → Nat) : AV → AV
  | .sl x i n => .sl (f x) i n
  | .ptr x i g => .ptr (f x) i g
  | .fn g c => .fn g (backL f c)
  | .iface t a => .iface t (backV f a)
  | .agg l => .agg (backL f l)
  | .tup l => .tup (backL f l)
  | v => v
def backL (f : Nat → Nat) : List AV → List AV
  | [] => []
  | a :: as => backV f a :: backL f as
end

mutual
/-- Does a value name only objects of which this holds? -/
def namesOk (p : Nat → Bool) : AV → Bool
  | .sl x _ _ => p x
  | .ptr x _ _ => p x
  | .fn _ c => namesOkL p c
  | .iface _ a => namesOk p a
  | .agg l => namesOkL p l
  | .tup l => namesOkL p l
  | _ => true
def namesOkL (p : Nat → Bool) : List AV → Bool
  | [] => true
  | a :: as => namesOk p a && namesOkL p as
end

mutual
theorem backV_rep {p : Nat → Bool} {f : Nat → Nat} {ρ ρ' : Env} (hb : ∀ x, p x = true → ρ' (f x) = ρ x) : ∀ {a : AV} {v : Value}, namesOk p a = true → Rep ρ a v → Rep ρ' (backV f a) v := fun {a} {v} h hr => by
  cases a with
  | sl x i n => simp only [namesOk] at h; simp only [backV, Rep] at hr ⊢; rw [hb x h]; exact hr
  | ptr x i n => simp only [namesOk] at h; simp only [backV, Rep] at hr ⊢; rw [hb x h]; exact hr
  | fn g c =>
    simp only [namesOk] at h
    simp only [backV, Rep] at hr ⊢
    obtain ⟨cs, h1, h2⟩ := hr
    exact ⟨cs, h1, backL_rep hb h h2⟩
  | iface t a =>
    simp only [namesOk] at h
    simp only [backV, Rep] at hr ⊢
    obtain ⟨y, h1, h2⟩ := hr
    exact ⟨y, h1, backV_rep hb h h2⟩
  | agg l =>
    simp only [namesOk] at h
    simp only [backV, Rep] at hr ⊢
    obtain ⟨cs, h1, h2⟩ := hr
    exact ⟨cs, h1, backL_rep hb h h2⟩
  | tup l =>
    simp only [namesOk] at h
    simp only [backV, Rep] at hr ⊢
    obtain ⟨cs, h1, h2⟩ := hr
    exact ⟨cs, h1, backL_rep hb h h2⟩
  | int k n => simpa only [backV, Rep] using hr
  | bool b => simpa only [backV, Rep] using hr
  | str s => simpa only [backV, Rep] using hr
  | raw v => simpa only [backV, Rep] using hr
  | nsl => simpa only [backV, Rep] using hr
  | bot => simp only [backV, Rep]
theorem backL_rep {p : Nat → Bool} {f : Nat → Nat} {ρ ρ' : Env} (hb : ∀ x, p x = true → ρ' (f x) = ρ x) : ∀ {as : List AV} {vs : List Value}, namesOkL p as = true → RepL ρ as vs → RepL ρ' (backL f as) vs := fun {as} {vs} h hr => by
  cases as with
  | nil => simpa only [backL, RepL] using hr
  | cons a as =>
    simp only [namesOkL, Bool.and_eq_true] at h
    simp only [backL, RepL] at hr ⊢
    obtain ⟨v, r, h1, h2, h3⟩ := hr
    exact ⟨v, r, h1, backV_rep hb h.1 h2, backL_rep hb h.2 h3⟩
end

mutual
theorem nameless_rep {ρ ρ' : Env} : ∀ {a : AV} {v : Value}, namesOk (fun _ => false) a = true → Rep ρ a v → Rep ρ' a v := fun {a} {v} h hr => by
  cases a with
  | sl x i n => simp [namesOk] at h
  | ptr x i n => simp [namesOk] at h
  | fn g c =>
    simp only [namesOk] at h
    simp only [Rep] at hr ⊢
    obtain ⟨cs, h1, h2⟩ := hr
    exact ⟨cs, h1, namelessL_rep h h2⟩
  | iface t a =>
    simp only [namesOk] at h
    simp only [Rep] at hr ⊢
    obtain ⟨y, h1, h2⟩ := hr
    exact ⟨y, h1, nameless_rep h h2⟩
  | agg l =>
    simp only [namesOk] at h
    simp only [Rep] at hr ⊢
    obtain ⟨cs, h1, h2⟩ := hr
    exact ⟨cs, h1, namelessL_rep h h2⟩
  | tup l =>
    simp only [namesOk] at h
    simp only [Rep] at hr ⊢
    obtain ⟨cs, h1, h2⟩ := hr
    exact ⟨cs, h1, namelessL_rep h h2⟩
  | int k n => simpa only [Rep] using hr
  | bool b => simpa only [Rep] using hr
  | str s => simpa only [Rep] using hr
  | raw v => simpa only [Rep] using hr
  | nsl => simpa only [Rep] using hr
  | bot => simp only [Rep]
theorem namelessL_rep {ρ ρ' : Env} : ∀ {as : List AV} {vs : List Value}, namesOkL (fun _ => false) as = true → RepL ρ as vs → RepL ρ' as vs := fun {as} {vs} h hr => by
  cases as with
  | nil => simpa only [RepL] using hr
  | cons a as =>
    simp only [namesOkL, Bool.and_eq_true] at h
    simp only [RepL] at hr ⊢
    obtain ⟨v, r, h1, h2, h3⟩ := hr
    exact ⟨v, r, h1, nameless_rep h.1 h2, namelessL_rep h.2 h3⟩
end

theorem namesOkL_get {p : Nat → Bool} : ∀ {as : List AV}, namesOkL p as = true → ∀ (j : Nat) (a : AV), as[j]? = some a → namesOk p a = true
  | [], _, j, a, h => by simp at h
  | b :: as, h, j, a, hj => by
    simp only [namesOkL, Bool.and_eq_true] at h
    cases j with
    | zero => simp at hj; subst hj; exact h.1
    | succ j => exact namesOkL_get h.2 j a (by simpa using hj)

theorem backL_get {f : Nat → Nat} : ∀ {as : List AV}, (backL f as).length = as.length ∧ ∀ (j : Nat), (backL f as)[j]? = (as[j]?).map (backV f)
  | [] => ⟨rfl, fun j => by simp [backL]⟩
  | b :: as => by
    obtain ⟨h1, h2⟩ := backL_get (f := f) (as := as)
    refine ⟨by simp [backL, h1], fun j => ?_⟩
    cases j with
    | zero => simp [backL]
    | succ j => simpa [backL] using h2 j

/-- A callee's object, by the caller's names: arrays' elements name nothing. -/
def backO (f : Nat → Nat) : AObj → AObj
  | .cells c => .cells (backL f c)
  | o => o

def objOk (p : Nat → Bool) : AObj → Prop
  | .free => True
  | .cells c => namesOkL p c = true
  | .arr _ n f => ∀ i, i < n → namesOkL (fun _ => false) (f i) = true
  | .view _ _ _ => False

theorem backO_ok {p : Nat → Bool} {f : Nat → Nat} {ρ ρ' : Env} (hb : ∀ x, p x = true → ρ' (f x) = ρ x) {L : Loc} {o : AObj} {w : World} (ho : objOk p o) (h : ObjOk ρ L o w) : ObjOk ρ' L (backO f o) w := by
  cases o with
  | free => trivial
  | cells c =>
    simp only [backO, ObjOk]
    rw [backL_get.1]
    refine ⟨⟨h.1.nn, h.1.esz, h.1.cap, fun _ _ => backL_get.1, fun i hi j v hv => ?_⟩, h.2⟩
    rw [backL_get.2] at hv
    cases hc : c[j]? with
    | none => simp [hc] at hv
    | some a =>
      simp [hc] at hv
      obtain ⟨x, h1, h2, h3⟩ := h.1.cell i hi j a hc
      exact ⟨x, h1, by rw [← hv]; exact backV_rep hb (namesOkL_get ho j a hc) h2, h3⟩
  | arr sz n g =>
    rcases h with h | h
    · exact .inl h
    · refine .inr ⟨⟨h.1.nn, h.1.esz, h.1.cap, h.1.len, fun i hi j v hv => ?_⟩, h.2⟩
      obtain ⟨x, h1, h2, h3⟩ := h.1.cell i hi j v hv
      exact ⟨x, h1, nameless_rep (namesOkL_get (ho i hi) j v hv) h2, h3⟩
  | view sz n g => exact ho.elim

theorem backO_owned {f : Nat → Nat} {L : Loc} {o : AObj} : Owned L (backO f o) ↔ Owned L o := by
  cases o <;> simp [backO, Owned]

theorem backO_viewed {f : Nat → Nat} {L : Loc} {o : AObj} : Viewed L (backO f o) ↔ Viewed L o := by
  cases o <;> simp [backO, Viewed]

/-- A specification told of the callee's own objects, by their places: first those that came with the arguments, then new ones. -/
structure LSpec where
  X : Type
  mt : List AV → (Nat → AObj) → Option (X × ML)
  R : X → Prop
  args : X → List AV
  objs : X → List AObj
  res : X → AV
  outs : X → List AObj
  news : X → List AObj
  mtl : ∀ args H H' x ml, mt args H = some (x, ml) → (∀ y, y ∈ mlNames ml → H y = H' y) → mt args H' = some (x, ml)

def backN (ml : ML) (nb : Nat) (x : Nat) : Nat :=
  match ml[x]? with
  | some (some (y, _)) => y
  | _ => nb + (x - ml.length)

def mayName (ml : ML) (k : Nat) (x : Nat) : Bool :=
  match ml[x]? with
  | some (some (_, s)) => s == 0
  | some none => false
  | none => x < ml.length + k

/-- What is written: the objects that came and are owned. -/
def wrote (f : Nat → Nat) : ML → List AObj → List AObj → List (Nat × AObj)
  | some (y, _) :: r, o :: os, o' :: os' => if isOwn o = true then (y, backO f o') :: wrote f r os os' else wrote f r os os'
  | none :: r, _ :: os, _ :: os' => wrote f r os os'
  | _, _, _ => []

def fresh (f : Nat → Nat) : Nat → List AObj → List (Nat × AObj)
  | _, [] => []
  | x, o :: r => (x, backO f o) :: fresh f (x + 1) r

/-- Does what came fit? -/
structure Fits (L : LSpec) (x : L.X) (ml : ML) (args : List AV) (H : Nat → AObj) : Prop where
  args : ArgSL ml (L.args x) args
  objs : ObjsS ml H ml (L.objs x)
  nd : (mlNames ml).Nodup ∨ (L.objs x).all (fun o => !isOwn o) = true
  cond : L.R x
  outs : (L.outs x).length = ml.length
  few : (L.news x).length ≤ 8
  res : namesOk (mayName ml (L.news x).length) (L.res x) = true

open Classical in
noncomputable def LSpec.fn (L : LSpec) (args : List AV) (H : Nat → AObj) (nb : Nat) : Option Res :=
  match L.mt args H with
  | some (x, ml) => if Fits L x ml args H then some ⟨backV (backN ml nb) (L.res x), wrote (backN ml nb) ml (L.objs x) (L.outs x) ++ fresh (backN ml nb) nb (L.news x), mlNames ml⟩ else none
  | none => none

theorem ObjsS_loc {ml : ML} {H H' : Nat → AObj} : ∀ {r : ML} {os : List AObj}, (∀ y, y ∈ mlNames r → H y = H' y) → ObjsS ml H r os → ObjsS ml H' r os
  | [], [], _, h => h
  | some (y, k) :: r, o :: os, hH, h => by
    simp only [ObjsS] at h ⊢
    rw [← hH y (by simp [mlNames])]
    exact ⟨h.1, ObjsS_loc (fun z hz => hH z (by simp [mlNames] at hz ⊢; exact .inr hz)) h.2⟩
  | none :: r, o :: os, hH, h => by
    simp only [ObjsS] at h ⊢
    exact ⟨h.1, ObjsS_loc (fun z hz => hH z (by simpa [mlNames] using hz)) h.2⟩
  | [], _ :: _, _, h => by simp [ObjsS] at h
  | some _ :: _, [], _, h => by simp [ObjsS] at h
  | none :: _, [], _, h => by simp [ObjsS] at h

theorem fresh_names {f : Nat → Nat} : ∀ {l : List AObj} {x y : Nat}, y ∈ (fresh f x l).map (·.1) → x ≤ y ∧ y < x + l.length
  | [], _, _, h => by simp [fresh] at h
  | o :: r, x, y, h => by
    simp only [fresh, List.map_cons, List.mem_cons] at h
    rcases h with rfl | h
    · simp
    · have := fresh_names h; simp; omega

theorem wrote_names {f : Nat → Nat} {ml0 : ML} {H : Nat → AObj} : ∀ {ml : ML} {os os' : List AObj} {y : Nat}, ObjsS ml0 H ml os → y ∈ (wrote f ml os os').map (·.1) → H y ≠ .free ∧ y ∈ mlNames ml
  | some (z, k) :: r, o :: os, o' :: os', y, h, hy => by
    simp only [ObjsS] at h
    simp only [wrote] at hy
    split at hy
    · rename_i ho
      simp only [List.map_cons, List.mem_cons] at hy
      rcases hy with rfl | hy
      · refine ⟨fun e => ?_, by simp [mlNames]⟩
        rw [e] at h
        cases o <;> simp [isOwn] at ho <;> simp [ObjS] at h
      · have := wrote_names h.2 hy
        exact ⟨this.1, by simp [mlNames] at this ⊢; exact .inr this.2⟩
    · have := wrote_names h.2 hy
      exact ⟨this.1, by simp [mlNames] at this ⊢; exact .inr this.2⟩
  | none :: r, o :: os, o' :: os', y, h, hy => by
    simp only [ObjsS] at h
    simp only [wrote] at hy
    have := wrote_names h.2 hy
    exact ⟨this.1, by simpa [mlNames] using this.2⟩
  | [], _, _, _, _, hy => by simp [wrote] at hy
  | some _ :: _, [], _, _, _, hy => by simp [wrote] at hy
  | none :: _, [], _, _, _, hy => by simp [wrote] at hy
  | some _ :: _, _ :: _, [], _, _, hy => by simp [wrote] at hy
  | none :: _, _ :: _, [], _, _, hy => by simp [wrote] at hy

noncomputable def LSpec.spec (L : LSpec) : Spec where
  fn := L.fn
  loc := fun args H H' nb r h hH => by
    unfold LSpec.fn at h ⊢
    cases hm : L.mt args H with
    | none => simp [hm] at h
    | some q =>
      obtain ⟨x, ml⟩ := q
      simp only [hm] at h
      split at h
      · rename_i hf
        injection h with h
        have hn : ∀ y, y ∈ mlNames ml → H y = H' y := fun y hy => hH y (.inl (by rw [← h]; exact hy))
        rw [L.mtl args H H' x ml hm hn]
        simp only
        rw [if_pos ⟨hf.args, ObjsS_loc hn hf.objs, hf.nd, hf.cond, hf.outs, hf.few, hf.res⟩, h]
      · cases h
  nm := fun args H nb r h x hx => by
    unfold LSpec.fn at h
    cases hm : L.mt args H with
    | none => simp [hm] at h
    | some q =>
      obtain ⟨y, ml⟩ := q
      simp only [hm] at h
      split at h
      · rename_i hf
        injection h with h
        rw [← h] at hx
        simp only [List.map_append, List.mem_append] at hx
        rcases hx with hx | hx
        · exact .inr (wrote_names hf.objs hx).1
        · have := fresh_names hx
          have := hf.few
          exact .inl (by omega)
      · cases h

end Go.Vc
