/- States that say less, by other names; loops; a function's beginning and end. -/
import Derived.Test.YthehmmodkhoieaaVcK
namespace Go.Vc

/-- Which object a new name stands for: another one's, or a nil slice's. -/
def lkp : List (Nat × Option Nat) → Nat → Option (Option Nat)
  | [], _ => none
  | (k, v) :: r, j => if j = k then some v else lkp r j

mutual
/-- An old value, and a new one that says the same by new names. -/
def Ren (pl : List (Nat × Option Nat)) : AV → AV → Prop
  | _, .bot => True
  | .int k n, .int k' n' => k = k' ∧ n = n'
  | .bool b, .bool b' => b = b'
  | .str s, .str s' => s = s'
  | .raw v, .raw v' => v = v'
  | .nsl, .nsl => True
  | .nsl, .sl x i n => lkp pl x = some none ∧ i = 0 ∧ n = 0
  | .sl y i n, .sl x i' n' => lkp pl x = some (some y) ∧ i = i' ∧ n = n'
  | .ptr y i f, .ptr x i' f' => lkp pl x = some (some y) ∧ i = i' ∧ f = f'
  | .fn f c, .fn f' c' => f = f' ∧ RenL pl c c'
  | .iface t a, .iface t' a' => t = t' ∧ Ren pl a a'
  | .agg l, .agg l' => RenL pl l l'
  | .tup l, .tup l' => RenL pl l l'
  | _, _ => False
def RenL (pl : List (Nat × Option Nat)) : List AV → List AV → Prop
  | [], [] => True
  | a :: as, b :: bs => Ren pl a b ∧ RenL pl as bs
  | _, _ => False
end

def ObjLe (pl : List (Nat × Option Nat)) : AObj → AObj → Prop
  | _, .free => True
  | .cells c, .cells c' => RenL pl c c'
  | .arr sz n f, .arr sz' n' f' => sz = sz' ∧ n = n' ∧ ∀ i, i < n → RenL pl (f i) (f' i)
  | .view sz n f, .view sz' n' f' => sz = sz' ∧ n = n' ∧ ∀ i, i < n → RenL pl (f i) (f' i)
  | _, _ => False

def ObjRen (pl : List (Nat × Option Nat)) (H : Nat → AObj) (x : Nat) (o : AObj) : Prop :=
  match lkp pl x with
  | some (some y) => ObjLe pl (H y) o
  | some none => match o with
    | .arr _ n _ => n = 0
    | .view _ n _ => n = 0
    | .free => True
    | _ => False
  | none => o = .free

/-- A state says no more than another one. -/
structure LeW (m : Nat) (pl : List (Nat × Option Nat)) (s s' : St) : Prop where
  an : ∀ x, x < m → lkp pl x = some (some x)
  keys : ∀ p, p ∈ pl → p.1 < s'.nb
  inj : (pl.filterMap (·.2)).Nodup
  kd : (pl.map (·.1)).Nodup
  tm : ∀ p, p ∈ s'.tl → Ren pl (lk s.tl p.1) p.2
  ob : ∀ p, p ∈ s'.hl → p.1 < s'.nb ∧ ObjRen pl (hk s.hl) p.1 p.2

def nilLoc : Loc := ⟨0, 0, 0, 0, true⟩

/-- The environment by new names. -/
def Env.by (ρ ρ' : Env) (pl : List (Nat × Option Nat)) : Prop := ∀ x v, lkp pl x = some v → ρ' x = match v with | some y => ρ y | none => nilLoc

mutual
theorem Ren.rep {pl : List (Nat × Option Nat)} {ρ ρ' : Env} (hb : Env.by ρ ρ' pl) : ∀ {a b : AV} {v : Value}, Ren pl a b → Rep ρ a v → Rep ρ' b v
  | _, .bot, _, _, _ => by simp [Rep]
  | .int k n, .int k' n', v, h, hr => by rw [Ren] at h; simp only [Rep] at hr ⊢; rw [← h.1, ← h.2]; exact hr
  | .bool b, .bool b', v, h, hr => by rw [Ren] at h; simp only [Rep] at hr ⊢; rw [← h]; exact hr
  | .str s, .str s', v, h, hr => by rw [Ren] at h; simp only [Rep] at hr ⊢; rw [← h]; exact hr
  | .raw s, .raw s', v, h, hr => by rw [Ren] at h; simp only [Rep] at hr ⊢; rw [← h]; exact hr
  | .nsl, .nsl, v, h, hr => by simp only [Rep] at hr ⊢; exact hr
  | .nsl, .sl x i n, v, h, hr => by
    rw [Ren] at h
    simp only [Rep] at hr ⊢
    have := hb x _ h.1
    exact .inl ⟨by rw [this]; rfl, h.2.1, h.2.2, hr⟩
  | .sl y i n, .sl x i' n', v, h, hr => by
    rw [Ren] at h
    simp only [Rep] at hr ⊢
    have := hb x _ h.1
    simp only at this
    rw [this, ← h.2.1, ← h.2.2]; exact hr
  | .ptr y i f, .ptr x i' f', v, h, hr => by
    rw [Ren] at h
    simp only [Rep] at hr ⊢
    have := hb x _ h.1
    simp only at this
    rw [this, ← h.2.1, ← h.2.2]; exact hr
  | .fn f c, .fn f' c', v, h, hr => by
    rw [Ren] at h
    simp only [Rep] at hr ⊢
    obtain ⟨cs, h1, h2⟩ := hr
    exact ⟨cs, by rw [← h.1]; exact h1, RenL.rep hb h.2 h2⟩
  | .iface t a, .iface t' a', v, h, hr => by
    rw [Ren] at h
    simp only [Rep] at hr ⊢
    obtain ⟨x, h1, h2⟩ := hr
    exact ⟨x, by rw [← h.1]; exact h1, Ren.rep hb h.2 h2⟩
  | .agg l, .agg l', v, h, hr => by
    rw [Ren] at h
    simp only [Rep] at hr ⊢
    obtain ⟨cs, h1, h2⟩ := hr
    exact ⟨cs, h1, RenL.rep hb h h2⟩
  | .tup l, .tup l', v, h, hr => by
    rw [Ren] at h
    simp only [Rep] at hr ⊢
    obtain ⟨cs, h1, h2⟩ := hr
    exact ⟨cs, h1, RenL.rep hb h h2⟩
  | .bot, .int _ _, _, h, _ => by simp [Ren] at h
  | .bot, .bool _, _, h, _ => by simp [Ren] at h
  | .bot, .str _, _, h, _ => by simp [Ren] at h
  | .bot, .raw _, _, h, _ => by simp [Ren] at h
  | .bot, .ptr _ _ _, _, h, _ => by simp [Ren] at h
  | .bot, .sl _ _ _, _, h, _ => by simp [Ren] at h
  | .bot, .nsl, _, h, _ => by simp [Ren] at h
  | .bot, .fn _ _, _, h, _ => by simp [Ren] at h
  | .bot, .iface _ _, _, h, _ => by simp [Ren] at h
  | .bot, .agg _, _, h, _ => by simp [Ren] at h
  | .bot, .tup _, _, h, _ => by simp [Ren] at h
  | .int _ _, .bool _, _, h, _ => by simp [Ren] at h
  | .int _ _, .str _, _, h, _ => by simp [Ren] at h
  | .int _ _, .raw _, _, h, _ => by simp [Ren] at h
  | .int _ _, .ptr _ _ _, _, h, _ => by simp [Ren] at h
  | .int _ _, .sl _ _ _, _, h, _ => by simp [Ren] at h
  | .int _ _, .nsl, _, h, _ => by simp [Ren] at h
  | .int _ _, .fn _ _, _, h, _ => by simp [Ren] at h
  | .int _ _, .iface _ _, _, h, _ => by simp [Ren] at h
  | .int _ _, .agg _, _, h, _ => by simp [Ren] at h
  | .int _ _, .tup _, _, h, _ => by simp [Ren] at h
  | .bool _, .int _ _, _, h, _ => by simp [Ren] at h
  | .bool _, .str _, _, h, _ => by simp [Ren] at h
  | .bool _, .raw _, _, h, _ => by simp [Ren] at h
  | .bool _, .ptr _ _ _, _, h, _ => by simp [Ren] at h
  | .bool _, .sl _ _ _, _, h, _ => by simp [Ren] at h
  | .bool _, .nsl, _, h, _ => by simp [Ren] at h
  | .bool _, .fn _ _, _, h, _ => by simp [Ren] at h
  | .bool _, .iface _ _, _, h, _ => by simp [Ren] at h
  | .bool _, .agg _, _, h, _ => by simp [Ren] at h
  | .bool _, .tup _, _, h, _ => by simp [Ren] at h
  | .str _, .int _ _, _, h, _ => by simp [Ren] at h
  | .str _, .bool _, _, h, _ => by simp [Ren] at h
  | .str _, .raw _, _, h, _ => by simp [Ren] at h
  | .str _, .ptr _ _ _, _, h, _ => by simp [Ren] at h
  | .str _, .sl _ _ _, _, h, _ => by simp [Ren] at h
  | .str _, .nsl, _, h, _ => by simp [Ren] at h
  | .str _, .fn _ _, _, h, _ => by simp [Ren] at h
  | .str _, .iface _ _, _, h, _ => by simp [Ren] at h
  | .str _, .agg _, _, h, _ => by simp [Ren] at h
  | .str _, .tup _, _, h, _ => by simp [Ren] at h
  | .raw _, .int _ _, _, h, _ => by simp [Ren] at h
  | .raw _, .bool _, _, h, _ => by simp [Ren] at h
  | .raw _, .str _, _, h, _ => by simp [Ren] at h
  | .raw _, .ptr _ _ _, _, h, _ => by simp [Ren] at h
  | .raw _, .sl _ _ _, _, h, _ => by simp [Ren] at h
  | .raw _, .nsl, _, h, _ => by simp [Ren] at h
  | .raw _, .fn _ _, _, h, _ => by simp [Ren] at h
  | .raw _, .iface _ _, _, h, _ => by simp [Ren] at h
  | .raw _, .agg _, _, h, _ => by simp [Ren] at h
  | .raw _, .tup _, _, h, _ => by simp [Ren] at h
  | .ptr _ _ _, .int _ _, _, h, _ => by simp [Ren] at h
  | .ptr _ _ _, .bool _, _, h, _ => by simp [Ren] at h
  | .ptr _ _ _, .str _, _, h, _ => by simp [Ren] at h
  | .ptr _ _ _, .raw _, _, h, _ => by simp [Ren] at h
  | .ptr _ _ _, .sl _ _ _, _, h, _ => by simp [Ren] at h
  | .ptr _ _ _, .nsl, _, h, _ => by simp [Ren] at h
  | .ptr _ _ _, .fn _ _, _, h, _ => by simp [Ren] at h
  | .ptr _ _ _, .iface _ _, _, h, _ => by simp [Ren] at h
  | .ptr _ _ _, .agg _, _, h, _ => by simp [Ren] at h
  | .ptr _ _ _, .tup _, _, h, _ => by simp [Ren] at h
  | .sl _ _ _, .int _ _, _, h, _ => by simp [Ren] at h
  | .sl _ _ _, .bool _, _, h, _ => by simp [Ren] at h
  | .sl _ _ _, .str _, _, h, _ => by simp [Ren] at h
  | .sl _ _ _, .raw _, _, h, _ => by simp [Ren] at h
  | .sl _ _ _, .ptr _ _ _, _, h, _ => by simp [Ren] at h
  | .sl _ _ _, .nsl, _, h, _ => by simp [Ren] at h
  | .sl _ _ _, .fn _ _, _, h, _ => by simp [Ren] at h
  | .sl _ _ _, .iface _ _, _, h, _ => by simp [Ren] at h
  | .sl _ _ _, .agg _, _, h, _ => by simp [Ren] at h
  | .sl _ _ _, .tup _, _, h, _ => by simp [Ren] at h
  | .nsl, .int _ _, _, h, _ => by simp [Ren] at h
  | .nsl, .bool _, _, h, _ => by simp [Ren] at h
  | .nsl, .str _, _, h, _ => by simp [Ren] at h
  | .nsl, .raw _, _, h, _ => by simp [Ren] at h
  | .nsl, .ptr _ _ _, _, h, _ => by simp [Ren] at h
  | .nsl, .fn _ _, _, h, _ => by simp [Ren] at h
  | .nsl, .iface _ _, _, h, _ => by simp [Ren] at h
  | .nsl, .agg _, _, h, _ => by simp [Ren] at h
  | .nsl, .tup _, _, h, _ => by simp [Ren] at h
  | .fn _ _, .int _ _, _, h, _ => by simp [Ren] at h
  | .fn _ _, .bool _, _, h, _ => by simp [Ren] at h
  | .fn _ _, .str _, _, h, _ => by simp [Ren] at h
  | .fn _ _, .raw _, _, h, _ => by simp [Ren] at h
  | .fn _ _, .ptr _ _ _, _, h, _ => by simp [Ren] at h
  | .fn _ _, .sl _ _ _, _, h, _ => by simp [Ren] at h
  | .fn _ _, .nsl, _, h, _ => by simp [Ren] at h
  | .fn _ _, .iface _ _, _, h, _ => by simp [Ren] at h
  | .fn _ _, .agg _, _, h, _ => by simp [Ren] at h
  | .fn _ _, .tup _, _, h, _ => by simp [Ren] at h
  | .iface _ _, .int _ _, _, h, _ => by simp [Ren] at h
  | .iface _ _, .bool _, _, h, _ => by simp [Ren] at h
  | .iface _ _, .str _, _, h, _ => by simp [Ren] at h
  | .iface _ _, .raw _, _, h, _ => by simp [Ren] at h
  | .iface _ _, .ptr _ _ _, _, h, _ => by simp [Ren] at h
  | .iface _ _, .sl _ _ _, _, h, _ => by simp [Ren] at h
  | .iface _ _, .nsl, _, h, _ => by simp [Ren] at h
  | .iface _ _, .fn _ _, _, h, _ => by simp [Ren] at h
  | .iface _ _, .agg _, _, h, _ => by simp [Ren] at h
  | .iface _ _, .tup _, _, h, _ => by simp [Ren] at h
  | .agg _, .int _ _, _, h, _ => by simp [Ren] at h
  | .agg _, .bool _, _, h, _ => by simp [Ren] at h
  | .agg _, .str _, _, h, _ => by simp [Ren] at h
  | .agg _, .raw _, _, h, _ => by simp [Ren] at h
  | .agg _, .ptr _ _ _, _, h, _ => by simp [Ren] at h
  | .agg _, .sl _ _ _, _, h, _ => by simp [Ren] at h
  | .agg _, .nsl, _, h, _ => by simp [Ren] at h
  | .agg _, .fn _ _, _, h, _ => by simp [Ren] at h
  | .agg _, .iface _ _, _, h, _ => by simp [Ren] at h
  | .agg _, .tup _, _, h, _ => by simp [Ren] at h
  | .tup _, .int _ _, _, h, _ => by simp [Ren] at h
  | .tup _, .bool _, _, h, _ => by simp [Ren] at h
  | .tup _, .str _, _, h, _ => by simp [Ren] at h
  | .tup _, .raw _, _, h, _ => by simp [Ren] at h
  | .tup _, .ptr _ _ _, _, h, _ => by simp [Ren] at h
  | .tup _, .sl _ _ _, _, h, _ => by simp [Ren] at h
  | .tup _, .nsl, _, h, _ => by simp [Ren] at h
  | .tup _, .fn _ _, _, h, _ => by simp [Ren] at h
  | .tup _, .iface _ _, _, h, _ => by simp [Ren] at h
  | .tup _, .agg _, _, h, _ => by simp [Ren] at h
theorem RenL.rep {pl : List (Nat × Option Nat)} {ρ ρ' : Env} (hb : Env.by ρ ρ' pl) : ∀ {as bs : List AV} {vs : List Value}, RenL pl as bs → RepL ρ as vs → RepL ρ' bs vs
  | [], [], vs, _, hr => by simp only [RepL] at hr ⊢; exact hr
  | a :: as, b :: bs, vs, h, hr => by
    rw [RenL] at h
    simp only [RepL] at hr ⊢
    obtain ⟨v, r, h1, h2, h3⟩ := hr
    exact ⟨v, r, h1, Ren.rep hb h.1 h2, RenL.rep hb h.2 h3⟩
  | [], b :: bs, _, h, _ => by simp [RenL] at h
  | a :: as, [], _, h, _ => by simp [RenL] at h
end

theorem lkp_mem : ∀ {pl : List (Nat × Option Nat)} {x : Nat} {v : Option Nat}, lkp pl x = some v → (x, v) ∈ pl
  | [], _, _, h => by cases h
  | (k, u) :: r, x, v, h => by
    simp only [lkp] at h
    split at h
    · rename_i e; injection h with h; subst e h; exact List.mem_cons_self
    · exact List.mem_cons_of_mem _ (lkp_mem h)

/-- Two new names don't stand for one object. -/
theorem lkp_inj : ∀ {pl : List (Nat × Option Nat)}, (pl.filterMap (·.2)).Nodup → ∀ {x x' y : Nat}, lkp pl x = some (some y) → lkp pl x' = some (some y) → x = x'
  | [], _, _, _, _, h, _ => by cases h
  | (k, u) :: r, hn, x, x', y, h, h' => by
    have tail : (r.filterMap (·.2)).Nodup := by
      cases u with
      | none => simpa using hn
      | some z => simp at hn; exact hn.2
    have notin : ∀ z, u = some z → ∀ q, lkp r q ≠ some (some z) := fun z hz q hq => by
      subst hz
      have hn' := List.nodup_cons.1 (show (z :: r.filterMap (·.2)).Nodup by simpa using hn)
      exact hn'.1 (List.mem_filterMap.2 ⟨_, lkp_mem hq, rfl⟩)
    simp only [lkp] at h h'
    split at h
    · rename_i e
      injection h with h
      split at h'
      · rename_i e'; rw [e, e']
      · exact absurd h' (notin y h _)
    · split at h'
      · injection h' with h'; exact absurd h (notin y h' _)
      · exact lkp_inj tail h h'

theorem lk_mem : ∀ {tl : List (Nat × AV)} {t : Nat}, lk tl t ≠ .bot → (t, lk tl t) ∈ tl
  | [], _, h => absurd rfl h
  | (k, v) :: r, t, h => by
    simp only [lk] at h ⊢
    split
    · rename_i e; subst e; exact List.mem_cons_self
    · rename_i e; rw [if_neg e] at h; exact List.mem_cons_of_mem _ (lk_mem h)

theorem hk_mem : ∀ {hl : List (Nat × AObj)} {t : Nat}, hk hl t ≠ .free → (t, hk hl t) ∈ hl
  | [], _, h => absurd rfl h
  | (k, v) :: r, t, h => by
    simp only [hk] at h ⊢
    split
    · rename_i e; subst e; exact List.mem_cons_self
    · rename_i e; rw [if_neg e] at h; exact List.mem_cons_of_mem _ (hk_mem h)

theorem RenL.get {pl : List (Nat × Option Nat)} : ∀ {as bs : List AV}, RenL pl as bs → as.length = bs.length ∧ ∀ (j : Nat) (b : AV), bs[j]? = some b → ∃ a, as[j]? = some a ∧ Ren pl a b
  | [], [], _ => ⟨rfl, fun j b h => by simp at h⟩
  | a :: as, b :: bs, h => by
    rw [RenL] at h
    obtain ⟨h1, h2⟩ := RenL.get h.2
    refine ⟨by simp [h1], fun j c hc => ?_⟩
    cases j with
    | zero => simp at hc; subst hc; exact ⟨a, rfl, h.1⟩
    | succ j => simpa using h2 j c (by simpa using hc)
  | [], b :: bs, h => by simp [RenL] at h
  | a :: as, [], h => by simp [RenL] at h

section
variable {w0 : World} {S : Sc} {N : Nat} {D : List Deferred}

theorem Reg.ren {pl : List (Nat × Option Nat)} {ρ ρ' : Env} (hb : Env.by ρ ρ' pl) {L : Loc} {sz n : Nat} {f f' : Nat → List AV} {w : World} (h : Reg ρ L sz n f w) (hf : ∀ i, i < n → RenL pl (f i) (f' i)) : Reg ρ' L sz n f' w :=
  ⟨h.nn, h.esz, h.cap, fun i hi => by rw [← (hf i hi).get.1]; exact h.len i hi, fun i hi j v hv => by
    obtain ⟨a, ha, hr⟩ := (hf i hi).get.2 j v hv
    obtain ⟨x, h1, h2, h3⟩ := h.cell i hi j a ha
    exact ⟨x, h1, Ren.rep hb hr h2, h3⟩⟩

theorem ObjLe.ok {pl : List (Nat × Option Nat)} {ρ ρ' : Env} (hb : Env.by ρ ρ' pl) {L : Loc} {o o' : AObj} {w : World} (hle : ObjLe pl o o') (h : ObjOk ρ L o w) : ObjOk ρ' L o' w := by
  cases o' with
  | free => trivial
  | cells c' =>
    cases o <;> simp only [ObjLe] at hle
    rename_i c
    have hl := hle.get.1
    refine ⟨?_, by rw [← hl]; exact h.2⟩
    rw [← hl]
    exact h.1.ren hb fun _ _ => hle
  | arr sz' n' f' =>
    cases o <;> simp only [ObjLe] at hle
    obtain ⟨rfl, rfl, hf⟩ := hle
    rcases h with h | h
    · exact .inl h
    · exact .inr ⟨h.1.ren hb hf, h.2⟩
  | view sz' n' f' =>
    cases o <;> simp only [ObjLe] at hle
    obtain ⟨rfl, rfl, hf⟩ := hle
    rcases h with h | h
    · exact .inl h
    · exact .inr (h.ren hb hf)

theorem ObjLe.own {pl : List (Nat × Option Nat)} {L : Loc} {o o' : AObj} (hle : ObjLe pl o o') (h : Owned L o') : Owned L o := by
  cases o' <;> cases o <;> simp_all [ObjLe, Owned]

theorem ObjLe.viewed {pl : List (Nat × Option Nat)} {L : Loc} {o o' : AObj} (hle : ObjLe pl o o') (h : Viewed L o') : Viewed L o := by
  cases o' <;> cases o <;> simp_all [ObjLe, Viewed]

theorem hcore_ren {pl : List (Nat × Option Nat)} {ρ ρ' : Env} (hb : Env.by ρ ρ' pl) (han : ∀ x, x < S.m → lkp pl x = some (some x)) (hinj : (pl.filterMap (·.2)).Nodup) {H H' : Nat → AObj} {w : World} (hob : ∀ x, H' x ≠ .free → ObjRen pl H x (H' x)) (h : HCore w0 S ρ H w) : HCore w0 S ρ' H' w := by
  have origin : ∀ x, H' x ≠ .free → (∃ y, lkp pl x = some (some y) ∧ ρ' x = ρ y ∧ ObjLe pl (H y) (H' x)) ∨ (ρ' x = nilLoc ∧ ((∃ sz f, H' x = .arr sz 0 f) ∨ (∃ sz f, H' x = .view sz 0 f))) := fun x hx => by
    have h1 := hob x hx
    unfold ObjRen at h1
    cases hl : lkp pl x with
    | none => rw [hl] at h1; exact absurd h1 hx
    | some v =>
      rw [hl] at h1
      cases v with
      | some y => exact .inl ⟨y, rfl, hb x _ hl, h1⟩
      | none =>
        right
        refine ⟨hb x _ hl, ?_⟩
        cases ho : H' x <;> rw [ho] at h1 <;> simp only at h1
        · exact absurd ho hx
        · subst h1; exact .inl ⟨_, _, rfl⟩
        · subst h1; exact .inr ⟨_, _, rfl⟩
  have ownd : ∀ x, Owned (ρ' x) (H' x) → ∃ y, lkp pl x = some (some y) ∧ ρ' x = ρ y ∧ Owned (ρ y) (H y) := fun x hx => by
    rcases origin x (by intro e; rw [e] at hx; exact hx) with ⟨y, h1, h2, h3⟩ | ⟨h1, ⟨sz, f, h2⟩ | ⟨sz, f, h2⟩⟩
    · exact ⟨y, h1, h2, by rw [h2] at hx; exact h3.own hx⟩
    · rw [h1, h2] at hx; simp [Owned, nilLoc] at hx
    · rw [h2] at hx; exact hx.elim
  exact
    { an := fun x hx => by rw [hb x _ (han x hx)]; exact h.an x hx
      os := h.os, tape := h.tape, output := h.output, size := h.size, frame := h.frame
      obj := fun x => by
        by_cases hx : H' x = .free
        · rw [hx]; trivial
        · rcases origin x hx with ⟨y, h1, h2, h3⟩ | ⟨h1, ⟨sz, f, h2⟩ | ⟨sz, f, h2⟩⟩
          · rw [h2]; exact h3.ok hb (h.obj y)
          · rw [h1, h2]; exact .inl ⟨rfl, rfl⟩
          · rw [h1, h2]; exact .inl ⟨rfl, rfl⟩
      own := fun x hx => by
        obtain ⟨y, h1, h2, h3⟩ := ownd x hx
        rw [h2]; exact h.own y h3
      dist := fun x x' hx hx' e => by
        obtain ⟨y, h1, h2, h3⟩ := ownd x hx
        obtain ⟨y', h1', h2', h3'⟩ := ownd x' hx'
        rw [h2, h2'] at e
        have := h.dist y y' h3 h3' e
        subst this
        exact lkp_inj hinj h1 h1'
      vw := fun x hx => by
        rcases origin x (by intro e; rw [e] at hx; exact hx) with ⟨y, h1, h2, h3⟩ | ⟨h1, ⟨sz, f, h2⟩ | ⟨sz, f, h2⟩⟩
        · rw [h2] at hx ⊢; exact h.vw y (h3.viewed hx)
        · rw [h2] at hx; exact hx.elim
        · rw [h1, h2] at hx; simp [Viewed, nilLoc] at hx }

/-- A state that says no more holds, too. -/
theorem SatS.le {pl : List (Nat × Option Nat)} {s s' : St} {a : Act} {w : World} (h : SatS w0 S N D s a w) (hle : LeW S.m pl s s') : SatS w0 S N D s' a w := by
  obtain ⟨⟨Es, hs⟩, hN, hD⟩ := h
  refine ⟨⟨fun ρ' => ∃ ρ, Es ρ ∧ Env.by ρ ρ' pl, ?_, ?_, ?_, ?_, ?_, ?_⟩, hN, hD⟩
  · obtain ⟨ρ, hρ⟩ := hs.ne
    exact ⟨fun x => match lkp pl x with | some (some y) => ρ y | _ => nilLoc, ρ, hρ, fun x v hv => by simp only [hv]; cases v <;> rfl⟩
  · rintro ρ1 ρ2 ⟨ρ, hρ, hb⟩ he
    refine ⟨ρ, hρ, fun x v hv => ?_⟩
    rw [he x fun hx => ?_]
    · exact hb x v hv
    · have := hle.keys _ (lkp_mem hv)
      simp only at this hx
      omega
  · intro x hx
    by_cases h1 : hk s'.hl x = .free
    · exact h1
    · have := (hle.ob _ (hk_mem h1)).1
      simp only at this hx
      omega
  · rintro ρ1' ρ2' ⟨ρ1, hρ1, hb1⟩ ⟨ρ2, hρ2, hb2⟩ x hx
    have h1 := (hle.ob _ (hk_mem hx)).2
    simp only [ObjRen] at h1
    split at h1
    · rename_i y hy
      rw [hb1 x _ hy, hb2 x _ hy]
      refine hs.pin ρ1 ρ2 hρ1 hρ2 y fun e => ?_
      rw [e] at h1
      revert h1 hx
      cases hk s'.hl x <;> simp [ObjLe]
    · rename_i hy
      rw [hb1 x _ hy, hb2 x _ hy]
    · exact absurd h1 hx
  · rintro ρ' ⟨ρ, hρ, hb⟩ t ht
    have h1 := hle.tm _ (lk_mem ht)
    simp only at h1
    have h2 : lk s.tl t ≠ .bot := fun e => by
      rw [e] at h1
      revert h1 ht
      cases lk s'.tl t <;> simp [Ren]
    obtain ⟨v, h3, h4⟩ := hs.tm ρ hρ t h2
    exact ⟨v, h3, Ren.rep hb h1 h4⟩
  · rintro ρ' ⟨ρ, hρ, hb⟩
    exact hcore_ren hb hle.an hle.inj (fun x hx => (hle.ob _ (hk_mem hx)).2) (hs.hp ρ hρ)

variable {P : Program} {s : St} {Q : Exit → St → Prop}

theorem Wm_le {c : MCode} (pl : List (Nat × Option Nat)) (s' : St) (hle : LeW S.m pl s s') (h : Wm P w0 S N D c s' Q) : Wm P w0 S N D c s Q := fun code hc a w hs => h code hc a w (hs.le hle)

/-- A LOOP: what holds at its head, told by some value that a measure makes smaller. -/
def loopK (m : Nat) {α : Type} (I : α → St) (R : α → Prop) (μ : α → Nat) (x : α) (Q : Exit → St → Prop) : Exit → St → Prop
  | .normal, s => ∃ y, R y ∧ μ y < μ x ∧ ∃ pl, LeW m pl s (I y)
  | e, s => Q e s

theorem Wm_loop {c : MCode} {α : Type} (I : α → St) (R : α → Prop) (μ : α → Nat) (x0 : α) (pl0 : List (Nat × Option Nat)) (h0 : R x0) (hle : LeW S.m pl0 s (I x0)) (hr : ∀ x, R x → Wm P w0 S N D c (I x) (loopK S.m I R μ x Q)) : Wm P w0 S N D (.loop c) s Q := fun code hc a w hs => by
  cases code <;> simp only [rC, reduceCtorEq, Option.some.injEq] at hc
  case loop cc =>
    cases hq : rC P cc with
    | none => simp [hq] at hc
    | some c' =>
      simp only [hq, Option.map_some, Option.some.injEq, MCode.loop.injEq] at hc
      subst hc
      intro b k cs
      have key : ∀ n x, μ x = n → R x → ∀ a w, SatS w0 S N D (I x) a w →
          ∃ e a' w', (∃ s', SatS w0 S N D s' a' w' ∧ Q e s') ∧ Arrives P (lone (b.at a (.code cc :: .inLoop cc :: k)) cs w) b k cs e a' w' := by
        intro n
        induction n using Nat.strongRecOn with
        | _ n ih =>
          intro x hn hR a w hsat
          obtain ⟨e, a₁, w₁, ⟨s1, hs1, hq1⟩, harr⟩ := hr x hR cc hq a w hsat b (.inLoop cc :: k) cs
          cases e with
          | normal =>
            obtain ⟨y, hy, hlt, pl, hpl⟩ := hq1
            obtain ⟨e₂, a₂, w₂, hq₂, harr₂⟩ := ih (μ y) (hn ▸ hlt) y rfl hy a₁ w₁ (hs1.le hpl)
            exact ⟨e₂, a₂, w₂, hq₂, .of_steps (Steps.trans harr (.one step_inLoop)) harr₂⟩
          | exit id => exact ⟨_, a₁, w₁, ⟨s1, hs1, hq1⟩, .pass (x := .inLoop cc) rfl (fun _ _ => .inl (by simp)) harr⟩
          | goto l => exact ⟨_, a₁, w₁, ⟨s1, hs1, hq1⟩, .pass (x := .inLoop cc) rfl (fun _ _ => .inl (by simp)) harr⟩
          | ret => exact ⟨_, a₁, w₁, ⟨s1, hs1, hq1⟩, .pass (x := .inLoop cc) rfl (fun _ _ => .inl (by simp)) harr⟩
          | panic ch => exact ⟨_, a₁, w₁, ⟨s1, hs1, hq1⟩, .pass (x := .inLoop cc) rfl (fun _ _ => .inl (by simp)) harr⟩
          | outgrown => exact ⟨_, a₁, w₁, ⟨s1, hs1, hq1⟩, .pass (x := .inLoop cc) rfl (fun _ _ => .inl (by simp)) harr⟩
      obtain ⟨e, a', w', hq, harr⟩ := key _ x0 rfl h0 a w (hs.le hle)
      exact ⟨e, a', w', hq, .of_steps (.one step_loop) harr⟩
  all_goals ((repeat' (split at hc)) <;> first | (cases hc; done) | (simp only [Option.map_eq_some_iff, reduceCtorEq, and_false, exists_false] at hc; done))

end

end Go.Vc
