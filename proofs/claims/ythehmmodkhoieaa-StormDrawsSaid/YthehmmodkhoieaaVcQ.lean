/- Functions of plain values: a specification is a function from arguments to the result. -/
import Derived.Test.YthehmmodkhoieaaVcP
namespace Go.Vc

def scal (dec : List AV → Option AV) : Spec where
  fn args _ _ := (dec args).map fun v => ⟨v, [], []⟩
  loc := fun _ _ _ _ _ h _ => h
  nm := fun args H nb r h x hx => by
    cases hd : dec args with
    | none => simp [hd] at h
    | some v => simp [hd] at h; subst h; simp at hx

mutual
theorem Ren_refl {pl : List (Nat × Option Nat)} : ∀ {v : AV}, namesOk (fun _ => false) v = true → Ren pl v v := fun {v} h => by
  cases v with
  | sl x i n => simp [namesOk] at h
  | ptr x i n => simp [namesOk] at h
  | fn g c => simp only [namesOk] at h; simp only [Ren, true_and]; exact RenL_refl h
  | iface t a => simp only [namesOk] at h; simp only [Ren, true_and]; exact Ren_refl h
  | agg l => simp only [namesOk] at h; simp only [Ren]; exact RenL_refl h
  | tup l => simp only [namesOk] at h; simp only [Ren]; exact RenL_refl h
  | _ => simp [Ren]
theorem RenL_refl {pl : List (Nat × Option Nat)} : ∀ {vs : List AV}, namesOkL (fun _ => false) vs = true → RenL pl vs vs := fun {vs} h => by
  cases vs with
  | nil => simp [RenL]
  | cons a as =>
    simp only [namesOkL, Bool.and_eq_true] at h
    simp only [RenL]
    exact ⟨Ren_refl h.1, RenL_refl h.2⟩
end

mutual
theorem backV_refl {f : Nat → Nat} : ∀ {v : AV}, namesOk (fun _ => false) v = true → backV f v = v := fun {v} h => by
  cases v with
  | sl x i n => simp [namesOk] at h
  | ptr x i n => simp [namesOk] at h
  | fn g c => simp only [namesOk] at h; simp only [backV, backL_refl h]
  | iface t a => simp only [namesOk] at h; simp only [backV, backV_refl h]
  | agg l => simp only [namesOk] at h; simp only [backV, backL_refl h]
  | tup l => simp only [namesOk] at h; simp only [backV, backL_refl h]
  | _ => simp [backV]
theorem backL_refl {f : Nat → Nat} : ∀ {vs : List AV}, namesOkL (fun _ => false) vs = true → backL f vs = vs := fun {vs} h => by
  cases vs with
  | nil => simp [backL]
  | cons a as =>
    simp only [namesOkL, Bool.and_eq_true] at h
    simp only [backL, backV_refl h.1, backL_refl h.2]
end

mutual
theorem namesOk_mono {p q : Nat → Bool} (hpq : ∀ x, p x = true → q x = true) : ∀ {v : AV}, namesOk p v = true → namesOk q v = true := fun {v} h => by
  cases v with
  | sl x i n => exact hpq x h
  | ptr x i n => exact hpq x h
  | fn g c => simp only [namesOk] at h ⊢; exact namesOkL_mono hpq h
  | iface t a => simp only [namesOk] at h ⊢; exact namesOk_mono hpq h
  | agg l => simp only [namesOk] at h ⊢; exact namesOkL_mono hpq h
  | tup l => simp only [namesOk] at h ⊢; exact namesOkL_mono hpq h
  | _ => rfl
theorem namesOkL_mono {p q : Nat → Bool} (hpq : ∀ x, p x = true → q x = true) : ∀ {vs : List AV}, namesOkL p vs = true → namesOkL q vs = true := fun {vs} h => by
  cases vs with
  | nil => rfl
  | cons a as =>
    simp only [namesOkL, Bool.and_eq_true] at h ⊢
    exact ⟨namesOk_mono hpq h.1, namesOkL_mono hpq h.2⟩
end

section
variable {P : Program}

def scalL (dec : List AV → Option AV) : LSpec where
  X := List AV × AV
  mt args _ := (dec args).map fun r => ((args, r), [])
  R x := dec x.1 = some x.2
  args x := x.1
  objs _ := []
  res x := x.2
  outs _ := []
  news _ := []
  mtl := fun _ _ _ _ _ h _ => h

theorem scal_sound {f : FuncId} {fn : Func} {dec : List AV → Option AV} {mc : MCode} {res : List RV} (hf : P.funcs[f]? = some fn) (hn : (fn.name == "runtime.NumGoroutine") = false) (hrc : rcOf P fn = some mc) (hres : rRVs P fn.results.toList = some res)
    (hfl : ∀ args r, dec args = some r → ArgSL [] args args ∧ namesOk (fun _ => false) r = true ∧ args.length ≤ fn.ntmps)
    (hw : ∀ args r, dec args = some r → ∀ (w0 : World) (S : Sc), S.m = 0 → Wm P w0 S fn.ntmps [] mc ⟨argL 0 args, [], 0⟩ (retK res fun v _ => v = r)) : Sound P f (scal dec) := by
  obtain ⟨c, hb, hrc⟩ := rcOf_body hrc
  have h := LSpec.sound (P := P) (L := scalL dec) hf hn hb hrc hres (fun x _ o ho => by simp [scalL] at ho) (fun x hx => (hfl _ _ hx).2.2) (fun x hx w0 S hS => Wm_mono (hw x.1 x.2 hx w0 S hS) fun e s hq => by
    have key : Holds (rdRes s res) (fun v => v = x.2) → Holds (rdRes s res) fun v => ∃ pl, LeW 0 pl ⟨[(0, v)], s.hl, s.nb⟩ ⟨[(0, x.2)], [], 0⟩ := by
      rintro ⟨v, h1, rfl⟩
      refine ⟨_, h1, [], ⟨fun _ h => by simp at h, by simp, by simp, by simp, fun p hp => ?_, by simp⟩⟩
      simp at hp
      subst hp
      simpa [lk] using Ren_refl (hfl _ _ hx).2.1
    cases e with
    | normal => exact key hq
    | ret => exact key hq
    | _ => exact hq.elim)
  refine ⟨h.fn, fun w0 S Es U H w avs vs nb r h1 h2 h3 h4 h5 h6 h7 h8 => h.calls w0 S Es U H w avs vs nb r h1 h2 h3 h4 h5 h6 ?_ h8⟩
  have h7' : (dec avs).map (fun v => (⟨v, [], []⟩ : Res)) = some r := h7
  show LSpec.fn (scalL dec) avs H nb = some r
  cases hd : dec avs with
  | none => simp [hd] at h7'
  | some v =>
    simp only [hd, Option.map_some, Option.some.injEq] at h7'
    subst h7'
    have e : (scalL dec).mt avs H = some ((avs, v), []) := by simp [scalL, hd]
    unfold LSpec.fn
    rw [e]
    simp only
    rw [if_pos ⟨(hfl _ _ hd).1, by simp [scalL, ObjsS], .inr rfl, hd, rfl, by simp [scalL], namesOk_mono (fun _ h => by cases h) (hfl _ _ hd).2.1⟩]
    simp [scalL, wrote, fresh, mlNames, backV_refl (hfl _ _ hd).2.1]

end

/-- Values without names. -/
def flatB : AV → Bool
  | .int _ _ | .bool _ | .str _ | .raw _ => true
  | .agg l => l.all fun
    | .int _ _ | .bool _ | .str _ | .raw _ => true
    | _ => false
  | _ => false

theorem flat_agg {ml : ML} : ∀ {l : List AV}, (l.all fun
    | .int _ _ | .bool _ | .str _ | .raw _ => true
    | _ => false) = true → ArgSL ml l l
  | [], _ => by simp [ArgSL]
  | a :: as, h => by
    simp only [List.all_cons, Bool.and_eq_true] at h
    rw [ArgSL]
    refine ⟨?_, flat_agg h.2⟩
    have h := h.1
    cases a <;> simp at h <;> simp [ArgS]

theorem flat_args {ml : ML} : ∀ {l : List AV}, l.all flatB = true → ArgSL ml l l
  | [], _ => by simp [ArgSL]
  | a :: as, h => by
    simp only [List.all_cons, Bool.and_eq_true] at h
    rw [ArgSL]
    refine ⟨?_, flat_args h.2⟩
    have h := h.1
    cases a with
    | agg c => rw [ArgS]; exact flat_agg h
    | _ => first | (simp [ArgS]; done) | (simp [flatB] at h)

theorem scal_fn (dec : List AV → Option AV) (args : List AV) (H : Nat → AObj) (nb : Nat) : (scal dec).fn args H nb = (dec args).map fun v => ⟨v, [], []⟩ := rfl
theorem map_ite {α β : Type} (c : Prop) [Decidable c] (x y : Option α) (f : α → β) : Option.map f (if c then x else y) = if c then Option.map f x else Option.map f y := by split <;> rfl
attribute [simp] scal_fn map_ite

end Go.Vc
