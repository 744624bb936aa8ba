/- Rows of data. -/
import Derived.Test.YtmbploeikjangaaGreatWkA
import Derived.Test.YtmbploeikjangaaGreatWRk
set_option linter.unusedSimpArgs false
set_option linter.unusedVariables false
namespace Go.W

def AV.fl : AV → Bool
  | .int _ _ | .bool _ | .str _ => true
  | _ => false

/-- Cells that hold data alone, and tell by what. -/
class Dat {α : Type} (g : α → List AV) : Prop where
  dat : ∀ x, (g x).all AV.fl = true
  inj : ∀ x y, g x = g y → x = y

def rows {α : Type} (g : α → List AV) (l : List α) : List (List AV) := l.map g

section
variable {α : Type} {g : α → List AV}

theorem datL_all {c : List AV} (h : c.all AV.fl = true) (n : Nat) : t0L c = c ∧ clL c = true ∧ tlL n c = true ∧ datL c = true := by
  induction c with
  | nil => exact ⟨rfl, rfl, rfl, rfl⟩
  | cons a c ih =>
    simp only [List.all_cons, Bool.and_eq_true] at h ih
    obtain ⟨h1, h2, h3, h4⟩ := ih h.2
    have : AV.t0 a = a ∧ AV.cl a = true ∧ AV.tl n a = true ∧ AV.dat a = true := by cases a <;> simp_all [AV.fl, AV.dat, AV.t0, AV.cl, AV.tl]
    exact ⟨by rw [t0L, this.1, h1], by rw [clL, this.2.1, h2]; rfl, by rw [tlL, this.2.2.1, h3]; rfl, by unfold datL at h4 ⊢; rw [List.all_cons, this.2.2.2, h4]; rfl⟩

@[simp] theorem rows_length (l : List α) : (rows g l).length = l.length := List.length_map ..
@[simp] theorem rows_nil : rows g [] = [] := rfl
@[simp] theorem rows_dat [Dat g] (l : List α) : datLL (rows g l) = true := List.all_eq_true.2 fun c hc => by obtain ⟨o, _, rfl⟩ := List.mem_map.1 hc; exact (datL_all (Dat.dat o) 0).2.2.2
@[simp] theorem rows_t0 [Dat g] : ∀ l : List α, t0LL (rows g l) = rows g l
  | [] => rfl
  | x :: l => by show t0L (g x) :: t0LL (rows g l) = _; rw [(datL_all (Dat.dat x) 0).1, rows_t0 l]; rfl
@[simp] theorem rows_cl [Dat g] : ∀ l : List α, clLL (rows g l) = true
  | [] => rfl
  | x :: l => by show (clL (g x) && clLL (rows g l)) = _; rw [(datL_all (Dat.dat x) 0).2.1, rows_cl l]; rfl
@[simp] theorem rows_tl [Dat g] (n : Nat) : ∀ l : List α, tlLL n (rows g l) = true
  | [] => rfl
  | x :: l => by show (tlL n (g x) && tlLL n (rows g l)) = _; rw [(datL_all (Dat.dat x) n).2.2.1, rows_tl n l]; rfl
theorem rows_at {l : List α} {k : Nat} {x : α} (h : l[k]? = some x) : (rows g l)[k]? = some (g x) ∧ ∀ hk, (rows g l)[k]'hk = g x := by
  have e : (rows g l)[k]? = some (g x) := by unfold rows; rw [List.getElem?_map, h]; rfl
  exact ⟨e, fun hk => by rw [List.getElem?_eq_getElem hk] at e; exact Option.some.inj e⟩
theorem rows_app (l : List α) (x : α) : rows g l ++ [g x] = rows g (l ++ [x]) := by unfold rows; rw [List.map_append]; rfl
@[simp] theorem rows_take (n : Nat) (l : List α) : (rows g l).take n = rows g (l.take n) := by unfold rows; rw [List.map_take]
@[simp] theorem rows_drop (n : Nat) (l : List α) : (rows g l).drop n = rows g (l.drop n) := by unfold rows; rw [List.map_drop]
theorem rows_inj [Dat g] : ∀ {l l' : List α}, rows g l = rows g l' → l = l'
  | [], [], _ => rfl
  | [], _ :: _, h => by cases h
  | _ :: _, [], h => by cases h
  | x :: l, y :: l', h => by
    simp only [rows, List.map_cons, List.cons.injEq] at h
    rw [Dat.inj _ _ h.1, rows_inj (l := l) (l' := l') h.2]
@[simp] theorem rows_eq [Dat g] (l l' : List α) : rows g l = rows g l' ↔ l = l' := ⟨rows_inj, fun h => by rw [h]⟩
theorem take_snoc {L : List α} {k : Nat} {x : α} (h : L[k]? = some x) : L.take (k + 1) = L.take k ++ [x] := by
  rw [List.take_add_one, h]; rfl
end

/-- Which names stand for which, within two objects. -/
def prsO : NObj → NObj → List (Nat × Option Nat)
  | .cells _ c, .cells _ c' => prsL c c'
  | _, _ => []

def extP (s s' : St) : List (Nat × Option Nat) → List (Nat × Option Nat)
  | [] => []
  | (x, some y) :: r => prsO (hk s.hl y) (hk s'.hl x) ++ extP s s' r
  | (_, none) :: r => extP s s' r

def mkPlA (m : Nat) (s s' : St) : List (Nat × Option Nat) := ddL (mkPl m s s' ++ extP s s' (mkPl m s s'))

/-- From one state to another one; names are found in temporaries, and in the objects that they name. -/
theorem Imp.aua {m : Nat} {s s' : St} (h : plB m (mkPlA m s s') s'.nb = true) (ht : ∀ p, p ∈ s'.tl → Ren (nmap (mkPlA m s s') (hk s.hl) (hk s'.hl)) (lk s.tl p.1) p.2)
    (ho : ∀ p, p ∈ s'.hl → p.2.tag < s'.nb ∧ (match lkp (mkPlA m s s') p.1 with
    | some (some y) => NLe (nmap (mkPlA m s s') (hk s.hl) (hk s'.hl)) (hk s.hl y) p.2
    | some none => p.2.none
    | none => p.2 = .free)) : Imp m s s' := Imp.le _ (LeN.mk' h ht ho)
end Go.W
