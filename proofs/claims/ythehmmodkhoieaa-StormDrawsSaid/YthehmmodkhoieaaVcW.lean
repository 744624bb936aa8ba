/- From a specification of a function that reads one slice to a statement's call. -/
import Derived.Test.YthehmmodkhoieaaVcT
namespace Go.Vc
open Go.ChangeShapes Go.WideShapes Go.ChangeAt Go.RowKit Go.Joins Go.Deep

theorem view_calls {P : Program} {f : FuncId} {sp : Spec} (hs : Sound P f sp) {sz n : Nat} {g : Nat → List AV} {L : Loc} {avs : List AV} {vs : List Value} {b : Bool} {rd : List Nat} {W : World}
    (h : sp.fn avs (upd (fun _ => .free) 0 (.view sz n g)) 1 = some ⟨.bool b, [], rd⟩) (hrep : ∀ ρ : Env, ρ 0 = L → RepL ρ avs vs) (hok : ∀ ρ : Env, ρ 0 = L → ObjOk ρ L (.view sz n g) W) (hblk : L.nil = false → L.blk < W.heap.size) :
    Calls P f vs.toArray W fun e W' => e = .returned (.bool b) ∧ Below W.heap.size W W' := by
  have hH : ∀ x, x ≠ 0 → upd (fun _ => AObj.free) 0 (.view sz n g) x = .free := fun x hx => upd_other _ _ hx
  have := hs.calls W noSc (fun ρ => ρ 0 = L) (fun x => 1 ≤ x) (upd (fun _ => .free) 0 (.view sz n g)) W avs vs 1 ⟨.bool b, [], rd⟩ ⟨fun _ => L, rfl⟩ (fun ρ ρ' h h' => by rw [h' 0 (by omega)]; exact h) (fun x hx => hH x (by omega))
    (fun ρ ρ' h h' x hx => by
      by_cases e : x = 0
      · subst e; rw [h, h']
      · exact absurd (hH x e) hx)
    (fun ρ hρ => ⟨rfl, rfl, rfl, Nat.le_refl _, fun _ _ _ => rfl, fun x => by
        by_cases e : x = 0
        · subst e; rw [upd_same, hρ]; exact hok ρ hρ
        · rw [hH x e]; trivial, fun x hx => by
        by_cases e : x = 0
        · subst e; rw [upd_same] at hx; exact hx.elim
        · rw [hH x e] at hx; exact hx.elim, fun x y hx => by
        by_cases e : x = 0
        · subst e; rw [upd_same] at hx; exact hx.elim
        · rw [hH x e] at hx; exact hx.elim, fun x hx => by
        by_cases e : x = 0
        · subst e
          rw [upd_same, hρ] at hx
          rw [hρ]
          exact ⟨hblk hx, fun h => h⟩
        · rw [hH x e] at hx; exact hx.elim, fun x hx => absurd hx (Nat.not_lt_zero x)⟩) (fun ρ hρ => hrep ρ hρ) h (fun x hx => hx.1)
  refine this.mono fun e W' ⟨v, q, he, hv⟩ => ?_
  let ρ : Env := fun x => if x = 0 then L else q x
  obtain ⟨h1, h2⟩ := hv ρ rfl (fun x hx => by show (if x = 0 then L else q x) = q x; rw [if_neg (by omega)])
  simp only [Rep] at h1
  subst h1
  exact ⟨he, h2.below⟩

end Go.Vc
