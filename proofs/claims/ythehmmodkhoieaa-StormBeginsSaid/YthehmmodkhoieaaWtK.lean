/- An array of which only the head is told on. -/
import Derived.Test.YthehmmodkhoieaaWtJ
namespace Go.W
set_option linter.unusedSimpArgs false
set_option linter.unusedVariables false

theorem kid_flat {t sz : Nat} {els : List (List AV)} (hp : els.all (fun c => c.all AV.plain) = true) (t' j f : Nat) : kid (.arr t sz els) t' j f = .free := by
  unfold kid
  split
  · simp only [elemN]
    cases hc : els[j]? with
    | none => rfl
    | some c =>
      simp only [kidC]
      cases hf : c[f]? with
      | none => rfl
      | some v =>
        have h1 := List.all_eq_true.1 hp c (List.mem_of_getElem? hc)
        have h2 := List.all_eq_true.1 h1 v (List.mem_of_getElem? hf)
        cases v <;> simp_all [AV.plain, kidV]
  · rfl

theorem kid_none (t j f : Nat) : kid .free t j f = .free := by
  unfold kid
  split <;> rfl

/-- A path below an array of plain cells leads nowhere. -/
theorem getP_flat {G : NH} {k t sz : Nat} {els : List (List AV)} (h : G k = .arr t sz els) (hp : els.all (fun c => c.all AV.plain) = true) : ∀ x : Nm, x.root = k → x ≠ .top k → getP G x = .free
  | .top n, hr, hx => absurd (by rw [← hr]; rfl) hx
  | .sub p t' j f, hr, _ => by
    simp only [getP]
    by_cases e : p = .top k
    · subst e; simp only [getP, h]; exact kid_flat hp _ _ _
    · rw [getP_flat h hp p hr e]; exact kid_none _ _ _

theorem Reg.shrink {ρ : Env} {L : Loc} {sz n n' : Nat} {f f' : Nat → List AV} {w : World} (h : Reg ρ L sz n f w) (hn : n' ≤ n) (hf : ∀ i, i < n' → f' i = f i) : Reg ρ L sz n' f' w :=
  ⟨h.nn, h.esz, by have := h.cap; omega, fun i hi => by rw [hf i hi]; exact h.len i (by omega), fun i hi j v hv => by rw [hf i hi] at hv; exact h.cell i (by omega) j v hv⟩

theorem Imp.shrink {m k t sz : Nat} {els : List (List AV)} {tl : List (Nat × AV)} {hl : List (Nat × NObj)} {nb : Nat} (n : Nat) (h : hk hl k = .arr t sz els) (hp : els.all (fun c => c.all AV.plain) = true) : Imp m ⟨tl, hl, nb⟩ ⟨tl, (k, .arr t sz (els.take n)) :: hl, nb⟩ := by
  intro w0 S N D a w hm hs
  obtain ⟨⟨Es, hsat⟩, hN, hD⟩ := hs
  have hp' : (els.take n).all (fun c => c.all AV.plain) = true := List.all_eq_true.2 fun c hc => List.all_eq_true.1 hp c (List.mem_of_mem_take hc)
  have hk' : hk ((k, .arr t sz (els.take n)) :: hl) k = .arr t sz (els.take n) := by rw [hk_cons, upd_same]
  have other : ∀ x : Nm, x ≠ .top k → HF (hk ((k, .arr t sz (els.take n)) :: hl)) x = HF (hk hl) x := fun x hx => by
    by_cases e : x.root = k
    · have e1 := getP_flat h hp x e hx
      have e2 := getP_flat hk' hp' x e hx
      unfold HF
      rw [e1, e2]
    · unfold HF
      rw [getP_same (G := hk ((k, .arr t sz (els.take n)) :: hl)) (G' := hk hl) (by rw [hk_cons, upd_other _ _ e])]
  have at1 : HF (hk hl) (.top k) = .arr sz els.length (fun j => flC (.top k) t j (els.getD j [])) := by unfold HF; simp only [getP, h, flO]
  have at2 : HF (hk ((k, .arr t sz (els.take n)) :: hl)) (.top k) = .arr sz (els.take n).length (fun j => flC (.top k) t j ((els.take n).getD j [])) := by unfold HF; simp only [getP, hk', flO]
  have nf : ∀ x, HF (hk ((k, .arr t sz (els.take n)) :: hl)) x ≠ .free → HF (hk hl) x ≠ .free := fun x hx => by
    by_cases e : x = .top k
    · subst e; rw [at1]; simp
    · rwa [← other x e]
  have own : ∀ (L : Loc) x, Owned L (HF (hk ((k, .arr t sz (els.take n)) :: hl)) x) → Owned L (HF (hk hl) x) := fun L x hx => by
    by_cases e : x = .top k
    · subst e; rw [at1]; rw [at2] at hx; exact hx
    · rwa [← other x e]
  have vwd : ∀ (L : Loc) x, Viewed L (HF (hk ((k, .arr t sz (els.take n)) :: hl)) x) → Viewed L (HF (hk hl) x) := fun L x hx => by
    by_cases e : x = .top k
    · subst e; rw [at2] at hx; exact hx.elim
    · rwa [← other x e]
  refine ⟨⟨Es, hsat.ne, hsat.cl, fun x hx => ?_, fun ρ ρ' h1 h2 x hx => hsat.pin ρ ρ' h1 h2 x (nf x hx), hsat.tm, fun ρ hρ => ?_⟩, hN, hD⟩
  · have := hsat.fr x hx
    by_cases e : x = .top k
    · subst e; rw [at1] at this; cases this
    · rw [other x e]; exact this
  · have hc := hsat.hp ρ hρ
    refine ⟨hc.os, hc.tape, hc.output, hc.size, hc.frame, fun x => ?_, fun x hx => hc.own x (own _ x hx), fun x y hx hy => hc.dist x y (own _ x hx) (own _ y hy), fun x hx => hc.vw x (vwd _ x hx), hc.an⟩
    by_cases e : x = .top k
    · subst e
      have h1 := hc.obj (.top k)
      rw [at1] at h1
      rw [at2]
      rcases h1 with ⟨g1, g2⟩ | ⟨g1, g2⟩
      · exact .inl ⟨g1, by rw [List.length_take]; omega⟩
      · refine .inr ⟨g1.shrink (by simp; omega) fun i hi => ?_, g2⟩
        have : (els.take n).getD i [] = els.getD i [] := by
          simp only [List.getD_eq_getElem?_getD]
          rw [List.getElem?_take_of_lt (by simp at hi; omega)]
        simp only [this]
    · rw [other x e]; exact hc.obj x

end Go.W
