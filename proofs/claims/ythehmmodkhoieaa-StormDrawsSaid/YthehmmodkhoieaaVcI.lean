/- What a step depends on; steps that may be exchanged. -/
import Derived.Test.YthehmmodkhoieaaVcH
namespace Go.Vc

def X.looks : X → List Nat
  | .t n => [n]
  | .c _ => []

def optL (x : Option X) : List Nat := x.elim [] X.looks

def MOp.looks : MOp → List Nat
  | .mv x | .box x | .load _ _ x | .nilck x | .un _ x | .conv _ x | .mkif _ x | .faddr _ x | .fld _ _ _ x | .len x | .slen x | .ext x _ | .tas _ _ _ x => x.looks
  | .pick c a b => c.looks ++ (a.looks ++ b.looks)
  | .alloc _ => []
  | .store _ x y | .bin _ x y | .eq _ _ x y | .iaddr _ x y | .paddr _ _ x y | .idx _ _ _ x y | .app _ _ x y | .mks _ _ _ x y => x.looks ++ y.looks
  | .slc _ x lo hi => x.looks ++ (optL lo ++ optL hi)
  | .mn xs | .mx xs | .mkfn _ xs => xs.flatMap X.looks
  | .build _ ps | .bsl _ _ _ ps => ps.flatMap fun p => p.2.2.looks
  | .call f args => f.looks ++ args.flatMap X.looks

def MO.looks (o : MO) : List Nat := (match o.g with | some (s, _) => [s] | none => []) ++ o.op.looks

section
variable {T T' : Nat → AV}

theorem ev_same {x : X} (h : ∀ t, t ∈ x.looks → T t = T' t) : x.ev T' = x.ev T := by
  cases x with
  | t n => exact (h n (by simp [X.looks])).symm
  | c v => rfl

theorem evs_same : ∀ {l : List X}, (∀ t, t ∈ l.flatMap X.looks → T t = T' t) → l.map (X.ev T') = l.map (X.ev T)
  | [], _ => rfl
  | x :: r, h => by
    simp only [List.flatMap_cons, List.mem_append] at h
    rw [List.map_cons, List.map_cons, ev_same fun t ht => h t (.inl ht), evs_same fun t ht => h t (.inr ht)]

theorem args_same : ∀ {l : List (Nat × Nat × X)}, (∀ t, t ∈ (l.flatMap fun p => p.2.2.looks) → T t = T' t) → argsOf T' l = argsOf T l
  | [], _ => rfl
  | (a, b, x) :: r, h => by
    simp only [List.flatMap_cons, List.mem_append] at h
    have := args_same (l := r) fun t ht => h t (.inr ht)
    unfold argsOf at this ⊢
    rw [List.map_cons, List.map_cons, this]
    simp only [ev_same fun t ht => h t (.inl ht)]

theorem opt_same {x : Option X} {d : AV} (h : ∀ t, t ∈ optL x → T t = T' t) : x.elim d (X.ev T') = x.elim d (X.ev T) := by
  cases x with
  | none => rfl
  | some y => exact ev_same h

theorem readSl_loc {H H' : Nat → AObj} {v : AV} {n : Nat} {g : Nat → List AV} {rd : List Nat} {sz : Nat} (h : readSl H v = some (n, g, rd, sz)) (hH : ∀ x, x ∈ rd → H x = H' x) : readSl H' v = some (n, g, rd, sz) := by
  cases v <;> simp only [readSl, reduceCtorEq] at h ⊢
  case nsl => exact h
  case sl o i m =>
    have key : rd = [o] := by
      cases ho : H o <;> rw [ho] at h <;> simp only [reduceCtorEq] at h
      all_goals
        split at h
        · simp only [Option.some.injEq, Prod.mk.injEq] at h; exact h.2.2.1.symm
        · cases h
    rw [← hH o (by rw [key]; simp)]
    exact h

/-- WHAT A STEP DEPENDS ON. -/
theorem stepM_loc {E : FuncId → Option Spec} {H H' : Nat → AObj} {nb : Nat} {m : MOp} {r : Res} (hT : ∀ t, t ∈ m.looks → T t = T' t) (hs : stepM E T H nb m = some r) (hH : ∀ x, x ∈ r.rd ∨ x ∈ r.hs.map (·.1) → H x = H' x) : stepM E T' H' nb m = some r := by
  cases m <;> simp only [MOp.looks, List.mem_append] at hT <;> simp only [stepM] at hs ⊢
  case mv x => rw [ev_same hT]; exact hs
  case pick c a b => rw [ev_same fun t ht => hT t (.inl ht), ev_same (x := a) fun t ht => hT t (.inr (.inl ht)), ev_same (x := b) fun t ht => hT t (.inr (.inr ht))]; exact hs
  case alloc z => exact hs
  case box x => rw [ev_same hT]; exact hs
  case load ag n x =>
    rw [ev_same hT]
    split at hs
    · rename_i o i f hx
      have key : r.rd = [o] := by
        split at hs
        · split at hs
          · split at hs
            · injection hs with hs; rw [← hs]
            · cases hs
          · split at hs
            · injection hs with hs; rw [← hs]
            · cases hs
        · cases hs
      try rw [hx]
      try simp only
      rw [← hH o (by rw [key]; simp)]
      exact hs
    · cases hs
  case store n x y =>
    rw [ev_same fun t ht => hT t (.inl ht), ev_same (x := y) fun t ht => hT t (.inr ht)]
    split at hs
    · rename_i o i f hx
      try rw [hx]
      try simp only
      split at hs
      · rename_i hc
        have key : o ∈ r.hs.map (·.1) := by
          split at hs
          · injection hs with hs; rw [← hs]; simp
          · cases hs
        rw [if_pos hc, ← hH o (.inr key)]
        exact hs
      · cases hs
    · cases hs
  case nilck x => rw [ev_same hT]; exact hs
  case bin op x y => rw [ev_same fun t ht => hT t (.inl ht), ev_same (x := y) fun t ht => hT t (.inr ht)]; exact hs
  case eq ng k x y => rw [ev_same fun t ht => hT t (.inl ht), ev_same (x := y) fun t ht => hT t (.inr ht)]; exact hs
  case un op x => rw [ev_same hT]; exact hs
  case conv k x => rw [ev_same hT]; exact hs
  case mkif t x => rw [ev_same hT]; exact hs
  case faddr off x => rw [ev_same hT]; exact hs
  case fld ag off n x => rw [ev_same hT]; exact hs
  case iaddr sz x i =>
    rw [ev_same fun t ht => hT t (.inl ht), ev_same (x := i) fun t ht => hT t (.inr ht)]
    split at hs
    · rename_i o s n k j hx hi
      try rw [hx, hi]
      try simp only
      have key : o ∈ r.rd := by
        split at hs
        · split at hs
          · injection hs with hs; rw [← hs]; simp
          · cases hs
        · cases hs
      rw [← hH o (.inl key)]
      exact hs
    · cases hs
  case paddr len sz x i => rw [ev_same fun t ht => hT t (.inl ht), ev_same (x := i) fun t ht => hT t (.inr ht)]; exact hs
  case idx ag len sz x i => rw [ev_same fun t ht => hT t (.inl ht), ev_same (x := i) fun t ht => hT t (.inr ht)]; exact hs
  case slc sz x lo hi =>
    rw [ev_same fun t ht => hT t (.inl ht)]
    split at hs
    · rename_i o s n hx
      try rw [hx]
      try simp only
      rw [opt_same (x := lo) fun t ht => hT t (.inr (.inl ht)), opt_same (x := hi) fun t ht => hT t (.inr (.inr ht))]
      split at hs
      · rename_i h1 h2
        try rw [h1, h2]
        try simp only
        have key : o ∈ r.rd := by
          split at hs
          · split at hs
            · injection hs with hs; rw [← hs]; simp
            · cases hs
          · cases hs
        rw [← hH o (.inl key)]
        exact hs
      · cases hs
    · rename_i hx
      try rw [hx]
      try simp only
      rw [opt_same (x := lo) fun t ht => hT t (.inr (.inl ht)), opt_same (x := hi) fun t ht => hT t (.inr (.inr ht))]
      exact hs
    · cases hs
  case len x => rw [ev_same hT]; exact hs
  case slen x => rw [ev_same hT]; exact hs
  case mn xs => rw [evs_same hT]; exact hs
  case mx xs => rw [evs_same hT]; exact hs
  case app sz bytes x y =>
    rw [ev_same fun t ht => hT t (.inl ht), ev_same (x := y) fun t ht => hT t (.inr ht)]
    split at hs
    · rename_i n' g rd sz' hy
      split at hs
      · rename_i hsz
        split at hs
        · rename_i hx
          split at hs
          · rename_i hb
            injection hs with hs
            rw [readSl_loc hy fun z hz => hH z (.inl (by rw [← hs]; exact hz))]
            try simp only
            rw [if_pos hsz]
            try rw [hx]
            try simp only
            rw [if_pos hb, hs]
          · cases hs
        · rename_i zo s n hx
          cases hzo : H zo <;> rw [hzo] at hs <;> simp only [reduceCtorEq] at hs
          rename_i sz2 m f
          split at hs
          · rename_i hb
            injection hs with hs
            rw [readSl_loc hy fun z hz => hH z (.inl (by rw [← hs]; exact hz))]
            try simp only
            rw [if_pos hsz]
            try rw [hx]
            try simp only
            rw [← hH zo (.inr (by rw [← hs]; simp)), hzo]
            try simp only
            rw [if_pos hb, hs]
          · cases hs
        · cases hs
      · cases hs
    · cases hs
  case mks sz bytes z l c => rw [ev_same fun t ht => hT t (.inl ht), ev_same (x := c) fun t ht => hT t (.inr ht)]; exact hs
  case build z ps => rw [args_same hT]; exact hs
  case bsl sz n z ps => rw [args_same hT]; exact hs
  case ext x i => rw [ev_same hT]; exact hs
  case tas t z ok x => rw [ev_same hT]; exact hs
  case mkfn f cap => rw [evs_same hT]; exact hs
  case call f args =>
    rw [ev_same fun t ht => hT t (.inl ht), evs_same fun t ht => hT t (.inr ht)]
    split at hs
    · rename_i g cap hf
      try rw [hf]
      try simp only
      split at hs
      · rename_i sp hsp
        try rw [hsp]
        exact sp.loc _ _ _ _ _ hs hH
      · cases hs
    · cases hs

/-- Which objects a step writes. -/
theorem stepM_nm {E : FuncId → Option Spec} {H : Nat → AObj} {nb : Nat} {m : MOp} {r : Res} (hs : stepM E T H nb m = some r) : ∀ x, x ∈ r.hs.map (·.1) → (nb ≤ x ∧ x < nb + 8) ∨ H x ≠ .free := by
  cases m <;> simp only [stepM] at hs
  case call f args =>
    split at hs
    · split at hs
      · rename_i sp hsp; exact sp.nm _ _ _ _ hs
      · cases hs
    · cases hs
  case store n x y =>
    split at hs
    · rename_i o i f hx
      split at hs
      · split at hs
        · rename_i o' ho
          injection hs with hs
          rw [← hs]
          intro z hz
          simp at hz
          subst hz
          right
          intro e
          rw [e] at ho
          cases ho
        · cases hs
      · cases hs
    · cases hs
  case app sz bytes x y =>
    split at hs
    · split at hs
      · split at hs
        · split at hs
          · injection hs with hs; rw [← hs]; intro z hz; simp at hz; subst hz; exact .inl ⟨Nat.le_refl _, by omega⟩
          · cases hs
        · rename_i zo s n hx
          cases hzo : H zo <;> rw [hzo] at hs <;> simp only [reduceCtorEq] at hs
          split at hs
          · injection hs with hs
            rw [← hs]
            intro z hz
            simp at hz
            rcases hz with rfl | rfl
            · right; rw [hzo]; simp
            · exact .inl ⟨Nat.le_refl _, by omega⟩
          · cases hs
        · cases hs
      · cases hs
    · cases hs
  all_goals (repeat' (split at hs))
  all_goals first | (cases hs; done) | (injection hs with hs; rw [← hs]; intro z hz; simp at hz; subst hz; exact .inl ⟨Nat.le_refl _, by omega⟩) | (injection hs with hs; rw [← hs]; intro z hz; simp at hz)

end
end Go.Vc
