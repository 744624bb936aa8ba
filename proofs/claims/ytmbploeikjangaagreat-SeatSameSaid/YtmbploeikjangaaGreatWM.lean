/- What a step depends on; steps that may be exchanged. -/
import Derived.Test.YtmbploeikjangaaGreatWL
set_option linter.unusedSimpArgs false
set_option linter.unusedVariables false
namespace Go.W

def X.looks : X → List Nat
  | .t n => [n]
  | .c _ => []

def optL (x : Option X) : List Nat := x.elim [] X.looks

def MOp.looks : MOp → List Nat
  | .mv x | .box x | .load _ _ x | .nilck x | .un _ x | .conv _ x | .mkif _ x | .faddr _ x | .fld _ _ _ x | .len x | .slen x | .cap x | .ext x _ | .tas _ _ _ x => x.looks
  | .pick c a b => c.looks ++ (a.looks ++ b.looks)
  | .alloc _ | .stop => []
  | .store _ x y | .bin _ x y | .eq _ _ x y | .iaddr _ x y | .paddr _ _ x y | .idx _ _ _ x y | .app _ _ x y | .appz _ _ x y | .mks _ _ _ x y => x.looks ++ y.looks
  | .slc _ x lo hi => x.looks ++ (optL lo ++ optL hi)
  | .mn xs | .mx xs | .mkfn _ xs => xs.flatMap X.looks
  | .build _ ps | .bsl _ _ _ ps => ps.flatMap fun p => p.2.2.looks
  | .call f args => f.looks ++ args.flatMap X.looks
  | .clr _ x => x.looks
  | .mp o => match o with
    | .mk => []
    | .ln x | .rg x | .nx x | .nt x => x.looks
    | .lk _ _ x k | .en _ x k => x.looks ++ k.looks
    | .up x k v | .st x k v => x.looks ++ (k.looks ++ v.looks)

def MO.looks (o : MO) : List Nat := (match o.g with | some (s, _) => [s] | none => []) ++ o.op.looks

section
variable {T T' : Nat → AV}

theorem ev_same {x : X} (h : ∀ t, t ∈ x.looks → T t = T' t) : x.ev T' = x.ev T := by
  cases x with
  | t n => exact (h n (by simp [X.looks])).symm
  | c v => rfl

theorem evs_same : ∀ {l : List X}, (∀ t, t ∈ l.flatMap X.looks → T t = T' t) → l.map (X.ev T') = l.map (X.ev T)
  | [], _ => rfl
  | x :: r, h => by
    simp only [List.flatMap_cons, List.mem_append] at h
    rw [List.map_cons, List.map_cons, ev_same fun t ht => h t (.inl ht), evs_same fun t ht => h t (.inr ht)]

theorem args_same : ∀ {l : List (Nat × Nat × X)}, (∀ t, t ∈ (l.flatMap fun p => p.2.2.looks) → T t = T' t) → argsOf T' l = argsOf T l
  | [], _ => rfl
  | (a, b, x) :: r, h => by
    simp only [List.flatMap_cons, List.mem_append] at h
    have := args_same (l := r) fun t ht => h t (.inr ht)
    unfold argsOf at this ⊢
    rw [List.map_cons, List.map_cons, this]
    simp only [ev_same fun t ht => h t (.inl ht)]

theorem opt_same {x : Option X} {d : AV} (h : ∀ t, t ∈ optL x → T t = T' t) : x.elim d (X.ev T') = x.elim d (X.ev T) := by
  cases x with
  | none => rfl
  | some y => exact ev_same h

theorem getP_same {G G' : NH} : ∀ {p : Nm}, G p.root = G' p.root → getP G' p = getP G p
  | .top n, h => h.symm
  | .sub q t j f, h => by rw [getP, getP, getP_same (p := q) h]

theorem wr_root (G : NH) : ∀ (p : Nm) (o : NObj), (wr G p o).1 = p.root
  | .top n, o => rfl
  | .sub q t j f, o => by rw [wr]; exact wr_root G q _

theorem wr_same {G G' : NH} : ∀ {p : Nm} {o : NObj}, G p.root = G' p.root → wr G' p o = wr G p o
  | .top n, o, h => rfl
  | .sub q t j f, o, h => by
    rw [wr, wr, getP_same (p := q) h, getP_same (p := .sub q t j f) h]
    exact wr_same h

theorem getP_root {G : NH} {p : Nm} (h : getP G p ≠ .free) : G p.root ≠ .free := fun e => h (getP_free e rfl)

theorem readN_loc {G G' : NH} {v : AV} {els : List (List AV)} {rd : List Nat} {sz : Nat} (h : readN G v = some (els, rd, sz)) (hG : ∀ x, x ∈ rd → G x = G' x) : readN G' v = some (els, rd, sz) := by
  cases v <;> (try simp only [readN, reduceCtorEq] at h ⊢)
  case raw v =>
    obtain ⟨ad, c, rfl, rfl, rfl, rfl⟩ := readN_raw h
    rfl
  case nsl => exact h
  case sl p i n =>
    have key : rd = [p.root] := by
      cases ho : getP G p <;> rw [ho] at h <;> simp only [reduceCtorEq] at h
      all_goals
        split at h
        · simp only [Option.some.injEq, Prod.mk.injEq] at h; exact h.2.1.symm
        · cases h
    rw [getP_same (hG p.root (by rw [key]; simp))]
    exact h

theorem stepF_same {H : Nm → AObj} {nb : Nm} {m : MOp} (hp : m.isPure = true) (hT : ∀ t, t ∈ m.looks → T t = T' t) : stepF T' H nb m = stepF T H nb m := by
  cases m <;> simp only [MOp.isPure, Bool.false_eq_true] at hp <;> simp only [MOp.looks, List.mem_append] at hT <;> simp only [stepF]
  case mv x => rw [ev_same hT]
  case pick c a b => rw [ev_same fun t ht => hT t (.inl ht), ev_same (x := a) fun t ht => hT t (.inr (.inl ht)), ev_same (x := b) fun t ht => hT t (.inr (.inr ht))]
  case nilck x => rw [ev_same hT]
  case bin op x y => rw [ev_same fun t ht => hT t (.inl ht), ev_same (x := y) fun t ht => hT t (.inr ht)]
  case eq ng k x y => rw [ev_same fun t ht => hT t (.inl ht), ev_same (x := y) fun t ht => hT t (.inr ht)]
  case un op x => rw [ev_same hT]
  case conv k x => rw [ev_same hT]
  case mkif t x => rw [ev_same hT]
  case faddr off x => rw [ev_same hT]
  case fld ag off n x => rw [ev_same hT]
  case paddr len sz x i => rw [ev_same fun t ht => hT t (.inl ht), ev_same (x := i) fun t ht => hT t (.inr ht)]
  case idx ag len sz x i => rw [ev_same fun t ht => hT t (.inl ht), ev_same (x := i) fun t ht => hT t (.inr ht)]
  case len x => rw [ev_same hT]
  case slen x => rw [ev_same hT]
  case cap x => rw [ev_same hT]
  case mn xs => rw [evs_same hT]
  case mx xs => rw [evs_same hT]
  case build z ps => rw [args_same hT]
  case ext x i => rw [ev_same hT]
  case tas t z ok x => rw [ev_same hT]
  case mkfn f cap => rw [evs_same hT]

/-- WHAT A STEP DEPENDS ON. -/
theorem stepN_loc {E : FuncId → Option Spec} {G G' : NH} {nb : Nat} {m : MOp} {r : Res} (hT : ∀ t, t ∈ m.looks → T t = T' t) (hs : stepN E T G nb m = some r) (hG : ∀ x, x ∈ r.rd ∨ x ∈ r.hs.map (·.1) → G x = G' x) : stepN E T' G' nb m = some r := by
  by_cases hp : m.isPure = true
  · rw [stepN_pure hp] at hs ⊢
    rw [stepF_same hp hT]
    exact hs
  cases m <;> simp only [MOp.isPure, not_true_eq_false, Bool.false_eq_true, not_false_eq_true] at hp <;> simp only [MOp.looks, List.mem_append] at hT <;> simp only [stepN] at hs ⊢
  case alloc z => exact hs
  case mp o => cases hs
  case clr sz x =>
    rw [ev_same hT]
    split at hs
    · rename_i p s n hx
      have key : p ∈ r.hs.map (·.1) := by
        split at hs
        · split at hs
          · injection hs with hs; rw [← hs]; simp
          · cases hs
        · cases hs
      try rw [hx]
      try simp only
      rw [← hG _ (.inr key)]
      exact hs
    · cases hs
  case box x => rw [ev_same hT]; exact hs
  case load ag n x =>
    rw [ev_same hT]
    split at hs
    · rename_i p i f hx
      have key : p.root ∈ r.rd := by
        split at hs
        · split at hs
          · split at hs
            · injection hs with hs; rw [← hs]; simp
            · cases hs
          · split at hs
            · injection hs with hs; rw [← hs]; simp
            · cases hs
        · cases hs
      try rw [hx]
      try simp only
      rw [getP_same (hG _ (.inl key))]
      exact hs
    · cases hs
  case store n x y =>
    rw [ev_same fun t ht => hT t (.inl ht), ev_same (x := y) fun t ht => hT t (.inr ht)]
    split at hs
    · rename_i p i f hx
      try rw [hx]
      try simp only
      split at hs
      · rename_i hc
        split at hs
        · rename_i o' ho'
          injection hs with hs
          have key : G p.root = G' p.root := hG _ (.inr (by rw [← hs]; simp [wr_root]))
          rw [if_pos hc, getP_same key, ho']
          simp only
          rw [wr_same key, hs]
        · cases hs
      · cases hs
    · cases hs
  case iaddr sz x i =>
    rw [ev_same fun t ht => hT t (.inl ht), ev_same (x := i) fun t ht => hT t (.inr ht)]
    split at hs
    · rename_i p s n k j hx hi
      try rw [hx, hi]
      try simp only
      have key : p.root ∈ r.rd := by
        split at hs
        · split at hs
          · injection hs with hs; rw [← hs]; simp
          · cases hs
        · cases hs
      rw [getP_same (hG _ (.inl key))]
      exact hs
    · cases hs
  case stop => cases hs
  case slc sz x lo hi =>
    rw [ev_same fun t ht => hT t (.inl ht)]
    split at hs
    · rename_i p s n hx
      try rw [hx]
      try simp only
      rw [opt_same (x := lo) fun t ht => hT t (.inr (.inl ht)), opt_same (x := hi) fun t ht => hT t (.inr (.inr ht))]
      split at hs
      · rename_i h1 h2
        try rw [h1, h2]
        try simp only
        have key : p.root ∈ r.rd := by
          split at hs
          · split at hs
            · injection hs with hs; rw [← hs]; simp
            · cases hs
          · cases hs
        rw [getP_same (hG _ (.inl key))]
        exact hs
      · cases hs
    · rename_i hx
      try rw [hx]
      try simp only
      rw [opt_same (x := lo) fun t ht => hT t (.inr (.inl ht)), opt_same (x := hi) fun t ht => hT t (.inr (.inr ht))]
      exact hs
    · cases hs
  case app sz bytes x y =>
    rw [ev_same fun t ht => hT t (.inl ht), ev_same (x := y) fun t ht => hT t (.inr ht)]
    split at hs
    · rename_i els' rd sz' hy
      split at hs
      · rename_i hsz
        split at hs
        · rename_i hx
          split at hs
          · rename_i hb
            injection hs with hs
            rw [readN_loc hy fun z hz => hG z (.inl (by rw [← hs]; exact hz))]
            try simp only
            rw [if_pos hsz]
            try rw [hx]
            try simp only
            rw [if_pos hb, hs]
          · cases hs
        · rename_i p s n hx
          cases hzo : getP G p <;> rw [hzo] at hs <;> simp only [reduceCtorEq] at hs
          rename_i t0 sz2 els
          split at hs
          · rename_i hb
            injection hs with hs
            have key : G p.root = G' p.root := hG _ (.inr (by rw [← hs]; simp [wr_root]))
            rw [readN_loc hy fun z hz => hG z (.inl (by rw [← hs]; exact hz))]
            try simp only
            rw [if_pos hsz]
            try rw [hx]
            try simp only
            rw [getP_same key, hzo]
            try simp only
            rw [if_pos hb, wr_same key, hs]
          · cases hs
        · cases hs
      · cases hs
    · cases hs
  case appz sz bytes x y => rw [ev_same fun t ht => hT t (.inl ht), ev_same (x := y) fun t ht => hT t (.inr ht)]; exact hs
  case mks sz bytes z l c => rw [ev_same fun t ht => hT t (.inl ht), ev_same (x := c) fun t ht => hT t (.inr ht)]; exact hs
  case bsl sz n z ps => rw [args_same hT]; exact hs
  case call f args =>
    rw [ev_same fun t ht => hT t (.inl ht), evs_same fun t ht => hT t (.inr ht)]
    split at hs
    · rename_i g cap hf
      try rw [hf]
      try simp only
      split at hs
      · rename_i sp hsp
        try rw [hsp]
        exact sp.loc _ _ _ _ _ hs hG
      · cases hs
    · cases hs

/-- Which objects a step writes. -/
theorem stepN_nm {E : FuncId → Option Spec} {G : NH} {nb : Nat} {m : MOp} {r : Res} (hs : stepN E T G nb m = some r) : ∀ x, x ∈ r.hs.map (·.1) → (nb ≤ x ∧ x < nb + r.n) ∨ G x ≠ .free := by
  by_cases hp : m.isPure = true
  · rw [stepN_pure hp] at hs
    cases hf : stepF T noH (.top 0) m with
    | none => simp [hf] at hs
    | some rf => simp only [hf, Option.map_some, Option.some.injEq] at hs; subst hs; intro x hx; simp [toRes] at hx
  cases m <;> simp only [MOp.isPure, not_true_eq_false, Bool.false_eq_true, not_false_eq_true] at hp <;> simp only [stepN] at hs
  case mp o => cases hs
  case clr sz x =>
    split at hs
    · split at hs
      · rename_i t sz' els hp
        split at hs
        · injection hs with hs
          rw [← hs]
          intro z hz
          simp at hz
          subst hz
          right
          rw [hp]; simp
        · cases hs
      · cases hs
    · cases hs
  case call f args =>
    split at hs
    · split at hs
      · rename_i sp hsp; exact sp.nm _ _ _ _ hs
      · cases hs
    · cases hs
  case store n x y =>
    split at hs
    · rename_i p i f hx
      split at hs
      · split at hs
        · rename_i o' ho
          injection hs with hs
          rw [← hs]
          intro z hz
          simp [wr_root] at hz
          subst hz
          right
          refine getP_root fun e => ?_
          rw [e] at ho
          cases ho
        · cases hs
      · cases hs
    · cases hs
  case app sz bytes x y =>
    split at hs
    · split at hs
      · split at hs
        · split at hs
          · injection hs with hs; rw [← hs]; intro z hz; simp at hz; subst hz; exact .inl ⟨Nat.le_refl _, by simp⟩
          · cases hs
        · rename_i p s n hx
          cases hzo : getP G p <;> rw [hzo] at hs <;> simp only [reduceCtorEq] at hs
          split at hs
          · injection hs with hs
            rw [← hs]
            intro z hz
            simp [wr_root] at hz
            rcases hz with rfl | rfl
            · right; exact getP_root (by rw [hzo]; simp)
            · exact .inl ⟨Nat.le_refl _, by simp⟩
          · cases hs
        · cases hs
      · cases hs
    · cases hs
  all_goals (repeat' (split at hs))
  all_goals first | (cases hs; done) | (injection hs with hs; rw [← hs]; intro z hz; simp at hz; subst hz; exact .inl ⟨Nat.le_refl _, by simp⟩) | (injection hs with hs; rw [← hs]; intro z hz; simp at hz)

end
end Go.W
