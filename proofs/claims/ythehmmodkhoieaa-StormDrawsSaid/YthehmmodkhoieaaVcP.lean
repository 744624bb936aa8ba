/- The walk's rules in the form in which a proof uses them: what 'simp' evaluates, and what it must not enter. -/
import Derived.Test.YthehmmodkhoieaaVcO
namespace Go.Vc

abbrev TL := List (Nat × AV)
abbrev HL := List (Nat × AObj)
abbrev LG := List (Nat × List Nat × List Nat)

/-- What comes behind an operation. -/
def stepK (E : FuncId → Option Spec) (nb : Nat) (r : List MO) (i : Nat) (tl : TL) (hl : HL) (lg : LG) (dst : Option Nat) (o : Option Res) : Option (TL × HL × LG) :=
  match o with
  | some q => evOps E nb r (i + 1) (putL tl dst q.v) (updH hl q.hs) (lg ++ [(i, q.hs.map (·.1), q.rd)])
  | none => none

section
variable (E : FuncId → Option Spec) (nb : Nat) (r : List MO) (i : Nat) (tl : TL) (hl : HL) (lg : LG) (dst : Option Nat)

theorem stepK_some (v : AV) (hs : List (Nat × AObj)) (rd : List Nat) : stepK E nb r i tl hl lg dst (some ⟨v, hs, rd⟩) = evOps E nb r (i + 1) (putL tl dst v) (updH hl hs) (lg ++ [(i, hs.map (·.1), rd)]) := rfl
theorem stepK_none : stepK E nb r i tl hl lg dst none = none := rfl
theorem stepK_ite (c : Prop) [Decidable c] (x y : Option Res) : stepK E nb r i tl hl lg dst (if c then x else y) = if c then stepK E nb r i tl hl lg dst x else stepK E nb r i tl hl lg dst y := by split <;> rfl

/-- A guard. -/
def gdK (op : MOp) (s : Nat) (want : Bool) (v : AV) : Option (TL × HL × LG) :=
  match v with
  | .bool b => if b = want then stepK E nb r i ((s, .bool want) :: tl) hl lg dst (stepM E (lk ((s, .bool want) :: tl)) (hk hl) (nb + 8 * i) op) else evOps E nb r (i + 1) (putL ((s, .bool (!want)) :: tl) dst (.raw undef)) hl (lg ++ [(i, [], [])])
  | .raw v => if isUndef v = true then evOps E nb r (i + 1) (putL tl dst (.raw undef)) hl (lg ++ [(i, [], [])]) else none
  | _ => none

theorem gdK_bool (op : MOp) (s : Nat) (want b : Bool) : gdK E nb r i tl hl lg dst op s want (.bool b) = if b = want then stepK E nb r i ((s, .bool want) :: tl) hl lg dst (stepM E (lk ((s, .bool want) :: tl)) (hk hl) (nb + 8 * i) op) else evOps E nb r (i + 1) (putL ((s, .bool (!want)) :: tl) dst (.raw undef)) hl (lg ++ [(i, [], [])]) := rfl
theorem gdK_tt (op : MOp) (s : Nat) : gdK E nb r i tl hl lg dst op s true (.bool true) = stepK E nb r i ((s, .bool true) :: tl) hl lg dst (stepM E (lk ((s, .bool true) :: tl)) (hk hl) (nb + 8 * i) op) := rfl
theorem gdK_ff (op : MOp) (s : Nat) : gdK E nb r i tl hl lg dst op s false (.bool false) = stepK E nb r i ((s, .bool false) :: tl) hl lg dst (stepM E (lk ((s, .bool false) :: tl)) (hk hl) (nb + 8 * i) op) := rfl
theorem gdK_tf (op : MOp) (s : Nat) : gdK E nb r i tl hl lg dst op s true (.bool false) = evOps E nb r (i + 1) (putL ((s, .bool false) :: tl) dst (.raw undef)) hl (lg ++ [(i, [], [])]) := rfl
theorem gdK_ft (op : MOp) (s : Nat) : gdK E nb r i tl hl lg dst op s false (.bool true) = evOps E nb r (i + 1) (putL ((s, .bool true) :: tl) dst (.raw undef)) hl (lg ++ [(i, [], [])]) := rfl

theorem gdK_un (op : MOp) (s : Nat) (want : Bool) : gdK E nb r i tl hl lg dst op s want (.raw undef) = evOps E nb r (i + 1) (putL tl dst (.raw undef)) hl (lg ++ [(i, [], [])]) := rfl

theorem evOps_nil : evOps E nb [] i tl hl lg = some (tl, hl, lg) := rfl
theorem evOps_op (op : MOp) : evOps E nb (MO.mk dst op none :: r) i tl hl lg = stepK E nb r i tl hl lg dst (stepM E (lk tl) (hk hl) (nb + 8 * i) op) := by
  simp only [evOps, stepK]
  cases stepM E (lk tl) (hk hl) (nb + 8 * i) op <;> rfl
theorem evOps_gd (op : MOp) (s : Nat) (want : Bool) : evOps E nb (MO.mk dst op (some (s, want)) :: r) i tl hl lg = gdK E nb r i tl hl lg dst op s want (lk tl s) := by
  simp only [evOps, gdK]
  cases lk tl s with
  | bool b =>
    simp only
    split
    · simp only [stepK]
      cases stepM E (lk ((s, .bool want) :: tl)) (hk hl) (nb + 8 * i) op <;> rfl
    · rfl
  | _ => rfl

end

/-- Objects that are shadowed go. -/
def hasK : List (Nat × AObj) → Nat → Bool
  | [], _ => false
  | (k, _) :: r, j => if j = k then true else hasK r j

def prune (seen : List Nat) : List (Nat × AObj) → List (Nat × AObj)
  | [] => []
  | (k, o) :: r => if seen.contains k = true then prune seen r else (k, o) :: prune (k :: seen) r

theorem hk_prune : ∀ (hl : List (Nat × AObj)) (seen : List Nat) (x : Nat), x ∉ seen → hk (prune seen hl) x = hk hl x
  | [], _, _, _ => rfl
  | (k, o) :: r, seen, x, h => by
    simp only [prune]
    split
    · rename_i hs
      have hne : x ≠ k := fun e => h (by rw [e]; simpa using hs)
      rw [hk_prune r seen x h, hk, if_neg hne]
    · simp only [hk]
      split
      · rfl
      · rename_i hne
        exact hk_prune r (k :: seen) x (by simp [hne, h])

section
variable {P : Program} {E : FuncId → Option Spec} {w0 : World} {S : Sc} {N : Nat} {D : List Deferred} {s : St} {Q : Exit → St → Prop}

theorem Wm_prune {c : MCode} (h : Wm P w0 S N D c ⟨s.tl, prune [] s.hl, s.nb⟩ Q) : Wm P w0 S N D c s Q := fun code hc a w ⟨⟨Es, hs⟩, h1, h2⟩ => by
  have e : hk (prune [] s.hl) = hk s.hl := funext fun x => hk_prune _ _ _ (by simp)
  exact h code hc a w ⟨⟨Es, by show Sat w0 S Es _ (lk s.tl) (hk (prune [] s.hl)) a w; rw [e]; exact hs⟩, h1, h2⟩

theorem Wm_pruned {c : MCode} (h : Wm P w0 S N D c s fun e s' => Q e ⟨s'.tl, prune [] s'.hl, s'.nb⟩) : Wm P w0 S N D c s Q := fun code hc a w hs =>
  wp_mono (h code hc a w hs) fun _ a w ⟨s', ⟨⟨Es, hs⟩, h1, h2⟩, hq⟩ => by
    have e : hk (prune [] s'.hl) = hk s'.hl := funext fun x => hk_prune _ _ _ (by simp)
    exact ⟨_, ⟨⟨Es, by show Sat w0 S Es _ (lk s'.tl) (hk (prune [] s'.hl)) a w; rw [e]; exact hs⟩, h1, h2⟩, hq⟩

theorem wreg (hE : SoundAll P E) {mos : List MO} (ks : List Nat) (hfit : fits N mos = true) (h : ∀ K : List (Nat × AV) → List (Nat × AObj) → Prop, (∀ tl hl, Q .normal ⟨tl, hl, s.nb + 8 * mos.length⟩ → K tl hl) → Holds (evOps E s.nb mos 0 s.tl s.hl []) fun x => K (keepL ks x.1) (prune [] x.2.1)) : Wm P w0 S N D (.reg mos) s Q :=
  Wm_pruned (Wm_reg hE ks hfit (h (fun tl hl => Q .normal ⟨tl, hl, s.nb + 8 * mos.length⟩) fun _ _ h => h))

theorem wdraw (hE : SoundAll P E) (hmix : P.follows .mixedOrders = true) {mos : List MO} {pr : List (List Nat)} (ks : List Nat) (hok : drawOk N mos pr = true) (h : ∀ K : List (Nat × AV) → List (Nat × AObj) → Prop, (∀ tl hl, Q .normal ⟨tl, hl, s.nb + 8 * mos.length⟩ → K tl hl) → Holds (evOps E s.nb mos 0 s.tl s.hl []) fun x => dynB (prOf pr) x.2.2 = true ∧ K (keepL ks x.1) (prune [] x.2.1)) : Wm P w0 S N D (.draw mos pr) s Q :=
  Wm_pruned (Wm_draw hE hmix ks hok (h (fun tl hl => Q .normal ⟨tl, hl, s.nb + 8 * mos.length⟩) fun _ _ h => h))

theorem thenK_normal {b : MCode} (h : Wm P w0 S N D b s Q) : thenK P w0 S N D b Q .normal s := h
theorem thenK_ret {b : MCode} (h : Q .ret s) : thenK P w0 S N D b Q .ret s := h
theorem thenK_exit {b : MCode} {id : Nat} (h : Q (.exit id) s) : thenK P w0 S N D b Q (.exit id) s := h
theorem blockK_normal {id : Nat} (h : Q .normal s) : blockK id Q .normal s := h
theorem blockK_ret {id : Nat} (h : Q .ret s) : blockK id Q .ret s := h
theorem blockK_here {id : Nat} (h : Q .normal s) : blockK id Q (.exit id) s := by simpa [blockK] using h
theorem blockK_exit {id j : Nat} (hne : j ≠ id) (h : Q (.exit j) s) : blockK id Q (.exit j) s := by simpa [blockK, hne] using h
theorem loopK_next {m : Nat} {α : Type} {I : α → St} {R : α → Prop} {μ : α → Nat} {x : α} (y : α) (h1 : R y) (h2 : μ y < μ x) (pl : List (Nat × Option Nat)) (h3 : LeW m pl s (I y)) : loopK m I R μ x Q .normal s := ⟨y, h1, h2, pl, h3⟩
theorem loopK_ret {m : Nat} {α : Type} {I : α → St} {R : α → Prop} {μ : α → Nat} {x : α} (h : Q .ret s) : loopK m I R μ x Q .ret s := h
theorem loopK_exit {m : Nat} {α : Type} {I : α → St} {R : α → Prop} {μ : α → Nat} {x : α} {id : Nat} (h : Q (.exit id) s) : loopK m I R μ x Q (.exit id) s := h

end

/-- The functions that are called. -/
def EL : List (FuncId × Spec) → FuncId → Option Spec
  | [], _ => none
  | (k, s) :: r, f => if f = k then some s else EL r f

theorem EL_sound {P : Program} : ∀ {l : List (FuncId × Spec)}, (∀ p, p ∈ l → Sound P p.1 p.2) → SoundAll P (EL l)
  | [], _, f, sp, h => by cases h
  | (k, s) :: r, hl, f, sp, h => by
    simp only [EL] at h
    split at h
    · rename_i e; injection h with h; subst e h; exact hl _ List.mem_cons_self
    · exact EL_sound (fun p hp => hl p (List.mem_cons_of_mem _ hp)) f sp h

/-- No wrap is due. -/
theorem wrap_in {n : Int} (h1 : -9223372036854775808 ≤ n) (h2 : n ≤ 9223372036854775807) : IntKind.wrap .i64 n = n := by
  rw [IntKind.wrap_i64]; omega

def rcOf (P : Program) (fn : Func) : Option MCode :=
  match fn.body with
  | some c => rC P c
  | none => none

theorem rcOf_body {P : Program} {fn : Func} {mc : MCode} (h : rcOf P fn = some mc) : ∃ c, fn.body = some c ∧ rC P c = some mc := by
  unfold rcOf at h
  split at h
  · rename_i c hc; exact ⟨c, hc, h⟩
  · cases h

attribute [simp low] gdK_bool
attribute [simp] prune evOps_nil evOps_op evOps_gd stepK_some stepK_none stepK_ite gdK_tt gdK_ff gdK_tf gdK_ft gdK_un Holds_some Holds_none Holds_ite stepM X.ev lk hk putL updH keepL binI pickV elemOf setElem splice AV.cells AV.one eqV eqL eq1 EL argL idxO dynB dynOne prOf retK rdRes rdRV rdAll fillA argsOf readSl szObj appF

end Go.Vc
