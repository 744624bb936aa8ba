/- The walk's rules in the form in which a proof uses them: what 'simp' evaluates, and what it must not enter. -/
import Derived.Test.YtmbploeikjangaaGreatWZ
set_option linter.unusedSimpArgs false
set_option linter.unusedVariables false
namespace Go.W

abbrev TL := List (Nat × AV)
abbrev HL := List (Nat × NObj)
abbrev LG := List (Nat × List Nat × List Nat)

/-- What comes behind an operation. -/
def stepK (E : FuncId → Option Spec) (nb : Nat) (r : List MO) (i : Nat) (tl : TL) (hl : HL) (lg : LG) (dst : Option Nat) (o : Option Res) : Option (TL × HL × LG) :=
  match o with
  | some q => if q.n = 8 then evOps E nb r (i + 1) (putL tl dst q.v) (updH hl q.hs) (lg ++ [(i, q.hs.map (·.1), q.rd)]) else none
  | none => none

section
variable (E : FuncId → Option Spec) (nb : Nat) (r : List MO) (i : Nat) (tl : TL) (hl : HL) (lg : LG) (dst : Option Nat)

theorem stepK_some (v : AV) (hs : List (Nat × NObj)) (rd : List Nat) : stepK E nb r i tl hl lg dst (some ⟨v, hs, rd, 8⟩) = evOps E nb r (i + 1) (putL tl dst v) (updH hl hs) (lg ++ [(i, hs.map (·.1), rd)]) := rfl
theorem stepK_none : stepK E nb r i tl hl lg dst none = none := rfl
theorem stepK_ite (c : Prop) [Decidable c] (x y : Option Res) : stepK E nb r i tl hl lg dst (if c then x else y) = if c then stepK E nb r i tl hl lg dst x else stepK E nb r i tl hl lg dst y := by split <;> rfl

/-- A guard. -/
def gdK (op : MOp) (s : Nat) (want : Bool) (v : AV) : Option (TL × HL × LG) :=
  match v with
  | .bool b => if b = want then stepK E nb r i ((s, .bool want) :: tl) hl lg dst (stepN E (lk ((s, .bool want) :: tl)) (hk hl) (nb + 8 * i) op) else evOps E nb r (i + 1) (putL ((s, .bool (!want)) :: tl) dst (.raw undef)) hl (lg ++ [(i, [], [])])
  | .raw v => if isUndef v = true then evOps E nb r (i + 1) (putL tl dst (.raw undef)) hl (lg ++ [(i, [], [])]) else none
  | _ => none

theorem gdK_bool (op : MOp) (s : Nat) (want b : Bool) : gdK E nb r i tl hl lg dst op s want (.bool b) = if b = want then stepK E nb r i ((s, .bool want) :: tl) hl lg dst (stepN E (lk ((s, .bool want) :: tl)) (hk hl) (nb + 8 * i) op) else evOps E nb r (i + 1) (putL ((s, .bool (!want)) :: tl) dst (.raw undef)) hl (lg ++ [(i, [], [])]) := rfl
theorem gdK_tt (op : MOp) (s : Nat) : gdK E nb r i tl hl lg dst op s true (.bool true) = stepK E nb r i ((s, .bool true) :: tl) hl lg dst (stepN E (lk ((s, .bool true) :: tl)) (hk hl) (nb + 8 * i) op) := rfl
theorem gdK_ff (op : MOp) (s : Nat) : gdK E nb r i tl hl lg dst op s false (.bool false) = stepK E nb r i ((s, .bool false) :: tl) hl lg dst (stepN E (lk ((s, .bool false) :: tl)) (hk hl) (nb + 8 * i) op) := rfl
theorem gdK_tf (op : MOp) (s : Nat) : gdK E nb r i tl hl lg dst op s true (.bool false) = evOps E nb r (i + 1) (putL ((s, .bool false) :: tl) dst (.raw undef)) hl (lg ++ [(i, [], [])]) := rfl
theorem gdK_ft (op : MOp) (s : Nat) : gdK E nb r i tl hl lg dst op s false (.bool true) = evOps E nb r (i + 1) (putL ((s, .bool true) :: tl) dst (.raw undef)) hl (lg ++ [(i, [], [])]) := rfl

theorem gdK_un (op : MOp) (s : Nat) (want : Bool) : gdK E nb r i tl hl lg dst op s want (.raw undef) = evOps E nb r (i + 1) (putL tl dst (.raw undef)) hl (lg ++ [(i, [], [])]) := rfl

theorem evOps_nil : evOps E nb [] i tl hl lg = some (tl, hl, lg) := rfl
theorem evOps_op (op : MOp) : evOps E nb (MO.mk dst op none :: r) i tl hl lg = stepK E nb r i tl hl lg dst (stepN E (lk tl) (hk hl) (nb + 8 * i) op) := by
  simp only [evOps, stepK]
  cases stepN E (lk tl) (hk hl) (nb + 8 * i) op <;> rfl
theorem evOps_gd (op : MOp) (s : Nat) (want : Bool) : evOps E nb (MO.mk dst op (some (s, want)) :: r) i tl hl lg = gdK E nb r i tl hl lg dst op s want (lk tl s) := by
  simp only [evOps, gdK]
  cases lk tl s with
  | bool b =>
    simp only
    split
    · simp only [stepK]
      cases stepN E (lk ((s, .bool want) :: tl)) (hk hl) (nb + 8 * i) op <;> rfl
    · rfl
  | _ => rfl

end

/-- Objects that are shadowed go. -/
def hasK : List (Nat × NObj) → Nat → Bool
  | [], _ => false
  | (k, _) :: r, j => if j = k then true else hasK r j

def prune (seen : List Nat) : List (Nat × NObj) → List (Nat × NObj)
  | [] => []
  | (k, o) :: r => if seen.contains k = true then prune seen r else (k, o) :: prune (k :: seen) r

theorem hk_prune : ∀ (hl : List (Nat × NObj)) (seen : List Nat) (x : Nat), x ∉ seen → hk (prune seen hl) x = hk hl x
  | [], _, _, _ => rfl
  | (k, o) :: r, seen, x, h => by
    simp only [prune]
    split
    · rename_i hs
      have hne : x ≠ k := fun e => h (by rw [e]; simpa using hs)
      rw [hk_prune r seen x h, hk, if_neg hne]
    · simp only [hk]
      split
      · rfl
      · rename_i hne
        exact hk_prune r (k :: seen) x (by simp [hne, h])

section
variable {P : Program} {E : FuncId → Option Spec} {w0 : World} {S : Sc} {N : Nat} {D : List Deferred} {s : St} {Q : Exit → St → Prop}

theorem Wm_prune {c : MCode} (h : Wm P w0 S N D c ⟨s.tl, prune [] s.hl, s.nb⟩ Q) : Wm P w0 S N D c s Q := fun code hc a w ⟨⟨Es, hs⟩, h1, h2⟩ => by
  have e : hk (prune [] s.hl) = hk s.hl := funext fun x => hk_prune _ _ _ (by simp)
  exact h code hc a w ⟨⟨Es, by show Sat w0 S Es _ (lk s.tl) (HF (hk (prune [] s.hl))) a w; rw [e]; exact hs⟩, h1, h2⟩

theorem Wm_pruned {c : MCode} (h : Wm P w0 S N D c s fun e s' => Q e ⟨s'.tl, prune [] s'.hl, s'.nb⟩) : Wm P w0 S N D c s Q := fun code hc a w hs =>
  wp_mono (h code hc a w hs) fun _ a w ⟨s', ⟨⟨Es, hs⟩, h1, h2⟩, hq⟩ => by
    have e : hk (prune [] s'.hl) = hk s'.hl := funext fun x => hk_prune _ _ _ (by simp)
    exact ⟨_, ⟨⟨Es, by show Sat w0 S Es _ (lk s'.tl) (HF (hk (prune [] s'.hl))) a w; rw [e]; exact hs⟩, h1, h2⟩, hq⟩

theorem wreg (hE : SoundAll P E) {mos : List MO} (ks : List Nat) (hfit : fits N mos = true) (h : ∀ K : List (Nat × AV) → List (Nat × NObj) → Prop, (∀ tl hl, Q .normal ⟨tl, hl, s.nb + 8 * mos.length⟩ → K tl hl) → Holds (evOps E s.nb mos 0 s.tl s.hl []) fun x => K (keepL ks x.1) (prune [] x.2.1)) : Wm P w0 S N D (.reg mos) s Q :=
  Wm_pruned (Wm_reg hE ks hfit (h (fun tl hl => Q .normal ⟨tl, hl, s.nb + 8 * mos.length⟩) fun _ _ h => h))

theorem wdraw (hE : SoundAll P E) (hmix : P.follows .mixedOrders = true) {mos : List MO} {pr : List (List Nat)} (cl : List (List Nat)) (ks : List Nat) (hok : drawOk N mos pr cl = true) (h : ∀ K : List (Nat × AV) → List (Nat × NObj) → Prop, (∀ tl hl, Q .normal ⟨tl, hl, s.nb + 8 * mos.length⟩ → K tl hl) → Holds (evOps E s.nb mos 0 s.tl s.hl []) fun x => dynB (prOf cl) x.2.2 = true ∧ K (keepL ks x.1) (prune [] x.2.1)) : Wm P w0 S N D (.draw mos pr) s Q :=
  Wm_pruned (Wm_draw hE hmix cl ks hok (h (fun tl hl => Q .normal ⟨tl, hl, s.nb + 8 * mos.length⟩) fun _ _ h => h))

theorem thenK_normal {b : MCode} (h : Wm P w0 S N D b s Q) : thenK P w0 S N D b Q .normal s := h
theorem thenK_ret {b : MCode} (h : Q .ret s) : thenK P w0 S N D b Q .ret s := h
theorem thenK_exit {b : MCode} {id : Nat} (h : Q (.exit id) s) : thenK P w0 S N D b Q (.exit id) s := h
theorem blockK_normal {id : Nat} (h : Q .normal s) : blockK id Q .normal s := h
theorem blockK_ret {id : Nat} (h : Q .ret s) : blockK id Q .ret s := h
theorem blockK_here {id : Nat} (h : Q .normal s) : blockK id Q (.exit id) s := by simpa [blockK] using h
theorem blockK_exit {id j : Nat} (hne : j ≠ id) (h : Q (.exit j) s) : blockK id Q (.exit j) s := by simpa [blockK, hne] using h
theorem loopK_next {m : Nat} {α : Type} {I : α → St} {R : α → Prop} {μ : α → Nat} {x : α} (y : α) (h1 : R y) (h2 : μ y < μ x) (h3 : Imp m s (I y)) : loopK m I R μ x Q .normal s := ⟨y, h1, h2, h3⟩
theorem loopK_ret {m : Nat} {α : Type} {I : α → St} {R : α → Prop} {μ : α → Nat} {x : α} (h : Q .ret s) : loopK m I R μ x Q .ret s := h
theorem loopK_exit {m : Nat} {α : Type} {I : α → St} {R : α → Prop} {μ : α → Nat} {x : α} {id : Nat} (h : Q (.exit id) s) : loopK m I R μ x Q (.exit id) s := h

end

/-- The functions that are called. -/
def EL : List (FuncId × Spec) → FuncId → Option Spec
  | [], _ => none
  | (k, s) :: r, f => if f = k then some s else EL r f

theorem EL_sound {P : Program} : ∀ {l : List (FuncId × Spec)}, (∀ p, p ∈ l → Sound P p.1 p.2) → SoundAll P (EL l)
  | [], _, f, sp, h => by cases h
  | (k, s) :: r, hl, f, sp, h => by
    simp only [EL] at h
    split at h
    · rename_i e; injection h with h; subst e h; exact hl _ List.mem_cons_self
    · exact EL_sound (fun p hp => hl p (List.mem_cons_of_mem _ hp)) f sp h

/-- No wrap is due. -/
theorem wrap_in {n : Int} (h1 : -9223372036854775808 ≤ n) (h2 : n ≤ 9223372036854775807) : IntKind.wrap .i64 n = n := by
  rw [IntKind.wrap_i64]; omega

theorem nestS_fn (ms : Modes) (d : List AV → Option Ans) (hok : NOk ms d) (args : List AV) (G : NH) (nb : Nat) : (nestS ms d hok).fn args G nb = nestF ms d args G nb := rfl

theorem omap_ite {α β : Type} (c : Prop) [Decidable c] (x y : Option α) (f : α → β) : Option.map f (if c then x else y) = if c then Option.map f x else Option.map f y := by split <;> rfl

/-- Cells seen flat, one by one. -/
def flF (p : Nm) (t j : Nat) : Nat → List AV → List AV
  | _, [] => []
  | f, v :: r => flV p t j f v :: flF p t j (f + 1) r

theorem flF_get (p : Nm) (t j : Nat) : ∀ (c : List AV) (f k : Nat), (flF p t j f c)[k]? = (c[k]?).map (flV p t j (f + k))
  | [], f, k => by simp [flF]
  | v :: r, f, 0 => by simp [flF]
  | v :: r, f, k + 1 => by rw [flF, List.getElem?_cons_succ, List.getElem?_cons_succ, flF_get p t j r (f + 1) k]; congr 2; omega

theorem flC_eq (p : Nm) (t j : Nat) (c : List AV) : flC p t j c = flF p t j 0 c := by
  apply List.ext_getElem?
  intro k
  rw [flC_get, flF_get, Nat.zero_add]

theorem t0LL_map {α : Type} (f : α → List AV) (l : List α) : t0LL (l.map f) = l.map (fun x => t0L (f x)) := by
  induction l with
  | nil => rfl
  | cons a l ih => simp [t0LL, ih]

theorem clLL_map {α : Type} (f : α → List AV) (l : List α) : clLL (l.map f) = l.all (fun x => clL (f x)) := by
  induction l with
  | nil => rfl
  | cons a l ih => simp [clLL, ih]

theorem tlLL_map {α : Type} (n : Nat) (f : α → List AV) (l : List α) : tlLL n (l.map f) = l.all (fun x => tlL n (f x)) := by
  induction l with
  | nil => rfl
  | cons a l ih => simp [tlLL, ih]

theorem t0LL_append (a b : List (List AV)) : t0LL (a ++ b) = t0LL a ++ t0LL b := by
  induction a with
  | nil => rfl
  | cons x a ih => simp [t0LL, ih]

theorem clLL_append (a b : List (List AV)) : clLL (a ++ b) = (clLL a && clLL b) := by
  induction a with
  | nil => rfl
  | cons x a ih => simp [clLL, ih, Bool.and_assoc]

theorem tlLL_append (n : Nat) (a b : List (List AV)) : tlLL n (a ++ b) = (tlLL n a && tlLL n b) := by
  induction a with
  | nil => rfl
  | cons x a ih => simp [tlLL, ih, Bool.and_assoc]

/-- The conditions of 'LeN' that are of names alone. -/
def anB : Nat → List (Nat × Option Nat) → Bool
  | 0, _ => true
  | n + 1, pl => decide (lkp pl n = some (some n)) && anB n pl

theorem anB_ok : ∀ {m : Nat} {pl : List (Nat × Option Nat)}, anB m pl = true → ∀ x, x < m → lkp pl x = some (some x)
  | 0, _, _, x, h => absurd h (Nat.not_lt_zero x)
  | n + 1, pl, h, x, hx => by
    simp only [anB, Bool.and_eq_true] at h
    by_cases e : x = n
    · subst e; exact of_decide_eq_true h.1
    · exact anB_ok h.2 x (by omega)

def plB (m : Nat) (pl : List (Nat × Option Nat)) (nb : Nat) : Bool := anB m pl && pl.all (fun p => decide (p.1 < nb)) && decide ((pl.filterMap (·.2)).Nodup)

theorem LeN.mk' {m : Nat} {pl : List (Nat × Option Nat)} {s s' : St} (h : plB m pl s'.nb = true) (ht : ∀ p, p ∈ s'.tl → Ren (nmap pl (hk s.hl) (hk s'.hl)) (lk s.tl p.1) p.2)
    (ho : ∀ p, p ∈ s'.hl → p.2.tag < s'.nb ∧ (match lkp pl p.1 with
    | some (some y) => NLe (nmap pl (hk s.hl) (hk s'.hl)) (hk s.hl y) p.2
    | some none => p.2.none
    | none => p.2 = .free)) : LeN m pl s s' := by
  simp only [plB, Bool.and_eq_true] at h
  exact ⟨anB_ok h.1.1, fun p hp => of_decide_eq_true (List.all_eq_true.1 h.1.2 p hp), of_decide_eq_true h.2, ht, ho⟩

section
variable (P : Program) (w0 : World) (S : Sc) (N : Nat) (D : List Deferred) (c : MCode) (Q : Exit → St → Prop)

/-- A loop that ends within so many rounds. -/
def LoopOk : Nat → St → Prop
  | 0, _ => False
  | n + 1, s => Wm P w0 S N D c s fun e s' => match e with
    | .normal => LoopOk n s'
    | e => Q e s'

def unK (n : Nat) : Exit → St → Prop
  | .normal, s => LoopOk P w0 S N D c Q n s
  | e, s => Q e s
end

section
variable {P : Program} {w0 : World} {S : Sc} {N : Nat} {D : List Deferred} {c : MCode} {Q : Exit → St → Prop} {s : St}

theorem loopOk_succ {n : Nat} (h : Wm P w0 S N D c s (unK P w0 S N D c Q n)) : LoopOk P w0 S N D c Q (n + 1) s := Wm_mono h fun e s' hq => by cases e <;> exact hq
theorem unK_normal {n : Nat} (h : LoopOk P w0 S N D c Q n s) : unK P w0 S N D c Q n .normal s := h
theorem unK_ret {n : Nat} (h : Q .ret s) : unK P w0 S N D c Q n .ret s := h
theorem unK_exit {n : Nat} {id : Nat} (h : Q (.exit id) s) : unK P w0 S N D c Q n (.exit id) s := h

theorem Wm_unroll (n : Nat) (h : LoopOk P w0 S N D c Q n s) : Wm P w0 S N D (.loop c) s Q := fun code hc a w hs => by
  cases code <;> simp only [rC, reduceCtorEq, Option.some.injEq] at hc
  case loop cc =>
    cases hq : rC P cc with
    | none => simp [hq] at hc
    | some c' =>
      simp only [hq, Option.map_some, Option.some.injEq, MCode.loop.injEq] at hc
      subst hc
      intro b k cs
      have key : ∀ n s, LoopOk P w0 S N D c' Q n s → ∀ a w, SatS w0 S N D s a w →
          ∃ e a' w', (∃ s', SatS w0 S N D s' a' w' ∧ Q e s') ∧ Arrives P (lone (b.at a (.code cc :: .inLoop cc :: k)) cs w) b k cs e a' w' := by
        intro n
        induction n with
        | zero => intro s h; exact h.elim
        | succ n ih =>
          intro s h a w hsat
          obtain ⟨e, a₁, w₁, ⟨s1, hs1, hq1⟩, harr⟩ := h cc hq a w hsat b (.inLoop cc :: k) cs
          cases e with
          | normal =>
            obtain ⟨e₂, a₂, w₂, hq₂, harr₂⟩ := ih s1 hq1 a₁ w₁ hs1
            exact ⟨e₂, a₂, w₂, hq₂, .of_steps (Steps.trans harr (.one step_inLoop)) harr₂⟩
          | exit id => exact ⟨_, a₁, w₁, ⟨s1, hs1, hq1⟩, .pass (x := .inLoop cc) rfl (fun _ _ => .inl (by simp)) harr⟩
          | goto l => exact ⟨_, a₁, w₁, ⟨s1, hs1, hq1⟩, .pass (x := .inLoop cc) rfl (fun _ _ => .inl (by simp)) harr⟩
          | ret => exact ⟨_, a₁, w₁, ⟨s1, hs1, hq1⟩, .pass (x := .inLoop cc) rfl (fun _ _ => .inl (by simp)) harr⟩
          | panic ch => exact ⟨_, a₁, w₁, ⟨s1, hs1, hq1⟩, .pass (x := .inLoop cc) rfl (fun _ _ => .inl (by simp)) harr⟩
          | outgrown => exact ⟨_, a₁, w₁, ⟨s1, hs1, hq1⟩, .pass (x := .inLoop cc) rfl (fun _ _ => .inl (by simp)) harr⟩
      obtain ⟨e, a', w', hq, harr⟩ := key n s h a w hs
      exact ⟨e, a', w', hq, .of_steps (.one step_loop) harr⟩
  all_goals ((repeat' (split at hc)) <;> first | (cases hc; done) | (simp only [Option.map_eq_some_iff, reduceCtorEq, and_false, exists_false] at hc; done))

end

mutual
/-- Which names stand for which, in two values of one shape. -/
def prs : AV → AV → List (Nat × Option Nat)
  | .ptr (.top y) _ _, .ptr (.top x) _ _ => [(x, some y)]
  | .sl (.top y) _ _, .sl (.top x) _ _ => [(x, some y)]
  | .nsl, .sl (.top x) _ _ => [(x, none)]
  | .fn _ c, .fn _ c' => prsL c c'
  | .iface _ a, .iface _ a' => prs a a'
  | .agg l, .agg l' => prsL l l'
  | .tup l, .tup l' => prsL l l'
  | _, _ => []
def prsL : List AV → List AV → List (Nat × Option Nat)
  | a :: as, b :: bs => prs a b ++ prsL as bs
  | _, _ => []
end

def ddL : List (Nat × Option Nat) → List (Nat × Option Nat)
  | [] => []
  | p :: r => p :: (ddL r).filter (fun q => decide (q.1 ≠ p.1))

def idL : Nat → List (Nat × Option Nat)
  | 0 => []
  | n + 1 => (n, some n) :: idL n

def prT (tl : List (Nat × AV)) : List (Nat × AV) → List (Nat × Option Nat)
  | [] => []
  | (k, v) :: r => prs (lk tl k) v ++ prT tl r

def mkPl (m : Nat) (s s' : St) : List (Nat × Option Nat) := ddL (idL m ++ prT s.tl s'.tl)

theorem Imp.auto {m : Nat} {s s' : St} (h : plB m (mkPl m s s') s'.nb = true) (ht : ∀ p, p ∈ s'.tl → Ren (nmap (mkPl m s s') (hk s.hl) (hk s'.hl)) (lk s.tl p.1) p.2)
    (ho : ∀ p, p ∈ s'.hl → p.2.tag < s'.nb ∧ (match lkp (mkPl m s s') p.1 with
    | some (some y) => NLe (nmap (mkPl m s s') (hk s.hl) (hk s'.hl)) (hk s.hl y) p.2
    | some none => p.2.none
    | none => p.2 = .free)) : Imp m s s' := Imp.le _ (LeN.mk' h ht ho)

def likeB : NObj → NObj → Bool
  | .cells _ _, .cells _ _ => true
  | .arr _ _ els, .arr _ _ els' => decide (els'.length = els.length)
  | .cells _ _, .free => true
  | .arr _ _ _, .free => true
  | _, _ => false

theorem likeB_ok {o o' : NObj} (h : likeB o o' = true) : Like o o' := by
  cases o <;> cases o' <;> simp_all [likeB, Like]

def outB (o o' : NObj) : Bool := (if o.own = true then likeB o o' else o'.isFree) && o'.clO && decide (o'.tag = 0)

def outsB : List NObj → List NObj → Bool
  | o :: os, o' :: r => outB o o' && outsB os r
  | [], [] => true
  | _, _ => false

theorem outsB_get : ∀ {os r : List NObj}, outsB os r = true → r.length = os.length ∧ ∀ (k : Nat) (o o' : NObj), os[k]? = some o → r[k]? = some o' → outB o o' = true
  | [], [], _ => ⟨rfl, fun k o o' h => by simp at h⟩
  | [], _ :: _, h => by simp [outsB] at h
  | _ :: _, [], h => by simp [outsB] at h
  | a :: os, b :: r, h => by
    simp only [outsB, Bool.and_eq_true] at h
    obtain ⟨h1, h2⟩ := outsB_get h.2
    refine ⟨by simp [h1], fun k o o' e1 e2 => ?_⟩
    cases k with
    | zero => simp at e1 e2; subst e1 e2; exact h.1
    | succ k => exact h2 k o o' (by simpa using e1) (by simpa using e2)

def endsB (objs outs news : List NObj) : Bool := outsB objs outs && (news.all (fun o => o.own && o.clO && decide (o.tag = 0)) && decide (news.length ≤ 8))

theorem Ends_of {objs outs news : List NObj} (h : endsB objs outs news = true) : Ends objs outs news := by
  simp only [endsB, Bool.and_eq_true] at h
  obtain ⟨h1, h2⟩ := outsB_get h.1
  refine ⟨h1, fun k o o' e1 e2 => ?_, fun k o e => ?_, of_decide_eq_true h.2.2⟩
  · have := h2 k o o' e1 e2
    simp only [outB, Bool.and_eq_true] at this
    refine ⟨fun ho => ?_, fun ho => ?_, this.1.2, of_decide_eq_true this.2⟩
    · have h3 := this.1.1; rw [if_pos ho] at h3; exact likeB_ok h3
    · have h3 := this.1.1; rw [if_neg (by rw [ho]; simp)] at h3; exact isFree_iff.1 h3
  · have := List.all_eq_true.1 h.2.1 o (List.mem_of_getElem? e)
    simp only [Bool.and_eq_true] at this
    exact ⟨this.1.1, this.1.2, of_decide_eq_true this.2⟩

attribute [simp low] gdK_bool
attribute [simp] prune evOps_nil evOps_op evOps_gd stepK_some stepK_none stepK_ite gdK_tt gdK_ff gdK_tf gdK_ft gdK_un Holds_some Holds_none Holds_ite stepN stepF toRes X.ev lk hk putL updH keepL binI pickV elemN setN splice AV.cells AV.one AV.st eqV eqL eq1 EL argL idxO dynB dynOne prOf retK rdRes rdRV rdAll fillA argsOf readN szN
attribute [simp] getP kid kidC kidV NObj.tag NObj.ro NObj.own flV flC_eq flF AV.plain omap_ite nestS_fn nestF cloL clo AV.t0 t0L t0LL AV.cl clL clLL clP t0LL_map clLL_map tlLL_map tlLL tlL AV.tl lo loL lobj larr namesB apartB apart1 preB Nm.mx Nm.root afterL wl wrs wr putKid cellOf NObj.retag layN layL fixO bkN backV backL mlRoots endsB outsB outB likeB NObj.clO NObj.isFree mayN namesOk namesOkL aA oA lR nR uR List.range List.range.loop
attribute [simp] t0LL_length t0L_length

end Go.W
