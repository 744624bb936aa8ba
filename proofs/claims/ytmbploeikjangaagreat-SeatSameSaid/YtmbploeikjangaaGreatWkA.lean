/- Code by computation; a function's specification by its arguments; the walk's rules for both. -/
import Derived.Test.YtmbploeikjangaaGreatWkC
set_option linter.unusedSimpArgs false
set_option linter.unusedVariables false
namespace Go.W

/-- Code; at each region which temporaries are used later, as bits. -/
inductive AC where
  | skip
  | reg (ops : List MO) (m n : Nat)
  | draw (ops : List MO) (pr : List (List Nat)) (m n : Nat)
  | seq (a b : AC)
  | cond (c : X) (a b : AC)
  | block (id : Nat) (a : AC)
  | loop (a : AC)
  | exit (id : Nat)
  | ret

def AC.un : AC → MCode
  | .skip => .skip
  | .reg o _ _ => .reg o
  | .draw o p _ _ => .draw o p
  | .seq a b => .seq a.un b.un
  | .cond c a b => .cond c a.un b.un
  | .block i a => .block i a.un
  | .loop a => .loop a.un
  | .exit i => .exit i
  | .ret => .ret

/-- What is ordered ahead of each operation. -/
def cloQ : List (List Nat) → List (List Nat) → List (List Nat)
  | acc, [] => acc
  | acc, p :: r => cloQ (acc ++ [(p ++ p.flatMap (fun j => acc.getD j [])).eraseDups]) r

def AC.ok (N : Nat) : AC → Bool
  | .reg o _ n => fits N o && Nat.beq n o.length
  | .draw o p _ n => drawOk N o p (cloQ [] p) && Nat.beq n o.length
  | .seq a b => a.ok N && b.ok N
  | .cond _ a b => a.ok N && b.ok N
  | .block _ a => a.ok N
  | .loop a => a.ok N
  | _ => true

def bitsL : List Nat → Nat → Nat
  | [], m => m
  | k :: r, m => bitsL r (m ||| (1 <<< k))

def clrD : Option Nat → Nat → Nat
  | some d, m => m ^^^ (m &&& (1 <<< d))
  | none, m => m

/-- What is used ahead of its being written anew. -/
def liveO : List MO → Nat → Nat
  | [], m => m
  | o :: r, m => bitsL o.looks (clrD o.dst (liveO r m))

def exitM : List (Nat × Nat) → Nat → Nat
  | [], _ => 0
  | (k, m) :: r, i => if k = i then m else exitM r i

def liveC : MCode → List (Nat × Nat) → Nat → Nat → Nat
  | .skip, _, _, K => K
  | .reg o, _, _, K => liveO o K
  | .draw o _, _, _, K => liveO o K
  | .seq a b, xs, R, K => liveC a xs R (liveC b xs R K)
  | .cond c a b, xs, R, K => bitsL c.looks (liveC a xs R K ||| liveC b xs R K)
  | .block i a, xs, R, K => liveC a ((i, K) :: xs) R K
  | .loop a, xs, R, _ => liveC a xs R (liveC a xs R 0)
  | .exit i, xs, _, _ => exitM xs i
  | .ret, _, R, _ => R

def ann : MCode → List (Nat × Nat) → Nat → Nat → AC × Nat
  | .skip, _, _, K => (.skip, K)
  | .reg o, _, _, K => (.reg o K o.length, liveO o K)
  | .draw o p, _, _, K => (.draw o p K o.length, liveO o K)
  | .seq a b, xs, R, K => match ann b xs R K with
    | (b', k) => match ann a xs R k with
      | (a', k') => (.seq a' b', k')
  | .cond c a b, xs, R, K => match ann a xs R K, ann b xs R K with
    | (a', k), (b', k') => (.cond c a' b', bitsL c.looks (k ||| k'))
  | .block i a, xs, R, K => match ann a ((i, K) :: xs) R K with
    | (a', k) => (.block i a', k)
  | .loop a, xs, R, _ => match ann a xs R (liveC a xs R (liveC a xs R 0)) with
    | (a', k) => (.loop a', k)
  | .exit i, xs, _, _ => (.exit i, exitM xs i)
  | .ret, _, R, _ => (.ret, R)

theorem ann_un : ∀ (c : MCode) (xs : List (Nat × Nat)) (R K : Nat), (ann c xs R K).1.un = c
  | .skip, _, _, _ => rfl
  | .reg o, _, _, _ => rfl
  | .draw o p, _, _, _ => rfl
  | .seq a b, xs, R, K => by
    have h1 := ann_un b xs R K
    have h2 := ann_un a xs R (ann b xs R K).2
    simp only [ann, AC.un]
    rw [h1, h2]
  | .cond c a b, xs, R, K => by simp only [ann, AC.un]; rw [ann_un a, ann_un b]
  | .block i a, xs, R, K => by simp only [ann, AC.un]; rw [ann_un a]
  | .loop a, xs, R, K => by simp only [ann, AC.un]; rw [ann_un a]
  | .exit i, _, _, _ => rfl
  | .ret, _, _, _ => rfl

def rvL : List RV → List Nat
  | [] => []
  | .t n :: r => n :: rvL r
  | .c _ _ a :: r => a :: rvL r

def annF (P : Program) (fn : Func) : Option (AC × List RV) :=
  match rcOf P fn, rRVs P fn.results.toList with
  | some mc, some res => some ((ann mc [] (bitsL (rvL res) 0) (bitsL (rvL res) 0)).1, res)
  | _, _ => none

theorem annF_ok {P : Program} {fn : Func} {ac : AC} {res : List RV} (h : annF P fn = some (ac, res)) : rcOf P fn = some ac.un ∧ rRVs P fn.results.toList = some res := by
  unfold annF at h
  split at h
  · rename_i mc r h1 h2
    injection h with h
    injection h with h3 h4
    subst h3 h4
    rw [ann_un]
    exact ⟨h1, h2⟩
  · cases h

/-- Only what is used later is kept. -/
def keepM : Nat → TL → TL
  | _, [] => []
  | m, (k, v) :: r => if (m >>> k) % 2 = 1 then (k, v) :: keepM (m ^^^ (1 <<< k)) r else keepM m r

theorem keepM_lk : ∀ (tl : TL) (m j : Nat), lk (keepM m tl) j ≠ .bot → (m >>> j) % 2 = 1 ∧ lk (keepM m tl) j = lk tl j
  | [], m, j, h => absurd rfl h
  | (k, v) :: r, m, j, h => by
    simp only [keepM] at h ⊢
    split at h
    · rename_i hk
      rw [if_pos hk]
      simp only [lk] at h ⊢
      split at h
      · rename_i e; subst e; rw [if_pos rfl, if_pos rfl]; exact ⟨hk, rfl⟩
      · rename_i e
        rw [if_neg e, if_neg e]
        obtain ⟨h1, h2⟩ := keepM_lk r _ j h
        refine ⟨?_, h2⟩
        rw [Nat.shiftRight_xor_distrib] at h1
        have : (1 <<< k) >>> j % 2 = 0 := by
          rw [Nat.one_shiftLeft, Nat.shiftRight_eq_div_pow]
          rcases Nat.lt_trichotomy j k with h | h | h
          · rw [Nat.pow_div (by omega) (by omega), show k - j = (k - j - 1) + 1 from by omega, Nat.pow_succ]
            omega
          · exact absurd h e
          · rw [Nat.div_eq_of_lt (Nat.pow_lt_pow_right (by omega) h)]
        have hx : ((m >>> j) ^^^ ((1 <<< k) >>> j)) % 2 = ((m >>> j) % 2 ^^^ ((1 <<< k) >>> j) % 2) := Nat.xor_mod_two_pow (n := 1)
        rw [hx, this, Nat.xor_zero] at h1
        exact h1
    · rename_i hk
      rw [if_neg hk]
      obtain ⟨h1, h2⟩ := keepM_lk r m j h
      have e : j ≠ k := fun e => hk (by rw [← e]; exact h1)
      simp only [lk]
      rw [if_neg e]
      exact ⟨h1, h2⟩

section
variable {P : Program} {E : FuncId → Option Spec} {w0 : World} {S : Sc} {N : Nat} {D : List Deferred} {s : St} {Q : Exit → St → Prop}

theorem SatS.shrink {a : Act} {w : World} (h : SatS w0 S N D s a w) (m : Nat) : SatS w0 S N D ⟨keepM m s.tl, prune [] s.hl, s.nb⟩ a w := by
  obtain ⟨⟨Es, h1⟩, h2, h3⟩ := h
  have e : hk (prune [] s.hl) = hk s.hl := funext fun x => hk_prune _ _ _ (by simp)
  refine ⟨⟨Es, h1.ne, h1.cl, ?_, ?_, fun ρ hρ t ht => ?_, ?_⟩, h2, h3⟩
  · rw [e]; exact h1.fr
  · rw [e]; exact h1.pin
  · have e := (keepM_lk s.tl m t ht).2
    rw [e] at ht ⊢
    exact h1.tm ρ hρ t ht
  · rw [e]; exact h1.hp

theorem Wm_shrink {c : MCode} (m : Nat) (h : Wm P w0 S N D c s fun e s' => Q e ⟨keepM m s'.tl, prune [] s'.hl, s'.nb⟩) : Wm P w0 S N D c s Q := fun code hc a w hs =>
  wp_mono (h code hc a w hs) fun _ a w ⟨s', hs', hq⟩ => ⟨_, hs'.shrink m, hq⟩

variable (P w0 S N D) in
/-- Annotated code walks from a state. -/
def WmA (c : AC) (s : St) (Q : Exit → St → Prop) : Prop := c.ok N = true → Wm P w0 S N D c.un s Q

variable (P w0 S N D) in
def thenA (b : AC) (Q : Exit → St → Prop) : Exit → St → Prop
  | .normal, s => WmA P w0 S N D b s Q
  | e, s => Q e s

theorem WmA_imp {c : AC} {s' : St} (h : Imp S.m s s') (hw : WmA P w0 S N D c s' Q) : WmA P w0 S N D c s Q := fun hok => Wm_imp h (hw hok)
theorem WmA_mono {c : AC} {Q' : Exit → St → Prop} (h : WmA P w0 S N D c s Q) (hq : ∀ e s, Q e s → Q' e s) : WmA P w0 S N D c s Q' := fun hok => Wm_mono (h hok) hq
theorem WmA_skip (h : Q .normal s) : WmA P w0 S N D .skip s Q := fun _ => Wm_skip h
theorem WmA_ret (h : Q .ret s) : WmA P w0 S N D .ret s Q := fun _ => Wm_ret h
theorem WmA_exit {id : Nat} (h : Q (.exit id) s) : WmA P w0 S N D (.exit id) s Q := fun _ => Wm_exit h
theorem WmA_seq {x y : AC} (h : WmA P w0 S N D x s (thenA P w0 S N D y Q)) : WmA P w0 S N D (.seq x y) s Q := fun hok => by
  simp only [AC.ok, Bool.and_eq_true] at hok
  refine Wm_seq (Wm_mono (h hok.1) fun e s hq => ?_)
  cases e with
  | normal => exact hq hok.2
  | _ => exact hq
theorem WmA_block {id : Nat} {x : AC} (h : WmA P w0 S N D x s (blockK id Q)) : WmA P w0 S N D (.block id x) s Q := fun hok => Wm_block (h hok)
theorem WmA_cond {c : X} {x y : AC} {b : Bool} (hb : c.ev (lk s.tl) = .bool b) (ht : b = true → WmA P w0 S N D x s Q) (hf : b = false → WmA P w0 S N D y s Q) : WmA P w0 S N D (.cond c x y) s Q := fun hok => by
  simp only [AC.ok, Bool.and_eq_true] at hok
  exact Wm_cond hb (fun e => ht e hok.1) (fun e => hf e hok.2)
theorem WmA_loop {c : AC} {α : Type} (I : α → St) (R : α → Prop) (μ : α → Nat) (x0 : α) (h0 : R x0) (hle : Imp S.m s (I x0)) (hr : ∀ x, R x → WmA P w0 S N D c (I x) (loopK S.m I R μ x Q)) : WmA P w0 S N D (.loop c) s Q := fun hok =>
  Wm_loop I R μ x0 h0 hle fun x hx => hr x hx hok

variable (P w0 S N D) in
def LoopA (c : AC) (Q : Exit → St → Prop) (n : Nat) (s : St) : Prop := c.ok N = true → LoopOk P w0 S N D c.un Q n s
variable (P w0 S N D) in
def unA (c : AC) (Q : Exit → St → Prop) (n : Nat) : Exit → St → Prop
  | .normal, s => LoopA P w0 S N D c Q n s
  | e, s => Q e s
theorem LoopA_succ {c : AC} {n : Nat} (h : WmA P w0 S N D c s (unA P w0 S N D c Q n)) : LoopA P w0 S N D c Q (n + 1) s := fun hok =>
  loopOk_succ (Wm_mono (h hok) fun e s hq => by
    cases e with
    | normal => exact hq hok
    | _ => exact hq)
theorem WmA_unroll (n : Nat) {c : AC} (h : LoopA P w0 S N D c Q n s) : WmA P w0 S N D (.loop c) s Q := fun hok => Wm_unroll n (h hok)

/-- The walk's rules that leave one goal. -/
instance {x y : AC} : ZR (WmA P w0 S N D (.seq x y) s Q) (WmA P w0 S N D x s (thenA P w0 S N D y Q)) := ⟨WmA_seq⟩
instance : ZR (WmA P w0 S N D .skip s Q) (Q .normal s) := ⟨WmA_skip⟩
instance : ZR (WmA P w0 S N D .ret s Q) (Q .ret s) := ⟨WmA_ret⟩
instance {id : Nat} {x : AC} : ZR (WmA P w0 S N D (.block id x) s Q) (WmA P w0 S N D x s (blockK id Q)) := ⟨WmA_block⟩
instance {id : Nat} : ZR (WmA P w0 S N D (.exit id) s Q) (Q (.exit id) s) := ⟨WmA_exit⟩
instance {b : AC} : ZR (thenA P w0 S N D b Q .normal s) (WmA P w0 S N D b s Q) := ⟨fun h => h⟩
instance {b : AC} : ZR (thenA P w0 S N D b Q .ret s) (Q .ret s) := ⟨fun h => h⟩
instance {b : AC} {id : Nat} : ZR (thenA P w0 S N D b Q (.exit id) s) (Q (.exit id) s) := ⟨fun h => h⟩
instance {c : AC} {n : Nat} : ZR (unA P w0 S N D c Q n .ret s) (Q .ret s) := ⟨fun h => h⟩
instance {c : AC} {n id : Nat} : ZR (unA P w0 S N D c Q n (.exit id) s) (Q (.exit id) s) := ⟨fun h => h⟩
instance {c : AC} {n : Nat} : ZR (unA P w0 S N D c Q n .normal s) (LoopA P w0 S N D c Q n s) := ⟨fun h => h⟩
instance {c : AC} {n : Nat} : ZR (LoopA P w0 S N D c Q (n + 1) s) (WmA P w0 S N D c s (unA P w0 S N D c Q n)) := ⟨LoopA_succ⟩
abbrev kJ := @WmA_cond
abbrev kL := @WmA_loop

theorem regC (hE : SoundAll P E) {mos : List MO} (hfit : fits N mos = true) (h : ecC E s.nb (fun tl hl => Q .normal ⟨tl, hl, s.nb + 8 * mos.length⟩) mos 0 s.tl s.hl) : Wm P w0 S N D (.reg mos) s Q := fun code hc a w hs => by
  cases code <;> simp only [rC, reduceCtorEq, Option.some.injEq] at hc
  case region id ops d =>
    split at hc
    · rename_i l hl
      split at hc
      · cases hc
      · rename_i hd
        injection hc with hc
        injection hc with hc
        subst hc
        have hd' : d = false := by simpa using hd
        subst hd'
        obtain ⟨g1, g2⟩ := rOs_get hl
        obtain ⟨⟨Es, hsat⟩, hN, hD⟩ := hs
        have hsz : ops.size = l.length := by rw [← Array.length_toList, g1]
        refine wp_region ?_
        have := seqC (P := P) (E := E) (w0 := w0) (S := S) (N := N) (D := D) (ops := ops) (nb := s.nb) (m := 0) (Q := fun e a' w' => ∃ s', SatS w0 S N D s' a' w' ∧ Q e s') hE l 0 Es _ s.tl s.hl a w
          (fun tl hl Es U a w k1 k2 k3 k4 k5 => ⟨_, satS_of (n := l.length) k2 (fun x hx => k3 x (by simpa using hx)) k4 k5, k1⟩) h (fun k mo hk => by
            obtain ⟨o, o1, o2⟩ := g2 k _ hk
            refine ⟨o, by rw [Nat.zero_add, ← Array.getElem?_toList]; exact o1, o2, fun d hd => ?_⟩
            have := List.all_eq_true.1 hfit _ (List.mem_of_getElem? hk)
            rw [hd] at this
            simpa using this) hsat (fun x hx => by simpa using hx) hD hN
        rw [List.range_eq_range', hsz]
        simpa using this
    · cases hc
  all_goals ((repeat' (split at hc)) <;> first | (cases hc; done) | (simp only [Option.map_eq_some_iff, reduceCtorEq, and_false, exists_false] at hc; done))

/-- A REGION IN THE TEXT'S ORDER. -/
theorem kR (hE : SoundAll P E) {mos : List MO} {m n nb : Nat} {tl : TL} {hl : HL} (h : ∀ K : TL → HL → Prop, (∀ tl hl, Q .normal ⟨tl, hl, nb + 8 * n⟩ → K tl hl) → ecC E nb (fun tl hl => K (keepM m tl) (prune [] hl)) mos 0 tl hl) : WmA P w0 S N D (.reg mos m n) ⟨tl, hl, nb⟩ Q := fun hok => by
  simp only [AC.ok, Bool.and_eq_true, Nat.beq_eq] at hok
  obtain ⟨hok, rfl⟩ := hok
  exact Wm_shrink m (regC hE hok (h (fun tl hl => Q .normal ⟨tl, hl, nb + 8 * mos.length⟩) fun _ _ h => h))

/-- Objects: no two that are left unordered meet. -/
def dynOk (pr : List (List Nat)) (lg : LG) : Bool := dynB (prOf (cloQ [] pr)) lg

/-- A REGION THAT DRAWS ITS ORDER. -/
theorem kD (hE : SoundAll P E) (hmix : P.follows .mixedOrders = true) {mos : List MO} {pr : List (List Nat)} {m n nb : Nat} {tl : TL} {hl : HL} (h : ∀ K : TL → HL → Prop, (∀ tl hl, Q .normal ⟨tl, hl, nb + 8 * n⟩ → K tl hl) → Holds (evOps E nb mos 0 tl hl []) fun x => dynOk pr x.2.2 = true ∧ K (keepM m x.1) (prune [] x.2.1)) : WmA P w0 S N D (.draw mos pr m n) ⟨tl, hl, nb⟩ Q := fun hok => by
  simp only [AC.ok, Bool.and_eq_true, Nat.beq_eq] at hok
  obtain ⟨hok, rfl⟩ := hok
  exact Wm_shrink m (Wm_draw0 hE hmix (cloQ [] pr) hok (h (fun tl hl => Q .normal ⟨tl, hl, nb + 8 * mos.length⟩) fun _ _ h => h))

/-- A function's specification: what its arguments are, told by some value; what it answers. -/
structure Fn (α : Type) where
  ms : Modes
  pre : α → Prop
  args : α → List AV
  ans : α → Ans

noncomputable def Fn.d {α : Type} (F : Fn α) (xs : List AV) : Option Ans :=
  open Classical in if h : ∃ x, F.pre x ∧ F.args x = xs then some (F.ans h.choose) else none

structure Fn.Ok {α : Type} (F : Fn α) : Prop where
  inj : ∀ x y, F.pre x → F.pre y → F.args x = F.args y → F.ans x = F.ans y
  ends : ∀ x, F.pre x → Ends (oA F.ms (F.args x)) (uR F.ms (F.args x) (F.ans x)) (nR F.ms (F.args x) (F.ans x)) ∧ namesOk (mayN (oA F.ms (F.args x)) (nR F.ms (F.args x) (F.ans x)).length) (lR F.ms (F.args x) (F.ans x)) = true

theorem Fn.d_some {α : Type} {F : Fn α} {xs : List AV} {a : Ans} (h : F.d xs = some a) : ∃ x, F.pre x ∧ F.args x = xs ∧ a = F.ans x := by
  unfold Fn.d at h
  split at h
  · rename_i h1
    injection h with h
    exact ⟨h1.choose, h1.choose_spec.1, h1.choose_spec.2, h.symm⟩
  · cases h

theorem Fn.eq {α : Type} {F : Fn α} (hF : F.Ok) (x : α) (h : F.pre x) : F.d (F.args x) = some (F.ans x) := by
  unfold Fn.d
  have h1 : ∃ y, F.pre y ∧ F.args y = F.args x := ⟨x, h, rfl⟩
  rw [dif_pos h1]
  exact congrArg some (hF.inj _ _ h1.choose_spec.1 h h1.choose_spec.2)

theorem Fn.Ok.eq' {α : Type} {F : Fn α} (hF : F.Ok) (x : α) (h : F.pre x) : F.d (F.args x) = some (F.ans x) := Fn.eq hF x h

theorem Fn.nok {α : Type} {F : Fn α} (hF : F.Ok) : NOk F.ms F.d := fun xs a h => by
  obtain ⟨x, h1, rfl, rfl⟩ := Fn.d_some h
  exact hF.ends x h1

noncomputable def Fn.spec {α : Type} (F : Fn α) (hF : F.Ok) : Spec := nestS F.ms F.d (Fn.nok hF)

theorem Fn.spec_fn {α : Type} (F : Fn α) (hF : F.Ok) (args : List AV) (G : NH) (nb : Nat) : (F.spec hF).fn args G nb = nestF F.ms F.d args G nb := rfl

/-- A FUNCTION KEEPS ITS SPECIFICATION if its body's walk does. -/
theorem Fn.sound {α : Type} {F : Fn α} (hF : F.Ok) {f : FuncId} {fn : Func} {ac : AC} {res : List RV} (hf : P.funcs[f]? = some fn) (hn : (fn.name == "runtime.NumGoroutine") = false) (ha : annF P fn = some (ac, res)) (hk : ac.ok fn.ntmps = true) (hl : ∀ x, F.pre x → Nat.ble (aA F.ms (F.args x)).length fn.ntmps = true)
    (hw : ∀ x, F.pre x → ∀ (w0 : World) (S : Sc), S.m = (oA F.ms (F.args x)).length → WmA P w0 S fn.ntmps [] ac ⟨argL 0 (aA F.ms (F.args x)), idxO 0 (oA F.ms (F.args x)), (oA F.ms (F.args x)).length⟩
      (retK res fun v s => Imp (oA F.ms (F.args x)).length ⟨[(0, v)], s.hl, s.nb⟩ ⟨[(0, lR F.ms (F.args x) (F.ans x))], idxO 0 (uR F.ms (F.args x) (F.ans x) ++ nR F.ms (F.args x) (F.ans x)), (oA F.ms (F.args x)).length + (nR F.ms (F.args x) (F.ans x)).length⟩)) : Sound P f (F.spec hF) := by
  obtain ⟨h1, h2⟩ := annF_ok ha
  refine nest_sound hf hn h1 h2 (Fn.nok hF) (fun xs a h => ?_) fun xs a h w0 S hS => ?_
  · obtain ⟨x, g1, rfl, rfl⟩ := Fn.d_some h
    exact Nat.le_of_ble_eq_true (hl x g1)
  · obtain ⟨x, g1, rfl, rfl⟩ := Fn.d_some h
    exact hw x g1 w0 S hS hk
end

attribute [simp] keepM Fn.spec_fn

end Go.W
