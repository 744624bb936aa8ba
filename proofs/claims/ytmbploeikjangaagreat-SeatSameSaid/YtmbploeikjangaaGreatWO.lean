/- The walk over code, on states that are written out. -/
import Derived.Test.YtmbploeikjangaaGreatWN
set_option linter.unusedSimpArgs false
set_option linter.unusedVariables false
namespace Go.W

def lk : List (Nat × AV) → Nat → AV
  | [], _ => .bot
  | (k, v) :: r, j => if j = k then v else lk r j

def hk : List (Nat × NObj) → NH
  | [], _ => .free
  | (k, v) :: r, j => if j = k then v else hk r j

theorem lk_cons (k : Nat) (v : AV) (r : List (Nat × AV)) : lk ((k, v) :: r) = upd (lk r) k v := rfl
theorem hk_cons (k : Nat) (v : NObj) (r : List (Nat × NObj)) : hk ((k, v) :: r) = upd (hk r) k v := rfl

/-- A state: what temporaries hold, what objects are, the next name. -/
structure St where
  tl : List (Nat × AV)
  hl : List (Nat × NObj)
  nb : Nat

def putL (tl : List (Nat × AV)) (d : Option Nat) (v : AV) : List (Nat × AV) :=
  match d with
  | some d => (d, v) :: tl
  | none => tl

def updH (hl : List (Nat × NObj)) : List (Nat × NObj) → List (Nat × NObj)
  | [] => hl
  | (x, o) :: r => updH ((x, o) :: hl) r

theorem updH_eq : ∀ (hs hl : List (Nat × NObj)), hk (updH hl hs) = updL (hk hl) hs
  | [], _ => rfl
  | (x, o) :: r, hl => by rw [updH, updH_eq r, hk_cons]; rfl

theorem putL_eq (tl : List (Nat × AV)) (mo : MO) (r : Res) : lk (putL tl mo.dst r.v) = putT (lk tl) mo r := by
  unfold putL putT
  cases mo.dst <;> rfl

/-- What comes of a region's operations; what each looked at and wrote. -/
def evOps (E : FuncId → Option Spec) (nb : Nat) : List MO → Nat → List (Nat × AV) → List (Nat × NObj) → List (Nat × List Nat × List Nat) → Option (List (Nat × AV) × List (Nat × NObj) × List (Nat × List Nat × List Nat))
  | [], _, tl, hl, lg => some (tl, hl, lg)
  | mo :: r, i, tl, hl, lg =>
    match mo.g with
    | none => match stepN E (lk tl) (hk hl) (nb + 8 * i) mo.op with
      | some q => if q.n = 8 then evOps E nb r (i + 1) (putL tl mo.dst q.v) (updH hl q.hs) (lg ++ [(i, q.hs.map (·.1), q.rd)]) else none
      | none => none
    | some (s, want) => match lk tl s with
      | .bool b =>
        if b = want then (match stepN E (lk ((s, .bool want) :: tl)) (hk hl) (nb + 8 * i) mo.op with
          | some q => if q.n = 8 then evOps E nb r (i + 1) (putL ((s, .bool want) :: tl) mo.dst q.v) (updH hl q.hs) (lg ++ [(i, q.hs.map (·.1), q.rd)]) else none
          | none => none)
        else evOps E nb r (i + 1) (putL ((s, .bool (!want)) :: tl) mo.dst (.raw undef)) hl (lg ++ [(i, [], [])])
      | .raw v => if isUndef v = true then evOps E nb r (i + 1) (putL tl mo.dst (.raw undef)) hl (lg ++ [(i, [], [])]) else none
      | _ => none

/-- Where an operation's new objects are named. -/
def nm (nb i : Nat) : Nat := nb + 8 * i

def brief (l : List (Nat × MO × Res)) : List (Nat × List Nat × List Nat) := l.map fun x => (x.1, x.2.2.hs.map (·.1), x.2.2.rd)

theorem lk_again {tl : List (Nat × AV)} {s : Nat} {v : AV} (h : lk tl s = v) : lk ((s, v) :: tl) = lk tl := by
  funext j
  rw [lk_cons, upd_apply]
  split
  · rename_i e; subst e; exact h.symm
  · rfl

theorem evOps_runs {E : FuncId → Option Spec} {nb : Nat} : ∀ {mos : List MO} {i : Nat} {tl : List (Nat × AV)} {hl : List (Nat × NObj)} {lg : List (Nat × List Nat × List Nat)} {x : List (Nat × AV) × List (Nat × NObj) × List (Nat × List Nat × List Nat)}, evOps E nb mos i tl hl lg = some x →
    ∃ l, Runs E (nm nb) l (lk tl) (hk hl) (lk x.1) (hk x.2.1) ∧ l.map (·.1) = List.range' i mos.length ∧ l.map (·.2.1) = mos ∧ x.2.2 = lg ++ brief l ∧ ∀ y, y ∈ l → y.2.2.n = 8
  | [], i, tl, hl, lg, x, h => by
    simp only [evOps, Option.some.injEq] at h
    subst h
    exact ⟨[], .nil _ _, rfl, rfl, by simp [brief], by simp⟩
  | mo :: r, i, tl, hl, lg, x, h => by
    have go : ∀ {tl0 : List (Nat × AV)} {q : Res}, lk tl0 = lk tl → stepG E (lk tl) (hk hl) (nm nb i) mo = some q → q.n = 8 → evOps E nb r (i + 1) (putL tl0 mo.dst q.v) (updH hl q.hs) (lg ++ [(i, q.hs.map (·.1), q.rd)]) = some x →
        ∃ l, Runs E (nm nb) l (lk tl) (hk hl) (lk x.1) (hk x.2.1) ∧ l.map (·.1) = List.range' i (mo :: r).length ∧ l.map (·.2.1) = mo :: r ∧ x.2.2 = lg ++ brief l ∧ ∀ y, y ∈ l → y.2.2.n = 8 := by
      intro tl0 q h0 hst hn8 hev
      obtain ⟨l, h1, h2, h3, h4, h5⟩ := evOps_runs hev
      refine ⟨(i, mo, q) :: l, .cons hst ?_, by simp [h2, List.range'_succ], by simp [h3], by rw [h4]; simp [brief], fun y hy => (List.mem_cons.1 hy).elim (fun e => by rw [e]; exact hn8) (h5 y)⟩
      rw [putL_eq, updH_eq, h0] at h1
      exact h1
    simp only [evOps] at h
    cases hg : mo.g with
    | none =>
      simp only [hg] at h
      split at h
      · rename_i q hq
        split at h
        · rename_i h8
          exact go rfl (by simp only [stepG, hg]; exact hq) h8 h
        · cases h
      · cases h
    | some sw =>
      obtain ⟨s, want⟩ := sw
      simp only [hg] at h
      split at h
      · rename_i b hb
        split at h
        · rename_i e
          subst e
          split at h
          · rename_i q hq
            split at h
            · rename_i h8
              rw [lk_again hb] at hq
              exact go (lk_again hb) (by simp only [stepG, hg, hb, if_true]; exact hq) h8 h
            · cases h
          · cases h
        · rename_i e
          have hb' : lk tl s = .bool (!want) := by rw [hb]; cases b <;> cases want <;> simp_all
          exact go (q := ⟨.raw undef, [], [], 8⟩) (lk_again hb') (by simp only [stepG, hg, hb, if_neg e]) rfl h
      · rename_i v hb
        split at h
        · rename_i e
          exact go (q := ⟨.raw undef, [], [], 8⟩) rfl (by simp only [stepG, hg, hb, if_pos e]) rfl h
        · cases h
      · cases h

def statOne (x y : MO) : Bool :=
  (match x.dst with
  | some d => !(y.looks.contains d) && (y.dst != some d)
  | none => true) &&
  (match y.dst with
  | some d => !(x.looks.contains d)
  | none => true)

/-- Temporaries: no two that are left unordered meet. -/
def statB (pr : Nat → List Nat) : List (Nat × MO) → Bool
  | [] => true
  | x :: l => l.all (fun y => (pr y.1).contains x.1 || statOne x.2 y.2) && statB pr l

def dynOne (x y : Nat × List Nat × List Nat) : Bool := x.2.1.all (fun n => !((y.2.2 ++ y.2.1).contains n)) && y.2.1.all (fun n => !(x.2.2.contains n))

/-- Objects: no two that are left unordered meet. -/
def dynB (pr : Nat → List Nat) : List (Nat × List Nat × List Nat) → Bool
  | [] => true
  | x :: l => l.all (fun y => (pr y.1).contains x.1 || dynOne x y) && dynB pr l

theorem conf_of {pr : Nat → List Nat} : ∀ (l : List (Nat × MO × Res)), statB pr (l.map fun x => (x.1, x.2.1)) = true → dynB pr (brief l) = true → confB pr l = true
  | [], _, _ => rfl
  | x :: l, h1, h2 => by
    simp only [List.map_cons, statB, Bool.and_eq_true, List.all_map, List.all_eq_true, brief, dynB, Function.comp] at h1 h2
    simp only [confB, Bool.and_eq_true, List.all_eq_true]
    refine ⟨fun y hy => ?_, conf_of l h1.2 h2.2⟩
    have a1 := h1.1 y hy
    have a2 := h2.1 y hy
    simp only [Bool.or_eq_true] at a1 a2 ⊢
    rcases a1 with a1 | a1
    · exact .inl a1
    · rcases a2 with a2 | a2
      · exact .inl a2
      · right
        simp only [statOne, Bool.and_eq_true] at a1
        simp only [dynOne, Bool.and_eq_true] at a2
        simp only [noConf, Bool.and_eq_true]
        exact ⟨⟨a1, a2.1⟩, a2.2⟩

def prOf (pr : List (List Nat)) (i : Nat) : List Nat := pr.getD i []

def withIx (mos : List MO) : List (Nat × MO) := (List.range' 0 mos.length).zip mos

/-- A frame and a world as a state tells them. -/
structure SatS (w0 : World) (S : Sc) (N : Nat) (D : List Deferred) (s : St) (a : Act) (w : World) : Prop where
  sat : ∃ Es, Sat w0 S Es (fun x : Nm => s.nb ≤ x.mx) (lk s.tl) (HF (hk s.hl)) a w
  size : a.tmps.size = N
  defers : a.defers = D

section
variable (P : Program) (E : FuncId → Option Spec) (w0 : World) (S : Sc) (N : Nat) (D : List Deferred)

/-- Code walks from a state. -/
def Wm (c : MCode) (s : St) (Q : Exit → St → Prop) : Prop := ∀ code, rC P code = some c → ∀ a w, SatS w0 S N D s a w → code.wp P (fun e a' w' => ∃ s', SatS w0 S N D s' a' w' ∧ Q e s') a w

def thenK (b : MCode) (Q : Exit → St → Prop) : Exit → St → Prop
  | .normal, s => Wm P w0 S N D b s Q
  | e, s => Q e s

def blockK (id : Nat) (Q : Exit → St → Prop) : Exit → St → Prop
  | .exit j, s => if j = id then Q .normal s else Q (.exit j) s
  | e, s => Q e s

def Holds {α : Type} (r : Option α) (K : α → Prop) : Prop := ∃ x, r = some x ∧ K x

end

theorem Holds_some {α : Type} (x : α) (K : α → Prop) : Holds (some x) K = K x := by
  simp [Holds]
theorem Holds_none {α : Type} (K : α → Prop) : Holds none K = False := by
  simp [Holds]
theorem Holds_ite {α : Type} (c : Prop) [Decidable c] (x y : Option α) (K : α → Prop) : Holds (if c then x else y) K = ((c → Holds x K) ∧ (¬ c → Holds y K)) := by
  by_cases h : c <;> simp [h]
theorem Holds_congr {α : Type} {r r' : Option α} (K : α → Prop) (h : r = r') : Holds r K = Holds r' K := by rw [h]

section
variable {P : Program} {E : FuncId → Option Spec} {w0 : World} {S : Sc} {N : Nat} {D : List Deferred} {s : St} {Q : Exit → St → Prop}

theorem Wm_mono {c : MCode} {Q' : Exit → St → Prop} (h : Wm P w0 S N D c s Q) (hq : ∀ e s, Q e s → Q' e s) : Wm P w0 S N D c s Q' :=
  fun code hc a w hs => wp_mono (h code hc a w hs) fun _ _ _ ⟨s', h1, h2⟩ => ⟨s', h1, hq _ _ h2⟩

theorem Wm_skip (h : Q .normal s) : Wm P w0 S N D .skip s Q := fun code hc a w hs => by
  cases code <;> simp only [rC, reduceCtorEq] at hc
  case skip => exact wp_skip ⟨s, hs, h⟩
  all_goals ((repeat' (split at hc)) <;> first | (cases hc; done) | (simp only [Option.map_eq_some_iff, reduceCtorEq, and_false, exists_false] at hc; done))

theorem Wm_ret (h : Q .ret s) : Wm P w0 S N D .ret s Q := fun code hc a w hs => by
  cases code <;> simp only [rC, reduceCtorEq] at hc
  case ret => exact wp_ret ⟨s, hs, h⟩
  all_goals ((repeat' (split at hc)) <;> first | (cases hc; done) | (simp only [Option.map_eq_some_iff, reduceCtorEq, and_false, exists_false] at hc; done))

theorem Wm_exit {id : Nat} (h : Q (.exit id) s) : Wm P w0 S N D (.exit id) s Q := fun code hc a w hs => by
  cases code <;> simp only [rC, reduceCtorEq, Option.some.injEq] at hc
  case exit j => injection hc with hc; subst hc; exact wp_exit ⟨s, hs, h⟩
  all_goals ((repeat' (split at hc)) <;> first | (cases hc; done) | (simp only [Option.map_eq_some_iff, reduceCtorEq, and_false, exists_false] at hc; done))

theorem Wm_seq {x y : MCode} (h : Wm P w0 S N D x s (thenK P w0 S N D y Q)) : Wm P w0 S N D (.seq x y) s Q := fun code hc a w hs => by
  cases code <;> simp only [rC, reduceCtorEq, Option.some.injEq] at hc
  case seq c d =>
    split at hc
    · rename_i x' y' h1 h2
      injection hc with hc
      injection hc with e1 e2
      subst e1 e2
      refine wp_seq (wp_mono (h c h1 a w hs) fun e a' w' ⟨s', q1, q2⟩ => ?_)
      cases e with
      | normal => exact q2 d h2 a' w' q1
      | _ => exact ⟨s', q1, q2⟩
    · cases hc
  all_goals ((repeat' (split at hc)) <;> first | (cases hc; done) | (simp only [Option.map_eq_some_iff, reduceCtorEq, and_false, exists_false] at hc; done))

theorem Wm_block {id : Nat} {x : MCode} (h : Wm P w0 S N D x s (blockK id Q)) : Wm P w0 S N D (.block id x) s Q := fun code hc a w hs => by
  cases code <;> simp only [rC, reduceCtorEq, Option.some.injEq] at hc
  case block j c =>
    cases hq : rC P c with
    | none => simp [hq] at hc
    | some x' =>
      simp only [hq, Option.map_some, Option.some.injEq, MCode.block.injEq] at hc
      obtain ⟨e1, e2⟩ := hc
      subst e1 e2
      refine wp_block (wp_mono (h c hq a w hs) fun e a' w' ⟨s', q1, q2⟩ => ?_)
      cases e with
      | exit k =>
        simp only [blockK] at q2
        simp only [Exit.inBlock]
        split at q2
        · rename_i e; rw [if_pos e]; exact ⟨s', q1, q2⟩
        · rename_i e; rw [if_neg e]; exact ⟨s', q1, q2⟩
      | _ => exact ⟨s', q1, q2⟩
  all_goals ((repeat' (split at hc)) <;> first | (cases hc; done) | (simp only [Option.map_eq_some_iff, reduceCtorEq, and_false, exists_false] at hc; done))

theorem Wm_cond {c : X} {x y : MCode} {b : Bool} (hb : c.ev (lk s.tl) = .bool b) (ht : b = true → Wm P w0 S N D x s Q) (hf : b = false → Wm P w0 S N D y s Q) : Wm P w0 S N D (.cond c x y) s Q := fun code hc a w hs => by
  cases code <;> simp only [rC, reduceCtorEq, Option.some.injEq] at hc
  case cond o c d =>
    split at hc
    · rename_i x' y' h1 h2
      injection hc with hc
      injection hc with e0 e1 e2
      subst e0 e1 e2
      obtain ⟨Es, hsat⟩ := hs.sat
      obtain ⟨ρ, hρ⟩ := hsat.ne
      have := hsat.ev hρ o
      rw [hb, Rep] at this
      refine wp_cond_split this (fun e => ht e c h1 a w hs) (fun e => hf e d h2 a w hs)
    · cases hc
  all_goals ((repeat' (split at hc)) <;> first | (cases hc; done) | (simp only [Option.map_eq_some_iff, reduceCtorEq, and_false, exists_false] at hc; done))

/-- Only some temporaries are kept. -/
def keepL (ks : List Nat) (tl : List (Nat × AV)) : List (Nat × AV) := ks.map fun k => (k, lk tl k)

theorem keepL_lk (ks : List Nat) (tl : List (Nat × AV)) (j : Nat) (h : lk (keepL ks tl) j ≠ .bot) : lk (keepL ks tl) j = lk tl j := by
  induction ks with
  | nil => exact absurd rfl h
  | cons k ks ih =>
    unfold keepL at h ih ⊢
    simp only [List.map_cons, lk] at h ⊢
    split
    · rename_i e; rw [e]
    · rename_i e; rw [if_neg e] at h; exact ih h

theorem SatS.keep {a : Act} {w : World} (h : SatS w0 S N D s a w) (ks : List Nat) : SatS w0 S N D ⟨keepL ks s.tl, s.hl, s.nb⟩ a w := by
  obtain ⟨⟨Es, h1⟩, h2, h3⟩ := h
  refine ⟨⟨Es, h1.ne, h1.cl, h1.fr, h1.pin, fun ρ hρ t ht => ?_, h1.hp⟩, h2, h3⟩
  have e := keepL_lk ks s.tl t ht
  rw [e] at ht ⊢
  exact h1.tm ρ hρ t ht

theorem rOs_get {ops : Array Oper} : ∀ {l : List Oper} {mos : List MO}, rOs P ops l = some mos → mos.length = l.length ∧ ∀ (i : Nat) (m : MO), mos[i]? = some m → ∃ o, l[i]? = some o ∧ rO P ops o = some m
  | [], mos, h => by simp only [rOs, Option.some.injEq] at h; subst h; simp
  | o :: l, mos, h => by
    simp only [rOs] at h
    cases h1 : rO P ops o with
    | none => simp [h1] at h
    | some m =>
      cases h2 : rOs P ops l with
      | none => simp [h1, h2] at h
      | some q =>
        simp only [h1, h2, Option.some.injEq] at h
        subst h
        obtain ⟨q1, q2⟩ := rOs_get h2
        refine ⟨by simp [q1], fun i m' hm => ?_⟩
        cases i with
        | zero => simp at hm; subst hm; exact ⟨o, rfl, h1⟩
        | succ i => simpa using q2 i m' (by simpa using hm)

/-- Every temporary that a region writes lies in the frame. -/
def fits (N : Nat) (mos : List MO) : Bool := mos.all fun m => match m.dst with
  | some d => d < N
  | none => true

theorem seq_ok (hE : SoundAll P E) {ops : Array Oper} {bs : Nat → Nat} {mt : Nat} {B : Nat → Prop} {Es0 : Env → Prop} {H0 : NH} {lb : Nat} {Q : Exit → Act → World → Prop} {Tf : Nat → AV} {Hf : NH} (hB : ∀ m, m < mt → B m) (hQ : ∀ Es U a w, Sat w0 S Es U Tf (HF Hf) a w → (∀ x : Nm, mt ≤ x.mx → B x.mx → U x) → a.defers = D → a.tmps.size = N → Adv Es0 H0 Es Hf (fun x : Nm => lb ≤ x.mx ∧ x.mx < mt) → Q .normal a w) :
    ∀ (l : List (Nat × MO × Res)) (i nb : Nat) (Es : Env → Prop) (U : Nm → Prop) (T : Nat → AV) (H : NH) (a : Act) (w : World), Runs E bs l T H Tf Hf → l.map (·.1) = List.range' i l.length → i + l.length = ops.size →
      (∀ x, x ∈ l → ∃ o, ops[x.1]? = some o ∧ rO P ops o = some x.2.1 ∧ ∀ d, x.2.1.dst = some d → d < N) → Sat w0 S Es U T (HF H) a w → (∀ x : Nm, nb ≤ x.mx → B x.mx → U x) → lb ≤ nb → nb ≤ mt → l.Pairwise (fun y z => bs y.1 + y.2.2.n ≤ bs z.1) → (∀ y, y ∈ l → nb ≤ bs y.1 ∧ bs y.1 + y.2.2.n ≤ mt) → Adv Es0 H0 Es H (fun x : Nm => lb ≤ x.mx ∧ x.mx < nb) → a.defers = D → a.tmps.size = N → wpOps P ops Q (List.range' i l.length) a w
  | [], i, nb, Es, U, T, H, a, w, hr, _, hi, _, hsat, hU, _, hnb, _, _, hA, hD, hN => by
    cases hr
    exact hQ Es U a w hsat (fun x hx hb => hU x (by omega) hb) hD hN (hA.mono fun x hx => ⟨hx.1, by omega⟩)
  | (j, mo, r) :: l, i, nb, Es, U, T, H, a, w, hr, hix, hi, hops, hsat, hU, hlb, hnb, hpw, hmt, hA, hD, hN => by
    simp only [List.map_cons, List.length_cons, List.range'_succ, List.cons.injEq] at hix
    obtain ⟨rfl, hix⟩ := hix
    cases hr with
    | cons h1 h2 =>
      obtain ⟨o, ho, hro, hdst⟩ := hops (j, mo, r) List.mem_cons_self
      have hb := hmt (j, mo, r) List.mem_cons_self
      simp only at hb
      rw [List.pairwise_cons] at hpw
      rw [List.length_cons, List.range'_succ, wpOps_cons]
      refine op_ok hE hsat ho hro h1 (fun x hx => hU x (by omega) (hB _ (by omega))) (by rw [hN]; exact hdst) fun Es' a' w' hsat' hd' hn' hadv => ?_
      exact seq_ok hE hB hQ l (j + 1) (bs j + r.n) Es' _ _ _ a' w' h2 hix (by simp at hi; omega) (fun x hx => hops x (List.mem_cons_of_mem _ hx)) hsat' (fun x hx hbx => ⟨hU x (by omega) hbx, fun hb => by omega⟩) (by omega) hb.2 hpw.2 (fun y hy => ⟨hpw.1 y hy, (hmt y (List.mem_cons_of_mem _ hy)).2⟩) (hA.trans hadv (fun x h1 h2 => by omega) (fun x hx => by omega)) (hd'.trans hD) (hn'.trans hN)

theorem nm_pw {nb : Nat} : ∀ {l : List (Nat × MO × Res)} {i : Nat}, l.map (·.1) = List.range' i l.length → (∀ y, y ∈ l → y.2.2.n = 8) → l.Pairwise (fun y z => nm nb y.1 + y.2.2.n ≤ nm nb z.1)
  | [], _, _, _ => .nil
  | y :: l, i, h, h8 => by
    simp only [List.map_cons, List.length_cons, List.range'_succ, List.cons.injEq] at h
    refine List.pairwise_cons.2 ⟨fun z hz => ?_, nm_pw h.2 fun z hz => h8 z (List.mem_cons_of_mem _ hz)⟩
    have h1 : z.1 ∈ List.range' (i + 1) l.length := by rw [← h.2]; exact List.mem_map.2 ⟨z, hz, rfl⟩
    have h2 := (List.mem_range'_1.1 h1).1
    rw [h8 y List.mem_cons_self]
    simp only [nm]
    omega

theorem satS_of {tl : List (Nat × AV)} {hl : List (Nat × NObj)} {nb n : Nat} {Es : Env → Prop} {U : Nm → Prop} {a : Act} {w : World} (h : Sat w0 S Es U (lk tl) (HF (hk hl)) a w) (hU : ∀ x : Nm, nb + 8 * n ≤ x.mx → U x) (hD : a.defers = D) (hN : a.tmps.size = N) : SatS w0 S N D ⟨tl, hl, nb + 8 * n⟩ a w :=
  ⟨⟨Es, h.ne, fun ρ ρ' h1 h2 => h.cl ρ ρ' h1 fun x hx => h2 x fun hb => hx (hU x hb), fun x hx => h.fr x (hU x hx), h.pin, h.tm, h.hp⟩, hN, hD⟩

theorem mem_ix {l : List (Nat × MO × Res)} {i : Nat} {mos : List MO} (h1 : l.map (·.1) = List.range' i mos.length) (h2 : l.map (·.2.1) = mos) {x : Nat × MO × Res} (hx : x ∈ l) : ∃ k, x.1 = i + k ∧ mos[k]? = some x.2.1 := by
  obtain ⟨k, hk⟩ := List.mem_iff_getElem?.1 hx
  have e1 : (l.map (·.1))[k]? = some x.1 := by simp [hk]
  have e2 : (l.map (·.2.1))[k]? = some x.2.1 := by simp [hk]
  rw [h1] at e1
  rw [h2] at e2
  rw [List.getElem?_range'] at e1
  · simp at e1; exact ⟨k, e1.symm, e2⟩
  · exact (List.getElem?_eq_some_iff.1 e2).1

/-- A REGION IN THE TEXT's ORDER. -/
theorem Wm_reg (hE : SoundAll P E) {mos : List MO} (ks : List Nat) (hfit : fits N mos = true) (h : Holds (evOps E s.nb mos 0 s.tl s.hl []) fun x => Q .normal ⟨keepL ks x.1, x.2.1, s.nb + 8 * mos.length⟩) : Wm P w0 S N D (.reg mos) s Q := fun code hc a w hs => by
  cases code <;> simp only [rC, reduceCtorEq, Option.some.injEq] at hc
  case region id ops d =>
    split at hc
    · rename_i l hl
      split at hc
      · cases hc
      · rename_i hd
        injection hc with hc
        injection hc with hc
        subst hc
        have hd' : d = false := by simpa using hd
        subst hd'
        obtain ⟨x, hx, hq⟩ := h
        obtain ⟨ll, r1, r2, r3, _, r8⟩ := evOps_runs hx
        obtain ⟨g1, g2⟩ := rOs_get hl
        obtain ⟨⟨Es, hsat⟩, hN, hD⟩ := hs
        have hlen : ll.length = l.length := by rw [← r3]; simp
        have hops : ∀ x, x ∈ ll → ∃ o, ops[x.1]? = some o ∧ rO P ops o = some x.2.1 ∧ ∀ d, x.2.1.dst = some d → d < N := fun y hy => by
          obtain ⟨k, k1, k2⟩ := mem_ix r2 r3 hy
          obtain ⟨o, o1, o2⟩ := g2 k _ k2
          refine ⟨o, by rw [k1, Nat.zero_add, ← Array.getElem?_toList]; exact o1, o2, fun d hd => ?_⟩
          have := List.all_eq_true.1 hfit _ (List.mem_of_getElem? k2)
          rw [hd] at this
          simpa using this
        refine wp_region ?_
        have hsz : ops.size = l.length := by rw [← Array.length_toList, g1]
        have := seq_ok (P := P) (E := E) (w0 := w0) (S := S) (N := N) (D := D) (ops := ops) (bs := nm s.nb) (mt := s.nb + 8 * ops.size) (B := fun _ => True) (Es0 := Es) (H0 := hk s.hl) (lb := s.nb) (Tf := lk x.1) (Hf := hk x.2.1) hE (fun _ _ => trivial) (Q := fun e a' w' => ∃ s', SatS w0 S N D s' a' w' ∧ Q e s')
          (fun Es U a w h1 h2 h3 h4 _ => ⟨_, (satS_of (n := ops.size) h1 (fun x hx => h2 x hx trivial) h3 h4).keep ks, by rw [hsz]; exact hq⟩)
          ll 0 s.nb Es _ _ _ a w r1 (by rw [hlen]; exact r2) (by rw [hlen, hsz]; omega) hops hsat (fun x hx _ => by simpa using hx) (Nat.le_refl _) (by omega) (nm_pw (by rw [hlen]; exact r2) r8) (fun y hy => by have := r8 y hy; obtain ⟨k, k1, k2⟩ := mem_ix r2 r3 hy; have := (List.getElem?_eq_some_iff.1 k2).1; simp only [nm]; omega) (Adv.refl _ _ _) hD hN
        rw [List.range_eq_range', hsz, ← hlen]
        exact this
    · cases hc
  all_goals ((repeat' (split at hc)) <;> first | (cases hc; done) | (simp only [Option.map_eq_some_iff, reduceCtorEq, and_false, exists_false] at hc; done))

/-- What a region must bear to be walked in the text's order: temporaries don't meet; each edge leads back. -/
def drawOk (N : Nat) (mos : List MO) (pr cl : List (List Nat)) : Bool := fits N mos && statB (prOf cl) (withIx mos) && ((withIx mos).all fun x => (prOf pr x.1).all fun j => j < x.1) && (cl.length == mos.length) && (withIx mos).all fun x => (prOf cl x.1).all fun j => (prOf pr x.1).any fun k => k == j || (prOf cl k).contains j

/-- A REGION THAT DRAWS ITS ORDER. -/
theorem Wm_draw0 (hE : SoundAll P E) (hmix : P.follows .mixedOrders = true) {mos : List MO} {pr : List (List Nat)} (cl : List (List Nat)) (hok : drawOk N mos pr cl = true) (h : Holds (evOps E s.nb mos 0 s.tl s.hl []) fun x => dynB (prOf cl) x.2.2 = true ∧ Q .normal ⟨x.1, x.2.1, s.nb + 8 * mos.length⟩) : Wm P w0 S N D (.draw mos pr) s Q := fun code hc a w hs => by
  cases code <;> simp only [rC, reduceCtorEq, Option.some.injEq] at hc
  case region id ops d =>
    split at hc
    · rename_i l hl
      split at hc
      · rename_i hd
        injection hc with hc
        injection hc with hc hc2
        subst hc hc2
        subst hd
        simp only [drawOk, Bool.and_eq_true] at hok
        obtain ⟨⟨⟨⟨hfit, hstat⟩, hback⟩, hcll⟩, hcl⟩ := hok
        obtain ⟨x, hx, hdyn, hq⟩ := h
        obtain ⟨ll, r1, r2, r3, r4, r8⟩ := evOps_runs hx
        obtain ⟨g1, g2⟩ := rOs_get hl
        obtain ⟨⟨Es, hsat⟩, hN, hD⟩ := hs
        have hlen : ll.length = l.length := by rw [← r3]; simp
        have hsz : ops.size = l.length := by rw [← Array.length_toList, g1]
        have hops : ∀ x, x ∈ ll → ∃ o, ops[x.1]? = some o ∧ rO P ops o = some x.2.1 ∧ ∀ d, x.2.1.dst = some d → d < N := fun y hy => by
          obtain ⟨k, k1, k2⟩ := mem_ix r2 r3 hy
          obtain ⟨o, o1, o2⟩ := g2 k _ k2
          refine ⟨o, by rw [k1, Nat.zero_add, ← Array.getElem?_toList]; exact o1, o2, fun d hd => ?_⟩
          have := List.all_eq_true.1 hfit _ (List.mem_of_getElem? k2)
          rw [hd] at this
          simpa using this
        have hpo : ∀ i o, ops[i]? = some o → prOf (ops.toList.map predsOf) i = predsOf o := fun i o ho => by
          rw [← Array.getElem?_toList] at ho
          simp [prOf, List.getD_eq_getElem?_getD, ho]
        have hwi : ll.map (fun x => (x.1, x.2.1)) = withIx l := by
          unfold withIx
          rw [← r2]
          conv => rhs; rw [← r3]
          clear hops r1 r2 r3 r4 r8 hlen
          induction ll with
          | nil => rfl
          | cons y ll ih => simp [ih]
        refine wp_region_any hmix ?_
        refine any_ok (P := P) (E := E) (w0 := w0) (S := S) (N := N) (D := D) (ops := ops) (pr := prOf cl) (bs := nm s.nb) (mt := s.nb + 8 * ops.size) (B := fun _ => True) (Es0 := Es) (H0 := hk s.hl) (lb := s.nb) (Tf := lk x.1) (Hf := hk x.2.1) hE (fun i o ho j hj => ?_) (fun i o ho e he hb => ?_) (fun _ _ => trivial)
          (fun Es U a w h1 h2 h3 h4 _ => ⟨_, satS_of (n := ops.size) h1 (fun x hx => h2 x hx trivial) h3 h4, by rw [hsz]; exact hq⟩)
          ops.size ll (Array.replicate ops.size false) Es _ _ _ a { w with drawn := w.drawn + 1 } (by rw [hlen, hsz]) r1 (conf_of ll (by rw [hwi]; exact hstat) (by rw [r4] at hdyn; simpa using hdyn)) (by rw [r2]; exact List.nodup_range') hops (by simp) (fun i hi => ?_) (fun i o ho hni => absurd ?_ hni)
          ⟨hsat.ne, hsat.cl, hsat.fr, hsat.pin, hsat.tm, fun ρ hρ => (hsat.hp ρ hρ).drew⟩ (fun x hx _ => by show s.nb ≤ x.mx; omega) (fun y hy => by have h8 := r8 y hy; obtain ⟨k, k1, k2⟩ := mem_ix r2 r3 hy; have := (List.getElem?_eq_some_iff.1 k2).1; refine ⟨by simp only [nm]; omega, by simp only [nm]; omega, fun x hx => by simp only [nm] at hx; show s.nb ≤ x.mx; omega, fun z hz hne m h1 h2 h3 => ?_⟩; have := r8 z hz; simp only [nm] at h1 h2 h3; omega) (Adv.refl _ _ _) hD hN
        · have hi := (Array.getElem?_eq_some_iff.1 ho).1
          have hm : (i, l[i]'(by omega)) ∈ withIx l := by
            unfold withIx
            refine List.mem_iff_getElem?.2 ⟨i, ?_⟩
            rw [List.getElem?_zip_eq_some]
            exact ⟨by rw [List.getElem?_range' (by omega)]; simp, List.getElem?_eq_getElem _⟩
          have h1 := List.all_eq_true.1 (List.all_eq_true.1 hcl _ hm) j hj
          obtain ⟨k, hk, hkj⟩ := List.any_eq_true.1 h1
          rw [hpo i o ho] at hk
          unfold predsOf at hk
          obtain ⟨e, he, hk⟩ := List.mem_filterMap.1 hk
          split at hk
          · rename_i hb
            injection hk with hk
            refine ⟨e, Array.mem_toList_iff.1 he, hb, ?_⟩
            rw [hk]
            simpa using hkj
          · cases hk
        · have hi := (Array.getElem?_eq_some_iff.1 ho).1
          have hm : (i, l[i]'(by omega)) ∈ withIx l := by
            unfold withIx
            refine List.mem_iff_getElem?.2 ⟨i, ?_⟩
            rw [List.getElem?_zip_eq_some]
            exact ⟨by rw [List.getElem?_range' (by omega)]; simp, List.getElem?_eq_getElem _⟩
          have h1 := List.all_eq_true.1 hback _ hm
          simp only [hpo i o ho] at h1
          have h2 := List.all_eq_true.1 h1 e.on (by unfold predsOf; exact List.mem_filterMap.2 ⟨e, Array.mem_toList_iff.2 he, by simp [hb]⟩)
          simpa using h2
        · rw [r2, hsz] at *
          simp [hi]
        · rw [r2, ← hsz]
          have := (Array.getElem?_eq_some_iff.1 ho).1
          simp [this]
      · cases hc
    · cases hc
  all_goals ((repeat' (split at hc)) <;> first | (cases hc; done) | (simp only [Option.map_eq_some_iff, reduceCtorEq, and_false, exists_false] at hc; done))

theorem Wm_draw (hE : SoundAll P E) (hmix : P.follows .mixedOrders = true) {mos : List MO} {pr : List (List Nat)} (cl : List (List Nat)) (ks : List Nat) (hok : drawOk N mos pr cl = true) (h : Holds (evOps E s.nb mos 0 s.tl s.hl []) fun x => dynB (prOf cl) x.2.2 = true ∧ Q .normal ⟨keepL ks x.1, x.2.1, s.nb + 8 * mos.length⟩) : Wm P w0 S N D (.draw mos pr) s Q := fun code hc a w hs =>
  wp_mono (Wm_draw0 (Q := fun e s' => Q e ⟨keepL ks s'.tl, s'.hl, s'.nb⟩) hE hmix cl hok h code hc a w hs) fun _ a w ⟨s', hs', hq⟩ => ⟨_, hs'.keep ks, hq⟩

end
end Go.W
