/- Code that uses maps: its walk. Code that uses maps: each operation's rule. -/
import Derived.Test.YtfkdcpgphindiaaWMc
set_option linter.unusedSimpArgs false
set_option linter.unusedVariables false
namespace Go.W

def MOp.asMp : MOp → Option MapOp
  | .mp o => some o
  | _ => none

/-- A region's operations, one behind the other, maps among what they touch. -/
def ecM (E : FuncId → Option Spec) (nb : Nat) (K : TL → HL → Ms → Prop) : List MO → Nat → TL → HL → Ms → Prop
  | [], _, tl, hl, ms => K tl hl ms
  | mo :: r, i, tl, hl, ms => match mo.g with
    | some _ => False
    | none => match mo.op.asMp with
      | some o => mapStep (lk tl) ms o fun v ms' => ecM E nb K r (i + 1) (putL tl mo.dst v) hl ms'
      | none => match stepN E (lk tl) (hk hl) (nb + 8 * i) mo.op with
        | some q => ecM E nb K r (i + 1) (putL tl mo.dst q.v) (updH hl q.hs) ms
        | none => False

section
variable (E : FuncId → Option Spec) (nb : Nat) (K : TL → HL → Ms → Prop) (r : List MO) (i : Nat) (tl : TL) (hl : HL) (ms : Ms) (dst : Option Nat)
def stM (o : Option Res) : Prop :=
  match o with
  | some q => ecM E nb K r (i + 1) (putL tl dst q.v) (updH hl q.hs) ms
  | none => False
theorem stM_some (v : AV) (hs : List (Nat × NObj)) (rd : List Nat) : stM E nb K r i tl hl ms dst (some ⟨v, hs, rd⟩) = ecM E nb K r (i + 1) (putL tl dst v) (updH hl hs) ms := by simp only [stM]
theorem stM_none : stM E nb K r i tl hl ms dst none = False := by simp only [stM]
theorem stM_ite (c : Prop) [Decidable c] (x y : Option Res) : stM E nb K r i tl hl ms dst (if c then x else y) = ((c → stM E nb K r i tl hl ms dst x) ∧ (¬ c → stM E nb K r i tl hl ms dst y)) := by
  by_cases hc : c
  · simp [hc]
  · simp [hc]
def ctn (v : AV) (ms' : Ms) : Prop := ecM E nb K r (i + 1) (putL tl dst v) hl ms'
theorem ctn_app (v : AV) (ms' : Ms) : ctn E nb K r i tl hl dst v ms' = ecM E nb K r (i + 1) (putL tl dst v) hl ms' := by simp only [ctn]
theorem ecM_nil : ecM E nb K [] i tl hl ms = K tl hl ms := by simp only [ecM]
theorem ecM_mp (o : MapOp) : ecM E nb K (MO.mk dst (.mp o) none :: r) i tl hl ms = mapStep (lk tl) ms o (ctn E nb K r i tl hl dst) := by
  simp only [ecM, MOp.asMp]; rfl
theorem ecM_op (op : MOp) (h : op.asMp = none) : ecM E nb K (MO.mk dst op none :: r) i tl hl ms = stM E nb K r i tl hl ms dst (stepN E (lk tl) (hk hl) (nb + 8 * i) op) := by
  simp only [ecM, h, stM]
end
attribute [simp] ecM_nil ecM_mp ecM_op stM_some stM_none stM_ite ctn_app MOp.asMp

/-- A frame, a world, and maps, as a state tells them. -/
def SatM (w0 : World) (S : Sc) (N : Nat) (D : List Deferred) (s : St) (ms : Ms) (a : Act) (w : World) : Prop :=
  ∃ w1 S1, Upon w0 S w1 S1 ∧ SatS w1 S1 N D s a w ∧ MsOk w0 w1 S1 ms

section
variable (P : Program) (w0 : World) (S : Sc) (N : Nat) (D : List Deferred)
def Wx (c : MCode) (s : St) (ms : Ms) (Q : Exit → St → Ms → Prop) : Prop := ∀ code, rC P code = some c → ∀ a w, SatM w0 S N D s ms a w → code.wp P (fun e a' w' => ∃ s' ms', SatM w0 S N D s' ms' a' w' ∧ Q e s' ms') a w

def thenX (b : MCode) (Q : Exit → St → Ms → Prop) : Exit → St → Ms → Prop
  | .normal, s, ms => Wx P w0 S N D b s ms Q
  | e, s, ms => Q e s ms
def blockX (id : Nat) (Q : Exit → St → Ms → Prop) : Exit → St → Ms → Prop
  | .exit j, s, ms => if j = id then Q .normal s ms else Q (.exit j) s ms
  | e, s, ms => Q e s ms
def loopX (m : Nat) {α : Type} (I : α → St) (M : α → Ms) (R : α → Prop) (μ : α → Nat) (x : α) (Q : Exit → St → Ms → Prop) : Exit → St → Ms → Prop
  | .normal, s, ms => ∃ y, R y ∧ μ y < μ x ∧ Imp m s (I y) ∧ ms = M y
  | e, s, ms => Q e s ms
end

section
variable {P : Program} {E : FuncId → Option Spec} {w0 : World} {S : Sc} {N : Nat} {D : List Deferred} {s : St} {ms : Ms} {Q : Exit → St → Ms → Prop}

theorem Imp.satM {m : Nat} {s s' : St} (h : Imp m s s') (hm : S.m = m) {a : Act} {w : World} (hs : SatM w0 S N D s ms a w) : SatM w0 S N D s' ms a w := by
  obtain ⟨w1, S1, h1, h2, h3⟩ := hs
  exact ⟨w1, S1, h1, h _ _ _ _ _ _ (h1.m.trans hm) h2, h3⟩

theorem Wx_mono {c : MCode} {Q' : Exit → St → Ms → Prop} (h : Wx P w0 S N D c s ms Q) (hq : ∀ e s ms, Q e s ms → Q' e s ms) : Wx P w0 S N D c s ms Q' :=
  fun code hc a w hs => wp_mono (h code hc a w hs) fun _ _ _ ⟨s', ms', h1, h2⟩ => ⟨s', ms', h1, hq _ _ _ h2⟩
theorem Wx_imp {c : MCode} {s' : St} (h : Imp S.m s s') (hw : Wx P w0 S N D c s' ms Q) : Wx P w0 S N D c s ms Q := fun code hc a w hs => hw code hc a w (h.satM rfl hs)

theorem Wx_skip (h : Q .normal s ms) : Wx P w0 S N D .skip s ms Q := fun code hc a w hs => by
  cases code <;> simp only [rC, reduceCtorEq] at hc
  case skip => exact wp_skip ⟨s, ms, hs, h⟩
  all_goals ((repeat' (split at hc)) <;> first | (cases hc; done) | (simp only [Option.map_eq_some_iff, reduceCtorEq, and_false, exists_false] at hc; done))

theorem Wx_ret (h : Q .ret s ms) : Wx P w0 S N D .ret s ms Q := fun code hc a w hs => by
  cases code <;> simp only [rC, reduceCtorEq] at hc
  case ret => exact wp_ret ⟨s, ms, hs, h⟩
  all_goals ((repeat' (split at hc)) <;> first | (cases hc; done) | (simp only [Option.map_eq_some_iff, reduceCtorEq, and_false, exists_false] at hc; done))

theorem Wx_exit {id : Nat} (h : Q (.exit id) s ms) : Wx P w0 S N D (.exit id) s ms Q := fun code hc a w hs => by
  cases code <;> simp only [rC, reduceCtorEq, Option.some.injEq] at hc
  case exit j => injection hc with hc; subst hc; exact wp_exit ⟨s, ms, hs, h⟩
  all_goals ((repeat' (split at hc)) <;> first | (cases hc; done) | (simp only [Option.map_eq_some_iff, reduceCtorEq, and_false, exists_false] at hc; done))

theorem Wx_seq {x y : MCode} (h : Wx P w0 S N D x s ms (thenX P w0 S N D y Q)) : Wx P w0 S N D (.seq x y) s ms Q := fun code hc a w hs => by
  cases code <;> simp only [rC, reduceCtorEq, Option.some.injEq] at hc
  case seq c d =>
    split at hc
    · rename_i x' y' h1 h2
      injection hc with hc
      injection hc with e1 e2
      subst e1 e2
      refine wp_seq (wp_mono (h c h1 a w hs) fun e a' w' ⟨s', ms', q1, q2⟩ => ?_)
      cases e with
      | normal => exact q2 d h2 a' w' q1
      | _ => exact ⟨s', ms', q1, q2⟩
    · cases hc
  all_goals ((repeat' (split at hc)) <;> first | (cases hc; done) | (simp only [Option.map_eq_some_iff, reduceCtorEq, and_false, exists_false] at hc; done))

theorem Wx_block {id : Nat} {x : MCode} (h : Wx P w0 S N D x s ms (blockX id Q)) : Wx P w0 S N D (.block id x) s ms Q := fun code hc a w hs => by
  cases code <;> simp only [rC, reduceCtorEq, Option.some.injEq] at hc
  case block j c =>
    cases hq : rC P c with
    | none => simp [hq] at hc
    | some x' =>
      simp only [hq, Option.map_some, Option.some.injEq, MCode.block.injEq] at hc
      obtain ⟨e1, e2⟩ := hc
      subst e1 e2
      refine wp_block (wp_mono (h c hq a w hs) fun e a' w' ⟨s', ms', q1, q2⟩ => ?_)
      cases e with
      | exit k =>
        simp only [blockX] at q2
        simp only [Exit.inBlock]
        split at q2
        · rename_i e; rw [if_pos e]; exact ⟨s', ms', q1, q2⟩
        · rename_i e; rw [if_neg e]; exact ⟨s', ms', q1, q2⟩
      | _ => exact ⟨s', ms', q1, q2⟩
  all_goals ((repeat' (split at hc)) <;> first | (cases hc; done) | (simp only [Option.map_eq_some_iff, reduceCtorEq, and_false, exists_false] at hc; done))

theorem Wx_cond {c : X} {x y : MCode} {b : Bool} (hb : c.ev (lk s.tl) = .bool b) (ht : b = true → Wx P w0 S N D x s ms Q) (hf : b = false → Wx P w0 S N D y s ms Q) : Wx P w0 S N D (.cond c x y) s ms Q := fun code hc a w hs => by
  cases code <;> simp only [rC, reduceCtorEq, Option.some.injEq] at hc
  case cond o c d =>
    split at hc
    · rename_i x' y' h1 h2
      injection hc with hc
      injection hc with e0 e1 e2
      subst e0 e1 e2
      obtain ⟨w1, S1, _, ⟨⟨Es, hsat⟩, _, _⟩, _⟩ := id hs
      obtain ⟨ρ, hρ⟩ := hsat.ne
      have := hsat.ev hρ o
      rw [hb, Rep] at this
      refine wp_cond_split this (fun e => ht e c h1 a w hs) (fun e => hf e d h2 a w hs)
    · cases hc
  all_goals ((repeat' (split at hc)) <;> first | (cases hc; done) | (simp only [Option.map_eq_some_iff, reduceCtorEq, and_false, exists_false] at hc; done))

theorem Wx_loop {c : MCode} {α : Type} (I : α → St) (M : α → Ms) (R : α → Prop) (μ : α → Nat) (x0 : α) (h0 : R x0) (hle : Imp S.m s (I x0)) (hms : ms = M x0) (hr : ∀ x, R x → Wx P w0 S N D c (I x) (M x) (loopX S.m I M R μ x Q)) : Wx P w0 S N D (.loop c) s ms Q := fun code hc a w hs => by
  cases code <;> simp only [rC, reduceCtorEq, Option.some.injEq] at hc
  case loop cc =>
    cases hq : rC P cc with
    | none => simp [hq] at hc
    | some c' =>
      simp only [hq, Option.map_some, Option.some.injEq, MCode.loop.injEq] at hc
      subst hc
      intro b k cs
      have key : ∀ n x, μ x = n → R x → ∀ a w, SatM w0 S N D (I x) (M x) a w →
          ∃ e a' w', (∃ s' ms', SatM w0 S N D s' ms' a' w' ∧ Q e s' ms') ∧ Arrives P (lone (b.at a (.code cc :: .inLoop cc :: k)) cs w) b k cs e a' w' := by
        intro n
        induction n using Nat.strongRecOn with
        | _ n ih =>
          intro x hn hR a w hsat
          obtain ⟨e, a₁, w₁, ⟨s1, m1, hs1, hq1⟩, harr⟩ := hr x hR cc hq a w hsat b (.inLoop cc :: k) cs
          cases e with
          | normal =>
            obtain ⟨y, hy, hlt, hpl, hm⟩ := hq1
            subst hm
            obtain ⟨e₂, a₂, w₂, hq₂, harr₂⟩ := ih (μ y) (hn ▸ hlt) y rfl hy a₁ w₁ (hpl.satM rfl hs1)
            exact ⟨e₂, a₂, w₂, hq₂, .of_steps (Steps.trans harr (.one step_inLoop)) harr₂⟩
          | exit id => exact ⟨_, a₁, w₁, ⟨s1, m1, hs1, hq1⟩, .pass (x := .inLoop cc) rfl (fun _ _ => .inl (by simp)) harr⟩
          | goto l => exact ⟨_, a₁, w₁, ⟨s1, m1, hs1, hq1⟩, .pass (x := .inLoop cc) rfl (fun _ _ => .inl (by simp)) harr⟩
          | ret => exact ⟨_, a₁, w₁, ⟨s1, m1, hs1, hq1⟩, .pass (x := .inLoop cc) rfl (fun _ _ => .inl (by simp)) harr⟩
          | panic ch => exact ⟨_, a₁, w₁, ⟨s1, m1, hs1, hq1⟩, .pass (x := .inLoop cc) rfl (fun _ _ => .inl (by simp)) harr⟩
          | outgrown => exact ⟨_, a₁, w₁, ⟨s1, m1, hs1, hq1⟩, .pass (x := .inLoop cc) rfl (fun _ _ => .inl (by simp)) harr⟩
      subst hms
      obtain ⟨e, a', w', hq, harr⟩ := key _ x0 rfl h0 a w (hle.satM rfl hs)
      exact ⟨e, a', w', hq, .of_steps (.one step_loop) harr⟩
  all_goals ((repeat' (split at hc)) <;> first | (cases hc; done) | (simp only [Option.map_eq_some_iff, reduceCtorEq, and_false, exists_false] at hc; done))

theorem thenX_normal {b : MCode} (h : Wx P w0 S N D b s ms Q) : thenX P w0 S N D b Q .normal s ms := h
theorem thenX_ret {b : MCode} (h : Q .ret s ms) : thenX P w0 S N D b Q .ret s ms := h
theorem thenX_exit {b : MCode} {id : Nat} (h : Q (.exit id) s ms) : thenX P w0 S N D b Q (.exit id) s ms := h
theorem blockX_normal {id : Nat} (h : Q .normal s ms) : blockX id Q .normal s ms := h
theorem blockX_ret {id : Nat} (h : Q .ret s ms) : blockX id Q .ret s ms := h
theorem blockX_here {id : Nat} (h : Q .normal s ms) : blockX id Q (.exit id) s ms := by simp only [blockX, if_true]; exact h
theorem blockX_exit {id j : Nat} (hne : j ≠ id) (h : Q (.exit j) s ms) : blockX id Q (.exit j) s ms := by simp only [blockX]; rw [if_neg hne]; exact h
theorem loopX_ret {m : Nat} {α : Type} {I : α → St} {M : α → Ms} {R : α → Prop} {μ : α → Nat} {x : α} (h : Q .ret s ms) : loopX m I M R μ x Q .ret s ms := h
theorem loopX_exit {m : Nat} {α : Type} {I : α → St} {M : α → Ms} {R : α → Prop} {μ : α → Nat} {x : α} {id : Nat} (h : Q (.exit id) s ms) : loopX m I M R μ x Q (.exit id) s ms := h
instance {x y : MCode} : ZR (Wx P w0 S N D (.seq x y) s ms Q) (Wx P w0 S N D x s ms (thenX P w0 S N D y Q)) := ⟨Wx_seq⟩
instance : ZR (Wx P w0 S N D .skip s ms Q) (Q .normal s ms) := ⟨Wx_skip⟩
instance : ZR (Wx P w0 S N D .ret s ms Q) (Q .ret s ms) := ⟨Wx_ret⟩
instance {id : Nat} {x : MCode} : ZR (Wx P w0 S N D (.block id x) s ms Q) (Wx P w0 S N D x s ms (blockX id Q)) := ⟨Wx_block⟩
instance {id : Nat} : ZR (Wx P w0 S N D (.exit id) s ms Q) (Q (.exit id) s ms) := ⟨Wx_exit⟩
instance {b : MCode} : ZR (thenX P w0 S N D b Q .normal s ms) (Wx P w0 S N D b s ms Q) := ⟨thenX_normal⟩
instance {b : MCode} : ZR (thenX P w0 S N D b Q .ret s ms) (Q .ret s ms) := ⟨thenX_ret⟩
instance {b : MCode} {id : Nat} : ZR (thenX P w0 S N D b Q (.exit id) s ms) (Q (.exit id) s ms) := ⟨thenX_exit⟩
instance {id : Nat} : ZR (blockX id Q .normal s ms) (Q .normal s ms) := ⟨blockX_normal⟩
instance {id : Nat} : ZR (blockX id Q .ret s ms) (Q .ret s ms) := ⟨blockX_ret⟩
instance {id : Nat} : ZR (blockX id Q (.exit id) s ms) (Q .normal s ms) := ⟨blockX_here⟩
instance {m : Nat} {α : Type} {I : α → St} {M : α → Ms} {R : α → Prop} {μ : α → Nat} {x : α} : ZR (loopX m I M R μ x Q .ret s ms) (Q .ret s ms) := ⟨loopX_ret⟩
instance {m : Nat} {α : Type} {I : α → St} {M : α → Ms} {R : α → Prop} {μ : α → Nat} {x : α} {id : Nat} : ZR (loopX m I M R μ x Q (.exit id) s ms) (Q (.exit id) s ms) := ⟨loopX_exit⟩

theorem seqM (hE : SoundAll P E) {ops : Array Oper} {nb : Nat} {K : TL → HL → Ms → Prop} {Q : Exit → Act → World → Prop} {m : Nat} : ∀ (mos : List MO) (i : Nat) (w1 : World) (S1 : Sc) (Es : Env → Prop) (U : Nm → Prop) (tl : TL) (hl : HL) (ms : Ms) (a : Act) (w : World),
    (∀ tl hl ms w1 S1 Es U a w, K tl hl ms → Upon w0 S w1 S1 → Sat w1 S1 Es U (lk tl) (HF (hk hl)) a w → MsOk w0 w1 S1 ms → (∀ x : Nm, nb + 8 * (i + mos.length) ≤ x.mx → U x) → a.defers = D → a.tmps.size = N → wpOps P ops Q (List.range' (i + mos.length) m) a w) →
    ecM E nb K mos i tl hl ms → (∀ k mo, mos[k]? = some mo → ∃ o, ops[i + k]? = some o ∧ rO P ops o = some mo ∧ ∀ d, mo.dst = some d → d < N) → Upon w0 S w1 S1 → Sat w1 S1 Es U (lk tl) (HF (hk hl)) a w → MsOk w0 w1 S1 ms → (∀ x : Nm, nb + 8 * i ≤ x.mx → U x) → a.defers = D → a.tmps.size = N → wpOps P ops Q (List.range' i (mos.length + m)) a w
  | [], i, w1, S1, Es, U, tl, hl, ms, a, w, hK, h, _, hu, hsat, hms, hU, hD, hN => by
    simp only [ecM] at h
    have := hK tl hl ms w1 S1 Es U a w h hu hsat hms (fun x hx => hU x (by simpa using hx)) hD hN
    simpa using this
  | mo :: r, i, w1, S1, Es, U, tl, hl, ms, a, w, hK, h, hops, hu, hsat, hms, hU, hD, hN => by
    obtain ⟨o, ho, hro, hdst⟩ := hops 0 mo rfl
    rw [Nat.add_zero] at ho
    rw [show (mo :: r).length + m = (r.length + m) + 1 from by simp only [List.length_cons]; omega, List.range'_succ, wpOps_cons]
    have rest : ∀ (tl' : TL) (hl' : HL) (ms' : Ms) (w1' : World) (S1' : Sc) (Es' : Env → Prop) (U' : Nm → Prop) (a' : Act) (w' : World), ecM E nb K r (i + 1) tl' hl' ms' → Upon w0 S w1' S1' → Sat w1' S1' Es' U' (lk tl') (HF (hk hl')) a' w' → MsOk w0 w1' S1' ms' → (∀ x : Nm, nb + 8 * (i + 1) ≤ x.mx → U' x) → a'.defers = D → a'.tmps.size = N → wpOps P ops Q (List.range' (i + 1) (r.length + m)) a' w' := by
      intro tl' hl' ms' w1' S1' Es' U' a' w' h2 k1 k2 k3 k4 k5 k6
      refine seqM hE r (i + 1) w1' S1' Es' U' tl' hl' ms' a' w' (fun tl hl ms w1 S1 Es U a w q1 q2 q3 q4 q5 q6 q7 => ?_) h2 (fun k mo' hk => ?_) k1 k2 k3 k4 k5 k6
      · have := hK tl hl ms w1 S1 Es U a w q1 q2 q3 q4 (fun x hx => q5 x (by simp only [List.length_cons] at hx; omega)) q6 q7
        rw [show i + (mo :: r).length = i + 1 + r.length from by simp only [List.length_cons]; omega] at this
        exact this
      · obtain ⟨o', g1, g2⟩ := hops (k + 1) mo' (by simpa using hk)
        exact ⟨o', by rw [show i + 1 + k = i + (k + 1) from by omega]; exact g1, g2⟩
    simp only [ecM] at h
    cases hg : mo.g with
    | some sw => simp only [hg] at h
    | none =>
      simp only [hg] at h
      split at h
      · rename_i q hq
        have hop : mo.op = .mp q := by
          cases hmo : mo.op <;> rw [hmo] at hq <;> simp only [MOp.asMp, reduceCtorEq, Option.some.injEq] at hq
          rw [hq]
        -- an operation on a map
        have hro' := hro
        unfold rO at hro'
        split at hro'
        · rename_i mm hmm
          have hguard : o.guard = none ∧ mo.op = mm ∧ mo.dst = o.dst := by
            cases hgo : o.guard with
            | none => simp only [hgo, Option.some.injEq] at hro'; rw [← hro']; exact ⟨rfl, rfl, rfl⟩
            | some jw =>
              obtain ⟨j, want⟩ := jw
              simp only [hgo] at hro'
              split at hro'
              · injection hro' with hro'; rw [← hro'] at hg; cases hg
              · cases hro'
          obtain ⟨g1, g2, g3⟩ := hguard
          rw [← g2, hop] at hmm
          obtain ⟨v, ms', w', w1', S1', nx, e1, e2, e3, e4, e5, e6⟩ := map_ok hsat hu hms hmm h
          have putsize : ∀ (d : Option Tmp) (v : Value), (a.put d v).tmps.size = a.tmps.size ∧ (a.put d v).defers = a.defers := fun d v => by cases d <;> simp [Act.put]
          unfold wpOp
          simp only [ho]
          have hw : Region.wanted o (yielded ops a.tmps) = true := by simp [Region.wanted, g1]
          rw [if_pos hw]
          refine .inl ?_
          unfold Oper.wp
          rw [e1]
          have fin : ∀ u : Value, (v ≠ .bot → ∀ ρ, Es ρ → Rep ρ v u) → wpOps P ops Q (List.range' (i + 1) (r.length + m)) (a.put o.dst u) w' := fun u hv => by
            obtain ⟨ρ0, h0⟩ := e4.ne
            have := e4.next (mo := mo) (r := (⟨v, [], []⟩ : Res)) (F := fun _ => False) (fun _ h => h.elim) (fun _ _ h => h) (fun d hd => by rw [hN]; exact hdst d hd) (v := u) (g := ρ0) (fun hb ρ hρ _ => hv hb ρ hρ) (fun ρ hρ _ => e4.hp ρ hρ)
            rw [← putL_eq, g3] at this
            rw [g3] at e6
            exact rest (putL tl o.dst v) hl ms' w1' S1' _ (fun x => U x ∧ ¬ False) _ _ e6 e3 this e5 (fun x hx => ⟨hU x (by omega), fun h => h⟩) ((putsize _ _).2.trans hD) ((putsize _ _).1.trans hN)
          rcases e2 with ⟨u, rfl, hv⟩ | ⟨rfl, hv⟩
          · rw [Oper.upon_value]; exact fin u fun _ => hv
          · rw [Oper.upon_skip]; exact fin undef fun hb => absurd hv hb
        · cases hro'
      · split at h
        · rename_i q hq
          refine op_ok hE hsat ho hro (r := q) (nb := nm nb i) (by simp only [stepG, hg]; exact hq) (fun x hx => hU x (by simp only [nm] at hx; omega)) (fun d hd => by rw [hN]; exact hdst d hd) fun Es' a' w' hsat' hd' hn' => ?_
          rw [← updH_eq, ← putL_eq] at hsat'
          exact rest _ _ ms w1 S1 Es' _ a' w' h hu hsat' hms (fun x hx => ⟨hU x (by omega), fun hb => by simp only [nm] at hb; omega⟩) (hd'.trans hD) (hn'.trans hN)
        · exact h.elim

/-- A REGION, MAPS AMONG WHAT IT TOUCHES. -/
theorem zM (hE : SoundAll P E) {mos : List MO} [kr : KR N mos] (h : ∀ K : TL → HL → Ms → Prop, (∀ tl hl ms, Q .normal ⟨tl, hl, s.nb + 8 * mos.length⟩ ms → K tl hl ms) → ecM E s.nb (fun tl hl ms => K (keepL kr.ks tl) (prune [] hl) ms) mos 0 s.tl s.hl ms) : Wx P w0 S N D (.reg mos) s ms Q := fun code hc a w hs => by
  cases code <;> simp only [rC, reduceCtorEq, Option.some.injEq] at hc
  case region id ops d =>
    split at hc
    · rename_i l hl
      split at hc
      · cases hc
      · rename_i hd
        injection hc with hc
        injection hc with hc
        subst hc
        have hd' : d = false := by simpa using hd
        subst hd'
        obtain ⟨g1, g2⟩ := rOs_get hl
        obtain ⟨w1, S1, hu, ⟨⟨Es, hsat⟩, hN, hD⟩, hms⟩ := hs
        have hsz : ops.size = l.length := by rw [← Array.length_toList, g1]
        refine wp_region ?_
        have hx := h (fun tl hl ms => Q .normal ⟨tl, hl, s.nb + 8 * l.length⟩ ms) fun _ _ _ h => h
        have := seqM (P := P) (E := E) (w0 := w0) (S := S) (N := N) (D := D) (ops := ops) (nb := s.nb) hE (Q := fun e a' w' => ∃ s' ms', SatM w0 S N D s' ms' a' w' ∧ Q e s' ms') (m := 0) l 0 w1 S1 Es _ s.tl s.hl ms a w
          (fun tl hl ms w1 S1 Es U a w k1 k2 k3 k4 k5 k6 k7 => by
            have e : hk (prune [] hl) = hk hl := funext fun x => hk_prune _ _ _ (by simp)
            have k3' : Sat w1 S1 Es U (lk tl) (HF (hk (prune [] hl))) a w := by rw [e]; exact k3
            exact ⟨_, ms, ⟨w1, S1, k2, (satS_of (n := l.length) k3' (fun x hx => k5 x (by omega)) k6 k7).keep kr.ks, k4⟩, k1⟩)
          hx (fun k mo hk => by
            obtain ⟨o, o1, o2⟩ := g2 k _ hk
            refine ⟨o, by rw [Nat.zero_add, ← Array.getElem?_toList]; exact o1, o2, fun d hd => ?_⟩
            have := List.all_eq_true.1 kr.ok _ (List.mem_of_getElem? hk)
            rw [hd] at this
            simpa using this) hu hsat hms (fun x hx => by simpa using hx) hD hN
        rw [List.range_eq_range', hsz]
        simpa using this
    · cases hc
  all_goals ((repeat' (split at hc)) <;> first | (cases hc; done) | (simp only [Option.map_eq_some_iff, reduceCtorEq, and_false, exists_false] at hc; done))

/-- No object that came is told of any more. -/
def NoV (s : St) : Prop := ∀ x L, ¬ Viewed L (HF (hk s.hl) x)

theorem noV_of (h : s.hl.all (fun p => !p.2.ro) = true) : NoV s := by
  have h0 : ∀ n, (hk s.hl n).ro = false := fun n => by
    by_cases e : hk s.hl n = .free
    · rw [e]; rfl
    · have := List.all_eq_true.1 h _ (hk_mem e)
      simpa using this
  have h1 : ∀ x : Nm, (getP (hk s.hl) x).ro = false := fun x => by
    induction x with
    | top n => exact h0 n
    | sub p t j f ih =>
      rw [getP]
      unfold kid
      split
      · split
        · unfold kidC
          split
          · rw [ih]
            rename_i v _
            cases v <;> rfl
          · rfl
        · rfl
      · rfl
  intro x L hv
  have h2 := h1 x
  unfold HF at hv
  cases hg : getP (hk s.hl) x with
  | view t sz els => rw [hg] at h2; cases h2
  | free => rw [hg] at hv; exact hv
  | cells t c => rw [hg] at hv; exact hv
  | arr t sz els => rw [hg] at hv; exact hv

/-- A WALK WITH MAPS IS A WALK, if in the end nothing is told of what came. -/
theorem Wm_of_Wx {c : MCode} {s : St} {Q : Exit → St → Prop} (h : Wx P w0 S N D c s [] fun e s' _ => ∃ s'', Imp S.m s' s'' ∧ NoV s'' ∧ Q e s'') : Wm P w0 S N D c s Q := fun code hc a w hs => by
  refine wp_mono (h code hc a w ⟨w0, S, Upon.refl w0 S, hs, ⟨List.nodup_nil, fun p hp => by simp at hp⟩⟩) fun e a' w' ⟨s', ms', h1, s'', h2, h3, h4⟩ => ⟨s'', ?_, h4⟩
  obtain ⟨w1, S1, hu, ⟨⟨Es, hsat⟩, hN, hD⟩, _⟩ := h2.satM rfl h1
  refine ⟨⟨Es, hsat.ne, hsat.cl, hsat.fr, hsat.pin, hsat.tm, fun ρ hρ => ?_⟩, hN, hD⟩
  have k := hsat.hp ρ hρ
  have own : ∀ b, w1.heap.size ≤ b ∨ S1.own b → w0.heap.size ≤ b ∨ S.own b := fun b hb => by
    rcases hb with hb | hb
    · left; have := hu.size; omega
    · exact hu.own b hb
  refine ⟨k.os.trans hu.os, k.tape.trans hu.tape, k.output.trans hu.output, Nat.le_trans hu.size k.size, fun b hb hns => ?_, k.obj, fun x hx => ⟨(k.own x hx).1, own _ (k.own x hx).2⟩, k.dist, fun x hx => absurd hx (h3 x _), fun x hx => by rw [k.an x (by rw [hu.m]; exact hx), hu.A]⟩
  have hs1 : ¬ S1.own b := fun h1 => by
    rcases hu.own b h1 with h2 | h2
    · omega
    · exact hns h2
  rw [k.frame b (Nat.lt_of_lt_of_le hb hu.size) hs1]
  exact hu.frame b hb hns
end
end Go.W
namespace Go.W
section
variable (E : FuncId → Option Spec) (nb : Nat) (K : TL → HL → Ms → Prop) (r : List MO) (i : Nat) (tl : TL) (hl : HL) (ms : Ms) (dst : Option Nat)
@[simp] theorem em_mv (x : X) : ecM E nb K (MO.mk dst (.mv x) none :: r) i tl hl ms = stM E nb K r i tl hl ms dst (stepN E (lk tl) (hk hl) (nb + 8 * i) (.mv x)) := ecM_op E nb K r i tl hl ms dst _ rfl
@[simp] theorem em_alloc (z : List AV) : ecM E nb K (MO.mk dst (.alloc z) none :: r) i tl hl ms = stM E nb K r i tl hl ms dst (stepN E (lk tl) (hk hl) (nb + 8 * i) (.alloc z)) := ecM_op E nb K r i tl hl ms dst _ rfl
@[simp] theorem em_box (x : X) : ecM E nb K (MO.mk dst (.box x) none :: r) i tl hl ms = stM E nb K r i tl hl ms dst (stepN E (lk tl) (hk hl) (nb + 8 * i) (.box x)) := ecM_op E nb K r i tl hl ms dst _ rfl
@[simp] theorem em_load (ag : Bool) (n : Nat) (x : X) : ecM E nb K (MO.mk dst (.load ag n x) none :: r) i tl hl ms = stM E nb K r i tl hl ms dst (stepN E (lk tl) (hk hl) (nb + 8 * i) (.load ag n x)) := ecM_op E nb K r i tl hl ms dst _ rfl
@[simp] theorem em_store (n : Nat) (x y : X) : ecM E nb K (MO.mk dst (.store n x y) none :: r) i tl hl ms = stM E nb K r i tl hl ms dst (stepN E (lk tl) (hk hl) (nb + 8 * i) (.store n x y)) := ecM_op E nb K r i tl hl ms dst _ rfl
@[simp] theorem em_bin (op : BinOp) (x y : X) : ecM E nb K (MO.mk dst (.bin op x y) none :: r) i tl hl ms = stM E nb K r i tl hl ms dst (stepN E (lk tl) (hk hl) (nb + 8 * i) (.bin op x y)) := ecM_op E nb K r i tl hl ms dst _ rfl
@[simp] theorem em_eq (ng : Bool) (k : EqK) (x y : X) : ecM E nb K (MO.mk dst (.eq ng k x y) none :: r) i tl hl ms = stM E nb K r i tl hl ms dst (stepN E (lk tl) (hk hl) (nb + 8 * i) (.eq ng k x y)) := ecM_op E nb K r i tl hl ms dst _ rfl
@[simp] theorem em_un (op : UnOp) (x : X) : ecM E nb K (MO.mk dst (.un op x) none :: r) i tl hl ms = stM E nb K r i tl hl ms dst (stepN E (lk tl) (hk hl) (nb + 8 * i) (.un op x)) := ecM_op E nb K r i tl hl ms dst _ rfl
@[simp] theorem em_faddr (off : Nat) (x : X) : ecM E nb K (MO.mk dst (.faddr off x) none :: r) i tl hl ms = stM E nb K r i tl hl ms dst (stepN E (lk tl) (hk hl) (nb + 8 * i) (.faddr off x)) := ecM_op E nb K r i tl hl ms dst _ rfl
@[simp] theorem em_fld (ag : Bool) (off n : Nat) (x : X) : ecM E nb K (MO.mk dst (.fld ag off n x) none :: r) i tl hl ms = stM E nb K r i tl hl ms dst (stepN E (lk tl) (hk hl) (nb + 8 * i) (.fld ag off n x)) := ecM_op E nb K r i tl hl ms dst _ rfl
@[simp] theorem em_iaddr (sz : Nat) (x j : X) : ecM E nb K (MO.mk dst (.iaddr sz x j) none :: r) i tl hl ms = stM E nb K r i tl hl ms dst (stepN E (lk tl) (hk hl) (nb + 8 * i) (.iaddr sz x j)) := ecM_op E nb K r i tl hl ms dst _ rfl
@[simp] theorem em_slc (sz : Nat) (x : X) (lo hi : Option X) : ecM E nb K (MO.mk dst (.slc sz x lo hi) none :: r) i tl hl ms = stM E nb K r i tl hl ms dst (stepN E (lk tl) (hk hl) (nb + 8 * i) (.slc sz x lo hi)) := ecM_op E nb K r i tl hl ms dst _ rfl
@[simp] theorem em_len (x : X) : ecM E nb K (MO.mk dst (.len x) none :: r) i tl hl ms = stM E nb K r i tl hl ms dst (stepN E (lk tl) (hk hl) (nb + 8 * i) (.len x)) := ecM_op E nb K r i tl hl ms dst _ rfl
@[simp] theorem em_app (sz bytes : Nat) (x y : X) : ecM E nb K (MO.mk dst (.app sz bytes x y) none :: r) i tl hl ms = stM E nb K r i tl hl ms dst (stepN E (lk tl) (hk hl) (nb + 8 * i) (.app sz bytes x y)) := ecM_op E nb K r i tl hl ms dst _ rfl
@[simp] theorem em_build (z : List AV) (ps : List (Nat × Nat × X)) : ecM E nb K (MO.mk dst (.build z ps) none :: r) i tl hl ms = stM E nb K r i tl hl ms dst (stepN E (lk tl) (hk hl) (nb + 8 * i) (.build z ps)) := ecM_op E nb K r i tl hl ms dst _ rfl
@[simp] theorem em_bsl (sz n : Nat) (z : List AV) (ps : List (Nat × Nat × X)) : ecM E nb K (MO.mk dst (.bsl sz n z ps) none :: r) i tl hl ms = stM E nb K r i tl hl ms dst (stepN E (lk tl) (hk hl) (nb + 8 * i) (.bsl sz n z ps)) := ecM_op E nb K r i tl hl ms dst _ rfl
@[simp] theorem em_ext (x : X) (j : Nat) : ecM E nb K (MO.mk dst (.ext x j) none :: r) i tl hl ms = stM E nb K r i tl hl ms dst (stepN E (lk tl) (hk hl) (nb + 8 * i) (.ext x j)) := ecM_op E nb K r i tl hl ms dst _ rfl
@[simp] theorem em_mkfn (f : FuncId) (cap : List X) : ecM E nb K (MO.mk dst (.mkfn f cap) none :: r) i tl hl ms = stM E nb K r i tl hl ms dst (stepN E (lk tl) (hk hl) (nb + 8 * i) (.mkfn f cap)) := ecM_op E nb K r i tl hl ms dst _ rfl
@[simp] theorem em_call (f : X) (args : List X) : ecM E nb K (MO.mk dst (.call f args) none :: r) i tl hl ms = stM E nb K r i tl hl ms dst (stepN E (lk tl) (hk hl) (nb + 8 * i) (.call f args)) := ecM_op E nb K r i tl hl ms dst _ rfl
end
end Go.W
