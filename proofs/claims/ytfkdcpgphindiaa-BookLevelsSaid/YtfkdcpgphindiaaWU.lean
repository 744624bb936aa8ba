/- Loops; a function's beginning and end. What comes with a call, as the callee has it. -/
import Derived.Test.YtfkdcpgphindiaaWS
set_option linter.unusedSimpArgs false
set_option linter.unusedVariables false
namespace Go.W

/-- A state holds wherever another one does. -/
def Imp (m : Nat) (s s' : St) : Prop := ∀ w0 S N D a w, S.m = m → SatS w0 S N D s a w → SatS w0 S N D s' a w

theorem Imp.refl (m : Nat) (s : St) : Imp m s s := fun _ _ _ _ _ _ _ h => h
theorem Imp.trans {m : Nat} {s t u : St} (h : Imp m s t) (h' : Imp m t u) : Imp m s u := fun w0 S N D a w hm hs => h' w0 S N D a w hm (h w0 S N D a w hm hs)
theorem Imp.le {m : Nat} {s s' : St} (pl : List (Nat × Option Nat)) (h : LeN m pl s s') : Imp m s s' := fun _ _ _ _ _ _ hm hs => hs.le (by rw [hm]; exact h)
theorem Imp.absorb {m : Nat} {s : St} (p : Nm) (j f k : Nat) {c : List AV} {v : AV} (hown : (getP (hk s.hl) p).own = true) (hc : elemN (getP (hk s.hl) p) j = some c) (hv : c[f]? = some v) (hn : namesObj v k (hk s.hl k)) (hr : p.root ≠ k) :
    Imp m s ⟨s.tl, updH s.hl (absorbG (hk s.hl) s.nb p j f k), s.nb + 1⟩ := fun _ _ _ _ _ _ _ hs => hs.absorb p j f k hown hc hv hn hr

section
variable {w0 : World} {S : Sc} {N : Nat} {D : List Deferred} {P : Program} {s : St} {Q : Exit → St → Prop}

theorem Wm_imp {c : MCode} {s' : St} (h : Imp S.m s s') (hw : Wm P w0 S N D c s' Q) : Wm P w0 S N D c s Q := fun code hc a w hs => hw code hc a w (h _ _ _ _ _ _ rfl hs)

/-- A LOOP: what holds at its head, told by some value that a measure makes smaller. -/
def loopK (m : Nat) {α : Type} (I : α → St) (R : α → Prop) (μ : α → Nat) (x : α) (Q : Exit → St → Prop) : Exit → St → Prop
  | .normal, s => ∃ y, R y ∧ μ y < μ x ∧ Imp m s (I y)
  | e, s => Q e s

theorem Wm_loop {c : MCode} {α : Type} (I : α → St) (R : α → Prop) (μ : α → Nat) (x0 : α) (h0 : R x0) (hle : Imp S.m s (I x0)) (hr : ∀ x, R x → Wm P w0 S N D c (I x) (loopK S.m I R μ x Q)) : Wm P w0 S N D (.loop c) s Q := fun code hc a w hs => by
  cases code <;> simp only [rC, reduceCtorEq, Option.some.injEq] at hc
  case loop cc =>
    cases hq : rC P cc with
    | none => simp [hq] at hc
    | some c' =>
      simp only [hq, Option.map_some, Option.some.injEq, MCode.loop.injEq] at hc
      subst hc
      intro b k cs
      have key : ∀ n x, μ x = n → R x → ∀ a w, SatS w0 S N D (I x) a w →
          ∃ e a' w', (∃ s', SatS w0 S N D s' a' w' ∧ Q e s') ∧ Arrives P (lone (b.at a (.code cc :: .inLoop cc :: k)) cs w) b k cs e a' w' := by
        intro n
        induction n using Nat.strongRecOn with
        | _ n ih =>
          intro x hn hR a w hsat
          obtain ⟨e, a₁, w₁, ⟨s1, hs1, hq1⟩, harr⟩ := hr x hR cc hq a w hsat b (.inLoop cc :: k) cs
          cases e with
          | normal =>
            obtain ⟨y, hy, hlt, hpl⟩ := hq1
            obtain ⟨e₂, a₂, w₂, hq₂, harr₂⟩ := ih (μ y) (hn ▸ hlt) y rfl hy a₁ w₁ (hpl _ _ _ _ _ _ rfl hs1)
            exact ⟨e₂, a₂, w₂, hq₂, .of_steps (Steps.trans harr (.one step_inLoop)) harr₂⟩
          | exit id => exact ⟨_, a₁, w₁, ⟨s1, hs1, hq1⟩, .pass (x := .inLoop cc) rfl (fun _ _ => .inl (by simp)) harr⟩
          | goto l => exact ⟨_, a₁, w₁, ⟨s1, hs1, hq1⟩, .pass (x := .inLoop cc) rfl (fun _ _ => .inl (by simp)) harr⟩
          | ret => exact ⟨_, a₁, w₁, ⟨s1, hs1, hq1⟩, .pass (x := .inLoop cc) rfl (fun _ _ => .inl (by simp)) harr⟩
          | panic ch => exact ⟨_, a₁, w₁, ⟨s1, hs1, hq1⟩, .pass (x := .inLoop cc) rfl (fun _ _ => .inl (by simp)) harr⟩
          | outgrown => exact ⟨_, a₁, w₁, ⟨s1, hs1, hq1⟩, .pass (x := .inLoop cc) rfl (fun _ _ => .inl (by simp)) harr⟩
      obtain ⟨e, a', w', hq, harr⟩ := key _ x0 rfl h0 a w (hle _ _ _ _ _ _ rfl hs)
      exact ⟨e, a', w', hq, .of_steps (.one step_loop) harr⟩
  all_goals ((repeat' (split at hc)) <;> first | (cases hc; done) | (simp only [Option.map_eq_some_iff, reduceCtorEq, and_false, exists_false] at hc; done))

end

/-- A result's place. -/
inductive RV where
  | t (n : Nat)
  | c (ag : Bool) (n a : Nat)

def rRV (P : Program) : ResultVar → Option RV
  | .tmp t => some (.t t)
  | .cell a t => match isAg P t, szOf P t with
    | some ag, some n => some (.c ag n a)
    | _, _ => none

def rRVs (P : Program) : List ResultVar → Option (List RV)
  | [] => some []
  | x :: r => match rRV P x, rRVs P r with
    | some y, some q => some (y :: q)
    | _, _ => none

def rdRV (s : St) : RV → Option AV
  | .t n => match lk s.tl n with
    | .bot => none
    | v => some v
  | .c ag n a => match lk s.tl a with
    | .ptr o i f => match elemN (getP (hk s.hl) o) i with
      | some c => if ag = true then (if f + n ≤ c.length then some (.agg (((flC o (getP (hk s.hl) o).tag i c).drop f).take n)) else none) else (c[f]?).map (flV o (getP (hk s.hl) o).tag i f)
      | none => none
    | _ => none

def rdAll (s : St) : List RV → Option (List AV)
  | [] => some []
  | x :: r => match rdRV s x, rdAll s r with
    | some y, some q => some (y :: q)
    | _, _ => none

def rdRes (s : St) : List RV → Option AV
  | [x] => rdRV s x
  | l => match rdAll s l with
    | some q => some (.tup q)
    | none => none

def retK (res : List RV) (K : AV → St → Prop) : Exit → St → Prop
  | .normal, s => Holds (rdRes s res) fun v => K v s
  | .ret, s => Holds (rdRes s res) fun v => K v s
  | _, _ => False

def argL : Nat → List AV → List (Nat × AV)
  | _, [] => []
  | i, v :: r => (i, v) :: argL (i + 1) r

theorem lk_argL : ∀ (avs : List AV) (i t : Nat), lk (argL i avs) t ≠ .bot → ∃ j, t = i + j ∧ avs[j]? = some (lk (argL i avs) t)
  | [], _, _, h => absurd rfl h
  | v :: r, i, t, h => by
    simp only [argL, lk] at h ⊢
    split
    · rename_i e; exact ⟨0, by omega, by simp⟩
    · rename_i e
      rw [if_neg e] at h
      obtain ⟨j, h1, h2⟩ := lk_argL r (i + 1) t h
      exact ⟨j + 1, by omega, by simpa using h2⟩

section
variable {P : Program} {w0 : World} {S : Sc}

theorem rdRV_ok {s : St} {Es : Env → Prop} {U : Nm → Prop} {a : Act} {w : World} (h : Sat w0 S Es U (lk s.tl) (HF (hk s.hl)) a w) {x : ResultVar} {r : RV} (hx : rRV P x = some r) {v : AV} (hv : rdRV s r = some v) :
    ∃ u, (match x with | .tmp t => pure (a.tmps.getD t undef) | .cell b t => do loadVar t (← asAddr (a.tmps.getD b undef)) : Sem Value).run P w = .ok u w ∧ ∀ ρ, Es ρ → Rep ρ v u := by
  obtain ⟨ρ0, h0⟩ := h.ne
  cases x with
  | tmp t =>
    simp only [rRV, Option.some.injEq] at hx
    subst hx
    have hv' : lk s.tl t = v ∧ v ≠ .bot := by
      simp only [rdRV] at hv
      split at hv
      · cases hv
      · rename_i hne; injection hv with hv; exact ⟨hv, fun e => hne (by rw [hv, e])⟩
    refine ⟨a.tmps.getD t undef, rfl, fun ρ hρ => ?_⟩
    obtain ⟨u, h1, h2⟩ := h.tm ρ hρ t (by rw [hv'.1]; exact hv'.2)
    rw [Array.getD_eq_getD_getElem?, h1, ← hv'.1]
    exact h2
  | cell b t =>
    simp only [rRV] at hx
    split at hx
    · rename_i ag n hag hn
      injection hx with hx
      subst hx
      simp only [rdRV] at hv
      split at hv
      · rename_i o i f hp
        split at hv
        · rename_i c hc0
          have hc := hf_get hc0
          generalize hcc : flC o (getP (hk s.hl) o).tag i c = cc at hc hv
          have hccl : cc.length = c.length := by rw [← hcc]; simp
          have hccg : (c[f]?).map (flV o (getP (hk s.hl) o).tag i f) = cc[f]? := by rw [← hcc, flC_get]
          rw [hccg] at hv
          have addr : ∀ ρ, Es ρ → (ρ o).nil = false ∧ a.tmps.getD b undef = .pointer (some ⟨(ρ o).blk, (ρ o).base + (i * (ρ o).sz + f), none⟩) := fun ρ hρ => by
            obtain ⟨u, h1, h2⟩ := h.tm ρ hρ b (by rw [hp]; simp)
            rw [hp, Rep] at h2
            exact ⟨h2.1, by rw [Array.getD_eq_getD_getElem?, h1]; exact h2.2⟩
          have pt : ∀ ρ, Es ρ → ∃ u, (do loadVar t (← asAddr (a.tmps.getD b undef)) : Sem Value).run P w = .ok u w ∧ Rep ρ v u := fun ρ hρ => by
            obtain ⟨hnil, hav⟩ := addr ρ hρ
            obtain ⟨vs, h1, h2, h3, h4⟩ := elem_range ((h.hp ρ hρ).obj o) hc hnil
            cases ag
            · simp only [Bool.false_eq_true, if_false] at hv
              obtain ⟨u, hu, hr⟩ := h1.get hv
              have := h2 f u hu
              exact ⟨u, by simp [hav, asAddr, loadVar, run_isAg hag, ← Nat.add_assoc, this], hr⟩
            · simp only [if_true] at hv
              split at hv
              · rename_i hle
                rw [← hccl] at hle
                injection hv with hv
                subst hv
                have h5 := rangeAt_take (rangeAt_drop h2 f) n
                have h6 := (h1.drop f).take n
                obtain ⟨d, hd1, hd2⟩ := isAg_row hag
                have hlen : ((vs.drop f).take n).length = n := by have := h1.length; simp; omega
                have := run_loadVar_mid (P := P) w (ρ o).blk ((ρ o).base + i * (ρ o).sz + f) t _ d h5 hd1 hd2 (by rw [hlen]; exact hn)
                exact ⟨.agg ((vs.drop f).take n).toArray, by simp [hav, asAddr, ← Nat.add_assoc, this], by rw [Rep]; exact ⟨_, rfl, by simpa using h6⟩⟩
              · cases hv
          obtain ⟨u, h1, _⟩ := pt ρ0 h0
          refine ⟨u, h1, fun ρ hρ => ?_⟩
          obtain ⟨u', h1', h2'⟩ := pt ρ hρ
          rw [h1] at h1'
          injection h1' with h1' _
          rw [h1']; exact h2'
        · cases hv
      · cases hv
    · cases hx

theorem rdAll_length {s : St} : ∀ (l : List RV) (q : List AV), rdAll s l = some q → q.length = l.length
  | [], q, h => by simp only [rdAll, Option.some.injEq] at h; subst h; rfl
  | x :: l, q, h => by
    simp only [rdAll] at h
    split at h
    · rename_i h3
      injection h with h
      subst h
      simp [rdAll_length l _ h3]
    · cases h

theorem results_ok {fn : Func} {res : List RV} (hres : rRVs P fn.results.toList = some res) {s : St} {Es : Env → Prop} {U : Nm → Prop} {a : Act} {w : World} (h : Sat w0 S Es U (lk s.tl) (HF (hk s.hl)) a w) {v : AV} (hv : rdRes s res = some v) :
    ∃ u, (results fn a.tmps).run P w = .ok u w ∧ ∀ ρ, Es ρ → Rep ρ v u := by
  have all : ∀ (l : List ResultVar) (res : List RV) (q : List AV), rRVs P l = some res → rdAll s res = some q → ∃ us : List Value, (l.mapM fun (x : ResultVar) => (match x with | .tmp t => pure (a.tmps.getD t undef) | .cell b t => do loadVar t (← asAddr (a.tmps.getD b undef)) : Sem Value)).run P w = .ok us w ∧ ∀ ρ, Es ρ → RepL ρ q us := by
    intro l
    induction l with
    | nil => intro res q h1 h2; simp only [rRVs, Option.some.injEq] at h1; subst h1; simp only [rdAll, Option.some.injEq] at h2; subst h2; exact ⟨[], rfl, fun _ _ => rfl⟩
    | cons x l ih =>
      intro res q h1 h2
      simp only [rRVs] at h1
      cases hx : rRV P x with
      | none => simp [hx] at h1
      | some y =>
        cases hl : rRVs P l with
        | none => simp [hx, hl] at h1
        | some ys =>
          simp only [hx, hl, Option.some.injEq] at h1
          subst h1
          simp only [rdAll] at h2
          cases hy : rdRV s y with
          | none => simp [hy] at h2
          | some u =>
            cases hq : rdAll s ys with
            | none => simp [hy, hq] at h2
            | some us =>
              simp only [hy, hq, Option.some.injEq] at h2
              subst h2
              obtain ⟨u1, r1, r2⟩ := rdRV_ok (P := P) h hx hy
              obtain ⟨us1, s1, s2⟩ := ih ys us hl hq
              refine ⟨u1 :: us1, ?_, fun ρ hρ => ⟨u1, us1, rfl, r2 ρ hρ, s2 ρ hρ⟩⟩
              rw [List.mapM_cons, Sem.run_bind, r1, Result.andThen_ok, Sem.run_bind, s1]
              rfl
  have hm : ∃ q, rdAll s res = some q ∧ ((∃ u, q = [u] ∧ v = u) ∨ (q.length ≠ 1 ∧ v = .tup q)) := by
    unfold rdRes at hv
    split at hv
    · exact ⟨[v], by simp [rdAll, hv], .inl ⟨v, rfl, rfl⟩⟩
    · rename_i hne
      split at hv
      · rename_i q hq
        injection hv with hv
        refine ⟨q, hq, .inr ⟨fun hlen => ?_, hv.symm⟩⟩
        have := rdAll_length res q hq
        match res, this with
        | [x], _ => exact hne x rfl
        | [], h => rw [hlen] at h; simp at h
        | x :: y :: l, h => rw [hlen] at h; simp at h
      · cases hv
  obtain ⟨q, hq, hqv⟩ := hm
  obtain ⟨us, h1, h2⟩ := all fn.results.toList res q hres hq
  obtain ⟨ρ0, h0⟩ := h.ne
  have hlen := (h2 ρ0 h0).length
  have hrun : (results fn a.tmps).run P w = .ok (if h : us.toArray.size = 1 then us.toArray[0] else .tuple us.toArray) w := by
    unfold results
    rw [Array.mapM_eq_mapM_toList, Sem.run_bind, Sem.run_map]
    exact congrArg (fun r : Result (List Value) => (r.andThen fun a w' => Result.ok a.toArray w').andThen fun a w' => (pure (if h : a.size = 1 then a[0] else Value.tuple a) : Sem Value).run P w') h1
  rcases hqv with ⟨u, rfl, rfl⟩ | ⟨hne, rfl⟩
  · obtain ⟨x, rfl⟩ := List.length_eq_one_iff.1 hlen
    refine ⟨x, by simpa using hrun, fun ρ hρ => ?_⟩
    obtain ⟨y, r, e, h3, _⟩ := h2 ρ hρ
    injection e with e1 e2
    rw [e1]; exact h3
  · refine ⟨.tuple us.toArray, ?_, fun ρ hρ => by rw [Rep]; exact ⟨_, rfl, h2 ρ hρ⟩⟩
    rw [dif_neg (by simp; omega)] at hrun
    exact hrun

/-- A FUNCTION's BODY, WALKED. -/
theorem calls_of_Wm {f : FuncId} {fn : Func} {c : Code} {mc : MCode} {res : List RV} (hf : P.funcs[f]? = some fn) (hb : fn.body = some c) (hrc : rC P c = some mc) (hres : rRVs P fn.results.toList = some res)
    {avs : List AV} {vs : List Value} {hl : List (Nat × NObj)} {nb : Nat} {Es : Env → Prop} {w : World} (hne : ∃ ρ, Es ρ) (hcl : ∀ ρ ρ', Es ρ → (∀ x : Nm, ¬ nb ≤ x.mx → ρ' x = ρ x) → Es ρ') (hfr : ∀ x : Nm, nb ≤ x.mx → HF (hk hl) x = .free) (hpin : ∀ ρ ρ', Es ρ → Es ρ' → ∀ x, HF (hk hl) x ≠ .free → ρ x = ρ' x) (hp : ∀ ρ, Es ρ → HCore w0 S ρ (HF (hk hl)) w) (hargs : ∀ ρ, Es ρ → RepL ρ avs vs) (hlen : avs.length ≤ fn.ntmps)
    {K : AV → St → Prop} (h : Wm P w0 S fn.ntmps [] mc ⟨argL 0 avs, hl, nb⟩ (retK res K)) :
    Calls P f vs.toArray w fun e w' => ∃ (v : Value) (av : AV) (s' : St), e = .returned v ∧ K av s' ∧ ∃ a' : Act, a'.tmps = #[v] ∧ SatS w0 S 1 [] ⟨[(0, av)], s'.hl, s'.nb⟩ a' w' := by
  obtain ⟨ρ0, h0⟩ := hne
  have hvl := (hargs ρ0 h0).length
  refine calls_of_wp hf hb (wp_mono (h c hrc _ w ⟨⟨Es, ⟨ρ0, h0⟩, hcl, hfr, hpin, fun ρ hρ t ht => ?_, hp⟩, ?_, rfl⟩) fun e a' w' ⟨s', ⟨⟨Es', hs'⟩, _, hD⟩, hq⟩ => ?_)
  · obtain ⟨j, h1, h2⟩ := lk_argL avs 0 t ht
    obtain ⟨v, h3, h4⟩ := (hargs ρ hρ).get h2
    refine ⟨v, ?_, h4⟩
    have hj : j < vs.length := (List.getElem?_eq_some_iff.1 h3).1
    rw [h1, Nat.zero_add, Array.getElem?_append_left (by simpa using hj)]
    simpa using h3
  · simp; omega
  · have fin : Holds (rdRes s' res) (fun v => K v s') → bodyPost P fn (fun e w' => ∃ (v : Value) (av : AV) (s' : St), e = .returned v ∧ K av s' ∧ ∃ a' : Act, a'.tmps = #[v] ∧ SatS w0 S 1 [] ⟨[(0, av)], s'.hl, s'.nb⟩ a' w') .normal a' w' := by
      rintro ⟨av, hav, hK⟩
      obtain ⟨u, hu, hr⟩ := results_ok hres hs' hav
      refine ⟨hD, u, hu, u, av, s', rfl, hK, { a' with tmps := #[u], defers := [] }, rfl, ⟨Es', hs'.ne, hs'.cl, hs'.fr, hs'.pin, fun ρ hρ t ht => ?_, hs'.hp⟩, rfl, rfl⟩
      simp only [lk] at ht ⊢
      split at ht
      · rename_i e; subst e; exact ⟨u, rfl, hr ρ hρ⟩
      · exact absurd rfl ht
    cases e with
    | normal => exact fin hq
    | ret => exact fin hq
    | _ => exact hq.elim

end
end Go.W
set_option linter.unusedSimpArgs false
set_option linter.unusedVariables false
namespace Go.W

/-- By which name the caller has what the callee has at each place, and from which element on; none: a nil slice. -/
abbrev ML := List (Option (Nm × Nat))

def mlAt (ml : ML) : Nm → Option (Option (Nm × Nat))
  | .top k => ml[k]?
  | _ => none

mutual
/-- A value as the callee names it, and as the caller does. -/
def ArgS (ml : ML) : AV → AV → Prop
  | .bot, _ => True
  | .int k n, .int k' n' => k = k' ∧ n = n'
  | .bool b, .bool b' => b = b'
  | .str s, .str s' => s = s'
  | .raw v, .raw v' => v = v'
  | .nsl, .nsl => True
  | .sl x i n, .sl y j n' => match mlAt ml x with
    | some (some (y', k)) => y' = y ∧ j = i + k ∧ n = n'
    | _ => False
  | .sl x i n, .nsl => mlAt ml x = some none ∧ i = 0 ∧ n = 0
  | .ptr x i f, .ptr y j f' => match mlAt ml x with
    | some (some (y', k)) => y' = y ∧ j = i + k ∧ f = f'
    | _ => False
  | .fn f c, .fn f' c' => f = f' ∧ ArgSL ml c c'
  | .iface t a, .iface t' a' => t = t' ∧ ArgS ml a a'
  | .agg l, .agg l' => ArgSL ml l l'
  | .tup l, .tup l' => ArgSL ml l l'
  | _, _ => False
def ArgSL (ml : ML) : List AV → List AV → Prop
  | [], [] => True
  | a :: as, b :: bs => ArgS ml a b ∧ ArgSL ml as bs
  | _, _ => False
end

def shiftL (L : Loc) (k : Nat) : Loc := { L with base := L.base + k * L.sz, cap := L.cap - k }

def locE (ρ : Env) (ml : ML) (x : Nat) : Loc := match ml[x]? with
  | some (some (y, k)) => shiftL (ρ y) k
  | _ => nilLoc

theorem shiftL_zero (L : Loc) : shiftL L 0 = L := by simp [shiftL]

def inML (ml : ML) (ρ ρl : Env) : Prop := ∀ x, x < ml.length → ρl (.top x) = locE ρ ml x

theorem mlAt_top {ml : ML} {x : Nm} {v : Option (Nm × Nat)} (h : mlAt ml x = some v) : ∃ k, x = .top k ∧ ml[k]? = some v ∧ k < ml.length := by
  cases x with
  | top k => exact ⟨k, rfl, h, (List.getElem?_eq_some_iff.1 h).1⟩
  | sub p t j f => cases h

mutual
theorem ArgS.rep {ml : ML} {ρ ρl : Env} (hb : inML ml ρ ρl) : ∀ {a g : AV} {v : Value}, ArgS ml a g → Rep ρ g v → Rep ρl a v := fun {a} {g} {v} h hr => by
  cases a with
  | int k n => cases g <;> simp only [ArgS] at h <;> (obtain ⟨rfl, rfl⟩ := h; simp only [Rep] at hr ⊢; exact hr)
  | bool b => cases g <;> simp only [ArgS] at h <;> (subst h; simp only [Rep] at hr ⊢; exact hr)
  | str b => cases g <;> simp only [ArgS] at h <;> (subst h; simp only [Rep] at hr ⊢; exact hr)
  | raw b => cases g <;> simp only [ArgS] at h <;> (subst h; simp only [Rep] at hr ⊢; exact hr)
  | bot => simp [Rep]
  | nsl => cases g <;> simp only [ArgS] at h; simp only [Rep] at hr ⊢; exact hr
  | sl x i n =>
    cases g <;> simp only [ArgS] at h
    case nsl =>
      simp only [Rep] at hr ⊢
      obtain ⟨h1, rfl, rfl⟩ := h
      refine .inl ⟨?_, rfl, rfl, hr⟩
      obtain ⟨k, rfl, h1, hk⟩ := mlAt_top h1
      rw [hb k hk]; simp [locE, h1, nilLoc]
    case sl y j n' =>
      split at h
      · rename_i y' k h1
        obtain ⟨rfl, rfl, rfl⟩ := h
        have he : ρl x = shiftL (ρ y') k := by
          obtain ⟨q, rfl, h1, hq⟩ := mlAt_top h1
          rw [hb q hq]; simp [locE, h1]
        simp only [Rep] at hr ⊢
        rw [he]
        rcases hr with ⟨h2, h3, h4, h5⟩ | ⟨h2, h3, off, h4, h5⟩
        · exact .inl ⟨h2, by omega, h4, h5⟩
        · refine .inr ⟨h2, by simp only [shiftL]; omega, off, ?_, fun hlt => ?_⟩
          · rw [h4]; simp only [shiftL]; congr 1; omega
          · simp only [shiftL] at hlt ⊢
            rw [h5 (by omega), Nat.add_mul]; omega
      · exact h.elim
  | ptr x i f =>
    cases g <;> simp only [ArgS] at h
    case ptr y j f' =>
      split at h
      · rename_i y' k h1
        obtain ⟨rfl, rfl, rfl⟩ := h
        have he : ρl x = shiftL (ρ y') k := by
          obtain ⟨q, rfl, h1, hq⟩ := mlAt_top h1
          rw [hb q hq]; simp [locE, h1]
        simp only [Rep] at hr ⊢
        rw [he]
        refine ⟨hr.1, ?_⟩
        rw [hr.2]; simp only [shiftL]; congr 3; rw [Nat.add_mul]; omega
      · exact h.elim
  | fn f c =>
    cases g <;> simp only [ArgS] at h
    obtain ⟨rfl, h⟩ := h
    simp only [Rep] at hr ⊢
    obtain ⟨cs, h1, h2⟩ := hr
    exact ⟨cs, h1, ArgSL.rep hb h h2⟩
  | iface t a =>
    cases g <;> simp only [ArgS] at h
    obtain ⟨rfl, h⟩ := h
    simp only [Rep] at hr ⊢
    obtain ⟨y, h1, h2⟩ := hr
    exact ⟨y, h1, ArgS.rep hb h h2⟩
  | agg l =>
    cases g <;> simp only [ArgS] at h
    simp only [Rep] at hr ⊢
    obtain ⟨cs, h1, h2⟩ := hr
    exact ⟨cs, h1, ArgSL.rep hb h h2⟩
  | tup l =>
    cases g <;> simp only [ArgS] at h
    simp only [Rep] at hr ⊢
    obtain ⟨cs, h1, h2⟩ := hr
    exact ⟨cs, h1, ArgSL.rep hb h h2⟩
  | os t sz els => cases g <;> simp only [ArgS] at h
  | op t c => cases g <;> simp only [ArgS] at h
theorem ArgSL.rep {ml : ML} {ρ ρl : Env} (hb : inML ml ρ ρl) : ∀ {as gs : List AV} {vs : List Value}, ArgSL ml as gs → RepL ρ gs vs → RepL ρl as vs := fun {as} {gs} {vs} h hr => by
  cases as with
  | nil => cases gs <;> simp only [ArgSL] at h; simp only [RepL] at hr ⊢; exact hr
  | cons a as =>
    cases gs <;> simp only [ArgSL] at h
    simp only [RepL] at hr ⊢
    obtain ⟨v, r, h1, h2, h3⟩ := hr
    exact ⟨v, r, h1, ArgS.rep hb h.1 h2, ArgSL.rep hb h.2 h3⟩
end

theorem ArgSL.get {ml : ML} : ∀ {as bs : List AV}, ArgSL ml as bs → as.length = bs.length ∧ ∀ (j : Nat) (a : AV), as[j]? = some a → ∃ b, bs[j]? = some b ∧ ArgS ml a b
  | [], [], _ => ⟨rfl, fun j b h => by simp at h⟩
  | a :: as, b :: bs, h => by
    rw [ArgSL] at h
    obtain ⟨h1, h2⟩ := ArgSL.get h.2
    refine ⟨by simp [h1], fun j c hc => ?_⟩
    cases j with
    | zero => simp at hc; subst hc; exact ⟨b, rfl, h.1⟩
    | succ j => simpa using h2 j c (by simpa using hc)
  | [], b :: bs, h => by simp [ArgSL] at h
  | a :: as, [], h => by simp [ArgSL] at h


/-- An object as the callee has it. -/
inductive Seen : Nat → NObj → NObj → Prop
  | own {og : NObj} (h : og.own = true) (hc : og.t0.clO = true) : Seen 0 og og.t0
  | row {i t sz n : Nat} {els : List (List AV)} {og : NObj} (h : og = .arr t sz els ∨ og = .view t sz els) (hn : i + n ≤ els.length) (hc : clLL (t0LL ((els.drop i).take n)) = true) : Seen i og (.view 0 sz (t0LL ((els.drop i).take n)))
  | one {t z : Nat} {c : List AV} {og : NObj} (h : og = .cells t c ∨ og = .view t z [c]) (hc : clL (t0L c) = true) : Seen 0 og (.view 0 c.length [t0L c])

theorem Seen.cl {i : Nat} {og o : NObj} (h : Seen i og o) : o.clO = true := by
  cases h with
  | own h hc => exact hc
  | row h hn hc => exact hc
  | one h hc => simp [NObj.clO, clLL, hc]

theorem Seen.tag {i : Nat} {og o : NObj} (h : Seen i og o) : o.tag = 0 := by
  cases h with
  | own h hc => cases og <;> rfl
  | row h hn hc => rfl
  | one h hc => rfl

theorem Seen.elem {i : Nat} {og o : NObj} (h : Seen i og o) {j : Nat} {c : List AV} (hc : elemN o j = some c) : ∃ c', elemN og (i + j) = some c' ∧ c = t0L c' := by
  cases h with
  | own h hcl =>
    rw [elemN_t0] at hc
    rw [Nat.zero_add]
    cases he : elemN og j with
    | none => rw [he] at hc; cases hc
    | some c' => rw [he] at hc; simp at hc; exact ⟨c', rfl, hc.symm⟩
  | @row _ t sz n els _ h hn hcl =>
    simp only [elemN] at hc
    rw [t0LL_get, List.getElem?_take] at hc
    split at hc
    · rw [List.getElem?_drop] at hc
      cases he : els[i + j]? with
      | none => rw [he] at hc; cases hc
      | some c' =>
        rw [he] at hc
        simp at hc
        refine ⟨c', ?_, hc.symm⟩
        rcases h with rfl | rfl <;> exact he
    · cases hc
  | @one t z c0 _ h hcl =>
    rw [Nat.zero_add]
    simp only [elemN] at hc
    cases j with
    | zero =>
      simp at hc
      refine ⟨c0, ?_, hc.symm⟩
      rcases h with rfl | rfl <;> rfl
    | succ j => simp at hc

theorem seen_kidV {u : AV} (r ro : Bool) (hr : r = false → ro = false) (hne : kidV r u.t0 ≠ .free) (hcl : (kidV r u.t0).clO = true) : Seen 0 (kidV ro u) (kidV r u.t0) := by
  cases u <;> simp only [AV.t0, kidV] at hne hcl ⊢ <;> try (exact absurd rfl hne)
  case os t sz els =>
    cases r with
    | false =>
      rw [hr rfl]
      simp only [Bool.false_eq_true, if_false] at hcl ⊢
      exact Seen.own (og := .arr t sz els) rfl hcl
    | true =>
      simp only [if_true] at hcl ⊢
      have e : t0LL els = t0LL ((els.drop 0).take els.length) := by simp
      rw [e] at hcl ⊢
      exact Seen.row (t := t) (by cases ro <;> simp) (by simp) hcl
  case op t c =>
    cases r with
    | false =>
      rw [hr rfl]
      simp only [Bool.false_eq_true, if_false] at hcl ⊢
      exact Seen.own (og := .cells t c) rfl hcl
    | true =>
      simp only [if_true, t0L_length] at hcl ⊢
      refine Seen.one (t := t) (z := c.length) (by cases ro <;> simp) ?_
      simpa [NObj.clO, clLL] using hcl

/-- What it owns. -/
theorem Seen.kid {i : Nat} {og o : NObj} (h : Seen i og o) {t j f : Nat} (hne : kid o t j f ≠ .free) : t = 0 ∧ Seen 0 (kid og og.tag (i + j) f) (kid o t j f) := by
  have ht : t = 0 := by
    by_cases e : o.tag = t
    · rw [← e, h.tag]
    · exact absurd (kid_tag e) hne
  subst ht
  refine ⟨rfl, ?_⟩
  have hcl : (Go.W.kid o 0 j f).clO = true := cl_kid (fun j c v f hc hv hp => clL_get (clO_elem h.cl hc) hv) 0 j f
  unfold Go.W.kid at hne hcl ⊢
  rw [if_pos h.tag] at hne hcl ⊢
  rw [if_pos rfl]
  cases he : elemN o j with
  | none => rw [he] at hne; exact absurd rfl hne
  | some c =>
    obtain ⟨c', e1, e2⟩ := h.elem he
    rw [he] at hne hcl
    rw [e1]
    simp only [kidC] at hne hcl ⊢
    rw [e2, t0L_get] at hne hcl ⊢
    cases hu : c'[f]? with
    | none => rw [hu] at hne; exact absurd rfl hne
    | some u =>
      rw [hu] at hne hcl
      simp only [Option.map_some] at hne hcl ⊢
      refine seen_kidV _ _ (fun hr => ?_) hne hcl
      cases h with
      | own h hc => cases og <;> simp_all [NObj.own, NObj.ro]
      | row h hn hc => cases hr
      | one h hc => cases hr

def shOf (ml : ML) : Nm → Nat
  | .top k => match ml[k]? with
    | some (some (_, i)) => i
    | _ => 0
  | _ => 0

def psi (ml : ML) (G : NH) : Nm → Option Nm
  | .top k => match ml[k]? with
    | some (some (p, _)) => some p
    | _ => none
  | .sub x _ j f => match psi ml G x with
    | some y => some (.sub y (getP G y).tag (shOf ml x + j) f)
    | none => none

theorem psi_sub (ml : ML) (G : NH) (x : Nm) (t j f : Nat) : psi ml G (.sub x t j f) = (psi ml G x).map fun y => .sub y (getP G y).tag (shOf ml x + j) f := by
  rw [psi]
  cases psi ml G x <;> rfl

/-- The objects that came. -/
def Cames (G : NH) (ml : ML) (objs : List NObj) : Prop := ml.length = objs.length ∧ ∀ (k : Nat) (x : Option (Nm × Nat)) (o : NObj), ml[k]? = some x → objs[k]? = some o → match x with
  | some (p, i) => Seen i (getP G p) o
  | none => (∃ sz, o = .view 0 sz [] ∨ o = .arr 0 sz [])

def idxO : Nat → List NObj → List (Nat × NObj)
  | _, [] => []
  | i, o :: r => (i, o) :: idxO (i + 1) r

theorem hk_idxO : ∀ (l : List NObj) (i x : Nat), hk (idxO i l) x = if i ≤ x then (l[x - i]?).getD .free else .free
  | [], i, x => by simp [idxO, hk]
  | o :: r, i, x => by
    rw [idxO, hk, hk_idxO r]
    by_cases e : x = i
    · subst e; simp
    · rw [if_neg e]
      by_cases h : i ≤ x
      · rw [if_pos h, if_pos (by omega)]
        obtain ⟨d, hd⟩ : ∃ d, x - i = d + 1 := ⟨x - i - 1, by omega⟩
        rw [hd, show x - (i + 1) = d by omega]; simp
      · rw [if_neg h, if_neg (by omega)]

theorem hk_idx0 (l : List NObj) (x : Nat) : hk (idxO 0 l) x = (l[x]?).getD .free := by simp [hk_idxO]

section
variable {G : NH} {ml : ML} {objs : List NObj}

theorem came_root (h : Cames G ml objs) {k : Nat} (hne : hk (idxO 0 objs) k ≠ .free) : ∃ x o, ml[k]? = some x ∧ objs[k]? = some o ∧ hk (idxO 0 objs) k = o ∧ k < objs.length := by
  rw [hk_idx0] at hne ⊢
  cases ho : objs[k]? with
  | none => rw [ho] at hne; exact absurd rfl hne
  | some o =>
    have hk := (List.getElem?_eq_some_iff.1 ho).1
    exact ⟨_, o, List.getElem?_eq_getElem (by rw [h.1]; exact hk), rfl, rfl, hk⟩

/-- By which name the caller has what lies within. -/
theorem psi_get (h : Cames G ml objs) : ∀ x : Nm, getP (hk (idxO 0 objs)) x ≠ .free → x.mx = x.root ∧ x.root < objs.length ∧ ((∃ y, psi ml G x = some y ∧ Seen (shOf ml x) (getP G y) (getP (hk (idxO 0 objs)) x) ∧ getP G y ≠ .free) ∨ (∃ k sz, x = .top k ∧ ml[k]? = some none ∧ (getP (hk (idxO 0 objs)) x = .view 0 sz [] ∨ getP (hk (idxO 0 objs)) x = .arr 0 sz [])))
  | .top k, hne => by
    obtain ⟨x, o, h1, h2, h3, h4⟩ := came_root h hne
    refine ⟨rfl, h4, ?_⟩
    have h5 := h.2 k x o h1 h2
    rw [getP, h3]
    cases x with
    | none => obtain ⟨sz, h5⟩ := h5; exact .inr ⟨k, sz, rfl, h1, h5⟩
    | some q =>
      obtain ⟨p, i⟩ := q
      refine .inl ⟨p, by simp [psi, h1], by simpa [shOf, h1] using h5, fun e => ?_⟩
      simp only at h5
      rw [e] at h5
      cases h5 with
      | own h _ => cases h
      | row h _ _ => rcases h with h | h <;> cases h
      | one h _ => rcases h with h | h <;> cases h
  | .sub x t j f, hne => by
    rw [getP] at hne
    have hgx : getP (hk (idxO 0 objs)) x ≠ .free := fun e => hne (by rw [e]; simp [kid, elemN])
    obtain ⟨i1, i2, i3⟩ := psi_get h x hgx
    rcases i3 with ⟨y, g1, g2, g3⟩ | ⟨k, sz, rfl, g1, g2⟩
    · obtain ⟨rfl, hs⟩ := g2.kid hne
      refine ⟨by simp only [Nm.mx, Nm.root]; omega, i2, .inl ⟨_, by rw [psi_sub, g1]; rfl, ?_, ?_⟩⟩
      · rw [getP, getP]; exact hs
      · rw [getP]
        intro e
        rw [e] at hs
        generalize kid _ 0 j f = o at hs
        cases hs with
        | own h _ => cases h
        | row h _ _ => rcases h with h | h <;> cases h
        | one h _ => rcases h with h | h <;> cases h
    · exfalso
      apply hne
      rcases g2 with g2 | g2 <;> rw [g2] <;> exact kid_plainO (fun j c hc => by simp [elemN] at hc) _ _ _

end
end Go.W
