/- Loops; a function's beginning and end. -/
import Derived.Test.YtmbploeikjangaaGreatWS
set_option linter.unusedSimpArgs false
set_option linter.unusedVariables false
namespace Go.W

/-- A state holds wherever another one does. -/
def Imp (m : Nat) (s s' : St) : Prop := ∀ w0 S N D a w, S.m = m → SatS w0 S N D s a w → SatS w0 S N D s' a w

theorem Imp.refl (m : Nat) (s : St) : Imp m s s := fun _ _ _ _ _ _ _ h => h
theorem Imp.trans {m : Nat} {s t u : St} (h : Imp m s t) (h' : Imp m t u) : Imp m s u := fun w0 S N D a w hm hs => h' w0 S N D a w hm (h w0 S N D a w hm hs)
theorem Imp.le {m : Nat} {s s' : St} (pl : List (Nat × Option Nat)) (h : LeN m pl s s') : Imp m s s' := fun _ _ _ _ _ _ hm hs => hs.le (by rw [hm]; exact h)
theorem Imp.absorb {m : Nat} {s : St} (p : Nm) (j f k : Nat) {c : List AV} {v : AV} (hown : (getP (hk s.hl) p).own = true) (hc : elemN (getP (hk s.hl) p) j = some c) (hv : c[f]? = some v) (hn : namesObj v k (hk s.hl k)) (hr : p.root ≠ k) :
    Imp m s ⟨s.tl, updH s.hl (absorbG (hk s.hl) s.nb p j f k), s.nb + 1⟩ := fun _ _ _ _ _ _ _ hs => hs.absorb p j f k hown hc hv hn hr

section
variable {w0 : World} {S : Sc} {N : Nat} {D : List Deferred} {P : Program} {s : St} {Q : Exit → St → Prop}

theorem Wm_imp {c : MCode} {s' : St} (h : Imp S.m s s') (hw : Wm P w0 S N D c s' Q) : Wm P w0 S N D c s Q := fun code hc a w hs => hw code hc a w (h _ _ _ _ _ _ rfl hs)

/-- A LOOP: what holds at its head, told by some value that a measure makes smaller. -/
def loopK (m : Nat) {α : Type} (I : α → St) (R : α → Prop) (μ : α → Nat) (x : α) (Q : Exit → St → Prop) : Exit → St → Prop
  | .normal, s => ∃ y, R y ∧ μ y < μ x ∧ Imp m s (I y)
  | e, s => Q e s

theorem Wm_loop {c : MCode} {α : Type} (I : α → St) (R : α → Prop) (μ : α → Nat) (x0 : α) (h0 : R x0) (hle : Imp S.m s (I x0)) (hr : ∀ x, R x → Wm P w0 S N D c (I x) (loopK S.m I R μ x Q)) : Wm P w0 S N D (.loop c) s Q := fun code hc a w hs => by
  cases code <;> simp only [rC, reduceCtorEq, Option.some.injEq] at hc
  case loop cc =>
    cases hq : rC P cc with
    | none => simp [hq] at hc
    | some c' =>
      simp only [hq, Option.map_some, Option.some.injEq, MCode.loop.injEq] at hc
      subst hc
      intro b k cs
      have key : ∀ n x, μ x = n → R x → ∀ a w, SatS w0 S N D (I x) a w →
          ∃ e a' w', (∃ s', SatS w0 S N D s' a' w' ∧ Q e s') ∧ Arrives P (lone (b.at a (.code cc :: .inLoop cc :: k)) cs w) b k cs e a' w' := by
        intro n
        induction n using Nat.strongRecOn with
        | _ n ih =>
          intro x hn hR a w hsat
          obtain ⟨e, a₁, w₁, ⟨s1, hs1, hq1⟩, harr⟩ := hr x hR cc hq a w hsat b (.inLoop cc :: k) cs
          cases e with
          | normal =>
            obtain ⟨y, hy, hlt, hpl⟩ := hq1
            obtain ⟨e₂, a₂, w₂, hq₂, harr₂⟩ := ih (μ y) (hn ▸ hlt) y rfl hy a₁ w₁ (hpl _ _ _ _ _ _ rfl hs1)
            exact ⟨e₂, a₂, w₂, hq₂, .of_steps (Steps.trans harr (.one step_inLoop)) harr₂⟩
          | exit id => exact ⟨_, a₁, w₁, ⟨s1, hs1, hq1⟩, .pass (x := .inLoop cc) rfl (fun _ _ => .inl (by simp)) harr⟩
          | goto l => exact ⟨_, a₁, w₁, ⟨s1, hs1, hq1⟩, .pass (x := .inLoop cc) rfl (fun _ _ => .inl (by simp)) harr⟩
          | ret => exact ⟨_, a₁, w₁, ⟨s1, hs1, hq1⟩, .pass (x := .inLoop cc) rfl (fun _ _ => .inl (by simp)) harr⟩
          | panic ch => exact ⟨_, a₁, w₁, ⟨s1, hs1, hq1⟩, .pass (x := .inLoop cc) rfl (fun _ _ => .inl (by simp)) harr⟩
          | outgrown => exact ⟨_, a₁, w₁, ⟨s1, hs1, hq1⟩, .pass (x := .inLoop cc) rfl (fun _ _ => .inl (by simp)) harr⟩
      obtain ⟨e, a', w', hq, harr⟩ := key _ x0 rfl h0 a w (hle _ _ _ _ _ _ rfl hs)
      exact ⟨e, a', w', hq, .of_steps (.one step_loop) harr⟩
  all_goals ((repeat' (split at hc)) <;> first | (cases hc; done) | (simp only [Option.map_eq_some_iff, reduceCtorEq, and_false, exists_false] at hc; done))

end

/-- A result's place. -/
inductive RV where
  | t (n : Nat)
  | c (ag : Bool) (n a : Nat)

def rRV (P : Program) : ResultVar → Option RV
  | .tmp t => some (.t t)
  | .cell a t => match isAg P t, szOf P t with
    | some ag, some n => some (.c ag n a)
    | _, _ => none

def rRVs (P : Program) : List ResultVar → Option (List RV)
  | [] => some []
  | x :: r => match rRV P x, rRVs P r with
    | some y, some q => some (y :: q)
    | _, _ => none

def rdRV (s : St) : RV → Option AV
  | .t n => match lk s.tl n with
    | .bot => none
    | v => some v
  | .c ag n a => match lk s.tl a with
    | .ptr o i f => match elemN (getP (hk s.hl) o) i with
      | some c => if ag = true then (if f + n ≤ c.length then some (.agg (((flC o (getP (hk s.hl) o).tag i c).drop f).take n)) else none) else (c[f]?).map (flV o (getP (hk s.hl) o).tag i f)
      | none => none
    | _ => none

def rdAll (s : St) : List RV → Option (List AV)
  | [] => some []
  | x :: r => match rdRV s x, rdAll s r with
    | some y, some q => some (y :: q)
    | _, _ => none

def rdRes (s : St) : List RV → Option AV
  | [x] => rdRV s x
  | l => match rdAll s l with
    | some q => some (.tup q)
    | none => none

def retK (res : List RV) (K : AV → St → Prop) : Exit → St → Prop
  | .normal, s => Holds (rdRes s res) fun v => K v s
  | .ret, s => Holds (rdRes s res) fun v => K v s
  | _, _ => False

def argL : Nat → List AV → List (Nat × AV)
  | _, [] => []
  | i, v :: r => (i, v) :: argL (i + 1) r

theorem lk_argL : ∀ (avs : List AV) (i t : Nat), lk (argL i avs) t ≠ .bot → ∃ j, t = i + j ∧ avs[j]? = some (lk (argL i avs) t)
  | [], _, _, h => absurd rfl h
  | v :: r, i, t, h => by
    simp only [argL, lk] at h ⊢
    split
    · rename_i e; exact ⟨0, by omega, by simp⟩
    · rename_i e
      rw [if_neg e] at h
      obtain ⟨j, h1, h2⟩ := lk_argL r (i + 1) t h
      exact ⟨j + 1, by omega, by simpa using h2⟩

section
variable {P : Program} {w0 : World} {S : Sc}

theorem rdRV_ok {s : St} {Es : Env → Prop} {U : Nm → Prop} {a : Act} {w : World} (h : Sat w0 S Es U (lk s.tl) (HF (hk s.hl)) a w) {x : ResultVar} {r : RV} (hx : rRV P x = some r) {v : AV} (hv : rdRV s r = some v) :
    ∃ u, (match x with | .tmp t => pure (a.tmps.getD t undef) | .cell b t => do loadVar t (← asAddr (a.tmps.getD b undef)) : Sem Value).run P w = .ok u w ∧ ∀ ρ, Es ρ → Rep ρ v u := by
  obtain ⟨ρ0, h0⟩ := h.ne
  cases x with
  | tmp t =>
    simp only [rRV, Option.some.injEq] at hx
    subst hx
    have hv' : lk s.tl t = v ∧ v ≠ .bot := by
      simp only [rdRV] at hv
      split at hv
      · cases hv
      · rename_i hne; injection hv with hv; exact ⟨hv, fun e => hne (by rw [hv, e])⟩
    refine ⟨a.tmps.getD t undef, rfl, fun ρ hρ => ?_⟩
    obtain ⟨u, h1, h2⟩ := h.tm ρ hρ t (by rw [hv'.1]; exact hv'.2)
    rw [Array.getD_eq_getD_getElem?, h1, ← hv'.1]
    exact h2
  | cell b t =>
    simp only [rRV] at hx
    split at hx
    · rename_i ag n hag hn
      injection hx with hx
      subst hx
      simp only [rdRV] at hv
      split at hv
      · rename_i o i f hp
        split at hv
        · rename_i c hc0
          have hc := hf_get hc0
          generalize hcc : flC o (getP (hk s.hl) o).tag i c = cc at hc hv
          have hccl : cc.length = c.length := by rw [← hcc]; simp
          have hccg : (c[f]?).map (flV o (getP (hk s.hl) o).tag i f) = cc[f]? := by rw [← hcc, flC_get]
          rw [hccg] at hv
          have addr : ∀ ρ, Es ρ → (ρ o).nil = false ∧ a.tmps.getD b undef = .pointer (some ⟨(ρ o).blk, (ρ o).base + (i * (ρ o).sz + f), none⟩) := fun ρ hρ => by
            obtain ⟨u, h1, h2⟩ := h.tm ρ hρ b (by rw [hp]; simp)
            rw [hp, Rep] at h2
            exact ⟨h2.1, by rw [Array.getD_eq_getD_getElem?, h1]; exact h2.2⟩
          have pt : ∀ ρ, Es ρ → ∃ u, (do loadVar t (← asAddr (a.tmps.getD b undef)) : Sem Value).run P w = .ok u w ∧ Rep ρ v u := fun ρ hρ => by
            obtain ⟨hnil, hav⟩ := addr ρ hρ
            obtain ⟨vs, h1, h2, h3, h4⟩ := elem_range ((h.hp ρ hρ).obj o) hc hnil
            cases ag
            · simp only [Bool.false_eq_true, if_false] at hv
              obtain ⟨u, hu, hr⟩ := h1.get hv
              have := h2 f u hu
              exact ⟨u, by simp [hav, asAddr, loadVar, run_isAg hag, ← Nat.add_assoc, this], hr⟩
            · simp only [if_true] at hv
              split at hv
              · rename_i hle
                rw [← hccl] at hle
                injection hv with hv
                subst hv
                have h5 := rangeAt_take (rangeAt_drop h2 f) n
                have h6 := (h1.drop f).take n
                obtain ⟨d, hd1, hd2⟩ := isAg_row hag
                have hlen : ((vs.drop f).take n).length = n := by have := h1.length; simp; omega
                have := run_loadVar_mid (P := P) w (ρ o).blk ((ρ o).base + i * (ρ o).sz + f) t _ d h5 hd1 hd2 (by rw [hlen]; exact hn)
                exact ⟨.agg ((vs.drop f).take n).toArray, by simp [hav, asAddr, ← Nat.add_assoc, this], by rw [Rep]; exact ⟨_, rfl, by simpa using h6⟩⟩
              · cases hv
          obtain ⟨u, h1, _⟩ := pt ρ0 h0
          refine ⟨u, h1, fun ρ hρ => ?_⟩
          obtain ⟨u', h1', h2'⟩ := pt ρ hρ
          rw [h1] at h1'
          injection h1' with h1' _
          rw [h1']; exact h2'
        · cases hv
      · cases hv
    · cases hx

theorem rdAll_length {s : St} : ∀ (l : List RV) (q : List AV), rdAll s l = some q → q.length = l.length
  | [], q, h => by simp only [rdAll, Option.some.injEq] at h; subst h; rfl
  | x :: l, q, h => by
    simp only [rdAll] at h
    split at h
    · rename_i h3
      injection h with h
      subst h
      simp [rdAll_length l _ h3]
    · cases h

theorem results_ok {fn : Func} {res : List RV} (hres : rRVs P fn.results.toList = some res) {s : St} {Es : Env → Prop} {U : Nm → Prop} {a : Act} {w : World} (h : Sat w0 S Es U (lk s.tl) (HF (hk s.hl)) a w) {v : AV} (hv : rdRes s res = some v) :
    ∃ u, (results fn a.tmps).run P w = .ok u w ∧ ∀ ρ, Es ρ → Rep ρ v u := by
  have all : ∀ (l : List ResultVar) (res : List RV) (q : List AV), rRVs P l = some res → rdAll s res = some q → ∃ us : List Value, (l.mapM fun (x : ResultVar) => (match x with | .tmp t => pure (a.tmps.getD t undef) | .cell b t => do loadVar t (← asAddr (a.tmps.getD b undef)) : Sem Value)).run P w = .ok us w ∧ ∀ ρ, Es ρ → RepL ρ q us := by
    intro l
    induction l with
    | nil => intro res q h1 h2; simp only [rRVs, Option.some.injEq] at h1; subst h1; simp only [rdAll, Option.some.injEq] at h2; subst h2; exact ⟨[], rfl, fun _ _ => rfl⟩
    | cons x l ih =>
      intro res q h1 h2
      simp only [rRVs] at h1
      cases hx : rRV P x with
      | none => simp [hx] at h1
      | some y =>
        cases hl : rRVs P l with
        | none => simp [hx, hl] at h1
        | some ys =>
          simp only [hx, hl, Option.some.injEq] at h1
          subst h1
          simp only [rdAll] at h2
          cases hy : rdRV s y with
          | none => simp [hy] at h2
          | some u =>
            cases hq : rdAll s ys with
            | none => simp [hy, hq] at h2
            | some us =>
              simp only [hy, hq, Option.some.injEq] at h2
              subst h2
              obtain ⟨u1, r1, r2⟩ := rdRV_ok (P := P) h hx hy
              obtain ⟨us1, s1, s2⟩ := ih ys us hl hq
              refine ⟨u1 :: us1, ?_, fun ρ hρ => ⟨u1, us1, rfl, r2 ρ hρ, s2 ρ hρ⟩⟩
              rw [List.mapM_cons, Sem.run_bind, r1, Result.andThen_ok, Sem.run_bind, s1]
              rfl
  have hm : ∃ q, rdAll s res = some q ∧ ((∃ u, q = [u] ∧ v = u) ∨ (q.length ≠ 1 ∧ v = .tup q)) := by
    unfold rdRes at hv
    split at hv
    · exact ⟨[v], by simp [rdAll, hv], .inl ⟨v, rfl, rfl⟩⟩
    · rename_i hne
      split at hv
      · rename_i q hq
        injection hv with hv
        refine ⟨q, hq, .inr ⟨fun hlen => ?_, hv.symm⟩⟩
        have := rdAll_length res q hq
        match res, this with
        | [x], _ => exact hne x rfl
        | [], h => rw [hlen] at h; simp at h
        | x :: y :: l, h => rw [hlen] at h; simp at h
      · cases hv
  obtain ⟨q, hq, hqv⟩ := hm
  obtain ⟨us, h1, h2⟩ := all fn.results.toList res q hres hq
  obtain ⟨ρ0, h0⟩ := h.ne
  have hlen := (h2 ρ0 h0).length
  have hrun : (results fn a.tmps).run P w = .ok (if h : us.toArray.size = 1 then us.toArray[0] else .tuple us.toArray) w := by
    unfold results
    rw [Array.mapM_eq_mapM_toList, Sem.run_bind, Sem.run_map]
    exact congrArg (fun r : Result (List Value) => (r.andThen fun a w' => Result.ok a.toArray w').andThen fun a w' => (pure (if h : a.size = 1 then a[0] else Value.tuple a) : Sem Value).run P w') h1
  rcases hqv with ⟨u, rfl, rfl⟩ | ⟨hne, rfl⟩
  · obtain ⟨x, rfl⟩ := List.length_eq_one_iff.1 hlen
    refine ⟨x, by simpa using hrun, fun ρ hρ => ?_⟩
    obtain ⟨y, r, e, h3, _⟩ := h2 ρ hρ
    injection e with e1 e2
    rw [e1]; exact h3
  · refine ⟨.tuple us.toArray, ?_, fun ρ hρ => by rw [Rep]; exact ⟨_, rfl, h2 ρ hρ⟩⟩
    rw [dif_neg (by simp; omega)] at hrun
    exact hrun

/-- A FUNCTION's BODY, WALKED. -/
theorem calls_of_Wm {f : FuncId} {fn : Func} {c : Code} {mc : MCode} {res : List RV} (hf : P.funcs[f]? = some fn) (hb : fn.body = some c) (hrc : rC P c = some mc) (hres : rRVs P fn.results.toList = some res)
    {avs : List AV} {vs : List Value} {hl : List (Nat × NObj)} {nb : Nat} {Es : Env → Prop} {w : World} (hne : ∃ ρ, Es ρ) (hcl : ∀ ρ ρ', Es ρ → (∀ x : Nm, ¬ nb ≤ x.mx → ρ' x = ρ x) → Es ρ') (hfr : ∀ x : Nm, nb ≤ x.mx → HF (hk hl) x = .free) (hpin : ∀ ρ ρ', Es ρ → Es ρ' → ∀ x, HF (hk hl) x ≠ .free → ρ x = ρ' x) (hp : ∀ ρ, Es ρ → HCore w0 S ρ (HF (hk hl)) w) (hargs : ∀ ρ, Es ρ → RepL ρ avs vs) (hlen : avs.length ≤ fn.ntmps)
    {K : AV → St → Prop} (h : Wm P w0 S fn.ntmps [] mc ⟨argL 0 avs, hl, nb⟩ (retK res K)) :
    Calls P f vs.toArray w fun e w' => ∃ (v : Value) (av : AV) (s' : St), e = .returned v ∧ K av s' ∧ ∃ a' : Act, a'.tmps = #[v] ∧ SatS w0 S 1 [] ⟨[(0, av)], s'.hl, s'.nb⟩ a' w' := by
  obtain ⟨ρ0, h0⟩ := hne
  have hvl := (hargs ρ0 h0).length
  refine calls_of_wp hf hb (wp_mono (h c hrc _ w ⟨⟨Es, ⟨ρ0, h0⟩, hcl, hfr, hpin, fun ρ hρ t ht => ?_, hp⟩, ?_, rfl⟩) fun e a' w' ⟨s', ⟨⟨Es', hs'⟩, _, hD⟩, hq⟩ => ?_)
  · obtain ⟨j, h1, h2⟩ := lk_argL avs 0 t ht
    obtain ⟨v, h3, h4⟩ := (hargs ρ hρ).get h2
    refine ⟨v, ?_, h4⟩
    have hj : j < vs.length := (List.getElem?_eq_some_iff.1 h3).1
    rw [h1, Nat.zero_add, Array.getElem?_append_left (by simpa using hj)]
    simpa using h3
  · simp; omega
  · have fin : Holds (rdRes s' res) (fun v => K v s') → bodyPost P fn (fun e w' => ∃ (v : Value) (av : AV) (s' : St), e = .returned v ∧ K av s' ∧ ∃ a' : Act, a'.tmps = #[v] ∧ SatS w0 S 1 [] ⟨[(0, av)], s'.hl, s'.nb⟩ a' w') .normal a' w' := by
      rintro ⟨av, hav, hK⟩
      obtain ⟨u, hu, hr⟩ := results_ok hres hs' hav
      refine ⟨hD, u, hu, u, av, s', rfl, hK, { a' with tmps := #[u], defers := [] }, rfl, ⟨Es', hs'.ne, hs'.cl, hs'.fr, hs'.pin, fun ρ hρ t ht => ?_, hs'.hp⟩, rfl, rfl⟩
      simp only [lk] at ht ⊢
      split at ht
      · rename_i e; subst e; exact ⟨u, rfl, hr ρ hρ⟩
      · exact absurd rfl ht
    cases e with
    | normal => exact fin hq
    | ret => exact fin hq
    | _ => exact hq.elim

end
end Go.W
