/- A function's beginning and end; specifications told of a function's own few objects. -/
import Derived.Test.YthehmmodkhoieaaVcL
namespace Go.Vc

/-- A result's place. -/
inductive RV where
  | t (n : Nat)
  | c (ag : Bool) (n a : Nat)

def rRV (P : Program) : ResultVar → Option RV
  | .tmp t => some (.t t)
  | .cell a t => match isAg P t, szOf P t with
    | some ag, some n => some (.c ag n a)
    | _, _ => none

def rRVs (P : Program) : List ResultVar → Option (List RV)
  | [] => some []
  | x :: r => match rRV P x, rRVs P r with
    | some y, some q => some (y :: q)
    | _, _ => none

def rdRV (s : St) : RV → Option AV
  | .t n => match lk s.tl n with
    | .bot => none
    | v => some v
  | .c ag n a => match lk s.tl a with
    | .ptr o i f => match elemOf (hk s.hl o) i with
      | some c => if ag = true then (if f + n ≤ c.length then some (.agg ((c.drop f).take n)) else none) else c[f]?
      | none => none
    | _ => none

def rdAll (s : St) : List RV → Option (List AV)
  | [] => some []
  | x :: r => match rdRV s x, rdAll s r with
    | some y, some q => some (y :: q)
    | _, _ => none

def rdRes (s : St) : List RV → Option AV
  | [x] => rdRV s x
  | l => match rdAll s l with
    | some q => some (.tup q)
    | none => none

def retK (res : List RV) (K : AV → St → Prop) : Exit → St → Prop
  | .normal, s => Holds (rdRes s res) fun v => K v s
  | .ret, s => Holds (rdRes s res) fun v => K v s
  | _, _ => False

def argL : Nat → List AV → List (Nat × AV)
  | _, [] => []
  | i, v :: r => (i, v) :: argL (i + 1) r

theorem lk_argL : ∀ (avs : List AV) (i t : Nat), lk (argL i avs) t ≠ .bot → ∃ j, t = i + j ∧ avs[j]? = some (lk (argL i avs) t)
  | [], _, _, h => absurd rfl h
  | v :: r, i, t, h => by
    simp only [argL, lk] at h ⊢
    split
    · rename_i e; exact ⟨0, by omega, by simp⟩
    · rename_i e
      rw [if_neg e] at h
      obtain ⟨j, h1, h2⟩ := lk_argL r (i + 1) t h
      exact ⟨j + 1, by omega, by simpa using h2⟩

section
variable {P : Program} {w0 : World} {S : Sc}

theorem rdRV_ok {s : St} {Es : Env → Prop} {U : Nat → Prop} {a : Act} {w : World} (h : Sat w0 S Es U (lk s.tl) (hk s.hl) a w) {x : ResultVar} {r : RV} (hx : rRV P x = some r) {v : AV} (hv : rdRV s r = some v) :
    ∃ u, (match x with | .tmp t => pure (a.tmps.getD t undef) | .cell b t => do loadVar t (← asAddr (a.tmps.getD b undef)) : Sem Value).run P w = .ok u w ∧ ∀ ρ, Es ρ → Rep ρ v u := by
  obtain ⟨ρ0, h0⟩ := h.ne
  cases x with
  | tmp t =>
    simp only [rRV, Option.some.injEq] at hx
    subst hx
    have hv' : lk s.tl t = v ∧ v ≠ .bot := by
      simp only [rdRV] at hv
      split at hv
      · cases hv
      · rename_i hne; injection hv with hv; exact ⟨hv, fun e => hne (by rw [hv, e])⟩
    refine ⟨a.tmps.getD t undef, rfl, fun ρ hρ => ?_⟩
    obtain ⟨u, h1, h2⟩ := h.tm ρ hρ t (by rw [hv'.1]; exact hv'.2)
    rw [Array.getD_eq_getD_getElem?, h1, ← hv'.1]
    exact h2
  | cell b t =>
    simp only [rRV] at hx
    split at hx
    · rename_i ag n hag hn
      injection hx with hx
      subst hx
      simp only [rdRV] at hv
      split at hv
      · rename_i o i f hp
        split at hv
        · rename_i c hc
          have addr : ∀ ρ, Es ρ → (ρ o).nil = false ∧ a.tmps.getD b undef = .pointer (some ⟨(ρ o).blk, (ρ o).base + (i * (ρ o).sz + f), none⟩) := fun ρ hρ => by
            obtain ⟨u, h1, h2⟩ := h.tm ρ hρ b (by rw [hp]; simp)
            rw [hp, Rep] at h2
            exact ⟨h2.1, by rw [Array.getD_eq_getD_getElem?, h1]; exact h2.2⟩
          have pt : ∀ ρ, Es ρ → ∃ u, (do loadVar t (← asAddr (a.tmps.getD b undef)) : Sem Value).run P w = .ok u w ∧ Rep ρ v u := fun ρ hρ => by
            obtain ⟨hnil, hav⟩ := addr ρ hρ
            obtain ⟨vs, h1, h2, h3, h4⟩ := elem_range ((h.hp ρ hρ).obj o) hc hnil
            cases ag
            · simp only [Bool.false_eq_true, if_false] at hv
              obtain ⟨u, hu, hr⟩ := h1.get hv
              have := h2 f u hu
              exact ⟨u, by simp [hav, asAddr, loadVar, run_isAg hag, ← Nat.add_assoc, this], hr⟩
            · simp only [if_true] at hv
              split at hv
              · rename_i hle
                injection hv with hv
                subst hv
                have h5 := rangeAt_take (rangeAt_drop h2 f) n
                have h6 := (h1.drop f).take n
                obtain ⟨d, hd1, hd2⟩ := isAg_row hag
                have hlen : ((vs.drop f).take n).length = n := by have := h1.length; simp; omega
                have := run_loadVar_mid (P := P) w (ρ o).blk ((ρ o).base + i * (ρ o).sz + f) t _ d h5 hd1 hd2 (by rw [hlen]; exact hn)
                exact ⟨.agg ((vs.drop f).take n).toArray, by simp [hav, asAddr, ← Nat.add_assoc, this], by rw [Rep]; exact ⟨_, rfl, by simpa using h6⟩⟩
              · cases hv
          obtain ⟨u, h1, _⟩ := pt ρ0 h0
          refine ⟨u, h1, fun ρ hρ => ?_⟩
          obtain ⟨u', h1', h2'⟩ := pt ρ hρ
          rw [h1] at h1'
          injection h1' with h1' _
          rw [h1']; exact h2'
        · cases hv
      · cases hv
    · cases hx

theorem rdAll_length {s : St} : ∀ (l : List RV) (q : List AV), rdAll s l = some q → q.length = l.length
  | [], q, h => by simp only [rdAll, Option.some.injEq] at h; subst h; rfl
  | x :: l, q, h => by
    simp only [rdAll] at h
    split at h
    · rename_i h3
      injection h with h
      subst h
      simp [rdAll_length l _ h3]
    · cases h

theorem results_ok {fn : Func} {res : List RV} (hres : rRVs P fn.results.toList = some res) {s : St} {Es : Env → Prop} {U : Nat → Prop} {a : Act} {w : World} (h : Sat w0 S Es U (lk s.tl) (hk s.hl) a w) {v : AV} (hv : rdRes s res = some v) :
    ∃ u, (results fn a.tmps).run P w = .ok u w ∧ ∀ ρ, Es ρ → Rep ρ v u := by
  have all : ∀ (l : List ResultVar) (res : List RV) (q : List AV), rRVs P l = some res → rdAll s res = some q → ∃ us : List Value, (l.mapM fun (x : ResultVar) => (match x with | .tmp t => pure (a.tmps.getD t undef) | .cell b t => do loadVar t (← asAddr (a.tmps.getD b undef)) : Sem Value)).run P w = .ok us w ∧ ∀ ρ, Es ρ → RepL ρ q us := by
    intro l
    induction l with
    | nil => intro res q h1 h2; simp only [rRVs, Option.some.injEq] at h1; subst h1; simp only [rdAll, Option.some.injEq] at h2; subst h2; exact ⟨[], rfl, fun _ _ => rfl⟩
    | cons x l ih =>
      intro res q h1 h2
      simp only [rRVs] at h1
      cases hx : rRV P x with
      | none => simp [hx] at h1
      | some y =>
        cases hl : rRVs P l with
        | none => simp [hx, hl] at h1
        | some ys =>
          simp only [hx, hl, Option.some.injEq] at h1
          subst h1
          simp only [rdAll] at h2
          cases hy : rdRV s y with
          | none => simp [hy] at h2
          | some u =>
            cases hq : rdAll s ys with
            | none => simp [hy, hq] at h2
            | some us =>
              simp only [hy, hq, Option.some.injEq] at h2
              subst h2
              obtain ⟨u1, r1, r2⟩ := rdRV_ok (P := P) h hx hy
              obtain ⟨us1, s1, s2⟩ := ih ys us hl hq
              refine ⟨u1 :: us1, ?_, fun ρ hρ => ⟨u1, us1, rfl, r2 ρ hρ, s2 ρ hρ⟩⟩
              rw [List.mapM_cons, Sem.run_bind, r1, Result.andThen_ok, Sem.run_bind, s1]
              rfl
  have hm : ∃ q, rdAll s res = some q ∧ ((∃ u, q = [u] ∧ v = u) ∨ (q.length ≠ 1 ∧ v = .tup q)) := by
    unfold rdRes at hv
    split at hv
    · exact ⟨[v], by simp [rdAll, hv], .inl ⟨v, rfl, rfl⟩⟩
    · rename_i hne
      split at hv
      · rename_i q hq
        injection hv with hv
        refine ⟨q, hq, .inr ⟨fun hlen => ?_, hv.symm⟩⟩
        have := rdAll_length res q hq
        match res, this with
        | [x], _ => exact hne x rfl
        | [], h => rw [hlen] at h; simp at h
        | x :: y :: l, h => rw [hlen] at h; simp at h
      · cases hv
  obtain ⟨q, hq, hqv⟩ := hm
  obtain ⟨us, h1, h2⟩ := all fn.results.toList res q hres hq
  obtain ⟨ρ0, h0⟩ := h.ne
  have hlen := (h2 ρ0 h0).length
  have hrun : (results fn a.tmps).run P w = .ok (if h : us.toArray.size = 1 then us.toArray[0] else .tuple us.toArray) w := by
    unfold results
    rw [Array.mapM_eq_mapM_toList, Sem.run_bind, Sem.run_map]
    exact congrArg (fun r : Result (List Value) => (r.andThen fun a w' => Result.ok a.toArray w').andThen fun a w' => (pure (if h : a.size = 1 then a[0] else Value.tuple a) : Sem Value).run P w') h1
  rcases hqv with ⟨u, rfl, rfl⟩ | ⟨hne, rfl⟩
  · obtain ⟨x, rfl⟩ := List.length_eq_one_iff.1 hlen
    refine ⟨x, by simpa using hrun, fun ρ hρ => ?_⟩
    obtain ⟨y, r, e, h3, _⟩ := h2 ρ hρ
    injection e with e1 e2
    rw [e1]; exact h3
  · refine ⟨.tuple us.toArray, ?_, fun ρ hρ => by rw [Rep]; exact ⟨_, rfl, h2 ρ hρ⟩⟩
    rw [dif_neg (by simp; omega)] at hrun
    exact hrun

/-- A FUNCTION's BODY, WALKED. -/
theorem calls_of_Wm {f : FuncId} {fn : Func} {c : Code} {mc : MCode} {res : List RV} (hf : P.funcs[f]? = some fn) (hb : fn.body = some c) (hrc : rC P c = some mc) (hres : rRVs P fn.results.toList = some res)
    {avs : List AV} {vs : List Value} {hl : List (Nat × AObj)} {nb : Nat} {Es : Env → Prop} {w : World} (hne : ∃ ρ, Es ρ) (hcl : ∀ ρ ρ', Es ρ → (∀ x, ¬ nb ≤ x → ρ' x = ρ x) → Es ρ') (hkeys : ∀ p, p ∈ hl → p.1 < nb) (hpin : ∀ ρ ρ', Es ρ → Es ρ' → ∀ x, hk hl x ≠ .free → ρ x = ρ' x) (hp : ∀ ρ, Es ρ → HCore w0 S ρ (hk hl) w) (hargs : ∀ ρ, Es ρ → RepL ρ avs vs) (hlen : avs.length ≤ fn.ntmps)
    {K : AV → St → Prop} (h : Wm P w0 S fn.ntmps [] mc ⟨argL 0 avs, hl, nb⟩ (retK res K)) :
    Calls P f vs.toArray w fun e w' => ∃ (v : Value) (av : AV) (s' : St), e = .returned v ∧ K av s' ∧ ∃ Es' : Env → Prop, (∃ ρ, Es' ρ) ∧ ∀ ρ, Es' ρ → Rep ρ av v ∧ HCore w0 S ρ (hk s'.hl) w' := by
  obtain ⟨ρ0, h0⟩ := hne
  have hvl := (hargs ρ0 h0).length
  refine calls_of_wp hf hb (wp_mono (h c hrc _ w ⟨⟨Es, ⟨ρ0, h0⟩, hcl, fun x hx => ?_, hpin, fun ρ hρ t ht => ?_, hp⟩, ?_, rfl⟩) fun e a' w' ⟨s', ⟨⟨Es', hs'⟩, _, hD⟩, hq⟩ => ?_)
  · by_cases hfr : hk hl x = .free
    · exact hfr
    · have := hkeys _ (hk_mem hfr)
      simp only at this hx
      omega
  · obtain ⟨j, h1, h2⟩ := lk_argL avs 0 t ht
    obtain ⟨v, h3, h4⟩ := (hargs ρ hρ).get h2
    refine ⟨v, ?_, h4⟩
    have hj : j < vs.length := (List.getElem?_eq_some_iff.1 h3).1
    rw [h1, Nat.zero_add, Array.getElem?_append_left (by simpa using hj)]
    simpa using h3
  · simp; omega
  · have fin : Holds (rdRes s' res) (fun v => K v s') → bodyPost P fn (fun e w' => ∃ (v : Value) (av : AV) (s' : St), e = .returned v ∧ K av s' ∧ ∃ Es' : Env → Prop, (∃ ρ, Es' ρ) ∧ ∀ ρ, Es' ρ → Rep ρ av v ∧ HCore w0 S ρ (hk s'.hl) w') .normal a' w' := by
      rintro ⟨av, hav, hK⟩
      obtain ⟨u, hu, hr⟩ := results_ok hres hs' hav
      exact ⟨hD, u, hu, u, av, s', rfl, hK, Es', hs'.ne, fun ρ hρ => ⟨hr ρ hρ, hs'.hp ρ hρ⟩⟩
    cases e with
    | normal => exact fin hq
    | ret => exact fin hq
    | _ => exact hq.elim

end
end Go.Vc
