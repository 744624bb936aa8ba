/- An evaluator of resolved code: a trie by numbers, states, what an operation and what code come to. -/
import Derived.Test.YtmbploeikjangaaGreatWZ
import Derived.LoopN
set_option linter.unusedSimpArgs false
set_option linter.unusedVariables false
namespace Go.W

/-- A trie by numbers. -/
inductive Tr (α : Type) where
  | nil
  | node (v : Option α) (l r : Tr α)

def Tr.get {α : Type} : Tr α → Nat → Option α
  | .nil, _ => none
  | .node v l r, k => match Nat.beq k 0 with
    | true => v
    | false => match Nat.beq ((k - 1) % 2) 0 with
      | true => l.get ((k - 1) / 2)
      | false => r.get ((k - 1) / 2)

def Tr.put {α : Type} : Nat → Tr α → Nat → α → Tr α
  | 0, t, _, _ => t
  | n + 1, t, k, x => match t with
    | .nil => (match Nat.beq k 0 with
      | true => .node (some x) .nil .nil
      | false => match Nat.beq ((k - 1) % 2) 0 with
        | true => .node none (Tr.put n .nil ((k - 1) / 2) x) .nil
        | false => .node none .nil (Tr.put n .nil ((k - 1) / 2) x))
    | .node v l r => (match Nat.beq k 0 with
      | true => .node (some x) l r
      | false => match Nat.beq ((k - 1) % 2) 0 with
        | true => .node v (Tr.put n l ((k - 1) / 2) x) r
        | false => .node v l (Tr.put n r ((k - 1) / 2) x))

theorem Tr.get_put {α : Type} : ∀ (n : Nat) (t : Tr α) (k : Nat) (x : α) (j : Nat), k + 1 < 2 ^ n → (t.put n k x).get j = if j = k then some x else t.get j
  | 0, t, k, x, j, h => by simp at h
  | n + 1, t, k, x, j, h => by
    have ih := fun (t : Tr α) j => Tr.get_put n t ((k - 1) / 2) x j
    have key : ∀ v (l r : Tr α), (match Nat.beq k 0 with
      | true => Tr.node (some x) l r
      | false => match Nat.beq ((k - 1) % 2) 0 with
        | true => .node v (Tr.put n l ((k - 1) / 2) x) r
        | false => .node v l (Tr.put n r ((k - 1) / 2) x)).get j = if j = k then some x else (Tr.node v l r).get j := by
      intro v l r
      by_cases hk : k = 0
      · subst hk
        simp only [Nat.beq_refl, Tr.get]
        by_cases hj : j = 0
        · subst hj; simp
        · have : Nat.beq j 0 = false := by rw [← Bool.not_eq_true, Nat.beq_eq]; exact hj
          rw [this, if_neg hj]
      · have hb : Nat.beq k 0 = false := by rw [← Bool.not_eq_true, Nat.beq_eq]; exact hk
        have h2 : (k - 1) / 2 + 1 < 2 ^ n := by rw [Nat.pow_succ] at h; omega
        rw [hb]
        simp only
        by_cases hm : (k - 1) % 2 = 0
        · have : Nat.beq ((k - 1) % 2) 0 = true := by rw [Nat.beq_eq]; exact hm
          rw [this]
          simp only [Tr.get]
          by_cases hj : j = 0
          · subst hj; rw [if_neg (fun e => hk e.symm)]
          · have hjb : Nat.beq j 0 = false := by rw [← Bool.not_eq_true, Nat.beq_eq]; exact hj
            rw [hjb]
            simp only
            by_cases hjm : (j - 1) % 2 = 0
            · have : Nat.beq ((j - 1) % 2) 0 = true := by rw [Nat.beq_eq]; exact hjm
              rw [this]
              simp only
              rw [ih l _ h2]
              by_cases e : j = k
              · subst e; simp
              · rw [if_neg e, if_neg (by omega)]
            · have : Nat.beq ((j - 1) % 2) 0 = false := by rw [← Bool.not_eq_true, Nat.beq_eq]; exact hjm
              rw [this, if_neg (fun e => hjm (by rw [e]; exact hm))]
        · have : Nat.beq ((k - 1) % 2) 0 = false := by rw [← Bool.not_eq_true, Nat.beq_eq]; exact hm
          rw [this]
          simp only [Tr.get]
          by_cases hj : j = 0
          · subst hj; rw [if_neg (fun e => hk e.symm)]
          · have hjb : Nat.beq j 0 = false := by rw [← Bool.not_eq_true, Nat.beq_eq]; exact hj
            rw [hjb]
            simp only
            by_cases hjm : (j - 1) % 2 = 0
            · have : Nat.beq ((j - 1) % 2) 0 = true := by rw [Nat.beq_eq]; exact hjm
              rw [this, if_neg (fun e => hm (by rw [← e]; exact hjm))]
            · have : Nat.beq ((j - 1) % 2) 0 = false := by rw [← Bool.not_eq_true, Nat.beq_eq]; exact hjm
              rw [this]
              simp only
              rw [ih r _ h2]
              by_cases e : j = k
              · subst e; simp
              · rw [if_neg e, if_neg (by omega)]
    cases t with
    | nil =>
      have := key none .nil .nil
      simp only [Tr.put]
      refine Eq.trans ?_ (this.trans ?_)
      · cases Nat.beq k 0 <;> rfl
      · split
        · rfl
        · simp only [Tr.get]
          cases Nat.beq j 0 <;> simp only
          cases Nat.beq ((j - 1) % 2) 0 <;> rfl
    | node v l r => exact key v l r

/-- Names stay below. -/
abbrev bnd : Nat := 1000000000000

theorem Tr.get_put' {α : Type} {t : Tr α} {k : Nat} {x : α} (h : k ≤ bnd) (j : Nat) : (t.put 40 k x).get j = if j = k then some x else t.get j :=
  Tr.get_put 40 t k x j (by have : bnd + 1 < 2 ^ 40 := by decide
                            omega)

/-- A state of the evaluator: temporaries; objects that were written, and their names; names that were only read; the next name. -/
structure ES where
  t : Tr AV
  h : Tr NObj
  wl : List Nat
  rd : List Nat
  nb : Nat

def ES.T (s : ES) : Nat → AV := fun n => match s.t.get n with
  | some v => v
  | none => .bot

def ES.G (s : ES) (G : NH) : NH := fun x => match s.h.get x with
  | some o => o
  | none => G x

def ES.look (s : ES) : List Nat → ES
  | [] => s
  | x :: r => match s.h.get x with
    | some _ => s.look r
    | none => match s.rd.contains x with
      | true => s.look r
      | false => ES.look { s with rd := x :: s.rd } r

def ES.putH (s : ES) : List (Nat × NObj) → ES
  | [] => s
  | (x, o) :: r => ES.putH { s with h := s.h.put 40 x o, wl := match s.h.get x with
    | some _ => s.wl
    | none => x :: s.wl } r

def ES.next (s : ES) (dst : Option Nat) (q : Res) : ES :=
  let u := (s.look q.rd).putH q.hs
  ⟨match dst with
    | some d => s.t.put 40 d q.v
    | none => s.t, u.h, u.wl, u.rd, s.nb + q.n⟩

def evR (E : FuncId → Option Spec) (G : NH) : List MO → Nat → ES → List (Nat × List Nat × List Nat) → Option (ES × List (Nat × List Nat × List Nat))
  | [], _, s, lg => some (s, lg)
  | mo :: r, i, s, lg => match stepG E s.T (s.G G) s.nb mo with
    | some q => if (q.hs.all fun p => Nat.ble p.1 bnd) = true then evR E G r (i + 1) (s.next mo.dst q) (lg ++ [(i, q.hs.map (·.1), q.rd)]) else none
    | none => none

/-- What is ordered ahead of each operation. -/
def cloP : List (List Nat) → List (List Nat) → List (List Nat)
  | acc, [] => acc
  | acc, p :: r => cloP (acc ++ [(p ++ p.flatMap (fun j => acc.getD j [])).eraseDups]) r

/-- What goes on behind a normal end. -/
def thenE (r : Option (Exit × ES)) (k : ES → Option (Exit × ES)) : Option (Exit × ES) :=
  match r with
  | some (.normal, s) => k s
  | some (.exit j, s) => some (.exit j, s)
  | some (.ret, s) => some (.ret, s)
  | _ => none

def blockE (id : Nat) (r : Option (Exit × ES)) : Option (Exit × ES) :=
  match r with
  | some (.normal, s) => some (.normal, s)
  | some (.exit j, s) => if j = id then some (.normal, s) else some (.exit j, s)
  | some (.ret, s) => some (.ret, s)
  | _ => none

def evC (E : FuncId → Option Spec) (N : Nat) (G : NH) : Nat → MCode → ES → Option (Exit × ES)
  | 0, _, _ => none
  | n + 1, c, s => match c with
    | .skip => some (.normal, s)
    | .reg mos => if fits N mos = true then (match evR E G mos 0 s [] with
      | some x => some (.normal, x.1)
      | none => none) else none
    | .draw mos pr => if drawOk N mos pr (cloP [] pr) = true then (match evR E G mos 0 s [] with
      | some x => if dynB (prOf (cloP [] pr)) x.2 = true then some (.normal, x.1) else none
      | none => none) else none
    | .seq a b => thenE (evC E N G n a s) fun s' => evC E N G n b s'
    | .cond c a b => match c.ev s.T with
      | .bool true => evC E N G n a s
      | .bool false => evC E N G n b s
      | _ => none
    | .block id a => blockE id (evC E N G n a s)
    | .loop a => thenE (evC E N G n a s) fun s' => evC E N G n (.loop a) s'
    | .exit id => some (.exit id, s)
    | .ret => some (.ret, s)

theorem thenE_some {r : Option (Exit × ES)} {k : ES → Option (Exit × ES)} {e : Exit} {s : ES} (h : thenE r k = some (e, s)) : (∃ s1, r = some (.normal, s1) ∧ k s1 = some (e, s)) ∨ (r = some (e, s) ∧ e ≠ .normal) := by
  unfold thenE at h
  split at h
  · exact .inl ⟨_, rfl, h⟩
  · injection h with h; injection h with h1 h2; subst h1 h2; exact .inr ⟨rfl, by simp⟩
  · injection h with h; injection h with h1 h2; subst h1 h2; exact .inr ⟨rfl, by simp⟩
  · cases h

theorem blockE_some {id : Nat} {r : Option (Exit × ES)} {e : Exit} {s : ES} (h : blockE id r = some (e, s)) : ∃ e0, r = some (e0, s) ∧ e = (match e0 with
    | .exit j => if j = id then .normal else .exit j
    | e => e) := by
  unfold blockE at h
  split at h
  · injection h with h; injection h with h1 h2; subst h1 h2; exact ⟨_, rfl, rfl⟩
  · split at h
    · rename_i hj; injection h with h; injection h with h1 h2; subst h1 h2; exact ⟨_, rfl, by simp [hj]⟩
    · rename_i hj; injection h with h; injection h with h1 h2; subst h1 h2; exact ⟨_, rfl, by simp [hj]⟩
  · injection h with h; injection h with h1 h2; subst h1 h2; exact ⟨_, rfl, rfl⟩
  · cases h

/-- A result's temporaries, the objects that were written. -/
def ES.st (s : ES) (res : List RV) : St := ⟨res.map (fun r => match r with
  | .t n => (n, s.T n)
  | .c _ _ a => (a, s.T a)), s.wl.map (fun x => (x, s.G (fun _ => .free) x)), s.nb⟩

def argT : Nat → List AV → Tr AV → Tr AV
  | _, [], t => t
  | i, v :: r, t => argT (i + 1) r (t.put 40 i v)

def evE (E : FuncId → Option Spec) (N : Nat) (mc : MCode) (res : List RV) (args : List AV) (G : NH) (nb : Nat) : Option Res :=
  match evC E N G 100000 mc ⟨argT 0 args .nil, .nil, [], [], nb⟩ with
  | some (.normal, s) | some (.ret, s) => (match rdRes (s.st res) res with
    | some v => some ⟨v, s.wl.map (fun x => (x, s.G (fun _ => .free) x)), s.rd, s.nb - nb⟩
    | none => none)
  | _ => none

def evF (E : FuncId → Option Spec) (P : Program) (f : FuncId) (args : List AV) (G : NH) (nb : Nat) : Option Res :=
  match P.funcs[f]? with
  | some fn => (match rcOf P fn, rRVs P fn.results.toList with
    | some mc, some res => if args.length ≤ fn.ntmps ∧ fn.ntmps ≤ bnd then evE E fn.ntmps mc res args G nb else none
    | _, _ => none)
  | none => none

/-! ### What a state stands for -/
def ES.Ok (s : ES) : Prop := ∀ x, s.h.get x ≠ none → x ∈ s.wl

theorem look_h : ∀ (l : List Nat) (s : ES), (s.look l).h = s.h ∧ (s.look l).t = s.t ∧ (s.look l).wl = s.wl ∧ (s.look l).nb = s.nb ∧ (∀ x, x ∈ s.rd → x ∈ (s.look l).rd) ∧ ∀ x, x ∈ l → s.h.get x = none → x ∈ (s.look l).rd
  | [], s => ⟨rfl, rfl, rfl, rfl, fun _ h => h, fun x h => by simp at h⟩
  | y :: r, s => by
    simp only [ES.look]
    cases hy : s.h.get y with
    | some o =>
      obtain ⟨h1, h2, h3, h4, h5, h6⟩ := look_h r s
      refine ⟨h1, h2, h3, h4, h5, fun x hx hn => ?_⟩
      rcases List.mem_cons.1 hx with rfl | hx
      · rw [hy] at hn; cases hn
      · exact h6 x hx hn
    | none =>
      cases hc : s.rd.contains y with
      | true =>
        obtain ⟨h1, h2, h3, h4, h5, h6⟩ := look_h r s
        refine ⟨h1, h2, h3, h4, h5, fun x hx hn => ?_⟩
        rcases List.mem_cons.1 hx with rfl | hx
        · exact h5 _ (by simpa using hc)
        · exact h6 x hx hn
      | false =>
        obtain ⟨h1, h2, h3, h4, h5, h6⟩ := look_h r { s with rd := y :: s.rd }
        refine ⟨h1, h2, h3, h4, fun x hx => h5 x (List.mem_cons_of_mem _ hx), fun x hx hn => ?_⟩
        rcases List.mem_cons.1 hx with rfl | hx
        · exact h5 _ List.mem_cons_self
        · exact h6 x hx hn

theorem putH_ok (G : NH) : ∀ (hs : List (Nat × NObj)) (s : ES), (hs.all fun p => Nat.ble p.1 bnd) = true → s.Ok → (s.putH hs).Ok ∧ (s.putH hs).G G = updL (s.G G) hs ∧ (s.putH hs).t = s.t ∧ (s.putH hs).rd = s.rd ∧ (s.putH hs).nb = s.nb ∧ (∀ x, x ∈ (s.putH hs).wl ↔ x ∈ s.wl ∨ x ∈ hs.map (·.1)) ∧ ∀ x, (s.putH hs).h.get x = none → s.h.get x = none
  | [], s, _, h => ⟨h, rfl, rfl, rfl, rfl, fun x => by simp [ES.putH], fun x h => h⟩
  | (y, o) :: r, s, hb, h => by
    simp only [List.all_cons, Bool.and_eq_true, Nat.ble_eq] at hb
    have hg := fun j => Tr.get_put' (t := s.h) (x := o) hb.1 j
    have hwl : ∀ x, x ∈ (match s.h.get y with
      | some _ => s.wl
      | none => y :: s.wl) ↔ x ∈ s.wl ∨ x = y := fun x => by
      cases hy : s.h.get y with
      | some o' => simp only; exact ⟨.inl, fun hx => hx.elim id fun e => by rw [e]; exact h y (by rw [hy]; simp)⟩
      | none => simp only [List.mem_cons]; exact or_comm
    obtain ⟨h1, h2, h3, h4, h5, h6, h7⟩ := putH_ok G r { s with h := s.h.put 40 y o, wl := match s.h.get y with
      | some _ => s.wl
      | none => y :: s.wl } hb.2 (fun x hx => by
        simp only at hx ⊢
        rw [hwl]
        rw [hg] at hx
        by_cases e : x = y
        · exact .inr e
        · rw [if_neg e] at hx; exact .inl (h x hx))
    refine ⟨h1, ?_, h3, h4, h5, fun x => ?_, fun x hx => ?_⟩
    · show (ES.putH _ r).G G = _
      rw [h2]
      show updL _ r = updL (upd (s.G G) y o) r
      congr 1
      funext x
      simp only [ES.G, upd_apply, hg]
      by_cases e : x = y
      · rw [if_pos e, if_pos e]
      · rw [if_neg e, if_neg e]
    · show x ∈ (ES.putH _ r).wl ↔ _
      rw [h6]
      simp only [List.map_cons, List.mem_cons]
      rw [hwl]
      exact or_assoc
    · have := h7 x hx
      simp only [hg] at this
      split at this
      · cases this
      · exact this

theorem next_ok (G : NH) (s : ES) (mo : MO) (q : Res) (hb : (q.hs.all fun p => Nat.ble p.1 bnd) = true) (hd : ∀ d, mo.dst = some d → d ≤ bnd) (h : s.Ok) : (s.next mo.dst q).Ok ∧ (s.next mo.dst q).G G = updL (s.G G) q.hs ∧ (s.next mo.dst q).T = putT s.T mo q ∧ (s.next mo.dst q).nb = s.nb + q.n ∧
    (∀ x, x ∈ (s.next mo.dst q).wl ↔ x ∈ s.wl ∨ x ∈ q.hs.map (·.1)) ∧ (∀ x, x ∈ s.rd → x ∈ (s.next mo.dst q).rd) ∧ ∀ x, x ∈ q.rd → s.h.get x = none → x ∈ (s.next mo.dst q).rd := by
  obtain ⟨a1, a2, a3, a4, a5, a6⟩ := look_h q.rd s
  have hok : (s.look q.rd).Ok := fun x hx => by rw [a1] at hx; rw [a3]; exact h x hx
  obtain ⟨b1, b2, b3, b4, b5, b6, b7⟩ := putH_ok G q.hs (s.look q.rd) hb hok
  have hG : (s.look q.rd).G G = s.G G := by unfold ES.G; rw [a1]
  refine ⟨b1, by rw [← hG, ← b2]; rfl, ?_, rfl, fun x => by show x ∈ ((s.look q.rd).putH q.hs).wl ↔ _; rw [b6, a3], fun x hx => by show x ∈ ((s.look q.rd).putH q.hs).rd; rw [b4]; exact a5 x hx, fun x hx hn => by show x ∈ ((s.look q.rd).putH q.hs).rd; rw [b4]; exact a6 x hx hn⟩
  funext n
  unfold putT ES.T ES.next
  cases hdst : mo.dst with
  | none => rfl
  | some d =>
    simp only [upd_apply]
    rw [Tr.get_put' (hd d hdst)]
    by_cases e : n = d
    · rw [if_pos e, if_pos e]
    · rw [if_neg e, if_neg e]

end Go.W
