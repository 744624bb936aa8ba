/- Maps by integers, and what goes over them: states with maps. What the operations on maps do. -/
import Derived.Test.YtfkdcpgphindiaaWkC
import Derived.Test.YtfkdcpgphindiaaWRb
import Derived.Maps.RangeRun
set_option linter.unusedSimpArgs false
set_option linter.unusedVariables false
namespace Go.W

/-- A map by integers, its entries as they came; what goes over the map of a block, and the places it has seen. -/
inductive XObj where
  | mp (es : List (Int × AV))
  | it (m n : Nat) (seen : List Nat)

abbrev Ms := List (Nat × XObj)

def getM : Ms → Nat → Option XObj
  | [], _ => none
  | (k, o) :: r, b => if k = b then some o else getM r b
def setM : Ms → Nat → XObj → Ms
  | [], _, _ => []
  | (k, o) :: r, b, o' => if k = b then (k, o') :: r else (k, o) :: setM r b o'

def XOk (w : World) (b : Nat) : XObj → Prop
  | .mp es => ∃ ents : Array MapEntry, w.heap[b]? = some (.map ents es.length) ∧ ents.size = es.length ∧ ∀ (i : Nat) (k : Int) (v : AV), es[i]? = some (k, v) → ∃ x, ents[i]? = some ⟨.int .i64 k, x, i⟩ ∧ ∀ ρ, Rep ρ v x
  | .it m n seen => w.heap[b]? = some (.mapIter (some m) n seen.toArray n)

theorem XOk.same {w w' : World} {b : Nat} {o : XObj} (h : XOk w b o) (hb : w'.heap[b]? = w.heap[b]?) : XOk w' b o := by
  cases o with
  | mp es => obtain ⟨ents, h1, h2⟩ := h; exact ⟨ents, by rw [hb]; exact h1, h2⟩
  | it m n seen => exact (hb.trans h : _)

theorem XOk.noncell {w : World} {b : Nat} {o : XObj} (h : XOk w b o) (off : Nat) : w.cell? ⟨b, off, none⟩ = none := by
  cases o with
  | mp es => obtain ⟨ents, h1, h2⟩ := h; simp only [World.cell?, h1]
  | it m n seen => have h' : w.heap[b]? = some (.mapIter (some m) n seen.toArray n) := h; simp only [World.cell?, h']

/-- A later world, and what may be touched from there on. -/
structure Upon (w0 : World) (S : Sc) (w1 : World) (S1 : Sc) : Prop where
  os : w1.os = w0.os
  tape : w1.tape = w0.tape
  output : w1.output = w0.output
  size : w0.heap.size ≤ w1.heap.size
  frame : ∀ b, b < w0.heap.size → ¬ S.own b → w1.heap[b]? = w0.heap[b]?
  own : ∀ b, S1.own b → w0.heap.size ≤ b ∨ S.own b
  m : S1.m = S.m
  A : S1.A = S.A

theorem Upon.refl (w0 : World) (S : Sc) : Upon w0 S w0 S := ⟨rfl, rfl, rfl, Nat.le_refl _, fun _ _ _ => rfl, fun _ h => .inr h, rfl, rfl⟩

structure MsOk (w0 w1 : World) (S1 : Sc) (ms : Ms) : Prop where
  nd : (ms.map (·.1)).Nodup
  ok : ∀ p, p ∈ ms → XOk w1 p.1 p.2 ∧ p.1 < w1.heap.size ∧ ¬ S1.own p.1 ∧ w0.heap.size ≤ p.1

theorem getM_mem : ∀ {ms : Ms} {b : Nat} {o : XObj}, getM ms b = some o → (b, o) ∈ ms
  | (k, o) :: r, b, o', h => by
    simp only [getM] at h
    split at h
    · rename_i e; subst e; injection h with h; subst h; exact List.mem_cons_self
    · exact List.mem_cons_of_mem _ (getM_mem h)
theorem getM_none : ∀ {ms : Ms} {b : Nat}, b ∉ ms.map (·.1) → getM ms b = none
  | [], _, _ => rfl
  | (k, o) :: r, b, h => by
    simp only [List.map_cons, List.mem_cons, not_or] at h
    simp only [getM]
    rw [if_neg (fun e => h.1 e.symm), getM_none h.2]
theorem setM_keys : ∀ (ms : Ms) (b : Nat) (o : XObj), (setM ms b o).map (·.1) = ms.map (·.1)
  | [], _, _ => rfl
  | (k, o) :: r, b, o' => by
    simp only [setM]
    split
    · rfl
    · simp only [List.map_cons, setM_keys r b o']
theorem setM_mem : ∀ {ms : Ms} {b : Nat} {o : XObj} {p : Nat × XObj}, (ms.map (·.1)).Nodup → p ∈ setM ms b o → p = (b, o) ∨ (p ∈ ms ∧ p.1 ≠ b)
  | [], _, _, p, _, h => by simp [setM] at h
  | (k, o) :: r, b, o', p, hn, h => by
    simp only [List.map_cons, List.nodup_cons] at hn
    simp only [setM] at h
    split at h
    · rename_i e
      subst e
      rcases List.mem_cons.1 h with rfl | h
      · exact .inl rfl
      · exact .inr ⟨List.mem_cons_of_mem _ h, fun e => hn.1 (by rw [← e]; exact List.mem_map_of_mem h)⟩
    · rename_i e
      rcases List.mem_cons.1 h with rfl | h
      · exact .inr ⟨List.mem_cons_self, e⟩
      · rcases setM_mem hn.2 h with h | ⟨h1, h2⟩
        · exact .inl h
        · exact .inr ⟨List.mem_cons_of_mem _ h1, h2⟩

section
variable {w0 w1 : World} {S S1 : Sc} {Es : Env → Prop} {U : Nm → Prop} {T : Nat → AV} {H : Nm → AObj} {a : Act} {w w' : World}

theorem Reg.gone {ρ : Env} {L : Loc} {sz n : Nat} {f : Nat → List AV} (h : Reg ρ L sz n f w) (hz : ∀ off, w.cell? ⟨L.blk, off, none⟩ = none) : Reg ρ L sz n f w' :=
  ⟨h.nn, h.esz, h.cap, h.len, fun i hi j v hv => by
    obtain ⟨x, h1, _⟩ := h.cell i hi j v hv
    rw [hz] at h1; cases h1⟩
theorem Room.gone {L : Loc} {sz : Nat} (h : Room L sz w) (hz : ∀ off, w.cell? ⟨L.blk, off, none⟩ = none) : Room L sz w' := fun k hk => by
  have := (h k hk).1
  rw [hz] at this; cases this
theorem ObjOk.gone {ρ : Env} {L : Loc} {o : AObj} (h : ObjOk ρ L o w) (hz : ∀ off, w.cell? ⟨L.blk, off, none⟩ = none) : ObjOk ρ L o w' := by
  cases o with
  | free => trivial
  | cells c => exact ⟨h.1.gone hz, h.2.gone hz⟩
  | arr sz n f => exact h.imp id fun h => ⟨h.1.gone hz, h.2.gone hz⟩
  | view sz n f => exact h.imp id fun h => h.gone hz

/-- What is owned now. -/
def reS (Es : Env → Prop) (H : Nm → AObj) (S : Sc) : Sc := ⟨fun b => ∃ ρ x, Es ρ ∧ Owned (ρ x) (H x) ∧ (ρ x).blk = b, S.m, S.A⟩

/-- A world of which a block that is no row of cells was changed, or got a new block. -/
structure Chg (w w' : World) (b0 : Nat) : Prop where
  os : w'.os = w.os
  tape : w'.tape = w.tape
  output : w'.output = w.output
  size : w.heap.size ≤ w'.heap.size
  same : ∀ b, b < w.heap.size → b ≠ b0 → w'.heap[b]? = w.heap[b]?
  gone : b0 < w.heap.size → ∀ off, w.cell? ⟨b0, off, none⟩ = none

theorem Sat.rebase (h : Sat w1 S1 Es U T H a w) {b0 : Nat} (hc : Chg w w' b0) (hb0 : b0 < w.heap.size → ¬ S1.own b0 ∧ b0 < w1.heap.size) : Sat w' (reS Es H S1) Es U T H a w' where
  ne := h.ne
  cl := h.cl
  fr := h.fr
  pin := h.pin
  tm := h.tm
  hp := fun ρ hρ => by
    have c := h.hp ρ hρ
    have lt : ∀ x, Owned (ρ x) (H x) ∨ Viewed (ρ x) (H x) → (ρ x).blk < w.heap.size := fun x hx => by
      rcases hx with hx | hx
      · exact (c.own x hx).1
      · exact Nat.lt_of_lt_of_le (c.vw x hx).1 c.size
    refine ⟨rfl, rfl, rfl, Nat.le_refl _, fun _ _ _ => rfl, fun x => ?_, fun x hx => ⟨Nat.lt_of_lt_of_le (lt x (.inl hx)) hc.size, .inr ⟨ρ, x, hρ, hx, rfl⟩⟩, c.dist, fun x hx => ⟨Nat.lt_of_lt_of_le (lt x (.inr hx)) hc.size, fun ⟨ρ', y, hρ', hy, e⟩ => ?_⟩, c.an⟩
    · by_cases ho : Owned (ρ x) (H x) ∨ Viewed (ρ x) (H x)
      · by_cases e : (ρ x).blk = b0
        · exact (c.obj x).gone (by rw [e]; exact hc.gone (by rw [← e]; exact lt x ho))
        · exact (c.obj x).same (hc.same _ (lt x ho) e)
      · exact (c.obj x).nil_same (fun h => ho (.inl h)) (fun h => ho (.inr h))
    · have c' := h.hp ρ' hρ'
      have v := c.vw x hx
      rcases (c'.own y hy).2 with h1 | h1
      · omega
      · rw [e] at h1; exact v.2 h1

theorem Upon.next (hu : Upon w0 S w1 S1) (h : Sat w1 S1 Es U T H a w) {b0 : Nat} (hc : Chg w w' b0) (hb0 : w0.heap.size ≤ b0) : Upon w0 S w' (reS Es H S1) := by
  obtain ⟨ρ0, h0⟩ := h.ne
  have c := h.hp ρ0 h0
  refine ⟨hc.os.trans (c.os.trans hu.os), hc.tape.trans (c.tape.trans hu.tape), hc.output.trans (c.output.trans hu.output), Nat.le_trans hu.size (Nat.le_trans c.size hc.size), fun b hb hs => ?_, fun b ⟨ρ, x, hρ, hx, e⟩ => ?_, hu.m, hu.A⟩
  · have hs1 : ¬ S1.own b := fun h1 => by
      rcases hu.own b h1 with h2 | h2
      · omega
      · exact hs h2
    rw [hc.same b (Nat.lt_of_lt_of_le (Nat.lt_of_lt_of_le hb hu.size) c.size) (by omega), c.frame b (Nat.lt_of_lt_of_le hb hu.size) hs1]
    exact hu.frame b hb hs
  · rcases ((h.hp ρ hρ).own x hx).2 with h1 | h1
    · have := hu.size; left; omega
    · rw [e] at h1; exact hu.own b h1

theorem MsOk.keep {ms : Ms} (hm : MsOk w0 w1 S1 ms) (h : Sat w1 S1 Es U T H a w) {b0 : Nat} (hc : Chg w w' b0) {p : Nat × XObj} (hp : p ∈ ms) (hne : p.1 ≠ b0) : XOk w' p.1 p.2 ∧ p.1 < w'.heap.size ∧ ¬ (reS Es H S1).own p.1 ∧ w0.heap.size ≤ p.1 := by
  obtain ⟨ρ0, h0⟩ := h.ne
  have c := h.hp ρ0 h0
  obtain ⟨q1, q2, q3, q4⟩ := hm.ok p hp
  have hlt : p.1 < w.heap.size := Nat.lt_of_lt_of_le q2 c.size
  refine ⟨(q1.same (c.frame _ q2 q3)).same (hc.same _ hlt hne), Nat.lt_of_lt_of_le hlt hc.size, fun ⟨ρ, x, hρ, hx, e⟩ => ?_, q4⟩
  rcases ((h.hp ρ hρ).own x hx).2 with h1 | h1
  · omega
  · rw [e] at h1; exact q3 h1

theorem MsOk.now {ms : Ms} (hm : MsOk w0 w1 S1 ms) (h : Sat w1 S1 Es U T H a w) {p : Nat × XObj} (hp : p ∈ ms) : XOk w p.1 p.2 ∧ p.1 < w.heap.size := by
  obtain ⟨ρ0, h0⟩ := h.ne
  have c := h.hp ρ0 h0
  obtain ⟨q1, q2, q3, q4⟩ := hm.ok p hp
  exact ⟨q1.same (c.frame _ q2 q3), Nat.lt_of_lt_of_le q2 c.size⟩

theorem not_owned {ms : Ms} (hm : MsOk w0 w1 S1 ms) (h : Sat w1 S1 Es U T H a w) {b : Nat} (hb : b ∈ ms.map (·.1)) : ¬ (reS Es H S1).own b := fun ⟨ρ, x, hρ, hx, e⟩ => by
  obtain ⟨p, hp, rfl⟩ := List.mem_map.1 hb
  obtain ⟨_, q2, q3, _⟩ := hm.ok p hp
  rcases ((h.hp ρ hρ).own x hx).2 with h1 | h1
  · omega
  · rw [e] at h1; exact q3 h1
end
end Go.W
set_option linter.unusedSimpArgs false
set_option linter.unusedVariables false
namespace Go.W
open Go.ChangeMaps (setBlock)

def findE : List (Int × AV) → Int → Option AV
  | [], _ => none
  | (k, v) :: r, n => if n = k then some v else findE r n
def putE : List (Int × AV) → Int → AV → List (Int × AV)
  | [], n, v => [(n, v)]
  | (k, u) :: r, n, v => if n = k then (k, v) :: r else (k, u) :: putE r n v

def lkV (ok : Bool) (z : AV) : Option AV → AV
  | some v => if ok = true then .tup [v, .bool true] else v
  | none => if ok = true then .tup [z, .bool false] else z

/-- What an operation on a map asks, and gives. -/
def mapStep (T : Nat → AV) (ms : Ms) (o : MapOp) (K : AV → Ms → Prop) : Prop :=
  match o with
  | .mk => ∀ b, getM ms b = none → K (.raw (.map (some b))) ((b, .mp []) :: ms)
  | .lk ok z x k => match x.ev T, k.ev T with
    | .raw (.map (some b)), .int .i64 n => (match getM ms b with
      | some (.mp es) => K (lkV ok z (findE es n)) ms
      | _ => False)
    | _, _ => False
  | .up x k v => match x.ev T, k.ev T with
    | .raw (.map (some b)), .int .i64 n => (match getM ms b with
      | some (.mp es) => (v.ev T).dat = true ∧ K .bot (setM ms b (.mp (putE es n (v.ev T))))
      | _ => False)
    | _, _ => False
  | .ln x => match x.ev T with
    | .raw (.map (some b)) => (match getM ms b with
      | some (.mp es) => K (.int .i64 es.length) ms
      | _ => False)
    | _ => False
  | .rg x => match x.ev T with
    | .raw (.map (some b)) => (match getM ms b with
      | some (.mp es) => ∀ b', getM ms b' = none → K (.raw (.pointer (some ⟨b', 0, none⟩))) ((b', .it b es.length []) :: ms)
      | _ => False)
    | _ => False
  | .nx x => match x.ev T with
    | .raw (.pointer (some ⟨b', 0, none⟩)) => (match getM ms b' with
      | some (.it b n seen) => (match getM ms b with
        | some (.mp es) => es.length = n ∧ (∀ (j : Nat) (k : Int) (v : AV), es[j]? = some (k, v) → j ∉ seen → K (.tup [.bool true, .int .i64 k, v]) (setM ms b' (.it b n (seen ++ [j])))) ∧ ((∀ j, j < n → j ∈ seen) → K (.tup [.bool false]) ms)
        | _ => False)
      | _ => False)
    | _ => False
  | .nt x => match x.ev T with
    | .raw (.pointer (some ⟨b', 0, none⟩)) => (match getM ms b' with
      | some (.it b n seen) => (match getM ms b, seen.getLast? with
        | some (.mp es), some j => es.length = n ∧ (match es[j]? with
          | some (k, v) => K (.tup [.int .i64 k, v]) ms
          | none => False)
        | _, _ => False)
      | _ => False)
    | _ => False
  | _ => False

inductive MapOf (P : Program) : Op → MapOp → Prop
  | mk (t e : TypeId) (h : mapE P t = some e) : MapOf P (.makeMap t none) .mk
  | lk (t e : TypeId) (ok : Bool) (z : AV) (x k : Operand) (h : mapE P t = some e) (hz : zeroV P e = some z) : MapOf P (.lookup t x k ok) (.lk ok z (rX x) (rX k))
  | up (t e : TypeId) (x k v : Operand) (h : mapE P t = some e) : MapOf P (.mapUpdate t x k v) (.up (rX x) (rX k) (rX v))
  | en (t e : TypeId) (z : AV) (x k : Operand) (h : mapE P t = some e) (hz : zeroV P e = some z) : MapOf P (.mapEntry t x k) (.en z (rX x) (rX k))
  | st (t e : TypeId) (x s v : Operand) (h : mapE P t = some e) : MapOf P (.entryStore t x s v) (.st (rX x) (rX s) (rX v))
  | rg (t e : TypeId) (x : Operand) (h : mapE P t = some e) : MapOf P (.range t x) (.rg (rX x))
  | nx (x : Operand) : MapOf P (.next x false) (.nx (rX x))
  | nt (x : Operand) : MapOf P (.entry x) (.nt (rX x))
  | ln (t k e : TypeId) (x : Operand) (h : P.underlying t = some (.map k e)) : MapOf P (.call { callee := .builtin .len, args := #[x], argTypes := #[t] }) (.ln (rX x))

theorem rOp_mp {P : Program} {op : Op} {mo : MapOp} (hm : rOp P op = some (.mp mo)) : MapOf P op mo := by
  cases op with
  | makeMap t r =>
    cases r with
    | none =>
      simp only [rOp, Option.map_eq_some_iff] at hm
      obtain ⟨e, h, hm⟩ := hm
      injection hm with hm; subst hm
      exact .mk t e h
    | some r => simp only [rOp, reduceCtorEq] at hm
  | lookup t x k ok =>
    simp only [rOp] at hm
    split at hm
    · rename_i e h
      simp only [Option.map_eq_some_iff] at hm
      obtain ⟨z, hz, hm⟩ := hm
      injection hm with hm; subst hm
      exact .lk t e ok z x k h hz
    · cases hm
  | mapUpdate t x k v =>
    simp only [rOp, Option.map_eq_some_iff] at hm
    obtain ⟨e, h, hm⟩ := hm
    injection hm with hm; subst hm
    exact .up t e x k v h
  | mapEntry t x k =>
    simp only [rOp] at hm
    split at hm
    · rename_i e h
      simp only [Option.map_eq_some_iff] at hm
      obtain ⟨z, hz, hm⟩ := hm
      injection hm with hm; subst hm
      exact .en t e z x k h hz
    · cases hm
  | entryStore t x k v =>
    simp only [rOp, Option.map_eq_some_iff] at hm
    obtain ⟨e, h, hm⟩ := hm
    injection hm with hm; subst hm
    exact .st t e x k v h
  | range t x =>
    simp only [rOp, Option.map_eq_some_iff] at hm
    obtain ⟨e, h, hm⟩ := hm
    injection hm with hm; subst hm
    exact .rg t e x h
  | next x b =>
    cases b with
    | true => simp only [rOp, reduceCtorEq] at hm
    | false => simp only [rOp, Option.some.injEq] at hm; injection hm with hm; subst hm; exact .nx x
  | entry x => simp only [rOp, Option.some.injEq] at hm; injection hm with hm; subst hm; exact .nt x
  | call c =>
    obtain ⟨callee, ca, aty⟩ := c
    cases callee with
    | value fo => simp only [rOp, Option.some.injEq, reduceCtorEq] at hm
    | invoke q s => simp only [rOp, reduceCtorEq] at hm
    | builtin b =>
      cases b <;> simp only [rOp, reduceCtorEq, Option.some.injEq] at hm
      case len =>
        split at hm
        · rename_i x t hx ht
          split at hm
          · injection hm with hm; cases hm
          · injection hm with hm; cases hm
          · rename_i k e h
            injection hm with hm; injection hm with hm; subst hm
            have e1 : ca = #[x] := by apply Array.ext'; simpa
            have e2 : aty = #[t] := by apply Array.ext'; simpa
            rw [e1, e2]
            exact .ln t k e x h
          · cases hm
        · cases hm
      all_goals exfalso
      all_goals (repeat' (split at hm))
      all_goals first | (cases hm; done) | (simp only [reduceCtorEq, Option.some.injEq] at hm; done)
  | alloc t => simp only [rOp] at hm; cases hz : zeroOf P t <;> simp [hz] at hm
  | build t ps =>
    exfalso
    simp only [rOp] at hm
    (repeat' (split at hm))
    all_goals first | (cases hm; done) | (simp only [Option.map_eq_some_iff, reduceCtorEq, and_false, exists_false] at hm; done)
  | buildSlice t n ps =>
    exfalso
    simp only [rOp] at hm
    (repeat' (split at hm))
    all_goals first | (cases hm; done) | (simp only [Option.map_eq_some_iff, reduceCtorEq, and_false, exists_false] at hm; done)
  | slice t x lo hi mx =>
    exfalso
    cases mx <;> simp only [rOp, reduceCtorEq] at hm
    (repeat' (split at hm))
    all_goals first | (cases hm; done) | (simp only [reduceCtorEq, Option.some.injEq] at hm; done)
  | makeFunc fn q q2 =>
    exfalso
    cases fn <;> simp only [rOp, reduceCtorEq] at hm
    (repeat' (split at hm))
    all_goals first | (cases hm; done) | (simp only [reduceCtorEq, Option.some.injEq] at hm; done)
  | _ =>
    exfalso
    simp only [rOp, reduceCtorEq, Option.some.injEq] at hm
    try (repeat' (split at hm))
    all_goals first | (cases hm; done) | (simp only [reduceCtorEq, Option.some.injEq] at hm; done)

theorem mapE_of {P : Program} {t e : TypeId} (h : mapE P t = some e) : ∃ k, P.underlying t = some (.map k e) ∧ P.underlying k = some (.int .i64) := by
  unfold mapE at h
  split at h
  · rename_i k e' h1
    split at h
    · rename_i h2; injection h with h; subst h; exact ⟨k, h1, h2⟩
    · cases h
  · cases h

theorem zeroV_run {P : Program} {t : TypeId} {z : AV} (h : zeroV P t = some z) : ∃ zv, (∀ w : World, (zeroValue t).run P w = .ok zv w) ∧ ∀ ρ, Rep ρ z zv := by
  unfold zeroV at h
  split at h
  · rename_i i hi
    split at h
    · rename_i zv hz
      injection h with h; subst h
      exact ⟨zv, fun w => by simp [zeroValue, typeInfo, hi, hz], fun ρ => Rep_ofV ρ zv⟩
    · cases h
  · cases h

/-- Finding a key among entries that stand so. -/
def Stand (es : List (Int × AV)) (ents : List MapEntry) (o : Nat) : Prop := ents.length = es.length ∧ ∀ (i : Nat) (k : Int) (v : AV), es[i]? = some (k, v) → ∃ x, ents[i]? = some ⟨.int .i64 k, x, o + i⟩ ∧ ∀ ρ, Rep ρ v x

theorem Stand.cons {k : Int} {v : AV} {es : List (Int × AV)} {ents : List MapEntry} {o : Nat} (h : Stand ((k, v) :: es) ents o) : ∃ x r, ents = ⟨.int .i64 k, x, o⟩ :: r ∧ (∀ ρ, Rep ρ v x) ∧ Stand es r (o + 1) := by
  obtain ⟨x, h1, h2⟩ := h.2 0 k v rfl
  cases ents with
  | nil => simp at h1
  | cons y r =>
    simp at h1
    subst h1
    refine ⟨x, r, rfl, h2, by have := h.1; simp at this; exact this, fun i k' v' hi => ?_⟩
    obtain ⟨x', h3, h4⟩ := h.2 (i + 1) k' v' (by simpa using hi)
    exact ⟨x', by have : o + (i + 1) = o + 1 + i := by omega
                  rw [this] at h3; simpa using h3, h4⟩

theorem find_stand : ∀ (es : List (Int × AV)) (ents : List MapEntry) (o j : Nat) (n : Int), Stand es ents o →
    (findE es n = none ∧ Instr.findNow (.int .i64) (.int .i64 n) ents j = some none) ∨ ∃ (i : Nat) (k : Int) (v : AV) (x : Value), es[i]? = some (k, v) ∧ k = n ∧ findE es n = some v ∧ (∀ ρ, Rep ρ v x) ∧ Instr.findNow (.int .i64) (.int .i64 n) ents j = some (some (j + i, x)) ∧ (∀ i', i' < i → ∀ k' v', es[i']? = some (k', v') → k' ≠ n) ∧ ents[i]? = some ⟨.int .i64 k, x, o + i⟩
  | [], ents, o, j, n, h => by
    have : ents = [] := List.length_eq_zero_iff.1 h.1
    subst this
    exact .inl ⟨rfl, rfl⟩
  | (k, v) :: es, ents, o, j, n, h => by
    obtain ⟨x, r, rfl, hx, hr⟩ := h.cons
    by_cases e : n = k
    · right
      subst e
      refine ⟨0, n, v, x, rfl, rfl, by simp [findE], hx, ?_, fun i' hi => absurd hi (Nat.not_lt_zero _), rfl⟩
      simp [Instr.findNow, Instr.sameNow]
    · have hs : Instr.findNow (.int .i64) (.int .i64 n) (⟨.int .i64 k, x, o⟩ :: r) j = Instr.findNow (.int .i64) (.int .i64 n) r (j + 1) := by
        have e' : (n == k) = false := by simpa using e
        simp [Instr.findNow, Instr.sameNow, e']
      rw [hs]
      rcases find_stand es r (o + 1) (j + 1) n hr with ⟨h1, h2⟩ | ⟨i, k', v', x', h1, h2, h3, h4, h5, h6, h7⟩
      · left; exact ⟨by simp only [findE]; rw [if_neg e]; exact h1, h2⟩
      · right
        refine ⟨i + 1, k', v', x', by simpa using h1, h2, by simp only [findE]; rw [if_neg e]; exact h3, h4, by rw [h5]; congr 3; omega, fun i' hi k'' v'' hk => ?_, by rw [show o + (i + 1) = o + 1 + i from by omega]; simpa using h7⟩
        cases i' with
        | zero => simp at hk; rw [← hk.1]; exact fun e' => e e'.symm
        | succ i' => exact h6 i' (by omega) k'' v'' (by simpa using hk)

theorem putE_at {es : List (Int × AV)} {n : Int} {v : AV} : ∀ {i : Nat} {k : Int} {u : AV}, es[i]? = some (k, u) → k = n → (∀ i', i' < i → ∀ k' v', es[i']? = some (k', v') → k' ≠ n) → putE es n v = es.set i (n, v) := by
  induction es with
  | nil => intro i k u h; simp at h
  | cons p es ih =>
    obtain ⟨k0, u0⟩ := p
    intro i k u h hk hlt
    cases i with
    | zero =>
      simp at h
      obtain ⟨rfl, rfl⟩ := h
      subst hk
      simp [putE]
    | succ i =>
      have hne : k0 ≠ n := hlt 0 (by omega) k0 u0 rfl
      simp only [putE]
      rw [if_neg (fun e => hne e.symm), ih (by simpa using h) hk fun i' hi k' v' h' => hlt (i' + 1) (by omega) k' v' (by simpa using h')]
      rfl
theorem putE_none : ∀ {es : List (Int × AV)} {n : Int} {v : AV}, findE es n = none → putE es n v = es ++ [(n, v)]
  | [], _, _, _ => rfl
  | (k, u) :: es, n, v, h => by
    simp only [findE] at h
    split at h
    · cases h
    · rename_i e
      simp only [putE]
      rw [if_neg e, putE_none h]; rfl
end Go.W
