/- Abstract values, objects and the relation that ties them to a world. -/
import Derived.WalkKit
import Derived.Deep.MidRow
import Derived.Deep.AppendSrc
import Derived.Laws.MakeOwn
set_option linter.unusedSimpArgs false
set_option linter.unusedVariables false
namespace Go.W

/-- A name: an object of its own, or one that a cell of another one owns. -/
inductive Nm where
  | top (n : Nat)
  | sub (p : Nm) (t j f : Nat)
  deriving DecidableEq, Inhabited

/-- The object that it lies within. -/
def Nm.root : Nm → Nat
  | .top n => n
  | .sub p _ _ _ => p.root

/-- Its youngest part. -/
def Nm.mx : Nm → Nat
  | .top n => n
  | .sub p t _ _ => max p.mx t

inductive AV where
  | bot
  | int (k : IntKind) (n : Int)
  | bool (b : Bool)
  | str (s : ByteArray)
  | raw (v : Value)
  | ptr (o : Nm) (i f : Nat)
  | sl (o : Nm) (i n : Nat)
  | nsl
  | fn (f : FuncId) (cap : List AV)
  | iface (t : TypeId) (v : AV)
  | agg (l : List AV)
  | tup (l : List AV)
  | os (t sz : Nat) (els : List (List AV))
  | op (t : Nat) (c : List AV)
  deriving Inhabited

/-- Where an object lies. -/
structure Loc where
  blk : Nat
  base : Nat
  sz : Nat
  cap : Nat
  nil : Bool

abbrev Env := Nm → Loc

mutual
def Rep (ρ : Env) : AV → Value → Prop
  | .bot, _ => True
  | .int k n, v => v = .int k n
  | .bool b, v => v = .bool b
  | .str s, v => v = .string s
  | .raw x, v => v = x
  | .ptr o i f, v => (ρ o).nil = false ∧ v = .pointer (some ⟨(ρ o).blk, (ρ o).base + (i * (ρ o).sz + f), none⟩)
  | .sl o i n, v => ((ρ o).nil = true ∧ i = 0 ∧ n = 0 ∧ ∃ ad, v = .slice ad 0 0) ∨
      ((ρ o).nil = false ∧ i + n ≤ (ρ o).cap ∧ ∃ off, v = .slice (some ⟨(ρ o).blk, off, none⟩) n ((ρ o).cap - i) ∧ (i < (ρ o).cap → off = (ρ o).base + i * (ρ o).sz))
  | .nsl, v => ∃ ad, v = .slice ad 0 0
  | .fn f cap, v => ∃ cs, v = .func (.func f) #[] cs ∧ RepL ρ cap cs.toList
  | .iface t a, v => ∃ x, v = .iface t x ∧ Rep ρ a x
  | .agg l, v => ∃ cs, v = .agg cs ∧ RepL ρ l cs.toList
  | .tup l, v => ∃ cs, v = .tuple cs ∧ RepL ρ l cs.toList
  | .os _ _ _, _ => False
  | .op _ _, _ => False
def RepL (ρ : Env) : List AV → List Value → Prop
  | [], vs => vs = []
  | a :: as, vs => ∃ v r, vs = v :: r ∧ Rep ρ a v ∧ RepL ρ as r
end

theorem RepL.length {ρ : Env} : ∀ {l : List AV} {vs : List Value}, RepL ρ l vs → vs.length = l.length
  | [], vs, h => by simp [RepL] at h; subst h; rfl
  | a :: as, vs, h => by
    simp only [RepL] at h
    obtain ⟨v, r, rfl, _, hr⟩ := h
    simp [hr.length]

theorem RepL.get {ρ : Env} : ∀ {l : List AV} {vs : List Value}, RepL ρ l vs → ∀ {j : Nat} {a : AV}, l[j]? = some a → ∃ v, vs[j]? = some v ∧ Rep ρ a v
  | [], _, _, j, a, h => by simp at h
  | b :: as, vs, h, j, a, hj => by
    simp only [RepL] at h
    obtain ⟨v, r, rfl, h1, hr⟩ := h
    cases j with
    | zero => simp at hj; subst hj; exact ⟨v, rfl, h1⟩
    | succ j => simpa using hr.get (by simpa using hj)

theorem RepL.append {ρ : Env} : ∀ {l l' : List AV} {vs vs' : List Value}, RepL ρ l vs → RepL ρ l' vs' → RepL ρ (l ++ l') (vs ++ vs')
  | [], _, vs, _, h, h' => by simp [RepL] at h; subst h; simpa using h'
  | b :: as, _, vs, _, h, h' => by
    simp only [RepL] at h
    obtain ⟨v, r, rfl, h1, hr⟩ := h
    exact ⟨v, _, rfl, h1, hr.append h'⟩

theorem RepL.drop {ρ : Env} : ∀ (n : Nat) {l : List AV} {vs : List Value}, RepL ρ l vs → RepL ρ (l.drop n) (vs.drop n)
  | 0, _, _, h => by simpa using h
  | n + 1, [], vs, h => by simp [RepL] at h; subst h; simp [RepL]
  | n + 1, b :: as, vs, h => by
    simp only [RepL] at h
    obtain ⟨v, r, rfl, _, hr⟩ := h
    simpa using hr.drop n

theorem RepL.take {ρ : Env} : ∀ (n : Nat) {l : List AV} {vs : List Value}, RepL ρ l vs → RepL ρ (l.take n) (vs.take n)
  | 0, _, _, _ => by simp [RepL]
  | n + 1, [], vs, h => by simp [RepL] at h; subst h; simp [RepL]
  | n + 1, b :: as, vs, h => by
    simp only [RepL] at h
    obtain ⟨v, r, rfl, h1, hr⟩ := h
    simp only [List.take_succ_cons]
    exact ⟨v, _, rfl, h1, hr.take n⟩

theorem RepL.cons {ρ : Env} {a : AV} {as : List AV} {v : Value} {vs : List Value} (h : Rep ρ a v) (h' : RepL ρ as vs) : RepL ρ (a :: as) (v :: vs) := ⟨v, vs, rfl, h, h'⟩

theorem RepL.of_get {ρ : Env} : ∀ (l : List AV) (vs : List Value), vs.length = l.length → (∀ (j : Nat) (a : AV), l[j]? = some a → ∃ v, vs[j]? = some v ∧ Rep ρ a v) → RepL ρ l vs
  | [], vs, hl, _ => by simp at hl; subst hl; rfl
  | b :: as, [], hl, _ => by simp at hl
  | b :: as, v :: r, hl, h => by
    have h0 := h 0 b rfl
    simp at h0
    exact ⟨v, r, rfl, h0, RepL.of_get as r (by simpa using hl) (fun j a hj => by simpa using h (j + 1) a (by simpa using hj))⟩

/-- One cell's worth. -/
def AV.one : AV → Bool
  | .agg _ | .tup _ | .bot => false
  | .raw v => v.oneCell'
  | _ => true

theorem Rep.one {ρ : Env} {a : AV} {v : Value} (h : Rep ρ a v) (h1 : a.one = true) : v.oneCell' = true := by
  cases a <;> simp [AV.one] at h1 <;> simp only [Rep] at h
  case raw x => subst h; exact h1
  case sl o i n => rcases h with ⟨_, _, _, _, rfl⟩ | ⟨_, _, off, rfl, _⟩ <;> rfl
  case nsl => obtain ⟨ad, rfl⟩ := h; rfl
  case ptr o i f => obtain ⟨_, rfl⟩ := h; rfl
  case fn f cap => obtain ⟨cs, rfl, _⟩ := h; rfl
  case iface t x => obtain ⟨y, rfl, _⟩ := h; rfl
  all_goals (subst h; rfl)

/-- The cells of a value. -/
def AV.cells : AV → List AV
  | .agg l => l
  | v => [v]

theorem Rep.cells {ρ : Env} {a : AV} {v : Value} (h : Rep ρ a v) (hb : a.cells.all AV.one = true) : RepL ρ a.cells v.cells.toList := by
  cases a <;> simp only [AV.cells, List.all_cons, List.all_nil, Bool.and_true] at hb ⊢
  case agg l =>
    rw [Rep] at h
    obtain ⟨cs, rfl, h⟩ := h
    exact h
  all_goals
    have h1 := Rep.one h hb
    have : v.cells = #[v] := by cases v <;> first | rfl | (simp [Value.oneCell'] at h1)
    rw [this]
    exact RepL.cons h rfl

theorem RepL.all_one {ρ : Env} : ∀ {l : List AV} {vs : List Value}, RepL ρ l vs → l.all AV.one = true → ∀ v ∈ vs, v.oneCell' = true
  | [], vs, h, _ => by simp [RepL] at h; subst h; simp
  | b :: as, vs, h, ha => by
    simp only [RepL] at h
    obtain ⟨v, r, rfl, h1, hr⟩ := h
    simp at ha
    intro x hx
    rcases List.mem_cons.1 hx with rfl | hx
    · exact Rep.one h1 ha.1
    · exact hr.all_one (by simpa using ha.2) x hx

/-! ### Objects -/
inductive AObj where
  | free
  | cells (c : List AV)
  | arr (sz n : Nat) (f : Nat → List AV)
  | view (sz n : Nat) (f : Nat → List AV)
  deriving Inhabited

/-- A region of n elements of sz cells each. -/
structure Reg (ρ : Env) (L : Loc) (sz n : Nat) (f : Nat → List AV) (w : World) : Prop where
  nn : L.nil = false
  esz : L.sz = sz
  cap : n ≤ L.cap
  len : ∀ i, i < n → (f i).length = sz
  cell : ∀ i, i < n → ∀ (j : Nat) (v : AV), (f i)[j]? = some v → ∃ x, w.cell? ⟨L.blk, L.base + (i * sz + j), none⟩ = some x ∧ Rep ρ v x ∧ x.oneCell' = true

/-- All cells up to the capacity are there and may be written. -/
def Room (L : Loc) (sz : Nat) (w : World) : Prop := ∀ k, k < L.cap * sz → (w.cell? ⟨L.blk, L.base + k, none⟩).isSome = true ∧ w.frozen? ⟨L.blk, L.base + k, none⟩ = false

def ObjOk (ρ : Env) (L : Loc) : AObj → World → Prop
  | .free, _ => True
  | .cells c, w => Reg ρ L c.length 1 (fun _ => c) w ∧ Room L c.length w
  | .arr sz n f, w => (L.nil = true ∧ n = 0) ∨ (Reg ρ L sz n f w ∧ Room L sz w)
  | .view sz n f, w => (L.nil = true ∧ n = 0) ∨ Reg ρ L sz n f w

def Owned (L : Loc) : AObj → Prop
  | .cells _ => True
  | .arr _ _ _ => L.nil = false
  | _ => False

def Viewed (L : Loc) : AObj → Prop
  | .view _ _ _ => L.nil = false
  | _ => False

/-- What a walk may touch: blocks that were there; objects whose place is fixed. -/
structure Sc where
  own : Nat → Prop
  m : Nat
  A : Nat → Loc

structure HCore (w0 : World) (S : Sc) (ρ : Env) (H : Nm → AObj) (w : World) : Prop where
  os : w.os = w0.os
  tape : w.tape = w0.tape
  output : w.output = w0.output
  size : w0.heap.size ≤ w.heap.size
  frame : ∀ b, b < w0.heap.size → ¬ S.own b → w.heap[b]? = w0.heap[b]?
  obj : ∀ x, ObjOk ρ (ρ x) (H x) w
  own : ∀ x, Owned (ρ x) (H x) → (ρ x).blk < w.heap.size ∧ (w0.heap.size ≤ (ρ x).blk ∨ S.own (ρ x).blk)
  dist : ∀ x y, Owned (ρ x) (H x) → Owned (ρ y) (H y) → (ρ x).blk = (ρ y).blk → x = y
  vw : ∀ x, Viewed (ρ x) (H x) → (ρ x).blk < w0.heap.size ∧ ¬ S.own (ρ x).blk
  an : ∀ x, x < S.m → ρ (.top x) = S.A x

theorem Reg.same {ρ : Env} {L : Loc} {sz n : Nat} {f : Nat → List AV} {w w' : World} (h : Reg ρ L sz n f w) (hb : w'.heap[L.blk]? = w.heap[L.blk]?) : Reg ρ L sz n f w' :=
  ⟨h.nn, h.esz, h.cap, h.len, fun i hi j v hv => by
    obtain ⟨x, h1, h2⟩ := h.cell i hi j v hv
    exact ⟨x, by rw [← h1]; simp only [World.cell?, hb], h2⟩⟩

theorem Room.same {L : Loc} {sz : Nat} {w w' : World} (h : Room L sz w) (hb : w'.heap[L.blk]? = w.heap[L.blk]?) : Room L sz w' := fun k hk => by
  have := h k hk
  simpa only [World.cell?, World.frozen?, hb] using this

theorem ObjOk.same {ρ : Env} {L : Loc} {o : AObj} {w w' : World} (h : ObjOk ρ L o w) (hb : w'.heap[L.blk]? = w.heap[L.blk]?) : ObjOk ρ L o w' := by
  cases o with
  | free => trivial
  | cells c => exact ⟨h.1.same hb, h.2.same hb⟩
  | arr sz n f => exact h.imp id fun h => ⟨h.1.same hb, h.2.same hb⟩
  | view sz n f => exact h.imp id fun h => h.same hb

theorem ObjOk.nil_same {ρ : Env} {L : Loc} {o : AObj} {w w' : World} (h : ObjOk ρ L o w) (ho : ¬ Owned L o) (hv : ¬ Viewed L o) : ObjOk ρ L o w' := by
  cases o with
  | free => trivial
  | cells c => exact (ho trivial).elim
  | arr sz n f =>
    rcases h with h | h
    · exact .inl h
    · exact (ho h.1.nn).elim
  | view sz n f =>
    rcases h with h | h
    · exact .inl h
    · exact (hv h.nn).elim

def upd {κ α : Type} [DecidableEq κ] (T : κ → α) (k : κ) (v : α) : κ → α := fun j => if j = k then v else T j

@[simp] theorem upd_same {κ α : Type} [DecidableEq κ] (T : κ → α) (k : κ) (v : α) : upd T k v k = v := if_pos rfl
theorem upd_other {κ α : Type} [DecidableEq κ] (T : κ → α) {k j : κ} (v : α) (h : j ≠ k) : upd T k v j = T j := if_neg h
theorem upd_apply {κ α : Type} [DecidableEq κ] (T : κ → α) (k j : κ) (v : α) : upd T k v j = if j = k then v else T j := rfl
theorem upd_comm {κ α : Type} [DecidableEq κ] (T : κ → α) {k j : κ} (v u : α) (h : k ≠ j) : upd (upd T k v) j u = upd (upd T j u) k v := by
  funext x
  simp only [upd_apply]
  split <;> split <;> simp_all

theorem ObjOk.blk_lt {ρ : Env} {L : Loc} {o : AObj} {w : World} (h : ObjOk ρ L o w) (ho : Owned L o) (hp : ∀ c, o = .cells c → c ≠ []) (hz : ∀ sz n f, o = .arr sz n f → 0 < L.cap * sz) : L.blk < w.heap.size := by
  cases o with
  | cells c =>
    obtain ⟨h1, h2⟩ := h
    have h0 := h2 0 (Nat.mul_pos (Nat.lt_of_lt_of_le Nat.one_pos h1.cap) (List.length_pos_iff.2 (hp c rfl)))
    obtain ⟨u, hu⟩ := Option.isSome_iff_exists.1 h0.1
    exact World.block_lt_of_cell? w _ hu
  | arr sz n f =>
    rcases h with h | ⟨h1, h2⟩
    · simp [Owned, h.1] at ho
    · have h0 := h2 0 (hz sz n f rfl)
      obtain ⟨u, hu⟩ := Option.isSome_iff_exists.1 h0.1
      exact World.block_lt_of_cell? w _ hu
  | free => exact ho.elim
  | view sz n f => exact ho.elim

section
variable {w0 : World} {S : Sc} {ρ : Env} {H : Nm → AObj} {w : World}

/-- A world with the same blocks. -/
theorem HCore.same (h : HCore w0 S ρ H w) {w' : World} (hh : w'.heap = w.heap) (h1 : w'.os = w.os) (h2 : w'.tape = w.tape) (h3 : w'.output = w.output) : HCore w0 S ρ H w' :=
  ⟨h1.trans h.os, h2.trans h.tape, h3.trans h.output, by rw [hh]; exact h.size, fun b hb hs => by rw [hh]; exact h.frame b hb hs, fun x => (h.obj x).same (by rw [hh]), fun x hx => by rw [hh]; exact h.own x hx, h.dist, h.vw, h.an⟩

theorem HCore.drew (h : HCore w0 S ρ H w) : HCore w0 S ρ H w.drew := h.same rfl rfl rfl rfl

/-- An object that is owned is changed in its block. -/
theorem HCore.change (h : HCore w0 S ρ H w) {x : Nm} {o' : AObj} {w' : World} (ho : Owned (ρ x) (H x)) (ho' : Owned (ρ x) o') (h1 : w'.os = w.os) (h2 : w'.tape = w.tape) (h3 : w'.output = w.output)
    (hs : w'.heap.size = w.heap.size) (hb : ∀ b, b ≠ (ρ x).blk → w'.heap[b]? = w.heap[b]?) (hok : ObjOk ρ (ρ x) o' w') : HCore w0 S ρ (upd H x o') w' where
  an := h.an
  os := h1.trans h.os
  tape := h2.trans h.tape
  output := h3.trans h.output
  size := by rw [hs]; exact h.size
  frame b hlt hns := by
    rw [hb b ?_]
    · exact h.frame b hlt hns
    · rintro rfl
      rcases (h.own x ho).2 with h4 | h4
      · omega
      · exact hns h4
  obj y := by
    by_cases e : y = x
    · subst e; rw [upd_same]; exact hok
    · rw [upd_other _ _ e]
      by_cases hy : Owned (ρ y) (H y)
      · exact (h.obj y).same (hb _ fun e' => e (h.dist _ _ hy ho e'))
      · by_cases hv : Viewed (ρ y) (H y)
        · refine (h.obj y).same (hb _ fun e' => ?_)
          have h4 := h.vw y hv
          rw [e'] at h4
          rcases (h.own x ho).2 with h5 | h5
          · omega
          · exact h4.2 h5
        · exact (h.obj y).nil_same hy hv
  own y hy := by
    rw [hs]
    by_cases e : y = x
    · subst e; exact h.own y ho
    · rw [upd_other _ _ e] at hy; exact h.own y hy
  dist y z hy hz e := by
    have hy' : Owned (ρ y) (H y) := by
      by_cases e1 : y = x
      · subst e1; exact ho
      · rwa [upd_other _ _ e1] at hy
    have hz' : Owned (ρ z) (H z) := by
      by_cases e1 : z = x
      · subst e1; exact ho
      · rwa [upd_other _ _ e1] at hz
    exact h.dist y z hy' hz' e
  vw y hy := by
    by_cases e : y = x
    · subst e; rw [upd_same] at hy; cases o' <;> simp_all [Owned, Viewed]
    · rw [upd_other _ _ e] at hy; exact h.vw y hy

/-- A new block. -/
theorem HCore.alloc (h : HCore w0 S ρ H w) {x : Nm} {o' : AObj} {ob : Obj} (hx : H x = .free) (hL : (ρ x).blk = w.heap.size) (ho' : Owned (ρ x) o') (hok : ObjOk ρ (ρ x) o' (w.alloc ob)) : HCore w0 S ρ (upd H x o') (w.alloc ob) where
  an := h.an
  os := h.os
  tape := h.tape
  output := h.output
  size := by rw [World.size_alloc]; have := h.size; omega
  frame b hlt hns := by
    have := h.size
    have e : (w.alloc ob).heap[b]? = w.heap[b]? := by
      show (w.heap.push ob)[b]? = _
      rw [Array.getElem?_push, if_neg (by omega)]
    rw [e]; exact h.frame b hlt hns
  obj y := by
    have keep : ∀ b, b < w.heap.size → (w.alloc ob).heap[b]? = w.heap[b]? := fun b hb => by
      show (w.heap.push ob)[b]? = _
      rw [Array.getElem?_push, if_neg (by omega)]
    by_cases e : y = x
    · subst e; rw [upd_same]; exact hok
    · rw [upd_other _ _ e]
      by_cases hy : Owned (ρ y) (H y)
      · exact (h.obj y).same (keep _ (h.own y hy).1)
      · by_cases hv : Viewed (ρ y) (H y)
        · have := (h.vw y hv).1
          have := h.size
          exact (h.obj y).same (keep _ (by omega))
        · exact (h.obj y).nil_same hy hv
  own y hy := by
    rw [World.size_alloc]
    by_cases e : y = x
    · subst e; have := h.size; exact ⟨by omega, .inl (by omega)⟩
    · rw [upd_other _ _ e] at hy; have := h.own y hy; exact ⟨by omega, this.2⟩
  dist y z hy hz e := by
    by_cases e1 : y = x
    · subst e1
      by_cases e2 : z = y
      · exact e2.symm
      · rw [upd_other _ _ e2] at hz
        have := (h.own z hz).1
        omega
    · rw [upd_other _ _ e1] at hy
      by_cases e2 : z = x
      · subst e2
        have := (h.own y hy).1
        omega
      · rw [upd_other _ _ e2] at hz
        exact h.dist y z hy hz e
  vw y hy := by
    by_cases e : y = x
    · subst e; rw [upd_same] at hy; cases o' <;> simp_all [Owned, Viewed]
    · rw [upd_other _ _ e] at hy; exact h.vw y hy

/-- An object is let go, or an object that holds no block comes. -/
theorem HCore.put (h : HCore w0 S ρ H w) {x : Nm} {o' : AObj} (hn : ¬ Owned (ρ x) o') (hv : ¬ Viewed (ρ x) o') (hok : ObjOk ρ (ρ x) o' w) : HCore w0 S ρ (upd H x o') w where
  an := h.an
  os := h.os
  tape := h.tape
  output := h.output
  size := h.size
  frame := h.frame
  obj y := by
    by_cases e : y = x
    · subst e; rw [upd_same]; exact hok
    · rw [upd_other _ _ e]; exact h.obj y
  own y hy := by
    by_cases e : y = x
    · subst e; rw [upd_same] at hy; exact (hn hy).elim
    · rw [upd_other _ _ e] at hy; exact h.own y hy
  dist y z hy hz e := by
    by_cases e1 : y = x
    · subst e1; rw [upd_same] at hy; exact (hn hy).elim
    · by_cases e2 : z = x
      · subst e2; rw [upd_same] at hz; exact (hn hz).elim
      · rw [upd_other _ _ e1] at hy; rw [upd_other _ _ e2] at hz; exact h.dist y z hy hz e
  vw y hy := by
    by_cases e : y = x
    · subst e; rw [upd_same] at hy; exact (hv hy).elim
    · rw [upd_other _ _ e] at hy; exact h.vw y hy

theorem HCore.drop (h : HCore w0 S ρ H w) (x : Nm) : HCore w0 S ρ (upd H x .free) w := h.put (fun h => h) (fun h => h) trivial

/-- An object takes over another one's block. -/
theorem HCore.move (h : HCore w0 S ρ H w) {x y : Nm} {o' : AObj} (hxy : x ≠ y) (hx : H x = .free) (ho : Owned (ρ y) (H y)) (hb : (ρ x).blk = (ρ y).blk) (ho' : Owned (ρ x) o') (hok : ObjOk ρ (ρ x) o' w) :
    HCore w0 S ρ (upd (upd H y .free) x o') w where
  an := h.an
  os := h.os
  tape := h.tape
  output := h.output
  size := h.size
  frame := h.frame
  obj z := by
    by_cases e : z = x
    · subst e; rw [upd_same]; exact hok
    · rw [upd_other _ _ e]
      by_cases e' : z = y
      · subst e'; rw [upd_same]; trivial
      · rw [upd_other _ _ e']; exact h.obj z
  own z hz := by
    by_cases e : z = x
    · subst e; rw [hb]; exact h.own y ho
    · rw [upd_other _ _ e] at hz
      by_cases e' : z = y
      · subst e'; rw [upd_same] at hz; exact hz.elim
      · rw [upd_other _ _ e'] at hz; exact h.own z hz
  dist z u hz hu e := by
    have key : ∀ z, z ≠ x → Owned (ρ z) (upd (upd H y .free) x o' z) → Owned (ρ z) (H z) ∧ z ≠ y := fun z e hz => by
      rw [upd_other _ _ e] at hz
      by_cases e' : z = y
      · subst e'; rw [upd_same] at hz; exact hz.elim
      · rw [upd_other _ _ e'] at hz; exact ⟨hz, e'⟩
    by_cases e1 : z = x
    · by_cases e2 : u = x
      · rw [e1, e2]
      · obtain ⟨h1, h2⟩ := key u e2 hu
        subst e1
        rw [hb] at e
        exact (h2 (h.dist _ _ ho h1 e).symm).elim
    · obtain ⟨h1, h2⟩ := key z e1 hz
      by_cases e2 : u = x
      · subst e2
        rw [hb] at e
        exact (h2 (h.dist _ _ h1 ho e)).elim
      · exact h.dist _ _ h1 (key u e2 hu).1 e
  vw z hz := by
    by_cases e : z = x
    · subst e; rw [upd_same] at hz; cases o' <;> simp_all [Owned, Viewed]
    · rw [upd_other _ _ e] at hz
      by_cases e' : z = y
      · subst e'; rw [upd_same] at hz; exact hz.elim
      · rw [upd_other _ _ e'] at hz; exact h.vw z hz

/-- Objects by other names: what is owned lies in blocks that were owned. -/
theorem HCore.re (h : HCore w0 S ρ H w) {ρ' : Env} {H' : Nm → AObj} (φ : Nm → Nm) (hob : ∀ x, ObjOk ρ' (ρ' x) (H' x) w) (hown : ∀ x, Owned (ρ' x) (H' x) → Owned (ρ (φ x)) (H (φ x)) ∧ (ρ' x).blk = (ρ (φ x)).blk)
    (hvw : ∀ x, Viewed (ρ' x) (H' x) → (ρ' x).blk < w0.heap.size ∧ ¬ S.own (ρ' x).blk) (hinj : ∀ x y, Owned (ρ' x) (H' x) → Owned (ρ' y) (H' y) → φ x = φ y → x = y) (han : ∀ x, x < S.m → ρ' (.top x) = S.A x) : HCore w0 S ρ' H' w where
  os := h.os
  tape := h.tape
  output := h.output
  size := h.size
  frame := h.frame
  obj := hob
  own x hx := by rw [(hown x hx).2]; exact h.own _ (hown x hx).1
  dist x y hx hy e := hinj x y hx hy (h.dist _ _ (hown x hx).1 (hown y hy).1 (by rw [← (hown x hx).2, ← (hown y hy).2]; exact e))
  vw := hvw
  an := han

/-- Less is said. -/
theorem HCore.weaken (h : HCore w0 S ρ H w) {H' : Nm → AObj} (hle : ∀ x, H' x = H x ∨ H' x = .free) : HCore w0 S ρ H' w := by
  refine h.re id (fun x => ?_) (fun x hx => ?_) (fun x hx => ?_) (fun _ _ _ _ e => e) h.an
  · rcases hle x with e | e
    · rw [e]; exact h.obj x
    · rw [e]; trivial
  · rcases hle x with e | e
    · rw [e] at hx; exact ⟨hx, rfl⟩
    · rw [e] at hx; exact hx.elim
  · rcases hle x with e | e
    · rw [e] at hx; exact h.vw x hx
    · rw [e] at hx; exact hx.elim
end

end Go.W
