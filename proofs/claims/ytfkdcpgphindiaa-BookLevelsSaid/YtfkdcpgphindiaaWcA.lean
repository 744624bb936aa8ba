/- A function's specification as a function of trees. From a specification of trees to a statement's call. -/
import Derived.Test.YtfkdcpgphindiaaWY
import Derived.ProofKit
import Derived.OpenShut
import Derived.Lib.SmallJoins
set_option linter.unusedSimpArgs false
set_option linter.unusedVariables false
namespace Go.W

/-- What a call gives: its result, as a tree whose parts are new; what each owned object that came is at the end (none named: as it was). -/
structure Ans where
  res : AV
  outs : List NObj

def fixO : List NObj → List NObj → List NObj
  | [], _ => []
  | o :: os, [] => (if o.own = true then o else .free) :: fixO os []
  | o :: os, o' :: r => (if o.own = true then o' else .free) :: fixO os r

mutual
/-- A result by names from here on, and the new objects. -/
def layN (k : Nat) : AV → AV × List NObj
  | .op _ c => (.ptr (.top k) 0 0, [.cells 0 c])
  | .os _ sz els => (.sl (.top k) 0 els.length, [.arr 0 sz els])
  | .tup l => match layL k l with
    | (l', os) => (.tup l', os)
  | .iface t a => match layN k a with
    | (a', os) => (.iface t a', os)
  | .agg l => match layL k l with
    | (l', os) => (.agg l', os)
  | v => (v, [])
def layL (k : Nat) : List AV → List AV × List NObj
  | [] => ([], [])
  | a :: as => match layN k a with
    | (a', os) => (match layL (k + os.length) as with
      | (as', os') => (a' :: as', os ++ os'))
end

def preB (p : Nm) : Nm → Bool
  | .top n => decide (p = .top n)
  | .sub y t j f => decide (p = .sub y t j f) || preB p y

theorem preB_iff {p : Nm} : ∀ {x : Nm}, preB p x = true ↔ pre p x
  | .top n => by simp [preB, pre]
  | .sub y t j f => by simp [preB, pre, preB_iff (x := y)]

def apart1 (x : Option (Nm × Nat)) (o : NObj) : ML → List NObj → Bool
  | y :: r, o' :: os => (match x, y with
    | some (p, _), some (p', _) => if o.own = true ∨ o'.own = true then !preB p p' && !preB p' p else true
    | _, _ => true) && apart1 x o r os
  | _, _ => true

def apartB : ML → List NObj → Bool
  | x :: r, o :: os => apart1 x o r os && apartB r os
  | _, _ => true

theorem apart1_get {p : Nm} {i : Nat} {o : NObj} : ∀ {ml : ML} {os : List NObj}, apart1 (some (p, i)) o ml os = true → ∀ {k : Nat} {p' : Nm} {i' : Nat} {o' : NObj}, ml[k]? = some (some (p', i')) → os[k]? = some o' → (o.own = true ∨ o'.own = true) → ¬ pre p p' ∧ ¬ pre p' p
  | [], _, _, k, _, _, _, h, _, _ => by simp at h
  | y :: r, [], _, k, _, _, _, _, h, _ => by simp at h
  | y :: r, o1 :: os, h, k, p', i', o', h1, h2, h3 => by
    simp only [apart1, Bool.and_eq_true] at h
    cases k with
    | zero =>
      simp at h1 h2
      subst h1 h2
      have := h.1
      simp only [h3, if_true, Bool.and_eq_true, Bool.not_eq_true', ← Bool.not_eq_true, preB_iff] at this
      exact this
    | succ k => exact apart1_get h.2 (by simpa using h1) (by simpa using h2) h3

theorem apartB_ok : ∀ {ml : ML} {os : List NObj}, apartB ml os = true → ml.length = os.length → Apart ml os
  | [], _, _, _ => fun k k' p p' i i' o _ h1 => by simp at h1
  | x :: r, [], _, h => by simp at h
  | x :: r, o1 :: os, h, hl => by
    simp only [apartB, Bool.and_eq_true] at h
    have ih := apartB_ok h.2 (by simpa using hl)
    intro k k' p p' i i' o hne h1 h2 h3 h4
    cases k with
    | zero =>
      cases k' with
      | zero => exact absurd rfl hne
      | succ k' =>
        simp at h1 h3
        subst h1 h3
        have hk' : k' < os.length := by
          have := (List.getElem?_eq_some_iff.1 h2).1
          simp at this hl; omega
        exact apart1_get h.1 (k := k') (by simpa using h2) (List.getElem?_eq_getElem hk') (.inl h4)
    | succ k =>
      cases k' with
      | zero =>
        simp at h2
        subst h2
        have := apart1_get h.1 (k := k) (by simpa using h1) (by simpa using h3) (.inr h4)
        exact ⟨this.2, this.1⟩
      | succ k' => exact ih k k' p p' i i' o (by omega) (by simpa using h1) (by simpa using h2) (by simpa using h3) h4

def namesB (nb : Nat) : ML → Bool
  | [] => true
  | some (p, _) :: r => decide (p.mx < nb) && namesB nb r
  | none :: r => namesB nb r

theorem namesB_ok {nb : Nat} : ∀ {ml : ML}, namesB nb ml = true → Names ml nb
  | [], _ => fun k p i h => by simp at h
  | some (q, _) :: r, h => fun k p i h1 => by
    simp only [namesB, Bool.and_eq_true] at h
    cases k with
    | zero => simp at h1; rw [← h1.1]; exact of_decide_eq_true h.1
    | succ k => exact namesB_ok h.2 k p i (by simpa using h1)
  | none :: r, h => fun k p i h1 => by
    simp only [namesB] at h
    cases k with
    | zero => simp at h1
    | succ k => exact namesB_ok h k p i (by simpa using h1)

def mlRoots : ML → List Nat
  | [] => []
  | some (p, _) :: r => p.root :: mlRoots r
  | none :: r => mlRoots r

theorem mlRoots_mem : ∀ {ml : ML} {p : Nm} {i : Nat}, some (p, i) ∈ ml → p.root ∈ mlRoots ml
  | some (q, _) :: r, p, i, h => by
    simp only [mlRoots]
    rcases List.mem_cons.1 h with h | h
    · simp at h; rw [h.1]; exact List.mem_cons_self
    · exact List.mem_cons_of_mem _ (mlRoots_mem h)
  | none :: r, p, i, h => by
    simp only [mlRoots]
    rcases List.mem_cons.1 h with h | h
    · cases h
    · exact mlRoots_mem h
  | [], _, _, h => by simp at h

abbrev aA (ms : Modes) (xs : List AV) : List AV := (loL 0 xs ms).1
abbrev oA (ms : Modes) (xs : List AV) : List NObj := (loL 0 xs ms).2.1
abbrev lR (ms : Modes) (xs : List AV) (a : Ans) : AV := (layN (oA ms xs).length a.res).1
abbrev nR (ms : Modes) (xs : List AV) (a : Ans) : List NObj := (layN (oA ms xs).length a.res).2
abbrev uR (ms : Modes) (xs : List AV) (a : Ans) : List NObj := fixO (oA ms xs) a.outs

/-- A specification is in order. -/
def NOk (ms : Modes) (d : List AV → Option Ans) : Prop := ∀ xs a, d xs = some a → Ends (oA ms xs) (uR ms xs a) (nR ms xs a) ∧ namesOk (mayN (oA ms xs) (nR ms xs a).length) (lR ms xs a) = true

theorem wrs_keys : ∀ (ws : List (Nm × NObj)) (G : NH) (x : Nat), x ∈ (wrs G ws).map (·.1) → ∃ q ∈ ws, q.1.root = x
  | [], G, x, h => by simp [wrs] at h
  | (p, o) :: r, G, x, h => by
    simp only [wrs, List.map_cons, List.mem_cons, wr_root] at h
    rcases h with h | h
    · exact ⟨_, List.mem_cons_self, h.symm⟩
    · obtain ⟨q, h1, h2⟩ := wrs_keys r _ x h
      exact ⟨q, List.mem_cons_of_mem _ h1, h2⟩

theorem wrs_same : ∀ (ws : List (Nm × NObj)) {G G' : NH}, (∀ q ∈ ws, G q.1.root = G' q.1.root) → wrs G' ws = wrs G ws
  | [], _, _, _ => rfl
  | (p, o) :: r, G, G', h => by
    have h0 := h _ List.mem_cons_self
    simp only at h0
    rw [wrs, wrs, wr_same h0]
    congr 1
    refine wrs_same r fun q hq => ?_
    by_cases e : q.1.root = (wr G p o).1
    · rw [e, upd_same, upd_same]
    · rw [upd_other _ _ e, upd_other _ _ e]; exact h q (List.mem_cons_of_mem _ hq)

theorem idxO_keys : ∀ (l : List NObj) (i x : Nat), x ∈ (idxO i l).map (·.1) → i ≤ x ∧ x < i + l.length
  | [], i, x, h => by simp [idxO] at h
  | o :: r, i, x, h => by
    simp only [idxO, List.map_cons, List.mem_cons] at h
    rcases h with h | h
    · subst h; simp
    · have := idxO_keys r (i + 1) x h
      simp; omega

theorem seen_ne {i : Nat} {og o : NObj} (h : Seen i og o) : og ≠ .free := by
  intro e
  rw [e] at h
  cases h with
  | own h _ => cases h
  | row h _ _ => rcases h with h | h <;> cases h
  | one h _ => rcases h with h | h <;> cases h

/-- Names that a call brings are new ones. -/
theorem after_nw {G : NH} {nb : Nat} {ml : ML} {objs outs news : List NObj} (hc : Cames G ml objs) (hap : Apart ml objs) (hnm : Names ml nb) (hend : Ends objs outs news) : ∀ x : Nm, ¬ (nb ≤ x.mx ∧ x.mx < nb + 8) → getP (updL G (afterL G nb ml objs outs news)) x ≠ .free → getP G x ≠ .free := by
  intro x hx hg
  by_cases hr : nb + news.length ≤ x.root ∧ x.root < nb + 8
  · have e : updL G (afterL G nb ml objs outs news) x.root = G x.root := by
      have : x.root ∉ (afterL G nb ml objs outs news).map (·.1) := fun hm => by
        simp only [afterL, List.map_append, List.mem_append] at hm
        rcases hm with hm | hm
        · obtain ⟨q, h1, h2⟩ := wrs_keys _ _ _ hm
          obtain ⟨k, i, o, o', g1, _⟩ := wl_mem h1
          have := hnm _ _ _ g1
          have := root_mx q.1
          omega
        · have := idxO_keys _ _ _ hm
          omega
      exact updL_other _ _ _ this
    rwa [getP_same (G := G) (G' := updL G (afterL G nb ml objs outs news)) e.symm] at hg
  -- where nothing was at the new names
  let G0 : NH := fun k => if nb ≤ k ∧ k < nb + 8 then .free else G k
  have sameP : ∀ {p : Nm}, p.mx < nb → getP G0 p = getP G p := fun {p} hp => getP_same (by
    have := root_mx p
    show G p.root = if nb ≤ p.root ∧ p.root < nb + 8 then .free else G p.root
    rw [if_neg (by omega)])
  have hc0 : Cames G0 ml objs := ⟨hc.1, fun k y o h1 h2 => by
    have := hc.2 k y o h1 h2
    cases y with
    | none => exact this
    | some q =>
      obtain ⟨p, i⟩ := q
      simp only at this ⊢
      rw [sameP (hnm _ _ _ h1)]; exact this⟩
  have hnew0 : ∀ k, nb ≤ k → k < nb + 8 → G0 k = .free := fun k h1 h2 => if_pos ⟨h1, h2⟩
  have hL : afterL G0 nb ml objs outs news = afterL G nb ml objs outs news := by
    unfold afterL
    congr 1
    refine wrs_same _ fun q hq => ?_
    obtain ⟨k, i, o, o', g1, _⟩ := wl_mem hq
    have := hnm _ _ _ g1
    have := root_mx q.1
    show G q.1.root = if nb ≤ q.1.root ∧ q.1.root < nb + 8 then .free else G q.1.root
    rw [if_neg (by omega)]
  have hsame : updL G0 (afterL G0 nb ml objs outs news) x.root = updL G (afterL G nb ml objs outs news) x.root := by
    rw [hL]
    refine updL_mem_or (x := x.root) _ _ _ ?_
    by_cases hin : nb ≤ x.root ∧ x.root < nb + 8
    · left
      simp only [afterL, List.map_append, List.mem_append]
      right
      have hkeys : ∀ (l : List NObj) (i y : Nat), i ≤ y → y < i + l.length → y ∈ (idxO i l).map (·.1) := by
        intro l
        induction l with
        | nil => intro i y h1 h2; simp at h2; omega
        | cons o r ih =>
          intro i y h1 h2
          simp only [idxO, List.map_cons, List.mem_cons]
          by_cases e : y = i
          · exact .inl e
          · exact .inr (ih (i + 1) y (by omega) (by simp at h2; omega))
      exact hkeys news nb x.root hin.1 (by omega)
    · right
      show (if nb ≤ x.root ∧ x.root < nb + 8 then NObj.free else G x.root) = _
      rw [if_neg hin]
  have hg0 : getP (updL G0 (afterL G0 nb ml objs outs news)) x ≠ .free := by
    rw [getP_same (G := updL G (afterL G nb ml objs outs news)) hsame.symm]; exact hg
  have fin : getP G0 x ≠ .free := by
    by_cases ha : nb ≤ x.root ∧ x.root < nb + 8 ∨ ∃ (k i : Nat) (p : Nm) (o : NObj), ml[k]? = some (some (p, i)) ∧ objs[k]? = some o ∧ o.own = true ∧ pre p x
    · obtain ⟨z, b1, b2, b3, b4, b5⟩ := after_get hc0 hap hnm hend hnew0 rfl rfl rfl x hg0 ha
      rcases b4 with ⟨c1, c2, _⟩ | ⟨k, i, o, g1, g2, g3, g4⟩
      · exact absurd ⟨c2, c1⟩ hx
      · have := hc0.2 k _ o g1 g2
        exact seen_ne this
    · have := after_far hc0 hap hnm hend hnew0 rfl (x := x) (fun h => ha (.inl h)) fun k i p o h1 h2 h3 h4 => ha (.inr ⟨k, i, p, o, h1, h2, h3, h4⟩)
      intro e
      exact hg0 (HF_free.1 (by rw [this]; exact HF_free.2 e))
  intro e
  refine fin ?_
  by_cases hin : nb ≤ x.root ∧ x.root < nb + 8
  · exact getP_free (hnew0 x.root hin.1 hin.2) rfl
  · rw [getP_same (G := G) (by show G x.root = if nb ≤ x.root ∧ x.root < nb + 8 then .free else G x.root; rw [if_neg hin])]
    exact e

def nestF (ms : Modes) (d : List AV → Option Ans) (args : List AV) (G : NH) (nb : Nat) : Option Res :=
  match cloL G args ms with
  | some (xs, ml, []) => if namesB nb ml = true ∧ apartB ml (oA ms xs) = true then (match d xs with
    | some a => some ⟨backV (bkN nb (oA ms xs).length ml) (lR ms xs a), afterL G nb ml (oA ms xs) (uR ms xs a) (nR ms xs a), mlRoots ml⟩
    | none => none) else none
  | _ => none

theorem nestF_some {ms : Modes} {d : List AV → Option Ans} {args : List AV} {G : NH} {nb : Nat} {r : Res} (h : nestF ms d args G nb = some r) : ∃ xs ml a, cloL G args ms = some (xs, ml, []) ∧ namesB nb ml = true ∧ apartB ml (oA ms xs) = true ∧ d xs = some a ∧ r = ⟨backV (bkN nb (oA ms xs).length ml) (lR ms xs a), afterL G nb ml (oA ms xs) (uR ms xs a) (nR ms xs a), mlRoots ml⟩ := by
  unfold nestF at h
  split at h
  · rename_i xs ml hcl
    split at h
    · rename_i hh
      split at h
      · rename_i a ha
        injection h with h
        exact ⟨xs, ml, a, hcl, hh.1, hh.2, ha, h.symm⟩
      · cases h
    · cases h
  · cases h

theorem clo_cames {G : NH} {args xs : List AV} {ml : ML} {ms q : Modes} (h : cloL G args ms = some (xs, ml, q)) : Cames G ml (oA ms xs) ∧ ArgSL ml (aA ms xs) args := by
  obtain ⟨_, h2, h3⟩ := cloL_ok args ms h ml 0 (fun j x hx => by rwa [Nat.zero_add])
  exact ⟨Cames_of h2, h3⟩

def nestS (ms : Modes) (d : List AV → Option Ans) (hok : NOk ms d) : Spec where
  fn := nestF ms d
  loc := fun args G G' nb r h hG => by
    obtain ⟨xs, ml, a, h1, h2, h3, h4, rfl⟩ := nestF_some h
    have hroot : ∀ p i, some (p, i) ∈ ml → G p.root = G' p.root := fun p i hp => hG _ (.inl (mlRoots_mem hp))
    unfold nestF
    rw [cloL_loc args ms h1 hroot]
    simp only [h2, h3, h4, and_self, if_true]
    have : afterL G' nb ml (oA ms xs) (uR ms xs a) (nR ms xs a) = afterL G nb ml (oA ms xs) (uR ms xs a) (nR ms xs a) := by
      unfold afterL
      congr 1
      refine wrs_same _ fun q hq => ?_
      obtain ⟨k, i, o, o', g1, _⟩ := wl_mem hq
      exact hroot q.1 i (List.mem_of_getElem? g1)
    rw [this]
  nm := fun args G nb r h x hx => by
    obtain ⟨xs, ml, a, h1, h2, h3, h4, rfl⟩ := nestF_some h
    obtain ⟨hc, _⟩ := clo_cames h1
    simp only [afterL, List.map_append, List.mem_append] at hx
    rcases hx with hx | hx
    · obtain ⟨q, g1, g2⟩ := wrs_keys _ _ _ hx
      obtain ⟨k, i, o, o', e1, e2, _⟩ := wl_mem g1
      right
      rw [← g2]
      have := hc.2 k _ o e1 e2
      exact getP_root (seen_ne this)
    · have := idxO_keys _ _ _ hx
      have := (hok xs a h4).1.few
      exact .inl (by omega)
  nw := fun args G nb r h => by
    obtain ⟨xs, ml, a, h1, h2, h3, h4, rfl⟩ := nestF_some h
    obtain ⟨hc, _⟩ := clo_cames h1
    exact after_nw hc (apartB_ok h3 hc.1) (namesB_ok h2) (hok xs a h4).1

theorem rcOf_def : True := trivial

def rcOf (P : Program) (fn : Func) : Option MCode :=
  match fn.body with
  | some c => rC P c
  | none => none

theorem rcOf_body {P : Program} {fn : Func} {mc : MCode} (h : rcOf P fn = some mc) : ∃ c, fn.body = some c ∧ rC P c = some mc := by
  unfold rcOf at h
  split at h
  · rename_i c hc; exact ⟨c, hc, h⟩
  · cases h

/-- A FUNCTION KEEPS ITS SPECIFICATION if its body's walk does. -/
theorem nest_sound {P : Program} {f : FuncId} {fn : Func} {mc : MCode} {res : List RV} (hf : P.funcs[f]? = some fn) (hn : (fn.name == "runtime.NumGoroutine") = false) (hrc : rcOf P fn = some mc) (hres : rRVs P fn.results.toList = some res) {ms : Modes} {d : List AV → Option Ans} (hok : NOk ms d)
    (hlen : ∀ xs a, d xs = some a → (aA ms xs).length ≤ fn.ntmps)
    (hw : ∀ xs a, d xs = some a → ∀ (w0 : World) (S : Sc), S.m = (oA ms xs).length → Wm P w0 S fn.ntmps [] mc ⟨argL 0 (aA ms xs), idxO 0 (oA ms xs), (oA ms xs).length⟩
      (retK res fun v s => Imp (oA ms xs).length ⟨[(0, v)], s.hl, s.nb⟩ ⟨[(0, lR ms xs a)], idxO 0 (uR ms xs a ++ nR ms xs a), (oA ms xs).length + (nR ms xs a).length⟩)) : Sound P f (nestS ms d hok) := by
  obtain ⟨c, hb, hrc⟩ := rcOf_body hrc
  refine ⟨⟨fn, hf, hn, by rw [hb]; rfl⟩, fun w0 S Es U G w avs vs nb r h1 h2 h3 h4 h5 h6 h7 h8 => ?_⟩
  obtain ⟨xs, ml, a, g1, g2, g3, g4, rfl⟩ := nestF_some h7
  obtain ⟨hc, hargs⟩ := clo_cames g1
  obtain ⟨e1, e2⟩ := hok xs a g4
  exact (nest_calls hf hb hrc hres (hlen xs a g4) e1 e2 (hw xs a g4) h1 h3 h4 h5 h6 h8 hargs hc (apartB_ok g3 hc.1) (namesB_ok g2)).1

end Go.W
set_option linter.unusedSimpArgs false
set_option linter.unusedVariables false
namespace Go.W
open Go.ChangeShapes Go.WideShapes Go.ChangeAt Go.RowKit Go.Joins Go.Deep

def noSc : Sc := ⟨fun _ => False, 0, fun _ => nilLoc⟩

theorem HCore.below {w0 : World} {ρ : Env} {H : Nm → AObj} {w : World} (h : HCore w0 noSc ρ H w) : Below w0.heap.size w0 w :=
  ⟨h.os, h.tape, h.output, h.size, fun k hk => h.frame k hk fun hf => hf⟩

theorem HF_none (x : Nm) : HF (fun _ => .free) x = .free := by
  have : ∀ x : Nm, getP (fun _ => .free) x = .free := by
    intro x
    induction x with
    | top n => rfl
    | sub p t j f ih => simp only [getP, ih]; simp [kid, elemN]
  exact HF_free.2 (this x)

theorem nest_bool {P : Program} {f : FuncId} {d : List AV → Option Ans} {ok : NOk [] d} (hs : Sound P f (nestS [] d ok)) {avs : List AV} {vs : List Value} {b : Bool} (hcl : cloL (fun _ => .free) avs [] = some (avs, [], [])) (h : d avs = some ⟨.bool b, []⟩) (hrep : ∀ ρ, RepL ρ avs vs) (W : World) :
    Calls P f vs.toArray W fun e W' => e = .returned (.bool b) ∧ Below W.heap.size W W' := by
  have := hs.calls W noSc (fun _ => True) (fun _ => True) (fun _ => .free) W avs vs 0 ⟨.bool b, afterL (fun _ => .free) 0 [] (oA [] avs) (uR [] avs ⟨.bool b, []⟩) (nR [] avs ⟨.bool b, []⟩), mlRoots []⟩ ⟨fun _ => nilLoc, trivial⟩ (fun _ _ _ _ => trivial) (fun x _ => HF_none x) (fun _ _ _ _ x hx => absurd (HF_none x) hx)
    (fun ρ _ => ⟨rfl, rfl, rfl, Nat.le_refl _, fun _ _ _ => rfl, fun x => by rw [HF_none]; trivial, fun x hx => by rw [HF_none] at hx; exact hx.elim, fun x y hx => by rw [HF_none] at hx; exact hx.elim, fun x hx => by rw [HF_none] at hx; exact hx.elim, fun x hx => absurd hx (Nat.not_lt_zero x)⟩) (fun ρ _ => hrep ρ)
    (by show nestF [] d avs _ 0 = _
        simp only [nestF, hcl, namesB, apartB, h, and_self, if_true, lR, layN, backV]) (fun _ _ => trivial)
  refine this.mono fun e W' ⟨v, g, he, hv⟩ => ?_
  obtain ⟨h1, h2⟩ := hv g trivial (fun _ _ => rfl)
  simp only [Rep] at h1
  subst h1
  exact ⟨he, h2.below⟩

/-- A struct of integers by value. -/
theorem open_off {H : Type} {enc : TypeId × Value → H} {P : Program} {w : World} {base : Nat} {spare : Nat → Bool} {held : Bool} {r : Reach} {b0 : Nat} {t : TypeId} {fs : Array Field} {v : Value} {d : DataW H} {p : List MemPlace} (hs : P.underlying t = some (.struct fs)) (hone : oneCellFields P fs = true) (hC : P.cellsOf t = fs.size)
    {m : Nat} (hint : fs.toList.map (fun f => P.underlying f.type) = List.replicate m (some (.int .i64))) (hv : Value.okWide P w r b0 t v) (h : DataW.Trod enc P w base spare held t v d p) :
    ∃ ns : List Int, v = .agg (ns.map (Value.int .i64)).toArray ∧ ns.length = fs.size ∧ ∀ n ∈ ns, (Lit.int .i64 n).wf = true := by
  obtain ⟨cs, rfl, hsz⟩ := okWide_struct hs hv
  obtain ⟨fuel, hf⟩ := h
  obtain ⟨xs, mm, _, hx, _, hlen, hg⟩ := DataW.trod_struct hs hf
  have each : ∀ j (hj : j < cs.toList.length), ∃ n : Int, cs.toList[j] = .int .i64 n ∧ (Lit.int .i64 n).wf = true := fun j hj => by
    have hjf : j < fs.size := by rw [← hC, ← hsz]; simpa using hj
    have hfj : fs[j]? = some fs[j] := Array.getElem?_eq_getElem hjf
    obtain ⟨o0, k0⟩ := hone_of hone j fs[j] hfj
    have h1 := hg j fs[j] hfj
    rw [o0, k0] at h1
    have hc : ((Value.agg cs).cells.toList.drop j).take 1 = [cs.toList[j]] := by
      show (cs.toList.drop j).take 1 = _
      rw [List.drop_eq_getElem_cons hj]; rfl
    rw [hc] at h1
    have hxs : j < xs.length := by rw [hlen]; exact hjf
    rw [List.getElem?_eq_getElem hxs] at h1
    have hu : P.underlying fs[j].type = some (.int .i64) := by
      have h2 : (fs.toList.map (fun f => P.underlying f.type))[j]? = some (P.underlying fs[j].type) := by simp [hjf]
      rw [hint, List.getElem?_replicate] at h2
      split at h2
      · simpa using h2.symm
      · cases h2
    obtain ⟨n, e0, _, wx⟩ := DataW.trod_int hu h1
    simp at e0
    exact ⟨n, e0, wx⟩
  have hall : ∀ (l : List Value), (∀ j (hj : j < l.length), ∃ n : Int, l[j] = .int .i64 n ∧ (Lit.int .i64 n).wf = true) → ∃ ns : List Int, l = ns.map (Value.int .i64) ∧ ∀ n ∈ ns, (Lit.int .i64 n).wf = true := by
    intro l
    induction l with
    | nil => intro _; exact ⟨[], rfl, by simp⟩
    | cons a l ih =>
      intro h
      obtain ⟨n, h1, h2⟩ := h 0 (by simp)
      obtain ⟨ns, h3, h4⟩ := ih fun j hj => by have := h (j + 1) (by simpa using hj); simpa only [List.getElem_cons_succ] using this
      refine ⟨n :: ns, ?_, ?_⟩
      · simp at h1; simp [h1, h3]
      · intro x hx; rcases List.mem_cons.1 hx with rfl | hx
        · exact h2
        · exact h4 x hx
  obtain ⟨ns, h1, h2⟩ := hall cs.toList each
  refine ⟨ns, by rw [← h1], ?_, h2⟩
  have := congrArg List.length h1
  simp at this
  rw [← this, hsz, hC]

end Go.W
