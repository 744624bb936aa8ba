/- A function's specification as a function of trees. -/
import Derived.Test.YtmbploeikjangaaGreatWY
set_option linter.unusedSimpArgs false
set_option linter.unusedVariables false
namespace Go.W

/-- What a call gives: its result, as a tree whose parts are new; what each owned object that came is at the end (none named: as it was). -/
structure Ans where
  res : AV
  outs : List NObj

def fixO : List NObj → List NObj → List NObj
  | [], _ => []
  | o :: os, [] => (if o.own = true then o else .free) :: fixO os []
  | o :: os, o' :: r => (if o.own = true then o' else .free) :: fixO os r

mutual
/-- A result by names from here on, and the new objects. -/
def layN (k : Nat) : AV → AV × List NObj
  | .op _ c => (.ptr (.top k) 0 0, [.cells 0 c])
  | .os _ sz els => (.sl (.top k) 0 els.length, [.arr 0 sz els])
  | .tup l => match layL k l with
    | (l', os) => (.tup l', os)
  | .iface t a => match layN k a with
    | (a', os) => (.iface t a', os)
  | .agg l => match layL k l with
    | (l', os) => (.agg l', os)
  | v => (v, [])
def layL (k : Nat) : List AV → List AV × List NObj
  | [] => ([], [])
  | a :: as => match layN k a with
    | (a', os) => (match layL (k + os.length) as with
      | (as', os') => (a' :: as', os ++ os'))
end

def preB (p : Nm) : Nm → Bool
  | .top n => decide (p = .top n)
  | .sub y t j f => decide (p = .sub y t j f) || preB p y

theorem preB_iff {p : Nm} : ∀ {x : Nm}, preB p x = true ↔ pre p x
  | .top n => by simp [preB, pre]
  | .sub y t j f => by simp [preB, pre, preB_iff (x := y)]

def apart1 (x : Option (Nm × Nat)) (o : NObj) : ML → List NObj → Bool
  | y :: r, o' :: os => (match x, y with
    | some (p, _), some (p', _) => if o.own = true ∨ o'.own = true then !preB p p' && !preB p' p else true
    | _, _ => true) && apart1 x o r os
  | _, _ => true

def apartB : ML → List NObj → Bool
  | x :: r, o :: os => apart1 x o r os && apartB r os
  | _, _ => true

theorem apart1_get {p : Nm} {i : Nat} {o : NObj} : ∀ {ml : ML} {os : List NObj}, apart1 (some (p, i)) o ml os = true → ∀ {k : Nat} {p' : Nm} {i' : Nat} {o' : NObj}, ml[k]? = some (some (p', i')) → os[k]? = some o' → (o.own = true ∨ o'.own = true) → ¬ pre p p' ∧ ¬ pre p' p
  | [], _, _, k, _, _, _, h, _, _ => by simp at h
  | y :: r, [], _, k, _, _, _, _, h, _ => by simp at h
  | y :: r, o1 :: os, h, k, p', i', o', h1, h2, h3 => by
    simp only [apart1, Bool.and_eq_true] at h
    cases k with
    | zero =>
      simp at h1 h2
      subst h1 h2
      have := h.1
      simp only [h3, if_true, Bool.and_eq_true, Bool.not_eq_true', ← Bool.not_eq_true, preB_iff] at this
      exact this
    | succ k => exact apart1_get h.2 (by simpa using h1) (by simpa using h2) h3

theorem apartB_ok : ∀ {ml : ML} {os : List NObj}, apartB ml os = true → ml.length = os.length → Apart ml os
  | [], _, _, _ => fun k k' p p' i i' o _ h1 => by simp at h1
  | x :: r, [], _, h => by simp at h
  | x :: r, o1 :: os, h, hl => by
    simp only [apartB, Bool.and_eq_true] at h
    have ih := apartB_ok h.2 (by simpa using hl)
    intro k k' p p' i i' o hne h1 h2 h3 h4
    cases k with
    | zero =>
      cases k' with
      | zero => exact absurd rfl hne
      | succ k' =>
        simp at h1 h3
        subst h1 h3
        have hk' : k' < os.length := by
          have := (List.getElem?_eq_some_iff.1 h2).1
          simp at this hl; omega
        exact apart1_get h.1 (k := k') (by simpa using h2) (List.getElem?_eq_getElem hk') (.inl h4)
    | succ k =>
      cases k' with
      | zero =>
        simp at h2
        subst h2
        have := apart1_get h.1 (k := k) (by simpa using h1) (by simpa using h3) (.inr h4)
        exact ⟨this.2, this.1⟩
      | succ k' => exact ih k k' p p' i i' o (by omega) (by simpa using h1) (by simpa using h2) (by simpa using h3) h4

def namesB (nb : Nat) : ML → Bool
  | [] => true
  | some (p, _) :: r => decide (p.mx < nb) && namesB nb r
  | none :: r => namesB nb r

theorem namesB_ok {nb : Nat} : ∀ {ml : ML}, namesB nb ml = true → Names ml nb
  | [], _ => fun k p i h => by simp at h
  | some (q, _) :: r, h => fun k p i h1 => by
    simp only [namesB, Bool.and_eq_true] at h
    cases k with
    | zero => simp at h1; rw [← h1.1]; exact of_decide_eq_true h.1
    | succ k => exact namesB_ok h.2 k p i (by simpa using h1)
  | none :: r, h => fun k p i h1 => by
    simp only [namesB] at h
    cases k with
    | zero => simp at h1
    | succ k => exact namesB_ok h k p i (by simpa using h1)

def mlRoots : ML → List Nat
  | [] => []
  | some (p, _) :: r => p.root :: mlRoots r
  | none :: r => mlRoots r

theorem mlRoots_mem : ∀ {ml : ML} {p : Nm} {i : Nat}, some (p, i) ∈ ml → p.root ∈ mlRoots ml
  | some (q, _) :: r, p, i, h => by
    simp only [mlRoots]
    rcases List.mem_cons.1 h with h | h
    · simp at h; rw [h.1]; exact List.mem_cons_self
    · exact List.mem_cons_of_mem _ (mlRoots_mem h)
  | none :: r, p, i, h => by
    simp only [mlRoots]
    rcases List.mem_cons.1 h with h | h
    · cases h
    · exact mlRoots_mem h
  | [], _, _, h => by simp at h

abbrev aA (ms : Modes) (xs : List AV) : List AV := (loL 0 xs ms).1
abbrev oA (ms : Modes) (xs : List AV) : List NObj := (loL 0 xs ms).2.1
abbrev lR (ms : Modes) (xs : List AV) (a : Ans) : AV := (layN (oA ms xs).length a.res).1
abbrev nR (ms : Modes) (xs : List AV) (a : Ans) : List NObj := (layN (oA ms xs).length a.res).2
abbrev uR (ms : Modes) (xs : List AV) (a : Ans) : List NObj := fixO (oA ms xs) a.outs

/-- A specification is in order. -/
def NOk (ms : Modes) (d : List AV → Option Ans) : Prop := ∀ xs a, d xs = some a → Ends (oA ms xs) (uR ms xs a) (nR ms xs a) ∧ namesOk (mayN (oA ms xs) (nR ms xs a).length) (lR ms xs a) = true

theorem wrs_keys : ∀ (ws : List (Nm × NObj)) (G : NH) (x : Nat), x ∈ (wrs G ws).map (·.1) → ∃ q ∈ ws, q.1.root = x
  | [], G, x, h => by simp [wrs] at h
  | (p, o) :: r, G, x, h => by
    simp only [wrs, List.map_cons, List.mem_cons, wr_root] at h
    rcases h with h | h
    · exact ⟨_, List.mem_cons_self, h.symm⟩
    · obtain ⟨q, h1, h2⟩ := wrs_keys r _ x h
      exact ⟨q, List.mem_cons_of_mem _ h1, h2⟩

theorem wrs_same : ∀ (ws : List (Nm × NObj)) {G G' : NH}, (∀ q ∈ ws, G q.1.root = G' q.1.root) → wrs G' ws = wrs G ws
  | [], _, _, _ => rfl
  | (p, o) :: r, G, G', h => by
    have h0 := h _ List.mem_cons_self
    simp only at h0
    rw [wrs, wrs, wr_same h0]
    congr 1
    refine wrs_same r fun q hq => ?_
    by_cases e : q.1.root = (wr G p o).1
    · rw [e, upd_same, upd_same]
    · rw [upd_other _ _ e, upd_other _ _ e]; exact h q (List.mem_cons_of_mem _ hq)

theorem idxO_keys : ∀ (l : List NObj) (i x : Nat), x ∈ (idxO i l).map (·.1) → i ≤ x ∧ x < i + l.length
  | [], i, x, h => by simp [idxO] at h
  | o :: r, i, x, h => by
    simp only [idxO, List.map_cons, List.mem_cons] at h
    rcases h with h | h
    · subst h; simp
    · have := idxO_keys r (i + 1) x h
      simp; omega

theorem seen_ne {i : Nat} {og o : NObj} (h : Seen i og o) : og ≠ .free := by
  intro e
  rw [e] at h
  cases h with
  | own h _ => cases h
  | row h _ _ => rcases h with h | h <;> cases h
  | one h _ => rcases h with h | h <;> cases h

/-- Names that a call brings are new ones. -/
theorem after_nw {G : NH} {nb : Nat} {ml : ML} {objs outs news : List NObj} (hc : Cames G ml objs) (hap : Apart ml objs) (hnm : Names ml nb) (hend : Ends objs outs news) : ∀ x : Nm, ¬ (nb ≤ x.mx ∧ x.mx < nb + 8) → getP (updL G (afterL G nb ml objs outs news)) x ≠ .free → getP G x ≠ .free := by
  intro x hx hg
  by_cases hr : nb + news.length ≤ x.root ∧ x.root < nb + 8
  · have e : updL G (afterL G nb ml objs outs news) x.root = G x.root := by
      have : x.root ∉ (afterL G nb ml objs outs news).map (·.1) := fun hm => by
        simp only [afterL, List.map_append, List.mem_append] at hm
        rcases hm with hm | hm
        · obtain ⟨q, h1, h2⟩ := wrs_keys _ _ _ hm
          obtain ⟨k, i, o, o', g1, _⟩ := wl_mem h1
          have := hnm _ _ _ g1
          have := root_mx q.1
          omega
        · have := idxO_keys _ _ _ hm
          omega
      exact updL_other _ _ _ this
    rwa [getP_same (G := G) (G' := updL G (afterL G nb ml objs outs news)) e.symm] at hg
  -- where nothing was at the new names
  let G0 : NH := fun k => if nb ≤ k ∧ k < nb + 8 then .free else G k
  have sameP : ∀ {p : Nm}, p.mx < nb → getP G0 p = getP G p := fun {p} hp => getP_same (by
    have := root_mx p
    show G p.root = if nb ≤ p.root ∧ p.root < nb + 8 then .free else G p.root
    rw [if_neg (by omega)])
  have hc0 : Cames G0 ml objs := ⟨hc.1, fun k y o h1 h2 => by
    have := hc.2 k y o h1 h2
    cases y with
    | none => exact this
    | some q =>
      obtain ⟨p, i⟩ := q
      simp only at this ⊢
      rw [sameP (hnm _ _ _ h1)]; exact this⟩
  have hnew0 : ∀ k, nb ≤ k → k < nb + 8 → G0 k = .free := fun k h1 h2 => if_pos ⟨h1, h2⟩
  have hL : afterL G0 nb ml objs outs news = afterL G nb ml objs outs news := by
    unfold afterL
    congr 1
    refine wrs_same _ fun q hq => ?_
    obtain ⟨k, i, o, o', g1, _⟩ := wl_mem hq
    have := hnm _ _ _ g1
    have := root_mx q.1
    show G q.1.root = if nb ≤ q.1.root ∧ q.1.root < nb + 8 then .free else G q.1.root
    rw [if_neg (by omega)]
  have hsame : updL G0 (afterL G0 nb ml objs outs news) x.root = updL G (afterL G nb ml objs outs news) x.root := by
    rw [hL]
    refine updL_mem_or (x := x.root) _ _ _ ?_
    by_cases hin : nb ≤ x.root ∧ x.root < nb + 8
    · left
      simp only [afterL, List.map_append, List.mem_append]
      right
      have hkeys : ∀ (l : List NObj) (i y : Nat), i ≤ y → y < i + l.length → y ∈ (idxO i l).map (·.1) := by
        intro l
        induction l with
        | nil => intro i y h1 h2; simp at h2; omega
        | cons o r ih =>
          intro i y h1 h2
          simp only [idxO, List.map_cons, List.mem_cons]
          by_cases e : y = i
          · exact .inl e
          · exact .inr (ih (i + 1) y (by omega) (by simp at h2; omega))
      exact hkeys news nb x.root hin.1 (by omega)
    · right
      show (if nb ≤ x.root ∧ x.root < nb + 8 then NObj.free else G x.root) = _
      rw [if_neg hin]
  have hg0 : getP (updL G0 (afterL G0 nb ml objs outs news)) x ≠ .free := by
    rw [getP_same (G := updL G (afterL G nb ml objs outs news)) hsame.symm]; exact hg
  have fin : getP G0 x ≠ .free := by
    by_cases ha : nb ≤ x.root ∧ x.root < nb + 8 ∨ ∃ (k i : Nat) (p : Nm) (o : NObj), ml[k]? = some (some (p, i)) ∧ objs[k]? = some o ∧ o.own = true ∧ pre p x
    · obtain ⟨z, b1, b2, b3, b4, b5⟩ := after_get hc0 hap hnm hend hnew0 rfl rfl rfl x hg0 ha
      rcases b4 with ⟨c1, c2, _⟩ | ⟨k, i, o, g1, g2, g3, g4⟩
      · exact absurd ⟨c2, c1⟩ hx
      · have := hc0.2 k _ o g1 g2
        exact seen_ne this
    · have := after_far hc0 hap hnm hend hnew0 rfl (x := x) (fun h => ha (.inl h)) fun k i p o h1 h2 h3 h4 => ha (.inr ⟨k, i, p, o, h1, h2, h3, h4⟩)
      intro e
      exact hg0 (HF_free.1 (by rw [this]; exact HF_free.2 e))
  intro e
  refine fin ?_
  by_cases hin : nb ≤ x.root ∧ x.root < nb + 8
  · exact getP_free (hnew0 x.root hin.1 hin.2) rfl
  · rw [getP_same (G := G) (by show G x.root = if nb ≤ x.root ∧ x.root < nb + 8 then .free else G x.root; rw [if_neg hin])]
    exact e

def nestF (ms : Modes) (d : List AV → Option Ans) (args : List AV) (G : NH) (nb : Nat) : Option Res :=
  match cloL G args ms with
  | some (xs, ml, []) => if namesB nb ml = true ∧ apartB ml (oA ms xs) = true then (match d xs with
    | some a => some ⟨backV (bkN nb (oA ms xs).length ml) (lR ms xs a), afterL G nb ml (oA ms xs) (uR ms xs a) (nR ms xs a), mlRoots ml, 8⟩
    | none => none) else none
  | _ => none

theorem nestF_some {ms : Modes} {d : List AV → Option Ans} {args : List AV} {G : NH} {nb : Nat} {r : Res} (h : nestF ms d args G nb = some r) : ∃ xs ml a, cloL G args ms = some (xs, ml, []) ∧ namesB nb ml = true ∧ apartB ml (oA ms xs) = true ∧ d xs = some a ∧ r = ⟨backV (bkN nb (oA ms xs).length ml) (lR ms xs a), afterL G nb ml (oA ms xs) (uR ms xs a) (nR ms xs a), mlRoots ml, 8⟩ := by
  unfold nestF at h
  split at h
  · rename_i xs ml hcl
    split at h
    · rename_i hh
      split at h
      · rename_i a ha
        injection h with h
        exact ⟨xs, ml, a, hcl, hh.1, hh.2, ha, h.symm⟩
      · cases h
    · cases h
  · cases h

theorem clo_cames {G : NH} {args xs : List AV} {ml : ML} {ms q : Modes} (h : cloL G args ms = some (xs, ml, q)) : Cames G ml (oA ms xs) ∧ ArgSL ml (aA ms xs) args := by
  obtain ⟨_, h2, h3⟩ := cloL_ok args ms h ml 0 (fun j x hx => by rwa [Nat.zero_add])
  exact ⟨Cames_of h2, h3⟩

def nestS (ms : Modes) (d : List AV → Option Ans) (hok : NOk ms d) : Spec where
  fn := nestF ms d
  loc := fun args G G' nb r h hG => by
    obtain ⟨xs, ml, a, h1, h2, h3, h4, rfl⟩ := nestF_some h
    have hroot : ∀ p i, some (p, i) ∈ ml → G p.root = G' p.root := fun p i hp => hG _ (.inl (mlRoots_mem hp))
    unfold nestF
    rw [cloL_loc args ms h1 hroot]
    simp only [h2, h3, h4, and_self, if_true]
    have : afterL G' nb ml (oA ms xs) (uR ms xs a) (nR ms xs a) = afterL G nb ml (oA ms xs) (uR ms xs a) (nR ms xs a) := by
      unfold afterL
      congr 1
      refine wrs_same _ fun q hq => ?_
      obtain ⟨k, i, o, o', g1, _⟩ := wl_mem hq
      exact hroot q.1 i (List.mem_of_getElem? g1)
    rw [this]
  nm := fun args G nb r h x hx => by
    obtain ⟨xs, ml, a, h1, h2, h3, h4, rfl⟩ := nestF_some h
    obtain ⟨hc, _⟩ := clo_cames h1
    simp only [afterL, List.map_append, List.mem_append] at hx
    rcases hx with hx | hx
    · obtain ⟨q, g1, g2⟩ := wrs_keys _ _ _ hx
      obtain ⟨k, i, o, o', e1, e2, _⟩ := wl_mem g1
      right
      rw [← g2]
      have := hc.2 k _ o e1 e2
      exact getP_root (seen_ne this)
    · have := idxO_keys _ _ _ hx
      have := (hok xs a h4).1.few
      exact .inl (by simp only; omega)

theorem rcOf_def : True := trivial

def rcOf (P : Program) (fn : Func) : Option MCode :=
  match fn.body with
  | some c => rC P c
  | none => none

theorem rcOf_body {P : Program} {fn : Func} {mc : MCode} (h : rcOf P fn = some mc) : ∃ c, fn.body = some c ∧ rC P c = some mc := by
  unfold rcOf at h
  split at h
  · rename_i c hc; exact ⟨c, hc, h⟩
  · cases h

/-- A FUNCTION KEEPS ITS SPECIFICATION if its body's walk does. -/
theorem nest_sound {P : Program} {f : FuncId} {fn : Func} {mc : MCode} {res : List RV} (hf : P.funcs[f]? = some fn) (hn : (fn.name == "runtime.NumGoroutine") = false) (hrc : rcOf P fn = some mc) (hres : rRVs P fn.results.toList = some res) {ms : Modes} {d : List AV → Option Ans} (hok : NOk ms d)
    (hlen : ∀ xs a, d xs = some a → (aA ms xs).length ≤ fn.ntmps)
    (hw : ∀ xs a, d xs = some a → ∀ (w0 : World) (S : Sc), S.m = (oA ms xs).length → Wm P w0 S fn.ntmps [] mc ⟨argL 0 (aA ms xs), idxO 0 (oA ms xs), (oA ms xs).length⟩
      (retK res fun v s => Imp (oA ms xs).length ⟨[(0, v)], s.hl, s.nb⟩ ⟨[(0, lR ms xs a)], idxO 0 (uR ms xs a ++ nR ms xs a), (oA ms xs).length + (nR ms xs a).length⟩)) : Sound P f (nestS ms d hok) := by
  obtain ⟨c, hb, hrc⟩ := rcOf_body hrc
  refine ⟨⟨fn, hf, hn, by rw [hb]; rfl⟩, fun w0 S Es U G w avs vs nb r h1 h2 h3 h4 h5 h6 h7 h8 => ?_⟩
  obtain ⟨xs, ml, a, g1, g2, g3, g4, rfl⟩ := nestF_some h7
  obtain ⟨hc, hargs⟩ := clo_cames g1
  obtain ⟨e1, e2⟩ := hok xs a g4
  exact (nest_calls hf hb hrc hres (hlen xs a g4) e1 e2 (hw xs a g4) h1 h3 h4 h5 h6 h8 hargs hc (apartB_ok g3 hc.1) (namesB_ok g2))

end Go.W
