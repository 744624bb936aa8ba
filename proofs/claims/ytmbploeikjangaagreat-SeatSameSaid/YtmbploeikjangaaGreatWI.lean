/- Objects that own others: a heap of trees, and the flat heap that it stands for. -/
import Derived.Test.YtmbploeikjangaaGreatWH
set_option linter.unusedSimpArgs false
set_option linter.unusedVariables false
namespace Go.W

inductive NObj where
  | free
  | cells (t : Nat) (c : List AV)
  | arr (t sz : Nat) (els : List (List AV))
  | view (t sz : Nat) (els : List (List AV))
  deriving Inhabited

abbrev NH := Nat → NObj

def NObj.tag : NObj → Nat
  | .free => 0
  | .cells t _ => t
  | .arr t _ _ => t
  | .view t _ _ => t

def NObj.ro : NObj → Bool
  | .view _ _ _ => true
  | _ => false

def NObj.own : NObj → Bool
  | .cells _ _ => true
  | .arr _ _ _ => true
  | _ => false

def elemN : NObj → Nat → Option (List AV)
  | .cells _ c, i => if i = 0 then some c else none
  | .arr _ _ els, i => els[i]?
  | .view _ _ els, i => els[i]?
  | .free, _ => none

/-- The object that a cell owns. -/
def kidV (ro : Bool) : AV → NObj
  | .os t sz els => if ro = true then .view t sz els else .arr t sz els
  | .op t c => if ro = true then .view t c.length [c] else .cells t c
  | _ => .free

def kidC (ro : Bool) (c : List AV) (f : Nat) : NObj := match c[f]? with
  | some v => kidV ro v
  | none => .free

def kid (o : NObj) (t j f : Nat) : NObj := if o.tag = t then (match elemN o j with
  | some c => kidC o.ro c f
  | none => .free) else .free

def getP (G : NH) : Nm → NObj
  | .top n => G n
  | .sub p t j f => kid (getP G p) t j f

/-- Does a value own nothing? -/
def AV.plain : AV → Bool
  | .os _ _ _ | .op _ _ => false
  | _ => true

def flV (p : Nm) (t j f : Nat) : AV → AV
  | .os _ _ els => .sl (.sub p t j f) 0 els.length
  | .op _ _ => .ptr (.sub p t j f) 0 0
  | v => v

def flC (p : Nm) (t j : Nat) (c : List AV) : List AV := c.mapIdx fun f v => flV p t j f v

def flO (p : Nm) : NObj → AObj
  | .free => .free
  | .cells t c => .cells (flC p t 0 c)
  | .arr t sz els => .arr sz els.length (fun j => flC p t j (els.getD j []))
  | .view t sz els => .view sz els.length (fun j => flC p t j (els.getD j []))

def HF (G : NH) (x : Nm) : AObj := flO x (getP G x)

theorem flV_plain {p : Nm} {t j f : Nat} {v : AV} (h : v.plain = true) : flV p t j f v = v := by
  cases v <;> first | rfl | simp [AV.plain] at h

@[simp] theorem flC_length (p : Nm) (t j : Nat) (c : List AV) : (flC p t j c).length = c.length := by simp [flC]

theorem flC_get (p : Nm) (t j : Nat) (c : List AV) (f : Nat) : (flC p t j c)[f]? = (c[f]?).map (flV p t j f) := by simp [flC]

theorem flC_plain {p : Nm} {t j : Nat} {c : List AV} (h : c.all AV.plain = true) : flC p t j c = c := by
  apply List.ext_getElem?
  intro f
  rw [flC_get]
  cases hc : c[f]? with
  | none => rfl
  | some v =>
    have := List.all_eq_true.1 h v (List.mem_of_getElem? hc)
    simp [flV_plain this]

theorem elemOf_HF (G : NH) (p : Nm) (i : Nat) : elemOf (HF G p) i = (elemN (getP G p) i).map (flC p (getP G p).tag i) := by
  unfold HF
  cases getP G p with
  | free => rfl
  | cells t c =>
    simp only [flO, elemOf, elemN, NObj.tag]
    split
    · rename_i e; subst e; rfl
    · rfl
  | arr t sz els =>
    simp only [flO, elemOf, elemN, NObj.tag]
    split
    · rename_i h; rw [List.getD_eq_getElem?_getD, List.getElem?_eq_getElem h]; rfl
    · rename_i h; rw [List.getElem?_eq_none (by omega)]; rfl
  | view t sz els =>
    simp only [flO, elemOf, elemN, NObj.tag]
    split
    · rename_i h; rw [List.getD_eq_getElem?_getD, List.getElem?_eq_getElem h]; rfl
    · rename_i h; rw [List.getElem?_eq_none (by omega)]; rfl

def szN : NObj → Option Nat
  | .arr _ sz _ => some sz
  | .view _ sz _ => some sz
  | _ => none

theorem szObj_HF (G : NH) (p : Nm) : szObj (HF G p) = szN (getP G p) := by
  unfold HF
  cases getP G p <;> rfl

theorem HF_free {G : NH} {x : Nm} : HF G x = .free ↔ getP G x = .free := by
  unfold HF
  cases getP G x <;> simp [flO]

/-! ### Writing into a tree -/
/-- The value of the cell that owns an object. -/
def cellOf (x : Nm) (old : NObj) : NObj → AV
  | .arr t sz els => .os t sz els
  | .cells t c => .op t c
  | .view _ _ _ => .bot
  | .free => match old with
    | .arr _ _ els => .sl x 0 els.length
    | .cells _ _ => .ptr x 0 0
    | _ => .bot

def putKid (o : NObj) (j f : Nat) (v : AV) : NObj :=
  match o with
  | .cells t c => .cells t (if j = 0 then c.set f v else c)
  | .arr t sz els => .arr t sz (els.set j ((els.getD j []).set f v))
  | o => o

def wr (G : NH) : Nm → NObj → Nat × NObj
  | .top n, o => (n, o)
  | .sub p t j f, o => wr G p (putKid (getP G p) j f (cellOf (.sub p t j f) (getP G (.sub p t j f)) o))

def pre (p : Nm) : Nm → Prop
  | .top n => p = .top n
  | .sub q t j f => p = .sub q t j f ∨ pre p q

theorem pre_refl (p : Nm) : pre p p := by cases p <;> simp [pre]

theorem pre_up {p q : Nm} {t j f : Nat} : ∀ {x : Nm}, pre (.sub p t j f) x → pre p x
  | .top n, h => by simp [pre] at h
  | .sub y t' j' f', h => by
    rcases h with h | h
    · injection h with h1 h2 h3 h4
      subst h1
      exact .inr (pre_refl _)
    · exact .inr (pre_up (q := q) h)

def depth : Nm → Nat
  | .top _ => 0
  | .sub p _ _ _ => depth p + 1

theorem pre_depth {p : Nm} : ∀ {x : Nm}, pre p x → depth p ≤ depth x
  | .top n, h => by simp only [pre] at h; subst h; exact Nat.le_refl _
  | .sub y t j f, h => by
    rcases h with h | h
    · subst h; exact Nat.le_refl _
    · have := pre_depth h; simp only [depth]; omega

theorem pre_root {n : Nat} : ∀ {x : Nm}, pre (.top n) x ↔ x.root = n
  | .top m => by simp only [pre, Nm.top.injEq, Nm.root]; exact eq_comm
  | .sub y t j f => by simp only [pre, Nm.root, reduceCtorEq, false_or]; exact pre_root

/-- An object that is written in place of another one. -/
def Like : NObj → NObj → Prop
  | .cells _ _, .cells _ _ => True
  | .arr _ _ els, .arr _ _ els' => els'.length = els.length
  | .cells _ _, .free => True
  | .arr _ _ _, .free => True
  | _, _ => False

theorem Like.own {o o' : NObj} (h : Like o o') : o.own = true := by
  cases o <;> cases o' <;> simp_all [Like, NObj.own]

theorem getP_other {G : NH} {n : Nat} {o : NObj} : ∀ {x : Nm}, x.root ≠ n → getP (upd G n o) x = getP G x
  | .top m, h => upd_other _ _ h
  | .sub y t j f, h => by rw [getP, getP, getP_other (x := y) h]

theorem kid_own {o : NObj} {t j f : Nat} (h : (kid o t j f).own = true) : o.own = true ∧ o.tag = t ∧ ∃ c v, elemN o j = some c ∧ c[f]? = some v ∧ kidV false v = kid o t j f := by
  unfold kid at h ⊢
  split at h
  · rename_i ht
    simp only [ht, if_true] at h ⊢
    cases he : elemN o j with
    | none => simp [he, NObj.own] at h
    | some c =>
      simp only [he] at h ⊢
      unfold kidC at h ⊢
      cases hc : c[f]? with
      | none => simp [hc, NObj.own] at h
      | some v =>
        simp only [hc] at h ⊢
        cases o with
        | free => simp [elemN] at he
        | cells t' d => exact ⟨rfl, trivial, c, v, rfl, hc, rfl⟩
        | arr t' sz els => exact ⟨rfl, trivial, c, v, rfl, hc, rfl⟩
        | view t sz els => cases v <;> simp [kidV, NObj.ro, NObj.own] at h
  · simp [NObj.own] at h

theorem putKid_tag (o : NObj) (j f : Nat) (v : AV) : (putKid o j f v).tag = o.tag := by cases o <;> rfl
theorem putKid_ro (o : NObj) (j f : Nat) (v : AV) : (putKid o j f v).ro = o.ro := by cases o <;> rfl

theorem putKid_elem {o : NObj} {j f : Nat} {v : AV} {c : List AV} (ho : o.own = true) (hc : elemN o j = some c) (i : Nat) : elemN (putKid o j f v) i = if i = j then some (c.set f v) else elemN o i := by
  cases o with
  | free => simp [NObj.own] at ho
  | view t sz els => simp [NObj.own] at ho
  | cells t d =>
    simp only [elemN] at hc
    split at hc
    · rename_i e
      subst e
      injection hc with hc
      subst hc
      simp only [putKid, elemN, if_true]
      split
      · rfl
      · rfl
    · cases hc
  | arr t sz els =>
    simp only [elemN] at hc
    simp only [putKid, elemN]
    have hlt := (List.getElem?_eq_some_iff.1 hc).1
    rw [List.getD_eq_getElem?_getD, hc, Option.getD_some, List.getElem?_set]
    by_cases e : i = j
    · subst e; simp [hlt]
    · rw [if_neg (fun h => e h.symm), if_neg e]

theorem putKid_kid {o : NObj} {j f : Nat} {v u : AV} {c : List AV} (ho : o.own = true) (hc : elemN o j = some c) (hu : c[f]? = some u) (j' f' : Nat) : kid (putKid o j f v) o.tag j' f' = if j' = j ∧ f' = f then kidV false v else kid o o.tag j' f' := by
  have hro : o.ro = false := by cases o <;> simp_all [NObj.own, NObj.ro]
  unfold kid
  rw [putKid_tag, putKid_ro, putKid_elem ho hc, hro]
  simp only [if_true]
  have hlt := (List.getElem?_eq_some_iff.1 hu).1
  by_cases e : j' = j
  · subst e
    simp only [if_true, hc, kidC, List.getElem?_set, true_and]
    by_cases e2 : f' = f
    · subst e2; simp [hlt]
    · rw [if_neg (fun h => e2 h.symm), if_neg e2]
  · simp only [if_neg e, e, false_and, if_false]

theorem kid_tag {o : NObj} {t j f : Nat} (h : o.tag ≠ t) : kid o t j f = .free := by unfold kid; rw [if_neg h]

theorem flO_putKid {o : NObj} {j f : Nat} {v u : AV} {c : List AV} (q : Nm) (ho : o.own = true) (hc : elemN o j = some c) (hu : c[f]? = some u) (he : flV q o.tag j f v = flV q o.tag j f u) : flO q (putKid o j f v) = flO q o := by
  have key : flC q o.tag j (c.set f v) = flC q o.tag j c := by
    apply List.ext_getElem?
    intro k
    rw [flC_get, flC_get, List.getElem?_set]
    by_cases e : f = k
    · subst e
      rw [if_pos rfl, if_pos (List.getElem?_eq_some_iff.1 hu).1, hu]
      simp [he]
    · rw [if_neg e]
  cases o with
  | free => simp [NObj.own] at ho
  | view t sz els => simp [NObj.own] at ho
  | cells t d =>
    simp only [elemN] at hc
    split at hc
    · rename_i e
      subst e
      injection hc with hc
      subst hc
      simp only [putKid, flO, if_true]
      simp only [NObj.tag] at key
      rw [key]
    · cases hc
  | arr t sz els =>
    simp only [elemN] at hc
    simp only [putKid, flO, List.length_set, AObj.arr.injEq, true_and]
    simp only [NObj.tag] at key
    funext i
    rw [List.getD_eq_getElem?_getD, List.getD_eq_getElem?_getD, List.getD_eq_getElem?_getD, hc, List.getElem?_set]
    by_cases e : j = i
    · subst e
      rw [if_pos rfl, if_pos (List.getElem?_eq_some_iff.1 hc).1, hc]
      simpa using key
    · rw [if_neg e]

theorem cellOf_kid {x : Nm} {old o : NObj} (h : Like old o) : kidV false (cellOf x old o) = o := by
  cases old <;> cases o <;> simp_all [Like, cellOf, kidV]

theorem cellOf_fl {p : Nm} {t j f : Nat} {old o : NObj} {u : AV} (h : Like old o) (hu : kidV false u = old) : flV p t j f (cellOf (.sub p t j f) old o) = flV p t j f u := by
  cases u <;> simp [kidV] at hu <;> subst hu <;> cases o <;> simp_all [Like, cellOf, flV]

theorem putKid_like {o : NObj} {j f : Nat} {v : AV} (ho : o.own = true) : Like o (putKid o j f v) := by
  cases o <;> simp_all [NObj.own, putKid, Like]

/-- WHAT IS WRITTEN IS THERE; all else is as it was. -/
theorem wr_get (G : NH) : ∀ (p : Nm) (o' : NObj), Like (getP G p) o' → getP (upd G (wr G p o').1 (wr G p o').2) p = o' ∧ (∀ x, ¬ pre p x → HF (upd G (wr G p o').1 (wr G p o').2) x = HF G x) ∧
    ∀ x, ¬ pre p x → ¬ pre x p → getP (upd G (wr G p o').1 (wr G p o').2) x = getP G x
  | .top n, o', h => by
    refine ⟨upd_same _ _ _, fun x hx => ?_, fun x hx _ => ?_⟩
    · have : x.root ≠ n := fun e => hx (pre_root.2 e)
      unfold HF
      show flO x (getP (upd G n o') x) = _
      rw [getP_other this]
    · exact getP_other fun e => hx (pre_root.2 e)
  | .sub q t j f, o', h => by
    have hown := h.own
    obtain ⟨ho, ht, c, u, hc, hu, hk⟩ := kid_own (o := getP G q) (t := t) (j := j) (f := f) hown
    obtain ⟨i1, i2, i3⟩ := wr_get G q (putKid (getP G q) j f (cellOf (.sub q t j f) (getP G (.sub q t j f)) o')) (putKid_like ho)
    have hw : wr G (.sub q t j f) o' = wr G q (putKid (getP G q) j f (cellOf (.sub q t j f) (getP G (.sub q t j f)) o')) := rfl
    rw [hw]
    generalize hG' : upd G (wr G q (putKid (getP G q) j f (cellOf (.sub q t j f) (getP G (.sub q t j f)) o'))).1 (wr G q (putKid (getP G q) j f (cellOf (.sub q t j f) (getP G (.sub q t j f)) o'))).2 = G' at i1 i2 i3 ⊢
    have kids : ∀ j' f', kid (getP G' q) t j' f' = if j' = j ∧ f' = f then o' else kid (getP G q) t j' f' := fun j' f' => by
      rw [i1, ← ht, putKid_kid ho hc hu, ht]
      split
      · exact cellOf_kid h
      · rfl
    have tags : ∀ t', t' ≠ t → ∀ j' f', kid (getP G' q) t' j' f' = .free ∧ kid (getP G q) t' j' f' = .free := fun t' hne j' f' =>
      ⟨kid_tag (by rw [i1, putKid_tag, ht]; exact fun e => hne e.symm), kid_tag (by rw [ht]; exact fun e => hne e.symm)⟩
    have below : ∀ x, pre q x → x ≠ q → ¬ pre (.sub q t j f) x → getP G' x = getP G x := by
      intro x
      induction x with
      | top m => intro hx hne _; simp only [pre] at hx; exact absurd hx.symm hne
      | sub y t' j' f' ih =>
        intro hx hne hnp
        have hqy : pre q y := by
          rcases hx with hx | hx
          · exact absurd hx.symm hne
          · exact hx
        have hny : ¬ pre (.sub q t j f) y := fun h => hnp (.inr h)
        by_cases e : y = q
        · subst e
          by_cases et : t' = t
          · subst et
            have := kids j' f'
            rw [if_neg (fun hh => hnp (.inl (by rw [hh.1, hh.2])))] at this
            exact this
          · obtain ⟨a, b⟩ := tags t' et j' f'
            show kid _ _ _ _ = kid _ _ _ _
            rw [a, b]
        · rw [getP, getP, ih hqy e hny]
    refine ⟨?_, fun x hx => ?_, fun x hx hx' => ?_⟩
    · have := kids j f
      rw [if_pos ⟨rfl, rfl⟩] at this
      exact this
    · by_cases hq : pre q x
      · by_cases e : x = q
        · subst e
          unfold HF
          rw [i1]
          refine flO_putKid x ho hc hu ?_
          rw [ht]
          exact cellOf_fl h hk
        · unfold HF; rw [below x hq e hx]
      · exact i2 x hq
    · by_cases hq : pre q x
      · have e : x ≠ q := fun e => hx' (by subst e; exact .inr (pre_refl _))
        exact below x hq e hx
      · refine i3 x hq fun hh => hx' (.inr hh)

/-- Below what is written. -/
theorem wr_below (G : NH) (p : Nm) {o' : NObj} (h : Like (getP G p) o') (hk : ∀ t j f, kid o' t j f = kid (getP G p) t j f ∨ kid o' t j f = .free) : ∀ x, pre p x → x ≠ p → getP (upd G (wr G p o').1 (wr G p o').2) x = getP G x ∨ getP (upd G (wr G p o').1 (wr G p o').2) x = .free := by
  intro x
  induction x with
  | top m => intro hx hne; simp only [pre] at hx; exact absurd hx.symm hne
  | sub y t j f ih =>
    intro hx hne
    have hy : pre p y := by
      rcases hx with hx | hx
      · exact absurd hx.symm hne
      · exact hx
    rw [getP, getP]
    by_cases e : y = p
    · subst e
      rw [(wr_get G y o' h).1]
      exact hk t j f
    · rcases ih hy e with i | i
      · rw [i]; exact .inl rfl
      · rw [i]; right; simp [kid, elemN]

end Go.W
