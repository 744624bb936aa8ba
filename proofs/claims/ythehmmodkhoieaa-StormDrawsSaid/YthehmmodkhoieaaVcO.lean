/- A body that walks by its own few objects keeps its specification for every caller. -/
import Derived.Test.YthehmmodkhoieaaVcN
namespace Go.Vc

def idxO : Nat → List AObj → List (Nat × AObj)
  | _, [] => []
  | i, o :: r => (i, o) :: idxO (i + 1) r

theorem hk_idxO : ∀ (l : List AObj) (i x : Nat), hk (idxO i l) x = if i ≤ x then (l[x - i]?).getD .free else .free
  | [], i, x => by simp [idxO, hk]
  | o :: r, i, x => by
    simp only [idxO, hk]
    split
    · rename_i e; subst e; simp
    · rename_i e
      rw [hk_idxO r (i + 1) x]
      by_cases h : i ≤ x
      · rw [if_pos (show i + 1 ≤ x by omega), if_pos h]
        have : x - i = (x - (i + 1)) + 1 := by omega
        rw [this, List.getElem?_cons_succ]
      · rw [if_neg (by omega), if_neg h]

theorem hk_idx0 (l : List AObj) (x : Nat) : hk (idxO 0 l) x = (l[x]?).getD .free := by simp [hk_idxO]

theorem idxO_keys : ∀ (l : List AObj) (i : Nat) (p : Nat × AObj), p ∈ idxO i l → p.1 < i + l.length
  | [], _, _, h => by simp [idxO] at h
  | o :: r, i, p, h => by
    simp only [idxO, List.mem_cons] at h
    rcases h with rfl | h
    · simp
    · have := idxO_keys r (i + 1) p h; simp; omega

theorem ObjsS_length {ml0 : ML} {H : Nat → AObj} : ∀ {ml : ML} {os : List AObj}, ObjsS ml0 H ml os → ml.length = os.length
  | [], [], _ => rfl
  | some _ :: r, o :: os, h => by simp only [ObjsS] at h; simp [ObjsS_length h.2]
  | none :: r, o :: os, h => by simp only [ObjsS] at h; simp [ObjsS_length h.2]
  | [], _ :: _, h => by simp [ObjsS] at h
  | some _ :: _, [], h => by simp [ObjsS] at h
  | none :: _, [], h => by simp [ObjsS] at h

theorem ObjsS_some {ml0 : ML} {H : Nat → AObj} : ∀ {ml : ML} {os : List AObj}, ObjsS ml0 H ml os → ∀ {i y k : Nat} {o : AObj}, ml[i]? = some (some (y, k)) → os[i]? = some o → ObjS ml0 k o (H y)
  | [], [], _, i, y, k, o, h1, _ => by simp at h1
  | some (z, k') :: r, o' :: os, h, i, y, k, o, h1, h2 => by
    simp only [ObjsS] at h
    cases i with
    | zero => simp at h1 h2; obtain ⟨rfl, rfl⟩ := h1; subst h2; exact h.1
    | succ i => exact ObjsS_some h.2 (by simpa using h1) (by simpa using h2)
  | none :: r, o' :: os, h, i, y, k, o, h1, h2 => by
    simp only [ObjsS] at h
    cases i with
    | zero => simp at h1
    | succ i => exact ObjsS_some h.2 (by simpa using h1) (by simpa using h2)
  | [], _ :: _, h, _, _, _, _, _, _ => by simp [ObjsS] at h
  | some _ :: _, [], h, _, _, _, _, _, _ => by simp [ObjsS] at h
  | none :: _, [], h, _, _, _, _, _, _ => by simp [ObjsS] at h

theorem ObjsS_none {ml0 : ML} {H : Nat → AObj} : ∀ {ml : ML} {os : List AObj}, ObjsS ml0 H ml os → ∀ {i : Nat} {o : AObj}, ml[i]? = some none → os[i]? = some o → (∃ sz g, o = .arr sz 0 g) ∨ (∃ sz g, o = .view sz 0 g)
  | [], [], _, i, o, h1, _ => by simp at h1
  | some (z, k') :: r, o' :: os, h, i, o, h1, h2 => by
    simp only [ObjsS] at h
    cases i with
    | zero => simp at h1
    | succ i => exact ObjsS_none h.2 (by simpa using h1) (by simpa using h2)
  | none :: r, o' :: os, h, i, o, h1, h2 => by
    simp only [ObjsS] at h
    cases i with
    | zero =>
      simp at h2
      subst h2
      have h := h.1
      revert h
      cases o' <;> simp only <;> (intro h; first | exact h.elim | (subst h; first | exact .inl ⟨_, _, rfl⟩ | exact .inr ⟨_, _, rfl⟩))
    | succ i => exact ObjsS_none h.2 (by simpa using h1) (by simpa using h2)
  | [], _ :: _, h, _, _, _, _ => by simp [ObjsS] at h
  | some _ :: _, [], h, _, _, _, _ => by simp [ObjsS] at h
  | none :: _, [], h, _, _, _, _ => by simp [ObjsS] at h

theorem mlNames_mem {ml : ML} {i y k : Nat} (h : ml[i]? = some (some (y, k))) : y ∈ mlNames ml := by
  simp only [mlNames, List.mem_filterMap]
  exact ⟨some (y, k), List.mem_of_getElem? h, rfl⟩

theorem mlNames_inj : ∀ {ml : ML}, (mlNames ml).Nodup → ∀ {i j y k k' : Nat}, ml[i]? = some (some (y, k)) → ml[j]? = some (some (y, k')) → i = j
  | [], _, i, _, _, _, _, h, _ => by simp at h
  | none :: r, hn, i, j, y, k, k', h, h' => by
    cases i with
    | zero => simp at h
    | succ i => cases j with
      | zero => simp at h'
      | succ j => exact congrArg (· + 1) (mlNames_inj (ml := r) (by simpa [mlNames] using hn) (by simpa using h) (by simpa using h'))
  | some (z, q) :: r, hn, i, j, y, k, k', h, h' => by
    have hn' : z ∉ mlNames r ∧ (mlNames r).Nodup := List.nodup_cons.1 (by simpa only [mlNames, List.filterMap_cons, Option.map_some] using hn)
    cases i with
    | zero => cases j with
      | zero => rfl
      | succ j => simp at h h'; obtain ⟨rfl, _⟩ := h; exact (hn'.1 (mlNames_mem h')).elim
    | succ i => cases j with
      | zero => simp at h h'; obtain ⟨rfl, _⟩ := h'; exact (hn'.1 (mlNames_mem h)).elim
      | succ j => exact congrArg (· + 1) (mlNames_inj (ml := r) hn'.2 (by simpa using h) (by simpa using h'))

theorem updL_append : ∀ (a b : List (Nat × AObj)) (H : Nat → AObj), updL H (a ++ b) = updL (updL H a) b
  | [], _, _ => rfl
  | (x, o) :: r, b, H => by rw [List.cons_append, updL, updL_append r b]; rfl

theorem wrote_sub {f : Nat → Nat} {z : Nat} : ∀ {ml : ML} {os os' : List AObj}, z ∈ (wrote f ml os os').map (·.1) → z ∈ mlNames ml
  | some (y, k) :: r, o :: os, o' :: os', h => by
    simp only [wrote] at h
    split at h
    · simp only [List.map_cons, List.mem_cons] at h
      rcases h with rfl | h
      · simp [mlNames]
      · have := wrote_sub h; simp [mlNames] at this ⊢; exact .inr this
    · have := wrote_sub h; simp [mlNames] at this ⊢; exact .inr this
  | none :: r, o :: os, o' :: os', h => by
    simp only [wrote] at h
    simpa [mlNames] using wrote_sub h
  | [], _, _, h => by simp [wrote] at h
  | some _ :: _, [], _, h => by simp [wrote] at h
  | none :: _, [], _, h => by simp [wrote] at h
  | some _ :: _, _ :: _, [], h => by simp [wrote] at h
  | none :: _, _ :: _, [], h => by simp [wrote] at h

theorem wrote_at {f : Nat → Nat} {z : Nat} : ∀ {ml : ML} {os os' : List AObj} {H : Nat → AObj}, (mlNames ml).Nodup → ml.length = os.length → ml.length = os'.length →
    (∃ (i y k : Nat) (o o' : AObj), ml[i]? = some (some (y, k)) ∧ os[i]? = some o ∧ os'[i]? = some o' ∧ isOwn o = true ∧ z = y ∧ updL H (wrote f ml os os') z = backO f o') ∨
    (updL H (wrote f ml os os') z = H z ∧ ∀ (i y k : Nat) (o : AObj), ml[i]? = some (some (y, k)) → os[i]? = some o → isOwn o = true → y ≠ z)
  | [], [], [], H, _, _, _ => .inr ⟨rfl, fun i y k o h => by simp at h⟩
  | none :: r, o :: os, o' :: os', H, hn, h1, h2 => by
    simp only [wrote]
    rcases wrote_at (f := f) (z := z) (ml := r) (os := os) (os' := os') (H := H) (by simpa [mlNames] using hn) (by simpa using h1) (by simpa using h2) with ⟨i, y, k, p, p', q1, q2, q3, q4, q5, q6⟩ | ⟨q1, q2⟩
    · exact .inl ⟨i + 1, y, k, p, p', by simpa using q1, by simpa using q2, by simpa using q3, q4, q5, q6⟩
    · refine .inr ⟨q1, fun i y k p hp1 hp2 hp3 => ?_⟩
      cases i with
      | zero => simp at hp1
      | succ i => exact q2 i y k p (by simpa using hp1) (by simpa using hp2) hp3
  | some (x, s) :: r, o :: os, o' :: os', H, hn, h1, h2 => by
    have hn' : x ∉ mlNames r ∧ (mlNames r).Nodup := List.nodup_cons.1 (by simpa only [mlNames, List.filterMap_cons, Option.map_some] using hn)
    simp only [wrote]
    have hih := fun H => wrote_at (f := f) (z := z) (ml := r) (os := os) (os' := os') (H := H) hn'.2 (by simpa using h1) (by simpa using h2)
    split
    · rename_i ho
      rw [updL]
      rcases hih (upd H x (backO f o')) with ⟨i, y, k, p, p', q1, q2, q3, q4, q5, q6⟩ | ⟨q1, q2⟩
      · exact .inl ⟨i + 1, y, k, p, p', by simpa using q1, by simpa using q2, by simpa using q3, q4, q5, q6⟩
      · by_cases e : z = x
        · subst e
          exact .inl ⟨0, z, s, o, o', rfl, rfl, rfl, ho, rfl, by rw [q1, upd_same]⟩
        · refine .inr ⟨by rw [q1, upd_other _ _ e], fun i y k p hp1 hp2 hp3 => ?_⟩
          cases i with
          | zero => simp at hp1; exact fun e' => e (by rw [← e', hp1.1])
          | succ i => exact q2 i y k p (by simpa using hp1) (by simpa using hp2) hp3
    · rename_i ho
      rcases hih H with ⟨i, y, k, p, p', q1, q2, q3, q4, q5, q6⟩ | ⟨q1, q2⟩
      · exact .inl ⟨i + 1, y, k, p, p', by simpa using q1, by simpa using q2, by simpa using q3, q4, q5, q6⟩
      · refine .inr ⟨q1, fun i y k p hp1 hp2 hp3 => ?_⟩
        cases i with
        | zero => simp at hp2; subst hp2; exact (ho hp3).elim
        | succ i => exact q2 i y k p (by simpa using hp1) (by simpa using hp2) hp3
  | [], _ :: _, _, _, _, h, _ => by simp at h
  | [], [], _ :: _, _, _, _, h => by simp at h
  | some _ :: _, [], _, _, _, h, _ => by simp at h
  | none :: _, [], _, _, _, h, _ => by simp at h
  | some _ :: _, _ :: _, [], _, _, _, h => by simp at h
  | none :: _, _ :: _, [], _, _, _, h => by simp at h

theorem wrote_nil {f : Nat → Nat} : ∀ {ml : ML} {os os' : List AObj}, os.all (fun o => !isOwn o) = true → wrote f ml os os' = []
  | some (y, k) :: r, o :: os, o' :: os', h => by
    simp only [List.all_cons, Bool.and_eq_true, Bool.not_eq_true'] at h
    simp only [wrote, h.1, Bool.false_eq_true, if_false]
    exact wrote_nil h.2
  | none :: r, o :: os, o' :: os', h => by
    simp only [List.all_cons, Bool.and_eq_true] at h
    simp only [wrote]
    exact wrote_nil h.2
  | [], _, _, _ => by simp [wrote]
  | some _ :: _, [], _, _ => by simp [wrote]
  | none :: _, [], _, _ => by simp [wrote]
  | some _ :: _, _ :: _, [], _ => by simp [wrote]
  | none :: _, _ :: _, [], _ => by simp [wrote]

theorem fresh_at {f : Nat → Nat} {z : Nat} : ∀ {l : List AObj} {b : Nat} {H : Nat → AObj}, (∃ j o, l[j]? = some o ∧ z = b + j ∧ updL H (fresh f b l) z = backO f o) ∨ (updL H (fresh f b l) z = H z ∧ ¬ (b ≤ z ∧ z < b + l.length))
  | [], b, H => .inr ⟨rfl, by simp⟩
  | o :: r, b, H => by
    rw [fresh, updL]
    rcases fresh_at (f := f) (z := z) (l := r) (b := b + 1) (H := upd H b (backO f o)) with ⟨j, o', h1, h2, h3⟩ | ⟨h1, h2⟩
    · exact .inl ⟨j + 1, o', by simpa using h1, by omega, h3⟩
    · by_cases e : z = b
      · subst e
        exact .inl ⟨0, o, rfl, rfl, by rw [h1, upd_same]⟩
      · refine .inr ⟨by rw [h1, upd_other _ _ e], ?_⟩
        simp only [List.length_cons]
        omega

/-- The callee's names that its objects may tell at the end. -/
def okName (os : List AObj) (k i : Nat) : Bool :=
  match os[i]? with
  | some (.cells _) => true
  | some _ => false
  | none => i < os.length + k

section
variable {P : Program} {w0 : World} {S : Sc} {ρ0 : Env} {H : Nat → AObj} {w : World}

theorem Reg.argS {ml : ML} {ρ ρl : Env} (hb : inML ml ρ ρl) {L : Loc} {sz n n' k : Nat} {f f' : Nat → List AV} (h : Reg ρ L sz n' f' w) (hk : k + n ≤ n') (hf : ∀ i, i < n → ArgSL ml (f i) (f' (k + i))) : Reg ρl (shiftL L k) sz n f w :=
  ⟨h.nn, h.esz, by have := h.cap; simp only [shiftL]; omega, fun i hi => by rw [(hf i hi).get.1]; exact h.len _ (by omega), fun i hi j v hv => by
    obtain ⟨b, hb1, hb2⟩ := (hf i hi).get.2 j v hv
    obtain ⟨x, h1, h2, h3⟩ := h.cell (k + i) (by omega) j b hb1
    refine ⟨x, ?_, ArgS.rep hb hb2 h2, h3⟩
    rw [← h1]
    simp only [shiftL, h.esz]
    congr 2
    rw [Nat.add_mul]; omega⟩

theorem ObjS.ok {ml : ML} {ρ ρl : Env} (hb : inML ml ρ ρl) {L : Loc} {k : Nat} {o o' : AObj} (hs : ObjS ml k o o') (h : ObjOk ρ L o' w) : ObjOk ρl (shiftL L k) o w := by
  cases o with
  | free => trivial
  | cells c =>
    cases o' <;> simp only [ObjS] at hs
    obtain ⟨rfl, hs⟩ := hs
    have hl := hs.get.1
    refine ⟨?_, by rw [shiftL_zero, hl]; exact h.2⟩
    rw [hl]
    exact h.1.argS hb (by omega) fun _ _ => hs
  | arr sz n f =>
    cases o' <;> simp only [ObjS] at hs
    obtain ⟨rfl, rfl, rfl, hf⟩ := hs
    rcases h with h | h
    · exact .inl (by rw [shiftL_zero]; exact h)
    · exact .inr ⟨h.1.argS hb (by omega) (by simpa using hf), by rw [shiftL_zero]; exact h.2⟩
  | view sz n f =>
    cases o' <;> simp only [ObjS] at hs
    · obtain ⟨rfl, hle, hf⟩ := hs
      rcases h with h | h
      · exact .inl ⟨h.1, by omega⟩
      · exact .inr (h.1.argS hb hle hf)
    · obtain ⟨rfl, hle, hf⟩ := hs
      rcases h with h | h
      · exact .inl ⟨h.1, by omega⟩
      · exact .inr (h.argS hb hle hf)

theorem ObjS.own {ml : ML} {L : Loc} {k : Nat} {o o' : AObj} (hs : ObjS ml k o o') (h : Owned (shiftL L k) o) : Owned L o' ∧ k = 0 ∧ isOwn o = true := by
  cases o <;> cases o' <;> simp_all [ObjS, Owned, isOwn, shiftL]

theorem ObjS.isOwn0 {ml : ML} {k : Nat} {o o' : AObj} (hs : ObjS ml k o o') (h : isOwn o = true) : k = 0 := by
  cases o <;> cases o' <;> simp_all [ObjS, isOwn]

theorem ObjS.viewed {ml : ML} {L : Loc} {k : Nat} {o o' : AObj} (hs : ObjS ml k o o') (h : Viewed (shiftL L k) o) : Owned L o' ∨ Viewed L o' := by
  cases o <;> cases o' <;> simp_all [ObjS, Owned, Viewed, shiftL]

theorem ObjS.nf {ml : ML} {k : Nat} {o o' : AObj} (hs : ObjS ml k o o') : o' ≠ .free := by
  cases o <;> cases o' <;> simp_all [ObjS]

/-- What the callee owns. -/
def locSc (ρ0 : Env) (ml : ML) (os : List AObj) : Sc where
  own b := ∃ i o, os[i]? = some o ∧ Owned (locE ρ0 ml i) o ∧ b = (locE ρ0 ml i).blk
  m := ml.length
  A := locE ρ0 ml

theorem locOwn (_h : HCore w0 S ρ0 H w) {ml : ML} {os : List AObj} (ho : ObjsS ml H ml os) {i : Nat} {o : AObj} (hi : os[i]? = some o) (hw : Owned (locE ρ0 ml i) o) :
    ∃ y, ml[i]? = some (some (y, 0)) ∧ locE ρ0 ml i = ρ0 y ∧ Owned (ρ0 y) (H y) ∧ isOwn o = true := by
  have hlt : i < ml.length := by rw [ObjsS_length ho]; exact (List.getElem?_eq_some_iff.1 hi).1
  obtain ⟨v, hv⟩ : ∃ v, ml[i]? = some v := ⟨_, List.getElem?_eq_getElem hlt⟩
  cases v with
  | none =>
    have he : locE ρ0 ml i = nilLoc := by simp [locE, hv]
    rw [he] at hw
    rcases ObjsS_none ho hv hi with ⟨sz, g, rfl⟩ | ⟨sz, g, rfl⟩ <;> simp [Owned, nilLoc] at hw
  | some yk =>
    obtain ⟨y, k⟩ := yk
    have he : locE ρ0 ml i = shiftL (ρ0 y) k := by simp [locE, hv]
    rw [he] at hw
    obtain ⟨h1, rfl, h3⟩ := (ObjsS_some ho hv hi).own hw
    exact ⟨y, hv, by rw [he, shiftL_zero], h1, h3⟩

theorem loc_hcore (h : HCore w0 S ρ0 H w) {ml : ML} {os : List AObj} (ho : ObjsS ml H ml os) (hnd : (mlNames ml).Nodup ∨ os.all (fun o => !isOwn o) = true) {ρl : Env} (hl : inML ml ρ0 ρl) : HCore w (locSc ρ0 ml os) ρl (hk (idxO 0 os)) w := by
  have len := ObjsS_length ho
  have at' : ∀ x, hk (idxO 0 os) x ≠ .free → ∃ o, os[x]? = some o ∧ hk (idxO 0 os) x = o ∧ x < ml.length := fun x hx => by
    rw [hk_idx0] at hx ⊢
    cases hq : os[x]? with
    | none => simp [hq] at hx
    | some o => exact ⟨o, rfl, rfl, by rw [len]; exact (List.getElem?_eq_some_iff.1 hq).1⟩
  have nd : ∀ {i j y k k' o}, ml[i]? = some (some (y, k)) → ml[j]? = some (some (y, k')) → os[i]? = some o → isOwn o = true → i = j := fun {i j y k k' o} h1 h2 h3 h4 => by
    rcases hnd with hnd | hnd
    · exact mlNames_inj hnd h1 h2
    · have := List.all_eq_true.1 hnd o (List.mem_of_getElem? h3)
      simp [h4] at this
  have ownd : ∀ x, Owned (ρl x) (hk (idxO 0 os) x) → ∃ y o, os[x]? = some o ∧ ml[x]? = some (some (y, 0)) ∧ ρl x = ρ0 y ∧ locE ρ0 ml x = ρ0 y ∧ Owned (ρ0 y) (H y) ∧ isOwn o = true := fun x hx => by
    obtain ⟨o, h1, h2, h3⟩ := at' x (by intro e; rw [e] at hx; exact hx)
    rw [h2, hl x h3] at hx
    obtain ⟨y, q1, q2, q3, q4⟩ := locOwn h ho h1 hx
    exact ⟨y, o, h1, q1, by rw [hl x h3, q2], q2, q3, q4⟩
  refine ⟨rfl, rfl, rfl, Nat.le_refl _, fun _ _ _ => rfl, fun x => ?_, fun x hx => ?_, fun x x' hx hx' e => ?_, fun x hx => ?_, fun x hx => hl x hx⟩
  · by_cases hf : hk (idxO 0 os) x = .free
    · rw [hf]; trivial
    · obtain ⟨o, h1, h2, h3⟩ := at' x hf
      rw [h2, hl x h3]
      obtain ⟨v, hv⟩ : ∃ v, ml[x]? = some v := ⟨_, List.getElem?_eq_getElem h3⟩
      cases v with
      | none =>
        have he : locE ρ0 ml x = nilLoc := by simp [locE, hv]
        rw [he]
        rcases ObjsS_none ho hv h1 with ⟨sz, g, rfl⟩ | ⟨sz, g, rfl⟩
        · exact .inl ⟨rfl, rfl⟩
        · exact .inl ⟨rfl, rfl⟩
      | some yk =>
        obtain ⟨y, k⟩ := yk
        have he : locE ρ0 ml x = shiftL (ρ0 y) k := by simp [locE, hv]
        rw [he]
        exact (ObjsS_some ho hv h1).ok hl (h.obj y)
  · obtain ⟨y, o, q0, q1, q2, q3, q4, q5⟩ := ownd x hx
    rw [q2]
    refine ⟨(h.own y q4).1, .inr ⟨x, o, q0, ?_, by rw [q3]⟩⟩
    rw [q3, ← q2]
    have : hk (idxO 0 os) x = o := by rw [hk_idx0, q0]; rfl
    rw [← this]; exact hx
  · obtain ⟨y, o, q0, q1, q2, q3, q4, q5⟩ := ownd x hx
    obtain ⟨y', o', q0', q1', q2', q3', q4', q5'⟩ := ownd x' hx'
    rw [q2, q2'] at e
    have := h.dist y y' q4 q4' e
    subst this
    exact nd q1 q1' q0 q5
  · obtain ⟨o, h1, h2, h3⟩ := at' x (by intro e; rw [e] at hx; exact hx)
    rw [h2, hl x h3] at hx
    rw [hl x h3]
    obtain ⟨v, hv⟩ : ∃ v, ml[x]? = some v := ⟨_, List.getElem?_eq_getElem h3⟩
    cases v with
    | none =>
      have he : locE ρ0 ml x = nilLoc := by simp [locE, hv]
      rw [he] at hx
      cases o <;> simp [Viewed, nilLoc] at hx
    | some yk =>
      obtain ⟨y, k⟩ := yk
      have he : locE ρ0 ml x = shiftL (ρ0 y) k := by simp [locE, hv]
      rw [he] at hx ⊢
      show (ρ0 y).blk < _ ∧ _
      have hon : isOwn o = false := by cases o <;> simp [Viewed] at hx <;> rfl
      rcases (ObjsS_some ho hv h1).viewed hx with h4 | h4
      · refine ⟨(h.own y h4).1, fun ⟨j, o', h5, h6, h7⟩ => ?_⟩
        obtain ⟨z, r1, r2, r3, r4⟩ := locOwn h ho h5 h6
        rw [r2] at h7
        have := h.dist y z h4 r3 h7
        subst this
        have e := nd r1 hv h5 r4
        subst e
        rw [h1] at h5
        injection h5 with h5
        rw [← h5, hon] at r4
        cases r4
      · obtain ⟨h5, h6⟩ := h.vw y h4
        refine ⟨by have := h.size; omega, fun ⟨j, o', h8, h9, h10⟩ => ?_⟩
        obtain ⟨z, r1, r2, r3, r4⟩ := locOwn h ho h8 h9
        rw [r2] at h10
        have h11 := (h.own z r3).2
        change (ρ0 y).blk = _ at h10
        rw [← h10] at h11
        rcases h11 with h11 | h11
        · omega
        · exact h6 h11

theorem backN_old {ml : ML} {nb i y k : Nat} (h : ml[i]? = some (some (y, k))) : backN ml nb i = y := by simp [backN, h]
theorem backN_new {ml : ML} {nb j : Nat} : backN ml nb (ml.length + j) = nb + j := by
  simp [backN]


theorem back_hcore {ml : ML} {os outs news : List AObj} {nb : Nat} {w' : World} {ρ ρf : Env} (h0 : HCore w0 S ρ0 H w) (h : HCore w0 S ρ H w) (ho : ObjsS ml H ml os) (hnd : (mlNames ml).Nodup ∨ os.all (fun o => !isOwn o) = true)
    (hold : ∀ y, y ∈ mlNames ml → ρ y = ρ0 y) (hnew : ∀ j, j < news.length → ρ (nb + j) = ρf (ml.length + j)) (hlo : outs.length = ml.length)
    (hok : ∀ o, o ∈ outs ++ news → objOk (okName os news.length) o) (hf : HCore w (locSc ρ0 ml os) ρf (hk (idxO 0 (outs ++ news))) w') :
    HCore w0 S ρ (updL H (wrote (backN ml nb) ml os outs ++ fresh (backN ml nb) nb news)) w' := by
  have len := ObjsS_length ho
  have hfl : ∀ i, i < ml.length → ρf i = locE ρ0 ml i := fun i hi => hf.an i hi
  have name : ∀ i, okName os news.length i = true → ρ (backN ml nb i) = ρf i := fun i hi => by
    unfold okName at hi
    split at hi
    · rename_i c hc
      have hlt : i < ml.length := by rw [len]; exact (List.getElem?_eq_some_iff.1 hc).1
      obtain ⟨v, hv⟩ : ∃ v, ml[i]? = some v := ⟨_, List.getElem?_eq_getElem hlt⟩
      cases v with
      | none => rcases ObjsS_none ho hv hc with ⟨sz, g, e⟩ | ⟨sz, g, e⟩ <;> cases e
      | some yk =>
        obtain ⟨y, k⟩ := yk
        have hs := ObjsS_some ho hv hc
        have : k = 0 := hs.isOwn0 rfl
        subst this
        rw [backN_old hv, hold y (mlNames_mem hv), hfl i hlt]
        simp [locE, hv, shiftL_zero]
    · cases hi
    · rename_i hc
      have hge : ml.length ≤ i := by rw [len]; exact List.getElem?_eq_none_iff.1 hc
      have hi' : i < os.length + news.length := by simpa using hi
      obtain ⟨j, rfl⟩ : ∃ j, i = ml.length + j := ⟨i - ml.length, by omega⟩
      rw [backN_new]
      exact hnew j (by omega)
  have own' : ∀ b, (locSc ρ0 ml os).own b → ∃ i y o, ml[i]? = some (some (y, 0)) ∧ os[i]? = some o ∧ isOwn o = true ∧ b = (ρ0 y).blk ∧ Owned (ρ0 y) (H y) := fun b ⟨i, o, h1, h2, h3⟩ => by
    obtain ⟨y, q1, q2, q3, q4⟩ := locOwn h0 ho h1 h2
    exact ⟨i, y, o, q1, h1, q4, by rw [h3, q2], q3⟩
  have ownG : ∀ b, (locSc ρ0 ml os).own b → w0.heap.size ≤ b ∨ S.own b := fun b hb => by
    obtain ⟨i, y, o, q1, q2, q3, q4, q5⟩ := own' b hb
    rw [q4]; exact (h0.own y q5).2
  -- what an object is at the end
  have key : ∀ z, (∃ i o, (outs ++ news)[i]? = some o ∧ updL H (wrote (backN ml nb) ml os outs ++ fresh (backN ml nb) nb news) z = backO (backN ml nb) o ∧ ρ z = ρf i ∧ z = backN ml nb i) ∨
      (updL H (wrote (backN ml nb) ml os outs ++ fresh (backN ml nb) nb news) z = H z ∧ ∀ (i y k : Nat) (o : AObj), ml[i]? = some (some (y, k)) → os[i]? = some o → isOwn o = true → y ≠ z) := fun z => by
    rw [updL_append]
    rcases fresh_at (f := backN ml nb) (z := z) (l := news) (b := nb) (H := updL H (wrote (backN ml nb) ml os outs)) with ⟨j, o, h1, h2, h3⟩ | ⟨h1, h2⟩
    · have hj : j < news.length := (List.getElem?_eq_some_iff.1 h1).1
      refine .inl ⟨ml.length + j, o, by rw [← hlo, List.getElem?_append_right (by omega)]; simpa using h1, h3, by rw [h2]; exact hnew j hj, by rw [h2, backN_new]⟩
    · rw [h1]
      rcases hnd with hnd | hnd
      · rcases wrote_at (f := backN ml nb) (z := z) (H := H) hnd len hlo.symm with ⟨i, y, k, o, o', q1, q2, q3, q4, q5, q6⟩ | ⟨q1, q2⟩
        · have hlt : i < ml.length := (List.getElem?_eq_some_iff.1 q1).1
          have : k = 0 := (ObjsS_some ho q1 q2).isOwn0 q4
          subst this
          refine .inl ⟨i, o', by rw [List.getElem?_append_left (by omega)]; exact q3, q6, ?_, by rw [backN_old q1, q5]⟩
          rw [q5, hold y (mlNames_mem q1), hfl i hlt]
          simp [locE, q1, shiftL_zero]
        · exact .inr ⟨q1, q2⟩
      · rw [wrote_nil hnd]
        refine .inr ⟨rfl, fun i y k o _ q2 q3 => ?_⟩
        have := List.all_eq_true.1 hnd o (List.mem_of_getElem? q2)
        simp [q3] at this
  have hki : ∀ {i o}, (outs ++ news)[i]? = some o → hk (idxO 0 (outs ++ news)) i = o := fun {i o} e => by rw [hk_idx0, e]; rfl
  have sz : w.heap.size ≤ w'.heap.size := hf.size
  have hold' : ∀ y, y ∈ mlNames ml → Owned (ρ0 y) (H y) → Owned (ρ y) (H y) := fun y hy ho => by rw [hold y hy]; exact ho
  refine ⟨hf.os.trans h.os, hf.tape.trans h.tape, hf.output.trans h.output, Nat.le_trans h.size sz, fun b hb hs => ?_, fun z => ?_, fun z hz => ?_, fun z z' hz hz' e => ?_, fun z hz => ?_, h.an⟩
  · rw [hf.frame b (by have := h.size; omega) fun hb' => ?_]
    · exact h.frame b hb hs
    · rcases ownG b hb' with h1 | h1
      · omega
      · exact hs h1
  · rcases key z with ⟨i, o, h1, h2, h3, h4⟩ | ⟨h1, h2⟩
    · rw [h2, h3]
      have := hf.obj i
      rw [hki h1] at this
      exact backO_ok (fun x hx => name x hx) (hok o (List.mem_of_getElem? h1)) this
    · rw [h1]
      by_cases hz : Owned (ρ z) (H z)
      · refine (h.obj z).same (hf.frame _ (h.own z hz).1 fun hb => ?_)
        obtain ⟨i, y, o, q1, q2, q3, q4, q5⟩ := own' _ hb
        have hy := mlNames_mem q1
        rw [← hold y hy] at q4
        exact h2 i y 0 o q1 q2 q3 (h.dist z y hz (hold' y hy q5) q4).symm
      · by_cases hv : Viewed (ρ z) (H z)
        · obtain ⟨v1, v2⟩ := h.vw z hv
          refine (h.obj z).same (hf.frame _ (by have := h.size; omega) fun hb => ?_)
          rcases ownG _ hb with h3 | h3
          · omega
          · exact v2 h3
        · exact (h.obj z).nil_same hz hv
  · rcases key z with ⟨i, o, h1, h2, h3, h4⟩ | ⟨h1, h2⟩
    · rw [h2, backO_owned, h3] at hz
      rw [h3]
      have := hf.own i (by rw [hki h1]; exact hz)
      refine ⟨this.1, ?_⟩
      rcases this.2 with h5 | h5
      · have := h.size; exact .inl (by omega)
      · exact ownG _ h5
    · rw [h1] at hz
      have := h.own z hz
      exact ⟨by omega, this.2⟩
  · have mixed : ∀ {z z'}, (∃ i o, (outs ++ news)[i]? = some o ∧ updL H (wrote (backN ml nb) ml os outs ++ fresh (backN ml nb) nb news) z = backO (backN ml nb) o ∧ ρ z = ρf i ∧ z = backN ml nb i) → Owned (ρ z) (updL H (wrote (backN ml nb) ml os outs ++ fresh (backN ml nb) nb news) z) →
        (∀ (i y k : Nat) (o : AObj), ml[i]? = some (some (y, k)) → os[i]? = some o → isOwn o = true → y ≠ z') → Owned (ρ z') (H z') → (ρ z).blk = (ρ z').blk → False := by
      rintro z z' ⟨i, o, h1, h2, h3, h4⟩ hz hno hz' e
      rw [h2, backO_owned, h3] at hz
      rw [h3] at e
      have h5 := (hf.own i (by rw [hki h1]; exact hz)).2
      have h6 := (h.own z' hz').1
      rw [e] at h5
      rcases h5 with h5 | h5
      · omega
      · obtain ⟨j, y, p, q1, q2, q3, q4, q5⟩ := own' _ h5
        have hy := mlNames_mem q1
        rw [← hold y hy] at q4
        exact hno j y 0 p q1 q2 q3 (h.dist z' y hz' (hold' y hy q5) q4).symm
    rcases key z with k1 | ⟨k1, k2⟩
    · rcases key z' with k1' | ⟨k1', k2'⟩
      · obtain ⟨i, o, h1, h2, h3, h4⟩ := k1
        obtain ⟨i', o', h1', h2', h3', h4'⟩ := k1'
        rw [h2, backO_owned, h3] at hz
        rw [h2', backO_owned, h3'] at hz'
        rw [h3, h3'] at e
        have := hf.dist i i' (by rw [hki h1]; exact hz) (by rw [hki h1']; exact hz') e
        rw [h4, h4', this]
      · rw [k1'] at hz'
        exact (mixed k1 hz k2' hz' e).elim
    · rw [k1] at hz
      rcases key z' with k1' | ⟨k1', k2'⟩
      · exact (mixed k1' hz' k2 hz e.symm).elim
      · rw [k1'] at hz'
        exact h.dist z z' hz hz' e
  · rcases key z with ⟨i, o, h1, h2, h3, h4⟩ | ⟨h1, h2⟩
    · rw [h2, backO_viewed] at hz
      have := hok o (List.mem_of_getElem? h1)
      cases o <;> simp [Viewed] at hz
      exact this.elim
    · rw [h1] at hz; exact h.vw z hz

/-- A FUNCTION KEEPS ITS SPECIFICATION if its body, walked by its own objects, does. -/
theorem LSpec.sound {L : LSpec} {f : FuncId} {fn : Func} {c : Code} {mc : MCode} {res : List RV} (hf : P.funcs[f]? = some fn) (hn : (fn.name == "runtime.NumGoroutine") = false) (hb : fn.body = some c) (hrc : rC P c = some mc) (hres : rRVs P fn.results.toList = some res)
    (hout : ∀ x, L.R x → ∀ o, o ∈ L.outs x ++ L.news x → objOk (okName (L.objs x) (L.news x).length) o) (harg : ∀ x, L.R x → (L.args x).length ≤ fn.ntmps)
    (hw : ∀ x, L.R x → ∀ (w0 : World) (S : Sc), S.m = (L.objs x).length → Wm P w0 S fn.ntmps [] mc ⟨argL 0 (L.args x), idxO 0 (L.objs x), (L.objs x).length⟩
      (retK res fun v s => ∃ pl, LeW (L.objs x).length pl ⟨[(0, v)], s.hl, s.nb⟩ ⟨[(0, L.res x)], idxO 0 (L.outs x ++ L.news x), (L.objs x).length + (L.news x).length⟩)) : Sound P f L.spec where
  fn := ⟨fn, hf, hn, by rw [hb]; rfl⟩
  calls := fun w0 S Es U H w avs vs nb r hne hcl hfr hpin hp hargs hsp hF => by
    have hsp' : L.fn avs H nb = some r := hsp
    unfold LSpec.fn at hsp'
    cases hm : L.mt avs H with
    | none => simp [hm] at hsp'
    | some q =>
      obtain ⟨x, ml⟩ := q
      simp only [hm] at hsp'
      split at hsp'
      · rename_i fit
        injection hsp' with hr
        subst hr
        obtain ⟨ρ0, hρ0⟩ := hne
        have len := ObjsS_length fit.objs
        have h0 := hp ρ0 hρ0
        have hnf : ∀ y, y ∈ mlNames ml → H y ≠ .free := fun y hy => by
          simp only [mlNames, List.mem_filterMap] at hy
          obtain ⟨v, hv, hvy⟩ := hy
          obtain ⟨i, hi⟩ := List.getElem?_of_mem hv
          cases v with
          | none => cases hvy
          | some yk =>
            obtain ⟨y', k⟩ := yk
            simp at hvy
            subst hvy
            have hlt : i < (L.objs x).length := by rw [← len]; exact (List.getElem?_eq_some_iff.1 hi).1
            exact (ObjsS_some fit.objs hi (List.getElem?_eq_getElem hlt)).nf
        have hc := calls_of_Wm (P := P) (w0 := w) (S := locSc ρ0 ml (L.objs x)) hf hb hrc hres (avs := L.args x) (vs := vs) (hl := idxO 0 (L.objs x)) (nb := (L.objs x).length) (Es := inML ml ρ0) (w := w)
          ⟨locE ρ0 ml, fun _ _ => rfl⟩ (fun ρ ρ' h h' i hi => by rw [h' i (by omega)]; exact h i hi) (fun p hp => by simpa using idxO_keys _ _ _ hp)
          (fun ρ ρ' h h' i hi => by
            have : i < ml.length := by
              rw [len]
              rw [hk_idx0] at hi
              cases hq : (L.objs x)[i]? with
              | none => simp [hq] at hi
              | some o => exact (List.getElem?_eq_some_iff.1 hq).1
            rw [h i this, h' i this])
          (fun ρl hl => loc_hcore h0 fit.objs fit.nd hl) (fun ρl hl => ArgSL.rep hl fit.args (hargs ρ0 hρ0)) (harg x fit.cond) (hw x fit.cond w (locSc ρ0 ml (L.objs x)) len)
        refine hc.mono fun e w' he => ?_
        obtain ⟨v, av, s', rfl, ⟨pl, hle⟩, Es', ⟨ρ1, h1⟩, hE'⟩ := he
        obtain ⟨hrv, hcore⟩ := hE' ρ1 h1
        have hb' : Env.by ρ1 (fun x => match lkp pl x with | some (some y) => ρ1 y | _ => nilLoc) pl := fun x v hv => by simp only [hv]; cases v <;> rfl
        obtain ⟨ρf, hρf⟩ : ∃ ρf : Env, Env.by ρ1 ρf pl := ⟨_, hb'⟩
        have hresv : Rep ρf (L.res x) v := Ren.rep hρf (hle.tm (0, L.res x) (by simp)) (by simpa [lk] using hrv)
        have hcf := hcore_ren hρf (S := locSc ρ0 ml (L.objs x)) (by show ∀ x, x < ml.length → _; rw [len]; exact hle.an) hle.inj (H' := hk (idxO 0 (L.outs x ++ L.news x))) (fun z hz => (hle.ob _ (hk_mem hz)).2) hcore
        refine ⟨v, fun z => if nb ≤ z then ρf (ml.length + (z - nb)) else ρ0 z, rfl, fun ρ hρ hg => ?_⟩
        have hold : ∀ y, y ∈ mlNames ml → ρ y = ρ0 y := fun y hy => hpin ρ ρ0 hρ hρ0 y (hnf y hy)
        have few := fit.few
        have hnew : ∀ j, j < (L.news x).length → ρ (nb + j) = ρf (ml.length + j) := fun j hj => by
          rw [hg (nb + j) (by omega)]
          show (if nb ≤ nb + j then ρf (ml.length + (nb + j - nb)) else ρ0 (nb + j)) = _
          rw [if_pos (by omega), Nat.add_sub_cancel_left]
        refine ⟨backV_rep (fun i hi => ?_) fit.res hresv, ?_⟩
        · have hfl : ∀ i, i < ml.length → ρf i = locE ρ0 ml i := fun i hi => hcf.an i hi
          unfold mayName at hi
          split at hi
          · rename_i y s hv
            have : s = 0 := by simpa using hi
            subst this
            rw [backN_old hv, hold y (mlNames_mem hv), hfl i (List.getElem?_eq_some_iff.1 hv).1]
            simp [locE, hv, shiftL_zero]
          · cases hi
          · rename_i hc'
            have hge : ml.length ≤ i := List.getElem?_eq_none_iff.1 hc'
            have hi' : i < ml.length + (L.news x).length := by simpa using hi
            obtain ⟨j, rfl⟩ : ∃ j, i = ml.length + j := ⟨i - ml.length, by omega⟩
            rw [backN_new]
            exact hnew j (by omega)
        · exact back_hcore (ρ0 := ρ0) h0 (hp ρ hρ) fit.objs fit.nd hold hnew fit.outs (hout x fit.cond) hcf
      · cases hsp'

end
end Go.Vc
