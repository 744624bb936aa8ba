/- A call that only reads: what comes with it is told flat, by new names, as views; what it gives is data, slices that came, or new arrays of data. -/
import Derived.Test.YtmbploeikjangaaGreatWZ
set_option linter.unusedSimpArgs false
set_option linter.unusedVariables false
namespace Go.W

mutual
/-- A value that names nothing and owns nothing. -/
def AV.dat : AV → Bool
  | .int _ _ | .bool _ | .str _ | .nsl | .bot => true
  | .raw v => v.oneCell'
  | .iface _ a => a.dat
  | .agg l => datLs l
  | _ => false
def datLs : List AV → Bool
  | [] => true
  | a :: as => a.dat && datLs as
end

mutual
theorem dat_rep {ρ ρ' : Env} : ∀ {v : AV} {x : Value}, v.dat = true → Rep ρ v x → Rep ρ' v x := fun {v} {x} h hr => by
  cases v with
  | iface t a =>
    simp only [AV.dat] at h
    simp only [Rep] at hr ⊢
    obtain ⟨y, h1, h2⟩ := hr
    exact ⟨y, h1, dat_rep h h2⟩
  | agg l =>
    simp only [AV.dat] at h
    simp only [Rep] at hr ⊢
    obtain ⟨y, h1, h2⟩ := hr
    exact ⟨y, h1, dats_rep h h2⟩
  | bot => simp [Rep]
  | _ => simp only [AV.dat, Bool.false_eq_true] at h <;> simp only [Rep] at hr ⊢ <;> exact hr
theorem dats_rep {ρ ρ' : Env} : ∀ {l : List AV} {x : List Value}, datLs l = true → RepL ρ l x → RepL ρ' l x := fun {l} {x} h hr => by
  cases l with
  | nil => exact hr
  | cons a as =>
    simp only [datLs, Bool.and_eq_true] at h
    simp only [RepL] at hr ⊢
    obtain ⟨v, r, h1, h2, h3⟩ := hr
    exact ⟨v, r, h1, dat_rep h.1 h2, dats_rep h.2 h3⟩
end

theorem dat_plain {v : AV} (h : v.dat = true) : v.plain = true := by
  cases v <;> simp only [AV.dat, Bool.false_eq_true] at h <;> rfl

def datL (c : List AV) : Bool := c.all AV.dat
def datLL (els : List (List AV)) : Bool := els.all datL

theorem datL_plain {c : List AV} (h : datL c = true) : c.all AV.plain = true :=
  List.all_eq_true.2 fun v hv => dat_plain (List.all_eq_true.1 h v hv)

mutual
theorem argS_dat {M : ML} : ∀ {v : AV}, v.dat = true → ArgS M v v := fun {v} h => by
  cases v with
  | iface t a => simp only [AV.dat] at h; simp only [ArgS, true_and]; exact argS_dat h
  | agg l => simp only [AV.dat] at h; simp only [ArgS]; exact argS_dats h
  | _ => simp only [AV.dat, Bool.false_eq_true] at h <;> simp [ArgS]
theorem argS_dats {M : ML} : ∀ {l : List AV}, datLs l = true → ArgSL M l l := fun {l} h => by
  cases l with
  | nil => simp [ArgSL]
  | cons a as =>
    simp only [datLs, Bool.and_eq_true] at h
    exact ⟨argS_dat h.1, argS_dats h.2⟩
end

theorem argSL_dat {M : ML} : ∀ {c : List AV}, datL c = true → ArgSL M c c
  | [], _ => trivial
  | v :: c, h => by
    simp only [datL, List.all_cons, Bool.and_eq_true] at h
    exact ⟨argS_dat h.1, argSL_dat h.2⟩

/-! ### What comes, told flat -/
def travL (f : Nat → AV → Option (AV × ML × List NObj)) : Nat → List AV → Option (List AV × ML × List NObj)
  | _, [] => some ([], [], [])
  | k, a :: as => match f k a with
    | some (a', ml, os) => (match travL f (k + os.length) as with
      | some (as', ml', os') => some (a' :: as', ml ++ ml', os ++ os')
      | none => none)
    | none => none

def travE (f : Nat → AV → Option (AV × ML × List NObj)) (p : Nm) (t : Nat) : Nat → Nat → List (List AV) → Option (List (List AV) × ML × List NObj)
  | _, _, [] => some ([], [], [])
  | i, k, c :: cs => match travL f k (flC p t i c) with
    | some (c', ml, os) => (match travE f p t (i + 1) (k + os.length) cs with
      | some (cs', ml', os') => some (c' :: cs', ml ++ ml', os ++ os')
      | none => none)
    | none => none

/-- A window: the tag, the size, the elements. -/
def winN : NObj → Nat → Nat → Option (Nat × Nat × List (List AV))
  | .arr t sz els, i, n => if i + n ≤ els.length then some (t, sz, (els.drop i).take n) else none
  | .view t sz els, i, n => if i + n ≤ els.length then some (t, sz, (els.drop i).take n) else none
  | _, _, _ => none

def winP : NObj → Nat → Option (Nat × Nat × List AV)
  | .cells t c, i => if i = 0 then some (t, c.length, c) else none
  | .arr t sz els, i => match els[i]? with
    | some c => some (t, sz, c)
    | none => none
  | .view t sz els, i => match els[i]? with
    | some c => some (t, sz, c)
    | none => none
  | .free, _ => none

def lnV (G : NH) : Nat → Nat → AV → Option (AV × ML × List NObj)
  | 0, _, v => if v.dat = true then some (v, [], []) else none
  | d + 1, k, v => match v with
    | .sl p i n => (match winN (getP G p) i n with
      | some (t, sz, w) => if datLL w = true then some (.sl (.top k) 0 n, [some (p, i)], [.view 0 sz w]) else
        (match travE (lnV G d) p t i (k + 1) w with
        | some (w', ml, os) => some (.sl (.top k) 0 n, some (p, i) :: ml, .view 0 sz w' :: os)
        | none => none)
      | none => none)
    | .ptr p i f => (match winP (getP G p) i with
      | some (t, sz, c) => (match travE (lnV G d) p t i (k + 1) [c] with
        | some (w', ml, os) => some (.ptr (.top k) 0 f, some (p, i) :: ml, .view 0 sz w' :: os)
        | none => none)
      | none => none)
    | .fn g cap => (match travL (lnV G d) k cap with
      | some (cap', ml, os) => some (.fn g cap', ml, os)
      | none => none)
    | .agg l => (match travL (lnV G d) k l with
      | some (l', ml, os) => some (.agg l', ml, os)
      | none => none)
    | v => if v.dat = true then some (v, [], []) else none

/-- The number of elements, and their size. -/
def shpN : NObj → Option (Nat × Nat)
  | .cells _ c => some (1, c.length)
  | .arr _ sz els => some (els.length, sz)
  | .view _ sz els => some (els.length, sz)
  | .free => none

/-- An object that came, as the caller has it. -/
def RdOk (G : NH) (M : ML) (y : Option (Nm × Nat)) (o : NObj) : Prop :=
  ∃ p i sz n w, y = some (p, i) ∧ o = .view 0 sz w ∧ shpN (getP G p) = some (n, sz) ∧ i + w.length ≤ n ∧ (∀ j c', w[j]? = some c' → c'.all AV.plain = true ∧ ∃ c, elemN (getP G p) (i + j) = some c ∧ ArgSL M c' (flC p (getP G p).tag (i + j) c))

/-- What is said of a flat telling. -/
def LnOk (G : NH) (k : Nat) (ml : ML) (os : List NObj) (say : ML → Prop) : Prop :=
  ml.length = os.length ∧ ∀ M : ML, (∀ (j : Nat) (x : Option (Nm × Nat)), ml[j]? = some x → M[k + j]? = some x) → say M ∧ ∀ (j : Nat) (y : Option (Nm × Nat)) (o : NObj), ml[j]? = some y → os[j]? = some o → RdOk G M y o

theorem LnOk.app {G : NH} {k : Nat} {ml ml' : ML} {os os' : List NObj} {A B C : ML → Prop} (h : LnOk G k ml os A) (h' : LnOk G (k + os.length) ml' os' B) (hc : ∀ M, A M → B M → C M) : LnOk G k (ml ++ ml') (os ++ os') C := by
  refine ⟨by rw [List.length_append, List.length_append, h.1, h'.1], fun M hM => ?_⟩
  obtain ⟨a1, a2⟩ := h.2 M fun j x hj => hM j x (by rw [List.getElem?_append_left (List.getElem?_eq_some_iff.1 hj).1]; exact hj)
  obtain ⟨b1, b2⟩ := h'.2 M fun j x hj => by
    have := hM (ml.length + j) x (by rw [List.getElem?_append_right (by omega)]; simpa using hj)
    rw [h.1] at this
    rw [Nat.add_assoc]; exact this
  refine ⟨hc M a1 b1, fun j y o hj ho => ?_⟩
  by_cases hlt : j < ml.length
  · rw [List.getElem?_append_left hlt] at hj
    rw [List.getElem?_append_left (by rw [← h.1]; exact hlt)] at ho
    exact a2 j y o hj ho
  · rw [List.getElem?_append_right (by omega)] at hj
    rw [List.getElem?_append_right (by rw [← h.1]; omega), ← h.1] at ho
    exact b2 _ y o hj ho

theorem LnOk.nil (G : NH) (k : Nat) {A : ML → Prop} (h : ∀ M, A M) : LnOk G k [] [] A := ⟨rfl, fun M _ => ⟨h M, fun j y o hj => by simp at hj⟩⟩

theorem LnOk.imp {G : NH} {k : Nat} {ml : ML} {os : List NObj} {A B : ML → Prop} (h : LnOk G k ml os A) (hc : ∀ M, A M → B M) : LnOk G k ml os B :=
  ⟨h.1, fun M hM => ⟨hc M (h.2 M hM).1, (h.2 M hM).2⟩⟩

/-- An object ahead of what lies below it. -/
theorem LnOk.put {G : NH} {k : Nat} {p : Nm} {i : Nat} {o : NObj} {ml : ML} {os : List NObj} {A B : ML → Prop} (h : LnOk G (k + 1) ml os A) (ho : ∀ M, A M → RdOk G M (some (p, i)) o) (hc : ∀ M, M[k]? = some (some (p, i)) → A M → B M) : LnOk G k (some (p, i) :: ml) (o :: os) B := by
  refine ⟨by simp [h.1], fun M hM => ?_⟩
  obtain ⟨a1, a2⟩ := h.2 M fun j x hj => by
    have := hM (j + 1) x (by simpa using hj)
    rw [show k + 1 + j = k + (j + 1) from by omega]; exact this
  refine ⟨hc M (by simpa using hM 0 (some (p, i)) rfl) a1, fun j y o' hj ho' => ?_⟩
  cases j with
  | zero => simp at hj ho'; subst hj ho'; exact ho M a1
  | succ j => exact a2 j y o' (by simpa using hj) (by simpa using ho')

def GoodF (G : NH) (f : Nat → AV → Option (AV × ML × List NObj)) : Prop := ∀ k v v' ml os, f k v = some (v', ml, os) → LnOk G k ml os fun M => ArgS M v' v ∧ v'.plain = true

theorem travL_ok {G : NH} {f : Nat → AV → Option (AV × ML × List NObj)} (hf : GoodF G f) : ∀ (as : List AV) (k : Nat) (as' : List AV) (ml : ML) (os : List NObj), travL f k as = some (as', ml, os) → LnOk G k ml os fun M => ArgSL M as' as ∧ as'.all AV.plain = true
  | [], k, as', ml, os, h => by
    simp only [travL, Option.some.injEq, Prod.mk.injEq] at h
    obtain ⟨rfl, rfl, rfl⟩ := h
    exact .nil G k fun M => ⟨trivial, rfl⟩
  | a :: as, k, as', ml, os, h => by
    simp only [travL] at h
    split at h
    · rename_i a' ml1 os1 h1
      split at h
      · rename_i as1 ml2 os2 h2
        simp only [Option.some.injEq, Prod.mk.injEq] at h
        obtain ⟨rfl, rfl, rfl⟩ := h
        refine (hf _ _ _ _ _ h1).app (travL_ok hf as _ _ _ _ h2) fun M x y => ⟨⟨x.1, y.1⟩, ?_⟩
        rw [List.all_cons, x.2, y.2]; rfl
      · cases h
    · cases h

theorem travE_ok {G : NH} {f : Nat → AV → Option (AV × ML × List NObj)} (hf : GoodF G f) {p : Nm} {t : Nat} : ∀ (cs : List (List AV)) (i k : Nat) (cs' : List (List AV)) (ml : ML) (os : List NObj), travE f p t i k cs = some (cs', ml, os) → LnOk G k ml os fun M => cs'.length = cs.length ∧ ∀ j c', cs'[j]? = some c' → c'.all AV.plain = true ∧ ∃ c, cs[j]? = some c ∧ ArgSL M c' (flC p t (i + j) c)
  | [], i, k, cs', ml, os, h => by
    simp only [travE, Option.some.injEq, Prod.mk.injEq] at h
    obtain ⟨rfl, rfl, rfl⟩ := h
    exact .nil G k fun M => ⟨rfl, fun j c' h => by simp at h⟩
  | c :: cs, i, k, cs', ml, os, h => by
    simp only [travE] at h
    split at h
    · rename_i c1 ml1 os1 h1
      split at h
      · rename_i cs1 ml2 os2 h2
        simp only [Option.some.injEq, Prod.mk.injEq] at h
        obtain ⟨rfl, rfl, rfl⟩ := h
        refine (travL_ok hf _ _ _ _ _ h1).app (travE_ok hf cs _ _ _ _ _ h2) fun M x y => ⟨by simp [y.1], fun j c' hj => ?_⟩
        cases j with
        | zero => simp at hj; subst hj; exact ⟨x.2, c, rfl, x.1⟩
        | succ j =>
          obtain ⟨y1, c2, y2, y3⟩ := y.2 j c' (by simpa using hj)
          exact ⟨y1, c2, by simpa using y2, by rw [show i + (j + 1) = i + 1 + j from by omega]; exact y3⟩
      · cases h
    · cases h

theorem winN_some {o : NObj} {i n t sz : Nat} {w : List (List AV)} (h : winN o i n = some (t, sz, w)) : o.tag = t ∧ w.length = n ∧ (∃ m, shpN o = some (m, sz) ∧ i + n ≤ m) ∧ ∀ j, j < n → elemN o (i + j) = w[j]? := by
  cases o <;> simp only [winN, reduceCtorEq] at h
  all_goals
    split at h
    · rename_i hle
      simp only [Option.some.injEq, Prod.mk.injEq] at h
      obtain ⟨rfl, rfl, rfl⟩ := h
      refine ⟨rfl, by simp; omega, ⟨_, rfl, hle⟩, fun j hj => ?_⟩
      rw [List.getElem?_take, if_pos hj, List.getElem?_drop]; rfl
    · cases h

theorem winP_some {o : NObj} {i t sz : Nat} {c : List AV} (h : winP o i = some (t, sz, c)) : o.tag = t ∧ (∃ m, shpN o = some (m, sz) ∧ i + 1 ≤ m) ∧ elemN o i = some c := by
  cases o <;> simp only [winP, reduceCtorEq] at h
  · split at h
    · rename_i e
      simp only [Option.some.injEq, Prod.mk.injEq] at h
      obtain ⟨rfl, rfl, rfl⟩ := h
      exact ⟨rfl, ⟨_, rfl, by omega⟩, by simp [elemN, e]⟩
    · cases h
  all_goals
    split at h
    · rename_i c1 hc
      simp only [Option.some.injEq, Prod.mk.injEq] at h
      obtain ⟨rfl, rfl, rfl⟩ := h
      exact ⟨rfl, ⟨_, rfl, (List.getElem?_eq_some_iff.1 hc).1⟩, hc⟩
    · cases h

theorem argS_sl {M : ML} {k : Nat} {p : Nm} {i n : Nat} (h : M[k]? = some (some (p, i))) : ArgS M (.sl (.top k) 0 n) (.sl p i n) := by
  simp [ArgS, mlAt, h]

theorem argS_ptr {M : ML} {k : Nat} {p : Nm} {i f : Nat} (h : M[k]? = some (some (p, i))) : ArgS M (.ptr (.top k) 0 f) (.ptr p i f) := by
  simp [ArgS, mlAt, h]

theorem lnV_ok (G : NH) : ∀ (d : Nat), GoodF G (lnV G d)
  | 0 => fun k v v' ml os h => by
    simp only [lnV] at h
    split at h
    · rename_i hd
      simp only [Option.some.injEq, Prod.mk.injEq] at h
      obtain ⟨rfl, rfl, rfl⟩ := h
      exact .nil G k fun M => ⟨argS_dat hd, dat_plain hd⟩
    · cases h
  | d + 1 => fun k v v' ml os h => by
    have ih := lnV_ok G d
    have dt : (if v.dat = true then some (v, ([] : ML), ([] : List NObj)) else none) = some (v', ml, os) → LnOk G k ml os fun M => ArgS M v' v ∧ v'.plain = true := fun h => by
      split at h
      · rename_i hd
        simp only [Option.some.injEq, Prod.mk.injEq] at h
        obtain ⟨rfl, rfl, rfl⟩ := h
        exact .nil G k fun M => ⟨argS_dat hd, dat_plain hd⟩
      · cases h
    cases v with
    | sl p i n =>
      simp only [lnV] at h
      split at h
      · rename_i t sz w hw
        obtain ⟨w1, w2, ⟨m, w3, w4⟩, w5⟩ := winN_some hw
        split at h
        · rename_i hd
          simp only [Option.some.injEq, Prod.mk.injEq] at h
          obtain ⟨rfl, rfl, rfl⟩ := h
          refine LnOk.put (.nil G (k + 1) (A := fun _ => True) fun _ => trivial) (fun M _ => ⟨p, i, sz, m, w, rfl, rfl, w3, by omega, fun j c' hj => ?_⟩) fun M hM _ => ⟨argS_sl hM, rfl⟩
          have hc := List.all_eq_true.1 hd c' (List.mem_of_getElem? hj)
          have hjn : j < n := by have := (List.getElem?_eq_some_iff.1 hj).1; omega
          refine ⟨datL_plain hc, c', by rw [w5 j hjn]; exact hj, ?_⟩
          rw [flC_plain (datL_plain hc)]; exact argSL_dat hc
        · split at h
          · rename_i w' ml1 os1 h1
            simp only [Option.some.injEq, Prod.mk.injEq] at h
            obtain ⟨rfl, rfl, rfl⟩ := h
            refine LnOk.put (travE_ok ih _ _ _ _ _ _ h1) (fun M hM => ⟨p, i, sz, m, w', rfl, rfl, w3, by rw [hM.1]; omega, fun j c' hj => ?_⟩) fun M hM _ => ⟨argS_sl hM, rfl⟩
            obtain ⟨y1, c2, y2, y3⟩ := hM.2 j c' hj
            have hjn : j < n := by have := (List.getElem?_eq_some_iff.1 y2).1; omega
            exact ⟨y1, c2, by rw [w5 j hjn]; exact y2, by rw [w1]; exact y3⟩
          · cases h
      · cases h
    | ptr p i f =>
      simp only [lnV] at h
      split at h
      · rename_i t sz c hw
        obtain ⟨w1, ⟨m, w3, w4⟩, w5⟩ := winP_some hw
        split at h
        · rename_i w' ml1 os1 h1
          simp only [Option.some.injEq, Prod.mk.injEq] at h
          obtain ⟨rfl, rfl, rfl⟩ := h
          refine LnOk.put (travE_ok ih _ _ _ _ _ _ h1) (fun M hM => ⟨p, i, sz, m, w', rfl, rfl, w3, by rw [hM.1]; simpa using w4, fun j c' hj => ?_⟩) fun M hM _ => ⟨argS_ptr hM, rfl⟩
          obtain ⟨y1, c2, y2, y3⟩ := hM.2 j c' hj
          cases j with
          | zero => simp at y2; subst y2; exact ⟨y1, c, w5, by rw [w1]; exact y3⟩
          | succ j => simp at y2
        · cases h
      · cases h
    | fn g cap =>
      simp only [lnV] at h
      split at h
      · rename_i c' ml1 os1 h1
        simp only [Option.some.injEq, Prod.mk.injEq] at h
        obtain ⟨rfl, rfl, rfl⟩ := h
        exact (travL_ok ih _ _ _ _ _ h1).imp fun M x => ⟨⟨rfl, x.1⟩, rfl⟩
      · cases h
    | agg l =>
      simp only [lnV] at h
      split at h
      · rename_i c' ml1 os1 h1
        simp only [Option.some.injEq, Prod.mk.injEq] at h
        obtain ⟨rfl, rfl, rfl⟩ := h
        exact (travL_ok ih _ _ _ _ _ h1).imp fun M x => ⟨x.1, rfl⟩
      · cases h
    | _ => exact dt (by simpa only [lnV] using h)

/-! ### It looks at nothing else -/
def LocF (f f' : Nat → AV → Option (AV × ML × List NObj)) (G G' : NH) : Prop := ∀ k v r, f k v = some r → (∀ p i, some (p, i) ∈ r.2.1 → G p.root = G' p.root) → f' k v = some r

theorem travL_loc {f f' : Nat → AV → Option (AV × ML × List NObj)} {G G' : NH} (hf : LocF f f' G G') : ∀ (as : List AV) (k : Nat) (r : List AV × ML × List NObj), travL f k as = some r → (∀ p i, some (p, i) ∈ r.2.1 → G p.root = G' p.root) → travL f' k as = some r
  | [], k, r, h, _ => h
  | a :: as, k, r, h, hG => by
    simp only [travL] at h
    split at h
    · rename_i a' ml1 os1 h1
      split at h
      · rename_i as1 ml2 os2 h2
        simp only [Option.some.injEq] at h
        subst h
        simp only [travL]
        rw [hf _ _ _ h1 fun p i hp => hG p i (List.mem_append_left _ hp)]
        simp only
        rw [travL_loc hf as _ _ h2 fun p i hp => hG p i (List.mem_append_right _ hp)]
      · cases h
    · cases h

theorem travE_loc {f f' : Nat → AV → Option (AV × ML × List NObj)} {G G' : NH} (hf : LocF f f' G G') {p : Nm} {t : Nat} : ∀ (cs : List (List AV)) (i k : Nat) (r : List (List AV) × ML × List NObj), travE f p t i k cs = some r → (∀ p i, some (p, i) ∈ r.2.1 → G p.root = G' p.root) → travE f' p t i k cs = some r
  | [], i, k, r, h, _ => h
  | c :: cs, i, k, r, h, hG => by
    simp only [travE] at h
    split at h
    · rename_i a' ml1 os1 h1
      split at h
      · rename_i as1 ml2 os2 h2
        simp only [Option.some.injEq] at h
        subst h
        simp only [travE]
        rw [travL_loc hf _ _ _ h1 fun p i hp => hG p i (List.mem_append_left _ hp)]
        simp only
        rw [travE_loc hf cs _ _ _ h2 fun p i hp => hG p i (List.mem_append_right _ hp)]
      · cases h
    · cases h

theorem lnV_loc {G G' : NH} : ∀ (d : Nat), LocF (lnV G d) (lnV G' d) G G'
  | 0 => fun k v r h _ => h
  | d + 1 => fun k v r h hG => by
    have ih := lnV_loc (G := G) (G' := G') d
    cases v with
    | sl p i n =>
      simp only [lnV] at h ⊢
      split at h
      · rename_i t sz w hw
        have hp : getP G' p = getP G p := by
          refine (getP_same ?_)
          split at h
          · simp only [Option.some.injEq] at h
            subst h
            exact hG p i (by simp)
          · split at h
            · simp only [Option.some.injEq] at h
              subst h
              exact hG p i (by simp)
            · cases h
        rw [hp, hw]
        simp only
        split at h
        · rename_i hd
          rw [if_pos hd]; exact h
        · rename_i hd
          rw [if_neg hd]
          split at h
          · rename_i w' ml1 os1 h1
            simp only [Option.some.injEq] at h
            subst h
            rw [travE_loc ih _ _ _ _ h1 fun p i hp => hG p i (List.mem_cons_of_mem _ hp)]
          · cases h
      · cases h
    | ptr p i f =>
      simp only [lnV] at h ⊢
      split at h
      · rename_i t sz w hw
        split at h
        · rename_i w' ml1 os1 h1
          simp only [Option.some.injEq] at h
          subst h
          have hp : getP G' p = getP G p := getP_same (hG p i (by simp))
          rw [hp, hw]
          simp only
          rw [travE_loc ih _ _ _ _ h1 fun p i hp => hG p i (List.mem_cons_of_mem _ hp)]
        · cases h
      · cases h
    | fn g cap =>
      simp only [lnV] at h ⊢
      split at h
      · rename_i c' ml1 os1 h1
        simp only [Option.some.injEq] at h
        subst h
        rw [travL_loc ih _ _ _ h1 hG]
      · cases h
    | agg l =>
      simp only [lnV] at h ⊢
      split at h
      · rename_i c' ml1 os1 h1
        simp only [Option.some.injEq] at h
        subst h
        rw [travL_loc ih _ _ _ h1 hG]
      · cases h
    | _ => simpa only [lnV] using h

end Go.W
