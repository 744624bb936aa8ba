/- Specifications: from values that own what they name, to values that own what they name. -/
import Derived.Test.YtmbploeikjangaaGreatWX
set_option linter.unusedSimpArgs false
set_option linter.unusedVariables false
namespace Go.W

/-- Of each object that comes with the arguments: its elements' size; does the callee own it? -/
abbrev Modes := List (Nat × Bool)

mutual
/-- A value as a tree, and where its parts lie. -/
def clo (G : NH) : AV → Modes → Option (AV × ML × Modes)
  | .ptr p i f, ms => match ms with
    | (_, own) :: q => if i = 0 ∧ f = 0 then (match getP G p with
      | .cells _ c => if clL (t0L c) = true then some (.op 0 (t0L c), [some (p, 0)], q) else none
      | .view _ _ [c] => if clL (t0L c) = true ∧ own = false then some (.op 0 (t0L c), [some (p, 0)], q) else none
      | _ => none) else none
    | [] => none
  | .sl p i n, ms => match ms with
    | (sz, own) :: q => (match getP G p with
      | .arr _ sz' els => if sz' = sz ∧ i + n ≤ els.length ∧ clLL (t0LL ((els.drop i).take n)) = true ∧ (own = true → i = 0 ∧ n = els.length) then some (.os 0 sz (t0LL ((els.drop i).take n)), [some (p, i)], q) else none
      | .view _ sz' els => if sz' = sz ∧ i + n ≤ els.length ∧ clLL (t0LL ((els.drop i).take n)) = true ∧ own = false then some (.os 0 sz (t0LL ((els.drop i).take n)), [some (p, i)], q) else none
      | _ => none)
    | [] => none
  | .nsl, ms => match ms with
    | (sz, _) :: q => some (.os 0 sz [], [none], q)
    | [] => none
  | .fn f c, ms => match cloL G c ms with
    | some (c', ml, q) => some (.fn f c', ml, q)
    | none => none
  | .iface t a, ms => match clo G a ms with
    | some (a', ml, q) => some (.iface t a', ml, q)
    | none => none
  | .agg l, ms => match cloL G l ms with
    | some (l', ml, q) => some (.agg l', ml, q)
    | none => none
  | .tup l, ms => match cloL G l ms with
    | some (l', ml, q) => some (.tup l', ml, q)
    | none => none
  | .int k n, ms => some (.int k n, [], ms)
  | .bool b, ms => some (.bool b, [], ms)
  | .str s, ms => some (.str s, [], ms)
  | .raw v, ms => some (.raw v, [], ms)
  | .bot, ms => some (.bot, [], ms)
  | .os _ _ _, _ => none
  | .op _ _, _ => none
def cloL (G : NH) : List AV → Modes → Option (List AV × ML × Modes)
  | [], ms => some ([], [], ms)
  | a :: as, ms => match clo G a ms with
    | some (a', ml, q) => (match cloL G as q with
      | some (as', ml', q') => some (a' :: as', ml ++ ml', q')
      | none => none)
    | none => none
end

def lobj (own : Bool) (c : List AV) : NObj := if own = true then .cells 0 c else .view 0 c.length [c]
def larr (own : Bool) (sz : Nat) (els : List (List AV)) : NObj := if own = true then .arr 0 sz els else .view 0 sz els

mutual
/-- The callee's arguments, and its objects. -/
def lo (k : Nat) : AV → Modes → AV × List NObj × Modes
  | .op _ c, ms => match ms with
    | (_, own) :: q => (.ptr (.top k) 0 0, [lobj own c], q)
    | [] => (.bot, [], [])
  | .os _ _ els, ms => match ms with
    | (sz, own) :: q => (.sl (.top k) 0 els.length, [larr own sz els], q)
    | [] => (.bot, [], [])
  | .fn f c, ms => match loL k c ms with
    | (c', os, q) => (.fn f c', os, q)
  | .iface t a, ms => match lo k a ms with
    | (a', os, q) => (.iface t a', os, q)
  | .agg l, ms => match loL k l ms with
    | (l', os, q) => (.agg l', os, q)
  | .tup l, ms => match loL k l ms with
    | (l', os, q) => (.tup l', os, q)
  | v, ms => (v, [], ms)
def loL (k : Nat) : List AV → Modes → List AV × List NObj × Modes
  | [], ms => ([], [], ms)
  | a :: as, ms => match lo k a ms with
    | (a', os, q) => (match loL (k + os.length) as q with
      | (as', os', q') => (a' :: as', os ++ os', q'))
end

def cameP (G : NH) (x : Option (Nm × Nat)) (o : NObj) : Prop := match x with
  | some (p, i) => Seen i (getP G p) o
  | none => (∃ sz, o = .view 0 sz [] ∨ o = .arr 0 sz [])

def CameL (G : NH) (ml : ML) (os : List NObj) : Prop := ml.length = os.length ∧ ∀ (j : Nat) (x : Option (Nm × Nat)) (o : NObj), ml[j]? = some x → os[j]? = some o → cameP G x o

theorem CameL.append {G : NH} {ml ml' : ML} {os os' : List NObj} (h : CameL G ml os) (h' : CameL G ml' os') : CameL G (ml ++ ml') (os ++ os') := by
  refine ⟨by simp [h.1, h'.1], fun j x o h1 h2 => ?_⟩
  rcases Nat.lt_or_ge j ml.length with hj | hj
  · rw [List.getElem?_append_left hj] at h1
    rw [List.getElem?_append_left (by rw [← h.1]; exact hj)] at h2
    exact h.2 j x o h1 h2
  · rw [List.getElem?_append_right hj] at h1
    rw [List.getElem?_append_right (by rw [← h.1]; exact hj)] at h2
    exact h'.2 _ x o h1 (by rw [h.1]; exact h2)

theorem CameL.one {G : NH} {x : Option (Nm × Nat)} {o : NObj} (h : cameP G x o) : CameL G [x] [o] := by
  refine ⟨rfl, fun j y o' h1 h2 => ?_⟩
  cases j with
  | zero => simp at h1 h2; subst h1 h2; exact h
  | succ j => simp at h1

theorem CameL.nil {G : NH} : CameL G [] [] := ⟨rfl, fun j x o h _ => by simp at h⟩

theorem Cames_of {G : NH} {ml : ML} {os : List NObj} (h : CameL G ml os) : Cames G ml os := ⟨h.1, fun k x o h1 h2 => by
  have := h.2 k x o h1 h2
  cases x with
  | none => exact this
  | some q => exact this⟩

mutual
theorem clo_ok {G : NH} : ∀ (v : AV) (ms : Modes) {c : AV} {ml : ML} {q : Modes}, clo G v ms = some (c, ml, q) → ∀ (mlA : ML) (k : Nat), (∀ (j : Nat) (x : Option (Nm × Nat)), ml[j]? = some x → mlA[k + j]? = some x) → (lo k c ms).2.2 = q ∧ CameL G ml (lo k c ms).2.1 ∧ ArgS mlA (lo k c ms).1 v := fun v ms {c ml q} h mlA k hk => by
  cases v with
  | ptr p i f =>
    simp only [clo] at h
    cases ms with
    | nil => cases h
    | cons m q' =>
      obtain ⟨sz, own⟩ := m
      simp only at h
      split at h
      · rename_i hif
        obtain ⟨rfl, rfl⟩ := hif
        have hm : ∀ {x : Option (Nm × Nat)}, ml = [x] → mlA[k]? = some x := fun e => by have := hk 0 _ (by rw [e]; rfl); simpa using this
        split at h
        · rename_i t c0 ho
          split at h
          · rename_i hcl
            simp only [Option.some.injEq, Prod.mk.injEq] at h
            obtain ⟨rfl, rfl, rfl⟩ := h
            refine ⟨rfl, CameL.one ?_, ?_⟩
            · show Seen 0 (getP G p) (lobj own (t0L c0))
              rw [ho]
              cases own with
              | true => exact Seen.own (og := .cells t c0) rfl hcl
              | false => have := Seen.one (t := t) (z := 0) (c := c0) (og := .cells t c0) (.inl rfl) hcl; simpa [lobj, t0L_length] using this
            · simp [lo, ArgS, mlAt, hm rfl]
          · cases h
        · rename_i t z c0 ho
          split at h
          · rename_i hcl
            simp only [Option.some.injEq, Prod.mk.injEq] at h
            obtain ⟨rfl, rfl, rfl⟩ := h
            refine ⟨rfl, CameL.one ?_, ?_⟩
            · show Seen 0 (getP G p) (lobj own (t0L c0))
              rw [ho, hcl.2]
              have := Seen.one (t := t) (z := z) (c := c0) (og := .view t z [c0]) (.inr rfl) hcl.1
              simpa [lobj, t0L_length] using this
            · simp [lo, ArgS, mlAt, hm rfl]
          · cases h
        · cases h
      · cases h
  | sl p i n =>
    simp only [clo] at h
    cases ms with
    | nil => cases h
    | cons m q' =>
      obtain ⟨sz, own⟩ := m
      simp only at h
      have hm : ∀ {x : Option (Nm × Nat)}, ml = [x] → mlA[k]? = some x := fun e => by have := hk 0 _ (by rw [e]; rfl); simpa using this
      split at h
      · rename_i t sz' els ho
        split at h
        · rename_i hcl
          obtain ⟨rfl, hle, hcl, hown⟩ := hcl
          simp only [Option.some.injEq, Prod.mk.injEq] at h
          obtain ⟨rfl, rfl, rfl⟩ := h
          have hlen : (t0LL ((els.drop i).take n)).length = n := by rw [t0LL_length, List.length_take, List.length_drop]; omega
          refine ⟨rfl, CameL.one ?_, ?_⟩
          · show Seen i (getP G p) (larr own sz' (t0LL ((els.drop i).take n)))
            rw [ho]
            cases own with
            | true =>
              obtain ⟨rfl, rfl⟩ := hown rfl
              simp only [List.drop_zero, List.take_length] at hcl ⊢
              exact Seen.own (og := .arr t sz' els) rfl hcl
            | false => exact Seen.row (t := t) (.inl rfl) hle hcl
          · simp [lo, ArgS, mlAt, hm rfl, hlen]
        · cases h
      · rename_i t sz' els ho
        split at h
        · rename_i hcl
          obtain ⟨rfl, hle, hcl, rfl⟩ := hcl
          simp only [Option.some.injEq, Prod.mk.injEq] at h
          obtain ⟨rfl, rfl, rfl⟩ := h
          have hlen : (t0LL ((els.drop i).take n)).length = n := by rw [t0LL_length, List.length_take, List.length_drop]; omega
          refine ⟨rfl, CameL.one ?_, ?_⟩
          · show Seen i (getP G p) (larr false sz' (t0LL ((els.drop i).take n)))
            rw [ho]
            exact Seen.row (t := t) (.inr rfl) hle hcl
          · simp [lo, ArgS, mlAt, hm rfl, hlen]
        · cases h
      · cases h
  | nsl =>
    simp only [clo] at h
    cases ms with
    | nil => cases h
    | cons m q' =>
      obtain ⟨sz, own⟩ := m
      simp only [Option.some.injEq, Prod.mk.injEq] at h
      obtain ⟨rfl, rfl, rfl⟩ := h
      have hm : mlA[k]? = some none := by have := hk 0 none rfl; simpa using this
      refine ⟨rfl, CameL.one ?_, by simp [lo, ArgS, mlAt, hm]⟩
      show ∃ sz', larr own sz [] = _ ∨ _
      cases own
      · exact ⟨sz, .inl rfl⟩
      · exact ⟨sz, .inr rfl⟩
  | fn f l =>
    simp only [clo] at h
    split at h
    · rename_i c' ml' q' hh
      simp only [Option.some.injEq, Prod.mk.injEq] at h
      obtain ⟨rfl, rfl, rfl⟩ := h
      obtain ⟨h1, h2, h3⟩ := cloL_ok l ms hh mlA k hk
      simp only [lo]
      exact ⟨h1, h2, by simp [ArgS, h3]⟩
    · cases h
  | iface t a =>
    simp only [clo] at h
    split at h
    · rename_i c' ml' q' hh
      simp only [Option.some.injEq, Prod.mk.injEq] at h
      obtain ⟨rfl, rfl, rfl⟩ := h
      obtain ⟨h1, h2, h3⟩ := clo_ok a ms hh mlA k hk
      simp only [lo]
      exact ⟨h1, h2, by simp [ArgS, h3]⟩
    · cases h
  | agg l =>
    simp only [clo] at h
    split at h
    · rename_i c' ml' q' hh
      simp only [Option.some.injEq, Prod.mk.injEq] at h
      obtain ⟨rfl, rfl, rfl⟩ := h
      obtain ⟨h1, h2, h3⟩ := cloL_ok l ms hh mlA k hk
      simp only [lo]
      exact ⟨h1, h2, by simp [ArgS, h3]⟩
    · cases h
  | tup l =>
    simp only [clo] at h
    split at h
    · rename_i c' ml' q' hh
      simp only [Option.some.injEq, Prod.mk.injEq] at h
      obtain ⟨rfl, rfl, rfl⟩ := h
      obtain ⟨h1, h2, h3⟩ := cloL_ok l ms hh mlA k hk
      simp only [lo]
      exact ⟨h1, h2, by simp [ArgS, h3]⟩
    · cases h
  | int kk n => simp only [clo, Option.some.injEq, Prod.mk.injEq] at h; obtain ⟨rfl, rfl, rfl⟩ := h; exact ⟨rfl, CameL.nil, by simp [lo, ArgS]⟩
  | bool b => simp only [clo, Option.some.injEq, Prod.mk.injEq] at h; obtain ⟨rfl, rfl, rfl⟩ := h; exact ⟨rfl, CameL.nil, by simp [lo, ArgS]⟩
  | str b => simp only [clo, Option.some.injEq, Prod.mk.injEq] at h; obtain ⟨rfl, rfl, rfl⟩ := h; exact ⟨rfl, CameL.nil, by simp [lo, ArgS]⟩
  | raw b => simp only [clo, Option.some.injEq, Prod.mk.injEq] at h; obtain ⟨rfl, rfl, rfl⟩ := h; exact ⟨rfl, CameL.nil, by simp [lo, ArgS]⟩
  | bot => simp only [clo, Option.some.injEq, Prod.mk.injEq] at h; obtain ⟨rfl, rfl, rfl⟩ := h; exact ⟨rfl, CameL.nil, by simp [lo, ArgS]⟩
  | os t sz els => simp only [clo] at h; cases h
  | op t c => simp only [clo] at h; cases h
theorem cloL_ok {G : NH} : ∀ (l : List AV) (ms : Modes) {c : List AV} {ml : ML} {q : Modes}, cloL G l ms = some (c, ml, q) → ∀ (mlA : ML) (k : Nat), (∀ (j : Nat) (x : Option (Nm × Nat)), ml[j]? = some x → mlA[k + j]? = some x) → (loL k c ms).2.2 = q ∧ CameL G ml (loL k c ms).2.1 ∧ ArgSL mlA (loL k c ms).1 l := fun l ms {c ml q} h mlA k hk => by
  cases l with
  | nil => simp only [cloL, Option.some.injEq, Prod.mk.injEq] at h; obtain ⟨rfl, rfl, rfl⟩ := h; exact ⟨rfl, CameL.nil, by simp [loL, ArgSL]⟩
  | cons a as =>
    simp only [cloL] at h
    split at h
    · rename_i a' ml1 q1 h1
      split at h
      · rename_i as' ml2 q2 h2
        simp only [Option.some.injEq, Prod.mk.injEq] at h
        obtain ⟨rfl, rfl, rfl⟩ := h
        obtain ⟨e1, e2, e3⟩ := clo_ok a ms h1 mlA k (fun j x hx => hk j x (by
          rw [List.getElem?_append_left (List.getElem?_eq_some_iff.1 hx).1]; exact hx))
        have hlen := e2.1
        obtain ⟨f1, f2, f3⟩ := cloL_ok as q1 h2 mlA (k + (lo k a' ms).2.1.length) (fun j x hx => by
          rw [← hlen, Nat.add_assoc]
          refine hk (ml1.length + j) x ?_
          rw [List.getElem?_append_right (by omega), Nat.add_sub_cancel_left]; exact hx)
        simp only [loL]
        rw [e1]
        exact ⟨f1, e2.append f2, by simp only [ArgSL]; exact ⟨e3, f3⟩⟩
      · cases h
    · cases h
end

mutual
theorem clo_loc {G G' : NH} : ∀ (v : AV) (ms : Modes) {r : AV × ML × Modes}, clo G v ms = some r → (∀ p i, some (p, i) ∈ r.2.1 → G p.root = G' p.root) → clo G' v ms = some r := fun v ms {r} h hg => by
  cases v with
  | ptr p i f =>
    simp only [clo] at h ⊢
    cases ms with
    | nil => cases h
    | cons m q' =>
      simp only at h ⊢
      split at h
      · rename_i hif
        rw [if_pos hif]
        have key : some (p, 0) ∈ r.2.1 := by
          split at h
          · split at h
            · injection h with h; rw [← h]; simp
            · cases h
          · split at h
            · injection h with h; rw [← h]; simp
            · cases h
          · cases h
        rw [getP_same (hg p 0 key)]
        exact h
      · cases h
  | sl p i n =>
    simp only [clo] at h ⊢
    cases ms with
    | nil => cases h
    | cons m q' =>
      simp only at h ⊢
      have key : some (p, i) ∈ r.2.1 := by
        split at h
        · split at h
          · injection h with h; rw [← h]; simp
          · cases h
        · split at h
          · injection h with h; rw [← h]; simp
          · cases h
        · cases h
      rw [getP_same (hg p i key)]
      exact h
  | nsl => simp only [clo] at h ⊢; exact h
  | fn f l =>
    simp only [clo] at h ⊢
    split at h
    · rename_i c' ml' q' hh
      injection h with h
      rw [cloL_loc l ms hh (by rw [← h] at hg; exact hg)]
      simp [h]
    · cases h
  | iface t a =>
    simp only [clo] at h ⊢
    split at h
    · rename_i c' ml' q' hh
      injection h with h
      rw [clo_loc a ms hh (by rw [← h] at hg; exact hg)]
      simp [h]
    · cases h
  | agg l =>
    simp only [clo] at h ⊢
    split at h
    · rename_i c' ml' q' hh
      injection h with h
      rw [cloL_loc l ms hh (by rw [← h] at hg; exact hg)]
      simp [h]
    · cases h
  | tup l =>
    simp only [clo] at h ⊢
    split at h
    · rename_i c' ml' q' hh
      injection h with h
      rw [cloL_loc l ms hh (by rw [← h] at hg; exact hg)]
      simp [h]
    · cases h
  | _ => simp only [clo] at h ⊢ <;> exact h
theorem cloL_loc {G G' : NH} : ∀ (l : List AV) (ms : Modes) {r : List AV × ML × Modes}, cloL G l ms = some r → (∀ p i, some (p, i) ∈ r.2.1 → G p.root = G' p.root) → cloL G' l ms = some r := fun l ms {r} h hg => by
  cases l with
  | nil => simp only [cloL] at h ⊢; exact h
  | cons a as =>
    simp only [cloL] at h ⊢
    split at h
    · rename_i a' ml1 q1 h1
      split at h
      · rename_i as' ml2 q2 h2
        injection h with h
        rw [← h] at hg
        rw [clo_loc a ms h1 (fun p i hp => hg p i (by simp at hp ⊢; exact .inl hp))]
        simp only
        rw [cloL_loc as q1 h2 (fun p i hp => hg p i (by simp at hp ⊢; exact .inr hp))]
        simp [h]
      · cases h
    · cases h
end

end Go.W
