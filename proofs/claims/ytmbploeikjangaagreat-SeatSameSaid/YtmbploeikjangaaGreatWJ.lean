/- What an operation does to a heap of trees. -/
import Derived.Test.YtmbploeikjangaaGreatWI
set_option linter.unusedSimpArgs false
set_option linter.unusedVariables false
namespace Go.W

structure Res where
  v : AV
  hs : List (Nat × NObj)
  rd : List Nat
  n : Nat

/-- What a call comes to. -/
structure Spec where
  fn : List AV → NH → Nat → Option Res
  loc : ∀ args G G' nb r, fn args G nb = some r → (∀ x, x ∈ r.rd ∨ x ∈ r.hs.map (·.1) → G x = G' x) → fn args G' nb = some r
  nm : ∀ args G nb r, fn args G nb = some r → ∀ x, x ∈ r.hs.map (·.1) → (nb ≤ x ∧ x < nb + r.n) ∨ G x ≠ .free

/-- A value that may stand in a cell, and owns nothing. -/
def AV.st : AV → Bool
  | .agg _ | .tup _ | .bot | .os _ _ _ | .op _ _ => false
  | .raw v => v.oneCell'
  | _ => true

theorem st_one {v : AV} (h : v.st = true) : v.one = true := by cases v <;> simp_all [AV.st, AV.one]
theorem st_plain {v : AV} (h : v.st = true) : v.plain = true := by cases v <;> simp_all [AV.st, AV.plain]
theorem st_all_one {l : List AV} (h : l.all AV.st = true) : l.all AV.one = true := List.all_eq_true.2 fun v hv => st_one (List.all_eq_true.1 h v hv)
theorem st_all_plain {l : List AV} (h : l.all AV.st = true) : l.all AV.plain = true := List.all_eq_true.2 fun v hv => st_plain (List.all_eq_true.1 h v hv)

mutual
/-- All tags within are below this. -/
def AV.tl (n : Nat) : AV → Bool
  | .os t _ els => decide (t < n) && tlLL n els
  | .op t c => decide (t < n) && tlL n c
  | _ => true
def tlL (n : Nat) : List AV → Bool
  | [] => true
  | a :: as => a.tl n && tlL n as
def tlLL (n : Nat) : List (List AV) → Bool
  | [] => true
  | a :: as => tlL n a && tlLL n as
end

theorem tlL_get {n : Nat} : ∀ {l : List AV}, tlL n l = true → ∀ {j : Nat} {v : AV}, l[j]? = some v → v.tl n = true
  | [], _, j, v, h => by simp at h
  | a :: as, h, j, v, hj => by
    simp only [tlL, Bool.and_eq_true] at h
    cases j with
    | zero => simp at hj; subst hj; exact h.1
    | succ j => exact tlL_get h.2 (by simpa using hj)

theorem tlLL_get {n : Nat} : ∀ {l : List (List AV)}, tlLL n l = true → ∀ {j : Nat} {v : List AV}, l[j]? = some v → tlL n v = true
  | [], _, j, v, h => by simp at h
  | a :: as, h, j, v, hj => by
    simp only [tlLL, Bool.and_eq_true] at h
    cases j with
    | zero => simp at hj; subst hj; exact h.1
    | succ j => exact tlLL_get h.2 (by simpa using hj)

def setN : NObj → Nat → Nat → List AV → Option NObj
  | .cells t c, i, f, l => if i = 0 then (if f + l.length ≤ c.length then some (.cells t (splice c f l)) else none) else none
  | .arr t sz els, i, f, l => match els[i]? with
    | some c => if f + l.length ≤ sz ∧ c.length = sz then some (.arr t sz (els.set i (splice c f l))) else none
    | none => none
  | _, _, _, _ => none

/-- A slice's elements. -/
def readN (G : NH) : AV → Option (List (List AV) × List Nat × Nat)
  | .nsl => some ([], [], 0)
  | .raw (.slice (some _) 0 _) => some ([], [], 0)
  | .sl p i n => match getP G p with
    | .arr _ sz els => if i + n ≤ els.length then some ((els.drop i).take n, [p.root], sz) else none
    | .view _ sz els => if i + n ≤ els.length then some ((els.drop i).take n, [p.root], sz) else none
    | _ => none
  | _ => none

def toRes (r : FRes) : Res := ⟨r.v, [], [], 8⟩

def noH : Nm → AObj := fun _ => .free

def MOp.isPure : MOp → Bool
  | .alloc _ | .box _ | .load _ _ _ | .store _ _ _ | .iaddr _ _ _ | .slc _ _ _ _ | .app _ _ _ _ | .appz _ _ _ _ | .mks _ _ _ _ _ | .bsl _ _ _ _ | .call _ _ | .stop | .clr _ _ | .mp _ => false
  | _ => true

def stepN (E : FuncId → Option Spec) (T : Nat → AV) (G : NH) (nb : Nat) (m : MOp) : Option Res :=
  match m with
  | .alloc z => if z.all AV.st = true then some ⟨.ptr (.top nb) 0 0, [(nb, .cells 0 z)], [], 8⟩ else none
  | .box x => if (x.ev T).cells.all AV.st = true then some ⟨.ptr (.top nb) 0 0, [(nb, .cells 0 (x.ev T).cells)], [], 8⟩ else none
  | .load ag n x => match x.ev T with
    | .ptr p i f => match elemN (getP G p) i with
      | some c => if ag = true then (if f + n ≤ c.length then some ⟨.agg (((flC p (getP G p).tag i c).drop f).take n), [], [p.root], 8⟩ else none)
        else (match c[f]? with
          | some v => some ⟨flV p (getP G p).tag i f v, [], [p.root], 8⟩
          | none => none)
      | none => none
    | _ => none
  | .store n x y => match x.ev T with
    | .ptr p i f => if (y.ev T).cells.all AV.st = true ∧ (y.ev T).cells.length = n then
        (match setN (getP G p) i f (y.ev T).cells with
        | some o' => some ⟨.bot, [wr G p o'], [], 8⟩
        | none => none) else none
    | _ => none
  | .iaddr sz x i => match x.ev T, i.ev T with
    | .sl p s n, .int _ j => if szN (getP G p) = some sz then (if 0 ≤ j ∧ j < n then some ⟨.ptr p (s + j.toNat) 0, [], [p.root], 8⟩ else none) else none
    | _, _ => none
  | .slc sz x lo hi => match x.ev T with
    | .sl p s n =>
      match lo.elim (AV.int .i64 0) (X.ev T), hi.elim (AV.int .i64 n) (X.ev T) with
      | .int _ l, .int _ h => if szN (getP G p) = some sz then (if 0 ≤ l ∧ l ≤ h ∧ h ≤ n then some ⟨.sl p (s + l.toNat) (h.toNat - l.toNat), [], [p.root], 8⟩ else none) else none
      | _, _ => none
    | .nsl =>
      match lo.elim (AV.int .i64 0) (X.ev T), hi.elim (AV.int .i64 0) (X.ev T) with
      | .int _ l, .int _ h => if l = 0 ∧ h = 0 then some ⟨.nsl, [], [], 8⟩ else none
      | _, _ => none
    | _ => none
  | .app sz bytes x y => match readN G (y.ev T) with
    | some (els', rd, sz') =>
      if (els' = [] ∨ sz' = sz) ∧ els'.all (fun c => c.all AV.plain) = true then
        (match x.ev T with
        | .nsl => if els'.length * bytes ≤ 140737488355328 ∧ els'.length ≤ 9223372036854775807 then some ⟨.sl (.top nb) 0 els'.length, [(nb, .arr 0 sz els')], rd, 8⟩ else none
        | .sl p s n => match getP G p with
          | .arr _ sz2 els => if sz2 = sz ∧ s + n = els.length ∧ tlLL nb els = true ∧ (n + els'.length) * bytes ≤ 140737488355328 ∧ n + els'.length ≤ 9223372036854775807 then
              some ⟨.sl (.top nb) 0 (n + els'.length), [wr G p .free, (nb, .arr 0 sz (els.drop s ++ els'))], rd, 8⟩ else none
          | _ => none
        | _ => none)
      else none
    | none => none
  | .appz sz bytes x y => match x.ev T, y.ev T with
    | .nsl, .int .i64 n => if 0 < n ∧ n * bytes ≤ 140737488355328 ∧ n ≤ 9223372036854775807 then some ⟨.sl (.top nb) 0 n.toNat, [(nb, .arr 0 sz [])], [], 8⟩ else none
    | _, _ => none
  | .mks sz bytes z l c => match l.ev T, c.ev T with
    | .int _ a, .int _ b => if a = b ∧ 0 ≤ a ∧ a * bytes ≤ 281474976710656 ∧ a ≤ 9223372036854775807 ∧ z.length = sz ∧ z.all AV.st = true then some ⟨.sl (.top nb) 0 a.toNat, [(nb, .arr 0 sz (List.replicate a.toNat z))], [], 8⟩ else none
    | _, _ => none
  | .bsl sz n z ps => match fillA ((List.replicate n z).flatten) (argsOf T ps) with
    | some c => if c.length = n * sz ∧ n * sz ≤ 16777216 ∧ 0 < sz ∧ c.all AV.st = true then some ⟨.sl (.top nb) 0 n, [(nb, .arr 0 sz ((List.range n).map fun j => (c.drop (j * sz)).take sz))], [], 8⟩ else none
    | none => none
  | .call f args => match f.ev T with
    | .fn g cap => match E g with
      | some sp => sp.fn (args.map (X.ev T) ++ cap) G nb
      | none => none
    | _ => none
  | .clr sz x => match x.ev T with
    | .sl (.top p) s n => match G p with
      | .arr t sz' els => if sz' = sz ∧ 0 < n ∧ s + n = els.length ∧ els.all (fun c => c.all AV.plain) = true then some ⟨.tup [], [(p, .arr t sz (els.take s))], [], 8⟩ else none
      | _ => none
    | _ => none
  | .mp _ => none
  | .mv x => (stepF T noH (.top 0) (.mv x)).map toRes
  | .pick c a b => (stepF T noH (.top 0) (.pick c a b)).map toRes
  | .nilck x => (stepF T noH (.top 0) (.nilck x)).map toRes
  | .bin op x y => (stepF T noH (.top 0) (.bin op x y)).map toRes
  | .eq ng k x y => (stepF T noH (.top 0) (.eq ng k x y)).map toRes
  | .un op x => (stepF T noH (.top 0) (.un op x)).map toRes
  | .conv k x => (stepF T noH (.top 0) (.conv k x)).map toRes
  | .mkif t x => (stepF T noH (.top 0) (.mkif t x)).map toRes
  | .faddr off x => (stepF T noH (.top 0) (.faddr off x)).map toRes
  | .fld ag off n x => (stepF T noH (.top 0) (.fld ag off n x)).map toRes
  | .paddr len sz x i => (stepF T noH (.top 0) (.paddr len sz x i)).map toRes
  | .idx ag len sz x i => (stepF T noH (.top 0) (.idx ag len sz x i)).map toRes
  | .len x => (stepF T noH (.top 0) (.len x)).map toRes
  | .slen x => (stepF T noH (.top 0) (.slen x)).map toRes
  | .cap x => (stepF T noH (.top 0) (.cap x)).map toRes
  | .stop => none
  | .mn xs => (stepF T noH (.top 0) (.mn xs)).map toRes
  | .mx xs => (stepF T noH (.top 0) (.mx xs)).map toRes
  | .build z ps => (stepF T noH (.top 0) (.build z ps)).map toRes
  | .ext x i => (stepF T noH (.top 0) (.ext x i)).map toRes
  | .tas t z ok x => (stepF T noH (.top 0) (.tas t z ok x)).map toRes
  | .mkfn f cap => (stepF T noH (.top 0) (.mkfn f cap)).map toRes

theorem stepN_pure {E : FuncId → Option Spec} {T : Nat → AV} {G : NH} {nb : Nat} {m : MOp} (h : m.isPure = true) : stepN E T G nb m = (stepF T noH (.top 0) m).map toRes := by
  cases m <;> first | rfl | simp [MOp.isPure] at h

theorem stepF_pure {T : Nat → AV} {H H' : Nm → AObj} {nb nb' : Nm} {m : MOp} {r : FRes} (h : m.isPure = true) (hs : stepF T H nb m = some r) : stepF T H' nb' m = some r ∧ r.hs = [] := by
  cases m <;> simp only [MOp.isPure, Bool.false_eq_true] at h <;> refine ⟨hs, ?_⟩ <;> simp only [stepF] at hs <;> (repeat' (split at hs)) <;> first | (cases hs; done) | (injection hs with hs; subst hs; rfl)

section
variable {P : Program} {w0 : World} {S : Sc} {Es : Env → Prop} {U : Nm → Prop} {T : Nat → AV} {G : NH} {a : Act} {w : World}

/-- What an operation does, told of a heap of trees. -/
def DoesN (P : Program) (w0 : World) (S : Sc) (Es : Env → Prop) (G : NH) (a : Act) (w : World) (o : Oper) (r : Res) (F : Nm → Prop) : Prop :=
  (∃ (w' : World) (g : Env) (nx : Next), (execOp a.eval o).run P w = .ok nx w' ∧
    ((∃ v, nx = .value v ∧ ∀ ρ, Es ρ → (∀ x, F x → ρ x = g x) → Rep ρ r.v v) ∨ (nx = .skip ∧ r.v = .bot)) ∧
    ∀ ρ, Es ρ → (∀ x, F x → ρ x = g x) → HCore w0 S ρ (HF (updL G r.hs)) w') ∧ ∀ x, ¬ F x → getP (updL G r.hs) x ≠ .free → getP G x ≠ .free

/-- Nothing changes. -/
theorem DoesN.of_same {o : Oper} {rf : FRes} {r : Res} {F : Nm → Prop} (h : Does P w0 S Es (HF G) a w o rf F) (hv : rf.v = r.v) (hf : rf.hs = []) (hn : r.hs = []) : DoesN P w0 S Es G a w o r F := by
  obtain ⟨w', g, nx, h1, h2, h3⟩ := h
  refine ⟨⟨w', g, nx, h1, by rw [← hv]; exact h2, fun ρ hρ hg => ?_⟩, fun x _ hx => by rw [hn] at hx; exact hx⟩
  have := h3 ρ hρ hg
  rw [hf] at this
  rw [hn]
  exact this

theorem getP_free {G : NH} {n : Nat} (h : G n = .free) : ∀ {x : Nm}, x.root = n → getP G x = .free
  | .top m, e => by simp only [Nm.root] at e; subst e; exact h
  | .sub y t j f, e => by rw [getP, getP_free h (x := y) e]; simp [kid, elemN]

theorem kid_plainO {o : NObj} (h : ∀ j c, elemN o j = some c → c.all AV.plain = true) (t j f : Nat) : kid o t j f = .free := by
  unfold kid
  split
  · cases he : elemN o j with
    | none => rfl
    | some c =>
      simp only [kidC]
      cases hc : c[f]? with
      | none => rfl
      | some v =>
        have := List.all_eq_true.1 (h j c he) v (List.mem_of_getElem? hc)
        cases v <;> first | rfl | simp [AV.plain] at this
  · rfl

/-- A new object that owns nothing. -/
theorem HF_new {n : Nat} {o : NObj} (hf : G n = .free) (hp : ∀ j c, elemN o j = some c → c.all AV.plain = true) : HF (upd G n o) = upd (HF G) (.top n) (flO (.top n) o) := by
  funext x
  by_cases hr : x.root = n
  · by_cases e : x = .top n
    · subst e; rw [upd_same]; unfold HF; rw [getP, upd_same]
    · rw [upd_other _ _ e]
      have h1 : HF G x = .free := HF_free.2 (getP_free hf hr)
      rw [h1]
      refine HF_free.2 ?_
      clear h1
      induction x with
      | top m => simp only [Nm.root] at hr; subst hr; exact absurd rfl e
      | sub y t j f ih =>
        simp only [Nm.root] at hr
        rw [getP]
        by_cases e2 : y = .top n
        · subst e2; rw [getP, upd_same]; exact kid_plainO hp t j f
        · rw [ih hr e2]; simp [kid, elemN]
  · have e : x ≠ .top n := fun e => hr (by rw [e]; rfl)
    rw [upd_other _ _ e]
    unfold HF
    rw [getP_other hr]

theorem root_mx : ∀ (x : Nm), x.root ≤ x.mx
  | .top n => Nat.le_refl _
  | .sub y t j f => by have := root_mx y; simp only [Nm.root, Nm.mx]; omega

theorem nw_new {n : Nat} {o : NObj} {F : Nm → Prop} (hf : G n = .free) (hp : ∀ j c, elemN o j = some c → c.all AV.plain = true) (hF : F (.top n)) : ∀ x, ¬ F x → getP (upd G n o) x ≠ .free → getP G x ≠ .free := by
  intro x hx hne
  have e : x ≠ .top n := fun e => hx (by rw [e]; exact hF)
  have : HF (upd G n o) x = HF G x := by rw [HF_new hf hp, upd_other _ _ e]
  intro h0
  rw [← HF_free, ← this, HF_free] at h0
  exact hne h0

theorem DoesN.of_new {o : Oper} {rf : FRes} {r : Res} {F : Nm → Prop} {n : Nat} {ob : NObj} (h : Does P w0 S Es (HF G) a w o rf F) (hv : rf.v = r.v) (hn : r.hs = [(n, ob)]) (hf : rf.hs = [(.top n, flO (.top n) ob)]) (hfr : G n = .free) (hF : F (.top n)) (hp : ∀ j c, elemN ob j = some c → c.all AV.plain = true) : DoesN P w0 S Es G a w o r F := by
  obtain ⟨w', g, nx, h1, h2, h3⟩ := h
  refine ⟨⟨w', g, nx, h1, by rw [← hv]; exact h2, fun ρ hρ hg => ?_⟩, ?_⟩
  · have := h3 ρ hρ hg
    rw [hf] at this
    rw [hn]
    show HCore w0 S ρ (HF (upd G n ob)) w'
    rw [HF_new hfr hp]
    exact this
  · rw [hn]; exact nw_new hfr hp hF

theorem flC_splice {p : Nm} {t j f : Nat} {c l : List AV} (hl : l.all AV.plain = true) (hle : f + l.length ≤ c.length) : flC p t j (splice c f l) = splice (flC p t j c) f l := by
  apply List.ext_getElem?
  intro k
  rw [flC_get]
  by_cases h1 : f ≤ k ∧ k < f + l.length
  · rw [splice_in hle h1.1 h1.2, splice_in (by simpa using hle) h1.1 h1.2]
    cases hk : l[k - f]? with
    | none => rfl
    | some v =>
      have := List.all_eq_true.1 hl v (List.mem_of_getElem? hk)
      simp [flV_plain this]
  · have h2 : k < f ∨ f + l.length ≤ k := by omega
    rw [splice_out hle h2, splice_out (by simpa using hle) h2, flC_get]

theorem setN_like {o o' : NObj} {i f : Nat} {l : List AV} (h : setN o i f l = some o') : Like o o' ∧ o'.tag = o.tag := by
  cases o <;> simp only [setN, reduceCtorEq] at h
  · split at h
    · split at h
      · injection h with h; subst h; exact ⟨trivial, rfl⟩
      · cases h
    · cases h
  · split at h
    · split at h
      · injection h with h; subst h; exact ⟨by simp [Like], rfl⟩
      · cases h
    · cases h

theorem setN_flat {p : Nm} {o o' : NObj} {i f : Nat} {l : List AV} (hl : l.all AV.plain = true) (h : setN o i f l = some o') : setElem (flO p o) i f l = some (flO p o') := by
  cases o <;> simp only [setN, reduceCtorEq] at h
  · rename_i t c
    split at h
    · rename_i e
      split at h
      · rename_i hle
        injection h with h
        subst h
        subst e
        simp only [flO, setElem, if_true, flC_length]
        rw [if_pos hle, flC_splice hl hle]
      · cases h
    · cases h
  · rename_i t sz els
    split at h
    · rename_i c hc
      split at h
      · rename_i hle
        injection h with h
        subst h
        have hi := (List.getElem?_eq_some_iff.1 hc).1
        simp only [flO, setElem, List.length_set]
        rw [if_pos hi, if_pos hle.1]
        congr 2
        funext j
        by_cases e : j = i
        · subst e
          rw [if_pos rfl, List.getD_eq_getElem?_getD, List.getD_eq_getElem?_getD, hc, List.getElem?_set, if_pos rfl, if_pos hi]
          exact (flC_splice hl (by rw [Option.getD_some, hle.2]; exact hle.1)).symm
        · rw [if_neg e, List.getD_eq_getElem?_getD, List.getD_eq_getElem?_getD, List.getElem?_set, if_neg (fun e' => e e'.symm)]
      · cases h
    · cases h

theorem setN_kid {o o' : NObj} {i f : Nat} {l : List AV} (hl : l.all AV.plain = true) (h : setN o i f l = some o') (t j k : Nat) : kid o' t j k = kid o t j k ∨ kid o' t j k = .free := by
  have key : ∀ {c : List AV}, f + l.length ≤ c.length → kidC false (splice c f l) k = kidC false c k ∨ kidC false (splice c f l) k = .free := fun {c} hle => by
    unfold kidC
    by_cases h1 : f ≤ k ∧ k < f + l.length
    · rw [splice_in hle h1.1 h1.2]
      right
      cases hk : l[k - f]? with
      | none => rfl
      | some v =>
        have := List.all_eq_true.1 hl v (List.mem_of_getElem? hk)
        cases v <;> first | rfl | simp [AV.plain] at this
    · rw [splice_out hle (by omega)]; exact .inl rfl
  cases o <;> simp only [setN, reduceCtorEq] at h
  · rename_i t' c
    split at h
    · rename_i e
      split at h
      · rename_i hle
        injection h with h
        subst h
        simp only [kid, NObj.tag, elemN, NObj.ro]
        by_cases ht : t' = t
        · subst ht; simp only [if_true]
          by_cases ej : j = 0
          · simp only [ej, if_true]; exact key hle
          · simp [ej]
        · simp only [ht, if_false]; exact .inl trivial
      · cases h
    · cases h
  · rename_i t' sz els
    split at h
    · rename_i c hc
      split at h
      · rename_i hle
        injection h with h
        subst h
        have hi := (List.getElem?_eq_some_iff.1 hc).1
        simp only [kid, NObj.tag, elemN, NObj.ro]
        by_cases ht : t' = t
        · subst ht; simp only [if_true]
          by_cases ej : i = j
          · subst ej
            rw [List.getElem?_set, if_pos rfl, if_pos hi, hc]
            exact key (by rw [hle.2]; exact hle.1)
          · rw [List.getElem?_set, if_neg ej]; exact .inl rfl
        · simp only [ht, if_false]; exact .inl trivial
      · cases h
    · cases h

/-- What is written into a tree, seen flat. -/
theorem HF_wr {p : Nm} {o' : NObj} (hl : Like (getP G p) o') (hk : ∀ t j f, kid o' t j f = kid (getP G p) t j f ∨ kid o' t j f = .free) : ∀ x, HF (updL G [wr G p o']) x = upd (HF G) p (flO p o') x ∨ HF (updL G [wr G p o']) x = .free := by
  intro x
  show HF (upd G (wr G p o').1 (wr G p o').2) x = _ ∨ _
  obtain ⟨h1, h2, _⟩ := wr_get G p o' hl
  by_cases e : x = p
  · subst e
    rw [upd_same]; left; unfold HF; rw [h1]
  · rw [upd_other _ _ e]
    by_cases hp : pre p x
    · rcases wr_below G p hl hk x hp e with h | h
      · left; unfold HF; rw [h]
      · right; exact HF_free.2 h
    · left; exact h2 x hp

theorem nw_wr {p : Nm} {o' : NObj} (hl : Like (getP G p) o') (hk : ∀ t j f, kid o' t j f = kid (getP G p) t j f ∨ kid o' t j f = .free) : ∀ x, getP (updL G [wr G p o']) x ≠ .free → getP G x ≠ .free := by
  intro x hx h0
  rcases HF_wr hl hk x with h | h
  · by_cases e : x = p
    · subst e; rw [h0] at hl; cases o' <;> simp [Like] at hl
    · rw [upd_other _ _ e, HF_free.2 h0] at h; exact hx (HF_free.1 h)
  · exact hx (HF_free.1 h)

end
end Go.W
