/- Rows whose arguments are slices of structs of integers and truths; from a specification of a call that only reads to a statement's call. -/
import Derived.Test.YtfkdcpgphindiaaWbA
import Derived.Test.YtfkdcpgphindiaaWkC
import Derived.Test.YtfkdcpgphindiaaPuA
import Derived.Test.YtfkdcpgphindiaaPsG
import Derived.Test.YtfkdcpgphindiaaWcA
import Derived.Deep.Slices
namespace Go.W
open Go.Proofs
set_option linter.unusedSimpArgs false
set_option linter.unusedVariables false
set_option maxHeartbeats 8000000
attribute [local irreducible] Wm
attribute [local simp] nmap lkp mkPl prs prsL prT ddL idL CRenL CRen Ren RenL NObj.none CRenLL
def mapV {α : Type} (f : List AV → Option α) : List (List AV) → Option (List α)
  | [] => some []
  | r :: l => match f r, mapV f l with
    | some x, some L => some (x :: L)
    | _, _ => none
theorem mapV_map {α : Type} {f : List AV → Option α} {g : α → List AV} (h : ∀ x, f (g x) = some x) : ∀ L : List α, mapV f (L.map g) = some L
  | [] => rfl
  | x :: L => by simp only [List.map_cons, mapV, h, mapV_map h L]
theorem mapV_ex {α : Type} {f : List AV → Option α} {g : α → List AV} (h : ∀ r x, f r = some x → r = g x) : ∀ {l : List (List AV)} {L : List α}, mapV f l = some L → l = L.map g
  | [], L, e => by simp only [mapV, Option.some.injEq] at e; subst e; rfl
  | r :: l, L, e => by
    simp only [mapV] at e
    split at e
    · rename_i x M h1 h2
      injection e with e
      subst e
      rw [h _ _ h1, mapV_ex h h2]; rfl
    · cases e
theorem rows_all {α : Type} {g : α → List AV} (h1 : ∀ x, t0L (g x) = g x) (h2 : ∀ x, clL (g x) = true) : ∀ L : List α, t0LL (L.map g) = L.map g ∧ clLL (L.map g) = true
  | [] => ⟨rfl, rfl⟩
  | x :: L => by
    obtain ⟨a, b⟩ := rows_all h1 h2 L
    exact ⟨by show t0L (g x) :: t0LL (L.map g) = _; rw [h1, a]; rfl, by show (clL (g x) && clLL (L.map g)) = true; rw [h2, b]; rfl⟩
theorem rows_tl {α : Type} {g : α → List AV} {n : Nat} (h : ∀ x, tlL n (g x) = true) : ∀ L : List α, tlLL n (L.map g) = true
  | [] => rfl
  | x :: L => by show (tlL n (g x) && tlLL n (L.map g)) = true; rw [h, rows_tl h L]; rfl
theorem map_at {α : Type} {g : α → List AV} {L : List α} {k : Nat} {x : α} (h : L[k]? = some x) : (L.map g)[k]? = some (g x) ∧ ∀ hk, (L.map g)[k]'hk = g x := by
  have e : (L.map g)[k]? = some (g x) := by rw [List.getElem?_map, h]; rfl
  exact ⟨e, fun hk => by rw [List.getElem?_eq_getElem hk] at e; exact Option.some.inj e⟩
theorem take_snoc {α : Type} {L : List α} {k : Nat} {x : α} (h : L[k]? = some x) : L.take (k + 1) = L.take k ++ [x] := by
  rw [List.take_add_one, h]; rfl

/-- An order and its cell. -/
structure OZ where
  c : Int
  n : Int
  s : Int
  p : Int
  l : Int
  u : Int
  q : Int
  deriving DecidableEq
def ozC (r : OZ) : List AV := [.int .i64 r.c, .int .i64 r.n, .int .i64 r.s, .int .i64 r.p, .int .i64 r.l, .int .i64 r.u, .int .i64 r.q]
def ozOf : List AV → Option OZ
  | [.int .i64 c, .int .i64 n, .int .i64 s, .int .i64 p, .int .i64 l, .int .i64 u, .int .i64 q] => some ⟨c, n, s, p, l, u, q⟩
  | _ => none
theorem ozOf_C (r : OZ) : ozOf (ozC r) = some r := rfl
theorem ozOf_ex {c : List AV} {r : OZ} (h : ozOf c = some r) : c = ozC r := by
  unfold ozOf at h
  split at h
  · injection h with h; subst h; rfl
  · cases h
def ozLL (l : List OZ) : List (List AV) := l.map ozC
theorem oz_map (l : List OZ) : List.map ozC l = ozLL l := rfl
theorem oz_t0 (l : List OZ) : t0LL (ozLL l) = ozLL l := (rows_all (fun o => by simp [ozC, t0L, AV.t0]) (fun o => by simp [ozC, clL, AV.cl]) l).1
theorem oz_cl (l : List OZ) : clLL (ozLL l) = true := (rows_all (fun o => by simp [ozC, t0L, AV.t0]) (fun o => by simp [ozC, clL, AV.cl]) l).2
theorem oz_tl (n : Nat) (l : List OZ) : tlLL n (ozLL l) = true := rows_tl (fun o => by simp [ozC, tlL, AV.tl]) l
theorem oz_dat (L : List OZ) : datLL (ozLL L) = true := List.all_eq_true.2 fun c hc => by obtain ⟨o, _, rfl⟩ := List.mem_map.1 hc; rfl
theorem oz_len (L : List OZ) : (ozLL L).length = L.length := List.length_map ..
theorem oz_at {L : List OZ} {k : Nat} {x : OZ} (h : L[k]? = some x) : (ozLL L)[k]? = some (ozC x) ∧ ∀ hk, (ozLL L)[k]'hk = ozC x := map_at h
theorem oz_app (L : List OZ) (x : OZ) : ozLL L ++ [ozC x] = ozLL (L ++ [x]) := by unfold ozLL; rw [List.map_append]; rfl
theorem oz_apps (L M : List OZ) : ozLL L ++ ozLL M = ozLL (L ++ M) := by unfold ozLL; rw [List.map_append]
theorem oz_take (L : List OZ) (k : Nat) : (ozLL L).take k = ozLL (L.take k) := by unfold ozLL; rw [List.map_take]
theorem oz_set (L : List OZ) (k : Nat) (x : OZ) : (ozLL L).set k (ozC x) = ozLL (L.set k x) := by unfold ozLL; rw [List.map_set]
theorem oz_all (L : List OZ) : ((ozLL L).all fun c => c.all AV.plain) = true := List.all_eq_true.2 fun c hc => datL_plain (List.all_eq_true.1 (oz_dat L) c hc)
theorem oz_pl (L : List OZ) : ∀ c, c ∈ ozLL L → ∀ v, v ∈ c → AV.plain v = true := fun c hc => List.all_eq_true.1 (List.all_eq_true.1 (oz_all L) c hc)
theorem oz_plC (r : OZ) : (ozC r).all AV.plain = true := rfl

/-- What waits at a price. -/
structure LZ where
  p : Int
  l : Int
  o : Int
  deriving DecidableEq
def lzC (r : LZ) : List AV := [.int .i64 r.p, .int .i64 r.l, .int .i64 r.o]
def lzOf : List AV → Option LZ
  | [.int .i64 p, .int .i64 l, .int .i64 o] => some ⟨p, l, o⟩
  | _ => none
theorem lzOf_C (r : LZ) : lzOf (lzC r) = some r := rfl
theorem lzOf_ex {c : List AV} {r : LZ} (h : lzOf c = some r) : c = lzC r := by
  unfold lzOf at h
  split at h
  · injection h with h; subst h; rfl
  · cases h
def lzLL (l : List LZ) : List (List AV) := l.map lzC
theorem lz_map (l : List LZ) : List.map lzC l = lzLL l := rfl
theorem lz_t0 (l : List LZ) : t0LL (lzLL l) = lzLL l := (rows_all (fun o => by simp [lzC, t0L, AV.t0]) (fun o => by simp [lzC, clL, AV.cl]) l).1
theorem lz_cl (l : List LZ) : clLL (lzLL l) = true := (rows_all (fun o => by simp [lzC, t0L, AV.t0]) (fun o => by simp [lzC, clL, AV.cl]) l).2
theorem lz_tl (n : Nat) (l : List LZ) : tlLL n (lzLL l) = true := rows_tl (fun o => by simp [lzC, tlL, AV.tl]) l
theorem lz_dat (L : List LZ) : datLL (lzLL L) = true := List.all_eq_true.2 fun c hc => by obtain ⟨o, _, rfl⟩ := List.mem_map.1 hc; rfl
theorem lz_len (L : List LZ) : (lzLL L).length = L.length := List.length_map ..
theorem lz_at {L : List LZ} {k : Nat} {x : LZ} (h : L[k]? = some x) : (lzLL L)[k]? = some (lzC x) ∧ ∀ hk, (lzLL L)[k]'hk = lzC x := map_at h
theorem lz_app (L : List LZ) (x : LZ) : lzLL L ++ [lzC x] = lzLL (L ++ [x]) := by unfold lzLL; rw [List.map_append]; rfl
theorem lz_apps (L M : List LZ) : lzLL L ++ lzLL M = lzLL (L ++ M) := by unfold lzLL; rw [List.map_append]
theorem lz_take (L : List LZ) (k : Nat) : (lzLL L).take k = lzLL (L.take k) := by unfold lzLL; rw [List.map_take]
theorem lz_set (L : List LZ) (k : Nat) (x : LZ) : (lzLL L).set k (lzC x) = lzLL (L.set k x) := by unfold lzLL; rw [List.map_set]
theorem lz_all (L : List LZ) : ((lzLL L).all fun c => c.all AV.plain) = true := List.all_eq_true.2 fun c hc => datL_plain (List.all_eq_true.1 (lz_dat L) c hc)
theorem lz_pl (L : List LZ) : ∀ c, c ∈ lzLL L → ∀ v, v ∈ c → AV.plain v = true := fun c hc => List.all_eq_true.1 (List.all_eq_true.1 (lz_all L) c hc)
theorem lz_plC (r : LZ) : (lzC r).all AV.plain = true := rfl

/-- Who is to go: not of a name's side. -/
def prA (n s : Int) (o : OZ) : Bool := decide (o.n ≠ n ∨ o.s ≠ s)

/-- Who is to go: not a participant's. -/
def prB (a b part : Int) (o : OZ) : Bool := decide (ownZ a b o.c ≠ part)
def idxZ (x : Option Nat) : Int := match x with
  | some i => (i : Int)
  | none => -1
theorem find_at {f : OZ → Bool} {os : List OZ} {i : Nat} {x : OZ} (h : ∀ (j : Nat) (y : OZ), j < i → os[j]? = some y → f y = false) (hx : os[i]? = some x) (hi : f x = true) : os.findIdx? f = some i := by
  rw [List.findIdx?_eq_some_iff_getElem]
  obtain ⟨h1, h2⟩ := List.getElem?_eq_some_iff.1 hx
  refine ⟨h1, by rw [h2]; exact hi, fun j hj => ?_⟩
  rw [h j _ hj (List.getElem?_eq_getElem (by omega))]; simp
theorem find_none {f : OZ → Bool} {os : List OZ} (h : ∀ (j : Nat) (y : OZ), j < os.length → os[j]? = some y → f y = false) : os.findIdx? f = none := by
  rw [List.findIdx?_eq_none_iff]
  intro y hy
  obtain ⟨j, hj⟩ := List.getElem?_of_mem hy
  exact h j y (List.getElem?_eq_some_iff.1 hj).1 hj
/-- What stays. -/
def keepZ (f : OZ → Bool) (os : List OZ) : List OZ := os.filter fun o => !f o
theorem keep_len (f : OZ → Bool) (os : List OZ) : (keepZ f os).length ≤ os.length := List.length_filter_le ..
theorem keep_none {f : OZ → Bool} {os : List OZ} (h : os.findIdx? f = none) : keepZ f os = os := by
  rw [List.findIdx?_eq_none_iff] at h
  exact List.filter_eq_self.2 fun x hx => by rw [h x hx]; rfl
theorem keep_take {f : OZ → Bool} {os : List OZ} {i : Nat} (h : os.findIdx? f = some i) : keepZ f (os.take (i + 1)) = os.take i := by
  rw [List.findIdx?_eq_some_iff_getElem] at h
  obtain ⟨h1, h2, h3⟩ := h
  have e : os.take (i + 1) = os.take i ++ [os[i]] := take_snoc (List.getElem?_eq_getElem h1)
  unfold keepZ
  rw [e, List.filter_append]
  have e1 : (os.take i).filter (fun o => !f o) = os.take i := List.filter_eq_self.2 fun x hx => by
    obtain ⟨j, hj⟩ := List.getElem?_of_mem hx
    rw [List.getElem?_take] at hj
    split at hj
    · rename_i hlt
      have := h3 j hlt
      obtain ⟨q1, q2⟩ := List.getElem?_eq_some_iff.1 hj
      rw [q2] at this
      simpa using this
    · cases hj
  rw [e1]
  simp [h2]
theorem keep_snoc {f : OZ → Bool} {os : List OZ} {k : Nat} {x : OZ} (h : os[k]? = some x) : keepZ f (os.take (k + 1)) = if f x = true then keepZ f (os.take k) else keepZ f (os.take k) ++ [x] := by
  rw [take_snoc h]
  unfold keepZ
  rw [List.filter_append]
  by_cases hf : f x = true
  · rw [if_pos hf]; simp [hf]
  · rw [if_neg hf]; simp [hf]
end Go.W
set_option linter.unusedSimpArgs false
set_option linter.unusedVariables false
namespace Go.W
open Go.ChangeShapes Go.WideShapes Go.ChangeAt Go.RowKit Go.Joins Go.Deep

/-- What stands in a cell: true: a truth; false: an integer. -/
def leafV (k : Bool) (a : AV) (v : Value) : Prop := if k = true then ∃ b, a = .bool b ∧ v = .bool b else ∃ n, a = .int .i64 n ∧ v = .int .i64 n ∧ -9223372036854775808 ≤ n ∧ n ≤ 9223372036854775807

def flatBs (P : Program) (fl : TypeId → Option (List Bool)) : List Field → Nat → Option (List Bool)
  | [], _ => some []
  | f :: r, off => match fl f.type with
    | some ks => if f.offset = off ∧ P.cellsOf f.type = ks.length then (match flatBs P fl r (off + ks.length) with
      | some rs => some (ks ++ rs)
      | none => none) else none
    | none => none

/-- A type's cells, if all are integers or truths. -/
def flatB (P : Program) : Nat → TypeId → Option (List Bool)
  | 0, _ => none
  | d + 1, t => match P.underlying t with
    | some (.int .i64) => some [false]
    | some .bool => some [true]
    | some (.struct fs) => match flatBs P (flatB P d) fs.toList 0 with
      | some ks => if P.cellsOf t = ks.length then some ks else none
      | none => none
    | _ => none

section
variable {H : Type} {enc : TypeId × Value → H} {P : Program} {w : World} {base : Nat} {spare : Nat → Bool} {held : Bool}

theorem flatBs_leaf {fl : TypeId → Option (List Bool)} (hfl : ∀ (t : TypeId) (ks : List Bool) (fuel : Nat) (cs : List Value) (x : DataW H × List MemPlace), fl t = some ks → DataW.trod enc P w base spare held fuel t cs = some x → cs.length = ks.length ∧ ∀ (j : Nat) (k : Bool), ks[j]? = some k → ∃ a v, cs[j]? = some v ∧ leafV k a v) {cs : List Value} :
    ∀ (l : List Field) (off : Nat) (ks : List Bool), flatBs P fl l off = some ks → (∀ f, f ∈ l → ∃ fuel x, DataW.trod enc P w base spare held fuel f.type ((cs.drop f.offset).take (P.cellsOf f.type)) = some x) → ∀ (j : Nat) (k : Bool), ks[j]? = some k → ∃ a v, cs[off + j]? = some v ∧ leafV k a v
  | [], off, ks, h, _ => by
    simp only [flatBs, Option.some.injEq] at h
    subst h
    intro j k hk
    simp at hk
  | f :: r, off, ks, h, hx => by
    simp only [flatBs] at h
    split at h
    · rename_i k0 hk0
      split at h
      · rename_i hc
        split at h
        · rename_i rs hrs
          simp only [Option.some.injEq] at h
          subst h
          have h2 := flatBs_leaf hfl r (off + k0.length) rs hrs fun g hg => hx g (List.mem_cons_of_mem _ hg)
          obtain ⟨fuel, x, h3⟩ := hx f List.mem_cons_self
          rw [hc.1, hc.2] at h3
          obtain ⟨h4, h5⟩ := hfl _ _ _ _ _ hk0 h3
          intro j k hk
          by_cases hj : j < k0.length
          · rw [List.getElem?_append_left hj] at hk
            obtain ⟨a, v, e1, e2⟩ := h5 j k hk
            rw [List.getElem?_take, if_pos hj, List.getElem?_drop] at e1
            exact ⟨a, v, e1, e2⟩
          · rw [List.getElem?_append_right (by omega)] at hk
            obtain ⟨a, v, e1, e2⟩ := h2 _ k hk
            rw [show off + k0.length + (j - k0.length) = off + j from by omega] at e1
            exact ⟨a, v, e1, e2⟩
        · cases h
      · cases h
    · cases h

theorem flatB_leaf : ∀ (dp : Nat) (t : TypeId) (ks : List Bool) (fuel : Nat) (cs : List Value) (x : DataW H × List MemPlace), flatB P dp t = some ks → DataW.trod enc P w base spare held fuel t cs = some x → cs.length = ks.length ∧ ∀ (j : Nat) (k : Bool), ks[j]? = some k → ∃ a v, cs[j]? = some v ∧ leafV k a v
  | 0, t, ks, fuel, cs, x, h, _ => by simp [flatB] at h
  | d + 1, t, ks, fuel, cs, x, h, hx => by
    unfold flatB at h
    split at h
    · rename_i hu
      simp only [Option.some.injEq] at h
      subst h
      obtain ⟨n, rfl, _, hwf⟩ := DataW.trod_int hu hx
      have hr : -9223372036854775808 ≤ n ∧ n ≤ 9223372036854775807 := by simpa [Lit.wf, IntKind.min, IntKind.max, IntKind.bits, IntKind.signed] using hwf
      refine ⟨rfl, fun j k hk => ?_⟩
      cases j with
      | zero => simp at hk; subst hk; exact ⟨.int .i64 n, .int .i64 n, rfl, by rw [leafV, if_neg (by simp)]; exact ⟨n, rfl, rfl, hr⟩⟩
      | succ j => simp at hk
    · rename_i hu
      simp only [Option.some.injEq] at h
      subst h
      obtain ⟨b, rfl, _⟩ := DataW.trod_bool hu hx
      refine ⟨rfl, fun j k hk => ?_⟩
      cases j with
      | zero => simp at hk; subst hk; exact ⟨.bool b, .bool b, rfl, by rw [leafV, if_pos rfl]; exact ⟨b, rfl, rfl⟩⟩
      | succ j => simp at hk
    · rename_i fs hu
      split at h
      · rename_i ks' hm
        split at h
        · rename_i hc
          simp only [Option.some.injEq] at h
          subst h
          obtain ⟨xs, n, _, _, hl, hxl, hf⟩ := DataW.trod_struct hu hx
          have := flatBs_leaf (fun t k fuel cs x => flatB_leaf d t k fuel cs x) fs.toList 0 ks' hm fun f hfm => by
            obtain ⟨i, hi⟩ := List.getElem?_of_mem hfm
            have hi' : fs[i]? = some f := by rw [← Array.getElem?_toList]; exact hi
            have h1 := hf i f hi'
            have hlt : i < xs.length := by rw [hxl]; exact (Array.getElem?_eq_some_iff.1 hi').1
            rw [List.getElem?_eq_getElem hlt] at h1
            exact ⟨n, _, h1⟩
          exact ⟨by rw [hl, hc], fun j k hk => by have := this j k hk; rwa [Nat.zero_add] at this⟩
        · cases h
      · cases h
    · cases h

end

/-- A row of such cells. -/
def rowK (ks : List Bool) (c : List AV) : Prop := c.length = ks.length ∧ ∀ (j : Nat) (k : Bool), ks[j]? = some k → ∃ a v, c[j]? = some a ∧ leafV k a v

theorem rowK_dat {ks : List Bool} {c : List AV} (h : rowK ks c) : datL c = true := by
  refine List.all_eq_true.2 fun a ha => ?_
  obtain ⟨j, hj⟩ := List.getElem?_of_mem ha
  have hlt : j < ks.length := by rw [← h.1]; exact (List.getElem?_eq_some_iff.1 hj).1
  obtain ⟨a', v, h1, h2⟩ := h.2 j _ (List.getElem?_eq_getElem hlt)
  rw [hj] at h1
  simp only [Option.some.injEq] at h1
  subst h1
  unfold leafV at h2
  split at h2
  · obtain ⟨b, rfl, _⟩ := h2; rfl
  · obtain ⟨n, rfl, _⟩ := h2; rfl

theorem leaf_rep {ρ : Env} {k : Bool} {a : AV} {v : Value} (h : leafV k a v) : Rep ρ a v := by
  unfold leafV at h
  split at h
  · obtain ⟨b, rfl, rfl⟩ := h; simp [Rep]
  · obtain ⟨n, rfl, rfl, _⟩ := h; simp [Rep]

/-- A slice of such structs that came. -/
theorem open_kinds {H : Type} {enc : TypeId × Value → H} {P : Program} {w : World} {base b0 : Nat} {r : Reach} {t e : TypeId} {v : Value} {d : DataW H} {p : List MemPlace} (ht : P.underlying t = some (.slice e)) {ks : List Bool} {z : Nat} (hfl : flatB P 6 e = some ks) (hz : ks.length = z) (hz0 : 0 < z) (hce : P.cellsOf e = z) (hv : Value.okWide P w r b0 t v) (h : DataW.Trod enc P w base (fun _ => true) true t v d p) :
    ∃ (els : List (List AV)) (L : Loc), (∀ c, c ∈ els → rowK ks c) ∧ (∀ ρ nm, ObjOk ρ L (flO nm (.view 0 z els)) w) ∧ (L.nil = false → L.blk < w.heap.size) ∧ (∀ (ρ : Env) nm, ρ nm = L → Rep ρ (.sl nm 0 els.length) v) := by
  obtain ⟨q, len0, cap0, rfl⟩ := okWide_slice ht hv
  obtain ⟨fuel, hf⟩ := h
  have hcs : (Value.slice q len0 cap0).cells.toList = [.slice q len0 cap0] := rfl
  rw [hcs] at hf
  have nilcase : ∀ (c : Option Addr), ∃ (els : List (List AV)) (L : Loc), (∀ c, c ∈ els → rowK ks c) ∧ (∀ ρ nm, ObjOk ρ L (flO nm (.view 0 z els)) w) ∧ (L.nil = false → L.blk < w.heap.size) ∧ (∀ (ρ : Env) nm, ρ nm = L → Rep ρ (.sl nm 0 els.length) (.slice c 0 0)) := fun c =>
    ⟨[], nilLoc, fun c hc => by simp at hc, fun ρ nm => .inl ⟨rfl, rfl⟩, (fun h => by simp [nilLoc] at h), (fun ρ nm hρ => by
      rw [Rep]
      exact .inl ⟨by rw [hρ]; rfl, rfl, rfl, c, rfl⟩)⟩
  rcases open_slice ht hf with ⟨h0, _⟩ | ⟨a, len, cap, m, n, D, Pl, h0, hb, hl, hm, hmm, _, hx⟩
  · simp only [List.cons.injEq, and_true] at h0
    rw [h0]
    exact nilcase none
  · simp only [List.cons.injEq, and_true] at h0
    rw [h0]
    simp only [if_true] at hmm
    subst hmm
    by_cases hc0 : m = 0
    · subst hc0
      have : len = 0 := by omega
      subst this
      exact nilcase (some a)
    · rw [hce] at hx
      have cell : ∀ i, i < m → ∃ f : Nat → AV, ∀ j, j < z → ∃ k v, ks[j]? = some k ∧ w.cell? (a.add (i * z + j)) = some v ∧ leafV k (f j) v := fun i hi => by
        obtain ⟨cs', g1, g2⟩ := hx i hi
        obtain ⟨_, g3, g4⟩ := World.cells?_some g1
        obtain ⟨_, g6⟩ := flatB_leaf 6 e ks n cs' _ hfl g2
        refine choose_lt (α := AV) (n := z) (p := fun j a' => ∃ k v, ks[j]? = some k ∧ w.cell? (a.add (i * z + j)) = some v ∧ leafV k a' v) fun j hj => ?_
        have hk := List.getElem?_eq_getElem (l := ks) (show j < ks.length by omega)
        obtain ⟨a', v, e1, e2⟩ := g6 j _ hk
        have := g4 j hj
        rw [add_add, e1] at this
        exact ⟨a', _, v, hk, this, e2⟩
      obtain ⟨F, hF⟩ := choose_lt (α := Nat → AV) (n := m) (p := fun i f => ∀ j, j < z → ∃ k v, ks[j]? = some k ∧ w.cell? (a.add (i * z + j)) = some v ∧ leafV k (f j) v) cell
      obtain ⟨k00, u0, _, hu0, _⟩ := hF 0 (by omega) 0 hz0
      rw [Nat.zero_mul, Nat.zero_add] at hu0
      have ha0 : a.add 0 = a := by simp [Addr.add]
      rw [ha0] at hu0
      have hsp : a.spot = none := by
        unfold World.cell? at hu0
        split at hu0
        · split at hu0
          · cases hu0
          · rename_i hs
            cases hsp : a.spot with
            | none => rfl
            | some s => rw [hsp] at hs; simp at hs
        · cases hu0
      obtain ⟨blk, off, spt⟩ := a
      simp only at hsp
      subst hsp
      have hblk := World.block_lt_of_cell? w _ hu0
      have hrow : ∀ i, i < m → rowK ks ((List.range z).map (F i)) := fun i hi => ⟨by rw [List.length_map, List.length_range, hz], fun j k hk => by
        have hj : j < z := by rw [← hz]; exact (List.getElem?_eq_some_iff.1 hk).1
        obtain ⟨k', v, e1, e2, e3⟩ := hF i hi j hj
        rw [hk] at e1
        simp only [Option.some.injEq] at e1
        subst e1
        exact ⟨F i j, v, by rw [List.getElem?_map, List.getElem?_range hj]; rfl, e3⟩⟩
      refine ⟨(List.range len).map fun i => (List.range z).map (F i), ⟨blk, off, z, m, false⟩, fun c hc => ?_, fun ρ nm => ?_, fun _ => hblk, fun ρ nm hρ => ?_⟩
      · obtain ⟨i, hi, rfl⟩ := List.mem_map.1 hc
        exact hrow i (by have := List.mem_range.1 hi; omega)
      · refine .inr ⟨rfl, rfl, by rw [List.length_map, List.length_range]; exact hl, fun i hi => ?_, fun i hi j v hv => ?_⟩
        · simp only [List.length_map, List.length_range] at hi
          rw [flC_length, List.getD_eq_getElem?_getD, List.getElem?_map, List.getElem?_range hi]
          show ((List.range z).map (F i)).length = z
          rw [List.length_map, List.length_range]
        · simp only [List.length_map, List.length_range] at hi
          have e1 : ((List.range len).map fun i => (List.range z).map (F i)).getD i [] = (List.range z).map (F i) := by
            rw [List.getD_eq_getElem?_getD, List.getElem?_map, List.getElem?_range hi]; rfl
          rw [e1, flC_plain (datL_plain (rowK_dat (hrow i (by omega)))), List.getElem?_map] at hv
          by_cases hj : j < z
          · rw [List.getElem?_range hj] at hv
            simp only [Option.map_some, Option.some.injEq] at hv
            subst hv
            obtain ⟨k, u, _, e3, e4⟩ := hF i (by omega) j hj
            refine ⟨u, ?_, leaf_rep e4, ?_⟩
            · rw [← e3]
              congr 1
              unfold Addr.add
              split
              · rename_i h0; simp [h0]
              · rfl
            · unfold leafV at e4
              split at e4
              · obtain ⟨b, _, hn⟩ := e4; rw [hn]; rfl
              · obtain ⟨n, _, hn, _⟩ := e4; rw [hn]; rfl
          · rw [List.getElem?_eq_none (by rw [List.length_range]; omega)] at hv
            simp only [Option.map_none, reduceCtorEq] at hv
      · rw [Rep, List.length_map, List.length_range]
        refine .inr ⟨by rw [hρ], by rw [hρ, Nat.zero_add]; exact hl, off, by rw [hρ]; rfl, fun _ => by rw [hρ]; simp⟩

/-- From a specification to a statement's call: some slices. -/
theorem rd_boolK {P : Program} {f : FuncId} {d : List AV → List NObj → Option AV} {ok : ROk d} (hs : Sound P f (rdS d ok)) {W : World} {hl : HL} {m : Nat} {Ls : Nat → Loc}
    (hv : ∀ k, k < m → ∃ sz els, hk hl k = .view 0 sz els ∧ (∀ c, c ∈ els → datL c = true) ∧ (∀ ρ, ObjOk ρ (Ls k) (flO (.top k) (.view 0 sz els)) W) ∧ ((Ls k).nil = false → (Ls k).blk < W.heap.size)) (hf : ∀ k, m ≤ k → hk hl k = .free)
    {avs : List AV} {vs : List Value} {b : Bool} {rd : List Nat} (h : rdF d avs (hk hl) m = some ⟨.bool b, [], rd⟩) (hrep : ∀ ρ : Env, (∀ k, k < m → ρ (.top k) = Ls k) → RepL ρ avs vs) :
    Calls P f vs.toArray W fun e W' => e = .returned (.bool b) ∧ Below W.heap.size W W' := by
  have hcase : ∀ x : Nm, (∃ k, k < m ∧ x = .top k) ∨ getP (hk hl) x = .free := fun x => by
    by_cases hr : x.root < m
    · obtain ⟨sz, els, h1, h2, _⟩ := hv x.root hr
      by_cases hx : x = .top x.root
      · exact .inl ⟨x.root, hr, hx⟩
      · exact .inr (below_none (n := x.root) (fun t j f => by
          rw [h1]
          exact view_kid (sz := sz) (w := els) (fun j c hc => datL_plain (h2 c (List.mem_of_getElem? hc))) t j f) rfl hx)
    · exact .inr (getP_free (n := x.root) (hf _ (by omega)) rfl)
  have h0 : ∀ k, k < m → ∃ sz els, hk hl k = .view 0 sz els ∧ HF (hk hl) (.top k) = flO (.top k) (.view 0 sz els) ∧ (∀ ρ, ObjOk ρ (Ls k) (flO (.top k) (.view 0 sz els)) W) ∧ ((Ls k).nil = false → (Ls k).blk < W.heap.size) := fun k hk0 => by
    obtain ⟨sz, els, h1, _, h2, h3⟩ := hv k hk0
    refine ⟨sz, els, h1, ?_, h2, h3⟩
    unfold HF
    rw [getP, h1]
  have := hs.calls W noSc (fun ρ => ∀ k, k < m → ρ (.top k) = Ls k) (fun x => m ≤ x.mx) (hk hl) W avs vs m _ ⟨fun x => Ls x.root, fun k _ => rfl⟩ (fun ρ ρ' hρ he k hk0 => by rw [he (.top k) (by simp [Nm.mx]; omega)]; exact hρ k hk0) (fun x hx => by
      rcases hcase x with ⟨k, hk0, rfl⟩ | e
      · simp only [Nm.mx] at hx; omega
      · exact HF_free.2 e) (fun ρ ρ' h1 h2 x hx => by
      rcases hcase x with ⟨k, hk0, rfl⟩ | e
      · rw [h1 k hk0, h2 k hk0]
      · exact absurd (HF_free.2 e) hx)
    (fun ρ hρ => ⟨rfl, rfl, rfl, Nat.le_refl _, fun _ _ _ => rfl, fun x => by
        rcases hcase x with ⟨k, hk0, rfl⟩ | e
        · obtain ⟨sz, els, g1, g2, g3, g4⟩ := h0 k hk0
          rw [g2, hρ k hk0]; exact g3 ρ
        · rw [HF_free.2 e]; trivial, fun x hx => by
        rcases hcase x with ⟨k, hk0, rfl⟩ | e
        · obtain ⟨sz, els, g1, g2, g3, g4⟩ := h0 k hk0
          rw [g2] at hx; exact hx.elim
        · rw [HF_free.2 e] at hx; exact hx.elim, fun x y hx => by
        rcases hcase x with ⟨k, hk0, rfl⟩ | e
        · obtain ⟨sz, els, g1, g2, g3, g4⟩ := h0 k hk0
          rw [g2] at hx; exact hx.elim
        · rw [HF_free.2 e] at hx; exact hx.elim, fun x hx => by
        rcases hcase x with ⟨k, hk0, rfl⟩ | e
        · obtain ⟨sz, els, g1, g2, g3, g4⟩ := h0 k hk0
          rw [g2, hρ k hk0] at hx
          rw [hρ k hk0]
          exact ⟨g4 hx, fun h => h⟩
        · rw [HF_free.2 e] at hx; exact hx.elim, fun x hx => absurd hx (Nat.not_lt_zero x)⟩) (fun ρ hρ => hrep ρ hρ) h (fun x hx => hx.1)
  refine this.mono fun e W' ⟨v, g, he, hv'⟩ => ?_
  obtain ⟨q1, q2⟩ := hv' (fun x => if m ≤ x.mx then g x else Ls x.root) (fun k hk0 => by rw [if_neg (by simp only [Nm.mx]; omega)]; rfl) (fun x hx => by simp [hx.1])
  simp only [Rep] at q1
  subst q1
  exact ⟨he, q2.below⟩

end Go.W
namespace Go.W
open Go.Proofs
set_option linter.unusedSimpArgs false
set_option linter.unusedVariables false
set_option maxHeartbeats 8000000
attribute [local irreducible] Wm
attribute [local simp] nmap lkp mkPl prs prsL prT ddL idL CRenL CRen Ren RenL NObj.none CRenLL

theorem rowK_oz {c : List AV} (h : rowK [false, false, false, false, false, false, false] c) : ∃ e, ozOf c = some e := by
  obtain ⟨hl, hc⟩ := h
  match c, hl with
  | [c0, c1, c2, c3, c4, c5, c6], _ =>
    obtain ⟨_, _, e1, e2⟩ := hc 0 false rfl
    simp only [leafV, Bool.false_eq_true, if_false, List.getElem?_cons_succ, List.getElem?_cons_zero, Option.some.injEq] at e1 e2
    subst e1
    obtain ⟨v0, rfl, _, _⟩ := e2
    obtain ⟨_, _, e1, e2⟩ := hc 1 false rfl
    simp only [leafV, Bool.false_eq_true, if_false, List.getElem?_cons_succ, List.getElem?_cons_zero, Option.some.injEq] at e1 e2
    subst e1
    obtain ⟨v1, rfl, _, _⟩ := e2
    obtain ⟨_, _, e1, e2⟩ := hc 2 false rfl
    simp only [leafV, Bool.false_eq_true, if_false, List.getElem?_cons_succ, List.getElem?_cons_zero, Option.some.injEq] at e1 e2
    subst e1
    obtain ⟨v2, rfl, _, _⟩ := e2
    obtain ⟨_, _, e1, e2⟩ := hc 3 false rfl
    simp only [leafV, Bool.false_eq_true, if_false, List.getElem?_cons_succ, List.getElem?_cons_zero, Option.some.injEq] at e1 e2
    subst e1
    obtain ⟨v3, rfl, _, _⟩ := e2
    obtain ⟨_, _, e1, e2⟩ := hc 4 false rfl
    simp only [leafV, Bool.false_eq_true, if_false, List.getElem?_cons_succ, List.getElem?_cons_zero, Option.some.injEq] at e1 e2
    subst e1
    obtain ⟨v4, rfl, _, _⟩ := e2
    obtain ⟨_, _, e1, e2⟩ := hc 5 false rfl
    simp only [leafV, Bool.false_eq_true, if_false, List.getElem?_cons_succ, List.getElem?_cons_zero, Option.some.injEq] at e1 e2
    subst e1
    obtain ⟨v5, rfl, _, _⟩ := e2
    obtain ⟨_, _, e1, e2⟩ := hc 6 false rfl
    simp only [leafV, Bool.false_eq_true, if_false, List.getElem?_cons_succ, List.getElem?_cons_zero, Option.some.injEq] at e1 e2
    subst e1
    obtain ⟨v6, rfl, _, _⟩ := e2
    exact ⟨_, rfl⟩
theorem oz_ev : ∀ {els : List (List AV)}, (∀ c, c ∈ els → rowK [false, false, false, false, false, false, false] c) → ∃ L, mapV ozOf els = some L
  | [], _ => ⟨[], rfl⟩
  | r :: l, h => by
    obtain ⟨e, he⟩ := rowK_oz (h r (List.mem_cons_self ..))
    obtain ⟨L, hL⟩ := oz_ev fun c hc => h c (List.mem_cons_of_mem _ hc)
    exact ⟨e :: L, by simp only [mapV, he, hL]⟩
open Go.ChangeShapes Go.WideShapes Go.ChangeAt Go.RowKit Go.Joins Go.Deep
def intOf : Value → Int
  | .int _ n => n
  | _ => 0
/-- A struct of integers, at any depth, by value. -/
theorem open_flat {H : Type} {enc : TypeId × Value → H} {P : Program} {w : World} {base : Nat} {spare : Nat → Bool} {held : Bool} {r : Reach} {b0 : Nat} {t : TypeId} {fs : Array Field} {v : Value} {d : DataW H} {p : List MemPlace} (hs : P.underlying t = some (.struct fs)) {m : Nat} (hfl : flatB P 6 t = some (List.replicate m false)) (hv : Value.okWide P w r b0 t v) (h : DataW.Trod enc P w base spare held t v d p) :
    ∃ ns : List Int, v = .agg (ns.map (Value.int .i64)).toArray ∧ ns.length = m := by
  obtain ⟨cs, rfl, hsz⟩ := okWide_struct hs hv
  obtain ⟨fuel, hf⟩ := h
  obtain ⟨g1, g2⟩ := flatB_leaf 6 t _ fuel _ _ hfl hf
  rw [List.length_replicate] at g1
  have hc : (Value.agg cs).cells.toList = cs.toList := rfl
  rw [hc] at g1 g2
  have e : (cs.toList.map intOf).map (Value.int .i64) = cs.toList := by
    apply List.ext_getElem?
    intro j
    by_cases hj : j < m
    · obtain ⟨a, v, e1, e2⟩ := g2 j false (by rw [List.getElem?_replicate, if_pos hj])
      simp only [leafV, Bool.false_eq_true, if_false] at e2
      obtain ⟨n, _, rfl, _⟩ := e2
      rw [List.getElem?_map, List.getElem?_map, e1]; rfl
    · rw [List.getElem?_eq_none (by simp only [List.length_map]; omega), List.getElem?_eq_none (by omega)]
  exact ⟨cs.toList.map intOf, by rw [e], by rw [List.length_map]; exact g1⟩
end Go.W
