/- slices.SortFunc keeps its specification, by the library's contract. -/
import Derived.Test.YtfkdcpgphindiaaBbC
import Derived.Test.YtfkdcpgphindiaaWMb
import Derived.Test.YtfkdcpgphindiaaBcT
import Derived.Shelf.SlSortCmp.InsertionK
import Derived.Shelf.SlSortCmp.Xorshift
import Derived.WalkKit
import Derived.Test.YtfkdcpgphindiaaWRm
import Derived.Shelf.SlSortCmp.WholeK
namespace Go.W
open Go.Proofs
set_option linter.unusedSimpArgs false
set_option linter.unusedVariables false
set_option maxHeartbeats 8000000
attribute [local irreducible] Wm
attribute [local simp] nmap lkp mkPl prs prsL prT ddL idL CRenL CRen Ren RenL NObj.none CRenLL

def addL (p : Int) (x : LZ) (o : OZ) : LZ := if o.p = p then ⟨p, x.l + o.q, x.o + 1⟩ else x
/-- What waits at a price. -/
def atZ (p : Int) (os : List OZ) : LZ := os.foldl (addL p) ⟨p, 0, 0⟩
theorem at_snoc (p : Int) (os : List OZ) (o : OZ) : atZ p (os ++ [o]) = addL p (atZ p os) o := by unfold atZ; rw [List.foldl_append]; rfl
theorem snoc_ind {α : Type} {m : List α → Prop} (h0 : m []) (h1 : ∀ l x, m l → m (l ++ [x])) (l : List α) : m l := by
  have : ∀ n (l : List α), l.length = n → m l := by
    intro n
    induction n with
    | zero => intro l hl; rw [List.length_eq_zero_iff.1 hl]; exact h0
    | succ n ih =>
      intro l hl
      have hne : l ≠ [] := fun e => by rw [e] at hl; cases hl
      rw [← List.dropLast_concat_getLast hne]
      exact h1 _ _ (ih _ (by rw [List.length_dropLast]; omega))
  exact this _ l rfl
theorem at_p (p : Int) (os : List OZ) : (atZ p os).p = p := by
  refine snoc_ind (m := fun os => (atZ p os).p = p) rfl (fun l x h => ?_) os
  rw [at_snoc]; unfold addL; split
  · rfl
  · exact h
theorem at_o (p : Int) (os : List OZ) : 0 ≤ (atZ p os).o ∧ (atZ p os).o ≤ os.length ∧ (0 < (atZ p os).o ↔ ∃ o ∈ os, o.p = p) := by
  refine snoc_ind (m := fun os => 0 ≤ (atZ p os).o ∧ (atZ p os).o ≤ os.length ∧ (0 < (atZ p os).o ↔ ∃ o ∈ os, o.p = p)) ?_ (fun l x h => ?_) os
  · simp [atZ]
  · obtain ⟨h1, h2, h3⟩ := h
    rw [at_snoc]; unfold addL
    by_cases e : x.p = p
    · rw [if_pos e]
      refine ⟨by simp only; omega, by simp only [List.length_append, List.length_singleton]; omega, ⟨fun _ => ⟨x, by simp, e⟩, fun _ => by simp only; omega⟩⟩
    · rw [if_neg e]
      refine ⟨h1, by simp only [List.length_append, List.length_singleton]; omega, h3.trans ⟨fun ⟨o, a, b⟩ => ⟨o, List.mem_append_left _ a, b⟩, fun ⟨o, a, b⟩ => ?_⟩⟩
      rcases List.mem_append.1 a with a | a
      · exact ⟨o, a, b⟩
      · rw [List.mem_singleton.1 a] at b; exact absurd b e
theorem at_l (p : Int) {os : List OZ} (h : ∀ o ∈ os, 0 ≤ o.q ∧ o.q ≤ 9999) : 0 ≤ (atZ p os).l ∧ (atZ p os).l ≤ 9999 * os.length := by
  revert h
  refine snoc_ind (m := fun os => (∀ o ∈ os, 0 ≤ o.q ∧ o.q ≤ 9999) → 0 ≤ (atZ p os).l ∧ (atZ p os).l ≤ 9999 * os.length) (fun _ => by simp [atZ]) (fun l x ih h => ?_) os
  have h1 := ih fun o ho => h o (List.mem_append_left _ ho)
  have h2 := h x (by simp)
  rw [at_snoc]; unfold addL
  simp only [List.length_append, List.length_singleton]
  split
  · constructor
    · simp only; omega
    · simp only; omega
  · constructor
    · exact h1.1
    · omega

/-! ### the map -/
def lzV (x : LZ) : AV := .agg (lzC x)
theorem lzV_inj {x y : LZ} (h : lzV x = lzV y) : x = y := by
  cases x; cases y
  simp only [lzV, lzC, AV.agg.injEq, List.cons.injEq, AV.int.injEq, true_and, and_true] at h
  obtain ⟨h1, h2, h3⟩ := h
  subst h1 h2 h3; rfl
theorem find_put (n p : Int) (v : AV) : ∀ M : List (Int × AV), findE (putE M n v) p = if p = n then some v else findE M p
  | [] => by simp only [putE, findE]
  | (k, u) :: r => by
    simp only [putE]
    by_cases e : n = k
    · subst e
      rw [if_pos rfl]
      simp only [findE]
      split <;> rfl
    · rw [if_neg e]
      simp only [findE]
      rw [find_put n p v r]
      by_cases e2 : p = k
      · subst e2
        rw [if_pos rfl, if_pos rfl, if_neg (fun x => e x.symm)]
      · rw [if_neg e2, if_neg e2]
theorem put_keys (n : Int) (v : AV) : ∀ M : List (Int × AV), (∀ k, k ∈ (putE M n v).map Prod.fst ↔ k = n ∨ k ∈ M.map Prod.fst) ∧ ((M.map Prod.fst).Nodup → ((putE M n v).map Prod.fst).Nodup)
  | [] => by simp [putE]
  | (k, u) :: r => by
    obtain ⟨a, b⟩ := put_keys n v r
    simp only [putE]
    by_cases e : n = k
    · subst e
      rw [if_pos rfl]
      simp only [List.map_cons]
      refine ⟨fun q => by simp, id⟩
    · rw [if_neg e]
      simp only [List.map_cons, List.nodup_cons, List.mem_cons]
      refine ⟨fun q => ?_, fun ⟨h1, h2⟩ => ⟨fun h => ?_, b h2⟩⟩
      · rw [a q]; constructor
        · rintro (h | h | h)
          · exact .inr (.inl h)
          · exact .inl h
          · exact .inr (.inr h)
        · rintro (h | h | h)
          · exact .inr (.inl h)
          · exact .inl h
          · exact .inr (.inr h)
      · rcases (a k).1 h with h | h
        · exact e h.symm
        · exact h1 h
theorem find_mem {p : Int} {v : AV} : ∀ {M : List (Int × AV)}, findE M p = some v → ∃ j : Nat, M[j]? = some (p, v)
  | [], h => by cases h
  | (k, u) :: r, h => by
    simp only [findE] at h
    split at h
    · rename_i e
      injection h with h
      exact ⟨0, by rw [e, h]; rfl⟩
    · obtain ⟨j, hj⟩ := find_mem h
      exact ⟨j + 1, hj⟩
theorem mem_find {p : Int} {v : AV} : ∀ {M : List (Int × AV)} {j : Nat}, (M.map Prod.fst).Nodup → M[j]? = some (p, v) → findE M p = some v
  | [], j, _, h => by simp at h
  | (k, u) :: r, j, hn, h => by
    simp only [List.map_cons, List.nodup_cons] at hn
    simp only [findE]
    cases j with
    | zero =>
      simp only [List.getElem?_cons_zero, Option.some.injEq, Prod.mk.injEq] at h
      rw [if_pos h.1.symm, h.2]
    | succ j =>
      rw [List.getElem?_cons_succ] at h
      have hm : p ∈ r.map Prod.fst := List.mem_map.2 ⟨(p, v), List.mem_of_getElem? h, rfl⟩
      rw [if_neg (fun e => hn.1 (by rw [← e]; exact hm))]
      exact mem_find hn.2 h
/-- What the map holds behind so many orders. -/
def EntR (os : List OZ) (M : List (Int × AV)) : Prop := (M.map Prod.fst).Nodup ∧ ∀ p, findE M p = if 0 < (atZ p os).o then some (lzV (atZ p os)) else none
theorem ent_0 : EntR [] [] := ⟨List.nodup_nil, fun p => by simp [findE, atZ]⟩
theorem ent_look {os : List OZ} {M : List (Int × AV)} (h : EntR os M) (p : Int) : lkV false (.agg [.int .i64 0, .int .i64 0, .int .i64 0]) (findE M p) = .agg [.int .i64 (if 0 < (atZ p os).o then p else 0), .int .i64 (atZ p os).l, .int .i64 (atZ p os).o] := by
  rw [h.2 p]
  split
  · simp only [lkV, Bool.false_eq_true, if_false, lzV, lzC, at_p]
  · rename_i hn
    have h1 := (at_o p os)
    have h2 : atZ p os = ⟨p, 0, 0⟩ := by
      have : ∀ os : List OZ, (¬ 0 < (atZ p os).o) → atZ p os = ⟨p, 0, 0⟩ := by
        refine snoc_ind (fun _ => rfl) (fun l x ih hx => ?_)
        rw [at_snoc] at hx ⊢
        unfold addL at hx ⊢
        have := (at_o p l).1
        by_cases e : x.p = p
        · rw [if_pos e] at hx; simp only at hx; omega
        · rw [if_neg e] at hx ⊢; exact ih hx
      exact this os hn
    rw [h2]; simp [lkV]
theorem ent_next {os : List OZ} {M : List (Int × AV)} (h : EntR os M) (o : OZ) : EntR (os ++ [o]) (putE M o.p (lzV ⟨o.p, (atZ o.p os).l + o.q, (atZ o.p os).o + 1⟩)) := by
  refine ⟨(put_keys _ _ M).2 h.1, fun p => ?_⟩
  rw [find_put, at_snoc, h.2 p]
  unfold addL
  by_cases e : p = o.p
  · subst e
    have := (at_o o.p os).1
    rw [if_pos rfl, if_pos rfl, if_pos (by simp only; omega)]
  · rw [if_neg e, if_neg (show ¬ o.p = p from fun x => e x.symm)]

/-! ### what is gone through -/
theorem nodup_len : ∀ (n : Nat) (l : List Nat), l.Nodup → (∀ x ∈ l, x < n) → l.length ≤ n := by
  intro n
  induction n with
  | zero => intro l _ h; cases l with
    | nil => simp
    | cons a t => exact absurd (h a (by simp)) (by omega)
  | succ n ih =>
    intro l hn h
    by_cases hm : n ∈ l
    · have h1 := ih (l.erase n) (hn.erase n) fun x hx => by
        have := (hn.mem_erase_iff).1 hx
        have := h x this.2
        omega
      rw [List.length_erase_of_mem hm] at h1
      omega
    · have := ih l hn fun x hx => by
        have h1 := h x hx
        have : x ≠ n := fun e => hm (by rw [← e]; exact hx)
        omega
      omega
def OutR (M : List (Int × AV)) (seen : List Nat) (out : List LZ) : Prop := seen.Nodup ∧ seen.length = out.length ∧ (∀ x ∈ seen, x < M.length) ∧ ∀ (i j : Nat) (x : LZ), seen[i]? = some j → out[i]? = some x → M[j]? = some (x.p, lzV x)
theorem out_0 (M : List (Int × AV)) : OutR M [] [] := ⟨List.nodup_nil, rfl, by simp, by simp⟩
theorem out_len {M : List (Int × AV)} {seen : List Nat} {out : List LZ} (h : OutR M seen out) : out.length ≤ M.length := by
  rw [← h.2.1]; exact nodup_len _ _ h.1 h.2.2.1
theorem out_next {M : List (Int × AV)} {seen : List Nat} {out : List LZ} (h : OutR M seen out) {j : Nat} {x : LZ} (hj : M[j]? = some (x.p, lzV x)) (hn : j ∉ seen) : OutR M (seen ++ [j]) (out ++ [x]) := by
  obtain ⟨h1, h2, h3, h4⟩ := h
  refine ⟨List.nodup_append.2 ⟨h1, by simp, fun a ha b hb => by rw [List.mem_singleton.1 hb]; exact fun e => hn (by rw [← e]; exact ha)⟩, by simp [h2], fun y hy => ?_, fun i k y hi hy => ?_⟩
  · rcases List.mem_append.1 hy with hy | hy
    · exact h3 y hy
    · rw [List.mem_singleton.1 hy]; exact (List.getElem?_eq_some_iff.1 hj).1
  · by_cases e : i < seen.length
    · rw [List.getElem?_append_left e] at hi
      rw [List.getElem?_append_left (by omega)] at hy
      exact h4 i k y hi hy
    · rw [List.getElem?_append_right (by omega)] at hi
      rw [List.getElem?_append_right (by omega)] at hy
      have hi0 : i - seen.length = 0 := by
        have := (List.getElem?_eq_some_iff.1 hi).1
        simp at this; omega
      have hi1 : i - out.length = 0 := by omega
      rw [hi0] at hi; rw [hi1] at hy
      simp at hi hy
      rw [← hi, ← hy]; exact hj
theorem ent_at {os : List OZ} {M : List (Int × AV)} (h : EntR os M) {j : Nat} {k : Int} {v : AV} (hj : M[j]? = some (k, v)) : 0 < (atZ k os).o ∧ v = lzV (atZ k os) := by
  have h1 := mem_find h.1 hj
  rw [h.2 k] at h1
  split at h1
  · rename_i hp; injection h1 with h1; exact ⟨hp, h1.symm⟩
  · cases h1
theorem ent_len {os : List OZ} {M : List (Int × AV)} (h : EntR os M) (hb : ∀ o ∈ os, 1 ≤ o.p ∧ o.p ≤ 9999) : M.length ≤ 10000 := by
  have hk : ∀ (j : Nat) (e : Int × AV), M[j]? = some e → 1 ≤ e.1 ∧ e.1 ≤ 9999 := fun j e he => by
    obtain ⟨q, _⟩ := ent_at h (show M[j]? = some (e.1, e.2) from he)
    obtain ⟨o, ho, e2⟩ := (at_o _ _).2.2.1 q
    rw [← e2]; exact hb o ho
  have := nodup_len 10000 (M.map fun e => e.1.toNat) (by
    rw [List.nodup_iff_pairwise_ne, List.pairwise_iff_getElem]
    intro i j hi hj hij e
    rw [List.length_map] at hi hj
    simp only [List.getElem_map] at e
    have h1 := hk i M[i] (List.getElem?_eq_getElem hi)
    have h2 := hk j M[j] (List.getElem?_eq_getElem hj)
    have hp := List.pairwise_iff_getElem.1 (List.nodup_iff_pairwise_ne.1 h.1) i j (by rw [List.length_map]; exact hi) (by rw [List.length_map]; exact hj) hij
    simp only [List.getElem_map] at hp
    apply hp
    omega) (fun x hx => by
    obtain ⟨e, he, rfl⟩ := List.mem_map.1 hx
    obtain ⟨j, hj⟩ := List.getElem?_of_mem he
    have := hk j e hj
    omega)
  rwa [List.length_map] at this
/-- All has been gone through. -/
theorem out_end {os : List OZ} {M : List (Int × AV)} {seen : List Nat} {out : List LZ} (he : EntR os M) (h : OutR M seen out) (ha : ∀ j, j < M.length → j ∈ seen) : (out.map LZ.p).Nodup ∧ (∀ x ∈ out, ∃ o ∈ os, o.p = x.p) ∧ ∀ p, out.find? (fun x => decide (x.p = p)) = if 0 < (atZ p os).o then some (atZ p os) else none := by
  obtain ⟨h1, h2, h3, h4⟩ := h
  have hm : ∀ (i : Nat) (x : LZ), out[i]? = some x → ∃ j, seen[i]? = some j ∧ M[j]? = some (x.p, lzV x) ∧ 0 < (atZ x.p os).o ∧ x = atZ x.p os := fun i x hx => by
    have hi := (List.getElem?_eq_some_iff.1 hx).1
    have hs : seen[i]? = some seen[i] := List.getElem?_eq_getElem (by omega)
    have q := h4 i _ x hs hx
    obtain ⟨q1, q2⟩ := ent_at he q
    exact ⟨_, hs, q, q1, lzV_inj q2⟩
  have hnd : (out.map LZ.p).Nodup := by
    rw [List.nodup_iff_pairwise_ne, List.pairwise_iff_getElem]
    intro i j hi hj hij e
    rw [List.length_map] at hi hj
    simp only [List.getElem_map] at e
    obtain ⟨a, a1, a2, _⟩ := hm i out[i] (List.getElem?_eq_getElem hi)
    obtain ⟨b, b1, b2, _⟩ := hm j out[j] (List.getElem?_eq_getElem hj)
    obtain ⟨la, qa⟩ := List.getElem?_eq_some_iff.1 a2
    obtain ⟨lb, qb⟩ := List.getElem?_eq_some_iff.1 b2
    have hab : a = b := by
      by_cases x : a = b
      · exact x
      · exfalso
        have hp := List.pairwise_iff_getElem.1 (List.nodup_iff_pairwise_ne.1 he.1)
        rcases Nat.lt_or_gt_of_ne x with x | x
        · exact hp a b (by rw [List.length_map]; exact la) (by rw [List.length_map]; exact lb) x (by simp only [List.getElem_map, qa, qb]; exact e)
        · exact hp b a (by rw [List.length_map]; exact lb) (by rw [List.length_map]; exact la) x (by simp only [List.getElem_map, qa, qb]; exact e.symm)
    subst hab
    have hp := List.pairwise_iff_getElem.1 (List.nodup_iff_pairwise_ne.1 h1)
    obtain ⟨ca, da⟩ := List.getElem?_eq_some_iff.1 a1
    obtain ⟨cb, db⟩ := List.getElem?_eq_some_iff.1 b1
    exact hp i j ca cb hij (by rw [da, db])
  refine ⟨hnd, fun x hx => ?_, fun p => ?_⟩
  · obtain ⟨i, hi⟩ := List.getElem?_of_mem hx
    obtain ⟨_, _, _, q, _⟩ := hm i x hi
    exact (at_o _ _).2.2.1 q
  · split
    · rename_i hp
      obtain ⟨j, hj⟩ := find_mem (show findE M p = some (lzV (atZ p os)) by rw [he.2 p, if_pos hp])
      obtain ⟨i, hi⟩ := List.getElem?_of_mem (ha j (List.getElem?_eq_some_iff.1 hj).1)
      have hil := (List.getElem?_eq_some_iff.1 hi).1
      have ho : out[i]? = some out[i] := List.getElem?_eq_getElem (by omega)
      have q := h4 i j _ hi ho
      rw [hj] at q
      injection q with q
      have q2 := lzV_inj (Prod.mk.inj q).2
      cases hf : out.find? (fun x => decide (x.p = p)) with
      | none =>
        have := List.find?_eq_none.1 hf out[i] (List.getElem_mem _)
        rw [← q2, at_p] at this
        simp at this
      | some y =>
        have y1 := List.find?_some hf
        have y2 := List.mem_of_find?_eq_some hf
        simp only [decide_eq_true_eq] at y1
        obtain ⟨i', hi'⟩ := List.getElem?_of_mem y2
        obtain ⟨_, _, _, _, q3⟩ := hm i' y hi'
        rw [q3, y1]
    · rename_i hp
      rw [List.find?_eq_none]
      intro x hx hd
      simp only [decide_eq_true_eq] at hd
      obtain ⟨i, hi⟩ := List.getElem?_of_mem hx
      obtain ⟨_, _, _, q, _⟩ := hm i x hi
      rw [hd] at q; exact hp q

/-! ### what a sort gives -/
def prZ (s : Int) (k : Nat) : Int := if s = 0 then 9999 - (k : Int) else (k : Int) + 1
def sortZ (s : Int) (l : List LZ) : List LZ := (List.range 9999).filterMap fun k => l.find? fun x => decide (x.p = prZ s k)
/-- THE LEVELS of a side's orders, the best first. -/
def levelsZ (s : Int) (os : List OZ) : List LZ := (List.range 9999).filterMap fun k => if 0 < (atZ (prZ s k) os).o then some (atZ (prZ s k) os) else none
theorem sort_out {s : Int} {os : List OZ} {out : List LZ} (h : ∀ p, out.find? (fun x => decide (x.p = p)) = if 0 < (atZ p os).o then some (atZ p os) else none) : sortZ s out = levelsZ s os := by
  unfold sortZ levelsZ
  congr 1
  funext k
  exact h _
theorem uniq_sorted {α : Type} {r : α → α → Prop} (irr : ∀ x, ¬ r x x) (asy : ∀ x y, r x y → ¬ r y x) : ∀ {l m : List α}, l.Pairwise r → m.Pairwise r → (∀ x, x ∈ l ↔ x ∈ m) → l = m
  | [], [], _, _, _ => rfl
  | [], b :: m, _, _, h => by have := (h b).2 (by simp); simp at this
  | a :: l, [], _, _, h => by have := (h a).1 (by simp); simp at this
  | a :: l, b :: m, h1, h2, h => by
    rw [List.pairwise_cons] at h1 h2
    have hab : a = b := by
      rcases List.mem_cons.1 ((h a).1 (by simp)) with e | e
      · exact e
      · rcases List.mem_cons.1 ((h b).2 (by simp)) with e' | e'
        · exact e'.symm
        · exact absurd (h1.1 b e') (asy _ _ (h2.1 a e))
    subst hab
    congr 1
    refine uniq_sorted irr asy h1.2 h2.2 fun x => ⟨fun hx => ?_, fun hx => ?_⟩
    · rcases List.mem_cons.1 ((h x).1 (List.mem_cons_of_mem _ hx)) with e | e
      · exact absurd (h1.1 x hx) (by rw [e]; exact irr _)
      · exact e
    · rcases List.mem_cons.1 ((h x).2 (List.mem_cons_of_mem _ hx)) with e | e
      · exact absurd (h2.1 x hx) (by rw [e]; exact irr _)
      · exact e
theorem find_of_mem {l : List LZ} (hn : (l.map LZ.p).Nodup) {x : LZ} (hx : x ∈ l) : l.find? (fun y => decide (y.p = x.p)) = some x := by
  cases hf : l.find? (fun y => decide (y.p = x.p)) with
  | none => have := List.find?_eq_none.1 hf x hx; simp at this
  | some y =>
    have y1 := List.find?_some hf
    have y2 := List.mem_of_find?_eq_some hf
    simp only [decide_eq_true_eq] at y1
    obtain ⟨i, hi⟩ := List.getElem?_of_mem hx
    obtain ⟨j, hj⟩ := List.getElem?_of_mem y2
    obtain ⟨ci, di⟩ := List.getElem?_eq_some_iff.1 hi
    obtain ⟨cj, dj⟩ := List.getElem?_eq_some_iff.1 hj
    have hp := List.pairwise_iff_getElem.1 (List.nodup_iff_pairwise_ne.1 hn)
    by_cases e : i = j
    · subst e; rw [← di, ← dj]
    · exfalso
      rcases Nat.lt_or_gt_of_ne e with e | e
      · exact hp i j (by rw [List.length_map]; exact ci) (by rw [List.length_map]; exact cj) e (by simp only [List.getElem_map, di, dj]; exact y1.symm)
      · exact hp j i (by rw [List.length_map]; exact cj) (by rw [List.length_map]; exact ci) e (by simp only [List.getElem_map, di, dj]; exact y1)
theorem sort_is {s : Int} {l d : List LZ} (hn : (l.map LZ.p).Nodup) (hb : ∀ x ∈ l, 1 ≤ x.p ∧ x.p ≤ 9999) (hp : d.Perm l) (hs : d.Pairwise fun x y => betterZ s y.p x.p = false) : d = sortZ s l := by
  have hnd : (d.map LZ.p).Nodup := (hp.map LZ.p).nodup_iff.2 hn
  refine uniq_sorted (r := fun x y : LZ => betterZ s x.p y.p = true) (fun x => by unfold betterZ; split <;> simp) (fun x y h => ?_) ?_ ?_ fun x => ?_
  · unfold betterZ at h ⊢
    split <;> simp_all <;> omega
  · refine List.Pairwise.imp₂ (fun x y (h1 : betterZ s y.p x.p = false) (h2 : x.p ≠ y.p) => ?_) hs (List.pairwise_map.1 (List.nodup_iff_pairwise_ne.1 hnd))
    unfold betterZ at h1 ⊢
    split <;> simp_all <;> omega
  · unfold sortZ
    refine List.Pairwise.filterMap _ (fun a b hab x hx y hy => ?_) List.pairwise_lt_range
    have x1 := List.find?_some hx
    have y1 := List.find?_some hy
    simp only [decide_eq_true_eq] at x1 y1
    rw [x1, y1]
    unfold betterZ prZ
    split <;> simp <;> omega
  · rw [hp.mem_iff]
    unfold sortZ
    rw [List.mem_filterMap]
    constructor
    · intro hx
      obtain ⟨b1, b2⟩ := hb x hx
      refine ⟨if s = 0 then (9999 - x.p).toNat else (x.p - 1).toNat, ?_, ?_⟩
      · rw [List.mem_range]; split <;> omega
      · have e : prZ s (if s = 0 then (9999 - x.p).toNat else (x.p - 1).toNat) = x.p := by
          unfold prZ
          by_cases h0 : s = 0
          · rw [if_pos h0, if_pos h0]; omega
          · rw [if_neg h0, if_neg h0]; omega
        rw [e]; exact find_of_mem hn hx
    · rintro ⟨k, _, hk⟩
      exact List.mem_of_find?_eq_some hk
theorem sort_len {s : Int} {l d : List LZ} (hn : (l.map LZ.p).Nodup) (hb : ∀ x ∈ l, 1 ≤ x.p ∧ x.p ≤ 9999) (hp : d.Perm l) (hs : d.Pairwise fun x y => betterZ s y.p x.p = false) : (sortZ s l).length = l.length := by
  rw [← sort_is hn hb hp hs]; exact hp.length_eq
end Go.W
namespace Go.W
open Go.Proofs Go.Shelf Go.RowKit Go.Lib Go.Sort
set_option linter.unusedSimpArgs false
set_option linter.unusedVariables false
/-- A level's three cells. -/
def encL (x : LZ) : List Value := [.int .i64 x.p, .int .i64 x.l, .int .i64 x.o]
def cfL (s : Int) (x y : LZ) : Int := if betterZ s x.p y.p = true then -1 else 1
instance : Inhabited LZ := ⟨⟨0, 0, 0⟩⟩

theorem better_calls (s p q : Int) (W : World) : Calls Try.prog 28 #[.int .i64 s, .int .i64 p, .int .i64 q] W fun e w' => e = .returned (.bool (betterZ s p q)) ∧ w' = W := by
  unfold betterZ
  by_cases h0 : s = 0
  · subst h0
    go_enter Try.func28, Try.ntmps28
    go_wp2
    go_ret
    exact ⟨by simp, rfl⟩
  · go_enter Try.func28, Try.ntmps28
    go_wp2
    go_ret
    exact ⟨by simp [h0], rfl⟩
theorem cmp_calls (s : Int) (x y : LZ) (a : Addr) (W : World) (ha : W.cell? a = some (.int .i64 s)) (hlt : a.block < W.heap.size) : Calls Try.prog 31 (#[.agg (encL x).toArray, .agg (encL y).toArray] ++ #[.pointer (some a)]) W fun e w' => e = .returned (.int .i64 (cfL s x y)) ∧ ∃ q os', w' = grow (W.drewN q) os' := by
  have hc := fun W' => better_calls s x.p y.p W'
  unfold cfL
  show Calls Try.prog 31 #[.agg #[.int .i64 x.p, .int .i64 x.l, .int .i64 x.o], .agg #[.int .i64 y.p, .int .i64 y.l, .int .i64 y.o], .pointer (some a)] W _
  cases hb : betterZ s x.p y.p with
  | true =>
    simp only [hb] at hc
    go_enter Try.func31, Try.ntmps31
    go_wp2_with (go_at_call 28; refine (hc _).mono ?_; rintro e w' ⟨rfl, rfl⟩)
    go_ret
    exact ⟨rfl, 0, _, by rw [alloc_eq_grow, alloc_eq_grow, grow_grow]; rfl⟩
  | false =>
    simp only [hb] at hc
    go_enter Try.func31, Try.ntmps31
    go_wp2_with (go_at_call 28; refine (hc _).mono ?_; rintro e w' ⟨rfl, rfl⟩)
    go_ret
    exact ⟨rfl, 0, _, by rw [alloc_eq_grow, alloc_eq_grow, grow_grow]; rfl⟩
theorem ins_nil (ad : Option Addr) (f : Value) (w : World) : Calls Try.prog 49 #[.slice ad 0 0, .int .i64 0, .int .i64 0, f] w fun e w' => e = .returned (.tuple #[]) ∧ ∃ n, w' = w.drewN n := by
  go_enter Try.func49, Try.ntmps49
  go_wp2
  refine wp_loop_rounds 1 ?_
  rw [rounds_succ]
  go_wp2
  go_end0
  exact ⟨rfl, 0, rfl⟩
theorem pdq_nil (ad : Option Addr) (l : Int) (f : Value) (w : World) : Calls Try.prog 43 #[.slice ad 0 0, .int .i64 0, .int .i64 0, .int .i64 l, f] w fun e w' => e = .returned (.tuple #[]) ∧ ∃ n, w' = w.drewN n := by
  have hi := fun w => ins_nil ad f w
  go_enter Try.func43, Try.ntmps43
  go_wp2
  refine wp_loop_rounds 1 ?_
  rw [rounds_succ]
  go_wp2_with (go_at_call 49; refine (hi _).mono ?_; rintro e w' ⟨rfl, n, rfl⟩)
  (try simp only [Exit.inBlock, Exit.then]); refine bodyPost_ret (results_none rfl _ _ _) rfl ?_
  exact ⟨rfl, n, rfl⟩
theorem sort_nil (ad : Option Addr) (f : Value) (w : World) : Calls Try.prog 30 #[.slice ad 0 0, f] w fun e w' => e = .returned (.tuple #[]) ∧ ∃ n, w' = w.drewN n := by
  have hl : ∀ W, Calls Try.prog 44 #[.int .u64 0] W fun e w' => e = .returned (.int .i64 (Lib.bitLen 0 : Nat)) ∧ w' = W := fun W =>
    Any.bits_Len (SlLaysF0.n15.bits (P := Try.prog) (ρ := Try.sortLv_ren) { Try.sortLv with }) 0 W (by omega) (by omega)
  have hp := fun l w => pdq_nil ad l f w
  go_enter Try.func30, Try.ntmps30
  go_wp2_with (first | (go_at_call 44; refine (hl _).mono ?_; rintro e w' ⟨rfl, rfl⟩) | (go_at_call 43; refine (hp _ _).mono ?_; rintro e w' ⟨rfl, n, rfl⟩))
  go_end0
  exact ⟨rfl, n, rfl⟩
theorem cmp_lays (s : Int) (a : Addr) (blk off size : Nat) (w : World) (ha : w.cell? a = some (.int .i64 s)) (hlt : a.block < w.heap.size) (hne : a.block ≠ blk) (hblk : blk < w.heap.size) : CmpLays Try.prog 31 #[.pointer (some a)] encL 3 (cfL s) blk off size w :=
  fun m os dk hdk x y => cmp_calls s x y a _ (by
    unfold sortWorldK
    rw [cell?_grow _ _ _ (by rw [size_putRowK]; exact hlt), cell?_putRowK_other _ _ _ _ _ _ _ hne]
    exact ha) (Nat.lt_of_lt_of_le hlt (size_sortWorldK_c encL 3 w blk off m dk os))
theorem swoL (s : Int) : SWO (ltOf (cfL s)) where
  irrefl x := by simp only [ltOf, cfL, betterZ]; split <;> simp
  trans x y z h1 h2 := by
    simp only [ltOf, cfL, betterZ] at *
    split at h1 <;> split at h2 <;> simp_all <;> omega
  ntrans x y z h1 h2 := by
    simp only [ltOf, cfL, betterZ] at *
    split at h1 <;> split at h2 <;> simp_all <;> omega
end Go.W
namespace Go.W
open Go.Proofs Go.Shelf Go.RowKit Go.Lib Go.Sort
set_option linter.unusedSimpArgs false
set_option linter.unusedVariables false

def okL (l : List LZ) : Bool := decide ((l.map LZ.p).Nodup ∧ (∀ x ∈ l, 1 ≤ x.p ∧ x.p ≤ 9999) ∧ l.length ≤ 100000)
def sortF (args : List AV) (G : NH) (nb : Nat) : Option Res :=
  match args with
  | [.sl (.top p) 0 n, .fn 31 [.ptr (.top q) 0 0]] => (match G p, G q with
    | .arr t sz els, .cells t' [.int .i64 s] => (match mapV lzOf els with
      | some l => if sz = 3 ∧ n = els.length ∧ p ≠ q ∧ okL l = true then some ⟨.tup [], [(p, .arr t 3 (lzLL (sortZ s l)))], [p, q]⟩ else none
      | none => none)
    | _, _ => none)
  | _ => none
theorem sortF_some {args : List AV} {G : NH} {nb : Nat} {r : Res} (h : sortF args G nb = some r) : ∃ p q t t' s l, args = [.sl (.top p) 0 (lzLL l).length, .fn 31 [.ptr (.top q) 0 0]] ∧ G p = .arr t 3 (lzLL l) ∧ G q = .cells t' [.int .i64 s] ∧ p ≠ q ∧ okL l = true ∧ r = ⟨.tup [], [(p, .arr t 3 (lzLL (sortZ s l)))], [p, q]⟩ := by
  unfold sortF at h
  split at h
  · rename_i p n q
    split at h
    · rename_i t sz els t' s hp hq
      split at h
      · rename_i l hl
        split at h
        · rename_i hc
          obtain ⟨rfl, rfl, h1, h2⟩ := hc
          obtain rfl := mapV_ex (g := lzC) (fun _ _ => lzOf_ex) hl
          injection h with h
          exact ⟨p, q, t, t', s, l, rfl, hp, hq, h1, h2, h.symm⟩
        · cases h
      · cases h
    · cases h
  · cases h
def sortS : Spec where
  fn := sortF
  loc := fun args G G' nb r h hG => by
    obtain ⟨p, q, t, t', s, l, rfl, h1, h2, h3, h4, rfl⟩ := sortF_some h
    have e1 : G' p = .arr t 3 (lzLL l) := by rw [← hG p (.inl (by simp))]; exact h1
    have e2 : G' q = .cells t' [.int .i64 s] := by rw [← hG q (.inl (by simp))]; exact h2
    have hm : mapV lzOf (lzLL l) = some l := mapV_map (f := lzOf) (g := lzC) lzOf_C l
    simp only [sortF, e1, e2, hm, h4, h3, ne_eq, not_false_eq_true, and_self, if_true]
  nm := fun args G nb r h x hx => by
    obtain ⟨p, q, t, t', s, l, rfl, h1, h2, h3, h4, rfl⟩ := sortF_some h
    simp at hx
    subst hx
    right; rw [h1]; simp
  nw := fun args G nb r h x hx hg => by
    obtain ⟨p, q, t, t', s, l, rfl, h1, h2, h3, h4, rfl⟩ := sortF_some h
    simp only at hg
    have e : updL G [(p, .arr t 3 (lzLL (sortZ s l)))] p = .arr t 3 (lzLL (sortZ s l)) := by simp [updL, upd]
    by_cases hr : x.root = p
    · by_cases hx2 : x = .top p
      · rw [hx2, getP, h1]; simp
      · exact absurd (below_none (by rw [e]; exact datO_kid (lz_dat _)) hr hx2) hg
    · have : updL G [(p, .arr t 3 (lzLL (sortZ s l)))] x.root = G x.root := by simp [updL, upd, hr]
      rwa [getP_same this.symm] at hg

/-- An array of its own got other elements; all else is as it was. -/
theorem HCore.reput {w0 w w' : World} {S : Sc} {ρ : Env} {H H' : Nm → AObj} (c : HCore w0 S ρ H w) {p : Nm} {sz n n' : Nat} {f f' : Nat → List AV} (hp : H p = .arr sz n f) (hp' : H' p = .arr sz n' f') (hH : ∀ x, x ≠ p → H' x = H x) (hnil : (ρ p).nil = false) (ho : ObjOk ρ (ρ p) (H' p) w')
    (e1 : w'.os = w.os) (e2 : w'.tape = w.tape) (e3 : w'.output = w.output) (hs : w.heap.size ≤ w'.heap.size) (hf : ∀ b, b < w.heap.size → b ≠ (ρ p).blk → w'.heap[b]? = w.heap[b]?) : HCore w0 S ρ H' w' := by
  have op : Owned (ρ p) (H p) := by rw [hp]; exact hnil
  have cp := c.own p op
  have bak : ∀ x, Owned (ρ x) (H' x) → Owned (ρ x) (H x) := fun x hx => by
    by_cases e : x = p
    · rw [e]; exact op
    · rwa [hH x e] at hx
  have far : ∀ x, x ≠ p → Owned (ρ x) (H x) ∨ Viewed (ρ x) (H x) → (ρ x).blk ≠ (ρ p).blk ∧ (ρ x).blk < w.heap.size := fun x hx h => by
    rcases h with h | h
    · exact ⟨fun e => hx (c.dist x p h op e), (c.own x h).1⟩
    · have v := c.vw x h
      refine ⟨fun e => ?_, Nat.lt_of_lt_of_le v.1 c.size⟩
      rcases cp.2 with q | q
      · omega
      · rw [← e] at q; exact v.2 q
  refine ⟨e1.trans c.os, e2.trans c.tape, e3.trans c.output, Nat.le_trans c.size hs, fun b hb hns => ?_, fun x => ?_, fun x hx => ?_, fun x y hx hy he => c.dist x y (bak x hx) (bak y hy) he, fun x hx => ?_, c.an⟩
  · have hne : b ≠ (ρ p).blk := fun e => by
      rcases cp.2 with q | q
      · omega
      · rw [← e] at q; exact hns q
    rw [hf b (Nat.lt_of_lt_of_le hb c.size) hne]
    exact c.frame b hb hns
  · by_cases e : x = p
    · rw [e]; exact ho
    · rw [hH x e]
      by_cases ov : Owned (ρ x) (H x) ∨ Viewed (ρ x) (H x)
      · exact (c.obj x).same (hf _ (far x e ov).2 (far x e ov).1)
      · exact (c.obj x).nil_same (fun h => ov (.inl h)) (fun h => ov (.inr h))
  · have h1 := c.own x (bak x hx)
    exact ⟨Nat.lt_of_lt_of_le h1.1 hs, h1.2⟩
  · by_cases e : x = p
    · rw [e, hp'] at hx; exact hx.elim
    · rw [hH x e] at hx; exact c.vw x hx

theorem HCore.drewN' {w0 w : World} {S : Sc} {ρ : Env} {H : Nm → AObj} (c : HCore w0 S ρ H w) (n : Nat) : HCore w0 S ρ H (w.drewN n) :=
  ⟨c.os, c.tape, c.output, c.size, c.frame, fun x => (c.obj x).same rfl, c.own, c.dist, c.vw, c.an⟩

theorem sortW_heap (w : World) (blk off m : Nat) (d : Array LZ) (os : Array Obj) {b : Nat} (hb : b < w.heap.size) (hne : b ≠ blk) : (sortWorldK encL 3 w blk off m d os).heap[b]? = w.heap[b]? := by
  unfold sortWorldK
  rw [heap_grow_old _ _ (by rw [size_putRowK]; exact hb)]
  show (mapBlock (Sort.ahead w m) blk _).heap[b]? = _
  simp only [mapBlock, Array.getElem?_modify]
  rw [if_neg (fun e => hne e.symm)]
  rfl
theorem sortW_room (w : World) (blk off m : Nat) (d0 d : Array LZ) (os : Array Obj) (hblk : blk < w.heap.size) (hH : HoldsK encL 3 w blk off d0) (hs : d.size = d0.size) (k : Nat) (h1 : (w.cell? ⟨blk, k, none⟩).isSome = true) (h2 : w.frozen? ⟨blk, k, none⟩ = false) :
    ((sortWorldK encL 3 w blk off m d os).cell? ⟨blk, k, none⟩).isSome = true ∧ (sortWorldK encL 3 w blk off m d os).frozen? ⟨blk, k, none⟩ = false := by
  have hz : blk < (putRowK encL 3 (Sort.ahead w m) blk off d).heap.size := by rw [size_putRowK]; exact hblk
  unfold sortWorldK
  rw [cell?_grow _ _ _ hz, frozen?_grow _ _ _ hz]
  unfold putRowK
  rw [frozen?_putRow]
  refine ⟨?_, h2⟩
  by_cases hr : off ≤ k ∧ k < off + (flatK encL 3 d).size
  · have := cell?_putRow id (Sort.ahead w m) blk off (flatK encL 3 d0) (flatK encL 3 d) (holdsK_ahead encL 3 w m blk off d0 hH) (by simp [hs]) (k - off) (by omega)
    rw [show off + (k - off) = k by omega] at this
    rw [this]; rfl
  · rw [cell?_putRow_other id (Sort.ahead w m) blk off (flatK encL 3 d) ⟨blk, k, none⟩ (.inr (by show k < off ∨ off + (flatK encL 3 d).size ≤ k; omega))]
    exact h1

theorem lz_row (ρ : Env) (x : LZ) {j : Nat} {v : AV} (h : (lzC x)[j]? = some v) {y : Value} (hy : Rep ρ v y) : y = (encL x)[j]! := by
  rcases j with _ | _ | _ | j
  all_goals simp [lzC] at h
  all_goals (subst h; simp only [Rep] at hy; rw [hy]; rfl)
theorem lz_rep (ρ : Env) (x : LZ) {j : Nat} {v : AV} (h : (lzC x)[j]? = some v) : Rep ρ v (encL x)[j]! ∧ ((encL x)[j]!).oneCell' = true := by
  rcases j with _ | _ | _ | j
  all_goals simp [lzC] at h
  all_goals (subst h; exact ⟨rfl, rfl⟩)

theorem sort_nilZ (s : Int) : sortZ s [] = [] := by
  unfold sortZ
  generalize List.range 9999 = r
  simp
theorem s30 : Sound Try.prog 30 sortS := by
  refine ⟨⟨_, Try.func30, by kernel_rfl, by rfl⟩, fun w0 S Es U G w avs vs nb r h1 h2 h3 h4 h5 h6 h7 h8 => ?_⟩
  obtain ⟨p, q, t, t', s, l, rfl, gp, gq, hpq, hok, rfl⟩ := sortF_some (nb := nb) h7
  obtain ⟨hnd, hbd, hll⟩ := of_decide_eq_true hok
  obtain ⟨ρ0, h0⟩ := h1
  have c0 := h5 ρ0 h0
  have fl : ∀ (l : List LZ) (G : NH), G p = .arr t 3 (lzLL l) → HF G (.top p) = .arr 3 l.length (fun j => (lzLL l).getD j []) := fun l G g => by
    show flO (.top p) (G p) = _
    rw [g, ← lz_len l]
    exact flO_rowt fun j c hc => datL_plain (List.all_eq_true.1 (lz_dat l) c (List.mem_of_getElem? hc))
  have hGp := fl l G gp
  have hGq : HF G (.top q) = .cells [.int .i64 s] := by
    show flO (.top q) (G q) = _
    rw [gq]; rfl
  have epp : ∀ ρ, Es ρ → ρ (.top p) = ρ0 (.top p) := fun ρ hρ => h4 ρ ρ0 hρ h0 _ (by rw [hGp]; simp)
  have hupd : ∀ x : Nm, x ≠ .top p → HF (updL G [(p, .arr t 3 (lzLL (sortZ s l)))]) x = HF G x := fun x hx => by
    by_cases hr : x.root = p
    · have a1 : getP (updL G [(p, .arr t 3 (lzLL (sortZ s l)))]) x = .free := below_none (by rw [show updL G [(p, .arr t 3 (lzLL (sortZ s l)))] p = .arr t 3 (lzLL (sortZ s l)) by simp [updL, upd]]; exact datO_kid (lz_dat _)) hr hx
      have a2 : getP G x = .free := below_none (by rw [gp]; exact datO_kid (lz_dat _)) hr hx
      unfold HF; rw [a1, a2]
    · have : updL G [(p, .arr t 3 (lzLL (sortZ s l)))] x.root = G x.root := by simp [updL, upd, hr]
      unfold HF; rw [getP_same this.symm]
  have hR := h6 ρ0 h0
  simp only [RepL, Rep] at hR
  obtain ⟨v1, r1, rfl, hv1, v2, r2, rfl, ⟨cs, rfl, hcs⟩, rfl⟩ := hR
  obtain ⟨v3, r3, hcs3, ⟨hqn, rfl⟩, rfl⟩ := hcs
  obtain rfl : cs = #[.pointer (some ⟨(ρ0 (.top q)).blk, (ρ0 (.top q)).base + (0 * (ρ0 (.top q)).sz + 0), none⟩)] := by
    rw [← Array.toList_inj, hcs3]
  have o0 := c0.obj (.top p)
  rw [hGp] at o0
  rcases hv1 with ⟨hn, -, hl0, ad, rfl⟩ | ⟨hn, hcap, off, rfl, hoff⟩
  · -- nothing is there
    rw [lz_len] at hl0
    obtain rfl := List.length_eq_zero_iff.1 hl0
    refine (sort_nil ad _ w).mono fun e w' ⟨he, n, hw⟩ => ⟨.tuple #[], ρ0, he, fun ρ hρ hg => ⟨by simp [Rep, RepL], ?_⟩⟩
    subst hw
    have : updL G [(p, .arr t 3 (lzLL (sortZ s [])))] = G := by
      funext x
      by_cases e : x = p
      · subst e; simp [updL, upd, gp, sort_nilZ, lzLL]
      · simp [updL, upd, e]
    rw [this]
    exact (h5 ρ hρ).drewN' n
  · rcases o0 with ⟨hn', _⟩ | ⟨reg, room⟩
    · rw [hn] at hn'; cases hn'
    have op0 : Owned (ρ0 (.top p)) (HF G (.top p)) := by rw [hGp]; exact hn
    have oq0 : Owned (ρ0 (.top q)) (HF G (.top q)) := by rw [hGq]; trivial
    have hblk := (c0.own _ op0).1
    have oq := c0.obj (.top q)
    rw [hGq] at oq
    obtain ⟨x, hx1, hx2, _⟩ := oq.1.cell 0 (by decide) 0 (.int .i64 s) rfl
    simp only [Rep] at hx2
    subst hx2
    have hqs := oq.1.esz
    have ha : w.cell? ⟨(ρ0 (.top q)).blk, (ρ0 (.top q)).base + (0 * (ρ0 (.top q)).sz + 0), none⟩ = some (.int .i64 s) := by
      rw [← hx1]; congr 2; simp
    have hne : (ρ0 (.top q)).blk ≠ (ρ0 (.top p)).blk := fun e => hpq (by
      have := c0.dist _ _ oq0 op0 e
      injection this with this
      exact this.symm)
    have hz : l.toArray.size = l.length := rfl
    rw [lz_len] at hcap ⊢
    have hH : HoldsK encL 3 w (ρ0 (.top p)).blk off l.toArray := by
      intro j hj
      rw [size_flatK] at hj
      have hj' : j / 3 < l.length := by rw [← hz]; omega
      have ho := hoff (by have := reg.cap; omega)
      obtain ⟨x, hx⟩ : ∃ x, l[j / 3]? = some x := ⟨_, List.getElem?_eq_getElem hj'⟩
      have hge : (lzLL l).getD (j / 3) [] = lzC x := by rw [List.getD_eq_getElem?_getD, (lz_at hx).1]; rfl
      have hm : j % 3 < 3 := Nat.mod_lt _ (by decide)
      obtain ⟨v, hv⟩ : ∃ v, (lzC x)[j % 3]? = some v := ⟨_, List.getElem?_eq_getElem (by exact hm)⟩
      obtain ⟨y, hy1, hy2, _⟩ := reg.cell (j / 3) hj' (j % 3) v (by rw [hge]; exact hv)
      have hoff' : (ρ0 (.top p)).base + (j / 3 * 3 + j % 3) = off + j := by rw [ho, Nat.zero_mul, Nat.add_zero, Nat.div_add_mod' j 3]
      rw [hoff'] at hy1
      refine ⟨?_, ?_⟩
      · rw [hy1, get_flatK _ _ _ _ hj, lz_row ρ0 x hv hy2]
        have : (l.toArray)[j / 3]! = x := by
          rw [getElem!_pos l.toArray (j / 3) (show j / 3 < l.toArray.size from hj')]
          simp only [List.getElem_toArray]
          exact (List.getElem?_eq_some_iff.1 hx).2
        rw [this]; rfl
      · have := (room j (by have := reg.cap; have := Nat.mul_le_mul_right 3 this; omega)).2
        rw [ho, Nat.zero_mul, Nat.add_zero]; exact this
    have eg : ∀ args w, (callFunc 31 args).run Try.prog w = .ok (.enter 31 args) w := enters_of Try.func31 (by kernel_rfl) rfl
    have hcon := AnyQ.slices_SortFunc Try.sortLv 3 Try.isAgg39 Try.sizeOf39 encL (fun _ => rfl) (fun x v hv => by simp [encL] at hv; rcases hv with rfl | rfl | rfl <;> rfl) (cfL s) (swoL s) 31 _ (ρ0 (.top p)).blk off ((ρ0 (.top p)).cap - 0) l.toArray w eg (cmp_lays s _ _ off l.toArray.size w ha (c0.own _ oq0).1 hne hblk) hH hblk (by rw [hz]; omega)
    change Calls Try.prog 30 _ _ _ at hcon
    refine hcon.mono fun e w' ⟨he, d', n, os, hp, hs, hw⟩ => ⟨.tuple #[], ρ0, he, fun ρ hρ hg => ⟨by simp [Rep, RepL], ?_⟩⟩
    subst hw
    obtain ⟨hp1, -, hp3⟩ := hp
    have hz' : d'.size = l.length := hp1.trans hz
    have hperm : d'.toList.Perm l := by
      rw [Array.extract_eq_self_of_le (by rw [hz', hz]; exact Nat.le_refl _), Array.extract_eq_self_of_le (Nat.le_refl _)] at hp3
      exact hp3
    have hsort : d'.toList.Pairwise fun x y => betterZ s y.p x.p = false := by
      rw [List.pairwise_iff_getElem]
      intro i j hi hj hij
      have := hs i j (Nat.zero_le _) hij (by rw [hz]; rw [Array.length_toList] at hj; omega)
      rw [Array.length_toList] at hi hj
      rw [getElem!_pos d' i hi, getElem!_pos d' j hj] at this
      have this := of_decide_eq_false (show decide (cfL s d'[j] d'[i] < 0) = false from this)
      simp only [Array.getElem_toList]
      cases hb : betterZ s d'[j].p d'[i].p with
      | false => rfl
      | true => exact absurd (show cfL s d'[j] d'[i] < 0 by unfold cfL; rw [if_pos hb]; decide) this
    have hd := sort_is hnd hbd hperm hsort
    have hlen := sort_len hnd hbd hperm hsort
    have cρ := h5 ρ hρ
    have ep := epp ρ hρ
    have hG' := fl (sortZ s l) (updL G [(p, .arr t 3 (lzLL (sortZ s l)))]) (by simp [updL, upd])
    have hsz := size_sortWorldK_c encL 3 w (ρ0 (.top p)).blk off n d' os
    have hold := holdsK_sortWorldK_c encL 3 w (ρ0 (.top p)).blk off l.toArray d' n os hH hblk hp1
    refine cρ.reput hGp hG' hupd (by rw [ep]; exact hn) ?_ rfl rfl rfl hsz fun b hb hbn => sortW_heap w _ off n d' os hb (by rw [← ep]; exact hbn)
    rw [hG', ep]
    refine .inr ⟨⟨reg.nn, reg.esz, by rw [hlen]; exact reg.cap, fun i hi => ?_, fun i hi j v hv => ?_⟩, fun k hk => ?_⟩
    · obtain ⟨x, hx⟩ : ∃ x, (sortZ s l)[i]? = some x := ⟨_, List.getElem?_eq_getElem hi⟩
      try simp only
      rw [List.getD_eq_getElem?_getD, (lz_at hx).1]; rfl
    · obtain ⟨x, hx⟩ : ∃ x, (sortZ s l)[i]? = some x := ⟨_, List.getElem?_eq_getElem hi⟩
      try simp only at hv
      rw [List.getD_eq_getElem?_getD, (lz_at hx).1] at hv
      change (lzC x)[j]? = some v at hv
      have hj : j < 3 := (List.getElem?_eq_some_iff.1 hv).1
      rw [hlen] at hi
      have ho := hoff (by have := reg.cap; omega)
      have hc := (hold.cell (i := i) (c := j) (by rw [hz']; exact hi) hj).1
      have hdi : d'[i]! = x := by
        rw [getElem!_pos d' i (by rw [hz']; exact hi), ← Array.getElem_toList]
        have : d'.toList[i]? = some x := by rw [hd]; exact hx
        exact (List.getElem?_eq_some_iff.1 this).2
      rw [hdi] at hc
      have ea : (ρ0 (.top p)).base + (i * 3 + j) = off + i * 3 + j := by rw [ho]; omega
      rw [← ea] at hc
      exact ⟨_, hc, lz_rep ρ x hv⟩
    · exact sortW_room w _ off n l.toArray d' os hblk hH hp1 _ (room k hk).1 (room k hk).2
end Go.W
