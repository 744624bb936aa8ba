/- Rows whose arguments are slices of structs of integers; from a specification of a call that only reads to a statement's call. -/
import Derived.Test.YthehmmodkhoieaaWcA
import Derived.Test.YthehmmodkhoieaaWsA
import Derived.Deep.Slices
set_option linter.unusedSimpArgs false
set_option linter.unusedVariables false
namespace Go.W
open Go.ChangeShapes Go.WideShapes Go.ChangeAt Go.RowKit Go.Joins Go.Deep

def flatFs (P : Program) (fl : TypeId → Option Nat) : List Field → Nat → Option Nat
  | [], off => some off
  | f :: r, off => match fl f.type with
    | some k => if f.offset = off ∧ P.cellsOf f.type = k then flatFs P fl r (off + k) else none
    | none => none

/-- How many cells a type has, if all are integers. -/
def flatI (P : Program) : Nat → TypeId → Option Nat
  | 0, _ => none
  | d + 1, t => match P.underlying t with
    | some (.int .i64) => some 1
    | some (.struct fs) => match flatFs P (flatI P d) fs.toList 0 with
      | some m => if P.cellsOf t = m then some m else none
      | none => none
    | _ => none

section
variable {H : Type} {enc : TypeId × Value → H} {P : Program} {w : World} {base : Nat} {spare : Nat → Bool} {held : Bool}

theorem flatFs_ints {fl : TypeId → Option Nat} (hfl : ∀ (t : TypeId) (k fuel : Nat) (cs : List Value) (x : DataW H × List MemPlace), fl t = some k → DataW.trod enc P w base spare held fuel t cs = some x → cs.length = k ∧ ∀ j, j < k → ∃ n : Int, cs[j]? = some (.int .i64 n) ∧ (Lit.int .i64 n).wf = true) {cs : List Value} :
    ∀ (l : List Field) (off m : Nat), flatFs P fl l off = some m → (∀ f, f ∈ l → ∃ fuel x, DataW.trod enc P w base spare held fuel f.type ((cs.drop f.offset).take (P.cellsOf f.type)) = some x) → off ≤ m ∧ ∀ j, off ≤ j → j < m → ∃ n : Int, cs[j]? = some (.int .i64 n) ∧ (Lit.int .i64 n).wf = true
  | [], off, m, h, _ => by
    simp only [flatFs, Option.some.injEq] at h
    exact ⟨by omega, fun j h1 h2 => by omega⟩
  | f :: r, off, m, h, hx => by
    simp only [flatFs] at h
    split at h
    · rename_i k hk
      split at h
      · rename_i hc
        obtain ⟨h1, h2⟩ := flatFs_ints hfl r (off + k) m h fun g hg => hx g (List.mem_cons_of_mem _ hg)
        obtain ⟨fuel, x, h3⟩ := hx f List.mem_cons_self
        rw [hc.1, hc.2] at h3
        obtain ⟨h4, h5⟩ := hfl _ _ _ _ _ hk h3
        refine ⟨by omega, fun j a1 a2 => ?_⟩
        by_cases hj : j < off + k
        · obtain ⟨n, hn⟩ := h5 (j - off) (by omega)
          rw [List.getElem?_take, if_pos (by omega), List.getElem?_drop, show off + (j - off) = j from by omega] at hn
          exact ⟨n, hn⟩
        · exact h2 j (by omega) a2
      · cases h
    · cases h

theorem flatI_ints : ∀ (dp : Nat) (t : TypeId) (m fuel : Nat) (cs : List Value) (x : DataW H × List MemPlace), flatI P dp t = some m → DataW.trod enc P w base spare held fuel t cs = some x → cs.length = m ∧ ∀ j, j < m → ∃ n : Int, cs[j]? = some (.int .i64 n) ∧ (Lit.int .i64 n).wf = true
  | 0, t, m, fuel, cs, x, h, _ => by simp [flatI] at h
  | d + 1, t, m, fuel, cs, x, h, hx => by
    unfold flatI at h
    split at h
    · rename_i hu
      simp only [Option.some.injEq] at h
      subst h
      obtain ⟨n, rfl, _, hwf⟩ := DataW.trod_int hu hx
      exact ⟨rfl, fun j hj => ⟨n, by rw [show j = 0 from by omega]; exact ⟨rfl, hwf⟩⟩⟩
    · rename_i fs hu
      split at h
      · rename_i m' hm
        split at h
        · rename_i hc
          simp only [Option.some.injEq] at h
          subst h
          obtain ⟨xs, n, _, _, hl, hxl, hf⟩ := DataW.trod_struct hu hx
          have := flatFs_ints (fun t k fuel cs x => flatI_ints d t k fuel cs x) fs.toList 0 m' hm fun f hfm => by
            obtain ⟨i, hi⟩ := List.getElem?_of_mem hfm
            have hi' : fs[i]? = some f := by rw [← Array.getElem?_toList]; exact hi
            have h1 := hf i f hi'
            have hlt : i < xs.length := by rw [hxl]; exact (Array.getElem?_eq_some_iff.1 hi').1
            rw [List.getElem?_eq_getElem hlt] at h1
            exact ⟨n, _, h1⟩
          exact ⟨by rw [hl, hc], fun j hj => this.2 j (Nat.zero_le _) hj⟩
        · cases h
      · cases h
    · cases h

end

theorem row12_of {ns : List Int} (h : ns.length = 12) : row12 (ns.map (AV.int .i64)) = true := by
  match ns, h with
  | [_, _, _, _, _, _, _, _, _, _, _, _], _ => rfl

/-- A slice of structs of twelve integers that came. -/
theorem open_rows {H : Type} {enc : TypeId × Value → H} {P : Program} {w : World} {base b0 : Nat} {r : Reach} {t e : TypeId} {v : Value} {d : DataW H} {p : List MemPlace} (ht : P.underlying t = some (.slice e)) (hfl : flatI P 6 e = some 12) (hce : P.cellsOf e = 12) (hv : Value.okWide P w r b0 t v) (h : DataW.Trod enc P w base (fun _ => true) true t v d p) :
    ∃ (els : List (List AV)) (L : Loc), els.all row12 = true ∧ (∀ ρ, ObjOk ρ L (flO (.top 0) (.view 0 12 els)) w) ∧ (L.nil = false → L.blk < w.heap.size) ∧ (∀ ρ : Env, ρ (.top 0) = L → Rep ρ (.sl (.top 0) 0 els.length) v) ∧ ∀ c, c ∈ els → ∃ ns : List Int, c = ns.map (AV.int .i64) ∧ ns.length = 12 ∧ ∀ n, n ∈ ns → (Lit.int .i64 n).wf = true := by
  obtain ⟨q, len0, cap0, rfl⟩ := okWide_slice ht hv
  obtain ⟨fuel, hf⟩ := h
  have hcs : (Value.slice q len0 cap0).cells.toList = [.slice q len0 cap0] := rfl
  rw [hcs] at hf
  have nilcase : ∀ (c : Option Addr), ∃ (els : List (List AV)) (L : Loc), els.all row12 = true ∧ (∀ ρ, ObjOk ρ L (flO (.top 0) (.view 0 12 els)) w) ∧ (L.nil = false → L.blk < w.heap.size) ∧ (∀ ρ : Env, ρ (.top 0) = L → Rep ρ (.sl (.top 0) 0 els.length) (.slice c 0 0)) ∧ ∀ c, c ∈ els → ∃ ns : List Int, c = ns.map (AV.int .i64) ∧ ns.length = 12 ∧ ∀ n, n ∈ ns → (Lit.int .i64 n).wf = true := fun c =>
    ⟨[], nilLoc, rfl, fun ρ => .inl ⟨rfl, rfl⟩, (fun h => by simp [nilLoc] at h), (fun ρ hρ => by
      rw [Rep]
      exact .inl ⟨by rw [hρ]; rfl, rfl, rfl, c, rfl⟩), fun c hc => by simp at hc⟩
  rcases open_slice ht hf with ⟨h0, _⟩ | ⟨a, len, cap, m, n, D, Pl, h0, hb, hl, hm, hmm, _, hx⟩
  · simp only [List.cons.injEq, and_true] at h0
    rw [h0]
    exact nilcase none
  · simp only [List.cons.injEq, and_true] at h0
    rw [h0]
    simp only [if_true] at hmm
    subst hmm
    by_cases hc0 : m = 0
    · subst hc0
      have : len = 0 := by omega
      subst this
      exact nilcase (some a)
    · rw [hce] at hx
      have cell : ∀ i, i < m → ∃ ns : List Int, (ns.length = 12 ∧ ∀ j, j < 12 → w.cell? (a.add (i * 12 + j)) = (ns[j]?).map (Value.int .i64)) ∧ ∀ n, n ∈ ns → (Lit.int .i64 n).wf = true := fun i hi => by
        obtain ⟨cs', g1, g2⟩ := hx i hi
        obtain ⟨_, g3, g4⟩ := World.cells?_some g1
        obtain ⟨_, g6⟩ := flatI_ints 6 e 12 n cs' _ hfl g2
        obtain ⟨f, hf⟩ := choose_lt (α := Int) (n := 12) (p := fun j n => cs'[j]? = some (.int .i64 n) ∧ (Lit.int .i64 n).wf = true) g6
        refine ⟨(List.range 12).map f, ⟨by rw [List.length_map, List.length_range], fun j hj => ?_⟩, fun n hn => ?_⟩
        · have := g4 j hj
          rw [add_add] at this
          rw [this, (hf j hj).1, List.getElem?_map, List.getElem?_range hj]; rfl
        · obtain ⟨j, hj, rfl⟩ := List.mem_map.1 hn
          exact (hf j (List.mem_range.1 hj)).2
      obtain ⟨F, hF0⟩ := choose_lt (α := List Int) (n := m) (p := fun i ns => (ns.length = 12 ∧ ∀ j, j < 12 → w.cell? (a.add (i * 12 + j)) = (ns[j]?).map (Value.int .i64)) ∧ ∀ n, n ∈ ns → (Lit.int .i64 n).wf = true) cell
      have hF := fun i hi => (hF0 i hi).1
      have h00 : ∃ u, w.cell? (a.add 0) = some u := by
        obtain ⟨f1, f2⟩ := hF 0 (by omega)
        have := f2 0 (by omega)
        obtain ⟨k, hk⟩ : ∃ k, (F 0)[0]? = some k := ⟨_, List.getElem?_eq_getElem (by omega)⟩
        rw [hk] at this
        exact ⟨_, by simpa using this⟩
      obtain ⟨u0, hu0⟩ := h00
      have ha0 : a.add 0 = a := by simp [Addr.add]
      rw [ha0] at hu0
      have hsp : a.spot = none := by
        unfold World.cell? at hu0
        split at hu0
        · split at hu0
          · cases hu0
          · rename_i hs
            cases hsp : a.spot with
            | none => rfl
            | some s => rw [hsp] at hs; simp at hs
        · cases hu0
      obtain ⟨blk, off, spt⟩ := a
      simp only at hsp
      subst hsp
      have hblk := World.block_lt_of_cell? w _ hu0
      have hrow : ∀ i, i < len → row12 ((F i).map (AV.int .i64)) = true := fun i hi => row12_of (hF i (by omega)).1
      have hels : ((List.range len).map fun i => (F i).map (AV.int .i64)).all row12 = true := by
        rw [List.all_eq_true]
        intro c hc
        obtain ⟨i, hi, rfl⟩ := List.mem_map.1 hc
        exact hrow i (List.mem_range.1 hi)
      refine ⟨(List.range len).map fun i => (F i).map (AV.int .i64), ⟨blk, off, 12, m, false⟩, hels, fun ρ => ?_, fun _ => hblk, fun ρ hρ => ?_, fun c hc => ?_⟩
      · refine .inr ⟨rfl, rfl, by rw [List.length_map, List.length_range]; exact hl, fun i hi => ?_, fun i hi j v hv => ?_⟩
        · simp only [List.length_map, List.length_range] at hi
          rw [flC_length, List.getD_eq_getElem?_getD, List.getElem?_map, List.getElem?_range hi]
          simpa using (hF i (by omega)).1
        · simp only [List.length_map, List.length_range] at hi
          have e1 : ((List.range len).map fun i => (F i).map (AV.int .i64)).getD i [] = (F i).map (AV.int .i64) := by
            rw [List.getD_eq_getElem?_getD, List.getElem?_map, List.getElem?_range hi]; rfl
          rw [e1, flC_plain (datL_plain (row12_dat (hrow i hi))), List.getElem?_map] at hv
          cases hk : (F i)[j]? with
          | none => simp [hk] at hv
          | some k =>
            simp only [hk, Option.map_some, Option.some.injEq] at hv
            subst hv
            have hj : j < 12 := by rw [← (hF i (by omega)).1]; exact (List.getElem?_eq_some_iff.1 hk).1
            have := (hF i (by omega)).2 j hj
            rw [hk] at this
            refine ⟨.int .i64 k, ?_, by rw [Rep], rfl⟩
            rw [← Option.map_some, ← this]
            congr 1
            unfold Addr.add
            split
            · rename_i h0; simp [h0]
            · rfl
      · rw [Rep, List.length_map, List.length_range]
        refine .inr ⟨by rw [hρ], by rw [hρ, Nat.zero_add]; exact hl, off, by rw [hρ]; rfl, fun _ => by rw [hρ]; simp⟩
      · obtain ⟨i, hi, rfl⟩ := List.mem_map.1 hc
        have hi' := List.mem_range.1 hi
        exact ⟨F i, rfl, (hF i (by omega)).1, (hF0 i (by omega)).2⟩

/-- From a specification to a statement's call: one slice. -/
theorem rd_bool {P : Program} {f : FuncId} {d : List AV → List NObj → Option AV} {ok : ROk d} (hs : Sound P f (rdS d ok)) {els : List (List AV)} {L : Loc} {W : World} (hrows : els.all row12 = true) (hview : ∀ ρ, ObjOk ρ L (flO (.top 0) (.view 0 12 els)) W) (hb : L.nil = false → L.blk < W.heap.size)
    {avs : List AV} {vs : List Value} {b : Bool} {rd : List Nat} (h : rdF d avs (hk [(0, .view 0 12 els)]) 1 = some ⟨.bool b, [], rd⟩) (hrep : ∀ ρ : Env, ρ (.top 0) = L → RepL ρ avs vs) :
    Calls P f vs.toArray W fun e W' => e = .returned (.bool b) ∧ Below W.heap.size W W' := by
  have hcase : ∀ x : Nm, x = .top 0 ∨ getP (hk [(0, .view 0 12 els)]) x = .free := fun x => by
    by_cases hx : x = .top 0
    · exact .inl hx
    · right
      by_cases hr : x.root = 0
      · refine below_none (n := 0) (fun t j f => view_kid (sz := 12) (w := els) (fun j c hc => datL_plain (row12_dat (List.all_eq_true.1 hrows c (List.mem_of_getElem? hc)))) t j f) hr hx
      · refine getP_free (n := x.root) ?_ rfl
        simp [hk, hr]
  have h0 : HF (hk [(0, .view 0 12 els)]) (.top 0) = flO (.top 0) (.view 0 12 els) := by
    unfold HF
    rw [getP]; rfl
  have := hs.calls W noSc (fun ρ => ρ (.top 0) = L) (fun x => 1 ≤ x.mx) (hk [(0, .view 0 12 els)]) W avs vs 1 _ ⟨fun _ => L, rfl⟩ (fun ρ ρ' hρ he => by rw [he (.top 0) (by simp [Nm.mx])]; exact hρ) (fun x hx => by
      rcases hcase x with rfl | e
      · simp [Nm.mx] at hx
      · exact HF_free.2 e) (fun ρ ρ' h1 h2 x hx => by
      rcases hcase x with rfl | e
      · rw [h1, h2]
      · exact absurd (HF_free.2 e) hx)
    (fun ρ hρ => ⟨rfl, rfl, rfl, Nat.le_refl _, fun _ _ _ => rfl, fun x => by
        rcases hcase x with rfl | e
        · rw [h0, hρ]; exact hview ρ
        · rw [HF_free.2 e]; trivial, fun x hx => by
        rcases hcase x with rfl | e
        · rw [h0] at hx; exact hx.elim
        · rw [HF_free.2 e] at hx; exact hx.elim, fun x y hx => by
        rcases hcase x with rfl | e
        · rw [h0] at hx; exact hx.elim
        · rw [HF_free.2 e] at hx; exact hx.elim, fun x hx => by
        rcases hcase x with rfl | e
        · rw [h0, hρ] at hx
          rw [hρ]
          exact ⟨hb hx, fun h => h⟩
        · rw [HF_free.2 e] at hx; exact hx.elim, fun x hx => absurd hx (Nat.not_lt_zero x)⟩) (fun ρ hρ => hrep ρ hρ) h (fun x hx => hx.1)
  refine this.mono fun e W' ⟨v, g, he, hv⟩ => ?_
  obtain ⟨q1, q2⟩ := hv (fun x => if 1 ≤ x.mx then g x else L) (by simp [Nm.mx]) (fun x hx => by simp [hx.1])
  simp only [Rep] at q1
  subst q1
  exact ⟨he, q2.below⟩

end Go.W
