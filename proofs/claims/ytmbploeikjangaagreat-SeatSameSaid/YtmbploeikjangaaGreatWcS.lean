/- A struct of integers and truths that ends in a slice of such structs, by value. -/
import Derived.Test.YtmbploeikjangaaGreatWcK
set_option linter.unusedSimpArgs false
set_option linter.unusedVariables false
namespace Go.W
open Go.ChangeShapes Go.WideShapes Go.ChangeAt Go.RowKit Go.Joins Go.Deep

/-- A slice of such structs that came. -/
theorem open_kindsT {H : Type} {enc : TypeId × Value → H} {P : Program} {w : World} {base fuel : Nat} {t e : TypeId} {cs : List Value} {x : DataW H × List MemPlace} (ht : P.underlying t = some (.slice e)) {ks : List Bool} {z : Nat} (hfl : flatB P 6 e = some ks) (hz : ks.length = z) (hz0 : 0 < z) (hce : P.cellsOf e = z) (hf : DataW.trod enc P w base (fun _ => true) true fuel t cs = some x) :
    ∃ (v : Value), cs = [v] ∧ ∃ (els : List (List AV)) (L : Loc), (∀ c, c ∈ els → rowK ks c) ∧ (∀ ρ nm, ObjOk ρ L (flO nm (.view 0 z els)) w) ∧ (L.nil = false → L.blk < w.heap.size) ∧ (∀ (ρ : Env) nm, ρ nm = L → Rep ρ (.sl nm 0 els.length) v) := by
  have nilcase : ∀ (c : Option Addr), ∃ (els : List (List AV)) (L : Loc), (∀ c, c ∈ els → rowK ks c) ∧ (∀ ρ nm, ObjOk ρ L (flO nm (.view 0 z els)) w) ∧ (L.nil = false → L.blk < w.heap.size) ∧ (∀ (ρ : Env) nm, ρ nm = L → Rep ρ (.sl nm 0 els.length) (.slice c 0 0)) := fun c =>
    ⟨[], nilLoc, fun c hc => by simp at hc, fun ρ nm => .inl ⟨rfl, rfl⟩, (fun h => by simp [nilLoc] at h), (fun ρ nm hρ => by
      rw [Rep]
      exact .inl ⟨by rw [hρ]; rfl, rfl, rfl, c, rfl⟩)⟩
  rcases open_slice ht hf with ⟨h0, _⟩ | ⟨a, len, cap, m, n, D, Pl, h0, hb, hl, hm, hmm, _, hx⟩
  · exact ⟨_, h0, nilcase none⟩
  · refine ⟨_, h0, ?_⟩
    simp only [if_true] at hmm
    subst hmm
    by_cases hc0 : m = 0
    · subst hc0
      have : len = 0 := by omega
      subst this
      exact nilcase (some a)
    · rw [hce] at hx
      have cell : ∀ i, i < m → ∃ f : Nat → AV, ∀ j, j < z → ∃ k v, ks[j]? = some k ∧ w.cell? (a.add (i * z + j)) = some v ∧ leafV k (f j) v := fun i hi => by
        obtain ⟨cs', g1, g2⟩ := hx i hi
        obtain ⟨_, g3, g4⟩ := World.cells?_some g1
        obtain ⟨_, g6⟩ := flatB_leaf 6 e ks n cs' _ hfl g2
        refine choose_lt (α := AV) (n := z) (p := fun j a' => ∃ k v, ks[j]? = some k ∧ w.cell? (a.add (i * z + j)) = some v ∧ leafV k a' v) fun j hj => ?_
        have hk := List.getElem?_eq_getElem (l := ks) (show j < ks.length by omega)
        obtain ⟨a', v, e1, e2⟩ := g6 j _ hk
        have := g4 j hj
        rw [add_add, e1] at this
        exact ⟨a', _, v, hk, this, e2⟩
      obtain ⟨F, hF⟩ := choose_lt (α := Nat → AV) (n := m) (p := fun i f => ∀ j, j < z → ∃ k v, ks[j]? = some k ∧ w.cell? (a.add (i * z + j)) = some v ∧ leafV k (f j) v) cell
      obtain ⟨k00, u0, _, hu0, _⟩ := hF 0 (by omega) 0 hz0
      rw [Nat.zero_mul, Nat.zero_add] at hu0
      have ha0 : a.add 0 = a := by simp [Addr.add]
      rw [ha0] at hu0
      have hsp : a.spot = none := by
        unfold World.cell? at hu0
        split at hu0
        · split at hu0
          · cases hu0
          · rename_i hs
            cases hsp : a.spot with
            | none => rfl
            | some s => rw [hsp] at hs; simp at hs
        · cases hu0
      obtain ⟨blk, off, spt⟩ := a
      simp only at hsp
      subst hsp
      have hblk := World.block_lt_of_cell? w _ hu0
      have hrow : ∀ i, i < m → rowK ks ((List.range z).map (F i)) := fun i hi => ⟨by rw [List.length_map, List.length_range, hz], fun j k hk => by
        have hj : j < z := by rw [← hz]; exact (List.getElem?_eq_some_iff.1 hk).1
        obtain ⟨k', v, e1, e2, e3⟩ := hF i hi j hj
        rw [hk] at e1
        simp only [Option.some.injEq] at e1
        subst e1
        exact ⟨F i j, v, by rw [List.getElem?_map, List.getElem?_range hj]; rfl, e3⟩⟩
      refine ⟨(List.range len).map fun i => (List.range z).map (F i), ⟨blk, off, z, m, false⟩, fun c hc => ?_, fun ρ nm => ?_, fun _ => hblk, fun ρ nm hρ => ?_⟩
      · obtain ⟨i, hi, rfl⟩ := List.mem_map.1 hc
        exact hrow i (by have := List.mem_range.1 hi; omega)
      · refine .inr ⟨rfl, rfl, by rw [List.length_map, List.length_range]; exact hl, fun i hi => ?_, fun i hi j v hv => ?_⟩
        · simp only [List.length_map, List.length_range] at hi
          rw [flC_length, List.getD_eq_getElem?_getD, List.getElem?_map, List.getElem?_range hi]
          show ((List.range z).map (F i)).length = z
          rw [List.length_map, List.length_range]
        · simp only [List.length_map, List.length_range] at hi
          have e1 : ((List.range len).map fun i => (List.range z).map (F i)).getD i [] = (List.range z).map (F i) := by
            rw [List.getD_eq_getElem?_getD, List.getElem?_map, List.getElem?_range hi]; rfl
          rw [e1, flC_plain (datL_plain (rowK_dat (hrow i (by omega)))), List.getElem?_map] at hv
          by_cases hj : j < z
          · rw [List.getElem?_range hj] at hv
            simp only [Option.map_some, Option.some.injEq] at hv
            subst hv
            obtain ⟨k, u, _, e3, e4⟩ := hF i (by omega) j hj
            refine ⟨u, ?_, leaf_rep e4, ?_⟩
            · rw [← e3]
              congr 1
              unfold Addr.add
              split
              · rename_i h0; simp [h0]
              · rfl
            · unfold leafV at e4
              split at e4
              · obtain ⟨b, _, hn⟩ := e4; rw [hn]; rfl
              · obtain ⟨n, _, hn, _⟩ := e4; rw [hn]; rfl
          · rw [List.getElem?_eq_none (by rw [List.length_range]; omega)] at hv
            simp only [Option.map_none, reduceCtorEq] at hv
      · rw [Rep, List.length_map, List.length_range]
        refine .inr ⟨by rw [hρ], by rw [hρ, Nat.zero_add]; exact hl, off, by rw [hρ]; rfl, fun _ => by rw [hρ]; simp⟩


theorem open_mix {H : Type} {enc : TypeId × Value → H} {P : Program} {w : World} {base b0 : Nat} {r : Reach} {t e : TypeId} {fs : Array Field} {f : Field} {m z : Nat} {ks ke : List Bool} {v : Value} {d : DataW H} {p : List MemPlace} (hs : P.underlying t = some (.struct fs)) (hpre : flatBs P (flatB P 6) (fs.toList.take m) 0 = some ks) (hlast : fs[m]? = some f) (hoff : f.offset = ks.length) (h1 : P.cellsOf f.type = 1) (hct : P.cellsOf t = ks.length + 1)
    (ht : P.underlying f.type = some (.slice e)) (hfl : flatB P 6 e = some ke) (hz : ke.length = z) (hz0 : 0 < z) (hce : P.cellsOf e = z) (hv : Value.okWide P w r b0 t v) (h : DataW.Trod enc P w base (fun _ => true) true t v d p) :
    ∃ (vs : Array Value) (c : List AV) (els : List (List AV)) (L : Loc), v = .agg vs ∧ rowK ks c ∧ (∀ c, c ∈ els → rowK ke c) ∧ (∀ ρ nm, ObjOk ρ L (flO nm (.view 0 z els)) w) ∧ (L.nil = false → L.blk < w.heap.size) ∧ ∀ (ρ : Env) nm, ρ nm = L → RepL ρ (c ++ [.sl nm 0 els.length]) vs.toList := by
  obtain ⟨cs, rfl, hsz⟩ := okWide_struct hs hv
  obtain ⟨fuel, hf⟩ := h
  obtain ⟨xs, n, _, _, hl, hxl, hg⟩ := DataW.trod_struct hs hf
  have hc : (Value.agg cs).cells.toList = cs.toList := rfl
  rw [hc] at hl hg
  have each : ∀ (i : Nat) (g : Field), fs[i]? = some g → ∃ x, DataW.trod enc P w base (fun _ => true) true n g.type ((cs.toList.drop g.offset).take (P.cellsOf g.type)) = some x := fun i g hi => by
    have h2 := hg i g hi
    have hlt : i < xs.length := by rw [hxl]; exact (Array.getElem?_eq_some_iff.1 hi).1
    rw [List.getElem?_eq_getElem hlt] at h2
    exact ⟨_, h2⟩
  have leaf := flatBs_leaf (P := P) (w := w) (enc := enc) (base := base) (spare := fun _ => true) (held := true) (fun t k fuel cs x => flatB_leaf 6 t k fuel cs x) (cs := cs.toList) (fs.toList.take m) 0 ks hpre fun g hgm => by
    obtain ⟨i, hi⟩ := List.getElem?_of_mem (List.mem_of_mem_take hgm)
    obtain ⟨x, hx⟩ := each i g (by rw [← Array.getElem?_toList]; exact hi)
    exact ⟨n, x, hx⟩
  obtain ⟨F, hF⟩ := choose_lt (α := AV) (n := ks.length) (p := fun j a => ∃ k u, ks[j]? = some k ∧ cs.toList[j]? = some u ∧ leafV k a u) fun j hj => by
    obtain ⟨a, u, e1, e2⟩ := leaf j _ (List.getElem?_eq_getElem hj)
    rw [Nat.zero_add] at e1
    exact ⟨a, _, u, List.getElem?_eq_getElem hj, e1, e2⟩
  obtain ⟨x, hx⟩ := each m f hlast
  rw [hoff, h1] at hx
  obtain ⟨u, hu, els, L, q1, q2, q3, q4⟩ := open_kindsT ht hfl hz hz0 hce hx
  have hlen : cs.toList.length = ks.length + 1 := by rw [hl, hct]
  refine ⟨cs, (List.range ks.length).map F, els, L, rfl, ⟨by rw [List.length_map, List.length_range], fun j k hk => ?_⟩, q1, q2, q3, fun ρ nm hρ => ?_⟩
  · have hj := (List.getElem?_eq_some_iff.1 hk).1
    obtain ⟨k', u', e1, _, e3⟩ := hF j hj
    rw [hk] at e1
    simp only [Option.some.injEq] at e1
    subst e1
    exact ⟨F j, u', by rw [List.getElem?_map, List.getElem?_range hj]; rfl, e3⟩
  · have hsplit : cs.toList = cs.toList.take ks.length ++ [u] := by
      have h3 := List.take_append_drop ks.length cs.toList
      have h4 : (cs.toList.drop ks.length).length = 1 := by rw [List.length_drop]; omega
      rw [List.take_of_length_le (by omega)] at hu
      rw [← hu]; exact h3.symm
    rw [hsplit]
    refine RepL.append (RepL.of_get _ _ (by rw [List.length_take, List.length_map, List.length_range]; omega) fun j a hj => ?_) (RepL.cons (q4 ρ nm hρ) rfl)
    rw [List.getElem?_map] at hj
    by_cases hjl : j < ks.length
    · rw [List.getElem?_range hjl] at hj
      simp only [Option.map_some, Option.some.injEq] at hj
      subst hj
      obtain ⟨k, u', _, e2, e3⟩ := hF j hjl
      exact ⟨u', by rw [List.getElem?_take, if_pos hjl]; exact e2, leaf_rep e3⟩
    · rw [List.getElem?_eq_none (by rw [List.length_range]; omega)] at hj
      cases hj

/-- From a specification of trees to a statement's call: some slices that are only read. -/
theorem nest_boolK {P : Program} {f : FuncId} {ms : Modes} {d : List AV → Option Ans} {ok : NOk ms d} (hs : Sound P f (nestS ms d ok)) {W : World} {hl : HL} {m : Nat} {Ls : Nat → Loc}
    (hv : ∀ k, k < m → ∃ sz els, hk hl k = .view 0 sz els ∧ (∀ c, c ∈ els → datL c = true) ∧ (∀ ρ, ObjOk ρ (Ls k) (flO (.top k) (.view 0 sz els)) W) ∧ ((Ls k).nil = false → (Ls k).blk < W.heap.size)) (hf : ∀ k, m ≤ k → hk hl k = .free)
    {avs : List AV} {vs : List Value} {b : Bool} {hs' : List (Nat × NObj)} {rd : List Nat} {n : Nat} (h : nestF ms d avs (hk hl) m = some ⟨.bool b, hs', rd, n⟩) (hrep : ∀ ρ : Env, (∀ k, k < m → ρ (.top k) = Ls k) → RepL ρ avs vs) :
    Calls P f vs.toArray W fun e W' => e = .returned (.bool b) ∧ Below W.heap.size W W' := by
  have hcase : ∀ x : Nm, (∃ k, k < m ∧ x = .top k) ∨ getP (hk hl) x = .free := fun x => by
    by_cases hr : x.root < m
    · obtain ⟨sz, els, h1, h2, _⟩ := hv x.root hr
      by_cases hx : x = .top x.root
      · exact .inl ⟨x.root, hr, hx⟩
      · exact .inr (below_none (n := x.root) (fun t j f => by
          rw [h1]
          exact view_kid (sz := sz) (w := els) (fun j c hc => datL_plain (h2 c (List.mem_of_getElem? hc))) t j f) rfl hx)
    · exact .inr (getP_free (n := x.root) (hf _ (by omega)) rfl)
  have h0 : ∀ k, k < m → ∃ sz els, hk hl k = .view 0 sz els ∧ HF (hk hl) (.top k) = flO (.top k) (.view 0 sz els) ∧ (∀ ρ, ObjOk ρ (Ls k) (flO (.top k) (.view 0 sz els)) W) ∧ ((Ls k).nil = false → (Ls k).blk < W.heap.size) := fun k hk0 => by
    obtain ⟨sz, els, h1, _, h2, h3⟩ := hv k hk0
    refine ⟨sz, els, h1, ?_, h2, h3⟩
    unfold HF
    rw [getP, h1]
  have := (hs.calls W noSc (fun ρ => ∀ k, k < m → ρ (.top k) = Ls k) (fun x => m ≤ x.mx) (hk hl) W avs vs m _ ⟨fun x => Ls x.root, fun k _ => rfl⟩ (fun ρ ρ' hρ he k hk0 => by rw [he (.top k) (by simp [Nm.mx]; omega)]; exact hρ k hk0) (fun x hx => by
      rcases hcase x with ⟨k, hk0, rfl⟩ | e
      · simp only [Nm.mx] at hx; omega
      · exact HF_free.2 e) (fun ρ ρ' h1 h2 x hx => by
      rcases hcase x with ⟨k, hk0, rfl⟩ | e
      · rw [h1 k hk0, h2 k hk0]
      · exact absurd (HF_free.2 e) hx)
    (fun ρ hρ => ⟨rfl, rfl, rfl, Nat.le_refl _, fun _ _ _ => rfl, fun x => by
        rcases hcase x with ⟨k, hk0, rfl⟩ | e
        · obtain ⟨sz, els, g1, g2, g3, g4⟩ := h0 k hk0
          rw [g2, hρ k hk0]; exact g3 ρ
        · rw [HF_free.2 e]; trivial, fun x hx => by
        rcases hcase x with ⟨k, hk0, rfl⟩ | e
        · obtain ⟨sz, els, g1, g2, g3, g4⟩ := h0 k hk0
          rw [g2] at hx; exact hx.elim
        · rw [HF_free.2 e] at hx; exact hx.elim, fun x y hx => by
        rcases hcase x with ⟨k, hk0, rfl⟩ | e
        · obtain ⟨sz, els, g1, g2, g3, g4⟩ := h0 k hk0
          rw [g2] at hx; exact hx.elim
        · rw [HF_free.2 e] at hx; exact hx.elim, fun x hx => by
        rcases hcase x with ⟨k, hk0, rfl⟩ | e
        · obtain ⟨sz, els, g1, g2, g3, g4⟩ := h0 k hk0
          rw [g2, hρ k hk0] at hx
          rw [hρ k hk0]
          exact ⟨g4 hx, fun h => h⟩
        · rw [HF_free.2 e] at hx; exact hx.elim, fun x hx => absurd hx (Nat.not_lt_zero x)⟩) (fun ρ hρ => hrep ρ hρ) h (fun x hx => hx.1)).1
  refine this.mono fun e W' ⟨v, g, he, hv'⟩ => ?_
  obtain ⟨q1, q2⟩ := hv' (fun x => if m ≤ x.mx then g x else Ls x.root) (fun k hk0 => by rw [if_neg (by simp only [Nm.mx]; omega)]; rfl) (fun x hx => by simp [hx.1])
  simp only [Rep] at q1
  subst q1
  exact ⟨he, q2.below⟩

end Go.W
