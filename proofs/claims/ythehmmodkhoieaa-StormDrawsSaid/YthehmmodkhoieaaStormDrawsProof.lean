/- 'StormDraws' answers true whatever the input. -/
import Derived.Test.YthehmmodkhoieaaRows
import Derived.Test.YthehmmodkhoieaaT13
import Derived.Test.YthehmmodkhoieaaVcW
namespace Go.Proofs.Ythehmmodkhoieaa.StormDrawsRow
open Go.ChangeShapes Go.WideShapes Go.ChangeAt Go.RowKit Go.Joins Go.Deep Go.Vc

theorem own : ownKnob Try.prog.godebug = none := by kernel_rfl
theorem laidOut : laidOutB Try.prog = true := by kernel_rfl

/-- A slice of integers that came in: where it lies, and what it holds. -/
theorem ints_in {H : Type} {enc : TypeId × Value → H} {P : Program} {w : World} {base : Nat} {held : Bool} {r : Reach} {b0 : Nat} {t e : TypeId} {k : IntKind} {v : Value} {d : DataW H} {p : List MemPlace} (ht : P.underlying t = some (.slice e)) (he : P.underlying e = some (.int k)) (hc : P.cellsOf e = 1)
    (hv : Value.okWide P w r b0 t v) (h : DataW.Trod enc P w base (fun _ => true) held t v d p) :
    ∃ (L : Vc.Loc) (n : Nat) (zs : List Int), n ≤ 9223372036854775807 ∧ (∀ z ∈ zs, (Lit.int k z).wf = true) ∧ n ≤ zs.length ∧ (∀ ρ : Env, ρ 0 = L → Rep ρ (.sl 0 0 n) v) ∧ (∀ ρ : Env, ρ 0 = L → ObjOk ρ L (.view 1 n (fun j => [.int k (zs.getD j 0)])) w) ∧ (L.nil = false → L.blk < w.heap.size) := by
  obtain ⟨a, len, cap, rfl⟩ := okWide_slice ht hv
  obtain ⟨fuel, hf⟩ := h
  rcases open_ints ht he hc hf with ⟨h1, h2⟩ | ⟨b, n, c, zs, h1, _, hle, hmax, hzl, hx, hcell, hwf⟩
  · simp [Value.cells] at h1
    obtain ⟨rfl, rfl, rfl⟩ := h1
    refine ⟨nilLoc, 0, [], by omega, by simp, by simp, fun ρ hρ => ?_, fun ρ hρ => .inl ⟨rfl, rfl⟩, fun h => by cases h⟩
    rw [Rep, hρ]
    exact .inl ⟨rfl, rfl, rfl, _, rfl⟩
  · simp [Value.cells] at h1
    obtain ⟨rfl, rfl, rfl⟩ := h1
    simp only [if_true] at hzl
    by_cases hc0 : cap = 0
    · subst hc0
      obtain rfl : len = 0 := by omega
      refine ⟨nilLoc, 0, [], by omega, by simp, by simp, fun ρ hρ => ?_, fun ρ hρ => .inl ⟨rfl, rfl⟩, fun h => by cases h⟩
      rw [Rep, hρ]
      exact .inl ⟨rfl, rfl, rfl, _, rfl⟩
    · have h0 := hcell 0 (by omega)
      have hsp : b.spot = none := by
        simp only [Addr.add, if_true] at h0
        simp only [World.cell?] at h0
        split at h0
        · cases hs : b.spot with
          | none => rfl
          | some q => simp [hs] at h0
        · cases h0
      obtain ⟨blk, off, sp⟩ := b
      simp only at hsp
      subst hsp
      have hb : blk < w.heap.size := by
        refine World.block_lt_of_cell? w (a := ⟨blk, off, none⟩) (u := .int k (zs.getD 0 0)) ?_
        simpa [Addr.add] using h0
      refine ⟨(⟨blk, off, 1, cap, false⟩ : Vc.Loc), len, zs, ?_, hwf, by omega, fun ρ hρ => ?_, fun ρ hρ => .inr ⟨rfl, rfl, hle, fun _ _ => rfl, fun i hi j v hv => ?_⟩, fun _ => hb⟩
      · have : maxLen ≤ 9223372036854775807 := by decide
        omega
      · rw [Rep, hρ]
        exact .inr ⟨rfl, by simpa using hle, off, by simp, fun _ => by simp⟩
      · have hj : j = 0 := by
          have := (List.getElem?_eq_some_iff.1 hv).1
          simpa using this
        subst hj
        simp at hv
        subst hv
        refine ⟨.int k (zs.getD i 0), ?_, by rw [Rep, List.getD_eq_getElem?_getD], rfl⟩
        have := hcell i (by omega)
        rw [Addr.add_mid] at this
        simpa using this

theorem walk (s : Int) (n : Nat) (zs : List Int) (hn : n ≤ 9223372036854775807) (hz : ∀ z ∈ zs, (Lit.int .i64 z).wf = true) (hl : n ≤ zs.length) (L : Vc.Loc) (v : Value) (W : World)
    (hrep : ∀ ρ : Env, ρ 0 = L → Rep ρ (.sl 0 0 n) v) (hok : ∀ ρ : Env, ρ 0 = L → ObjOk ρ L (.view 1 n (fun j => [.int .i64 (zs.getD j 0)])) W) (hblk : L.nil = false → L.blk < W.heap.size) :
    Calls Try.prog 3 #[.int .u64 s, v] W fun e W' => e = .returned (.bool true) ∧ Below W.heap.size W W' := by
  refine view_calls s3 (avs := [.int .u64 s, .sl 0 0 n]) (vs := [.int .u64 s, v]) (rd := [0]) ?_ (fun ρ hρ => ⟨_, _, rfl, by rw [Rep], _, _, rfl, hrep ρ hρ, rfl⟩) hok hblk
  have hall : allN n (fun j => rowIn [.int .i64 (zs.getD j 0)]) = true := allN_iff.2 fun j hj => by
    have hm : zs.getD j 0 ∈ zs := by
      rw [List.getD_eq_getElem?_getD, List.getElem?_eq_getElem (by omega)]
      exact List.getElem_mem _
    have := hz _ hm
    simp [Lit.wf, IntKind.has] at this
    simp [rowIn, rowInt, val1]
    have := this.2
    omega
  have hall2 : allN n (fun j => rowIn [AV.int .i64 (zs[j]?.getD 0)]) = true := by simpa only [List.getD_eq_getElem?_getD] using hall
  simp [scalV_fn, deep, d3, hall2, hn, mlNames]

set_option maxRecDepth 100000 in
theorem lifted (os : Os) (started : os.Started) (H : Type) (enc : TypeId × Value → H) :
    ReturnsInHanded {} Try.checked os 3 .any (Rows.stormDrawsSpec.pre6 enc Try.prog Try.f3 Rows.stormDrawsRow.domain false) (Rows.stormDrawsSpec.post enc Try.prog Try.f3 false true false false) := by
  refine returnsInHanded_of_change (C := Try.checked) own started (by kernel_rfl) Try.func3
    (ChangeSpec.witness6 (enc := enc) (C := Try.checked) false ⟨#[], #[.int .u64 0, .slice none 0 0], []⟩ 8 (by kernel_rfl) (by kernel_rfl) (by kernel_rfl) (by kernel_rfl)) ?_
  intro W base args ds gs before hval0 hW hcnd _
  have hval : ∀ (j : Nat) t v, Try.f3.params[j]? = some t → args[j]? = some v → Value.okWide Try.prog W .any base t v := hval0
  have hW' := hW
  obtain ⟨p, q, hA0, hV, rfl, hfz, hnd⟩ := hW
  have hA : DataW.TrodAll enc Try.prog W 0 (fun _ => true) true Try.f3.params.toList args.toList ds p := hA0
  rw [Try.params3] at hA hval
  obtain ⟨v0, vs0, d0, ds0, p0, q0, hargs, rfl, rfl, h0, r0⟩ := trodAll_cons hA
  obtain ⟨v1, vs1, d1, ds1, p1, q1, rfl, rfl, rfl, h1, r1⟩ := trodAll_cons r0
  obtain ⟨rfl, rfl, rfl⟩ := trodAll_nil r1
  obtain rfl : args = #[v0, v1] := by cases args; simp_all
  obtain ⟨rfl, rfl⟩ := trodVars_none hV
  have k0 := h0
  have k1 := h1
  have hlt : ∀ x ∈ p0 ++ (p1 ++ []) ++ [], x.block < W.heap.size := fun x hx => by simpa using hW'.lt x hx
  obtain ⟨a0, rfl, _, _, w0⟩ := open_int Try.underlying22 (hval 0 22 v0 rfl rfl) h0
  obtain ⟨L, n, zs, hn, hz, hl, hrep, hok, hblk⟩ := ints_in Try.underlying23 Try.underlying3 (by kernel_rfl) (hval 1 23 v1 rfl rfl) h1
  clear hA0 hval0
  refine (walk a0 n zs hn hz hl L v1 W hrep hok hblk).mono fun e W' ⟨he, hB⟩ => ?_
  subst he
  have carry : ∀ {t : TypeId} {v : Value} {d : DataW H} {ps : List MemPlace}, Try.prog.readableRec t = true → t < Try.prog.types.size → DataW.Trod enc Try.prog W 0 (fun _ => true) true t v d ps → (∀ x ∈ ps, x.block < W.heap.size) → DataW.Trod enc Try.prog W' 0 (fun b => decide (b < W.heap.size)) true t v d ps :=
    fun hr hrow h hl => Below.trod laidOut hr hrow h hB hl
  refine ⟨_, rfl, _, _, _, [], p0 ++ (p1 ++ []), [], hW', trodAll_cons_mk (shut_bool Try.underlying4 _) trodAll_mk0, ?_, rfl, hB.frame _, fun h => by cases h⟩
  exact trodAll_cons_mk (carry (by kernel_rfl) (of_decide_eq_true (by kernel_rfl)) k0 (fun x hx => hlt x (by simp [hx])))
    (trodAll_cons_mk (carry (by kernel_rfl) (of_decide_eq_true (by kernel_rfl)) k1 (fun x hx => hlt x (by simp [hx]))) trodAll_mk0)

theorem proved : Rows.StormDrawsSaid :=
  OpenClaim.holds_of_wide 3 Try.f3 rfl rfl rfl rfl rfl rfl rfl ⟨rfl, rfl, rfl, rfl, rfl⟩ rfl rfl rfl rfl rfl (by kernel_rfl) Try.func3 (by kernel_rfl)
    (of_decide_eq_true (by kernel_rfl)) (by unfold Func.isWrapper; first | (rw [if_pos (by decide +kernel)]; kernel_rfl) | (rw [if_neg (by decide +kernel)]; exact ⟨rfl, rfl⟩))
    (fun os started H enc _ => lifted os started H enc)

end Go.Proofs.Ythehmmodkhoieaa.StormDrawsRow
