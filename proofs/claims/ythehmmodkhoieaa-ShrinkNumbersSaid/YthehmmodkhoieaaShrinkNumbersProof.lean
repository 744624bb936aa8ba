/- 'ShrinkNumbers' answers true whatever the input. -/
import Derived.Test.YthehmmodkhoieaaRows
import Derived.Test.YthehmmodkhoieaaWsJ
import Derived.Test.YthehmmodkhoieaaWcB
namespace Go.Proofs.Ythehmmodkhoieaa.ShrinkNumbersRow
open Go.ChangeShapes Go.WideShapes Go.ChangeAt Go.RowKit Go.Joins Go.Deep Go.W

theorem own : ownKnob Try.prog.godebug = none := by kernel_rfl
theorem laidOut : laidOutB Try.prog = true := by kernel_rfl

theorem walk {els : List (List AV)} {L : Go.W.Loc} {v0 : Value} {W : World} (hrows : els.all row12 = true) (hview : ∀ ρ, ObjOk ρ L (flO (.top 0) (.view 0 12 els)) W) (hb : L.nil = false → L.blk < W.heap.size) (hrep : ∀ ρ : Env, ρ (.top 0) = L → Rep ρ (.sl (.top 0) 0 els.length) v0) (hnum : els.all numOk = true) (x1 x2 : Int) :
    Calls Try.prog 10 #[v0, .int .i64 x1, .int .i64 x2] W fun e W' => e = .returned (.bool true) ∧ Below W.heap.size W W' := by
  have hdat := rows_dat hrows
  exact rd_bool s10 hrows hview hb (avs := [.sl (.top 0) 0 els.length, .int .i64 x1, .int .i64 x2]) (vs := [v0, .int .i64 x1, .int .i64 x2]) (rd := [0]) (by simp [d10, hrows, hdat, hnum]) (fun ρ hρ => RepL.cons (hrep ρ hρ) (RepL.cons (by simp [Rep]) (RepL.cons (by simp [Rep]) rfl)))

set_option maxRecDepth 100000 in
theorem lifted (os : Os) (started : os.Started) (H : Type) (enc : TypeId × Value → H) :
    ReturnsInHanded {} Try.checked os 10 .any (Rows.shrinkNumbersSpec.pre6 enc Try.prog Try.f10 Rows.shrinkNumbersRow.domain false) (Rows.shrinkNumbersSpec.post enc Try.prog Try.f10 false true false false) := by
  refine returnsInHanded_of_change (C := Try.checked) own started (by kernel_rfl) Try.func10
    (ChangeSpec.witness6 (enc := enc) (C := Try.checked) false ⟨#[], #[.slice none 0 0, .int .i64 0, .int .i64 0], []⟩ 8 (by kernel_rfl) (by kernel_rfl) (by kernel_rfl) (by kernel_rfl)) ?_
  intro W base args ds gs before hval0 hW hcnd _
  have hval : ∀ (j : Nat) t v, Try.f10.params[j]? = some t → args[j]? = some v → Value.okWide Try.prog W .any base t v := hval0
  have hW' := hW
  obtain ⟨p, q, hA0, hV, rfl, hfz, hnd⟩ := hW
  have hA : DataW.TrodAll enc Try.prog W 0 (fun _ => true) true Try.f10.params.toList args.toList ds p := hA0
  rw [Try.params10] at hA hval
  obtain ⟨v0, vs0, d0, ds0, p0, q0, hargs, rfl, rfl, h0, r0⟩ := trodAll_cons hA
  obtain ⟨v1, vs1, d1, ds1, p1, q1, rfl, rfl, rfl, h1, r1⟩ := trodAll_cons r0
  obtain ⟨v2, vs2, d2, ds2, p2, q2, rfl, rfl, rfl, h2, r2⟩ := trodAll_cons r1
  obtain ⟨rfl, rfl, rfl⟩ := trodAll_nil r2
  obtain rfl : args = #[v0, v1, v2] := by cases args; simp_all
  obtain ⟨rfl, rfl⟩ := trodVars_none hV
  have k0 := h0
  have k1 := h1
  have k2 := h2
  have hlt : ∀ x ∈ p0 ++ (p1 ++ (p2 ++ [])) ++ [], x.block < W.heap.size := fun x hx => by simpa using hW'.lt x hx
  obtain ⟨els, L, hrows, hview, hblk, hrep, hwf⟩ := open_rows Try.underlying69 (by kernel_rfl) (by kernel_rfl) (hval 0 69 v0 rfl rfl) h0
  have hnum : els.all numOk = true := List.all_eq_true.2 fun c hc => by
    obtain ⟨ns, rfl, hl, hw⟩ := hwf c hc
    match ns, hl with
    | [_, _, n2, _, _, _, _, _, _, _, _, _], _ =>
      have := hw n2 (by simp)
      have h2 : -9223372036854775808 ≤ n2 ∧ n2 ≤ 9223372036854775807 := by simpa [Lit.wf, IntKind.min, IntKind.max, IntKind.bits, IntKind.signed] using this
      exact decide_eq_true h2.2
  obtain ⟨a1, rfl, _, _, w1⟩ := open_int Try.underlying3 (hval 1 3 v1 rfl rfl) h1
  obtain ⟨a2, rfl, _, _, w2⟩ := open_int Try.underlying3 (hval 2 3 v2 rfl rfl) h2
  clear hA0 hval0
  refine (walk hrows hview hblk hrep hnum a1 a2).mono fun e W' ⟨he, hB⟩ => ?_
  subst he
  have carry : ∀ {t : TypeId} {v : Value} {d : DataW H} {ps : List MemPlace}, Try.prog.readableRec t = true → t < Try.prog.types.size → DataW.Trod enc Try.prog W 0 (fun _ => true) true t v d ps → (∀ x ∈ ps, x.block < W.heap.size) → DataW.Trod enc Try.prog W' 0 (fun b => decide (b < W.heap.size)) true t v d ps :=
    fun hr hrow h hl => Below.trod laidOut hr hrow h hB hl
  refine ⟨_, rfl, _, _, _, [], p0 ++ (p1 ++ (p2 ++ [])), [], hW', trodAll_cons_mk (shut_bool Try.underlying4 _) trodAll_mk0, ?_, rfl, hB.frame _, fun h => by cases h⟩
  exact trodAll_cons_mk (carry (by kernel_rfl) (of_decide_eq_true (by kernel_rfl)) k0 (fun x hx => hlt x (by simp [hx])))
    (trodAll_cons_mk (carry (by kernel_rfl) (of_decide_eq_true (by kernel_rfl)) k1 (fun x hx => hlt x (by simp [hx])))
    (trodAll_cons_mk (carry (by kernel_rfl) (of_decide_eq_true (by kernel_rfl)) k2 (fun x hx => hlt x (by simp [hx])))
    trodAll_mk0))

theorem proved : Rows.ShrinkNumbersSaid :=
  OpenClaim.holds_of_wide 10 Try.f10 rfl rfl rfl rfl rfl rfl rfl ⟨rfl, rfl, rfl, rfl, rfl⟩ rfl rfl rfl rfl rfl (by kernel_rfl) Try.func10 (by kernel_rfl)
    (of_decide_eq_true (by kernel_rfl)) (by unfold Func.isWrapper; first | (rw [if_pos (by decide +kernel)]; kernel_rfl) | (rw [if_neg (by decide +kernel)]; exact ⟨rfl, rfl⟩))
    (fun os started H enc _ => lifted os started H enc)

end Go.Proofs.Ythehmmodkhoieaa.ShrinkNumbersRow
