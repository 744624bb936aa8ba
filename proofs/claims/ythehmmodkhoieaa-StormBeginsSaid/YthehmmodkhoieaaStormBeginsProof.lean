/- 'StormBegins' answers true whatever the input. -/
import Derived.Test.YthehmmodkhoieaaRows
import Derived.Test.YthehmmodkhoieaaWtP
import Derived.Test.YthehmmodkhoieaaWcA
namespace Go.Proofs.Ythehmmodkhoieaa.StormBeginsRow
open Go.ChangeShapes Go.WideShapes Go.ChangeAt Go.RowKit Go.Joins Go.Deep Go.W

theorem own : ownKnob Try.prog.godebug = none := by kernel_rfl
theorem laidOut : laidOutB Try.prog = true := by kernel_rfl

theorem walk (x0 : List Int) (h0 : x0.length = 7) (x1 : Int) (x2 : List Int) (h2 : x2.length = 6) (x3 : Int) (b3 : 0 ≤ x3 ∧ x3 ≤ 255) (x4 : Int) (b4 : 0 ≤ x4 ∧ x4 ≤ 255) (W : World) :
    Calls Try.prog 12 #[.agg (x0.map (Value.int .i64)).toArray, .int .u64 x1, .agg (x2.map (Value.int .i64)).toArray, .int .u8 x3, .int .u8 x4] W fun e W' => e = .returned (.bool true) ∧ Below W.heap.size W W' := by
  match x0, h0, x2, h2 with
  | [y0_0, y0_1, y0_2, y0_3, y0_4, y0_5, y0_6], _, [y2_0, y2_1, y2_2, y2_3, y2_4, y2_5], _ =>
    exact nest_bool s12 (avs := [.agg [.int .i64 y0_0, .int .i64 y0_1, .int .i64 y0_2, .int .i64 y0_3, .int .i64 y0_4, .int .i64 y0_5, .int .i64 y0_6], .int .u64 x1, .agg [.int .i64 y2_0, .int .i64 y2_1, .int .i64 y2_2, .int .i64 y2_3, .int .i64 y2_4, .int .i64 y2_5], .int .u8 x3, .int .u8 x4]) (vs := [.agg #[.int .i64 y0_0, .int .i64 y0_1, .int .i64 y0_2, .int .i64 y0_3, .int .i64 y0_4, .int .i64 y0_5, .int .i64 y0_6], .int .u64 x1, .agg #[.int .i64 y2_0, .int .i64 y2_1, .int .i64 y2_2, .int .i64 y2_3, .int .i64 y2_4, .int .i64 y2_5], .int .u8 x3, .int .u8 x4]) rfl (by simp [d12, b3, b4]) (fun ρ => RepL.cons (by rw [Rep]; exact ⟨_, rfl, by simp [RepL, Rep]⟩) (RepL.cons (by simp [Rep]) (RepL.cons (by rw [Rep]; exact ⟨_, rfl, by simp [RepL, Rep]⟩) (RepL.cons (by simp [Rep]) (RepL.cons (by simp [Rep]) rfl))))) W

set_option maxRecDepth 100000 in
theorem lifted (os : Os) (started : os.Started) (H : Type) (enc : TypeId × Value → H) :
    ReturnsInHanded {} Try.checked os 12 .any (Rows.stormBeginsSpec.pre6 enc Try.prog Try.f12 Rows.stormBeginsRow.domain false) (Rows.stormBeginsSpec.post enc Try.prog Try.f12 false true false false) := by
  refine returnsInHanded_of_change (C := Try.checked) own started (by kernel_rfl) Try.func12
    (ChangeSpec.witness6 (enc := enc) (C := Try.checked) false ⟨#[], #[.agg #[.int .i64 0, .int .i64 0, .int .i64 0, .int .i64 0, .int .i64 0, .int .i64 0, .int .i64 0], .int .u64 0, .agg #[.int .i64 0, .int .i64 0, .int .i64 0, .int .i64 0, .int .i64 0, .int .i64 0], .int .u8 0, .int .u8 0], []⟩ 8 (by kernel_rfl) (by kernel_rfl) (by kernel_rfl) (by kernel_rfl)) ?_
  intro W base args ds gs before hval0 hW hcnd _
  have hval : ∀ (j : Nat) t v, Try.f12.params[j]? = some t → args[j]? = some v → Value.okWide Try.prog W .any base t v := hval0
  have hW' := hW
  obtain ⟨p, q, hA0, hV, rfl, hfz, hnd⟩ := hW
  have hA : DataW.TrodAll enc Try.prog W 0 (fun _ => true) true Try.f12.params.toList args.toList ds p := hA0
  rw [Try.params12] at hA hval
  obtain ⟨v0, vs0, d0, ds0, p0, q0, hargs, rfl, rfl, h0, r0⟩ := trodAll_cons hA
  obtain ⟨v1, vs1, d1, ds1, p1, q1, rfl, rfl, rfl, h1, r1⟩ := trodAll_cons r0
  obtain ⟨v2, vs2, d2, ds2, p2, q2, rfl, rfl, rfl, h2, r2⟩ := trodAll_cons r1
  obtain ⟨v3, vs3, d3, ds3, p3, q3, rfl, rfl, rfl, h3, r3⟩ := trodAll_cons r2
  obtain ⟨v4, vs4, d4, ds4, p4, q4, rfl, rfl, rfl, h4, r4⟩ := trodAll_cons r3
  obtain ⟨rfl, rfl, rfl⟩ := trodAll_nil r4
  obtain rfl : args = #[v0, v1, v2, v3, v4] := by cases args; simp_all
  obtain ⟨rfl, rfl⟩ := trodVars_none hV
  have k0 := h0
  have k1 := h1
  have k2 := h2
  have k3 := h3
  have k4 := h4
  have hlt : ∀ x ∈ p0 ++ (p1 ++ (p2 ++ (p3 ++ (p4 ++ [])))) ++ [], x.block < W.heap.size := fun x hx => by simpa using hW'.lt x hx
  obtain ⟨x0, rfl, n0, _⟩ := open_off Try.underlying50 (by kernel_rfl) (by kernel_rfl) (m := 7) (by kernel_rfl) (hval 0 50 v0 rfl rfl) h0
  obtain ⟨a1, rfl, _, _, w1⟩ := open_int Try.underlying22 (hval 1 22 v1 rfl rfl) h1
  obtain ⟨x2, rfl, n2, _⟩ := open_off Try.underlying52 (by kernel_rfl) (by kernel_rfl) (m := 6) (by kernel_rfl) (hval 2 52 v2 rfl rfl) h2
  obtain ⟨a3, rfl, _, _, w3⟩ := open_int Try.underlying5 (hval 3 5 v3 rfl rfl) h3
  have b3 : 0 ≤ a3 ∧ a3 ≤ 255 := by simpa [Lit.wf, IntKind.min, IntKind.max, IntKind.bits, IntKind.signed] using w3
  obtain ⟨a4, rfl, _, _, w4⟩ := open_int Try.underlying5 (hval 4 5 v4 rfl rfl) h4
  have b4 : 0 ≤ a4 ∧ a4 ≤ 255 := by simpa [Lit.wf, IntKind.min, IntKind.max, IntKind.bits, IntKind.signed] using w4
  clear hA0 hval0
  refine (walk x0 n0 a1 x2 n2 a3 b3 a4 b4 W).mono fun e W' ⟨he, hB⟩ => ?_
  subst he
  have carry : ∀ {t : TypeId} {v : Value} {d : DataW H} {ps : List MemPlace}, Try.prog.readableRec t = true → t < Try.prog.types.size → DataW.Trod enc Try.prog W 0 (fun _ => true) true t v d ps → (∀ x ∈ ps, x.block < W.heap.size) → DataW.Trod enc Try.prog W' 0 (fun b => decide (b < W.heap.size)) true t v d ps :=
    fun hr hrow h hl => Below.trod laidOut hr hrow h hB hl
  refine ⟨_, rfl, _, _, _, [], p0 ++ (p1 ++ (p2 ++ (p3 ++ (p4 ++ [])))), [], hW', trodAll_cons_mk (shut_bool Try.underlying4 _) trodAll_mk0, ?_, rfl, hB.frame _, fun h => by cases h⟩
  exact trodAll_cons_mk (carry (by kernel_rfl) (of_decide_eq_true (by kernel_rfl)) k0 (fun x hx => hlt x (by simp [hx])))
    (trodAll_cons_mk (carry (by kernel_rfl) (of_decide_eq_true (by kernel_rfl)) k1 (fun x hx => hlt x (by simp [hx])))
    (trodAll_cons_mk (carry (by kernel_rfl) (of_decide_eq_true (by kernel_rfl)) k2 (fun x hx => hlt x (by simp [hx])))
    (trodAll_cons_mk (carry (by kernel_rfl) (of_decide_eq_true (by kernel_rfl)) k3 (fun x hx => hlt x (by simp [hx])))
    (trodAll_cons_mk (carry (by kernel_rfl) (of_decide_eq_true (by kernel_rfl)) k4 (fun x hx => hlt x (by simp [hx])))
    trodAll_mk0))))

theorem proved : Rows.StormBeginsSaid :=
  OpenClaim.holds_of_wide 12 Try.f12 rfl rfl rfl rfl rfl rfl rfl ⟨rfl, rfl, rfl, rfl, rfl⟩ rfl rfl rfl rfl rfl (by kernel_rfl) Try.func12 (by kernel_rfl)
    (of_decide_eq_true (by kernel_rfl)) (by unfold Func.isWrapper; first | (rw [if_pos (by decide +kernel)]; kernel_rfl) | (rw [if_neg (by decide +kernel)]; exact ⟨rfl, rfl⟩))
    (fun os started H enc _ => lifted os started H enc)

end Go.Proofs.Ythehmmodkhoieaa.StormBeginsRow
