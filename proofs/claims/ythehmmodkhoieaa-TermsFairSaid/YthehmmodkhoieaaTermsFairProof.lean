/- 'TermsFair' answers true whatever the input. -/
import Derived.Test.YthehmmodkhoieaaRows
import Derived.Test.YthehmmodkhoieaaT4
import Derived.Test.YthehmmodkhoieaaVcT
namespace Go.Proofs.Ythehmmodkhoieaa.TermsFairRow
open Go.ChangeShapes Go.WideShapes Go.ChangeAt Go.RowKit Go.Joins Go.Deep Go.Vc

theorem own : ownKnob Try.prog.godebug = none := by kernel_rfl
theorem laidOut : laidOutB Try.prog = true := by kernel_rfl

theorem wfk {n : Int} (h : (Lit.int .i64 n).wf = true) : -9223372036854775808 ≤ n ∧ n ≤ 9223372036854775807 := by
  simp only [Lit.wf, Bool.and_eq_true, decide_eq_true_eq] at h
  exact ⟨h.1, h.2⟩

theorem walk (x0 x1 : List Int) (h0 : x0.length = 5) (h1 : x1.length = 5) (x y : Int) (hx : -9223372036854775808 ≤ x ∧ x ≤ 9223372036854775807) (W : World) :
    Calls Try.prog 4 #[.agg (x0.map (Value.int .i64)).toArray, .agg (x1.map (Value.int .i64)).toArray, .int .i64 x, .int .i64 y] W fun e W' => e = .returned (.bool true) ∧ Below W.heap.size W W' := by
  match x0, h0, x1, h1 with
  | [k, s, p, m, e], _, [k', s', p', m', e'], _ =>
    exact scal_calls s4 (avs := [Value.agg #[.int .i64 k, .int .i64 s, .int .i64 p, .int .i64 m, .int .i64 e], .agg #[.int .i64 k', .int .i64 s', .int .i64 p', .int .i64 m', .int .i64 e'], .int .i64 x, .int .i64 y].map ofV)
      (vs := [.agg #[.int .i64 k, .int .i64 s, .int .i64 p, .int .i64 m, .int .i64 e], .agg #[.int .i64 k', .int .i64 s', .int .i64 p', .int .i64 m', .int .i64 e'], .int .i64 x, .int .i64 y]) (if_pos hx) (fun ρ => RepL_ofV ρ _) W

set_option maxRecDepth 100000 in
theorem lifted (os : Os) (started : os.Started) (H : Type) (enc : TypeId × Value → H) :
    ReturnsInHanded {} Try.checked os 4 .any (Rows.termsFairSpec.pre6 enc Try.prog Try.f4 Rows.termsFairRow.domain false) (Rows.termsFairSpec.post enc Try.prog Try.f4 false true false false) := by
  refine returnsInHanded_of_change (C := Try.checked) own started (by kernel_rfl) Try.func4
    (ChangeSpec.witness6 (enc := enc) (C := Try.checked) false ⟨#[], #[.agg #[.int .i64 0, .int .i64 0, .int .i64 0, .int .i64 0, .int .i64 0], .agg #[.int .i64 0, .int .i64 0, .int .i64 0, .int .i64 0, .int .i64 0], .int .i64 0, .int .i64 0], []⟩ 8 (by kernel_rfl) (by kernel_rfl) (by kernel_rfl) (by kernel_rfl)) ?_
  intro W base args ds gs before hval0 hW hcnd _
  have hval : ∀ (j : Nat) t v, Try.f4.params[j]? = some t → args[j]? = some v → Value.okWide Try.prog W .any base t v := hval0
  have hW' := hW
  obtain ⟨p, q, hA0, hV, rfl, hfz, hnd⟩ := hW
  have hA : DataW.TrodAll enc Try.prog W 0 (fun _ => true) true Try.f4.params.toList args.toList ds p := hA0
  rw [Try.params4] at hA hval
  obtain ⟨v0, vs0, d0, ds0, p0, q0, hargs, rfl, rfl, h0, r0⟩ := trodAll_cons hA
  obtain ⟨v1, vs1, d1, ds1, p1, q1, rfl, rfl, rfl, h1, r1⟩ := trodAll_cons r0
  obtain ⟨v2, vs2, d2, ds2, p2, q2, rfl, rfl, rfl, h2, r2⟩ := trodAll_cons r1
  obtain ⟨v3, vs3, d3, ds3, p3, q3, rfl, rfl, rfl, h3, r3⟩ := trodAll_cons r2
  obtain ⟨rfl, rfl, rfl⟩ := trodAll_nil r3
  obtain rfl : args = #[v0, v1, v2, v3] := by cases args; simp_all
  obtain ⟨rfl, rfl⟩ := trodVars_none hV
  have k0 := h0
  have k1 := h1
  have k2 := h2
  have k3 := h3
  have hlt : ∀ x ∈ p0 ++ (p1 ++ (p2 ++ (p3 ++ []))) ++ [], x.block < W.heap.size := fun x hx => by simpa using hW'.lt x hx
  obtain ⟨x0, rfl, n0, _⟩ := open_off Try.underlying35 (by kernel_rfl) (by kernel_rfl) (m := 5) (by kernel_rfl) (hval 0 35 v0 rfl rfl) h0
  obtain ⟨x1, rfl, n1, _⟩ := open_off Try.underlying35 (by kernel_rfl) (by kernel_rfl) (m := 5) (by kernel_rfl) (hval 1 35 v1 rfl rfl) h1
  obtain ⟨a2, rfl, _, _, w2⟩ := open_int Try.underlying3 (hval 2 3 v2 rfl rfl) h2
  obtain ⟨a3, rfl, _, _, w3⟩ := open_int Try.underlying3 (hval 3 3 v3 rfl rfl) h3
  clear hA0 hval0
  refine (walk x0 x1 n0 n1 a2 a3 (wfk w2) W).mono fun e W' ⟨he, hB⟩ => ?_
  subst he
  have carry : ∀ {t : TypeId} {v : Value} {d : DataW H} {ps : List MemPlace}, Try.prog.readableRec t = true → t < Try.prog.types.size → DataW.Trod enc Try.prog W 0 (fun _ => true) true t v d ps → (∀ x ∈ ps, x.block < W.heap.size) → DataW.Trod enc Try.prog W' 0 (fun b => decide (b < W.heap.size)) true t v d ps :=
    fun hr hrow h hl => Below.trod laidOut hr hrow h hB hl
  refine ⟨_, rfl, _, _, _, [], p0 ++ (p1 ++ (p2 ++ (p3 ++ []))), [], hW', trodAll_cons_mk (shut_bool Try.underlying4 _) trodAll_mk0, ?_, rfl, hB.frame _, fun h => by cases h⟩
  exact trodAll_cons_mk (carry (by kernel_rfl) (of_decide_eq_true (by kernel_rfl)) k0 (fun x hx => hlt x (by simp [hx])))
    (trodAll_cons_mk (carry (by kernel_rfl) (of_decide_eq_true (by kernel_rfl)) k1 (fun x hx => hlt x (by simp [hx])))
    (trodAll_cons_mk (carry (by kernel_rfl) (of_decide_eq_true (by kernel_rfl)) k2 (fun x hx => hlt x (by simp [hx])))
    (trodAll_cons_mk (carry (by kernel_rfl) (of_decide_eq_true (by kernel_rfl)) k3 (fun x hx => hlt x (by simp [hx]))) trodAll_mk0)))

theorem proved : Rows.TermsFairSaid :=
  OpenClaim.holds_of_wide 4 Try.f4 rfl rfl rfl rfl rfl rfl rfl ⟨rfl, rfl, rfl, rfl, rfl⟩ rfl rfl rfl rfl rfl (by kernel_rfl) Try.func4 (by kernel_rfl)
    (of_decide_eq_true (by kernel_rfl)) (by unfold Func.isWrapper; first | (rw [if_pos (by decide +kernel)]; kernel_rfl) | (rw [if_neg (by decide +kernel)]; exact ⟨rfl, rfl⟩))
    (fun os started H enc _ => lifted os started H enc)

end Go.Proofs.Ythehmmodkhoieaa.TermsFairRow
