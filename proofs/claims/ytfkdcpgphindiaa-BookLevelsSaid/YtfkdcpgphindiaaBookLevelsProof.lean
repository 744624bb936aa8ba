/- 'BookLevels' answers true whatever the input. -/
import Derived.Test.YtfkdcpgphindiaaRows
import Derived.Test.YtfkdcpgphindiaaBbN
import Derived.Test.YtfkdcpgphindiaaBbP
set_option linter.unusedSimpArgs false
set_option linter.unusedVariables false
namespace Go.Proofs.Ytfkdcpgphindiaa.BookLevelsRow
open Go.ChangeShapes Go.WideShapes Go.ChangeAt Go.RowKit Go.Joins Go.Deep Go.W

theorem own : ownKnob Try.prog.godebug = none := by kernel_rfl
theorem laidOut : laidOutB Try.prog = true := by kernel_rfl

theorem walk {W : World} (x0 : List Int) (h0 : x0.length = 7) {els1 : List (List AV)} {L1 : Go.W.Loc} {v1 : Value} (hr1 : ∀ c, c ∈ els1 → rowK [false, false, false, false, false, false, false] c) (hview1 : ∀ ρ nm, ObjOk ρ L1 (flO nm (.view 0 7 els1)) W) (hb1 : L1.nil = false → L1.blk < W.heap.size) (hrep1 : ∀ (ρ : Env) nm, ρ nm = L1 → Rep ρ (.sl nm 0 els1.length) v1) (x2 : Int) (b2 : -9223372036854775808 ≤ x2 ∧ x2 ≤ 9223372036854775807) (x3 : Int) (b3 : -9223372036854775808 ≤ x3 ∧ x3 ≤ 9223372036854775807) (x4 : Int) (b4 : -9223372036854775808 ≤ x4 ∧ x4 ≤ 9223372036854775807) :
    Calls Try.prog 4 #[.agg (x0.map (Value.int .i64)).toArray, v1, .int .i64 x2, .int .i64 x3, .int .i64 x4] W fun e W' => e = .returned (.bool true) ∧ Below W.heap.size W W' := by
  have hdat1 : datLL els1 = true := List.all_eq_true.2 fun c hc => rowK_dat (hr1 c hc)
  obtain ⟨Lv1, hev1⟩ := oz_ev hr1
  match x0, h0 with
  | [y0_0, y0_1, y0_2, y0_3, y0_4, y0_5, y0_6], _ =>
    exact rd_boolK s4 (W := W) (hl := [(0, .view 0 7 els1)]) (m := 1) (Ls := fun k => L1)
      (fun k hk0 => by
          rcases (show k = 0 by omega) with rfl
          · exact ⟨7, els1, rfl, fun c hc => rowK_dat (hr1 c hc), fun ρ => hview1 ρ _, hb1⟩)
      (fun k hk0 => by simp only [Go.W.hk]; rw [if_neg (by omega)])
      (avs := [.agg [.int .i64 y0_0, .int .i64 y0_1, .int .i64 y0_2, .int .i64 y0_3, .int .i64 y0_4, .int .i64 y0_5, .int .i64 y0_6], .sl (.top 0) 0 els1.length, .int .i64 x2, .int .i64 x3, .int .i64 x4]) (vs := [.agg #[.int .i64 y0_0, .int .i64 y0_1, .int .i64 y0_2, .int .i64 y0_3, .int .i64 y0_4, .int .i64 y0_5, .int .i64 y0_6], v1, .int .i64 x2, .int .i64 x3, .int .i64 x4]) (rd := [0])
      (by simp [d4, hdat1, hev1])
      (fun ρ hρ => RepL.cons (by rw [Rep]; exact ⟨_, rfl, by simp [RepL, Rep]⟩) (RepL.cons (hrep1 ρ _ (hρ 0 (by omega))) (RepL.cons (by simp [Rep]) (RepL.cons (by simp [Rep]) (RepL.cons (by simp [Rep]) rfl)))))

set_option maxRecDepth 100000 in
theorem lifted (os : Os) (started : os.Started) (H : Type) (enc : TypeId × Value → H) :
    ReturnsInHanded {} Try.checked os 4 .any (Rows.bookLevelsSpec.pre6 enc Try.prog Try.f4 Rows.bookLevelsRow.domain false) (Rows.bookLevelsSpec.post enc Try.prog Try.f4 false true false false) := by
  refine returnsInHanded_of_change (C := Try.checked) own started (by kernel_rfl) Try.func4
    (ChangeSpec.witness6 (enc := enc) (C := Try.checked) false ⟨#[], #[.agg #[.int .i64 0, .int .i64 0, .int .i64 0, .int .i64 0, .int .i64 0, .int .i64 0, .int .i64 0], .slice none 0 0, .int .i64 0, .int .i64 0, .int .i64 0], []⟩ 8 (by kernel_rfl) (by kernel_rfl) (by kernel_rfl) (by kernel_rfl)) ?_
  intro W base args ds gs before hval0 hW hcnd _
  have hval : ∀ (j : Nat) t v, Try.f4.params[j]? = some t → args[j]? = some v → Value.okWide Try.prog W .any base t v := hval0
  have hW' := hW
  obtain ⟨p, q, hA0, hV, rfl, hfz, hnd⟩ := hW
  have hA : DataW.TrodAll enc Try.prog W 0 (fun _ => true) true Try.f4.params.toList args.toList ds p := hA0
  rw [Try.params4] at hA hval
  obtain ⟨v0, vs0, d0, ds0, p0, q0, hargs, rfl, rfl, h0, r0⟩ := trodAll_cons hA
  obtain ⟨v1, vs1, d1, ds1, p1, q1, rfl, rfl, rfl, h1, r1⟩ := trodAll_cons r0
  obtain ⟨v2, vs2, d2, ds2, p2, q2, rfl, rfl, rfl, h2, r2⟩ := trodAll_cons r1
  obtain ⟨v3, vs3, d3, ds3, p3, q3, rfl, rfl, rfl, h3, r3⟩ := trodAll_cons r2
  obtain ⟨v4, vs4, d4, ds4, p4, q4, rfl, rfl, rfl, h4, r4⟩ := trodAll_cons r3
  obtain ⟨rfl, rfl, rfl⟩ := trodAll_nil r4
  obtain rfl : args = #[v0, v1, v2, v3, v4] := by cases args; simp_all
  obtain ⟨rfl, rfl⟩ := trodVars_none hV
  have k0 := h0
  have k1 := h1
  have k2 := h2
  have k3 := h3
  have k4 := h4
  have hlt : ∀ x ∈ p0 ++ (p1 ++ (p2 ++ (p3 ++ (p4 ++ [])))) ++ [], x.block < W.heap.size := fun x hx => by simpa using hW'.lt x hx
  obtain ⟨x0, rfl, n0, _⟩ := open_off Try.underlying23 (by kernel_rfl) (by kernel_rfl) (m := 7) (by kernel_rfl) (hval 0 23 v0 rfl rfl) h0
  obtain ⟨els1, L1, hr1, hview1, hb1, hrep1⟩ := open_kinds Try.underlying24 (ks := [false, false, false, false, false, false, false]) (z := 7) (by kernel_rfl) rfl (by omega) (by kernel_rfl) (hval 1 24 v1 rfl rfl) h1
  obtain ⟨a2, rfl, _, _, w2⟩ := open_int Try.underlying3 (hval 2 3 v2 rfl rfl) h2
  have b2 : -9223372036854775808 ≤ a2 ∧ a2 ≤ 9223372036854775807 := by simpa [Lit.wf, IntKind.min, IntKind.max, IntKind.bits, IntKind.signed] using w2
  obtain ⟨a3, rfl, _, _, w3⟩ := open_int Try.underlying3 (hval 3 3 v3 rfl rfl) h3
  have b3 : -9223372036854775808 ≤ a3 ∧ a3 ≤ 9223372036854775807 := by simpa [Lit.wf, IntKind.min, IntKind.max, IntKind.bits, IntKind.signed] using w3
  obtain ⟨a4, rfl, _, _, w4⟩ := open_int Try.underlying3 (hval 4 3 v4 rfl rfl) h4
  have b4 : -9223372036854775808 ≤ a4 ∧ a4 ≤ 9223372036854775807 := by simpa [Lit.wf, IntKind.min, IntKind.max, IntKind.bits, IntKind.signed] using w4
  clear hA0 hval0
  refine (walk x0 n0 hr1 hview1 hb1 hrep1 a2 b2 a3 b3 a4 b4).mono fun e W' ⟨he, hB⟩ => ?_
  subst he
  have carry : ∀ {t : TypeId} {v : Value} {d : DataW H} {ps : List MemPlace}, Try.prog.readableRec t = true → t < Try.prog.types.size → DataW.Trod enc Try.prog W 0 (fun _ => true) true t v d ps → (∀ x ∈ ps, x.block < W.heap.size) → DataW.Trod enc Try.prog W' 0 (fun b => decide (b < W.heap.size)) true t v d ps :=
    fun hr hrow h hl => Below.trod laidOut hr hrow h hB hl
  refine ⟨_, rfl, _, _, _, [], p0 ++ (p1 ++ (p2 ++ (p3 ++ (p4 ++ [])))), [], hW', trodAll_cons_mk (shut_bool Try.underlying4 _) trodAll_mk0, ?_, rfl, hB.frame _, fun h => by cases h⟩
  exact trodAll_cons_mk (carry (by kernel_rfl) (of_decide_eq_true (by kernel_rfl)) k0 (fun x hx => hlt x (by simp [hx])))
    (trodAll_cons_mk (carry (by kernel_rfl) (of_decide_eq_true (by kernel_rfl)) k1 (fun x hx => hlt x (by simp [hx])))
    (trodAll_cons_mk (carry (by kernel_rfl) (of_decide_eq_true (by kernel_rfl)) k2 (fun x hx => hlt x (by simp [hx])))
    (trodAll_cons_mk (carry (by kernel_rfl) (of_decide_eq_true (by kernel_rfl)) k3 (fun x hx => hlt x (by simp [hx])))
    (trodAll_cons_mk (carry (by kernel_rfl) (of_decide_eq_true (by kernel_rfl)) k4 (fun x hx => hlt x (by simp [hx])))
    trodAll_mk0))))

theorem proved : Rows.BookLevelsSaid :=
  OpenClaim.holds_of_wide 4 Try.f4 rfl rfl rfl rfl rfl rfl rfl ⟨rfl, rfl, rfl, rfl, rfl⟩ rfl rfl rfl rfl rfl (by kernel_rfl) Try.func4 (by kernel_rfl)
    (of_decide_eq_true (by kernel_rfl)) (by unfold Func.isWrapper; first | (rw [if_pos (by decide +kernel)]; kernel_rfl) | (rw [if_neg (by decide +kernel)]; exact ⟨rfl, rfl⟩))
    (fun os started H enc _ => lifted os started H enc)

end Go.Proofs.Ytfkdcpgphindiaa.BookLevelsRow
