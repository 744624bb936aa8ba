/- 'FenceMore' answers true whatever the input. -/
import Derived.Test.YtjhefpcocdoilaaDoorRows
import Derived.Test.YtjhefpcocdoilaaDoorCards
import Derived.Test.YtjhefpcocdoilaaDoorTie
import Derived.Test.YtjhefpcocdoilaaDoorFeD
import Derived.ChangeVars
import Derived.LaidLaws
import Derived.LaidHandle
import Derived.SevenTiedAt
set_option linter.unusedSimpArgs false
set_option linter.unusedVariables false
namespace Go.Proofs.YtjhefpcocdoilaaDoor.FenceMoreRow
open Go.ChangeShapes Go.WideShapes Go.ChangeAt Go.RowKit Go.Joins Go.Deep Go.W

theorem own : ownKnob Tryd.prog.godebug = none := by kernel_rfl
theorem laidOut : laidOutB Tryd.prog = true := by kernel_rfl
theorem et : Tryd.prog.globalNamed "errors.errorType" = some 0 := by kernel_rfl
theorem rt : (Tryd.prog.cutTypes.find? (·.1 == "internal/reflectlite.rtype")).map (·.2) = some 93 := by kernel_rfl
theorem oneRow : ((List.range 135).filter fun t => Tryd.prog.rowNamed t [101, 114, 114, 111, 114]) = [35] := by kernel_rfl
theorem size : Tryd.prog.types.size = 135 := by kernel_rfl
def LD {H : Type} : List (String × DataW H) := [("errors.errorType", Rows.laid_errors_errorType)]

/-- WHAT THE CONDITION GIVES A WALK: the variable's one cell. -/
theorem handle_of_laid {W : World} (h : laidMetH Tryd.prog LD W) : W.cell? ⟨0, 0, none⟩ = some gdV := by
  have h' : laidMet Tryd.prog [] W ∧ handlesMet Tryd.prog LD W := h
  obtain ⟨name, u, ty, e1, e2, e3, e4, e5⟩ := h'.2 _ (List.mem_singleton.2 rfl)
  have en : name = [101, 114, 114, 111, 114] := (Option.some.inj e1).symm
  subst en
  obtain rfl := Option.some.inj (rt.symm.trans e2)
  have hm : ty ∈ (List.range 135).filter fun t => Tryd.prog.rowNamed t [101, 114, 114, 111, 114] := List.mem_filter.2 ⟨List.mem_range.2 (by rw [← size]; exact e3), e4⟩
  rw [oneRow] at hm
  obtain rfl := List.mem_singleton.1 hm
  have hh : typeHandle Tryd.prog 35 = .pointer (some ⟨1, 35, none⟩) := by kernel_rfl
  rw [hh] at e5
  simpa [gdV] using World.var?_cell et e5 0

/-- A world that meets the condition: the settled one, the variable's cell laid. -/
noncomputable def laidWorld (os : Os) : World :=
  let w0 := World.holding Tryd.prog os ⟨#[], #[], []⟩
  { w0 with heap := w0.heap.modify 0 fun
      | .cells _ t frozen => .cells #[.iface 93 (.agg #[.pointer (some ⟨1, 35, none⟩)])] t frozen
      | o => o }
theorem laidWorld_met (os : Os) (args : Array Value) : laidMetH Tryd.prog LD ((laidWorld os).forCall (fun _ _ => 0) ⟨#[], args, []⟩).memory :=
  laidMetH_of_parts (laidMet_nil _ _) (by kernel_rfl)

theorem walk {W : World} (x0 : List Int) (h0 : x0.length = 7) {els1 : List (List AV)} {L1 : Go.W.Loc} {v1 : Value} (hr1 : ∀ c, c ∈ els1 → rowK [false, false, false, false, false] c) (hview1 : ∀ ρ nm, ObjOk ρ L1 (flO nm (.view 0 5 els1)) W) (hb1 : L1.nil = false → L1.blk < W.heap.size) (hrep1 : ∀ (ρ : Env) nm, ρ nm = L1 → Rep ρ (.sl nm 0 els1.length) v1) (hn1 : els1.length ≤ 9223372036854775807) (x2 : Int) (b2 : 0 ≤ x2 ∧ x2 ≤ 65535) (x3 : Int) (b3 : -9223372036854775808 ≤ x3 ∧ x3 ≤ 9223372036854775807) (x4 : List Int) (h4 : x4.length = 9) (x5 : List Int) (h5 : x5.length = 6) (x6 : Int) (b6 : -9223372036854775808 ≤ x6 ∧ x6 ≤ 9223372036854775807)
    (hG : W.cell? ⟨0, 0, none⟩ = some gdV) : Calls Tryd.prog 3 #[.agg (x0.map (Value.int .i64)).toArray, v1, .int .u16 x2, .int .i64 x3, .agg (x4.map (Value.int .i64)).toArray, .agg (x5.map (Value.int .i64)).toArray, .int .i64 x6] W fun e W' => e = .returned (.bool true) ∧ Below W.heap.size W W' := by
  have hdat1 : datLL els1 = true := List.all_eq_true.2 fun c hc => rowK_dat (hr1 c hc)
  obtain ⟨Lv1, hev1⟩ := l5_all hr1
  match x0, h0, x4, h4, x5, h5 with
  | [y0_0, y0_1, y0_2, y0_3, y0_4, y0_5, y0_6], _, [y4_0, y4_1, y4_2, y4_3, y4_4, y4_5, y4_6, y4_7, y4_8], _, [y5_0, y5_1, y5_2, y5_3, y5_4, y5_5], _ =>
    exact rd_boolK s3 (W := W) hG (hl := [(0, .view 0 5 els1)]) (m := 1) (Ls := fun k => L1)
      (fun k hk0 => by
          rcases (show k = 0 by omega) with rfl
          · exact ⟨5, els1, rfl, fun c hc => rowK_dat (hr1 c hc), fun ρ => hview1 ρ _, hb1⟩)
      (fun k hk0 => by simp only [Go.W.hk]; rw [if_neg (by omega)])
      (avs := [.agg [.int .i64 y0_0, .int .i64 y0_1, .int .i64 y0_2, .int .i64 y0_3, .int .i64 y0_4, .int .i64 y0_5, .int .i64 y0_6], .sl (.top 0) 0 els1.length, .int .u16 x2, .int .i64 x3, .agg [.int .i64 y4_0, .int .i64 y4_1, .int .i64 y4_2, .int .i64 y4_3, .int .i64 y4_4, .int .i64 y4_5, .int .i64 y4_6, .int .i64 y4_7, .int .i64 y4_8], .agg [.int .i64 y5_0, .int .i64 y5_1, .int .i64 y5_2, .int .i64 y5_3, .int .i64 y5_4, .int .i64 y5_5], .int .i64 x6]) (vs := [.agg #[.int .i64 y0_0, .int .i64 y0_1, .int .i64 y0_2, .int .i64 y0_3, .int .i64 y0_4, .int .i64 y0_5, .int .i64 y0_6], v1, .int .u16 x2, .int .i64 x3, .agg #[.int .i64 y4_0, .int .i64 y4_1, .int .i64 y4_2, .int .i64 y4_3, .int .i64 y4_4, .int .i64 y4_5, .int .i64 y4_6, .int .i64 y4_7, .int .i64 y4_8], .agg #[.int .i64 y5_0, .int .i64 y5_1, .int .i64 y5_2, .int .i64 y5_3, .int .i64 y5_4, .int .i64 y5_5], .int .i64 x6]) (rd := [0])
      (by simp [d3, hdat1, hev1, hn1, b2.1, b2.2])
      (fun ρ hρ => RepL.cons (by rw [Rep]; exact ⟨_, rfl, by simp [RepL, Rep]⟩) (RepL.cons (hrep1 ρ _ (hρ 0 (by omega))) (RepL.cons (by simp [Rep]) (RepL.cons (by simp [Rep]) (RepL.cons (by rw [Rep]; exact ⟨_, rfl, by simp [RepL, Rep]⟩) (RepL.cons (by rw [Rep]; exact ⟨_, rfl, by simp [RepL, Rep]⟩) (RepL.cons (by simp [Rep]) rfl)))))))

set_option maxRecDepth 100000 in
theorem lifted (os : Os) (started : os.Started) (H : Type) (enc : TypeId × Value → H) :
    ReturnsInHanded {} Tryd.checked os 3 .any (fun w args => (Rows.fenceMoreSpec.pre enc Tryd.prog Tryd.f3 [] false w args ∧ laidMetH Tryd.prog LD w) ∧ sizedMet enc Tryd.prog Tryd.f3 (OpenSpec.ofChange Rows.fenceMoreSpec) false w args) (Rows.fenceMoreSpec.post enc Tryd.prog Tryd.f3 false true false false) := by
  refine returnsInHanded_of_change_and (C := Tryd.checked) (X := fun w _ => laidMetH Tryd.prog LD w) (fun _ _ _ hh h => h.of_heap hh) own started (by kernel_rfl) Tryd.func3
    (ChangeSpec.witness_at (enc := enc) (C := Tryd.checked) (os := os) (X := fun w _ => laidMetH Tryd.prog LD w) false (laidWorld os) #[.agg #[.int .i64 0, .int .i64 0, .int .i64 0, .int .i64 0, .int .i64 0, .int .i64 0, .int .i64 0], .slice none 0 0, .int .u16 0, .int .i64 0, .agg #[.int .i64 0, .int .i64 0, .int .i64 0, .int .i64 0, .int .i64 0, .int .i64 0, .int .i64 0, .int .i64 0, .int .i64 0], .agg #[.int .i64 0, .int .i64 0, .int .i64 0, .int .i64 0, .int .i64 0, .int .i64 0], .int .i64 0] 8 rfl (by kernel_rfl) (by kernel_rfl) (by kernel_rfl) (by kernel_rfl) (by kernel_rfl) (laidWorld_met os _)) ?_
  intro W base args ds gs before hval0 hW _ _ hL _
  have hval : ∀ (j : Nat) t v, Tryd.f3.params[j]? = some t → args[j]? = some v → Value.okWide Tryd.prog W .any base t v := hval0
  have hW' := hW
  obtain ⟨p, q, hA0, hV, rfl, hfz, hnd⟩ := hW
  have hA : DataW.TrodAll enc Tryd.prog W 0 (fun _ => true) true Tryd.f3.params.toList args.toList ds p := hA0
  rw [Tryd.params3] at hA hval
  obtain ⟨v0, vs0, d0, ds0, p0, q0, hargs, rfl, rfl, h0, r0⟩ := trodAll_cons hA
  obtain ⟨v1, vs1, d1, ds1, p1, q1, rfl, rfl, rfl, h1, r1⟩ := trodAll_cons r0
  obtain ⟨v2, vs2, d2, ds2, p2, q2, rfl, rfl, rfl, h2, r2⟩ := trodAll_cons r1
  obtain ⟨v3, vs3, d3, ds3, p3, q3, rfl, rfl, rfl, h3, r3⟩ := trodAll_cons r2
  obtain ⟨v4, vs4, d4, ds4, p4, q4, rfl, rfl, rfl, h4, r4⟩ := trodAll_cons r3
  obtain ⟨v5, vs5, d5, ds5, p5, q5, rfl, rfl, rfl, h5, r5⟩ := trodAll_cons r4
  obtain ⟨v6, vs6, d6, ds6, p6, q6, rfl, rfl, rfl, h6, r6⟩ := trodAll_cons r5
  obtain ⟨rfl, rfl, rfl⟩ := trodAll_nil r6
  obtain rfl : args = #[v0, v1, v2, v3, v4, v5, v6] := by cases args; simp_all
  obtain ⟨rfl, rfl⟩ := trodVars_none hV
  have k0 := h0
  have k1 := h1
  have k2 := h2
  have k3 := h3
  have k4 := h4
  have k5 := h5
  have k6 := h6
  have hlt : ∀ x ∈ p0 ++ (p1 ++ (p2 ++ (p3 ++ (p4 ++ (p5 ++ (p6 ++ [])))))) ++ [], x.block < W.heap.size := fun x hx => by simpa using hW'.lt x hx
  obtain ⟨x0, rfl, n0⟩ := open_flat Tryd.underlying23 (m := 7) (by kernel_rfl) (hval 0 23 v0 rfl rfl) h0
  obtain ⟨els1, L1, hr1, hview1, hb1, hrep1⟩ := open_kinds Tryd.underlying24 (ks := [false, false, false, false, false]) (z := 5) (by kernel_rfl) rfl (by omega) (by kernel_rfl) (hval 1 24 v1 rfl rfl) h1
  have hn1 := rep_len Tryd.underlying24 (hval 1 24 v1 rfl rfl) (hrep1 (fun _ => L1) (.top 0) rfl)
  obtain ⟨a2, rfl, _, _, w2⟩ := open_int Tryd.underlying25 (hval 2 25 v2 rfl rfl) h2
  have b2 : 0 ≤ a2 ∧ a2 ≤ 65535 := by simpa [Lit.wf, IntKind.min, IntKind.max, IntKind.bits, IntKind.signed] using w2
  obtain ⟨a3, rfl, _, _, w3⟩ := open_int Tryd.underlying3 (hval 3 3 v3 rfl rfl) h3
  have b3 : -9223372036854775808 ≤ a3 ∧ a3 ≤ 9223372036854775807 := by simpa [Lit.wf, IntKind.min, IntKind.max, IntKind.bits, IntKind.signed] using w3
  obtain ⟨x4, rfl, n4⟩ := open_flat Tryd.underlying29 (m := 9) (by kernel_rfl) (hval 4 29 v4 rfl rfl) h4
  obtain ⟨x5, rfl, n5⟩ := open_flat Tryd.underlying31 (m := 6) (by kernel_rfl) (hval 5 31 v5 rfl rfl) h5
  obtain ⟨a6, rfl, _, _, w6⟩ := open_int Tryd.underlying3 (hval 6 3 v6 rfl rfl) h6
  have b6 : -9223372036854775808 ≤ a6 ∧ a6 ≤ 9223372036854775807 := by simpa [Lit.wf, IntKind.min, IntKind.max, IntKind.bits, IntKind.signed] using w6
  clear hA0 hval0
  refine (walk x0 n0 hr1 hview1 hb1 hrep1 hn1 a2 b2 a3 b3 x4 n4 x5 n5 a6 b6 (handle_of_laid hL)).mono fun e W' ⟨he, hB⟩ => ?_
  subst he
  have carry : ∀ {t : TypeId} {v : Value} {d : DataW H} {ps : List MemPlace}, Tryd.prog.readableRec t = true → t < Tryd.prog.types.size → DataW.Trod enc Tryd.prog W 0 (fun _ => true) true t v d ps → (∀ x ∈ ps, x.block < W.heap.size) → DataW.Trod enc Tryd.prog W' 0 (fun b => decide (b < W.heap.size)) true t v d ps :=
    fun hr hrow h hl => Below.trod laidOut hr hrow h hB hl
  refine ⟨_, rfl, _, _, _, [], p0 ++ (p1 ++ (p2 ++ (p3 ++ (p4 ++ (p5 ++ (p6 ++ [])))))), [], hW', trodAll_cons_mk (shut_bool Tryd.underlying4 _) trodAll_mk0, ?_, rfl, hB.frame _, fun h => by cases h⟩
  exact trodAll_cons_mk (carry (by kernel_rfl) (of_decide_eq_true (by kernel_rfl)) k0 (fun x hx => hlt x (by simp [hx])))
    (trodAll_cons_mk (carry (by kernel_rfl) (of_decide_eq_true (by kernel_rfl)) k1 (fun x hx => hlt x (by simp [hx])))
    (trodAll_cons_mk (carry (by kernel_rfl) (of_decide_eq_true (by kernel_rfl)) k2 (fun x hx => hlt x (by simp [hx])))
    (trodAll_cons_mk (carry (by kernel_rfl) (of_decide_eq_true (by kernel_rfl)) k3 (fun x hx => hlt x (by simp [hx])))
    (trodAll_cons_mk (carry (by kernel_rfl) (of_decide_eq_true (by kernel_rfl)) k4 (fun x hx => hlt x (by simp [hx])))
    (trodAll_cons_mk (carry (by kernel_rfl) (of_decide_eq_true (by kernel_rfl)) k5 (fun x hx => hlt x (by simp [hx])))
    (trodAll_cons_mk (carry (by kernel_rfl) (of_decide_eq_true (by kernel_rfl)) k6 (fun x hx => hlt x (by simp [hx])))
    trodAll_mk0))))))

theorem rowHolds : Rows.FenceMoreSaid :=
  OpenClaim.holds_of_wide 3 Tryd.f3 rfl rfl rfl rfl rfl rfl rfl ⟨rfl, rfl, rfl, rfl, rfl⟩ rfl rfl rfl rfl rfl (by kernel_rfl) Tryd.func3 (by kernel_rfl)
    (of_decide_eq_true (by kernel_rfl)) (by unfold Func.isWrapper; first | (rw [if_pos (by decide +kernel)]; kernel_rfl) | (rw [if_neg (by decide +kernel)]; exact ⟨rfl, rfl⟩))
    (fun os started H enc _ => lifted os started H enc)

/-- THE TIED CARD. -/
theorem proved : Rows.FenceMoreCardSaid :=
  Claim7.holds_tied_plain_at .later [] [.handle] true (true, "c0ec348f28db021feb216176fea6883c2ba2afdb45ec633fe0c848f195bc60e8") true
    rowHolds (fun _ h => by cases h) (by kernel_rfl) (fun _ h => by cases h) fenceMore_row_tie rfl ⟨rfl, rfl⟩ (by kernel_rfl) rfl
    (fun f fn hf hfn => by
      obtain rfl : f = 3 := Option.some.inj ((show Tryd.prog.funcNamed "gloaming/gloaminglaw27.FenceMore" = some 3 by kernel_rfl).symm.trans hf) |>.symm
      obtain rfl : fn = Tryd.f3 := (Option.some.inj (Tryd.func3.symm.trans hfn)).symm
      exact ⟨by kernel_rfl, fun j t ht => by
        rw [Tryd.params3] at ht
        have hm : t ∈ [23, 24, 25, 3, 29, 31, 3] := by simpa using Array.mem_of_getElem? ht
        have hall : ([23, 24, 25, 3, 29, 31, 3].all fun u => !Tryd.prog.wantsStandIn u) = true := by kernel_rfl
        exact (show Tryd.prog.wantsStandIn t = false by simpa using List.all_eq_true.1 hall t hm)⟩)
    (by kernel_rfl)

end Go.Proofs.YtjhefpcocdoilaaDoor.FenceMoreRow
