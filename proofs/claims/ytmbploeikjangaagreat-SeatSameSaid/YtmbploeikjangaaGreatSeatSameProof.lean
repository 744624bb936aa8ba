/- 'SeatSame' answers true whatever the input. -/
import Derived.Test.YtmbploeikjangaaGreatRows
import Derived.Test.YtmbploeikjangaaGreatWcS
import Derived.Test.YtmbploeikjangaaGreatSsB
set_option linter.unusedSimpArgs false
set_option linter.unusedVariables false
namespace Go.Proofs.YtmbploeikjangaaGreat.SeatSameRow
open Go.ChangeShapes Go.WideShapes Go.ChangeAt Go.RowKit Go.Joins Go.Deep Go.W

theorem own : ownKnob Tryz.prog.godebug = none := by kernel_rfl
theorem laidOut : laidOutB Tryz.prog = true := by kernel_rfl

theorem look_of {c : List AV} (h : rowK [false, false, false] c) : ∃ x, c = lkC x := by
  obtain ⟨hl, hc⟩ := h
  match c, hl with
  | [c0, c1, c2], _ =>
    obtain ⟨_, _, e1, e2⟩ := hc 0 false rfl
    simp only [leafV, Bool.false_eq_true, if_false, List.getElem?_cons_succ, List.getElem?_cons_zero, Option.some.injEq] at e1 e2
    subst e1
    obtain ⟨v0, rfl, _, _⟩ := e2
    obtain ⟨_, _, e1, e2⟩ := hc 1 false rfl
    simp only [leafV, Bool.false_eq_true, if_false, List.getElem?_cons_succ, List.getElem?_cons_zero, Option.some.injEq] at e1 e2
    subst e1
    obtain ⟨v1, rfl, _, _⟩ := e2
    obtain ⟨_, _, e1, e2⟩ := hc 2 false rfl
    simp only [leafV, Bool.false_eq_true, if_false, List.getElem?_cons_succ, List.getElem?_cons_zero, Option.some.injEq] at e1 e2
    subst e1
    obtain ⟨v2, rfl, _, _⟩ := e2
    exact ⟨⟨v0, v1, v2⟩, rfl⟩

theorem looks_of : ∀ {els : List (List AV)}, (∀ c, c ∈ els → rowK [false, false, false] c) → ∃ l, els = rows lkC l
  | [], _ => ⟨[], rfl⟩
  | c :: els, h => by
    obtain ⟨x, rfl⟩ := look_of (h c List.mem_cons_self)
    obtain ⟨l, rfl⟩ := looks_of fun c hc => h c (List.mem_cons_of_mem _ hc)
    exact ⟨x :: l, rfl⟩

theorem leaf_i {c : List AV} {ks : List Bool} (h : rowK ks c) {j : Nat} (hk : ks[j]? = some false) : ∃ n, c[j]? = some (.int .i64 n) := by
  obtain ⟨a, _, e1, e2⟩ := h.2 j false hk
  simp only [leafV, Bool.false_eq_true, if_false] at e2
  obtain ⟨n, rfl, _⟩ := e2
  exact ⟨n, e1⟩

theorem leaf_b {c : List AV} {ks : List Bool} (h : rowK ks c) {j : Nat} (hk : ks[j]? = some true) : ∃ b, c[j]? = some (.bool b) := by
  obtain ⟨a, _, e1, e2⟩ := h.2 j true hk
  simp only [leafV, if_true] at e2
  obtain ⟨b, rfl, _⟩ := e2
  exact ⟨b, e1⟩

abbrev KS : List Bool := [false, false, false, false, false, true, false, false, false, false, false, false]

theorem reply_of {c : List AV} (h : rowK KS c) (l : List LkZ) : ∃ x : RpZ, x.ls = l ∧ ∀ n, AV.agg (c ++ [.sl (.top n) 0 l.length]) = .agg [.int .i64 x.k, .int .i64 x.c, .int .i64 x.t, .int .i64 x.i, .int .i64 x.e, .bool x.a, .int .i64 x.r0, .int .i64 x.r1, .int .i64 x.r2, .int .i64 x.r3, .int .i64 x.r4, .int .i64 x.r5, .sl (.top n) 0 x.ls.length] := by
  obtain ⟨n0, e0⟩ := leaf_i h (j := 0) rfl
  obtain ⟨n1, e1⟩ := leaf_i h (j := 1) rfl
  obtain ⟨n2, e2⟩ := leaf_i h (j := 2) rfl
  obtain ⟨n3, e3⟩ := leaf_i h (j := 3) rfl
  obtain ⟨n4, e4⟩ := leaf_i h (j := 4) rfl
  obtain ⟨n5, e5⟩ := leaf_b h (j := 5) rfl
  obtain ⟨n6, e6⟩ := leaf_i h (j := 6) rfl
  obtain ⟨n7, e7⟩ := leaf_i h (j := 7) rfl
  obtain ⟨n8, e8⟩ := leaf_i h (j := 8) rfl
  obtain ⟨n9, e9⟩ := leaf_i h (j := 9) rfl
  obtain ⟨na, ea⟩ := leaf_i h (j := 10) rfl
  obtain ⟨nb, eb⟩ := leaf_i h (j := 11) rfl
  refine ⟨⟨n0, n1, n2, n3, n4, n5, n6, n7, n8, n9, na, nb, l⟩, rfl, fun n => ?_⟩
  have hl := h.1
  match c, hl with
  | [c0, c1, c2, c3, c4, c5, c6, c7, c8, c9, ca, cb], _ => simp_all

theorem walk {W : World} {vs0 vs1 : Array Value} {c0 c1 : List AV} {els0 els1 : List (List AV)} {L0 L1 : Go.W.Loc} (h0 : rowK KS c0) (h1 : rowK KS c1) (r0 : ∀ c, c ∈ els0 → rowK [false, false, false] c) (r1 : ∀ c, c ∈ els1 → rowK [false, false, false] c)
    (o0 : ∀ ρ nm, ObjOk ρ L0 (flO nm (.view 0 3 els0)) W) (o1 : ∀ ρ nm, ObjOk ρ L1 (flO nm (.view 0 3 els1)) W) (b0 : L0.nil = false → L0.blk < W.heap.size) (b1 : L1.nil = false → L1.blk < W.heap.size)
    (p0 : ∀ (ρ : Env) nm, ρ nm = L0 → RepL ρ (c0 ++ [.sl nm 0 els0.length]) vs0.toList) (p1 : ∀ (ρ : Env) nm, ρ nm = L1 → RepL ρ (c1 ++ [.sl nm 0 els1.length]) vs1.toList) :
    Calls Tryz.prog 3 #[.agg vs0, .agg vs1] W fun e W' => e = .returned (.bool true) ∧ Below W.heap.size W W' := by
  obtain ⟨l0, rfl⟩ := looks_of r0
  obtain ⟨l1, rfl⟩ := looks_of r1
  simp only [rows_length] at p0 p1
  obtain ⟨x, rfl, hx⟩ := reply_of h0 l0
  obtain ⟨y, rfl, hy⟩ := reply_of h1 l1
  exact nest_boolK s5 (W := W) (hl := [(0, .view 0 3 (rows lkC x.ls)), (1, .view 0 3 (rows lkC y.ls))]) (m := 2) (Ls := fun k => if k = 0 then L0 else L1)
    (fun k hk0 => by
      rcases (show k = 0 ∨ k = 1 by omega) with rfl | rfl
      · exact ⟨3, _, rfl, fun c hc => List.all_eq_true.1 (rows_dat x.ls) c hc, fun ρ => o0 ρ _, b0⟩
      · exact ⟨3, _, rfl, fun c hc => List.all_eq_true.1 (rows_dat y.ls) c hc, fun ρ => o1 ρ _, b1⟩)
    (fun k hk0 => by simp only [Go.W.hk]; rw [if_neg (by omega), if_neg (by omega)])
    (avs := [.agg (c0 ++ [.sl (.top 0) 0 x.ls.length]), .agg (c1 ++ [.sl (.top 1) 0 y.ls.length])]) (vs := [.agg vs0, .agg vs1]) (hs' := []) (rd := [0, 1]) (n := 8)
    (by
      have hd : F5.d [rpC x, rpC y] = some ⟨.bool true, [.free, .free]⟩ := F5ok.eq' (x, y) trivial
      simp only [rpC] at hd
      rw [hx, hy]
      show nestF [(3, false), (3, false)] F5.d _ _ _ = _
      simp [hd])
    (fun ρ hρ => RepL.cons (by rw [Rep]; exact ⟨_, rfl, p0 ρ _ (hρ 0 (by omega))⟩) (RepL.cons (by rw [Rep]; exact ⟨_, rfl, p1 ρ _ (hρ 1 (by omega))⟩) rfl))

set_option maxRecDepth 100000 in
theorem lifted (os : Os) (started : os.Started) (H : Type) (enc : TypeId × Value → H) :
    ReturnsInHanded {} Tryz.checked os 3 .any (Rows.seatSameSpec.pre6 enc Tryz.prog Tryz.f3 Rows.seatSameRow.domain false) (Rows.seatSameSpec.post enc Tryz.prog Tryz.f3 false true false false) := by
  refine returnsInHanded_of_change (C := Tryz.checked) own started (by kernel_rfl) Tryz.func3
    (ChangeSpec.witness6 (enc := enc) (C := Tryz.checked) false ⟨#[], #[.agg #[.int .i64 0, .int .i64 0, .int .i64 0, .int .i64 0, .int .i64 0, .bool false, .int .i64 0, .int .i64 0, .int .i64 0, .int .i64 0, .int .i64 0, .int .i64 0, .slice none 0 0], .agg #[.int .i64 0, .int .i64 0, .int .i64 0, .int .i64 0, .int .i64 0, .bool false, .int .i64 0, .int .i64 0, .int .i64 0, .int .i64 0, .int .i64 0, .int .i64 0, .slice none 0 0]], []⟩ 8 (by kernel_rfl) (by kernel_rfl) (by kernel_rfl) (by kernel_rfl)) ?_
  intro W base args ds gs before hval0 hW hcnd _
  have hval : ∀ (j : Nat) t v, Tryz.f3.params[j]? = some t → args[j]? = some v → Value.okWide Tryz.prog W .any base t v := hval0
  have hW' := hW
  obtain ⟨p, q, hA0, hV, rfl, hfz, hnd⟩ := hW
  have hA : DataW.TrodAll enc Tryz.prog W 0 (fun _ => true) true Tryz.f3.params.toList args.toList ds p := hA0
  rw [Tryz.params3] at hA hval
  obtain ⟨v0, vs0, d0, ds0, p0, q0, hargs, rfl, rfl, h0, r0⟩ := trodAll_cons hA
  obtain ⟨v1, vs1, d1, ds1, p1, q1, rfl, rfl, rfl, h1, r1⟩ := trodAll_cons r0
  obtain ⟨rfl, rfl, rfl⟩ := trodAll_nil r1
  obtain rfl : args = #[v0, v1] := by cases args; simp_all
  obtain ⟨rfl, rfl⟩ := trodVars_none hV
  have k0 := h0
  have k1 := h1
  have hlt : ∀ x ∈ p0 ++ (p1 ++ []) ++ [], x.block < W.heap.size := fun x hx => by simpa using hW'.lt x hx
  obtain ⟨x0, c0, els0, L0, rfl, e0, f0, g0, j0, m0⟩ := open_mix Tryz.underlying27 (m := 7) (ks := KS) (ke := [false, false, false]) (z := 3) (by kernel_rfl) rfl rfl (by kernel_rfl) (by kernel_rfl) Tryz.underlying25 (by kernel_rfl) rfl (by omega) (by kernel_rfl) (hval 0 27 v0 rfl rfl) h0
  obtain ⟨x1, c1, els1, L1, rfl, e1, f1, g1, j1, m1⟩ := open_mix Tryz.underlying27 (m := 7) (ks := KS) (ke := [false, false, false]) (z := 3) (by kernel_rfl) rfl rfl (by kernel_rfl) (by kernel_rfl) Tryz.underlying25 (by kernel_rfl) rfl (by omega) (by kernel_rfl) (hval 1 27 v1 rfl rfl) h1
  clear hA0 hval0
  refine (walk e0 e1 f0 f1 g0 g1 j0 j1 m0 m1).mono fun e W' ⟨he, hB⟩ => ?_
  subst he
  have carry : ∀ {t : TypeId} {v : Value} {d : DataW H} {ps : List MemPlace}, Tryz.prog.readableRec t = true → t < Tryz.prog.types.size → DataW.Trod enc Tryz.prog W 0 (fun _ => true) true t v d ps → (∀ x ∈ ps, x.block < W.heap.size) → DataW.Trod enc Tryz.prog W' 0 (fun b => decide (b < W.heap.size)) true t v d ps :=
    fun hr hrow h hl => Below.trod laidOut hr hrow h hB hl
  refine ⟨_, rfl, _, _, _, [], p0 ++ (p1 ++ []), [], hW', trodAll_cons_mk (shut_bool Tryz.underlying4 _) trodAll_mk0, ?_, rfl, hB.frame _, fun h => by cases h⟩
  exact trodAll_cons_mk (carry (by kernel_rfl) (of_decide_eq_true (by kernel_rfl)) k0 (fun x hx => hlt x (by simp [hx])))
    (trodAll_cons_mk (carry (by kernel_rfl) (of_decide_eq_true (by kernel_rfl)) k1 (fun x hx => hlt x (by simp [hx])))
    trodAll_mk0)

theorem proved : Rows.SeatSameSaid :=
  OpenClaim.holds_of_wide 3 Tryz.f3 rfl rfl rfl rfl rfl rfl rfl ⟨rfl, rfl, rfl, rfl, rfl⟩ rfl rfl rfl rfl rfl (by kernel_rfl) Tryz.func3 (by kernel_rfl)
    (of_decide_eq_true (by kernel_rfl)) (by unfold Func.isWrapper; first | (rw [if_pos (by decide +kernel)]; kernel_rfl) | (rw [if_neg (by decide +kernel)]; exact ⟨rfl, rfl⟩))
    (fun os started H enc _ => lifted os started H enc)

end Go.Proofs.YtmbploeikjangaaGreat.SeatSameRow
