/- Replies as rows; whether two are one, as the program and as the document has it. -/
import Derived.Test.YtmbploeikjangaaGreatWkB
import Derived.Test.YtmbploeikjangaaGreatProg
namespace Go.W
open Go.Proofs
set_option linter.unusedSimpArgs false
set_option linter.unusedVariables false
set_option maxHeartbeats 8000000
set_option maxRecDepth 100000
attribute [local irreducible] Wm WmA
attribute [local simp] nmap lkp mkPl prs prsL prT ddL idL CRenL CRen Ren RenL NObj.none CRenLL

structure LkZ where
  k : Int
  l : Int
  f : Int
  deriving DecidableEq
def lkC (x : LkZ) : List AV := [.int .i64 x.k, .int .i64 x.l, .int .i64 x.f]
instance : Dat lkC := ⟨fun _ => rfl, fun ⟨_, _, _⟩ ⟨_, _, _⟩ h => by simp [lkC] at h; simp [h]⟩
structure RpZ where
  k : Int
  c : Int
  t : Int
  i : Int
  e : Int
  a : Bool
  r0 : Int
  r1 : Int
  r2 : Int
  r3 : Int
  r4 : Int
  r5 : Int
  ls : List LkZ
  deriving DecidableEq
abbrev rpC (x : RpZ) : AV := .agg [.int .i64 x.k, .int .i64 x.c, .int .i64 x.t, .int .i64 x.i, .int .i64 x.e, .bool x.a, .int .i64 x.r0, .int .i64 x.r1, .int .i64 x.r2, .int .i64 x.r3, .int .i64 x.r4, .int .i64 x.r5, .os 0 3 (rows lkC x.ls)]
theorem rpC_inj {x y : RpZ} (h : rpC x = rpC y) : x = y := by
  cases x; cases y; simp [rpC] at h; simp [h]
def F28 : Fn (RpZ × RpZ) := ⟨[(3, false), (3, false)], fun x => x.1.ls.length ≤ 50 ∧ x.2.ls.length ≤ 50, fun x => [rpC x.1, rpC x.2], fun x => ⟨.bool (decide (x.1 = x.2)), [.free, .free]⟩⟩
theorem F28ok : F28.Ok := ⟨fun x y _ _ h => by
    simp only [F28, List.cons.injEq, and_true] at h
    rw [Prod.ext (rpC_inj h.1) (rpC_inj h.2)], fun x hx => ⟨Ends_of (by simp [F28]), by simp [F28]⟩⟩
def I28 (x : RpZ × RpZ) (i : Nat) : St := ⟨[(2, .ptr (.top 2) 0 0), (3, .ptr (.top 3) 0 0), (15, .int .i64 x.1.ls.length), (16, .int .i64 i)], [(0, .view 0 3 (rows lkC x.1.ls)), (1, .view 0 3 (rows lkC x.2.ls)), (2, .cells 0 [.int .i64 x.1.k, .int .i64 x.1.c, .int .i64 x.1.t, .int .i64 x.1.i, .int .i64 x.1.e, .bool x.1.a, .int .i64 x.1.r0, .int .i64 x.1.r1, .int .i64 x.1.r2, .int .i64 x.1.r3, .int .i64 x.1.r4, .int .i64 x.1.r5, .sl (.top 0) 0 x.1.ls.length]),
   (3, .cells 0 [.int .i64 x.2.k, .int .i64 x.2.c, .int .i64 x.2.t, .int .i64 x.2.i, .int .i64 x.2.e, .bool x.2.a, .int .i64 x.2.r0, .int .i64 x.2.r1, .int .i64 x.2.r2, .int .i64 x.2.r3, .int .i64 x.2.r4, .int .i64 x.2.r5, .sl (.top 1) 0 x.2.ls.length])], 4⟩
theorem hmix : Tryz.prog.follows .mixedOrders = true := by kernel_rfl
theorem E0 : SoundAll Tryz.prog (EL []) := fun _ _ h => by cases h
theorem s28 : Sound Tryz.prog 5 (F28.spec F28ok) := by
  refine Fn.sound (ac := ?ac) (res := ?res) F28ok Tryz.func5 (by kernel_rfl) (ha := ?ha) (hk := ?hk) (fun x hx => rfl) fun x hx w0 S hS => ?w
  case ha => conv => lhs; cbv
  case hk => kernel_rfl
  obtain ⟨x, y⟩ := x
  obtain ⟨hx, hy⟩ := hx
  have hE := E0
  simp [F28] at hS hx hy ⊢
  repeat' with_reducible (first
    | refine ZR.h ?_ | refine blockK_exit (by decide) ?_
    | (refine kR hE ?_; intro K hK; simp; (repeat' (first | refine hK _ _ ?_ | apply And.intro | (intro hc; try subst hc))) <;> (try clear hK K))
    | (refine kJ (b := _) (by with_unfolding_all rfl) (fun hc => ?_) (fun hc => ?_) <;> simp at hc <;> (try subst hc)))
  · simp
    refine Imp.auto (by kernel_rfl) ?_ ?_ <;> simp [NLe]
    intro e; rw [e] at hc; exact hc rfl
  · have hl : x.ls.length = y.ls.length := by omega
    refine kL (I28 (x, y)) (fun i => i ≤ x.ls.length ∧ x.ls.take i = y.ls.take i) (fun i => x.ls.length - i) 0 ⟨Nat.zero_le _, rfl⟩ ?_ ?_
    · rw [hS]
      refine Imp.auto (by kernel_rfl) ?_ ?_ <;> simp [NLe, I28]
    intro i ⟨hi, he⟩
    simp only [I28]
    by_cases hlt : i < x.ls.length
    · obtain ⟨u, hu⟩ : ∃ u, x.ls[i]? = some u := ⟨_, List.getElem?_eq_getElem hlt⟩
      obtain ⟨v, hv⟩ : ∃ v, y.ls[i]? = some v := ⟨_, List.getElem?_eq_getElem (by omega)⟩
      obtain ⟨u1, u2⟩ := rows_at (g := lkC) hu
      obtain ⟨v1, v2⟩ := rows_at (g := lkC) hv
      have hlt2 : i < y.ls.length := by omega
      have ww : IntKind.wrap .i64 ((i : Int) + 1) = (i : Int) + 1 := wrap_in (by omega) (by omega)
      simp only [lkC] at u1 u2 v1 v2
      repeat' with_reducible (first
        | refine ZR.h ?_ | refine blockK_exit (by decide) ?_
        | ((first | refine kR hE ?_ | refine kD hE hmix ?_); intro K hK; simp [hlt, hlt2, u1, u2, v1, v2, ww]; (repeat' (first | refine hK _ _ ?_ | apply And.intro | (intro hc; try subst hc))) <;> (try clear hK K))
        | (refine kJ (b := _) (by with_unfolding_all rfl) (fun hc => ?_) (fun hc => ?_) <;> simp at hc <;> (try subst hc)))
      · kernel_rfl
      · simp
        refine Imp.auto (by kernel_rfl) ?_ ?_ <;> simp [NLe]
        rintro rfl
        rw [hu] at hv
        simp at hv
        subst hv
        simp at hc
      · obtain ⟨h1, h2, h3⟩ := hc
        have huv : u = v := by cases u; cases v; simp_all
        refine ⟨i + 1, ⟨hlt, by rw [take_snoc hu, take_snoc hv, he, huv]⟩, by simp only; omega, ?_⟩
        rw [hS]
        refine Imp.auto (by kernel_rfl) ?_ ?_ <;> simp [NLe, I28]
    · obtain rfl : i = x.ls.length := by omega
      rw [List.take_length, hl, List.take_length] at he
      repeat' with_reducible (first
        | refine ZR.h ?_ | refine blockK_exit (by decide) ?_
        | (refine kR hE ?_; intro K hK; simp; (repeat' (first | refine hK _ _ ?_ | apply And.intro | (intro hc; try subst hc))) <;> (try clear hK K))
        | (refine kJ (b := _) (by with_unfolding_all rfl) (fun hc => ?_) (fun hc => ?_) <;> simp at hc <;> (try subst hc)))
      all_goals
        simp
        refine Imp.auto (by kernel_rfl) ?_ ?_ <;> simp [NLe]
      all_goals (cases x; cases y; simp_all)

def F29 : Fn (RpZ × RpZ) := F28
theorem F29ok : F29.Ok := F28ok
def bx (x : RpZ) (n : Nat) : NObj := .cells 0 [.int .i64 x.k, .int .i64 x.c, .int .i64 x.t, .int .i64 x.i, .int .i64 x.e, .bool x.a, .int .i64 x.r0, .int .i64 x.r1, .int .i64 x.r2, .int .i64 x.r3, .int .i64 x.r4, .int .i64 x.r5, .sl (.top n) 0 x.ls.length]
def I29 (x : RpZ × RpZ) (i : Nat) : St := ⟨[(2, .ptr (.top 2) 0 0), (3, .ptr (.top 3) 0 0), (5, .int .i64 i)], [(0, .view 0 3 (rows lkC x.1.ls)), (1, .view 0 3 (rows lkC x.2.ls)), (2, bx x.1 0), (3, bx x.2 1)], 4⟩
theorem s29 : Sound Tryz.prog 6 (F29.spec F29ok) := by
  refine Fn.sound (ac := ?ac) (res := ?res) F29ok Tryz.func6 (by kernel_rfl) (ha := ?ha) (hk := ?hk) (fun x hx => rfl) fun x hx w0 S hS => ?w
  case ha => conv => lhs; cbv
  case hk => kernel_rfl
  obtain ⟨x, y⟩ := x
  obtain ⟨hx, hy⟩ := hx
  have hE := E0
  simp [F29, F28] at hS hx hy ⊢
  repeat' with_reducible (first
    | refine ZR.h ?_ | refine blockK_exit (by decide) ?_
    | ((first | refine kR hE ?_ | refine kD hE hmix ?_); intro K hK; simp []; (repeat' (first | refine hK _ _ ?_ | apply And.intro | (intro hc; try subst hc))) <;> (try clear hK K))
    | (refine kJ (b := _) (by with_unfolding_all rfl) (fun hc => ?_) (fun hc => ?_) <;> simp at hc <;> (try subst hc)))
  all_goals try (simp; refine Imp.aua (by kernel_rfl) ?_ ?_ <;> simp [NLe, mkPlA, extP, prsO] <;> first | done | (rintro rfl; simp_all; done) | (cases x; cases y; simp_all; done))
  · rename_i hc
    have hl : x.ls.length = y.ls.length := by omega
    refine kL (I29 (x, y)) (fun i => i ≤ x.ls.length ∧ x.ls.take i = y.ls.take i) (fun i => x.ls.length - i) 0 ⟨Nat.zero_le _, rfl⟩ ?_ ?_
    · rw [hS]
      refine Imp.aua (by kernel_rfl) ?_ ?_ <;> simp [NLe, mkPlA, extP, prsO, I29, bx]
    intro i ⟨hi, he⟩
    simp only [I29, bx]
    by_cases hlt : i < x.ls.length
    · obtain ⟨u, hu⟩ : ∃ u, x.ls[i]? = some u := ⟨_, List.getElem?_eq_getElem hlt⟩
      obtain ⟨v, hv⟩ : ∃ v, y.ls[i]? = some v := ⟨_, List.getElem?_eq_getElem (by omega)⟩
      obtain ⟨u1, u2⟩ := rows_at (g := lkC) hu
      obtain ⟨v1, v2⟩ := rows_at (g := lkC) hv
      have hlt2 : i < y.ls.length := by omega
      have ww : IntKind.wrap .i64 ((i : Int) + 1) = (i : Int) + 1 := wrap_in (by omega) (by omega)
      simp only [lkC] at u1 u2 v1 v2
      repeat' with_reducible (first
        | refine ZR.h ?_ | refine blockK_exit (by decide) ?_
        | ((first | refine kR hE ?_ | refine kD hE hmix ?_); intro K hK; simp [hlt, hlt2, u1, u2, v1, v2, ww]; (repeat' (first | refine hK _ _ ?_ | apply And.intro | (intro hc; try subst hc))) <;> (try clear hK K))
        | (refine kJ (b := _) (by with_unfolding_all rfl) (fun hc => ?_) (fun hc => ?_) <;> simp at hc <;> (try subst hc)))
      · kernel_rfl
      · simp
        refine Imp.aua (by kernel_rfl) ?_ ?_ <;> simp [NLe, mkPlA, extP, prsO]
        rintro rfl
        rw [hu] at hv
        simp at hv
        subst hv
        simp at *
      · rename_i hc
        obtain ⟨h1, h2, h3⟩ := hc
        have huv : u = v := by cases u; cases v; simp_all
        refine ⟨i + 1, ⟨hlt, by rw [take_snoc hu, take_snoc hv, he, huv]⟩, by simp only; omega, ?_⟩
        rw [hS]
        refine Imp.aua (by kernel_rfl) ?_ ?_ <;> simp [NLe, mkPlA, extP, prsO, I29, bx]
    · obtain rfl : i = x.ls.length := by omega
      rw [List.take_length, hl, List.take_length] at he
      repeat' with_reducible (first
        | refine ZR.h ?_ | refine blockK_exit (by decide) ?_
        | ((first | refine kR hE ?_ | refine kD hE hmix ?_); intro K hK; simp []; (repeat' (first | refine hK _ _ ?_ | apply And.intro | (intro hc; try subst hc))) <;> (try clear hK K))
        | (refine kJ (b := _) (by with_unfolding_all rfl) (fun hc => ?_) (fun hc => ?_) <;> simp at hc <;> (try subst hc)))
      simp
      refine Imp.aua (by kernel_rfl) ?_ ?_ <;> simp [NLe, mkPlA, extP, prsO]
      cases x; cases y; simp_all
def F30 : Fn RpZ := ⟨[(3, false)], fun x => x.ls.length ≤ 50, fun x => [rpC x], fun x => ⟨rpC x, [.free]⟩⟩
theorem F30ok : F30.Ok := ⟨fun x y _ _ h => by
    simp only [F30, List.cons.injEq, and_true] at h
    rw [rpC_inj h], fun x hx => ⟨Ends_of (by simp [F30]), by simp [F30]⟩⟩
def I30 (x : RpZ) (i : Nat) : St := ⟨[(2, .ptr (.top 1) 0 0), (3, .ptr (.top 2) 0 0), (22, .sl (.top 0) 0 x.ls.length), (23, .int .i64 x.ls.length), (24, .int .i64 i)], [(0, .view 0 3 (rows lkC x.ls)), (1, .cells 0 [.int .i64 0, .int .i64 0, .int .i64 0, .int .i64 0, .int .i64 0, .bool false, .int .i64 0, .int .i64 0, .int .i64 0, .int .i64 0, .int .i64 0, .int .i64 0, .nsl]), (2, bx { x with ls := x.ls.take i } 3), (3, .arr 0 3 (rows lkC (x.ls.take i)))], 4⟩
theorem s30 : Sound Tryz.prog 7 (F30.spec F30ok) := by
  refine Fn.sound (ac := ?ac) (res := ?res) F30ok Tryz.func7 (by kernel_rfl) (ha := ?ha) (hk := ?hk) (fun x hx => rfl) fun x hx w0 S hS => ?w
  case ha => conv => lhs; cbv
  case hk => kernel_rfl
  have hE := E0
  simp [F30] at hS hx ⊢
  repeat' with_reducible (first
    | refine ZR.h ?_ | refine blockK_exit (by decide) ?_
    | ((first | refine kR hE ?_ | refine kD hE hmix ?_); intro K hK; simp []; (repeat' (first | refine hK _ _ ?_ | apply And.intro | (intro hc; try subst hc))) <;> (try clear hK K))
    | (refine kJ (b := _) (by with_unfolding_all rfl) (fun hc => ?_) (fun hc => ?_) <;> simp at hc <;> (try subst hc)))
  refine kL (I30 x) (fun i => i ≤ x.ls.length) (fun i => x.ls.length - i) 0 (Nat.zero_le _) ?_ ?_
  · rw [hS]
    refine Imp.aua (by kernel_rfl) ?_ ?_ <;> simp [NLe, mkPlA, extP, prsO, I30, bx]
  intro i hi
  simp only [I30, bx]
  by_cases hlt : i < x.ls.length
  · obtain ⟨u, hu⟩ : ∃ u, x.ls[i]? = some u := ⟨_, List.getElem?_eq_getElem hlt⟩
    obtain ⟨u1, u2⟩ := rows_at (g := lkC) hu
    have ww : IntKind.wrap .i64 ((i : Int) + 1) = (i : Int) + 1 := wrap_in (by omega) (by omega)
    have ha := rows_app (g := lkC) (x.ls.take i) u
    rw [← take_snoc hu] at ha
    simp only [lkC] at u1 u2 ha
    have hm : min i x.ls.length = i := by omega
    have b1 : (i + 1) * 24 ≤ 140737488355328 := by omega
    have b2 : i + 1 ≤ 9223372036854775807 := by omega
    have b3 : i ≤ 9223372036854775806 := by omega
    repeat' with_reducible (first
      | refine ZR.h ?_ | refine blockK_exit (by decide) ?_
      | ((first | refine kR hE ?_ | refine kD hE hmix ?_); intro K hK; simp [hlt, u1, u2, ha, ww, hm, b1, b2, b3]; (repeat' (first | refine hK _ _ ?_ | apply And.intro | (intro hc; try subst hc))) <;> (try clear hK K))
      | (refine kJ (b := _) (by with_unfolding_all rfl) (fun hc => ?_) (fun hc => ?_) <;> simp at hc <;> (try subst hc)))
    refine ⟨i + 1, hlt, by simp only; omega, ?_⟩
    rw [hS]
    refine Imp.aua (by kernel_rfl) ?_ ?_ <;> simp [NLe, mkPlA, extP, prsO, I30, bx, show min (i + 1) x.ls.length = i + 1 by omega]
  · obtain rfl : i = x.ls.length := by omega
    repeat' with_reducible (first
      | refine ZR.h ?_ | refine blockK_exit (by decide) ?_
      | ((first | refine kR hE ?_ | refine kD hE hmix ?_); intro K hK; simp []; (repeat' (first | refine hK _ _ ?_ | apply And.intro | (intro hc; try subst hc))) <;> (try clear hK K))
      | (refine kJ (b := _) (by with_unfolding_all rfl) (fun hc => ?_) (fun hc => ?_) <;> simp at hc <;> (try subst hc)))
    simp
    refine Imp.aua (by kernel_rfl) ?_ ?_ <;> simp [NLe, mkPlA, extP, prsO]

end Go.W
