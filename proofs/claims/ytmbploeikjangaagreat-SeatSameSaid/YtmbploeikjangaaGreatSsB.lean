/- The statement's function. -/
import Derived.Test.YtmbploeikjangaaGreatSsA
import Derived.Test.YtmbploeikjangaaGreatSsE
import Derived.Test.YtmbploeikjangaaGreatProg
namespace Go.W
open Go.Proofs
set_option linter.unusedSimpArgs false
set_option linter.unusedVariables false
set_option maxHeartbeats 8000000
set_option maxRecDepth 100000
attribute [local irreducible] Wm WmA
attribute [local simp] nmap lkp mkPl prs prsL prT ddL idL CRenL CRen Ren RenL NObj.none CRenLL

def F5 : Fn (RpZ × RpZ) := ⟨[(3, false), (3, false)], fun _ => True, fun x => [rpC x.1, rpC x.2], fun x => ⟨.bool true, [.free, .free]⟩⟩
theorem F5ok : F5.Ok := ⟨fun x y _ _ h => rfl, fun x hx => ⟨Ends_of (by simp [F5]), by simp [F5]⟩⟩
@[simp] theorem ms28 : F28.ms = [(3, false), (3, false)] := rfl
@[simp] theorem ms30 : F30.ms = [(3, false)] := rfl
theorem s5 : Sound Tryz.prog 3 (F5.spec F5ok) := by
  refine Fn.sound (ac := ?ac) (res := ?res) F5ok Tryz.func3 (by kernel_rfl) (ha := ?ha) (hk := ?hk) (fun x hx => rfl) fun x hx w0 S hS => ?w
  case ha => conv => lhs; cbv
  case hk => kernel_rfl
  obtain ⟨x, y⟩ := x
  have hE : SoundAll Tryz.prog (EL [(4, conS true), (5, F28.spec F28ok), (6, F28.spec F28ok), (7, F30.spec F30ok)]) := EL_sound (by simp only [List.mem_cons, List.not_mem_nil, or_false, forall_eq_or_imp, forall_eq]; exact ⟨s27, s28, s29, s30⟩)
  simp [F5] at hS ⊢
  by_cases hxy : x.ls.length ≤ 50 ∧ y.ls.length ≤ 50
  · have h1 : F28.d [rpC x, rpC y] = some ⟨.bool (decide (x = y)), [.free, .free]⟩ := F28ok.eq' (x, y) hxy
    have h2 : F28.d [rpC x, rpC x] = some ⟨.bool true, [.free, .free]⟩ := by
      have : F28.d [rpC x, rpC x] = some ⟨.bool (decide (x = x)), [.free, .free]⟩ := F28ok.eq' (x, x) ⟨hxy.1, hxy.1⟩
      rw [this]; simp
    have h3 : F30.d [rpC x] = some ⟨rpC x, [.free]⟩ := F30ok.eq' x hxy.1
    have h4 : F30.d [rpC y] = some ⟨rpC y, [.free]⟩ := F30ok.eq' y hxy.2
    simp only [rpC] at h1 h2 h3 h4
    obtain ⟨hx1, hx2⟩ := hxy
    have hx3 : ¬ (50 : Int) < x.ls.length := by omega
    have hx4 : ¬ (50 : Int) < y.ls.length := by omega
    repeat' with_reducible (first
      | refine ZR.h ?_ | refine blockK_exit (by decide) ?_
      | ((first | refine kR hE ?_ | refine kD hE hmix ?_); intro K hK; simp [h1, h2, h3, h4, hx3, hx4]; (repeat' (first | refine hK _ _ ?_ | apply And.intro | (intro hc; try subst hc))) <;> (try clear hK K))
      | (refine kJ (b := _) (by with_unfolding_all rfl) (fun hc => ?_) (fun hc => ?_) <;> simp at hc <;> (try subst hc)))
    · kernel_rfl
    · simp
      refine Imp.aua (by kernel_rfl) ?_ ?_ <;> simp [NLe, mkPlA, extP, prsO]
  · by_cases h1 : x.ls.length ≤ 50
    · have h2 : ¬ y.ls.length ≤ 50 := fun h => hxy ⟨h1, h⟩
      have hx3 : ¬ (50 : Int) < x.ls.length := by omega
      have hx4 : (50 : Int) < y.ls.length := by omega
      repeat' with_reducible (first
        | refine ZR.h ?_ | refine blockK_exit (by decide) ?_
        | ((first | refine kR hE ?_ | refine kD hE hmix ?_); intro K hK; simp [hx3, hx4]; (repeat' (first | refine hK _ _ ?_ | apply And.intro | (intro hc; try subst hc))) <;> (try clear hK K))
        | (refine kJ (b := _) (by with_unfolding_all rfl) (fun hc => ?_) (fun hc => ?_) <;> simp at hc <;> (try subst hc)))
      simp
      refine Imp.aua (by kernel_rfl) ?_ ?_ <;> simp [NLe, mkPlA, extP, prsO]
    · have hx3 : (50 : Int) < x.ls.length := by omega
      repeat' with_reducible (first
        | refine ZR.h ?_ | refine blockK_exit (by decide) ?_
        | ((first | refine kR hE ?_ | refine kD hE hmix ?_); intro K hK; simp [hx3]; (repeat' (first | refine hK _ _ ?_ | apply And.intro | (intro hc; try subst hc))) <;> (try clear hK K))
        | (refine kJ (b := _) (by with_unfolding_all rfl) (fun hc => ?_) (fun hc => ?_) <;> simp at hc <;> (try subst hc)))
      simp
      refine Imp.aua (by kernel_rfl) ?_ ?_ <;> simp [NLe, mkPlA, extP, prsO]
end Go.W
