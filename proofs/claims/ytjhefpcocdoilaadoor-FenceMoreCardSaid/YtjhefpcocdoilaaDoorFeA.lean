/- What the example's fence lets pass. The document's example. The document's example, as a specification. -/
import Derived.Test.YtjhefpcocdoilaaDoorFaE
import Derived.Deep.RegionWith
import Derived.Test.YtjhefpcocdoilaaDoorWbA
namespace Go.Proofs.YtjhefpcocdoilaaDoor
open Go.RowKit Go.Extern.Stop Go.Stop Go.Extern
set_option linter.unusedSimpArgs false
set_option linter.unusedVariables false

set_option maxHeartbeats 4000000 in
theorem of_ok (F b c : Nat) (w : World) (hF : w.cell? ⟨F, 7, none⟩ = some (.slice (some ⟨b, 0, none⟩) 1 c)) (c0 : w.cell? ⟨b, 0, none⟩ = some (.int .i64 1)) (c1 : w.cell? ⟨b, 1, none⟩ = some (.int .i64 9)) (c2 : w.cell? ⟨b, 2, none⟩ = some (.int .i64 99)) (c3 : w.cell? ⟨b, 3, none⟩ = some (.int .i64 9)) (c4 : w.cell? ⟨b, 4, none⟩ = some (.int .i64 0)) :
    Calls Tryd.prog 18 #[.pointer (some ⟨F, 0, none⟩), .int .i64 0] w fun ev w' => ev = .returned (.tuple #[.agg #[.int .i64 1, .int .i64 9, .int .i64 99, .int .i64 9, .int .i64 0], .bool true]) ∧ Below w.heap.size w w' := by
  have l0 : F < w.heap.size := cell_lt hF
  have l1 : b < w.heap.size := cell_lt c0
  have Fm1 : F < w.heap.size + 1 := by omega
  have Fm2 : F < w.heap.size + 1 + 1 := by omega
  have Fm3 : F < w.heap.size + 1 + 1 + 1 := by omega
  have Fm4 : F < w.heap.size + 1 + 1 + 1 + 1 := by omega
  have Fm5 : F < w.heap.size + 1 + 1 + 1 + 1 + 1 := by omega
  have Fm6 : F < w.heap.size + 1 + 1 + 1 + 1 + 1 + 1 := by omega
  have bm1 : b < w.heap.size + 1 := by omega
  have bm2 : b < w.heap.size + 1 + 1 := by omega
  have bm3 : b < w.heap.size + 1 + 1 + 1 := by omega
  have bm4 : b < w.heap.size + 1 + 1 + 1 + 1 := by omega
  have bm5 : b < w.heap.size + 1 + 1 + 1 + 1 + 1 := by omega
  have bm6 : b < w.heap.size + 1 + 1 + 1 + 1 + 1 + 1 := by omega
  go_enter Tryd.func18, Tryd.ntmps18
  go_wp2
  refine bodyPost_ret (v := .tuple #[.agg #[.int .i64 1, .int .i64 9, .int .i64 99, .int .i64 9, .int .i64 0], .bool true]) (by simp [results, Tryd.results18, go_sem]) rfl ⟨rfl, ?_⟩
  · repeat (first | exact Below.refl _ _ | refine Below.alloc ?_ (by first | omega | (simp; done) | (simp; omega)) _ | refine Below.setCell ?_ (by first | omega | (simp; done) | (simp; omega)) _ | refine Below.drew ?_)

theorem wopen : "open".toUTF8 = ByteArray.mk #[111, 112, 101, 110] := by kernel_rfl
set_option maxHeartbeats 4000000 in
theorem may_no (F b c : Nat) (w : World) (hF : w.cell? ⟨F, 7, none⟩ = some (.slice (some ⟨b, 0, none⟩) 1 c)) (c0 : w.cell? ⟨b, 0, none⟩ = some (.int .i64 1)) (c1 : w.cell? ⟨b, 1, none⟩ = some (.int .i64 9)) (c2 : w.cell? ⟨b, 2, none⟩ = some (.int .i64 99)) (c3 : w.cell? ⟨b, 3, none⟩ = some (.int .i64 9)) (c4 : w.cell? ⟨b, 4, none⟩ = some (.int .i64 0)) :
    Calls Tryd.prog 11 #[.pointer (some ⟨F, 0, none⟩), .int .i64 0, .agg #[.int .i64 1, .int .i64 0, .int .i64 0, .int .i64 0, .int .i64 0, .int .i64 2, .int .i64 0, .int .i64 0, .int .i64 1], .agg #[.int .i64 1, .int .i64 0, .int .i64 0, .int .i64 0, .int .i64 0, .int .i64 0], .int .i64 0] w fun ev w' => ∃ nb, ev = .returned (.iface 74 (.pointer (some ⟨nb, 0, none⟩))) ∧ w'.cell? ⟨nb, 0, none⟩ = some (.string (ByteArray.mk #[111, 112, 101, 110])) ∧ w'.cell? ⟨nb, 1, none⟩ = some (.iface 60 (.int .i64 4)) ∧ Below w.heap.size w w' := by
  have l0 : F < w.heap.size := cell_lt hF
  have l1 : b < w.heap.size := cell_lt c0
  have Fm1 : F < w.heap.size + 1 := by omega
  have Fm2 : F < w.heap.size + 1 + 1 := by omega
  have Fm3 : F < w.heap.size + 1 + 1 + 1 := by omega
  have Fm4 : F < w.heap.size + 1 + 1 + 1 + 1 := by omega
  have Fm5 : F < w.heap.size + 1 + 1 + 1 + 1 + 1 := by omega
  have Fm6 : F < w.heap.size + 1 + 1 + 1 + 1 + 1 + 1 := by omega
  have bm1 : b < w.heap.size + 1 := by omega
  have bm2 : b < w.heap.size + 1 + 1 := by omega
  have bm3 : b < w.heap.size + 1 + 1 + 1 := by omega
  have bm4 : b < w.heap.size + 1 + 1 + 1 + 1 := by omega
  have bm5 : b < w.heap.size + 1 + 1 + 1 + 1 + 1 := by omega
  have bm6 : b < w.heap.size + 1 + 1 + 1 + 1 + 1 + 1 := by omega
  go_enter Tryd.func11, Tryd.ntmps11
  go_wp2
  refine bodyPost_ret (v := .tuple #[.agg #[.int .i64 1, .int .i64 9, .int .i64 99, .int .i64 9, .int .i64 0], .bool true]) (by simp [results, Tryd.results18, go_sem]) rfl ?_
  try dsimp only
  apply_assumption
  go_wp2
  refine bodyPost_ret (v := .iface 74 (.pointer (some ⟨w.heap.size + 1 + 1 + 1 + 1, 0, none⟩))) (by simp [results, Tryd.results11, go_sem]) rfl ⟨w.heap.size + 1 + 1 + 1 + 1, rfl, ?_, ?_, ?_⟩
  · go_simp
  · go_simp
  · repeat (first | exact Below.refl _ _ | refine Below.alloc ?_ (by first | omega | (simp; done) | (simp; omega)) _ | refine Below.setCell ?_ (by first | omega | (simp; done) | (simp; omega)) _ | refine Below.drew ?_)
set_option maxHeartbeats 4000000 in
theorem may_yes (F b c : Nat) (w : World) (hF : w.cell? ⟨F, 7, none⟩ = some (.slice (some ⟨b, 0, none⟩) 1 c)) (c0 : w.cell? ⟨b, 0, none⟩ = some (.int .i64 1)) (c1 : w.cell? ⟨b, 1, none⟩ = some (.int .i64 9)) (c2 : w.cell? ⟨b, 2, none⟩ = some (.int .i64 99)) (c3 : w.cell? ⟨b, 3, none⟩ = some (.int .i64 9)) (c4 : w.cell? ⟨b, 4, none⟩ = some (.int .i64 0)) :
    Calls Tryd.prog 11 #[.pointer (some ⟨F, 0, none⟩), .int .i64 0, .agg #[.int .i64 1, .int .i64 0, .int .i64 0, .int .i64 0, .int .i64 0, .int .i64 2, .int .i64 0, .int .i64 0, .int .i64 1], .agg #[.int .i64 0, .int .i64 0, .int .i64 0, .int .i64 0, .int .i64 0, .int .i64 0], .int .i64 0] w fun ev w' => ev = .returned .nilIface ∧ Below w.heap.size w w' := by
  have l0 : F < w.heap.size := cell_lt hF
  have l1 : b < w.heap.size := cell_lt c0
  have Fm1 : F < w.heap.size + 1 := by omega
  have Fm2 : F < w.heap.size + 1 + 1 := by omega
  have Fm3 : F < w.heap.size + 1 + 1 + 1 := by omega
  have Fm4 : F < w.heap.size + 1 + 1 + 1 + 1 := by omega
  have Fm5 : F < w.heap.size + 1 + 1 + 1 + 1 + 1 := by omega
  have Fm6 : F < w.heap.size + 1 + 1 + 1 + 1 + 1 + 1 := by omega
  have bm1 : b < w.heap.size + 1 := by omega
  have bm2 : b < w.heap.size + 1 + 1 := by omega
  have bm3 : b < w.heap.size + 1 + 1 + 1 := by omega
  have bm4 : b < w.heap.size + 1 + 1 + 1 + 1 := by omega
  have bm5 : b < w.heap.size + 1 + 1 + 1 + 1 + 1 := by omega
  have bm6 : b < w.heap.size + 1 + 1 + 1 + 1 + 1 + 1 := by omega
  go_enter Tryd.func11, Tryd.ntmps11
  go_wp2
  refine bodyPost_ret (v := .tuple #[.agg #[.int .i64 1, .int .i64 9, .int .i64 99, .int .i64 9, .int .i64 0], .bool true]) (by simp [results, Tryd.results18, go_sem]) rfl ?_
  try dsimp only
  apply_assumption
  go_wp2
  go_region_calls
  all_goals (try go_wp2)
  all_goals (refine bodyPost_ret (v := .nilIface) (by simp [results, Tryd.results11, go_sem]) rfl ⟨rfl, ?_⟩; repeat (first | exact Below.refl _ _ | refine Below.alloc ?_ (by first | omega | (simp; done) | (simp; omega)) _ | refine Below.setCell ?_ (by first | omega | (simp; done) | (simp; omega)) _ | refine Below.drew ?_))
end Go.Proofs.YtjhefpcocdoilaaDoor
namespace Go.Proofs.YtjhefpcocdoilaaDoor
open Go.RowKit Go.Extern.Stop Go.Stop Go.Extern
set_option linter.unusedSimpArgs false
set_option linter.unusedVariables false

set_option maxHeartbeats 2000000 in
theorem awake_ok (w : World) (hg : w.cell? ⟨0, 0, none⟩ = some (.iface 93 (.agg #[.pointer (some ⟨1, 35, none⟩)]))) :
    Calls Tryd.prog 7 #[] w fun ev w' => ev = .returned (.bool true) ∧ Below w.heap.size w w' := by
  have l0 : 0 < w.heap.size := cell_lt hg
  go_enter Tryd.func7, Tryd.ntmps7
  go_wp2_with (first | (go_at_call 4; refine (new_ok _).mono ?_; rintro ev w1 ⟨rfl, k1⟩; have g1 : w1.cell? ⟨0, 0, none⟩ = some (.iface 93 (.agg #[.pointer (some ⟨1, 35, none⟩)])) := (by rw [k1.cell (by first | (simp; done) | (simp; omega) | omega)]; go_simp); have l1 := cell_lt g1; have zw1_0 : 0 < w1.heap.size := (by omega); have zw1_1 : 0 < w1.heap.size + 1 := (by omega); have zw1_2 : 0 < w1.heap.size + 1 + 1 := (by omega); have zw1_3 : 0 < w1.heap.size + 1 + 1 + 1 := (by omega); have zw1_4 : 0 < w1.heap.size + 1 + 1 + 1 + 1 := (by omega); have zw1_5 : 0 < w1.heap.size + 1 + 1 + 1 + 1 + 1 := (by omega); have zw1_6 : 0 < w1.heap.size + 1 + 1 + 1 + 1 + 1 + 1 := (by omega)) | (go_at_call 8; refine (fence_ok (w1.heap.size + 1) 1 _ (by go_simp) (by go_simp) (by go_simp) (by go_simp) (by go_simp)).mono ?_; rintro ev w2 ⟨F, b, c, rfl, f0, f1, f2, f3, f4, f5, k2⟩; have g2 : w2.cell? ⟨0, 0, none⟩ = some (.iface 93 (.agg #[.pointer (some ⟨1, 35, none⟩)])) := (by rw [k2.cell (by first | (simp; done) | (simp; omega) | omega)]; go_simp); have l2 := cell_lt g2; have lF := cell_lt f0; have lb := cell_lt f1; simp only at l2 lF lb; have zw2_0 : 0 < w2.heap.size := (by omega); have zw2_1 : 0 < w2.heap.size + 1 := (by omega); have zw2_2 : 0 < w2.heap.size + 1 + 1 := (by omega); have zw2_3 : 0 < w2.heap.size + 1 + 1 + 1 := (by omega); have zw2_4 : 0 < w2.heap.size + 1 + 1 + 1 + 1 := (by omega); have Fw2_0 : F < w2.heap.size := (by omega); have Fw2_1 : F < w2.heap.size + 1 := (by omega); have Fw2_2 : F < w2.heap.size + 1 + 1 := (by omega); have Fw2_3 : F < w2.heap.size + 1 + 1 + 1 := (by omega); have Fw2_4 : F < w2.heap.size + 1 + 1 + 1 + 1 := (by omega); have bw2_0 : b < w2.heap.size := (by omega); have bw2_1 : b < w2.heap.size + 1 := (by omega); have bw2_2 : b < w2.heap.size + 1 + 1 := (by omega); have bw2_3 : b < w2.heap.size + 1 + 1 + 1 := (by omega); have bw2_4 : b < w2.heap.size + 1 + 1 + 1 + 1 := (by omega)) | (go_at_call 11; have := k4; refine (may_yes F b c _ (by go_simp) (by go_simp) (by go_simp) (by go_simp) (by go_simp) (by go_simp)).mono ?_; rintro ev w5 ⟨rfl, k5⟩; have g5 : w5.cell? ⟨0, 0, none⟩ = some (.iface 93 (.agg #[.pointer (some ⟨1, 35, none⟩)])) := (by rw [k5.cell (by first | (simp; done) | (simp; omega) | omega)]; go_simp); have u5 : w5.cell? wa = some (.string (ByteArray.mk #[111, 112, 101, 110])) := (by rw [k5.cell (by first | (simp; done) | (simp; omega) | omega)]; go_simp); have n50 : w5.cell? ⟨nb, 0, none⟩ = some (.string (ByteArray.mk #[111, 112, 101, 110])) := (by rw [k5.cell (by first | (simp; done) | (simp; omega) | omega)]; go_simp); have n51 : w5.cell? ⟨nb, 1, none⟩ = some (.iface 60 (.int .i64 4)) := (by rw [k5.cell (by first | (simp; done) | (simp; omega) | omega)]; go_simp); have l5 := cell_lt g5; have ln5 := cell_lt n50; have lu5 := cell_lt u5; simp only at l5 ln5; have zw5_0 : 0 < w5.heap.size := (by omega); have zw5_1 : 0 < w5.heap.size + 1 := (by omega); have zw5_2 : 0 < w5.heap.size + 1 + 1 := (by omega); have zw5_3 : 0 < w5.heap.size + 1 + 1 + 1 := (by omega); have zw5_4 : 0 < w5.heap.size + 1 + 1 + 1 + 1 := (by omega); have nw5_0 : nb < w5.heap.size := (by omega); have nw5_1 : nb < w5.heap.size + 1 := (by omega); have nw5_2 : nb < w5.heap.size + 1 + 1 := (by omega); have nw5_3 : nb < w5.heap.size + 1 + 1 + 1 := (by omega); have nw5_4 : nb < w5.heap.size + 1 + 1 + 1 + 1 := (by omega); have uw5_0 : wa.block < w5.heap.size := (by omega); have uw5_1 : wa.block < w5.heap.size + 1 := (by omega); have uw5_2 : wa.block < w5.heap.size + 1 + 1 := (by omega); have uw5_3 : wa.block < w5.heap.size + 1 + 1 + 1 := (by omega); have uw5_4 : wa.block < w5.heap.size + 1 + 1 + 1 + 1 := (by omega)) | (go_at_call 11; refine (may_no F b c _ (by go_simp) (by go_simp) (by go_simp) (by go_simp) (by go_simp) (by go_simp)).mono ?_; rintro ev w3 ⟨nb, rfl, n0, n1, k3⟩; have g3 : w3.cell? ⟨0, 0, none⟩ = some (.iface 93 (.agg #[.pointer (some ⟨1, 35, none⟩)])) := (by rw [k3.cell (by first | (simp; done) | (simp; omega) | omega)]; go_simp); have p0 : w3.cell? ⟨F, 7, none⟩ = some (.slice (some ⟨b, 0, none⟩) 1 c) := (by rw [k3.cell (by first | (simp; done) | (simp; omega) | omega)]; go_simp); have p1 : w3.cell? ⟨b, 0, none⟩ = some (.int .i64 1) := (by rw [k3.cell (by first | (simp; done) | (simp; omega) | omega)]; go_simp); have p2 : w3.cell? ⟨b, 1, none⟩ = some (.int .i64 9) := (by rw [k3.cell (by first | (simp; done) | (simp; omega) | omega)]; go_simp); have p3 : w3.cell? ⟨b, 2, none⟩ = some (.int .i64 99) := (by rw [k3.cell (by first | (simp; done) | (simp; omega) | omega)]; go_simp); have p4 : w3.cell? ⟨b, 3, none⟩ = some (.int .i64 9) := (by rw [k3.cell (by first | (simp; done) | (simp; omega) | omega)]; go_simp); have p5 : w3.cell? ⟨b, 4, none⟩ = some (.int .i64 0) := (by rw [k3.cell (by first | (simp; done) | (simp; omega) | omega)]; go_simp); have a30 : w3.cell? ⟨w2.heap.size, 0, none⟩ = some (.int .i64 1) := (by rw [k3.cell (by first | (simp; done) | (simp; omega) | omega)]; go_simp); have a31 : w3.cell? ⟨w2.heap.size, 1, none⟩ = some (.int .i64 0) := (by rw [k3.cell (by first | (simp; done) | (simp; omega) | omega)]; go_simp); have a32 : w3.cell? ⟨w2.heap.size, 2, none⟩ = some (.int .i64 0) := (by rw [k3.cell (by first | (simp; done) | (simp; omega) | omega)]; go_simp); have a33 : w3.cell? ⟨w2.heap.size, 3, none⟩ = some (.int .i64 0) := (by rw [k3.cell (by first | (simp; done) | (simp; omega) | omega)]; go_simp); have a34 : w3.cell? ⟨w2.heap.size, 4, none⟩ = some (.int .i64 0) := (by rw [k3.cell (by first | (simp; done) | (simp; omega) | omega)]; go_simp); have a35 : w3.cell? ⟨w2.heap.size, 5, none⟩ = some (.int .i64 2) := (by rw [k3.cell (by first | (simp; done) | (simp; omega) | omega)]; go_simp); have a36 : w3.cell? ⟨w2.heap.size, 6, none⟩ = some (.int .i64 0) := (by rw [k3.cell (by first | (simp; done) | (simp; omega) | omega)]; go_simp); have a37 : w3.cell? ⟨w2.heap.size, 7, none⟩ = some (.int .i64 0) := (by rw [k3.cell (by first | (simp; done) | (simp; omega) | omega)]; go_simp); have a38 : w3.cell? ⟨w2.heap.size, 8, none⟩ = some (.int .i64 1) := (by rw [k3.cell (by first | (simp; done) | (simp; omega) | omega)]; go_simp); have l3 := cell_lt g3; have lF3 := cell_lt p0; have lb3 := cell_lt p1; have ln3 := cell_lt n0; have la3 := cell_lt a30; simp only at l3 lF3 lb3 ln3 la3; have zw3_0 : 0 < w3.heap.size := (by omega); have zw3_1 : 0 < w3.heap.size + 1 := (by omega); have zw3_2 : 0 < w3.heap.size + 1 + 1 := (by omega); have zw3_3 : 0 < w3.heap.size + 1 + 1 + 1 := (by omega); have zw3_4 : 0 < w3.heap.size + 1 + 1 + 1 + 1 := (by omega); have Fw3_0 : F < w3.heap.size := (by omega); have Fw3_1 : F < w3.heap.size + 1 := (by omega); have Fw3_2 : F < w3.heap.size + 1 + 1 := (by omega); have Fw3_3 : F < w3.heap.size + 1 + 1 + 1 := (by omega); have Fw3_4 : F < w3.heap.size + 1 + 1 + 1 + 1 := (by omega); have bw3_0 : b < w3.heap.size := (by omega); have bw3_1 : b < w3.heap.size + 1 := (by omega); have bw3_2 : b < w3.heap.size + 1 + 1 := (by omega); have bw3_3 : b < w3.heap.size + 1 + 1 + 1 := (by omega); have bw3_4 : b < w3.heap.size + 1 + 1 + 1 + 1 := (by omega); have nw3_0 : nb < w3.heap.size := (by omega); have nw3_1 : nb < w3.heap.size + 1 := (by omega); have nw3_2 : nb < w3.heap.size + 1 + 1 := (by omega); have nw3_3 : nb < w3.heap.size + 1 + 1 + 1 := (by omega); have nw3_4 : nb < w3.heap.size + 1 + 1 + 1 + 1 := (by omega); have aw3_0 : w2.heap.size < w3.heap.size := (by omega); have aw3_1 : w2.heap.size < w3.heap.size + 1 := (by omega); have aw3_2 : w2.heap.size < w3.heap.size + 1 + 1 := (by omega); have aw3_3 : w2.heap.size < w3.heap.size + 1 + 1 + 1 := (by omega); have aw3_4 : w2.heap.size < w3.heap.size + 1 + 1 + 1 + 1 := (by omega)) | (go_at_call 16; refine (words_ok 4 nb 0 (ByteArray.mk #[111, 112, 101, 110]) _ (by go_simp) (by go_simp) (by go_simp)).mono ?_; rintro ev w4 ⟨wa, wc, rfl, u0, k4⟩; have g4 : w4.cell? ⟨0, 0, none⟩ = some (.iface 93 (.agg #[.pointer (some ⟨1, 35, none⟩)])) := (by rw [k4.cell (by first | (simp; done) | (simp; omega) | omega)]; go_simp); have q0 : w4.cell? ⟨F, 7, none⟩ = some (.slice (some ⟨b, 0, none⟩) 1 c) := (by rw [k4.cell (by first | (simp; done) | (simp; omega) | omega)]; go_simp); have q1 : w4.cell? ⟨b, 0, none⟩ = some (.int .i64 1) := (by rw [k4.cell (by first | (simp; done) | (simp; omega) | omega)]; go_simp); have q2 : w4.cell? ⟨b, 1, none⟩ = some (.int .i64 9) := (by rw [k4.cell (by first | (simp; done) | (simp; omega) | omega)]; go_simp); have q3 : w4.cell? ⟨b, 2, none⟩ = some (.int .i64 99) := (by rw [k4.cell (by first | (simp; done) | (simp; omega) | omega)]; go_simp); have q4 : w4.cell? ⟨b, 3, none⟩ = some (.int .i64 9) := (by rw [k4.cell (by first | (simp; done) | (simp; omega) | omega)]; go_simp); have q5 : w4.cell? ⟨b, 4, none⟩ = some (.int .i64 0) := (by rw [k4.cell (by first | (simp; done) | (simp; omega) | omega)]; go_simp); have n40 : w4.cell? ⟨nb, 0, none⟩ = some (.string (ByteArray.mk #[111, 112, 101, 110])) := (by rw [k4.cell (by first | (simp; done) | (simp; omega) | omega)]; go_simp); have n41 : w4.cell? ⟨nb, 1, none⟩ = some (.iface 60 (.int .i64 4)) := (by rw [k4.cell (by first | (simp; done) | (simp; omega) | omega)]; go_simp); have a40 : w4.cell? ⟨w2.heap.size, 0, none⟩ = some (.int .i64 1) := (by rw [k4.cell (by first | (simp; done) | (simp; omega) | omega)]; go_simp); have a41 : w4.cell? ⟨w2.heap.size, 1, none⟩ = some (.int .i64 0) := (by rw [k4.cell (by first | (simp; done) | (simp; omega) | omega)]; go_simp); have a42 : w4.cell? ⟨w2.heap.size, 2, none⟩ = some (.int .i64 0) := (by rw [k4.cell (by first | (simp; done) | (simp; omega) | omega)]; go_simp); have a43 : w4.cell? ⟨w2.heap.size, 3, none⟩ = some (.int .i64 0) := (by rw [k4.cell (by first | (simp; done) | (simp; omega) | omega)]; go_simp); have a44 : w4.cell? ⟨w2.heap.size, 4, none⟩ = some (.int .i64 0) := (by rw [k4.cell (by first | (simp; done) | (simp; omega) | omega)]; go_simp); have a45 : w4.cell? ⟨w2.heap.size, 5, none⟩ = some (.int .i64 2) := (by rw [k4.cell (by first | (simp; done) | (simp; omega) | omega)]; go_simp); have a46 : w4.cell? ⟨w2.heap.size, 6, none⟩ = some (.int .i64 0) := (by rw [k4.cell (by first | (simp; done) | (simp; omega) | omega)]; go_simp); have a47 : w4.cell? ⟨w2.heap.size, 7, none⟩ = some (.int .i64 0) := (by rw [k4.cell (by first | (simp; done) | (simp; omega) | omega)]; go_simp); have a48 : w4.cell? ⟨w2.heap.size, 8, none⟩ = some (.int .i64 1) := (by rw [k4.cell (by first | (simp; done) | (simp; omega) | omega)]; go_simp); have l4 := cell_lt g4; have lF4 := cell_lt q0; have lb4 := cell_lt q1; have ln4 := cell_lt n40; have la4 := cell_lt a40; have lu4 := cell_lt u0; simp only at l4 lF4 lb4 ln4 la4 lu4; have zw4_0 : 0 < w4.heap.size := (by omega); have zw4_1 : 0 < w4.heap.size + 1 := (by omega); have zw4_2 : 0 < w4.heap.size + 1 + 1 := (by omega); have zw4_3 : 0 < w4.heap.size + 1 + 1 + 1 := (by omega); have zw4_4 : 0 < w4.heap.size + 1 + 1 + 1 + 1 := (by omega); have Fw4_0 : F < w4.heap.size := (by omega); have Fw4_1 : F < w4.heap.size + 1 := (by omega); have Fw4_2 : F < w4.heap.size + 1 + 1 := (by omega); have Fw4_3 : F < w4.heap.size + 1 + 1 + 1 := (by omega); have Fw4_4 : F < w4.heap.size + 1 + 1 + 1 + 1 := (by omega); have bw4_0 : b < w4.heap.size := (by omega); have bw4_1 : b < w4.heap.size + 1 := (by omega); have bw4_2 : b < w4.heap.size + 1 + 1 := (by omega); have bw4_3 : b < w4.heap.size + 1 + 1 + 1 := (by omega); have bw4_4 : b < w4.heap.size + 1 + 1 + 1 + 1 := (by omega); have nw4_0 : nb < w4.heap.size := (by omega); have nw4_1 : nb < w4.heap.size + 1 := (by omega); have nw4_2 : nb < w4.heap.size + 1 + 1 := (by omega); have nw4_3 : nb < w4.heap.size + 1 + 1 + 1 := (by omega); have nw4_4 : nb < w4.heap.size + 1 + 1 + 1 + 1 := (by omega); have uw4_0 : wa.block < w4.heap.size := (by omega); have uw4_1 : wa.block < w4.heap.size + 1 := (by omega); have uw4_2 : wa.block < w4.heap.size + 1 + 1 := (by omega); have uw4_3 : wa.block < w4.heap.size + 1 + 1 + 1 := (by omega); have uw4_4 : wa.block < w4.heap.size + 1 + 1 + 1 + 1 := (by omega); have aw4_0 : w2.heap.size < w4.heap.size := (by omega); have aw4_1 : w2.heap.size < w4.heap.size + 1 := (by omega); have aw4_2 : w2.heap.size < w4.heap.size + 1 + 1 := (by omega); have aw4_3 : w2.heap.size < w4.heap.size + 1 + 1 + 1 := (by omega); have aw4_4 : w2.heap.size < w4.heap.size + 1 + 1 + 1 + 1 := (by omega)) | (go_at_call 17; refine (code_ok 4 nb 0 _ (by go_simp) (by go_simp)).mono ?_; rintro ev w6 ⟨rfl, k6⟩; have u6 : w6.cell? wa = some (.string (ByteArray.mk #[111, 112, 101, 110])) := (by rw [k6.cell (by first | (simp; done) | (simp; omega) | omega)]; go_simp); have lu6 := cell_lt u6; have uw6_0 : wa.block < w6.heap.size := (by omega); have uw6_1 : wa.block < w6.heap.size + 1 := (by omega); have uw6_2 : wa.block < w6.heap.size + 1 + 1 := (by omega); have uw6_3 : wa.block < w6.heap.size + 1 + 1 + 1 := (by omega); have uw6_4 : wa.block < w6.heap.size + 1 + 1 + 1 + 1 := (by omega)))
  go_ret
  refine ⟨rfl, ?_⟩
  have e1 := k1.size
  have e2 := k2.size
  have e3 := k3.size
  have e4 := k4.size
  have e5 := k5.size
  have e6 := k6.size
  simp at e1 e2 e3 e4 e5 e6
  repeat (first | exact Below.refl _ _ | exact k1 | refine Below.trans ?_ (k6.mono (by first | omega | (simp; omega))) | refine Below.trans ?_ (k5.mono (by first | omega | (simp; omega))) | refine Below.trans ?_ (k4.mono (by first | omega | (simp; omega))) | refine Below.trans ?_ (k3.mono (by first | omega | (simp; omega))) | refine Below.trans ?_ (k2.mono (by first | omega | (simp; omega))) | first | exact Below.refl _ _ | refine Below.alloc ?_ (by first | omega | (simp; done) | (simp; omega)) _ | refine Below.setCell ?_ (by first | omega | (simp; done) | (simp; omega)) _ | refine Below.drew ?_)
end Go.Proofs.YtjhefpcocdoilaaDoor
namespace Go.W
open Go.Proofs Go.RowKit
set_option linter.unusedSimpArgs false
set_option linter.unusedVariables false

/-- What is known of a world stands in a later one, whose blocks are as they were. -/
theorem HCore.later {w0 : World} {S : Sc} {ρ : Env} {H : Nm → AObj} {w w' : World} (h : HCore w0 S ρ H w) (hB : Below w.heap.size w w') : HCore w0 S ρ H w' where
  os := hB.os.trans h.os
  tape := hB.tape.trans h.tape
  output := hB.output.trans h.output
  size := Nat.le_trans h.size hB.size
  frame b hb hs := (hB.block b (Nat.lt_of_lt_of_le hb h.size)).trans (h.frame b hb hs)
  obj x := by
    by_cases ho : Owned (ρ x) (H x) ∨ Viewed (ρ x) (H x)
    · refine (h.obj x).same (hB.block _ ?_)
      rcases ho with ho | ho
      · exact (h.own x ho).1
      · exact Nat.lt_of_lt_of_le (h.vw x ho).1 h.size
    · exact (h.obj x).nil_same (fun h => ho (.inl h)) (fun h => ho (.inr h))
  own x hx := ⟨Nat.lt_of_lt_of_le (h.own x hx).1 hB.size, (h.own x hx).2⟩
  dist := h.dist
  vw := h.vw
  an := h.an
  gd := h.gd

def d7 : List AV → List NObj → Option AV
  | [], [] => some (.bool true)
  | _, _ => none
theorem ok7 : ROk d7 := by
  intro xs os r h
  unfold d7 at h
  (repeat' (split at h)) <;> first | (cases h; done) | (injection h with h; subst h; simp)
theorem nm7 : (Tryd.f7.name == "runtime.NumGoroutine") = false := by kernel_rfl
theorem s7 : Sound Tryd.prog 7 (rdS d7 ok7) := by
  refine ⟨⟨Tryd.f7, Tryd.func7, nm7, by kernel_rfl⟩, fun w0 S Es U G w avs vs nb r h1 h2 h3 h4 h5 h6 h7 h8 => ?_⟩
  obtain ⟨ρ0, h0⟩ := h1
  obtain ⟨xs, ml, os, res, g1, g2, rfl⟩ := rdF_some h7
  unfold d7 at g2
  split at g2
  · injection g2 with g2
    subst g2
    have ha : avs = [] := by
      cases avs with
      | nil => rfl
      | cons a l =>
        exfalso
        simp only [travL] at g1
        (repeat' (split at g1)) <;> simp at g1
    subst ha
    have hv : vs = [] := by
      have := h6 ρ0 h0
      cases vs with
      | nil => rfl
      | cons v vs => simp [RepL] at this
    subst hv
    refine (Go.Proofs.YtjhefpcocdoilaaDoor.awake_ok w (h5 ρ0 h0).g0).mono ?_
    rintro e w' ⟨rfl, hB⟩
    refine ⟨.bool true, fun _ => nilLoc, rfl, fun ρ hρ _ => ⟨?_, ?_⟩⟩
    · simp [layN, bkR, Rep]
    · exact (h5 ρ hρ).later hB
  · cases g2
end Go.W
