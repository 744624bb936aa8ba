import Derived.Test.YthehmmodkhoieaaVcR
import Derived.Test.YthehmmodkhoieaaChecked
namespace Go.Vc
open Go.Proofs
set_option linter.unusedSimpArgs false
set_option linter.unusedVariables false

set_option maxHeartbeats 4000000
attribute [local irreducible] Wm
def upZ (a b : Int) : Int := if b < a ∧ (IntKind.wrap .i64 (a - b)).tmod 2 = 1 then 1 else 0

def d80 : List AV → Option AV
  | [.int .i64 a, .int .i64 b] => some (.int .i64 (upZ a b))
  | _ => none

theorem s80 : Sound Try.prog 80 (scal d80) := by
  refine scal_sound Try.func80 nm80 rc80 rv80 ?_ ?_
  · intro args r h
    unfold d80 at h
    split at h
    · injection h with h; subst h; exact ⟨flat_args rfl, rfl, Nat.le_of_ble_eq_true rfl⟩
    · cases h
  intro args r h w0 S _
  unfold d80 at h
  split at h
  · injection h with h
    subst h
    have hE : SoundAll Try.prog (EL []) := EL_sound (by simp)
    unfold m80
    repeat' with_reducible (first
      | refine Wm_seq ?_
      | refine Wm_skip ?_
      | refine Wm_ret ?_
      | refine Wm_block ?_
      | refine Wm_exit ?_
      | refine thenK_normal ?_
      | refine thenK_ret ?_
      | refine thenK_exit ?_
      | refine blockK_normal ?_
      | refine blockK_ret ?_
      | refine blockK_here ?_
      | refine blockK_exit (by decide) ?_
      | (refine wreg (mos := q80_0) hE [0, 1] (by kernel_rfl) ?_; intro K hK; simp [q80_0]; (repeat' (first | refine hK _ _ ?_ | refine And.intro ?_ ?_ | intro hc)) <;> (try clear hK K))
      | (refine wreg (mos := q80_1) hE [14] (by kernel_rfl) ?_; intro K hK; simp [q80_1]; (repeat' (first | refine hK _ _ ?_ | refine And.intro ?_ ?_ | intro hc)) <;> (try clear hK K))
      | (refine wreg (mos := q80_2) hE [4] (by kernel_rfl) ?_; intro K hK; simp [q80_2]; (repeat' (first | refine hK _ _ ?_ | refine And.intro ?_ ?_ | intro hc)) <;> (try clear hK K))
      | (refine wreg (mos := q80_3) hE [4] (by kernel_rfl) ?_; intro K hK; simp [q80_3]; (repeat' (first | refine hK _ _ ?_ | refine And.intro ?_ ?_ | intro hc)) <;> (try clear hK K))
      | (refine Wm_cond (b := _) (by with_unfolding_all rfl) (fun hc => ?_) (fun hc => ?_) <;> simp at hc))
    all_goals simp_all [upZ]
    all_goals omega
  · cases h
def midZ (a b : Int) : Int := IntKind.wrap .i64 (IntKind.wrap .i64 (a + IntKind.wrap .i64 ((IntKind.wrap .i64 (b - a)).tdiv 2)) - upZ a b)

def d54 : List AV → Option AV
  | [.int .i64 a, .int .i64 b] => some (.int .i64 (midZ a b))
  | _ => none

theorem s54 : Sound Try.prog 54 (scal d54) := by
  refine scal_sound Try.func54 nm54 rc54 rv54 ?_ ?_
  · intro args r h
    unfold d54 at h
    split at h
    · injection h with h; subst h; exact ⟨flat_args rfl, rfl, Nat.le_of_ble_eq_true rfl⟩
    · cases h
  intro args r h w0 S _
  unfold d54 at h
  split at h
  · injection h with h
    subst h
    have hE : SoundAll Try.prog (EL [(80, scal d80)]) := EL_sound (by simp only [List.mem_cons, List.not_mem_nil, or_false, forall_eq_or_imp, forall_eq]; exact s80)
    unfold m54
    repeat' with_reducible (first
      | refine Wm_seq ?_
      | refine Wm_skip ?_
      | refine Wm_ret ?_
      | refine Wm_block ?_
      | refine Wm_exit ?_
      | refine thenK_normal ?_
      | refine thenK_ret ?_
      | refine thenK_exit ?_
      | refine blockK_normal ?_
      | refine blockK_ret ?_
      | refine blockK_here ?_
      | refine blockK_exit (by decide) ?_
      | (refine wreg (mos := q54_0) hE [0, 1] (by kernel_rfl) ?_; intro K hK; simp [q54_0, d80]; (repeat' (first | refine hK _ _ ?_ | refine And.intro ?_ ?_ | intro hc)) <;> (try clear hK K))
      | (refine wreg (mos := q54_1) hE [4] (by kernel_rfl) ?_; intro K hK; simp [q54_1, d80]; (repeat' (first | refine hK _ _ ?_ | refine And.intro ?_ ?_ | intro hc)) <;> (try clear hK K))
      | (refine Wm_cond (b := _) (by with_unfolding_all rfl) (fun hc => ?_) (fun hc => ?_) <;> simp at hc))
    all_goals simp_all [midZ]
  · cases h
def betZ (s a b : Int) : Bool := if s = 0 then decide (b < a) else decide (a < b)

def d24 : List AV → Option AV
  | [.int .i64 s, .int .i64 a, .int .i64 b] => some (.bool (betZ s a b))
  | _ => none

theorem s24 : Sound Try.prog 24 (scal d24) := by
  refine scal_sound Try.func24 nm24 rc24 rv24 ?_ ?_
  · intro args r h
    unfold d24 at h
    split at h
    · injection h with h; subst h; exact ⟨flat_args rfl, rfl, Nat.le_of_ble_eq_true rfl⟩
    · cases h
  intro args r h w0 S _
  unfold d24 at h
  split at h
  · injection h with h
    subst h
    have hE : SoundAll Try.prog (EL []) := EL_sound (by simp)
    unfold m24
    repeat' with_reducible (first
      | refine Wm_seq ?_
      | refine Wm_skip ?_
      | refine Wm_ret ?_
      | refine Wm_block ?_
      | refine Wm_exit ?_
      | refine thenK_normal ?_
      | refine thenK_ret ?_
      | refine thenK_exit ?_
      | refine blockK_normal ?_
      | refine blockK_ret ?_
      | refine blockK_here ?_
      | refine blockK_exit (by decide) ?_
      | (refine wreg (mos := q24_0) hE [0, 1, 2] (by kernel_rfl) ?_; intro K hK; simp [q24_0]; (repeat' (first | refine hK _ _ ?_ | refine And.intro ?_ ?_ | intro hc)) <;> (try clear hK K))
      | (refine wreg (mos := q24_1) hE [1, 2, 8] (by kernel_rfl) ?_; intro K hK; simp [q24_1]; (repeat' (first | refine hK _ _ ?_ | refine And.intro ?_ ?_ | intro hc)) <;> (try clear hK K))
      | (refine wreg (mos := q24_2) hE [6] (by kernel_rfl) ?_; intro K hK; simp [q24_2]; (repeat' (first | refine hK _ _ ?_ | refine And.intro ?_ ?_ | intro hc)) <;> (try clear hK K))
      | (refine wreg (mos := q24_3) hE [6] (by kernel_rfl) ?_; intro K hK; simp [q24_3]; (repeat' (first | refine hK _ _ ?_ | refine And.intro ?_ ?_ | intro hc)) <;> (try clear hK K))
      | (refine Wm_cond (b := _) (by with_unfolding_all rfl) (fun hc => ?_) (fun hc => ?_) <;> simp at hc))
    all_goals simp_all [betZ]
  · cases h
def nameZ (s : Int) : ByteArray := if s = 0 then ByteArray.mk #[98, 117, 121] else if s = 1 then ByteArray.mk #[115, 101, 108, 108] else ByteArray.mk #[63]

def d25 : List AV → Option AV
  | [.int .i64 s] => some (.str (nameZ s))
  | _ => none

theorem s25 : Sound Try.prog 25 (scal d25) := by
  refine scal_sound Try.func25 nm25 rc25 rv25 ?_ ?_
  · intro args r h
    unfold d25 at h
    split at h
    · injection h with h; subst h; exact ⟨flat_args rfl, rfl, Nat.le_of_ble_eq_true rfl⟩
    · cases h
  intro args r h w0 S _
  unfold d25 at h
  split at h
  · injection h with h
    subst h
    have hE : SoundAll Try.prog (EL []) := EL_sound (by simp)
    unfold m25
    repeat' with_reducible (first
      | refine Wm_seq ?_
      | refine Wm_skip ?_
      | refine Wm_ret ?_
      | refine Wm_block ?_
      | refine Wm_exit ?_
      | refine thenK_normal ?_
      | refine thenK_ret ?_
      | refine thenK_exit ?_
      | refine blockK_normal ?_
      | refine blockK_ret ?_
      | refine blockK_here ?_
      | refine blockK_exit (by decide) ?_
      | (refine wreg (mos := q25_0) hE [0] (by kernel_rfl) ?_; intro K hK; simp [q25_0]; (repeat' (first | refine hK _ _ ?_ | refine And.intro ?_ ?_ | intro hc)) <;> (try clear hK K))
      | (refine wreg (mos := q25_1) hE [3] (by kernel_rfl) ?_; intro K hK; simp [q25_1]; (repeat' (first | refine hK _ _ ?_ | refine And.intro ?_ ?_ | intro hc)) <;> (try clear hK K))
      | (refine wreg (mos := q25_2) hE [3, 4] (by kernel_rfl) ?_; intro K hK; simp [q25_2]; (repeat' (first | refine hK _ _ ?_ | refine And.intro ?_ ?_ | intro hc)) <;> (try clear hK K))
      | (refine wreg (mos := q25_3) hE [2] (by kernel_rfl) ?_; intro K hK; simp [q25_3]; (repeat' (first | refine hK _ _ ?_ | refine And.intro ?_ ?_ | intro hc)) <;> (try clear hK K))
      | (refine wreg (mos := q25_4) hE [6] (by kernel_rfl) ?_; intro K hK; simp [q25_4]; (repeat' (first | refine hK _ _ ?_ | refine And.intro ?_ ?_ | intro hc)) <;> (try clear hK K))
      | (refine wreg (mos := q25_5) hE [2] (by kernel_rfl) ?_; intro K hK; simp [q25_5]; (repeat' (first | refine hK _ _ ?_ | refine And.intro ?_ ?_ | intro hc)) <;> (try clear hK K))
      | (refine wreg (mos := q25_6) hE [2] (by kernel_rfl) ?_; intro K hK; simp [q25_6]; (repeat' (first | refine hK _ _ ?_ | refine And.intro ?_ ?_ | intro hc)) <;> (try clear hK K))
      | (refine Wm_cond (b := _) (by with_unfolding_all rfl) (fun hc => ?_) (fun hc => ?_) <;> simp at hc))
    all_goals simp_all [nameZ]
  · cases h
structure Off where
  k : Int
  s : Int
  p : Int
  m : Int
  e : Int

def minZ (x y : Int) : Int := if y < x then y else x
def maxZ (x y : Int) : Int := if x < y then y else x

def pairZ (bu se : Off) (x y mm : Int) (same : Bool) : Int × Int :=
  if bu.s ≠ 0 ∨ se.s ≠ 1 ∨ same = false then (0, 0)
  else if bu.p < se.p ∨ minZ x y < 1 ∨ minZ x y < mm then (0, 0) else (minZ x y, midZ se.p bu.p)

def matchZ (a b : Off) (x y : Int) : Int × Int :=
  if a.s = 1 then pairZ b a x y (maxZ a.m b.m) (a.k == b.k) else pairZ a b x y (maxZ a.m b.m) (a.k == b.k)

def Off.av (a : Off) : AV := .agg [.int .i64 a.k, .int .i64 a.s, .int .i64 a.p, .int .i64 a.m, .int .i64 a.e]

def d22 : List AV → Option AV
  | [.agg [.int .i64 k, .int .i64 s, .int .i64 p, .int .i64 m, .int .i64 e], .agg [.int .i64 k', .int .i64 s', .int .i64 p', .int .i64 m', .int .i64 e'], .int .i64 x, .int .i64 y] =>
    some (.agg [.int .i64 (matchZ ⟨k, s, p, m, e⟩ ⟨k', s', p', m', e'⟩ x y).1, .int .i64 (matchZ ⟨k, s, p, m, e⟩ ⟨k', s', p', m', e'⟩ x y).2])
  | _ => none

theorem s22 : Sound Try.prog 22 (scal d22) := by
  refine scal_sound Try.func22 nm22 rc22 rv22 ?_ ?_
  · intro args r h
    unfold d22 at h
    split at h
    · injection h with h; subst h; exact ⟨flat_args rfl, rfl, Nat.le_of_ble_eq_true rfl⟩
    · cases h
  intro args r h w0 S _
  unfold d22 at h
  split at h
  · injection h with h
    subst h
    have hE : SoundAll Try.prog (EL [(54, scal d54)]) := EL_sound (by simp only [List.mem_cons, List.not_mem_nil, or_false, forall_eq_or_imp, forall_eq]; exact s54)
    unfold m22
    repeat' with_reducible (first
      | refine Wm_seq ?_
      | refine Wm_skip ?_
      | refine Wm_ret ?_
      | refine Wm_block ?_
      | refine Wm_exit ?_
      | refine thenK_normal ?_
      | refine thenK_ret ?_
      | refine thenK_exit ?_
      | refine blockK_normal ?_
      | refine blockK_ret ?_
      | refine blockK_here ?_
      | refine blockK_exit (by decide) ?_
      | (refine wreg (mos := q22_0) hE [2, 3, 4, 5, 8] (by kernel_rfl) ?_; intro K hK; simp [q22_0, d54]; (repeat' (first | refine hK _ _ ?_ | refine And.intro ?_ ?_ | intro hc)) <;> (try clear hK K))
      | (refine wdraw (mos := q22_1) hE mixT [2, 3, 4, 5, 8, 9, 10] (by kernel_rfl) ?_; intro K hK; simp [q22_1, p22_1, d54]; (repeat' (first | refine hK _ _ ?_ | refine And.intro ?_ ?_ | intro hc)) <;> (try clear hK K))
      | (refine wreg (mos := q22_2) hE [2, 3, 4, 5, 8, 9, 10, 16] (by kernel_rfl) ?_; intro K hK; simp [q22_2, d54]; (repeat' (first | refine hK _ _ ?_ | refine And.intro ?_ ?_ | intro hc)) <;> (try clear hK K))
      | (refine wdraw (mos := q22_3) hE mixT [2, 3, 4, 5, 8, 9, 10] (by kernel_rfl) ?_; intro K hK; simp [q22_3, p22_3, d54]; (repeat' (first | refine hK _ _ ?_ | refine And.intro ?_ ?_ | intro hc)) <;> (try clear hK K))
      | (refine wreg (mos := q22_4) hE [2, 3, 4, 5, 8, 9, 10, 33] (by kernel_rfl) ?_; intro K hK; simp [q22_4, d54]; (repeat' (first | refine hK _ _ ?_ | refine And.intro ?_ ?_ | intro hc)) <;> (try clear hK K))
      | (refine wreg (mos := q22_5) hE [8] (by kernel_rfl) ?_; intro K hK; simp [q22_5, d54]; (repeat' (first | refine hK _ _ ?_ | refine And.intro ?_ ?_ | intro hc)) <;> (try clear hK K))
      | (refine wreg (mos := q22_6) hE [4, 5, 8, 9, 10, 11] (by kernel_rfl) ?_; intro K hK; simp [q22_6, d54]; (repeat' (first | refine hK _ _ ?_ | refine And.intro ?_ ?_ | intro hc)) <;> (try clear hK K))
      | (refine wreg (mos := q22_7) hE [8, 9, 10, 11, 55] (by kernel_rfl) ?_; intro K hK; simp [q22_7, d54]; (repeat' (first | refine hK _ _ ?_ | refine And.intro ?_ ?_ | intro hc)) <;> (try clear hK K))
      | (refine wreg (mos := q22_8) hE [8] (by kernel_rfl) ?_; intro K hK; simp [q22_8, d54]; (repeat' (first | refine hK _ _ ?_ | refine And.intro ?_ ?_ | intro hc)) <;> (try clear hK K))
      | (refine wreg (mos := q22_9) hE [8] (by kernel_rfl) ?_; intro K hK; simp [q22_9, d54]; (repeat' (first | refine hK _ _ ?_ | refine And.intro ?_ ?_ | intro hc)) <;> (try clear hK K))
      | (refine Wm_cond (b := _) (by with_unfolding_all rfl) (fun hc => ?_) (fun hc => ?_) <;> simp at hc))
    all_goals simp_all [matchZ, pairZ, minZ, maxZ]
    all_goals grind
  · cases h
def refPair (a b : Off) (x y : Int) : Int × Int :=
  if a.s ≠ 0 ∨ b.s ≠ 1 ∨ a.k ≠ b.k ∨ a.p < b.p then (0, 0)
  else if minZ x y < 1 ∨ minZ x y < a.m ∨ minZ x y < b.m then (0, 0) else (minZ x y, IntKind.wrap .i64 ((IntKind.wrap .i64 (a.p + b.p)).tdiv 2))

def refMatchZ (a b : Off) (x y : Int) : Int × Int := if a.s = 1 then refPair b a y x else refPair a b x y

def d23 : List AV → Option AV
  | [.agg [.int .i64 k, .int .i64 s, .int .i64 p, .int .i64 m, .int .i64 e], .agg [.int .i64 k', .int .i64 s', .int .i64 p', .int .i64 m', .int .i64 e'], .int .i64 x, .int .i64 y] =>
    some (.tup [.int .i64 (refMatchZ ⟨k, s, p, m, e⟩ ⟨k', s', p', m', e'⟩ x y).1, .int .i64 (refMatchZ ⟨k, s, p, m, e⟩ ⟨k', s', p', m', e'⟩ x y).2])
  | _ => none

theorem s23 : Sound Try.prog 23 (scal d23) := by
  refine scal_sound Try.func23 nm23 rc23 rv23 ?_ ?_
  · intro args r h
    unfold d23 at h
    split at h
    · injection h with h; subst h; exact ⟨flat_args rfl, rfl, Nat.le_of_ble_eq_true rfl⟩
    · cases h
  intro args r h w0 S _
  unfold d23 at h
  split at h
  · injection h with h
    subst h
    have hE : SoundAll Try.prog (EL []) := EL_sound (by simp)
    unfold m23
    repeat' with_reducible (first
      | refine Wm_seq ?_
      | refine Wm_skip ?_
      | refine Wm_ret ?_
      | refine Wm_block ?_
      | refine Wm_exit ?_
      | refine thenK_normal ?_
      | refine thenK_ret ?_
      | refine thenK_exit ?_
      | refine blockK_normal ?_
      | refine blockK_ret ?_
      | refine blockK_here ?_
      | refine blockK_exit (by decide) ?_
      | (refine wreg (mos := q23_0) hE [2, 3, 4, 5] (by kernel_rfl) ?_; intro K hK; simp [q23_0]; (repeat' (first | refine hK _ _ ?_ | refine And.intro ?_ ?_ | intro hc)) <;> (try clear hK K))
      | (refine wreg (mos := q23_1) hE [2, 3, 4, 5, 13] (by kernel_rfl) ?_; intro K hK; simp [q23_1]; (repeat' (first | refine hK _ _ ?_ | refine And.intro ?_ ?_ | intro hc)) <;> (try clear hK K))
      | (refine wreg (mos := q23_2) hE [2, 3, 4, 5] (by kernel_rfl) ?_; intro K hK; simp [q23_2]; (repeat' (first | refine hK _ _ ?_ | refine And.intro ?_ ?_ | intro hc)) <;> (try clear hK K))
      | (refine wreg (mos := q23_3) hE [2, 3, 4, 5] (by kernel_rfl) ?_; intro K hK; simp [q23_3]; (repeat' (first | refine hK _ _ ?_ | refine And.intro ?_ ?_ | intro hc)) <;> (try clear hK K))
      | (refine wreg (mos := q23_4) hE [2, 3, 4, 5, 39] (by kernel_rfl) ?_; intro K hK; simp [q23_4]; (repeat' (first | refine hK _ _ ?_ | refine And.intro ?_ ?_ | intro hc)) <;> (try clear hK K))
      | (refine wreg (mos := q23_5) hE [8, 9] (by kernel_rfl) ?_; intro K hK; simp [q23_5]; (repeat' (first | refine hK _ _ ?_ | refine And.intro ?_ ?_ | intro hc)) <;> (try clear hK K))
      | (refine wreg (mos := q23_6) hE [3, 4, 5, 10] (by kernel_rfl) ?_; intro K hK; simp [q23_6]; (repeat' (first | refine hK _ _ ?_ | refine And.intro ?_ ?_ | intro hc)) <;> (try clear hK K))
      | (refine wreg (mos := q23_7) hE [3, 4, 5, 10, 43] (by kernel_rfl) ?_; intro K hK; simp [q23_7]; (repeat' (first | refine hK _ _ ?_ | refine And.intro ?_ ?_ | intro hc)) <;> (try clear hK K))
      | (refine wreg (mos := q23_8) hE [4, 5, 10] (by kernel_rfl) ?_; intro K hK; simp [q23_8]; (repeat' (first | refine hK _ _ ?_ | refine And.intro ?_ ?_ | intro hc)) <;> (try clear hK K))
      | (refine wreg (mos := q23_9) hE [4, 5, 10, 58] (by kernel_rfl) ?_; intro K hK; simp [q23_9]; (repeat' (first | refine hK _ _ ?_ | refine And.intro ?_ ?_ | intro hc)) <;> (try clear hK K))
      | (refine wreg (mos := q23_10) hE [8, 9] (by kernel_rfl) ?_; intro K hK; simp [q23_10]; (repeat' (first | refine hK _ _ ?_ | refine And.intro ?_ ?_ | intro hc)) <;> (try clear hK K))
      | (refine wdraw (mos := q23_11) hE mixT [8, 9] (by kernel_rfl) ?_; intro K hK; simp [q23_11, p23_11]; (repeat' (first | refine hK _ _ ?_ | refine And.intro ?_ ?_ | intro hc)) <;> (try clear hK K))
      | (refine Wm_cond (b := _) (by with_unfolding_all rfl) (fun hc => ?_) (fun hc => ?_) <;> simp at hc))
    all_goals simp_all [refMatchZ, refPair, minZ]
    all_goals grind
  · cases h
end Go.Vc
