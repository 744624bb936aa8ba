/- A part of the proof (PsA, PsB, PsC, PsD, PsE, PsF, PsG). -/
import Derived.Test.YtfkdcpgphindiaaWkC
import Derived.Test.YtfkdcpgphindiaaWbA
import Derived.Test.YtfkdcpgphindiaaPqA
namespace Go.W
open Go.Proofs
set_option linter.unusedSimpArgs false
set_option linter.unusedVariables false
set_option maxHeartbeats 8000000
attribute [local irreducible] Wm
attribute [local simp] nmap lkp mkPl prs prsL prT ddL idL CRenL CRen Ren RenL NObj.none CRenLL

theorem mul_in {a b A B : Int} (h1 : 0 ≤ a) (h2 : a ≤ A) (h3 : 0 ≤ b) (h4 : b ≤ B) : 0 ≤ a * b ∧ a * b ≤ A * B :=
  ⟨Int.mul_nonneg h1 h3, Int.mul_le_mul h2 h4 h3 (by omega)⟩

theorem tdiv_in {a b : Int} (h1 : 0 ≤ a) (h2 : a ≤ 1000000000) (h3 : 1 ≤ b) : IntKind.wrap .i64 (a.tdiv b) = a / b := by
  rw [Int.tdiv_eq_ediv_of_nonneg h1]
  have h4 := Int.ediv_nonneg h1 (show 0 ≤ b by omega)
  have h5 := Int.ediv_le_self b h1
  exact wrap_in (by omega) (by omega)

/-- A configuration that may be. -/
def cfgB (a b c d e f g : Int) : Bool := decide (1 ≤ a ∧ a ≤ 6 ∧ 1 ≤ b ∧ b ≤ 4 ∧ 1 ≤ c ∧ c ≤ 3 ∧ 1 ≤ d ∧ d ≤ 4 ∧ 0 ≤ e ∧ e ≤ 4 ∧ 1 ≤ f ∧ f ≤ 4 ∧ 1 ≤ g ∧ g ≤ 15)

theorem cfg_ex {a b c d e f g : Int} (h : cfgB a b c d e f g = true) : 1 ≤ a ∧ a ≤ 6 ∧ 1 ≤ b ∧ b ≤ 4 ∧ 1 ≤ c ∧ c ≤ 3 ∧ 1 ≤ d ∧ d ≤ 4 ∧ 0 ≤ e ∧ e ≤ 4 ∧ 1 ≤ f ∧ f ≤ 4 ∧ 1 ≤ g ∧ g ≤ 15 := of_decide_eq_true h

theorem cfg_all {a b c d e f g : Int} (h : cfgB a b c d e f g = true) : 1 ≤ a * b ∧ a * b ≤ 24 := by
  obtain ⟨h1, h2, h3, h4, _⟩ := cfg_ex h
  have := mul_in (show 0 ≤ a by omega) h2 (show 0 ≤ b by omega) h4
  have := Int.mul_le_mul h1 h3 (by omega) (show 0 ≤ a by omega)
  omega

def d46 : List AV → List NObj → Option AV
  | [.agg [.int .i64 a, .int .i64 b, .int .i64 c, .int .i64 d, .int .i64 e, .int .i64 f, .int .i64 g]], [] => if cfgB a b c d e f g = true then some (.int .i64 (a * b)) else none
  | _, _ => none

theorem ok46 : ROk d46 := by
  intro xs os r h
  unfold d46 at h
  (repeat' (split at h)) <;> first | (cases h; done) | (injection h with h; subst h; simp)
theorem s46 : Sound Try.prog 46 (rdS d46 ok46) := by
  refine rd_sound Try.func46 nm46 rc46 rv46 ok46 fun xs os r h vs ρ0 hvs => ⟨xs, ?_, fun _ h => h, fun w0 S hS => ?_⟩
  · unfold d46 at h
    (repeat' (split at h)) <;> first | (cases h; done) | exact Nat.le_of_ble_eq_true rfl
  unfold d46 at h
  split at h
  · split at h
    · rename_i a b c d e f g hcond
      injection h with h
      subst h
      have hE : SoundAll Try.prog (EL []) := EL_sound (by simp)
      have hm := cfg_all hcond
      have w1 : IntKind.wrap .i64 (a * b) = a * b := wrap_in (by omega) (by omega)
      unfold m46
      repeat' with_reducible (first
        | refine ZR.h ?_ | refine zI (by decide) ?_
        | (refine zK hE ?_; intro K hK; simp [KR.ks, q46_0, q46_1, w1]; (repeat' (first | refine hK _ _ ?_ | refine And.intro ?_ ?_ | (intro hc; try subst hc))) <;> (try clear hK K))
        | (refine zJ (b := _) (by with_unfolding_all rfl) (fun hc => ?_) (fun hc => ?_) <;> simp at hc <;> (try subst hc)))
      all_goals first | (simp; done) | (simp at *; omega) | ((try simp); refine Imp.auto (by kernel_rfl) ?_ ?_ <;> simp [NLe])
    · cases h
  · cases h

def d9 : List AV → List NObj → Option AV
  | [.agg [.int .i64 a, .int .i64 b, .int .i64 c, .int .i64 d, .int .i64 e, .int .i64 f, .int .i64 g]], [] => if cfgB a b c d e f g = true then some (.int .i64 (c * d)) else none
  | _, _ => none

theorem ok9 : ROk d9 := by
  intro xs os r h
  unfold d9 at h
  (repeat' (split at h)) <;> first | (cases h; done) | (injection h with h; subst h; simp)
theorem s9 : Sound Try.prog 9 (rdS d9 ok9) := by
  refine rd_sound Try.func9 nm9 rc9 rv9 ok9 fun xs os r h vs ρ0 hvs => ⟨xs, ?_, fun _ h => h, fun w0 S hS => ?_⟩
  · unfold d9 at h
    (repeat' (split at h)) <;> first | (cases h; done) | exact Nat.le_of_ble_eq_true rfl
  unfold d9 at h
  split at h
  · split at h
    · rename_i a b c d e f g hcond
      injection h with h
      subst h
      have hE : SoundAll Try.prog (EL []) := EL_sound (by simp)
      have hc := cfg_ex hcond
      have hm := mul_in (show 0 ≤ c by omega) (show c ≤ 3 by omega) (show 0 ≤ d by omega) (show d ≤ 4 by omega)
      have w1 : IntKind.wrap .i64 (c * d) = c * d := wrap_in (by omega) (by omega)
      unfold m9
      repeat' with_reducible (first
        | refine ZR.h ?_ | refine zI (by decide) ?_
        | (refine zK hE ?_; intro K hK; simp [KR.ks, q9_0, q9_1, w1]; (repeat' (first | refine hK _ _ ?_ | refine And.intro ?_ ?_ | (intro hc; try subst hc))) <;> (try clear hK K))
        | (refine zJ (b := _) (by with_unfolding_all rfl) (fun hc => ?_) (fun hc => ?_) <;> simp at hc <;> (try subst hc)))
      all_goals first | (simp; done) | (simp at *; omega) | ((try simp); refine Imp.auto (by kernel_rfl) ?_ ?_ <;> simp [NLe])
    · cases h
  · cases h

def ownZ (a b x : Int) : Int := if x < 0 then -1 else if x < a * b then x / b else -1

def d33 : List AV → List NObj → Option AV
  | [.agg [.int .i64 a, .int .i64 b, .int .i64 c, .int .i64 d, .int .i64 e, .int .i64 f, .int .i64 g], .int .i64 x], [] => if cfgB a b c d e f g = true then some (.int .i64 (ownZ a b x)) else none
  | _, _ => none

theorem ok33 : ROk d33 := by
  intro xs os r h
  unfold d33 at h
  (repeat' (split at h)) <;> first | (cases h; done) | (injection h with h; subst h; simp)
theorem s33 : Sound Try.prog 33 (rdS d33 ok33) := by
  refine rd_sound Try.func33 nm33 rc33 rv33 ok33 fun xs os r h vs ρ0 hvs => ⟨xs, ?_, fun _ h => h, fun w0 S hS => ?_⟩
  · unfold d33 at h
    (repeat' (split at h)) <;> first | (cases h; done) | exact Nat.le_of_ble_eq_true rfl
  unfold d33 at h
  split at h
  · split at h
    · rename_i a b c d e f g x hcond
      injection h with h
      subst h
      have hE : SoundAll Try.prog (EL [(46, rdS d46 ok46)]) := EL_sound (by simp only [List.mem_cons, List.not_mem_nil, or_false, forall_eq_or_imp, forall_eq]; exact s46)
      have hc := cfg_ex hcond
      have hm := cfg_all hcond
      by_cases h1 : x < 0
      · unfold m33
        repeat' with_reducible (first
          | refine ZR.h ?_ | refine zI (by decide) ?_
          | (refine zK hE ?_; intro K hK; simp [KR.ks, q33_0, q33_1, q33_2, q33_3, h1, hcond, ownZ, d46]; (repeat' (first | refine hK _ _ ?_ | refine And.intro ?_ ?_ | (intro hc; try subst hc))) <;> (try clear hK K))
          | (refine zJ (b := _) (by with_unfolding_all rfl) (fun hc => ?_) (fun hc => ?_) <;> simp at hc <;> (try subst hc)))
        all_goals first | (simp; done) | (simp at *; omega) | ((try simp[h1, ownZ]); refine Imp.auto (by kernel_rfl) ?_ ?_ <;> simp [NLe, h1, ownZ])
      · by_cases h2 : x < a * b
        · have h3 : ¬ a * b ≤ x := by omega
          have hb0 : ¬ b = 0 := by omega
          have w1 : IntKind.wrap .i64 (x.tdiv b) = x / b := tdiv_in (by omega) (by omega) (by omega)
          unfold m33
          repeat' with_reducible (first
            | refine ZR.h ?_ | refine zI (by decide) ?_
            | (refine zK hE ?_; intro K hK; simp [KR.ks, q33_0, q33_1, q33_2, q33_3, h1, h2, h3, hcond, w1, hb0, ownZ, d46]; (repeat' (first | refine hK _ _ ?_ | refine And.intro ?_ ?_ | (intro hc; try subst hc))) <;> (try clear hK K))
            | (refine zJ (b := _) (by with_unfolding_all rfl) (fun hc => ?_) (fun hc => ?_) <;> simp at hc <;> (try subst hc)))
          all_goals first | (simp; done) | (simp at *; omega) | ((try simp[h1, h2, h3, ownZ]); refine Imp.auto (by kernel_rfl) ?_ ?_ <;> simp [NLe, h1, h2, h3, ownZ])
        · have h3 : a * b ≤ x := by omega
          unfold m33
          repeat' with_reducible (first
            | refine ZR.h ?_ | refine zI (by decide) ?_
            | (refine zK hE ?_; intro K hK; simp [KR.ks, q33_0, q33_1, q33_2, q33_3, h1, h2, h3, hcond, ownZ, d46]; (repeat' (first | refine hK _ _ ?_ | refine And.intro ?_ ?_ | (intro hc; try subst hc))) <;> (try clear hK K))
            | (refine zJ (b := _) (by with_unfolding_all rfl) (fun hc => ?_) (fun hc => ?_) <;> simp at hc <;> (try subst hc)))
          all_goals first | (simp; done) | (simp at *; omega) | ((try simp[h1, h2, h3, ownZ]); refine Imp.auto (by kernel_rfl) ?_ ?_ <;> simp [NLe, h1, h2, h3, ownZ])
    · cases h
  · cases h

def shardZ (c d n b : Int) : Int := if n < 0 ∨ c ≤ n ∨ b < 0 ∨ d ≤ b then -1 else n * d + b

def d40 : List AV → List NObj → Option AV
  | [.agg [.int .i64 a, .int .i64 b, .int .i64 c, .int .i64 d, .int .i64 e, .int .i64 f, .int .i64 g], .int .i64 x, .int .i64 y], [] => if cfgB a b c d e f g = true then some (.int .i64 (shardZ c d x y)) else none
  | _, _ => none

theorem ok40 : ROk d40 := by
  intro xs os r h
  unfold d40 at h
  (repeat' (split at h)) <;> first | (cases h; done) | (injection h with h; subst h; simp)
theorem s40 : Sound Try.prog 40 (rdS d40 ok40) := by
  refine rd_sound Try.func40 nm40 rc40 rv40 ok40 fun xs os r h vs ρ0 hvs => ⟨xs, ?_, fun _ h => h, fun w0 S hS => ?_⟩
  · unfold d40 at h
    (repeat' (split at h)) <;> first | (cases h; done) | exact Nat.le_of_ble_eq_true rfl
  unfold d40 at h
  split at h
  · split at h
    · rename_i a b c d e f g x y hcond
      injection h with h
      subst h
      have hE : SoundAll Try.prog (EL []) := EL_sound (by simp)
      have hc := cfg_ex hcond
      by_cases h1 : x < 0 ∨ c ≤ x ∨ y < 0 ∨ d ≤ y
      · have e1 : shardZ c d x y = -1 := if_pos h1
        have hh : x < 0 ∨ (¬ x < 0 ∧ c ≤ x) ∨ (¬ x < 0 ∧ ¬ c ≤ x ∧ y < 0) ∨ (¬ x < 0 ∧ ¬ c ≤ x ∧ ¬ y < 0 ∧ d ≤ y) := by omega
        rcases hh with h2 | ⟨h2, h3⟩ | ⟨h2, h3, h4⟩ | ⟨h2, h3, h4, h5⟩
        · unfold m40
          repeat' with_reducible (first
            | refine ZR.h ?_ | refine zI (by decide) ?_
            | (refine zK hE ?_; intro K hK; simp [KR.ks, q40_0, q40_1, q40_2, q40_3, h2]; (repeat' (first | refine hK _ _ ?_ | refine And.intro ?_ ?_ | (intro hc; try subst hc))) <;> (try clear hK K))
            | (refine zJ (b := _) (by with_unfolding_all rfl) (fun hc => ?_) (fun hc => ?_) <;> simp at hc <;> (try subst hc)))
          all_goals first | (simp; done) | (simp at *; omega) | ((try simp[e1]); refine Imp.auto (by kernel_rfl) ?_ ?_ <;> simp [NLe, e1])
        · unfold m40
          repeat' with_reducible (first
            | refine ZR.h ?_ | refine zI (by decide) ?_
            | (refine zK hE ?_; intro K hK; simp [KR.ks, q40_0, q40_1, q40_2, q40_3, h2, h3]; (repeat' (first | refine hK _ _ ?_ | refine And.intro ?_ ?_ | (intro hc; try subst hc))) <;> (try clear hK K))
            | (refine zJ (b := _) (by with_unfolding_all rfl) (fun hc => ?_) (fun hc => ?_) <;> simp at hc <;> (try subst hc)))
          all_goals first | (simp; done) | (simp at *; omega) | ((try simp[e1]); refine Imp.auto (by kernel_rfl) ?_ ?_ <;> simp [NLe, e1])
        · unfold m40
          repeat' with_reducible (first
            | refine ZR.h ?_ | refine zI (by decide) ?_
            | (refine zK hE ?_; intro K hK; simp [KR.ks, q40_0, q40_1, q40_2, q40_3, h2, h3, h4]; (repeat' (first | refine hK _ _ ?_ | refine And.intro ?_ ?_ | (intro hc; try subst hc))) <;> (try clear hK K))
            | (refine zJ (b := _) (by with_unfolding_all rfl) (fun hc => ?_) (fun hc => ?_) <;> simp at hc <;> (try subst hc)))
          all_goals first | (simp; done) | (simp at *; omega) | ((try simp[e1]); refine Imp.auto (by kernel_rfl) ?_ ?_ <;> simp [NLe, e1])
        · unfold m40
          repeat' with_reducible (first
            | refine ZR.h ?_ | refine zI (by decide) ?_
            | (refine zK hE ?_; intro K hK; simp [KR.ks, q40_0, q40_1, q40_2, q40_3, h2, h3, h4, h5]; (repeat' (first | refine hK _ _ ?_ | refine And.intro ?_ ?_ | (intro hc; try subst hc))) <;> (try clear hK K))
            | (refine zJ (b := _) (by with_unfolding_all rfl) (fun hc => ?_) (fun hc => ?_) <;> simp at hc <;> (try subst hc)))
          all_goals first | (simp; done) | (simp at *; omega) | ((try simp[e1]); refine Imp.auto (by kernel_rfl) ?_ ?_ <;> simp [NLe, e1])
      · have e1 : shardZ c d x y = x * d + y := if_neg h1
        have h2 : ¬ x < 0 := by omega
        have h3 : ¬ c ≤ x := by omega
        have h4 : ¬ y < 0 := by omega
        have h5 : ¬ d ≤ y := by omega
        have hm := mul_in (show 0 ≤ x by omega) (show x ≤ 3 by omega) (show 0 ≤ d by omega) (show d ≤ 4 by omega)
        have w1 : IntKind.wrap .i64 (x * d) = x * d := wrap_in (by omega) (by omega)
        have w2 : IntKind.wrap .i64 (x * d + y) = x * d + y := wrap_in (by omega) (by omega)
        unfold m40
        repeat' with_reducible (first
          | refine ZR.h ?_ | refine zI (by decide) ?_
          | (refine zK hE ?_; intro K hK; simp [KR.ks, q40_0, q40_1, q40_2, q40_3, h2, h3, h4, h5, w1, w2]; (repeat' (first | refine hK _ _ ?_ | refine And.intro ?_ ?_ | (intro hc; try subst hc))) <;> (try clear hK K))
          | (refine zJ (b := _) (by with_unfolding_all rfl) (fun hc => ?_) (fun hc => ?_) <;> simp at hc <;> (try subst hc)))
        all_goals first | (simp; done) | (simp at *; omega) | ((try simp[e1]); refine Imp.auto (by kernel_rfl) ?_ ?_ <;> simp [NLe, e1])
    · cases h
  · cases h

def bandZ (d p : Int) : Int := if p < 1 ∨ 9999 < p then -1 else (p - 1) * d / 9999

def d41 : List AV → List NObj → Option AV
  | [.agg [.int .i64 a, .int .i64 b, .int .i64 c, .int .i64 d, .int .i64 e, .int .i64 f, .int .i64 g], .int .i64 x], [] => if cfgB a b c d e f g = true then some (.int .i64 (bandZ d x)) else none
  | _, _ => none

theorem ok41 : ROk d41 := by
  intro xs os r h
  unfold d41 at h
  (repeat' (split at h)) <;> first | (cases h; done) | (injection h with h; subst h; simp)
theorem s41 : Sound Try.prog 41 (rdS d41 ok41) := by
  refine rd_sound Try.func41 nm41 rc41 rv41 ok41 fun xs os r h vs ρ0 hvs => ⟨xs, ?_, fun _ h => h, fun w0 S hS => ?_⟩
  · unfold d41 at h
    (repeat' (split at h)) <;> first | (cases h; done) | exact Nat.le_of_ble_eq_true rfl
  unfold d41 at h
  split at h
  · split at h
    · rename_i a b c d e f g x hcond
      injection h with h
      subst h
      have hE : SoundAll Try.prog (EL []) := EL_sound (by simp)
      have hc := cfg_ex hcond
      by_cases h1 : x < 1 ∨ 9999 < x
      · have e1 : bandZ d x = -1 := if_pos h1
        have hh : x < 1 ∨ (¬ x < 1 ∧ 9999 < x) := by omega
        rcases hh with h2 | ⟨h2, h3⟩
        · unfold m41
          repeat' with_reducible (first
            | refine ZR.h ?_ | refine zI (by decide) ?_
            | (refine zK hE ?_; intro K hK; simp [KR.ks, q41_0, q41_1, q41_2, q41_3, h2]; (repeat' (first | refine hK _ _ ?_ | refine And.intro ?_ ?_ | (intro hc; try subst hc))) <;> (try clear hK K))
            | (refine zJ (b := _) (by with_unfolding_all rfl) (fun hc => ?_) (fun hc => ?_) <;> simp at hc <;> (try subst hc)))
          all_goals first | (simp; done) | (simp at *; omega) | ((try simp[e1]); refine Imp.auto (by kernel_rfl) ?_ ?_ <;> simp [NLe, e1])
        · unfold m41
          repeat' with_reducible (first
            | refine ZR.h ?_ | refine zI (by decide) ?_
            | (refine zK hE ?_; intro K hK; simp [KR.ks, q41_0, q41_1, q41_2, q41_3, h2, h3]; (repeat' (first | refine hK _ _ ?_ | refine And.intro ?_ ?_ | (intro hc; try subst hc))) <;> (try clear hK K))
            | (refine zJ (b := _) (by with_unfolding_all rfl) (fun hc => ?_) (fun hc => ?_) <;> simp at hc <;> (try subst hc)))
          all_goals first | (simp; done) | (simp at *; omega) | ((try simp[e1]); refine Imp.auto (by kernel_rfl) ?_ ?_ <;> simp [NLe, e1])
      · have e1 : bandZ d x = (x - 1) * d / 9999 := if_neg h1
        have h2 : ¬ x < 1 := by omega
        have h3 : ¬ 9999 < x := by omega
        have hm := mul_in (show 0 ≤ x - 1 by omega) (show x - 1 ≤ 9998 by omega) (show 0 ≤ d by omega) (show d ≤ 4 by omega)
        have w0 : IntKind.wrap .i64 (x - 1) = x - 1 := wrap_in (by omega) (by omega)
        have w1 : IntKind.wrap .i64 ((x - 1) * d) = (x - 1) * d := wrap_in (by omega) (by omega)
        have w2 : IntKind.wrap .i64 (((x - 1) * d).tdiv 9999) = (x - 1) * d / 9999 := tdiv_in (by omega) (by omega) (by omega)
        unfold m41
        repeat' with_reducible (first
          | refine ZR.h ?_ | refine zI (by decide) ?_
          | (refine zK hE ?_; intro K hK; simp [KR.ks, q41_0, q41_1, q41_2, q41_3, h2, h3, w0, w1, w2]; (repeat' (first | refine hK _ _ ?_ | refine And.intro ?_ ?_ | (intro hc; try subst hc))) <;> (try clear hK K))
          | (refine zJ (b := _) (by with_unfolding_all rfl) (fun hc => ?_) (fun hc => ?_) <;> simp at hc <;> (try subst hc)))
        all_goals first | (simp; done) | (simp at *; omega) | ((try simp[e1]); refine Imp.auto (by kernel_rfl) ?_ ?_ <;> simp [NLe, e1])
    · cases h
  · cases h

def heldZ (k : Int) : Bool := decide (k = 3) || decide (k = 4)

def looseZ (k : Int) : Bool := decide (k = 1) || decide (k = 2)

def overZ (k : Int) : Bool := decide (5 ≤ k) && decide (k ≤ 8)

end Go.W
namespace Go.W
open Go.Proofs
set_option linter.unusedSimpArgs false
set_option linter.unusedVariables false
set_option maxHeartbeats 8000000
attribute [local irreducible] Wm
attribute [local simp] nmap lkp mkPl prs prsL prT ddL idL CRenL CRen Ren RenL NObj.none CRenLL

theorem words_in {a b f g : Int} (h : 0 ≤ a * b) (h' : a * b ≤ 24) (hf : 1 ≤ f ∧ f ≤ 4) (hg : 1 ≤ g ∧ g ≤ 15) : (0 ≤ a * b * g ∧ a * b * g ≤ 360) ∧ 0 ≤ a * b * g * (f + 1) ∧ a * b * g * (f + 1) ≤ 1800 := by
  have h1 := mul_in h h' (show 0 ≤ g by omega) (show g ≤ 15 by omega)
  have h2 := mul_in h1.1 h1.2 (show 0 ≤ f + 1 by omega) (show f + 1 ≤ 5 by omega)
  omega

def slotZ (a b f g x gen n : Int) : Int := if x < 0 then -1 else if a * b ≤ x then -1 else if gen < 1 then -1 else if g < gen then -1 else if n < 0 then -1 else if f < n then -1 else a * b * 2 + (x * g + gen - 1) * (f + 1) + n

/-- A cell's state. -/
structure StZ where
  k : Int
  fl : Bool
  g : Int
  l : Int
  f : Int
  deriving DecidableEq, Inhabited
def stA (s : StZ) : AV := .agg [.int .i64 s.k, .bool s.fl, .int .i64 s.g, .int .i64 s.l, .int .i64 s.f]
def zeroS : StZ := ⟨0, false, 0, 0, 0⟩
/-- An answer with an error's code; 0: none. -/
def errA (s : StZ) (e : Int) : AV := .tup [stA s, if e = 0 then .raw .nilIface else .iface 74 (.int .i64 e)]

def holdS (s : StZ) : StZ := if s.k = 1 then { s with k := 3 } else if s.k = 2 then { s with k := 4 } else s
def loosenS (s : StZ) : StZ := if s.k = 3 then { s with k := 1 } else if s.k = 4 then { s with k := 2 } else s
def endedS (s : StZ) (fills : Int) : StZ := if s.l = 0 then { s with k := 5, fl := false } else if fills ≤ s.f then { s with k := 8, fl := false } else s

def takeS (s : StZ) (q F : Int) : StZ × Int := if looseZ s.k = false then (zeroS, 27) else if q < 1 then (zeroS, 23) else if s.l < q then (zeroS, 23) else if F ≤ s.f then (zeroS, 4) else (endedS { s with l := s.l - q, f := s.f + 1 } F, 0)
def relS1 (s : StZ) (F : Int) : StZ := if (endedS (loosenS s) F).fl = true then { endedS (loosenS s) F with k := 6, fl := false } else endedS (loosenS s) F
def releaseS (s : StZ) (q F : Int) : StZ × Int := if heldZ s.k = false then (zeroS, 1) else if q < 0 then (zeroS, 23) else if s.l < q then (zeroS, 23) else if 0 < q then (if F ≤ s.f then (zeroS, 4) else (relS1 { s with l := s.l - q, f := s.f + 1 } F, 0)) else (relS1 s F, 0)
def cancelS (s : StZ) : StZ × Int := if s.k = 1 then ({ s with k := 6 }, 0) else if s.k = 2 then ({ s with k := 6 }, 0) else if s.k = 3 then ({ s with fl := true }, 0) else if s.k = 4 then ({ s with fl := true }, 0) else (zeroS, 29)

end Go.W
namespace Go.W
open Go.Proofs
set_option linter.unusedSimpArgs false
set_option linter.unusedVariables false
set_option maxHeartbeats 8000000
attribute [local irreducible] Wm
attribute [local simp] nmap lkp mkPl prs prsL prT ddL idL CRenL CRen Ren RenL NObj.none CRenLL

/-- A word. -/
def isW : List AV → Bool
  | [.int .u64 x] => decide (0 ≤ x) && decide (x < 18446744073709551616)
  | _ => false
def wAt (ws : List (List AV)) (i : Nat) : Int := match ws[i]? with
  | some [.int .u64 x] => x
  | _ => 0

theorem isW_ex {c : List AV} (h : isW c = true) : ∃ x : Int, c = [.int .u64 x] ∧ 0 ≤ x ∧ x < 18446744073709551616 := by
  unfold isW at h
  split at h
  · simp only [Bool.and_eq_true, decide_eq_true_eq] at h; exact ⟨_, rfl, h⟩
  · cases h

theorem w_t0 : ∀ {els : List (List AV)}, els.all isW = true → t0LL els = els
  | [], _ => rfl
  | c :: r, h => by
    simp only [List.all_cons, Bool.and_eq_true] at h
    obtain ⟨x, rfl, _⟩ := isW_ex h.1
    simp [t0LL, t0L, AV.t0, w_t0 h.2]
theorem w_cl : ∀ {els : List (List AV)}, els.all isW = true → clLL els = true
  | [], _ => rfl
  | c :: r, h => by
    simp only [List.all_cons, Bool.and_eq_true] at h
    obtain ⟨x, rfl, _⟩ := isW_ex h.1
    simp [clLL, clL, AV.cl, w_cl h.2]
theorem w_at {els : List (List AV)} (h : els.all isW = true) {i : Nat} (hi : i < els.length) : els[i]? = some [.int .u64 (wAt els i)] ∧ 0 ≤ wAt els i ∧ wAt els i < 18446744073709551616 := by
  obtain ⟨x, hx, h1⟩ := isW_ex (List.all_eq_true.1 h _ (List.getElem_mem hi))
  have e : els[i]? = some [.int .u64 x] := by rw [List.getElem?_eq_getElem hi, hx]
  have e2 : wAt els i = x := by unfold wAt; rw [e]
  rw [e2]; exact ⟨e, h1⟩
theorem w_set {els : List (List AV)} (h : els.all isW = true) {x : Int} (h1 : 0 ≤ x) (h2 : x < 18446744073709551616) (i : Nat) : (els.set i [.int .u64 x]).all isW = true :=
  List.all_eq_true.2 fun c hc => by
    rcases List.mem_or_eq_of_mem_set hc with h3 | h3
    · exact List.all_eq_true.1 h c h3
    · rw [h3]; simp [isW, h1, h2]

def d25 : List AV → List NObj → Option AV
  | [.int .i64 _, .iface _ _], [] => some (.iface 93 .bot)
  | _, _ => none

theorem ok25 : ROk d25 := by
  intro xs os r h
  unfold d25 at h
  (repeat' (split at h)) <;> first | (cases h; done) | (injection h with h; subst h; simp)
theorem s25 : Sound Try.prog 25 (rdS d25 ok25) := by
  refine rd_sound Try.func25 nm25 rc25 rv25 ok25 fun xs os r h vs ρ0 hvs => ⟨xs, ?_, fun _ h => h, fun w0 S hS => ?_⟩
  · unfold d25 at h
    (repeat' (split at h)) <;> first | (cases h; done) | exact Nat.le_of_ble_eq_true rfl
  unfold d25 at h
  split at h
  · skip
    injection h with h
    subst h
    have hE : SoundAll Try.prog (EL []) := EL_sound (by simp)
    unfold m25
    repeat' with_reducible (first
      | refine ZR.h ?_ | refine zI (by decide) ?_
      | (refine zK hE ?_; intro K hK; simp [KR.ks, q25_0, q25_1, q25_2, q25_3]; (repeat' (first | refine hK _ _ ?_ | refine And.intro ?_ ?_ | (intro hc; try subst hc))) <;> (try clear hK K))
      | (refine zJ (b := _) (by with_unfolding_all rfl) (fun hc => ?_) (fun hc => ?_) <;> simp at hc <;> (try subst hc)))
    all_goals first | (simp; done) | (simp at *; omega) | ((try simp); refine Imp.auto (by kernel_rfl) ?_ ?_ <;> simp [NLe])
  · cases h

end Go.W
namespace Go.W
open Go.Proofs
set_option linter.unusedSimpArgs false
set_option linter.unusedVariables false
set_option maxHeartbeats 8000000
attribute [local irreducible] Wm
attribute [local simp] nmap lkp mkPl prs prsL prT ddL idL CRenL CRen Ren RenL NObj.none CRenLL

theorem zero_w (n : Nat) : (List.replicate n [AV.int .u64 0]).all isW = true := by
  rw [List.all_eq_true]
  intro c hc
  rw [List.eq_of_mem_replicate hc]; rfl

end Go.W
namespace Go.W
open Go.Proofs
set_option linter.unusedSimpArgs false
set_option linter.unusedVariables false
set_option maxHeartbeats 8000000
attribute [local irreducible] Wm
attribute [local simp] nmap lkp mkPl prs prsL prT ddL idL CRenL CRen Ren RenL NObj.none CRenLL

/-- A width. -/
def isWd : List AV → Bool
  | [.int .i64 w] => decide (1 ≤ w) && decide (w ≤ 32)
  | _ => false
def cellI : List AV → Int
  | [.int .i64 w] => w
  | _ => 0
def lowZ (els : List (List AV)) (i : Nat) : Int := (els.take i).foldl (fun n c => n + cellI c) 0

theorem isWd_ex {c : List AV} (h : isWd c = true) : ∃ w : Int, c = [.int .i64 w] ∧ 1 ≤ w ∧ w ≤ 32 := by
  unfold isWd at h
  split at h
  · simp only [Bool.and_eq_true, decide_eq_true_eq] at h; exact ⟨_, rfl, h⟩
  · cases h
theorem wd_dat {els : List (List AV)} (h : els.all isWd = true) : datLL els = true :=
  List.all_eq_true.2 fun c hc => by
    obtain ⟨w, rfl, _⟩ := isWd_ex (List.all_eq_true.1 h c hc)
    rfl
theorem wd_t0 : ∀ {els : List (List AV)}, els.all isWd = true → t0LL els = els
  | [], _ => rfl
  | c :: r, h => by
    simp only [List.all_cons, Bool.and_eq_true] at h
    obtain ⟨x, rfl, _⟩ := isWd_ex h.1
    simp [t0LL, t0L, AV.t0, wd_t0 h.2]
theorem wd_cl : ∀ {els : List (List AV)}, els.all isWd = true → clLL els = true
  | [], _ => rfl
  | c :: r, h => by
    simp only [List.all_cons, Bool.and_eq_true] at h
    obtain ⟨x, rfl, _⟩ := isWd_ex h.1
    simp [clLL, clL, AV.cl, wd_cl h.2]
theorem lowZ_succ {els : List (List AV)} {k : Nat} {w : Int} (h : els[k]? = some [.int .i64 w]) : lowZ els (k + 1) = lowZ els k + w := by
  unfold lowZ
  rw [List.take_add_one, h, Option.toList_some, List.foldl_append]; rfl
theorem low_in {els : List (List AV)} (h : els.all isWd = true) : ∀ (k : Nat), k ≤ els.length → 0 ≤ lowZ els k ∧ lowZ els k ≤ 32 * k
  | 0, _ => by simp [lowZ]
  | k + 1, hk => by
    obtain ⟨w, hw, h1, h2⟩ := isWd_ex (List.all_eq_true.1 h _ (List.getElem_mem (show k < els.length by omega)))
    have := low_in h k (by omega)
    rw [lowZ_succ (by rw [List.getElem?_eq_getElem (show k < els.length by omega), hw])]
    omega

def I84 (els : List (List AV)) (j k : Nat) : St := ⟨[(5, .int .i64 (lowZ els k)), (11, .sl (.top 0) 0 j), (12, .int .i64 j), (13, .int .i64 k)], [(0, .view 0 1 els)], 1⟩

theorem pow_le {b : Nat} (h : b ≤ 32) : (1 : Int) ≤ 2 ^ b ∧ (2 : Int) ^ b ≤ 4294967296 := by
  have h1 : 1 ≤ 2 ^ b := Nat.one_le_two_pow
  have h2 : 2 ^ b ≤ 2 ^ 32 := Nat.pow_le_pow_right (by omega) h
  have e : ((2 ^ b : Nat) : Int) = (2 : Int) ^ b := by simp
  rw [← e]; omega

end Go.W
namespace Go.W
open Go.Proofs
set_option linter.unusedSimpArgs false
set_option linter.unusedVariables false
set_option maxHeartbeats 8000000
attribute [local irreducible] Wm
attribute [local simp] nmap lkp mkPl prs prsL prT ddL idL CRenL CRen Ren RenL NObj.none CRenLL

theorem lowZ_le {els : List (List AV)} (h : els.all isWd = true) {i k : Nat} (hik : i ≤ k) (hk : k ≤ els.length) : lowZ els i ≤ lowZ els k := by
  induction k with
  | zero => rw [show i = 0 from by omega]; exact Int.le_refl _
  | succ k ih =>
    by_cases e : i = k + 1
    · subst e; exact Int.le_refl _
    · have h1 := ih (by omega) (by omega)
      obtain ⟨w, hw, h2, _⟩ := isWd_ex (List.all_eq_true.1 h _ (List.getElem_mem (show k < els.length by omega)))
      rw [lowZ_succ (by rw [List.getElem?_eq_getElem (show k < els.length by omega), hw])]
      omega

def I83 (els : List (List AV)) (k : Nat) : St := ⟨[(0, .sl (.top 0) 0 els.length), (2, .ptr (.top 1) 0 0), (4, .int .i64 (lowZ els k)), (7, .sl (.top 0) 0 els.length), (8, .int .i64 els.length), (9, .int .i64 k)], [(0, .view 0 1 els), (1, .cells 0 [.nsl])], 2⟩

def stateZ (x : Int) : StZ := ⟨getZ x 0 4, decide (getZ x 4 1 = 1), getZ x 5 8, getZ x 13 16, getZ x 29 8⟩
/-- An order's terms. -/
structure TmZ where
  nm : Int
  sd : Int
  pr : Int
  le : Int
  un : Int
  deriving DecidableEq, Inhabited
def tmC (t : TmZ) : List AV := [.int .i64 t.nm, .int .i64 t.sd, .int .i64 t.pr, .int .i64 t.le, .int .i64 t.un]
def tmA (t : TmZ) : AV := .agg (tmC t)
/-- A record. -/
structure RcZ where
  k : Int
  q : Int
  p : Int
  t : Int
  c : Int
  g : Int
  deriving DecidableEq, Inhabited
def rcA (r : RcZ) : AV := .agg [.int .i64 r.k, .int .i64 r.q, .int .i64 r.p, .int .i64 r.t, .int .i64 r.c, .int .i64 r.g]

def termsZ (x : Int) : TmZ := ⟨getZ x 0 4, getZ x 4 1, getZ x 5 16, getZ x 21 16, getZ x 37 24⟩
def recordZ (x : Int) : RcZ := ⟨getZ x 0 3, getZ x 3 16, getZ x 19 16, getZ x 35 20, getZ x 55 5, getZ x 60 4⟩

end Go.W
namespace Go.W
open Go.Proofs
set_option linter.unusedSimpArgs false
set_option linter.unusedVariables false
set_option maxHeartbeats 8000000
attribute [local irreducible] Wm
attribute [local simp] nmap lkp mkPl prs prsL prT ddL idL CRenL CRen Ren RenL NObj.none CRenLL

def isV : List AV → Bool
  | [.int .i64 v] => decide (-9223372036854775808 ≤ v) && decide (v ≤ 9223372036854775807)
  | _ => false
theorem isV_ex {c : List AV} (h : isV c = true) : ∃ v : Int, c = [.int .i64 v] ∧ -9223372036854775808 ≤ v ∧ v ≤ 9223372036854775807 := by
  unfold isV at h
  split at h
  · simp only [Bool.and_eq_true, decide_eq_true_eq] at h; exact ⟨_, rfl, h⟩
  · cases h
theorem v_dat {els : List (List AV)} (h : els.all isV = true) : datLL els = true :=
  List.all_eq_true.2 fun c hc => by
    obtain ⟨w, rfl, _⟩ := isV_ex (List.all_eq_true.1 h c hc)
    rfl
theorem v_t0 : ∀ {els : List (List AV)}, els.all isV = true → t0LL els = els
  | [], _ => rfl
  | c :: r, h => by
    simp only [List.all_cons, Bool.and_eq_true] at h
    obtain ⟨x, rfl, _⟩ := isV_ex h.1
    simp [t0LL, t0L, AV.t0, v_t0 h.2]
theorem v_cl : ∀ {els : List (List AV)}, els.all isV = true → clLL els = true
  | [], _ => rfl
  | c :: r, h => by
    simp only [List.all_cons, Bool.and_eq_true] at h
    obtain ⟨x, rfl, _⟩ := isV_ex h.1
    simp [clLL, clL, AV.cl, v_cl h.2]

/-- Numbers put into a word, up to one. -/
def packK (els vs : List (List AV)) : Nat → Option Int
  | 0 => some 0
  | k + 1 => match packK els vs k with
    | some x => if cellI (vs.getD k []) < 0 then none else if 2 ^ (cellI (els.getD k [])).toNat - 1 < cellI (vs.getD k []) then none else some (x + cellI (vs.getD k []) * 2 ^ (lowZ els k).toNat)
    | none => none

theorem packK_none {els vs : List (List AV)} {k : Nat} (h : packK els vs k = none) : ∀ j, packK els vs (k + j) = none
  | 0 => h
  | j + 1 => by
    show packK els vs ((k + j) + 1) = none
    simp only [packK, packK_none h j]

theorem packK_in {els vs : List (List AV)} (hw : els.all isWd = true) : ∀ (k : Nat) (x : Int), k ≤ els.length → packK els vs k = some x → 0 ≤ x ∧ x < 2 ^ (lowZ els k).toNat
  | 0, x, _, h => by
    simp only [packK, Option.some.injEq] at h
    subst h
    exact ⟨Int.le_refl _, by simp [lowZ]⟩
  | k + 1, x, hk, h => by
    simp only [packK] at h
    split at h
    · rename_i y hy
      split at h
      · cases h
      · split at h
        · cases h
        · rename_i h1 h2
          simp only [Option.some.injEq] at h
          obtain ⟨a1, a2⟩ := packK_in hw k y (by omega) hy
          obtain ⟨w, hrow, hw1, hw2⟩ := isWd_ex (List.all_eq_true.1 hw _ (List.getElem_mem (show k < els.length by omega)))
          have hrow2 : els[k]? = some [.int .i64 w] := by rw [List.getElem?_eq_getElem (show k < els.length by omega), hrow]
          have hb := low_in hw k (by omega)
          have hc : cellI (els.getD k []) = w := by rw [List.getD_eq_getElem?_getD, hrow2]; rfl
          rw [lowZ_succ hrow2]
          rw [hc] at h2
          obtain ⟨lo, hlo⟩ : ∃ lo : Nat, lowZ els k = (lo : Int) := ⟨(lowZ els k).toNat, by omega⟩
          obtain ⟨b, rfl⟩ : ∃ b : Nat, w = (b : Int) := ⟨w.toNat, by omega⟩
          rw [hlo] at a2 h ⊢
          simp only [Int.toNat_natCast] at a2 h h2
          obtain ⟨v, hv⟩ : ∃ v, cellI (vs.getD k []) = v := ⟨_, rfl⟩
          rw [hv] at h h1 h2
          have e : ((lo : Int) + (b : Int)).toNat = lo + b := by omega
          rw [e, Int.pow_add]
          have hp : (1 : Int) ≤ 2 ^ lo := by
            have : 1 ≤ 2 ^ lo := Nat.one_le_two_pow
            rw [← two_pow_cast]; omega
          have h5 : v * 2 ^ lo ≤ (2 ^ b - 1) * 2 ^ lo := Int.mul_le_mul_of_nonneg_right (by omega) (by omega)
          have h6 := Int.mul_nonneg (show 0 ≤ v by omega) (show (0 : Int) ≤ 2 ^ lo by omega)
          rw [Int.sub_mul, Int.one_mul, Int.mul_comm (2 ^ b)] at h5
          omega
    · cases h

def packA : Option Int → AV
  | some x => .tup [.int .u64 x, .raw .nilIface]
  | none => .tup [.int .u64 0, .iface 93 .bot]

def I86 (els vs : List (List AV)) (x : Int) (k : Nat) : St := ⟨[(2, .ptr (.top 2) 0 0), (6, .int .u64 x), (16, .sl (.top 1) 0 els.length), (17, .int .i64 els.length), (18, .int .i64 k)], [(0, .view 0 1 els), (1, .view 0 1 vs), (2, .cells 0 [.sl (.top 0) 0 els.length])], 3⟩

end Go.W
