/- A part of the proof (PuA). -/
import Derived.Test.YtfkdcpgphindiaaPsI
import Derived.Test.YtfkdcpgphindiaaPqA
namespace Go.W
open Go.Proofs
set_option linter.unusedSimpArgs false
set_option linter.unusedVariables false
set_option maxHeartbeats 8000000
attribute [local irreducible] Wm
attribute [local simp] nmap lkp mkPl prs prsL prT ddL idL CRenL CRen Ren RenL NObj.none CRenLL

theorem band_lt {d p : Int} (h1 : 1 ≤ d) (h2 : d ≤ 4) : bandZ d p < d := by
  unfold bandZ
  split
  · omega
  · rcases (show d = 1 ∨ d = 2 ∨ d = 3 ∨ d = 4 by omega) with rfl | rfl | rfl | rfl <;> omega
theorem band_in {d p : Int} (h1 : 1 ≤ d) : -1 ≤ bandZ d p := by
  unfold bandZ
  split
  · omega
  · have := mul_in (show 0 ≤ p - 1 by omega) (show p - 1 ≤ 9998 by omega) (show 0 ≤ d by omega) (Int.le_refl d)
    omega

def d45 : List AV → List NObj → Option AV
  | [.agg [.int .i64 a, .int .i64 b, .int .i64 c, .int .i64 d, .int .i64 e, .int .i64 f, .int .i64 g], .int .i64 p], [] => if cfgB a b c d e f g = true then some (.int .i64 (bandZ d p)) else none
  | _, _ => none

theorem ok45 : ROk d45 := by
  intro xs os r h
  unfold d45 at h
  (repeat' (split at h)) <;> first | (cases h; done) | (injection h with h; subst h; simp)
theorem s45 : Sound Try.prog 45 (rdS d45 ok45) := by
  refine rd_sound Try.func45 nm45 rc45 rv45 ok45 fun xs os r h vs ρ0 hvs => ⟨xs, ?_, fun _ h => h, fun w0 S hS => ?_⟩
  · unfold d45 at h
    (repeat' (split at h)) <;> first | (cases h; done) | exact Nat.le_of_ble_eq_true rfl
  unfold d45 at h
  split at h
  · split at h
    · rename_i a b c d e f g p hcond
      injection h with h
      subst h
      have hE : SoundAll Try.prog (EL []) := EL_sound (by simp)
      have hc := cfg_ex hcond
      by_cases h1 : p < 1
      · have e1 : bandZ d p = -1 := if_pos (.inl h1)
        unfold m45
        repeat' with_reducible (first
          | refine ZR.h ?_ | refine zI (by decide) ?_
          | (refine zK hE ?_; intro K hK; simp [KR.ks, q45_0, q45_1, q45_2, q45_3, q45_4, q45_5, q45_6, h1]; (repeat' (first | refine hK _ _ ?_ | refine And.intro ?_ ?_ | (intro hc; try subst hc))) <;> (try clear hK K))
          | (refine zJ (b := _) (by with_unfolding_all rfl) (fun hc => ?_) (fun hc => ?_) <;> simp at hc <;> (try subst hc)))
        all_goals first | (simp; done) | (simp at *; omega) | ((try simp[e1]); refine Imp.auto (by kernel_rfl) ?_ ?_ <;> simp [NLe, e1])
      · by_cases h2 : 9999 < p
        · have e1 : bandZ d p = -1 := if_pos (.inr h2)
          unfold m45
          repeat' with_reducible (first
            | refine ZR.h ?_ | refine zI (by decide) ?_
            | (refine zK hE ?_; intro K hK; simp [KR.ks, q45_0, q45_1, q45_2, q45_3, q45_4, q45_5, q45_6, h1, h2]; (repeat' (first | refine hK _ _ ?_ | refine And.intro ?_ ?_ | (intro hc; try subst hc))) <;> (try clear hK K))
            | (refine zJ (b := _) (by with_unfolding_all rfl) (fun hc => ?_) (fun hc => ?_) <;> simp at hc <;> (try subst hc)))
          all_goals first | (simp; done) | (simp at *; omega) | ((try simp[e1]); refine Imp.auto (by kernel_rfl) ?_ ?_ <;> simp [NLe, e1])
        · obtain ⟨x, hx⟩ : ∃ z, (p - 1) * d = z := ⟨_, rfl⟩
          have e1 : bandZ d p = x / 9999 := by unfold bandZ; rw [if_neg (by omega), hx]
          have hb := mul_in (show 0 ≤ p - 1 by omega) (show p - 1 ≤ 9998 by omega) (show 0 ≤ d by omega) (show d ≤ 4 by omega)
          rw [hx] at hb
          have wx1 : IntKind.wrap .i64 (p - 1) = p - 1 := wrap_in (by omega) (by omega)
          have wx2 : IntKind.wrap .i64 x = x := wrap_in (by omega) (by omega)
          have wb1 : IntKind.wrap .i64 1 = 1 := by rfl
          have wb2 : IntKind.wrap .i64 2 = 2 := by rfl
          have wb3 : IntKind.wrap .i64 3 = 3 := by rfl
          have wb4 : IntKind.wrap .i64 4 = 4 := by rfl
          have wm1 : IntKind.wrap .i64 9999 = 9999 := by rfl
          have wm2 : IntKind.wrap .i64 19998 = 19998 := by rfl
          have wm3 : IntKind.wrap .i64 29997 = 29997 := by rfl
          have wm4 : IntKind.wrap .i64 39996 = 39996 := by rfl
          have hcase : (¬ 9999 ≤ x ∧ x / 9999 = 0) ∨ (9999 ≤ x ∧ ¬ 19998 ≤ x ∧ x / 9999 = 1) ∨ (9999 ≤ x ∧ 19998 ≤ x ∧ ¬ 29997 ≤ x ∧ x / 9999 = 2) ∨ (9999 ≤ x ∧ 19998 ≤ x ∧ 29997 ≤ x ∧ ¬ 39996 ≤ x ∧ x / 9999 = 3) := by omega
          rcases hcase with ⟨g1, e2⟩ | ⟨g1, g2, e2⟩ | ⟨g1, g2, g3, e2⟩ | ⟨g1, g2, g3, g4, e2⟩
          · rw [e2] at e1
            unfold m45
            repeat' with_reducible (first
              | refine ZR.h ?_ | refine zI (by decide) ?_
              | (refine zK hE ?_; intro K hK; simp [KR.ks, q45_0, q45_1, q45_2, q45_3, q45_4, q45_5, q45_6, h1, h2, hx, wb1, wb2, wb3, wb4, wx1, wx2, wm1, wm2, wm3, wm4, g1]; (repeat' (first | refine hK _ _ ?_ | refine And.intro ?_ ?_ | (intro hc; try subst hc))) <;> (try clear hK K))
              | (refine zJ (b := _) (by with_unfolding_all rfl) (fun hc => ?_) (fun hc => ?_) <;> simp at hc <;> (try subst hc)))
            all_goals refine Wm_unroll 1 ?_
            repeat' with_reducible (first
              | refine ZR.h ?_ | refine zI (by decide) ?_
              | (refine zK hE ?_; intro K hK; simp [KR.ks, q45_0, q45_1, q45_2, q45_3, q45_4, q45_5, q45_6, h1, h2, hx, wb1, wb2, wb3, wb4, wx1, wx2, wm1, wm2, wm3, wm4, g1]; (repeat' (first | refine hK _ _ ?_ | refine And.intro ?_ ?_ | (intro hc; try subst hc))) <;> (try clear hK K))
              | (refine zJ (b := _) (by with_unfolding_all rfl) (fun hc => ?_) (fun hc => ?_) <;> simp at hc <;> (try subst hc)))
            all_goals first | (simp; done) | (simp at *; omega) | ((try simp[e1]); refine Imp.auto (by kernel_rfl) ?_ ?_ <;> simp [NLe, e1])
          · rw [e2] at e1
            unfold m45
            repeat' with_reducible (first
              | refine ZR.h ?_ | refine zI (by decide) ?_
              | (refine zK hE ?_; intro K hK; simp [KR.ks, q45_0, q45_1, q45_2, q45_3, q45_4, q45_5, q45_6, h1, h2, hx, wb1, wb2, wb3, wb4, wx1, wx2, wm1, wm2, wm3, wm4, g1, g2]; (repeat' (first | refine hK _ _ ?_ | refine And.intro ?_ ?_ | (intro hc; try subst hc))) <;> (try clear hK K))
              | (refine zJ (b := _) (by with_unfolding_all rfl) (fun hc => ?_) (fun hc => ?_) <;> simp at hc <;> (try subst hc)))
            all_goals refine Wm_unroll 2 ?_
            repeat' with_reducible (first
              | refine ZR.h ?_ | refine zI (by decide) ?_
              | (refine zK hE ?_; intro K hK; simp [KR.ks, q45_0, q45_1, q45_2, q45_3, q45_4, q45_5, q45_6, h1, h2, hx, wb1, wb2, wb3, wb4, wx1, wx2, wm1, wm2, wm3, wm4, g1, g2]; (repeat' (first | refine hK _ _ ?_ | refine And.intro ?_ ?_ | (intro hc; try subst hc))) <;> (try clear hK K))
              | (refine zJ (b := _) (by with_unfolding_all rfl) (fun hc => ?_) (fun hc => ?_) <;> simp at hc <;> (try subst hc)))
            all_goals first | (simp; done) | (simp at *; omega) | ((try simp[e1]); refine Imp.auto (by kernel_rfl) ?_ ?_ <;> simp [NLe, e1])
          · rw [e2] at e1
            unfold m45
            repeat' with_reducible (first
              | refine ZR.h ?_ | refine zI (by decide) ?_
              | (refine zK hE ?_; intro K hK; simp [KR.ks, q45_0, q45_1, q45_2, q45_3, q45_4, q45_5, q45_6, h1, h2, hx, wb1, wb2, wb3, wb4, wx1, wx2, wm1, wm2, wm3, wm4, g1, g2, g3]; (repeat' (first | refine hK _ _ ?_ | refine And.intro ?_ ?_ | (intro hc; try subst hc))) <;> (try clear hK K))
              | (refine zJ (b := _) (by with_unfolding_all rfl) (fun hc => ?_) (fun hc => ?_) <;> simp at hc <;> (try subst hc)))
            all_goals refine Wm_unroll 3 ?_
            repeat' with_reducible (first
              | refine ZR.h ?_ | refine zI (by decide) ?_
              | (refine zK hE ?_; intro K hK; simp [KR.ks, q45_0, q45_1, q45_2, q45_3, q45_4, q45_5, q45_6, h1, h2, hx, wb1, wb2, wb3, wb4, wx1, wx2, wm1, wm2, wm3, wm4, g1, g2, g3]; (repeat' (first | refine hK _ _ ?_ | refine And.intro ?_ ?_ | (intro hc; try subst hc))) <;> (try clear hK K))
              | (refine zJ (b := _) (by with_unfolding_all rfl) (fun hc => ?_) (fun hc => ?_) <;> simp at hc <;> (try subst hc)))
            all_goals first | (simp; done) | (simp at *; omega) | ((try simp[e1]); refine Imp.auto (by kernel_rfl) ?_ ?_ <;> simp [NLe, e1])
          · rw [e2] at e1
            unfold m45
            repeat' with_reducible (first
              | refine ZR.h ?_ | refine zI (by decide) ?_
              | (refine zK hE ?_; intro K hK; simp [KR.ks, q45_0, q45_1, q45_2, q45_3, q45_4, q45_5, q45_6, h1, h2, hx, wb1, wb2, wb3, wb4, wx1, wx2, wm1, wm2, wm3, wm4, g1, g2, g3, g4]; (repeat' (first | refine hK _ _ ?_ | refine And.intro ?_ ?_ | (intro hc; try subst hc))) <;> (try clear hK K))
              | (refine zJ (b := _) (by with_unfolding_all rfl) (fun hc => ?_) (fun hc => ?_) <;> simp at hc <;> (try subst hc)))
            all_goals refine Wm_unroll 4 ?_
            repeat' with_reducible (first
              | refine ZR.h ?_ | refine zI (by decide) ?_
              | (refine zK hE ?_; intro K hK; simp [KR.ks, q45_0, q45_1, q45_2, q45_3, q45_4, q45_5, q45_6, h1, h2, hx, wb1, wb2, wb3, wb4, wx1, wx2, wm1, wm2, wm3, wm4, g1, g2, g3, g4]; (repeat' (first | refine hK _ _ ?_ | refine And.intro ?_ ?_ | (intro hc; try subst hc))) <;> (try clear hK K))
              | (refine zJ (b := _) (by with_unfolding_all rfl) (fun hc => ?_) (fun hc => ?_) <;> simp at hc <;> (try subst hc)))
            all_goals first | (simp; done) | (simp at *; omega) | ((try simp[e1]); refine Imp.auto (by kernel_rfl) ?_ ?_ <;> simp [NLe, e1])
    · cases h
  · cases h

def d32 : List AV → List NObj → Option AV
  | [.agg [.int .i64 a, .int .i64 b, .int .i64 c, .int .i64 d, .int .i64 e, .int .i64 f, .int .i64 g], .agg [.int .i64 nm, .int .i64 sd, .int .i64 pr, .int .i64 le, .int .i64 un]], [] => if cfgB a b c d e f g = true then some (.int .i64 (shardZ c d nm (bandZ d pr))) else none
  | _, _ => none

theorem ok32 : ROk d32 := by
  intro xs os r h
  unfold d32 at h
  (repeat' (split at h)) <;> first | (cases h; done) | (injection h with h; subst h; simp)
theorem s32 : Sound Try.prog 32 (rdS d32 ok32) := by
  refine rd_sound Try.func32 nm32 rc32 rv32 ok32 fun xs os r h vs ρ0 hvs => ⟨xs, ?_, fun _ h => h, fun w0 S hS => ?_⟩
  · unfold d32 at h
    (repeat' (split at h)) <;> first | (cases h; done) | exact Nat.le_of_ble_eq_true rfl
  unfold d32 at h
  split at h
  · split at h
    · rename_i a b c d e f g nm sd pr le un hcond
      injection h with h
      subst h
      have hE : SoundAll Try.prog (EL [(45, rdS d45 ok45)]) := EL_sound (by simp only [List.mem_cons, List.not_mem_nil, or_false, forall_eq_or_imp, forall_eq]; exact s45)
      have hc := cfg_ex hcond
      have hb1 := band_lt (d := d) (p := pr) (by omega) (by omega)
      have hb0 := band_in (d := d) (p := pr) (by omega)
      obtain ⟨x, hx⟩ : ∃ z, bandZ d pr = z := ⟨_, rfl⟩
      rw [hx] at hb0 hb1
      by_cases h1 : nm < 0
      · have e1 : shardZ c d nm x = -1 := if_pos (.inl h1)
        unfold m32
        repeat' with_reducible (first
          | refine ZR.h ?_ | refine zI (by decide) ?_
          | (refine zK hE ?_; intro K hK; simp [KR.ks, q32_0, q32_1, q32_2, q32_3, q32_4, hcond, hx, h1, d45]; (repeat' (first | refine hK _ _ ?_ | refine And.intro ?_ ?_ | (intro hc; try subst hc))) <;> (try clear hK K))
          | (refine zJ (b := _) (by with_unfolding_all rfl) (fun hc => ?_) (fun hc => ?_) <;> simp at hc <;> (try subst hc)))
        all_goals first | (simp; done) | (simp at *; omega) | ((try simp[e1, hx]); refine Imp.auto (by kernel_rfl) ?_ ?_ <;> simp [NLe, e1, hx])
      · by_cases h2 : c ≤ nm
        · have e1 : shardZ c d nm x = -1 := if_pos (.inr (.inl h2))
          unfold m32
          repeat' with_reducible (first
            | refine ZR.h ?_ | refine zI (by decide) ?_
            | (refine zK hE ?_; intro K hK; simp [KR.ks, q32_0, q32_1, q32_2, q32_3, q32_4, hcond, hx, h1, h2, d45]; (repeat' (first | refine hK _ _ ?_ | refine And.intro ?_ ?_ | (intro hc; try subst hc))) <;> (try clear hK K))
            | (refine zJ (b := _) (by with_unfolding_all rfl) (fun hc => ?_) (fun hc => ?_) <;> simp at hc <;> (try subst hc)))
          all_goals first | (simp; done) | (simp at *; omega) | ((try simp[e1, hx]); refine Imp.auto (by kernel_rfl) ?_ ?_ <;> simp [NLe, e1, hx])
        · by_cases h3 : x < 0
          · have e1 : shardZ c d nm x = -1 := if_pos (.inr (.inr (.inl h3)))
            unfold m32
            repeat' with_reducible (first
              | refine ZR.h ?_ | refine zI (by decide) ?_
              | (refine zK hE ?_; intro K hK; simp [KR.ks, q32_0, q32_1, q32_2, q32_3, q32_4, hcond, hx, h1, h2, h3, d45]; (repeat' (first | refine hK _ _ ?_ | refine And.intro ?_ ?_ | (intro hc; try subst hc))) <;> (try clear hK K))
              | (refine zJ (b := _) (by with_unfolding_all rfl) (fun hc => ?_) (fun hc => ?_) <;> simp at hc <;> (try subst hc)))
            all_goals first | (simp; done) | (simp at *; omega) | ((try simp[e1, hx]); refine Imp.auto (by kernel_rfl) ?_ ?_ <;> simp [NLe, e1, hx])
          · have e1 : shardZ c d nm x = nm * d + x := if_neg (by omega)
            have hm := mul_in (show 0 ≤ nm by omega) (show nm ≤ 3 by omega) (show 0 ≤ d by omega) (show d ≤ 4 by omega)
            have w1 : IntKind.wrap .i64 (nm * d) = nm * d := wrap_in (by omega) (by omega)
            have w2 : IntKind.wrap .i64 (nm * d + x) = nm * d + x := wrap_in (by omega) (by omega)
            unfold m32
            repeat' with_reducible (first
              | refine ZR.h ?_ | refine zI (by decide) ?_
              | (refine zK hE ?_; intro K hK; simp [KR.ks, q32_0, q32_1, q32_2, q32_3, q32_4, hcond, hx, h1, h2, h3, w1, w2, d45]; (repeat' (first | refine hK _ _ ?_ | refine And.intro ?_ ?_ | (intro hc; try subst hc))) <;> (try clear hK K))
              | (refine zJ (b := _) (by with_unfolding_all rfl) (fun hc => ?_) (fun hc => ?_) <;> simp at hc <;> (try subst hc)))
            all_goals first | (simp; done) | (simp at *; omega) | ((try simp[e1, hx]); refine Imp.auto (by kernel_rfl) ?_ ?_ <;> simp [NLe, e1, hx])
    · cases h
  · cases h

def d36 : List AV → List NObj → Option AV
  | [.agg [.int .i64 a0, .int .i64 a1, .int .i64 a2, .int .i64 a3, .int .i64 a4], .agg [.int .i64 b0, .int .i64 b1, .int .i64 b2, .int .i64 b3, .int .i64 b4], .int .i64 l, .int .i64 o], [] => if 0 ≤ a2 ∧ a2 ≤ 1000000 ∧ 0 ≤ b2 ∧ b2 ≤ 1000000 then some (.tup [.int .i64 (matchZ ⟨a0, a1, a2, a3, a4⟩ ⟨b0, b1, b2, b3, b4⟩ l o).1, .int .i64 (matchZ ⟨a0, a1, a2, a3, a4⟩ ⟨b0, b1, b2, b3, b4⟩ l o).2]) else none
  | _, _ => none

theorem ok36 : ROk d36 := by
  intro xs os r h
  unfold d36 at h
  (repeat' (split at h)) <;> first | (cases h; done) | (injection h with h; subst h; simp)
theorem s36 : Sound Try.prog 36 (rdS d36 ok36) := by
  refine rd_sound Try.func36 nm36 rc36 rv36 ok36 fun xs os r h vs ρ0 hvs => ⟨xs, ?_, fun _ h => h, fun w0 S hS => ?_⟩
  · unfold d36 at h
    (repeat' (split at h)) <;> first | (cases h; done) | exact Nat.le_of_ble_eq_true rfl
  unfold d36 at h
  split at h
  · split at h
    · rename_i a0 a1 a2 a3 a4 b0 b1 b2 b3 b4 l o hcond
      injection h with h
      subst h
      have hE : SoundAll Try.prog (EL []) := EL_sound (by simp)
      obtain ⟨hp0, hp1, hp2, hp3⟩ := hcond
      obtain ⟨mx, hm⟩ : ∃ mx, (if a3 < b3 then b3 else a3) = mx := ⟨_, rfl⟩
      by_cases h0 : a1 = 1
      · skip
        by_cases h1 : b1 ≠ 0
        · unfold m36
          repeat' with_reducible (first
            | refine ZR.h ?_ | refine zI (by decide) ?_
            | ((first | refine zK hE ?_ | refine zL hE mixT ?_); intro K hK; simp [KR.ks, KD.ks, KD.cl, q36_0, q36_1, q36_2, q36_3, q36_4, q36_5, q36_6, q36_7, q36_8, q36_9, q36_10, q36_11, h1, h0, hm, matchZ]; (repeat' (first | refine hK _ _ ?_ | refine And.intro ?_ ?_ | (intro hc; try subst hc))) <;> (try clear hK K))
            | (refine zJ (b := _) (by with_unfolding_all rfl) (fun hc => ?_) (fun hc => ?_) <;> simp at hc <;> (try subst hc)))
          all_goals first | (simp; done) | (simp at *; omega) | ((try simp[h1, h0, hm, matchZ]); refine Imp.auto (by kernel_rfl) ?_ ?_ <;> simp [NLe, h1, h0, hm, matchZ])
        · have h1' : b1 = 0 := by omega
          by_cases h3 : a0 ≠ b0
          · have hne : ¬ b0 = a0 := fun h => h3 h.symm
            unfold m36
            repeat' with_reducible (first
              | refine ZR.h ?_ | refine zI (by decide) ?_
              | ((first | refine zK hE ?_ | refine zL hE mixT ?_); intro K hK; simp [KR.ks, KD.ks, KD.cl, q36_0, q36_1, q36_2, q36_3, q36_4, q36_5, q36_6, q36_7, q36_8, q36_9, q36_10, q36_11, h1', h3, hne, h0, hm, matchZ]; (repeat' (first | refine hK _ _ ?_ | refine And.intro ?_ ?_ | (intro hc; try subst hc))) <;> (try clear hK K))
              | (refine zJ (b := _) (by with_unfolding_all rfl) (fun hc => ?_) (fun hc => ?_) <;> simp at hc <;> (try subst hc)))
            all_goals first | (simp; done) | (simp at *; omega) | ((try simp[h1', h3, hne, h0, hm, matchZ]); refine Imp.auto (by kernel_rfl) ?_ ?_ <;> simp [NLe, h1', h3, hne, h0, hm, matchZ])
          · have h3' : a0 = b0 := by omega
            by_cases h4 : b2 < a2
            · unfold m36
              repeat' with_reducible (first
                | refine ZR.h ?_ | refine zI (by decide) ?_
                | ((first | refine zK hE ?_ | refine zL hE mixT ?_); intro K hK; simp [KR.ks, KD.ks, KD.cl, q36_0, q36_1, q36_2, q36_3, q36_4, q36_5, q36_6, q36_7, q36_8, q36_9, q36_10, q36_11, h1', h3', h4, h0, hm, matchZ]; (repeat' (first | refine hK _ _ ?_ | refine And.intro ?_ ?_ | (intro hc; try subst hc))) <;> (try clear hK K))
                | (refine zJ (b := _) (by with_unfolding_all rfl) (fun hc => ?_) (fun hc => ?_) <;> simp at hc <;> (try subst hc)))
              all_goals first | (simp; done) | (simp at *; omega) | ((try simp[h1', h3', h4, h0, hm, matchZ]); refine Imp.auto (by kernel_rfl) ?_ ?_ <;> simp [NLe, h1', h3', h4, h0, hm, matchZ])
            · skip
              have hmx : (a3 ≤ mx ∧ b3 ≤ mx) ∧ (mx = a3 ∨ mx = b3) := by rw [← hm]; split <;> omega
              by_cases h5 : l < o
              · skip
                have hq : (if o < l then o else l) = l := by split <;> omega
                by_cases h6 : l < 1
                · unfold m36
                  repeat' with_reducible (first
                    | refine ZR.h ?_ | refine zI (by decide) ?_
                    | ((first | refine zK hE ?_ | refine zL hE mixT ?_); intro K hK; simp [KR.ks, KD.ks, KD.cl, q36_0, q36_1, q36_2, q36_3, q36_4, q36_5, q36_6, q36_7, q36_8, q36_9, q36_10, q36_11, h1', h3', h4, h5, hq, h6, h0, hm, matchZ]; (repeat' (first | refine hK _ _ ?_ | refine And.intro ?_ ?_ | (intro hc; try subst hc))) <;> (try clear hK K))
                    | (refine zJ (b := _) (by with_unfolding_all rfl) (fun hc => ?_) (fun hc => ?_) <;> simp at hc <;> (try subst hc)))
                  all_goals first | (simp; done) | (simp at *; omega) | ((try simp[h1', h3', h4, h5, hq, h6, h0, hm, matchZ]); refine Imp.auto (by kernel_rfl) ?_ ?_ <;> simp [NLe, h1', h3', h4, h5, hq, h6, h0, hm, matchZ])
                · skip
                  by_cases h7 : l < b3
                  · have hx : l < mx := by omega
                    unfold m36
                    repeat' with_reducible (first
                      | refine ZR.h ?_ | refine zI (by decide) ?_
                      | ((first | refine zK hE ?_ | refine zL hE mixT ?_); intro K hK; simp [KR.ks, KD.ks, KD.cl, q36_0, q36_1, q36_2, q36_3, q36_4, q36_5, q36_6, q36_7, q36_8, q36_9, q36_10, q36_11, h1', h3', h4, h5, hq, h6, h7, hx, h0, hm, matchZ]; (repeat' (first | refine hK _ _ ?_ | refine And.intro ?_ ?_ | (intro hc; try subst hc))) <;> (try clear hK K))
                      | (refine zJ (b := _) (by with_unfolding_all rfl) (fun hc => ?_) (fun hc => ?_) <;> simp at hc <;> (try subst hc)))
                    all_goals first | (simp; done) | (simp at *; omega) | ((try simp[h1', h3', h4, h5, hq, h6, h7, hx, h0, hm, matchZ]); refine Imp.auto (by kernel_rfl) ?_ ?_ <;> simp [NLe, h1', h3', h4, h5, hq, h6, h7, hx, h0, hm, matchZ])
                  · skip
                    by_cases h8 : l < a3
                    · have hx : l < mx := by omega
                      unfold m36
                      repeat' with_reducible (first
                        | refine ZR.h ?_ | refine zI (by decide) ?_
                        | ((first | refine zK hE ?_ | refine zL hE mixT ?_); intro K hK; simp [KR.ks, KD.ks, KD.cl, q36_0, q36_1, q36_2, q36_3, q36_4, q36_5, q36_6, q36_7, q36_8, q36_9, q36_10, q36_11, h1', h3', h4, h5, hq, h6, h7, h8, hx, h0, hm, matchZ]; (repeat' (first | refine hK _ _ ?_ | refine And.intro ?_ ?_ | (intro hc; try subst hc))) <;> (try clear hK K))
                        | (refine zJ (b := _) (by with_unfolding_all rfl) (fun hc => ?_) (fun hc => ?_) <;> simp at hc <;> (try subst hc)))
                      all_goals first | (simp; done) | (simp at *; omega) | ((try simp[h1', h3', h4, h5, hq, h6, h7, h8, hx, h0, hm, matchZ]); refine Imp.auto (by kernel_rfl) ?_ ?_ <;> simp [NLe, h1', h3', h4, h5, hq, h6, h7, h8, hx, h0, hm, matchZ])
                    · have hx : ¬ l < mx := by omega
                      have w1 : IntKind.wrap .i64 (b2 + a2) = b2 + a2 := wrap_in (by omega) (by omega)
                      have w2 : IntKind.wrap .i64 ((b2 + a2).tdiv 2) = (b2 + a2) / 2 := tdiv_in (by omega) (by omega) (by omega)
                      have w3 : a2 + (b2 - a2) / 2 = (b2 + a2) / 2 := by omega
                      unfold m36
                      repeat' with_reducible (first
                        | refine ZR.h ?_ | refine zI (by decide) ?_
                        | ((first | refine zK hE ?_ | refine zL hE mixT ?_); intro K hK; simp [KR.ks, KD.ks, KD.cl, q36_0, q36_1, q36_2, q36_3, q36_4, q36_5, q36_6, q36_7, q36_8, q36_9, q36_10, q36_11, h1', h3', h4, h5, hq, h6, h7, h8, hx, w1, w2, w3, h0, hm, matchZ]; (repeat' (first | refine hK _ _ ?_ | refine And.intro ?_ ?_ | (intro hc; try subst hc))) <;> (try clear hK K))
                        | (refine zJ (b := _) (by with_unfolding_all rfl) (fun hc => ?_) (fun hc => ?_) <;> simp at hc <;> (try subst hc)))
                      all_goals first | (simp; done) | (simp at *; omega) | ((try simp[h1', h3', h4, h5, hq, h6, h7, h8, hx, w1, w2, w3, h0, hm, matchZ]); refine Imp.auto (by kernel_rfl) ?_ ?_ <;> simp [NLe, h1', h3', h4, h5, hq, h6, h7, h8, hx, w1, w2, w3, h0, hm, matchZ])
              · skip
                have hq : (if o < l then o else l) = o := by split <;> omega
                by_cases h6 : o < 1
                · unfold m36
                  repeat' with_reducible (first
                    | refine ZR.h ?_ | refine zI (by decide) ?_
                    | ((first | refine zK hE ?_ | refine zL hE mixT ?_); intro K hK; simp [KR.ks, KD.ks, KD.cl, q36_0, q36_1, q36_2, q36_3, q36_4, q36_5, q36_6, q36_7, q36_8, q36_9, q36_10, q36_11, h1', h3', h4, h5, hq, h6, h0, hm, matchZ]; (repeat' (first | refine hK _ _ ?_ | refine And.intro ?_ ?_ | (intro hc; try subst hc))) <;> (try clear hK K))
                    | (refine zJ (b := _) (by with_unfolding_all rfl) (fun hc => ?_) (fun hc => ?_) <;> simp at hc <;> (try subst hc)))
                  all_goals first | (simp; done) | (simp at *; omega) | ((try simp[h1', h3', h4, h5, hq, h6, h0, hm, matchZ]); refine Imp.auto (by kernel_rfl) ?_ ?_ <;> simp [NLe, h1', h3', h4, h5, hq, h6, h0, hm, matchZ])
                · skip
                  by_cases h7 : o < b3
                  · have hx : o < mx := by omega
                    unfold m36
                    repeat' with_reducible (first
                      | refine ZR.h ?_ | refine zI (by decide) ?_
                      | ((first | refine zK hE ?_ | refine zL hE mixT ?_); intro K hK; simp [KR.ks, KD.ks, KD.cl, q36_0, q36_1, q36_2, q36_3, q36_4, q36_5, q36_6, q36_7, q36_8, q36_9, q36_10, q36_11, h1', h3', h4, h5, hq, h6, h7, hx, h0, hm, matchZ]; (repeat' (first | refine hK _ _ ?_ | refine And.intro ?_ ?_ | (intro hc; try subst hc))) <;> (try clear hK K))
                      | (refine zJ (b := _) (by with_unfolding_all rfl) (fun hc => ?_) (fun hc => ?_) <;> simp at hc <;> (try subst hc)))
                    all_goals first | (simp; done) | (simp at *; omega) | ((try simp[h1', h3', h4, h5, hq, h6, h7, hx, h0, hm, matchZ]); refine Imp.auto (by kernel_rfl) ?_ ?_ <;> simp [NLe, h1', h3', h4, h5, hq, h6, h7, hx, h0, hm, matchZ])
                  · skip
                    by_cases h8 : o < a3
                    · have hx : o < mx := by omega
                      unfold m36
                      repeat' with_reducible (first
                        | refine ZR.h ?_ | refine zI (by decide) ?_
                        | ((first | refine zK hE ?_ | refine zL hE mixT ?_); intro K hK; simp [KR.ks, KD.ks, KD.cl, q36_0, q36_1, q36_2, q36_3, q36_4, q36_5, q36_6, q36_7, q36_8, q36_9, q36_10, q36_11, h1', h3', h4, h5, hq, h6, h7, h8, hx, h0, hm, matchZ]; (repeat' (first | refine hK _ _ ?_ | refine And.intro ?_ ?_ | (intro hc; try subst hc))) <;> (try clear hK K))
                        | (refine zJ (b := _) (by with_unfolding_all rfl) (fun hc => ?_) (fun hc => ?_) <;> simp at hc <;> (try subst hc)))
                      all_goals first | (simp; done) | (simp at *; omega) | ((try simp[h1', h3', h4, h5, hq, h6, h7, h8, hx, h0, hm, matchZ]); refine Imp.auto (by kernel_rfl) ?_ ?_ <;> simp [NLe, h1', h3', h4, h5, hq, h6, h7, h8, hx, h0, hm, matchZ])
                    · have hx : ¬ o < mx := by omega
                      have w1 : IntKind.wrap .i64 (b2 + a2) = b2 + a2 := wrap_in (by omega) (by omega)
                      have w2 : IntKind.wrap .i64 ((b2 + a2).tdiv 2) = (b2 + a2) / 2 := tdiv_in (by omega) (by omega) (by omega)
                      have w3 : a2 + (b2 - a2) / 2 = (b2 + a2) / 2 := by omega
                      unfold m36
                      repeat' with_reducible (first
                        | refine ZR.h ?_ | refine zI (by decide) ?_
                        | ((first | refine zK hE ?_ | refine zL hE mixT ?_); intro K hK; simp [KR.ks, KD.ks, KD.cl, q36_0, q36_1, q36_2, q36_3, q36_4, q36_5, q36_6, q36_7, q36_8, q36_9, q36_10, q36_11, h1', h3', h4, h5, hq, h6, h7, h8, hx, w1, w2, w3, h0, hm, matchZ]; (repeat' (first | refine hK _ _ ?_ | refine And.intro ?_ ?_ | (intro hc; try subst hc))) <;> (try clear hK K))
                        | (refine zJ (b := _) (by with_unfolding_all rfl) (fun hc => ?_) (fun hc => ?_) <;> simp at hc <;> (try subst hc)))
                      all_goals first | (simp; done) | (simp at *; omega) | ((try simp[h1', h3', h4, h5, hq, h6, h7, h8, hx, w1, w2, w3, h0, hm, matchZ]); refine Imp.auto (by kernel_rfl) ?_ ?_ <;> simp [NLe, h1', h3', h4, h5, hq, h6, h7, h8, hx, w1, w2, w3, h0, hm, matchZ])
      · skip
        by_cases h1 : a1 ≠ 0
        · unfold m36
          repeat' with_reducible (first
            | refine ZR.h ?_ | refine zI (by decide) ?_
            | ((first | refine zK hE ?_ | refine zL hE mixT ?_); intro K hK; simp [KR.ks, KD.ks, KD.cl, q36_0, q36_1, q36_2, q36_3, q36_4, q36_5, q36_6, q36_7, q36_8, q36_9, q36_10, q36_11, h1, h0, hm, matchZ]; (repeat' (first | refine hK _ _ ?_ | refine And.intro ?_ ?_ | (intro hc; try subst hc))) <;> (try clear hK K))
            | (refine zJ (b := _) (by with_unfolding_all rfl) (fun hc => ?_) (fun hc => ?_) <;> simp at hc <;> (try subst hc)))
          all_goals first | (simp; done) | (simp at *; omega) | ((try simp[h1, h0, hm, matchZ]); refine Imp.auto (by kernel_rfl) ?_ ?_ <;> simp [NLe, h1, h0, hm, matchZ])
        · have h1' : a1 = 0 := by omega
          by_cases h2 : b1 ≠ 1
          · unfold m36
            repeat' with_reducible (first
              | refine ZR.h ?_ | refine zI (by decide) ?_
              | ((first | refine zK hE ?_ | refine zL hE mixT ?_); intro K hK; simp [KR.ks, KD.ks, KD.cl, q36_0, q36_1, q36_2, q36_3, q36_4, q36_5, q36_6, q36_7, q36_8, q36_9, q36_10, q36_11, h1', h2, h0, hm, matchZ]; (repeat' (first | refine hK _ _ ?_ | refine And.intro ?_ ?_ | (intro hc; try subst hc))) <;> (try clear hK K))
              | (refine zJ (b := _) (by with_unfolding_all rfl) (fun hc => ?_) (fun hc => ?_) <;> simp at hc <;> (try subst hc)))
            all_goals first | (simp; done) | (simp at *; omega) | ((try simp[h1', h2, h0, hm, matchZ]); refine Imp.auto (by kernel_rfl) ?_ ?_ <;> simp [NLe, h1', h2, h0, hm, matchZ])
          · have h2' : b1 = 1 := by omega
            by_cases h3 : a0 ≠ b0
            · have hne : ¬ b0 = a0 := fun h => h3 h.symm
              unfold m36
              repeat' with_reducible (first
                | refine ZR.h ?_ | refine zI (by decide) ?_
                | ((first | refine zK hE ?_ | refine zL hE mixT ?_); intro K hK; simp [KR.ks, KD.ks, KD.cl, q36_0, q36_1, q36_2, q36_3, q36_4, q36_5, q36_6, q36_7, q36_8, q36_9, q36_10, q36_11, h1', h2', h3, hne, h0, hm, matchZ]; (repeat' (first | refine hK _ _ ?_ | refine And.intro ?_ ?_ | (intro hc; try subst hc))) <;> (try clear hK K))
                | (refine zJ (b := _) (by with_unfolding_all rfl) (fun hc => ?_) (fun hc => ?_) <;> simp at hc <;> (try subst hc)))
              all_goals first | (simp; done) | (simp at *; omega) | ((try simp[h1', h2', h3, hne, h0, hm, matchZ]); refine Imp.auto (by kernel_rfl) ?_ ?_ <;> simp [NLe, h1', h2', h3, hne, h0, hm, matchZ])
            · have h3' : a0 = b0 := by omega
              by_cases h4 : a2 < b2
              · unfold m36
                repeat' with_reducible (first
                  | refine ZR.h ?_ | refine zI (by decide) ?_
                  | ((first | refine zK hE ?_ | refine zL hE mixT ?_); intro K hK; simp [KR.ks, KD.ks, KD.cl, q36_0, q36_1, q36_2, q36_3, q36_4, q36_5, q36_6, q36_7, q36_8, q36_9, q36_10, q36_11, h1', h2', h3', h4, h0, hm, matchZ]; (repeat' (first | refine hK _ _ ?_ | refine And.intro ?_ ?_ | (intro hc; try subst hc))) <;> (try clear hK K))
                  | (refine zJ (b := _) (by with_unfolding_all rfl) (fun hc => ?_) (fun hc => ?_) <;> simp at hc <;> (try subst hc)))
                all_goals first | (simp; done) | (simp at *; omega) | ((try simp[h1', h2', h3', h4, h0, hm, matchZ]); refine Imp.auto (by kernel_rfl) ?_ ?_ <;> simp [NLe, h1', h2', h3', h4, h0, hm, matchZ])
              · skip
                have hmx : (a3 ≤ mx ∧ b3 ≤ mx) ∧ (mx = a3 ∨ mx = b3) := by rw [← hm]; split <;> omega
                by_cases h5 : o < l
                · skip
                  have hq : (if o < l then o else l) = o := by split <;> omega
                  by_cases h6 : o < 1
                  · unfold m36
                    repeat' with_reducible (first
                      | refine ZR.h ?_ | refine zI (by decide) ?_
                      | ((first | refine zK hE ?_ | refine zL hE mixT ?_); intro K hK; simp [KR.ks, KD.ks, KD.cl, q36_0, q36_1, q36_2, q36_3, q36_4, q36_5, q36_6, q36_7, q36_8, q36_9, q36_10, q36_11, h1', h2', h3', h4, h5, hq, h6, h0, hm, matchZ]; (repeat' (first | refine hK _ _ ?_ | refine And.intro ?_ ?_ | (intro hc; try subst hc))) <;> (try clear hK K))
                      | (refine zJ (b := _) (by with_unfolding_all rfl) (fun hc => ?_) (fun hc => ?_) <;> simp at hc <;> (try subst hc)))
                    all_goals first | (simp; done) | (simp at *; omega) | ((try simp[h1', h2', h3', h4, h5, hq, h6, h0, hm, matchZ]); refine Imp.auto (by kernel_rfl) ?_ ?_ <;> simp [NLe, h1', h2', h3', h4, h5, hq, h6, h0, hm, matchZ])
                  · skip
                    by_cases h7 : o < a3
                    · have hx : o < mx := by omega
                      unfold m36
                      repeat' with_reducible (first
                        | refine ZR.h ?_ | refine zI (by decide) ?_
                        | ((first | refine zK hE ?_ | refine zL hE mixT ?_); intro K hK; simp [KR.ks, KD.ks, KD.cl, q36_0, q36_1, q36_2, q36_3, q36_4, q36_5, q36_6, q36_7, q36_8, q36_9, q36_10, q36_11, h1', h2', h3', h4, h5, hq, h6, h7, hx, h0, hm, matchZ]; (repeat' (first | refine hK _ _ ?_ | refine And.intro ?_ ?_ | (intro hc; try subst hc))) <;> (try clear hK K))
                        | (refine zJ (b := _) (by with_unfolding_all rfl) (fun hc => ?_) (fun hc => ?_) <;> simp at hc <;> (try subst hc)))
                      all_goals first | (simp; done) | (simp at *; omega) | ((try simp[h1', h2', h3', h4, h5, hq, h6, h7, hx, h0, hm, matchZ]); refine Imp.auto (by kernel_rfl) ?_ ?_ <;> simp [NLe, h1', h2', h3', h4, h5, hq, h6, h7, hx, h0, hm, matchZ])
                    · skip
                      by_cases h8 : o < b3
                      · have hx : o < mx := by omega
                        unfold m36
                        repeat' with_reducible (first
                          | refine ZR.h ?_ | refine zI (by decide) ?_
                          | ((first | refine zK hE ?_ | refine zL hE mixT ?_); intro K hK; simp [KR.ks, KD.ks, KD.cl, q36_0, q36_1, q36_2, q36_3, q36_4, q36_5, q36_6, q36_7, q36_8, q36_9, q36_10, q36_11, h1', h2', h3', h4, h5, hq, h6, h7, h8, hx, h0, hm, matchZ]; (repeat' (first | refine hK _ _ ?_ | refine And.intro ?_ ?_ | (intro hc; try subst hc))) <;> (try clear hK K))
                          | (refine zJ (b := _) (by with_unfolding_all rfl) (fun hc => ?_) (fun hc => ?_) <;> simp at hc <;> (try subst hc)))
                        all_goals first | (simp; done) | (simp at *; omega) | ((try simp[h1', h2', h3', h4, h5, hq, h6, h7, h8, hx, h0, hm, matchZ]); refine Imp.auto (by kernel_rfl) ?_ ?_ <;> simp [NLe, h1', h2', h3', h4, h5, hq, h6, h7, h8, hx, h0, hm, matchZ])
                      · have hx : ¬ o < mx := by omega
                        have w1 : IntKind.wrap .i64 (a2 + b2) = a2 + b2 := wrap_in (by omega) (by omega)
                        have w2 : IntKind.wrap .i64 ((a2 + b2).tdiv 2) = (a2 + b2) / 2 := tdiv_in (by omega) (by omega) (by omega)
                        have w3 : b2 + (a2 - b2) / 2 = (a2 + b2) / 2 := by omega
                        unfold m36
                        repeat' with_reducible (first
                          | refine ZR.h ?_ | refine zI (by decide) ?_
                          | ((first | refine zK hE ?_ | refine zL hE mixT ?_); intro K hK; simp [KR.ks, KD.ks, KD.cl, q36_0, q36_1, q36_2, q36_3, q36_4, q36_5, q36_6, q36_7, q36_8, q36_9, q36_10, q36_11, h1', h2', h3', h4, h5, hq, h6, h7, h8, hx, w1, w2, w3, h0, hm, matchZ]; (repeat' (first | refine hK _ _ ?_ | refine And.intro ?_ ?_ | (intro hc; try subst hc))) <;> (try clear hK K))
                          | (refine zJ (b := _) (by with_unfolding_all rfl) (fun hc => ?_) (fun hc => ?_) <;> simp at hc <;> (try subst hc)))
                        all_goals first | (simp; done) | (simp at *; omega) | ((try simp[h1', h2', h3', h4, h5, hq, h6, h7, h8, hx, w1, w2, w3, h0, hm, matchZ]); refine Imp.auto (by kernel_rfl) ?_ ?_ <;> simp [NLe, h1', h2', h3', h4, h5, hq, h6, h7, h8, hx, w1, w2, w3, h0, hm, matchZ])
                · skip
                  have hq : (if o < l then o else l) = l := by split <;> omega
                  by_cases h6 : l < 1
                  · unfold m36
                    repeat' with_reducible (first
                      | refine ZR.h ?_ | refine zI (by decide) ?_
                      | ((first | refine zK hE ?_ | refine zL hE mixT ?_); intro K hK; simp [KR.ks, KD.ks, KD.cl, q36_0, q36_1, q36_2, q36_3, q36_4, q36_5, q36_6, q36_7, q36_8, q36_9, q36_10, q36_11, h1', h2', h3', h4, h5, hq, h6, h0, hm, matchZ]; (repeat' (first | refine hK _ _ ?_ | refine And.intro ?_ ?_ | (intro hc; try subst hc))) <;> (try clear hK K))
                      | (refine zJ (b := _) (by with_unfolding_all rfl) (fun hc => ?_) (fun hc => ?_) <;> simp at hc <;> (try subst hc)))
                    all_goals first | (simp; done) | (simp at *; omega) | ((try simp[h1', h2', h3', h4, h5, hq, h6, h0, hm, matchZ]); refine Imp.auto (by kernel_rfl) ?_ ?_ <;> simp [NLe, h1', h2', h3', h4, h5, hq, h6, h0, hm, matchZ])
                  · skip
                    by_cases h7 : l < a3
                    · have hx : l < mx := by omega
                      unfold m36
                      repeat' with_reducible (first
                        | refine ZR.h ?_ | refine zI (by decide) ?_
                        | ((first | refine zK hE ?_ | refine zL hE mixT ?_); intro K hK; simp [KR.ks, KD.ks, KD.cl, q36_0, q36_1, q36_2, q36_3, q36_4, q36_5, q36_6, q36_7, q36_8, q36_9, q36_10, q36_11, h1', h2', h3', h4, h5, hq, h6, h7, hx, h0, hm, matchZ]; (repeat' (first | refine hK _ _ ?_ | refine And.intro ?_ ?_ | (intro hc; try subst hc))) <;> (try clear hK K))
                        | (refine zJ (b := _) (by with_unfolding_all rfl) (fun hc => ?_) (fun hc => ?_) <;> simp at hc <;> (try subst hc)))
                      all_goals first | (simp; done) | (simp at *; omega) | ((try simp[h1', h2', h3', h4, h5, hq, h6, h7, hx, h0, hm, matchZ]); refine Imp.auto (by kernel_rfl) ?_ ?_ <;> simp [NLe, h1', h2', h3', h4, h5, hq, h6, h7, hx, h0, hm, matchZ])
                    · skip
                      by_cases h8 : l < b3
                      · have hx : l < mx := by omega
                        unfold m36
                        repeat' with_reducible (first
                          | refine ZR.h ?_ | refine zI (by decide) ?_
                          | ((first | refine zK hE ?_ | refine zL hE mixT ?_); intro K hK; simp [KR.ks, KD.ks, KD.cl, q36_0, q36_1, q36_2, q36_3, q36_4, q36_5, q36_6, q36_7, q36_8, q36_9, q36_10, q36_11, h1', h2', h3', h4, h5, hq, h6, h7, h8, hx, h0, hm, matchZ]; (repeat' (first | refine hK _ _ ?_ | refine And.intro ?_ ?_ | (intro hc; try subst hc))) <;> (try clear hK K))
                          | (refine zJ (b := _) (by with_unfolding_all rfl) (fun hc => ?_) (fun hc => ?_) <;> simp at hc <;> (try subst hc)))
                        all_goals first | (simp; done) | (simp at *; omega) | ((try simp[h1', h2', h3', h4, h5, hq, h6, h7, h8, hx, h0, hm, matchZ]); refine Imp.auto (by kernel_rfl) ?_ ?_ <;> simp [NLe, h1', h2', h3', h4, h5, hq, h6, h7, h8, hx, h0, hm, matchZ])
                      · have hx : ¬ l < mx := by omega
                        have w1 : IntKind.wrap .i64 (a2 + b2) = a2 + b2 := wrap_in (by omega) (by omega)
                        have w2 : IntKind.wrap .i64 ((a2 + b2).tdiv 2) = (a2 + b2) / 2 := tdiv_in (by omega) (by omega) (by omega)
                        have w3 : b2 + (a2 - b2) / 2 = (a2 + b2) / 2 := by omega
                        unfold m36
                        repeat' with_reducible (first
                          | refine ZR.h ?_ | refine zI (by decide) ?_
                          | ((first | refine zK hE ?_ | refine zL hE mixT ?_); intro K hK; simp [KR.ks, KD.ks, KD.cl, q36_0, q36_1, q36_2, q36_3, q36_4, q36_5, q36_6, q36_7, q36_8, q36_9, q36_10, q36_11, h1', h2', h3', h4, h5, hq, h6, h7, h8, hx, w1, w2, w3, h0, hm, matchZ]; (repeat' (first | refine hK _ _ ?_ | refine And.intro ?_ ?_ | (intro hc; try subst hc))) <;> (try clear hK K))
                          | (refine zJ (b := _) (by with_unfolding_all rfl) (fun hc => ?_) (fun hc => ?_) <;> simp at hc <;> (try subst hc)))
                        all_goals first | (simp; done) | (simp at *; omega) | ((try simp[h1', h2', h3', h4, h5, hq, h6, h7, h8, hx, w1, w2, w3, h0, hm, matchZ]); refine Imp.auto (by kernel_rfl) ?_ ?_ <;> simp [NLe, h1', h2', h3', h4, h5, hq, h6, h7, h8, hx, w1, w2, w3, h0, hm, matchZ])
    · cases h
  · cases h
end Go.W
