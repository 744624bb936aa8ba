/- A part of the proof (PsH, PsI). -/
import Derived.Test.YtfkdcpgphindiaaPsG
namespace Go.W
open Go.Proofs
set_option linter.unusedSimpArgs false
set_option linter.unusedVariables false
set_option maxHeartbeats 8000000
attribute [local irreducible] Wm
attribute [local simp] nmap lkp mkPl prs prsL prT ddL idL CRenL CRen Ren RenL NObj.none CRenLL

def wordS (s : StZ) : Option Int := if 8 < s.k then none else packK [[.int .i64 4], [.int .i64 1], [.int .i64 8], [.int .i64 16], [.int .i64 8]] [[.int .i64 s.k], [.int .i64 (if s.fl = true then 1 else 0)], [.int .i64 s.g], [.int .i64 s.l], [.int .i64 s.f]] 5
def recW (r : RcZ) : Option Int := if 5 < r.k then none else packK [[.int .i64 3], [.int .i64 16], [.int .i64 16], [.int .i64 20], [.int .i64 5], [.int .i64 4]] [[.int .i64 r.k], [.int .i64 r.q], [.int .i64 r.p], [.int .i64 r.t], [.int .i64 r.c], [.int .i64 r.g]] 6
def endS (s : StZ) (t : Int) : RcZ × Bool := if s.k = 5 then (⟨2, s.l, s.f, t, 0, 0⟩, true) else if s.k = 6 then (⟨3, s.l, s.f, t, 0, 0⟩, true) else if s.k = 7 then (⟨4, s.l, s.f, t, 0, 0⟩, true) else if s.k = 8 then (⟨5, s.l, s.f, t, 0, 0⟩, true) else (⟨0, 0, 0, 0, 0, 0⟩, false)

def d59 : List AV → List NObj → Option AV
  | [.int .i64 a, .int .i64 b], [] => if a ≤ b then some (.int .i64 0) else none
  | _, _ => none

theorem ok59 : ROk d59 := by
  intro xs os r h
  unfold d59 at h
  (repeat' (split at h)) <;> first | (cases h; done) | (injection h with h; subst h; simp)
theorem s59 : Sound Try.prog 59 (rdS d59 ok59) := by
  refine rd_sound Try.func59 nm59 rc59 rv59 ok59 fun xs os r h vs ρ0 hvs => ⟨xs, ?_, fun _ h => h, fun w0 S hS => ?_⟩
  · unfold d59 at h
    (repeat' (split at h)) <;> first | (cases h; done) | exact Nat.le_of_ble_eq_true rfl
  unfold d59 at h
  split at h
  · split at h
    · rename_i a b hcond
      injection h with h
      subst h
      have hE : SoundAll Try.prog (EL []) := EL_sound (by simp)
      have h1 : ¬ b < a := by omega
      unfold m59
      repeat' with_reducible (first
        | refine ZR.h ?_ | refine zI (by decide) ?_
        | (refine zK hE ?_; intro K hK; simp [KR.ks, q59_0, q59_1, q59_2, q59_3, h1]; (repeat' (first | refine hK _ _ ?_ | refine And.intro ?_ ?_ | (intro hc; try subst hc))) <;> (try clear hK K))
        | (refine zJ (b := _) (by with_unfolding_all rfl) (fun hc => ?_) (fun hc => ?_) <;> simp at hc <;> (try subst hc)))
      all_goals first | (simp; done) | (simp at *; omega) | ((try simp); refine Imp.auto (by kernel_rfl) ?_ ?_ <;> simp [NLe])
    · cases h
  · cases h

def d47 : List AV → List NObj → Option AV
  | [.int .i64 a, .int .i64 b], [] => if 0 ≤ a ∧ a ≤ b ∧ b ≤ 1000000 then some (.int .i64 (a + (b - a) / 2)) else none
  | _, _ => none

theorem ok47 : ROk d47 := by
  intro xs os r h
  unfold d47 at h
  (repeat' (split at h)) <;> first | (cases h; done) | (injection h with h; subst h; simp)
theorem s47 : Sound Try.prog 47 (rdS d47 ok47) := by
  refine rd_sound Try.func47 nm47 rc47 rv47 ok47 fun xs os r h vs ρ0 hvs => ⟨xs, ?_, fun _ h => h, fun w0 S hS => ?_⟩
  · unfold d47 at h
    (repeat' (split at h)) <;> first | (cases h; done) | exact Nat.le_of_ble_eq_true rfl
  unfold d47 at h
  split at h
  · split at h
    · rename_i a b hcond
      injection h with h
      subst h
      have hE : SoundAll Try.prog (EL [(59, rdS d59 ok59)]) := EL_sound (by simp only [List.mem_cons, List.not_mem_nil, or_false, forall_eq_or_imp, forall_eq]; exact s59)
      obtain ⟨h0, h1, h2⟩ := hcond
      have w1 : IntKind.wrap .i64 (b - a) = b - a := wrap_in (by omega) (by omega)
      have w2 : IntKind.wrap .i64 ((b - a).tdiv 2) = (b - a) / 2 := tdiv_in (by omega) (by omega) (by omega)
      have w3 : IntKind.wrap .i64 (a + (b - a) / 2) = a + (b - a) / 2 := wrap_in (by omega) (by omega)
      unfold m47
      repeat' with_reducible (first
        | refine ZR.h ?_ | refine zI (by decide) ?_
        | (refine zK hE ?_; intro K hK; simp [KR.ks, q47_0, q47_1, h1, w1, w2, w3, d59]; (repeat' (first | refine hK _ _ ?_ | refine And.intro ?_ ?_ | (intro hc; try subst hc))) <;> (try clear hK K))
        | (refine zJ (b := _) (by with_unfolding_all rfl) (fun hc => ?_) (fun hc => ?_) <;> simp at hc <;> (try subst hc)))
      all_goals first | (simp; done) | (simp at *; omega) | ((try simp); refine Imp.auto (by kernel_rfl) ?_ ?_ <;> simp [NLe])
    · cases h
  · cases h

/-- What two orders come to. -/
def matchZ (a b : TmZ) (l o : Int) : Int × Int :=
  if (if a.sd = 1 then b.sd else a.sd) ≠ 0 then (0, 0) else if (if a.sd = 1 then a.sd else b.sd) ≠ 1 then (0, 0) else if a.nm ≠ b.nm then (0, 0)
  else if (if a.sd = 1 then b.pr else a.pr) < (if a.sd = 1 then a.pr else b.pr) then (0, 0)
  else if (if o < l then o else l) < 1 then (0, 0) else if (if o < l then o else l) < (if a.le < b.le then b.le else a.le) then (0, 0)
  else (if o < l then o else l, (if a.sd = 1 then a.pr else b.pr) + ((if a.sd = 1 then b.pr else a.pr) - (if a.sd = 1 then a.pr else b.pr)) / 2)

def d34 : List AV → List NObj → Option AV
  | [.agg [.int .i64 a0, .int .i64 a1, .int .i64 a2, .int .i64 a3, .int .i64 a4], .agg [.int .i64 b0, .int .i64 b1, .int .i64 b2, .int .i64 b3, .int .i64 b4], .int .i64 l, .int .i64 o], [] => if 0 ≤ a2 ∧ a2 ≤ 1000000 ∧ 0 ≤ b2 ∧ b2 ≤ 1000000 then some (.agg [.int .i64 (matchZ ⟨a0, a1, a2, a3, a4⟩ ⟨b0, b1, b2, b3, b4⟩ l o).1, .int .i64 (matchZ ⟨a0, a1, a2, a3, a4⟩ ⟨b0, b1, b2, b3, b4⟩ l o).2]) else none
  | _, _ => none

theorem ok34 : ROk d34 := by
  intro xs os r h
  unfold d34 at h
  (repeat' (split at h)) <;> first | (cases h; done) | (injection h with h; subst h; simp)
theorem s34 : Sound Try.prog 34 (rdS d34 ok34) := by
  refine rd_sound Try.func34 nm34 rc34 rv34 ok34 fun xs os r h vs ρ0 hvs => ⟨xs, ?_, fun _ h => h, fun w0 S hS => ?_⟩
  · unfold d34 at h
    (repeat' (split at h)) <;> first | (cases h; done) | exact Nat.le_of_ble_eq_true rfl
  unfold d34 at h
  split at h
  · split at h
    · rename_i a0 a1 a2 a3 a4 b0 b1 b2 b3 b4 l o hcond
      injection h with h
      subst h
      have hE : SoundAll Try.prog (EL [(47, rdS d47 ok47)]) := EL_sound (by simp only [List.mem_cons, List.not_mem_nil, or_false, forall_eq_or_imp, forall_eq]; exact s47)
      obtain ⟨hp0, hp1, hp2, hp3⟩ := hcond
      obtain ⟨q, hq⟩ : ∃ q, (if o < l then o else l) = q := ⟨_, rfl⟩
      obtain ⟨mx, hm⟩ : ∃ mx, (if a3 < b3 then b3 else a3) = mx := ⟨_, rfl⟩
      by_cases h0 : a1 = 1
      · skip
        by_cases h1 : b1 ≠ 0
        · unfold m34
          repeat' with_reducible (first
            | refine ZR.h ?_ | refine zI (by decide) ?_
            | ((first | refine zK hE ?_ | refine zL hE mixT ?_); intro K hK; simp [KR.ks, KD.ks, KD.cl, q34_0, q34_1, q34_2, q34_3, q34_4, q34_5, q34_6, q34_7, q34_8, q34_9, h1, h0, hq, hm, matchZ, d47]; (repeat' (first | refine hK _ _ ?_ | refine And.intro ?_ ?_ | (intro hc; try subst hc))) <;> (try clear hK K))
            | (refine zJ (b := _) (by with_unfolding_all rfl) (fun hc => ?_) (fun hc => ?_) <;> simp at hc <;> (try subst hc)))
          all_goals first | (simp; done) | (simp at *; omega) | ((try simp[h1, h0, hq, hm, matchZ]); refine Imp.auto (by kernel_rfl) ?_ ?_ <;> simp [NLe, h1, h0, hq, hm, matchZ])
        · have h1' : b1 = 0 := by omega
          by_cases h3 : a0 ≠ b0
          · unfold m34
            repeat' with_reducible (first
              | refine ZR.h ?_ | refine zI (by decide) ?_
              | ((first | refine zK hE ?_ | refine zL hE mixT ?_); intro K hK; simp [KR.ks, KD.ks, KD.cl, q34_0, q34_1, q34_2, q34_3, q34_4, q34_5, q34_6, q34_7, q34_8, q34_9, h1', h3, h0, hq, hm, matchZ, d47]; (repeat' (first | refine hK _ _ ?_ | refine And.intro ?_ ?_ | (intro hc; try subst hc))) <;> (try clear hK K))
              | (refine zJ (b := _) (by with_unfolding_all rfl) (fun hc => ?_) (fun hc => ?_) <;> simp at hc <;> (try subst hc)))
            all_goals first | (simp; done) | (simp at *; omega) | ((try simp[h1', h3, h0, hq, hm, matchZ]); refine Imp.auto (by kernel_rfl) ?_ ?_ <;> simp [NLe, h1', h3, h0, hq, hm, matchZ])
          · have h3' : a0 = b0 := by omega
            by_cases h4 : b2 < a2
            · unfold m34
              repeat' with_reducible (first
                | refine ZR.h ?_ | refine zI (by decide) ?_
                | ((first | refine zK hE ?_ | refine zL hE mixT ?_); intro K hK; simp [KR.ks, KD.ks, KD.cl, q34_0, q34_1, q34_2, q34_3, q34_4, q34_5, q34_6, q34_7, q34_8, q34_9, h1', h3', h4, h0, hq, hm, matchZ, d47]; (repeat' (first | refine hK _ _ ?_ | refine And.intro ?_ ?_ | (intro hc; try subst hc))) <;> (try clear hK K))
                | (refine zJ (b := _) (by with_unfolding_all rfl) (fun hc => ?_) (fun hc => ?_) <;> simp at hc <;> (try subst hc)))
              all_goals first | (simp; done) | (simp at *; omega) | ((try simp[h1', h3', h4, h0, hq, hm, matchZ]); refine Imp.auto (by kernel_rfl) ?_ ?_ <;> simp [NLe, h1', h3', h4, h0, hq, hm, matchZ])
            · by_cases h5 : q < 1
              · unfold m34
                repeat' with_reducible (first
                  | refine ZR.h ?_ | refine zI (by decide) ?_
                  | ((first | refine zK hE ?_ | refine zL hE mixT ?_); intro K hK; simp [KR.ks, KD.ks, KD.cl, q34_0, q34_1, q34_2, q34_3, q34_4, q34_5, q34_6, q34_7, q34_8, q34_9, h1', h3', h4, h5, h0, hq, hm, matchZ, d47]; (repeat' (first | refine hK _ _ ?_ | refine And.intro ?_ ?_ | (intro hc; try subst hc))) <;> (try clear hK K))
                  | (refine zJ (b := _) (by with_unfolding_all rfl) (fun hc => ?_) (fun hc => ?_) <;> simp at hc <;> (try subst hc)))
                all_goals first | (simp; done) | (simp at *; omega) | ((try simp[h1', h3', h4, h5, h0, hq, hm, matchZ]); refine Imp.auto (by kernel_rfl) ?_ ?_ <;> simp [NLe, h1', h3', h4, h5, h0, hq, hm, matchZ])
              · by_cases h6 : q < mx
                · unfold m34
                  repeat' with_reducible (first
                    | refine ZR.h ?_ | refine zI (by decide) ?_
                    | ((first | refine zK hE ?_ | refine zL hE mixT ?_); intro K hK; simp [KR.ks, KD.ks, KD.cl, q34_0, q34_1, q34_2, q34_3, q34_4, q34_5, q34_6, q34_7, q34_8, q34_9, h1', h3', h4, h5, h6, h0, hq, hm, matchZ, d47]; (repeat' (first | refine hK _ _ ?_ | refine And.intro ?_ ?_ | (intro hc; try subst hc))) <;> (try clear hK K))
                    | (refine zJ (b := _) (by with_unfolding_all rfl) (fun hc => ?_) (fun hc => ?_) <;> simp at hc <;> (try subst hc)))
                  all_goals first | (simp; done) | (simp at *; omega) | ((try simp[h1', h3', h4, h5, h6, h0, hq, hm, matchZ]); refine Imp.auto (by kernel_rfl) ?_ ?_ <;> simp [NLe, h1', h3', h4, h5, h6, h0, hq, hm, matchZ])
                · have hr1 : 0 ≤ a2 ∧ a2 ≤ b2 ∧ b2 ≤ 1000000 := by omega
                  have hr2 : a2 ≤ b2 := by omega
                  unfold m34
                  repeat' with_reducible (first
                    | refine ZR.h ?_ | refine zI (by decide) ?_
                    | ((first | refine zK hE ?_ | refine zL hE mixT ?_); intro K hK; simp [KR.ks, KD.ks, KD.cl, q34_0, q34_1, q34_2, q34_3, q34_4, q34_5, q34_6, q34_7, q34_8, q34_9, h1', h3', h4, h5, h6, h0, hq, hm, matchZ, hr1, hr2, d47]; (repeat' (first | refine hK _ _ ?_ | refine And.intro ?_ ?_ | (intro hc; try subst hc))) <;> (try clear hK K))
                    | (refine zJ (b := _) (by with_unfolding_all rfl) (fun hc => ?_) (fun hc => ?_) <;> simp at hc <;> (try subst hc)))
                  all_goals first | (simp; done) | (simp at *; omega) | ((try simp[h1', h3', h4, h5, h6, h0, hq, hm, matchZ, hr1, hr2]); refine Imp.auto (by kernel_rfl) ?_ ?_ <;> simp [NLe, h1', h3', h4, h5, h6, h0, hq, hm, matchZ, hr1, hr2])
      · skip
        by_cases h1 : a1 ≠ 0
        · unfold m34
          repeat' with_reducible (first
            | refine ZR.h ?_ | refine zI (by decide) ?_
            | ((first | refine zK hE ?_ | refine zL hE mixT ?_); intro K hK; simp [KR.ks, KD.ks, KD.cl, q34_0, q34_1, q34_2, q34_3, q34_4, q34_5, q34_6, q34_7, q34_8, q34_9, h1, h0, hq, hm, matchZ, d47]; (repeat' (first | refine hK _ _ ?_ | refine And.intro ?_ ?_ | (intro hc; try subst hc))) <;> (try clear hK K))
            | (refine zJ (b := _) (by with_unfolding_all rfl) (fun hc => ?_) (fun hc => ?_) <;> simp at hc <;> (try subst hc)))
          all_goals first | (simp; done) | (simp at *; omega) | ((try simp[h1, h0, hq, hm, matchZ]); refine Imp.auto (by kernel_rfl) ?_ ?_ <;> simp [NLe, h1, h0, hq, hm, matchZ])
        · have h1' : a1 = 0 := by omega
          by_cases h2 : b1 ≠ 1
          · unfold m34
            repeat' with_reducible (first
              | refine ZR.h ?_ | refine zI (by decide) ?_
              | ((first | refine zK hE ?_ | refine zL hE mixT ?_); intro K hK; simp [KR.ks, KD.ks, KD.cl, q34_0, q34_1, q34_2, q34_3, q34_4, q34_5, q34_6, q34_7, q34_8, q34_9, h1', h2, h0, hq, hm, matchZ, d47]; (repeat' (first | refine hK _ _ ?_ | refine And.intro ?_ ?_ | (intro hc; try subst hc))) <;> (try clear hK K))
              | (refine zJ (b := _) (by with_unfolding_all rfl) (fun hc => ?_) (fun hc => ?_) <;> simp at hc <;> (try subst hc)))
            all_goals first | (simp; done) | (simp at *; omega) | ((try simp[h1', h2, h0, hq, hm, matchZ]); refine Imp.auto (by kernel_rfl) ?_ ?_ <;> simp [NLe, h1', h2, h0, hq, hm, matchZ])
          · have h2' : b1 = 1 := by omega
            by_cases h3 : a0 ≠ b0
            · unfold m34
              repeat' with_reducible (first
                | refine ZR.h ?_ | refine zI (by decide) ?_
                | ((first | refine zK hE ?_ | refine zL hE mixT ?_); intro K hK; simp [KR.ks, KD.ks, KD.cl, q34_0, q34_1, q34_2, q34_3, q34_4, q34_5, q34_6, q34_7, q34_8, q34_9, h1', h2', h3, h0, hq, hm, matchZ, d47]; (repeat' (first | refine hK _ _ ?_ | refine And.intro ?_ ?_ | (intro hc; try subst hc))) <;> (try clear hK K))
                | (refine zJ (b := _) (by with_unfolding_all rfl) (fun hc => ?_) (fun hc => ?_) <;> simp at hc <;> (try subst hc)))
              all_goals first | (simp; done) | (simp at *; omega) | ((try simp[h1', h2', h3, h0, hq, hm, matchZ]); refine Imp.auto (by kernel_rfl) ?_ ?_ <;> simp [NLe, h1', h2', h3, h0, hq, hm, matchZ])
            · have h3' : a0 = b0 := by omega
              by_cases h4 : a2 < b2
              · unfold m34
                repeat' with_reducible (first
                  | refine ZR.h ?_ | refine zI (by decide) ?_
                  | ((first | refine zK hE ?_ | refine zL hE mixT ?_); intro K hK; simp [KR.ks, KD.ks, KD.cl, q34_0, q34_1, q34_2, q34_3, q34_4, q34_5, q34_6, q34_7, q34_8, q34_9, h1', h2', h3', h4, h0, hq, hm, matchZ, d47]; (repeat' (first | refine hK _ _ ?_ | refine And.intro ?_ ?_ | (intro hc; try subst hc))) <;> (try clear hK K))
                  | (refine zJ (b := _) (by with_unfolding_all rfl) (fun hc => ?_) (fun hc => ?_) <;> simp at hc <;> (try subst hc)))
                all_goals first | (simp; done) | (simp at *; omega) | ((try simp[h1', h2', h3', h4, h0, hq, hm, matchZ]); refine Imp.auto (by kernel_rfl) ?_ ?_ <;> simp [NLe, h1', h2', h3', h4, h0, hq, hm, matchZ])
              · by_cases h5 : q < 1
                · unfold m34
                  repeat' with_reducible (first
                    | refine ZR.h ?_ | refine zI (by decide) ?_
                    | ((first | refine zK hE ?_ | refine zL hE mixT ?_); intro K hK; simp [KR.ks, KD.ks, KD.cl, q34_0, q34_1, q34_2, q34_3, q34_4, q34_5, q34_6, q34_7, q34_8, q34_9, h1', h2', h3', h4, h5, h0, hq, hm, matchZ, d47]; (repeat' (first | refine hK _ _ ?_ | refine And.intro ?_ ?_ | (intro hc; try subst hc))) <;> (try clear hK K))
                    | (refine zJ (b := _) (by with_unfolding_all rfl) (fun hc => ?_) (fun hc => ?_) <;> simp at hc <;> (try subst hc)))
                  all_goals first | (simp; done) | (simp at *; omega) | ((try simp[h1', h2', h3', h4, h5, h0, hq, hm, matchZ]); refine Imp.auto (by kernel_rfl) ?_ ?_ <;> simp [NLe, h1', h2', h3', h4, h5, h0, hq, hm, matchZ])
                · by_cases h6 : q < mx
                  · unfold m34
                    repeat' with_reducible (first
                      | refine ZR.h ?_ | refine zI (by decide) ?_
                      | ((first | refine zK hE ?_ | refine zL hE mixT ?_); intro K hK; simp [KR.ks, KD.ks, KD.cl, q34_0, q34_1, q34_2, q34_3, q34_4, q34_5, q34_6, q34_7, q34_8, q34_9, h1', h2', h3', h4, h5, h6, h0, hq, hm, matchZ, d47]; (repeat' (first | refine hK _ _ ?_ | refine And.intro ?_ ?_ | (intro hc; try subst hc))) <;> (try clear hK K))
                      | (refine zJ (b := _) (by with_unfolding_all rfl) (fun hc => ?_) (fun hc => ?_) <;> simp at hc <;> (try subst hc)))
                    all_goals first | (simp; done) | (simp at *; omega) | ((try simp[h1', h2', h3', h4, h5, h6, h0, hq, hm, matchZ]); refine Imp.auto (by kernel_rfl) ?_ ?_ <;> simp [NLe, h1', h2', h3', h4, h5, h6, h0, hq, hm, matchZ])
                  · have hr1 : 0 ≤ b2 ∧ b2 ≤ a2 ∧ a2 ≤ 1000000 := by omega
                    have hr2 : b2 ≤ a2 := by omega
                    unfold m34
                    repeat' with_reducible (first
                      | refine ZR.h ?_ | refine zI (by decide) ?_
                      | ((first | refine zK hE ?_ | refine zL hE mixT ?_); intro K hK; simp [KR.ks, KD.ks, KD.cl, q34_0, q34_1, q34_2, q34_3, q34_4, q34_5, q34_6, q34_7, q34_8, q34_9, h1', h2', h3', h4, h5, h6, h0, hq, hm, matchZ, hr1, hr2, d47]; (repeat' (first | refine hK _ _ ?_ | refine And.intro ?_ ?_ | (intro hc; try subst hc))) <;> (try clear hK K))
                      | (refine zJ (b := _) (by with_unfolding_all rfl) (fun hc => ?_) (fun hc => ?_) <;> simp at hc <;> (try subst hc)))
                    all_goals first | (simp; done) | (simp at *; omega) | ((try simp[h1', h2', h3', h4, h5, h6, h0, hq, hm, matchZ, hr1, hr2]); refine Imp.auto (by kernel_rfl) ?_ ?_ <;> simp [NLe, h1', h2', h3', h4, h5, h6, h0, hq, hm, matchZ, hr1, hr2])
    · cases h
  · cases h
end Go.W
namespace Go.W
open Go.Proofs
set_option linter.unusedSimpArgs false
set_option linter.unusedVariables false
set_option maxHeartbeats 8000000
attribute [local irreducible] Wm
attribute [local simp] nmap lkp mkPl prs prsL prT ddL idL CRenL CRen Ren RenL NObj.none CRenLL

def d26 : List AV → List NObj → Option AV
  | [.str _, .iface _ _], [] => some (.iface 96 .bot)
  | _, _ => none

theorem ok26 : ROk d26 := by
  intro xs os r h
  unfold d26 at h
  (repeat' (split at h)) <;> first | (cases h; done) | (injection h with h; subst h; simp)
theorem s26 : Sound Try.prog 26 (rdS d26 ok26) := by
  refine rd_sound Try.func26 nm26 rc26 rv26 ok26 fun xs os r h vs ρ0 hvs => ⟨xs, ?_, fun _ h => h, fun w0 S hS => ?_⟩
  · unfold d26 at h
    (repeat' (split at h)) <;> first | (cases h; done) | exact Nat.le_of_ble_eq_true rfl
  unfold d26 at h
  split at h
  · skip
    injection h with h
    subst h
    have hE : SoundAll Try.prog (EL []) := EL_sound (by simp)
    unfold m26
    repeat' with_reducible (first
      | refine ZR.h ?_ | refine zI (by decide) ?_
      | (refine zK hE ?_; intro K hK; simp [KR.ks, q26_0, q26_1, q26_2, q26_3]; (repeat' (first | refine hK _ _ ?_ | refine And.intro ?_ ?_ | (intro hc; try subst hc))) <;> (try clear hK K))
      | (refine zJ (b := _) (by with_unfolding_all rfl) (fun hc => ?_) (fun hc => ?_) <;> simp at hc <;> (try subst hc)))
    all_goals first | (simp; done) | (simp at *; omega) | ((try simp); refine Imp.auto (by kernel_rfl) ?_ ?_ <;> simp [NLe])
  · cases h

def d24 : List AV → Option Ans
  | [.agg [.int .i64 a, .int .i64 b, .int .i64 c, .int .i64 d, .int .i64 e, .int .i64 f, .int .i64 g]] => some ⟨.os 0 4 [[(.str (ByteArray.mk #[112, 97, 114, 116, 115])), .int .i64 a, .int .i64 1, .int .i64 6], [(.str (ByteArray.mk #[99, 101, 108, 108, 115])), .int .i64 b, .int .i64 1, .int .i64 4], [(.str (ByteArray.mk #[110, 97, 109, 101, 115])), .int .i64 c, .int .i64 1, .int .i64 3], [(.str (ByteArray.mk #[98, 97, 110, 100, 115])), .int .i64 d, .int .i64 1, .int .i64 4], [(.str (ByteArray.mk #[112, 114, 111, 98, 101, 115])), .int .i64 e, .int .i64 0, .int .i64 4], [(.str (ByteArray.mk #[102, 105, 108, 108, 115])), .int .i64 f, .int .i64 1, .int .i64 4], [(.str (ByteArray.mk #[103, 101, 110, 115])), .int .i64 g, .int .i64 1, .int .i64 15]], []⟩
  | _ => none

theorem ok24 : NOk [] d24 := by
  intro xs a h
  unfold d24 at h
  (repeat' (split at h)) <;> first | (cases h; done) | (injection h with h; subst h; refine ⟨Ends_of ?_, ?_⟩ <;> simp)
theorem s24 : Sound Try.prog 24 (nestS [] d24 ok24) := by
  refine nest_sound Try.func24 nm24 rc24 rv24 ok24 (fun xs a h => ?_) fun xs a h w0 S hS => ?_
  · unfold d24 at h
    (repeat' (split at h)) <;> first | (cases h; done) | exact Nat.le_of_ble_eq_true rfl
  unfold d24 at h
  split at h
  · rename_i a b c d e f g
    injection h with h
    subst h
    have hE : SoundAll Try.prog (EL []) := EL_sound (by simp)
    unfold m24
    repeat' with_reducible (first
      | refine ZR.h ?_ | refine zI (by decide) ?_
      | (refine zK hE ?_; intro K hK; simp [KR.ks, q24_0, q24_1]; (repeat' (first | refine hK _ _ ?_ | refine And.intro ?_ ?_ | (intro hc; try subst hc))) <;> (try clear hK K))
      | (refine zJ (b := _) (by with_unfolding_all rfl) (fun hc => ?_) (fun hc => ?_) <;> simp at hc <;> (try subst hc)))
    all_goals first | (simp; done) | (simp at *; omega) | ((try simp); refine Imp.auto (by kernel_rfl) ?_ ?_ <;> simp [NLe])
  · cases h

/-- The first number of a configuration that may not be; -1: none. -/
def checkZ (a b c d e f g : Int) : Int :=
  if a < 1 ∨ 6 < a then 0 else if b < 1 ∨ 4 < b then 1 else if c < 1 ∨ 3 < c then 2 else if d < 1 ∨ 4 < d then 3 else if e < 0 ∨ 4 < e then 4 else if f < 1 ∨ 4 < f then 5 else if g < 1 ∨ 15 < g then 6 else -1

theorem check_cfg (a b c d e f g : Int) : (checkZ a b c d e f g = -1) = (cfgB a b c d e f g = true) := by
  unfold checkZ cfgB
  rw [decide_eq_true_eq]
  apply propext
  repeat' split
  all_goals omega
theorem check_neg (a b c d e f g : Int) : decide (checkZ a b c d e f g < 0) = cfgB a b c d e f g := by
  have h := check_cfg a b c d e f g
  have h2 : checkZ a b c d e f g = -1 ∨ 0 ≤ checkZ a b c d e f g := by
    unfold checkZ
    repeat' split
    all_goals omega
  cases hb : cfgB a b c d e f g
  · rw [hb] at h
    have : ¬ checkZ a b c d e f g = -1 := by rw [h]; simp
    rw [decide_eq_false_iff_not]; omega
  · rw [hb] at h
    have : checkZ a b c d e f g = -1 := by rw [h]
    rw [decide_eq_true_iff]; omega

def d22 : List AV → Option Ans
  | [.agg [.int .i64 a, .int .i64 b, .int .i64 c, .int .i64 d, .int .i64 e, .int .i64 f, .int .i64 g]] => some ⟨.int .i64 (checkZ a b c d e f g), []⟩
  | _ => none

theorem ok22 : NOk [] d22 := by
  intro xs a h
  unfold d22 at h
  (repeat' (split at h)) <;> first | (cases h; done) | (injection h with h; subst h; refine ⟨Ends_of ?_, ?_⟩ <;> simp)
theorem s22 : Sound Try.prog 22 (nestS [] d22 ok22) := by
  refine nest_sound Try.func22 nm22 rc22 rv22 ok22 (fun xs a h => ?_) fun xs a h w0 S hS => ?_
  · unfold d22 at h
    (repeat' (split at h)) <;> first | (cases h; done) | exact Nat.le_of_ble_eq_true rfl
  unfold d22 at h
  split at h
  · rename_i a b c d e f g
    injection h with h
    subst h
    have hE : SoundAll Try.prog (EL []) := EL_sound (by simp)
    unfold m22
    repeat' with_reducible (first
      | refine ZR.h ?_ | refine zI (by decide) ?_
      | ((first | refine zK hE ?_ | refine zL hE mixT ?_); intro K hK; simp [KR.ks, KD.ks, KD.cl, q22_0, q22_1, q22_2, q22_3, q22_4, q22_5, q22_6, q22_7, q22_8, q22_9]; (repeat' (first | refine hK _ _ ?_ | refine And.intro ?_ ?_ | (intro hc; try subst hc))) <;> (try clear hK K))
      | (refine zJ (b := _) (by with_unfolding_all rfl) (fun hc => ?_) (fun hc => ?_) <;> simp at hc <;> (try subst hc)))
    all_goals refine Wm_unroll 8 ?_
    repeat' with_reducible (first
      | refine ZR.h ?_ | refine zI (by decide) ?_
      | ((first | refine zK hE ?_ | refine zL hE mixT ?_); intro K hK; simp [KR.ks, KD.ks, KD.cl, q22_0, q22_1, q22_2, q22_3, q22_4, q22_5, q22_6, q22_7, q22_8, q22_9, wrap_in]; (repeat' (first | refine hK _ _ ?_ | refine And.intro ?_ ?_ | (intro hc; try subst hc))) <;> (try clear hK K))
      | (refine zJ (b := _) (by with_unfolding_all rfl) (fun hc => ?_) (fun hc => ?_) <;> simp at hc <;> (try subst hc)))
    all_goals first | (simp; done) | ((try simp [checkZ]); refine Imp.auto (by kernel_rfl) ?_ ?_ <;> simp [NLe] <;> grind)
  · cases h

def d8 : List AV → Option Ans
  | [.agg [.int .i64 a, .int .i64 b, .int .i64 c, .int .i64 d, .int .i64 e, .int .i64 f, .int .i64 g]] => some ⟨if checkZ a b c d e f g = -1 then .tup [.agg [.int .i64 a, .int .i64 b, .int .i64 c, .int .i64 d, .int .i64 e, .int .i64 f, .int .i64 g], .raw .nilIface] else .tup [.agg [.int .i64 0, .int .i64 0, .int .i64 0, .int .i64 0, .int .i64 0, .int .i64 0, .int .i64 0], .iface 93 .bot], []⟩
  | _ => none

theorem ok8 : NOk [] d8 := by
  intro xs a h
  unfold d8 at h
  split at h
  · injection h with h; subst h
    split <;> refine ⟨Ends_of ?_, ?_⟩ <;> simp
  · cases h
theorem s8 : Sound Try.prog 8 (nestS [] d8 ok8) := by
  refine nest_sound Try.func8 nm8 rc8 rv8 ok8 (fun xs a h => ?_) fun xs a h w0 S hS => ?_
  · unfold d8 at h
    (repeat' (split at h)) <;> first | (cases h; done) | exact Nat.le_of_ble_eq_true rfl
  unfold d8 at h
  split at h
  · rename_i a b c d e f g
    injection h with h
    subst h
    have hE : SoundAll Try.prog (EL [(24, nestS [] d24 ok24), (25, rdS d25 ok25), (26, rdS d26 ok26)]) := EL_sound (by simp only [List.mem_cons, List.not_mem_nil, or_false, forall_eq_or_imp, forall_eq]; exact ⟨s24, s25, s26⟩)
    unfold m8
    repeat' with_reducible (first
      | refine ZR.h ?_ | refine zI (by decide) ?_
      | (refine zK hE ?_; intro K hK; simp [KR.ks, q8_0, q8_1, q8_2, q8_3, q8_4, q8_5, q8_6, q8_7, d24, d25, d26]; (repeat' (first | refine hK _ _ ?_ | refine And.intro ?_ ?_ | (intro hc; try subst hc))) <;> (try clear hK K))
      | (refine zJ (b := _) (by with_unfolding_all rfl) (fun hc => ?_) (fun hc => ?_) <;> simp at hc <;> (try subst hc)))
    all_goals refine Wm_unroll 8 ?_
    repeat' with_reducible (first
      | refine ZR.h ?_ | refine zI (by decide) ?_
      | (refine zK hE ?_; intro K hK; simp [KR.ks, q8_0, q8_1, q8_2, q8_3, q8_4, q8_5, q8_6, q8_7, wrap_in, d24, d25, d26]; (repeat' (first | refine hK _ _ ?_ | refine And.intro ?_ ?_ | (intro hc; try subst hc))) <;> (try clear hK K))
      | (refine zJ (b := _) (by with_unfolding_all rfl) (fun hc => ?_) (fun hc => ?_) <;> simp at hc <;> (try subst hc)))
    all_goals first | (simp; done) | (have hz : checkZ a b c d e f g = -1 := (by simp [checkZ]; omega); simp [hz]; refine Imp.auto (by kernel_rfl) ?_ ?_ <;> simp [NLe]; done) | (have hz : ¬ checkZ a b c d e f g = -1 := (by simp [checkZ]; (repeat' split) <;> omega); simp [hz]; refine Imp.auto (by kernel_rfl) ?_ ?_ <;> simp [NLe])
  · cases h

def chkT (c : Int) (t : TmZ) (q now : Int) : Int := if t.nm < 0 then 22 else if c ≤ t.nm then 22 else if t.sd ≠ 0 ∧ t.sd ≠ 1 then 1 else if q < 1 then 23 else if 9999 < q then 23 else if t.pr < 1 then 24 else if 9999 < t.pr then 24 else if t.le < 1 then 25 else if q < t.le then 25 else if t.un ≤ now then 26 else if 1000000 < t.un then 26 else 0

end Go.W
