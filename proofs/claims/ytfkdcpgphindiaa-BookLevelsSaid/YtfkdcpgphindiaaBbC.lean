/- From one state to another one, with names told ahead. -/
import Derived.Test.YtfkdcpgphindiaaBbN
import Derived.Test.YtfkdcpgphindiaaPqA
import Derived.Test.YtfkdcpgphindiaaLqA
import Derived.Test.YtfkdcpgphindiaaPsG
import Derived.Test.YtfkdcpgphindiaaWkC
namespace Go.W
open Go.Proofs
set_option linter.unusedSimpArgs false
set_option linter.unusedVariables false
set_option maxHeartbeats 8000000
attribute [local irreducible] Wm
attribute [local simp] nmap lkp mkPl prs prsL prT ddL idL CRenL CRen Ren RenL NObj.none CRenLL


def betterZ (s p q : Int) : Bool := if s = 0 then decide (q < p) else decide (p < q)
def d28 : List AV → List NObj → Option AV
  | [.int .i64 s, .int .i64 p, .int .i64 q], [] => some (.bool (betterZ s p q))
  | _, _ => none

theorem ok28 : ROk d28 := by
  intro xs os r h
  unfold d28 at h
  (repeat' (split at h)) <;> first | (cases h; done) | (injection h with h; subst h; simp)
theorem s28 : Sound Try.prog 28 (rdS d28 ok28) := by
  refine rd_sound Try.func28 nm28 rc28 rv28 ok28 fun xs os r h vs ρ0 hvs => ⟨xs, ?_, fun _ h => h, fun w0 S hS => ?_⟩
  · unfold d28 at h
    (repeat' (split at h)) <;> first | (cases h; done) | exact Nat.le_of_ble_eq_true rfl
  unfold d28 at h
  split at h
  · rename_i s p q
    injection h with h
    subst h
    have hE : SoundAll Try.prog (EL []) := EL_sound (by simp)
    by_cases h1 : s = 0
    · by_cases h2 : q < p
      · unfold m28
        repeat' with_reducible (first
          | refine ZR.h ?_ | refine zI (by decide) ?_
          | (refine zK hE ?_; intro K hK; simp [KR.ks, q28_0, q28_1, q28_2, q28_3, betterZ, h1, h2]; (repeat' (first | refine hK _ _ ?_ | refine And.intro ?_ ?_ | (intro hc; try subst hc))) <;> (try clear hK K))
          | (refine zJ (b := _) (by with_unfolding_all rfl) (fun hc => ?_) (fun hc => ?_) <;> simp at hc <;> (try subst hc)))
        all_goals first | (simp; done) | (simp at *; omega) | ((try simp[betterZ, h1, h2]); refine Imp.auto (by kernel_rfl) ?_ ?_ <;> simp [NLe, betterZ, h1, h2])
      · unfold m28
        repeat' with_reducible (first
          | refine ZR.h ?_ | refine zI (by decide) ?_
          | (refine zK hE ?_; intro K hK; simp [KR.ks, q28_0, q28_1, q28_2, q28_3, betterZ, h1, h2]; (repeat' (first | refine hK _ _ ?_ | refine And.intro ?_ ?_ | (intro hc; try subst hc))) <;> (try clear hK K))
          | (refine zJ (b := _) (by with_unfolding_all rfl) (fun hc => ?_) (fun hc => ?_) <;> simp at hc <;> (try subst hc)))
        all_goals first | (simp; done) | (simp at *; omega) | ((try simp[betterZ, h1, h2]); refine Imp.auto (by kernel_rfl) ?_ ?_ <;> simp [NLe, betterZ, h1, h2])
    · by_cases h2 : p < q
      · unfold m28
        repeat' with_reducible (first
          | refine ZR.h ?_ | refine zI (by decide) ?_
          | (refine zK hE ?_; intro K hK; simp [KR.ks, q28_0, q28_1, q28_2, q28_3, betterZ, h1, h2]; (repeat' (first | refine hK _ _ ?_ | refine And.intro ?_ ?_ | (intro hc; try subst hc))) <;> (try clear hK K))
          | (refine zJ (b := _) (by with_unfolding_all rfl) (fun hc => ?_) (fun hc => ?_) <;> simp at hc <;> (try subst hc)))
        all_goals first | (simp; done) | (simp at *; omega) | ((try simp[betterZ, h1, h2]); refine Imp.auto (by kernel_rfl) ?_ ?_ <;> simp [NLe, betterZ, h1, h2])
      · unfold m28
        repeat' with_reducible (first
          | refine ZR.h ?_ | refine zI (by decide) ?_
          | (refine zK hE ?_; intro K hK; simp [KR.ks, q28_0, q28_1, q28_2, q28_3, betterZ, h1, h2]; (repeat' (first | refine hK _ _ ?_ | refine And.intro ?_ ?_ | (intro hc; try subst hc))) <;> (try clear hK K))
          | (refine zJ (b := _) (by with_unfolding_all rfl) (fun hc => ?_) (fun hc => ?_) <;> simp at hc <;> (try subst hc)))
        all_goals first | (simp; done) | (simp at *; omega) | ((try simp[betterZ, h1, h2]); refine Imp.auto (by kernel_rfl) ?_ ?_ <;> simp [NLe, betterZ, h1, h2])
  · cases h

def d42 : List AV → List NObj → Option AV
  | [.agg oc, .ptr (.top 0) 0 0, .ptr (.top 1) 0 0], [.view 0 1 [[.int .i64 n]], .view 0 1 [[.int .i64 s]]] => (match ozOf oc with
    | some o => some (.bool (prA n s o))
    | none => none)
  | _, _ => none

theorem ok42 : ROk d42 := by
  intro xs os r h
  unfold d42 at h
  (repeat' (split at h)) <;> first | (cases h; done) | (injection h with h; subst h; simp)
theorem s42 : Sound Try.prog 42 (rdS d42 ok42) := by
  refine rd_sound Try.func42 nm42 rc42 rv42 ok42 fun xs os r h vs ρ0 hvs => ⟨xs, ?_, fun _ h => h, fun w0 S hS => ?_⟩
  · unfold d42 at h
    (repeat' (split at h)) <;> first | (cases h; done) | exact Nat.le_of_ble_eq_true rfl
  unfold d42 at h
  split at h
  · rename_i oc n s
    split at h
    · rename_i o ho
      injection h with h
      subst h
      obtain rfl := ozOf_ex ho
      clear ho
      have hE : SoundAll Try.prog (EL []) := EL_sound (by simp)
      simp only [ozC, prA]
      by_cases h1 : o.n = n
      · by_cases h2 : o.s = s
        · unfold m42
          repeat' with_reducible (first
            | refine ZR.h ?_ | refine zI (by decide) ?_
            | (refine zK hE ?_; intro K hK; simp [KR.ks, q42_0, q42_1, h1, h2]; (repeat' (first | refine hK _ _ ?_ | refine And.intro ?_ ?_ | (intro hc; try subst hc))) <;> (try clear hK K))
            | (refine zJ (b := _) (by with_unfolding_all rfl) (fun hc => ?_) (fun hc => ?_) <;> simp at hc <;> (try subst hc)))
          all_goals first | (simp; done) | (simp at *; omega) | ((try simp[h1, h2]); refine Imp.auto (by kernel_rfl) ?_ ?_ <;> simp [NLe, h1, h2])
        · unfold m42
          repeat' with_reducible (first
            | refine ZR.h ?_ | refine zI (by decide) ?_
            | (refine zK hE ?_; intro K hK; simp [KR.ks, q42_0, q42_1, h1, h2]; (repeat' (first | refine hK _ _ ?_ | refine And.intro ?_ ?_ | (intro hc; try subst hc))) <;> (try clear hK K))
            | (refine zJ (b := _) (by with_unfolding_all rfl) (fun hc => ?_) (fun hc => ?_) <;> simp at hc <;> (try subst hc)))
          all_goals first | (simp; done) | (simp at *; omega) | ((try simp[h1, h2]); refine Imp.auto (by kernel_rfl) ?_ ?_ <;> simp [NLe, h1, h2])
      · unfold m42
        repeat' with_reducible (first
          | refine ZR.h ?_ | refine zI (by decide) ?_
          | (refine zK hE ?_; intro K hK; simp [KR.ks, q42_0, q42_1, h1]; (repeat' (first | refine hK _ _ ?_ | refine And.intro ?_ ?_ | (intro hc; try subst hc))) <;> (try clear hK K))
          | (refine zJ (b := _) (by with_unfolding_all rfl) (fun hc => ?_) (fun hc => ?_) <;> simp at hc <;> (try subst hc)))
        all_goals first | (simp; done) | (simp at *; omega) | ((try simp[h1]); refine Imp.auto (by kernel_rfl) ?_ ?_ <;> simp [NLe, h1])
    · cases h
  · cases h
def d38 : List AV → List NObj → Option AV
  | [.agg oc, .ptr (.top 0) 0 0, .ptr (.top 2) 0 0], [.view 0 8 [[.int .i64 a, .int .i64 b, .int .i64 c, .int .i64 d, .int .i64 e, .int .i64 f, .int .i64 g, .sl (.top 1) 0 nn]], .view 0 7 els, .view 0 1 [[.int .i64 p]]] => (match ozOf oc with
    | some o => if cfgB a b c d e f g = true then some (.bool (prB a b p o)) else none
    | none => none)
  | _, _ => none

theorem ok38 : ROk d38 := by
  intro xs os r h
  unfold d38 at h
  (repeat' (split at h)) <;> first | (cases h; done) | (injection h with h; subst h; simp)
theorem s38 : Sound Try.prog 38 (rdS d38 ok38) := by
  refine rd_sound Try.func38 nm38 rc38 rv38 ok38 fun xs os r h vs ρ0 hvs => ⟨xs, ?_, fun _ h => h, fun w0 S hS => ?_⟩
  · unfold d38 at h
    (repeat' (split at h)) <;> first | (cases h; done) | exact Nat.le_of_ble_eq_true rfl
  unfold d38 at h
  split at h
  · rename_i oc a b c d e f g nn els p
    split at h
    · rename_i o ho
      split at h
      · rename_i hcond
        injection h with h
        subst h
        obtain rfl := ozOf_ex ho
        clear ho
        have hE : SoundAll Try.prog (EL [(33, rdS d33 ok33)]) := EL_sound (by simp only [List.mem_cons, List.not_mem_nil, or_false, forall_eq_or_imp, forall_eq]; exact s33)
        have h33 : d33 [.agg [.int .i64 a, .int .i64 b, .int .i64 c, .int .i64 d, .int .i64 e, .int .i64 f, .int .i64 g], .int .i64 o.c] [] = some (.int .i64 (ownZ a b o.c)) := by simp only [d33]; rw [if_pos hcond]
        simp only [ozC, prB]
        by_cases h1 : ownZ a b o.c = p
        · unfold m38
          repeat' with_reducible (first
            | refine ZR.h ?_ | refine zI (by decide) ?_
            | ((first | refine zK hE ?_ | refine zL hE mixT ?_); intro K hK; simp [KR.ks, KD.ks, KD.cl, q38_0, q38_1, h33, h1]; (repeat' (first | refine hK _ _ ?_ | refine And.intro ?_ ?_ | (intro hc; try subst hc))) <;> (try clear hK K))
            | (refine zJ (b := _) (by with_unfolding_all rfl) (fun hc => ?_) (fun hc => ?_) <;> simp at hc <;> (try subst hc)))
          all_goals first | (simp; done) | (simp at *; omega) | ((try simp[h1]); refine Imp.auto (by kernel_rfl) ?_ ?_ <;> simp [NLe, h1])
        · unfold m38
          repeat' with_reducible (first
            | refine ZR.h ?_ | refine zI (by decide) ?_
            | ((first | refine zK hE ?_ | refine zL hE mixT ?_); intro K hK; simp [KR.ks, KD.ks, KD.cl, q38_0, q38_1, h33, h1]; (repeat' (first | refine hK _ _ ?_ | refine And.intro ?_ ?_ | (intro hc; try subst hc))) <;> (try clear hK K))
            | (refine zJ (b := _) (by with_unfolding_all rfl) (fun hc => ?_) (fun hc => ?_) <;> simp at hc <;> (try subst hc)))
          all_goals first | (simp; done) | (simp at *; omega) | ((try simp[h1]); refine Imp.auto (by kernel_rfl) ?_ ?_ <;> simp [NLe, h1])
      · cases h
    · cases h
  · cases h
end Go.W
namespace Go.W
open Go.Proofs
set_option linter.unusedSimpArgs false
set_option linter.unusedVariables false
set_option maxHeartbeats 8000000
attribute [local irreducible] Wm
attribute [local simp] nmap lkp mkPl prs prsL prT ddL idL CRenL CRen Ren RenL NObj.none CRenLL

def d39 : List AV → List NObj → Option AV
  | [.sl (.top 0) 0 n], [.view 0 7 els] => (match mapV ozOf els with
    | some l => if n = els.length ∧ els.length ≤ 100000 then some (.os 0 7 els) else none
    | none => none)
  | _, _ => none
theorem ok39 : ROk d39 := by
  intro xs os r h
  unfold d39 at h
  split at h
  · split at h
    · rename_i l hl
      obtain rfl := mapV_ex (g := ozC) (fun _ _ => ozOf_ex) hl
      split at h
      · injection h with h; subst h; simp; exact oz_dat l
      · cases h
    · cases h
  · cases h
theorem s39 : Sound Try.prog 39 (rdS d39 ok39) := by
  refine rd_sound Try.func39 nm39 rc39 rv39 ok39 fun xs os r h vs ρ0 hvs => ?_
  have hE : SoundAll Try.prog (EL []) := EL_sound (by simp)
  unfold d39 at h
  split at h
  · split at h
    · rename_i n els l hml
      obtain rfl := mapV_ex (g := ozC) (fun _ _ => ozOf_ex) hml
      clear hml
      split at h
      · rename_i hcond
        injection h with h
        subst h
        obtain ⟨rfl, hlen⟩ := hcond
        have hll : List.map ozC l = ozLL l := rfl
        rw [hll] at hlen hvs ⊢
        have hl := oz_len l
        have hdat := oz_dat l
        have hP := oz_all l
        have hP2 := oz_pl l
        have hT0 := oz_t0 l
        have hCl := oz_cl l
        by_cases hpos : 0 < (ozLL l).length
        · have hb1 : (ozLL l).length * 56 ≤ 140737488355328 := by omega
          have hb2 : (ozLL l).length ≤ 9223372036854775807 := by omega
          refine ⟨_, Nat.le_of_ble_eq_true rfl, fun _ h => h, fun w0 S hS => ?_⟩
          unfold m39
          repeat' with_reducible (first
            | refine ZR.h ?_ | refine zI (by decide) ?_
            | (refine zK hE ?_; intro K hK; simp [KR.ks, q39_0, q39_1, q39_2, q39_3, hdat, hlen, hpos, hb1, hb2, hP, hP2]; (repeat' (first | refine hK _ _ ?_ | refine And.intro ?_ ?_ | (intro hc; try subst hc))) <;> (try clear hK K))
            | (refine zJ (b := _) (by with_unfolding_all rfl) (fun hc => ?_) (fun hc => ?_) <;> simp at hc <;> (try subst hc)))
          all_goals first | (simp; done) | (simp at *; omega) | ((try simp[hT0, hCl]); refine Imp.auto (by kernel_rfl) ?_ ?_ <;> simp [NLe, hT0, hCl])
        · have he : l = [] := List.length_eq_zero_iff.1 (by omega)
          subst he
          obtain ⟨ad, c, rfl⟩ : ∃ ad c, vs = [.slice ad 0 c] := by
            simp only [RepL, Rep] at hvs
            obtain ⟨v, r, rfl, hv, rfl⟩ := hvs
            rcases hv with ⟨_, _, _, ad, rfl⟩ | ⟨_, _, off, rfl, _⟩
            · exact ⟨_, _, rfl⟩
            · exact ⟨_, _, rfl⟩
          cases ad with
          | none =>
            refine ⟨[.raw (.slice none 0 c)], Nat.le_of_ble_eq_true rfl, fun ρ _ => ⟨_, [], rfl, by rw [Rep], rfl⟩, fun w0 S hS => ?_⟩
            simp only [ozLL, List.map_nil]
            unfold m39
            repeat' with_reducible (first
              | refine ZR.h ?_ | refine zI (by decide) ?_
              | (refine zK hE ?_; intro K hK; simp [KR.ks, q39_0, q39_1, q39_2, q39_3]; (repeat' (first | refine hK _ _ ?_ | refine And.intro ?_ ?_ | (intro hc; try subst hc))) <;> (try clear hK K))
              | (refine zJ (b := _) (by with_unfolding_all rfl) (fun hc => ?_) (fun hc => ?_) <;> simp at hc <;> (try subst hc)))
            all_goals first | (simp; done) | (simp at *; omega) | ((try simp); refine Imp.auto (by kernel_rfl) ?_ ?_ <;> simp [NLe])
          | some ad =>
            refine ⟨[.raw (.slice (some ad) 0 c)], Nat.le_of_ble_eq_true rfl, fun ρ _ => ⟨_, [], rfl, by rw [Rep], rfl⟩, fun w0 S hS => ?_⟩
            simp only [ozLL, List.map_nil]
            unfold m39
            repeat' with_reducible (first
              | refine ZR.h ?_ | refine zI (by decide) ?_
              | (refine zK hE ?_; intro K hK; simp [KR.ks, q39_0, q39_1, q39_2, q39_3]; (repeat' (first | refine hK _ _ ?_ | refine And.intro ?_ ?_ | (intro hc; try subst hc))) <;> (try clear hK K))
              | (refine zJ (b := _) (by with_unfolding_all rfl) (fun hc => ?_) (fun hc => ?_) <;> simp at hc <;> (try subst hc)))
            all_goals first | (simp; done) | (simp at *; omega) | ((try simp); refine Imp.auto (by kernel_rfl) ?_ ?_ <;> simp [NLe])
      · cases h
    · cases h
  · cases h
def d21 : List AV → List NObj → Option AV
  | [.agg [.int .i64 a, .int .i64 b, .int .i64 c, .int .i64 d, .int .i64 e, .int .i64 f, .int .i64 g, .sl (.top 0) 0 n]], [.view 0 7 els] => (match mapV ozOf els with
    | some l => if n = els.length ∧ els.length ≤ 100000 then some (.os 0 7 els) else none
    | none => none)
  | _, _ => none
theorem ok21 : ROk d21 := by
  intro xs os r h
  unfold d21 at h
  split at h
  · split at h
    · rename_i l hl
      obtain rfl := mapV_ex (g := ozC) (fun _ _ => ozOf_ex) hl
      split at h
      · injection h with h; subst h; simp; exact oz_dat l
      · cases h
    · cases h
  · cases h
theorem s21 : Sound Try.prog 21 (rdS d21 ok21) := by
  refine rd_sound Try.func21 nm21 rc21 rv21 ok21 fun xs os r h vs ρ0 hvs => ⟨xs, ?_, fun _ h => h, fun w0 S hS => ?_⟩
  · unfold d21 at h
    (repeat' (split at h)) <;> first | (cases h; done) | exact Nat.le_of_ble_eq_true rfl
  unfold d21 at h
  split at h
  · rename_i a b c d e f g n els
    split at h
    · rename_i l hml
      obtain rfl := mapV_ex (g := ozC) (fun _ _ => ozOf_ex) hml
      clear hml
      split at h
      · rename_i hcond
        injection h with h
        subst h
        obtain ⟨rfl, hlen⟩ := hcond
        have hll : List.map ozC l = ozLL l := rfl
        rw [hll] at hlen hvs ⊢
        have hE : SoundAll Try.prog (EL [(39, rdS d39 ok39)]) := EL_sound (by simp only [List.mem_cons, List.not_mem_nil, or_false, forall_eq_or_imp, forall_eq]; exact s39)
        have hl := oz_len l
        have hD := oz_dat l
        have hT := oz_t0 l
        have hC := oz_cl l
        rw [hl] at hlen
        have hk : (ozLL l).take l.length = ozLL l := List.take_of_length_le (by rw [hl]; exact Nat.le_refl _)
        have h39 : d39 [.sl (.top 0) 0 l.length] [.view 0 7 (ozLL l)] = some (.os 0 7 (ozLL l)) := by
          simp only [d39, mapV_map (f := ozOf) (g := ozC) ozOf_C l, show mapV ozOf (ozLL l) = some l from mapV_map (f := ozOf) (g := ozC) ozOf_C l, hl]
          rw [if_pos ⟨trivial, hlen⟩]
        change Wm _ _ _ _ _ _ ⟨argL 0 [.agg [.int .i64 a, .int .i64 b, .int .i64 c, .int .i64 d, .int .i64 e, .int .i64 f, .int .i64 g, .sl (.top 0) 0 (ozLL l).length]], idxO 0 [.view 0 7 (ozLL l)], _⟩ _
        unfold m21
        repeat' with_reducible (first
          | refine ZR.h ?_ | refine zI (by decide) ?_
          | (refine zK hE ?_; intro K hK; simp [KR.ks, q21_0, q21_1, hT, hC, hD, hl, hk, h39]; (repeat' (first | refine hK _ _ ?_ | refine And.intro ?_ ?_ | (intro hc; try subst hc))) <;> (try clear hK K))
          | (refine zJ (b := _) (by with_unfolding_all rfl) (fun hc => ?_) (fun hc => ?_) <;> simp at hc <;> (try subst hc)))
        all_goals first | (simp; done) | (simp at *; omega) | ((try simp[hT, hC, hl]); refine Imp.auto (by kernel_rfl) ?_ ?_ <;> simp [NLe, hT, hC, hl])
      · cases h
    · cases h
  · cases h
def d23 : List AV → Option Ans
  | [.agg [.int .i64 a, .int .i64 b, .int .i64 c, .int .i64 d, .int .i64 e, .int .i64 f, .int .i64 g], .os _ _ els] => (match mapV ozOf els with
    | some l => if els.length ≤ 100000 then some ⟨.agg [.int .i64 a, .int .i64 b, .int .i64 c, .int .i64 d, .int .i64 e, .int .i64 f, .int .i64 g, .os 0 7 (ozLL l)], [.free]⟩ else none
    | none => none)
  | _ => none
theorem ok23 : NOk [(7, false)] d23 := by
  intro xs aa h
  unfold d23 at h
  (repeat' (split at h)) <;> first | (cases h; done) | (rename_i hm _; obtain rfl := mapV_ex (g := ozC) (fun _ _ => ozOf_ex) hm; injection h with h; subst h; refine ⟨Ends_of ?_, ?_⟩ <;> simp [oz_map, oz_t0, oz_cl])
theorem s23 : Sound Try.prog 23 (nestS [(7, false)] d23 ok23) := by
  refine nest_sound Try.func23 nm23 rc23 rv23 ok23 (fun xs a h => ?_) fun xs a h w0 S hS => ?_
  · unfold d23 at h
    (repeat' (split at h)) <;> first | (cases h; done) | exact Nat.le_of_ble_eq_true rfl
  unfold d23 at h
  split at h
  · rename_i a b c d e f g u v els
    split at h
    · rename_i l hml
      obtain rfl := mapV_ex (g := ozC) (fun _ _ => ozOf_ex) hml
      clear hml
      split at h
      · rename_i hlen
        injection h with h
        subst h
        simp only [oz_map] at hlen hS ⊢
        have hE : SoundAll Try.prog (EL [(39, rdS d39 ok39)]) := EL_sound (by simp only [List.mem_cons, List.not_mem_nil, or_false, forall_eq_or_imp, forall_eq]; exact s39)
        have hl := oz_len l
        have hD := oz_dat l
        have hT := oz_t0 l
        have hC := oz_cl l
        rw [hl] at hlen
        have hk : (ozLL l).take l.length = ozLL l := List.take_of_length_le (by rw [hl]; exact Nat.le_refl _)
        have h39 : d39 [.sl (.top 0) 0 l.length] [.view 0 7 (ozLL l)] = some (.os 0 7 (ozLL l)) := by
          simp only [d39, show mapV ozOf (ozLL l) = some l from mapV_map (f := ozOf) (g := ozC) ozOf_C l, hl]
          rw [if_pos ⟨trivial, hlen⟩]
        unfold m23
        repeat' with_reducible (first
          | refine ZR.h ?_ | refine zI (by decide) ?_
          | ((first | refine zK hE ?_ | refine zL hE mixT ?_); intro K hK; simp [KR.ks, KD.ks, KD.cl, q23_0, q23_1, hT, hC, hD, hl, hk, h39]; (repeat' (first | refine hK _ _ ?_ | refine And.intro ?_ ?_ | (intro hc; try subst hc))) <;> (try clear hK K))
          | (refine zJ (b := _) (by with_unfolding_all rfl) (fun hc => ?_) (fun hc => ?_) <;> simp at hc <;> (try subst hc)))
        all_goals first | (simp; done) | (simp at *; omega) | ((try simp[hT, hC, hl]); refine Imp.auto (by kernel_rfl) ?_ ?_ <;> simp [NLe, hT, hC, hl])
      · cases h
    · cases h
  · cases h
end Go.W
namespace Go.W
def mkPlX (m : Nat) (ex : List (Nat × Option Nat)) (s s' : St) : List (Nat × Option Nat) := ddL (idL m ++ (ex ++ prT s.tl s'.tl))

/-- With some names told ahead. -/
theorem Imp.autoX {m : Nat} {s s' : St} (ex : List (Nat × Option Nat)) (h : plB m (mkPlX m ex s s') s'.nb = true) (ht : ∀ p, p ∈ s'.tl → Ren (nmap (mkPlX m ex s s') (hk s.hl) (hk s'.hl)) (lk s.tl p.1) p.2)
    (ho : ∀ p, p ∈ s'.hl → p.2.tag < s'.nb ∧ (match lkp (mkPlX m ex s s') p.1 with
    | some (some y) => NLe (nmap (mkPlX m ex s s') (hk s.hl) (hk s'.hl)) (hk s.hl y) p.2
    | some none => p.2.none
    | none => p.2 = .free)) : Imp m s s' := Imp.le _ (LeN.mk' h ht ho)
end Go.W
namespace Go.W
open Go.Proofs
set_option linter.unusedSimpArgs false
set_option linter.unusedVariables false
set_option maxHeartbeats 8000000
attribute [local irreducible] Wm
attribute [local simp] nmap lkp mkPl prs prsL prT ddL idL CRenL CRen Ren RenL NObj.none CRenLL

def d48 : List AV → List NObj → Option AV
  | [.sl (.top 0) 0 n, .fn 42 [.ptr (.top 1) 0 0, .ptr (.top 2) 0 0]], [.view 0 7 els, .view 0 1 [[.int .i64 nn]], .view 0 1 [[.int .i64 ss]]] => (match mapV ozOf els with
    | some os => if n = els.length ∧ els.length ≤ 100000 ∧ True then some (.int .i64 (idxZ (os.findIdx? (prA nn ss)))) else none
    | none => none)
  | [.sl (.top 0) 0 n, .fn 38 [.ptr (.top 1) 0 0, .ptr (.top 3) 0 0]], [.view 0 7 els, .view 0 8 [[.int .i64 a, .int .i64 b, .int .i64 c, .int .i64 d, .int .i64 e, .int .i64 f, .int .i64 g, .sl (.top 2) 0 mm]], .view 0 7 ws, .view 0 1 [[.int .i64 pp]]] => (match mapV ozOf els with
    | some os => if n = els.length ∧ els.length ≤ 100000 ∧ cfgB a b c d e f g = true ∧ (mapV ozOf ws).isSome = true ∧ mm = ws.length then some (.int .i64 (idxZ (os.findIdx? (prB a b pp)))) else none
    | none => none)
  | _, _ => none

theorem ok48 : ROk d48 := by
  intro xs os r h
  unfold d48 at h
  (repeat' (split at h)) <;> first | (cases h; done) | (injection h with h; subst h; simp)
def I48A (nn ss : Int) (os : List OZ) (i : Nat) : St := ⟨[(0, .sl (.top 0) 0 os.length), (1, .fn 42 [.ptr (.top 1) 0 0, .ptr (.top 2) 0 0]), (7, .int .i64 os.length), (8, .int .i64 i)], [(0, .view 0 7 (ozLL os)), (1, .view 0 1 [[.int .i64 nn]]), (2, .view 0 1 [[.int .i64 ss]])], 3⟩
def I48B (a b c d e f g : Int) (L2 : List OZ) (pp : Int) (os : List OZ) (i : Nat) : St := ⟨[(0, .sl (.top 0) 0 os.length), (1, .fn 38 [.ptr (.top 1) 0 0, .ptr (.top 3) 0 0]), (7, .int .i64 os.length), (8, .int .i64 i)], [(0, .view 0 7 (ozLL os)), (1, .view 0 8 [[.int .i64 a, .int .i64 b, .int .i64 c, .int .i64 d, .int .i64 e, .int .i64 f, .int .i64 g, .sl (.top 2) 0 L2.length]]), (2, .view 0 7 (ozLL L2)), (3, .view 0 1 [[.int .i64 pp]])], 4⟩
theorem s48 : Sound Try.prog 48 (rdS d48 ok48) := by
  refine rd_sound Try.func48 nm48 rc48 rv48 ok48 fun xs os r h vs ρ0 hvs => ⟨xs, ?_, fun _ h => h, fun w0 S hS => ?_⟩
  · unfold d48 at h
    (repeat' (split at h)) <;> first | (cases h; done) | exact Nat.le_of_ble_eq_true rfl
  unfold d48 at h
  split at h
  · rename_i n els nn ss
    split at h
    · rename_i os hos
      split at h
      · rename_i hcond
        injection h with h
        subst h
        obtain ⟨rfl, hn, hcf⟩ := hcond
        obtain rfl := mapV_ex (g := ozC) (fun _ _ => ozOf_ex) hos
        clear hos
        change List.length (ozLL os) ≤ 100000 at hn
        rw [oz_len] at hn
        have hE : SoundAll Try.prog (EL [(42, rdS d42 ok42)]) := EL_sound (by simp only [List.mem_cons, List.not_mem_nil, or_false, forall_eq_or_imp, forall_eq]; exact s42)
        have hT := oz_t0 os
        have hC := oz_cl os
        have hD := oz_dat os
        have hl := oz_len os
        simp only [oz_map, oz_len] at hS hvs ⊢
        unfold m48
        repeat' with_reducible (first
          | refine ZR.h ?_ | refine zI (by decide) ?_
          | (refine zK hE ?_; intro K hK; simp [KR.ks, q48_0, q48_1, q48_2, q48_3, q48_4, q48_5, q48_6, q48_7, hT, hC, hD, hl]; (repeat' (first | refine hK _ _ ?_ | refine And.intro ?_ ?_ | (intro hc; try subst hc))) <;> (try clear hK K))
          | (refine zJ (b := _) (by with_unfolding_all rfl) (fun hc => ?_) (fun hc => ?_) <;> simp at hc <;> (try subst hc)))
        all_goals (refine Wm_loop (fun i => I48A nn ss os i) (fun i => i ≤ os.length ∧ ∀ (j : Nat) (y : OZ), j < i → os[j]? = some y → prA nn ss y = false) (fun i => os.length - i) 0 ⟨Nat.zero_le _, fun j y hj => absurd hj (Nat.not_lt_zero j)⟩ ?_ ?_)
        · simp only [I48A]
          rw [hS]
          (refine Imp.auto (by kernel_rfl) ?_ ?_ <;> simp [NLe, mkPlX, hT, hC, hl])
        · rintro i ⟨hi, hno⟩
          (try simp only at hi hno)
          simp only [I48A]
          by_cases hil : i < os.length
          · obtain ⟨x, hx⟩ : ∃ x, os[i]? = some x := ⟨_, List.getElem?_eq_getElem hil⟩
            obtain ⟨hg, hge⟩ := oz_at hx
            have ww : IntKind.wrap .i64 ((i : Int) + 1) = (i : Int) + 1 := wrap_in (by omega) (by omega)
            have hcall : d42 [.agg (ozC x), .ptr (.top 0) 0 0, .ptr (.top 1) 0 0] [.view 0 1 [[.int .i64 nn]], .view 0 1 [[.int .i64 ss]]] = some (.bool (prA nn ss x)) := by simp only [d42, ozOf_C]
            simp only [ozC] at hcall hg hge
            by_cases hb : prA nn ss x = true
            · rw [hb] at hcall
              rw [find_at hno hx hb]
              repeat' with_reducible (first
                | refine ZR.h ?_ | refine zI (by decide) ?_
                | (refine zK hE ?_; intro K hK; simp [KR.ks, q48_0, q48_1, q48_2, q48_3, q48_4, q48_5, q48_6, q48_7, hT, hC, hD, hl, hil, hg, hge, hcall]; (repeat' (first | refine hK _ _ ?_ | refine And.intro ?_ ?_ | (intro hc; try subst hc))) <;> (try clear hK K))
                | (refine zJ (b := _) (by with_unfolding_all rfl) (fun hc => ?_) (fun hc => ?_) <;> simp at hc <;> (try subst hc)))
              all_goals (try simp [idxZ])
              all_goals (refine Imp.auto (by kernel_rfl) ?_ ?_ <;> simp [NLe, mkPlX, hT, hC, hl])
            · have hb : prA nn ss x = false := by simpa using hb
              rw [hb] at hcall
              repeat' with_reducible (first
                | refine ZR.h ?_ | refine zI (by decide) ?_
                | (refine zK hE ?_; intro K hK; simp [KR.ks, q48_0, q48_1, q48_2, q48_3, q48_4, q48_5, q48_6, q48_7, hT, hC, hD, hl, hil, hg, hge, hcall, ww]; (repeat' (first | refine hK _ _ ?_ | refine And.intro ?_ ?_ | (intro hc; try subst hc))) <;> (try clear hK K))
                | (refine zJ (b := _) (by with_unfolding_all rfl) (fun hc => ?_) (fun hc => ?_) <;> simp at hc <;> (try subst hc)))
              all_goals refine ⟨i + 1, ⟨hil, fun j y hj hy => ?_⟩, Nat.sub_lt_sub_left hil (Nat.lt_succ_self i), ?_⟩
              · by_cases e : j = i
                · subst e
                  rw [hx] at hy
                  injection hy with hy
                  rw [← hy]; exact hb
                · exact hno j y (by omega) hy
              · rw [hS]
                simp only [I48A]
                (refine Imp.auto (by kernel_rfl) ?_ ?_ <;> simp [NLe, mkPlX, hT, hC, hl])
          · have hie : i = os.length := by omega
            subst hie
            rw [find_none hno]
            repeat' with_reducible (first
              | refine ZR.h ?_ | refine zI (by decide) ?_
              | (refine zK hE ?_; intro K hK; simp [KR.ks, q48_0, q48_1, q48_2, q48_3, q48_4, q48_5, q48_6, q48_7, hT, hC, hD, hl]; (repeat' (first | refine hK _ _ ?_ | refine And.intro ?_ ?_ | (intro hc; try subst hc))) <;> (try clear hK K))
              | (refine zJ (b := _) (by with_unfolding_all rfl) (fun hc => ?_) (fun hc => ?_) <;> simp at hc <;> (try subst hc)))
            all_goals (try simp [idxZ])
            all_goals (refine Imp.auto (by kernel_rfl) ?_ ?_ <;> simp [NLe, mkPlX, hT, hC, hl])

      · cases h
    · cases h
  · rename_i n els a b c d e f g mm ws pp
    split at h
    · rename_i os hos
      split at h
      · rename_i hcond
        injection h with h
        subst h
        obtain ⟨rfl, hn, hcf⟩ := hcond
        obtain rfl := mapV_ex (g := ozC) (fun _ _ => ozOf_ex) hos
        clear hos
        change List.length (ozLL os) ≤ 100000 at hn
        rw [oz_len] at hn
        have hE : SoundAll Try.prog (EL [(38, rdS d38 ok38)]) := EL_sound (by simp only [List.mem_cons, List.not_mem_nil, or_false, forall_eq_or_imp, forall_eq]; exact s38)
        have hT := oz_t0 os
        have hC := oz_cl os
        have hD := oz_dat os
        have hl := oz_len os
        obtain ⟨hcf, hws, rfl⟩ := hcf
        obtain ⟨L2, hL2⟩ := Option.isSome_iff_exists.1 hws
        obtain rfl := mapV_ex (g := ozC) (fun _ _ => ozOf_ex) hL2
        clear hws hL2
        simp only [oz_map, oz_len] at hS hvs ⊢
        have k1 := oz_t0 L2
        have k2 := oz_cl L2
        have k3 := oz_dat L2
        have k4 := oz_len L2
        have k5 : (ozLL L2).take L2.length = ozLL L2 := List.take_of_length_le (by rw [k4]; exact Nat.le_refl _)
        unfold m48
        repeat' with_reducible (first
          | refine ZR.h ?_ | refine zI (by decide) ?_
          | (refine zK hE ?_; intro K hK; simp [KR.ks, q48_0, q48_1, q48_2, q48_3, q48_4, q48_5, q48_6, q48_7, hT, hC, hD, hl, k1, k2, k3, k4, k5]; (repeat' (first | refine hK _ _ ?_ | refine And.intro ?_ ?_ | (intro hc; try subst hc))) <;> (try clear hK K))
          | (refine zJ (b := _) (by with_unfolding_all rfl) (fun hc => ?_) (fun hc => ?_) <;> simp at hc <;> (try subst hc)))
        all_goals (refine Wm_loop (fun i => I48B a b c d e f g L2 pp os i) (fun i => i ≤ os.length ∧ ∀ (j : Nat) (y : OZ), j < i → os[j]? = some y → prB a b pp y = false) (fun i => os.length - i) 0 ⟨Nat.zero_le _, fun j y hj => absurd hj (Nat.not_lt_zero j)⟩ ?_ ?_)
        · simp only [I48B]
          rw [hS]
          (refine Imp.auto (by kernel_rfl) ?_ ?_ <;> simp [NLe, mkPlX, hT, hC, hl, k1, k2, k3, k4, k5])
        · rintro i ⟨hi, hno⟩
          (try simp only at hi hno)
          simp only [I48B]
          by_cases hil : i < os.length
          · obtain ⟨x, hx⟩ : ∃ x, os[i]? = some x := ⟨_, List.getElem?_eq_getElem hil⟩
            obtain ⟨hg, hge⟩ := oz_at hx
            have ww : IntKind.wrap .i64 ((i : Int) + 1) = (i : Int) + 1 := wrap_in (by omega) (by omega)
            have hcall : d38 [.agg (ozC x), .ptr (.top 0) 0 0, .ptr (.top 2) 0 0] [.view 0 8 [[.int .i64 a, .int .i64 b, .int .i64 c, .int .i64 d, .int .i64 e, .int .i64 f, .int .i64 g, .sl (.top 1) 0 L2.length]], .view 0 7 (ozLL L2), .view 0 1 [[.int .i64 pp]]] = some (.bool (prB a b pp x)) := by simp only [d38, ozOf_C]; rw [if_pos hcf]
            simp only [ozC] at hcall hg hge
            by_cases hb : prB a b pp x = true
            · rw [hb] at hcall
              rw [find_at hno hx hb]
              repeat' with_reducible (first
                | refine ZR.h ?_ | refine zI (by decide) ?_
                | (refine zK hE ?_; intro K hK; simp [KR.ks, q48_0, q48_1, q48_2, q48_3, q48_4, q48_5, q48_6, q48_7, hT, hC, hD, hl, k1, k2, k3, k4, k5, hil, hg, hge, hcall]; (repeat' (first | refine hK _ _ ?_ | refine And.intro ?_ ?_ | (intro hc; try subst hc))) <;> (try clear hK K))
                | (refine zJ (b := _) (by with_unfolding_all rfl) (fun hc => ?_) (fun hc => ?_) <;> simp at hc <;> (try subst hc)))
              all_goals (try simp [idxZ])
              all_goals (refine Imp.auto (by kernel_rfl) ?_ ?_ <;> simp [NLe, mkPlX, hT, hC, hl, k1, k2, k3, k4, k5])
            · have hb : prB a b pp x = false := by simpa using hb
              rw [hb] at hcall
              repeat' with_reducible (first
                | refine ZR.h ?_ | refine zI (by decide) ?_
                | (refine zK hE ?_; intro K hK; simp [KR.ks, q48_0, q48_1, q48_2, q48_3, q48_4, q48_5, q48_6, q48_7, hT, hC, hD, hl, k1, k2, k3, k4, k5, hil, hg, hge, hcall, ww]; (repeat' (first | refine hK _ _ ?_ | refine And.intro ?_ ?_ | (intro hc; try subst hc))) <;> (try clear hK K))
                | (refine zJ (b := _) (by with_unfolding_all rfl) (fun hc => ?_) (fun hc => ?_) <;> simp at hc <;> (try subst hc)))
              all_goals refine ⟨i + 1, ⟨hil, fun j y hj hy => ?_⟩, Nat.sub_lt_sub_left hil (Nat.lt_succ_self i), ?_⟩
              · by_cases e : j = i
                · subst e
                  rw [hx] at hy
                  injection hy with hy
                  rw [← hy]; exact hb
                · exact hno j y (by omega) hy
              · rw [hS]
                simp only [I48B]
                (refine Imp.auto (by kernel_rfl) ?_ ?_ <;> simp [NLe, mkPlX, hT, hC, hl, k1, k2, k3, k4, k5])
          · have hie : i = os.length := by omega
            subst hie
            rw [find_none hno]
            repeat' with_reducible (first
              | refine ZR.h ?_ | refine zI (by decide) ?_
              | (refine zK hE ?_; intro K hK; simp [KR.ks, q48_0, q48_1, q48_2, q48_3, q48_4, q48_5, q48_6, q48_7, hT, hC, hD, hl, k1, k2, k3, k4, k5]; (repeat' (first | refine hK _ _ ?_ | refine And.intro ?_ ?_ | (intro hc; try subst hc))) <;> (try clear hK K))
              | (refine zJ (b := _) (by with_unfolding_all rfl) (fun hc => ?_) (fun hc => ?_) <;> simp at hc <;> (try subst hc)))
            all_goals (try simp [idxZ])
            all_goals (refine Imp.auto (by kernel_rfl) ?_ ?_ <;> simp [NLe, mkPlX, hT, hC, hl, k1, k2, k3, k4, k5])

      · cases h
    · cases h
  · cases h
end Go.W
