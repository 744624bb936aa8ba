import Derived.Test.YthehmmodkhoieaaT1
namespace Go.Vc
open Go.Proofs
set_option linter.unusedSimpArgs false
set_option linter.unusedVariables false
set_option maxHeartbeats 4000000
attribute [local irreducible] Wm

def allN : Nat → (Nat → Bool) → Bool
  | 0, _ => true
  | n + 1, p => allN n p && p n

theorem allN_iff : ∀ {n : Nat} {p : Nat → Bool}, allN n p = true ↔ ∀ j, j < n → p j = true
  | 0, p => by simp [allN]
  | n + 1, p => by
    rw [allN, Bool.and_eq_true, allN_iff]
    constructor
    · rintro ⟨h1, h2⟩ j hj
      by_cases e : j = n
      · rw [e]; exact h2
      · exact h1 j (by omega)
    · intro h
      exact ⟨fun j hj => h j (by omega), h n (by omega)⟩

def rowOff : List AV → Bool
  | [.int .i64 _, .int .i64 _, .int .i64 _, .int .i64 _, .int .i64 _] => true
  | _ => false

def priceOk : List AV → Bool
  | [.int .i64 _, .int .i64 _, .int .i64 p, .int .i64 _, .int .i64 _] => decide (1 ≤ p ∧ p ≤ 9999)
  | _ => false

def d20 : List DV → Option AV
  | [.s 5 n f] => if allN n (fun j => rowOff (f j)) = true ∧ n ≤ 4611686018427387904 then some (.bool (allN n fun j => priceOk (f j))) else none
  | _ => none

theorem rowOff_some {l : List AV} (h : rowOff l = true) : ∃ k s p m e : Int, l = [.int .i64 k, .int .i64 s, .int .i64 p, .int .i64 m, .int .i64 e] := by
  unfold rowOff at h
  split at h
  · exact ⟨_, _, _, _, _, rfl⟩
  · cases h

theorem s20 : Sound Try.prog 20 (scalV [5] d20) := by
  refine scalV_sound (szs := [5]) Try.func20 nm20 rc20 rv20 ?_ ?_
  · intro ds r h
    unfold d20 at h
    split at h
    · split at h
      · rename_i n f hc
        injection h with h
        subst h
        refine ⟨fun d hd => ?_, rfl, Nat.le_of_ble_eq_true rfl⟩
        simp only [List.mem_singleton] at hd
        subst hd
        intro j hj
        obtain ⟨k, s, p, m, e, he⟩ := rowOff_some (allN_iff.1 hc.1 j hj)
        rw [he]; rfl
      · cases h
    · cases h
  intro ds r h w0 S hS
  unfold d20 at h
  split at h
  · split at h
    · rename_i n f hc
      injection h with h
      subst h
      obtain ⟨hrow, hn⟩ := hc
      have hrow := allN_iff.1 hrow
      simp only [cObjs, List.length_cons, List.length_nil] at hS
      have hE : SoundAll Try.prog (EL []) := EL_sound (by simp)
      unfold m20
      repeat' with_reducible (first
        | refine Wm_seq ?_
        | refine Wm_skip ?_
        | refine Wm_ret ?_
        | refine Wm_block ?_
        | refine Wm_exit ?_
        | refine thenK_normal ?_
        | refine thenK_ret ?_
        | refine thenK_exit ?_
        | refine blockK_normal ?_
        | refine blockK_ret ?_
        | refine blockK_here ?_
        | refine loopK_ret ?_
        | refine loopK_exit ?_
        | refine blockK_exit (by decide) ?_
        | (refine wreg (mos := q20_0) hE [0] (by kernel_rfl) ?_; intro K hK; simp [q20_0]; (repeat' (first | refine hK _ _ ?_ | refine And.intro ?_ ?_ | intro hc)) <;> (try clear hK K))
        | (refine wreg (mos := q20_1) hE [5, 6, 7] (by kernel_rfl) ?_; intro K hK; simp [q20_1]; (repeat' (first | refine hK _ _ ?_ | refine And.intro ?_ ?_ | intro hc)) <;> (try clear hK K))
        | (refine wreg (mos := q20_2) hE [5, 6, 7, 8, 15, 16, 17] (by kernel_rfl) ?_; intro K hK; simp [q20_2]; (repeat' (first | refine hK _ _ ?_ | refine And.intro ?_ ?_ | intro hc)) <;> (try clear hK K))
        | (refine wreg (mos := q20_3) hE [4, 5, 6, 7, 15, 16, 17] (by kernel_rfl) ?_; intro K hK; simp [q20_3]; (repeat' (first | refine hK _ _ ?_ | refine And.intro ?_ ?_ | intro hc)) <;> (try clear hK K))
        | (refine wreg (mos := q20_4) hE [5, 6, 7, 15, 16, 17, 18] (by kernel_rfl) ?_; intro K hK; simp [q20_4]; (repeat' (first | refine hK _ _ ?_ | refine And.intro ?_ ?_ | intro hc)) <;> (try clear hK K))
        | (refine wreg (mos := q20_5) hE [2] (by kernel_rfl) ?_; intro K hK; simp [q20_5]; (repeat' (first | refine hK _ _ ?_ | refine And.intro ?_ ?_ | intro hc)) <;> (try clear hK K))
        | (refine wreg (mos := q20_6) hE [5, 6, 7, 15, 16, 17] (by kernel_rfl) ?_; intro K hK; simp [q20_6]; (repeat' (first | refine hK _ _ ?_ | refine And.intro ?_ ?_ | intro hc)) <;> (try clear hK K))
        | (refine wreg (mos := q20_7) hE [2] (by kernel_rfl) ?_; intro K hK; simp [q20_7]; (repeat' (first | refine hK _ _ ?_ | refine And.intro ?_ ?_ | intro hc)) <;> (try clear hK K))
        | (refine Wm_cond (b := _) (by with_unfolding_all rfl) (fun hc => ?_) (fun hc => ?_) <;> simp at hc))
      refine Wm_loop (fun i : Nat => ⟨[(5, .sl 0 0 n), (6, .int .i64 n), (7, .int .i64 i)], [(0, .view 5 n f)], 1⟩) (fun i => i ≤ n ∧ ∀ j, j < i → priceOk (f j) = true) (fun i => n - i) 0 [(0, some 0)] ⟨Nat.zero_le _, fun j hj => by omega⟩ ?_ ?_
      · refine ⟨fun x hx => ?_, by simp, by simp, by simp, by simp [Ren, lkp], ?_⟩
        · have : x = 0 := by omega
          subst this; rfl
        · simp [ObjRen, lkp, ObjLe]
          intro j hj
          obtain ⟨k, s, p, m, e, he⟩ := rowOff_some (hrow j hj)
          rw [he]; simp [RenL, Ren]
      · intro i hi
        obtain ⟨hi1, hi2⟩ := hi
        by_cases hin : i < n
        · obtain ⟨k, s, p, m, e, he⟩ := rowOff_some (hrow i hin)
          have hb : priceOk (f i) = decide (1 ≤ p ∧ p ≤ 9999) := by rw [he]; rfl
          have hwr : IntKind.wrap .i64 ((i : Int) + 1) = ((i + 1 : Nat) : Int) := by rw [wrap_in (by omega) (by omega)]; omega
          repeat' with_reducible (first
            | refine Wm_seq ?_
            | refine Wm_skip ?_
            | refine Wm_ret ?_
            | refine Wm_block ?_
            | refine Wm_exit ?_
            | refine thenK_normal ?_
            | refine thenK_ret ?_
            | refine thenK_exit ?_
            | refine blockK_normal ?_
            | refine blockK_ret ?_
            | refine blockK_here ?_
            | refine loopK_ret ?_
            | refine loopK_exit ?_
            | refine blockK_exit (by decide) ?_
            | (refine wreg (mos := q20_0) hE [0] (by kernel_rfl) ?_; intro K hK; simp [q20_0, he, hin]; (repeat' (first | refine hK _ _ ?_ | refine And.intro ?_ ?_ | intro hc)) <;> (try clear hK K))
            | (refine wreg (mos := q20_1) hE [5, 6, 7] (by kernel_rfl) ?_; intro K hK; simp [q20_1, he, hin]; (repeat' (first | refine hK _ _ ?_ | refine And.intro ?_ ?_ | intro hc)) <;> (try clear hK K))
            | (refine wreg (mos := q20_2) hE [5, 6, 7, 8, 15, 16, 17] (by kernel_rfl) ?_; intro K hK; simp [q20_2, he, hin]; (repeat' (first | refine hK _ _ ?_ | refine And.intro ?_ ?_ | intro hc)) <;> (try clear hK K))
            | (refine wreg (mos := q20_3) hE [4, 5, 6, 7, 15, 16, 17] (by kernel_rfl) ?_; intro K hK; simp [q20_3, he, hin]; (repeat' (first | refine hK _ _ ?_ | refine And.intro ?_ ?_ | intro hc)) <;> (try clear hK K))
            | (refine wreg (mos := q20_4) hE [5, 6, 7, 15, 16, 17, 18] (by kernel_rfl) ?_; intro K hK; simp [q20_4, he, hin]; (repeat' (first | refine hK _ _ ?_ | refine And.intro ?_ ?_ | intro hc)) <;> (try clear hK K))
            | (refine wreg (mos := q20_5) hE [2] (by kernel_rfl) ?_; intro K hK; simp [q20_5, he, hin]; (repeat' (first | refine hK _ _ ?_ | refine And.intro ?_ ?_ | intro hc)) <;> (try clear hK K))
            | (refine wreg (mos := q20_6) hE [5, 6, 7, 15, 16, 17] (by kernel_rfl) ?_; intro K hK; simp [q20_6, he, hin]; (repeat' (first | refine hK _ _ ?_ | refine And.intro ?_ ?_ | intro hc)) <;> (try clear hK K))
            | (refine wreg (mos := q20_7) hE [2] (by kernel_rfl) ?_; intro K hK; simp [q20_7, he, hin]; (repeat' (first | refine hK _ _ ?_ | refine And.intro ?_ ?_ | intro hc)) <;> (try clear hK K))
            | (refine Wm_cond (b := _) (by with_unfolding_all rfl) (fun hc => ?_) (fun hc => ?_) <;> simp at hc))
          all_goals first
            | (refine loopK_next (i + 1) ⟨hin, fun j hj => ?_⟩ (by show n - (i + 1) < n - i; omega) [(0, some 0)] ⟨fun x hx => ?_, by simp, by simp, by simp, by simp [Ren, lkp, hwr], ?_⟩
               · by_cases e : j = i
                 · subst e; rw [hb]; simp; omega
                 · exact hi2 j (by omega)
               · have : x = 0 := by omega
                 subst this; rfl
               · simp [ObjRen, lkp, ObjLe]
                 intro j hj
                 obtain ⟨k, s, p, m, e, he⟩ := rowOff_some (hrow j hj)
                 rw [he]; simp [RenL, Ren])
            | (simp; apply Bool.eq_false_iff.2; rw [Ne, allN_iff]; intro hh; have := hh i hin; rw [hb] at this; simp at this; omega)
        · have hin' : i = n := by omega
          subst hin'
          repeat' with_reducible (first
            | refine Wm_seq ?_
            | refine Wm_skip ?_
            | refine Wm_ret ?_
            | refine Wm_block ?_
            | refine Wm_exit ?_
            | refine thenK_normal ?_
            | refine thenK_ret ?_
            | refine thenK_exit ?_
            | refine blockK_normal ?_
            | refine blockK_ret ?_
            | refine blockK_here ?_
            | refine loopK_ret ?_
            | refine loopK_exit ?_
            | refine blockK_exit (by decide) ?_
            | (refine wreg (mos := q20_0) hE [0] (by kernel_rfl) ?_; intro K hK; simp [q20_0]; (repeat' (first | refine hK _ _ ?_ | refine And.intro ?_ ?_ | intro hc)) <;> (try clear hK K))
            | (refine wreg (mos := q20_1) hE [5, 6, 7] (by kernel_rfl) ?_; intro K hK; simp [q20_1]; (repeat' (first | refine hK _ _ ?_ | refine And.intro ?_ ?_ | intro hc)) <;> (try clear hK K))
            | (refine wreg (mos := q20_2) hE [5, 6, 7, 8, 15, 16, 17] (by kernel_rfl) ?_; intro K hK; simp [q20_2]; (repeat' (first | refine hK _ _ ?_ | refine And.intro ?_ ?_ | intro hc)) <;> (try clear hK K))
            | (refine wreg (mos := q20_3) hE [4, 5, 6, 7, 15, 16, 17] (by kernel_rfl) ?_; intro K hK; simp [q20_3]; (repeat' (first | refine hK _ _ ?_ | refine And.intro ?_ ?_ | intro hc)) <;> (try clear hK K))
            | (refine wreg (mos := q20_4) hE [5, 6, 7, 15, 16, 17, 18] (by kernel_rfl) ?_; intro K hK; simp [q20_4]; (repeat' (first | refine hK _ _ ?_ | refine And.intro ?_ ?_ | intro hc)) <;> (try clear hK K))
            | (refine wreg (mos := q20_5) hE [2] (by kernel_rfl) ?_; intro K hK; simp [q20_5]; (repeat' (first | refine hK _ _ ?_ | refine And.intro ?_ ?_ | intro hc)) <;> (try clear hK K))
            | (refine wreg (mos := q20_6) hE [5, 6, 7, 15, 16, 17] (by kernel_rfl) ?_; intro K hK; simp [q20_6]; (repeat' (first | refine hK _ _ ?_ | refine And.intro ?_ ?_ | intro hc)) <;> (try clear hK K))
            | (refine wreg (mos := q20_7) hE [2] (by kernel_rfl) ?_; intro K hK; simp [q20_7]; (repeat' (first | refine hK _ _ ?_ | refine And.intro ?_ ?_ | intro hc)) <;> (try clear hK K))
            | (refine Wm_cond (b := _) (by with_unfolding_all rfl) (fun hc => ?_) (fun hc => ?_) <;> simp at hc))
          simp
          exact allN_iff.2 hi2
    · cases h
  · cases h
end Go.Vc
