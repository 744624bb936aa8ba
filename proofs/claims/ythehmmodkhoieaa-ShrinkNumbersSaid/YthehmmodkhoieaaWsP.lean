/- The plain law of making small: lists out of which events are taken. -/
namespace Go.W

def delZ {α : Type} (l : List α) (fr n : Nat) : List α := l.take fr ++ l.drop (fr + n)

/-- One pass: rows of n events are taken out from a place on, wherever it still holds. -/
def passZ {α : Type} (p : List α → Bool) (n : Nat) : Nat → Bool → List α → Nat → Bool × List α
  | 0, b, l, _ => (b, l)
  | f + 1, b, l, fr => if fr < l.length then (if p (delZ l fr n) = true then passZ p n f true (delZ l fr n) fr else passZ p n f b l (fr + n)) else (b, l)

def pass1 {α : Type} (p : List α → Bool) (n : Nat) (l : List α) : Bool × List α := passZ p n (l.length + 1) false l 0

def halvZ {α : Type} (p : List α → Bool) : Nat → Nat → List α → List α
  | 0, _, l => l
  | f + 1, n, l => if 1 < n then halvZ p f (n / 2) (pass1 p n l).2 else l

def settleZ {α : Type} (p : List α → Bool) : Nat → List α → List α
  | 0, l => l
  | f + 1, l => if (pass1 p 1 l).2.length = l.length then (pass1 p 1 l).2 else settleZ p f (pass1 p 1 l).2

/-- What is left of a script. -/
def shrinkZ {α : Type} (p : List α → Bool) (l : List α) : List α := settleZ p (l.length + 1) (halvZ p (l.length + 1) (max (l.length / 2) 1) l)

section
variable {α : Type} {p : List α → Bool}

theorem delZ_sub (l : List α) (fr n : Nat) : (delZ l fr n).Sublist l := by
  unfold delZ
  have h : (l.take fr ++ l.drop (fr + n)).Sublist (l.take fr ++ l.drop fr) := by
    refine List.Sublist.append (List.Sublist.refl _) ?_
    rw [Nat.add_comm, ← List.drop_drop]
    first | exact List.drop_sublist _ _ | (rw [List.drop_drop]; exact List.drop_sublist_drop_left _ (by omega))
  rwa [List.take_append_drop] at h

theorem delZ_lt {l : List α} {fr n : Nat} (h : fr < l.length) (hn : 1 ≤ n) : (delZ l fr n).length < l.length := by
  simp only [delZ, List.length_append, List.length_take, List.length_drop]
  omega

theorem delZ_len {l : List α} {fr n : Nat} : (delZ l fr n).length ≤ l.length := (delZ_sub l fr n).length_le

theorem passZ_sub (n : Nat) : ∀ (f : Nat) (b : Bool) (l : List α) (fr : Nat), (passZ p n f b l fr).2.Sublist l
  | 0, b, l, fr => List.Sublist.refl _
  | f + 1, b, l, fr => by
    simp only [passZ]
    split
    · split
      · exact (passZ_sub n f true _ fr).trans (delZ_sub l fr n)
      · exact passZ_sub n f b l _
    · exact List.Sublist.refl _

theorem passZ_false (n : Nat) : ∀ (f : Nat) (b : Bool) (l : List α) (fr : Nat), (passZ p n f b l fr).1 = false → b = false ∧ (passZ p n f b l fr).2 = l
  | 0, b, l, fr, h => ⟨h, rfl⟩
  | f + 1, b, l, fr, h => by
    simp only [passZ] at h ⊢
    split
    · rename_i h1
      rw [if_pos h1] at h
      split
      · rename_i h2
        rw [if_pos h2] at h
        have := (passZ_false n f true _ fr h).1
        cases this
      · rename_i h2
        rw [if_neg h2] at h
        exact passZ_false n f b l _ h
    · rename_i h1
      rw [if_neg h1] at h
      exact ⟨h, rfl⟩

/-- It still holds. -/
theorem passZ_holds (n : Nat) : ∀ (f : Nat) (b : Bool) (l : List α) (fr : Nat), p l = true → p (passZ p n f b l fr).2 = true
  | 0, b, l, fr, h => h
  | f + 1, b, l, fr, h => by
    simp only [passZ]
    split
    · split
      · rename_i h2
        exact passZ_holds n f true _ fr h2
      · exact passZ_holds n f b l _ h
    · exact h

/-- As long as it was: nothing can be taken out. -/
theorem passZ_same (n : Nat) (hn : 1 ≤ n) : ∀ (f : Nat) (b : Bool) (l : List α) (fr : Nat), l.length - fr < f → (passZ p n f b l fr).2.length = l.length → (passZ p n f b l fr).2 = l ∧ ∀ k, fr + k * n < l.length → p (delZ l (fr + k * n) n) = false
  | 0, b, l, fr, hf, h => by omega
  | f + 1, b, l, fr, hf, h => by
    simp only [passZ] at h ⊢
    by_cases h1 : fr < l.length
    · rw [if_pos h1] at h ⊢
      by_cases h2 : p (delZ l fr n) = true
      · rw [if_pos h2] at h
        have a1 := (passZ_sub (p := p) n f true (delZ l fr n) fr).length_le
        have a2 := delZ_lt (n := n) h1 hn
        omega
      · rw [if_neg h2] at h ⊢
        obtain ⟨b1, b2⟩ := passZ_same n hn f b l (fr + n) (by omega) h
        refine ⟨b1, fun k hk => ?_⟩
        cases k with
        | zero => simpa using h2
        | succ k =>
          have := b2 k (by rw [Nat.succ_mul] at hk; omega)
          rw [show fr + (k + 1) * n = fr + n + k * n from by rw [Nat.succ_mul]; omega]
          exact this
    · rw [if_neg h1] at h ⊢
      exact ⟨rfl, fun k hk => by omega⟩

/-- Nothing can be taken out: one pass more changes nothing. -/
theorem passZ_still (n : Nat) (hn : 1 ≤ n) : ∀ (f : Nat) (b : Bool) (l : List α) (fr : Nat), (∀ k, k < l.length → p (delZ l k n) = false) → passZ p n f b l fr = (b, l)
  | 0, b, l, fr, h => rfl
  | f + 1, b, l, fr, h => by
    simp only [passZ]
    split
    · rename_i h1
      rw [if_neg (by rw [h fr h1]; simp)]
      exact passZ_still n hn f b l _ h
    · rfl

theorem pass1_sub (n : Nat) (l : List α) : (pass1 p n l).2.Sublist l := passZ_sub n _ _ _ _
theorem pass1_holds (n : Nat) {l : List α} (h : p l = true) : p (pass1 p n l).2 = true := passZ_holds n _ _ _ _ h

theorem halvZ_sub : ∀ (f n : Nat) (l : List α), (halvZ p f n l).Sublist l
  | 0, n, l => List.Sublist.refl _
  | f + 1, n, l => by
    simp only [halvZ]
    split
    · exact (halvZ_sub f _ _).trans (pass1_sub n l)
    · exact List.Sublist.refl _
theorem halvZ_holds : ∀ (f n : Nat) (l : List α), p l = true → p (halvZ p f n l) = true
  | 0, n, l, h => h
  | f + 1, n, l, h => by
    simp only [halvZ]
    split
    · exact halvZ_holds f _ _ (pass1_holds n h)
    · exact h

theorem settleZ_sub : ∀ (f : Nat) (l : List α), (settleZ p f l).Sublist l
  | 0, l => List.Sublist.refl _
  | f + 1, l => by
    simp only [settleZ]
    split
    · exact pass1_sub 1 l
    · exact (settleZ_sub f _).trans (pass1_sub 1 l)
theorem settleZ_holds : ∀ (f : Nat) (l : List α), p l = true → p (settleZ p f l) = true
  | 0, l, h => h
  | f + 1, l, h => by
    simp only [settleZ]
    split
    · exact pass1_holds 1 h
    · exact settleZ_holds f _ (pass1_holds 1 h)
theorem settleZ_done : ∀ (f : Nat) (l : List α), l.length < f → ∀ k, k < (settleZ p f l).length → p (delZ (settleZ p f l) k 1) = false
  | 0, l, h => by omega
  | f + 1, l, h => by
    simp only [settleZ]
    split
    · rename_i h1
      obtain ⟨a1, a2⟩ := passZ_same (p := p) 1 (Nat.le_refl _) (l.length + 1) false l 0 (by omega) h1
      intro k hk
      have e : (pass1 p 1 l).2 = l := a1
      rw [e] at hk ⊢
      simpa using a2 k (by omega)
    · rename_i h1
      have := (pass1_sub (p := p) 1 l).length_le
      exact settleZ_done f _ (by omega)
theorem settleZ_still (f : Nat) (l : List α) (h : ∀ k, k < l.length → p (delZ l k 1) = false) : settleZ p f l = l := by
  cases f with
  | zero => rfl
  | succ f =>
    have e : pass1 p 1 l = (false, l) := passZ_still 1 (Nat.le_refl _) _ _ _ _ h
    simp only [settleZ, e, if_true]

theorem shrinkZ_sub (l : List α) : (shrinkZ p l).Sublist l := (settleZ_sub _ _).trans (halvZ_sub _ _ _)
theorem shrinkZ_holds {l : List α} (h : p l = true) : p (shrinkZ p l) = true := settleZ_holds _ _ (halvZ_holds _ _ _ h)
theorem shrinkZ_done (l : List α) : ∀ k, k < (shrinkZ p l).length → p (delZ (shrinkZ p l) k 1) = false :=
  settleZ_done _ _ (by have := (halvZ_sub (p := p) (l.length + 1) (max (l.length / 2) 1) l).length_le; omega)

end
end Go.W
