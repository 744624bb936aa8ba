/- A storm's script, in plain Lean. -/
import Derived.Test.YthehmmodkhoieaaWtK
import Derived.Test.YthehmmodkhoieaaWtF
namespace Go.W
set_option linter.unusedSimpArgs false
set_option linter.unusedVariables false

/-- Where a script stands: the source, the numbers handed out, the clock, the events. -/
structure Sto where
  s : Int
  ids : List Int
  now : Int
  out : List (List AV)

def mx0 (n : Int) : Int := if n < 0 then 0 else n

theorem mx0_in {n : Int} (h : n ≤ 10000) : 0 ≤ mx0 n ∧ mx0 n ≤ 10000 := by unfold mx0; split <;> omega

def whoZ (a s : Int) : Int := belowZ s a
def kZ (ma mt md s : Int) : Int := belowZ (nextS s) (mx0 ma + mx0 mt + mx0 md + 4)

def evR (k who n x0 x1 x2 x3 x4 x5 x6 x7 x8 : Int) : List AV := [.int .i64 k, .int .i64 who, .int .i64 n, .int .i64 x0, .int .i64 x1, .int .i64 x2, .int .i64 x3, .int .i64 x4, .int .i64 x5, .int .i64 x6, .int .i64 x7, .int .i64 x8]

/-- One turn of a script. -/
def stepZ (a b c d ma mt md ms mp mw : Int) (q : Sto) : Sto :=
  if kZ ma mt md q.s < mx0 ma then
    ⟨askS (nextS (nextS q.s)), q.ids.set (whoZ a q.s).toNat (q.ids.getD (whoZ a q.s).toNat 0 + 1), q.now,
      q.out ++ [evR 1 (whoZ a q.s) 0 (askV 0 b c mp mw (q.ids.getD (whoZ a q.s).toNat 0 + 1) q.now (nextS (nextS q.s))) (askV 1 b c mp mw (q.ids.getD (whoZ a q.s).toNat 0 + 1) q.now (nextS (nextS q.s))) (askV 2 b c mp mw (q.ids.getD (whoZ a q.s).toNat 0 + 1) q.now (nextS (nextS q.s))) (askV 3 b c mp mw (q.ids.getD (whoZ a q.s).toNat 0 + 1) q.now (nextS (nextS q.s))) (askV 4 b c mp mw (q.ids.getD (whoZ a q.s).toNat 0 + 1) q.now (nextS (nextS q.s))) (askV 5 b c mp mw (q.ids.getD (whoZ a q.s).toNat 0 + 1) q.now (nextS (nextS q.s))) (askV 6 b c mp mw (q.ids.getD (whoZ a q.s).toNat 0 + 1) q.now (nextS (nextS q.s))) (askV 7 b c mp mw (q.ids.getD (whoZ a q.s).toNat 0 + 1) q.now (nextS (nextS q.s))) (askV 8 b c mp mw (q.ids.getD (whoZ a q.s).toNat 0 + 1) q.now (nextS (nextS q.s)))]⟩
  else if kZ ma mt md q.s < mx0 ma + mx0 mt then
    ⟨nextS (nextS (nextS q.s)), q.ids, clockZ q.now (1 + belowZ (nextS (nextS q.s)) 3), q.out ++ [evR 2 0 (1 + belowZ (nextS (nextS q.s)) 3) 0 0 0 0 0 0 0 0 0]⟩
  else if kZ ma mt md q.s < mx0 ma + mx0 mt + mx0 md then
    ⟨nextS (nextS (nextS q.s)), q.ids, q.now, q.out ++ [evR 4 (whoZ a q.s) (belowZ (nextS (nextS q.s)) (a * b)) 0 0 0 0 0 0 0 0 0]⟩
  else
    ⟨nextS (nextS (nextS (nextS (nextS q.s)))), q.ids, q.now, q.out ++ List.replicate (1 + belowZ (nextS (nextS (nextS (nextS q.s)))) ms).toNat (evR 3 (pickZ (nextS (nextS (nextS q.s))) [whoZ a q.s, whoZ a q.s, belowZ (nextS (nextS q.s)) (a + 2 * (c * d))]) 0 0 0 0 0 0 0 0 0 0)⟩

/-- Turns until there are so many events. -/
def runZ (st : Sto → Sto) (n : Nat) : Nat → Sto → Sto
  | 0, q => q
  | f + 1, q => if q.out.length < n then runZ st n f (st q) else q

theorem run_done {st : Sto → Sto} {n : Nat} {q : Sto} (h : n ≤ q.out.length) : ∀ f, runZ st n f q = q
  | 0 => rfl
  | f + 1 => by rw [runZ, if_neg (by omega)]

theorem run_fuel {st : Sto → Sto} {n : Nat} (hst : ∀ q, q.out.length + 1 ≤ (st q).out.length) : ∀ (f f' : Nat) (q : Sto), n ≤ q.out.length + f → n ≤ q.out.length + f' → runZ st n f q = runZ st n f' q
  | 0, f', q, h, _ => by rw [run_done (by omega), run_done (by omega)]
  | f + 1, 0, q, _, h => by rw [run_done (by omega), run_done (by omega)]
  | f + 1, f' + 1, q, h, h' => by
    simp only [runZ]
    have := hst q
    split
    · exact run_fuel hst f f' _ (by omega) (by omega)
    · rfl

theorem run_step {st : Sto → Sto} {n : Nat} (hst : ∀ q, q.out.length + 1 ≤ (st q).out.length) {q : Sto} (h : q.out.length < n) : runZ st n (n - (st q).out.length) (st q) = runZ st n (n - q.out.length) q := by
  obtain ⟨f, hf⟩ : ∃ f, n - q.out.length = f + 1 := ⟨n - q.out.length - 1, by omega⟩
  rw [hf, runZ, if_pos h]
  have := hst q
  exact run_fuel hst _ _ _ (by omega) (by omega)

/-- More events begin as fewer do. -/
theorem run_begins {st : Sto → Sto} {n N : Nat} (hN : n ≤ N) (hst : ∀ q, q.out.length + 1 ≤ (st q).out.length) (happ : ∀ q, ∃ r, (st q).out = q.out ++ r) : ∀ (f : Nat) (q : Sto), N ≤ q.out.length + f → ∃ r, (runZ st N f q).out = (runZ st n f q).out ++ r
  | 0, q, h => ⟨[], by simp [runZ]⟩
  | f + 1, q, h => by
    have h1 := hst q
    by_cases h2 : q.out.length < n
    · rw [runZ, if_pos (by omega), runZ, if_pos h2]
      exact run_begins hN hst happ f _ (by omega)
    · rw [run_done (n := n) (by omega)]
      have more : ∀ (g : Nat) (q : Sto), ∃ r, (runZ st N g q).out = q.out ++ r := by
        intro g
        induction g with
        | zero => intro q; exact ⟨[], by simp [runZ]⟩
        | succ g ih =>
          intro q
          rw [runZ]
          split
          · obtain ⟨r, hr⟩ := ih (st q)
            obtain ⟨r', hr'⟩ := happ q
            exact ⟨r' ++ r, by rw [hr, hr', List.append_assoc]⟩
          · exact ⟨[], by simp⟩
      exact more _ _

theorem run_full {st : Sto → Sto} {n : Nat} (hst : ∀ q, q.out.length + 1 ≤ (st q).out.length) : ∀ (f : Nat) (q : Sto), n ≤ q.out.length + f → n ≤ (runZ st n f q).out.length
  | 0, q, h => by rw [runZ]; omega
  | f + 1, q, h => by
    have := hst q
    rw [runZ]
    split
    · exact run_full hst f _ (by omega)
    · omega

theorem step_more (a b c d ma mt md ms mp mw : Int) (q : Sto) : q.out.length + 1 ≤ (stepZ a b c d ma mt md ms mp mw q).out.length := by
  unfold stepZ
  (repeat' split) <;> simp
  have : 0 ≤ belowZ (nextS (nextS (nextS (nextS q.s)))) ms := by
    by_cases h : 1 ≤ ms
    · exact (below_in h).1
    · rw [belowZ, if_pos (by omega)]
      exact Int.le_refl 0
  omega

theorem step_app (a b c d ma mt md ms mp mw : Int) (q : Sto) : ∃ r, (stepZ a b c d ma mt md ms mp mw q).out = q.out ++ r := by
  unfold stepZ
  (repeat' split) <;> exact ⟨_, rfl⟩

theorem row_evR (k who n x0 x1 x2 x3 x4 x5 x6 x7 x8 : Int) : row12 (evR k who n x0 x1 x2 x3 x4 x5 x6 x7 x8) = true := rfl

/-- What holds of a script at each turn. -/
structure Keeps (A n : Nat) (q : Sto) : Prop where
  rows : q.out.all row12 = true
  len : q.ids.length = A
  num : ∀ x ∈ q.ids, 0 ≤ x ∧ x ≤ q.out.length
  now : 0 ≤ q.now ∧ q.now ≤ 1000000
  few : q.out.length ≤ n + 10001

theorem Keeps.step {a b c d ma mt md ms mp mw : Int} {A n : Nat} {q : Sto} (h : Keeps A n q) (hl : q.out.length < n) (hms : ms ≤ 10000) : Keeps A n (stepZ a b c d ma mt md ms mp mw q) := by
  obtain ⟨h1, h2, h3, h4, h5⟩ := h
  have hx : 0 ≤ belowZ (nextS (nextS (nextS (nextS q.s)))) ms ∧ belowZ (nextS (nextS (nextS (nextS q.s)))) ms ≤ 10000 := by
    by_cases h : 1 ≤ ms
    · have := below_in (s := nextS (nextS (nextS (nextS q.s)))) h; omega
    · rw [belowZ, if_pos (by omega)]; omega
  have up : ∀ (r : List (List AV)), ∀ x ∈ q.ids, 0 ≤ x ∧ x ≤ (q.out ++ r).length := fun r x hx => by have := h3 x hx; simp; omega
  unfold stepZ
  split
  · refine ⟨by simp [h1, row_evR], by simp [h2], fun x hx => ?_, h4, by simp; omega⟩
    rcases List.mem_or_eq_of_mem_set hx with hx | hx
    · exact up _ x hx
    · have : 0 ≤ q.ids.getD (whoZ a q.s).toNat 0 ∧ q.ids.getD (whoZ a q.s).toNat 0 ≤ q.out.length := by
        rw [List.getD_eq_getElem?_getD]
        cases hg : q.ids[(whoZ a q.s).toNat]? with
        | none => simp
        | some y => exact h3 y (List.mem_of_getElem? hg)
      subst hx
      simp only [List.length_append, List.length_cons, List.length_nil]
      omega
  · split
    · have hb := below_in (s := nextS (nextS q.s)) (n := 3) (by omega)
      exact ⟨by simp [h1, row_evR], h2, up _, clock_in h4.1 (by omega), by simp; omega⟩
    · split
      · exact ⟨by simp [h1, row_evR], h2, up _, h4, by simp; omega⟩
      · exact ⟨by simp [h1, row_evR], h2, up _, h4, by simp; omega⟩

end Go.W
