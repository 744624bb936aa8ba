/- Comparing; slices; append; literals. -/
import Derived.Test.YtmbploeikjangaaGreatWC
import Derived.Laws.StructEq
import Derived.ChangeKeysEq
set_option linter.unusedSimpArgs false
set_option linter.unusedVariables false
namespace Go.W

section
variable {P : Program} {w0 : World} {S : Sc} {Es : Env → Prop} {U : Nm → Prop} {T : Nat → AV} {H : Nm → AObj} {a : Act} {w : World}

/-- Has a value the shape of its type? -/
def shapeOk (P : Program) (t : TypeId) (v : Value) : Prop :=
  match P.underlying t with
  | some (.struct _) | some (.array _ _) => ∃ cs, v = .agg cs
  | _ => v.oneCell' = true

theorem eqL_append {ks ls : List LK} : ∀ {as bs cs ds : List AV} {b : Bool}, as.length = ks.length → bs.length = ks.length → eqL (ks ++ ls) (as ++ cs) (bs ++ ds) = some b → ∃ x y, eqL ks as bs = some x ∧ eqL ls cs ds = some y ∧ b = (x && y) := by
  induction ks with
  | nil =>
    intro as bs cs ds b h1 h2 h
    simp at h1 h2
    subst h1; subst h2
    exact ⟨true, b, rfl, by simpa using h, by simp⟩
  | cons k ks ih =>
    intro as bs cs ds b h1 h2 h
    match as, bs with
    | a :: as, c :: bs =>
      simp only [List.cons_append, eqL] at h
      cases h3 : eq1 k a c with
      | none => simp [h3] at h
      | some x0 =>
        cases h4 : eqL (ks ++ ls) (as ++ cs) (bs ++ ds) with
        | none => simp [h3, h4] at h
        | some y0 =>
          simp only [h3, h4, Option.some.injEq] at h
          obtain ⟨x, y, e1, e2, e3⟩ := ih (by simpa using h1) (by simpa using h2) h4
          exact ⟨x0 && x, y, by simp [eqL, h3, e1], e2, by rw [← h, e3, Bool.and_assoc]⟩
    | [], _ => simp at h1
    | _ :: _, [] => simp at h2

/-- A part of an aggregate. -/
theorem part_ok {e : TypeId} {k : Nat} (hk : szOf P e = some k) {d : TypeDesc} (hu : P.underlying e = some d) (hl : d.isRow = false → k = 1) {xs : Array Value} {off : Nat} (hle : off + k ≤ xs.size) (h1 : d.isRow = false → ∀ v ∈ xs.toList, v.oneCell' = true) :
    ∃ u, (part e xs off).run P w = .ok u w ∧ u.cells.toList = (xs.toList.drop off).take k ∧ shapeOk P e u := by
  cases hr : d.isRow with
  | true =>
    refine ⟨.agg (xs.extract off (off + k)), ?_, ?_, ?_⟩
    · have : isAg P e = some true := by unfold isAg; rw [hu]; cases d <;> simp_all
      simp [part, run_isAg this, run_szOf hk]
    · simp [Value.cells, Array.toList_extract, List.extract]
    · unfold shapeOk; rw [hu]; cases d <;> simp_all
  | false =>
    have hk1 := hl hr
    subst hk1
    have hlt : off < xs.size := by omega
    have hv := h1 hr xs[off] (by rw [← Array.getElem_toList (h := by simpa using hlt)]; exact List.getElem_mem _)
    refine ⟨xs[off], ?_, ?_, ?_⟩
    · have : isAg P e = some false := by unfold isAg; rw [hu]; cases d <;> simp_all
      simp [part, run_isAg this, Array.getElem?_eq_getElem hlt]
    · have hc : (xs[off]).cells = #[xs[off]] := by generalize xs[off] = v at hv; cases v <;> first | rfl | (simp [Value.oneCell'] at hv)
      rw [hc, List.drop_eq_getElem_cons (by simpa using hlt)]
      simp
    · unfold shapeOk; rw [hu]; cases d <;> simp_all

theorem flatAt_some {d : Nat} {t : TypeId} {ks : List LK} (h : flatAt P d t = some ks) : ∃ dd, P.underlying t = some dd ∧ (dd.isRow = false → ks.length = 1) := by
  cases d with
  | zero => cases h
  | succ d =>
    unfold flatAt at h
    cases hu : P.underlying t with
    | none => simp [hu] at h
    | some dd => refine ⟨dd, rfl, fun hr => ?_⟩; cases dd <;> simp [hu] at h <;> first | (subst h; rfl) | (simp at hr)

def kindOk (P : Program) (t : TypeId) : LK → Prop
  | .b => P.underlying t = some .bool
  | .i => ∃ q, P.underlying t = some (.int q)
  | .s => P.underlying t = some .string

theorem eq1_run {k : LK} {x y : AV} {b : Bool} {u v : Value} {ρ : Env} (h : eq1 k x y = some b) (hx : Rep ρ x u) (hy : Rep ρ y v) (D : Nat) (t : TypeId)
    (hk : kindOk P t k) : (Op.equalIn (D + 1) t u v).run P w = .ok b w := by
  cases k <;> cases x <;> simp only [eq1, reduceCtorEq] at h <;> cases y <;> simp only [reduceCtorEq, Option.some.injEq] at h <;> simp only [Rep] at hx hy <;> subst hx <;> subst hy
  · rw [run_equalIn_bool w D t _ _ hk, h]
  · obtain ⟨q, hk⟩ := hk
    split at h
    · rename_i hkk
      injection h with h
      subst hkk
      rw [run_equalIn_int w D t _ _ _ _ hk, ← h]
      congr 1
    · cases h
  · rw [run_equalIn_string w D t _ _ hk, ← h, beq_toListBytes]

theorem cells_split {ρ : Env} {as : List AV} {us : List Value} (h : RepL ρ as us) (off k : Nat) : RepL ρ ((as.drop off).take k) ((us.drop off).take k) := (h.drop off).take k

theorem equal_flat : ∀ (d D : Nat) (t : TypeId) (ks : List LK), flatAt P d t = some ks → ∀ (ρ : Env) (as bs : List AV) (u v : Value) (b : Bool) (w : World), RepL ρ as u.cells.toList → RepL ρ bs v.cells.toList → as.length = ks.length → bs.length = ks.length →
    shapeOk P t u → shapeOk P t v → (∀ x ∈ u.cells.toList, x.oneCell' = true) → (∀ x ∈ v.cells.toList, x.oneCell' = true) → eqL ks as bs = some b → (Op.equalIn (D + d) t u v).run P w = .ok b w
  | 0, _, _, _, h => by cases h
  | d + 1, D, t, ks, h => by
    intro ρ as bs u v b w hu hv ha hb su sv ou ov he
    have leaf : ∀ (k : LK), ks = [k] → kindOk P t k → (Op.equalIn (D + (d + 1)) t u v).run P w = .ok b w := by
      intro k hk ht
      subst hk
      have hnr : u.oneCell' = true ∧ v.oneCell' = true := by
        unfold shapeOk at su sv
        cases k with
        | b => simp only [kindOk] at ht; rw [ht] at su sv; exact ⟨su, sv⟩
        | i => obtain ⟨q, ht⟩ := ht; rw [ht] at su sv; exact ⟨su, sv⟩
        | s => simp only [kindOk] at ht; rw [ht] at su sv; exact ⟨su, sv⟩
      have hcu : u.cells = #[u] := by cases u <;> first | rfl | (simp [Value.oneCell'] at hnr)
      have hcv : v.cells = #[v] := by cases v <;> first | rfl | (simp [Value.oneCell'] at hnr)
      rw [hcu] at hu
      rw [hcv] at hv
      match as, bs, ha, hb with
      | [x], [y], _, _ =>
        simp only [RepL, List.cons.injEq] at hu hv
        obtain ⟨_, _, ⟨rfl, rfl⟩, hu, _⟩ := hu
        obtain ⟨_, _, ⟨rfl, rfl⟩, hv, _⟩ := hv
        simp only [eqL] at he
        cases h3 : eq1 k x y with
        | none => simp [h3] at he
        | some x0 =>
          simp [h3] at he
          subst he
          exact eq1_run h3 hu hv (D + d) t ht
    unfold flatAt at h
    cases ht : P.underlying t with
    | none => simp [ht] at h
    | some dd =>
      cases dd <;> simp only [ht, reduceCtorEq, Option.some.injEq] at h
      case bool => exact leaf .b h.symm ht
      case int q => exact leaf .i h.symm ⟨q, ht⟩
      case string => exact leaf .s h.symm ht
      case struct fs =>
        split at h
        · rename_i hsi
          have hfo : P.fieldsOf t = fs := by simp [Program.fieldsOf, ht]
          obtain ⟨us, rfl⟩ : ∃ cs, u = .agg cs := by simpa [shapeOk, ht] using su
          obtain ⟨vs, rfl⟩ : ∃ cs, v = .agg cs := by simpa [shapeOk, ht] using sv
          show (Op.equalIn ((D + d) + 1) t (.agg us) (.agg vs)).run P w = .ok b w
          rw [run_equalIn_struct w (D + d) t us vs (by rw [hfo]; exact ht) hsi, hfo]
          simp only [Value.cells] at hu hv ou ov
          have main : ∀ (l : List Field) (off : Nat) (kl : List LK) (b : Bool), flatFields P (flatAt P d) l off = some kl → off + kl.length = ks.length → eqL kl (as.drop off) (bs.drop off) = some b → (Op.eqFields (D + d) us vs l).run P w = .ok b w := by
            intro l
            induction l with
            | nil =>
              intro off kl b hf hle heq
              simp only [flatFields, Option.some.injEq] at hf
              subst hf
              have e1 : as.drop off = [] := by simp at hle ⊢; omega
              have e2 : bs.drop off = [] := by simp at hle ⊢; omega
              rw [e1, e2] at heq
              simp [eqL] at heq
              subst heq
              simp [Op.eqFields]
            | cons f fs ih =>
              intro off kl b hf hle heq
              simp only [flatFields] at hf
              cases h5 : flatAt P d f.type with
              | none => simp [h5] at hf
              | some k =>
                cases h6 : flatFields P (flatAt P d) fs (off + (szOf P f.type).getD 0) with
                | none => simp [h5, h6] at hf
                | some r =>
                  simp only [h5, h6] at hf
                  split at hf
                  · rename_i hc
                    obtain ⟨hn, hoff, hsz⟩ := hc
                    injection hf with hf
                    subst hf
                    rw [hsz] at h6
                    simp only [Option.getD_some] at h6
                    simp only [List.length_append] at hle
                    obtain ⟨dd, hd1, hd2⟩ := flatAt_some h5
                    have hul := hu.length
                    have hvl := hv.length
                    obtain ⟨pu, q1, q2, q3⟩ := part_ok (w := w) hsz hd1 hd2 (xs := us) (off := f.offset) (by rw [← Array.length_toList]; omega) (fun _ => ou)
                    obtain ⟨pv, s1, s2, s3⟩ := part_ok (w := w) hsz hd1 hd2 (xs := vs) (off := f.offset) (by rw [← Array.length_toList]; omega) (fun _ => ov)
                    rw [← List.take_append_drop k.length (as.drop off), ← List.take_append_drop k.length (bs.drop off)] at heq
                    obtain ⟨x, y, e1, e2, e3⟩ := eqL_append (by simp; omega) (by simp; omega) heq
                    have r1 := equal_flat d D f.type k h5 ρ _ _ pu pv x w (by rw [q2, hoff]; exact cells_split hu off k.length) (by rw [s2, hoff]; exact cells_split hv off k.length) (by simp; omega) (by simp; omega) q3 s3
                      (by rw [q2]; exact fun z hz => ou z (List.mem_of_mem_drop (List.mem_of_mem_take hz))) (by rw [s2]; exact fun z hz => ov z (List.mem_of_mem_drop (List.mem_of_mem_take hz))) e1
                    rw [List.drop_drop, List.drop_drop] at e2
                    have r2 := ih (off + k.length) r y h6 (by omega) e2
                    simp only [Op.eqFields, hn, ne_eq, not_false_eq_true, if_true, Sem.run_bind, q1, s1, r1, Result.andThen_ok]
                    subst e3
                    cases x
                    · simp
                    · simpa using r2
                  · cases hf
          exact main fs.toList 0 ks b h (by simp) (by simpa using he)
        · cases h
      case array n e =>
        cases h5 : flatAt P d e with
        | none => simp [h5] at h
        | some k =>
          simp only [h5] at h
          split at h
          · rename_i hsz
            injection h with h
            obtain ⟨us, rfl⟩ : ∃ cs, u = .agg cs := by simpa [shapeOk, ht] using su
            obtain ⟨vs, rfl⟩ : ∃ cs, v = .agg cs := by simpa [shapeOk, ht] using sv
            obtain ⟨i, hi, hi2⟩ : ∃ i, P.info? e = some i ∧ i.size = k.length := by
              unfold szOf at hsz
              cases hq : P.info? e with
              | none => simp [hq] at hsz
              | some i => simp [hq] at hsz; exact ⟨i, rfl, hsz⟩
            show (Op.equalIn ((D + d) + 1) t (.agg us) (.agg vs)).run P w = .ok b w
            rw [run_equalIn_array w (D + d) us vs ht hi]
            have hco : P.cellsOf e = k.length := by simp [Program.cellsOf, hi, hi2]
            rw [hco]
            simp only [Value.cells] at hu hv ou ov
            obtain ⟨dd, hd1, hd2⟩ := flatAt_some h5
            have hul := hu.length
            have hvl := hv.length
            have hks : ks.length = n * k.length := by rw [← h]; simp
            have main : ∀ (m : Nat) (j : Nat) (b : Bool), j + m = n → eqL (List.replicate m k).flatten (as.drop (j * k.length)) (bs.drop (j * k.length)) = some b → (Op.eqItems (D + d) e k.length us vs (List.range' j m)).run P w = .ok b w := by
              intro m
              induction m with
              | zero =>
                intro j b hj heq
                have hj' : j = n := by omega
                subst hj'
                have e1 : as.drop (j * k.length) = [] := by simp; omega
                have e2 : bs.drop (j * k.length) = [] := by simp; omega
                rw [e1, e2] at heq
                simp [eqL] at heq
                subst heq
                simp [Op.eqItems]
              | succ m ih =>
                intro j b hj heq
                have hm : (j + 1) * k.length ≤ n * k.length := Nat.mul_le_mul_right _ (by omega)
                rw [Nat.add_mul, Nat.one_mul] at hm
                obtain ⟨pu, q1, q2, q3⟩ := part_ok (w := w) hsz hd1 hd2 (xs := us) (off := j * k.length) (by rw [← Array.length_toList]; omega) (fun _ => ou)
                obtain ⟨pv, s1, s2, s3⟩ := part_ok (w := w) hsz hd1 hd2 (xs := vs) (off := j * k.length) (by rw [← Array.length_toList]; omega) (fun _ => ov)
                rw [List.replicate_succ, List.flatten_cons, ← List.take_append_drop k.length (as.drop (j * k.length)), ← List.take_append_drop k.length (bs.drop (j * k.length))] at heq
                obtain ⟨x, y, e1, e2, e3⟩ := eqL_append (by simp; omega) (by simp; omega) heq
                have r1 := equal_flat d D e k h5 ρ _ _ pu pv x w (by rw [q2]; exact cells_split hu _ k.length) (by rw [s2]; exact cells_split hv _ k.length) (by simp; omega) (by simp; omega) q3 s3
                  (by rw [q2]; exact fun z hz => ou z (List.mem_of_mem_drop (List.mem_of_mem_take hz))) (by rw [s2]; exact fun z hz => ov z (List.mem_of_mem_drop (List.mem_of_mem_take hz))) e1
                rw [List.drop_drop, List.drop_drop] at e2
                have r2 := ih (j + 1) y (by omega) (by rw [Nat.add_mul, Nat.one_mul]; exact e2)
                rw [List.range'_succ]
                simp only [Op.eqItems, Sem.run_bind, q1, s1, r1, Result.andThen_ok]
                subst e3
                cases x
                · simp
                · simpa using r2
            rw [List.range_eq_range']
            exact main n 0 b (by omega) (by rw [h]; simpa using he)
          · cases h

end
end Go.W
