/- Slices, append, make, literals. -/
import Derived.Test.YtmbploeikjangaaGreatWE
set_option linter.unusedSimpArgs false
set_option linter.unusedVariables false
namespace Go.W

section
variable {P : Program} {w0 : World} {S : Sc} {Es : Env → Prop} {U : Nm → Prop} {T : Nat → AV} {H : Nm → AObj} {a : Act} {w : World}

theorem run_slice_of (t e : TypeId) (ht : P.underlying t = some (.slice e)) {n : Nat} (hn : szOf P e = some n) (ad : Option Addr) (len cap : Nat) (lo hi : Option Value) (l h : Int)
    (hlo : lo.elim (l = 0) (fun v => ∃ k, v = .int k l)) (hhi : hi.elim (h = len) (fun v => ∃ k, v = .int k h)) (h0 : 0 ≤ l) (h1 : l ≤ h) (h2 : h ≤ cap) :
    (Instr.sliceAt t (.slice ad len cap) lo hi none).run P w = .ok (.slice (if cap = l.toNat then ad else ad.map (·.add (l.toNat * n))) (h.toNat - l.toNat) (cap - l.toNat)) w := by
  have he : P.elem t = e := by simp [Program.elem, ht]
  have ht' : P.underlying t = some (.slice (P.elem t)) := by rw [he]; exact ht
  have hs : (sizeOf (P.elem t)).run P w = .ok n w := by rw [he]; exact run_szOf hn
  rw [run_sliceAt_slice w t _ _ _ _ ht']
  cases lo with
  | none =>
    simp only [Option.elim] at hlo
    subst hlo
    cases hi with
    | none =>
      simp only [Option.elim] at hhi
      subst hhi
      rw [run_slice_all w t ad len cap ht', hs]
      rfl
    | some v =>
      obtain ⟨k, rfl⟩ := hhi
      rw [run_slice_h w t ad len cap ht' k h (by omega) h2, hs]
      rfl
  | some u =>
    obtain ⟨k, rfl⟩ := hlo
    cases hi with
    | none =>
      simp only [Option.elim] at hhi
      subst hhi
      rw [run_slice_l w t ad len cap ht' k l h0 h1, hs]
      rfl
    | some v =>
      obtain ⟨k', rfl⟩ := hhi
      rw [run_slice_lh w t ad len cap ht' k k' l h h0 h1 h2, hs]
      rfl

theorem does_slc (h : Sat w0 S Es U T H a w) {o : Oper} {F : Nm → Prop} (t : TypeId) (x : Operand) (lo hi : Option Operand) (ho : o.op = .slice t x lo hi none) {e : TypeId} (ht : P.underlying t = some (.slice e)) {n : Nat} (hn : szOf P e = some n)
    {z : Nm} {s m : Nat} (hx : (rX x).ev T = .sl z s m) {kl kh : IntKind} {l hh : Int} (hl : (lo.map rX).elim (AV.int .i64 0) (X.ev T) = .int kl l) (hhi : (hi.map rX).elim (AV.int .i64 m) (X.ev T) = .int kh hh) (h0 : 0 ≤ l) (h1 : l ≤ hh) (h2 : hh ≤ m) (hso : szObj (H z) = some n) :
    Does P w0 S Es H a w o ⟨.sl z (s + l.toNat) (hh.toNat - l.toNat), [], [z]⟩ F := by
  refine Does.pure h rfl fun ρ hρ => ?_
  have hv := h.ev hρ x
  rw [hx, Rep] at hv
  have q1 : (lo.map a.eval).elim (l = 0) (fun v => ∃ k, v = .int k l) := by
    cases lo with
    | none => simp at hl ⊢; exact hl.2.symm
    | some y => have := h.ev hρ y; simp at hl ⊢; rw [hl, Rep] at this; exact ⟨_, this⟩
  have q2 : ∀ len : Nat, m = len → (hi.map a.eval).elim (hh = len) (fun v => ∃ k, v = .int k hh) := by
    intro len e
    cases hi with
    | none => simp at hhi ⊢; omega
    | some y => have := h.ev hρ y; simp at hhi ⊢; rw [hhi, Rep] at this; exact ⟨_, this⟩
  rcases hv with ⟨hnil, rfl, rfl, ad, hv⟩ | ⟨hnil, hle, off, hv, hoff⟩
  · have : l = 0 := by omega
    have : hh = 0 := by omega
    subst l hh
    have hr := run_slice_of (w := w) t e ht hn ad 0 0 _ _ 0 0 q1 (q2 0 rfl) (by omega) (by omega) (by omega)
    refine ⟨.slice ad 0 0, ?_, by rw [Rep]; exact .inl ⟨hnil, rfl, rfl, ad, rfl⟩⟩
    simp [execOp, ho, hv, hr]
  · have hz := sz_of ((h.hp ρ hρ).obj z) hso hnil
    have hr := run_slice_of (w := w) t e ht hn (some ⟨(ρ z).blk, off, none⟩) m ((ρ z).cap - s) _ _ l hh q1 (q2 m rfl) h0 h1 (by omega)
    refine ⟨_, by simp [execOp, ho, hv, hr]; rfl, ?_⟩
    rw [Rep]
    refine .inr ⟨hnil, by omega, if (ρ z).cap - s = l.toNat then off else off + l.toNat * n, ?_, fun hlt => ?_⟩
    · by_cases hc : (ρ z).cap - s = l.toNat
      · rw [if_pos hc, if_pos hc]; congr 1; omega
      · rw [if_neg hc, if_neg hc]
        simp only [Addr.add_mid]
        congr 1; omega
    · rw [if_neg (by omega), hoff (by omega), hz, Nat.add_mul]; omega

theorem does_slc_nil (h : Sat w0 S Es U T H a w) {o : Oper} {F : Nm → Prop} (t : TypeId) (x : Operand) (lo hi : Option Operand) (ho : o.op = .slice t x lo hi none) {e : TypeId} (ht : P.underlying t = some (.slice e)) {n : Nat} (hn : szOf P e = some n)
    (hx : (rX x).ev T = .nsl) {kl kh : IntKind} (hl : (lo.map rX).elim (AV.int .i64 0) (X.ev T) = .int kl 0) (hhi : (hi.map rX).elim (AV.int .i64 0) (X.ev T) = .int kh 0) :
    Does P w0 S Es H a w o ⟨.nsl, [], []⟩ F := by
  refine Does.pure h rfl fun ρ hρ => ?_
  have hv := h.ev hρ x
  rw [hx, Rep] at hv
  obtain ⟨ad, hv⟩ := hv
  have q1 : (lo.map a.eval).elim ((0 : Int) = 0) (fun v => ∃ k, v = .int k 0) := by
    cases lo with
    | none => simp
    | some y => have := h.ev hρ y; simp at hl ⊢; rw [hl, Rep] at this; exact ⟨_, this⟩
  have q2 : (hi.map a.eval).elim ((0 : Int) = (0 : Nat)) (fun v => ∃ k, v = .int k 0) := by
    cases hi with
    | none => simp
    | some y => have := h.ev hρ y; simp at hhi ⊢; rw [hhi, Rep] at this; exact ⟨_, this⟩
  have hr := run_slice_of (w := w) t e ht hn ad 0 0 _ _ 0 0 q1 q2 (by omega) (by omega) (by omega)
  exact ⟨.slice ad 0 0, by simp [execOp, ho, hv, hr], by rw [Rep]; exact ⟨ad, rfl⟩⟩

/-- The cells of n elements that lie at an address. -/
def grab (w : World) (b off k : Nat) : List Value := (List.range k).map fun j => (w.cell? ⟨b, off + j, none⟩).getD undef

theorem grab_length (w : World) (b off k : Nat) : (grab w b off k).length = k := by simp [grab]

theorem grab_get {b off k j : Nat} {u : Value} (h : (grab w b off k)[j]? = some u) : j < k ∧ u = (w.cell? ⟨b, off + j, none⟩).getD undef := by
  have hj : j < k := by have := (List.getElem?_eq_some_iff.1 h).1; simpa [grab] using this
  simp [grab, hj] at h
  exact ⟨hj, h.symm⟩

/-- What a slice's elements read as. -/
theorem reg_grab {ρ : Env} {L : Loc} {sz n : Nat} {f : Nat → List AV} (h : Reg ρ L sz n f w) {i m : Nat} (hm : i + m ≤ n) : (∀ j u, (grab w L.blk (L.base + i * sz) (m * sz))[j]? = some u → w.cell? ⟨L.blk, L.base + i * sz + j, none⟩ = some u) ∧
    (∀ u ∈ grab w L.blk (L.base + i * sz) (m * sz), u.oneCell' = true) ∧ ∀ j, j < m → ∀ (k : Nat) (v : AV), (f (i + j))[k]? = some v → ∃ u, (grab w L.blk (L.base + i * sz) (m * sz))[j * sz + k]? = some u ∧ Rep ρ v u ∧ u.oneCell' = true := by
  have key : ∀ j, j < m → ∀ (k : Nat), k < sz → ∃ u, w.cell? ⟨L.blk, L.base + i * sz + (j * sz + k), none⟩ = some u ∧ u.oneCell' = true ∧ ∀ v, (f (i + j))[k]? = some v → Rep ρ v u := by
    intro j hj k hk
    have hl := h.len (i + j) (by omega)
    obtain ⟨u, h1, h2, h3⟩ := h.cell (i + j) (by omega) k (f (i + j))[k] (List.getElem?_eq_getElem (by omega))
    refine ⟨u, ?_, h3, fun v hv => ?_⟩
    · rw [← h1, Nat.add_mul]; congr 2; omega
    · rw [List.getElem?_eq_getElem (by omega)] at hv; injection hv with hv; rw [← hv]; exact h2
  have key2 : ∀ j, j < m * sz → ∃ u, w.cell? ⟨L.blk, L.base + i * sz + j, none⟩ = some u ∧ u.oneCell' = true := by
    intro j hj
    have hs : 0 < sz := Nat.pos_of_ne_zero fun e => by subst e; simp at hj
    have h1 : j / sz < m := (Nat.div_lt_iff_lt_mul hs).2 hj
    obtain ⟨u, h2, h3, _⟩ := key (j / sz) h1 (j % sz) (Nat.mod_lt _ hs)
    rw [Nat.div_add_mod' j sz] at h2
    exact ⟨u, h2, h3⟩
  refine ⟨fun j u hu => ?_, fun u hu => ?_, fun j hj k v hv => ?_⟩
  · obtain ⟨hj, rfl⟩ := grab_get hu
    obtain ⟨u, h1, _⟩ := key2 j hj
    rw [h1]; rfl
  · obtain ⟨j, hj0⟩ := List.mem_iff_getElem?.1 hu
    obtain ⟨hj, rfl⟩ := grab_get hj0
    obtain ⟨u, h1, h2⟩ := key2 j hj
    rw [h1]; exact h2
  · have hl := h.len (i + j) (by omega)
    have hk : k < sz := by have := (List.getElem?_eq_some_iff.1 hv).1; omega
    obtain ⟨u, h1, h2, h3⟩ := key j hj k hk
    have hlt : j * sz + k < m * sz := by
      have : (j + 1) * sz ≤ m * sz := Nat.mul_le_mul_right _ hj
      rw [Nat.add_mul] at this; omega
    exact ⟨u, by simp [grab, hlt, h1], h3 v hv, h2⟩

theorem src_empty (w : World) {sz : Nat} {tx e' : TypeId} (ht : P.underlying tx = some (.slice e')) (ad : Option Addr) : Src P sz tx (.slice ad 0 0) 0 [] w := by
  cases ad with
  | none => exact Src.ofNil w ht 0
  | some b => exact Src.ofSlice w ht _ 0 _ [] (by simp) (by simp) (by simp)

theorem readSl_raw {H : Nm → AObj} {v : Value} {n' sz : Nat} {g : Nat → List AV} {rd : List Nm} (h : readSl H (.raw v) = some (n', g, rd, sz)) : ∃ ad c, v = .slice (some ad) 0 c ∧ n' = 0 := by
  cases v with
  | slice a l c =>
    cases a with
    | none => simp [readSl] at h
    | some ad => cases l with
      | zero => simp only [readSl, Option.some.injEq, Prod.mk.injEq] at h; exact ⟨ad, c, rfl, h.1.symm⟩
      | succ l => simp [readSl] at h
  | _ => simp [readSl] at h

/-- The second argument of an append. -/
theorem src_of (h : Sat w0 S Es U T H a w) {y : Operand} {n' sz' sz : Nat} {g : Nat → List AV} {rd : List Nm} (hy : readSl H ((rX y).ev T) = some (n', g, rd, sz')) (hsz : n' = 0 ∨ sz' = sz) {tx e' : TypeId} (ht : P.underlying tx = some (.slice e')) :
    ∃ news, Src P sz tx (a.eval y) n' news w ∧ ∀ ρ, Es ρ → ∀ j, j < n' → (g j).length = sz ∧ ∀ (k : Nat) (v : AV), (g j)[k]? = some v → ∃ u, news[j * sz + k]? = some u ∧ Rep ρ v u ∧ u.oneCell' = true := by
  obtain ⟨ρ0, h0⟩ := h.ne
  have pt : ∀ ρ, Es ρ → ∃ news, Src P sz tx (a.eval y) n' news w ∧ (∀ j, j < n' → (g j).length = sz ∧ ∀ (k : Nat) (v : AV), (g j)[k]? = some v → ∃ u, news[j * sz + k]? = some u ∧ Rep ρ v u ∧ u.oneCell' = true) ∧
      ∀ b off n c, a.eval y = .slice (some ⟨b, off, none⟩) n c → news = grab w b off (n' * sz) := by
    intro ρ hρ
    have h1 := h.ev hρ y
    revert hy
    generalize (rX y).ev T = ay at h1
    intro hy
    cases ay <;> (try simp only [readSl, reduceCtorEq] at hy)
    case raw v =>
      obtain ⟨ad, c, rfl, rfl⟩ := readSl_raw hy
      rw [Rep] at h1
      rw [h1]
      exact ⟨[], Src.ofSlice w ht _ 0 _ [] (by simp) (by simp) (by simp), fun j hj => by omega, fun b off n c e => by simp [grab]⟩
    case nsl =>
      simp only [Option.some.injEq, Prod.mk.injEq] at hy
      obtain ⟨rfl, rfl, rfl, rfl⟩ := hy
      rw [Rep] at h1
      obtain ⟨ad, h1⟩ := h1
      rw [h1]
      exact ⟨[], src_empty w ht ad, fun j hj => by omega, fun b off n c e => by simp [grab]⟩
    case sl z i n =>
      have reg : ∀ {szo m : Nat} {f : Nat → List AV}, ((ρ z).nil = true ∧ m = 0 ∨ Reg ρ (ρ z) szo m f w) → i + n ≤ m → n' = n → (g = fun j => f (i + j)) → sz' = szo → ∃ news, Src P sz tx (a.eval y) n' news w ∧ (∀ j, j < n' → (g j).length = sz ∧ ∀ (k : Nat) (v : AV), (g j)[k]? = some v → ∃ u, news[j * sz + k]? = some u ∧ Rep ρ v u ∧ u.oneCell' = true) ∧
          ∀ b off n c, a.eval y = .slice (some ⟨b, off, none⟩) n c → news = grab w b off (n' * sz) := by
        intro szo m f hr hle hn hg hs
        subst hn hg hs
        rw [Rep] at h1
        rcases h1 with ⟨hnil, rfl, rfl, ad, h1⟩ | ⟨hnil, hcap, off, h1, hoff⟩
        · rw [h1]
          exact ⟨[], src_empty w ht ad, fun j hj => by omega, fun b off n c e => by simp [grab]⟩
        · rw [h1]
          rcases hr with ⟨hnil', _⟩ | hr
          · rw [hnil] at hnil'; cases hnil'
          by_cases hn0 : n' = 0
          · subst hn0
            refine ⟨[], Src.ofSlice w ht _ 0 _ [] (by simp) (by simp) (by simp), fun j hj => by omega, fun b off n c e => by simp [grab]⟩
          · have hse : sz' = sz := hsz.resolve_left hn0
            subst hse
            have hc := hr.cap
            have ho := hoff (by omega)
            rw [hr.esz] at ho
            obtain ⟨r1, r2, r3⟩ := reg_grab hr hle
            refine ⟨grab w (ρ z).blk ((ρ z).base + i * sz') (n' * sz'), Src.ofSlice w ht _ n' _ _ (grab_length _ _ _ _) (fun j u hu => ?_) r2, fun j hj => ⟨hr.len _ (by omega), fun k v hv => r3 j hj k v hv⟩, fun b off' n c e => ?_⟩
            · rw [Addr.add_mid, ho]; exact r1 j u hu
            · simp only [Value.slice.injEq, Option.some.injEq, Addr.mk.injEq, and_true] at e
              rw [← e.1.1, ← e.1.2, ho]
      have hob := (h.hp ρ hρ).obj z
      cases hz : H z <;> rw [hz] at hy hob <;> simp only [reduceCtorEq] at hy
      case arr szo m f =>
        split at hy
        · rename_i hle
          simp only [Option.some.injEq, Prod.mk.injEq] at hy
          exact reg (hob.imp id (·.1)) hle hy.1.symm hy.2.1.symm hy.2.2.2.symm
        · cases hy
      case view szo m f =>
        split at hy
        · rename_i hle
          simp only [Option.some.injEq, Prod.mk.injEq] at hy
          exact reg hob hle hy.1.symm hy.2.1.symm hy.2.2.2.symm
        · cases hy
  obtain ⟨news, s1, s2, s3⟩ := pt ρ0 h0
  refine ⟨news, s1, fun ρ hρ => ?_⟩
  obtain ⟨news', t1, t2, t3⟩ := pt ρ hρ
  by_cases hn0 : n' = 0
  · intro j hj; omega
  · have hsl : ∃ b off n c, a.eval y = .slice (some ⟨b, off, none⟩) n c := by
      have h1 := h.ev h0 y
      cases hay : (rX y).ev T <;> rw [hay] at hy h1 <;> (try simp only [readSl, reduceCtorEq] at hy)
      case raw v =>
        obtain ⟨ad, c, rfl, e0⟩ := readSl_raw hy
        exact absurd e0 hn0
      case nsl => simp only [Option.some.injEq, Prod.mk.injEq] at hy; exact absurd hy.1.symm hn0
      case sl z i n =>
        rw [Rep] at h1
        rcases h1 with ⟨_, rfl, rfl, ad, h1⟩ | ⟨_, _, off, h1, _⟩
        · exfalso
          cases hz : H z <;> rw [hz] at hy <;> simp only [reduceCtorEq] at hy
          all_goals
            split at hy
            · simp only [Option.some.injEq, Prod.mk.injEq] at hy; exact hn0 hy.1.symm
            · cases hy
        · exact ⟨_, _, _, _, h1⟩
    obtain ⟨b, off, n, c, e⟩ := hsl
    rw [s3 b off n c e, ← t3 b off n c e]
    exact t2

end
end Go.W
