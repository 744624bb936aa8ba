/- Equality, slices, append, make, literals. -/
import Derived.Test.YtmbploeikjangaaGreatWD
import Derived.Laws.Pointers
import Derived.Deep.Upon
set_option linter.unusedSimpArgs false
set_option linter.unusedVariables false
namespace Go.W

section
variable {P : Program} {w0 : World} {S : Sc} {Es : Env → Prop} {U : Nm → Prop} {T : Nat → AV} {H : Nm → AObj} {a : Act} {w : World}

theorem eqIn_nn (d : Nat) (t : TypeId) {ms : Array (String × TypeId)} (h : P.underlying t = some (.interface ms)) : (Op.equalIn (d + 1) t .nilIface .nilIface).run P w = .ok true w := by
  simp [Op.equalIn, run_underlying h]
theorem eqIn_in (d : Nat) (t q : TypeId) (r : Value) {ms : Array (String × TypeId)} (h : P.underlying t = some (.interface ms)) : (Op.equalIn (d + 1) t (.iface q r) .nilIface).run P w = .ok false w := by
  simp [Op.equalIn, run_underlying h]
theorem eqIn_pn (d : Nat) (t : TypeId) (q : Option Addr) {e : TypeId} (h : P.underlying t = some (.pointer e)) : (Op.equalIn (d + 1) t (.pointer q) (.pointer none)).run P w = .ok q.isNone w := by
  cases q <;> simp [Op.equalIn, run_underlying h]

theorem eqIn_sl (d : Nat) (t : TypeId) (q : Option Addr) (l c : Nat) {e : TypeId} (h : P.underlying t = some (.slice e)) : (Op.equalIn (d + 1) t (.slice q l c) (.slice none 0 0)).run P w = .ok q.isNone w := by
  cases q <;> simp [Op.equalIn, run_underlying h]
theorem eqIn_nf (d : Nat) (t : TypeId) {x y : Array TypeId} {z : Bool} (h : P.underlying t = some (.func x y z)) : (Op.equalIn (d + 1) t .nilFunc .nilFunc).run P w = .ok true w := by
  simp [Op.equalIn, run_underlying h]
theorem eqIn_fn (d : Nat) (t : TypeId) (f : Fn) (p q : Array Value) {x y : Array TypeId} {z : Bool} (h : P.underlying t = some (.func x y z)) : (Op.equalIn (d + 1) t (.func f p q) .nilFunc).run P w = .ok false w := by
  simp [Op.equalIn, run_underlying h]

/-- What '==' gives, for '!=' too. -/
theorem binOp_of_equal {t : TypeId} {u v : Value} {b : Bool} {op : BinOp} (hop : op = .eql ∨ op = .neq) (he : (Op.equal t u v).run P w = .ok b w)
    (hni : ∀ k n, u ≠ .int k n) (hnf : ∀ k n, u ≠ .float k n) (hnc : ∀ k n m, u ≠ .complex k n m) (hns : ∀ s, u ≠ .string s) (hnp : ∀ q, u ≠ .pointer q) :
    (binOp op t u v).run P w = .ok (.bool (if (op == .neq) = true then !b else b)) w := by
  rcases hop with rfl | rfl <;> cases u <;> first | (exact absurd rfl (hni _ _)) | (exact absurd rfl (hnf _ _)) | (exact absurd rfl (hnc _ _ _)) | (exact absurd rfl (hns _)) | (exact absurd rfl (hnp _)) | simp [binOp, he]

theorem does_eq (h : Sat w0 S Es U T H a w) {o : Oper} {F : Nm → Prop} (op : BinOp) (hop : op = .eql ∨ op = .neq) (t t' : TypeId) (x y : Operand) (ho : o.op = .binOp op t x y t') {k : EqK} (hk : eqKind P t = some k) (hc : k = .iface → y = .const .nilIface) (hcs : k = .slice → y = .const (.slice none 0 0)) (hcf : k = .func → y = .const .nilFunc)
    {b : Bool} (he : eqV k ((rX x).ev T) ((rX y).ev T) = some b) : Does P w0 S Es H a w o ⟨.bool (if (op == .neq) = true then !b else b), [], []⟩ F := by
  refine Does.pure h rfl fun ρ hρ => ⟨.bool (if (op == .neq) = true then !b else b), ?_, by rw [Rep]⟩
  have h1 := h.ev hρ x
  have h2 := h.ev hρ y
  have hguard : ∀ u v : Value, (u = .nilIface → v = .nilIface → y = .const .nilIface) → (∀ c, u ≠ .agg c) → (eqGuard op t x y u v).run P w = .ok () w := by
    intro u v huv hna
    cases u <;> cases v <;> first | (exact absurd rfl (hna _)) | (rcases hop with rfl | rfl <;> simp [eqGuard]) 
    all_goals (simp [huv rfl rfl])
  revert he
  generalize hx : (rX x).ev T = ax at h1
  generalize hy : (rX y).ev T = ay at h2
  intro he
  unfold eqKind at hk
  cases hu : P.underlying t with
  | none => simp [hu] at hk
  | some d =>
    cases k with
    | bool =>
      cases ax <;> simp only [eqV, reduceCtorEq] at he <;> cases ay <;> simp only [reduceCtorEq, Option.some.injEq] at he
      simp only [Rep] at h1 h2
      have hd : d = .bool := by cases d <;> simp [hu] at hk <;> first | rfl | (split at hk <;> first | (split at hk <;> cases hk) | cases hk)
      subst hd
      simp [execOp, ho, h1, h2, hguard]
      rw [← he]
      rcases hop with rfl | rfl
      · simp [run_eql_bool w t _ _ hu]
      · simp [run_neq_bool w t _ _ hu]
    | string =>
      cases ax <;> simp only [eqV, reduceCtorEq] at he <;> cases ay <;> simp only [reduceCtorEq, Option.some.injEq] at he
      simp only [Rep] at h1 h2
      simp [execOp, ho, h1, h2, hguard]
      rw [← he, beq_toListBytes]
      rcases hop with rfl | rfl <;> simp [binOp_string_eql, binOp_string_neq]
    | iface =>
      have hyc := hc rfl
      have hd : ∃ ms, d = .interface ms := by cases d <;> simp [hu] at hk <;> first | exact ⟨_, rfl⟩ | (split at hk <;> first | (split at hk <;> cases hk) | cases hk)
      obtain ⟨ms, rfl⟩ := hd
      have hay : ay = .raw .nilIface := by rw [← hy, hyc]; rfl
      subst hay
      have hyv : a.eval y = .nilIface := by rw [Rep] at h2; exact h2
      have run : ∀ u : Value, (u = .nilIface ∧ b = true) ∨ (∃ q r, u = .iface q r ∧ b = false) → a.eval x = u → (execOp a.eval o).run P w = .ok (.value (.bool (if (op == .neq) = true then !b else b))) w := by
        intro u hu1 hxu
        have heq : (Op.equal t u .nilIface).run P w = .ok b w := by
          rcases hu1 with ⟨rfl, rfl⟩ | ⟨q, r, rfl, rfl⟩
          · exact eqIn_nn 9999 t hu
          · exact eqIn_in 9999 t q r hu
        have hb := binOp_of_equal hop heq (by rcases hu1 with ⟨rfl, _⟩ | ⟨q, r, rfl, _⟩ <;> simp) (by rcases hu1 with ⟨rfl, _⟩ | ⟨q, r, rfl, _⟩ <;> simp) (by rcases hu1 with ⟨rfl, _⟩ | ⟨q, r, rfl, _⟩ <;> simp) (by rcases hu1 with ⟨rfl, _⟩ | ⟨q, r, rfl, _⟩ <;> simp) (by rcases hu1 with ⟨rfl, _⟩ | ⟨q, r, rfl, _⟩ <;> simp)
        have hg := hguard u .nilIface (fun _ _ => hyc) (by rcases hu1 with ⟨rfl, _⟩ | ⟨q, r, rfl, _⟩ <;> simp)
        simp only [execOp, ho, hxu, hyv, Sem.run_bind, hg, Result.andThen_ok, hb, Sem.run_pure]
      cases ax <;> simp only [eqV, reduceCtorEq, Option.some.injEq] at he
      case raw v =>
        cases v <;> simp only [reduceCtorEq, Option.some.injEq] at he
        exact run .nilIface (.inl ⟨rfl, he.symm⟩) (by rw [Rep] at h1; exact h1)
      case iface q v =>
        rw [Rep] at h1
        obtain ⟨z, hz, _⟩ := h1
        exact run _ (.inr ⟨q, z, rfl, he.symm⟩) hz
    | slice =>
      have hyv : a.eval y = .slice none 0 0 := by rw [hcs rfl]; rfl
      have hd : ∃ e, d = .slice e := by cases d <;> simp [hu] at hk <;> first | exact ⟨_, rfl⟩ | (split at hk <;> first | (split at hk <;> cases hk) | cases hk)
      obtain ⟨e, rfl⟩ := hd
      have run : ∀ (q : Option Addr) (l c : Nat), a.eval x = .slice q l c → b = q.isNone → (execOp a.eval o).run P w = .ok (.value (.bool (if (op == .neq) = true then !b else b))) w := by
        intro q l c hxq hbq
        have heq : (Op.equal t (.slice q l c) (.slice none 0 0)).run P w = .ok b w := by
          rw [hbq]; exact eqIn_sl 9999 t q l c hu
        have hg := hguard (.slice q l c) (.slice none 0 0) (by simp) (by simp)
        have hb := binOp_of_equal hop heq (by simp) (by simp) (by simp) (by simp) (by simp)
        simp only [execOp, ho, hxq, hyv, Sem.run_bind, hg, Result.andThen_ok, hb, Sem.run_pure]
      cases ax <;> (try simp only [eqV, reduceCtorEq] at he)
      case raw v =>
        cases v <;> (try simp only [eqV, reduceCtorEq] at he)
        rename_i q l c
        cases q <;> simp only [eqV, Option.some.injEq] at he
        · exact run none l c (by rw [Rep] at h1; exact h1) he.symm
        · exact run (some _) l c (by rw [Rep] at h1; exact h1) he.symm
      case sl z i n =>
        split at he
        · rename_i hn
          simp only [Option.some.injEq] at he
          rw [Rep] at h1
          rcases h1 with ⟨_, _, h0, _⟩ | ⟨_, _, off, h1, _⟩
          · omega
          · exact run _ _ _ h1 he.symm
        · cases he
    | func =>
      have hyv : a.eval y = .nilFunc := by rw [hcf rfl]; rfl
      have hd : ∃ p q z, d = .func p q z := by cases d <;> simp [hu] at hk <;> first | exact ⟨_, _, _, rfl⟩ | (split at hk <;> first | (split at hk <;> cases hk) | cases hk)
      obtain ⟨p, q, z, rfl⟩ := hd
      have run : ∀ u : Value, (u = .nilFunc ∧ b = true) ∨ (∃ f q r, u = .func f q r ∧ b = false) → a.eval x = u → (execOp a.eval o).run P w = .ok (.value (.bool (if (op == .neq) = true then !b else b))) w := by
        intro u hu1 hxu
        have heq : (Op.equal t u .nilFunc).run P w = .ok b w := by
          rcases hu1 with ⟨rfl, rfl⟩ | ⟨f, q, r, rfl, rfl⟩
          · exact eqIn_nf 9999 t hu
          · exact eqIn_fn 9999 t f q r hu
        have hb := binOp_of_equal hop heq (by rcases hu1 with ⟨rfl, _⟩ | ⟨f, q, r, rfl, _⟩ <;> simp) (by rcases hu1 with ⟨rfl, _⟩ | ⟨f, q, r, rfl, _⟩ <;> simp) (by rcases hu1 with ⟨rfl, _⟩ | ⟨f, q, r, rfl, _⟩ <;> simp) (by rcases hu1 with ⟨rfl, _⟩ | ⟨f, q, r, rfl, _⟩ <;> simp) (by rcases hu1 with ⟨rfl, _⟩ | ⟨f, q, r, rfl, _⟩ <;> simp)
        have hg := hguard u .nilFunc (by simp) (by rcases hu1 with ⟨rfl, _⟩ | ⟨f, q, r, rfl, _⟩ <;> simp)
        simp only [execOp, ho, hxu, hyv, Sem.run_bind, hg, Result.andThen_ok, hb, Sem.run_pure]
      cases ax <;> (try simp only [eqV, reduceCtorEq] at he)
      case raw v =>
        cases v <;> (try simp only [eqV, reduceCtorEq] at he)
        simp only [Option.some.injEq] at he
        exact run .nilFunc (.inl ⟨rfl, he.symm⟩) (by rw [Rep] at h1; exact h1)
      case fn f cap =>
        simp only [Option.some.injEq] at he
        rw [Rep] at h1
        obtain ⟨cs, h1, _⟩ := h1
        exact run _ (.inr ⟨_, _, _, rfl, he.symm⟩) h1
    | ptr =>
      have hd : ∃ e, d = .pointer e := by cases d <;> simp [hu] at hk <;> first | exact ⟨_, rfl⟩ | (split at hk <;> first | (split at hk <;> cases hk) | cases hk)
      obtain ⟨e, rfl⟩ := hd
      have run : ∀ q : Option Addr, a.eval x = .pointer q → a.eval y = .pointer none → b = q.isNone → (execOp a.eval o).run P w = .ok (.value (.bool (if (op == .neq) = true then !b else b))) w := by
        intro q hxq hyq hbq
        have heq : (Op.equal t (.pointer q) (.pointer none)).run P w = .ok b w := by
          rw [hbq]; exact eqIn_pn 9999 t q hu
        have hg := hguard (.pointer q) (.pointer none) (by simp) (by simp)
        have hb : (binOp op t (.pointer q) (.pointer none)).run P w = .ok (.bool (if (op == .neq) = true then !b else b)) w := by
          rcases hop with rfl | rfl <;> simp [binOp, heq]
        simp only [execOp, ho, hxq, hyq, Sem.run_bind, hg, Result.andThen_ok, hb, Sem.run_pure]
      cases ax <;> simp only [eqV, reduceCtorEq] at he
      case raw v =>
        cases v <;> try simp only [reduceCtorEq] at he
        rename_i q
        cases q <;> try simp only [reduceCtorEq] at he
        cases ay <;> try simp only [reduceCtorEq] at he
        rename_i v
        cases v <;> try simp only [reduceCtorEq] at he
        rename_i q
        cases q <;> simp only [reduceCtorEq, Option.some.injEq] at he
        exact run none (by rw [Rep] at h1; exact h1) (by rw [Rep] at h2; exact h2) he.symm
      case ptr o1 i1 f1 =>
        cases ay <;> try simp only [reduceCtorEq] at he
        rename_i v
        cases v <;> try simp only [reduceCtorEq] at he
        rename_i q
        cases q <;> simp only [reduceCtorEq, Option.some.injEq] at he
        rw [Rep] at h1
        exact run _ h1.2 (by rw [Rep] at h2; exact h2) he.symm
    | flat ks =>
      cases ax <;> simp only [eqV, reduceCtorEq] at he <;> cases ay <;> simp only [reduceCtorEq] at he
      rename_i l l'
      have hfl : flatAt P 6 t = some ks ∧ P.eqGuardType P.depth t = false ∧ d.isRow = true := by
        cases d <;> simp [hu] at hk
        all_goals
          cases hq : flatAt P 6 t with
          | none => simp [hq] at hk
          | some ks' =>
            simp [hq] at hk
            exact ⟨by rw [hk.2], hk.1, rfl⟩
      obtain ⟨hfl, hgt, hrow⟩ := hfl
      rw [Rep] at h1 h2
      obtain ⟨us, hus, h1⟩ := h1
      obtain ⟨vs, hvs, h2⟩ := h2
      have lens : ∀ (ks : List LK) (l l' : List AV) (b : Bool), eqL ks l l' = some b → l.length = ks.length ∧ l'.length = ks.length := by
        intro ks
        induction ks with
        | nil => intro l l' b h; cases l <;> cases l' <;> simp [eqL] at h ⊢
        | cons k ks ih =>
          intro l l' b h
          cases l <;> cases l' <;> simp only [eqL, reduceCtorEq] at h
          split at h
          · rename_i h5; have := ih _ _ _ h5; simp; omega
          · cases h
      have ones : ∀ (ks : List LK) (l l' : List AV) (b : Bool), eqL ks l l' = some b → l.all AV.one = true ∧ l'.all AV.one = true := by
        intro ks
        induction ks with
        | nil => intro l l' b h; cases l <;> cases l' <;> simp [eqL] at h ⊢
        | cons k ks ih =>
          intro l l' b h
          cases l with
          | nil => cases l' <;> simp [eqL] at h
          | cons p l =>
            cases l' with
            | nil => simp [eqL] at h
            | cons q l' =>
              simp only [eqL] at h
              split at h
              · rename_i h4 h5
                have := ih _ _ _ h5
                simp only [List.all_cons, this.1, this.2, Bool.and_true]
                cases k <;> cases p <;> simp only [eq1, reduceCtorEq] at h4 <;> cases q <;> simp only [reduceCtorEq] at h4 <;> exact ⟨rfl, rfl⟩
              · cases h
      have heq := equal_flat 6 9994 t ks hfl ρ l l' (.agg us) (.agg vs) b w h1 h2 (lens _ _ _ _ he).1 (lens _ _ _ _ he).2
        (by unfold shapeOk; rw [hu]; cases d <;> simp_all) (by unfold shapeOk; rw [hu]; cases d <;> simp_all) (h1.all_one (ones _ _ _ _ he).1) (h2.all_one (ones _ _ _ _ he).2) he
      have hb : (binOp op t (.agg us) (.agg vs)).run P w = .ok (.bool (if (op == .neq) = true then !b else b)) w :=
        binOp_of_equal hop heq (by simp) (by simp) (by simp) (by simp) (by simp)
      have hg : (eqGuard op t x y (.agg us) (.agg vs)).run P w = .ok () w := run_eqGuard_agg w op t x y us vs hgt
      simp only [execOp, ho, hus, hvs, Sem.run_bind, hg, Result.andThen_ok, hb, Sem.run_pure]

theorem does_len (h : Sat w0 S Es U T H a w) {o : Oper} {F : Nm → Prop} (x : Operand) (t : TypeId) (ho : o.op = .call { callee := .builtin .len, args := #[x], argTypes := #[t] }) {n : Int}
    (hx : (∃ z i m, (rX x).ev T = .sl z i m ∧ n = m ∧ ∃ e, P.underlying t = some (.slice e)) ∨ ((rX x).ev T = .nsl ∧ n = 0 ∧ ∃ e, P.underlying t = some (.slice e)) ∨ (∃ s, (rX x).ev T = .str s ∧ n = s.size ∧ P.underlying t = some .string)) :
    Does P w0 S Es H a w o ⟨.int .i64 n, [], []⟩ F := by
  refine Does.pure h rfl fun ρ hρ => ⟨.int .i64 n, ?_, by rw [Rep]⟩
  have h1 := h.ev hρ x
  rcases hx with ⟨z, i, m, hx, rfl, e, ht⟩ | ⟨hx, rfl, e, ht⟩ | ⟨s, hx, rfl, ht⟩
  · rw [hx, Rep] at h1
    rcases h1 with ⟨_, _, rfl, ad, h1⟩ | ⟨_, _, off, h1, _⟩ <;> simp [execOp, ho, resolve, invoke, builtin, Builtin.len_, h1, run_underlying ht, goInt]
  · rw [hx, Rep] at h1
    obtain ⟨ad, h1⟩ := h1
    simp [execOp, ho, resolve, invoke, builtin, Builtin.len_, h1, run_underlying ht, goInt]
  · rw [hx, Rep] at h1
    simp [execOp, ho, resolve, invoke, builtin, Builtin.len_, h1, run_underlying ht, goInt]

theorem does_cap (h : Sat w0 S Es U T H a w) {o : Oper} {F : Nm → Prop} (x : Operand) (t : TypeId) (ho : o.op = .call { callee := .builtin .cap, args := #[x], argTypes := #[t] }) {e : TypeId} (he : P.underlying t = some (.slice e)) (hx : (rX x).ev T = .nsl) :
    Does P w0 S Es H a w o ⟨.int .i64 0, [], []⟩ F := by
  refine Does.pure h rfl fun ρ hρ => ⟨.int .i64 0, ?_, by rw [Rep]⟩
  have h1 := h.ev hρ x
  rw [hx, Rep] at h1
  obtain ⟨ad, h1⟩ := h1
  simp [execOp, ho, resolve, invoke, builtin, Builtin.cap_, h1, run_underlying he, goInt]

theorem does_min (h : Sat w0 S Es U T H a w) {o : Oper} {F : Nm → Prop} (x y : Operand) (ts : Array TypeId) (ho : o.op = .call { callee := .builtin .min, args := #[x, y], argTypes := ts }) {k : IntKind} {p q : Int} (hx : (rX x).ev T = .int k p) (hy : (rX y).ev T = .int k q) :
    Does P w0 S Es H a w o ⟨.int k (if q < p then q else p), [], []⟩ F := by
  refine Does.pure h rfl fun ρ hρ => ⟨.int k (if q < p then q else p), ?_, by rw [Rep]⟩
  have h1 := h.ev hρ x
  have h2 := h.ev hρ y
  rw [hx, Rep] at h1
  rw [hy, Rep] at h2
  simp [execOp, ho, resolve, invoke, builtin, Builtin.min_, h1, h2, Builtin.min2]

theorem does_max (h : Sat w0 S Es U T H a w) {o : Oper} {F : Nm → Prop} (x y : Operand) (ts : Array TypeId) (ho : o.op = .call { callee := .builtin .max, args := #[x, y], argTypes := ts }) {k : IntKind} {p q : Int} (hx : (rX x).ev T = .int k p) (hy : (rX y).ev T = .int k q) :
    Does P w0 S Es H a w o ⟨.int k (if p < q then q else p), [], []⟩ F := by
  refine Does.pure h rfl fun ρ hρ => ⟨.int k (if p < q then q else p), ?_, by rw [Rep]⟩
  have h1 := h.ev hρ x
  have h2 := h.ev hρ y
  rw [hx, Rep] at h1
  rw [hy, Rep] at h2
  simp [execOp, ho, resolve, invoke, builtin, Builtin.max_, h1, h2, Builtin.max2]

theorem zero1_run {t : TypeId} {z : AV} (h : zero1 P t = some z) : ∃ zv, (∀ w : World, (zeroValue t).run P w = .ok zv w) ∧ ∀ ρ, Rep ρ z zv := by
  unfold zero1 at h
  split at h
  · rename_i i hi
    split at h
    · rename_i zv hzv
      split at h
      · injection h with h
        exact ⟨zv, fun w => by simp [zeroValue, typeInfo, hi, hzv], fun ρ => by rw [← h]; exact Rep_ofC ρ zv⟩
      · cases h
    · cases h
  · cases h

theorem does_tas (h : Sat w0 S Es U T H a w) {o : Oper} {F : Nm → Prop} (x : Operand) (xt t : TypeId) (ok : Bool) (ho : o.op = .typeAssert x xt t ok) {d : TypeDesc} (ht : P.underlying t = some d) (hd : ∀ m, d ≠ .interface m) {z : AV} (hz : zero1 P t = some z) {v : AV}
    (hx : (∃ q u, (rX x).ev T = .iface q u ∧ ((q = t ∧ v = if ok = true then .tup [u, .bool true] else u) ∨ (q ≠ t ∧ ok = true ∧ v = .tup [z, .bool false]))) ∨ ((rX x).ev T = .raw .nilIface ∧ ok = true ∧ v = .tup [z, .bool false])) :
    Does P w0 S Es H a w o ⟨v, [], []⟩ F := by
  obtain ⟨zv, hz1, hz2⟩ := zero1_run hz
  refine Does.pure h rfl fun ρ hρ => ?_
  have h1 := h.ev hρ x
  have htup : ∀ (u : AV) (uv : Value) (b : Bool), Rep ρ u uv → Rep ρ (.tup [u, .bool b]) (.tuple #[uv, .bool b]) := fun u uv b hu => by
    rw [Rep]; exact ⟨_, rfl, uv, _, rfl, hu, .bool b, [], rfl, by rw [Rep], rfl⟩
  rcases hx with ⟨q, u, hx, hq⟩ | ⟨hx, rfl, rfl⟩
  · rw [hx, Rep] at h1
    obtain ⟨uv, h1, hu⟩ := h1
    rcases hq with ⟨rfl, rfl⟩ | ⟨hne, rfl, rfl⟩
    · cases ok
      · exact ⟨uv, by cases d <;> first | (exact absurd rfl (hd _)) | simp [execOp, ho, h1, Instr.typeAssert, run_underlying ht], hu⟩
      · exact ⟨.tuple #[uv, .bool true], by cases d <;> first | (exact absurd rfl (hd _)) | simp [execOp, ho, h1, Instr.typeAssert, run_underlying ht], htup _ _ _ hu⟩
    · exact ⟨.tuple #[zv, .bool false], by cases d <;> first | (exact absurd rfl (hd _)) | simp [execOp, ho, h1, Instr.typeAssert, run_underlying ht, hne, hz1], htup _ _ _ (hz2 ρ)⟩
  · rw [hx, Rep] at h1
    exact ⟨.tuple #[zv, .bool false], by cases d <;> first | (exact absurd rfl (hd _)) | simp [execOp, ho, h1, Instr.typeAssert, run_underlying ht, hz1], htup _ _ _ (hz2 ρ)⟩

end
end Go.W
