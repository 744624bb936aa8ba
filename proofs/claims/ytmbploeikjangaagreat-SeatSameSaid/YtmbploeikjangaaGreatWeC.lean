/- A function by its evaluation; one that is told nothing and answers with a truth. -/
import Derived.Test.YtmbploeikjangaaGreatWeB
set_option linter.unusedSimpArgs false
set_option linter.unusedVariables false
namespace Go.W

theorem argT_get : ∀ (avs : List AV) (i : Nat) (t : Tr AV), i + avs.length ≤ bnd + 1 → ∀ j, (argT i avs t).get j = if i ≤ j ∧ j < i + avs.length then avs[j - i]? else t.get j
  | [], i, t, _, j => by simp only [argT, List.length_nil]; rw [if_neg (by omega)]
  | v :: r, i, t, h, j => by
    simp only [List.length_cons] at h ⊢
    rw [argT, argT_get r (i + 1) _ (by omega), Tr.get_put' (by omega)]
    by_cases h1 : j = i
    · subst h1
      rw [if_neg (by omega), if_pos rfl, if_pos (by omega)]
      simp
    · by_cases h2 : i ≤ j ∧ j < i + (r.length + 1)
      · rw [if_pos (by omega), if_pos h2, show j - i = (j - (i + 1)) + 1 from by omega]
        simp
      · rw [if_neg (by omega), if_neg h1, if_neg h2]

theorem updL_map {f : Nat → NObj} : ∀ (l : List Nat) (G : NH) (x : Nat), updL G (l.map fun x => (x, f x)) x = if x ∈ l then f x else G x
  | [], G, x => by simp [updL]
  | y :: l, G, x => by
    simp only [List.map_cons, updL]
    rw [updL_map l]
    by_cases h : x ∈ l
    · rw [if_pos h, if_pos (List.mem_cons_of_mem _ h)]
    · rw [if_neg h, upd_apply]
      by_cases e : x = y
      · subst e; rw [if_pos rfl, if_pos List.mem_cons_self]
      · rw [if_neg e, if_neg (by simp [e, h])]

theorem hk_map {f : Nat → NObj} : ∀ (l : List Nat) (x : Nat), hk (l.map fun x => (x, f x)) x = if x ∈ l then f x else .free
  | [], x => by simp [hk]
  | y :: l, x => by
    simp only [List.map_cons, hk]
    rw [hk_map l]
    by_cases e : x = y
    · subst e; rw [if_pos rfl, if_pos List.mem_cons_self]
    · rw [if_neg e]
      by_cases h : x ∈ l
      · rw [if_pos h, if_pos (List.mem_cons_of_mem _ h)]
      · rw [if_neg h, if_neg (by simp [e, h])]

theorem st_tl (s : ES) : ∀ (res : List RV) (n : Nat), lk (s.st res).tl n ≠ .bot → lk (s.st res).tl n = s.T n
  | [], n, h => absurd rfl h
  | r :: res, n, h => by
    have ih := st_tl s res n
    simp only [ES.st, List.map_cons] at h ih ⊢
    cases r <;> simp only [lk] at h ih ⊢ <;> (split at h <;> rename_i e) <;> first | (rw [if_pos e, e]) | (rw [if_neg e]; exact ih h)

theorem st_hl (s : ES) (res : List RV) (G : NH) (x : Nat) : hk (s.st res).hl x = s.G G x ∨ hk (s.st res).hl x = .free := by
  simp only [ES.st]
  rw [hk_map]
  split
  · unfold ES.G
    cases s.h.get x with
    | some o => exact .inl rfl
    | none => exact .inr rfl
  · exact .inr rfl

theorem getP_part {G G' : NH} (h : ∀ x, G' x = G x ∨ G' x = .free) (x : Nm) : getP G' x = getP G x ∨ getP G' x = .free := by
  rcases h x.root with e | e
  · exact .inl (getP_same e.symm)
  · exact .inr (getP_free e rfl)

theorem HF_part {G G' : NH} (h : ∀ x, G' x = G x ∨ G' x = .free) (x : Nm) : HF G' x = HF G x ∨ HF G' x = .free := by
  rcases getP_part h x with e | e
  · left; unfold HF; rw [e]
  · exact .inr (HF_free.2 e)

theorem Sat.forget {w0 : World} {S : Sc} {Es : Env → Prop} {U : Nm → Prop} {T T' : Nat → AV} {G G' : NH} {a : Act} {w : World} (h : Sat w0 S Es U T (HF G) a w) (hT : ∀ t, T' t ≠ .bot → T' t = T t) (hG : ∀ x, G' x = G x ∨ G' x = .free) : Sat w0 S Es U T' (HF G') a w :=
  ⟨h.ne, h.cl, fun x hx => (HF_part hG x).elim (fun e => by rw [e]; exact h.fr x hx) id, fun ρ ρ' h1 h2 x hx => h.pin ρ ρ' h1 h2 x fun e => hx ((HF_part hG x).elim (fun e' => by rw [e']; exact e) id), fun ρ hρ t ht => by
    have e := hT t ht
    rw [e] at ht ⊢
    exact h.tm ρ hρ t ht, fun ρ hρ => (h.hp ρ hρ).weaken (HF_part hG)⟩

/-- Where a function's evaluation begins. -/
abbrev es0 (avs : List AV) (nb : Nat) : ES := ⟨argT 0 avs .nil, .nil, [], [], nb⟩

theorem es0_ok (avs : List AV) (nb : Nat) : (es0 avs nb).Ok := fun x hx => absurd rfl hx
theorem es0_G (avs : List AV) (nb : Nat) (G : NH) : (es0 avs nb).G G = G := rfl
theorem es0_T {avs : List AV} {nb : Nat} (h : avs.length ≤ bnd + 1) (n : Nat) : (es0 avs nb).T n = (avs[n]?).getD .bot := by
  unfold ES.T
  simp only [es0]
  rw [argT_get avs 0 .nil (by omega)]
  by_cases hn : n < avs.length
  · rw [if_pos (by omega), Nat.sub_zero, List.getElem?_eq_getElem hn]; rfl
  · rw [if_neg (by omega), List.getElem?_eq_none (by omega)]; rfl

theorem evF_some {E : FuncId → Option Spec} {P : Program} {f : FuncId} {args : List AV} {G : NH} {nb : Nat} {r : Res} (h : evF E P f args G nb = some r) : ∃ fn mc res e s v, P.funcs[f]? = some fn ∧ rcOf P fn = some mc ∧ rRVs P fn.results.toList = some res ∧ args.length ≤ fn.ntmps ∧ fn.ntmps ≤ bnd ∧ evC E fn.ntmps G 100000 mc (es0 args nb) = some (e, s) ∧ (e = .normal ∨ e = .ret) ∧ rdRes (s.st res) res = some v ∧
    r = ⟨v, s.wl.map (fun x => (x, s.G (fun _ => .free) x)), s.rd, s.nb - nb⟩ := by
  unfold evF at h
  split at h
  · rename_i fn hfn
    split at h
    · rename_i mc res hmc hres
      split at h
      · rename_i hle
        unfold evE at h
        have fin : ∀ {e : Exit} {s : ES}, (e = .normal ∨ e = .ret) → evC E fn.ntmps G 100000 mc (es0 args nb) = some (e, s) → (match rdRes (s.st res) res with
          | some v => some (⟨v, s.wl.map (fun x => (x, s.G (fun _ => .free) x)), s.rd, s.nb - nb⟩ : Res)
          | none => none) = some r → ∃ fn mc res e s v, P.funcs[f]? = some fn ∧ rcOf P fn = some mc ∧ rRVs P fn.results.toList = some res ∧ args.length ≤ fn.ntmps ∧ fn.ntmps ≤ bnd ∧ evC E fn.ntmps G 100000 mc (es0 args nb) = some (e, s) ∧ (e = .normal ∨ e = .ret) ∧ rdRes (s.st res) res = some v ∧
            r = ⟨v, s.wl.map (fun x => (x, s.G (fun _ => .free) x)), s.rd, s.nb - nb⟩ := by
          intro e s he hev hr
          split at hr
          · rename_i v hv
            injection hr with hr
            exact ⟨fn, mc, res, e, s, v, hfn, hmc, hres, hle.1, hle.2, hev, he, hv, hr.symm⟩
          · cases hr
        split at h
        · rename_i s hev; exact fin (.inl rfl) hev h
        · rename_i s hev; exact fin (.inr rfl) hev h
        · cases h
      · cases h
    · cases h
  · cases h

def evS (P : Program) (E : FuncId → Option Spec) (f : FuncId) : Spec where
  fn := evF E P f
  loc := fun args G G' nb r h hG => by
    obtain ⟨fn, mc, res, e, s, v, h1, h2, h3, h4, h5, h6, h7, h8, rfl⟩ := evF_some h
    have h6' := (evC_goes h5 100000 (es0_ok args nb) h6).2 G' fun y hy => hG y (hy.imp id fun hy => by simpa using hy)
    unfold evF
    simp only [h1, h2, h3, h4, h5, and_self, if_true, evE]
    rw [h6']
    rcases h7 with rfl | rfl <;> simp only [h8]
  nm := fun args G nb r h x hx => by
    obtain ⟨fn, mc, res, e, s, v, h1, h2, h3, h4, h5, h6, h7, h8, rfl⟩ := evF_some h
    have g := (evC_goes h5 100000 (es0_ok args nb) h6).1
    have hx' : x ∈ s.wl := by simpa using hx
    rcases g.nm x hx' with h | h | h
    · cases h
    · simp only; simp only [es0] at h; exact .inl (by omega)
    · exact .inr h

theorem HCore.grow {w0 : World} {S : Sc} {ρ : Env} {H : Nm → AObj} {w w' : World} (h : HCore w0 S ρ H w) (h1 : w'.os = w.os) (h2 : w'.tape = w.tape) (h3 : w'.output = w.output) (hs : w.heap.size ≤ w'.heap.size) (hb : ∀ b, b < w.heap.size → w'.heap[b]? = w.heap[b]?) : HCore w0 S ρ H w' where
  an := h.an
  os := h1.trans h.os
  tape := h2.trans h.tape
  output := h3.trans h.output
  size := Nat.le_trans h.size hs
  frame b hlt hns := by rw [hb b (Nat.lt_of_lt_of_le hlt h.size)]; exact h.frame b hlt hns
  obj x := by
    by_cases ho : Owned (ρ x) (H x)
    · exact (h.obj x).same (hb _ (h.own x ho).1)
    · by_cases hv : Viewed (ρ x) (H x)
      · exact (h.obj x).same (hb _ (Nat.lt_of_lt_of_le (h.vw x hv).1 h.size))
      · exact (h.obj x).nil_same ho hv
  own x hx := ⟨Nat.lt_of_lt_of_le (h.own x hx).1 hs, (h.own x hx).2⟩
  dist := h.dist
  vw := h.vw

section
variable {P : Program} {E : FuncId → Option Spec}

/-- A call, evaluated. -/
theorem evF_run (hE : SoundAll P E) (hmix : P.follows .mixedOrders = true) {f : FuncId} {fn : Func} {mc : MCode} {res : List RV} {e : Exit} {s : ES} {v : AV} {avs : List AV} {vs : List Value} {H : NH} {nb : Nat} (h1 : P.funcs[f]? = some fn) (h2 : rcOf P fn = some mc) (h3 : rRVs P fn.results.toList = some res) (h4 : avs.length ≤ fn.ntmps) (h5 : fn.ntmps ≤ bnd) (h6 : evC E fn.ntmps H 100000 mc (es0 avs nb) = some (e, s)) (h7 : e = .normal ∨ e = .ret) (h8 : rdRes (s.st res) res = some v)
    {w0 : World} {S : Sc} {Es : Env → Prop} {U : Nm → Prop} {w : World} (k1 : ∃ ρ, Es ρ) (k2 : ∀ ρ ρ', Es ρ → (∀ x, ¬ U x → ρ' x = ρ x) → Es ρ') (k3 : ∀ x, U x → HF H x = .free) (k4 : ∀ ρ ρ', Es ρ → Es ρ' → ∀ x, HF H x ≠ .free → ρ x = ρ' x) (k5 : ∀ ρ, Es ρ → HCore w0 S ρ (HF H) w) (k6 : ∀ ρ, Es ρ → RepL ρ avs vs) (k8 : ∀ x : Nm, nb ≤ x.mx ∧ x.mx < s.nb → U x) :
    (Calls P f vs.toArray w fun e w' => ∃ (u : Value) (Es' : Env → Prop), e = .returned u ∧ (∃ ρ, Es' ρ) ∧ Adv Es H Es' (s.G H) (fun x : Nm => nb ≤ x.mx ∧ x.mx < s.nb) ∧ ∀ ρ, Es' ρ → Rep ρ v u ∧ HCore w0 S ρ (HF (s.G H)) w') ∧
    ∀ x : Nm, ¬ (nb ≤ x.mx ∧ x.mx < s.nb) → getP (s.G H) x ≠ .free → getP H x ≠ .free := by
  obtain ⟨c, hb, hrc⟩ := rcOf_body h2
  have hvl : ∀ ρ, Es ρ → vs.length = avs.length := fun ρ hρ => (k6 ρ hρ).length
  obtain ⟨ρ0, h0⟩ := k1
  have hvl0 := hvl ρ0 h0
  have hwp := evC_ok (P := P) (E := E) (w0 := w0) (S := S) (N := fn.ntmps) (D := []) (B := fun m => m < s.nb) (Es0 := Es) (H0 := H) (lb := nb) (G := H) hE hmix h5 100000 h6 (es0_ok avs nb) (fun m hm => hm) hrc
    (a := { tmps := vs.toArray ++ Array.replicate (fn.ntmps - vs.toArray.size) undef, defers := [] }) (w := w)
    ⟨⟨Es, ⟨⟨ρ0, h0⟩, fun ρ ρ' hρ he => k2 ρ ρ' hρ fun x hx => he x fun hu => hx (k8 x hu), fun x hx => by rw [es0_G]; exact k3 x (k8 x hx), k4, fun ρ hρ t ht => by
      rw [es0_T (by omega)] at ht ⊢
      cases hav : avs[t]? with
      | none => rw [hav] at ht; exact absurd rfl ht
      | some av =>
        rw [Option.getD_some]
        obtain ⟨u, hu, hr⟩ := (k6 ρ hρ).get hav
        refine ⟨u, ?_, hr⟩
        have ht : t < vs.length := (List.getElem?_eq_some_iff.1 hu).1
        rw [Array.getElem?_append_left (by simpa using ht)]
        simpa using hu, k5⟩, Adv.refl _ _ _⟩, Nat.le_refl _, by simp; omega, rfl⟩
  refine ⟨calls_of_wp h1 hb (wp_mono hwp fun e1 a1 w1 ⟨he, ⟨Es', hsat, hadv⟩, hle, hN, hD⟩ => ?_), ?_⟩
  · have hs' := hsat.forget (T' := lk (s.st res).tl) (G' := hk (s.st res).hl) (st_tl s res) (st_hl s res H)
    obtain ⟨u, hu, hr⟩ := results_ok h3 hs' h8
    have fin : bodyPost P fn (fun e w' => ∃ (u : Value) (Es' : Env → Prop), e = .returned u ∧ (∃ ρ, Es' ρ) ∧ Adv Es H Es' (s.G H) (fun x : Nm => nb ≤ x.mx ∧ x.mx < s.nb) ∧ ∀ ρ, Es' ρ → Rep ρ v u ∧ HCore w0 S ρ (HF (s.G H)) w') .normal a1 w1 :=
      ⟨hD, u, hu, u, Es', rfl, hsat.ne, hadv, fun ρ hρ => ⟨hr ρ hρ, hsat.hp ρ hρ⟩⟩
    subst he
    rcases h7 with rfl | rfl
    · exact fin
    · exact fin
  · obtain ⟨e1, a1, w1, ⟨_, ⟨Es', _, hadv⟩, _⟩, _⟩ := hwp default [] []
    exact hadv.2

theorem evS_sound (hE : SoundAll P E) (hmix : P.follows .mixedOrders = true) {f : FuncId} {fn : Func} (hf : P.funcs[f]? = some fn) (hn : (fn.name == "runtime.NumGoroutine") = false) (hb : fn.body.isNone = false) : Sound P f (evS P E f) := by
  refine ⟨⟨fn, hf, hn, hb⟩, fun w0 S Es U H w avs vs nb r k1 k2 k3 k4 k5 k6 k7 k8 => ?_⟩
  obtain ⟨fn, mc, res, e, s, v, h1, h2, h3, h4, h5, h6, h7, h8, rfl⟩ := evF_some k7
  have g := (evC_goes h5 100000 (es0_ok avs nb) h6).1
  have hnb : nb ≤ s.nb := g.nb
  simp only at k8 ⊢
  have hrg : nb + (s.nb - nb) = s.nb := by omega
  rw [hrg] at k8 ⊢
  have part : ∀ x, updL H (s.wl.map fun x => (x, s.G (fun _ => .free) x)) x = s.G H x ∨ updL H (s.wl.map fun x => (x, s.G (fun _ => .free) x)) x = .free := fun x => by
    rw [updL_map]
    split
    · unfold ES.G
      cases s.h.get x with
      | some o => exact .inl rfl
      | none => exact .inr rfl
    · rename_i hx
      left
      unfold ES.G
      cases hg : s.h.get x with
      | some o => exact absurd (g.ok x (by rw [hg]; simp)) hx
      | none => rfl
  obtain ⟨q1, q2⟩ := evF_run hE hmix h1 h2 h3 h4 h5 h6 h7 h8 k1 k2 k3 k4 k5 k6 k8
  refine ⟨q1.mono fun e w' ⟨u, Es', he, _, ⟨⟨gg, hgg⟩, _⟩, hall⟩ => ⟨u, gg, he, fun ρ hρ hg => ?_⟩, fun x hx hne => ?_⟩
  · obtain ⟨a1, a2⟩ := hall ρ (hgg ρ hρ hg)
    exact ⟨a1, a2.weaken (HF_part part)⟩
  · refine q2 x hx ?_
    rcases getP_part part x with e | e
    · rw [← e]; exact hne
    · exact absurd e hne

/-- All functions, by evaluation, so many calls deep. -/
def evA (P : Program) : Nat → FuncId → Option Spec
  | 0, _ => none
  | n + 1, f => match P.funcs[f]? with
    | some fn => if fn.body.isNone = false then some (evS P (evA P n) f) else none
    | none => none

theorem evA_sound (hmix : P.follows .mixedOrders = true) (hn : P.funcs.all (fun fn => !(fn.name == "runtime.NumGoroutine")) = true) : ∀ n, SoundAll P (evA P n)
  | 0, f, sp, h => by cases h
  | n + 1, f, sp, h => by
    simp only [evA] at h
    split at h
    · rename_i fn hfn
      split at h
      · rename_i hb
        injection h with h
        subst h
        refine evS_sound (evA_sound hmix hn n) hmix hfn ?_ hb
        have := Array.all_eq_true.1 hn
        obtain ⟨hi, he⟩ := Array.getElem?_eq_some_iff.1 hfn
        have := this f hi
        rw [he] at this
        simpa using this
      · cases h
    · cases h

/-- A call that is told nothing and comes to a truth. -/
def conS (b : Bool) : Spec where
  fn := fun args _ _ => match args with
    | [] => some ⟨.bool b, [], [], 8⟩
    | _ => none
  loc := fun args G G' nb r h _ => h
  nm := fun args G nb r h x hx => by
    split at h
    · injection h with h; subst h; simp at hx
    · cases h

def evB (E : FuncId → Option Spec) (P : Program) (f : FuncId) : Option Bool :=
  match evF E P f [] (fun _ => .free) 0 with
  | some r => (match r.v with
    | .bool b => some b
    | _ => none)
  | none => none

theorem con_sound (hE : SoundAll P E) (hmix : P.follows .mixedOrders = true) (hn : P.funcs.all (fun fn => !(fn.name == "runtime.NumGoroutine")) = true) {f : FuncId} {b : Bool} (h : evB E P f = some b) : Sound P f (conS b) := by
  unfold evB at h
  split at h
  · rename_i r hr
    split at h
    · rename_i b' hv
      injection h with h
      subst h
      obtain ⟨fn, mc, res, e, s, v, h1, h2, h3, h4, h5, h6, h7, h8, rfl⟩ := evF_some hr
      simp only at hv
      subst hv
      obtain ⟨c, hb, _⟩ := rcOf_body h2
      refine ⟨⟨fn, h1, ?_, by rw [hb]; rfl⟩, fun w0 S Es U H w avs vs nb r k1 k2 k3 k4 k5 k6 k7 k8 => ?_⟩
      · have := Array.all_eq_true.1 hn
        obtain ⟨hi, he⟩ := Array.getElem?_eq_some_iff.1 h1
        have := this f hi
        rw [he] at this
        simpa using this
      · simp only [conS] at k7
        split at k7
        · injection k7 with k7
          subst k7
          obtain ⟨ρ0, h0⟩ := k1
          have hvs : vs = [] := k6 ρ0 h0
          subst hvs
          have hfree : ∀ x : Nm, HF (fun _ => NObj.free) x = .free := fun x => HF_free.2 (getP_free rfl rfl)
          obtain ⟨q1, q2⟩ := evF_run (w0 := w) (S := ⟨fun _ => False, 0, fun _ => ⟨0, 0, 0, 0, false⟩⟩) (Es := fun _ => True) (U := fun _ => True) (w := w) (vs := []) hE hmix h1 h2 h3 h4 h5 h6 h7 h8 ⟨ρ0, trivial⟩ (fun _ _ _ _ => trivial) (fun x _ => hfree x) (fun _ _ _ _ x hx => absurd (hfree x) hx)
            (fun ρ _ => ⟨rfl, rfl, rfl, Nat.le_refl _, fun _ _ _ => rfl, fun x => by rw [hfree]; trivial, fun x hx => by rw [hfree] at hx; exact hx.elim, fun x y hx => by rw [hfree] at hx; exact hx.elim, fun x hx => by rw [hfree] at hx; exact hx.elim, fun x hx => absurd hx (Nat.not_lt_zero x)⟩) (fun ρ _ => rfl) (fun _ _ => trivial)
          refine ⟨q1.mono fun e w' ⟨u, Es', he, ⟨ρ1, hρ1⟩, _, hall⟩ => ⟨u, ρ0, he, fun ρ hρ hg => ?_⟩, fun x _ hne => hne⟩
          obtain ⟨a1, a2⟩ := hall ρ1 hρ1
          simp only [Rep] at a1 ⊢
          exact ⟨a1, (k5 ρ hρ).grow a2.os a2.tape a2.output a2.size fun b hb => a2.frame b hb fun h => h⟩
        · cases k7
    · cases h
  · cases h

end
end Go.W
