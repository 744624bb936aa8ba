/- The evaluator is sound. -/
import Derived.Test.YtmbploeikjangaaGreatWeA
set_option linter.unusedSimpArgs false
set_option linter.unusedVariables false
namespace Go.W

theorem Runs.re {E : FuncId → Option Spec} {bs bs' : Nat → Nat} : ∀ {l : List (Nat × MO × Res)} {T T' : Nat → AV} {H H' : NH}, Runs E bs l T H T' H' → (∀ y, y ∈ l → bs' y.1 = bs y.1) → Runs E bs' l T H T' H'
  | [], _, _, _, _, h, _ => by cases h; exact .nil _ _
  | (i, m, r) :: l, _, _, _, _, h, hb => by
    cases h with
    | cons h1 h2 => exact .cons (by rw [hb (i, m, r) List.mem_cons_self]; exact h1) (h2.re fun y hy => hb y (List.mem_cons_of_mem _ hy))

theorem fits_le {N : Nat} (hN : N ≤ bnd) {mo : MO} {mos : List MO} (h : fits N mos = true) (hm : mo ∈ mos) : ∀ d, mo.dst = some d → d ≤ bnd := fun d hd => by
  have := List.all_eq_true.1 h mo hm
  rw [hd] at this
  have := of_decide_eq_true this
  omega

/-- What a state goes on to. -/
structure Goes (G : NH) (s s' : ES) : Prop where
  ok : s'.Ok
  nb : s.nb ≤ s'.nb
  rd : ∀ x, x ∈ s.rd → x ∈ s'.rd
  wl : ∀ x, x ∈ s.wl → x ∈ s'.wl
  nm : ∀ x, x ∈ s'.wl → x ∈ s.wl ∨ (s.nb ≤ x ∧ x < s'.nb) ∨ G x ≠ .free

theorem Goes.refl {G : NH} {s : ES} (h : s.Ok) : Goes G s s := ⟨h, Nat.le_refl _, fun _ h => h, fun _ h => h, fun _ h => .inl h⟩
theorem Goes.trans {G : NH} {s s1 s2 : ES} (h : Goes G s s1) (h' : Goes G s1 s2) : Goes G s s2 :=
  ⟨h'.ok, Nat.le_trans h.nb h'.nb, fun x hx => h'.rd x (h.rd x hx), fun x hx => h'.wl x (h.wl x hx), fun x hx => by
    have a := h.nb
    have b := h'.nb
    rcases h'.nm x hx with h1 | h1 | h1
    · rcases h.nm x h1 with h2 | h2 | h2
      · exact .inl h2
      · exact .inr (.inl (by omega))
      · exact .inr (.inr h2)
    · exact .inr (.inl (by omega))
    · exact .inr (.inr h1)⟩

section
variable {E : FuncId → Option Spec} {G : NH} {N : Nat}

theorem evR_ok (hN : N ≤ bnd) : ∀ {mos : List MO} {i : Nat} {s : ES} {lg : List (Nat × List Nat × List Nat)} {x : ES × List (Nat × List Nat × List Nat)}, fits N mos = true → s.Ok → evR E G mos i s lg = some x → Goes G s x.1 ∧
    (∃ l bs, Runs E bs l s.T (s.G G) x.1.T (x.1.G G) ∧ l.map (·.1) = List.range' i mos.length ∧ l.map (·.2.1) = mos ∧ x.2 = lg ++ brief l ∧ l.Pairwise (fun y z => bs y.1 + y.2.2.n ≤ bs z.1) ∧ ∀ y, y ∈ l → s.nb ≤ bs y.1 ∧ bs y.1 + y.2.2.n ≤ x.1.nb) ∧
    ∀ G' : NH, (∀ y, y ∈ x.1.rd ∨ y ∈ x.1.wl → G y = G' y) → evR E G' mos i s lg = some x
  | [], i, s, lg, x, _, hok, h => by
    simp only [evR, Option.some.injEq] at h
    subst h
    exact ⟨.refl hok, ⟨[], fun _ => 0, .nil _ _, rfl, rfl, by simp [brief], .nil, by simp⟩, fun _ _ => rfl⟩
  | mo :: r, i, s, lg, x, hf, hok, h => by
    simp only [evR] at h
    cases hst : stepG E s.T (s.G G) s.nb mo with
    | none => simp [hst] at h
    | some q =>
      simp only [hst] at h
      split at h
      · rename_i hb
        obtain ⟨n1, n2, n3, n4, n5, n6, n7⟩ := next_ok G s mo q hb (fits_le hN hf List.mem_cons_self) hok
        have hf' : fits N r = true := by
          unfold fits at hf ⊢
          simp only [List.all_cons, Bool.and_eq_true] at hf
          exact hf.2
        obtain ⟨g, ⟨l, bs, r1, r2, r3, r4, r5, r6⟩, hloc⟩ := evR_ok hN hf' n1 h
        have hnm := stepG_nm hst
        refine ⟨Goes.trans ⟨n1, by omega, n6, fun y hy => (n5 y).2 (.inl hy), fun y hy => ?_⟩ g, ⟨(i, mo, q) :: l, fun j => if j = i then s.nb else bs j, .cons (by rw [if_pos rfl]; exact hst) (Runs.re (bs := bs) (by rw [← n2, ← n3]; exact r1) fun y hy => if_neg ?_), ?_, ?_, ?_, ?_, fun y hy => ?_⟩, fun G' hG => ?_⟩
        · rcases (n5 y).1 hy with h1 | h1
          · exact .inl h1
          · rcases hnm y h1 with h2 | h2
            · exact .inr (.inl (by omega))
            · unfold ES.G at h2
              cases hg : s.h.get y with
              | some o => exact .inl (hok y (by rw [hg]; simp))
              | none => rw [hg] at h2; exact .inr (.inr h2)
        · have h1 : y.1 ∈ List.range' (i + 1) r.length := by rw [← r2]; exact List.mem_map.2 ⟨y, hy, rfl⟩
          have h2 := (List.mem_range'_1.1 h1).1
          omega
        · simp [r2, List.range'_succ]
        · simp [r3]
        · rw [r4]; simp [brief]
        · have hne : ∀ y, y ∈ l → y.1 ≠ i := fun y hy => by
            have h1 : y.1 ∈ List.range' (i + 1) r.length := by rw [← r2]; exact List.mem_map.2 ⟨y, hy, rfl⟩
            have h2 := (List.mem_range'_1.1 h1).1
            omega
          refine List.pairwise_cons.2 ⟨fun z hz => ?_, ?_⟩
          · have := r6 z hz
            simp only [if_true]
            rw [if_neg (hne z hz)]
            omega
          · refine r5.imp_of_mem fun {y z} hy hz hyz => ?_
            simp only
            rw [if_neg (hne y hy), if_neg (hne z hz)]; exact hyz
        · have hg := g.nb
          rcases List.mem_cons.1 hy with rfl | hy
          · simp only [if_true]; omega
          · have h1 : y.1 ∈ List.range' (i + 1) r.length := by rw [← r2]; exact List.mem_map.2 ⟨y, hy, rfl⟩
            have h2 := (List.mem_range'_1.1 h1).1
            simp only
            rw [if_neg (by omega)]
            have := r6 y hy
            omega
        · simp only [evR]
          have hst' : stepG E s.T (s.G G') s.nb mo = some q := stepG_loc (fun _ _ => rfl) hst fun y hy => by
            unfold ES.G
            cases hg : s.h.get y with
            | some o => rfl
            | none =>
              simp only
              refine hG y ?_
              rcases hy with hy | hy
              · exact .inl (g.rd y (n7 y hy hg))
              · exact .inr (g.wl y ((n5 y).2 (.inr hy)))
          rw [hst']
          simp only [hb, if_true]
          exact hloc G' hG
      · cases h

theorem evC_goes (hN : N ≤ bnd) : ∀ (n : Nat) {c : MCode} {s : ES} {e : Exit} {s' : ES}, s.Ok → evC E N G n c s = some (e, s') → Goes G s s' ∧ ∀ G' : NH, (∀ y, y ∈ s'.rd ∨ y ∈ s'.wl → G y = G' y) → evC E N G' n c s = some (e, s')
  | 0, c, s, e, s', _, h => by simp [evC] at h
  | n + 1, c, s, e, s', hok, h => by
    have two : ∀ {a : MCode} {b : MCode}, thenE (evC E N G n a s) (fun s' => evC E N G n b s') = some (e, s') → Goes G s s' ∧ ∀ G' : NH, (∀ y, y ∈ s'.rd ∨ y ∈ s'.wl → G y = G' y) → thenE (evC E N G' n a s) (fun s' => evC E N G' n b s') = some (e, s') := fun {a b} h => by
      rcases thenE_some h with ⟨s1, h1, h2⟩ | ⟨h1, h2⟩
      · obtain ⟨g1, l1⟩ := evC_goes hN n hok h1
        obtain ⟨g2, l2⟩ := evC_goes hN n g1.ok h2
        refine ⟨g1.trans g2, fun G' hG => ?_⟩
        rw [l1 G' fun y hy => hG y (hy.imp (g2.rd y) (g2.wl y))]
        exact l2 G' hG
      · obtain ⟨g1, l1⟩ := evC_goes hN n hok h1
        refine ⟨g1, fun G' hG => ?_⟩
        rw [l1 G' hG]
        rw [h1] at h
        unfold thenE at h ⊢
        split at h
        · rename_i he; injection he with he; injection he with he _; exact absurd he h2
        · exact h
        · exact h
        · cases h
    cases c with
    | skip => simp only [evC, Option.some.injEq, Prod.mk.injEq] at h; obtain ⟨rfl, rfl⟩ := h; exact ⟨.refl hok, fun _ _ => rfl⟩
    | exit id => simp only [evC, Option.some.injEq, Prod.mk.injEq] at h; obtain ⟨rfl, rfl⟩ := h; exact ⟨.refl hok, fun _ _ => rfl⟩
    | ret => simp only [evC, Option.some.injEq, Prod.mk.injEq] at h; obtain ⟨rfl, rfl⟩ := h; exact ⟨.refl hok, fun _ _ => rfl⟩
    | reg mos =>
      simp only [evC] at h
      split at h
      · rename_i hf
        split at h
        · rename_i x hx
          injection h with h; injection h with h1 h2; subst h1 h2
          obtain ⟨g, _, l⟩ := evR_ok hN hf hok hx
          refine ⟨g, fun G' hG => ?_⟩
          simp only [evC, hf, if_true, l G' hG]
        · cases h
      · cases h
    | draw mos pr =>
      simp only [evC] at h
      split at h
      · rename_i hd
        have hf : fits N mos = true := by simp only [drawOk, Bool.and_eq_true] at hd; exact hd.1.1.1.1
        split at h
        · rename_i x hx
          split at h
          · rename_i hdy
            injection h with h; injection h with h1 h2; subst h1 h2
            obtain ⟨g, _, l⟩ := evR_ok hN hf hok hx
            refine ⟨g, fun G' hG => ?_⟩
            simp only [evC, hd, if_true, l G' hG, hdy]
          · cases h
        · cases h
      · cases h
    | seq a b => simp only [evC] at h ⊢; exact two h
    | loop a => simp only [evC] at h ⊢; exact two h
    | cond c a b =>
      simp only [evC] at h ⊢
      split at h
      · exact evC_goes hN n hok h
      · exact evC_goes hN n hok h
      · cases h
    | block id a =>
      simp only [evC] at h ⊢
      obtain ⟨e0, h1, h2⟩ := blockE_some h
      obtain ⟨g, l⟩ := evC_goes hN n hok h1
      refine ⟨g, fun G' hG => ?_⟩
      rw [l G' hG, ← h1]
      exact h
end

/-- A frame and a world as functions tell them. -/
def SatF (w0 : World) (S : Sc) (N : Nat) (D : List Deferred) (B : Nat → Prop) (Es0 : Env → Prop) (H0 : NH) (lb : Nat) (T : Nat → AV) (G : NH) (nb : Nat) (a : Act) (w : World) : Prop :=
  (∃ Es, Sat w0 S Es (fun x : Nm => nb ≤ x.mx ∧ B x.mx) T (HF G) a w ∧ Adv Es0 H0 Es G (fun x : Nm => lb ≤ x.mx ∧ x.mx < nb)) ∧ lb ≤ nb ∧ a.tmps.size = N ∧ a.defers = D

theorem Sat.less {w0 : World} {S : Sc} {Es : Env → Prop} {U U' : Nm → Prop} {T : Nat → AV} {H : Nm → AObj} {a : Act} {w : World} (h : Sat w0 S Es U T H a w) (hU : ∀ x, U' x → U x) : Sat w0 S Es U' T H a w :=
  ⟨h.ne, fun ρ ρ' h1 h2 => h.cl ρ ρ' h1 fun x hx => h2 x fun hu => hx (hU x hu), fun x hx => h.fr x (hU x hx), h.pin, h.tm, h.hp⟩

section
variable {P : Program} {E : FuncId → Option Spec} {w0 : World} {S : Sc} {N : Nat} {D : List Deferred} {B : Nat → Prop} {Es0 : Env → Prop} {H0 : NH} {lb : Nat} {G : NH}

theorem rC_region {code : Code} {mos : List MO} (hc : rC P code = some (.reg mos)) : ∃ id ops, code = .region id ops false ∧ rOs P ops ops.toList = some mos := by
  cases code <;> simp only [rC, reduceCtorEq, Option.some.injEq] at hc
  case region id ops d =>
    split at hc
    · rename_i l hl
      split at hc
      · cases hc
      · rename_i hd
        injection hc with hc
        injection hc with hc
        subst hc
        have hd' : d = false := by simpa using hd
        subst hd'
        exact ⟨id, ops, rfl, hl⟩
    · cases hc
  all_goals ((repeat' (split at hc)) <;> first | (cases hc; done) | (simp only [Option.map_eq_some_iff, reduceCtorEq, and_false, exists_false] at hc; done))

theorem rC_draw {code : Code} {mos : List MO} {pr : List (List Nat)} (hc : rC P code = some (.draw mos pr)) : ∃ id ops, code = .region id ops true ∧ rOs P ops ops.toList = some mos ∧ pr = ops.toList.map predsOf := by
  cases code <;> simp only [rC, reduceCtorEq, Option.some.injEq] at hc
  case region id ops d =>
    split at hc
    · rename_i l hl
      split at hc
      · rename_i hd
        injection hc with hc
        injection hc with hc hc2
        subst hc hc2 hd
        exact ⟨id, ops, rfl, hl, rfl⟩
      · cases hc
    · cases hc
  all_goals ((repeat' (split at hc)) <;> first | (cases hc; done) | (simp only [Option.map_eq_some_iff, reduceCtorEq, and_false, exists_false] at hc; done))

theorem reg_opsOk {ops : Array Oper} {mos : List MO} (hl : rOs P ops ops.toList = some mos) (hf : fits N mos = true) {ll : List (Nat × MO × Res)} (r2 : ll.map (·.1) = List.range' 0 mos.length) (r3 : ll.map (·.2.1) = mos) : ∀ x, x ∈ ll → ∃ o, ops[x.1]? = some o ∧ rO P ops o = some x.2.1 ∧ ∀ d, x.2.1.dst = some d → d < N := fun y hy => by
  obtain ⟨k, k1, k2⟩ := mem_ix r2 r3 hy
  obtain ⟨o, o1, o2⟩ := (rOs_get hl).2 k _ k2
  refine ⟨o, by rw [k1, Nat.zero_add, ← Array.getElem?_toList]; exact o1, o2, fun d hd => ?_⟩
  have := List.all_eq_true.1 hf _ (List.mem_of_getElem? k2)
  rw [hd] at this
  simpa using this

theorem evReg_ok (hE : SoundAll P E) (hN : N ≤ bnd) {mos : List MO} {s : ES} {x : ES × List (Nat × List Nat × List Nat)} (hf : fits N mos = true) (hx : evR E G mos 0 s [] = some x) (hok : s.Ok) (hB : ∀ m, m < x.1.nb → B m) {code : Code} (hc : rC P code = some (.reg mos)) {a : Act} {w : World} (hs : SatF w0 S N D B Es0 H0 lb s.T (s.G G) s.nb a w) :
    code.wp P (fun e1 a1 w1 => e1 = .normal ∧ SatF w0 S N D B Es0 H0 lb x.1.T (x.1.G G) x.1.nb a1 w1) a w := by
  obtain ⟨id, ops, rfl, hl⟩ := rC_region hc
  obtain ⟨g, ⟨ll, bs, r1, r2, r3, r4, r5, r6⟩, _⟩ := evR_ok hN hf hok hx
  obtain ⟨⟨Es, hsat, hadv⟩, hlb, hNs, hD⟩ := hs
  have hlen : ll.length = mos.length := by rw [← r3]; simp
  have hsz : ops.size = mos.length := by rw [← Array.length_toList, (rOs_get hl).1]
  refine wp_region ?_
  have := seq_ok (P := P) (E := E) (w0 := w0) (S := S) (N := N) (D := D) (ops := ops) (bs := bs) (mt := x.1.nb) (B := B) (Es0 := Es0) (H0 := H0) (lb := lb) (Tf := x.1.T) (Hf := x.1.G G) hE hB (Q := fun e1 a1 w1 => e1 = .normal ∧ SatF w0 S N D B Es0 H0 lb x.1.T (x.1.G G) x.1.nb a1 w1)
    (fun Es' U a1 w1 h1 h2 h3 h4 h5 => ⟨rfl, ⟨Es', h1.less fun y hy => h2 y hy.1 hy.2, h5⟩, Nat.le_trans hlb g.nb, h4, h3⟩)
    ll 0 s.nb Es _ _ _ a w r1 (by rw [hlen]; exact r2) (by rw [hlen, hsz]; omega) (reg_opsOk hl hf r2 r3) hsat (fun y hy hb => ⟨hy, hb⟩) hlb g.nb r5 r6 hadv hD hNs
  rw [List.range_eq_range', hsz, ← hlen]
  exact this

theorem evDraw_ok (hE : SoundAll P E) (hmix : P.follows .mixedOrders = true) (hN : N ≤ bnd) {mos : List MO} {pr cl : List (List Nat)} {s : ES} {x : ES × List (Nat × List Nat × List Nat)} (hd : drawOk N mos pr cl = true) (hx : evR E G mos 0 s [] = some x) (hdyn : dynB (prOf cl) x.2 = true) (hok : s.Ok) (hB : ∀ m, m < x.1.nb → B m) {code : Code} (hc : rC P code = some (.draw mos pr)) {a : Act} {w : World} (hs : SatF w0 S N D B Es0 H0 lb s.T (s.G G) s.nb a w) :
    code.wp P (fun e1 a1 w1 => e1 = .normal ∧ SatF w0 S N D B Es0 H0 lb x.1.T (x.1.G G) x.1.nb a1 w1) a w := by
  obtain ⟨id, ops, rfl, hl, rfl⟩ := rC_draw hc
  simp only [drawOk, Bool.and_eq_true] at hd
  obtain ⟨⟨⟨⟨hf, hstat⟩, hback⟩, hcll⟩, hcl⟩ := hd
  obtain ⟨g, ⟨ll, bs, r1, r2, r3, r4, r5, r6⟩, _⟩ := evR_ok hN hf hok hx
  obtain ⟨⟨Es, hsat, hadv⟩, hlb, hNs, hD⟩ := hs
  have hlen : ll.length = mos.length := by rw [← r3]; simp
  have hsz : ops.size = mos.length := by rw [← Array.length_toList, (rOs_get hl).1]
  have hpo : ∀ i o, ops[i]? = some o → prOf (ops.toList.map predsOf) i = predsOf o := fun i o ho => by
    rw [← Array.getElem?_toList] at ho
    simp [prOf, List.getD_eq_getElem?_getD, ho]
  have hwi : ll.map (fun x => (x.1, x.2.1)) = withIx mos := by
    unfold withIx
    rw [← r2]
    conv => rhs; rw [← r3]
    clear r1 r2 r3 r4 r5 r6 hlen
    induction ll with
    | nil => rfl
    | cons y ll ih => simp [ih]
  have hdis : ∀ y, y ∈ ll → ∀ z, z ∈ ll → z.1 ≠ y.1 → bs y.1 + y.2.2.n ≤ bs z.1 ∨ bs z.1 + z.2.2.n ≤ bs y.1 := by
    clear r1 r2 r3 r4 r6 hlen hwi
    induction ll with
    | nil => simp
    | cons u l ih =>
      rw [List.pairwise_cons] at r5
      intro y hy z hz hne
      rcases List.mem_cons.1 hy with h1 | h1
      · rcases List.mem_cons.1 hz with h2 | h2
        · exact absurd (by rw [h1, h2]) hne
        · rw [h1]; exact .inl (r5.1 z h2)
      · rcases List.mem_cons.1 hz with h2 | h2
        · rw [h2]; exact .inr (r5.1 y h1)
        · exact ih r5.2 y h1 z h2 hne
  have hin : ∀ i o, ops[i]? = some o → ∃ h : i < mos.length, (i, mos[i]'h) ∈ withIx mos := fun i o ho => by
    have hi := (Array.getElem?_eq_some_iff.1 ho).1
    refine ⟨by omega, ?_⟩
    unfold withIx
    refine List.mem_iff_getElem?.2 ⟨i, ?_⟩
    rw [List.getElem?_zip_eq_some]
    exact ⟨by rw [List.getElem?_range' (by omega)]; simp, List.getElem?_eq_getElem _⟩
  refine wp_region_any hmix ?_
  refine any_ok (P := P) (E := E) (w0 := w0) (S := S) (N := N) (D := D) (ops := ops) (pr := prOf cl) (bs := bs) (mt := x.1.nb) (B := B) (Es0 := Es0) (H0 := H0) (lb := lb) (Tf := x.1.T) (Hf := x.1.G G) hE (fun i o ho j hj => ?_) (fun i o ho e he hb => ?_) hB
    (fun Es' U a1 w1 h1 h2 h3 h4 h5 => ⟨rfl, ⟨Es', h1.less fun y hy => h2 y hy.1 hy.2, h5⟩, Nat.le_trans hlb g.nb, h4, h3⟩)
    ops.size ll (Array.replicate ops.size false) Es _ _ _ a { w with drawn := w.drawn + 1 } (by rw [hlen, hsz]) r1 (conf_of ll (by rw [hwi]; exact hstat) (by rw [r4] at hdyn; simpa using hdyn)) (by rw [r2]; exact List.nodup_range') (reg_opsOk hl hf r2 r3) (by simp) (fun i hi => ?_) (fun i o ho hni => absurd ?_ hni)
    ⟨hsat.ne, hsat.cl, hsat.fr, hsat.pin, hsat.tm, fun ρ hρ => (hsat.hp ρ hρ).drew⟩ (fun y hy hb => ⟨Nat.le_trans g.nb hy, hb⟩) (fun y hy => ⟨Nat.le_trans hlb (r6 y hy).1, (r6 y hy).2, fun z hz => ⟨by have := r6 y hy; omega, hB _ (by have := r6 y hy; omega)⟩, fun z hz hne m h1 h2 h3 => by rcases hdis y hy z hz hne with h | h <;> omega⟩) (hadv.mono fun z hz => ⟨hz.1, by have := g.nb; omega, fun y hy h => by have := r6 y hy; omega⟩) hD hNs
  · obtain ⟨hi, hm⟩ := hin i o ho
    have h1 := List.all_eq_true.1 (List.all_eq_true.1 hcl _ hm) j hj
    obtain ⟨k, hk, hkj⟩ := List.any_eq_true.1 h1
    rw [hpo i o ho] at hk
    unfold predsOf at hk
    obtain ⟨e, he, hk⟩ := List.mem_filterMap.1 hk
    split at hk
    · rename_i hb
      injection hk with hk
      refine ⟨e, Array.mem_toList_iff.1 he, hb, ?_⟩
      rw [hk]
      simpa using hkj
    · cases hk
  · obtain ⟨hi, hm⟩ := hin i o ho
    have h1 := List.all_eq_true.1 hback _ hm
    simp only [hpo i o ho] at h1
    have h2 := List.all_eq_true.1 h1 e.on (by unfold predsOf; exact List.mem_filterMap.2 ⟨e, Array.mem_toList_iff.2 he, by simp [hb]⟩)
    simpa using h2
  · rw [r2, hsz] at *
    simp [hi]
  · rw [r2, ← hsz]
    have := (Array.getElem?_eq_some_iff.1 ho).1
    simp [this]

theorem rC_seq {code : Code} {x y : MCode} (hc : rC P code = some (.seq x y)) : ∃ c d, code = .seq c d ∧ rC P c = some x ∧ rC P d = some y := by
  cases code <;> simp only [rC, reduceCtorEq, Option.some.injEq] at hc
  case seq c d =>
    split at hc
    · rename_i x' y' h1 h2
      injection hc with hc
      injection hc with e1 e2
      subst e1 e2
      exact ⟨c, d, rfl, h1, h2⟩
    · cases hc
  all_goals ((repeat' (split at hc)) <;> first | (cases hc; done) | (simp only [Option.map_eq_some_iff, reduceCtorEq, and_false, exists_false] at hc; done))

theorem rC_cond {code : Code} {c : X} {x y : MCode} (hc : rC P code = some (.cond c x y)) : ∃ o a b, code = .cond o a b ∧ c = rX o ∧ rC P a = some x ∧ rC P b = some y := by
  cases code <;> simp only [rC, reduceCtorEq, Option.some.injEq] at hc
  case cond o c d =>
    split at hc
    · rename_i x' y' h1 h2
      injection hc with hc
      injection hc with e0 e1 e2
      subst e0 e1 e2
      exact ⟨o, c, d, rfl, rfl, h1, h2⟩
    · cases hc
  all_goals ((repeat' (split at hc)) <;> first | (cases hc; done) | (simp only [Option.map_eq_some_iff, reduceCtorEq, and_false, exists_false] at hc; done))

theorem rC_block {code : Code} {id : Nat} {x : MCode} (hc : rC P code = some (.block id x)) : ∃ c, code = .block id c ∧ rC P c = some x := by
  cases code <;> simp only [rC, reduceCtorEq, Option.some.injEq] at hc
  case block j c =>
    cases hq : rC P c with
    | none => simp [hq] at hc
    | some x' =>
      simp only [hq, Option.map_some, Option.some.injEq, MCode.block.injEq] at hc
      obtain ⟨e1, e2⟩ := hc
      subst e1 e2
      exact ⟨c, rfl, hq⟩
  all_goals ((repeat' (split at hc)) <;> first | (cases hc; done) | (simp only [Option.map_eq_some_iff, reduceCtorEq, and_false, exists_false] at hc; done))

theorem rC_loop {code : Code} {x : MCode} (hc : rC P code = some (.loop x)) : ∃ c, code = .loop c ∧ rC P c = some x := by
  cases code <;> simp only [rC, reduceCtorEq, Option.some.injEq] at hc
  case loop c =>
    cases hq : rC P c with
    | none => simp [hq] at hc
    | some x' =>
      simp only [hq, Option.map_some, Option.some.injEq, MCode.loop.injEq] at hc
      subst hc
      exact ⟨c, rfl, hq⟩
  all_goals ((repeat' (split at hc)) <;> first | (cases hc; done) | (simp only [Option.map_eq_some_iff, reduceCtorEq, and_false, exists_false] at hc; done))

/-- WHAT CODE COMES TO. -/
theorem evC_ok (hE : SoundAll P E) (hmix : P.follows .mixedOrders = true) (hN : N ≤ bnd) : ∀ (n : Nat) {c : MCode} {s : ES} {e : Exit} {s' : ES}, evC E N G n c s = some (e, s') → s.Ok → (∀ m, m < s'.nb → B m) → ∀ {code : Code}, rC P code = some c → ∀ {a : Act} {w : World}, SatF w0 S N D B Es0 H0 lb s.T (s.G G) s.nb a w →
    code.wp P (fun e1 a1 w1 => e1 = e ∧ SatF w0 S N D B Es0 H0 lb s'.T (s'.G G) s'.nb a1 w1) a w := by
  intro n
  induction n using Nat.strongRecOn with
  | _ n ih =>
    intro c s e s' h hok hB code hc a w hs
    cases n with
    | zero => simp [evC] at h
    | succ n =>
      cases c with
      | skip =>
        simp only [evC, Option.some.injEq, Prod.mk.injEq] at h
        obtain ⟨rfl, rfl⟩ := h
        cases code <;> simp only [rC, reduceCtorEq] at hc
        case skip => exact wp_skip ⟨rfl, hs⟩
        all_goals ((repeat' (split at hc)) <;> first | (cases hc; done) | (simp only [Option.map_eq_some_iff, reduceCtorEq, and_false, exists_false] at hc; done))
      | exit id =>
        simp only [evC, Option.some.injEq, Prod.mk.injEq] at h
        obtain ⟨rfl, rfl⟩ := h
        cases code <;> simp only [rC, reduceCtorEq, Option.some.injEq] at hc
        case exit j => injection hc with hc; subst hc; exact wp_exit ⟨rfl, hs⟩
        all_goals ((repeat' (split at hc)) <;> first | (cases hc; done) | (simp only [Option.map_eq_some_iff, reduceCtorEq, and_false, exists_false] at hc; done))
      | ret =>
        simp only [evC, Option.some.injEq, Prod.mk.injEq] at h
        obtain ⟨rfl, rfl⟩ := h
        cases code <;> simp only [rC, reduceCtorEq] at hc
        case ret => exact wp_ret ⟨rfl, hs⟩
        all_goals ((repeat' (split at hc)) <;> first | (cases hc; done) | (simp only [Option.map_eq_some_iff, reduceCtorEq, and_false, exists_false] at hc; done))
      | reg mos =>
        simp only [evC] at h
        split at h
        · rename_i hf
          split at h
          · rename_i x hx
            injection h with h; injection h with h1 h2; subst h1 h2
            exact evReg_ok hE hN hf hx hok hB hc hs
          · cases h
        · cases h
      | draw mos pr =>
        simp only [evC] at h
        split at h
        · rename_i hd
          split at h
          · rename_i x hx
            split at h
            · rename_i hdy
              injection h with h; injection h with h1 h2; subst h1 h2
              exact evDraw_ok hE hmix hN hd hx hdy hok hB hc hs
            · cases h
          · cases h
        · cases h
      | seq x y =>
        simp only [evC] at h
        obtain ⟨c, d, rfl, hc1, hc2⟩ := rC_seq hc
        refine wp_seq ?_
        rcases thenE_some h with ⟨s1, h1, h2⟩ | ⟨h1, h2⟩
        · have g1 := (evC_goes hN n hok h1).1
          have g2 := (evC_goes hN n g1.ok h2).1
          refine wp_mono (ih n (Nat.lt_succ_self n) h1 hok (fun m hm => hB m (by have := g2.nb; omega)) hc1 hs) fun e1 a1 w1 ⟨he, hs1⟩ => ?_
          subst he
          exact ih n (Nat.lt_succ_self n) h2 g1.ok hB hc2 hs1
        · refine wp_mono (ih n (Nat.lt_succ_self n) h1 hok hB hc1 hs) fun e1 a1 w1 ⟨he, hs1⟩ => ?_
          subst he
          cases e1 <;> first | exact absurd rfl h2 | exact ⟨rfl, hs1⟩
      | cond c x y =>
        simp only [evC] at h
        obtain ⟨o, a1, b1, rfl, rfl, hc1, hc2⟩ := rC_cond hc
        have hs0 := hs
        obtain ⟨⟨Es, hsat, _⟩, _, _, _⟩ := hs0
        obtain ⟨ρ, hρ⟩ := hsat.ne
        have hev := hsat.ev hρ o
        split at h
        · rename_i hb
          rw [hb, Rep] at hev
          exact wp_cond_split hev (fun _ => ih n (Nat.lt_succ_self n) h hok hB hc1 hs) (fun e => by cases e)
        · rename_i hb
          rw [hb, Rep] at hev
          exact wp_cond_split hev (fun e => by cases e) (fun _ => ih n (Nat.lt_succ_self n) h hok hB hc2 hs)
        · cases h
      | block id x =>
        simp only [evC] at h
        obtain ⟨c, rfl, hc1⟩ := rC_block hc
        obtain ⟨e0, h1, h2⟩ := blockE_some h
        refine wp_block (wp_mono (ih n (Nat.lt_succ_self n) h1 hok hB hc1 hs) fun e1 a1 w1 ⟨he, hs1⟩ => ?_)
        subst he
        cases e1 with
        | exit j =>
          simp only [Exit.inBlock]
          simp only at h2
          split
          · rename_i hj; rw [if_pos hj] at h2; exact ⟨h2.symm, hs1⟩
          · rename_i hj; rw [if_neg hj] at h2; exact ⟨h2.symm, hs1⟩
        | _ => exact ⟨h2.symm, hs1⟩
      | loop x =>
        obtain ⟨c, rfl, hc1⟩ := rC_loop hc
        refine wp_loop_rounds (n + 1) ?_
        have key : ∀ m, m ≤ n + 1 → ∀ {s : ES}, evC E N G m (.loop x) s = some (e, s') → s.Ok → ∀ {a : Act} {w : World}, SatF w0 S N D B Es0 H0 lb s.T (s.G G) s.nb a w → Code.rounds P c (fun e1 a1 w1 => e1 = e ∧ SatF w0 S N D B Es0 H0 lb s'.T (s'.G G) s'.nb a1 w1) m a w := by
          intro m
          induction m with
          | zero => intro _ s h; simp [evC] at h
          | succ m ihm =>
            intro hle s h hok a w hs
            simp only [evC] at h
            rw [rounds_succ]
            rcases thenE_some h with ⟨s1, h1, h2⟩ | ⟨h1, h2⟩
            · have g1 := (evC_goes hN m hok h1).1
              have g2 := (evC_goes hN m g1.ok h2).1
              refine wp_mono (ih m (by omega) h1 hok (fun k hk => hB k (by have := g2.nb; omega)) hc1 hs) fun e1 a1 w1 ⟨he, hs1⟩ => ?_
              subst he
              exact ihm (by omega) h2 g1.ok hs1
            · refine wp_mono (ih m (by omega) h1 hok hB hc1 hs) fun e1 a1 w1 ⟨he, hs1⟩ => ?_
              subst he
              cases e1 <;> first | exact absurd rfl h2 | exact ⟨rfl, hs1⟩
        exact key (n + 1) (Nat.le_refl _) h hok hs

end
end Go.W
