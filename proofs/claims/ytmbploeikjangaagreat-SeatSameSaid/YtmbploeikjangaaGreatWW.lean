/- A call: back to the caller. -/
import Derived.Test.YtmbploeikjangaaGreatWV
set_option linter.unusedSimpArgs false
set_option linter.unusedVariables false
namespace Go.W

def wrs (G : NH) : List (Nm × NObj) → List (Nat × NObj)
  | [] => []
  | (p, o) :: r => wr G p o :: wrs (upd G (wr G p o).1 (wr G p o).2) r

theorem wrs_get : ∀ (ws : List (Nm × NObj)) (G : NH), (∀ q ∈ ws, Like (getP G q.1) q.2) → ws.Pairwise (fun a b => ¬ pre a.1 b.1 ∧ ¬ pre b.1 a.1) →
    (∀ q ∈ ws, getP (updL G (wrs G ws)) q.1 = q.2) ∧ (∀ x, (∀ q ∈ ws, ¬ pre q.1 x) → HF (updL G (wrs G ws)) x = HF G x) ∧ (∀ x, (∀ q ∈ ws, ¬ pre q.1 x ∧ ¬ pre x q.1) → getP (updL G (wrs G ws)) x = getP G x)
  | [], G, _, _ => ⟨by simp, fun _ _ => rfl, fun _ _ => rfl⟩
  | (p, o) :: r, G, hl, hp => by
    rw [List.pairwise_cons] at hp
    obtain ⟨a1, a2, a3⟩ := wr_get G p o (hl _ List.mem_cons_self)
    obtain ⟨b1, b2, b3⟩ := wrs_get r (upd G (wr G p o).1 (wr G p o).2) (fun q hq => by
      rw [a3 q.1 (hp.1 q hq).1 (hp.1 q hq).2]; exact hl q (List.mem_cons_of_mem _ hq)) hp.2
    refine ⟨fun q hq => ?_, fun x hx => ?_, fun x hx => ?_⟩
    · rcases List.mem_cons.1 hq with rfl | hq
      · show getP (updL (upd G _ _) (wrs _ r)) p = o
        rw [b3 p fun q hq => ⟨(hp.1 q hq).2, (hp.1 q hq).1⟩]; exact a1
      · exact b1 q hq
    · show HF (updL (upd G _ _) (wrs _ r)) x = _
      rw [b2 x fun q hq => hx q (List.mem_cons_of_mem _ hq)]
      exact a2 x (hx _ List.mem_cons_self)
    · show getP (updL (upd G _ _) (wrs _ r)) x = _
      rw [b3 x fun q hq => hx q (List.mem_cons_of_mem _ hq)]
      exact a3 x (hx _ List.mem_cons_self).1 (hx _ List.mem_cons_self).2

/-- What is written: the objects that came and are owned. -/
def wl (nb : Nat) : ML → List NObj → List NObj → List (Nm × NObj)
  | some (p, _) :: r, o :: os, o' :: os' => if o.own = true then (p, o'.retag nb) :: wl nb r os os' else wl nb r os os'
  | none :: r, _ :: os, _ :: os' => wl nb r os os'
  | _, _, _ => []

theorem wl_mem {nb : Nat} : ∀ {ml : ML} {objs outs : List NObj} {q : Nm × NObj}, q ∈ wl nb ml objs outs → ∃ (k i : Nat) (o o' : NObj), ml[k]? = some (some (q.1, i)) ∧ objs[k]? = some o ∧ outs[k]? = some o' ∧ o.own = true ∧ q.2 = o'.retag nb
  | some (p, i) :: r, o :: os, o' :: os', q, h => by
    simp only [wl] at h
    split at h
    · rename_i ho
      rcases List.mem_cons.1 h with rfl | h
      · exact ⟨0, i, o, o', rfl, rfl, rfl, ho, rfl⟩
      · obtain ⟨k, j, a, b, h1, h2, h3, h4, h5⟩ := wl_mem h
        exact ⟨k + 1, j, a, b, by simpa using h1, by simpa using h2, by simpa using h3, h4, h5⟩
    · obtain ⟨k, j, a, b, h1, h2, h3, h4, h5⟩ := wl_mem h
      exact ⟨k + 1, j, a, b, by simpa using h1, by simpa using h2, by simpa using h3, h4, h5⟩
  | none :: r, o :: os, o' :: os', q, h => by
    simp only [wl] at h
    obtain ⟨k, j, a, b, h1, h2, h3, h4, h5⟩ := wl_mem h
    exact ⟨k + 1, j, a, b, by simpa using h1, by simpa using h2, by simpa using h3, h4, h5⟩
  | [], _, _, _, h => by simp [wl] at h
  | some (p, i) :: r, [], _, _, h => by simp [wl] at h
  | some (p, i) :: r, _ :: _, [], _, h => by simp [wl] at h
  | none :: r, [], _, _, h => by simp [wl] at h
  | none :: r, _ :: _, [], _, h => by simp [wl] at h

theorem wl_of {nb : Nat} : ∀ {ml : ML} {objs outs : List NObj} {k i : Nat} {p : Nm} {o o' : NObj}, ml[k]? = some (some (p, i)) → objs[k]? = some o → outs[k]? = some o' → o.own = true → (p, o'.retag nb) ∈ wl nb ml objs outs
  | [], _, _, k, _, _, _, _, h, _, _, _ => by simp at h
  | m :: r, [], _, k, _, _, _, _, _, h, _, _ => by simp at h
  | m :: r, _ :: _, [], k, _, _, _, _, _, _, h, _ => by simp at h
  | some (p', i') :: r, o1 :: os, o1' :: os', k, i, p, o, o', h1, h2, h3, h4 => by
    cases k with
    | zero => simp at h1 h2 h3; obtain ⟨rfl, rfl⟩ := h1; subst h2 h3; simp [wl, h4]
    | succ k =>
      have := wl_of (nb := nb) (by simpa using h1) (by simpa using h2) (by simpa using h3) h4
      simp only [wl]; split
      · exact List.mem_cons_of_mem _ this
      · exact this
  | none :: r, o1 :: os, o1' :: os', k, i, p, o, o', h1, h2, h3, h4 => by
    cases k with
    | zero => simp at h1
    | succ k =>
      have := wl_of (nb := nb) (by simpa using h1) (by simpa using h2) (by simpa using h3) h4
      simp only [wl]; exact this

theorem wl_pair {nb : Nat} : ∀ {ml : ML} {objs outs : List NObj}, Apart ml objs → (wl nb ml objs outs).Pairwise (fun a b => ¬ pre a.1 b.1 ∧ ¬ pre b.1 a.1)
  | some (p, i) :: r, o :: os, o' :: os', h => by
    have tail : Apart r os := fun k k' p p' i i' o hne h1 h2 h3 h4 => h (k + 1) (k' + 1) p p' i i' o (by omega) (by simpa using h1) (by simpa using h2) (by simpa using h3) h4
    simp only [wl]
    split
    · rename_i ho
      rw [List.pairwise_cons]
      refine ⟨fun q hq => ?_, wl_pair tail⟩
      obtain ⟨k, j, a, b, h1, h2, h3, h4, h5⟩ := wl_mem hq
      exact h 0 (k + 1) p q.1 i j o (by omega) rfl (by simpa using h1) rfl ho
    · exact wl_pair tail
  | none :: r, o :: os, o' :: os', h => by
    have tail : Apart r os := fun k k' p p' i i' o hne h1 h2 h3 h4 => h (k + 1) (k' + 1) p p' i i' o (by omega) (by simpa using h1) (by simpa using h2) (by simpa using h3) h4
    simp only [wl]
    exact wl_pair tail
  | [], _, _, _ => by simp [wl]
  | some (p, i) :: r, [], _, _ => by simp [wl]
  | some (p, i) :: r, _ :: _, [], _ => by simp [wl]
  | none :: r, [], _, _ => by simp [wl]
  | none :: r, _ :: _, [], _ => by simp [wl]

/-- The caller's names are older than the call. -/
def Names (ml : ML) (nb : Nat) : Prop := ∀ (k : Nat) (p : Nm) (i : Nat), ml[k]? = some (some (p, i)) → p.mx < nb

theorem cl_kid_tag {o : NObj} (h : o.clO = true) (t j f : Nat) : (kid o t j f).tag = 0 := by
  unfold kid
  split
  · cases he : elemN o j with
    | none => rfl
    | some c =>
      simp only [kidC]
      cases hv : c[f]? with
      | none => rfl
      | some v =>
        have := clL_get (clO_elem h he) hv
        cases v <;> try rfl
        · simp only [AV.cl, Bool.and_eq_true] at this
          have := of_decide_eq_true this.1
          simp only [kidV]; split <;> exact this
        · simp only [AV.cl, Bool.and_eq_true] at this
          have := of_decide_eq_true this.1
          simp only [kidV]; split <;> exact this
  · rfl

/-- Which of the callee's names stands for which. -/
inductive Back (G' Gf : NH) (nb m : Nat) (ml : ML) (objs : List NObj) : Nm → Nm → Prop
  | new (i : Nat) : Back G' Gf nb m ml objs (.top (nb + i)) (.top (m + i))
  | came {k i : Nat} {p : Nm} {o : NObj} (h1 : ml[k]? = some (some (p, i))) (h2 : objs[k]? = some o) (h3 : o.own = true) : Back G' Gf nb m ml objs p (.top k)
  | sub {x z : Nm} (j f : Nat) (h : Back G' Gf nb m ml objs x z) : Back G' Gf nb m ml objs (.sub x (getP G' x).tag j f) (.sub z (getP Gf z).tag j f)

section
variable {G G' Gf : NH} {nb m : Nat} {ml : ML} {objs outs news : List NObj}

theorem back_where {x z : Nm} (h : Back G' Gf nb m ml objs x z) : nb ≤ x.root ∨ ∃ (k i : Nat) (p : Nm) (o : NObj), ml[k]? = some (some (p, i)) ∧ objs[k]? = some o ∧ o.own = true ∧ pre p x := by
  induction h with
  | new i => left; simp [Nm.root]
  | came h1 h2 h3 => exact .inr ⟨_, _, _, _, h1, h2, h3, pre_refl _⟩
  | sub j f h ih =>
    rcases ih with ih | ⟨k, i, p, o, a1, a2, a3, a4⟩
    · exact .inl ih
    · exact .inr ⟨k, i, p, o, a1, a2, a3, .inr a4⟩

theorem came_not_sub (hap : Apart ml objs) (hnm : Names ml nb) {x z : Nm} (h : Back G' Gf nb m ml objs x z) {k i t j f : Nat} {o : NObj} (h1 : ml[k]? = some (some (.sub x t j f, i))) (h2 : objs[k]? = some o) (h3 : o.own = true) : False := by
  rcases back_where h with h4 | ⟨k', i', p, o', a1, a2, a3, a4⟩
  · have := hnm _ _ _ h1
    have := root_mx x
    simp only [Nm.mx] at *
    omega
  · by_cases e : k' = k
    · subst e
      rw [h1] at a1
      simp only [Option.some.injEq, Prod.mk.injEq] at a1
      have := pre_depth a4
      rw [← a1.1] at this
      simp only [depth] at this
      omega
    · exact (hap k' k p _ i' i o' e a1 h1 a2 a3).1 (.inr a4)

theorem back_fun (hap : Apart ml objs) (hnm : Names ml nb) {x z : Nm} (h : Back G' Gf nb m ml objs x z) : ∀ {z'}, Back G' Gf nb m ml objs x z' → z = z' := by
  induction h with
  | new i =>
    intro z' h'
    generalize hx : Nm.top (nb + i) = x at h'
    cases h' with
    | new i' => injection hx with hx; rw [show i = i' by omega]
    | came h1 h2 h3 => have := hnm _ _ _ h1; rw [← hx] at this; simp only [Nm.mx] at this; omega
    | sub j f h => cases hx
  | @came k i p o h1 h2 h3 =>
    intro z' h'
    cases h' with
    | new i' => have := hnm _ _ _ h1; simp only [Nm.mx] at this; omega
    | @came k' i' _ o' g1 g2 g3 =>
      by_cases e : k = k'
      · rw [e]
      · exact absurd (pre_refl p) (hap k k' p p i i' o e h1 g1 h2 h3).1
    | sub j f h => exact (came_not_sub hap hnm h h1 h2 h3).elim
  | @sub x z j f h ih =>
    intro z' h'
    generalize hx : Nm.sub x (getP G' x).tag j f = y at h'
    cases h' with
    | new i' => cases hx
    | came h1 h2 h3 => rw [← hx] at h1; exact (came_not_sub hap hnm h h1 h2 h3).elim
    | sub j' f' h' =>
      injection hx with e1 e2 e3 e4
      subst e1 e3 e4
      rw [ih h']

theorem back_inj (hlen : ml.length = m) {x z : Nm} (h : Back G' Gf nb m ml objs x z) : ∀ {x'}, Back G' Gf nb m ml objs x' z → x = x' := by
  induction h with
  | new i =>
    intro x' h'
    generalize hz : Nm.top (m + i) = z at h'
    cases h' with
    | new i' => injection hz with hz; rw [show i = i' by omega]
    | came h1 h2 h3 =>
      injection hz with hz
      have := (List.getElem?_eq_some_iff.1 h1).1
      omega
    | sub j f h => cases hz
  | @came k i p o h1 h2 h3 =>
    intro x' h'
    generalize hz : Nm.top k = z at h'
    cases h' with
    | new i' =>
      injection hz with hz
      have := (List.getElem?_eq_some_iff.1 h1).1
      omega
    | came g1 g2 g3 =>
      injection hz with hz
      subst hz
      rw [h1] at g1
      simp only [Option.some.injEq, Prod.mk.injEq] at g1
      exact g1.1
    | sub j f h => cases hz
  | @sub x z j f h ih =>
    intro x' h'
    generalize hz : Nm.sub z (getP Gf z).tag j f = y at h'
    cases h' with
    | new i' => cases hz
    | came h1 h2 h3 => cases hz
    | sub j' f' h' =>
      injection hz with e1 e2 e3 e4
      subst e1 e3 e4
      rw [ih h']

/-- The heap behind the call. -/
def afterL (G : NH) (nb : Nat) (ml : ML) (objs outs news : List NObj) : List (Nat × NObj) := wrs G (wl nb ml objs outs) ++ idxO nb news

theorem updL_app {κ α : Type} [DecidableEq κ] : ∀ (a b : List (κ × α)) (H : κ → α), updL H (a ++ b) = updL (updL H a) b
  | [], _, _ => rfl
  | (x, o) :: r, b, H => by simp [updL, updL_app r]

theorem updL_idxO : ∀ (l : List NObj) (i : Nat) (H : NH) (x : Nat), updL H (idxO i l) x = if i ≤ x ∧ x < i + l.length then (l[x - i]?).getD .free else H x
  | [], i, H, x => by simp [idxO, updL]; omega
  | o :: r, i, H, x => by
    rw [idxO, updL, updL_idxO r]
    by_cases e : x = i
    · subst e
      rw [if_neg (by omega), upd_same, if_pos (by simp)]
      simp
    · rw [upd_other _ _ e]
      by_cases h : i + 1 ≤ x ∧ x < i + 1 + r.length
      · rw [if_pos h, if_pos (by simp; omega)]
        obtain ⟨d, hd⟩ : ∃ d, x - i = d + 1 := ⟨x - i - 1, by omega⟩
        rw [hd, show x - (i + 1) = d by omega]; simp
      · rw [if_neg h, if_neg (by simp; omega)]

structure Ends (objs outs news : List NObj) : Prop where
  len : outs.length = objs.length
  out : ∀ (k : Nat) (o o' : NObj), objs[k]? = some o → outs[k]? = some o' → (o.own = true → Like o o') ∧ (o.own = false → o' = .free) ∧ o'.clO = true ∧ o'.tag = 0
  new : ∀ (k : Nat) (o : NObj), news[k]? = some o → o.own = true ∧ o.clO = true ∧ o.tag = 0
  few : news.length ≤ 8

theorem Like.trans0 {og o : NObj} (h : og.own = true) {nb : Nat} (hl : Like og.t0 o) : Like og (o.retag nb) := by
  cases og <;> simp [NObj.own] at h <;> cases o <;> simp_all [Like, NObj.t0, NObj.retag, t0LL_length]

set_option linter.unusedSectionVars false
section
variable (hc : Cames G ml objs) (hap : Apart ml objs) (hnm : Names ml nb) (hend : Ends objs outs news) (hnew : ∀ k, nb ≤ k → k < nb + 8 → G k = .free) (hG' : G' = updL G (afterL G nb ml objs outs news)) (hGf : Gf = hk (idxO 0 (outs ++ news))) (hm : m = objs.length)
include hc hap hnm hend hnew hG'

theorem ws_like : ∀ q ∈ wl nb ml objs outs, Like (getP G q.1) q.2 := fun q hq => by
  obtain ⟨k, i, o, o', h1, h2, h3, h4, h5⟩ := wl_mem hq
  have hs := hc.2 k _ o h1 h2
  simp only at hs
  have hl := (hend.out k o o' h2 h3).1 h4
  rw [h5]
  cases hs with
  | own h hcl => exact Like.trans0 h hl
  | row h _ _ => cases h4
  | one h _ => cases h4

/-- Names that a call leaves alone. -/
theorem after_far {x : Nm} (hr : ¬ (nb ≤ x.root ∧ x.root < nb + 8)) (hx : ∀ (k i : Nat) (p : Nm) (o : NObj), ml[k]? = some (some (p, i)) → objs[k]? = some o → o.own = true → ¬ pre p x) : HF G' x = HF G x := by
  have h1 := (wrs_get _ G (ws_like hc hap hnm hend hnew hG') (wl_pair hap)).2.1 x fun q hq => by
    obtain ⟨k, i, o, o', h1, h2, h3, h4, h5⟩ := wl_mem hq
    exact hx k i q.1 o h1 h2 h4
  rw [← h1, hG', afterL, updL_app]
  have : ∀ {y : Nm}, ¬ (nb ≤ y.root ∧ y.root < nb + 8) → getP (updL (updL G (wrs G (wl nb ml objs outs))) (idxO nb news)) y = getP (updL G (wrs G (wl nb ml objs outs))) y := fun {y} hy => getP_same (by rw [updL_idxO, if_neg]; have := hend.few; omega)
  unfold HF
  rw [this hr]

theorem after_came {k i : Nat} {p : Nm} {o o' : NObj} (h1 : ml[k]? = some (some (p, i))) (h2 : objs[k]? = some o) (h3 : outs[k]? = some o') (h4 : o.own = true) : getP G' p = o'.retag nb := by
  have := (wrs_get _ G (ws_like hc hap hnm hend hnew hG') (wl_pair hap)).1 _ (wl_of (nb := nb) h1 h2 h3 h4)
  rw [hG', afterL, updL_app]
  refine Eq.trans ?_ this
  exact getP_same (by
    have := hnm _ _ _ h1
    have := root_mx p
    rw [updL_idxO, if_neg (by omega)])

include hGf hm

/-- What stands behind the call where it wrote. -/
theorem after_get : ∀ x : Nm, getP G' x ≠ .free → (nb ≤ x.root ∧ x.root < nb + 8 ∨ ∃ (k i : Nat) (p : Nm) (o : NObj), ml[k]? = some (some (p, i)) ∧ objs[k]? = some o ∧ o.own = true ∧ pre p x) → ∃ z, Back G' Gf nb m ml objs x z ∧ (∃ t, getP G' x = (getP Gf z).retag t) ∧ (getP Gf z).clO = true ∧ ((x.mx < nb + 8 ∧ nb ≤ x.mx ∧ (getP G' x).tag = 0) ∨ ∃ (k i : Nat) (o : NObj), ml[k]? = some (some (x, i)) ∧ objs[k]? = some o ∧ o.own = true ∧ z = .top k) ∧ (getP Gf z).own = true
  | x, hne, hw => by
    have came : ∀ {k i : Nat} {o : NObj}, ml[k]? = some (some (x, i)) → objs[k]? = some o → o.own = true → ∃ z, Back G' Gf nb m ml objs x z ∧ (∃ t, getP G' x = (getP Gf z).retag t) ∧ (getP Gf z).clO = true ∧ ((x.mx < nb + 8 ∧ nb ≤ x.mx ∧ (getP G' x).tag = 0) ∨ ∃ (k i : Nat) (o : NObj), ml[k]? = some (some (x, i)) ∧ objs[k]? = some o ∧ o.own = true ∧ z = .top k) ∧ (getP Gf z).own = true := fun {k i o} h1 h2 h3 => by
      have hk := (List.getElem?_eq_some_iff.1 h2).1
      obtain ⟨oo, h4⟩ : ∃ oo, outs[k]? = some oo := ⟨_, List.getElem?_eq_getElem (by rw [hend.len]; exact hk)⟩
      have h5 := after_came hc hap hnm hend hnew hG' h1 h2 h4 h3
      have h6 : getP Gf (.top k) = oo := by
        rw [hGf, getP, hk_idx0, List.getElem?_append_left (by rw [hend.len]; exact hk), h4]; rfl
      refine ⟨.top k, .came h1 h2 h3, ⟨nb, by rw [h5, h6]⟩, by rw [h6]; exact (hend.out k o _ h2 h4).2.2.1, .inr ⟨k, i, o, h1, h2, h3, rfl⟩, ?_⟩
      rw [h6]
      have hl := (hend.out k o _ h2 h4).1 h3
      rw [h5] at hne
      cases o <;> cases oo <;> first | rfl | exact hl.elim | exact absurd rfl hne | (simp [NObj.own] at h3)
    by_cases hcm : ∃ (k i : Nat) (o : NObj), ml[k]? = some (some (x, i)) ∧ objs[k]? = some o ∧ o.own = true
    · obtain ⟨k, i, o, h1, h2, h3⟩ := hcm
      exact came h1 h2 h3
    cases x with
    | top n =>
      rcases hw with ⟨h1, h2⟩ | ⟨k, i, p, o, h1, h2, h3, h4⟩
      · simp only [Nm.root] at h1 h2
        have e : G' n = if nb ≤ n ∧ n < nb + news.length then (news[n - nb]?).getD .free else updL G (wrs G (wl nb ml objs outs)) n := by rw [hG', afterL, updL_app, updL_idxO]
        have hf : updL G (wrs G (wl nb ml objs outs)) n = .free := by
          have := (wrs_get _ G (ws_like hc hap hnm hend hnew hG') (wl_pair hap)).2.2 (.top n) fun q hq => by
            obtain ⟨k, i, o, o', g1, g2, g3, g4, g5⟩ := wl_mem hq
            have h7 := hnm _ _ _ g1
            have h8 := root_mx q.1
            refine ⟨fun h => ?_, fun h => ?_⟩
            · simp only [pre] at h
              rw [h] at h7
              simp only [Nm.mx] at h7
              omega
            · have h9 := pre_root.1 h
              omega
          rw [show updL G (wrs G (wl nb ml objs outs)) n = getP (updL G (wrs G (wl nb ml objs outs))) (.top n) from rfl, this]
          exact hnew n h1 h2
        rw [getP, e] at hne ⊢
        by_cases hlt : nb ≤ n ∧ n < nb + news.length
        · rw [if_pos hlt] at hne ⊢
          obtain ⟨o1, hg⟩ : ∃ o1, news[n - nb]? = some o1 := ⟨_, List.getElem?_eq_getElem (by omega)⟩
          have h6 : getP Gf (.top (m + (n - nb))) = o1 := by
            rw [hGf, getP, hk_idx0, List.getElem?_append_right (by rw [hend.len]; omega), hend.len, show m + (n - nb) - objs.length = n - nb by omega, hg]; rfl
          have hnw := hend.new _ _ hg
          refine ⟨.top (m + (n - nb)), ?_, ⟨0, ?_⟩, by rw [h6]; exact hnw.2.1, .inl ⟨h2, h1, by rw [hg]; exact hnw.2.2⟩, by rw [h6]; exact hnw.1⟩
          · have := Back.new (G' := G') (Gf := Gf) (nb := nb) (m := m) (ml := ml) (objs := objs) (n - nb)
            rw [show nb + (n - nb) = n by omega] at this
            exact this
          · rw [hg, h6, Option.getD_some]
            have := hnw.2.2
            clear hg h6 hnw
            cases o1 <;> simp only [NObj.tag] at this <;> simp [NObj.retag, this]
        · rw [if_neg hlt, hf] at hne; exact absurd rfl hne
      · simp only [pre] at h4
        subst h4
        exact absurd ⟨k, i, o, h1, h2, h3⟩ hcm
    | sub y t j f =>
      have hgy : getP G' y ≠ .free := fun e => hne (by rw [getP, e]; simp [kid, elemN])
      have hwy : nb ≤ y.root ∧ y.root < nb + 8 ∨ ∃ (k i : Nat) (p : Nm) (o : NObj), ml[k]? = some (some (p, i)) ∧ objs[k]? = some o ∧ o.own = true ∧ pre p y := by
        rcases hw with hw | ⟨k, i, p, o, h1, h2, h3, h4⟩
        · exact .inl hw
        · rcases h4 with h4 | h4
          · subst h4; exact absurd ⟨k, i, o, h1, h2, h3⟩ hcm
          · exact .inr ⟨k, i, p, o, h1, h2, h3, h4⟩
      obtain ⟨z, b1, ⟨ty, b2⟩, b3, b4, b5⟩ := after_get y hgy hwy
      have hzne : getP Gf z ≠ .free := fun e => hgy (by rw [b2, e]; rfl)
      have htag : (getP G' y).tag = t := by
        by_cases e : (getP G' y).tag = t
        · exact e
        · exact absurd (kid_tag e) hne
      have hty : ty = t := by rw [b2, retag_tag ty hzne] at htag; exact htag
      have key : getP G' (.sub y t j f) = getP Gf (.sub z (getP Gf z).tag j f) := by
        rw [getP, getP, b2, ← hty, retag_kid ty hzne]
      have hcl : (kid (getP Gf z) (getP Gf z).tag j f).clO = true := cl_kid (fun j c v f hc hv hp => clL_get (clO_elem b3 hc) hv) _ j f
      have hkne : kid (getP Gf z) (getP Gf z).tag j f ≠ .free := by rw [key] at hne; exact hne
      refine ⟨.sub z (getP Gf z).tag j f, by rw [← htag]; exact .sub j f b1, ⟨(getP G' (.sub y t j f)).tag, ?_⟩, hcl, .inl ?_, ?_⟩
      · rw [← key]; cases getP G' (.sub y t j f) <;> rfl
      · simp only [Nm.mx]
        have htx : (getP G' (.sub y t j f)).tag = 0 := by rw [key]; exact cl_kid_tag b3 _ _ _
        rcases b4 with ⟨b4, b4', b4''⟩ | ⟨k, i, o, g1, g2, g3, g4⟩
        · rw [htag] at b4''
          exact ⟨by omega, by omega, htx⟩
        · have := hnm _ _ _ g1
          have : t = nb := by
            have hk := (List.getElem?_eq_some_iff.1 g2).1
            obtain ⟨oo, h4⟩ : ∃ oo, outs[k]? = some oo := ⟨_, List.getElem?_eq_getElem (by rw [hend.len]; exact hk)⟩
            have h5 := after_came hc hap hnm hend hnew hG' g1 g2 h4 g3
            have hon : oo ≠ .free := fun e => hgy (by rw [h5, e]; rfl)
            rw [h5, retag_tag nb hon] at htag
            exact htag.symm
          exact ⟨by omega, by omega, htx⟩
      · have : ∀ {o : NObj} {t j f}, o.own = true → kid o t j f ≠ .free → (kid o t j f).own = true := fun {o t j f} ho hk => by
          unfold kid at hk ⊢
          split at hk
          · rename_i h
            rw [if_pos h]
            cases he : elemN o j with
            | none => rw [he] at hk; exact absurd rfl hk
            | some c =>
              rw [he] at hk
              simp only [kidC] at hk ⊢
              cases hv : c[f]? with
              | none => rw [hv] at hk; exact absurd rfl hk
              | some v =>
                rw [hv] at hk
                simp only at hk ⊢
                have hro : o.ro = false := by cases o <;> simp_all [NObj.own, NObj.ro]
                rw [hro] at hk ⊢
                cases v <;> simp only [kidV] at hk ⊢ <;> first | exact absurd rfl hk | rfl
          · exact absurd rfl hk
        exact this b5 hkne
end
end
end Go.W
