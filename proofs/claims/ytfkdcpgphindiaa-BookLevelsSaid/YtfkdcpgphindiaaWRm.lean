/- A call that changes one array, which is plain, and hands it back or leaves it; all else it only reads. -/
import Derived.Test.YtfkdcpgphindiaaWbA
import Derived.Test.YtfkdcpgphindiaaWkC
set_option linter.unusedSimpArgs false
set_option linter.unusedVariables false
namespace Go.W

/-- The array that comes first is handed back, with other elements. -/
def mixF (sz0 : Nat) (d : List AV → List NObj → Option (List (List AV))) (args : List AV) (G : NH) (nb : Nat) : Option Res :=
  match args with
  | .sl (.top p) 0 n :: rest => (match G p with
    | .arr t sz els => if sz = sz0 ∧ n = els.length ∧ datLL els = true then (match travL (lnV G 6) 1 rest with
      | some (xs, ml, os) => if (mlRoots ml).contains p = false then (match d (.sl (.top 0) 0 n :: xs) (.arr 0 sz0 els :: os) with
        | some els' => if datLL els' = true then some ⟨.sl (.top nb) 0 els'.length, [(p, .free), (nb, .arr 0 sz0 els')], p :: mlRoots ml⟩ else none
        | none => none) else none
      | none => none) else none
    | _ => none)
  | _ => none

theorem mixF_some {sz0 : Nat} {d : List AV → List NObj → Option (List (List AV))} {args : List AV} {G : NH} {nb : Nat} {r : Res} (h : mixF sz0 d args G nb = some r) : ∃ p rest t els xs ml os els', args = .sl (.top p) 0 els.length :: rest ∧ G p = .arr t sz0 els ∧ datLL els = true ∧ travL (lnV G 6) 1 rest = some (xs, ml, os) ∧ p ∉ mlRoots ml ∧ d (.sl (.top 0) 0 els.length :: xs) (.arr 0 sz0 els :: os) = some els' ∧ datLL els' = true ∧ r = ⟨.sl (.top nb) 0 els'.length, [(p, .free), (nb, .arr 0 sz0 els')], p :: mlRoots ml⟩ := by
  unfold mixF at h
  split at h
  · rename_i p n rest
    split at h
    · rename_i t sz els hG
      split at h
      · rename_i hc
        obtain ⟨rfl, rfl, hd⟩ := hc
        split at h
        · rename_i xs ml os ht
          split at h
          · rename_i hp
            split at h
            · rename_i els' hd'
              split at h
              · rename_i he
                injection h with h
                exact ⟨p, rest, t, els, xs, ml, os, els', rfl, hG, hd, ht, by simpa using hp, hd', he, h.symm⟩
              · cases h
            · cases h
          · cases h
        · cases h
      · cases h
    · cases h
  · cases h

theorem mix_heap {G : NH} {p nb sz : Nat} {els' : List (List AV)} (hne : p ≠ nb) (hd : datLL els' = true) (x : Nm) :
    (x = .top nb ∧ getP (updL G [(p, .free), (nb, .arr 0 sz els')]) x = .arr 0 sz els') ∨ ((x.root = p ∨ x.root = nb) ∧ x ≠ .top nb ∧ getP (updL G [(p, .free), (nb, .arr 0 sz els')]) x = .free) ∨ (x.root ≠ p ∧ x.root ≠ nb ∧ getP (updL G [(p, .free), (nb, .arr 0 sz els')]) x = getP G x) := by
  have e1 : updL G [(p, .free), (nb, .arr 0 sz els')] nb = .arr 0 sz els' := by simp [updL, upd]
  have e2 : updL G [(p, .free), (nb, .arr 0 sz els')] p = .free := by simp [updL, upd, hne]
  by_cases h1 : x.root = nb
  · by_cases h2 : x = .top nb
    · left; subst h2; exact ⟨rfl, e1⟩
    · right; left
      exact ⟨.inr h1, h2, below_none (by rw [e1]; exact datO_kid hd) h1 h2⟩
  · by_cases h2 : x.root = p
    · right; left
      exact ⟨.inl h2, fun e => h1 (by rw [e]; rfl), getP_free e2 h2⟩
    · right; right
      refine ⟨h2, h1, getP_same ?_⟩
      simp [updL, upd, h1, h2]

def mixS (sz0 : Nat) (d : List AV → List NObj → Option (List (List AV))) : Spec where
  fn := mixF sz0 d
  loc := fun args G G' nb r h hG => by
    obtain ⟨p, rest, t, els, xs, ml, os, els', rfl, h1, h2, h3, h4, h5, h6, rfl⟩ := mixF_some h
    have e1 : G' p = .arr t sz0 els := by rw [← hG p (.inl List.mem_cons_self)]; exact h1
    have e2 := travL_loc (lnV_loc (G := G) (G' := G') 6) rest 1 _ h3 fun q i hp => hG _ (.inl (List.mem_cons_of_mem _ (mlRoots_mem hp)))
    have e3 : (mlRoots ml).contains p = false := by simpa using h4
    simp only [mixF, e1, h2, e2, e3, h5, h6, and_self, if_true]
  nm := fun args G nb r h x hx => by
    obtain ⟨p, rest, t, els, xs, ml, os, els', rfl, h1, h2, h3, h4, h5, h6, rfl⟩ := mixF_some h
    simp at hx
    rcases hx with rfl | rfl
    · right; rw [h1]; simp
    · left; omega
  nw := fun args G nb r h x hx hg => by
    obtain ⟨p, rest, t, els, xs, ml, os, els', rfl, h1, h2, h3, h4, h5, h6, rfl⟩ := mixF_some h
    simp only at hg
    by_cases hne : p = nb
    · subst hne
      have e1 : updL G [(p, .free), (p, .arr 0 sz0 els')] p = .arr 0 sz0 els' := by simp [updL, upd]
      by_cases hr : x.root = p
      · by_cases hx2 : x = .top p
        · exfalso; subst hx2; simp only [Nm.mx] at hx; omega
        · exact absurd (below_none (by rw [e1]; exact datO_kid h6) hr hx2) hg
      · have : updL G [(p, .free), (p, .arr 0 sz0 els')] x.root = G x.root := by simp [updL, upd, hr]
        rwa [getP_same this.symm] at hg
    · rcases mix_heap (G := G) (sz := sz0) hne h6 x with ⟨rfl, _⟩ | ⟨_, _, e⟩ | ⟨_, _, e⟩
      · exfalso; simp only [Nm.mx] at hx; omega
      · exact absurd e hg
      · rwa [e] at hg

section
variable {P : Program}

set_option maxHeartbeats 2000000 in
/-- SUCH A FUNCTION KEEPS ITS SPECIFICATION if its body's walk does. -/
theorem mix_sound {f : FuncId} {fn : Func} {mc : MCode} {res : List RV} (hf : P.funcs[f]? = some fn) (hn : (fn.name == "runtime.NumGoroutine") = false) (hrc : rcOf P fn = some mc) (hres : rRVs P fn.results.toList = some res) {sz0 : Nat} {d : List AV → List NObj → Option (List (List AV))}
    (hw : ∀ xs os els els', d (.sl (.top 0) 0 els.length :: xs) (.arr 0 sz0 els :: os) = some els' → 1 + xs.length ≤ fn.ntmps ∧ ∀ (w0 : World) (S : Sc), S.m = 1 + os.length → Wm P w0 S fn.ntmps [] mc ⟨argL 0 (.sl (.top 0) 0 els.length :: xs), idxO 0 (.arr 0 sz0 els :: os), 1 + os.length⟩
      (retK res fun v s => Imp (1 + os.length) ⟨[(0, v)], s.hl, s.nb⟩ ⟨[(0, .sl (.top 0) 0 els'.length)], [(0, .arr 0 sz0 els')], 1 + os.length⟩)) : Sound P f (mixS sz0 d) := by
  obtain ⟨c, hb, hrc⟩ := rcOf_body hrc
  refine ⟨⟨fn, hf, hn, by rw [hb]; rfl⟩, fun w0 S Es U G w avs vs nb r h1 h2 h3 h4 h5 h6 h7 h8 => ?_⟩
  obtain ⟨p, rest, t, els, xs, ml, os, els', rfl, gp, gd, g1, gr, g2, gd', rfl⟩ := mixF_some h7
  obtain ⟨hlen, hall⟩ := travL_ok (lnV_ok G 6) rest 1 xs ml os g1
  let ml' : ML := some (.top p, 0) :: ml
  obtain ⟨⟨hargs, hpl⟩, hobj⟩ := hall ml' (fun j x hj => by rw [Nat.add_comm]; simpa [ml'] using hj)
  obtain ⟨hnt, hw'⟩ := hw xs os els els' g2
  obtain ⟨ρ0, h0⟩ := h1
  have c0 := h5 ρ0 h0
  have hGp : HF G (.top p) = .arr sz0 els.length (fun j => els.getD j []) := by
    show flO (.top p) (G p) = _
    rw [gp]
    exact flO_rowt fun j c hc => datL_plain (List.all_eq_true.1 gd c (List.mem_of_getElem? hc))
  have hnbf : G nb = .free := HF_free.1 (h3 (.top nb) (h8 _ ⟨by simp [Nm.mx], by simp only [Nm.mx]; omega⟩))
  have hpn : p ≠ nb := fun e => by rw [← e, gp] at hnbf; cases hnbf
  have hargs' : ArgSL ml' (.sl (.top 0) 0 els.length :: xs) (.sl (.top p) 0 els.length :: rest) := ⟨argS_sl (M := ml') (k := 0) rfl, hargs⟩
  let Sl : Sc := ⟨fun b => (ρ0 (.top p)).nil = false ∧ b = (ρ0 (.top p)).blk, 1 + os.length, locE ρ0 ml'⟩
  let El : Env → Prop := fun ρ => ∀ k, k < 1 + os.length → ρ (.top k) = locE ρ0 ml' k
  have hElin : ∀ ρ, El ρ → inML ml' ρ0 ρ := fun ρ h k hk => h k (by simp only [ml', List.length_cons] at hk; omega)
  have hl0 : ∀ ρ, El ρ → ρ (.top 0) = ρ0 (.top p) := fun ρ h => by
    rw [h 0 (by omega)]
    show shiftL (ρ0 (.top p)) 0 = _
    exact shiftL_zero _
  have cv : ∀ k o, os[k]? = some o → RdOk G ml' (ml[k]?.getD none) o ∧ ml[k]? = some (ml[k]?.getD none) := fun k o ho => by
    have hk : k < ml.length := by rw [hlen]; exact (List.getElem?_eq_some_iff.1 ho).1
    have e : ml[k]? = some (ml[k]?.getD none) := by rw [List.getElem?_eq_getElem hk]; rfl
    exact ⟨hobj k _ o e ho, e⟩
  have ownP : (ρ0 (.top p)).nil = false → Owned (ρ0 (.top p)) (HF G (.top p)) := fun h => by rw [hGp]; exact h
  -- the callee's heap
  have hcase : ∀ x : Nm, (x = .top 0 ∧ getP (hk (idxO 0 (.arr 0 sz0 els :: os))) x = .arr 0 sz0 els) ∨ (∃ k o, x = .top (k + 1) ∧ os[k]? = some o ∧ getP (hk (idxO 0 (.arr 0 sz0 els :: os))) x = o) ∨ getP (hk (idxO 0 (.arr 0 sz0 els :: os))) x = .free := fun x => by
    by_cases hx : x = .top x.root
    · cases hr : x.root with
      | zero => left; rw [hr] at hx; subst hx; exact ⟨rfl, by rw [getP, hk_idx0]; rfl⟩
      | succ k =>
        right
        cases ho : os[k]? with
        | some o => exact .inl ⟨k, o, by rw [hx, hr], ho, by rw [hx, getP, hk_idx0, hr, List.getElem?_cons_succ, ho]; rfl⟩
        | none => right; rw [hx, getP, hk_idx0, hr, List.getElem?_cons_succ, ho]; rfl
    · right; right
      refine below_none (fun t j f => ?_) rfl hx
      rw [hk_idx0]
      cases hr : x.root with
      | zero => exact datO_kid (o := .arr 0 sz0 els) gd t j f
      | succ k =>
        rw [List.getElem?_cons_succ]
        cases ho : os[k]? with
        | none => show kid .free t j f = .free; unfold kid; split <;> rfl
        | some o =>
          obtain ⟨⟨q, i, sz, n, wd, e1, rfl, e3, e4, e5⟩, _⟩ := cv _ _ ho
          exact view_kid (fun j c hc => (e5 j c hc).1) t j f
  have far : ∀ x : Nm, x.root ≠ p → (ρ0 (.top p)).nil = false → ∀ ρ, Es ρ → Owned (ρ x) (HF G x) ∨ Viewed (ρ x) (HF G x) → (ρ x).blk ≠ (ρ0 (.top p)).blk := fun x hxp hnil ρ hρ hov e => by
    have hpe : ρ (.top p) = ρ0 (.top p) := h4 ρ ρ0 hρ h0 _ (by rw [hGp]; simp)
    have cρ := h5 ρ hρ
    have op : Owned (ρ (.top p)) (HF G (.top p)) := by rw [hpe]; exact ownP hnil
    rw [← hpe] at e
    rcases hov with ho | hv
    · exact hxp (by rw [cρ.dist x (.top p) ho op e]; rfl)
    · have := cρ.vw x hv
      rcases (cρ.own _ op).2 with h | h
      · omega
      · rw [← e] at h; exact this.2 h
  have hcl : ∀ ρ, El ρ → HCore w Sl ρ (HF (hk (idxO 0 (.arr 0 sz0 els :: os)))) w := fun ρ hρ => by
    refine ⟨rfl, rfl, rfl, Nat.le_refl _, fun _ _ _ => rfl, fun x => ?_, fun x hx => ?_, fun x y hx hy he => ?_, fun x hx => ?_, fun x hx => hρ x hx⟩
    · rcases hcase x with ⟨rfl, he⟩ | ⟨k, o, rfl, ho, he⟩ | he
      · show ObjOk ρ _ (flO (.top 0) (getP (hk (idxO 0 (.arr 0 sz0 els :: os))) (.top 0))) w
        rw [he, hl0 ρ hρ]
        have := c0.obj (.top p)
        rw [hGp, ← flO_rowt (p := p) (t := 0) (fun j c hc => datL_plain (List.all_eq_true.1 gd c (List.mem_of_getElem? hc)))] at this
        exact dat_ok (o := .arr 0 sz0 els) gd this
      · obtain ⟨⟨q, i, sz, n, wd, e1, rfl, e3, e4, e5⟩, e6⟩ := cv _ _ ho
        have hloc : ρ (.top (k + 1)) = shiftL (ρ0 q) i := by
          rw [hρ (k + 1) (by have := (List.getElem?_eq_some_iff.1 ho).1; omega), locE]
          simp only [ml', List.getElem?_cons_succ]
          rw [e6, e1]
        show ObjOk ρ _ (flO (.top (k + 1)) (getP (hk (idxO 0 (.arr 0 sz0 els :: os))) (.top (k + 1)))) w
        rw [he, hloc]
        have hreg := reg_of (p := q) (c0.obj q) e3
        rcases hreg with ⟨n1, n2⟩ | ⟨fr, hr, hfr⟩
        · exact .inl ⟨n1, by omega⟩
        · refine .inr ?_
          have hcap := hr.cap
          have hesz := hr.esz
          have row : ∀ j, j < wd.length → ∃ c', wd[j]? = some c' ∧ flC (.top (k + 1)) 0 j (wd.getD j []) = c' ∧ ∃ c1, elemN (getP G q) (i + j) = some c1 ∧ ArgSL ml' c' (flC q (getP G q).tag (i + j) c1) := fun j hj => by
            obtain ⟨a1, c1, a2, a3⟩ := e5 j _ (List.getElem?_eq_getElem hj)
            refine ⟨wd[j], List.getElem?_eq_getElem hj, ?_, c1, a2, a3⟩
            rw [List.getD_eq_getElem?_getD, List.getElem?_eq_getElem hj, Option.getD_some]
            exact flC_plain a1
          refine ⟨hr.nn, hesz, by show wd.length ≤ (ρ0 q).cap - i; omega, fun j hj => ?_, fun j hj q' v hv => ?_⟩
          · obtain ⟨c', a1, a2, c1, a3, a4⟩ := row j hj
            try simp only
            rw [a2, a4.get.1, ← hfr (i + j) c1 (by omega) a3]
            exact hr.len _ (by omega)
          · obtain ⟨c', a1, a2, c1, a3, a4⟩ := row j hj
            try simp only at hv
            rw [a2] at hv
            obtain ⟨b, b1, b2⟩ := a4.get.2 q' v hv
            rw [← hfr (i + j) c1 (by omega) a3] at b1
            obtain ⟨u, u1, u2, u3⟩ := hr.cell (i + j) (by omega) q' b b1
            refine ⟨u, ?_, b2.rep (hElin ρ hρ) u2, u3⟩
            rw [← u1]
            simp only [shiftL]
            congr 2
            rw [hesz, Nat.add_mul]; omega
      · show ObjOk ρ _ (flO x (getP (hk (idxO 0 (.arr 0 sz0 els :: os))) x)) w
        rw [he]; trivial
    · have hx' : Owned (ρ x) (flO x (getP (hk (idxO 0 (.arr 0 sz0 els :: os))) x)) := hx
      rcases hcase x with ⟨rfl, he⟩ | ⟨k, o, rfl, ho, he⟩ | he
      · rw [he, hl0 ρ hρ] at hx'
        have hnil : (ρ0 (.top p)).nil = false := hx'
        rw [hl0 ρ hρ]
        exact ⟨(c0.own _ (ownP hnil)).1, .inr ⟨hnil, rfl⟩⟩
      · exfalso
        obtain ⟨⟨q, i, sz, n, wd, e1, rfl, e3, e4, e5⟩, e6⟩ := cv _ _ ho
        rw [he] at hx'; exact hx'
      · exfalso; rw [he] at hx'; exact hx'
    · have one : ∀ x, Owned (ρ x) (HF (hk (idxO 0 (.arr 0 sz0 els :: os))) x) → x = .top 0 := fun x hx => by
        have hx' : Owned (ρ x) (flO x (getP (hk (idxO 0 (.arr 0 sz0 els :: os))) x)) := hx
        rcases hcase x with ⟨rfl, he⟩ | ⟨k, o, rfl, ho, he⟩ | he
        · rfl
        · exfalso
          obtain ⟨⟨q, i, sz, n, wd, e1, rfl, e3, e4, e5⟩, e6⟩ := cv _ _ ho
          rw [he] at hx'; exact hx'
        · exfalso; rw [he] at hx'; exact hx'
      rw [one x hx, one y hy]
    · have hx' : Viewed (ρ x) (flO x (getP (hk (idxO 0 (.arr 0 sz0 els :: os))) x)) := hx
      rcases hcase x with ⟨rfl, he⟩ | ⟨k, o, rfl, ho, he⟩ | he
      · rw [he] at hx'; exact hx'.elim
      · obtain ⟨⟨q, i, sz, n, wd, e1, rfl, e3, e4, e5⟩, e6⟩ := cv _ _ ho
        have hloc : ρ (.top (k + 1)) = shiftL (ρ0 q) i := by
          rw [hρ (k + 1) (by have := (List.getElem?_eq_some_iff.1 ho).1; omega), locE]
          simp only [ml', List.getElem?_cons_succ]
          rw [e6, e1]
        rw [he, hloc] at hx'
        rw [hloc]
        have hov := shp_ov (p := q) (L := ρ0 q) e3 hx'
        refine ⟨?_, fun ⟨hnil, hbe⟩ => far q (fun e => gr (by rw [← e]; exact mlRoots_mem (i := i) (List.mem_of_getElem? (by rw [e6, e1])))) hnil ρ0 h0 hov hbe⟩
        show (ρ0 q).blk < w.heap.size
        rcases hov with ho | ho
        · exact (c0.own q ho).1
        · have := (c0.vw q ho).1; have := c0.size; omega
      · rw [he] at hx'; exact hx'.elim
  have hroot : ∀ x : Nm, 1 + os.length ≤ x.mx → HF (hk (idxO 0 (.arr 0 sz0 els :: os))) x = .free := fun x hx => by
    rcases hcase x with ⟨rfl, he⟩ | ⟨k, o, rfl, ho, he⟩ | he
    · simp only [Nm.mx] at hx; omega
    · have := (List.getElem?_eq_some_iff.1 ho).1
      simp only [Nm.mx] at hx; omega
    · exact HF_free.2 he
  have hcalls := calls_of_Wm (P := P) (w0 := w) (S := Sl) (avs := .sl (.top 0) 0 els.length :: xs) (vs := vs) (hl := idxO 0 (.arr 0 sz0 els :: os)) (nb := 1 + os.length) (Es := El) (w := w) hf hb hrc hres ⟨fun x => match x with | .top k => locE ρ0 ml' k | x => ρ0 x, fun _ _ => rfl⟩ (fun ρ ρ' hρ he k hk => by
      rw [he (.top k) (by simp only [Nm.mx]; omega)]; exact hρ k hk) hroot (fun ρ ρ' h1 h2 x hx => by
      rcases hcase x with ⟨rfl, he⟩ | ⟨k, o, rfl, ho, he⟩ | he
      · rw [h1 0 (by omega), h2 0 (by omega)]
      · have hk := (List.getElem?_eq_some_iff.1 ho).1
        rw [h1 (k + 1) (by omega), h2 (k + 1) (by omega)]
      · exact absurd (HF_free.2 he) hx) hcl (fun ρ hρ => hargs'.rep (hElin ρ hρ) (h6 ρ0 h0)) (by rw [List.length_cons]; omega) (hw' w Sl rfl)
  refine hcalls.mono fun e w' ⟨v, av, s', he, hK, a', ha', hsat⟩ => ?_
  have hfin := hK _ _ _ _ _ _ rfl hsat
  obtain ⟨Ef, hs⟩ := hfin.sat
  obtain ⟨ρf, hρf⟩ := hs.ne
  have hcf := hs.hp ρf hρf
  have hvrep : Rep ρf (.sl (.top 0) 0 els'.length) v := by
    obtain ⟨u, u1, u2⟩ := hs.tm ρf hρf 0 (by simp [lk])
    rw [ha'] at u1
    simp at u1
    subst u1
    simpa [lk] using u2
  have hf0 : ρf (.top 0) = ρ0 (.top p) := by
    rw [hcf.an 0 (show 0 < 1 + os.length by omega)]
    show shiftL (ρ0 (.top p)) 0 = _
    exact shiftL_zero _
  have hfo : HF (hk [(0, NObj.arr 0 sz0 els')]) (.top 0) = flO (.top 0) (.arr 0 sz0 els') := by
    unfold HF; congr 1
  refine ⟨v, fun x => ρ0 (.top p), he, fun ρ hρ hg => ?_⟩
  have cρ := h5 ρ hρ
  have hnb : ρ (.top nb) = ρ0 (.top p) := hg (.top nb) ⟨by simp [Nm.mx], by simp only [Nm.mx]; omega⟩
  have hpe : ρ (.top p) = ρ0 (.top p) := h4 ρ ρ0 hρ h0 _ (by rw [hGp]; simp)
  refine ⟨by simp only [Rep] at hvrep ⊢; rw [hnb]; rw [hf0] at hvrep; exact hvrep, ?_⟩
  have lt_old : ∀ x, Owned (ρ x) (HF G x) ∨ Viewed (ρ x) (HF G x) → (ρ x).blk < w.heap.size := fun x hx => by
    rcases hx with hx | hx
    · exact (cρ.own x hx).1
    · have := (cρ.vw x hx).1; have := cρ.size; omega
  have hH : ∀ x : Nm, (x = .top nb ∧ HF (updL G [(p, .free), (nb, .arr 0 sz0 els')]) x = flO (.top nb) (.arr 0 sz0 els')) ∨ HF (updL G [(p, .free), (nb, .arr 0 sz0 els')]) x = .free ∨ (x.root ≠ p ∧ HF (updL G [(p, .free), (nb, .arr 0 sz0 els')]) x = HF G x) := fun x => by
    rcases mix_heap (G := G) (sz := sz0) hpn gd' x with ⟨rfl, e⟩ | ⟨_, _, e⟩ | ⟨e1, _, e⟩
    · left; exact ⟨rfl, by unfold HF; rw [e]⟩
    · right; left; exact HF_free.2 e
    · right; right; exact ⟨e1, by unfold HF; rw [e]⟩
  have own_nb : Owned (ρ (.top nb)) (flO (.top nb) (.arr 0 sz0 els')) → (ρ0 (.top p)).nil = false := fun h => by rw [hnb] at h; exact h
  refine ⟨hcf.os.trans cρ.os, hcf.tape.trans cρ.tape, hcf.output.trans cρ.output, Nat.le_trans cρ.size hcf.size, fun b hb hns => ?_, fun x => ?_, fun x hx => ?_, fun x y hx hy hxy => ?_, fun x hx => ?_, cρ.an⟩
  · rw [hcf.frame b (by have := cρ.size; omega) (fun ⟨hnil, hbe⟩ => ?_)]
    · exact cρ.frame b hb hns
    · rcases (c0.own _ (ownP hnil)).2 with h | h
      · omega
      · rw [← hbe] at h; exact hns h
  · rcases hH x with ⟨rfl, e⟩ | e | ⟨hxp, e⟩
    · rw [e, hnb, ← hf0]
      refine dat_ok (a := .top 0) (ρ := ρf) (o := .arr 0 sz0 els') gd' ?_
      rw [← hfo]
      exact hcf.obj (.top 0)
    · rw [e]; trivial
    · rw [e]
      by_cases hov : Owned (ρ x) (HF G x) ∨ Viewed (ρ x) (HF G x)
      · refine (cρ.obj x).same (hcf.frame _ (lt_old x hov) fun ⟨hnil, hbe⟩ => far x hxp hnil ρ hρ hov hbe)
      · exact (cρ.obj x).nil_same (fun h => hov (.inl h)) (fun h => hov (.inr h))
  · rcases hH x with ⟨rfl, e⟩ | e | ⟨hxp, e⟩
    · rw [e] at hx
      have hnil := own_nb hx
      rw [hnb]
      have := c0.own _ (ownP hnil)
      exact ⟨Nat.lt_of_lt_of_le this.1 hcf.size, this.2⟩
    · rw [e] at hx; exact hx.elim
    · rw [e] at hx
      exact ⟨Nat.lt_of_lt_of_le (cρ.own x hx).1 hcf.size, (cρ.own x hx).2⟩
  · rcases hH x with ⟨rfl, e⟩ | e | ⟨hxp, e⟩
    · rcases hH y with ⟨rfl, e'⟩ | e' | ⟨hyp, e'⟩
      · rfl
      · rw [e'] at hy; exact hy.elim
      · rw [e] at hx
        rw [e'] at hy
        rw [hnb] at hxy
        exact absurd hxy.symm (far y hyp (own_nb hx) ρ hρ (.inl hy))
    · rw [e] at hx; exact hx.elim
    · rw [e] at hx
      rcases hH y with ⟨rfl, e'⟩ | e' | ⟨hyp, e'⟩
      · rw [e'] at hy
        rw [hnb] at hxy
        exact absurd hxy (far x hxp (own_nb hy) ρ hρ (.inl hx))
      · rw [e'] at hy; exact hy.elim
      · rw [e'] at hy; exact cρ.dist x y hx hy hxy
  · rcases hH x with ⟨rfl, e⟩ | e | ⟨hxp, e⟩
    · rw [e] at hx; exact hx.elim
    · rw [e] at hx; exact hx.elim
    · rw [e] at hx; exact cρ.vw x hx
end
theorem mixS_fn (sz : Nat) (d : List AV → List NObj → Option (List (List AV))) (args : List AV) (G : NH) (nb : Nat) : (mixS sz d).fn args G nb = mixF sz d args G nb := rfl
attribute [simp] mixS_fn mixF
end Go.W
