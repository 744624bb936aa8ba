/- A call that only reads: what it does. -/
import Derived.Test.YtmbploeikjangaaGreatWRa
set_option linter.unusedSimpArgs false
set_option linter.unusedVariables false
namespace Go.W

def bk1 (nb m : Nat) (ml : ML) (v : AV) : AV := match v with
  | .sl (.top x) i n => if m ≤ x then .sl (.top (nb + (x - m))) i n else (match ml[x]? with
    | some (some (p, i0)) => .sl p (i + i0) n
    | _ => .bot)
  | v => v

/-- A result, by the caller's names. -/
def bkR (nb m : Nat) (ml : ML) (v : AV) : AV := match v with
  | .tup l => .tup (l.map (bk1 nb m ml))
  | v => bk1 nb m ml v

def rs1 (m : Nat) (v : AV) : Bool := v.dat || (match v with
  | .sl (.top x) _ _ => decide (x < m)
  | _ => false)

def rsOk (m : Nat) (v : AV) : Bool := match v with
  | .tup l => l.all (rs1 m)
  | v => rs1 m v

def datO : NObj → Bool
  | .arr _ _ els => datLL els
  | _ => false

def rOk (m : Nat) (res : AV) : Bool := (layN m res).2.all datO && decide ((layN m res).2.length ≤ 8) && rsOk (m + (layN m res).2.length) (layN m res).1

/-- What a call that only reads gives is in order. -/
def ROk (d : List AV → List NObj → Option AV) : Prop := ∀ xs os res, d xs os = some res → rOk os.length res = true

def rdF (d : List AV → List NObj → Option AV) (args : List AV) (G : NH) (nb : Nat) : Option Res :=
  match travL (lnV G 6) 0 args with
  | some (xs, ml, os) => (match d xs os with
    | some res => some ⟨bkR nb os.length ml (layN os.length res).1, idxO nb (layN os.length res).2, mlRoots ml, 8⟩
    | none => none)
  | none => none

theorem rdF_some {d : List AV → List NObj → Option AV} {args : List AV} {G : NH} {nb : Nat} {r : Res} (h : rdF d args G nb = some r) : ∃ xs ml os res, travL (lnV G 6) 0 args = some (xs, ml, os) ∧ d xs os = some res ∧ r = ⟨bkR nb os.length ml (layN os.length res).1, idxO nb (layN os.length res).2, mlRoots ml, 8⟩ := by
  unfold rdF at h
  split at h
  · rename_i xs ml os h1
    split at h
    · rename_i res h2
      injection h with h
      exact ⟨xs, ml, os, res, h1, h2, h.symm⟩
    · cases h
  · cases h

theorem updL_idxR : ∀ (l : List NObj) (G : NH) (nb x : Nat), updL G (idxO nb l) x = if nb ≤ x then (l[x - nb]?).getD (G x) else G x
  | [], G, nb, x => by simp [idxO, updL]
  | o :: r, G, nb, x => by
    simp only [idxO, updL]
    rw [updL_idxR r]
    by_cases h1 : x = nb
    · subst h1
      rw [if_neg (by omega), if_pos (by omega), upd_same]; simp
    · by_cases h2 : nb ≤ x
      · rw [if_pos (by omega), if_pos h2, upd_other _ _ h1, show x - nb = (x - (nb + 1)) + 1 from by omega]; simp
      · rw [if_neg (by omega), if_neg h2, upd_other _ _ h1]

theorem datO_kid {o : NObj} (h : datO o = true) (t j f : Nat) : kid o t j f = .free := by
  cases o <;> simp only [datO, Bool.false_eq_true] at h
  refine kid_plainO (fun i c hc => ?_) t j f
  exact datL_plain (List.all_eq_true.1 h c (List.mem_of_getElem? hc))

theorem view_kid {sz : Nat} {w : List (List AV)} (h : ∀ (j : Nat) (c : List AV), w[j]? = some c → c.all AV.plain = true) (t j f : Nat) : kid (.view 0 sz w) t j f = .free :=
  kid_plainO (o := .view 0 sz w) (fun i c hc => h i c hc) t j f

/-- Below objects that own nothing, nothing lies. -/
theorem below_none {G : NH} {n : Nat} (h : ∀ t j f, kid (G n) t j f = .free) : ∀ {x : Nm}, x.root = n → x ≠ .top n → getP G x = .free
  | .top k, hr, hx => by simp only [Nm.root] at hr; subst hr; exact absurd rfl hx
  | .sub y t j f, hr, hx => by
    simp only [Nm.root] at hr
    by_cases hy : y = .top n
    · subst hy; rw [getP]; exact h t j f
    · rw [getP, below_none h hr hy]; simp [kid, elemN]

def rdS (d : List AV → List NObj → Option AV) (hok : ROk d) : Spec where
  fn := rdF d
  loc := fun args G G' nb r h hG => by
    obtain ⟨xs, ml, os, res, h1, h2, rfl⟩ := rdF_some h
    unfold rdF
    rw [travL_loc (lnV_loc (G := G) (G' := G') 6) args 0 _ h1 fun p i hp => hG _ (.inl (mlRoots_mem hp))]
    simp only [h2]
  nm := fun args G nb r h x hx => by
    obtain ⟨xs, ml, os, res, h1, h2, rfl⟩ := rdF_some h
    have := idxO_keys _ _ _ hx
    have hk := hok _ _ _ h2
    simp only [rOk, Bool.and_eq_true, decide_eq_true_eq] at hk
    exact .inl (by simp only; omega)

theorem rdS_nw {d : List AV → List NObj → Option AV} (hok : ROk d) (args : List AV) (G : NH) (nb : Nat) (r : Res) (h : rdF d args G nb = some r) (x : Nm) (hx : ¬ (nb ≤ x.mx ∧ x.mx < nb + r.n)) (hg : getP (updL G r.hs) x ≠ .free) : getP G x ≠ .free := by
    obtain ⟨xs, ml, os, res, h1, h2, rfl⟩ := rdF_some h
    have hk := hok _ _ _ h2
    simp only [rOk, Bool.and_eq_true, decide_eq_true_eq] at hk
    simp only at hg
    revert hg
    generalize hn : (layN os.length res).2 = news at hk
    intro hg
    by_cases hr : nb ≤ x.root ∧ x.root < nb + news.length
    · obtain ⟨o, ho⟩ : ∃ o, news[x.root - nb]? = some o := ⟨_, List.getElem?_eq_getElem (by omega)⟩
      have hd := List.all_eq_true.1 hk.1.1 o (List.mem_of_getElem? ho)
      have hG : updL G (idxO nb news) x.root = o := by rw [updL_idxR, if_pos hr.1, ho]; rfl
      by_cases hx2 : x = .top x.root
      · exfalso
        have hmx : x.mx = x.root := by rw [hx2]; rfl
        exact hx (by simp only; omega)
      · exact absurd (below_none (by rw [hG]; exact datO_kid hd) rfl hx2) hg
    · have : updL G (idxO nb news) x.root = G x.root := by
        rw [updL_idxR]
        split
        · rw [List.getElem?_eq_none (by omega)]; rfl
        · rfl
      rwa [getP_same this.symm] at hg

theorem reg_of {ρ : Env} {L : Loc} {p : Nm} {o : NObj} {n sz : Nat} {w : World} (h : ObjOk ρ L (flO p o) w) (hs : shpN o = some (n, sz)) : (L.nil = true ∧ n = 0) ∨ ∃ f, Reg ρ L sz n f w ∧ ∀ i c, i < n → elemN o i = some c → f i = flC p o.tag i c := by
  cases o with
  | free => cases hs
  | cells t c =>
    simp only [shpN, Option.some.injEq, Prod.mk.injEq] at hs
    obtain ⟨rfl, rfl⟩ := hs
    have := h.1
    rw [flC_length] at this
    refine .inr ⟨_, this, fun i d hi hd => ?_⟩
    have : i = 0 := by omega
    subst this
    simp only [elemN, if_true, Option.some.injEq] at hd
    subst hd; rfl
  | arr t z els =>
    simp only [shpN, Option.some.injEq, Prod.mk.injEq] at hs
    obtain ⟨rfl, rfl⟩ := hs
    rcases h with h | h
    · exact .inl h
    · refine .inr ⟨_, h.1, fun i d hi hd => ?_⟩
      simp only [elemN] at hd
      simp only [NObj.tag, List.getD_eq_getElem?_getD, hd, Option.getD_some]
  | view t z els =>
    simp only [shpN, Option.some.injEq, Prod.mk.injEq] at hs
    obtain ⟨rfl, rfl⟩ := hs
    rcases h with h | h
    · exact .inl h
    · refine .inr ⟨_, h, fun i d hi hd => ?_⟩
      simp only [elemN] at hd
      simp only [NObj.tag, List.getD_eq_getElem?_getD, hd, Option.getD_some]

theorem shp_ov {L : Loc} {p : Nm} {o : NObj} {n sz : Nat} (hs : shpN o = some (n, sz)) (hn : L.nil = false) : Owned L (flO p o) ∨ Viewed L (flO p o) := by
  cases o with
  | free => cases hs
  | cells t c => exact .inl trivial
  | arr t z els => exact .inl hn
  | view t z els => exact .inr hn

theorem dat_ok {ρ ρ' : Env} {L : Loc} {a b : Nm} {o : NObj} {w : World} (hd : datO o = true) (h : ObjOk ρ L (flO a o) w) : ObjOk ρ' L (flO b o) w := by
  cases o <;> simp only [datO, Bool.false_eq_true] at hd
  rename_i t sz els
  have e : ∀ (q : Nm) (j : Nat), flC q t j (els.getD j []) = els.getD j [] := fun q j => by
    refine flC_plain ?_
    rw [List.getD_eq_getElem?_getD]
    cases hj : els[j]? with
    | none => rfl
    | some c => exact datL_plain (List.all_eq_true.1 hd c (List.mem_of_getElem? hj))
  simp only [flO, e] at h ⊢
  rcases h with h | ⟨h, hr⟩
  · exact .inl h
  · refine .inr ⟨⟨h.nn, h.esz, h.cap, h.len, fun i hi j v hv => ?_⟩, hr⟩
    obtain ⟨x, h1, h2, h3⟩ := h.cell i hi j v hv
    refine ⟨x, h1, dat_rep ?_ h2, h3⟩
    rw [List.getD_eq_getElem?_getD, List.getElem?_eq_getElem hi, Option.getD_some] at hv
    exact List.all_eq_true.1 (List.all_eq_true.1 hd _ (List.getElem_mem hi)) v (List.mem_of_getElem? hv)

section
variable {P : Program}

set_option maxHeartbeats 2000000 in
/-- A FUNCTION THAT ONLY READS KEEPS ITS SPECIFICATION if its body's walk does. -/
theorem rd_sound {f : FuncId} {fn : Func} {mc : MCode} {res : List RV} (hf : P.funcs[f]? = some fn) (hn : (fn.name == "runtime.NumGoroutine") = false) (hrc : rcOf P fn = some mc) (hres : rRVs P fn.results.toList = some res) {d : List AV → List NObj → Option AV} (hok : ROk d)
    (hw : ∀ xs os r, d xs os = some r → ∀ (vs : List Value) (ρ0 : Env), RepL ρ0 xs vs → ∃ ys : List AV, ys.length ≤ fn.ntmps ∧ (∀ ρ, RepL ρ xs vs → RepL ρ ys vs) ∧ ∀ (w0 : World) (S : Sc), S.m = os.length → Wm P w0 S fn.ntmps [] mc ⟨argL 0 ys, idxO 0 os, os.length⟩
      (retK res fun v s => Imp os.length ⟨[(0, v)], s.hl, s.nb⟩ ⟨[(0, (layN os.length r).1)], idxO os.length (layN os.length r).2, os.length + (layN os.length r).2.length⟩)) : Sound P f (rdS d hok) := by
  obtain ⟨c, hb, hrc⟩ := rcOf_body hrc
  refine ⟨⟨fn, hf, hn, by rw [hb]; rfl⟩, fun w0 S Es U G w avs vs nb r h1 h2 h3 h4 h5 h6 h7 h8 => ⟨?_, fun x hx hg => rdS_nw hok avs G nb r h7 x hx hg⟩⟩
  obtain ⟨xs, ml, os, res', g1, g2, rfl⟩ := rdF_some h7
  obtain ⟨hlen, hall⟩ := travL_ok (lnV_ok G 6) avs 0 xs ml os g1
  obtain ⟨⟨hargs, hpl⟩, hobj⟩ := hall ml (fun j x hj => by simpa using hj)
  have hrok := hok _ _ _ g2
  simp only [rOk, Bool.and_eq_true, decide_eq_true_eq] at hrok
  have hw' := hw xs os res' g2
  simp only
  revert hw' hrok
  generalize hnews : (layN os.length res').2 = news
  generalize hlres : (layN os.length res').1 = lres
  intro hrok hw'
  obtain ⟨⟨hnd, hn8⟩, hrs⟩ := hrok
  obtain ⟨ρ0, h0⟩ := h1
  have hvs : RepL (fun x => match x with | .top k => locE ρ0 ml k | x => ρ0 x) xs vs := hargs.rep (fun k hk => rfl) (h6 ρ0 h0)
  obtain ⟨ys, y1, y2, y3⟩ := hw' vs _ hvs
  let Sl : Sc := ⟨fun _ => False, os.length, locE ρ0 ml⟩
  let El : Env → Prop := fun ρ => ∀ k, k < os.length → ρ (.top k) = locE ρ0 ml k
  have hElin : ∀ ρ, El ρ → inML ml ρ0 ρ := fun ρ h k hk => h k (by omega)
  have cv : ∀ k o, os[k]? = some o → RdOk G ml (ml[k]?.getD none) o ∧ ml[k]? = some (ml[k]?.getD none) := fun k o ho => by
    have hk : k < ml.length := by rw [hlen]; exact (List.getElem?_eq_some_iff.1 ho).1
    have e : ml[k]? = some (ml[k]?.getD none) := by rw [List.getElem?_eq_getElem hk]; rfl
    exact ⟨hobj k _ o e ho, e⟩
  -- the callee's heap
  have hcase : ∀ x : Nm, (∃ k o, x = .top k ∧ os[k]? = some o ∧ getP (hk (idxO 0 os)) x = o) ∨ getP (hk (idxO 0 os)) x = .free := fun x => by
    by_cases hx : x = .top x.root
    · cases ho : os[x.root]? with
      | some o => exact .inl ⟨x.root, o, hx, ho, by rw [hx, getP, hk_idx0, ho]; rfl⟩
      | none => right; rw [hx, getP, hk_idx0, ho]; rfl
    · right
      refine below_none (fun t j f => ?_) rfl hx
      rw [hk_idx0]
      cases ho : os[x.root]? with
      | none => simp [kid, elemN]
      | some o =>
        obtain ⟨⟨p, i, sz, n, wd, e1, rfl, e3, e4, e5⟩, _⟩ := cv _ _ ho
        exact view_kid (fun j c hc => (e5 j c hc).1) t j f
  have hcl : ∀ ρ, El ρ → HCore w Sl ρ (HF (hk (idxO 0 os))) w := fun ρ hρ => by
    have c0 := h5 ρ0 h0
    refine ⟨rfl, rfl, rfl, Nat.le_refl _, fun _ _ _ => rfl, fun x => ?_, fun x hx => ?_, fun x y hx => ?_, fun x hx => ?_, fun x hx => hρ x hx⟩
    · rcases hcase x with ⟨k, o, rfl, ho, he⟩ | he
      · obtain ⟨⟨p, i, sz, n, wd, e1, rfl, e3, e4, e5⟩, e6⟩ := cv _ _ ho
        have hloc : ρ (.top k) = shiftL (ρ0 p) i := by
          rw [hρ k (List.getElem?_eq_some_iff.1 ho).1, locE, e6, e1]
        show ObjOk ρ _ (flO (.top k) (getP (hk (idxO 0 os)) (.top k))) w
        rw [he, hloc]
        have hreg := reg_of (p := p) (c0.obj p) e3
        rcases hreg with ⟨n1, n2⟩ | ⟨fr, hr, hfr⟩
        · exact .inl ⟨n1, by omega⟩
        · refine .inr ?_
          have hcap := hr.cap
          have hesz := hr.esz
          have row : ∀ j, j < wd.length → ∃ c', wd[j]? = some c' ∧ flC (.top k) 0 j (wd.getD j []) = c' ∧ ∃ c1, elemN (getP G p) (i + j) = some c1 ∧ ArgSL ml c' (flC p (getP G p).tag (i + j) c1) := fun j hj => by
            obtain ⟨a1, c1, a2, a3⟩ := e5 j _ (List.getElem?_eq_getElem hj)
            refine ⟨wd[j], List.getElem?_eq_getElem hj, ?_, c1, a2, a3⟩
            rw [List.getD_eq_getElem?_getD, List.getElem?_eq_getElem hj, Option.getD_some]
            exact flC_plain a1
          refine ⟨hr.nn, hesz, by show wd.length ≤ (ρ0 p).cap - i; omega, fun j hj => ?_, fun j hj q v hv => ?_⟩
          · obtain ⟨c', a1, a2, c1, a3, a4⟩ := row j hj
            try simp only
            rw [a2, a4.get.1, ← hfr (i + j) c1 (by omega) a3]
            exact hr.len _ (by omega)
          · obtain ⟨c', a1, a2, c1, a3, a4⟩ := row j hj
            try simp only at hv
            rw [a2] at hv
            obtain ⟨b, b1, b2⟩ := a4.get.2 q v hv
            rw [← hfr (i + j) c1 (by omega) a3] at b1
            obtain ⟨u, u1, u2, u3⟩ := hr.cell (i + j) (by omega) q b b1
            refine ⟨u, ?_, b2.rep (hElin ρ hρ) u2, u3⟩
            rw [← u1]
            simp only [shiftL]
            congr 2
            rw [hesz, Nat.add_mul]; omega
      · show ObjOk ρ _ (flO x (getP (hk (idxO 0 os)) x)) w
        rw [he]; trivial
    · exfalso
      have hx' : Owned (ρ x) (flO x (getP (hk (idxO 0 os)) x)) := hx
      rcases hcase x with ⟨k, o, rfl, ho, he⟩ | he
      · obtain ⟨⟨p, i, sz, n, wd, e1, rfl, e3, e4, e5⟩, e6⟩ := cv _ _ ho
        rw [he] at hx'; exact hx'
      · rw [he] at hx'; exact hx'
    · exfalso
      have hx' : Owned (ρ x) (flO x (getP (hk (idxO 0 os)) x)) := hx
      rcases hcase x with ⟨k, o, rfl, ho, he⟩ | he
      · obtain ⟨⟨p, i, sz, n, wd, e1, rfl, e3, e4, e5⟩, e6⟩ := cv _ _ ho
        rw [he] at hx'; exact hx'
      · rw [he] at hx'; exact hx'
    · have hx' : Viewed (ρ x) (flO x (getP (hk (idxO 0 os)) x)) := hx
      rcases hcase x with ⟨k, o, rfl, ho, he⟩ | he
      · obtain ⟨⟨p, i, sz, n, wd, e1, rfl, e3, e4, e5⟩, e6⟩ := cv _ _ ho
        have hloc : ρ (.top k) = shiftL (ρ0 p) i := by
          rw [hρ k (List.getElem?_eq_some_iff.1 ho).1, locE, e6, e1]
        rw [he, hloc] at hx'
        rw [hloc]
        refine ⟨?_, fun h => h⟩
        show (ρ0 p).blk < w.heap.size
        rcases shp_ov (p := p) (L := ρ0 p) e3 hx' with ho | ho
        · exact (c0.own p ho).1
        · have := (c0.vw p ho).1; have := c0.size; omega
      · rw [he] at hx'; exact hx'.elim
  have hroot : ∀ x : Nm, os.length ≤ x.mx → HF (hk (idxO 0 os)) x = .free := fun x hx => by
    rcases hcase x with ⟨k, o, rfl, ho, he⟩ | he
    · have := (List.getElem?_eq_some_iff.1 ho).1
      simp only [Nm.mx] at hx; omega
    · exact HF_free.2 he
  have hcalls := calls_of_Wm (P := P) (w0 := w) (S := Sl) (avs := ys) (vs := vs) (hl := idxO 0 os) (nb := os.length) (Es := El) (w := w) hf hb hrc hres ⟨fun x => match x with | .top k => locE ρ0 ml k | x => ρ0 x, fun _ _ => rfl⟩ (fun ρ ρ' hρ he k hk => by
      rw [he (.top k) (by simp only [Nm.mx]; omega)]; exact hρ k hk) hroot (fun ρ ρ' h1 h2 x hx => by
      rcases hcase x with ⟨k, o, rfl, ho, he⟩ | he
      · have hk := (List.getElem?_eq_some_iff.1 ho).1
        rw [h1 k hk, h2 k hk]
      · exact absurd (HF_free.2 he) hx) hcl (fun ρ hρ => y2 ρ (hargs.rep (hElin ρ hρ) (h6 ρ0 h0))) y1 (y3 w Sl rfl)
  refine hcalls.mono fun e w' ⟨v, av, s', he, hK, a', ha', hsat⟩ => ?_
  have hfin := hK _ _ _ _ _ _ rfl hsat
  obtain ⟨Ef, hs⟩ := hfin.sat
  obtain ⟨ρf, hρf⟩ := hs.ne
  have hcf := hs.hp ρf hρf
  have hvrep : Rep ρf lres v := by
    by_cases hbt : lres = .bot
    · rw [hbt]; simp [Rep]
    · obtain ⟨u, u1, u2⟩ := hs.tm ρf hρf 0 (by simpa [lk] using hbt)
      rw [ha'] at u1
      simp at u1
      subst u1
      simpa [lk] using u2
  refine ⟨v, fun x => match x with | .top k => ρf (.top (os.length + (k - nb))) | x => ρf x, he, fun ρ hρ hg => ?_⟩
  have cρ := h5 ρ hρ
  have hnew : ∀ j, j < news.length → ρ (.top (nb + j)) = ρf (.top (os.length + j)) := fun j hj => by
    rw [hg (.top (nb + j)) ⟨by simp [Nm.mx], by simp only [Nm.mx]; omega⟩]
    simp only
    rw [show nb + j - nb = j from by omega]
  have hold : ∀ k, k < os.length → ∃ p i, ml[k]? = some (some (p, i)) ∧ ρf (.top k) = shiftL (ρ p) i ∧ ((ρ p).nil = true → i = 0) ∧ ((ρ p).nil = false → i ≤ (ρ p).cap) := fun k hk => by
    obtain ⟨⟨p, i, sz, n, wd, e1, _, e3, e4, e5⟩, e6⟩ := cv k _ (List.getElem?_eq_getElem hk)
    have hne : HF G p ≠ .free := fun e => by
      rw [HF_free] at e; rw [e] at e3; cases e3
    have hp : ρ p = ρ0 p := h4 ρ ρ0 hρ h0 p hne
    refine ⟨p, i, by rw [e6, e1], ?_, ?_⟩
    · rw [hcf.an k hk, hp]
      show locE ρ0 ml k = _
      rw [locE, e6, e1]
    · rcases reg_of (p := p) (cρ.obj p) e3 with ⟨n1, n2⟩ | ⟨fr, hr, _⟩
      · exact ⟨fun _ => by omega, fun h => by rw [n1] at h; cases h⟩
      · exact ⟨fun h => absurd (hr.nn.symm.trans h) (by simp), fun _ => by have := hr.cap; omega⟩
  have rep1 : ∀ (a : AV) (u : Value), rs1 (os.length + news.length) a = true → Rep ρf a u → Rep ρ (bk1 nb os.length ml a) u := fun a u ha hu => by
    by_cases hd : a.dat = true
    · have e : bk1 nb os.length ml a = a := by cases a <;> first | rfl | (simp only [AV.dat, Bool.false_eq_true] at hd)
      rw [e]
      exact dat_rep hd hu
    · simp only [rs1, Bool.or_eq_true, hd, Bool.false_eq_true, false_or] at ha
      cases a with
      | sl x i n =>
        cases x with
        | sub y t j f => cases ha
        | top x =>
          simp only [decide_eq_true_eq] at ha
          simp only [bk1]
          by_cases hm : os.length ≤ x
          · rw [if_pos hm]
            simp only [Rep] at hu ⊢
            rw [hnew (x - os.length) (by omega), show os.length + (x - os.length) = x from by omega]
            exact hu
          · rw [if_neg hm]
            obtain ⟨p, i0, m1, m2, m3, m4⟩ := hold x (by omega)
            rw [m1]
            simp only [Rep] at hu ⊢
            rw [m2] at hu
            rcases hu with ⟨a1, rfl, rfl, a4⟩ | ⟨a1, a2, off, a3, a4⟩
            · exact .inl ⟨a1, by rw [m3 a1], rfl, a4⟩
            · have := m4 a1
              simp only [shiftL] at a2 a3 a4
              refine .inr ⟨a1, by omega, off, ?_, fun hlt => ?_⟩
              · rw [a3, show (ρ p).cap - (i + i0) = (ρ p).cap - i0 - i from by omega]
              · rw [a4 (by omega), Nat.add_mul]; omega
      | _ => cases ha
  refine ⟨?_, ?_⟩
  · by_cases ht : ∃ l, lres = .tup l
    · obtain ⟨l, rfl⟩ := ht
      simp only [rsOk] at hrs
      simp only [bkR, Rep] at hvrep ⊢
      obtain ⟨cs, rfl, hcs⟩ := hvrep
      refine ⟨cs, rfl, RepL.of_get _ _ (by rw [hcs.length]; simp) fun j b hb => ?_⟩
      rw [List.getElem?_map] at hb
      cases hl : l[j]? with
      | none => simp [hl] at hb
      | some q =>
        simp only [hl, Option.map_some, Option.some.injEq] at hb
        subst hb
        obtain ⟨u, u1, u2⟩ := hcs.get hl
        exact ⟨u, u1, rep1 q u (List.all_eq_true.1 hrs q (List.mem_of_getElem? hl)) u2⟩
    · have e1 : rsOk (os.length + news.length) lres = rs1 (os.length + news.length) lres := by
        cases lres <;> first | rfl | exact absurd ⟨_, rfl⟩ ht
      have e2 : bkR nb os.length ml lres = bk1 nb os.length ml lres := by
        cases lres <;> first | rfl | exact absurd ⟨_, rfl⟩ ht
      rw [e2]
      rw [e1] at hrs
      exact rep1 _ _ hrs hvrep
  · have hH : ∀ x : Nm, (∃ j o, x = .top (nb + j) ∧ j < news.length ∧ datO o = true ∧ HF (updL G (idxO nb news)) x = flO x o ∧ HF (hk (idxO os.length news)) (.top (os.length + j)) = flO (.top (os.length + j)) o) ∨ HF (updL G (idxO nb news)) x = .free ∨ (HF (updL G (idxO nb news)) x = HF G x) := fun x => by
      by_cases hr : nb ≤ x.root ∧ x.root < nb + news.length
      · obtain ⟨o, ho⟩ : ∃ o, news[x.root - nb]? = some o := ⟨_, List.getElem?_eq_getElem (by omega)⟩
        have hd := List.all_eq_true.1 hnd o (List.mem_of_getElem? ho)
        have hG : updL G (idxO nb news) x.root = o := by rw [updL_idxR, if_pos hr.1, ho]; rfl
        by_cases hx2 : x = .top x.root
        · left
          refine ⟨x.root - nb, o, by rw [show nb + (x.root - nb) = x.root from by omega]; exact hx2, by omega, hd, ?_, ?_⟩
          · unfold HF
            congr 1
            rw [hx2, getP]; exact hG
          · unfold HF
            congr 1
            rw [getP, hk_idxO, if_pos (by omega), show os.length + (x.root - nb) - os.length = x.root - nb from by omega, ho]; rfl
        · right; left
          exact HF_free.2 (below_none (by rw [hG]; exact datO_kid hd) rfl hx2)
      · right; right
        have : updL G (idxO nb news) x.root = G x.root := by
          rw [updL_idxR]
          split
          · rw [List.getElem?_eq_none (by omega)]; rfl
          · rfl
        unfold HF
        rw [getP_same this.symm]
    have lt_old : ∀ x, Owned (ρ x) (HF G x) ∨ Viewed (ρ x) (HF G x) → (ρ x).blk < w.heap.size := fun x hx => by
      rcases hx with hx | hx
      · exact (cρ.own x hx).1
      · have := (cρ.vw x hx).1; have := cρ.size; omega
    have own_new : ∀ j, j < news.length → ∀ o, datO o = true → HF (hk (idxO os.length news)) (.top (os.length + j)) = flO (.top (os.length + j)) o → Owned (ρ (.top (nb + j))) (flO (.top (nb + j)) o) → Owned (ρf (.top (os.length + j))) (HF (hk (idxO os.length news)) (.top (os.length + j))) := fun j hj o hd e ho => by
      rw [e]
      cases o <;> simp only [datO, Bool.false_eq_true] at hd
      rw [hnew j hj] at ho; exact ho
    have ge_new : ∀ j, j < news.length → ∀ o, datO o = true → HF (hk (idxO os.length news)) (.top (os.length + j)) = flO (.top (os.length + j)) o → Owned (ρ (.top (nb + j))) (flO (.top (nb + j)) o) → (ρ (.top (nb + j))).blk < w'.heap.size ∧ w.heap.size ≤ (ρ (.top (nb + j))).blk := fun j hj o hd e ho => by
      have := hcf.own _ (own_new j hj o hd e ho)
      rw [hnew j hj]
      exact ⟨this.1, this.2.resolve_right fun h => h⟩
    refine ⟨hcf.os.trans cρ.os, hcf.tape.trans cρ.tape, hcf.output.trans cρ.output, Nat.le_trans cρ.size hcf.size, fun b hb hn => ?_, fun x => ?_, fun x hx => ?_, fun x y hx hy hxy => ?_, fun x hx => ?_, cρ.an⟩
    · rw [hcf.frame b (by have := cρ.size; omega) (fun h => h)]
      exact cρ.frame b hb hn
    · rcases hH x with ⟨j, o, rfl, hj, hd, e1, e2⟩ | e | e
      · rw [e1, hnew j hj]
        refine dat_ok (a := .top (os.length + j)) (ρ := ρf) hd ?_
        rw [← e2]
        exact hcf.obj _
      · rw [e]; trivial
      · rw [e]
        by_cases ho : Owned (ρ x) (HF G x) ∨ Viewed (ρ x) (HF G x)
        · exact (cρ.obj x).same (hcf.frame _ (lt_old x ho) (fun h => h))
        · exact (cρ.obj x).nil_same (fun h => ho (.inl h)) (fun h => ho (.inr h))
    · rcases hH x with ⟨j, o, rfl, hj, hd, e1, e2⟩ | e | e
      · rw [e1] at hx
        obtain ⟨q1, q2⟩ := ge_new j hj o hd e2 hx
        exact ⟨q1, .inl (Nat.le_trans cρ.size q2)⟩
      · rw [e] at hx; exact hx.elim
      · rw [e] at hx
        have := cρ.own x hx
        exact ⟨Nat.lt_of_lt_of_le this.1 hcf.size, this.2⟩
    · rcases hH x with ⟨j, o, rfl, hj, hd, e1, e2⟩ | e | e
      · rw [e1] at hx
        rcases hH y with ⟨j', o', rfl, hj', hd', e1', e2'⟩ | e' | e'
        · rw [e1'] at hy
          have := hcf.dist _ _ (own_new j hj o hd e2 hx) (own_new j' hj' o' hd' e2' hy) (by rw [← hnew j hj, ← hnew j' hj']; exact hxy)
          simp only [Nm.top.injEq] at this
          rw [show j = j' from by omega]
        · rw [e'] at hy; exact hy.elim
        · rw [e'] at hy
          have a1 := (ge_new j hj o hd e2 hx).2
          have a2 := lt_old y (.inl hy)
          omega
      · rw [e] at hx; exact hx.elim
      · rw [e] at hx
        rcases hH y with ⟨j', o', rfl, hj', hd', e1', e2'⟩ | e' | e'
        · rw [e1'] at hy
          have a1 := (ge_new j' hj' o' hd' e2' hy).2
          have a2 := lt_old x (.inl hx)
          omega
        · rw [e'] at hy; exact hy.elim
        · rw [e'] at hy
          exact cρ.dist x y hx hy hxy
    · rcases hH x with ⟨j, o, rfl, hj, hd, e1, e2⟩ | e | e
      · rw [e1] at hx
        exfalso
        cases o <;> simp only [datO, Bool.false_eq_true] at hd
        exact hx
      · rw [e] at hx; exact hx.elim
      · rw [e] at hx
        exact cρ.vw x hx

end
end Go.W
