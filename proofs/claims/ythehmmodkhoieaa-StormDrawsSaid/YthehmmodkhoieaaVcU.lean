/- Functions of plain values, of slices that are only read, and of pointers to objects of their own. -/
import Derived.Test.YthehmmodkhoieaaVcS
namespace Go.Vc

/-- What a call takes and gives: its result by the callee's names; what each object that came is at the end; new objects. -/
structure Ans where
  res : AV
  outs : List AObj
  news : List AObj

inductive DP where
  | v (a : AV)
  | s (sz n : Nat) (f : Nat → List AV)
  | p (c : List AV)

def look1 (H : Nat → AObj) (sz : Nat) : AV → Option (DP × Option (Nat × Nat))
  | .nsl => some (.s sz 0 (fun _ => []), none)
  | .sl o i n => match H o with
    | .arr sz' m f => if sz' = sz ∧ i + n ≤ m then some (.s sz n (fun j => f (i + j)), some (o, i)) else none
    | .view sz' m f => if sz' = sz ∧ i + n ≤ m then some (.s sz n (fun j => f (i + j)), some (o, i)) else none
    | _ => none
  | .ptr o 0 0 => match H o with
    | .cells c => some (.p c, some (o, 0))
    | _ => none
  | _ => none

/-- Does an argument bring an object? -/
def brings : AV → Bool
  | .nsl | .sl _ _ _ | .ptr _ _ _ => true
  | _ => false

def deepP (H : Nat → AObj) : List Nat → List AV → Option (List DP × ML)
  | _, [] => some ([], [])
  | szs, a :: r => if brings a = true then (match szs with
      | sz :: q => match look1 H sz a, deepP H q r with
        | some (d, x), some (ds, ml) => some (d :: ds, x :: ml)
        | _, _ => none
      | [] => none)
    else match deepP H szs r with
      | some (ds, ml) => some (.v a :: ds, ml)
      | none => none

theorem look1_loc {H H' : Nat → AObj} {sz : Nat} {a : AV} {d : DP} {x : Option (Nat × Nat)} (h : look1 H sz a = some (d, x)) (hn : ∀ y k, x = some (y, k) → H y = H' y) : look1 H' sz a = some (d, x) := by
  unfold look1 at h ⊢
  split at h
  · exact h
  · rename_i o i n
    have ho : H o = H' o := by
      split at h
      · split at h
        · simp only [Option.some.injEq, Prod.mk.injEq] at h; exact hn o i h.2.symm
        · cases h
      · split at h
        · simp only [Option.some.injEq, Prod.mk.injEq] at h; exact hn o i h.2.symm
        · cases h
      · cases h
    simpa only [← ho] using h
  · rename_i o
    have ho : H o = H' o := by
      split at h
      · simp only [Option.some.injEq, Prod.mk.injEq] at h; exact hn o 0 h.2.symm
      · cases h
    simpa only [← ho] using h
  · cases h

theorem deepP_loc {H H' : Nat → AObj} : ∀ {args : List AV} {szs : List Nat} {ds : List DP} {ml : ML}, deepP H szs args = some (ds, ml) → (∀ y, y ∈ mlNames ml → H y = H' y) → deepP H' szs args = some (ds, ml)
  | [], _, _, _, h, _ => by simpa [deepP] using h
  | a :: r, szs, ds, ml, h, hn => by
    simp only [deepP] at h ⊢
    split at h
    · rename_i hb
      rw [if_pos hb]
      split at h
      · rename_i sz q
        split at h
        · rename_i d x ds' ml' h1 h2
          simp only [Option.some.injEq, Prod.mk.injEq] at h
          rw [look1_loc h1 (fun y k e => hn y (by rw [← h.2, e]; simp [mlNames])), deepP_loc h2 (fun y hy => hn y (by rw [← h.2]; simp only [mlNames, List.mem_filterMap] at hy ⊢; obtain ⟨z, hz, he⟩ := hy; exact ⟨z, List.mem_cons_of_mem _ hz, he⟩))]
          simp [h]
        · cases h
      · cases h
    · rename_i hb
      rw [if_neg hb]
      split at h
      · rename_i ds' ml' h2
        simp only [Option.some.injEq, Prod.mk.injEq] at h
        rw [deepP_loc h2 (fun y hy => hn y (by rw [← h.2]; exact hy))]
        simp [h]
      · cases h

def pArgs : Nat → List DP → List AV
  | _, [] => []
  | k, .v a :: r => a :: pArgs k r
  | k, .s _ n _ :: r => .sl k 0 n :: pArgs (k + 1) r
  | k, .p _ :: r => .ptr k 0 0 :: pArgs (k + 1) r

def pObjs : List DP → List AObj
  | [] => []
  | .v _ :: r => pObjs r
  | .s sz n f :: r => .view sz n f :: pObjs r
  | .p c :: r => .cells c :: pObjs r

def DP.flat : DP → Prop
  | .v a => flatB a = true
  | .s _ n f => ∀ j, j < n → (f j).all flatB = true
  | .p c => c.all flatB = true

def arrives (mlA : ML) (H : Nat → AObj) (x : Option (Nat × Nat)) (o : AObj) : Prop :=
  match x with
  | some (y, s) => ObjS mlA s o (H y)
  | none => (match o with
    | .arr _ n _ => n = 0
    | .view _ n _ => n = 0
    | _ => False)

theorem look1_args {H : Nat → AObj} {mlA : ML} {sz k : Nat} {a : AV} {d : DP} {x : Option (Nat × Nat)} (h : look1 H sz a = some (d, x)) (hx : mlA[k]? = some x) (hf : d.flat) :
    ∃ b, (∀ r, pArgs k (d :: r) = b :: pArgs (k + 1) r) ∧ ArgS mlA b a ∧ ∃ o, (∀ r, pObjs (d :: r) = o :: pObjs r) ∧ arrives mlA H x o := by
  cases a with
  | nsl =>
    simp only [look1, Option.some.injEq, Prod.mk.injEq] at h
    obtain ⟨rfl, rfl⟩ := h
    exact ⟨.sl k 0 0, fun r => by rw [pArgs], by simp [ArgS, hx], .view sz 0 (fun _ => []), fun r => by rw [pObjs], by simp [arrives]⟩
  | sl o i n =>
    simp only [look1] at h
    cases hH : H o with
    | arr sz' m f =>
      simp only [hH] at h
      split at h
      · rename_i hc
        simp only [Option.some.injEq, Prod.mk.injEq] at h
        obtain ⟨rfl, rfl⟩ := h
        obtain ⟨rfl, hle⟩ := hc
        refine ⟨.sl k 0 n, fun r => by rw [pArgs], by simp [ArgS, hx], _, fun r => by rw [pObjs], ?_⟩
        simp only [arrives, hH, ObjS]
        exact ⟨trivial, hle, fun j hj => flat_args (hf j hj)⟩
      · cases h
    | view sz' m f =>
      simp only [hH] at h
      split at h
      · rename_i hc
        simp only [Option.some.injEq, Prod.mk.injEq] at h
        obtain ⟨rfl, rfl⟩ := h
        obtain ⟨rfl, hle⟩ := hc
        refine ⟨.sl k 0 n, fun r => by rw [pArgs], by simp [ArgS, hx], _, fun r => by rw [pObjs], ?_⟩
        simp only [arrives, hH, ObjS]
        exact ⟨trivial, hle, fun j hj => flat_args (hf j hj)⟩
      · cases h
    | free => simp [hH] at h
    | cells c => simp [hH] at h
  | ptr o i f =>
    by_cases e : i = 0 ∧ f = 0
    · obtain ⟨rfl, rfl⟩ := e
      simp only [look1] at h
      cases hH : H o with
      | cells c =>
        simp only [hH, Option.some.injEq, Prod.mk.injEq] at h
        obtain ⟨rfl, rfl⟩ := h
        refine ⟨.ptr k 0 0, fun r => by rw [pArgs], by simp [ArgS, hx], _, fun r => by rw [pObjs], ?_⟩
        simp only [arrives, hH, ObjS]
        exact ⟨trivial, flat_args hf⟩
      | free => simp [hH] at h
      | arr _ _ _ => simp [hH] at h
      | view _ _ _ => simp [hH] at h
    · unfold look1 at h
      split at h
      all_goals first | (cases h; done) | (rename_i hq; injection hq with h1 h2 h3; exact absurd ⟨h2, h3⟩ e) | (rename_i hq _; injection hq with h1 h2 h3; exact absurd ⟨h2, h3⟩ e) | (rename_i hq; cases hq)
  | _ => simp [look1] at h

theorem deepP_args {H : Nat → AObj} {mlA : ML} : ∀ {args : List AV} {szs : List Nat} {k : Nat} {ds : List DP} {ml : ML}, deepP H szs args = some (ds, ml) → mlA.drop k = ml → (∀ d, d ∈ ds → d.flat) → ArgSL mlA (pArgs k ds) args ∧ ObjsS mlA H ml (pObjs ds)
  | [], szs, k, ds, ml, h, _, _ => by simp [deepP] at h; obtain ⟨rfl, rfl⟩ := h; simp [pArgs, pObjs, ArgSL, ObjsS]
  | a :: r, szs, k, ds, ml, h, hk, hfl => by
    simp only [deepP] at h
    split at h
    · split at h
      · rename_i sz q
        split at h
        · rename_i d x ds' ml' h1 h2
          simp only [Option.some.injEq, Prod.mk.injEq] at h
          obtain ⟨rfl, rfl⟩ := h
          have t1 : mlA[k]? = some x := by have := congrArg (·[0]?) hk; simpa using this
          have t2 : mlA.drop (k + 1) = ml' := by have := congrArg (·.drop 1) hk; simpa [List.drop_drop, Nat.add_comm] using this
          obtain ⟨b, e1, e2, o, e3, e4⟩ := look1_args h1 t1 (hfl d List.mem_cons_self)
          obtain ⟨q1, q2⟩ := deepP_args h2 t2 fun d hd => hfl d (List.mem_cons_of_mem _ hd)
          rw [e1, e3, ArgSL]
          refine ⟨⟨e2, q1⟩, ?_⟩
          cases x with
          | none => cases o <;> simp_all [arrives, ObjsS]
          | some ys => obtain ⟨y, s⟩ := ys; rw [ObjsS]; exact ⟨e4, q2⟩
        · cases h
      · cases h
    · split at h
      · rename_i ds' ml' h2
        simp only [Option.some.injEq, Prod.mk.injEq] at h
        obtain ⟨rfl, rfl⟩ := h
        obtain ⟨q1, q2⟩ := deepP_args (k := k) h2 hk fun d hd => hfl d (List.mem_cons_of_mem _ hd)
        rw [pArgs, pObjs, ArgSL]
        exact ⟨⟨flatB_args (hfl (.v a) List.mem_cons_self), q1⟩, q2⟩
      · cases h

def nodupB : List Nat → Bool
  | [] => true
  | x :: r => !r.contains x && nodupB r

theorem nodupB_iff : ∀ {l : List Nat}, nodupB l = true → l.Nodup
  | [], _ => List.nodup_nil
  | x :: r, h => by
    simp only [nodupB, Bool.and_eq_true, Bool.not_eq_true', List.contains_eq_mem] at h
    exact List.nodup_cons.2 ⟨by simpa using h.1, nodupB_iff h.2⟩

def objL (szs : List Nat) (dec : List DP → Option Ans) : LSpec where
  X := List DP
  mt args H := deepP H szs args
  R ds := (∃ r, dec ds = some r) ∧ ∀ d, d ∈ ds → d.flat
  args ds := pArgs 0 ds
  objs ds := pObjs ds
  res ds := (dec ds).elim .bot (·.res)
  outs ds := (dec ds).elim [] (·.outs)
  news ds := (dec ds).elim [] (·.news)
  mtl := fun _ _ _ _ _ h hn => deepP_loc h hn

/-- What a function of objects comes to. -/
def objF (szs : List Nat) (dec : List DP → Option Ans) (args : List AV) (H : Nat → AObj) (nb : Nat) : Option Res :=
  match deepP H szs args with
  | some (ds, ml) => match dec ds with
    | some r => if (nodupB (mlNames ml) = true ∨ (pObjs ds).all (fun o => !isOwn o) = true) ∧ r.outs.length = ml.length ∧ r.news.length ≤ 8 ∧ namesOk (mayName ml r.news.length) r.res = true
      then some ⟨backV (backN ml nb) r.res, wrote (backN ml nb) ml (pObjs ds) r.outs ++ fresh (backN ml nb) nb r.news, mlNames ml⟩ else none
    | none => none
  | none => none

theorem objF_fn {szs : List Nat} {dec : List DP → Option Ans} (hfl : ∀ ds r, dec ds = some r → ∀ d, d ∈ ds → d.flat) {args : List AV} {H : Nat → AObj} {nb : Nat} {q : Res} (h : objF szs dec args H nb = some q) : (objL szs dec).spec.fn args H nb = some q := by
  unfold objF at h
  show LSpec.fn (objL szs dec) args H nb = some q
  unfold LSpec.fn
  have e : (objL szs dec).mt args H = deepP H szs args := rfl
  rw [e]
  cases hd : deepP H szs args with
  | none => simp [hd] at h
  | some x =>
    obtain ⟨ds, ml⟩ := x
    simp only [hd] at h ⊢
    cases hr : dec ds with
    | none => simp [hr] at h
    | some r =>
      simp only [hr] at h
      split at h
      · rename_i hc
        obtain ⟨c1, c2, c3, c4⟩ := hc
        have f1 := hfl ds r hr
        obtain ⟨a1, a2⟩ := deepP_args (mlA := ml) (k := 0) hd rfl f1
        rw [if_pos ⟨a1, a2, c1.imp nodupB_iff id, ⟨⟨r, hr⟩, f1⟩, by simpa [objL, hr] using c2, by simpa [objL, hr] using c3, by simpa [objL, hr] using c4⟩]
        rw [← h]
        simp [objL, hr]
      · cases h

def objS (szs : List Nat) (dec : List DP → Option Ans) (hfl : ∀ ds r, dec ds = some r → ∀ d, d ∈ ds → d.flat) : Spec where
  fn := objF szs dec
  loc := fun args H H' nb r h hH => by
    have h0 := h
    unfold objF at h ⊢
    cases hd : deepP H szs args with
    | none => simp [hd] at h
    | some x =>
      obtain ⟨ds, ml⟩ := x
      simp only [hd] at h
      have hrd : r.rd = mlNames ml := by
        cases hr : dec ds with
        | none => simp [hr] at h
        | some q =>
          simp only [hr] at h
          split at h
          · injection h with h; rw [← h]
          · cases h
      rw [deepP_loc hd (fun y hy => hH y (.inl (by rw [hrd]; exact hy)))]
      exact h
  nm := fun args H nb r h => (objL szs dec).spec.nm args H nb r (objF_fn hfl h)

theorem objS_sound {P : Program} {szs : List Nat} {f : FuncId} {fn : Func} {dec : List DP → Option Ans} {mc : MCode} {res : List RV} (hf : P.funcs[f]? = some fn) (hn : (fn.name == "runtime.NumGoroutine") = false) (hrc : rcOf P fn = some mc) (hres : rRVs P fn.results.toList = some res)
    (hfl : ∀ ds r, dec ds = some r → ∀ d, d ∈ ds → d.flat)
    (hout : ∀ ds r, dec ds = some r → (∀ o, o ∈ r.outs ++ r.news → objOk (okName (pObjs ds) r.news.length) o) ∧ (pArgs 0 ds).length ≤ fn.ntmps)
    (hw : ∀ ds r, dec ds = some r → ∀ (w0 : World) (S : Sc), S.m = (pObjs ds).length → Wm P w0 S fn.ntmps [] mc ⟨argL 0 (pArgs 0 ds), idxO 0 (pObjs ds), (pObjs ds).length⟩
      (retK res fun v s => ∃ pl, LeW (pObjs ds).length pl ⟨[(0, v)], s.hl, s.nb⟩ ⟨[(0, r.res)], idxO 0 (r.outs ++ r.news), (pObjs ds).length + r.news.length⟩)) : Sound P f (objS szs dec hfl) := by
  obtain ⟨c, hb, hrc⟩ := rcOf_body hrc
  have h := LSpec.sound (P := P) (L := objL szs dec) hf hn hb hrc hres (fun x hx o ho => by
      obtain ⟨r, hr⟩ := hx.1
      have := (hout x r hr).1 o (by simpa [objL, hr] using ho)
      simpa [objL, hr] using this) (fun x hx => by obtain ⟨r, hr⟩ := hx.1; exact (hout _ _ hr).2) (fun x hx w0 S hS => by
    obtain ⟨r, hr⟩ := hx.1
    have := hw x r hr w0 S hS
    simpa [objL, hr] using this)
  exact ⟨h.fn, fun w0 S Es U H w avs vs nb r h1 h2 h3 h4 h5 h6 h7 h8 => h.calls w0 S Es U H w avs vs nb r h1 h2 h3 h4 h5 h6 (objF_fn hfl h7) h8⟩

theorem objS_fn (szs : List Nat) (dec : List DP → Option Ans) (hfl : ∀ ds r, dec ds = some r → ∀ d, d ∈ ds → d.flat) (args : List AV) (H : Nat → AObj) (nb : Nat) : (objS szs dec hfl).fn args H nb = objF szs dec args H nb := rfl

attribute [simp] objS_fn objF deepP brings look1 pArgs pObjs nodupB backV backL backN backO wrote fresh mayName namesOk namesOkL isOwn

end Go.Vc
