/- Functions of plain values and of slices that are only read. -/
import Derived.Test.YthehmmodkhoieaaVcQ
namespace Go.Vc

/-- An argument as the callee sees it: a plain value, or a slice's elements. -/
inductive DV where
  | v (a : AV)
  | s (sz n : Nat) (f : Nat → List AV)

def deep (H : Nat → AObj) : List Nat → List AV → Option (List DV × ML)
  | _, [] => some ([], [])
  | sz :: q, .nsl :: r => match deep H q r with
    | some (ds, ml) => some (.s sz 0 (fun _ => []) :: ds, none :: ml)
    | none => none
  | [], .nsl :: _ => none
  | sz :: q, .sl o i n :: r => match H o with
    | .arr sz' m f => if sz' = sz ∧ i + n ≤ m then (match deep H q r with
      | some (ds, ml) => some (.s sz n (fun j => f (i + j)) :: ds, some (o, i) :: ml)
      | none => none) else none
    | .view sz' m f => if sz' = sz ∧ i + n ≤ m then (match deep H q r with
      | some (ds, ml) => some (.s sz n (fun j => f (i + j)) :: ds, some (o, i) :: ml)
      | none => none) else none
    | _ => none
  | [], .sl _ _ _ :: _ => none
  | q, a :: r => match deep H q r with
    | some (ds, ml) => some (.v a :: ds, ml)
    | none => none

theorem deep_loc {H H' : Nat → AObj} : ∀ {szs : List Nat} {args : List AV} {ds : List DV} {ml : ML}, deep H szs args = some (ds, ml) → (∀ y, y ∈ mlNames ml → H y = H' y) → deep H' szs args = some (ds, ml) := by
  intro szs args
  induction args generalizing szs with
  | nil => intro ds ml h _; simpa [deep] using h
  | cons a r ih =>
    intro ds ml h hn
    cases a with
    | nsl =>
      cases szs with
      | nil => simp [deep] at h
      | cons sz q =>
        simp only [deep] at h ⊢
        cases hd : deep H q r with
        | none => simp [hd] at h
        | some x =>
          simp only [hd, Option.some.injEq, Prod.mk.injEq] at h
          rw [ih hd (fun y hy => hn y (by rw [← h.2]; simpa [mlNames] using hy))]
          simp [h]
    | sl o i n =>
      cases szs with
      | nil => simp [deep] at h
      | cons sz q =>
        simp only [deep] at h ⊢
        have ho : H o = H' o := by
          refine hn o ?_
          split at h
          · split at h
            · split at h
              · simp only [Option.some.injEq, Prod.mk.injEq] at h; rw [← h.2]; simp [mlNames]
              · cases h
            · cases h
          · split at h
            · split at h
              · simp only [Option.some.injEq, Prod.mk.injEq] at h; rw [← h.2]; simp [mlNames]
              · cases h
            · cases h
          · cases h
        rw [← ho]
        cases hH : H o with
        | arr sz' m f =>
          simp only [hH] at h ⊢
          split at h
          · rename_i hc
            rw [if_pos hc]
            cases hd : deep H q r with
            | none => simp [hd] at h
            | some x =>
              simp only [hd, Option.some.injEq, Prod.mk.injEq] at h
              rw [ih hd (fun y hy => hn y (by rw [← h.2]; simp [mlNames] at hy ⊢; exact .inr hy))]
              simp [h]
          · cases h
        | view sz' m f =>
          simp only [hH] at h ⊢
          split at h
          · rename_i hc
            rw [if_pos hc]
            cases hd : deep H q r with
            | none => simp [hd] at h
            | some x =>
              simp only [hd, Option.some.injEq, Prod.mk.injEq] at h
              rw [ih hd (fun y hy => hn y (by rw [← h.2]; simp [mlNames] at hy ⊢; exact .inr hy))]
              simp [h]
          · cases h
        | free => simp [hH] at h
        | cells c => simp [hH] at h
    | _ =>
      simp only [deep] at h ⊢
      cases hd : deep H szs r with
      | none => simp [hd] at h
      | some x =>
        simp only [hd, Option.some.injEq, Prod.mk.injEq] at h
        rw [ih hd (fun y hy => hn y (by rw [← h.2]; exact hy))]
        simp [h]

def cArgs : Nat → List DV → List AV
  | _, [] => []
  | k, .v a :: r => a :: cArgs k r
  | k, .s _ n _ :: r => .sl k 0 n :: cArgs (k + 1) r

def cObjs : List DV → List AObj
  | [] => []
  | .v _ :: r => cObjs r
  | .s sz n f :: r => .view sz n f :: cObjs r

def DV.flat : DV → Prop
  | .v a => flatB a = true
  | .s _ n f => ∀ j, j < n → (f j).all flatB = true

theorem flatB_args {ml : ML} {a : AV} (h : flatB a = true) : ArgS ml a a := by
  have := flat_args (ml := ml) (l := [a]) (by simpa using h)
  rw [ArgSL] at this
  exact this.1

theorem deep_args {H : Nat → AObj} {mlA : ML} : ∀ {args : List AV} {szs : List Nat} {k : Nat} {ds : List DV} {ml : ML}, deep H szs args = some (ds, ml) → mlA.drop k = ml → (∀ d, d ∈ ds → d.flat) → ArgSL mlA (cArgs k ds) args := by
  intro args
  induction args with
  | nil => intro szs k ds ml h _ _; simp [deep] at h; obtain ⟨rfl, rfl⟩ := h; simp [cArgs, ArgSL]
  | cons a r ih =>
    intro szs k ds ml h hk hfl
    have tail : ∀ {x : Option (Nat × Nat)} {ml' : ML}, mlA.drop k = x :: ml' → mlA[k]? = some x ∧ mlA.drop (k + 1) = ml' := fun {x ml'} e => by
      refine ⟨?_, ?_⟩
      · have := congrArg (·[0]?) e; simpa using this
      · have := congrArg (·.drop 1) e; simpa [List.drop_drop, Nat.add_comm] using this
    cases a with
    | nsl =>
      cases szs with
      | nil => simp [deep] at h
      | cons sz q =>
        simp only [deep] at h
        cases hd : deep H q r with
        | none => simp [hd] at h
        | some x =>
          simp only [hd, Option.some.injEq, Prod.mk.injEq] at h
          obtain ⟨rfl, rfl⟩ := h
          obtain ⟨t1, t2⟩ := tail hk
          rw [cArgs, ArgSL]
          exact ⟨by simp [ArgS, t1], ih hd t2 fun d hd => hfl d (List.mem_cons_of_mem _ hd)⟩
    | sl o i n =>
      cases szs with
      | nil => simp [deep] at h
      | cons sz q =>
        simp only [deep] at h
        have fin : ∀ {f : Nat → List AV} {x : List DV × ML}, deep H q r = some x → (.s sz n f :: x.1 = ds ∧ some (o, i) :: x.2 = ml) → ArgSL mlA (cArgs k ds) (.sl o i n :: r) := by
          rintro f x hd ⟨rfl, rfl⟩
          obtain ⟨t1, t2⟩ := tail hk
          rw [cArgs, ArgSL]
          exact ⟨by simp [ArgS, t1], ih hd t2 fun d hd => hfl d (List.mem_cons_of_mem _ hd)⟩
        split at h
        · split at h
          · split at h
            · rename_i hd
              simp only [Option.some.injEq, Prod.mk.injEq] at h
              exact fin hd h
            · cases h
          · cases h
        · split at h
          · split at h
            · rename_i hd
              simp only [Option.some.injEq, Prod.mk.injEq] at h
              exact fin hd h
            · cases h
          · cases h
        · cases h
    | _ =>
      simp only [deep] at h
      cases hd : deep H szs r with
      | none => simp [hd] at h
      | some x =>
        simp only [hd, Option.some.injEq, Prod.mk.injEq] at h
        obtain ⟨rfl, rfl⟩ := h
        rw [cArgs, ArgSL]
        exact ⟨flatB_args (hfl (.v _) List.mem_cons_self), ih hd hk fun d hd => hfl d (List.mem_cons_of_mem _ hd)⟩

theorem deep_objs {H : Nat → AObj} {mlA : ML} : ∀ {args : List AV} {szs : List Nat} {ds : List DV} {ml : ML}, deep H szs args = some (ds, ml) → (∀ d, d ∈ ds → d.flat) → ObjsS mlA H ml (cObjs ds) := by
  intro args
  induction args with
  | nil => intro szs ds ml h _; simp [deep] at h; obtain ⟨rfl, rfl⟩ := h; simp [cObjs, ObjsS]
  | cons a r ih =>
    intro szs ds ml h hfl
    cases a with
    | nsl =>
      cases szs with
      | nil => simp [deep] at h
      | cons sz q =>
        simp only [deep] at h
        cases hd : deep H q r with
        | none => simp [hd] at h
        | some x =>
          simp only [hd, Option.some.injEq, Prod.mk.injEq] at h
          obtain ⟨rfl, rfl⟩ := h
          rw [cObjs, ObjsS]
          exact ⟨rfl, ih hd fun d hd => hfl d (List.mem_cons_of_mem _ hd)⟩
    | sl o i n =>
      cases szs with
      | nil => simp [deep] at h
      | cons sz q =>
        simp only [deep] at h
        split at h
        · rename_i sz' m f hH
          split at h
          · rename_i hc
            obtain ⟨rfl, hle⟩ := hc
            split at h
            · rename_i ds' ml' hd
              simp only [Option.some.injEq, Prod.mk.injEq] at h
              obtain ⟨rfl, rfl⟩ := h
              rw [cObjs, ObjsS, hH]
              exact ⟨⟨rfl, hle, fun j hj => flat_args (hfl (.s _ _ _) List.mem_cons_self j hj)⟩, ih hd fun d hd => hfl d (List.mem_cons_of_mem _ hd)⟩
            · cases h
          · cases h
        · rename_i sz' m f hH
          split at h
          · rename_i hc
            obtain ⟨rfl, hle⟩ := hc
            split at h
            · rename_i ds' ml' hd
              simp only [Option.some.injEq, Prod.mk.injEq] at h
              obtain ⟨rfl, rfl⟩ := h
              rw [cObjs, ObjsS, hH]
              exact ⟨⟨rfl, hle, fun j hj => flat_args (hfl (.s _ _ _) List.mem_cons_self j hj)⟩, ih hd fun d hd => hfl d (List.mem_cons_of_mem _ hd)⟩
            · cases h
          · cases h
        · cases h
    | _ =>
      simp only [deep] at h
      cases hd : deep H szs r with
      | none => simp [hd] at h
      | some x =>
        simp only [hd, Option.some.injEq, Prod.mk.injEq] at h
        obtain ⟨rfl, rfl⟩ := h
        rw [cObjs]
        exact ih hd fun d hd => hfl d (List.mem_cons_of_mem _ hd)

theorem cObjs_notOwn : ∀ (ds : List DV), (cObjs ds).all (fun o => !isOwn o) = true
  | [] => rfl
  | .v _ :: r => by rw [cObjs]; exact cObjs_notOwn r
  | .s _ _ _ :: r => by rw [cObjs, List.all_cons, cObjs_notOwn r]; rfl

def scalV (szs : List Nat) (dec : List DV → Option AV) : Spec where
  fn args H _ := match deep H szs args with
    | some (ds, ml) => (dec ds).map fun v => ⟨v, [], mlNames ml⟩
    | none => none
  loc := fun args H H' nb r h hH => by
    cases hd : deep H szs args with
    | none => simp [hd] at h
    | some x =>
      obtain ⟨ds, ml⟩ := x
      simp only [hd] at h
      have : ∀ y, y ∈ mlNames ml → H y = H' y := fun y hy => by
        cases hq : dec ds with
        | none => simp [hq] at h
        | some v => simp only [hq, Option.map_some, Option.some.injEq] at h; exact hH y (.inl (by rw [← h]; exact hy))
      rw [deep_loc hd this]
      exact h
  nm := fun args H nb r h x hx => by
    cases hd : deep H szs args with
    | none => simp [hd] at h
    | some y =>
      obtain ⟨ds, ml⟩ := y
      simp only [hd] at h
      cases hq : dec ds with
      | none => simp [hq] at h
      | some v => simp only [hq, Option.map_some, Option.some.injEq] at h; subst h; simp at hx

section
variable {P : Program}

def scalVL (szs : List Nat) (dec : List DV → Option AV) : LSpec where
  X := List DV
  mt args H := deep H szs args
  R ds := (∃ r, dec ds = some r) ∧ ∀ d, d ∈ ds → d.flat
  args ds := cArgs 0 ds
  objs ds := cObjs ds
  res ds := (dec ds).getD .bot
  outs ds := (cObjs ds).map fun _ => .free
  news _ := []
  mtl := fun _ _ _ _ _ h hn => deep_loc h hn

def idPl : Nat → Nat → List (Nat × Option Nat)
  | _, 0 => []
  | i, n + 1 => (i, some i) :: idPl (i + 1) n

theorem idPl_lk : ∀ (n i x : Nat), lkp (idPl i n) x = if i ≤ x ∧ x < i + n then some (some x) else none
  | 0, i, x => by rw [idPl, lkp, if_neg (by omega)]
  | n + 1, i, x => by
    rw [idPl, lkp, idPl_lk n (i + 1) x]
    by_cases e : x = i
    · subst e; rw [if_pos rfl, if_pos (by omega)]
    · rw [if_neg e]
      by_cases h : i + 1 ≤ x ∧ x < i + 1 + n
      · rw [if_pos h, if_pos (by omega)]
      · rw [if_neg h, if_neg (by omega)]

theorem idPl_keys : ∀ (n i : Nat), (idPl i n).map (·.1) = List.range' i n
  | 0, i => rfl
  | n + 1, i => by simp [idPl, idPl_keys n (i + 1), List.range'_succ]

theorem idPl_vals : ∀ (n i : Nat), (idPl i n).filterMap (·.2) = List.range' i n
  | 0, i => rfl
  | n + 1, i => by simp [idPl, idPl_vals n (i + 1), List.range'_succ]

theorem scalV_sound {szs : List Nat} {f : FuncId} {fn : Func} {dec : List DV → Option AV} {mc : MCode} {res : List RV} (hf : P.funcs[f]? = some fn) (hn : (fn.name == "runtime.NumGoroutine") = false) (hrc : rcOf P fn = some mc) (hres : rRVs P fn.results.toList = some res)
    (hfl : ∀ ds r, dec ds = some r → (∀ d, d ∈ ds → d.flat) ∧ namesOk (fun _ => false) r = true ∧ (cArgs 0 ds).length ≤ fn.ntmps)
    (hw : ∀ ds r, dec ds = some r → ∀ (w0 : World) (S : Sc), S.m = (cObjs ds).length → Wm P w0 S fn.ntmps [] mc ⟨argL 0 (cArgs 0 ds), idxO 0 (cObjs ds), (cObjs ds).length⟩ (retK res fun v _ => v = r)) : Sound P f (scalV szs dec) := by
  obtain ⟨c, hb, hrc⟩ := rcOf_body hrc
  have h := LSpec.sound (P := P) (L := scalVL szs dec) hf hn hb hrc hres (fun x _ o ho => by
      simp only [scalVL, List.append_nil, List.mem_map] at ho
      obtain ⟨_, _, rfl⟩ := ho
      trivial) (fun x hx => by obtain ⟨r, hr⟩ := hx.1; exact (hfl _ _ hr).2.2) (fun x hx w0 S hS => by
    obtain ⟨r, hr⟩ := hx.1
    refine Wm_mono (hw x r hr w0 S hS) fun e s hq => ?_
    have key : Holds (rdRes s res) (fun v => v = r) → Holds (rdRes s res) fun v => ∃ pl, LeW ((scalVL szs dec).objs x).length pl ⟨[(0, v)], s.hl, s.nb⟩ ⟨[(0, (scalVL szs dec).res x)], idxO 0 ((scalVL szs dec).outs x ++ (scalVL szs dec).news x), ((scalVL szs dec).objs x).length + ((scalVL szs dec).news x).length⟩ := by
      rintro ⟨v, h1, rfl⟩
      refine ⟨_, h1, idPl 0 (cObjs x).length, ⟨fun y hy => by rw [idPl_lk, if_pos ⟨by omega, by simpa [scalVL] using hy⟩], fun p hp => ?_, ?_, ?_, fun p hp => ?_, fun p hp => ?_⟩⟩
      · have : p.1 ∈ (idPl 0 (cObjs x).length).map (·.1) := List.mem_map_of_mem hp
        rw [idPl_keys] at this
        have := List.mem_range'_1.1 this
        simp [scalVL]; omega
      · rw [idPl_vals]; exact List.nodup_range'
      · rw [idPl_keys]; exact List.nodup_range'
      · simp at hp
        subst hp
        simpa [lk, scalVL, hr] using Ren_refl (hfl _ _ hr).2.1
      · have hk := idxO_keys _ _ _ hp
        simp [scalVL] at hk
        refine ⟨by simpa [scalVL] using hk, ?_⟩
        have hfree : ∀ (l : List AObj) (i : Nat) (p : Nat × AObj), p ∈ idxO i (l.map fun _ => AObj.free) → p.2 = .free := by
          intro l
          induction l with
          | nil => intro i p hp; simp [idxO] at hp
          | cons o l ih =>
            intro i p hp
            simp only [List.map_cons, idxO, List.mem_cons] at hp
            rcases hp with rfl | hp
            · rfl
            · exact ih _ _ hp
        have := hfree (cObjs x) 0 p (by simpa [scalVL] using hp)
        simp only [ObjRen, idPl_lk, this]
        rw [if_pos ⟨by omega, by simpa using hk⟩]
        simp [ObjLe]
    cases e with
    | normal => exact key hq
    | ret => exact key hq
    | _ => exact hq.elim)
  refine ⟨h.fn, fun w0 S Es U H w avs vs nb r h1 h2 h3 h4 h5 h6 h7 h8 => h.calls w0 S Es U H w avs vs nb r h1 h2 h3 h4 h5 h6 ?_ h8⟩
  show LSpec.fn (scalVL szs dec) avs H nb = some r
  have h7' : (match deep H szs avs with
    | some (ds, ml) => (dec ds).map fun v => (⟨v, [], mlNames ml⟩ : Res)
    | none => none) = some r := h7
  cases hd : deep H szs avs with
  | none => simp [hd] at h7'
  | some x =>
    obtain ⟨ds, ml⟩ := x
    simp only [hd] at h7'
    cases hq : dec ds with
    | none => simp [hq] at h7'
    | some v =>
      simp only [hq, Option.map_some, Option.some.injEq] at h7'
      subst h7'
      obtain ⟨f1, f2, f3⟩ := hfl _ _ hq
      have e : (scalVL szs dec).mt avs H = some (ds, ml) := hd
      have hobjs := deep_objs (mlA := ml) hd f1
      have hlen := ObjsS_length hobjs
      have hres2 : namesOk (mayName ml ((scalVL szs dec).news ds).length) ((scalVL szs dec).res ds) = true := by
        have e2 : (scalVL szs dec).res ds = v := by simp [scalVL, hq]
        rw [e2]
        exact namesOk_mono (p := fun _ => false) (fun _ h => by cases h) f2
      unfold LSpec.fn
      rw [e]
      simp only
      rw [if_pos ⟨deep_args hd rfl f1, hobjs, .inr (cObjs_notOwn ds), ⟨⟨v, hq⟩, f1⟩, by simp [scalVL, hlen], by simp [scalVL], hres2⟩]
      have hwn : wrote (backN ml nb) ml ((scalVL szs dec).objs ds) ((scalVL szs dec).outs ds) = [] := wrote_nil (cObjs_notOwn ds)
      rw [hwn]
      simp [scalVL, fresh, hq, backV_refl f2]

theorem scalV_fn (szs : List Nat) (dec : List DV → Option AV) (args : List AV) (H : Nat → AObj) (nb : Nat) : (scalV szs dec).fn args H nb = match deep H szs args with
    | some (ds, ml) => (dec ds).map fun v => ⟨v, [], mlNames ml⟩
    | none => none := rfl
end

attribute [simp] scalV_fn deep cArgs cObjs mlNames

end Go.Vc
