/- A region in the text's order, without a log, and cut into parts between which temporaries go. -/
import Derived.Test.YtmbploeikjangaaGreatWk
set_option linter.unusedSimpArgs false
set_option linter.unusedVariables false
namespace Go.W

/-- A region's operations, one behind the other; what holds behind them. -/
def ecC (E : FuncId → Option Spec) (nb : Nat) (K : TL → HL → Prop) : List MO → Nat → TL → HL → Prop
  | [], _, tl, hl => K tl hl
  | mo :: r, i, tl, hl => match mo.g with
    | none => (match stepN E (lk tl) (hk hl) (nb + 8 * i) mo.op with
      | some q => q.n = 8 ∧ ecC E nb K r (i + 1) (putL tl mo.dst q.v) (updH hl q.hs)
      | none => False)
    | some (s, want) => (match lk tl s with
      | .bool b => if b = want then (match stepN E (lk ((s, .bool want) :: tl)) (hk hl) (nb + 8 * i) mo.op with
          | some q => q.n = 8 ∧ ecC E nb K r (i + 1) (putL ((s, .bool want) :: tl) mo.dst q.v) (updH hl q.hs)
          | none => False)
        else ecC E nb K r (i + 1) (putL ((s, .bool (!want)) :: tl) mo.dst (.raw undef)) hl
      | .raw v => if isUndef v = true then ecC E nb K r (i + 1) (putL tl mo.dst (.raw undef)) hl else False
      | _ => False)

section
variable (E : FuncId → Option Spec) (nb : Nat) (K : TL → HL → Prop) (r : List MO) (i : Nat) (tl : TL) (hl : HL) (dst : Option Nat)

def stC (o : Option Res) : Prop :=
  match o with
  | some q => q.n = 8 ∧ ecC E nb K r (i + 1) (putL tl dst q.v) (updH hl q.hs)
  | none => False
theorem stC_some (v : AV) (hs : List (Nat × NObj)) (rd : List Nat) : stC E nb K r i tl hl dst (some ⟨v, hs, rd, 8⟩) = ecC E nb K r (i + 1) (putL tl dst v) (updH hl hs) := by simp only [stC, true_and]
theorem stC_none : stC E nb K r i tl hl dst none = False := by simp only [stC]
theorem stC_ite (c : Prop) [Decidable c] (x y : Option Res) : stC E nb K r i tl hl dst (if c then x else y) = ((c → stC E nb K r i tl hl dst x) ∧ (¬ c → stC E nb K r i tl hl dst y)) := by
  by_cases hc : c
  · simp [hc]
  · simp [hc]

def gdC (op : MOp) (s : Nat) (want : Bool) (v : AV) : Prop :=
  match v with
  | .bool b => if b = want then stC E nb K r i ((s, .bool want) :: tl) hl dst (stepN E (lk ((s, .bool want) :: tl)) (hk hl) (nb + 8 * i) op) else ecC E nb K r (i + 1) (putL ((s, .bool (!want)) :: tl) dst (.raw undef)) hl
  | .raw v => if isUndef v = true then ecC E nb K r (i + 1) (putL tl dst (.raw undef)) hl else False
  | _ => False
theorem gdC_bool (op : MOp) (s : Nat) (want b : Bool) : gdC E nb K r i tl hl dst op s want (.bool b) = ((b = want → stC E nb K r i ((s, .bool want) :: tl) hl dst (stepN E (lk ((s, .bool want) :: tl)) (hk hl) (nb + 8 * i) op)) ∧ (¬ b = want → ecC E nb K r (i + 1) (putL ((s, .bool (!want)) :: tl) dst (.raw undef)) hl)) := by
  by_cases h : b = want <;> simp [gdC, h]
theorem gdC_tt (op : MOp) (s : Nat) : gdC E nb K r i tl hl dst op s true (.bool true) = stC E nb K r i ((s, .bool true) :: tl) hl dst (stepN E (lk ((s, .bool true) :: tl)) (hk hl) (nb + 8 * i) op) := by simp [gdC]
theorem gdC_ff (op : MOp) (s : Nat) : gdC E nb K r i tl hl dst op s false (.bool false) = stC E nb K r i ((s, .bool false) :: tl) hl dst (stepN E (lk ((s, .bool false) :: tl)) (hk hl) (nb + 8 * i) op) := by simp [gdC]
theorem gdC_tf (op : MOp) (s : Nat) : gdC E nb K r i tl hl dst op s true (.bool false) = ecC E nb K r (i + 1) (putL ((s, .bool false) :: tl) dst (.raw undef)) hl := by simp [gdC]
theorem gdC_ft (op : MOp) (s : Nat) : gdC E nb K r i tl hl dst op s false (.bool true) = ecC E nb K r (i + 1) (putL ((s, .bool true) :: tl) dst (.raw undef)) hl := by simp [gdC]
theorem gdC_un (op : MOp) (s : Nat) (want : Bool) : gdC E nb K r i tl hl dst op s want (.raw undef) = ecC E nb K r (i + 1) (putL tl dst (.raw undef)) hl := by simp only [gdC]; exact if_pos rfl

theorem ecC_nil : ecC E nb K [] i tl hl = K tl hl := rfl
theorem ecC_op (op : MOp) : ecC E nb K (MO.mk dst op none :: r) i tl hl = stC E nb K r i tl hl dst (stepN E (lk tl) (hk hl) (nb + 8 * i) op) := by
  simp only [ecC, stC]
theorem ecC_gd (op : MOp) (s : Nat) (want : Bool) : ecC E nb K (MO.mk dst op (some (s, want)) :: r) i tl hl = gdC E nb K r i tl hl dst op s want (lk tl s) := by
  simp only [ecC, gdC, stC]
end

/-- In parts: behind each only some temporaries are kept. -/
def ecX (E : FuncId → Option Spec) (nb : Nat) (K : TL → HL → Prop) : List (List MO × List Nat) → Nat → TL → HL → Prop
  | [], _, tl, hl => K tl hl
  | (A, ks) :: r, i, tl, hl => ecC E nb (fun tl hl => ecX E nb K r (i + A.length) (keepL ks tl) (prune [] hl)) A i tl hl

theorem ecX_nil (E : FuncId → Option Spec) (nb : Nat) (K : TL → HL → Prop) (i : Nat) (tl : TL) (hl : HL) : ecX E nb K [] i tl hl = K tl hl := rfl
theorem ecX_cons (E : FuncId → Option Spec) (nb : Nat) (K : TL → HL → Prop) (A : List MO) (ks : List Nat) (r : List (List MO × List Nat)) (i : Nat) (tl : TL) (hl : HL) : ecX E nb K ((A, ks) :: r) i tl hl = ecC E nb (fun tl hl => ecX E nb K r (i + A.length) (keepL ks tl) (prune [] hl)) A i tl hl := rfl

section
variable {P : Program} {E : FuncId → Option Spec} {w0 : World} {S : Sc} {N : Nat} {D : List Deferred}

theorem seqC (hE : SoundAll P E) {ops : Array Oper} {nb : Nat} {K : TL → HL → Prop} {Q : Exit → Act → World → Prop} {m : Nat} : ∀ (mos : List MO) (i : Nat) (Es : Env → Prop) (U : Nm → Prop) (tl : TL) (hl : HL) (a : Act) (w : World),
    (∀ tl hl Es U a w, K tl hl → Sat w0 S Es U (lk tl) (HF (hk hl)) a w → (∀ x : Nm, nb + 8 * (i + mos.length) ≤ x.mx → U x) → a.defers = D → a.tmps.size = N → wpOps P ops Q (List.range' (i + mos.length) m) a w) →
    ecC E nb K mos i tl hl → (∀ k mo, mos[k]? = some mo → ∃ o, ops[i + k]? = some o ∧ rO P ops o = some mo ∧ ∀ d, mo.dst = some d → d < N) → Sat w0 S Es U (lk tl) (HF (hk hl)) a w → (∀ x : Nm, nb + 8 * i ≤ x.mx → U x) → a.defers = D → a.tmps.size = N → wpOps P ops Q (List.range' i (mos.length + m)) a w
  | [], i, Es, U, tl, hl, a, w, hK, h, _, hsat, hU, hD, hN => by
    have := hK tl hl Es U a w h hsat (fun x hx => hU x (by simpa using hx)) hD hN
    simpa using this
  | mo :: r, i, Es, U, tl, hl, a, w, hK, h, hops, hsat, hU, hD, hN => by
    obtain ⟨o, ho, hro, hdst⟩ := hops 0 mo rfl
    have go : ∀ (tl' : TL) {q : Res}, lk tl' = lk tl → stepG E (lk tl) (hk hl) (nm nb i) mo = some q → q.n = 8 → ecC E nb K r (i + 1) (putL tl' mo.dst q.v) (updH hl q.hs) → wpOps P ops Q (List.range' i ((mo :: r).length + m)) a w := by
      intro tl' q htl h1 h8 h2
      rw [show (mo :: r).length + m = (r.length + m) + 1 from by simp only [List.length_cons]; omega, List.range'_succ, wpOps_cons]
      refine op_ok hE hsat ho hro h1 (fun x hx => hU x (by simp only [nm] at hx; omega)) (by rw [hN]; exact hdst) fun Es' a' w' hsat' hd' hn' _ => ?_
      rw [← htl, ← updH_eq, ← putL_eq] at hsat'
      refine seqC hE r (i + 1) Es' _ _ _ a' w' (fun tl hl Es U a w k1 k2 k3 k4 k5 => ?_) h2 (fun k mo' hk => ?_) hsat' (fun x hx => ⟨hU x (by omega), fun hb => by simp only [nm] at hb; omega⟩) (hd'.trans hD) (hn'.trans hN)
      · have := hK tl hl Es U a w k1 k2 (fun x hx => k3 x (by simp only [List.length_cons] at hx; omega)) k4 k5
        rw [show i + (mo :: r).length = i + 1 + r.length from by simp only [List.length_cons]; omega] at this
        exact this
      · obtain ⟨o', g1, g2⟩ := hops (k + 1) mo' (by simpa using hk)
        exact ⟨o', by rw [show i + 1 + k = i + (k + 1) from by omega]; exact g1, g2⟩
    have lkc : ∀ {s : Nat} {v : AV}, lk tl s = v → lk ((s, v) :: tl) = lk tl := fun {s v} hv => funext fun t => by
      by_cases e : t = s
      · subst e; simp [lk, hv]
      · simp [lk, e]
    simp only [ecC] at h
    cases hg : mo.g with
    | none =>
      simp only [hg] at h
      split at h
      · rename_i q hq
        exact go tl rfl (by simp only [stepG, hg]; exact hq) h.1 h.2
      · cases h
    | some sw =>
      obtain ⟨s, want⟩ := sw
      simp only [hg] at h
      split at h
      · rename_i b hb
        split at h
        · rename_i e
          subst e
          rw [lkc hb] at h
          split at h
          · rename_i q hq
            exact go _ (lkc hb) (by simp only [stepG, hg, hb, if_pos rfl]; exact hq) h.1 h.2
          · cases h
        · rename_i e
          have e' : (!want) = b := by cases b <;> cases want <;> simp at e ⊢
          rw [e'] at h
          exact go _ (lkc hb) (q := ⟨.raw undef, [], [], 8⟩) (by simp only [stepG, hg, hb, if_neg e]) rfl h
      · rename_i v hb
        split at h
        · rename_i e
          exact go tl rfl (q := ⟨.raw undef, [], [], 8⟩) (by simp only [stepG, hg, hb, if_pos e]) rfl h
        · cases h
      · cases h

theorem Sat_keep {Es : Env → Prop} {U : Nm → Prop} {tl : TL} {H : Nm → AObj} {a : Act} {w : World} (h : Sat w0 S Es U (lk tl) H a w) (ks : List Nat) : Sat w0 S Es U (lk (keepL ks tl)) H a w :=
  ⟨h.ne, h.cl, h.fr, h.pin, fun ρ hρ t ht => by
    have e := keepL_lk ks tl t ht
    rw [e] at ht ⊢
    exact h.tm ρ hρ t ht, h.hp⟩

theorem seqX (hE : SoundAll P E) {ops : Array Oper} {nb : Nat} {K : TL → HL → Prop} {Q : Exit → Act → World → Prop} {n : Nat}
    (hK : ∀ tl hl Es U a w, K tl hl → Sat w0 S Es U (lk tl) (HF (hk hl)) a w → (∀ x : Nm, nb + 8 * n ≤ x.mx → U x) → a.defers = D → a.tmps.size = N → Q .normal a w) :
    ∀ (segs : List (List MO × List Nat)) (i : Nat) (Es : Env → Prop) (U : Nm → Prop) (tl : TL) (hl : HL) (a : Act) (w : World), i + (segs.map (·.1)).flatten.length = n →
    ecX E nb K segs i tl hl → (∀ k mo, (segs.map (·.1)).flatten[k]? = some mo → ∃ o, ops[i + k]? = some o ∧ rO P ops o = some mo ∧ ∀ d, mo.dst = some d → d < N) → Sat w0 S Es U (lk tl) (HF (hk hl)) a w → (∀ x : Nm, nb + 8 * i ≤ x.mx → U x) → a.defers = D → a.tmps.size = N → wpOps P ops Q (List.range' i (n - i)) a w
  | [], i, Es, U, tl, hl, a, w, hn, h, _, hsat, hU, hD, hN => by
    have hi : i = n := by simpa using hn
    subst hi
    rw [Nat.sub_self]
    exact hK tl hl Es U a w h hsat hU hD hN
  | (A, ks) :: r, i, Es, U, tl, hl, a, w, hn, h, hops, hsat, hU, hD, hN => by
    simp only [List.map_cons, List.flatten_cons, List.length_append] at hn hops
    rw [ecX_cons] at h
    rw [show n - i = A.length + (n - (i + A.length)) from by omega]
    refine seqC hE A i Es U tl hl a w (fun tl hl Es U a w k1 k2 k3 k4 k5 => ?_) h (fun k mo hk => hops k mo (by rw [List.getElem?_append_left (by exact (List.getElem?_eq_some_iff.1 hk).1)]; exact hk)) hsat hU hD hN
    have e : hk (prune [] hl) = hk hl := funext fun x => hk_prune _ _ _ (by simp)
    refine seqX hE hK r (i + A.length) Es U _ _ a w (by omega) k1 (fun k mo hk => ?_) (by rw [e]; exact Sat_keep k2 ks) k3 k4 k5
    obtain ⟨o, g1, g2⟩ := hops (A.length + k) mo (by rw [List.getElem?_append_right (by omega), show A.length + k - A.length = k from by omega]; exact hk)
    exact ⟨o, by rw [show i + A.length + k = i + (A.length + k) from by omega]; exact g1, g2⟩

/-- A REGION IN THE TEXT'S ORDER, IN PARTS. -/
theorem wregX {s : St} {Q : Exit → St → Prop} (hE : SoundAll P E) {mos : List MO} (segs : List (List MO × List Nat)) (hfit : fits N mos = true) (he : (segs.map (·.1)).flatten = mos)
    (h : ∀ K : List (Nat × AV) → List (Nat × NObj) → Prop, (∀ tl hl, Q .normal ⟨tl, hl, s.nb + 8 * mos.length⟩ → K tl hl) → ecX E s.nb K segs 0 s.tl s.hl) : Wm P w0 S N D (.reg mos) s Q := fun code hc a w hs => by
  cases code <;> simp only [rC, reduceCtorEq, Option.some.injEq] at hc
  case region id ops d =>
    split at hc
    · rename_i l hl
      split at hc
      · cases hc
      · rename_i hd
        injection hc with hc
        injection hc with hc
        subst hc
        have hd' : d = false := by simpa using hd
        subst hd'
        obtain ⟨g1, g2⟩ := rOs_get hl
        obtain ⟨⟨Es, hsat⟩, hN, hD⟩ := hs
        have hsz : ops.size = l.length := by rw [← Array.length_toList, g1]
        refine wp_region ?_
        have hx := h (fun tl hl => Q .normal ⟨tl, hl, s.nb + 8 * l.length⟩) fun _ _ h => h
        have := seqX (P := P) (E := E) (w0 := w0) (S := S) (N := N) (D := D) (ops := ops) (nb := s.nb) hE (Q := fun e a' w' => ∃ s', SatS w0 S N D s' a' w' ∧ Q e s') (n := l.length)
          (fun tl hl Es U a w k1 k2 k3 k4 k5 => ⟨_, satS_of (n := l.length) k2 k3 k4 k5, k1⟩) segs 0 Es _ s.tl s.hl a w (by rw [he]; simp) hx (fun k mo hk => by
            rw [he] at hk
            obtain ⟨o, o1, o2⟩ := g2 k _ hk
            refine ⟨o, by rw [Nat.zero_add, ← Array.getElem?_toList]; exact o1, o2, fun d hd => ?_⟩
            have := List.all_eq_true.1 hfit _ (List.mem_of_getElem? hk)
            rw [hd] at this
            simpa using this) hsat (fun x hx => by simpa using hx) hD hN
        rw [List.range_eq_range', hsz]
        simpa using this
    · cases hc
  all_goals ((repeat' (split at hc)) <;> first | (cases hc; done) | (simp only [Option.map_eq_some_iff, reduceCtorEq, and_false, exists_false] at hc; done))
end
attribute [simp] ecC_nil ecC_op ecC_gd stC_some stC_none stC_ite gdC_tt gdC_ff gdC_tf gdC_ft gdC_un
attribute [simp low] gdC_bool
/-- The walk's rules that leave one goal, found by the goal's form. -/
class ZR (G : Prop) (H : outParam Prop) : Prop where
  h : H → G
section
variable {P : Program} {w0 : World} {S : Sc} {N : Nat} {D : List Deferred} {s : St} {Q : Exit → St → Prop}
instance {x y : MCode} : ZR (Wm P w0 S N D (.seq x y) s Q) (Wm P w0 S N D x s (thenK P w0 S N D y Q)) := ⟨Wm_seq⟩
instance : ZR (Wm P w0 S N D .skip s Q) (Q .normal s) := ⟨Wm_skip⟩
instance : ZR (Wm P w0 S N D .ret s Q) (Q .ret s) := ⟨Wm_ret⟩
instance {id : Nat} {x : MCode} : ZR (Wm P w0 S N D (.block id x) s Q) (Wm P w0 S N D x s (blockK id Q)) := ⟨Wm_block⟩
instance {id : Nat} : ZR (Wm P w0 S N D (.exit id) s Q) (Q (.exit id) s) := ⟨Wm_exit⟩
instance {b : MCode} : ZR (thenK P w0 S N D b Q .normal s) (Wm P w0 S N D b s Q) := ⟨thenK_normal⟩
instance {b : MCode} : ZR (thenK P w0 S N D b Q .ret s) (Q .ret s) := ⟨thenK_ret⟩
instance {b : MCode} {id : Nat} : ZR (thenK P w0 S N D b Q (.exit id) s) (Q (.exit id) s) := ⟨thenK_exit⟩
instance {id : Nat} : ZR (blockK id Q .normal s) (Q .normal s) := ⟨blockK_normal⟩
instance {id : Nat} : ZR (blockK id Q .ret s) (Q .ret s) := ⟨blockK_ret⟩
instance {id : Nat} : ZR (blockK id Q (.exit id) s) (Q .normal s) := ⟨blockK_here⟩
instance {m : Nat} {α : Type} {I : α → St} {R : α → Prop} {μ : α → Nat} {x : α} : ZR (loopK m I R μ x Q .ret s) (Q .ret s) := ⟨loopK_ret⟩
instance {m : Nat} {α : Type} {I : α → St} {R : α → Prop} {μ : α → Nat} {x : α} {id : Nat} : ZR (loopK m I R μ x Q (.exit id) s) (Q (.exit id) s) := ⟨loopK_exit⟩
instance {c : MCode} {n : Nat} : ZR (unK P w0 S N D c Q n .ret s) (Q .ret s) := ⟨unK_ret⟩
instance {c : MCode} {n id : Nat} : ZR (unK P w0 S N D c Q n (.exit id) s) (Q (.exit id) s) := ⟨unK_exit⟩
instance {c : MCode} {n : Nat} : ZR (unK P w0 S N D c Q n .normal s) (LoopOk P w0 S N D c Q n s) := ⟨unK_normal⟩
instance {c : MCode} {n : Nat} : ZR (LoopOk P w0 S N D c Q (n + 1) s) (Wm P w0 S N D c s (unK P w0 S N D c Q n)) := ⟨loopOk_succ⟩
end
abbrev zI := @blockK_exit
abbrev zJ := @Wm_cond

/-- What a region keeps; that its temporaries fit. -/
class KR (N : Nat) (mos : List MO) where
  ks : List Nat
  ok : fits N mos = true
class KD (N : Nat) (mos : List MO) (pr : List (List Nat)) where
  cl : List (List Nat)
  ks : List Nat
  ok : drawOk N mos pr cl = true
abbrev Ma (d : Nat) (o : MOp) : MO := MO.mk (some d) o none
abbrev Mb (o : MOp) : MO := MO.mk none o none
abbrev Mg (d : Nat) (o : MOp) (s : Nat) (b : Bool) : MO := MO.mk (some d) o (some (s, b))
section
variable {P : Program} {E : FuncId → Option Spec} {w0 : World} {S : Sc} {N : Nat} {D : List Deferred} {s : St} {Q : Exit → St → Prop}
theorem zK (hE : SoundAll P E) {mos : List MO} [k : KR N mos] (h : ∀ K : List (Nat × AV) → List (Nat × NObj) → Prop, (∀ tl hl, Q .normal ⟨tl, hl, s.nb + 8 * mos.length⟩ → K tl hl) → ecC E s.nb (fun tl hl => K (keepL k.ks tl) (prune [] hl)) mos 0 s.tl s.hl) : Wm P w0 S N D (.reg mos) s Q :=
  wregX hE [(mos, k.ks)] k.ok (by simp) h
theorem zL (hE : SoundAll P E) (hmix : P.follows .mixedOrders = true) {mos : List MO} {pr : List (List Nat)} [k : KD N mos pr] (h : ∀ K : List (Nat × AV) → List (Nat × NObj) → Prop, (∀ tl hl, Q .normal ⟨tl, hl, s.nb + 8 * mos.length⟩ → K tl hl) → Holds (evOps E s.nb mos 0 s.tl s.hl []) fun x => dynB (prOf k.cl) x.2.2 = true ∧ K (keepL k.ks x.1) (prune [] x.2.1)) : Wm P w0 S N D (.draw mos pr) s Q :=
  wdraw hE hmix k.cl k.ks k.ok h
end
end Go.W
