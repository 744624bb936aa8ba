/- From a specification of trees to a statement's call. -/
import Derived.Test.YtmbploeikjangaaGreatWZ
import Derived.ProofKit
import Derived.OpenShut
import Derived.Lib.SmallJoins
set_option linter.unusedSimpArgs false
set_option linter.unusedVariables false
namespace Go.W
open Go.ChangeShapes Go.WideShapes Go.ChangeAt Go.RowKit Go.Joins Go.Deep

def noSc : Sc := ⟨fun _ => False, 0, fun _ => nilLoc⟩

theorem HCore.below {w0 : World} {ρ : Env} {H : Nm → AObj} {w : World} (h : HCore w0 noSc ρ H w) : Below w0.heap.size w0 w :=
  ⟨h.os, h.tape, h.output, h.size, fun k hk => h.frame k hk fun hf => hf⟩

theorem HF_none (x : Nm) : HF (fun _ => .free) x = .free := by
  have : ∀ x : Nm, getP (fun _ => .free) x = .free := by
    intro x
    induction x with
    | top n => rfl
    | sub p t j f ih => simp only [getP, ih]; simp [kid, elemN]
  exact HF_free.2 (this x)

theorem nest_bool {P : Program} {f : FuncId} {d : List AV → Option Ans} {ok : NOk [] d} (hs : Sound P f (nestS [] d ok)) {avs : List AV} {vs : List Value} {b : Bool} (hcl : cloL (fun _ => .free) avs [] = some (avs, [], [])) (h : d avs = some ⟨.bool b, []⟩) (hrep : ∀ ρ, RepL ρ avs vs) (W : World) :
    Calls P f vs.toArray W fun e W' => e = .returned (.bool b) ∧ Below W.heap.size W W' := by
  have := hs.calls W noSc (fun _ => True) (fun _ => True) (fun _ => .free) W avs vs 0 ⟨.bool b, afterL (fun _ => .free) 0 [] (oA [] avs) (uR [] avs ⟨.bool b, []⟩) (nR [] avs ⟨.bool b, []⟩), mlRoots [], 8⟩ ⟨fun _ => nilLoc, trivial⟩ (fun _ _ _ _ => trivial) (fun x _ => HF_none x) (fun _ _ _ _ x hx => absurd (HF_none x) hx)
    (fun ρ _ => ⟨rfl, rfl, rfl, Nat.le_refl _, fun _ _ _ => rfl, fun x => by rw [HF_none]; trivial, fun x hx => by rw [HF_none] at hx; exact hx.elim, fun x y hx => by rw [HF_none] at hx; exact hx.elim, fun x hx => by rw [HF_none] at hx; exact hx.elim, fun x hx => absurd hx (Nat.not_lt_zero x)⟩) (fun ρ _ => hrep ρ)
    (by show nestF [] d avs _ 0 = _
        simp only [nestF, hcl, namesB, apartB, h, and_self, if_true, lR, layN, backV]) (fun _ _ => trivial)
  refine this.1.mono fun e W' ⟨v, g, he, hv⟩ => ?_
  obtain ⟨h1, h2⟩ := hv g trivial (fun _ _ => rfl)
  simp only [Rep] at h1
  subst h1
  exact ⟨he, h2.below⟩

/-- A struct of integers by value. -/
theorem open_off {H : Type} {enc : TypeId × Value → H} {P : Program} {w : World} {base : Nat} {spare : Nat → Bool} {held : Bool} {r : Reach} {b0 : Nat} {t : TypeId} {fs : Array Field} {v : Value} {d : DataW H} {p : List MemPlace} (hs : P.underlying t = some (.struct fs)) (hone : oneCellFields P fs = true) (hC : P.cellsOf t = fs.size)
    {m : Nat} (hint : fs.toList.map (fun f => P.underlying f.type) = List.replicate m (some (.int .i64))) (hv : Value.okWide P w r b0 t v) (h : DataW.Trod enc P w base spare held t v d p) :
    ∃ ns : List Int, v = .agg (ns.map (Value.int .i64)).toArray ∧ ns.length = fs.size ∧ ∀ n ∈ ns, (Lit.int .i64 n).wf = true := by
  obtain ⟨cs, rfl, hsz⟩ := okWide_struct hs hv
  obtain ⟨fuel, hf⟩ := h
  obtain ⟨xs, mm, _, hx, _, hlen, hg⟩ := DataW.trod_struct hs hf
  have each : ∀ j (hj : j < cs.toList.length), ∃ n : Int, cs.toList[j] = .int .i64 n ∧ (Lit.int .i64 n).wf = true := fun j hj => by
    have hjf : j < fs.size := by rw [← hC, ← hsz]; simpa using hj
    have hfj : fs[j]? = some fs[j] := Array.getElem?_eq_getElem hjf
    obtain ⟨o0, k0⟩ := hone_of hone j fs[j] hfj
    have h1 := hg j fs[j] hfj
    rw [o0, k0] at h1
    have hc : ((Value.agg cs).cells.toList.drop j).take 1 = [cs.toList[j]] := by
      show (cs.toList.drop j).take 1 = _
      rw [List.drop_eq_getElem_cons hj]; rfl
    rw [hc] at h1
    have hxs : j < xs.length := by rw [hlen]; exact hjf
    rw [List.getElem?_eq_getElem hxs] at h1
    have hu : P.underlying fs[j].type = some (.int .i64) := by
      have h2 : (fs.toList.map (fun f => P.underlying f.type))[j]? = some (P.underlying fs[j].type) := by simp [hjf]
      rw [hint, List.getElem?_replicate] at h2
      split at h2
      · simpa using h2.symm
      · cases h2
    obtain ⟨n, e0, _, wx⟩ := DataW.trod_int hu h1
    simp at e0
    exact ⟨n, e0, wx⟩
  have hall : ∀ (l : List Value), (∀ j (hj : j < l.length), ∃ n : Int, l[j] = .int .i64 n ∧ (Lit.int .i64 n).wf = true) → ∃ ns : List Int, l = ns.map (Value.int .i64) ∧ ∀ n ∈ ns, (Lit.int .i64 n).wf = true := by
    intro l
    induction l with
    | nil => intro _; exact ⟨[], rfl, by simp⟩
    | cons a l ih =>
      intro h
      obtain ⟨n, h1, h2⟩ := h 0 (by simp)
      obtain ⟨ns, h3, h4⟩ := ih fun j hj => by have := h (j + 1) (by simpa using hj); simpa only [List.getElem_cons_succ] using this
      refine ⟨n :: ns, ?_, ?_⟩
      · simp at h1; simp [h1, h3]
      · intro x hx; rcases List.mem_cons.1 hx with rfl | hx
        · exact h2
        · exact h4 x hx
  obtain ⟨ns, h1, h2⟩ := hall cs.toList each
  refine ⟨ns, by rw [← h1], ?_, h2⟩
  have := congrArg List.length h1
  simp at this
  rw [← this, hsz, hC]

end Go.W
