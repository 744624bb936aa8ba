/-
  No cell of these rows narrows 'for every input' (looked for: loops, veiled, ifaces, maps, wideKeys, modest, calm, conditions, laid).
  DERIVED. THE GIVEN ROWS OF THIS SEAT. 6 by the template 'for every input the law returns true; each argument reads behind the call as it read before'; 0 by the template 'total and deterministic' (their statements: YtidbbnkpglggdaaTotals.lean).
  GIVEN WITH THE SEED: the statements are not yours to turn. If you find one false, say at which input.
  Laid BY PROGRAM, IN A SANDBOX (cutbox-rows.mjs): the forced cells as the released guide's own fill.sh prints them over the translation 0f80a0c761e81e16… (all of the seat's roots in one cut). By AI agents, Wed Nov 11 2026. No macro, syntax, notation, axiom, sorry.
-/
import Derived.Test.YtidbbnkpglggdaaChecked
import GoSem.Claim
import GoSem.ClaimJoined
import GoSem.ClaimMapViews
import Derived.JoinedTies
import Derived.KernelRfl
namespace Go.Proofs.Ytidbbnkpglggdaa
/- THE CELL 'sum', in the pinned program and in every row, IS THE sha256 OF THE DUMP (.gsa) THAT YtidbbnkpglggdaaProg.lean LOADS. Nothing in Lean hashes anything: it is a label: what it is worth is what the hold of that sum in a sandbox is worth. -/
noncomputable def Try.pinned : Pinned := { name := "ytidbbnkpglggdaa", sum := "0f80a0c761e81e16b20dbca19ebdaf27a0acefe57c0955072f71516415452314", checked := Try.checked }
namespace Rows
def none {H : Type} : Left H := { results := [], args := [] }

/-- 'gloaminglaw10.PairOne': WHATEVER THE INPUT: true; the input reads as it did. -/
def pairOneSpec : ChangeSpec := { name := "pairOne", fn := fun _ => fun
  | [d1, d2] => { results := [.lit (.bool true)], args := [d1, d2] }
  | _ => none }
def pairOneRow : OpenClaim := { program := "ytidbbnkpglggdaa", sum := "0f80a0c761e81e16b20dbca19ebdaf27a0acefe57c0955072f71516415452314", func := "gloaming/gloaminglaw10.PairOne", spec := "pairOne", apart := false }
def PairOneSaid : Prop := pairOneRow.holds Try.pinned (OpenSpec.ofChange pairOneSpec)

/-- ITS FALSE NEIGHBOUR: 'it returns false'. Refute it at one input. -/
def pairOneWrong : ChangeSpec := { name := "pairOne", fn := fun _ => fun
  | [d1, d2] => { results := [.lit (.bool false)], args := [d1, d2] }
  | _ => none }
def PairOneWrongFalsely : Prop := pairOneRow.holds Try.pinned (OpenSpec.ofChange pairOneWrong)

/-- 'gloaminglaw10.PairAlone': WHATEVER THE INPUT: true; the input reads as it did. -/
def pairAloneSpec : ChangeSpec := { name := "pairAlone", fn := fun _ => fun
  | [d1, d2, d3, d4, d5] => { results := [.lit (.bool true)], args := [d1, d2, d3, d4, d5] }
  | _ => none }
def pairAloneRow : OpenClaim := { program := "ytidbbnkpglggdaa", sum := "0f80a0c761e81e16b20dbca19ebdaf27a0acefe57c0955072f71516415452314", func := "gloaming/gloaminglaw10.PairAlone", spec := "pairAlone", apart := false }
def PairAloneSaid : Prop := pairAloneRow.holds Try.pinned (OpenSpec.ofChange pairAloneSpec)

/-- ITS FALSE NEIGHBOUR: 'it returns false'. Refute it at one input. -/
def pairAloneWrong : ChangeSpec := { name := "pairAlone", fn := fun _ => fun
  | [d1, d2, d3, d4, d5] => { results := [.lit (.bool false)], args := [d1, d2, d3, d4, d5] }
  | _ => none }
def PairAloneWrongFalsely : Prop := pairAloneRow.holds Try.pinned (OpenSpec.ofChange pairAloneWrong)

/-- 'gloaminglaw10.PairSteps': WHATEVER THE INPUT: true; the input reads as it did. -/
def pairStepsSpec : ChangeSpec := { name := "pairSteps", fn := fun _ => fun
  | [d1, d2, d3, d4] => { results := [.lit (.bool true)], args := [d1, d2, d3, d4] }
  | _ => none }
def pairStepsRow : OpenClaim := { program := "ytidbbnkpglggdaa", sum := "0f80a0c761e81e16b20dbca19ebdaf27a0acefe57c0955072f71516415452314", func := "gloaming/gloaminglaw10.PairSteps", spec := "pairSteps", apart := false }
def PairStepsSaid : Prop := pairStepsRow.holds Try.pinned (OpenSpec.ofChange pairStepsSpec)

/-- ITS FALSE NEIGHBOUR: 'it returns false'. Refute it at one input. -/
def pairStepsWrong : ChangeSpec := { name := "pairSteps", fn := fun _ => fun
  | [d1, d2, d3, d4] => { results := [.lit (.bool false)], args := [d1, d2, d3, d4] }
  | _ => none }
def PairStepsWrongFalsely : Prop := pairStepsRow.holds Try.pinned (OpenSpec.ofChange pairStepsWrong)

/-- 'gloaminglaw10.PairSums': WHATEVER THE INPUT: true; the input reads as it did. -/
def pairSumsSpec : ChangeSpec := { name := "pairSums", fn := fun _ => fun
  | [d1, d2, d3, d4] => { results := [.lit (.bool true)], args := [d1, d2, d3, d4] }
  | _ => none }
def pairSumsRow : OpenClaim := { program := "ytidbbnkpglggdaa", sum := "0f80a0c761e81e16b20dbca19ebdaf27a0acefe57c0955072f71516415452314", func := "gloaming/gloaminglaw10.PairSums", spec := "pairSums", apart := false }
def PairSumsSaid : Prop := pairSumsRow.holds Try.pinned (OpenSpec.ofChange pairSumsSpec)

/-- ITS FALSE NEIGHBOUR: 'it returns false'. Refute it at one input. -/
def pairSumsWrong : ChangeSpec := { name := "pairSums", fn := fun _ => fun
  | [d1, d2, d3, d4] => { results := [.lit (.bool false)], args := [d1, d2, d3, d4] }
  | _ => none }
def PairSumsWrongFalsely : Prop := pairSumsRow.holds Try.pinned (OpenSpec.ofChange pairSumsWrong)

/-- 'gloaminglaw12.BroomNil': WHATEVER THE INPUT: true; the input reads as it did. -/
def broomNilSpec : ChangeSpec := { name := "broomNil", fn := fun _ => fun
  | [d] => { results := [.lit (.bool true)], args := [d] }
  | _ => none }
def broomNilRow : OpenClaim := { program := "ytidbbnkpglggdaa", sum := "0f80a0c761e81e16b20dbca19ebdaf27a0acefe57c0955072f71516415452314", func := "gloaming/gloaminglaw12.BroomNil", spec := "broomNil", apart := false }
def BroomNilSaid : Prop := broomNilRow.holds Try.pinned (OpenSpec.ofChange broomNilSpec)

/-- ITS FALSE NEIGHBOUR: 'it returns false'. Refute it at one input. -/
def broomNilWrong : ChangeSpec := { name := "broomNil", fn := fun _ => fun
  | [d] => { results := [.lit (.bool false)], args := [d] }
  | _ => none }
def BroomNilWrongFalsely : Prop := broomNilRow.holds Try.pinned (OpenSpec.ofChange broomNilWrong)

/-- 'gloaminglaw12.BroomClears': WHATEVER THE INPUT: true; the input reads as it did. -/
def broomClearsSpec : ChangeSpec := { name := "broomClears", fn := fun _ => fun
  | [d1, d2, d3] => { results := [.lit (.bool true)], args := [d1, d2, d3] }
  | _ => none }
def broomClearsRow : OpenClaim := { program := "ytidbbnkpglggdaa", sum := "0f80a0c761e81e16b20dbca19ebdaf27a0acefe57c0955072f71516415452314", func := "gloaming/gloaminglaw12.BroomClears", spec := "broomClears", apart := false }
def BroomClearsSaid : Prop := broomClearsRow.holds Try.pinned (OpenSpec.ofChange broomClearsSpec)

/-- ITS FALSE NEIGHBOUR: 'it returns false'. Refute it at one input. -/
def broomClearsWrong : ChangeSpec := { name := "broomClears", fn := fun _ => fun
  | [d1, d2, d3] => { results := [.lit (.bool false)], args := [d1, d2, d3] }
  | _ => none }
def BroomClearsWrongFalsely : Prop := broomClearsRow.holds Try.pinned (OpenSpec.ofChange broomClearsWrong)

/- THE SECOND FORM. 'bulk': how many values and letters a reading holds, each counted each time it is reached (what is shared counts as often as it is met; a slice's spare places count too). A statement '..UptoSaid' is the law's where the arguments, and the package variables that the reading takes, are together of bulk at most 1048576: NARROWER than '..Said'. Prove '..Said' where nothing that the law and all that it calls make is longer than what came in: it says more and counts as full. Else prove '..UptoSaid'. A law counts once. -/
mutual
def uptoBulk {H : Type} : DataW H → Nat
  | .lit (.string bytes) => bytes.length + 1
  | .lit _ => 1
  | .nil => 1
  | .ptr d => uptoBulk d + 1
  | .slice elems spare => uptoBulkAll elems + uptoBulkAll spare + 1
  | .agg parts => uptoBulkAll parts + 1
  | .iface _ d => uptoBulk d + 1
  | .map entries => uptoBulkEntries entries + 1
  | .held _ => 1
def uptoBulkAll {H : Type} : List (DataW H) → Nat
  | [] => 0
  | d :: r => uptoBulk d + uptoBulkAll r
def uptoBulkEntries {H : Type} : List (Lit × DataW H) → Nat
  | [] => 0
  | x :: r => uptoBulkEntry x + uptoBulkEntries r
def uptoBulkEntry {H : Type} : Lit × DataW H → Nat
  | (.string bytes, d) => bytes.length + uptoBulk d + 1
  | (_, d) => uptoBulk d + 1
 end
def uptoSmall : (H : Type) → List (DataW H) → Bool := fun _ ds => decide (uptoBulkAll ds ≤ 1048576)
def OpenSpec.upto (s : _root_.Go.ChangeSpec) : _root_.Go.OpenSpec := { _root_.Go.OpenSpec.ofChange s with cond := some uptoSmall }

/-- 'gloaminglaw10.PairOne', WHERE WHAT IT READS IS OF BULK AT MOST 1048576: true; the input reads as it did. -/
def pairOneUptoRow : OpenClaim := { program := "ytidbbnkpglggdaa", sum := "0f80a0c761e81e16b20dbca19ebdaf27a0acefe57c0955072f71516415452314", func := "gloaming/gloaminglaw10.PairOne", spec := "pairOne", apart := false, narrowed := true }
def PairOneUptoSaid : Prop := pairOneUptoRow.holds Try.pinned (OpenSpec.upto pairOneSpec)

/-- 'gloaminglaw10.PairAlone', WHERE WHAT IT READS IS OF BULK AT MOST 1048576: true; the input reads as it did. -/
def pairAloneUptoRow : OpenClaim := { program := "ytidbbnkpglggdaa", sum := "0f80a0c761e81e16b20dbca19ebdaf27a0acefe57c0955072f71516415452314", func := "gloaming/gloaminglaw10.PairAlone", spec := "pairAlone", apart := false, narrowed := true }
def PairAloneUptoSaid : Prop := pairAloneUptoRow.holds Try.pinned (OpenSpec.upto pairAloneSpec)

/-- 'gloaminglaw10.PairSteps', WHERE WHAT IT READS IS OF BULK AT MOST 1048576: true; the input reads as it did. -/
def pairStepsUptoRow : OpenClaim := { program := "ytidbbnkpglggdaa", sum := "0f80a0c761e81e16b20dbca19ebdaf27a0acefe57c0955072f71516415452314", func := "gloaming/gloaminglaw10.PairSteps", spec := "pairSteps", apart := false, narrowed := true }
def PairStepsUptoSaid : Prop := pairStepsUptoRow.holds Try.pinned (OpenSpec.upto pairStepsSpec)

/-- 'gloaminglaw10.PairSums', WHERE WHAT IT READS IS OF BULK AT MOST 1048576: true; the input reads as it did. -/
def pairSumsUptoRow : OpenClaim := { program := "ytidbbnkpglggdaa", sum := "0f80a0c761e81e16b20dbca19ebdaf27a0acefe57c0955072f71516415452314", func := "gloaming/gloaminglaw10.PairSums", spec := "pairSums", apart := false, narrowed := true }
def PairSumsUptoSaid : Prop := pairSumsUptoRow.holds Try.pinned (OpenSpec.upto pairSumsSpec)

/-- 'gloaminglaw12.BroomNil', WHERE WHAT IT READS IS OF BULK AT MOST 1048576: true; the input reads as it did. -/
def broomNilUptoRow : OpenClaim := { program := "ytidbbnkpglggdaa", sum := "0f80a0c761e81e16b20dbca19ebdaf27a0acefe57c0955072f71516415452314", func := "gloaming/gloaminglaw12.BroomNil", spec := "broomNil", apart := false, narrowed := true }
def BroomNilUptoSaid : Prop := broomNilUptoRow.holds Try.pinned (OpenSpec.upto broomNilSpec)

/-- 'gloaminglaw12.BroomClears', WHERE WHAT IT READS IS OF BULK AT MOST 1048576: true; the input reads as it did. -/
def broomClearsUptoRow : OpenClaim := { program := "ytidbbnkpglggdaa", sum := "0f80a0c761e81e16b20dbca19ebdaf27a0acefe57c0955072f71516415452314", func := "gloaming/gloaminglaw12.BroomClears", spec := "broomClears", apart := false, narrowed := true }
def BroomClearsUptoSaid : Prop := broomClearsUptoRow.holds Try.pinned (OpenSpec.upto broomClearsSpec)

end Rows
end Go.Proofs.Ytidbbnkpglggdaa
