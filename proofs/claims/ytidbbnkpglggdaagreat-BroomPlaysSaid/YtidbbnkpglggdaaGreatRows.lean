/-
  No cell of these rows narrows 'for every input' (looked for: loops, veiled, ifaces, maps, wideKeys, modest, calm, conditions, laid).
  DERIVED. THE GIVEN ROWS OF THIS SEAT. 2 by the template 'for every input the law returns true; each argument reads behind the call as it read before'; 0 by the template 'total and deterministic' (their statements: YtidbbnkpglggdaaGreatTotals.lean).
  GIVEN WITH THE SEED: the statements are not yours to turn. If you find one false, say at which input.
  Laid BY PROGRAM, IN A SANDBOX (cutbox-rows.mjs): the forced cells as the released guide's own fill.sh prints them over the translation c0ce358e07d9b1aa… (all of the seat's roots in one cut). By AI agents, Wed Nov 11 2026. No macro, syntax, notation, axiom, sorry.
-/
import Derived.Test.YtidbbnkpglggdaaGreatChecked
import GoSem.Claim
import GoSem.ClaimJoined
import GoSem.ClaimMapViews
import Derived.JoinedTies
import Derived.KernelRfl
namespace Go.Proofs.YtidbbnkpglggdaaGreat
/- THE CELL 'sum', in the pinned program and in every row, IS THE sha256 OF THE DUMP (.gsa) THAT YtidbbnkpglggdaaGreatProg.lean LOADS. Nothing in Lean hashes anything: it is a label: what it is worth is what the hold of that sum in a sandbox is worth. -/
noncomputable def Tryz.pinned : Pinned := { name := "ytidbbnkpglggdaagreat", sum := "c0ce358e07d9b1aad6b910a5307dd29ff97281d1e324b357d41267e9d6350a61", checked := Tryz.checked }
namespace Rows
def none {H : Type} : Left H := { results := [], args := [] }

/-- 'gloaminglaw10.PairPlays': WHATEVER THE INPUT: true; the input reads as it did. -/
def pairPlaysSpec : ChangeSpec := { name := "pairPlays", fn := fun _ => fun
  | [d1, d2, d3, d4] => { results := [.lit (.bool true)], args := [d1, d2, d3, d4] }
  | _ => none }
def pairPlaysRow : OpenClaim := { program := "ytidbbnkpglggdaagreat", sum := "c0ce358e07d9b1aad6b910a5307dd29ff97281d1e324b357d41267e9d6350a61", func := "gloaming/gloaminglaw10.PairPlays", spec := "pairPlays", apart := false }
def PairPlaysSaid : Prop := pairPlaysRow.holds Tryz.pinned (OpenSpec.ofChange pairPlaysSpec)

/-- ITS FALSE NEIGHBOUR: 'it returns false'. Refute it at one input. -/
def pairPlaysWrong : ChangeSpec := { name := "pairPlays", fn := fun _ => fun
  | [d1, d2, d3, d4] => { results := [.lit (.bool false)], args := [d1, d2, d3, d4] }
  | _ => none }
def PairPlaysWrongFalsely : Prop := pairPlaysRow.holds Tryz.pinned (OpenSpec.ofChange pairPlaysWrong)

/-- 'gloaminglaw12.BroomPlays': WHATEVER THE INPUT: true; the input reads as it did. -/
def broomPlaysSpec : ChangeSpec := { name := "broomPlays", fn := fun _ => fun
  | [d1, d2, d3] => { results := [.lit (.bool true)], args := [d1, d2, d3] }
  | _ => none }
def broomPlaysRow : OpenClaim := { program := "ytidbbnkpglggdaagreat", sum := "c0ce358e07d9b1aad6b910a5307dd29ff97281d1e324b357d41267e9d6350a61", func := "gloaming/gloaminglaw12.BroomPlays", spec := "broomPlays", apart := false }
def BroomPlaysSaid : Prop := broomPlaysRow.holds Tryz.pinned (OpenSpec.ofChange broomPlaysSpec)

/-- ITS FALSE NEIGHBOUR: 'it returns false'. Refute it at one input. -/
def broomPlaysWrong : ChangeSpec := { name := "broomPlays", fn := fun _ => fun
  | [d1, d2, d3] => { results := [.lit (.bool false)], args := [d1, d2, d3] }
  | _ => none }
def BroomPlaysWrongFalsely : Prop := broomPlaysRow.holds Tryz.pinned (OpenSpec.ofChange broomPlaysWrong)

/- THE SECOND FORM. 'bulk': how many values and letters a reading holds, each counted each time it is reached (what is shared counts as often as it is met; a slice's spare places count too). A statement '..UptoSaid' is the law's where the arguments, and the package variables that the reading takes, are together of bulk at most 1048576: NARROWER than '..Said'. Prove '..Said' where nothing that the law and all that it calls make is longer than what came in: it says more and counts as full. Else prove '..UptoSaid'. A law counts once. -/
mutual
def uptoBulk {H : Type} : DataW H → Nat
  | .lit (.string bytes) => bytes.length + 1
  | .lit _ => 1
  | .nil => 1
  | .ptr d => uptoBulk d + 1
  | .slice elems spare => uptoBulkAll elems + uptoBulkAll spare + 1
  | .agg parts => uptoBulkAll parts + 1
  | .iface _ d => uptoBulk d + 1
  | .map entries => uptoBulkEntries entries + 1
  | .held _ => 1
def uptoBulkAll {H : Type} : List (DataW H) → Nat
  | [] => 0
  | d :: r => uptoBulk d + uptoBulkAll r
def uptoBulkEntries {H : Type} : List (Lit × DataW H) → Nat
  | [] => 0
  | x :: r => uptoBulkEntry x + uptoBulkEntries r
def uptoBulkEntry {H : Type} : Lit × DataW H → Nat
  | (.string bytes, d) => bytes.length + uptoBulk d + 1
  | (_, d) => uptoBulk d + 1
 end
def uptoSmall : (H : Type) → List (DataW H) → Bool := fun _ ds => decide (uptoBulkAll ds ≤ 1048576)
def OpenSpec.upto (s : _root_.Go.ChangeSpec) : _root_.Go.OpenSpec := { _root_.Go.OpenSpec.ofChange s with cond := some uptoSmall }

/-- 'gloaminglaw10.PairPlays', WHERE WHAT IT READS IS OF BULK AT MOST 1048576: true; the input reads as it did. -/
def pairPlaysUptoRow : OpenClaim := { program := "ytidbbnkpglggdaagreat", sum := "c0ce358e07d9b1aad6b910a5307dd29ff97281d1e324b357d41267e9d6350a61", func := "gloaming/gloaminglaw10.PairPlays", spec := "pairPlays", apart := false, narrowed := true }
def PairPlaysUptoSaid : Prop := pairPlaysUptoRow.holds Tryz.pinned (OpenSpec.upto pairPlaysSpec)

/-- 'gloaminglaw12.BroomPlays', WHERE WHAT IT READS IS OF BULK AT MOST 1048576: true; the input reads as it did. -/
def broomPlaysUptoRow : OpenClaim := { program := "ytidbbnkpglggdaagreat", sum := "c0ce358e07d9b1aad6b910a5307dd29ff97281d1e324b357d41267e9d6350a61", func := "gloaming/gloaminglaw12.BroomPlays", spec := "broomPlays", apart := false, narrowed := true }
def BroomPlaysUptoSaid : Prop := broomPlaysUptoRow.holds Tryz.pinned (OpenSpec.upto broomPlaysSpec)

end Rows
end Go.Proofs.YtidbbnkpglggdaaGreat
