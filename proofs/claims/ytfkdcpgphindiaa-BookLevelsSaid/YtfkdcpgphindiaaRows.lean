/-
  No cell of these rows narrows 'for every input' (looked for: loops, veiled, ifaces, maps, wideKeys, modest, calm, conditions, laid).
  DERIVED. THE GIVEN ROWS OF THIS SEAT. 3 by the template 'for every input the law returns true; each argument reads behind the call as it read before'; 0 by the template 'total and deterministic' (their statements: YtfkdcpgphindiaaTotals.lean).
  GIVEN WITH THE SEED: the statements are not yours to turn. If you find one false, say at which input.
  Laid BY PROGRAM, IN A SANDBOX (cutbox-rows.mjs): the forced cells as the released guide's own fill.sh prints them over the translation 9355d0b4cbe38bda… (all of the seat's roots in one cut). By AI agents, Wed Nov 11 2026. No macro, syntax, notation, axiom, sorry.
-/
import Derived.Test.YtfkdcpgphindiaaChecked
import GoSem.Claim
import GoSem.ClaimJoined
import GoSem.ClaimMapViews
import Derived.JoinedTies
import Derived.KernelRfl
namespace Go.Proofs.Ytfkdcpgphindiaa
/- THE CELL 'sum', in the pinned program and in every row, IS THE sha256 OF THE DUMP (.gsa) THAT YtfkdcpgphindiaaProg.lean LOADS. Nothing in Lean hashes anything: it is a label: what it is worth is what the hold of that sum in a sandbox is worth. -/
noncomputable def Try.pinned : Pinned := { name := "ytfkdcpgphindiaa", sum := "9355d0b4cbe38bdad959c1620c4a6feb9b5ee6d924b1a30294704cce7fe1b575", checked := Try.checked }
namespace Rows
def none {H : Type} : Left H := { results := [], args := [] }

/-- 'gloaminglaw20.BookSums': WHATEVER THE INPUT: true; the input reads as it did. -/
def bookSumsSpec : ChangeSpec := { name := "bookSums", fn := fun _ => fun
  | [d1, d2, d3] => { results := [.lit (.bool true)], args := [d1, d2, d3] }
  | _ => none }
def bookSumsRow : OpenClaim := { program := "ytfkdcpgphindiaa", sum := "9355d0b4cbe38bdad959c1620c4a6feb9b5ee6d924b1a30294704cce7fe1b575", func := "gloaming/gloaminglaw20.BookSums", spec := "bookSums", unfollowed := true, recurses := true, apart := false }
def BookSumsSaid : Prop := bookSumsRow.holds Try.pinned (OpenSpec.ofChange bookSumsSpec)

/-- ITS FALSE NEIGHBOUR: 'it returns false'. Refute it at one input. -/
def bookSumsWrong : ChangeSpec := { name := "bookSums", fn := fun _ => fun
  | [d1, d2, d3] => { results := [.lit (.bool false)], args := [d1, d2, d3] }
  | _ => none }
def BookSumsWrongFalsely : Prop := bookSumsRow.holds Try.pinned (OpenSpec.ofChange bookSumsWrong)

/-- 'gloaminglaw20.BookLevels': WHATEVER THE INPUT: true; the input reads as it did. -/
def bookLevelsSpec : ChangeSpec := { name := "bookLevels", fn := fun _ => fun
  | [d1, d2, d3, d4, d5] => { results := [.lit (.bool true)], args := [d1, d2, d3, d4, d5] }
  | _ => none }
def bookLevelsRow : OpenClaim := { program := "ytfkdcpgphindiaa", sum := "9355d0b4cbe38bdad959c1620c4a6feb9b5ee6d924b1a30294704cce7fe1b575", func := "gloaming/gloaminglaw20.BookLevels", spec := "bookLevels", unfollowed := true, recurses := true, apart := false }
def BookLevelsSaid : Prop := bookLevelsRow.holds Try.pinned (OpenSpec.ofChange bookLevelsSpec)

/-- ITS FALSE NEIGHBOUR: 'it returns false'. Refute it at one input. -/
def bookLevelsWrong : ChangeSpec := { name := "bookLevels", fn := fun _ => fun
  | [d1, d2, d3, d4, d5] => { results := [.lit (.bool false)], args := [d1, d2, d3, d4, d5] }
  | _ => none }
def BookLevelsWrongFalsely : Prop := bookLevelsRow.holds Try.pinned (OpenSpec.ofChange bookLevelsWrong)

/-- 'gloaminglaw20.BookReach': WHATEVER THE INPUT: true; the input reads as it did. -/
def bookReachSpec : ChangeSpec := { name := "bookReach", fn := fun _ => fun
  | [d1, d2, d3, d4, d5] => { results := [.lit (.bool true)], args := [d1, d2, d3, d4, d5] }
  | _ => none }
def bookReachRow : OpenClaim := { program := "ytfkdcpgphindiaa", sum := "9355d0b4cbe38bdad959c1620c4a6feb9b5ee6d924b1a30294704cce7fe1b575", func := "gloaming/gloaminglaw20.BookReach", spec := "bookReach", unfollowed := true, recurses := true, apart := false }
def BookReachSaid : Prop := bookReachRow.holds Try.pinned (OpenSpec.ofChange bookReachSpec)

/-- ITS FALSE NEIGHBOUR: 'it returns false'. Refute it at one input. -/
def bookReachWrong : ChangeSpec := { name := "bookReach", fn := fun _ => fun
  | [d1, d2, d3, d4, d5] => { results := [.lit (.bool false)], args := [d1, d2, d3, d4, d5] }
  | _ => none }
def BookReachWrongFalsely : Prop := bookReachRow.holds Try.pinned (OpenSpec.ofChange bookReachWrong)

/- THE SECOND FORM. 'bulk': how many values and letters a reading holds, each counted each time it is reached (what is shared counts as often as it is met; a slice's spare places count too). A statement '..UptoSaid' is the law's where the arguments, and the package variables that the reading takes, are together of bulk at most 1048576: NARROWER than '..Said'. Prove '..Said' where nothing that the law and all that it calls make is longer than what came in: it says more and counts as full. Else prove '..UptoSaid'. A law counts once. -/
mutual
def uptoBulk {H : Type} : DataW H → Nat
  | .lit (.string bytes) => bytes.length + 1
  | .lit _ => 1
  | .nil => 1
  | .ptr d => uptoBulk d + 1
  | .slice elems spare => uptoBulkAll elems + uptoBulkAll spare + 1
  | .agg parts => uptoBulkAll parts + 1
  | .iface _ d => uptoBulk d + 1
  | .map entries => uptoBulkEntries entries + 1
  | .held _ => 1
def uptoBulkAll {H : Type} : List (DataW H) → Nat
  | [] => 0
  | d :: r => uptoBulk d + uptoBulkAll r
def uptoBulkEntries {H : Type} : List (Lit × DataW H) → Nat
  | [] => 0
  | x :: r => uptoBulkEntry x + uptoBulkEntries r
def uptoBulkEntry {H : Type} : Lit × DataW H → Nat
  | (.string bytes, d) => bytes.length + uptoBulk d + 1
  | (_, d) => uptoBulk d + 1
 end
def uptoSmall : (H : Type) → List (DataW H) → Bool := fun _ ds => decide (uptoBulkAll ds ≤ 1048576)
def OpenSpec.upto (s : _root_.Go.ChangeSpec) : _root_.Go.OpenSpec := { _root_.Go.OpenSpec.ofChange s with cond := some uptoSmall }

/-- 'gloaminglaw20.BookSums', WHERE WHAT IT READS IS OF BULK AT MOST 1048576: true; the input reads as it did. -/
def bookSumsUptoRow : OpenClaim := { program := "ytfkdcpgphindiaa", sum := "9355d0b4cbe38bdad959c1620c4a6feb9b5ee6d924b1a30294704cce7fe1b575", func := "gloaming/gloaminglaw20.BookSums", spec := "bookSums", unfollowed := true, recurses := true, apart := false, narrowed := true }
def BookSumsUptoSaid : Prop := bookSumsUptoRow.holds Try.pinned (OpenSpec.upto bookSumsSpec)

/-- 'gloaminglaw20.BookLevels', WHERE WHAT IT READS IS OF BULK AT MOST 1048576: true; the input reads as it did. -/
def bookLevelsUptoRow : OpenClaim := { program := "ytfkdcpgphindiaa", sum := "9355d0b4cbe38bdad959c1620c4a6feb9b5ee6d924b1a30294704cce7fe1b575", func := "gloaming/gloaminglaw20.BookLevels", spec := "bookLevels", unfollowed := true, recurses := true, apart := false, narrowed := true }
def BookLevelsUptoSaid : Prop := bookLevelsUptoRow.holds Try.pinned (OpenSpec.upto bookLevelsSpec)

/-- 'gloaminglaw20.BookReach', WHERE WHAT IT READS IS OF BULK AT MOST 1048576: true; the input reads as it did. -/
def bookReachUptoRow : OpenClaim := { program := "ytfkdcpgphindiaa", sum := "9355d0b4cbe38bdad959c1620c4a6feb9b5ee6d924b1a30294704cce7fe1b575", func := "gloaming/gloaminglaw20.BookReach", spec := "bookReach", unfollowed := true, recurses := true, apart := false, narrowed := true }
def BookReachUptoSaid : Prop := bookReachUptoRow.holds Try.pinned (OpenSpec.upto bookReachSpec)

end Rows
end Go.Proofs.Ytfkdcpgphindiaa
