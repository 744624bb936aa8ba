/-
  No cell of these rows narrows 'for every input' (looked for: loops, veiled, ifaces, maps, wideKeys, modest, calm, conditions, laid).
  DERIVED. THE GIVEN ROWS OF THIS SEAT. 11 by the template 'for every input the law returns true; each argument reads behind the call as it read before'; 0 by the template 'total and deterministic' (their statements: YthehmmodkhoieaaTotals.lean).
  GIVEN WITH THE SEED: the statements are not yours to turn. If you find one false, say at which input.
  Laid BY PROGRAM, IN A SANDBOX (cutbox-rows.mjs): the forced cells as the released guide's own fill.sh prints them over the translation 6ae67dfe37d30210… (all of the seat's roots in one cut). By AI agents, Wed Nov 11 2026. No macro, syntax, notation, axiom, sorry.
-/
import Derived.Test.YthehmmodkhoieaaChecked
import GoSem.Claim
import GoSem.ClaimJoined
import GoSem.ClaimMapViews
import Derived.JoinedTies
import Derived.KernelRfl
namespace Go.Proofs.Ythehmmodkhoieaa
/- THE CELL 'sum', in the pinned program and in every row, IS THE sha256 OF THE DUMP (.gsa) THAT YthehmmodkhoieaaProg.lean LOADS. Nothing in Lean hashes anything: it is a label: what it is worth is what the hold of that sum in a sandbox is worth. -/
noncomputable def Try.pinned : Pinned := { name := "ythehmmodkhoieaa", sum := "6ae67dfe37d3021052899066517582db1f1a8d484d55735ac89690a659aa9708", checked := Try.checked }
namespace Rows
def none {H : Type} : Left H := { results := [], args := [] }

/-- 'gloaminglaw30.StormDraws': WHATEVER THE INPUT: true; the input reads as it did. -/
def stormDrawsSpec : ChangeSpec := { name := "stormDraws", fn := fun _ => fun
  | [d1, d2] => { results := [.lit (.bool true)], args := [d1, d2] }
  | _ => none }
def stormDrawsRow : OpenClaim := { program := "ythehmmodkhoieaa", sum := "6ae67dfe37d3021052899066517582db1f1a8d484d55735ac89690a659aa9708", func := "gloaming/gloaminglaw30.StormDraws", spec := "stormDraws", apart := false }
def StormDrawsSaid : Prop := stormDrawsRow.holds Try.pinned (OpenSpec.ofChange stormDrawsSpec)

/-- ITS FALSE NEIGHBOUR: 'it returns false'. Refute it at one input. -/
def stormDrawsWrong : ChangeSpec := { name := "stormDraws", fn := fun _ => fun
  | [d1, d2] => { results := [.lit (.bool false)], args := [d1, d2] }
  | _ => none }
def StormDrawsWrongFalsely : Prop := stormDrawsRow.holds Try.pinned (OpenSpec.ofChange stormDrawsWrong)

/-- 'gloaminglaw07.TermsFair': WHATEVER THE INPUT: true; the input reads as it did. -/
def termsFairSpec : ChangeSpec := { name := "termsFair", fn := fun _ => fun
  | [d1, d2, d3, d4] => { results := [.lit (.bool true)], args := [d1, d2, d3, d4] }
  | _ => none }
def termsFairRow : OpenClaim := { program := "ythehmmodkhoieaa", sum := "6ae67dfe37d3021052899066517582db1f1a8d484d55735ac89690a659aa9708", func := "gloaming/gloaminglaw07.TermsFair", spec := "termsFair", apart := false }
def TermsFairSaid : Prop := termsFairRow.holds Try.pinned (OpenSpec.ofChange termsFairSpec)

/-- ITS FALSE NEIGHBOUR: 'it returns false'. Refute it at one input. -/
def termsFairWrong : ChangeSpec := { name := "termsFair", fn := fun _ => fun
  | [d1, d2, d3, d4] => { results := [.lit (.bool false)], args := [d1, d2, d3, d4] }
  | _ => none }
def TermsFairWrongFalsely : Prop := termsFairRow.holds Try.pinned (OpenSpec.ofChange termsFairWrong)

/-- 'gloaminglaw07.TermsMore': WHATEVER THE INPUT: true; the input reads as it did. -/
def termsMoreSpec : ChangeSpec := { name := "termsMore", fn := fun _ => fun
  | [d1, d2, d3, d4, d5] => { results := [.lit (.bool true)], args := [d1, d2, d3, d4, d5] }
  | _ => none }
def termsMoreRow : OpenClaim := { program := "ythehmmodkhoieaa", sum := "6ae67dfe37d3021052899066517582db1f1a8d484d55735ac89690a659aa9708", func := "gloaming/gloaminglaw07.TermsMore", spec := "termsMore", apart := false }
def TermsMoreSaid : Prop := termsMoreRow.holds Try.pinned (OpenSpec.ofChange termsMoreSpec)

/-- ITS FALSE NEIGHBOUR: 'it returns false'. Refute it at one input. -/
def termsMoreWrong : ChangeSpec := { name := "termsMore", fn := fun _ => fun
  | [d1, d2, d3, d4, d5] => { results := [.lit (.bool false)], args := [d1, d2, d3, d4, d5] }
  | _ => none }
def TermsMoreWrongFalsely : Prop := termsMoreRow.holds Try.pinned (OpenSpec.ofChange termsMoreWrong)

/-- 'gloaminglaw07.TermsMatch': WHATEVER THE INPUT: true; the input reads as it did. -/
def termsMatchSpec : ChangeSpec := { name := "termsMatch", fn := fun _ => fun
  | [d1, d2, d3, d4, d5] => { results := [.lit (.bool true)], args := [d1, d2, d3, d4, d5] }
  | _ => none }
def termsMatchRow : OpenClaim := { program := "ythehmmodkhoieaa", sum := "6ae67dfe37d3021052899066517582db1f1a8d484d55735ac89690a659aa9708", func := "gloaming/gloaminglaw07.TermsMatch", spec := "termsMatch", apart := false }
def TermsMatchSaid : Prop := termsMatchRow.holds Try.pinned (OpenSpec.ofChange termsMatchSpec)

/-- ITS FALSE NEIGHBOUR: 'it returns false'. Refute it at one input. -/
def termsMatchWrong : ChangeSpec := { name := "termsMatch", fn := fun _ => fun
  | [d1, d2, d3, d4, d5] => { results := [.lit (.bool false)], args := [d1, d2, d3, d4, d5] }
  | _ => none }
def TermsMatchWrongFalsely : Prop := termsMatchRow.holds Try.pinned (OpenSpec.ofChange termsMatchWrong)

/-- 'gloaminglaw30.StormAsks': WHATEVER THE INPUT: true; the input reads as it did. -/
def stormAsksSpec : ChangeSpec := { name := "stormAsks", fn := fun _ => fun
  | [d1, d2, d3, d4, d5] => { results := [.lit (.bool true)], args := [d1, d2, d3, d4, d5] }
  | _ => none }
def stormAsksRow : OpenClaim := { program := "ythehmmodkhoieaa", sum := "6ae67dfe37d3021052899066517582db1f1a8d484d55735ac89690a659aa9708", func := "gloaming/gloaminglaw30.StormAsks", spec := "stormAsks", apart := false }
def StormAsksSaid : Prop := stormAsksRow.holds Try.pinned (OpenSpec.ofChange stormAsksSpec)

/-- ITS FALSE NEIGHBOUR: 'it returns false'. Refute it at one input. -/
def stormAsksWrong : ChangeSpec := { name := "stormAsks", fn := fun _ => fun
  | [d1, d2, d3, d4, d5] => { results := [.lit (.bool false)], args := [d1, d2, d3, d4, d5] }
  | _ => none }
def StormAsksWrongFalsely : Prop := stormAsksRow.holds Try.pinned (OpenSpec.ofChange stormAsksWrong)

/-- 'gloaminglaw23.ShrinkScripts': WHATEVER THE INPUT: true; the input reads as it did. -/
def shrinkScriptsSpec : ChangeSpec := { name := "shrinkScripts", fn := fun _ => fun
  | [d1, d2, d3] => { results := [.lit (.bool true)], args := [d1, d2, d3] }
  | _ => none }
def shrinkScriptsRow : OpenClaim := { program := "ythehmmodkhoieaa", sum := "6ae67dfe37d3021052899066517582db1f1a8d484d55735ac89690a659aa9708", func := "gloaming/gloaminglaw23.ShrinkScripts", spec := "shrinkScripts", unfollowed := true, recurses := true, apart := false }
def ShrinkScriptsSaid : Prop := shrinkScriptsRow.holds Try.pinned (OpenSpec.ofChange shrinkScriptsSpec)

/-- ITS FALSE NEIGHBOUR: 'it returns false'. Refute it at one input. -/
def shrinkScriptsWrong : ChangeSpec := { name := "shrinkScripts", fn := fun _ => fun
  | [d1, d2, d3] => { results := [.lit (.bool false)], args := [d1, d2, d3] }
  | _ => none }
def ShrinkScriptsWrongFalsely : Prop := shrinkScriptsRow.holds Try.pinned (OpenSpec.ofChange shrinkScriptsWrong)

/-- 'gloaminglaw23.ShrinkTwice': WHATEVER THE INPUT: true; the input reads as it did. -/
def shrinkTwiceSpec : ChangeSpec := { name := "shrinkTwice", fn := fun _ => fun
  | [d1, d2, d3] => { results := [.lit (.bool true)], args := [d1, d2, d3] }
  | _ => none }
def shrinkTwiceRow : OpenClaim := { program := "ythehmmodkhoieaa", sum := "6ae67dfe37d3021052899066517582db1f1a8d484d55735ac89690a659aa9708", func := "gloaming/gloaminglaw23.ShrinkTwice", spec := "shrinkTwice", unfollowed := true, recurses := true, apart := false }
def ShrinkTwiceSaid : Prop := shrinkTwiceRow.holds Try.pinned (OpenSpec.ofChange shrinkTwiceSpec)

/-- ITS FALSE NEIGHBOUR: 'it returns false'. Refute it at one input. -/
def shrinkTwiceWrong : ChangeSpec := { name := "shrinkTwice", fn := fun _ => fun
  | [d1, d2, d3] => { results := [.lit (.bool false)], args := [d1, d2, d3] }
  | _ => none }
def ShrinkTwiceWrongFalsely : Prop := shrinkTwiceRow.holds Try.pinned (OpenSpec.ofChange shrinkTwiceWrong)

/-- 'gloaminglaw23.ShrinkNumbers': WHATEVER THE INPUT: true; the input reads as it did. -/
def shrinkNumbersSpec : ChangeSpec := { name := "shrinkNumbers", fn := fun _ => fun
  | [d1, d2, d3] => { results := [.lit (.bool true)], args := [d1, d2, d3] }
  | _ => none }
def shrinkNumbersRow : OpenClaim := { program := "ythehmmodkhoieaa", sum := "6ae67dfe37d3021052899066517582db1f1a8d484d55735ac89690a659aa9708", func := "gloaming/gloaminglaw23.ShrinkNumbers", spec := "shrinkNumbers", unfollowed := true, recurses := true, apart := false }
def ShrinkNumbersSaid : Prop := shrinkNumbersRow.holds Try.pinned (OpenSpec.ofChange shrinkNumbersSpec)

/-- ITS FALSE NEIGHBOUR: 'it returns false'. Refute it at one input. -/
def shrinkNumbersWrong : ChangeSpec := { name := "shrinkNumbers", fn := fun _ => fun
  | [d1, d2, d3] => { results := [.lit (.bool false)], args := [d1, d2, d3] }
  | _ => none }
def ShrinkNumbersWrongFalsely : Prop := shrinkNumbersRow.holds Try.pinned (OpenSpec.ofChange shrinkNumbersWrong)

/-- 'gloaminglaw30.StormScripts': WHATEVER THE INPUT: true; the input reads as it did. -/
def stormScriptsSpec : ChangeSpec := { name := "stormScripts", fn := fun _ => fun
  | [d1, d2, d3, d4] => { results := [.lit (.bool true)], args := [d1, d2, d3, d4] }
  | _ => none }
def stormScriptsRow : OpenClaim := { program := "ythehmmodkhoieaa", sum := "6ae67dfe37d3021052899066517582db1f1a8d484d55735ac89690a659aa9708", func := "gloaming/gloaminglaw30.StormScripts", spec := "stormScripts", apart := false }
def StormScriptsSaid : Prop := stormScriptsRow.holds Try.pinned (OpenSpec.ofChange stormScriptsSpec)

/-- ITS FALSE NEIGHBOUR: 'it returns false'. Refute it at one input. -/
def stormScriptsWrong : ChangeSpec := { name := "stormScripts", fn := fun _ => fun
  | [d1, d2, d3, d4] => { results := [.lit (.bool false)], args := [d1, d2, d3, d4] }
  | _ => none }
def StormScriptsWrongFalsely : Prop := stormScriptsRow.holds Try.pinned (OpenSpec.ofChange stormScriptsWrong)

/-- 'gloaminglaw30.StormBegins': WHATEVER THE INPUT: true; the input reads as it did. -/
def stormBeginsSpec : ChangeSpec := { name := "stormBegins", fn := fun _ => fun
  | [d1, d2, d3, d4, d5] => { results := [.lit (.bool true)], args := [d1, d2, d3, d4, d5] }
  | _ => none }
def stormBeginsRow : OpenClaim := { program := "ythehmmodkhoieaa", sum := "6ae67dfe37d3021052899066517582db1f1a8d484d55735ac89690a659aa9708", func := "gloaming/gloaminglaw30.StormBegins", spec := "stormBegins", apart := false }
def StormBeginsSaid : Prop := stormBeginsRow.holds Try.pinned (OpenSpec.ofChange stormBeginsSpec)

/-- ITS FALSE NEIGHBOUR: 'it returns false'. Refute it at one input. -/
def stormBeginsWrong : ChangeSpec := { name := "stormBegins", fn := fun _ => fun
  | [d1, d2, d3, d4, d5] => { results := [.lit (.bool false)], args := [d1, d2, d3, d4, d5] }
  | _ => none }
def StormBeginsWrongFalsely : Prop := stormBeginsRow.holds Try.pinned (OpenSpec.ofChange stormBeginsWrong)

/-- 'gloaminglaw19.LedgerPrices': WHATEVER THE INPUT: true; the input reads as it did. -/
def ledgerPricesSpec : ChangeSpec := { name := "ledgerPrices", fn := fun _ => fun
  | [d1, d2, d3] => { results := [.lit (.bool true)], args := [d1, d2, d3] }
  | _ => none }
def ledgerPricesRow : OpenClaim := { program := "ythehmmodkhoieaa", sum := "6ae67dfe37d3021052899066517582db1f1a8d484d55735ac89690a659aa9708", func := "gloaming/gloaminglaw19.LedgerPrices", spec := "ledgerPrices", unfollowed := true, recurses := true, apart := false }
def LedgerPricesSaid : Prop := ledgerPricesRow.holds Try.pinned (OpenSpec.ofChange ledgerPricesSpec)

/-- ITS FALSE NEIGHBOUR: 'it returns false'. Refute it at one input. -/
def ledgerPricesWrong : ChangeSpec := { name := "ledgerPrices", fn := fun _ => fun
  | [d1, d2, d3] => { results := [.lit (.bool false)], args := [d1, d2, d3] }
  | _ => none }
def LedgerPricesWrongFalsely : Prop := ledgerPricesRow.holds Try.pinned (OpenSpec.ofChange ledgerPricesWrong)

/- THE SECOND FORM. 'bulk': how many values and letters a reading holds, each counted each time it is reached (what is shared counts as often as it is met; a slice's spare places count too). A statement '..UptoSaid' is the law's where the arguments, and the package variables that the reading takes, are together of bulk at most 1048576: NARROWER than '..Said'. Prove '..Said' where nothing that the law and all that it calls make is longer than what came in: it says more and counts as full. Else prove '..UptoSaid'. A law counts once. -/
mutual
def uptoBulk {H : Type} : DataW H → Nat
  | .lit (.string bytes) => bytes.length + 1
  | .lit _ => 1
  | .nil => 1
  | .ptr d => uptoBulk d + 1
  | .slice elems spare => uptoBulkAll elems + uptoBulkAll spare + 1
  | .agg parts => uptoBulkAll parts + 1
  | .iface _ d => uptoBulk d + 1
  | .map entries => uptoBulkEntries entries + 1
  | .held _ => 1
def uptoBulkAll {H : Type} : List (DataW H) → Nat
  | [] => 0
  | d :: r => uptoBulk d + uptoBulkAll r
def uptoBulkEntries {H : Type} : List (Lit × DataW H) → Nat
  | [] => 0
  | x :: r => uptoBulkEntry x + uptoBulkEntries r
def uptoBulkEntry {H : Type} : Lit × DataW H → Nat
  | (.string bytes, d) => bytes.length + uptoBulk d + 1
  | (_, d) => uptoBulk d + 1
 end
def uptoSmall : (H : Type) → List (DataW H) → Bool := fun _ ds => decide (uptoBulkAll ds ≤ 1048576)
def OpenSpec.upto (s : _root_.Go.ChangeSpec) : _root_.Go.OpenSpec := { _root_.Go.OpenSpec.ofChange s with cond := some uptoSmall }

/-- 'gloaminglaw30.StormDraws', WHERE WHAT IT READS IS OF BULK AT MOST 1048576: true; the input reads as it did. -/
def stormDrawsUptoRow : OpenClaim := { program := "ythehmmodkhoieaa", sum := "6ae67dfe37d3021052899066517582db1f1a8d484d55735ac89690a659aa9708", func := "gloaming/gloaminglaw30.StormDraws", spec := "stormDraws", apart := false, narrowed := true }
def StormDrawsUptoSaid : Prop := stormDrawsUptoRow.holds Try.pinned (OpenSpec.upto stormDrawsSpec)

/-- 'gloaminglaw07.TermsFair', WHERE WHAT IT READS IS OF BULK AT MOST 1048576: true; the input reads as it did. -/
def termsFairUptoRow : OpenClaim := { program := "ythehmmodkhoieaa", sum := "6ae67dfe37d3021052899066517582db1f1a8d484d55735ac89690a659aa9708", func := "gloaming/gloaminglaw07.TermsFair", spec := "termsFair", apart := false, narrowed := true }
def TermsFairUptoSaid : Prop := termsFairUptoRow.holds Try.pinned (OpenSpec.upto termsFairSpec)

/-- 'gloaminglaw07.TermsMore', WHERE WHAT IT READS IS OF BULK AT MOST 1048576: true; the input reads as it did. -/
def termsMoreUptoRow : OpenClaim := { program := "ythehmmodkhoieaa", sum := "6ae67dfe37d3021052899066517582db1f1a8d484d55735ac89690a659aa9708", func := "gloaming/gloaminglaw07.TermsMore", spec := "termsMore", apart := false, narrowed := true }
def TermsMoreUptoSaid : Prop := termsMoreUptoRow.holds Try.pinned (OpenSpec.upto termsMoreSpec)

/-- 'gloaminglaw07.TermsMatch', WHERE WHAT IT READS IS OF BULK AT MOST 1048576: true; the input reads as it did. -/
def termsMatchUptoRow : OpenClaim := { program := "ythehmmodkhoieaa", sum := "6ae67dfe37d3021052899066517582db1f1a8d484d55735ac89690a659aa9708", func := "gloaming/gloaminglaw07.TermsMatch", spec := "termsMatch", apart := false, narrowed := true }
def TermsMatchUptoSaid : Prop := termsMatchUptoRow.holds Try.pinned (OpenSpec.upto termsMatchSpec)

/-- 'gloaminglaw30.StormAsks', WHERE WHAT IT READS IS OF BULK AT MOST 1048576: true; the input reads as it did. -/
def stormAsksUptoRow : OpenClaim := { program := "ythehmmodkhoieaa", sum := "6ae67dfe37d3021052899066517582db1f1a8d484d55735ac89690a659aa9708", func := "gloaming/gloaminglaw30.StormAsks", spec := "stormAsks", apart := false, narrowed := true }
def StormAsksUptoSaid : Prop := stormAsksUptoRow.holds Try.pinned (OpenSpec.upto stormAsksSpec)

/-- 'gloaminglaw23.ShrinkScripts', WHERE WHAT IT READS IS OF BULK AT MOST 1048576: true; the input reads as it did. -/
def shrinkScriptsUptoRow : OpenClaim := { program := "ythehmmodkhoieaa", sum := "6ae67dfe37d3021052899066517582db1f1a8d484d55735ac89690a659aa9708", func := "gloaming/gloaminglaw23.ShrinkScripts", spec := "shrinkScripts", unfollowed := true, recurses := true, apart := false, narrowed := true }
def ShrinkScriptsUptoSaid : Prop := shrinkScriptsUptoRow.holds Try.pinned (OpenSpec.upto shrinkScriptsSpec)

/-- 'gloaminglaw23.ShrinkTwice', WHERE WHAT IT READS IS OF BULK AT MOST 1048576: true; the input reads as it did. -/
def shrinkTwiceUptoRow : OpenClaim := { program := "ythehmmodkhoieaa", sum := "6ae67dfe37d3021052899066517582db1f1a8d484d55735ac89690a659aa9708", func := "gloaming/gloaminglaw23.ShrinkTwice", spec := "shrinkTwice", unfollowed := true, recurses := true, apart := false, narrowed := true }
def ShrinkTwiceUptoSaid : Prop := shrinkTwiceUptoRow.holds Try.pinned (OpenSpec.upto shrinkTwiceSpec)

/-- 'gloaminglaw23.ShrinkNumbers', WHERE WHAT IT READS IS OF BULK AT MOST 1048576: true; the input reads as it did. -/
def shrinkNumbersUptoRow : OpenClaim := { program := "ythehmmodkhoieaa", sum := "6ae67dfe37d3021052899066517582db1f1a8d484d55735ac89690a659aa9708", func := "gloaming/gloaminglaw23.ShrinkNumbers", spec := "shrinkNumbers", unfollowed := true, recurses := true, apart := false, narrowed := true }
def ShrinkNumbersUptoSaid : Prop := shrinkNumbersUptoRow.holds Try.pinned (OpenSpec.upto shrinkNumbersSpec)

/-- 'gloaminglaw30.StormScripts', WHERE WHAT IT READS IS OF BULK AT MOST 1048576: true; the input reads as it did. -/
def stormScriptsUptoRow : OpenClaim := { program := "ythehmmodkhoieaa", sum := "6ae67dfe37d3021052899066517582db1f1a8d484d55735ac89690a659aa9708", func := "gloaming/gloaminglaw30.StormScripts", spec := "stormScripts", apart := false, narrowed := true }
def StormScriptsUptoSaid : Prop := stormScriptsUptoRow.holds Try.pinned (OpenSpec.upto stormScriptsSpec)

/-- 'gloaminglaw30.StormBegins', WHERE WHAT IT READS IS OF BULK AT MOST 1048576: true; the input reads as it did. -/
def stormBeginsUptoRow : OpenClaim := { program := "ythehmmodkhoieaa", sum := "6ae67dfe37d3021052899066517582db1f1a8d484d55735ac89690a659aa9708", func := "gloaming/gloaminglaw30.StormBegins", spec := "stormBegins", apart := false, narrowed := true }
def StormBeginsUptoSaid : Prop := stormBeginsUptoRow.holds Try.pinned (OpenSpec.upto stormBeginsSpec)

/-- 'gloaminglaw19.LedgerPrices', WHERE WHAT IT READS IS OF BULK AT MOST 1048576: true; the input reads as it did. -/
def ledgerPricesUptoRow : OpenClaim := { program := "ythehmmodkhoieaa", sum := "6ae67dfe37d3021052899066517582db1f1a8d484d55735ac89690a659aa9708", func := "gloaming/gloaminglaw19.LedgerPrices", spec := "ledgerPrices", unfollowed := true, recurses := true, apart := false, narrowed := true }
def LedgerPricesUptoSaid : Prop := ledgerPricesUptoRow.holds Try.pinned (OpenSpec.upto ledgerPricesSpec)

end Rows
end Go.Proofs.Ythehmmodkhoieaa
