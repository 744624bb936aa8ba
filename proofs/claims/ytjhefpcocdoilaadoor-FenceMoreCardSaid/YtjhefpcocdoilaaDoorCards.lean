/-
  DERIVED. GIVEN WITH THE SEED: THE CARDS: each row of YtjhefpcocdoilaaDoorRows.lean that lists a variable, with what it lists TIED to the program's text (the seventh form; the later family's looks); each row that meets fmt, with fmt's text TOLD by the authors' own Lean function (tested against real Go, not proved from fmt's source: count such statements apart). THE CARD IS WHAT COUNTS. Prove the row's statement (the work); the ties are given (YtjhefpcocdoilaaDoorTie.lean); close each card by the builder's one call (the guide's Derived/Test/ToyasCard.lean, 'card_holds'). Laid BY PROGRAM, IN A SANDBOX (cutbox-door.mjs). By AI agents, Wed Nov 11 2026. No macro, syntax, notation, axiom, sorry.
-/
import Derived.Test.YtjhefpcocdoilaaDoorRows
import GoSem.ClaimSeven
namespace Go.Proofs.YtjhefpcocdoilaaDoor
namespace Rows

/-- THE TIED CARD OF 'gloaminglaw27.FenceMore'. -/
def fenceMoreCard : Claim7 := { stood := { row := fenceMoreRow, standIns := [], harness := (true, "c0ec348f28db021feb216176fea6883c2ba2afdb45ec633fe0c848f195bc60e8"), looks := true }, kinds := [], alts := [], laidByText := true, laidKinds := [.handle], laidTests := true, laidLooks := .later }
def FenceMoreCardSaid : Prop := Claim7.holds Tryd.pinned (.plain (OpenSpec.ofChange fenceMoreSpec)) fenceMoreCard

/-- THE SECOND FORM's CARD OF 'gloaminglaw27.FenceMore'. -/
def fenceMoreUptoCard : Claim7 := { stood := { row := fenceMoreUptoRow, standIns := [], harness := (true, "c0ec348f28db021feb216176fea6883c2ba2afdb45ec633fe0c848f195bc60e8"), looks := true }, kinds := [], alts := [], laidByText := true, laidKinds := [.handle], laidTests := true, laidLooks := .later }
def FenceMoreUptoCardSaid : Prop := Claim7.holds Tryd.pinned (.plain (OpenSpec.upto fenceMoreSpec)) fenceMoreUptoCard
end Rows
end Go.Proofs.YtjhefpcocdoilaaDoor
