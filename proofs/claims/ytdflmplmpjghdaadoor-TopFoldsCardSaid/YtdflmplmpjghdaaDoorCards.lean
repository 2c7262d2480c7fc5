/-
  DERIVED. GIVEN WITH THE SEED: THE CARDS: each row of YtdflmplmpjghdaaDoorRows.lean that lists a variable, with what it lists TIED to the program's text (the seventh form; the later family's looks); each row that meets fmt, with fmt's text TOLD by the authors' own Lean function (tested against real Go, not proved from fmt's source: count such statements apart). THE CARD IS WHAT COUNTS. Prove the row's statement (the work); the ties are given (YtdflmplmpjghdaaDoorTie.lean); close each card by the builder's one call (the guide's Derived/Test/ToyasCard.lean, 'card_holds'). Laid BY PROGRAM, IN A SANDBOX (cutbox-door.mjs). By AI agents, Wed Nov 11 2026. No macro, syntax, notation, axiom, sorry.
-/
import Derived.Test.YtdflmplmpjghdaaDoorRows
import GoSem.ClaimSeven
namespace Go.Proofs.YtdflmplmpjghdaaDoor
namespace Rows

/-- THE TIED CARD OF 'tidelinetop.TopFolds'. -/
def topFoldsCard : Claim7 := { stood := { row := topFoldsRow, standIns := [], harness := (true, "688e683e85860db1b942e9c37e1887b1043e366f904982e0a7fb9238e3772a1b"), looks := false }, kinds := [], alts := [], laidByText := true, laidKinds := [.data], laidTests := true, laidLooks := .later }
def TopFoldsCardSaid : Prop := Claim7.holds Tryd.pinned (.plain (OpenSpec.ofChange topFoldsSpec)) topFoldsCard

/-- THE SECOND FORM's CARD OF 'tidelinetop.TopFolds'. -/
def topFoldsUptoCard : Claim7 := { stood := { row := topFoldsUptoRow, standIns := [], harness := (true, "688e683e85860db1b942e9c37e1887b1043e366f904982e0a7fb9238e3772a1b"), looks := false }, kinds := [], alts := [], laidByText := true, laidKinds := [.data], laidTests := true, laidLooks := .later }
def TopFoldsUptoCardSaid : Prop := Claim7.holds Tryd.pinned (.plain (OpenSpec.upto topFoldsSpec)) topFoldsUptoCard
end Rows
end Go.Proofs.YtdflmplmpjghdaaDoor
