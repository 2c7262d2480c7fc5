/-
  DERIVED. GIVEN WITH THE SEED: THE CARDS: each row of YtdflmplmpjghdaaGreatDoorRows.lean that lists a variable, with what it lists TIED to the program's text (the seventh form; the later family's looks); each row that meets fmt, with fmt's text TOLD by the authors' own Lean function (tested against real Go, not proved from fmt's source: count such statements apart). THE CARD IS WHAT COUNTS. Prove the row's statement (the work); the ties are given (YtdflmplmpjghdaaGreatDoorTie.lean); close each card by the builder's one call (the guide's Derived/Test/ToyasCard.lean, 'card_holds'). Laid BY PROGRAM, IN A SANDBOX (cutbox-door.mjs). By AI agents, Wed Nov 11 2026. No macro, syntax, notation, axiom, sorry.
-/
import Derived.Test.YtdflmplmpjghdaaGreatDoorRows
import GoSem.ClaimSeven
namespace Go.Proofs.YtdflmplmpjghdaaGreatDoor
namespace Rows

/-- THE TIED CARD OF 'tidelinetop.TopMap'. -/
def topMapCard : Claim7 := { stood := { row := topMapRow, standIns := [], harness := (true, "bb1e71b1352aa1a71448801182ee631ed26259d9c1508489dd084bd0c5f829e2"), looks := true }, kinds := [], alts := [], laidByText := true, laidKinds := [.data], laidTests := true, laidLooks := .later }
def TopMapCardSaid : Prop := Claim7.holds Tryz.pinned (.plain (OpenSpec.ofChange topMapSpec)) topMapCard

/-- THE TIED CARD OF 'tidelinetop.TopStale'. -/
def topStaleCard : Claim7 := { stood := { row := topStaleRow, standIns := [], harness := (true, "bb1e71b1352aa1a71448801182ee631ed26259d9c1508489dd084bd0c5f829e2"), looks := true }, kinds := [], alts := [], laidByText := true, laidKinds := [.data], laidTests := true, laidLooks := .later }
def TopStaleCardSaid : Prop := Claim7.holds Tryz.pinned (.plain (OpenSpec.ofChange topStaleSpec)) topStaleCard

/-- THE TIED CARD OF 'tidelinetop.TopNewest'. -/
def topNewestCard : Claim7 := { stood := { row := topNewestRow, standIns := [], harness := (true, "bb1e71b1352aa1a71448801182ee631ed26259d9c1508489dd084bd0c5f829e2"), looks := true }, kinds := [], alts := [], laidByText := true, laidKinds := [.data], laidTests := true, laidLooks := .later }
def TopNewestCardSaid : Prop := Claim7.holds Tryz.pinned (.plain (OpenSpec.ofChange topNewestSpec)) topNewestCard

/-- THE SECOND FORM's CARD OF 'tidelinetop.TopMap'. -/
def topMapUptoCard : Claim7 := { stood := { row := topMapUptoRow, standIns := [], harness := (true, "bb1e71b1352aa1a71448801182ee631ed26259d9c1508489dd084bd0c5f829e2"), looks := true }, kinds := [], alts := [], laidByText := true, laidKinds := [.data], laidTests := true, laidLooks := .later }
def TopMapUptoCardSaid : Prop := Claim7.holds Tryz.pinned (.plain (OpenSpec.upto topMapSpec)) topMapUptoCard

/-- THE SECOND FORM's CARD OF 'tidelinetop.TopStale'. -/
def topStaleUptoCard : Claim7 := { stood := { row := topStaleUptoRow, standIns := [], harness := (true, "bb1e71b1352aa1a71448801182ee631ed26259d9c1508489dd084bd0c5f829e2"), looks := true }, kinds := [], alts := [], laidByText := true, laidKinds := [.data], laidTests := true, laidLooks := .later }
def TopStaleUptoCardSaid : Prop := Claim7.holds Tryz.pinned (.plain (OpenSpec.upto topStaleSpec)) topStaleUptoCard

/-- THE SECOND FORM's CARD OF 'tidelinetop.TopNewest'. -/
def topNewestUptoCard : Claim7 := { stood := { row := topNewestUptoRow, standIns := [], harness := (true, "bb1e71b1352aa1a71448801182ee631ed26259d9c1508489dd084bd0c5f829e2"), looks := true }, kinds := [], alts := [], laidByText := true, laidKinds := [.data], laidTests := true, laidLooks := .later }
def TopNewestUptoCardSaid : Prop := Claim7.holds Tryz.pinned (.plain (OpenSpec.upto topNewestSpec)) topNewestUptoCard
end Rows
end Go.Proofs.YtdflmplmpjghdaaGreatDoor
