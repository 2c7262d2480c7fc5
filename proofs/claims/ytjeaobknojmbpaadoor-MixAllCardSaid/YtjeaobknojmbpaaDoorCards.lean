/-
  DERIVED. GIVEN WITH THE SEED: THE CARDS: each row of YtjeaobknojmbpaaDoorRows.lean that lists a variable, with what it lists TIED to the program's text (the seventh form; the later family's looks); each row that meets fmt, with fmt's text TOLD by the authors' own Lean function (tested against real Go, not proved from fmt's source: count such statements apart). THE CARD IS WHAT COUNTS. Prove the row's statement (the work); the ties are given (YtjeaobknojmbpaaDoorTie.lean); close each card by the builder's one call (the guide's Derived/Test/ToyasCard.lean, 'card_holds'). Laid BY PROGRAM, IN A SANDBOX (cutbox-door.mjs). By AI agents, Wed Nov 11 2026. No macro, syntax, notation, axiom, sorry.
-/
import Derived.Test.YtjeaobknojmbpaaDoorRows
import GoSem.ClaimSeven
namespace Go.Proofs.YtjeaobknojmbpaaDoor
namespace Rows

/-- THE TIED CARD OF 'tidelinelaw05.TallyAll'. -/
def tallyAllCard : Claim7 := { stood := { row := tallyAllRow, standIns := [], harness := (true, "67654b4c692b679d4de46bb3538cc166f90241f666e4c76ce4329fa71c89c3d9"), looks := false }, kinds := [], alts := [], laidByText := true, laidKinds := [.data], laidTests := true, laidLooks := .later }
def TallyAllCardSaid : Prop := Claim7.holds Tryd.pinned (.plain (OpenSpec.ofChange tallyAllSpec)) tallyAllCard

/-- THE TIED CARD OF 'tidelinelaw05.TallyParts'. -/
def tallyPartsCard : Claim7 := { stood := { row := tallyPartsRow, standIns := [], harness := (true, "67654b4c692b679d4de46bb3538cc166f90241f666e4c76ce4329fa71c89c3d9"), looks := false }, kinds := [], alts := [], laidByText := true, laidKinds := [.data], laidTests := true, laidLooks := .later }
def TallyPartsCardSaid : Prop := Claim7.holds Tryd.pinned (.plain (OpenSpec.ofChange tallyPartsSpec)) tallyPartsCard

/-- THE TIED CARD OF 'tidelinelaw04.MixOf'. -/
def mixOfCard : Claim7 := { stood := { row := mixOfRow, standIns := [], harness := (true, "67654b4c692b679d4de46bb3538cc166f90241f666e4c76ce4329fa71c89c3d9"), looks := false }, kinds := [], alts := [], laidByText := true, laidKinds := [.data], laidTests := true, laidLooks := .later }
def MixOfCardSaid : Prop := Claim7.holds Tryd.pinned (.plain (OpenSpec.ofChange mixOfSpec)) mixOfCard

/-- THE TIED CARD OF 'tidelinelaw04.MixTexts'. -/
def mixTextsCard : Claim7 := { stood := { row := mixTextsRow, standIns := [], harness := (true, "67654b4c692b679d4de46bb3538cc166f90241f666e4c76ce4329fa71c89c3d9"), looks := false }, kinds := [], alts := [], laidByText := true, laidKinds := [.data], laidTests := true, laidLooks := .later }
def MixTextsCardSaid : Prop := Claim7.holds Tryd.pinned (.plain (OpenSpec.ofChange mixTextsSpec)) mixTextsCard

/-- THE TIED CARD OF 'tidelinelaw04.MixParses'. -/
def mixParsesCard : Claim7 := { stood := { row := mixParsesRow, standIns := [], harness := (true, "67654b4c692b679d4de46bb3538cc166f90241f666e4c76ce4329fa71c89c3d9"), looks := false }, kinds := [], alts := [], laidByText := true, laidKinds := [.data], laidTests := true, laidLooks := .later }
def MixParsesCardSaid : Prop := Claim7.holds Tryd.pinned (.plain (OpenSpec.ofChange mixParsesSpec)) mixParsesCard

/-- THE TIED CARD OF 'tidelinelaw04.MixGroup'. -/
def mixGroupCard : Claim7 := { stood := { row := mixGroupRow, standIns := [], harness := (true, "67654b4c692b679d4de46bb3538cc166f90241f666e4c76ce4329fa71c89c3d9"), looks := false }, kinds := [], alts := [], laidByText := true, laidKinds := [.data], laidTests := true, laidLooks := .later }
def MixGroupCardSaid : Prop := Claim7.holds Tryd.pinned (.plain (OpenSpec.ofChange mixGroupSpec)) mixGroupCard

/-- THE TIED CARD OF 'tidelinelaw04.MixAll'. -/
def mixAllCard : Claim7 := { stood := { row := mixAllRow, standIns := [], harness := (true, "67654b4c692b679d4de46bb3538cc166f90241f666e4c76ce4329fa71c89c3d9"), looks := false }, kinds := [], alts := [], laidByText := true, laidKinds := [.data], laidTests := true, laidLooks := .later }
def MixAllCardSaid : Prop := Claim7.holds Tryd.pinned (.plain (OpenSpec.ofChange mixAllSpec)) mixAllCard

/-- THE TIED CARD OF 'tidelinelaw04.MixTurned'. -/
def mixTurnedCard : Claim7 := { stood := { row := mixTurnedRow, standIns := [], harness := (true, "67654b4c692b679d4de46bb3538cc166f90241f666e4c76ce4329fa71c89c3d9"), looks := false }, kinds := [], alts := [], laidByText := true, laidKinds := [.data], laidTests := true, laidLooks := .later }
def MixTurnedCardSaid : Prop := Claim7.holds Tryd.pinned (.plain (OpenSpec.ofChange mixTurnedSpec)) mixTurnedCard

/-- THE SECOND FORM's CARD OF 'tidelinelaw05.TallyAll'. -/
def tallyAllUptoCard : Claim7 := { stood := { row := tallyAllUptoRow, standIns := [], harness := (true, "67654b4c692b679d4de46bb3538cc166f90241f666e4c76ce4329fa71c89c3d9"), looks := false }, kinds := [], alts := [], laidByText := true, laidKinds := [.data], laidTests := true, laidLooks := .later }
def TallyAllUptoCardSaid : Prop := Claim7.holds Tryd.pinned (.plain (OpenSpec.upto tallyAllSpec)) tallyAllUptoCard

/-- THE SECOND FORM's CARD OF 'tidelinelaw05.TallyParts'. -/
def tallyPartsUptoCard : Claim7 := { stood := { row := tallyPartsUptoRow, standIns := [], harness := (true, "67654b4c692b679d4de46bb3538cc166f90241f666e4c76ce4329fa71c89c3d9"), looks := false }, kinds := [], alts := [], laidByText := true, laidKinds := [.data], laidTests := true, laidLooks := .later }
def TallyPartsUptoCardSaid : Prop := Claim7.holds Tryd.pinned (.plain (OpenSpec.upto tallyPartsSpec)) tallyPartsUptoCard

/-- THE SECOND FORM's CARD OF 'tidelinelaw04.MixOf'. -/
def mixOfUptoCard : Claim7 := { stood := { row := mixOfUptoRow, standIns := [], harness := (true, "67654b4c692b679d4de46bb3538cc166f90241f666e4c76ce4329fa71c89c3d9"), looks := false }, kinds := [], alts := [], laidByText := true, laidKinds := [.data], laidTests := true, laidLooks := .later }
def MixOfUptoCardSaid : Prop := Claim7.holds Tryd.pinned (.plain (OpenSpec.upto mixOfSpec)) mixOfUptoCard

/-- THE SECOND FORM's CARD OF 'tidelinelaw04.MixTexts'. -/
def mixTextsUptoCard : Claim7 := { stood := { row := mixTextsUptoRow, standIns := [], harness := (true, "67654b4c692b679d4de46bb3538cc166f90241f666e4c76ce4329fa71c89c3d9"), looks := false }, kinds := [], alts := [], laidByText := true, laidKinds := [.data], laidTests := true, laidLooks := .later }
def MixTextsUptoCardSaid : Prop := Claim7.holds Tryd.pinned (.plain (OpenSpec.upto mixTextsSpec)) mixTextsUptoCard

/-- THE SECOND FORM's CARD OF 'tidelinelaw04.MixParses'. -/
def mixParsesUptoCard : Claim7 := { stood := { row := mixParsesUptoRow, standIns := [], harness := (true, "67654b4c692b679d4de46bb3538cc166f90241f666e4c76ce4329fa71c89c3d9"), looks := false }, kinds := [], alts := [], laidByText := true, laidKinds := [.data], laidTests := true, laidLooks := .later }
def MixParsesUptoCardSaid : Prop := Claim7.holds Tryd.pinned (.plain (OpenSpec.upto mixParsesSpec)) mixParsesUptoCard

/-- THE SECOND FORM's CARD OF 'tidelinelaw04.MixGroup'. -/
def mixGroupUptoCard : Claim7 := { stood := { row := mixGroupUptoRow, standIns := [], harness := (true, "67654b4c692b679d4de46bb3538cc166f90241f666e4c76ce4329fa71c89c3d9"), looks := false }, kinds := [], alts := [], laidByText := true, laidKinds := [.data], laidTests := true, laidLooks := .later }
def MixGroupUptoCardSaid : Prop := Claim7.holds Tryd.pinned (.plain (OpenSpec.upto mixGroupSpec)) mixGroupUptoCard

/-- THE SECOND FORM's CARD OF 'tidelinelaw04.MixAll'. -/
def mixAllUptoCard : Claim7 := { stood := { row := mixAllUptoRow, standIns := [], harness := (true, "67654b4c692b679d4de46bb3538cc166f90241f666e4c76ce4329fa71c89c3d9"), looks := false }, kinds := [], alts := [], laidByText := true, laidKinds := [.data], laidTests := true, laidLooks := .later }
def MixAllUptoCardSaid : Prop := Claim7.holds Tryd.pinned (.plain (OpenSpec.upto mixAllSpec)) mixAllUptoCard

/-- THE SECOND FORM's CARD OF 'tidelinelaw04.MixTurned'. -/
def mixTurnedUptoCard : Claim7 := { stood := { row := mixTurnedUptoRow, standIns := [], harness := (true, "67654b4c692b679d4de46bb3538cc166f90241f666e4c76ce4329fa71c89c3d9"), looks := false }, kinds := [], alts := [], laidByText := true, laidKinds := [.data], laidTests := true, laidLooks := .later }
def MixTurnedUptoCardSaid : Prop := Claim7.holds Tryd.pinned (.plain (OpenSpec.upto mixTurnedSpec)) mixTurnedUptoCard
end Rows
end Go.Proofs.YtjeaobknojmbpaaDoor
