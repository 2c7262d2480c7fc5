/-
  NARROWER THAN 'FOR EVERY INPUT', by the rows' own cells (each row's printed sentence says how): TallyAll: laid · TallyParts: laid · MixOf: laid · MixTexts: laid · MixParses: laid · MixGroup: laid · MixAll: laid · MixTurned: laid.
  DERIVED. THE GIVEN ROWS OF THIS SEAT. 8 by the template 'for every input the law returns true; each argument reads behind the call as it read before'; 0 by the template 'total and deterministic' (their statements: YtjeaobknojmbpaaDoorTotals.lean).
  GIVEN WITH THE SEED: the statements are not yours to turn. If you find one false, say at which input.
  Laid BY PROGRAM, IN A SANDBOX (cutbox-rows.mjs): the forced cells as the released guide's own fill.sh prints them over the translation 4c754f2b227627b0… (all of the seat's roots in one cut). By AI agents, Wed Nov 11 2026. No macro, syntax, notation, axiom, sorry.
-/
import Derived.Test.YtjeaobknojmbpaaDoorChecked
import GoSem.Claim
import GoSem.ClaimJoined
import GoSem.ClaimMapViews
import Derived.JoinedTies
import Derived.KernelRfl
namespace Go.Proofs.YtjeaobknojmbpaaDoor
/- THE CELL 'sum', in the pinned program and in every row, IS THE sha256 OF THE DUMP (.gsa) THAT YtjeaobknojmbpaaDoorProg.lean LOADS. Nothing in Lean hashes anything: it is a label: what it is worth is what the hold of that sum in a sandbox is worth. -/
noncomputable def Tryd.pinned : Pinned := { name := "ytjeaobknojmbpaadoor", sum := "4c754f2b227627b07b15d406034a09e067d0336d4f73b158731e1749c28400bb", checked := Tryd.checked }
namespace Rows
def none {H : Type} : Left H := { results := [], args := [] }

/- WHAT THE LISTED PACKAGE-LEVEL VARIABLES READ AS WHEN THE CALL BEGINS. Each datum BY PROGRAM (the guide's laid-datum.mjs) off the statement by which the dump's own 'gosem.cut.vars' lays the variable. In a bare row this is a premise. The card (YtjeaobknojmbpaaDoorCards.lean) ties it to the program's text. -/
def laid_tideline_mix_lanes {H : Type} : DataW H := .agg [.agg [.lit (.int .u64 2611923443488327891), .lit (.int .u64 11400714819323198485), .lit (.int .i64 29)], .agg [.lit (.int .u64 1376283091369227076), .lit (.int .u64 14029467366897019727), .lit (.int .i64 32)]]

/-- 'tidelinelaw05.TallyAll': WHATEVER THE INPUT: true; the input reads as it did. -/
def tallyAllSpec : ChangeSpec := { name := "tallyAll", fn := fun _ => fun
  | [d1, d2] => { results := [.lit (.bool true)], args := [d1, d2] }
  | _ => none }
def tallyAllRow : OpenClaim := { program := "ytjeaobknojmbpaadoor", sum := "4c754f2b227627b07b15d406034a09e067d0336d4f73b158731e1749c28400bb", func := "tideline/tidelinelaw05.TallyAll", spec := "tallyAll", named := ["tideline/mix.lanes"], apart := false, laid := [("tideline/mix.lanes", laid_tideline_mix_lanes)] }
def TallyAllSaid : Prop := tallyAllRow.holds Tryd.pinned (OpenSpec.ofChange tallyAllSpec)

/-- ITS FALSE NEIGHBOUR: 'it returns false'. Refute it at one input. -/
def tallyAllWrong : ChangeSpec := { name := "tallyAll", fn := fun _ => fun
  | [d1, d2] => { results := [.lit (.bool false)], args := [d1, d2] }
  | _ => none }
def TallyAllWrongFalsely : Prop := tallyAllRow.holds Tryd.pinned (OpenSpec.ofChange tallyAllWrong)

/-- 'tidelinelaw05.TallyParts': WHATEVER THE INPUT: true; the input reads as it did. -/
def tallyPartsSpec : ChangeSpec := { name := "tallyParts", fn := fun _ => fun
  | [d1, d2] => { results := [.lit (.bool true)], args := [d1, d2] }
  | _ => none }
def tallyPartsRow : OpenClaim := { program := "ytjeaobknojmbpaadoor", sum := "4c754f2b227627b07b15d406034a09e067d0336d4f73b158731e1749c28400bb", func := "tideline/tidelinelaw05.TallyParts", spec := "tallyParts", named := ["tideline/mix.lanes"], apart := false, laid := [("tideline/mix.lanes", laid_tideline_mix_lanes)] }
def TallyPartsSaid : Prop := tallyPartsRow.holds Tryd.pinned (OpenSpec.ofChange tallyPartsSpec)

/-- ITS FALSE NEIGHBOUR: 'it returns false'. Refute it at one input. -/
def tallyPartsWrong : ChangeSpec := { name := "tallyParts", fn := fun _ => fun
  | [d1, d2] => { results := [.lit (.bool false)], args := [d1, d2] }
  | _ => none }
def TallyPartsWrongFalsely : Prop := tallyPartsRow.holds Tryd.pinned (OpenSpec.ofChange tallyPartsWrong)

/-- 'tidelinelaw04.MixOf': WHATEVER THE INPUT: true; the input reads as it did. -/
def mixOfSpec : ChangeSpec := { name := "mixOf", fn := fun _ => fun
  | [d1, d2] => { results := [.lit (.bool true)], args := [d1, d2] }
  | _ => none }
def mixOfRow : OpenClaim := { program := "ytjeaobknojmbpaadoor", sum := "4c754f2b227627b07b15d406034a09e067d0336d4f73b158731e1749c28400bb", func := "tideline/tidelinelaw04.MixOf", spec := "mixOf", inPlace := ["internal/abi.NoEscape"], named := ["tideline/mix.lanes"], apart := false, laid := [("tideline/mix.lanes", laid_tideline_mix_lanes)] }
def MixOfSaid : Prop := mixOfRow.holds Tryd.pinned (OpenSpec.ofChange mixOfSpec)

/-- ITS FALSE NEIGHBOUR: 'it returns false'. Refute it at one input. -/
def mixOfWrong : ChangeSpec := { name := "mixOf", fn := fun _ => fun
  | [d1, d2] => { results := [.lit (.bool false)], args := [d1, d2] }
  | _ => none }
def MixOfWrongFalsely : Prop := mixOfRow.holds Tryd.pinned (OpenSpec.ofChange mixOfWrong)

/-- 'tidelinelaw04.MixTexts': WHATEVER THE INPUT: true; the input reads as it did. -/
def mixTextsSpec : ChangeSpec := { name := "mixTexts", fn := fun _ => fun
  | [d] => { results := [.lit (.bool true)], args := [d] }
  | _ => none }
def mixTextsRow : OpenClaim := { program := "ytjeaobknojmbpaadoor", sum := "4c754f2b227627b07b15d406034a09e067d0336d4f73b158731e1749c28400bb", func := "tideline/tidelinelaw04.MixTexts", spec := "mixTexts", inPlace := ["internal/abi.NoEscape"], named := ["tideline/mix.lanes"], apart := false, laid := [("tideline/mix.lanes", laid_tideline_mix_lanes)] }
def MixTextsSaid : Prop := mixTextsRow.holds Tryd.pinned (OpenSpec.ofChange mixTextsSpec)

/-- ITS FALSE NEIGHBOUR: 'it returns false'. Refute it at one input. -/
def mixTextsWrong : ChangeSpec := { name := "mixTexts", fn := fun _ => fun
  | [d] => { results := [.lit (.bool false)], args := [d] }
  | _ => none }
def MixTextsWrongFalsely : Prop := mixTextsRow.holds Tryd.pinned (OpenSpec.ofChange mixTextsWrong)

/-- 'tidelinelaw04.MixParses': WHATEVER THE INPUT: true; the input reads as it did. -/
def mixParsesSpec : ChangeSpec := { name := "mixParses", fn := fun _ => fun
  | [d] => { results := [.lit (.bool true)], args := [d] }
  | _ => none }
def mixParsesRow : OpenClaim := { program := "ytjeaobknojmbpaadoor", sum := "4c754f2b227627b07b15d406034a09e067d0336d4f73b158731e1749c28400bb", func := "tideline/tidelinelaw04.MixParses", spec := "mixParses", inPlace := ["internal/abi.NoEscape"], named := ["tideline/mix.lanes"], apart := false, laid := [("tideline/mix.lanes", laid_tideline_mix_lanes)] }
def MixParsesSaid : Prop := mixParsesRow.holds Tryd.pinned (OpenSpec.ofChange mixParsesSpec)

/-- ITS FALSE NEIGHBOUR: 'it returns false'. Refute it at one input. -/
def mixParsesWrong : ChangeSpec := { name := "mixParses", fn := fun _ => fun
  | [d] => { results := [.lit (.bool false)], args := [d] }
  | _ => none }
def MixParsesWrongFalsely : Prop := mixParsesRow.holds Tryd.pinned (OpenSpec.ofChange mixParsesWrong)

/-- 'tidelinelaw04.MixGroup': WHATEVER THE INPUT: true; the input reads as it did. -/
def mixGroupSpec : ChangeSpec := { name := "mixGroup", fn := fun _ => fun
  | [d1, d2, d3] => { results := [.lit (.bool true)], args := [d1, d2, d3] }
  | _ => none }
def mixGroupRow : OpenClaim := { program := "ytjeaobknojmbpaadoor", sum := "4c754f2b227627b07b15d406034a09e067d0336d4f73b158731e1749c28400bb", func := "tideline/tidelinelaw04.MixGroup", spec := "mixGroup", inPlace := ["internal/abi.NoEscape"], named := ["tideline/mix.lanes"], apart := false, laid := [("tideline/mix.lanes", laid_tideline_mix_lanes)] }
def MixGroupSaid : Prop := mixGroupRow.holds Tryd.pinned (OpenSpec.ofChange mixGroupSpec)

/-- ITS FALSE NEIGHBOUR: 'it returns false'. Refute it at one input. -/
def mixGroupWrong : ChangeSpec := { name := "mixGroup", fn := fun _ => fun
  | [d1, d2, d3] => { results := [.lit (.bool false)], args := [d1, d2, d3] }
  | _ => none }
def MixGroupWrongFalsely : Prop := mixGroupRow.holds Tryd.pinned (OpenSpec.ofChange mixGroupWrong)

/-- 'tidelinelaw04.MixAll': WHATEVER THE INPUT: true; the input reads as it did. -/
def mixAllSpec : ChangeSpec := { name := "mixAll", fn := fun _ => fun
  | [d] => { results := [.lit (.bool true)], args := [d] }
  | _ => none }
def mixAllRow : OpenClaim := { program := "ytjeaobknojmbpaadoor", sum := "4c754f2b227627b07b15d406034a09e067d0336d4f73b158731e1749c28400bb", func := "tideline/tidelinelaw04.MixAll", spec := "mixAll", inPlace := ["internal/abi.NoEscape"], named := ["tideline/mix.lanes"], apart := false, laid := [("tideline/mix.lanes", laid_tideline_mix_lanes)] }
def MixAllSaid : Prop := mixAllRow.holds Tryd.pinned (OpenSpec.ofChange mixAllSpec)

/-- ITS FALSE NEIGHBOUR: 'it returns false'. Refute it at one input. -/
def mixAllWrong : ChangeSpec := { name := "mixAll", fn := fun _ => fun
  | [d] => { results := [.lit (.bool false)], args := [d] }
  | _ => none }
def MixAllWrongFalsely : Prop := mixAllRow.holds Tryd.pinned (OpenSpec.ofChange mixAllWrong)

/-- 'tidelinelaw04.MixTurned': WHATEVER THE INPUT: true; the input reads as it did. -/
def mixTurnedSpec : ChangeSpec := { name := "mixTurned", fn := fun _ => fun
  | [d1, d2, d3] => { results := [.lit (.bool true)], args := [d1, d2, d3] }
  | _ => none }
def mixTurnedRow : OpenClaim := { program := "ytjeaobknojmbpaadoor", sum := "4c754f2b227627b07b15d406034a09e067d0336d4f73b158731e1749c28400bb", func := "tideline/tidelinelaw04.MixTurned", spec := "mixTurned", inPlace := ["internal/abi.NoEscape"], named := ["tideline/mix.lanes"], apart := false, laid := [("tideline/mix.lanes", laid_tideline_mix_lanes)] }
def MixTurnedSaid : Prop := mixTurnedRow.holds Tryd.pinned (OpenSpec.ofChange mixTurnedSpec)

/-- ITS FALSE NEIGHBOUR: 'it returns false'. Refute it at one input. -/
def mixTurnedWrong : ChangeSpec := { name := "mixTurned", fn := fun _ => fun
  | [d1, d2, d3] => { results := [.lit (.bool false)], args := [d1, d2, d3] }
  | _ => none }
def MixTurnedWrongFalsely : Prop := mixTurnedRow.holds Tryd.pinned (OpenSpec.ofChange mixTurnedWrong)

/- THE SECOND FORM. 'bulk': how many values and letters a reading holds, each counted each time it is reached (what is shared counts as often as it is met; a slice's spare places count too). A statement '..UptoSaid' is the law's where the arguments, and the package variables that the reading takes, are together of bulk at most 1048576: NARROWER than '..Said'. Prove '..Said' where nothing that the law and all that it calls make is longer than what came in: it says more and counts as full. Else prove '..UptoSaid'. A law counts once. -/
mutual
def uptoBulk {H : Type} : DataW H → Nat
  | .lit (.string bytes) => bytes.length + 1
  | .lit _ => 1
  | .nil => 1
  | .ptr d => uptoBulk d + 1
  | .slice elems spare => uptoBulkAll elems + uptoBulkAll spare + 1
  | .agg parts => uptoBulkAll parts + 1
  | .iface _ d => uptoBulk d + 1
  | .map entries => uptoBulkEntries entries + 1
  | .held _ => 1
def uptoBulkAll {H : Type} : List (DataW H) → Nat
  | [] => 0
  | d :: r => uptoBulk d + uptoBulkAll r
def uptoBulkEntries {H : Type} : List (Lit × DataW H) → Nat
  | [] => 0
  | x :: r => uptoBulkEntry x + uptoBulkEntries r
def uptoBulkEntry {H : Type} : Lit × DataW H → Nat
  | (.string bytes, d) => bytes.length + uptoBulk d + 1
  | (_, d) => uptoBulk d + 1
 end
def uptoSmall : (H : Type) → List (DataW H) → Bool := fun _ ds => decide (uptoBulkAll ds ≤ 1048576)
def OpenSpec.upto (s : _root_.Go.ChangeSpec) : _root_.Go.OpenSpec := { _root_.Go.OpenSpec.ofChange s with cond := some uptoSmall }

/-- 'tidelinelaw05.TallyAll', WHERE WHAT IT READS IS OF BULK AT MOST 1048576: true; the input reads as it did. -/
def tallyAllUptoRow : OpenClaim := { program := "ytjeaobknojmbpaadoor", sum := "4c754f2b227627b07b15d406034a09e067d0336d4f73b158731e1749c28400bb", func := "tideline/tidelinelaw05.TallyAll", spec := "tallyAll", named := ["tideline/mix.lanes"], apart := false, laid := [("tideline/mix.lanes", laid_tideline_mix_lanes)], narrowed := true }
def TallyAllUptoSaid : Prop := tallyAllUptoRow.holds Tryd.pinned (OpenSpec.upto tallyAllSpec)

/-- 'tidelinelaw05.TallyParts', WHERE WHAT IT READS IS OF BULK AT MOST 1048576: true; the input reads as it did. -/
def tallyPartsUptoRow : OpenClaim := { program := "ytjeaobknojmbpaadoor", sum := "4c754f2b227627b07b15d406034a09e067d0336d4f73b158731e1749c28400bb", func := "tideline/tidelinelaw05.TallyParts", spec := "tallyParts", named := ["tideline/mix.lanes"], apart := false, laid := [("tideline/mix.lanes", laid_tideline_mix_lanes)], narrowed := true }
def TallyPartsUptoSaid : Prop := tallyPartsUptoRow.holds Tryd.pinned (OpenSpec.upto tallyPartsSpec)

/-- 'tidelinelaw04.MixOf', WHERE WHAT IT READS IS OF BULK AT MOST 1048576: true; the input reads as it did. -/
def mixOfUptoRow : OpenClaim := { program := "ytjeaobknojmbpaadoor", sum := "4c754f2b227627b07b15d406034a09e067d0336d4f73b158731e1749c28400bb", func := "tideline/tidelinelaw04.MixOf", spec := "mixOf", inPlace := ["internal/abi.NoEscape"], named := ["tideline/mix.lanes"], apart := false, laid := [("tideline/mix.lanes", laid_tideline_mix_lanes)], narrowed := true }
def MixOfUptoSaid : Prop := mixOfUptoRow.holds Tryd.pinned (OpenSpec.upto mixOfSpec)

/-- 'tidelinelaw04.MixTexts', WHERE WHAT IT READS IS OF BULK AT MOST 1048576: true; the input reads as it did. -/
def mixTextsUptoRow : OpenClaim := { program := "ytjeaobknojmbpaadoor", sum := "4c754f2b227627b07b15d406034a09e067d0336d4f73b158731e1749c28400bb", func := "tideline/tidelinelaw04.MixTexts", spec := "mixTexts", inPlace := ["internal/abi.NoEscape"], named := ["tideline/mix.lanes"], apart := false, laid := [("tideline/mix.lanes", laid_tideline_mix_lanes)], narrowed := true }
def MixTextsUptoSaid : Prop := mixTextsUptoRow.holds Tryd.pinned (OpenSpec.upto mixTextsSpec)

/-- 'tidelinelaw04.MixParses', WHERE WHAT IT READS IS OF BULK AT MOST 1048576: true; the input reads as it did. -/
def mixParsesUptoRow : OpenClaim := { program := "ytjeaobknojmbpaadoor", sum := "4c754f2b227627b07b15d406034a09e067d0336d4f73b158731e1749c28400bb", func := "tideline/tidelinelaw04.MixParses", spec := "mixParses", inPlace := ["internal/abi.NoEscape"], named := ["tideline/mix.lanes"], apart := false, laid := [("tideline/mix.lanes", laid_tideline_mix_lanes)], narrowed := true }
def MixParsesUptoSaid : Prop := mixParsesUptoRow.holds Tryd.pinned (OpenSpec.upto mixParsesSpec)

/-- 'tidelinelaw04.MixGroup', WHERE WHAT IT READS IS OF BULK AT MOST 1048576: true; the input reads as it did. -/
def mixGroupUptoRow : OpenClaim := { program := "ytjeaobknojmbpaadoor", sum := "4c754f2b227627b07b15d406034a09e067d0336d4f73b158731e1749c28400bb", func := "tideline/tidelinelaw04.MixGroup", spec := "mixGroup", inPlace := ["internal/abi.NoEscape"], named := ["tideline/mix.lanes"], apart := false, laid := [("tideline/mix.lanes", laid_tideline_mix_lanes)], narrowed := true }
def MixGroupUptoSaid : Prop := mixGroupUptoRow.holds Tryd.pinned (OpenSpec.upto mixGroupSpec)

/-- 'tidelinelaw04.MixAll', WHERE WHAT IT READS IS OF BULK AT MOST 1048576: true; the input reads as it did. -/
def mixAllUptoRow : OpenClaim := { program := "ytjeaobknojmbpaadoor", sum := "4c754f2b227627b07b15d406034a09e067d0336d4f73b158731e1749c28400bb", func := "tideline/tidelinelaw04.MixAll", spec := "mixAll", inPlace := ["internal/abi.NoEscape"], named := ["tideline/mix.lanes"], apart := false, laid := [("tideline/mix.lanes", laid_tideline_mix_lanes)], narrowed := true }
def MixAllUptoSaid : Prop := mixAllUptoRow.holds Tryd.pinned (OpenSpec.upto mixAllSpec)

/-- 'tidelinelaw04.MixTurned', WHERE WHAT IT READS IS OF BULK AT MOST 1048576: true; the input reads as it did. -/
def mixTurnedUptoRow : OpenClaim := { program := "ytjeaobknojmbpaadoor", sum := "4c754f2b227627b07b15d406034a09e067d0336d4f73b158731e1749c28400bb", func := "tideline/tidelinelaw04.MixTurned", spec := "mixTurned", inPlace := ["internal/abi.NoEscape"], named := ["tideline/mix.lanes"], apart := false, laid := [("tideline/mix.lanes", laid_tideline_mix_lanes)], narrowed := true }
def MixTurnedUptoSaid : Prop := mixTurnedUptoRow.holds Tryd.pinned (OpenSpec.upto mixTurnedSpec)

end Rows
end Go.Proofs.YtjeaobknojmbpaaDoor
