/-
  No cell of these rows narrows 'for every input' (looked for: loops, veiled, ifaces, maps, wideKeys, modest, calm, conditions, laid).
  DERIVED. THE GIVEN ROWS OF THIS SEAT. 4 by the template 'for every input the law returns true; each argument reads behind the call as it read before'; 0 by the template 'total and deterministic' (their statements: YtjeaobknojmbpaaTotals.lean).
  GIVEN WITH THE SEED: the statements are not yours to turn. If you find one false, say at which input.
  Laid BY PROGRAM, IN A SANDBOX (cutbox-rows.mjs): the forced cells as the released guide's own fill.sh prints them over the translation 2d785ecbc9b2b16a… (all of the seat's roots in one cut). By AI agents, Wed Nov 11 2026. No macro, syntax, notation, axiom, sorry.
-/
import Derived.Test.YtjeaobknojmbpaaChecked
import GoSem.Claim
import GoSem.ClaimJoined
import GoSem.ClaimMapViews
import Derived.JoinedTies
import Derived.KernelRfl
namespace Go.Proofs.Ytjeaobknojmbpaa
/- THE CELL 'sum', in the pinned program and in every row, IS THE sha256 OF THE DUMP (.gsa) THAT YtjeaobknojmbpaaProg.lean LOADS. Nothing in Lean hashes anything: it is a label: what it is worth is what the hold of that sum in a sandbox is worth. -/
noncomputable def Try.pinned : Pinned := { name := "ytjeaobknojmbpaa", sum := "2d785ecbc9b2b16ab31e727a5fa2d98feb85f9ed62c3f0cbba2e8314b07a78c9", checked := Try.checked }
namespace Rows
def none {H : Type} : Left H := { results := [], args := [] }

/-- 'tidelinelaw05.TallyJoins': WHATEVER THE INPUT: true; the input reads as it did. -/
def tallyJoinsSpec : ChangeSpec := { name := "tallyJoins", fn := fun _ => fun
  | [d1, d2, d3] => { results := [.lit (.bool true)], args := [d1, d2, d3] }
  | _ => none }
def tallyJoinsRow : OpenClaim := { program := "ytjeaobknojmbpaa", sum := "2d785ecbc9b2b16ab31e727a5fa2d98feb85f9ed62c3f0cbba2e8314b07a78c9", func := "tideline/tidelinelaw05.TallyJoins", spec := "tallyJoins", apart := false }
def TallyJoinsSaid : Prop := tallyJoinsRow.holds Try.pinned (OpenSpec.ofChange tallyJoinsSpec)

/-- ITS FALSE NEIGHBOUR: 'it returns false'. Refute it at one input. -/
def tallyJoinsWrong : ChangeSpec := { name := "tallyJoins", fn := fun _ => fun
  | [d1, d2, d3] => { results := [.lit (.bool false)], args := [d1, d2, d3] }
  | _ => none }
def TallyJoinsWrongFalsely : Prop := tallyJoinsRow.holds Try.pinned (OpenSpec.ofChange tallyJoinsWrong)

/-- 'tidelinelaw05.TallyMeter': WHATEVER THE INPUT: true; the input reads as it did. -/
def tallyMeterSpec : ChangeSpec := { name := "tallyMeter", fn := fun _ => fun
  | [d1, d2] => { results := [.lit (.bool true)], args := [d1, d2] }
  | _ => none }
def tallyMeterRow : OpenClaim := { program := "ytjeaobknojmbpaa", sum := "2d785ecbc9b2b16ab31e727a5fa2d98feb85f9ed62c3f0cbba2e8314b07a78c9", func := "tideline/tidelinelaw05.TallyMeter", spec := "tallyMeter", apart := false }
def TallyMeterSaid : Prop := tallyMeterRow.holds Try.pinned (OpenSpec.ofChange tallyMeterSpec)

/-- ITS FALSE NEIGHBOUR: 'it returns false'. Refute it at one input. -/
def tallyMeterWrong : ChangeSpec := { name := "tallyMeter", fn := fun _ => fun
  | [d1, d2] => { results := [.lit (.bool false)], args := [d1, d2] }
  | _ => none }
def TallyMeterWrongFalsely : Prop := tallyMeterRow.holds Try.pinned (OpenSpec.ofChange tallyMeterWrong)

/-- 'tidelinelaw05.TallyLess': WHATEVER THE INPUT: true; the input reads as it did. -/
def tallyLessSpec : ChangeSpec := { name := "tallyLess", fn := fun _ => fun
  | [d1, d2] => { results := [.lit (.bool true)], args := [d1, d2] }
  | _ => none }
def tallyLessRow : OpenClaim := { program := "ytjeaobknojmbpaa", sum := "2d785ecbc9b2b16ab31e727a5fa2d98feb85f9ed62c3f0cbba2e8314b07a78c9", func := "tideline/tidelinelaw05.TallyLess", spec := "tallyLess", apart := false }
def TallyLessSaid : Prop := tallyLessRow.holds Try.pinned (OpenSpec.ofChange tallyLessSpec)

/-- ITS FALSE NEIGHBOUR: 'it returns false'. Refute it at one input. -/
def tallyLessWrong : ChangeSpec := { name := "tallyLess", fn := fun _ => fun
  | [d1, d2] => { results := [.lit (.bool false)], args := [d1, d2] }
  | _ => none }
def TallyLessWrongFalsely : Prop := tallyLessRow.holds Try.pinned (OpenSpec.ofChange tallyLessWrong)

/-- 'tidelinelaw05.TallyLog': WHATEVER THE INPUT: true; the input reads as it did. -/
def tallyLogSpec : ChangeSpec := { name := "tallyLog", fn := fun _ => fun
  | [d] => { results := [.lit (.bool true)], args := [d] }
  | _ => none }
def tallyLogRow : OpenClaim := { program := "ytjeaobknojmbpaa", sum := "2d785ecbc9b2b16ab31e727a5fa2d98feb85f9ed62c3f0cbba2e8314b07a78c9", func := "tideline/tidelinelaw05.TallyLog", spec := "tallyLog", apart := false }
def TallyLogSaid : Prop := tallyLogRow.holds Try.pinned (OpenSpec.ofChange tallyLogSpec)

/-- ITS FALSE NEIGHBOUR: 'it returns false'. Refute it at one input. -/
def tallyLogWrong : ChangeSpec := { name := "tallyLog", fn := fun _ => fun
  | [d] => { results := [.lit (.bool false)], args := [d] }
  | _ => none }
def TallyLogWrongFalsely : Prop := tallyLogRow.holds Try.pinned (OpenSpec.ofChange tallyLogWrong)

/- THE SECOND FORM. 'bulk': how many values and letters a reading holds, each counted each time it is reached (what is shared counts as often as it is met; a slice's spare places count too). A statement '..UptoSaid' is the law's where the arguments, and the package variables that the reading takes, are together of bulk at most 1048576: NARROWER than '..Said'. Prove '..Said' where nothing that the law and all that it calls make is longer than what came in: it says more and counts as full. Else prove '..UptoSaid'. A law counts once. -/
mutual
def uptoBulk {H : Type} : DataW H → Nat
  | .lit (.string bytes) => bytes.length + 1
  | .lit _ => 1
  | .nil => 1
  | .ptr d => uptoBulk d + 1
  | .slice elems spare => uptoBulkAll elems + uptoBulkAll spare + 1
  | .agg parts => uptoBulkAll parts + 1
  | .iface _ d => uptoBulk d + 1
  | .map entries => uptoBulkEntries entries + 1
  | .held _ => 1
def uptoBulkAll {H : Type} : List (DataW H) → Nat
  | [] => 0
  | d :: r => uptoBulk d + uptoBulkAll r
def uptoBulkEntries {H : Type} : List (Lit × DataW H) → Nat
  | [] => 0
  | x :: r => uptoBulkEntry x + uptoBulkEntries r
def uptoBulkEntry {H : Type} : Lit × DataW H → Nat
  | (.string bytes, d) => bytes.length + uptoBulk d + 1
  | (_, d) => uptoBulk d + 1
 end
def uptoSmall : (H : Type) → List (DataW H) → Bool := fun _ ds => decide (uptoBulkAll ds ≤ 1048576)
def OpenSpec.upto (s : _root_.Go.ChangeSpec) : _root_.Go.OpenSpec := { _root_.Go.OpenSpec.ofChange s with cond := some uptoSmall }

/-- 'tidelinelaw05.TallyJoins', WHERE WHAT IT READS IS OF BULK AT MOST 1048576: true; the input reads as it did. -/
def tallyJoinsUptoRow : OpenClaim := { program := "ytjeaobknojmbpaa", sum := "2d785ecbc9b2b16ab31e727a5fa2d98feb85f9ed62c3f0cbba2e8314b07a78c9", func := "tideline/tidelinelaw05.TallyJoins", spec := "tallyJoins", apart := false, narrowed := true }
def TallyJoinsUptoSaid : Prop := tallyJoinsUptoRow.holds Try.pinned (OpenSpec.upto tallyJoinsSpec)

/-- 'tidelinelaw05.TallyMeter', WHERE WHAT IT READS IS OF BULK AT MOST 1048576: true; the input reads as it did. -/
def tallyMeterUptoRow : OpenClaim := { program := "ytjeaobknojmbpaa", sum := "2d785ecbc9b2b16ab31e727a5fa2d98feb85f9ed62c3f0cbba2e8314b07a78c9", func := "tideline/tidelinelaw05.TallyMeter", spec := "tallyMeter", apart := false, narrowed := true }
def TallyMeterUptoSaid : Prop := tallyMeterUptoRow.holds Try.pinned (OpenSpec.upto tallyMeterSpec)

/-- 'tidelinelaw05.TallyLess', WHERE WHAT IT READS IS OF BULK AT MOST 1048576: true; the input reads as it did. -/
def tallyLessUptoRow : OpenClaim := { program := "ytjeaobknojmbpaa", sum := "2d785ecbc9b2b16ab31e727a5fa2d98feb85f9ed62c3f0cbba2e8314b07a78c9", func := "tideline/tidelinelaw05.TallyLess", spec := "tallyLess", apart := false, narrowed := true }
def TallyLessUptoSaid : Prop := tallyLessUptoRow.holds Try.pinned (OpenSpec.upto tallyLessSpec)

/-- 'tidelinelaw05.TallyLog', WHERE WHAT IT READS IS OF BULK AT MOST 1048576: true; the input reads as it did. -/
def tallyLogUptoRow : OpenClaim := { program := "ytjeaobknojmbpaa", sum := "2d785ecbc9b2b16ab31e727a5fa2d98feb85f9ed62c3f0cbba2e8314b07a78c9", func := "tideline/tidelinelaw05.TallyLog", spec := "tallyLog", apart := false, narrowed := true }
def TallyLogUptoSaid : Prop := tallyLogUptoRow.holds Try.pinned (OpenSpec.upto tallyLogSpec)

end Rows
end Go.Proofs.Ytjeaobknojmbpaa
