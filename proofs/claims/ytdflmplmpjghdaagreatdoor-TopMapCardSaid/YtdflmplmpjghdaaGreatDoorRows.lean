/-
  NARROWER THAN 'FOR EVERY INPUT', by the rows' own cells (each row's printed sentence says how): TopMap: laid · TopStale: laid · TopNewest: laid.
  DERIVED. THE GIVEN ROWS OF THIS SEAT. 3 by the template 'for every input the law returns true; each argument reads behind the call as it read before'; 0 by the template 'total and deterministic' (their statements: YtdflmplmpjghdaaGreatDoorTotals.lean).
  GIVEN WITH THE SEED: the statements are not yours to turn. If you find one false, say at which input.
  Laid BY PROGRAM, IN A SANDBOX (cutbox-rows.mjs): the forced cells as the released guide's own fill.sh prints them over the translation 970ddeac04f2ce9d… (all of the seat's roots in one cut). By AI agents, Wed Nov 11 2026. No macro, syntax, notation, axiom, sorry.
-/
import Derived.Test.YtdflmplmpjghdaaGreatDoorChecked
import GoSem.Claim
import GoSem.ClaimJoined
import GoSem.ClaimMapViews
import Derived.JoinedTies
import Derived.KernelRfl
namespace Go.Proofs.YtdflmplmpjghdaaGreatDoor
/- THE CELL 'sum', in the pinned program and in every row, IS THE sha256 OF THE DUMP (.gsa) THAT YtdflmplmpjghdaaGreatDoorProg.lean LOADS. Nothing in Lean hashes anything: it is a label: what it is worth is what the hold of that sum in a sandbox is worth. -/
noncomputable def Tryz.pinned : Pinned := { name := "ytdflmplmpjghdaagreatdoor", sum := "970ddeac04f2ce9d8ffda8a8f3c496572cd2dd124633a9f187ec7d2f92b20307", checked := Tryz.checked }
namespace Rows
def none {H : Type} : Left H := { results := [], args := [] }

/- WHAT THE LISTED PACKAGE-LEVEL VARIABLES READ AS WHEN THE CALL BEGINS. Each datum BY PROGRAM (the guide's laid-datum.mjs) off the statement by which the dump's own 'gosem.cut.vars' lays the variable. In a bare row this is a premise. The card (YtdflmplmpjghdaaGreatDoorCards.lean) ties it to the program's text. -/
def laid_tideline_mix_lanes {H : Type} : DataW H := .agg [.agg [.lit (.int .u64 2611923443488327891), .lit (.int .u64 11400714819323198485), .lit (.int .i64 29)], .agg [.lit (.int .u64 1376283091369227076), .lit (.int .u64 14029467366897019727), .lit (.int .i64 32)]]

/-- 'tidelinetop.TopMap': WHATEVER THE INPUT: true; the input reads as it did. -/
def topMapSpec : ChangeSpec := { name := "topMap", fn := fun _ => fun
  | [d1, d2] => { results := [.lit (.bool true)], args := [d1, d2] }
  | _ => none }
def topMapRow : OpenClaim := { program := "ytdflmplmpjghdaagreatdoor", sum := "970ddeac04f2ce9d8ffda8a8f3c496572cd2dd124633a9f187ec7d2f92b20307", func := "tideline/tidelinetop.TopMap", spec := "topMap", inPlace := ["slices.overlaps[tideline/timer.alarm]"], unfollowed := true, recurses := true, named := ["tideline/mix.lanes"], plainKeys := false, apart := false, laid := [("tideline/mix.lanes", laid_tideline_mix_lanes)] }
def TopMapSaid : Prop := topMapRow.holds Tryz.pinned (OpenSpec.ofChange topMapSpec)

/-- ITS FALSE NEIGHBOUR: 'it returns false'. Refute it at one input. -/
def topMapWrong : ChangeSpec := { name := "topMap", fn := fun _ => fun
  | [d1, d2] => { results := [.lit (.bool false)], args := [d1, d2] }
  | _ => none }
def TopMapWrongFalsely : Prop := topMapRow.holds Tryz.pinned (OpenSpec.ofChange topMapWrong)

/-- 'tidelinetop.TopStale': WHATEVER THE INPUT: true; the input reads as it did. -/
def topStaleSpec : ChangeSpec := { name := "topStale", fn := fun _ => fun
  | [d1, d2, d3] => { results := [.lit (.bool true)], args := [d1, d2, d3] }
  | _ => none }
def topStaleRow : OpenClaim := { program := "ytdflmplmpjghdaagreatdoor", sum := "970ddeac04f2ce9d8ffda8a8f3c496572cd2dd124633a9f187ec7d2f92b20307", func := "tideline/tidelinetop.TopStale", spec := "topStale", inPlace := ["slices.overlaps[tideline/timer.alarm]"], unfollowed := true, recurses := true, named := ["tideline/mix.lanes"], plainKeys := false, apart := false, laid := [("tideline/mix.lanes", laid_tideline_mix_lanes)] }
def TopStaleSaid : Prop := topStaleRow.holds Tryz.pinned (OpenSpec.ofChange topStaleSpec)

/-- ITS FALSE NEIGHBOUR: 'it returns false'. Refute it at one input. -/
def topStaleWrong : ChangeSpec := { name := "topStale", fn := fun _ => fun
  | [d1, d2, d3] => { results := [.lit (.bool false)], args := [d1, d2, d3] }
  | _ => none }
def TopStaleWrongFalsely : Prop := topStaleRow.holds Tryz.pinned (OpenSpec.ofChange topStaleWrong)

/-- 'tidelinetop.TopNewest': WHATEVER THE INPUT: true; the input reads as it did. -/
def topNewestSpec : ChangeSpec := { name := "topNewest", fn := fun _ => fun
  | [d1, d2, d3] => { results := [.lit (.bool true)], args := [d1, d2, d3] }
  | _ => none }
def topNewestRow : OpenClaim := { program := "ytdflmplmpjghdaagreatdoor", sum := "970ddeac04f2ce9d8ffda8a8f3c496572cd2dd124633a9f187ec7d2f92b20307", func := "tideline/tidelinetop.TopNewest", spec := "topNewest", inPlace := ["slices.overlaps[tideline/timer.alarm]"], unfollowed := true, recurses := true, named := ["tideline/mix.lanes"], plainKeys := false, apart := false, laid := [("tideline/mix.lanes", laid_tideline_mix_lanes)] }
def TopNewestSaid : Prop := topNewestRow.holds Tryz.pinned (OpenSpec.ofChange topNewestSpec)

/-- ITS FALSE NEIGHBOUR: 'it returns false'. Refute it at one input. -/
def topNewestWrong : ChangeSpec := { name := "topNewest", fn := fun _ => fun
  | [d1, d2, d3] => { results := [.lit (.bool false)], args := [d1, d2, d3] }
  | _ => none }
def TopNewestWrongFalsely : Prop := topNewestRow.holds Tryz.pinned (OpenSpec.ofChange topNewestWrong)

/- THE SECOND FORM. 'bulk': how many values and letters a reading holds, each counted each time it is reached (what is shared counts as often as it is met; a slice's spare places count too). A statement '..UptoSaid' is the law's where the arguments, and the package variables that the reading takes, are together of bulk at most 1048576: NARROWER than '..Said'. Prove '..Said' where nothing that the law and all that it calls make is longer than what came in: it says more and counts as full. Else prove '..UptoSaid'. A law counts once. -/
mutual
def uptoBulk {H : Type} : DataW H → Nat
  | .lit (.string bytes) => bytes.length + 1
  | .lit _ => 1
  | .nil => 1
  | .ptr d => uptoBulk d + 1
  | .slice elems spare => uptoBulkAll elems + uptoBulkAll spare + 1
  | .agg parts => uptoBulkAll parts + 1
  | .iface _ d => uptoBulk d + 1
  | .map entries => uptoBulkEntries entries + 1
  | .held _ => 1
def uptoBulkAll {H : Type} : List (DataW H) → Nat
  | [] => 0
  | d :: r => uptoBulk d + uptoBulkAll r
def uptoBulkEntries {H : Type} : List (Lit × DataW H) → Nat
  | [] => 0
  | x :: r => uptoBulkEntry x + uptoBulkEntries r
def uptoBulkEntry {H : Type} : Lit × DataW H → Nat
  | (.string bytes, d) => bytes.length + uptoBulk d + 1
  | (_, d) => uptoBulk d + 1
 end
def uptoSmall : (H : Type) → List (DataW H) → Bool := fun _ ds => decide (uptoBulkAll ds ≤ 1048576)
def OpenSpec.upto (s : _root_.Go.ChangeSpec) : _root_.Go.OpenSpec := { _root_.Go.OpenSpec.ofChange s with cond := some uptoSmall }

/-- 'tidelinetop.TopMap', WHERE WHAT IT READS IS OF BULK AT MOST 1048576: true; the input reads as it did. -/
def topMapUptoRow : OpenClaim := { program := "ytdflmplmpjghdaagreatdoor", sum := "970ddeac04f2ce9d8ffda8a8f3c496572cd2dd124633a9f187ec7d2f92b20307", func := "tideline/tidelinetop.TopMap", spec := "topMap", inPlace := ["slices.overlaps[tideline/timer.alarm]"], unfollowed := true, recurses := true, named := ["tideline/mix.lanes"], plainKeys := false, apart := false, laid := [("tideline/mix.lanes", laid_tideline_mix_lanes)], narrowed := true }
def TopMapUptoSaid : Prop := topMapUptoRow.holds Tryz.pinned (OpenSpec.upto topMapSpec)

/-- 'tidelinetop.TopStale', WHERE WHAT IT READS IS OF BULK AT MOST 1048576: true; the input reads as it did. -/
def topStaleUptoRow : OpenClaim := { program := "ytdflmplmpjghdaagreatdoor", sum := "970ddeac04f2ce9d8ffda8a8f3c496572cd2dd124633a9f187ec7d2f92b20307", func := "tideline/tidelinetop.TopStale", spec := "topStale", inPlace := ["slices.overlaps[tideline/timer.alarm]"], unfollowed := true, recurses := true, named := ["tideline/mix.lanes"], plainKeys := false, apart := false, laid := [("tideline/mix.lanes", laid_tideline_mix_lanes)], narrowed := true }
def TopStaleUptoSaid : Prop := topStaleUptoRow.holds Tryz.pinned (OpenSpec.upto topStaleSpec)

/-- 'tidelinetop.TopNewest', WHERE WHAT IT READS IS OF BULK AT MOST 1048576: true; the input reads as it did. -/
def topNewestUptoRow : OpenClaim := { program := "ytdflmplmpjghdaagreatdoor", sum := "970ddeac04f2ce9d8ffda8a8f3c496572cd2dd124633a9f187ec7d2f92b20307", func := "tideline/tidelinetop.TopNewest", spec := "topNewest", inPlace := ["slices.overlaps[tideline/timer.alarm]"], unfollowed := true, recurses := true, named := ["tideline/mix.lanes"], plainKeys := false, apart := false, laid := [("tideline/mix.lanes", laid_tideline_mix_lanes)], narrowed := true }
def TopNewestUptoSaid : Prop := topNewestUptoRow.holds Tryz.pinned (OpenSpec.upto topNewestSpec)

end Rows
end Go.Proofs.YtdflmplmpjghdaaGreatDoor
