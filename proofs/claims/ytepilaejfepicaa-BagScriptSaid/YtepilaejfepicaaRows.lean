/-
  No cell of these rows narrows 'for every input' (looked for: loops, veiled, ifaces, maps, wideKeys, modest, calm, conditions, laid).
  DERIVED. THE GIVEN ROWS OF THIS SEAT. 4 by the template 'for every input the law returns true; each argument reads behind the call as it read before'; 0 by the template 'total and deterministic' (their statements: YtepilaejfepicaaTotals.lean).
  GIVEN WITH THE SEED: the statements are not yours to turn. If you find one false, say at which input.
  Laid BY PROGRAM, IN A SANDBOX (cutbox-rows.mjs): the forced cells as the released guide's own fill.sh prints them over the translation 42b70ad7f39ad9c4… (all of the seat's roots in one cut). By AI agents, Wed Nov 11 2026. No macro, syntax, notation, axiom, sorry.
-/
import Derived.Test.YtepilaejfepicaaChecked
import GoSem.Claim
import GoSem.ClaimJoined
import GoSem.ClaimMapViews
import Derived.JoinedTies
import Derived.KernelRfl
namespace Go.Proofs.Ytepilaejfepicaa
/- THE CELL 'sum', in the pinned program and in every row, IS THE sha256 OF THE DUMP (.gsa) THAT YtepilaejfepicaaProg.lean LOADS. Nothing in Lean hashes anything: it is a label: what it is worth is what the hold of that sum in a sandbox is worth. -/
noncomputable def Try.pinned : Pinned := { name := "ytepilaejfepicaa", sum := "42b70ad7f39ad9c4634a451cf7495af4fdbe6ba354cf580d0ea723bf3e2e5ab0", checked := Try.checked }
namespace Rows
def none {H : Type} : Left H := { results := [], args := [] }

/-- 'tidelinelaw18.BagKeeps': WHATEVER THE INPUT: true; the input reads as it did. -/
def bagKeepsSpec : ChangeSpec := { name := "bagKeeps", fn := fun _ => fun
  | [d1, d2] => { results := [.lit (.bool true)], args := [d1, d2] }
  | _ => none }
def bagKeepsRow : OpenClaim := { program := "ytepilaejfepicaa", sum := "42b70ad7f39ad9c4634a451cf7495af4fdbe6ba354cf580d0ea723bf3e2e5ab0", func := "tideline/tidelinelaw18.BagKeeps", spec := "bagKeeps", apart := false }
def BagKeepsSaid : Prop := bagKeepsRow.holds Try.pinned (OpenSpec.ofChange bagKeepsSpec)

/-- ITS FALSE NEIGHBOUR: 'it returns false'. Refute it at one input. -/
def bagKeepsWrong : ChangeSpec := { name := "bagKeeps", fn := fun _ => fun
  | [d1, d2] => { results := [.lit (.bool false)], args := [d1, d2] }
  | _ => none }
def BagKeepsWrongFalsely : Prop := bagKeepsRow.holds Try.pinned (OpenSpec.ofChange bagKeepsWrong)

/-- 'tidelinelaw18.BagNew': WHATEVER THE INPUT: true; the input reads as it did. -/
def bagNewSpec : ChangeSpec := { name := "bagNew", fn := fun _ => fun
  | [d] => { results := [.lit (.bool true)], args := [d] }
  | _ => none }
def bagNewRow : OpenClaim := { program := "ytepilaejfepicaa", sum := "42b70ad7f39ad9c4634a451cf7495af4fdbe6ba354cf580d0ea723bf3e2e5ab0", func := "tideline/tidelinelaw18.BagNew", spec := "bagNew", apart := false }
def BagNewSaid : Prop := bagNewRow.holds Try.pinned (OpenSpec.ofChange bagNewSpec)

/-- ITS FALSE NEIGHBOUR: 'it returns false'. Refute it at one input. -/
def bagNewWrong : ChangeSpec := { name := "bagNew", fn := fun _ => fun
  | [d] => { results := [.lit (.bool false)], args := [d] }
  | _ => none }
def BagNewWrongFalsely : Prop := bagNewRow.holds Try.pinned (OpenSpec.ofChange bagNewWrong)

/-- 'tidelinelaw18.BagQueue': WHATEVER THE INPUT: true; the input reads as it did. -/
def bagQueueSpec : ChangeSpec := { name := "bagQueue", fn := fun _ => fun
  | [d1, d2] => { results := [.lit (.bool true)], args := [d1, d2] }
  | _ => none }
def bagQueueRow : OpenClaim := { program := "ytepilaejfepicaa", sum := "42b70ad7f39ad9c4634a451cf7495af4fdbe6ba354cf580d0ea723bf3e2e5ab0", func := "tideline/tidelinelaw18.BagQueue", spec := "bagQueue", apart := false }
def BagQueueSaid : Prop := bagQueueRow.holds Try.pinned (OpenSpec.ofChange bagQueueSpec)

/-- ITS FALSE NEIGHBOUR: 'it returns false'. Refute it at one input. -/
def bagQueueWrong : ChangeSpec := { name := "bagQueue", fn := fun _ => fun
  | [d1, d2] => { results := [.lit (.bool false)], args := [d1, d2] }
  | _ => none }
def BagQueueWrongFalsely : Prop := bagQueueRow.holds Try.pinned (OpenSpec.ofChange bagQueueWrong)

/-- 'tidelinelaw18.BagScript': WHATEVER THE INPUT: true; the input reads as it did. -/
def bagScriptSpec : ChangeSpec := { name := "bagScript", fn := fun _ => fun
  | [d1, d2] => { results := [.lit (.bool true)], args := [d1, d2] }
  | _ => none }
def bagScriptRow : OpenClaim := { program := "ytepilaejfepicaa", sum := "42b70ad7f39ad9c4634a451cf7495af4fdbe6ba354cf580d0ea723bf3e2e5ab0", func := "tideline/tidelinelaw18.BagScript", spec := "bagScript", unfollowed := true, recurses := true, apart := false }
def BagScriptSaid : Prop := bagScriptRow.holds Try.pinned (OpenSpec.ofChange bagScriptSpec)

/-- ITS FALSE NEIGHBOUR: 'it returns false'. Refute it at one input. -/
def bagScriptWrong : ChangeSpec := { name := "bagScript", fn := fun _ => fun
  | [d1, d2] => { results := [.lit (.bool false)], args := [d1, d2] }
  | _ => none }
def BagScriptWrongFalsely : Prop := bagScriptRow.holds Try.pinned (OpenSpec.ofChange bagScriptWrong)

/- THE SECOND FORM. 'bulk': how many values and letters a reading holds, each counted each time it is reached (what is shared counts as often as it is met; a slice's spare places count too). A statement '..UptoSaid' is the law's where the arguments, and the package variables that the reading takes, are together of bulk at most 1048576: NARROWER than '..Said'. Prove '..Said' where nothing that the law and all that it calls make is longer than what came in: it says more and counts as full. Else prove '..UptoSaid'. A law counts once. -/
mutual
def uptoBulk {H : Type} : DataW H → Nat
  | .lit (.string bytes) => bytes.length + 1
  | .lit _ => 1
  | .nil => 1
  | .ptr d => uptoBulk d + 1
  | .slice elems spare => uptoBulkAll elems + uptoBulkAll spare + 1
  | .agg parts => uptoBulkAll parts + 1
  | .iface _ d => uptoBulk d + 1
  | .map entries => uptoBulkEntries entries + 1
  | .held _ => 1
def uptoBulkAll {H : Type} : List (DataW H) → Nat
  | [] => 0
  | d :: r => uptoBulk d + uptoBulkAll r
def uptoBulkEntries {H : Type} : List (Lit × DataW H) → Nat
  | [] => 0
  | x :: r => uptoBulkEntry x + uptoBulkEntries r
def uptoBulkEntry {H : Type} : Lit × DataW H → Nat
  | (.string bytes, d) => bytes.length + uptoBulk d + 1
  | (_, d) => uptoBulk d + 1
 end
def uptoSmall : (H : Type) → List (DataW H) → Bool := fun _ ds => decide (uptoBulkAll ds ≤ 1048576)
def OpenSpec.upto (s : _root_.Go.ChangeSpec) : _root_.Go.OpenSpec := { _root_.Go.OpenSpec.ofChange s with cond := some uptoSmall }

/-- 'tidelinelaw18.BagKeeps', WHERE WHAT IT READS IS OF BULK AT MOST 1048576: true; the input reads as it did. -/
def bagKeepsUptoRow : OpenClaim := { program := "ytepilaejfepicaa", sum := "42b70ad7f39ad9c4634a451cf7495af4fdbe6ba354cf580d0ea723bf3e2e5ab0", func := "tideline/tidelinelaw18.BagKeeps", spec := "bagKeeps", apart := false, narrowed := true }
def BagKeepsUptoSaid : Prop := bagKeepsUptoRow.holds Try.pinned (OpenSpec.upto bagKeepsSpec)

/-- 'tidelinelaw18.BagNew', WHERE WHAT IT READS IS OF BULK AT MOST 1048576: true; the input reads as it did. -/
def bagNewUptoRow : OpenClaim := { program := "ytepilaejfepicaa", sum := "42b70ad7f39ad9c4634a451cf7495af4fdbe6ba354cf580d0ea723bf3e2e5ab0", func := "tideline/tidelinelaw18.BagNew", spec := "bagNew", apart := false, narrowed := true }
def BagNewUptoSaid : Prop := bagNewUptoRow.holds Try.pinned (OpenSpec.upto bagNewSpec)

/-- 'tidelinelaw18.BagQueue', WHERE WHAT IT READS IS OF BULK AT MOST 1048576: true; the input reads as it did. -/
def bagQueueUptoRow : OpenClaim := { program := "ytepilaejfepicaa", sum := "42b70ad7f39ad9c4634a451cf7495af4fdbe6ba354cf580d0ea723bf3e2e5ab0", func := "tideline/tidelinelaw18.BagQueue", spec := "bagQueue", apart := false, narrowed := true }
def BagQueueUptoSaid : Prop := bagQueueUptoRow.holds Try.pinned (OpenSpec.upto bagQueueSpec)

/-- 'tidelinelaw18.BagScript', WHERE WHAT IT READS IS OF BULK AT MOST 1048576: true; the input reads as it did. -/
def bagScriptUptoRow : OpenClaim := { program := "ytepilaejfepicaa", sum := "42b70ad7f39ad9c4634a451cf7495af4fdbe6ba354cf580d0ea723bf3e2e5ab0", func := "tideline/tidelinelaw18.BagScript", spec := "bagScript", unfollowed := true, recurses := true, apart := false, narrowed := true }
def BagScriptUptoSaid : Prop := bagScriptUptoRow.holds Try.pinned (OpenSpec.upto bagScriptSpec)

end Rows
end Go.Proofs.Ytepilaejfepicaa
