/-
  The store: New.
-/
import Derived.Test.YtdflmplmpjghdaaGreatDoorWrite
namespace Go.Proofs.YtdflmplmpjghdaaGreatDoor
open Go.ChangeShapes Go.WideShapes Go.ChangeAt Go.RowKit Go.Deep
set_option linter.unusedVariables false
set_option linter.unusedSimpArgs false
set_option maxRecDepth 100000

set_option maxHeartbeats 4000000 in
theorem tnew_any (mb : Nat) (w : World) : Calls Tryz.prog 119 #[tv 0 0 0, joinf mb] w fun e w' => e = .returned (.pointer (some ⟨w.heap.size + 1, 0, none⟩)) ∧
    w' = (w.alloc (.cells #[.int .i64 0, .int .u64 0, .int .u64 0] 49 (0, 0))).alloc (.cells #[.int .i64 0, .int .u64 0, .int .u64 0, joinf mb, .pointer none] 222 (0, 0)) := by
  go_enter Tryz.func119, Tryz.ntmps119
  go_wp2_with fail
  go_ret
  exact ⟨rfl, rfl⟩
/-- A new store. -/
def SNewOf (w : World) (node : Int) (x : Ending) (w' : World) : Prop := ∃ sb tb mb, x = .returned (.tuple #[.pointer (some ⟨sb, 0, none⟩), .int .i64 0]) ∧ w.heap.size ≤ sb ∧ w.heap.size ≤ tb ∧ w.heap.size ≤ mb ∧ StAt w' sb tb mb node 0 0 .nil ∧ Below w.heap.size w w'
set_option maxRecDepth 100000 in
set_option maxHeartbeats 4000000 in
theorem load_nil (node : Int) (h1 : 0 ≤ node) (h2 : node < 8) (w : World) (hL : Lanes w) : Calls Tryz.prog 79 #[.int .i64 node, .int .i64 0, .slice none 0 0] w (SNewOf w node) := by
  have HL := Lib.hid hL
  clear hL
  go_enter Tryz.func79, Tryz.ntmps79
  go_wp2_with fail
  refine (newm_any w).mono ?_
  rintro e w1 ⟨rfl, rfl⟩
  go_wp2_with fail
  refine (tnew_any w.heap.size _).mono ?_
  rintro e w2 ⟨rfl, rfl⟩
  go_wp2_with fail
  have g1 : ((((w.alloc (.cells #[.int .i64 0] 276 (0, 0))).alloc (.cells #[.int .i64 node, .int .i64 0, .pointer (some ⟨w.heap.size, 0, none⟩), .pointer (some ⟨w.heap.size + 1 + 1 + 1, 0, none⟩)] storeT (0, 0))).alloc (.cells #[.int .i64 0, .int .u64 0, .int .u64 0] 49 (0, 0))).alloc (.cells #[.int .i64 0, .int .u64 0, .int .u64 0, joinf w.heap.size, .pointer none] 222 (0, 0))).heap[w.heap.size + 1]? = some (.cells #[.int .i64 node, .int .i64 0, .pointer (some ⟨w.heap.size, 0, none⟩), .pointer (some ⟨w.heap.size + 1 + 1 + 1, 0, none⟩)] storeT (0, 0)) := by (repeat (first | (with_reducible assumption) | (with_reducible exact Below.refl _ _) | (with_reducible refine heap_drew ?_) | (focus ((with_reducible refine heap_new ?_) ; simp ; done)) | (with_reducible apply heap_set_to) | (focus ((with_reducible refine heap_set_ne ?_ ?_ _) ; rotate_left ; (focus (first | omega | (simp ; done) | (simp ; omega))))) | (with_reducible refine heap_old ?_) | (with_reducible refine Below.drew ?_) | (with_reducible refine below_set ?_ _ _) | (focus ((with_reducible refine Below.setCell ?_ ?_ _) ; rotate_left ; (focus (first | omega | (simp ; done) | (simp ; omega))))) | (focus ((with_reducible refine Below.alloc ?_ ?_ _) ; rotate_left ; (focus (first | omega | (simp ; done) | (simp ; omega))))) | (with_reducible rfl) | (focus (simp ; done))))
  have g0 : ((((w.alloc (.cells #[.int .i64 0] 276 (0, 0))).alloc (.cells #[.int .i64 node, .int .i64 0, .pointer (some ⟨w.heap.size, 0, none⟩), .pointer (some ⟨w.heap.size + 1 + 1 + 1, 0, none⟩)] storeT (0, 0))).alloc (.cells #[.int .i64 0, .int .u64 0, .int .u64 0] 49 (0, 0))).alloc (.cells #[.int .i64 0, .int .u64 0, .int .u64 0, joinf w.heap.size, .pointer none] 222 (0, 0))).heap[w.heap.size]? = some (.cells #[.int .i64 0] 276 (0, 0)) := by (repeat (first | (with_reducible assumption) | (with_reducible exact Below.refl _ _) | (with_reducible refine heap_drew ?_) | (focus ((with_reducible refine heap_new ?_) ; simp ; done)) | (with_reducible apply heap_set_to) | (focus ((with_reducible refine heap_set_ne ?_ ?_ _) ; rotate_left ; (focus (first | omega | (simp ; done) | (simp ; omega))))) | (with_reducible refine heap_old ?_) | (with_reducible refine Below.drew ?_) | (with_reducible refine below_set ?_ _ _) | (focus ((with_reducible refine Below.setCell ?_ ?_ _) ; rotate_left ; (focus (first | omega | (simp ; done) | (simp ; omega))))) | (focus ((with_reducible refine Below.alloc ?_ ?_ _) ; rotate_left ; (focus (first | omega | (simp ; done) | (simp ; omega))))) | (with_reducible rfl) | (focus (simp ; done))))
  have g3 : ((((w.alloc (.cells #[.int .i64 0] 276 (0, 0))).alloc (.cells #[.int .i64 node, .int .i64 0, .pointer (some ⟨w.heap.size, 0, none⟩), .pointer (some ⟨w.heap.size + 1 + 1 + 1, 0, none⟩)] storeT (0, 0))).alloc (.cells #[.int .i64 0, .int .u64 0, .int .u64 0] 49 (0, 0))).alloc (.cells #[.int .i64 0, .int .u64 0, .int .u64 0, joinf w.heap.size, .pointer none] 222 (0, 0))).heap[w.heap.size + 1 + 1 + 1]? = some (.cells #[.int .i64 0, .int .u64 0, .int .u64 0, joinf w.heap.size, .pointer none] 222 (0, 0)) := by (repeat (first | (with_reducible assumption) | (with_reducible exact Below.refl _ _) | (with_reducible refine heap_drew ?_) | (focus ((with_reducible refine heap_new ?_) ; simp ; done)) | (with_reducible apply heap_set_to) | (focus ((with_reducible refine heap_set_ne ?_ ?_ _) ; rotate_left ; (focus (first | omega | (simp ; done) | (simp ; omega))))) | (with_reducible refine heap_old ?_) | (with_reducible refine Below.drew ?_) | (with_reducible refine below_set ?_ _ _) | (focus ((with_reducible refine Below.setCell ?_ ?_ _) ; rotate_left ; (focus (first | omega | (simp ; done) | (simp ; omega))))) | (focus ((with_reducible refine Below.alloc ?_ ?_ _) ; rotate_left ; (focus (first | omega | (simp ; done) | (simp ; omega))))) | (with_reducible rfl) | (focus (simp ; done))))
  have hb : Below w.heap.size w ((((w.alloc (.cells #[.int .i64 0] 276 (0, 0))).alloc (.cells #[.int .i64 node, .int .i64 0, .pointer (some ⟨w.heap.size, 0, none⟩), .pointer (some ⟨w.heap.size + 1 + 1 + 1, 0, none⟩)] storeT (0, 0))).alloc (.cells #[.int .i64 0, .int .u64 0, .int .u64 0] 49 (0, 0))).alloc (.cells #[.int .i64 0, .int .u64 0, .int .u64 0, joinf w.heap.size, .pointer none] 222 (0, 0))) := by (repeat (first | (with_reducible assumption) | (with_reducible exact Below.refl _ _) | (with_reducible refine heap_drew ?_) | (focus ((with_reducible refine heap_new ?_) ; simp ; done)) | (with_reducible apply heap_set_to) | (focus ((with_reducible refine heap_set_ne ?_ ?_ _) ; rotate_left ; (focus (first | omega | (simp ; done) | (simp ; omega))))) | (with_reducible refine heap_old ?_) | (with_reducible refine Below.drew ?_) | (with_reducible refine below_set ?_ _ _) | (focus ((with_reducible refine Below.setCell ?_ ?_ _) ; rotate_left ; (focus (first | omega | (simp ; done) | (simp ; omega))))) | (focus ((with_reducible refine Below.alloc ?_ ?_ _) ; rotate_left ; (focus (first | omega | (simp ; done) | (simp ; omega))))) | (with_reducible rfl) | (focus (simp ; done))))
  generalize ((((w.alloc (.cells #[.int .i64 0] 276 (0, 0))).alloc (.cells #[.int .i64 node, .int .i64 0, .pointer (some ⟨w.heap.size, 0, none⟩), .pointer (some ⟨w.heap.size + 1 + 1 + 1, 0, none⟩)] storeT (0, 0))).alloc (.cells #[.int .i64 0, .int .u64 0, .int .u64 0] 49 (0, 0))).alloc (.cells #[.int .i64 0, .int .u64 0, .int .u64 0, joinf w.heap.size, .pointer none] 222 (0, 0))) = wn at *
  have HZ := Lib.hid (And.intro (StAt.mk (t := .nil) (M := 0) g1 g0 ⟨none, g3, rfl⟩ (HL.out.below hb HL.out.lt)) hb)
  clear g0 g1 g3 hb
  go_loopw [42] (fun s wr => s = .int .i64 0 ∧ wr = wn) (fun _ _ => 0)
  case atStart => exact ⟨rfl, rfl⟩
  case round =>
    obtain ⟨rfl, rfl⟩ := hrel
    go_wp2_with fail
    go_ret2
    exact ⟨_, _, _, rfl, by omega, by omega, Nat.le_refl _, HZ.out.1, HZ.out.2⟩
theorem snew_any (node : Int) (h1 : 0 ≤ node) (h2 : node < 8) (w : World) (hL : Lanes w) : Calls Tryz.prog 48 #[.int .i64 node] w (SNewOf w node) := by
  have HL := Lib.hid hL
  clear hL
  go_enter Tryz.func48, Tryz.ntmps48
  go_wp2_with fail
  refine (load_nil node h1 h2 w HL.out).mono ?_
  rintro e w' ⟨sb, tb, mb, rfl, l1, l2, l3, hs, hb⟩
  have HZ := Lib.hid (And.intro hs hb)
  clear hs hb
  go_wp2_with fail
  go_ret2
  exact ⟨sb, tb, mb, rfl, l1, l2, l3, HZ.out.1, HZ.out.2⟩
end Go.Proofs.YtdflmplmpjghdaaGreatDoor
