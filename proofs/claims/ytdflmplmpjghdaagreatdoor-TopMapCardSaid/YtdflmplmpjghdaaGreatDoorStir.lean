/-
  mix.stir: a word is mixed into both lanes.
-/
import Derived.Test.YtdflmplmpjghdaaGreatDoorKit
namespace Go.Proofs.YtdflmplmpjghdaaGreatDoor
open Go.ChangeShapes Go.WideShapes Go.ChangeAt Go.RowKit Go.Deep
set_option linter.unusedVariables false
set_option linter.unusedSimpArgs false
set_option maxRecDepth 100000

/-- What the variable tideline/mix.lanes holds. -/
def Lanes (w : World) : Prop :=
  w.cell? ⟨0, 0, none⟩ = some (.int .u64 2611923443488327891) ∧ w.cell? ⟨0, 1, none⟩ = some (.int .u64 11400714819323198485) ∧ w.cell? ⟨0, 2, none⟩ = some (.int .i64 29) ∧
  w.cell? ⟨0, 3, none⟩ = some (.int .u64 1376283091369227076) ∧ w.cell? ⟨0, 4, none⟩ = some (.int .u64 14029467366897019727) ∧ w.cell? ⟨0, 5, none⟩ = some (.int .i64 32)
theorem Lanes.lt {w : World} (h : Lanes w) : 0 < w.heap.size := cell_lt h.1
theorem Lanes.below {B : Nat} {w w' : World} (h : Lanes w) (hb : Below B w w') (hB : 0 < B) : Lanes w' :=
  ⟨(hb.cell hB).trans h.1, (hb.cell hB).trans h.2.1, (hb.cell hB).trans h.2.2.1, (hb.cell hB).trans h.2.2.2.1, (hb.cell hB).trans h.2.2.2.2.1, (hb.cell hB).trans h.2.2.2.2.2⟩

/-- The lanes' steps. -/
def stp0 (x wd : Int) : Int := bits BinOp.xor IntKind.u64 (IntKind.u64.wrap (bits BinOp.xor IntKind.u64 x wd * 11400714819323198485)) (IntKind.u64.wrap (bits BinOp.xor IntKind.u64 x wd * 11400714819323198485) / 536870912)
def stp1 (x wd : Int) : Int := bits BinOp.xor IntKind.u64 (IntKind.u64.wrap (bits BinOp.xor IntKind.u64 x wd * 14029467366897019727)) (IntKind.u64.wrap (bits BinOp.xor IntKind.u64 x wd * 14029467366897019727) / 4294967296)

abbrev lanesV : Value := .agg #[.int .u64 2611923443488327891, .int .u64 11400714819323198485, .int .i64 29, .int .u64 1376283091369227076, .int .u64 14029467366897019727, .int .i64 32]
theorem run_lane0 (w : World) : (Instr.index 171 lanesV (.int .i64 0)).run Tryz.prog w = .ok (.agg #[.int .u64 2611923443488327891, .int .u64 11400714819323198485, .int .i64 29]) w := by kernel_rfl
theorem run_lane1 (w : World) : (Instr.index 171 lanesV (.int .i64 1)).run Tryz.prog w = .ok (.agg #[.int .u64 1376283091369227076, .int .u64 14029467366897019727, .int .i64 32]) w := by kernel_rfl

set_option maxHeartbeats 2000000 in
theorem stir_any (b : Nat) (x y wd : Int) (w : World) (hL : Lanes w) (h : w.heap[b]? = some (.cells #[.int .u64 x, .int .u64 y] 47 (0, 0))) :
    Calls Tryz.prog 81 #[.pointer (some ⟨b, 0, none⟩), .int .u64 wd] w fun e w' => e = .returned (.tuple #[]) ∧
      Below ((w.setCell ⟨b, 0, none⟩ (.int .u64 (stp0 x wd))).setCell ⟨b, 1, none⟩ (.int .u64 (stp1 y wd))).heap.size ((w.setCell ⟨b, 0, none⟩ (.int .u64 (stp0 x wd))).setCell ⟨b, 1, none⟩ (.int .u64 (stp1 y wd))) w' := by
  rw [World.size_setCell, World.size_setCell]
  obtain ⟨l0, l1, l2, l3, l4, l5⟩ := hL
  have q0 := blk2 h
  have x0 := run_lane0
  have x1 := run_lane1
  go_enter Tryz.func81, Tryz.ntmps81
  go_wp2_with fail
  clear l0 l1 l2 l3 l4 l5
  refine wp_loop_rounds 3 ?_
  rw [rounds_succ]
  go_wp2_with fail
  obtain ⟨lb, hlb⟩ : ∃ g, g = w.heap.size := ⟨_, rfl⟩
  have g1 : (w.alloc (.cells #[.int .u64 2611923443488327891, .int .u64 11400714819323198485, .int .i64 29] 170 (0, 0))).heap[w.heap.size]? = some (.cells #[.int .u64 2611923443488327891, .int .u64 11400714819323198485, .int .i64 29] 170 (0, 0)) := by (repeat (first | (with_reducible assumption) | (with_reducible exact Below.refl _ _) | (with_reducible refine heap_drew ?_) | (focus ((with_reducible refine heap_new ?_) ; simp ; done)) | (with_reducible apply heap_set_to) | (focus ((with_reducible refine heap_set_ne ?_ ?_ _) ; rotate_left ; (focus (first | omega | (simp ; done) | (simp ; omega))))) | (with_reducible refine heap_old ?_) | (with_reducible refine Below.drew ?_) | (with_reducible refine below_set ?_ _ _) | (focus ((with_reducible refine Below.setCell ?_ ?_ _) ; rotate_left ; (focus (first | omega | (simp ; done) | (simp ; omega))))) | (focus ((with_reducible refine Below.alloc ?_ ?_ _) ; rotate_left ; (focus (first | omega | (simp ; done) | (simp ; omega))))) | (with_reducible rfl) | (focus (simp ; done))))
  rw [← hlb] at g1 ⊢
  have hl1 : w.heap.size ≤ lb := by omega
  have hl2 : b < lb := by have := blk_lt h; omega
  clear hlb
  have hSt : Stable (fun w1 : World => (Below w.heap.size w w1) ∧ (w1.heap[b]? = some (.cells #[.int .u64 x, .int .u64 y] 47 (0, 0))) ∧ (w1.heap[lb]? = some (.cells #[.int .u64 2611923443488327891, .int .u64 11400714819323198485, .int .i64 29] 170 (0, 0)))) := by repeat (first | exact stable_ext _ | exact stable_blk _ _ | exact stable_true | (refine stable_bel ?_ ; (focus (first | (simp [World.size_setCell] ; done) | (simp [World.setCell] ; done)))) | refine Stable.and ?_ ?_)
  refine wp_region_x [0, 1, 2, 3, 4, 5, 6, 7, 8, 9, 10] [0, 0, 0, 0, 1, 0, 0, 0, 1, 0, 0] (fun w1 => (Below w.heap.size w w1) ∧ (w1.heap[b]? = some (.cells #[.int .u64 x, .int .u64 y] 47 (0, 0))) ∧ (w1.heap[lb]? = some (.cells #[.int .u64 2611923443488327891, .int .u64 11400714819323198485, .int .i64 29] 170 (0, 0)))) (by kernel_rfl) (by kernel_rfl) ?_ ?_
  · (refine ⟨?_, ?_, ?_⟩ <;> (repeat (first | (with_reducible assumption) | (with_reducible exact Below.refl _ _) | (with_reducible refine heap_drew ?_) | (focus ((with_reducible refine heap_new ?_) ; simp ; done)) | (with_reducible apply heap_set_to) | (focus ((with_reducible refine heap_set_ne ?_ ?_ _) ; rotate_left ; (focus (first | omega | (simp ; done) | (simp ; omega))))) | (with_reducible refine heap_old ?_) | (with_reducible refine Below.drew ?_) | (with_reducible refine below_set ?_ _ _) | (focus ((with_reducible refine Below.setCell ?_ ?_ _) ; rotate_left ; (focus (first | omega | (simp ; done) | (simp ; omega))))) | (focus ((with_reducible refine Below.alloc ?_ ?_ _) ; rotate_left ; (focus (first | omega | (simp ; done) | (simp ; omega))))) | (with_reducible rfl) | (focus (simp ; done)))))
  simp only [List.map_cons, List.map_nil, List.getD_cons_zero, List.getD_cons_succ]
  (refine x_pure rfl _ ?_ rfl (by simp) ?_ ?_ ; rotate_left ; · (intro w1 K hK ; go_wp2_with fail ; exact rfl))
  simp only [Act.put, List.setIfInBounds_toArray, List.set_cons_succ, List.set_cons_zero]
  (refine x_pure rfl _ ?_ rfl (by simp) ?_ ?_ ; rotate_left ; · (intro w1 K hK ; go_wp2_with fail ; exact rfl))
  simp only [Act.put, List.setIfInBounds_toArray, List.set_cons_succ, List.set_cons_zero]
  (refine x_pure rfl _ ?_ rfl (by simp) ?_ ?_ ; rotate_left ; · (intro w1 K hK ; go_wp2_with fail ; exact rfl))
  simp only [Act.put, List.setIfInBounds_toArray, List.set_cons_succ, List.set_cons_zero]
  (refine x_pure rfl _ ?_ rfl (by simp) ?_ ?_ ; rotate_left ; · (intro w1 K hK ; go_wp2_with fail ; exact rfl))
  simp only [Act.put, List.setIfInBounds_toArray, List.set_cons_succ, List.set_cons_zero]
  (refine x_quiet rfl hSt (fun _ h => h) _ ?_ rfl (by simp) ?_ ?_ ; rotate_left ; · (intro w1 hC K hK ; obtain ⟨hb, g0, g1⟩ := hC ; have q0 := blk2 g0 ; have q1 := blk3 g1 ; go_wp2_with fail ; refine ⟨?_, Below.refl _ _⟩ ; exact rfl))
  simp only [Act.put, List.setIfInBounds_toArray, List.set_cons_succ, List.set_cons_zero]
  (refine x_pure rfl _ ?_ rfl (by simp) ?_ ?_ ; rotate_left ; · (intro w1 K hK ; go_wp2_with fail ; exact rfl))
  simp only [Act.put, List.setIfInBounds_toArray, List.set_cons_succ, List.set_cons_zero]
  (refine x_pure rfl _ ?_ rfl (by simp) ?_ ?_ ; rotate_left ; · (intro w1 K hK ; go_wp2_with fail ; exact rfl))
  simp only [Act.put, List.setIfInBounds_toArray, List.set_cons_succ, List.set_cons_zero]
  (refine x_pure rfl _ ?_ rfl (by simp) ?_ ?_ ; rotate_left ; · (intro w1 K hK ; go_wp2_with fail ; exact rfl))
  simp only [Act.put, List.setIfInBounds_toArray, List.set_cons_succ, List.set_cons_zero]
  (refine x_quiet rfl hSt (fun _ h => h) _ ?_ rfl (by simp) ?_ ?_ ; rotate_left ; · (intro w1 hC K hK ; obtain ⟨hb, g0, g1⟩ := hC ; have q0 := blk2 g0 ; have q1 := blk3 g1 ; go_wp2_with fail ; refine ⟨?_, Below.refl _ _⟩ ; exact rfl))
  simp only [Act.put, List.setIfInBounds_toArray, List.set_cons_succ, List.set_cons_zero]
  (refine x_pure rfl _ ?_ rfl (by simp) ?_ ?_ ; rotate_left ; · (intro w1 K hK ; go_wp2_with fail ; exact rfl))
  simp only [Act.put, List.setIfInBounds_toArray, List.set_cons_succ, List.set_cons_zero]
  (refine x_pure rfl _ ?_ rfl (by simp) ?_ ?_ ; rotate_left ; · (intro w1 K hK ; go_wp2_with fail ; exact rfl))
  simp only [Act.put, List.setIfInBounds_toArray, List.set_cons_succ, List.set_cons_zero]
  first | refine x_nil ?_ | refine x_end ?_
  rintro w1 ⟨hb, g0, g1⟩
  obtain ⟨X, hX⟩ : ∃ X, X = IntKind.u64.wrap (bits BinOp.xor IntKind.u64 x wd * 11400714819323198485) := ⟨_, rfl⟩
  rw [← hX]
  have HX : Hid (X = _) := hX
  clear hX
  go_wp2_with fail
  have hSt : Stable (fun w1 : World => (Below w.heap.size w w1) ∧ (w1.heap[b]? = some (.cells #[.int .u64 x, .int .u64 y] 47 (0, 0))) ∧ (w1.heap[lb]? = some (.cells #[.int .u64 2611923443488327891, .int .u64 11400714819323198485, .int .i64 29] 170 (0, 0)))) := by repeat (first | exact stable_ext _ | exact stable_blk _ _ | exact stable_true | (refine stable_bel ?_ ; (focus (first | (simp [World.size_setCell] ; done) | (simp [World.setCell] ; done)))) | refine Stable.and ?_ ?_)
  refine wp_region_x [0, 1, 2, 3, 4, 5, 6, 7, 8, 9, 10] [0, 0, 0, 0, 0, 1, 0, 0, 0, 0, 3] (fun w1 => (Below w.heap.size w w1) ∧ (w1.heap[b]? = some (.cells #[.int .u64 x, .int .u64 y] 47 (0, 0))) ∧ (w1.heap[lb]? = some (.cells #[.int .u64 2611923443488327891, .int .u64 11400714819323198485, .int .i64 29] 170 (0, 0)))) (by kernel_rfl) (by kernel_rfl) ?_ ?_
  · (refine ⟨?_, ?_, ?_⟩ <;> (repeat (first | (with_reducible assumption) | (with_reducible exact Below.refl _ _) | (with_reducible refine heap_drew ?_) | (focus ((with_reducible refine heap_new ?_) ; simp ; done)) | (with_reducible apply heap_set_to) | (focus ((with_reducible refine heap_set_ne ?_ ?_ _) ; rotate_left ; (focus (first | omega | (simp ; done) | (simp ; omega))))) | (with_reducible refine heap_old ?_) | (with_reducible refine Below.drew ?_) | (with_reducible refine below_set ?_ _ _) | (focus ((with_reducible refine Below.setCell ?_ ?_ _) ; rotate_left ; (focus (first | omega | (simp ; done) | (simp ; omega))))) | (focus ((with_reducible refine Below.alloc ?_ ?_ _) ; rotate_left ; (focus (first | omega | (simp ; done) | (simp ; omega))))) | (with_reducible rfl) | (focus (simp ; done)))))
  simp only [List.map_cons, List.map_nil, List.getD_cons_zero, List.getD_cons_succ]
  (refine x_pure rfl _ ?_ rfl (by simp) ?_ ?_ ; rotate_left ; · (intro w1 K hK ; go_wp2_with fail ; exact rfl))
  simp only [Act.put, List.setIfInBounds_toArray, List.set_cons_succ, List.set_cons_zero]
  (refine x_pure rfl _ ?_ rfl (by simp) ?_ ?_ ; rotate_left ; · (intro w1 K hK ; go_wp2_with fail ; exact rfl))
  simp only [Act.put, List.setIfInBounds_toArray, List.set_cons_succ, List.set_cons_zero]
  (refine x_pure rfl _ ?_ rfl (by simp) ?_ ?_ ; rotate_left ; · (intro w1 K hK ; go_wp2_with fail ; exact rfl))
  simp only [Act.put, List.setIfInBounds_toArray, List.set_cons_succ, List.set_cons_zero]
  (refine x_pure rfl _ ?_ rfl (by simp) ?_ ?_ ; rotate_left ; · (intro w1 K hK ; go_wp2_with fail ; exact rfl))
  simp only [Act.put, List.setIfInBounds_toArray, List.set_cons_succ, List.set_cons_zero]
  (refine x_pure rfl _ ?_ rfl (by simp) ?_ ?_ ; rotate_left ; · (intro w1 K hK ; go_wp2_with fail ; exact rfl))
  simp only [Act.put, List.setIfInBounds_toArray, List.set_cons_succ, List.set_cons_zero]
  (refine x_quiet rfl hSt (fun _ h => h) _ ?_ rfl (by simp) ?_ ?_ ; rotate_left ; · (intro w1 hC K hK ; obtain ⟨hb, g0, g1⟩ := hC ; have q0 := blk2 g0 ; have q1 := blk3 g1 ; go_wp2_with fail ; refine ⟨?_, Below.refl _ _⟩ ; exact rfl))
  simp only [Act.put, List.setIfInBounds_toArray, List.set_cons_succ, List.set_cons_zero]
  (refine x_pure rfl _ ?_ rfl (by simp) ?_ ?_ ; rotate_left ; · (intro w1 K hK ; go_wp2_with fail ; exact rfl))
  simp only [Act.put, List.setIfInBounds_toArray, List.set_cons_succ, List.set_cons_zero]
  (refine x_pure rfl _ ?_ rfl (by simp) ?_ ?_ ; rotate_left ; · (intro w1 K hK ; go_wp2_with fail ; exact rfl))
  simp only [Act.put, List.setIfInBounds_toArray, List.set_cons_succ, List.set_cons_zero]
  (refine x_pure rfl _ ?_ rfl (by simp) ?_ ?_ ; rotate_left ; · (intro w1 K hK ; go_wp2_with fail ; exact rfl))
  simp only [Act.put, List.setIfInBounds_toArray, List.set_cons_succ, List.set_cons_zero]
  (refine x_pure rfl _ ?_ rfl (by simp) ?_ ?_ ; rotate_left ; · (intro w1 K hK ; go_wp2_with fail ; exact rfl))
  simp only [Act.put, List.setIfInBounds_toArray, List.set_cons_succ, List.set_cons_zero]
  refine x_write rfl ?_
  intro w1 hD K hK ; obtain ⟨hb, g0, g1⟩ := hD ; have q0 := blk2 g0 ; have q1 := blk3 g1
  go_wp2_with fail
  first | refine x_nil ?_ | refine x_end ?_
  rintro w2 hwe
  have f0 : w2.heap[b]? = some (.cells #[.int .u64 (bits BinOp.xor IntKind.u64 X (X / 536870912)), .int .u64 y] 47 (0, 0)) := by rw [hwe] ; (repeat (first | (with_reducible assumption) | (with_reducible exact Below.refl _ _) | (with_reducible refine heap_drew ?_) | (focus ((with_reducible refine heap_new ?_) ; simp ; done)) | (with_reducible apply heap_set_to) | (focus ((with_reducible refine heap_set_ne ?_ ?_ _) ; rotate_left ; (focus (first | omega | (simp ; done) | (simp ; omega))))) | (with_reducible refine heap_old ?_) | (with_reducible refine Below.drew ?_) | (with_reducible refine below_set ?_ _ _) | (focus ((with_reducible refine Below.setCell ?_ ?_ _) ; rotate_left ; (focus (first | omega | (simp ; done) | (simp ; omega))))) | (focus ((with_reducible refine Below.alloc ?_ ?_ _) ; rotate_left ; (focus (first | omega | (simp ; done) | (simp ; omega))))) | (with_reducible rfl) | (focus (simp ; done))))
  have fb : Below w.heap.size (w.setCell ⟨b, 0, none⟩ (.int .u64 (bits BinOp.xor IntKind.u64 X (X / 536870912)))) w2 := by rw [hwe] ; (repeat (first | (with_reducible assumption) | (with_reducible exact Below.refl _ _) | (with_reducible refine heap_drew ?_) | (focus ((with_reducible refine heap_new ?_) ; simp ; done)) | (with_reducible apply heap_set_to) | (focus ((with_reducible refine heap_set_ne ?_ ?_ _) ; rotate_left ; (focus (first | omega | (simp ; done) | (simp ; omega))))) | (with_reducible refine heap_old ?_) | (with_reducible refine Below.drew ?_) | (with_reducible refine below_set ?_ _ _) | (focus ((with_reducible refine Below.setCell ?_ ?_ _) ; rotate_left ; (focus (first | omega | (simp ; done) | (simp ; omega))))) | (focus ((with_reducible refine Below.alloc ?_ ?_ _) ; rotate_left ; (focus (first | omega | (simp ; done) | (simp ; omega))))) | (with_reducible rfl) | (focus (simp ; done))))
  clear hwe
  obtain ⟨x', hx'⟩ : ∃ x', x' = bits BinOp.xor IntKind.u64 X (X / 536870912) := ⟨_, rfl⟩
  rw [← hx'] at f0 fb ⊢
  have HX' : Hid (x' = stp0 x wd) := by unfold Hid; rw [hx', HX.out]; rfl
  clear hx' HX hSt
  go_wp2_with fail
  rw [rounds_succ]
  go_wp2_with fail
  have hsz := fb.size
  rw [World.size_setCell] at hsz
  obtain ⟨lc, hlc⟩ : ∃ g, g = w2.heap.size := ⟨_, rfl⟩
  have f1 : (w2.alloc (.cells #[.int .u64 1376283091369227076, .int .u64 14029467366897019727, .int .i64 32] 170 (0, 0))).heap[w2.heap.size]? = some (.cells #[.int .u64 1376283091369227076, .int .u64 14029467366897019727, .int .i64 32] 170 (0, 0)) := by (repeat (first | (with_reducible assumption) | (with_reducible exact Below.refl _ _) | (with_reducible refine heap_drew ?_) | (focus ((with_reducible refine heap_new ?_) ; simp ; done)) | (with_reducible apply heap_set_to) | (focus ((with_reducible refine heap_set_ne ?_ ?_ _) ; rotate_left ; (focus (first | omega | (simp ; done) | (simp ; omega))))) | (with_reducible refine heap_old ?_) | (with_reducible refine Below.drew ?_) | (with_reducible refine below_set ?_ _ _) | (focus ((with_reducible refine Below.setCell ?_ ?_ _) ; rotate_left ; (focus (first | omega | (simp ; done) | (simp ; omega))))) | (focus ((with_reducible refine Below.alloc ?_ ?_ _) ; rotate_left ; (focus (first | omega | (simp ; done) | (simp ; omega))))) | (with_reducible rfl) | (focus (simp ; done))))
  rw [← hlc] at f1 ⊢
  have hl3 : w.heap.size ≤ lc := by omega
  have hl4 : b < lc := by have := blk_lt f0; omega
  clear hlc
  have hSt : Stable (fun w1 : World => (Below w.heap.size (w.setCell ⟨b, 0, none⟩ (.int .u64 x')) w1) ∧ (w1.heap[b]? = some (.cells #[.int .u64 x', .int .u64 y] 47 (0, 0))) ∧ (w1.heap[lc]? = some (.cells #[.int .u64 1376283091369227076, .int .u64 14029467366897019727, .int .i64 32] 170 (0, 0)))) := by repeat (first | exact stable_ext _ | exact stable_blk _ _ | exact stable_true | (refine stable_bel ?_ ; (focus (first | (simp [World.size_setCell] ; done) | (simp [World.setCell] ; done)))) | refine Stable.and ?_ ?_)
  refine wp_region_x [0, 1, 2, 3, 4, 5, 6, 7, 8, 9, 10] [0, 0, 0, 0, 1, 0, 0, 0, 1, 0, 0] (fun w1 => (Below w.heap.size (w.setCell ⟨b, 0, none⟩ (.int .u64 x')) w1) ∧ (w1.heap[b]? = some (.cells #[.int .u64 x', .int .u64 y] 47 (0, 0))) ∧ (w1.heap[lc]? = some (.cells #[.int .u64 1376283091369227076, .int .u64 14029467366897019727, .int .i64 32] 170 (0, 0)))) (by kernel_rfl) (by kernel_rfl) ?_ ?_
  · (refine ⟨?_, ?_, ?_⟩ <;> (repeat (first | (with_reducible assumption) | (with_reducible exact Below.refl _ _) | (with_reducible refine heap_drew ?_) | (focus ((with_reducible refine heap_new ?_) ; simp ; done)) | (with_reducible apply heap_set_to) | (focus ((with_reducible refine heap_set_ne ?_ ?_ _) ; rotate_left ; (focus (first | omega | (simp ; done) | (simp ; omega))))) | (with_reducible refine heap_old ?_) | (with_reducible refine Below.drew ?_) | (with_reducible refine below_set ?_ _ _) | (focus ((with_reducible refine Below.setCell ?_ ?_ _) ; rotate_left ; (focus (first | omega | (simp ; done) | (simp ; omega))))) | (focus ((with_reducible refine Below.alloc ?_ ?_ _) ; rotate_left ; (focus (first | omega | (simp ; done) | (simp ; omega))))) | (with_reducible rfl) | (focus (simp ; done)))))
  simp only [List.map_cons, List.map_nil, List.getD_cons_zero, List.getD_cons_succ]
  (refine x_pure rfl _ ?_ rfl (by simp) ?_ ?_ ; rotate_left ; · (intro w1 K hK ; go_wp2_with fail ; exact rfl))
  simp only [Act.put, List.setIfInBounds_toArray, List.set_cons_succ, List.set_cons_zero]
  (refine x_pure rfl _ ?_ rfl (by simp) ?_ ?_ ; rotate_left ; · (intro w1 K hK ; go_wp2_with fail ; exact rfl))
  simp only [Act.put, List.setIfInBounds_toArray, List.set_cons_succ, List.set_cons_zero]
  (refine x_pure rfl _ ?_ rfl (by simp) ?_ ?_ ; rotate_left ; · (intro w1 K hK ; go_wp2_with fail ; exact rfl))
  simp only [Act.put, List.setIfInBounds_toArray, List.set_cons_succ, List.set_cons_zero]
  (refine x_pure rfl _ ?_ rfl (by simp) ?_ ?_ ; rotate_left ; · (intro w1 K hK ; go_wp2_with fail ; exact rfl))
  simp only [Act.put, List.setIfInBounds_toArray, List.set_cons_succ, List.set_cons_zero]
  (refine x_quiet rfl hSt (fun _ h => h) _ ?_ rfl (by simp) ?_ ?_ ; rotate_left ; · (intro w1 hC K hK ; obtain ⟨hb, g0, g1⟩ := hC ; have q0 := blk2 g0 ; have q1 := blk3 g1 ; go_wp2_with fail ; refine ⟨?_, Below.refl _ _⟩ ; exact rfl))
  simp only [Act.put, List.setIfInBounds_toArray, List.set_cons_succ, List.set_cons_zero]
  (refine x_pure rfl _ ?_ rfl (by simp) ?_ ?_ ; rotate_left ; · (intro w1 K hK ; go_wp2_with fail ; exact rfl))
  simp only [Act.put, List.setIfInBounds_toArray, List.set_cons_succ, List.set_cons_zero]
  (refine x_pure rfl _ ?_ rfl (by simp) ?_ ?_ ; rotate_left ; · (intro w1 K hK ; go_wp2_with fail ; exact rfl))
  simp only [Act.put, List.setIfInBounds_toArray, List.set_cons_succ, List.set_cons_zero]
  (refine x_pure rfl _ ?_ rfl (by simp) ?_ ?_ ; rotate_left ; · (intro w1 K hK ; go_wp2_with fail ; exact rfl))
  simp only [Act.put, List.setIfInBounds_toArray, List.set_cons_succ, List.set_cons_zero]
  (refine x_quiet rfl hSt (fun _ h => h) _ ?_ rfl (by simp) ?_ ?_ ; rotate_left ; · (intro w1 hC K hK ; obtain ⟨hb, g0, g1⟩ := hC ; have q0 := blk2 g0 ; have q1 := blk3 g1 ; go_wp2_with fail ; refine ⟨?_, Below.refl _ _⟩ ; exact rfl))
  simp only [Act.put, List.setIfInBounds_toArray, List.set_cons_succ, List.set_cons_zero]
  (refine x_pure rfl _ ?_ rfl (by simp) ?_ ?_ ; rotate_left ; · (intro w1 K hK ; go_wp2_with fail ; exact rfl))
  simp only [Act.put, List.setIfInBounds_toArray, List.set_cons_succ, List.set_cons_zero]
  (refine x_pure rfl _ ?_ rfl (by simp) ?_ ?_ ; rotate_left ; · (intro w1 K hK ; go_wp2_with fail ; exact rfl))
  simp only [Act.put, List.setIfInBounds_toArray, List.set_cons_succ, List.set_cons_zero]
  first | refine x_nil ?_ | refine x_end ?_
  rintro w1 ⟨hb, g0, g1⟩
  obtain ⟨Y, hY⟩ : ∃ Y, Y = IntKind.u64.wrap (bits BinOp.xor IntKind.u64 y wd * 14029467366897019727) := ⟨_, rfl⟩
  rw [← hY]
  have HY : Hid (Y = _) := hY
  clear hY hSt
  go_wp2_with fail
  have hSt : Stable (fun w1 : World => (Below w.heap.size (w.setCell ⟨b, 0, none⟩ (.int .u64 x')) w1) ∧ (w1.heap[b]? = some (.cells #[.int .u64 x', .int .u64 y] 47 (0, 0))) ∧ (w1.heap[lc]? = some (.cells #[.int .u64 1376283091369227076, .int .u64 14029467366897019727, .int .i64 32] 170 (0, 0)))) := by repeat (first | exact stable_ext _ | exact stable_blk _ _ | exact stable_true | (refine stable_bel ?_ ; (focus (first | (simp [World.size_setCell] ; done) | (simp [World.setCell] ; done)))) | refine Stable.and ?_ ?_)
  refine wp_region_x [0, 1, 2, 3, 4, 5, 6, 7, 8, 9, 10] [0, 0, 0, 0, 0, 1, 0, 0, 0, 0, 3] (fun w1 => (Below w.heap.size (w.setCell ⟨b, 0, none⟩ (.int .u64 x')) w1) ∧ (w1.heap[b]? = some (.cells #[.int .u64 x', .int .u64 y] 47 (0, 0))) ∧ (w1.heap[lc]? = some (.cells #[.int .u64 1376283091369227076, .int .u64 14029467366897019727, .int .i64 32] 170 (0, 0)))) (by kernel_rfl) (by kernel_rfl) ?_ ?_
  · (refine ⟨?_, ?_, ?_⟩ <;> (repeat (first | (with_reducible assumption) | (with_reducible exact Below.refl _ _) | (with_reducible refine heap_drew ?_) | (focus ((with_reducible refine heap_new ?_) ; simp ; done)) | (with_reducible apply heap_set_to) | (focus ((with_reducible refine heap_set_ne ?_ ?_ _) ; rotate_left ; (focus (first | omega | (simp ; done) | (simp ; omega))))) | (with_reducible refine heap_old ?_) | (with_reducible refine Below.drew ?_) | (with_reducible refine below_set ?_ _ _) | (focus ((with_reducible refine Below.setCell ?_ ?_ _) ; rotate_left ; (focus (first | omega | (simp ; done) | (simp ; omega))))) | (focus ((with_reducible refine Below.alloc ?_ ?_ _) ; rotate_left ; (focus (first | omega | (simp ; done) | (simp ; omega))))) | (with_reducible rfl) | (focus (simp ; done)))))
  simp only [List.map_cons, List.map_nil, List.getD_cons_zero, List.getD_cons_succ]
  (refine x_pure rfl _ ?_ rfl (by simp) ?_ ?_ ; rotate_left ; · (intro w1 K hK ; go_wp2_with fail ; exact rfl))
  simp only [Act.put, List.setIfInBounds_toArray, List.set_cons_succ, List.set_cons_zero]
  (refine x_pure rfl _ ?_ rfl (by simp) ?_ ?_ ; rotate_left ; · (intro w1 K hK ; go_wp2_with fail ; exact rfl))
  simp only [Act.put, List.setIfInBounds_toArray, List.set_cons_succ, List.set_cons_zero]
  (refine x_pure rfl _ ?_ rfl (by simp) ?_ ?_ ; rotate_left ; · (intro w1 K hK ; go_wp2_with fail ; exact rfl))
  simp only [Act.put, List.setIfInBounds_toArray, List.set_cons_succ, List.set_cons_zero]
  (refine x_pure rfl _ ?_ rfl (by simp) ?_ ?_ ; rotate_left ; · (intro w1 K hK ; go_wp2_with fail ; exact rfl))
  simp only [Act.put, List.setIfInBounds_toArray, List.set_cons_succ, List.set_cons_zero]
  (refine x_pure rfl _ ?_ rfl (by simp) ?_ ?_ ; rotate_left ; · (intro w1 K hK ; go_wp2_with fail ; exact rfl))
  simp only [Act.put, List.setIfInBounds_toArray, List.set_cons_succ, List.set_cons_zero]
  (refine x_quiet rfl hSt (fun _ h => h) _ ?_ rfl (by simp) ?_ ?_ ; rotate_left ; · (intro w1 hC K hK ; obtain ⟨hb, g0, g1⟩ := hC ; have q0 := blk2 g0 ; have q1 := blk3 g1 ; go_wp2_with fail ; refine ⟨?_, Below.refl _ _⟩ ; exact rfl))
  simp only [Act.put, List.setIfInBounds_toArray, List.set_cons_succ, List.set_cons_zero]
  (refine x_pure rfl _ ?_ rfl (by simp) ?_ ?_ ; rotate_left ; · (intro w1 K hK ; go_wp2_with fail ; exact rfl))
  simp only [Act.put, List.setIfInBounds_toArray, List.set_cons_succ, List.set_cons_zero]
  (refine x_pure rfl _ ?_ rfl (by simp) ?_ ?_ ; rotate_left ; · (intro w1 K hK ; go_wp2_with fail ; exact rfl))
  simp only [Act.put, List.setIfInBounds_toArray, List.set_cons_succ, List.set_cons_zero]
  (refine x_pure rfl _ ?_ rfl (by simp) ?_ ?_ ; rotate_left ; · (intro w1 K hK ; go_wp2_with fail ; exact rfl))
  simp only [Act.put, List.setIfInBounds_toArray, List.set_cons_succ, List.set_cons_zero]
  (refine x_pure rfl _ ?_ rfl (by simp) ?_ ?_ ; rotate_left ; · (intro w1 K hK ; go_wp2_with fail ; exact rfl))
  simp only [Act.put, List.setIfInBounds_toArray, List.set_cons_succ, List.set_cons_zero]
  refine x_write rfl ?_
  intro w1 hD K hK ; obtain ⟨hb, g0, g1⟩ := hD ; have q0 := blk2 g0 ; have q1 := blk3 g1
  go_wp2_with fail
  first | refine x_nil ?_ | refine x_end ?_
  rintro w6 hwe
  have kb : Below w.heap.size ((w.setCell ⟨b, 0, none⟩ (.int .u64 x')).setCell ⟨b, 1, none⟩ (.int .u64 (bits BinOp.xor IntKind.u64 Y (Y / 4294967296)))) w6 := by rw [hwe] ; (repeat (first | (with_reducible assumption) | (with_reducible exact Below.refl _ _) | (with_reducible refine heap_drew ?_) | (focus ((with_reducible refine heap_new ?_) ; simp ; done)) | (with_reducible apply heap_set_to) | (focus ((with_reducible refine heap_set_ne ?_ ?_ _) ; rotate_left ; (focus (first | omega | (simp ; done) | (simp ; omega))))) | (with_reducible refine heap_old ?_) | (with_reducible refine Below.drew ?_) | (with_reducible refine below_set ?_ _ _) | (focus ((with_reducible refine Below.setCell ?_ ?_ _) ; rotate_left ; (focus (first | omega | (simp ; done) | (simp ; omega))))) | (focus ((with_reducible refine Below.alloc ?_ ?_ _) ; rotate_left ; (focus (first | omega | (simp ; done) | (simp ; omega))))) | (with_reducible rfl) | (focus (simp ; done))))
  clear hwe
  have HY' : Hid (bits BinOp.xor IntKind.u64 Y (Y / 4294967296) = stp1 y wd) := by unfold Hid; rw [HY.out]; rfl
  rw [HY'.out, HX'.out] at kb
  go_wp2_with fail
  rw [rounds_succ]
  go_wp2_with fail
  go_end0
  exact ⟨rfl, kb⟩
end Go.Proofs.YtdflmplmpjghdaaGreatDoor
