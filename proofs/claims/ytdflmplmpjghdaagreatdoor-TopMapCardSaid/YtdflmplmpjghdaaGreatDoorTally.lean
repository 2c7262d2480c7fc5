/-
  What the functions of package tally (and the reference's) that hold no key answer: Join, Less, by contract.
-/
import Derived.Test.YtdflmplmpjghdaaGreatDoorBase
namespace Go.Proofs.YtdflmplmpjghdaaGreatDoor
open Go.ChangeShapes Go.WideShapes Go.ChangeAt Go.RowKit
set_option linter.unusedVariables false
set_option linter.unusedSimpArgs false
set_option maxRecDepth 100000

/-- A tally as a value. -/
abbrev tv (n a b : Int) : Value := .agg #[.int .i64 n, .int .u64 a, .int .u64 b]
abbrev sv (a b : Int) : Value := .agg #[.int .u64 a, .int .u64 b]
abbrev u64 (x : Int) : Int := IntKind.u64.wrap x

theorem add_any (a b c d : Int) (w : World) :
    Calls Tryz.prog 208 #[sv a b, sv c d] w fun e w' => e = .returned (sv (u64 (a + c)) (u64 (b + d))) ∧ Below w.heap.size w w' := by
  go_enter Tryz.func208, Tryz.ntmps208
  go_wp2
  refine bodyPost_ret (v := sv (u64 (a + c)) (u64 (b + d))) (by simp [results, Tryz.results208, go_sem]) rfl ⟨rfl, ?_⟩
  exact (((Below.refl _ _).alloc (Nat.le_refl _) _).alloc (by simp) _).alloc (by simp; omega) _

set_option maxHeartbeats 2000000 in
theorem join_any (n a b m c d : Int) (w : World) :
    Calls Tryz.prog 170 #[tv n a b, tv m c d] w fun e w' => e = .returned (tv (wrap64 (n + m)) (u64 (a + c)) (u64 (b + d))) ∧ Below w.heap.size w w' := by
  go_enter Tryz.func170, Tryz.ntmps170
  go_wp2
  have hSt : Stable (fun w1 : World => (Below w.heap.size w w1) ∧ (w1.heap[w.heap.size]? = some (.cells #[.int .i64 n, .int .u64 a, .int .u64 b] 49 (0, 0))) ∧ (w1.heap[w.heap.size + 1]? = some (.cells #[.int .i64 m, .int .u64 c, .int .u64 d] 49 (0, 0))) ∧ (w1.heap[w.heap.size + 1 + 1]? = some (.cells #[.int .i64 0, .int .u64 0, .int .u64 0] 49 (0, 0)))) := by repeat (first | exact stable_ext _ | exact stable_blk _ _ | exact stable_true | (refine stable_bel ?_ ; (focus (first | (simp [World.size_setCell] ; done) | (simp [World.setCell] ; done)))) | refine Stable.and ?_ ?_)
  refine wp_region_x [0, 1, 2, 3, 4, 5, 6, 7, 8, 9, 10, 11] [0, 1, 0, 1, 0, 0, 1, 0, 1, 1, 0, 3] (fun w1 => (Below w.heap.size w w1) ∧ (w1.heap[w.heap.size]? = some (.cells #[.int .i64 n, .int .u64 a, .int .u64 b] 49 (0, 0))) ∧ (w1.heap[w.heap.size + 1]? = some (.cells #[.int .i64 m, .int .u64 c, .int .u64 d] 49 (0, 0))) ∧ (w1.heap[w.heap.size + 1 + 1]? = some (.cells #[.int .i64 0, .int .u64 0, .int .u64 0] 49 (0, 0)))) (by kernel_rfl) (by kernel_rfl) ?_ ?_
  · (refine ⟨?_, ?_, ?_, ?_⟩ <;> (repeat (first | (with_reducible assumption) | (with_reducible exact Below.refl _ _) | (with_reducible refine heap_drew ?_) | (focus ((with_reducible refine heap_new ?_) ; simp ; done)) | (with_reducible apply heap_set_to) | (focus ((with_reducible refine heap_set_ne ?_ ?_ _) ; rotate_left ; (focus (first | omega | (simp ; done) | (simp ; omega))))) | (with_reducible refine heap_old ?_) | (with_reducible refine Below.drew ?_) | (with_reducible refine below_set ?_ _ _) | (focus ((with_reducible refine Below.setCell ?_ ?_ _) ; rotate_left ; (focus (first | omega | (simp ; done) | (simp ; omega))))) | (focus ((with_reducible refine Below.alloc ?_ ?_ _) ; rotate_left ; (focus (first | omega | (simp ; done) | (simp ; omega))))) | (with_reducible rfl) | (focus (simp ; done)))))
  simp only [List.map_cons, List.map_nil, List.getD_cons_zero, List.getD_cons_succ]
  (refine x_pure rfl _ ?_ rfl (by simp) ?_ ?_ ; rotate_left ; · (intro w1 K hK ; go_wp2_with fail ; exact rfl))
  simp only [Act.put, List.setIfInBounds_toArray, List.set_cons_succ, List.set_cons_zero]
  (refine x_quiet rfl hSt (fun _ h => h) _ ?_ rfl (by simp) ?_ ?_ ; rotate_left ; · (intro w1 hC K hK ; obtain ⟨hb, g0, g1, g2⟩ := hC ; have c0 := blk3 g0 ; have c1 := blk3 g1 ; have c2 := blk3 g2 ; go_wp2_with fail ; refine ⟨?_, Below.refl _ _⟩ ; exact rfl))
  simp only [Act.put, List.setIfInBounds_toArray, List.set_cons_succ, List.set_cons_zero]
  (refine x_pure rfl _ ?_ rfl (by simp) ?_ ?_ ; rotate_left ; · (intro w1 K hK ; go_wp2_with fail ; exact rfl))
  simp only [Act.put, List.setIfInBounds_toArray, List.set_cons_succ, List.set_cons_zero]
  (refine x_quiet rfl hSt (fun _ h => h) _ ?_ rfl (by simp) ?_ ?_ ; rotate_left ; · (intro w1 hC K hK ; obtain ⟨hb, g0, g1, g2⟩ := hC ; have c0 := blk3 g0 ; have c1 := blk3 g1 ; have c2 := blk3 g2 ; go_wp2_with fail ; refine ⟨?_, Below.refl _ _⟩ ; exact rfl))
  simp only [Act.put, List.setIfInBounds_toArray, List.set_cons_succ, List.set_cons_zero]
  (refine x_pure rfl _ ?_ rfl (by simp) ?_ ?_ ; rotate_left ; · (intro w1 K hK ; go_wp2_with fail ; exact rfl))
  simp only [Act.put, List.setIfInBounds_toArray, List.set_cons_succ, List.set_cons_zero]
  (refine x_pure rfl _ ?_ rfl (by simp) ?_ ?_ ; rotate_left ; · (intro w1 K hK ; go_wp2_with fail ; exact rfl))
  simp only [Act.put, List.setIfInBounds_toArray, List.set_cons_succ, List.set_cons_zero]
  (refine x_quiet rfl hSt (fun _ h => h) _ ?_ rfl (by simp) ?_ ?_ ; rotate_left ; · (intro w1 hC K hK ; obtain ⟨hb, g0, g1, g2⟩ := hC ; have c0 := blk3 g0 ; have c1 := blk3 g1 ; have c2 := blk3 g2 ; go_wp2_with fail ; refine ⟨?_, Below.refl _ _⟩ ; exact rfl))
  simp only [Act.put, List.setIfInBounds_toArray, List.set_cons_succ, List.set_cons_zero]
  (refine x_pure rfl _ ?_ rfl (by simp) ?_ ?_ ; rotate_left ; · (intro w1 K hK ; go_wp2_with fail ; exact rfl))
  simp only [Act.put, List.setIfInBounds_toArray, List.set_cons_succ, List.set_cons_zero]
  (refine x_quiet rfl hSt (fun _ h => h) _ ?_ rfl (by simp) ?_ ?_ ; rotate_left ; · (intro w1 hC K hK ; obtain ⟨hb, g0, g1, g2⟩ := hC ; have c0 := blk3 g0 ; have c1 := blk3 g1 ; have c2 := blk3 g2 ; go_wp2_with fail ; refine ⟨?_, Below.refl _ _⟩ ; exact rfl))
  simp only [Act.put, List.setIfInBounds_toArray, List.set_cons_succ, List.set_cons_zero]
  (refine x_quiet rfl hSt (fun _ h => h) _ ?_ rfl (by simp) ?_ ?_ ; rotate_left ; · (intro w1 hC K hK ; obtain ⟨hb, g0, g1, g2⟩ := hC ; have c0 := blk3 g0 ; have c1 := blk3 g1 ; have c2 := blk3 g2 ; go_wp2_with fail ; refine (add_any _ _ _ _ _).mono ?_ ; rintro e w2 ⟨rfl, hb2⟩ ; refine hK _ _ ⟨?_, rfl, hb2⟩ ; (try simp only [List.getElem?_toArray, List.getElem?_cons_succ, List.getElem?_cons_zero]) ; exact rfl))
  simp only [Act.put, List.setIfInBounds_toArray, List.set_cons_succ, List.set_cons_zero]
  (refine x_pure rfl _ ?_ rfl (by simp) ?_ ?_ ; rotate_left ; · (intro w1 K hK ; go_wp2_with fail ; exact rfl))
  simp only [Act.put, List.setIfInBounds_toArray, List.set_cons_succ, List.set_cons_zero]
  refine x_write rfl ?_
  intro w1 hD K hK ; obtain ⟨hb, g0, g1, g2⟩ := hD ; have c0 := blk3 g0 ; have c1 := blk3 g1 ; have c2 := blk3 g2
  go_wp2_with fail
  first | refine x_nil ?_ | refine x_end ?_
  rintro _ rfl
  go_wp2
  refine bodyPost_ret (v := tv (wrap64 (n + m)) (u64 (a + c)) (u64 (b + d))) (by simp [results, Tryz.results170, go_sem, c2]) rfl ⟨rfl, ?_⟩
  repeat (first | assumption | refine Below.setCell ?_ (by simp; try omega) _)

end Go.Proofs.YtdflmplmpjghdaaGreatDoor
