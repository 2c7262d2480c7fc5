/-
  TallyJoins: joined tallies are the reference's, in either order, with the zero tally on either side, and of three in either grouping; for every three tallies.
-/
import Derived.Test.YtjeaobknojmbpaaLaw
namespace Go.Proofs.Ytjeaobknojmbpaa
open Go.ChangeShapes Go.WideShapes Go.ChangeAt Go.RowKit
set_option linter.unusedVariables false
set_option linter.unusedSimpArgs false

theorem u64_eq (x : Int) : u64 x = x % 18446744073709551616 := by simp [u64, IntKind.wrap, IntKind.signed, IntKind.bits]
theorem wrap64_assoc (a b c : Int) : wrap64 (wrap64 (a + b) + c) = wrap64 (a + wrap64 (b + c)) := by unfold wrap64; omega
theorem u64_assoc (a b c : Int) : u64 (u64 (a + b) + c) = u64 (a + u64 (b + c)) := by simp only [u64_eq]; omega
theorem wrap64_zero {a : Int} (h : Inr .i64 a) : wrap64 a = a := by have := h.i64; unfold wrap64; omega
theorem u64_zero {a : Int} (h : Inr .u64 a) : u64 a = a := by have := h.u64; simp only [u64_eq]; omega

set_option maxHeartbeats 4000000 in
theorem joins_walk (n a b m c d k e f : Int) (hn : Inr .i64 n) (ha : Inr .u64 a) (hb' : Inr .u64 b) (w : World) :
    Calls Try.prog 3 #[tv n a b, tv m c d, tv k e f] w fun r w' => r = .returned (.bool true) ∧ Below w.heap.size w w' := by
  have z1 := wrap64_zero hn
  have z2 := u64_zero ha
  have z3 := u64_zero hb'
  have c1 : wrap64 (m + n) = wrap64 (n + m) := by rw [Int.add_comm]
  have c2 : u64 (c + a) = u64 (a + c) := by rw [Int.add_comm]
  have c3 : u64 (d + b) = u64 (b + d) := by rw [Int.add_comm]
  have s1 := wrap64_assoc n m k
  have s2 := u64_assoc a c e
  have s3 := u64_assoc b d f
  go_enter Try.func3, Try.ntmps3
  go_wp2_with fail
  refine (join_any n a b m c d _).mono ?_
  rintro r w1 ⟨rfl, hb1⟩
  have g0 : w1.heap[w.heap.size]? = some (.cells #[.int .i64 n, .int .u64 a, .int .u64 b] 26 (0, 0)) := blk_below (by repeat (first | exact heap_new (by simp) | refine heap_old ?_)) hb1
  have g1 : w1.heap[w.heap.size + 1]? = some (.cells #[.int .i64 m, .int .u64 c, .int .u64 d] 26 (0, 0)) := blk_below (by repeat (first | exact heap_new (by simp) | refine heap_old ?_)) hb1
  have g2 : w1.heap[w.heap.size + 1 + 1]? = some (.cells #[.int .i64 k, .int .u64 e, .int .u64 f] 26 (0, 0)) := blk_below (by repeat (first | exact heap_new (by simp) | refine heap_old ?_)) hb1
  have hb : Below w.heap.size w w1 := below_back (((((Below.refl _ _).alloc (Nat.le_refl _) _).alloc (by simp) _).alloc (by simp; omega) _)) (by simp; omega) hb1
  clear hb1
  have hz := hb.size
  go_wp2_with fail
  have hSt : Stable (fun w2 : World => (Below w.heap.size w w2) ∧ (w2.heap[w.heap.size]? = some (.cells #[.int .i64 n, .int .u64 a, .int .u64 b] 26 (0, 0))) ∧ (w2.heap[w.heap.size + 1]? = some (.cells #[.int .i64 m, .int .u64 c, .int .u64 d] 26 (0, 0))) ∧ (w2.heap[w.heap.size + 1 + 1]? = some (.cells #[.int .i64 k, .int .u64 e, .int .u64 f] 26 (0, 0))) ∧ (w2.heap[w1.heap.size]? = some (.cells #[.int .i64 (wrap64 (n + m)), .int .u64 (u64 (a + c)), .int .u64 (u64 (b + d))] 26 (0, 0)))) := by repeat (first | exact stable_ext _ | exact stable_blk _ _ | exact stable_true | refine Stable.and ?_ ?_)
  refine wp_region_x [0, 1, 2, 3, 4, 5, 6, 7, 8, 9, 10, 11, 12, 13, 14, 15, 16, 17, 18, 19, 20, 21, 22, 23, 24, 25] [1, 1, 1, 1, 0, 0, 1, 1, 1, 1, 0, 0, 0, 0, 1, 1, 1, 0, 0, 0, 1, 0, 1, 1, 0, 0] (fun w2 => (Below w.heap.size w w2) ∧ (w2.heap[w.heap.size]? = some (.cells #[.int .i64 n, .int .u64 a, .int .u64 b] 26 (0, 0))) ∧ (w2.heap[w.heap.size + 1]? = some (.cells #[.int .i64 m, .int .u64 c, .int .u64 d] 26 (0, 0))) ∧ (w2.heap[w.heap.size + 1 + 1]? = some (.cells #[.int .i64 k, .int .u64 e, .int .u64 f] 26 (0, 0))) ∧ (w2.heap[w1.heap.size]? = some (.cells #[.int .i64 (wrap64 (n + m)), .int .u64 (u64 (a + c)), .int .u64 (u64 (b + d))] 26 (0, 0)))) (by kernel_rfl) (by kernel_rfl) ?_ ?_
  · (refine ⟨?_, ?_, ?_, ?_, ?_⟩ <;> (repeat (first | assumption | exact Below.refl _ _ | refine heap_drew ?_ | exact heap_new (by simp) | refine heap_old ?_ | refine Below.drew ?_ | refine Below.alloc ?_ (by first | omega | simp | (simp ; omega)) _ | refine Below.setCell ?_ (by first | omega | simp | (simp ; omega)) _)))
  simp only [List.map_cons, List.map_nil, List.getD_cons_zero, List.getD_cons_succ]
  (refine x_quiet rfl hSt (fun _ h => h) _ ?_ rfl (by simp) ?_ ?_ ; rotate_left ; · (intro w2 hC K hK ; obtain ⟨hb, g0, g1, g2, g3⟩ := hC ; have q0 := blk3 g0 ; have q1 := blk3 g1 ; have q2 := blk3 g2 ; have q3 := blk3 g3 ; go_wp2_with fail ; refine ⟨?_, Below.refl _ _⟩ ; exact rfl))
  simp only [Act.put, List.setIfInBounds_toArray, List.set_cons_succ, List.set_cons_zero]
  (refine x_quiet rfl hSt (fun _ h => h) _ ?_ rfl (by simp) ?_ ?_ ; rotate_left ; · (intro w2 hC K hK ; obtain ⟨hb, g0, g1, g2, g3⟩ := hC ; have q0 := blk3 g0 ; have q1 := blk3 g1 ; have q2 := blk3 g2 ; have q3 := blk3 g3 ; go_wp2_with fail ; refine ⟨?_, Below.refl _ _⟩ ; exact rfl))
  simp only [Act.put, List.setIfInBounds_toArray, List.set_cons_succ, List.set_cons_zero]
  (refine x_quiet rfl hSt (fun _ h => h) _ ?_ rfl (by simp) ?_ ?_ ; rotate_left ; · (intro w2 hC K hK ; obtain ⟨hb, g0, g1, g2, g3⟩ := hC ; have q0 := blk3 g0 ; have q1 := blk3 g1 ; have q2 := blk3 g2 ; have q3 := blk3 g3 ; go_wp2_with fail ; refine ⟨?_, Below.refl _ _⟩ ; exact rfl))
  simp only [Act.put, List.setIfInBounds_toArray, List.set_cons_succ, List.set_cons_zero]
  (refine x_quiet rfl hSt (fun _ h => h) _ ?_ rfl (by simp) ?_ ?_ ; rotate_left ; · (intro w2 hC K hK ; obtain ⟨hb, g0, g1, g2, g3⟩ := hC ; have q0 := blk3 g0 ; have q1 := blk3 g1 ; have q2 := blk3 g2 ; have q3 := blk3 g3 ; go_wp2_with fail ; refine (rjoin_any _ _ _ _ _ _ _).mono ?_ ; rintro e w2 ⟨rfl, hb2⟩ ; refine hK _ _ ⟨?_, rfl, hb2⟩ ; exact rfl))
  simp only [Act.put, List.setIfInBounds_toArray, List.set_cons_succ, List.set_cons_zero]
  (refine x_pure rfl _ ?_ rfl (by simp) ?_ ?_ ; rotate_left ; · (intro w2 K hK ; go_wp2_with fail ; exact rfl))
  simp only [Act.put, List.setIfInBounds_toArray, List.set_cons_succ, List.set_cons_zero]
  (refine x_pure rfl _ ?_ rfl (by simp) ?_ ?_ ; rotate_left ; · (intro w2 K hK ; go_wp2_with fail ; exact rfl))
  simp only [Act.put, List.setIfInBounds_toArray, List.set_cons_succ, List.set_cons_zero]
  first | (refine x_skip rfl ?_) | (refine x_quiet rfl hSt (fun _ h => h) _ ?_ rfl (by simp) ?_ ?_ ; rotate_left ; · (intro w2 hC K hK ; obtain ⟨hb, g0, g1, g2, g3⟩ := hC ; have q0 := blk3 g0 ; have q1 := blk3 g1 ; have q2 := blk3 g2 ; have q3 := blk3 g3 ; go_wp2_with fail ; refine ⟨?_, Below.refl _ _⟩ ; exact rfl))
  simp only [Act.put, List.setIfInBounds_toArray, List.set_cons_succ, List.set_cons_zero]
  first | (refine x_skip rfl ?_) | (refine x_quiet rfl hSt (fun _ h => h) _ ?_ rfl (by simp) ?_ ?_ ; rotate_left ; · (intro w2 hC K hK ; obtain ⟨hb, g0, g1, g2, g3⟩ := hC ; have q0 := blk3 g0 ; have q1 := blk3 g1 ; have q2 := blk3 g2 ; have q3 := blk3 g3 ; go_wp2_with fail ; refine ⟨?_, Below.refl _ _⟩ ; exact rfl))
  simp only [Act.put, List.setIfInBounds_toArray, List.set_cons_succ, List.set_cons_zero]
  first | (refine x_skip rfl ?_) | (refine x_quiet rfl hSt (fun _ h => h) _ ?_ rfl (by simp) ?_ ?_ ; rotate_left ; · (intro w2 hC K hK ; obtain ⟨hb, g0, g1, g2, g3⟩ := hC ; have q0 := blk3 g0 ; have q1 := blk3 g1 ; have q2 := blk3 g2 ; have q3 := blk3 g3 ; go_wp2_with fail ; refine (join_any _ _ _ _ _ _ _).mono ?_ ; rintro e w2 ⟨rfl, hb2⟩ ; refine hK _ _ ⟨?_, rfl, hb2⟩ ; exact rfl))
  simp only [Act.put, List.setIfInBounds_toArray, List.set_cons_succ, List.set_cons_zero]
  first | (refine x_skip rfl ?_) | (refine x_quiet rfl hSt (fun _ h => h) _ ?_ rfl (by simp) ?_ ?_ ; rotate_left ; · (intro w2 hC K hK ; obtain ⟨hb, g0, g1, g2, g3⟩ := hC ; have q0 := blk3 g0 ; have q1 := blk3 g1 ; have q2 := blk3 g2 ; have q3 := blk3 g3 ; go_wp2_with fail ; refine ⟨?_, Below.refl _ _⟩ ; exact rfl))
  simp only [Act.put, List.setIfInBounds_toArray, List.set_cons_succ, List.set_cons_zero]
  first | (refine x_skip rfl ?_) | (refine x_pure rfl _ ?_ rfl (by simp) ?_ ?_ ; rotate_left ; · (intro w2 K hK ; go_wp2_with fail ; exact rfl))
  simp only [Act.put, List.setIfInBounds_toArray, List.set_cons_succ, List.set_cons_zero]
  (refine x_pure rfl _ ?_ rfl (by simp) ?_ ?_ ; rotate_left ; · (intro w2 K hK ; go_wp2_with fail ; exact rfl))
  simp only [Act.put, List.setIfInBounds_toArray, List.set_cons_succ, List.set_cons_zero]
  (refine x_pure rfl _ ?_ rfl (by simp) ?_ ?_ ; rotate_left ; · (intro w2 K hK ; go_wp2_with fail ; exact rfl))
  simp only [Act.put, List.setIfInBounds_toArray, List.set_cons_succ, List.set_cons_zero]
  first | (refine x_skip rfl ?_) | (refine x_pure rfl _ ?_ rfl (by simp) ?_ ?_ ; rotate_left ; · (intro w2 K hK ; go_wp2_with fail ; exact rfl))
  simp only [Act.put, List.setIfInBounds_toArray, List.set_cons_succ, List.set_cons_zero]
  first | (refine x_skip rfl ?_) | (refine x_quiet rfl hSt (fun _ h => h) _ ?_ rfl (by simp) ?_ ?_ ; rotate_left ; · (intro w2 hC K hK ; obtain ⟨hb, g0, g1, g2, g3⟩ := hC ; have q0 := blk3 g0 ; have q1 := blk3 g1 ; have q2 := blk3 g2 ; have q3 := blk3 g3 ; go_wp2_with fail ; refine ⟨?_, Below.refl _ _⟩ ; exact rfl))
  simp only [Act.put, List.setIfInBounds_toArray, List.set_cons_succ, List.set_cons_zero]
  first | (refine x_skip rfl ?_) | (refine x_quiet rfl hSt (fun _ h => h) _ ?_ rfl (by simp) ?_ ?_ ; rotate_left ; · (intro w2 hC K hK ; obtain ⟨hb, g0, g1, g2, g3⟩ := hC ; have q0 := blk3 g0 ; have q1 := blk3 g1 ; have q2 := blk3 g2 ; have q3 := blk3 g3 ; go_wp2_with fail ; refine (join_any _ _ _ _ _ _ _).mono ?_ ; rintro e w2 ⟨rfl, hb2⟩ ; refine hK _ _ ⟨?_, rfl, hb2⟩ ; exact rfl))
  simp only [Act.put, List.setIfInBounds_toArray, List.set_cons_succ, List.set_cons_zero]
  first | (refine x_skip rfl ?_) | (refine x_quiet rfl hSt (fun _ h => h) _ ?_ rfl (by simp) ?_ ?_ ; rotate_left ; · (intro w2 hC K hK ; obtain ⟨hb, g0, g1, g2, g3⟩ := hC ; have q0 := blk3 g0 ; have q1 := blk3 g1 ; have q2 := blk3 g2 ; have q3 := blk3 g3 ; go_wp2_with fail ; refine ⟨?_, Below.refl _ _⟩ ; exact rfl))
  simp only [Act.put, List.setIfInBounds_toArray, List.set_cons_succ, List.set_cons_zero]
  first | (refine x_skip rfl ?_) | (refine x_pure rfl _ ?_ rfl (by simp) ?_ ?_ ; rotate_left ; · (intro w2 K hK ; go_wp2_with fail ; exact rfl))
  simp only [Act.put, List.setIfInBounds_toArray, List.set_cons_succ, List.set_cons_zero]
  (refine x_pure rfl _ ?_ rfl (by simp) ?_ ?_ ; rotate_left ; · (intro w2 K hK ; go_wp2_with fail ; exact rfl))
  simp only [Act.put, List.setIfInBounds_toArray, List.set_cons_succ, List.set_cons_zero]
  (refine x_pure rfl _ ?_ rfl (by simp) ?_ ?_ ; rotate_left ; · (intro w2 K hK ; go_wp2_with fail ; exact rfl))
  simp only [Act.put, List.setIfInBounds_toArray, List.set_cons_succ, List.set_cons_zero]
  first | (refine x_skip rfl ?_) | (refine x_quiet rfl hSt (fun _ h => h) _ ?_ rfl (by simp) ?_ ?_ ; rotate_left ; · (intro w2 hC K hK ; obtain ⟨hb, g0, g1, g2, g3⟩ := hC ; have q0 := blk3 g0 ; have q1 := blk3 g1 ; have q2 := blk3 g2 ; have q3 := blk3 g3 ; go_wp2_with fail ; refine ⟨?_, Below.refl _ _⟩ ; exact rfl))
  simp only [Act.put, List.setIfInBounds_toArray, List.set_cons_succ, List.set_cons_zero]
  first | (refine x_skip rfl ?_) | (refine x_pure rfl _ ?_ rfl (by simp) ?_ ?_ ; rotate_left ; · (intro w2 K hK ; go_wp2_with fail ; exact rfl))
  simp only [Act.put, List.setIfInBounds_toArray, List.set_cons_succ, List.set_cons_zero]
  first | (refine x_skip rfl ?_) | (refine x_quiet rfl hSt (fun _ h => h) _ ?_ rfl (by simp) ?_ ?_ ; rotate_left ; · (intro w2 hC K hK ; obtain ⟨hb, g0, g1, g2, g3⟩ := hC ; have q0 := blk3 g0 ; have q1 := blk3 g1 ; have q2 := blk3 g2 ; have q3 := blk3 g3 ; go_wp2_with fail ; refine (join_any _ _ _ _ _ _ _).mono ?_ ; rintro e w2 ⟨rfl, hb2⟩ ; refine hK _ _ ⟨?_, rfl, hb2⟩ ; exact rfl))
  simp only [Act.put, List.setIfInBounds_toArray, List.set_cons_succ, List.set_cons_zero]
  first | (refine x_skip rfl ?_) | (refine x_quiet rfl hSt (fun _ h => h) _ ?_ rfl (by simp) ?_ ?_ ; rotate_left ; · (intro w2 hC K hK ; obtain ⟨hb, g0, g1, g2, g3⟩ := hC ; have q0 := blk3 g0 ; have q1 := blk3 g1 ; have q2 := blk3 g2 ; have q3 := blk3 g3 ; go_wp2_with fail ; refine ⟨?_, Below.refl _ _⟩ ; exact rfl))
  simp only [Act.put, List.setIfInBounds_toArray, List.set_cons_succ, List.set_cons_zero]
  first | (refine x_skip rfl ?_) | (refine x_pure rfl _ ?_ rfl (by simp) ?_ ?_ ; rotate_left ; · (intro w2 K hK ; go_wp2_with fail ; exact rfl))
  simp only [Act.put, List.setIfInBounds_toArray, List.set_cons_succ, List.set_cons_zero]
  (refine x_pure rfl _ ?_ rfl (by simp) ?_ ?_ ; rotate_left ; · (intro w2 K hK ; go_wp2_with fail ; exact rfl))
  simp only [Act.put, List.setIfInBounds_toArray, List.set_cons_succ, List.set_cons_zero]
  refine x_nil ?_
  rintro w2 ⟨hb, g0, g1, g2, g3⟩
  go_wp2_with fail
  have hSt : Stable (fun w3 : World => (Below w.heap.size w w3) ∧ (w3.heap[w.heap.size]? = some (.cells #[.int .i64 n, .int .u64 a, .int .u64 b] 26 (0, 0))) ∧ (w3.heap[w.heap.size + 1]? = some (.cells #[.int .i64 m, .int .u64 c, .int .u64 d] 26 (0, 0))) ∧ (w3.heap[w.heap.size + 1 + 1]? = some (.cells #[.int .i64 k, .int .u64 e, .int .u64 f] 26 (0, 0))) ∧ (w3.heap[w1.heap.size]? = some (.cells #[.int .i64 (wrap64 (n + m)), .int .u64 (u64 (a + c)), .int .u64 (u64 (b + d))] 26 (0, 0)))) := by repeat (first | exact stable_ext _ | exact stable_blk _ _ | exact stable_true | refine Stable.and ?_ ?_)
  refine wp_region_x [0, 1, 2, 3, 4, 5, 6, 7, 8, 9] [1, 1, 1, 1, 1, 1, 1, 1, 0, 0] (fun w3 => (Below w.heap.size w w3) ∧ (w3.heap[w.heap.size]? = some (.cells #[.int .i64 n, .int .u64 a, .int .u64 b] 26 (0, 0))) ∧ (w3.heap[w.heap.size + 1]? = some (.cells #[.int .i64 m, .int .u64 c, .int .u64 d] 26 (0, 0))) ∧ (w3.heap[w.heap.size + 1 + 1]? = some (.cells #[.int .i64 k, .int .u64 e, .int .u64 f] 26 (0, 0))) ∧ (w3.heap[w1.heap.size]? = some (.cells #[.int .i64 (wrap64 (n + m)), .int .u64 (u64 (a + c)), .int .u64 (u64 (b + d))] 26 (0, 0)))) (by kernel_rfl) (by kernel_rfl) ?_ ?_
  · (refine ⟨?_, ?_, ?_, ?_, ?_⟩ <;> (repeat (first | assumption | exact Below.refl _ _ | refine heap_drew ?_ | exact heap_new (by simp) | refine heap_old ?_ | refine Below.drew ?_ | refine Below.alloc ?_ (by first | omega | simp | (simp ; omega)) _ | refine Below.setCell ?_ (by first | omega | simp | (simp ; omega)) _)))
  simp only [List.map_cons, List.map_nil, List.getD_cons_zero, List.getD_cons_succ]
  (refine x_quiet rfl hSt (fun _ h => h) _ ?_ rfl (by simp) ?_ ?_ ; rotate_left ; · (intro w3 hC K hK ; obtain ⟨hb, g0, g1, g2, g3⟩ := hC ; have q0 := blk3 g0 ; have q1 := blk3 g1 ; have q2 := blk3 g2 ; have q3 := blk3 g3 ; go_wp2_with fail ; refine ⟨?_, Below.refl _ _⟩ ; exact rfl))
  simp only [Act.put, List.setIfInBounds_toArray, List.set_cons_succ, List.set_cons_zero]
  (refine x_quiet rfl hSt (fun _ h => h) _ ?_ rfl (by simp) ?_ ?_ ; rotate_left ; · (intro w3 hC K hK ; obtain ⟨hb, g0, g1, g2, g3⟩ := hC ; have q0 := blk3 g0 ; have q1 := blk3 g1 ; have q2 := blk3 g2 ; have q3 := blk3 g3 ; go_wp2_with fail ; refine ⟨?_, Below.refl _ _⟩ ; exact rfl))
  simp only [Act.put, List.setIfInBounds_toArray, List.set_cons_succ, List.set_cons_zero]
  (refine x_quiet rfl hSt (fun _ h => h) _ ?_ rfl (by simp) ?_ ?_ ; rotate_left ; · (intro w3 hC K hK ; obtain ⟨hb, g0, g1, g2, g3⟩ := hC ; have q0 := blk3 g0 ; have q1 := blk3 g1 ; have q2 := blk3 g2 ; have q3 := blk3 g3 ; go_wp2_with fail ; refine (join_any _ _ _ _ _ _ _).mono ?_ ; rintro e w2 ⟨rfl, hb2⟩ ; refine hK _ _ ⟨?_, rfl, hb2⟩ ; exact rfl))
  simp only [Act.put, List.setIfInBounds_toArray, List.set_cons_succ, List.set_cons_zero]
  (refine x_quiet rfl hSt (fun _ h => h) _ ?_ rfl (by simp) ?_ ?_ ; rotate_left ; · (intro w3 hC K hK ; obtain ⟨hb, g0, g1, g2, g3⟩ := hC ; have q0 := blk3 g0 ; have q1 := blk3 g1 ; have q2 := blk3 g2 ; have q3 := blk3 g3 ; go_wp2_with fail ; refine ⟨?_, Below.refl _ _⟩ ; exact rfl))
  simp only [Act.put, List.setIfInBounds_toArray, List.set_cons_succ, List.set_cons_zero]
  (refine x_quiet rfl hSt (fun _ h => h) _ ?_ rfl (by simp) ?_ ?_ ; rotate_left ; · (intro w3 hC K hK ; obtain ⟨hb, g0, g1, g2, g3⟩ := hC ; have q0 := blk3 g0 ; have q1 := blk3 g1 ; have q2 := blk3 g2 ; have q3 := blk3 g3 ; go_wp2_with fail ; refine ⟨?_, Below.refl _ _⟩ ; exact rfl))
  simp only [Act.put, List.setIfInBounds_toArray, List.set_cons_succ, List.set_cons_zero]
  (refine x_quiet rfl hSt (fun _ h => h) _ ?_ rfl (by simp) ?_ ?_ ; rotate_left ; · (intro w3 hC K hK ; obtain ⟨hb, g0, g1, g2, g3⟩ := hC ; have q0 := blk3 g0 ; have q1 := blk3 g1 ; have q2 := blk3 g2 ; have q3 := blk3 g3 ; go_wp2_with fail ; refine ⟨?_, Below.refl _ _⟩ ; exact rfl))
  simp only [Act.put, List.setIfInBounds_toArray, List.set_cons_succ, List.set_cons_zero]
  (refine x_quiet rfl hSt (fun _ h => h) _ ?_ rfl (by simp) ?_ ?_ ; rotate_left ; · (intro w3 hC K hK ; obtain ⟨hb, g0, g1, g2, g3⟩ := hC ; have q0 := blk3 g0 ; have q1 := blk3 g1 ; have q2 := blk3 g2 ; have q3 := blk3 g3 ; go_wp2_with fail ; refine (join_any _ _ _ _ _ _ _).mono ?_ ; rintro e w2 ⟨rfl, hb2⟩ ; refine hK _ _ ⟨?_, rfl, hb2⟩ ; exact rfl))
  simp only [Act.put, List.setIfInBounds_toArray, List.set_cons_succ, List.set_cons_zero]
  (refine x_quiet rfl hSt (fun _ h => h) _ ?_ rfl (by simp) ?_ ?_ ; rotate_left ; · (intro w3 hC K hK ; obtain ⟨hb, g0, g1, g2, g3⟩ := hC ; have q0 := blk3 g0 ; have q1 := blk3 g1 ; have q2 := blk3 g2 ; have q3 := blk3 g3 ; go_wp2_with fail ; refine (join_any _ _ _ _ _ _ _).mono ?_ ; rintro e w2 ⟨rfl, hb2⟩ ; refine hK _ _ ⟨?_, rfl, hb2⟩ ; exact rfl))
  simp only [Act.put, List.setIfInBounds_toArray, List.set_cons_succ, List.set_cons_zero]
  (refine x_pure rfl _ ?_ rfl (by simp) ?_ ?_ ; rotate_left ; · (intro w3 K hK ; go_wp2_with fail ; exact rfl))
  simp only [Act.put, List.setIfInBounds_toArray, List.set_cons_succ, List.set_cons_zero]
  (refine x_pure rfl _ ?_ rfl (by simp) ?_ ?_ ; rotate_left ; · (intro w3 K hK ; go_wp2_with fail ; exact rfl))
  simp only [Act.put, List.setIfInBounds_toArray, List.set_cons_succ, List.set_cons_zero]
  refine x_nil ?_
  rintro w3 ⟨hb, g0, g1, g2, g3⟩
  go_wp2_with fail
  go_ret
  exact ⟨rfl, hb⟩

set_option maxRecDepth 100000 in
theorem joins_lifted (os : Os) (started : os.Started) (H : Type) (enc : TypeId × Value → H) :
    ReturnsInHanded {} Try.checked os 3 .any (Rows.tallyJoinsSpec.pre6 enc Try.prog Try.f3 Rows.tallyJoinsRow.domain false) (Rows.tallyJoinsSpec.post enc Try.prog Try.f3 false true false false) := by
  refine returnsInHanded_of_change (C := Try.checked) own started (by kernel_rfl) Try.func3
    (ChangeSpec.witness6 (enc := enc) (C := Try.checked) false ⟨#[], #[tv 0 0 0, tv 0 0 0, tv 0 0 0], []⟩ 8 (by kernel_rfl) (by kernel_rfl) (by kernel_rfl) (by kernel_rfl)) ?_
  intro W base args ds gs before hval0 hW hcnd _
  have hval : ∀ (j : Nat) t v, Try.f3.params[j]? = some t → args[j]? = some v → Value.okWide Try.prog W .any base t v := hval0
  have hW' := hW
  obtain ⟨p, q, hA0, hV, rfl, hfz, hnd⟩ := hW
  have hA : DataW.TrodAll enc Try.prog W 0 (fun _ => true) true Try.f3.params.toList args.toList ds p := hA0
  rw [Try.params3] at hA hval
  obtain ⟨v0, vs0, d0, ds0, p0, q0, hargs, rfl, rfl, h0, r0⟩ := trodAll_cons hA
  obtain ⟨v1, vs1, d1, ds1, p1, q1, rfl, rfl, rfl, h1, r1⟩ := trodAll_cons r0
  obtain ⟨v2, vs2, d2, ds2, p2, q2, rfl, rfl, rfl, h2, r2⟩ := trodAll_cons r1
  obtain ⟨rfl, rfl, rfl⟩ := trodAll_nil r2
  obtain rfl : args = #[v0, v1, v2] := by apply Array.toList_inj.1; exact hargs
  obtain ⟨n, a, b, rfl, wn, wa, wb⟩ := open_tally (hval 0 _ v0 rfl rfl) h0
  obtain ⟨m, c, d, rfl, _, _, _⟩ := open_tally (hval 1 _ v1 rfl rfl) h1
  obtain ⟨k, e, f, rfl, _, _, _⟩ := open_tally (hval 2 _ v2 rfl rfl) h2
  refine (joins_walk n a b m c d k e f wn wa wb W).mono fun e W' ⟨he, hg⟩ => ?_
  exact ⟨_, he, law_post laidOut (by kernel_rfl) (by kernel_rfl) Try.underlying4 rfl hW' rfl hg⟩

theorem joins_holds : Rows.TallyJoinsSaid :=
  OpenClaim.holds_of_wide 3 Try.f3 rfl rfl rfl rfl rfl rfl rfl ⟨rfl, rfl, rfl, rfl, rfl⟩ rfl rfl rfl rfl rfl (by kernel_rfl) Try.func3 (by kernel_rfl)
    (of_decide_eq_true (by kernel_rfl)) (by unfold Func.isWrapper; first | (rw [if_pos (by decide +kernel)]; kernel_rfl) | (rw [if_neg (by decide +kernel)]; exact ⟨rfl, rfl⟩))
    (fun os started H enc _ => joins_lifted os started H enc)
#print axioms joins_holds
end Go.Proofs.Ytjeaobknojmbpaa
