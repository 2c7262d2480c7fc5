/-
  What is left where a tally is taken from another one (tally.Less and the reference's), by contract.
-/
import Derived.Test.YtjeaobknojmbpaaDoorLaw
namespace Go.Proofs.YtjeaobknojmbpaaDoor
open Go.ChangeShapes Go.WideShapes Go.ChangeAt Go.RowKit
set_option linter.unusedVariables false
set_option linter.unusedSimpArgs false

set_option maxHeartbeats 1000000 in
theorem less_neg (n a b m c d : Int) (hm : m < 0) (w : World) :
    Calls Tryd.prog 18 #[tv n a b, tv m c d] w fun e w' => e = .returned (.tuple #[tv 0 0 0, .int .i64 50]) ∧ Below w.heap.size w w' := by
  go_enter Tryd.func18, Tryd.ntmps18
  go_wp2_with fail
  refine bodyPost_ret (v := .tuple #[tv 0 0 0, .int .i64 50]) (by simp [results, Tryd.results18, go_sem]) rfl ⟨rfl, ?_⟩
  repeat (first | exact Below.refl _ _ | refine Below.alloc ?_ (by first | omega | (simp; done) | (simp; omega)) _ | refine Below.setCell ?_ (by first | omega | (simp; done) | (simp; omega)) _)

set_option maxHeartbeats 1000000 in
theorem less_big (n a b m c d : Int) (hm : 0 ≤ m) (h : n < m) (w : World) :
    Calls Tryd.prog 18 #[tv n a b, tv m c d] w fun e w' => e = .returned (.tuple #[tv 0 0 0, .int .i64 50]) ∧ Below w.heap.size w w' := by
  go_enter Tryd.func18, Tryd.ntmps18
  go_wp2_with fail
  refine bodyPost_ret (v := .tuple #[tv 0 0 0, .int .i64 50]) (by simp [results, Tryd.results18, go_sem]) rfl ⟨rfl, ?_⟩
  repeat (first | exact Below.refl _ _ | refine Below.alloc ?_ (by first | omega | (simp; done) | (simp; omega)) _ | refine Below.setCell ?_ (by first | omega | (simp; done) | (simp; omega)) _)

set_option maxHeartbeats 1000000 in
theorem less_odd (n a b m c d : Int) (hm : 0 ≤ m) (h : n = m) (hs : (a == c && b == d) = false) (w : World) :
    Calls Tryd.prog 18 #[tv n a b, tv m c d] w fun e w' => e = .returned (.tuple #[tv 0 0 0, .int .i64 50]) ∧ Below w.heap.size w w' := by
  subst h
  go_enter Tryd.func18, Tryd.ntmps18
  go_wp2_with fail
  refine bodyPost_ret (v := .tuple #[tv 0 0 0, .int .i64 50]) (by simp [results, Tryd.results18, go_sem]) rfl ⟨rfl, ?_⟩
  repeat (first | exact Below.refl _ _ | refine Below.alloc ?_ (by first | omega | (simp; done) | (simp; omega)) _ | refine Below.setCell ?_ (by first | omega | (simp; done) | (simp; omega)) _)

set_option maxHeartbeats 2000000 in
theorem less_less (n a b m c d : Int) (hm : 0 ≤ m) (h : m < n) (hn : n ≤ 9223372036854775807) (w : World) :
    Calls Tryd.prog 18 #[tv n a b, tv m c d] w fun e w' => e = .returned (.tuple #[tv (n - m) (u64 (a - c)) (u64 (b - d)), .int .i64 0]) ∧ Below w.heap.size w w' := by
  have hne : (n == m) = false := by rw [beq_eq_false_iff_ne]; omega
  go_enter Tryd.func18, Tryd.ntmps18
  go_wp2_with fail
  have hSt : Stable (fun w1 : World => (Below w.heap.size w w1) ∧ (w1.heap[w.heap.size]? = some (.cells #[.int .i64 n, .int .u64 a, .int .u64 b] 28 (0, 0))) ∧ (w1.heap[w.heap.size + 1]? = some (.cells #[.int .i64 m, .int .u64 c, .int .u64 d] 28 (0, 0))) ∧ (w1.heap[w.heap.size + 1 + 1]? = some (.cells #[.int .i64 0, .int .u64 0, .int .u64 0] 28 (0, 0)))) := by repeat (first | exact stable_ext _ | exact stable_blk _ _ | exact stable_true | (refine stable_bel ?_ ; (focus (first | (simp [World.size_setCell] ; done) | (simp [World.setCell] ; done)))) | refine Stable.and ?_ ?_)
  refine wp_region_x [0, 1, 2, 3, 4, 5, 6, 7, 8, 9, 10, 11, 12] [0, 1, 0, 1, 0, 0, 1, 0, 1, 1, 0, 3, 0] (fun w1 => (Below w.heap.size w w1) ∧ (w1.heap[w.heap.size]? = some (.cells #[.int .i64 n, .int .u64 a, .int .u64 b] 28 (0, 0))) ∧ (w1.heap[w.heap.size + 1]? = some (.cells #[.int .i64 m, .int .u64 c, .int .u64 d] 28 (0, 0))) ∧ (w1.heap[w.heap.size + 1 + 1]? = some (.cells #[.int .i64 0, .int .u64 0, .int .u64 0] 28 (0, 0)))) (by kernel_rfl) (by kernel_rfl) ?_ ?_
  · (refine ⟨?_, ?_, ?_, ?_⟩ <;> (repeat (first | (with_reducible assumption) | (with_reducible exact Below.refl _ _) | (with_reducible refine heap_drew ?_) | (focus ((with_reducible refine heap_new ?_) ; simp ; done)) | (with_reducible apply heap_set_to) | (focus ((with_reducible refine heap_set_ne ?_ ?_ _) ; rotate_left ; (focus (first | omega | (simp ; done) | (simp ; omega))))) | (with_reducible refine heap_old ?_) | (with_reducible refine Below.drew ?_) | (with_reducible refine below_set ?_ _ _) | (focus ((with_reducible refine Below.setCell ?_ ?_ _) ; rotate_left ; (focus (first | omega | (simp ; done) | (simp ; omega))))) | (focus ((with_reducible refine Below.alloc ?_ ?_ _) ; rotate_left ; (focus (first | omega | (simp ; done) | (simp ; omega))))) | (with_reducible rfl) | (focus (simp ; done)))))
  simp only [List.map_cons, List.map_nil, List.getD_cons_zero, List.getD_cons_succ]
  (refine x_pure rfl _ ?_ rfl (by simp) ?_ ?_ ; rotate_left ; · (intro w1 K hK ; go_wp2_with fail ; exact rfl))
  simp only [Act.put, List.setIfInBounds_toArray, List.set_cons_succ, List.set_cons_zero]
  (refine x_quiet rfl hSt (fun _ h => h) _ ?_ rfl (by simp) ?_ ?_ ; rotate_left ; · (intro w1 hC K hK ; obtain ⟨hb, g0, g1, g2⟩ := hC ; have c0 := blk3 g0 ; have c1 := blk3 g1 ; have c2 := blk3 g2 ; go_wp2_with fail ; refine ⟨?_, Below.refl _ _⟩ ; exact rfl))
  simp only [Act.put, List.setIfInBounds_toArray, List.set_cons_succ, List.set_cons_zero]
  (refine x_pure rfl _ ?_ rfl (by simp) ?_ ?_ ; rotate_left ; · (intro w1 K hK ; go_wp2_with fail ; exact rfl))
  simp only [Act.put, List.setIfInBounds_toArray, List.set_cons_succ, List.set_cons_zero]
  (refine x_quiet rfl hSt (fun _ h => h) _ ?_ rfl (by simp) ?_ ?_ ; rotate_left ; · (intro w1 hC K hK ; obtain ⟨hb, g0, g1, g2⟩ := hC ; have c0 := blk3 g0 ; have c1 := blk3 g1 ; have c2 := blk3 g2 ; go_wp2_with fail ; refine ⟨?_, Below.refl _ _⟩ ; exact rfl))
  simp only [Act.put, List.setIfInBounds_toArray, List.set_cons_succ, List.set_cons_zero]
  (refine x_pure rfl _ ?_ rfl (by simp) ?_ ?_ ; rotate_left ; · (intro w1 K hK ; go_wp2_with fail ; exact rfl))
  simp only [Act.put, List.setIfInBounds_toArray, List.set_cons_succ, List.set_cons_zero]
  (refine x_pure rfl _ ?_ rfl (by simp) ?_ ?_ ; rotate_left ; · (intro w1 K hK ; go_wp2_with fail ; exact rfl))
  simp only [Act.put, List.setIfInBounds_toArray, List.set_cons_succ, List.set_cons_zero]
  (refine x_quiet rfl hSt (fun _ h => h) _ ?_ rfl (by simp) ?_ ?_ ; rotate_left ; · (intro w1 hC K hK ; obtain ⟨hb, g0, g1, g2⟩ := hC ; have c0 := blk3 g0 ; have c1 := blk3 g1 ; have c2 := blk3 g2 ; go_wp2_with fail ; refine ⟨?_, Below.refl _ _⟩ ; exact rfl))
  simp only [Act.put, List.setIfInBounds_toArray, List.set_cons_succ, List.set_cons_zero]
  (refine x_pure rfl _ ?_ rfl (by simp) ?_ ?_ ; rotate_left ; · (intro w1 K hK ; go_wp2_with fail ; exact rfl))
  simp only [Act.put, List.setIfInBounds_toArray, List.set_cons_succ, List.set_cons_zero]
  (refine x_quiet rfl hSt (fun _ h => h) _ ?_ rfl (by simp) ?_ ?_ ; rotate_left ; · (intro w1 hC K hK ; obtain ⟨hb, g0, g1, g2⟩ := hC ; have c0 := blk3 g0 ; have c1 := blk3 g1 ; have c2 := blk3 g2 ; go_wp2_with fail ; refine ⟨?_, Below.refl _ _⟩ ; exact rfl))
  simp only [Act.put, List.setIfInBounds_toArray, List.set_cons_succ, List.set_cons_zero]
  (refine x_quiet rfl hSt (fun _ h => h) _ ?_ rfl (by simp) ?_ ?_ ; rotate_left ; · (intro w1 hC K hK ; obtain ⟨hb, g0, g1, g2⟩ := hC ; have c0 := blk3 g0 ; have c1 := blk3 g1 ; have c2 := blk3 g2 ; go_wp2_with fail ; refine (sub_any _ _ _ _ _).mono ?_ ; rintro e w2 ⟨rfl, hb2⟩ ; refine hK _ _ ⟨?_, rfl, hb2⟩ ; exact rfl))
  simp only [Act.put, List.setIfInBounds_toArray, List.set_cons_succ, List.set_cons_zero]
  (refine x_pure rfl _ ?_ rfl (by simp) ?_ ?_ ; rotate_left ; · (intro w1 K hK ; go_wp2_with fail ; exact rfl))
  simp only [Act.put, List.setIfInBounds_toArray, List.set_cons_succ, List.set_cons_zero]
  refine x_write rfl ?_
  intro w1 hD K hK ; obtain ⟨hb, g0, g1, g2⟩ := hD ; have c0 := blk3 g0 ; have c1 := blk3 g1 ; have c2 := blk3 g2
  go_wp2_with fail
  (refine x_pure rfl _ ?_ rfl (by simp) ?_ ?_ ; rotate_left ; · (intro w1 K hK ; go_wp2_with fail ; exact rfl))
  simp only [Act.put, List.setIfInBounds_toArray, List.set_cons_succ, List.set_cons_zero]
  refine x_nil ?_
  rintro _ rfl
  go_wp2_with fail
  refine bodyPost_ret (v := .tuple #[tv (n - m) (u64 (a - c)) (u64 (b - d)), .int .i64 0]) (by simp [results, Tryd.results18, go_sem, c2]) rfl ⟨rfl, ?_⟩
  repeat (first | assumption | refine Below.setCell ?_ (by first | omega | (simp; done) | (simp; omega)) _)

set_option maxHeartbeats 2000000 in
theorem less_same (n a b m c d : Int) (hm : 0 ≤ m) (h : n = m) (h1 : a = c) (h2 : b = d) (hn : n ≤ 9223372036854775807) (w : World) :
    Calls Tryd.prog 18 #[tv n a b, tv m c d] w fun e w' => e = .returned (.tuple #[tv 0 0 0, .int .i64 0]) ∧ Below w.heap.size w w' := by
  subst h h1 h2
  go_enter Tryd.func18, Tryd.ntmps18
  go_wp2_with fail
  have hSt : Stable (fun w1 : World => (Below w.heap.size w w1) ∧ (w1.heap[w.heap.size]? = some (.cells #[.int .i64 n, .int .u64 a, .int .u64 b] 28 (0, 0))) ∧ (w1.heap[w.heap.size + 1]? = some (.cells #[.int .i64 n, .int .u64 a, .int .u64 b] 28 (0, 0))) ∧ (w1.heap[w.heap.size + 1 + 1]? = some (.cells #[.int .i64 0, .int .u64 0, .int .u64 0] 28 (0, 0)))) := by repeat (first | exact stable_ext _ | exact stable_blk _ _ | exact stable_true | (refine stable_bel ?_ ; (focus (first | (simp [World.size_setCell] ; done) | (simp [World.setCell] ; done)))) | refine Stable.and ?_ ?_)
  refine wp_region_x [0, 1, 2, 3, 4, 5, 6, 7, 8, 9, 10, 11, 12] [0, 1, 0, 1, 0, 0, 1, 0, 1, 1, 0, 3, 0] (fun w1 => (Below w.heap.size w w1) ∧ (w1.heap[w.heap.size]? = some (.cells #[.int .i64 n, .int .u64 a, .int .u64 b] 28 (0, 0))) ∧ (w1.heap[w.heap.size + 1]? = some (.cells #[.int .i64 n, .int .u64 a, .int .u64 b] 28 (0, 0))) ∧ (w1.heap[w.heap.size + 1 + 1]? = some (.cells #[.int .i64 0, .int .u64 0, .int .u64 0] 28 (0, 0)))) (by kernel_rfl) (by kernel_rfl) ?_ ?_
  · (refine ⟨?_, ?_, ?_, ?_⟩ <;> (repeat (first | (with_reducible assumption) | (with_reducible exact Below.refl _ _) | (with_reducible refine heap_drew ?_) | (focus ((with_reducible refine heap_new ?_) ; simp ; done)) | (with_reducible apply heap_set_to) | (focus ((with_reducible refine heap_set_ne ?_ ?_ _) ; rotate_left ; (focus (first | omega | (simp ; done) | (simp ; omega))))) | (with_reducible refine heap_old ?_) | (with_reducible refine Below.drew ?_) | (with_reducible refine below_set ?_ _ _) | (focus ((with_reducible refine Below.setCell ?_ ?_ _) ; rotate_left ; (focus (first | omega | (simp ; done) | (simp ; omega))))) | (focus ((with_reducible refine Below.alloc ?_ ?_ _) ; rotate_left ; (focus (first | omega | (simp ; done) | (simp ; omega))))) | (with_reducible rfl) | (focus (simp ; done)))))
  simp only [List.map_cons, List.map_nil, List.getD_cons_zero, List.getD_cons_succ]
  (refine x_pure rfl _ ?_ rfl (by simp) ?_ ?_ ; rotate_left ; · (intro w1 K hK ; go_wp2_with fail ; exact rfl))
  simp only [Act.put, List.setIfInBounds_toArray, List.set_cons_succ, List.set_cons_zero]
  (refine x_quiet rfl hSt (fun _ h => h) _ ?_ rfl (by simp) ?_ ?_ ; rotate_left ; · (intro w1 hC K hK ; obtain ⟨hb, g0, g1, g2⟩ := hC ; have c0 := blk3 g0 ; have c1 := blk3 g1 ; have c2 := blk3 g2 ; go_wp2_with fail ; refine ⟨?_, Below.refl _ _⟩ ; exact rfl))
  simp only [Act.put, List.setIfInBounds_toArray, List.set_cons_succ, List.set_cons_zero]
  (refine x_pure rfl _ ?_ rfl (by simp) ?_ ?_ ; rotate_left ; · (intro w1 K hK ; go_wp2_with fail ; exact rfl))
  simp only [Act.put, List.setIfInBounds_toArray, List.set_cons_succ, List.set_cons_zero]
  (refine x_quiet rfl hSt (fun _ h => h) _ ?_ rfl (by simp) ?_ ?_ ; rotate_left ; · (intro w1 hC K hK ; obtain ⟨hb, g0, g1, g2⟩ := hC ; have c0 := blk3 g0 ; have c1 := blk3 g1 ; have c2 := blk3 g2 ; go_wp2_with fail ; refine ⟨?_, Below.refl _ _⟩ ; exact rfl))
  simp only [Act.put, List.setIfInBounds_toArray, List.set_cons_succ, List.set_cons_zero]
  (refine x_pure rfl _ ?_ rfl (by simp) ?_ ?_ ; rotate_left ; · (intro w1 K hK ; go_wp2_with fail ; exact rfl))
  simp only [Act.put, List.setIfInBounds_toArray, List.set_cons_succ, List.set_cons_zero]
  (refine x_pure rfl _ ?_ rfl (by simp) ?_ ?_ ; rotate_left ; · (intro w1 K hK ; go_wp2_with fail ; exact rfl))
  simp only [Act.put, List.setIfInBounds_toArray, List.set_cons_succ, List.set_cons_zero]
  (refine x_quiet rfl hSt (fun _ h => h) _ ?_ rfl (by simp) ?_ ?_ ; rotate_left ; · (intro w1 hC K hK ; obtain ⟨hb, g0, g1, g2⟩ := hC ; have c0 := blk3 g0 ; have c1 := blk3 g1 ; have c2 := blk3 g2 ; go_wp2_with fail ; refine ⟨?_, Below.refl _ _⟩ ; exact rfl))
  simp only [Act.put, List.setIfInBounds_toArray, List.set_cons_succ, List.set_cons_zero]
  (refine x_pure rfl _ ?_ rfl (by simp) ?_ ?_ ; rotate_left ; · (intro w1 K hK ; go_wp2_with fail ; exact rfl))
  simp only [Act.put, List.setIfInBounds_toArray, List.set_cons_succ, List.set_cons_zero]
  (refine x_quiet rfl hSt (fun _ h => h) _ ?_ rfl (by simp) ?_ ?_ ; rotate_left ; · (intro w1 hC K hK ; obtain ⟨hb, g0, g1, g2⟩ := hC ; have c0 := blk3 g0 ; have c1 := blk3 g1 ; have c2 := blk3 g2 ; go_wp2_with fail ; refine ⟨?_, Below.refl _ _⟩ ; exact rfl))
  simp only [Act.put, List.setIfInBounds_toArray, List.set_cons_succ, List.set_cons_zero]
  (refine x_quiet rfl hSt (fun _ h => h) _ ?_ rfl (by simp) ?_ ?_ ; rotate_left ; · (intro w1 hC K hK ; obtain ⟨hb, g0, g1, g2⟩ := hC ; have c0 := blk3 g0 ; have c1 := blk3 g1 ; have c2 := blk3 g2 ; go_wp2_with fail ; refine (sub_any _ _ _ _ _).mono ?_ ; rintro e w2 ⟨rfl, hb2⟩ ; refine hK _ _ ⟨?_, rfl, hb2⟩ ; exact rfl))
  simp only [Act.put, List.setIfInBounds_toArray, List.set_cons_succ, List.set_cons_zero]
  (refine x_pure rfl _ ?_ rfl (by simp) ?_ ?_ ; rotate_left ; · (intro w1 K hK ; go_wp2_with fail ; exact rfl))
  simp only [Act.put, List.setIfInBounds_toArray, List.set_cons_succ, List.set_cons_zero]
  refine x_write rfl ?_
  intro w1 hD K hK ; obtain ⟨hb, g0, g1, g2⟩ := hD ; have c0 := blk3 g0 ; have c1 := blk3 g1 ; have c2 := blk3 g2
  go_wp2_with fail
  (refine x_pure rfl _ ?_ rfl (by simp) ?_ ?_ ; rotate_left ; · (intro w1 K hK ; go_wp2_with fail ; exact rfl))
  simp only [Act.put, List.setIfInBounds_toArray, List.set_cons_succ, List.set_cons_zero]
  refine x_nil ?_
  rintro _ rfl
  go_wp2_with fail
  refine bodyPost_ret (v := .tuple #[tv 0 0 0, .int .i64 0]) (by simp [results, Tryd.results18, go_sem, c2, u64, show IntKind.u64.wrap 0 = 0 from rfl]) rfl ⟨rfl, ?_⟩
  repeat (first | assumption | refine Below.setCell ?_ (by first | omega | (simp; done) | (simp; omega)) _)

end Go.Proofs.YtjeaobknojmbpaaDoor
