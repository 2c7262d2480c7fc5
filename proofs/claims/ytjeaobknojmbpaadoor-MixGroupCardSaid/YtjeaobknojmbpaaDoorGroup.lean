/-
  MixGroup: sums are a group, whatever they are.
-/
import Derived.Test.YtjeaobknojmbpaaDoorShown
namespace Go.Proofs.YtjeaobknojmbpaaDoor
open Go.ChangeShapes Go.WideShapes Go.ChangeAt Go.RowKit Go.Deep
set_option linter.unusedVariables false
set_option linter.unusedSimpArgs false

theorem u64_mod (x : Int) : u64 x = x % 18446744073709551616 := by simp [u64, IntKind.wrap, IntKind.signed, IntKind.bits]
theorem g_id {a : Int} (h : Inr .u64 a) : u64 a = a := by have := h.u64; rw [u64_mod]; omega
theorem g_assoc (a b c : Int) : u64 (u64 (a + b) + c) = u64 (a + u64 (b + c)) := by simp only [u64_mod]; omega
theorem g_addsub {a : Int} (h : Inr .u64 a) (b : Int) : u64 (u64 (a + b) - b) = a := by have := h.u64; simp only [u64_mod]; omega
theorem g_subadd {a : Int} (h : Inr .u64 a) (b : Int) : u64 (u64 (a - b) + b) = a := by have := h.u64; simp only [u64_mod]; omega
theorem g_neg (a b : Int) : u64 (-(u64 (a - b))) = u64 (b - a) := by simp only [u64_mod]; omega

set_option maxHeartbeats 16000000 in
theorem group_walk (a1 a2 b1 b2 c1 c2 : Int) (ha1 : Inr .u64 a1) (ha2 : Inr .u64 a2) (w : World) (hL : Lanes w) :
    Calls Tryd.prog 8 #[sv a1 a2, sv b1 b2, sv c1 c2] w fun r w' => r = .returned (.bool true) ∧ Below w.heap.size w w' := by
  have hL0 := hL.lt
  have HL : Hid (Lanes w) := hL
  clear hL
  have i1 := g_id ha1
  have i2 := g_id ha2
  have s1 := g_assoc a1 b1 c1
  have s2 := g_assoc a2 b2 c2
  have d1 := g_addsub ha1 b1
  have d2 := g_addsub ha2 b2
  have e1 := g_subadd ha1 b1
  have e2 := g_subadd ha2 b2
  have n1 := g_neg a1 b1
  have n2 := g_neg a2 b2
  have k1 : u64 (b1 + a1) = u64 (a1 + b1) := by rw [Int.add_comm]
  have k2 : u64 (b2 + a2) = u64 (a2 + b2) := by rw [Int.add_comm]
  have z0 : u64 0 = 0 := rfl
  clear ha1 ha2
  go_enter Tryd.func8, Tryd.ntmps8
  go_wp2_with fail
  have hb0 : Below w.heap.size w (((w.alloc (.cells #[.int .u64 a1, .int .u64 a2] 26 (0, 0))).alloc (.cells #[.int .u64 b1, .int .u64 b2] 26 (0, 0))).alloc (.cells #[.int .u64 c1, .int .u64 c2] 26 (0, 0))) := by (repeat (first | (with_reducible assumption) | (with_reducible exact Below.refl _ _) | (with_reducible refine heap_drew ?_) | (focus ((with_reducible refine heap_new ?_) ; simp ; done)) | (with_reducible apply heap_set_to) | (focus ((with_reducible refine heap_set_ne ?_ ?_ _) ; rotate_left ; (focus (first | omega | (simp ; done) | (simp ; omega))))) | (with_reducible refine heap_old ?_) | (with_reducible refine Below.drew ?_) | (with_reducible refine below_set ?_ _ _) | (focus ((with_reducible refine Below.setCell ?_ ?_ _) ; rotate_left ; (focus (first | omega | (simp ; done) | (simp ; omega))))) | (focus ((with_reducible refine Below.alloc ?_ ?_ _) ; rotate_left ; (focus (first | omega | (simp ; done) | (simp ; omega))))) | (with_reducible rfl) | (focus (simp ; done))))
  refine (shown_any _ (HL.out.below hb0 hL0)).mono ?_
  rintro e w1 ⟨rfl, hb1⟩
  clear hb0
  have g0 : w1.heap[w.heap.size]? = some (.cells #[.int .u64 a1, .int .u64 a2] 26 (0, 0)) := blk_below (by (repeat (first | (with_reducible assumption) | (with_reducible exact Below.refl _ _) | (with_reducible refine heap_drew ?_) | (focus ((with_reducible refine heap_new ?_) ; simp ; done)) | (with_reducible apply heap_set_to) | (focus ((with_reducible refine heap_set_ne ?_ ?_ _) ; rotate_left ; (focus (first | omega | (simp ; done) | (simp ; omega))))) | (with_reducible refine heap_old ?_) | (with_reducible refine Below.drew ?_) | (with_reducible refine below_set ?_ _ _) | (focus ((with_reducible refine Below.setCell ?_ ?_ _) ; rotate_left ; (focus (first | omega | (simp ; done) | (simp ; omega))))) | (focus ((with_reducible refine Below.alloc ?_ ?_ _) ; rotate_left ; (focus (first | omega | (simp ; done) | (simp ; omega))))) | (with_reducible rfl) | (focus (simp ; done))))) hb1
  have g1 : w1.heap[w.heap.size + 1]? = some (.cells #[.int .u64 b1, .int .u64 b2] 26 (0, 0)) := blk_below (by (repeat (first | (with_reducible assumption) | (with_reducible exact Below.refl _ _) | (with_reducible refine heap_drew ?_) | (focus ((with_reducible refine heap_new ?_) ; simp ; done)) | (with_reducible apply heap_set_to) | (focus ((with_reducible refine heap_set_ne ?_ ?_ _) ; rotate_left ; (focus (first | omega | (simp ; done) | (simp ; omega))))) | (with_reducible refine heap_old ?_) | (with_reducible refine Below.drew ?_) | (with_reducible refine below_set ?_ _ _) | (focus ((with_reducible refine Below.setCell ?_ ?_ _) ; rotate_left ; (focus (first | omega | (simp ; done) | (simp ; omega))))) | (focus ((with_reducible refine Below.alloc ?_ ?_ _) ; rotate_left ; (focus (first | omega | (simp ; done) | (simp ; omega))))) | (with_reducible rfl) | (focus (simp ; done))))) hb1
  have g2 : w1.heap[w.heap.size + 1 + 1]? = some (.cells #[.int .u64 c1, .int .u64 c2] 26 (0, 0)) := blk_below (by (repeat (first | (with_reducible assumption) | (with_reducible exact Below.refl _ _) | (with_reducible refine heap_drew ?_) | (focus ((with_reducible refine heap_new ?_) ; simp ; done)) | (with_reducible apply heap_set_to) | (focus ((with_reducible refine heap_set_ne ?_ ?_ _) ; rotate_left ; (focus (first | omega | (simp ; done) | (simp ; omega))))) | (with_reducible refine heap_old ?_) | (with_reducible refine Below.drew ?_) | (with_reducible refine below_set ?_ _ _) | (focus ((with_reducible refine Below.setCell ?_ ?_ _) ; rotate_left ; (focus (first | omega | (simp ; done) | (simp ; omega))))) | (focus ((with_reducible refine Below.alloc ?_ ?_ _) ; rotate_left ; (focus (first | omega | (simp ; done) | (simp ; omega))))) | (with_reducible rfl) | (focus (simp ; done))))) hb1
  have hb : Below w.heap.size w w1 := below_back (by (repeat (first | (with_reducible assumption) | (with_reducible exact Below.refl _ _) | (with_reducible refine heap_drew ?_) | (focus ((with_reducible refine heap_new ?_) ; simp ; done)) | (with_reducible apply heap_set_to) | (focus ((with_reducible refine heap_set_ne ?_ ?_ _) ; rotate_left ; (focus (first | omega | (simp ; done) | (simp ; omega))))) | (with_reducible refine heap_old ?_) | (with_reducible refine Below.drew ?_) | (with_reducible refine below_set ?_ _ _) | (focus ((with_reducible refine Below.setCell ?_ ?_ _) ; rotate_left ; (focus (first | omega | (simp ; done) | (simp ; omega))))) | (focus ((with_reducible refine Below.alloc ?_ ?_ _) ; rotate_left ; (focus (first | omega | (simp ; done) | (simp ; omega))))) | (with_reducible rfl) | (focus (simp ; done))))) (by first | omega | (simp ; done) | (simp ; omega)) hb1
  clear hb1
  have hz := hb.size
  have q0 := blk2 g0
  have q1 := blk2 g1
  go_wp2_with fail
  refine (add_any a1 a2 b1 b2 _).mono ?_
  rintro e w2 ⟨rfl, hb2⟩
  replace g0 := blk_below g0 hb2
  replace g1 := blk_below g1 hb2
  replace g2 := blk_below g2 hb2
  replace hb := below_back hb hz hb2
  clear hb2 hz q0 q1
  have hz := hb.size
  go_wp2_with fail
  obtain ⟨ab, hab⟩ : ∃ g, g = w2.heap.size := ⟨_, rfl⟩
  have g3 : ((w2.alloc (.cells #[.int .u64 (u64 (a1 + b1)), .int .u64 (u64 (a2 + b2))] 26 (0, 0))).alloc (.cells #[.int .u64 0, .int .u64 0] 26 (0, 0))).heap[w2.heap.size]? = some (.cells #[.int .u64 (u64 (a1 + b1)), .int .u64 (u64 (a2 + b2))] 26 (0, 0)) := by (repeat (first | (with_reducible assumption) | (with_reducible exact Below.refl _ _) | (with_reducible refine heap_drew ?_) | (focus ((with_reducible refine heap_new ?_) ; simp ; done)) | (with_reducible apply heap_set_to) | (focus ((with_reducible refine heap_set_ne ?_ ?_ _) ; rotate_left ; (focus (first | omega | (simp ; done) | (simp ; omega))))) | (with_reducible refine heap_old ?_) | (with_reducible refine Below.drew ?_) | (with_reducible refine below_set ?_ _ _) | (focus ((with_reducible refine Below.setCell ?_ ?_ _) ; rotate_left ; (focus (first | omega | (simp ; done) | (simp ; omega))))) | (focus ((with_reducible refine Below.alloc ?_ ?_ _) ; rotate_left ; (focus (first | omega | (simp ; done) | (simp ; omega))))) | (with_reducible rfl) | (focus (simp ; done))))
  have g4 : ((w2.alloc (.cells #[.int .u64 (u64 (a1 + b1)), .int .u64 (u64 (a2 + b2))] 26 (0, 0))).alloc (.cells #[.int .u64 0, .int .u64 0] 26 (0, 0))).heap[w2.heap.size + 1]? = some (.cells #[.int .u64 0, .int .u64 0] 26 (0, 0)) := by (repeat (first | (with_reducible assumption) | (with_reducible exact Below.refl _ _) | (with_reducible refine heap_drew ?_) | (focus ((with_reducible refine heap_new ?_) ; simp ; done)) | (with_reducible apply heap_set_to) | (focus ((with_reducible refine heap_set_ne ?_ ?_ _) ; rotate_left ; (focus (first | omega | (simp ; done) | (simp ; omega))))) | (with_reducible refine heap_old ?_) | (with_reducible refine Below.drew ?_) | (with_reducible refine below_set ?_ _ _) | (focus ((with_reducible refine Below.setCell ?_ ?_ _) ; rotate_left ; (focus (first | omega | (simp ; done) | (simp ; omega))))) | (focus ((with_reducible refine Below.alloc ?_ ?_ _) ; rotate_left ; (focus (first | omega | (simp ; done) | (simp ; omega))))) | (with_reducible rfl) | (focus (simp ; done))))
  replace g0 := heap_old (o := .cells #[.int .u64 0, .int .u64 0] 26 (0, 0)) (heap_old (o := .cells #[.int .u64 (u64 (a1 + b1)), .int .u64 (u64 (a2 + b2))] 26 (0, 0)) g0)
  replace g1 := heap_old (o := .cells #[.int .u64 0, .int .u64 0] 26 (0, 0)) (heap_old (o := .cells #[.int .u64 (u64 (a1 + b1)), .int .u64 (u64 (a2 + b2))] 26 (0, 0)) g1)
  replace g2 := heap_old (o := .cells #[.int .u64 0, .int .u64 0] 26 (0, 0)) (heap_old (o := .cells #[.int .u64 (u64 (a1 + b1)), .int .u64 (u64 (a2 + b2))] 26 (0, 0)) g2)
  replace hb := (hb.alloc hz (.cells #[.int .u64 (u64 (a1 + b1)), .int .u64 (u64 (a2 + b2))] 26 (0, 0))).alloc (by simp; omega) (.cells #[.int .u64 0, .int .u64 0] 26 (0, 0))
  rw [← hab] at g3 g4 ⊢
  generalize hws : (w2.alloc (.cells #[.int .u64 (u64 (a1 + b1)), .int .u64 (u64 (a2 + b2))] 26 (0, 0))).alloc (.cells #[.int .u64 0, .int .u64 0] 26 (0, 0)) = ws at *
  have hzs := hb.size
  clear hws hab hz
  have hSt : Stable (fun w3 : World => (Below ws.heap.size ws w3)) := by repeat (first | exact stable_ext _ | exact stable_blk _ _ | exact stable_true | (refine stable_bel ?_ ; (focus (first | (simp [World.size_setCell] ; done) | (simp [World.setCell] ; done)))) | refine Stable.and ?_ ?_)
  refine wp_region_x [0, 1, 2, 3, 4, 5, 6, 7, 8, 9, 10, 11, 12, 13, 14, 15, 16, 17, 18, 19, 20, 21, 22, 23, 24, 25, 26, 27, 28, 29, 30, 31, 32, 33, 34, 35, 36, 37, 38, 39, 40, 41, 42, 43, 44, 45, 46, 47, 48, 49, 50, 51, 52, 53, 54, 55, 56, 57, 58, 59, 60, 61, 62, 63, 64, 65, 66, 67, 68, 69, 70, 71, 72, 73, 74, 75, 76, 77, 78, 79, 80] [1, 1, 1, 1, 0, 0, 1, 1, 1, 1, 1, 1, 0, 0, 0, 1, 1, 1, 1, 0, 0, 0, 1, 1, 1, 1, 1, 1, 1, 1, 0, 0, 0, 1, 1, 1, 1, 0, 0, 0, 1, 1, 1, 1, 0, 0, 0, 1, 1, 1, 1, 0, 0, 0, 1, 1, 1, 1, 0, 0, 0, 1, 1, 1, 1, 1, 1, 0, 0, 0, 1, 1, 1, 1, 1, 1, 1, 1, 0, 0, 0] (fun w3 => (Below ws.heap.size ws w3)) (by kernel_rfl) (by kernel_rfl) ?_ ?_
  · (first | trivial | (repeat (first | (with_reducible assumption) | (with_reducible exact Below.refl _ _) | (with_reducible refine heap_drew ?_) | (focus ((with_reducible refine heap_new ?_) ; simp ; done)) | (with_reducible apply heap_set_to) | (focus ((with_reducible refine heap_set_ne ?_ ?_ _) ; rotate_left ; (focus (first | omega | (simp ; done) | (simp ; omega))))) | (with_reducible refine heap_old ?_) | (with_reducible refine Below.drew ?_) | (with_reducible refine below_set ?_ _ _) | (focus ((with_reducible refine Below.setCell ?_ ?_ _) ; rotate_left ; (focus (first | omega | (simp ; done) | (simp ; omega))))) | (focus ((with_reducible refine Below.alloc ?_ ?_ _) ; rotate_left ; (focus (first | omega | (simp ; done) | (simp ; omega))))) | (with_reducible rfl) | (focus (simp ; done)))))
  simp only [List.map_cons, List.map_nil, List.append_eq, List.cons_append, List.nil_append, List.getD_cons_zero, List.getD_cons_succ]
  (refine x_quiet rfl hSt (fun _ h => h) _ ?_ rfl (by simp) ?_ ?_ ; rotate_left ; · (intro w3 hC K hK ; have hc := hC ; have p0 := blk2 (blk_below g0 hc) ; have p1 := blk2 (blk_below g1 hc) ; have p2 := blk2 (blk_below g2 hc) ; have p3 := blk2 (blk_below g3 hc) ; have p4 := blk2 (blk_below g4 hc) ; go_wp2_with fail ; refine ⟨?_, Below.refl _ _⟩ ; exact rfl))
  simp only [Act.put, List.setIfInBounds_toArray, List.set_cons_succ, List.set_cons_zero]
  (refine x_quiet rfl hSt (fun _ h => h) _ ?_ rfl (by simp) ?_ ?_ ; rotate_left ; · (intro w3 hC K hK ; have hc := hC ; have p0 := blk2 (blk_below g0 hc) ; have p1 := blk2 (blk_below g1 hc) ; have p2 := blk2 (blk_below g2 hc) ; have p3 := blk2 (blk_below g3 hc) ; have p4 := blk2 (blk_below g4 hc) ; go_wp2_with fail ; refine ⟨?_, Below.refl _ _⟩ ; exact rfl))
  simp only [Act.put, List.setIfInBounds_toArray, List.set_cons_succ, List.set_cons_zero]
  (refine x_quiet rfl hSt (fun _ h => h) _ ?_ rfl (by simp) ?_ ?_ ; rotate_left ; · (intro w3 hC K hK ; have hc := hC ; have p0 := blk2 (blk_below g0 hc) ; have p1 := blk2 (blk_below g1 hc) ; have p2 := blk2 (blk_below g2 hc) ; have p3 := blk2 (blk_below g3 hc) ; have p4 := blk2 (blk_below g4 hc) ; go_wp2_with fail ; refine ⟨?_, Below.refl _ _⟩ ; exact rfl))
  simp only [Act.put, List.setIfInBounds_toArray, List.set_cons_succ, List.set_cons_zero]
  (refine x_quiet rfl hSt (fun _ h => h) _ ?_ rfl (by simp) ?_ ?_ ; rotate_left ; · (intro w3 hC K hK ; have hc := hC ; have p0 := blk2 (blk_below g0 hc) ; have p1 := blk2 (blk_below g1 hc) ; have p2 := blk2 (blk_below g2 hc) ; have p3 := blk2 (blk_below g3 hc) ; have p4 := blk2 (blk_below g4 hc) ; go_wp2_with fail ; refine (radd_any _ _ _ _ _).mono ?_ ; rintro e w2 ⟨rfl, hb2⟩ ; refine hK _ _ ⟨?_, rfl, hb2⟩ ; exact rfl))
  simp only [Act.put, List.setIfInBounds_toArray, List.set_cons_succ, List.set_cons_zero]
  (refine x_pure rfl _ ?_ rfl (by simp) ?_ ?_ ; rotate_left ; · (intro w3 K hK ; go_wp2_with fail ; exact rfl))
  simp only [Act.put, List.setIfInBounds_toArray, List.set_cons_succ, List.set_cons_zero]
  (refine x_pure rfl _ ?_ rfl (by simp) ?_ ?_ ; rotate_left ; · (intro w3 K hK ; go_wp2_with fail ; exact rfl))
  simp only [Act.put, List.setIfInBounds_toArray, List.set_cons_succ, List.set_cons_zero]
  first | (refine x_skip rfl ?_) | (refine x_quiet rfl hSt (fun _ h => h) _ ?_ rfl (by simp) ?_ ?_ ; rotate_left ; · (intro w3 hC K hK ; have hc := hC ; have p0 := blk2 (blk_below g0 hc) ; have p1 := blk2 (blk_below g1 hc) ; have p2 := blk2 (blk_below g2 hc) ; have p3 := blk2 (blk_below g3 hc) ; have p4 := blk2 (blk_below g4 hc) ; go_wp2_with fail ; refine ⟨?_, Below.refl _ _⟩ ; exact rfl))
  simp only [Act.put, List.setIfInBounds_toArray, List.set_cons_succ, List.set_cons_zero]
  first | (refine x_skip rfl ?_) | (refine x_quiet rfl hSt (fun _ h => h) _ ?_ rfl (by simp) ?_ ?_ ; rotate_left ; · (intro w3 hC K hK ; have hc := hC ; have p0 := blk2 (blk_below g0 hc) ; have p1 := blk2 (blk_below g1 hc) ; have p2 := blk2 (blk_below g2 hc) ; have p3 := blk2 (blk_below g3 hc) ; have p4 := blk2 (blk_below g4 hc) ; go_wp2_with fail ; refine ⟨?_, Below.refl _ _⟩ ; exact rfl))
  simp only [Act.put, List.setIfInBounds_toArray, List.set_cons_succ, List.set_cons_zero]
  first | (refine x_skip rfl ?_) | (refine x_quiet rfl hSt (fun _ h => h) _ ?_ rfl (by simp) ?_ ?_ ; rotate_left ; · (intro w3 hC K hK ; have hc := hC ; have p0 := blk2 (blk_below g0 hc) ; have p1 := blk2 (blk_below g1 hc) ; have p2 := blk2 (blk_below g2 hc) ; have p3 := blk2 (blk_below g3 hc) ; have p4 := blk2 (blk_below g4 hc) ; go_wp2_with fail ; refine (sub_any _ _ _ _ _).mono ?_ ; rintro e w2 ⟨rfl, hb2⟩ ; refine hK _ _ ⟨?_, rfl, hb2⟩ ; exact rfl))
  simp only [Act.put, List.setIfInBounds_toArray, List.set_cons_succ, List.set_cons_zero]
  first | (refine x_skip rfl ?_) | (refine x_quiet rfl hSt (fun _ h => h) _ ?_ rfl (by simp) ?_ ?_ ; rotate_left ; · (intro w3 hC K hK ; have hc := hC ; have p0 := blk2 (blk_below g0 hc) ; have p1 := blk2 (blk_below g1 hc) ; have p2 := blk2 (blk_below g2 hc) ; have p3 := blk2 (blk_below g3 hc) ; have p4 := blk2 (blk_below g4 hc) ; go_wp2_with fail ; refine ⟨?_, Below.refl _ _⟩ ; exact rfl))
  simp only [Act.put, List.setIfInBounds_toArray, List.set_cons_succ, List.set_cons_zero]
  first | (refine x_skip rfl ?_) | (refine x_quiet rfl hSt (fun _ h => h) _ ?_ rfl (by simp) ?_ ?_ ; rotate_left ; · (intro w3 hC K hK ; have hc := hC ; have p0 := blk2 (blk_below g0 hc) ; have p1 := blk2 (blk_below g1 hc) ; have p2 := blk2 (blk_below g2 hc) ; have p3 := blk2 (blk_below g3 hc) ; have p4 := blk2 (blk_below g4 hc) ; go_wp2_with fail ; refine ⟨?_, Below.refl _ _⟩ ; exact rfl))
  simp only [Act.put, List.setIfInBounds_toArray, List.set_cons_succ, List.set_cons_zero]
  first | (refine x_skip rfl ?_) | (refine x_quiet rfl hSt (fun _ h => h) _ ?_ rfl (by simp) ?_ ?_ ; rotate_left ; · (intro w3 hC K hK ; have hc := hC ; have p0 := blk2 (blk_below g0 hc) ; have p1 := blk2 (blk_below g1 hc) ; have p2 := blk2 (blk_below g2 hc) ; have p3 := blk2 (blk_below g3 hc) ; have p4 := blk2 (blk_below g4 hc) ; go_wp2_with fail ; refine (rsub_any _ _ _ _ _).mono ?_ ; rintro e w2 ⟨rfl, hb2⟩ ; refine hK _ _ ⟨?_, rfl, hb2⟩ ; exact rfl))
  simp only [Act.put, List.setIfInBounds_toArray, List.set_cons_succ, List.set_cons_zero]
  first | (refine x_skip rfl ?_) | (refine x_pure rfl _ ?_ rfl (by simp) ?_ ?_ ; rotate_left ; · (intro w3 K hK ; go_wp2_with fail ; exact rfl))
  simp only [Act.put, List.setIfInBounds_toArray, List.set_cons_succ, List.set_cons_zero]
  (refine x_pure rfl _ ?_ rfl (by simp) ?_ ?_ ; rotate_left ; · (intro w3 K hK ; go_wp2_with fail ; exact rfl))
  simp only [Act.put, List.setIfInBounds_toArray, List.set_cons_succ, List.set_cons_zero]
  (refine x_pure rfl _ ?_ rfl (by simp) ?_ ?_ ; rotate_left ; · (intro w3 K hK ; go_wp2_with fail ; exact rfl))
  simp only [Act.put, List.setIfInBounds_toArray, List.set_cons_succ, List.set_cons_zero]
  first | (refine x_skip rfl ?_) | (refine x_quiet rfl hSt (fun _ h => h) _ ?_ rfl (by simp) ?_ ?_ ; rotate_left ; · (intro w3 hC K hK ; have hc := hC ; have p0 := blk2 (blk_below g0 hc) ; have p1 := blk2 (blk_below g1 hc) ; have p2 := blk2 (blk_below g2 hc) ; have p3 := blk2 (blk_below g3 hc) ; have p4 := blk2 (blk_below g4 hc) ; go_wp2_with fail ; refine ⟨?_, Below.refl _ _⟩ ; exact rfl))
  simp only [Act.put, List.setIfInBounds_toArray, List.set_cons_succ, List.set_cons_zero]
  first | (refine x_skip rfl ?_) | (refine x_quiet rfl hSt (fun _ h => h) _ ?_ rfl (by simp) ?_ ?_ ; rotate_left ; · (intro w3 hC K hK ; have hc := hC ; have p0 := blk2 (blk_below g0 hc) ; have p1 := blk2 (blk_below g1 hc) ; have p2 := blk2 (blk_below g2 hc) ; have p3 := blk2 (blk_below g3 hc) ; have p4 := blk2 (blk_below g4 hc) ; go_wp2_with fail ; refine ⟨?_, Below.refl _ _⟩ ; exact rfl))
  simp only [Act.put, List.setIfInBounds_toArray, List.set_cons_succ, List.set_cons_zero]
  first | (refine x_skip rfl ?_) | (refine x_quiet rfl hSt (fun _ h => h) _ ?_ rfl (by simp) ?_ ?_ ; rotate_left ; · (intro w3 hC K hK ; have hc := hC ; have p0 := blk2 (blk_below g0 hc) ; have p1 := blk2 (blk_below g1 hc) ; have p2 := blk2 (blk_below g2 hc) ; have p3 := blk2 (blk_below g3 hc) ; have p4 := blk2 (blk_below g4 hc) ; go_wp2_with fail ; refine ⟨?_, Below.refl _ _⟩ ; exact rfl))
  simp only [Act.put, List.setIfInBounds_toArray, List.set_cons_succ, List.set_cons_zero]
  first | (refine x_skip rfl ?_) | (refine x_quiet rfl hSt (fun _ h => h) _ ?_ rfl (by simp) ?_ ?_ ; rotate_left ; · (intro w3 hC K hK ; have hc := hC ; have p0 := blk2 (blk_below g0 hc) ; have p1 := blk2 (blk_below g1 hc) ; have p2 := blk2 (blk_below g2 hc) ; have p3 := blk2 (blk_below g3 hc) ; have p4 := blk2 (blk_below g4 hc) ; go_wp2_with fail ; refine (add_any _ _ _ _ _).mono ?_ ; rintro e w2 ⟨rfl, hb2⟩ ; refine hK _ _ ⟨?_, rfl, hb2⟩ ; exact rfl))
  simp only [Act.put, List.setIfInBounds_toArray, List.set_cons_succ, List.set_cons_zero]
  first | (refine x_skip rfl ?_) | (refine x_pure rfl _ ?_ rfl (by simp) ?_ ?_ ; rotate_left ; · (intro w3 K hK ; go_wp2_with fail ; exact rfl))
  simp only [Act.put, List.setIfInBounds_toArray, List.set_cons_succ, List.set_cons_zero]
  (refine x_pure rfl _ ?_ rfl (by simp) ?_ ?_ ; rotate_left ; · (intro w3 K hK ; go_wp2_with fail ; exact rfl))
  simp only [Act.put, List.setIfInBounds_toArray, List.set_cons_succ, List.set_cons_zero]
  (refine x_pure rfl _ ?_ rfl (by simp) ?_ ?_ ; rotate_left ; · (intro w3 K hK ; go_wp2_with fail ; exact rfl))
  simp only [Act.put, List.setIfInBounds_toArray, List.set_cons_succ, List.set_cons_zero]
  first | (refine x_skip rfl ?_) | (refine x_quiet rfl hSt (fun _ h => h) _ ?_ rfl (by simp) ?_ ?_ ; rotate_left ; · (intro w3 hC K hK ; have hc := hC ; have p0 := blk2 (blk_below g0 hc) ; have p1 := blk2 (blk_below g1 hc) ; have p2 := blk2 (blk_below g2 hc) ; have p3 := blk2 (blk_below g3 hc) ; have p4 := blk2 (blk_below g4 hc) ; go_wp2_with fail ; refine ⟨?_, Below.refl _ _⟩ ; exact rfl))
  simp only [Act.put, List.setIfInBounds_toArray, List.set_cons_succ, List.set_cons_zero]
  first | (refine x_skip rfl ?_) | (refine x_quiet rfl hSt (fun _ h => h) _ ?_ rfl (by simp) ?_ ?_ ; rotate_left ; · (intro w3 hC K hK ; have hc := hC ; have p0 := blk2 (blk_below g0 hc) ; have p1 := blk2 (blk_below g1 hc) ; have p2 := blk2 (blk_below g2 hc) ; have p3 := blk2 (blk_below g3 hc) ; have p4 := blk2 (blk_below g4 hc) ; go_wp2_with fail ; refine ⟨?_, Below.refl _ _⟩ ; exact rfl))
  simp only [Act.put, List.setIfInBounds_toArray, List.set_cons_succ, List.set_cons_zero]
  first | (refine x_skip rfl ?_) | (refine x_quiet rfl hSt (fun _ h => h) _ ?_ rfl (by simp) ?_ ?_ ; rotate_left ; · (intro w3 hC K hK ; have hc := hC ; have p0 := blk2 (blk_below g0 hc) ; have p1 := blk2 (blk_below g1 hc) ; have p2 := blk2 (blk_below g2 hc) ; have p3 := blk2 (blk_below g3 hc) ; have p4 := blk2 (blk_below g4 hc) ; go_wp2_with fail ; refine (add_any _ _ _ _ _).mono ?_ ; rintro e w2 ⟨rfl, hb2⟩ ; refine hK _ _ ⟨?_, rfl, hb2⟩ ; exact rfl))
  simp only [Act.put, List.setIfInBounds_toArray, List.set_cons_succ, List.set_cons_zero]
  first | (refine x_skip rfl ?_) | (refine x_quiet rfl hSt (fun _ h => h) _ ?_ rfl (by simp) ?_ ?_ ; rotate_left ; · (intro w3 hC K hK ; have hc := hC ; have p0 := blk2 (blk_below g0 hc) ; have p1 := blk2 (blk_below g1 hc) ; have p2 := blk2 (blk_below g2 hc) ; have p3 := blk2 (blk_below g3 hc) ; have p4 := blk2 (blk_below g4 hc) ; go_wp2_with fail ; refine ⟨?_, Below.refl _ _⟩ ; exact rfl))
  simp only [Act.put, List.setIfInBounds_toArray, List.set_cons_succ, List.set_cons_zero]
  first | (refine x_skip rfl ?_) | (refine x_quiet rfl hSt (fun _ h => h) _ ?_ rfl (by simp) ?_ ?_ ; rotate_left ; · (intro w3 hC K hK ; have hc := hC ; have p0 := blk2 (blk_below g0 hc) ; have p1 := blk2 (blk_below g1 hc) ; have p2 := blk2 (blk_below g2 hc) ; have p3 := blk2 (blk_below g3 hc) ; have p4 := blk2 (blk_below g4 hc) ; go_wp2_with fail ; refine ⟨?_, Below.refl _ _⟩ ; exact rfl))
  simp only [Act.put, List.setIfInBounds_toArray, List.set_cons_succ, List.set_cons_zero]
  first | (refine x_skip rfl ?_) | (refine x_quiet rfl hSt (fun _ h => h) _ ?_ rfl (by simp) ?_ ?_ ; rotate_left ; · (intro w3 hC K hK ; have hc := hC ; have p0 := blk2 (blk_below g0 hc) ; have p1 := blk2 (blk_below g1 hc) ; have p2 := blk2 (blk_below g2 hc) ; have p3 := blk2 (blk_below g3 hc) ; have p4 := blk2 (blk_below g4 hc) ; go_wp2_with fail ; refine ⟨?_, Below.refl _ _⟩ ; exact rfl))
  simp only [Act.put, List.setIfInBounds_toArray, List.set_cons_succ, List.set_cons_zero]
  first | (refine x_skip rfl ?_) | (refine x_quiet rfl hSt (fun _ h => h) _ ?_ rfl (by simp) ?_ ?_ ; rotate_left ; · (intro w3 hC K hK ; have hc := hC ; have p0 := blk2 (blk_below g0 hc) ; have p1 := blk2 (blk_below g1 hc) ; have p2 := blk2 (blk_below g2 hc) ; have p3 := blk2 (blk_below g3 hc) ; have p4 := blk2 (blk_below g4 hc) ; go_wp2_with fail ; refine (add_any _ _ _ _ _).mono ?_ ; rintro e w2 ⟨rfl, hb2⟩ ; refine hK _ _ ⟨?_, rfl, hb2⟩ ; exact rfl))
  simp only [Act.put, List.setIfInBounds_toArray, List.set_cons_succ, List.set_cons_zero]
  first | (refine x_skip rfl ?_) | (refine x_quiet rfl hSt (fun _ h => h) _ ?_ rfl (by simp) ?_ ?_ ; rotate_left ; · (intro w3 hC K hK ; have hc := hC ; have p0 := blk2 (blk_below g0 hc) ; have p1 := blk2 (blk_below g1 hc) ; have p2 := blk2 (blk_below g2 hc) ; have p3 := blk2 (blk_below g3 hc) ; have p4 := blk2 (blk_below g4 hc) ; go_wp2_with fail ; refine (add_any _ _ _ _ _).mono ?_ ; rintro e w2 ⟨rfl, hb2⟩ ; refine hK _ _ ⟨?_, rfl, hb2⟩ ; exact rfl))
  simp only [Act.put, List.setIfInBounds_toArray, List.set_cons_succ, List.set_cons_zero]
  first | (refine x_skip rfl ?_) | (refine x_pure rfl _ ?_ rfl (by simp) ?_ ?_ ; rotate_left ; · (intro w3 K hK ; go_wp2_with fail ; exact rfl))
  simp only [Act.put, List.setIfInBounds_toArray, List.set_cons_succ, List.set_cons_zero]
  (refine x_pure rfl _ ?_ rfl (by simp) ?_ ?_ ; rotate_left ; · (intro w3 K hK ; go_wp2_with fail ; exact rfl))
  simp only [Act.put, List.setIfInBounds_toArray, List.set_cons_succ, List.set_cons_zero]
  (refine x_pure rfl _ ?_ rfl (by simp) ?_ ?_ ; rotate_left ; · (intro w3 K hK ; go_wp2_with fail ; exact rfl))
  simp only [Act.put, List.setIfInBounds_toArray, List.set_cons_succ, List.set_cons_zero]
  first | (refine x_skip rfl ?_) | (refine x_quiet rfl hSt (fun _ h => h) _ ?_ rfl (by simp) ?_ ?_ ; rotate_left ; · (intro w3 hC K hK ; have hc := hC ; have p0 := blk2 (blk_below g0 hc) ; have p1 := blk2 (blk_below g1 hc) ; have p2 := blk2 (blk_below g2 hc) ; have p3 := blk2 (blk_below g3 hc) ; have p4 := blk2 (blk_below g4 hc) ; go_wp2_with fail ; refine ⟨?_, Below.refl _ _⟩ ; exact rfl))
  simp only [Act.put, List.setIfInBounds_toArray, List.set_cons_succ, List.set_cons_zero]
  first | (refine x_skip rfl ?_) | (refine x_quiet rfl hSt (fun _ h => h) _ ?_ rfl (by simp) ?_ ?_ ; rotate_left ; · (intro w3 hC K hK ; have hc := hC ; have p0 := blk2 (blk_below g0 hc) ; have p1 := blk2 (blk_below g1 hc) ; have p2 := blk2 (blk_below g2 hc) ; have p3 := blk2 (blk_below g3 hc) ; have p4 := blk2 (blk_below g4 hc) ; go_wp2_with fail ; refine ⟨?_, Below.refl _ _⟩ ; exact rfl))
  simp only [Act.put, List.setIfInBounds_toArray, List.set_cons_succ, List.set_cons_zero]
  first | (refine x_skip rfl ?_) | (refine x_quiet rfl hSt (fun _ h => h) _ ?_ rfl (by simp) ?_ ?_ ; rotate_left ; · (intro w3 hC K hK ; have hc := hC ; have p0 := blk2 (blk_below g0 hc) ; have p1 := blk2 (blk_below g1 hc) ; have p2 := blk2 (blk_below g2 hc) ; have p3 := blk2 (blk_below g3 hc) ; have p4 := blk2 (blk_below g4 hc) ; go_wp2_with fail ; refine (add_any _ _ _ _ _).mono ?_ ; rintro e w2 ⟨rfl, hb2⟩ ; refine hK _ _ ⟨?_, rfl, hb2⟩ ; exact rfl))
  simp only [Act.put, List.setIfInBounds_toArray, List.set_cons_succ, List.set_cons_zero]
  first | (refine x_skip rfl ?_) | (refine x_quiet rfl hSt (fun _ h => h) _ ?_ rfl (by simp) ?_ ?_ ; rotate_left ; · (intro w3 hC K hK ; have hc := hC ; have p0 := blk2 (blk_below g0 hc) ; have p1 := blk2 (blk_below g1 hc) ; have p2 := blk2 (blk_below g2 hc) ; have p3 := blk2 (blk_below g3 hc) ; have p4 := blk2 (blk_below g4 hc) ; go_wp2_with fail ; refine ⟨?_, Below.refl _ _⟩ ; exact rfl))
  simp only [Act.put, List.setIfInBounds_toArray, List.set_cons_succ, List.set_cons_zero]
  first | (refine x_skip rfl ?_) | (refine x_pure rfl _ ?_ rfl (by simp) ?_ ?_ ; rotate_left ; · (intro w3 K hK ; go_wp2_with fail ; exact rfl))
  simp only [Act.put, List.setIfInBounds_toArray, List.set_cons_succ, List.set_cons_zero]
  (refine x_pure rfl _ ?_ rfl (by simp) ?_ ?_ ; rotate_left ; · (intro w3 K hK ; go_wp2_with fail ; exact rfl))
  simp only [Act.put, List.setIfInBounds_toArray, List.set_cons_succ, List.set_cons_zero]
  (refine x_pure rfl _ ?_ rfl (by simp) ?_ ?_ ; rotate_left ; · (intro w3 K hK ; go_wp2_with fail ; exact rfl))
  simp only [Act.put, List.setIfInBounds_toArray, List.set_cons_succ, List.set_cons_zero]
  first | (refine x_skip rfl ?_) | (refine x_quiet rfl hSt (fun _ h => h) _ ?_ rfl (by simp) ?_ ?_ ; rotate_left ; · (intro w3 hC K hK ; have hc := hC ; have p0 := blk2 (blk_below g0 hc) ; have p1 := blk2 (blk_below g1 hc) ; have p2 := blk2 (blk_below g2 hc) ; have p3 := blk2 (blk_below g3 hc) ; have p4 := blk2 (blk_below g4 hc) ; go_wp2_with fail ; refine ⟨?_, Below.refl _ _⟩ ; exact rfl))
  simp only [Act.put, List.setIfInBounds_toArray, List.set_cons_succ, List.set_cons_zero]
  first | (refine x_skip rfl ?_) | (refine x_quiet rfl hSt (fun _ h => h) _ ?_ rfl (by simp) ?_ ?_ ; rotate_left ; · (intro w3 hC K hK ; have hc := hC ; have p0 := blk2 (blk_below g0 hc) ; have p1 := blk2 (blk_below g1 hc) ; have p2 := blk2 (blk_below g2 hc) ; have p3 := blk2 (blk_below g3 hc) ; have p4 := blk2 (blk_below g4 hc) ; go_wp2_with fail ; refine ⟨?_, Below.refl _ _⟩ ; exact rfl))
  simp only [Act.put, List.setIfInBounds_toArray, List.set_cons_succ, List.set_cons_zero]
  first | (refine x_skip rfl ?_) | (refine x_quiet rfl hSt (fun _ h => h) _ ?_ rfl (by simp) ?_ ?_ ; rotate_left ; · (intro w3 hC K hK ; have hc := hC ; have p0 := blk2 (blk_below g0 hc) ; have p1 := blk2 (blk_below g1 hc) ; have p2 := blk2 (blk_below g2 hc) ; have p3 := blk2 (blk_below g3 hc) ; have p4 := blk2 (blk_below g4 hc) ; go_wp2_with fail ; refine (sub_any _ _ _ _ _).mono ?_ ; rintro e w2 ⟨rfl, hb2⟩ ; refine hK _ _ ⟨?_, rfl, hb2⟩ ; exact rfl))
  simp only [Act.put, List.setIfInBounds_toArray, List.set_cons_succ, List.set_cons_zero]
  first | (refine x_skip rfl ?_) | (refine x_quiet rfl hSt (fun _ h => h) _ ?_ rfl (by simp) ?_ ?_ ; rotate_left ; · (intro w3 hC K hK ; have hc := hC ; have p0 := blk2 (blk_below g0 hc) ; have p1 := blk2 (blk_below g1 hc) ; have p2 := blk2 (blk_below g2 hc) ; have p3 := blk2 (blk_below g3 hc) ; have p4 := blk2 (blk_below g4 hc) ; go_wp2_with fail ; refine ⟨?_, Below.refl _ _⟩ ; exact rfl))
  simp only [Act.put, List.setIfInBounds_toArray, List.set_cons_succ, List.set_cons_zero]
  first | (refine x_skip rfl ?_) | (refine x_pure rfl _ ?_ rfl (by simp) ?_ ?_ ; rotate_left ; · (intro w3 K hK ; go_wp2_with fail ; exact rfl))
  simp only [Act.put, List.setIfInBounds_toArray, List.set_cons_succ, List.set_cons_zero]
  (refine x_pure rfl _ ?_ rfl (by simp) ?_ ?_ ; rotate_left ; · (intro w3 K hK ; go_wp2_with fail ; exact rfl))
  simp only [Act.put, List.setIfInBounds_toArray, List.set_cons_succ, List.set_cons_zero]
  (refine x_pure rfl _ ?_ rfl (by simp) ?_ ?_ ; rotate_left ; · (intro w3 K hK ; go_wp2_with fail ; exact rfl))
  simp only [Act.put, List.setIfInBounds_toArray, List.set_cons_succ, List.set_cons_zero]
  first | (refine x_skip rfl ?_) | (refine x_quiet rfl hSt (fun _ h => h) _ ?_ rfl (by simp) ?_ ?_ ; rotate_left ; · (intro w3 hC K hK ; have hc := hC ; have p0 := blk2 (blk_below g0 hc) ; have p1 := blk2 (blk_below g1 hc) ; have p2 := blk2 (blk_below g2 hc) ; have p3 := blk2 (blk_below g3 hc) ; have p4 := blk2 (blk_below g4 hc) ; go_wp2_with fail ; refine ⟨?_, Below.refl _ _⟩ ; exact rfl))
  simp only [Act.put, List.setIfInBounds_toArray, List.set_cons_succ, List.set_cons_zero]
  first | (refine x_skip rfl ?_) | (refine x_quiet rfl hSt (fun _ h => h) _ ?_ rfl (by simp) ?_ ?_ ; rotate_left ; · (intro w3 hC K hK ; have hc := hC ; have p0 := blk2 (blk_below g0 hc) ; have p1 := blk2 (blk_below g1 hc) ; have p2 := blk2 (blk_below g2 hc) ; have p3 := blk2 (blk_below g3 hc) ; have p4 := blk2 (blk_below g4 hc) ; go_wp2_with fail ; refine ⟨?_, Below.refl _ _⟩ ; exact rfl))
  simp only [Act.put, List.setIfInBounds_toArray, List.set_cons_succ, List.set_cons_zero]
  first | (refine x_skip rfl ?_) | (refine x_quiet rfl hSt (fun _ h => h) _ ?_ rfl (by simp) ?_ ?_ ; rotate_left ; · (intro w3 hC K hK ; have hc := hC ; have p0 := blk2 (blk_below g0 hc) ; have p1 := blk2 (blk_below g1 hc) ; have p2 := blk2 (blk_below g2 hc) ; have p3 := blk2 (blk_below g3 hc) ; have p4 := blk2 (blk_below g4 hc) ; go_wp2_with fail ; refine (sub_any _ _ _ _ _).mono ?_ ; rintro e w2 ⟨rfl, hb2⟩ ; refine hK _ _ ⟨?_, rfl, hb2⟩ ; exact rfl))
  simp only [Act.put, List.setIfInBounds_toArray, List.set_cons_succ, List.set_cons_zero]
  first | (refine x_skip rfl ?_) | (refine x_quiet rfl hSt (fun _ h => h) _ ?_ rfl (by simp) ?_ ?_ ; rotate_left ; · (intro w3 hC K hK ; have hc := hC ; have p0 := blk2 (blk_below g0 hc) ; have p1 := blk2 (blk_below g1 hc) ; have p2 := blk2 (blk_below g2 hc) ; have p3 := blk2 (blk_below g3 hc) ; have p4 := blk2 (blk_below g4 hc) ; go_wp2_with fail ; refine ⟨?_, Below.refl _ _⟩ ; exact rfl))
  simp only [Act.put, List.setIfInBounds_toArray, List.set_cons_succ, List.set_cons_zero]
  first | (refine x_skip rfl ?_) | (refine x_pure rfl _ ?_ rfl (by simp) ?_ ?_ ; rotate_left ; · (intro w3 K hK ; go_wp2_with fail ; exact rfl))
  simp only [Act.put, List.setIfInBounds_toArray, List.set_cons_succ, List.set_cons_zero]
  (refine x_pure rfl _ ?_ rfl (by simp) ?_ ?_ ; rotate_left ; · (intro w3 K hK ; go_wp2_with fail ; exact rfl))
  simp only [Act.put, List.setIfInBounds_toArray, List.set_cons_succ, List.set_cons_zero]
  (refine x_pure rfl _ ?_ rfl (by simp) ?_ ?_ ; rotate_left ; · (intro w3 K hK ; go_wp2_with fail ; exact rfl))
  simp only [Act.put, List.setIfInBounds_toArray, List.set_cons_succ, List.set_cons_zero]
  first | (refine x_skip rfl ?_) | (refine x_quiet rfl hSt (fun _ h => h) _ ?_ rfl (by simp) ?_ ?_ ; rotate_left ; · (intro w3 hC K hK ; have hc := hC ; have p0 := blk2 (blk_below g0 hc) ; have p1 := blk2 (blk_below g1 hc) ; have p2 := blk2 (blk_below g2 hc) ; have p3 := blk2 (blk_below g3 hc) ; have p4 := blk2 (blk_below g4 hc) ; go_wp2_with fail ; refine ⟨?_, Below.refl _ _⟩ ; exact rfl))
  simp only [Act.put, List.setIfInBounds_toArray, List.set_cons_succ, List.set_cons_zero]
  first | (refine x_skip rfl ?_) | (refine x_quiet rfl hSt (fun _ h => h) _ ?_ rfl (by simp) ?_ ?_ ; rotate_left ; · (intro w3 hC K hK ; have hc := hC ; have p0 := blk2 (blk_below g0 hc) ; have p1 := blk2 (blk_below g1 hc) ; have p2 := blk2 (blk_below g2 hc) ; have p3 := blk2 (blk_below g3 hc) ; have p4 := blk2 (blk_below g4 hc) ; go_wp2_with fail ; refine ⟨?_, Below.refl _ _⟩ ; exact rfl))
  simp only [Act.put, List.setIfInBounds_toArray, List.set_cons_succ, List.set_cons_zero]
  first | (refine x_skip rfl ?_) | (refine x_quiet rfl hSt (fun _ h => h) _ ?_ rfl (by simp) ?_ ?_ ; rotate_left ; · (intro w3 hC K hK ; have hc := hC ; have p0 := blk2 (blk_below g0 hc) ; have p1 := blk2 (blk_below g1 hc) ; have p2 := blk2 (blk_below g2 hc) ; have p3 := blk2 (blk_below g3 hc) ; have p4 := blk2 (blk_below g4 hc) ; go_wp2_with fail ; refine (sub_any _ _ _ _ _).mono ?_ ; rintro e w2 ⟨rfl, hb2⟩ ; refine hK _ _ ⟨?_, rfl, hb2⟩ ; exact rfl))
  simp only [Act.put, List.setIfInBounds_toArray, List.set_cons_succ, List.set_cons_zero]
  first | (refine x_skip rfl ?_) | (refine x_quiet rfl hSt (fun _ h => h) _ ?_ rfl (by simp) ?_ ?_ ; rotate_left ; · (intro w3 hC K hK ; have hc := hC ; have p0 := blk2 (blk_below g0 hc) ; have p1 := blk2 (blk_below g1 hc) ; have p2 := blk2 (blk_below g2 hc) ; have p3 := blk2 (blk_below g3 hc) ; have p4 := blk2 (blk_below g4 hc) ; go_wp2_with fail ; refine ⟨?_, Below.refl _ _⟩ ; exact rfl))
  simp only [Act.put, List.setIfInBounds_toArray, List.set_cons_succ, List.set_cons_zero]
  first | (refine x_skip rfl ?_) | (refine x_pure rfl _ ?_ rfl (by simp) ?_ ?_ ; rotate_left ; · (intro w3 K hK ; go_wp2_with fail ; exact rfl))
  simp only [Act.put, List.setIfInBounds_toArray, List.set_cons_succ, List.set_cons_zero]
  (refine x_pure rfl _ ?_ rfl (by simp) ?_ ?_ ; rotate_left ; · (intro w3 K hK ; go_wp2_with fail ; exact rfl))
  simp only [Act.put, List.setIfInBounds_toArray, List.set_cons_succ, List.set_cons_zero]
  (refine x_pure rfl _ ?_ rfl (by simp) ?_ ?_ ; rotate_left ; · (intro w3 K hK ; go_wp2_with fail ; exact rfl))
  simp only [Act.put, List.setIfInBounds_toArray, List.set_cons_succ, List.set_cons_zero]
  first | (refine x_skip rfl ?_) | (refine x_quiet rfl hSt (fun _ h => h) _ ?_ rfl (by simp) ?_ ?_ ; rotate_left ; · (intro w3 hC K hK ; have hc := hC ; have p0 := blk2 (blk_below g0 hc) ; have p1 := blk2 (blk_below g1 hc) ; have p2 := blk2 (blk_below g2 hc) ; have p3 := blk2 (blk_below g3 hc) ; have p4 := blk2 (blk_below g4 hc) ; go_wp2_with fail ; refine ⟨?_, Below.refl _ _⟩ ; exact rfl))
  simp only [Act.put, List.setIfInBounds_toArray, List.set_cons_succ, List.set_cons_zero]
  first | (refine x_skip rfl ?_) | (refine x_quiet rfl hSt (fun _ h => h) _ ?_ rfl (by simp) ?_ ?_ ; rotate_left ; · (intro w3 hC K hK ; have hc := hC ; have p0 := blk2 (blk_below g0 hc) ; have p1 := blk2 (blk_below g1 hc) ; have p2 := blk2 (blk_below g2 hc) ; have p3 := blk2 (blk_below g3 hc) ; have p4 := blk2 (blk_below g4 hc) ; go_wp2_with fail ; refine ⟨?_, Below.refl _ _⟩ ; exact rfl))
  simp only [Act.put, List.setIfInBounds_toArray, List.set_cons_succ, List.set_cons_zero]
  first | (refine x_skip rfl ?_) | (refine x_quiet rfl hSt (fun _ h => h) _ ?_ rfl (by simp) ?_ ?_ ; rotate_left ; · (intro w3 hC K hK ; have hc := hC ; have p0 := blk2 (blk_below g0 hc) ; have p1 := blk2 (blk_below g1 hc) ; have p2 := blk2 (blk_below g2 hc) ; have p3 := blk2 (blk_below g3 hc) ; have p4 := blk2 (blk_below g4 hc) ; go_wp2_with fail ; refine (sub_any _ _ _ _ _).mono ?_ ; rintro e w2 ⟨rfl, hb2⟩ ; refine hK _ _ ⟨?_, rfl, hb2⟩ ; exact rfl))
  simp only [Act.put, List.setIfInBounds_toArray, List.set_cons_succ, List.set_cons_zero]
  first | (refine x_skip rfl ?_) | (refine x_quiet rfl hSt (fun _ h => h) _ ?_ rfl (by simp) ?_ ?_ ; rotate_left ; · (intro w3 hC K hK ; have hc := hC ; have p0 := blk2 (blk_below g0 hc) ; have p1 := blk2 (blk_below g1 hc) ; have p2 := blk2 (blk_below g2 hc) ; have p3 := blk2 (blk_below g3 hc) ; have p4 := blk2 (blk_below g4 hc) ; go_wp2_with fail ; refine ⟨?_, Below.refl _ _⟩ ; exact rfl))
  simp only [Act.put, List.setIfInBounds_toArray, List.set_cons_succ, List.set_cons_zero]
  first | (refine x_skip rfl ?_) | (refine x_quiet rfl hSt (fun _ h => h) _ ?_ rfl (by simp) ?_ ?_ ; rotate_left ; · (intro w3 hC K hK ; have hc := hC ; have p0 := blk2 (blk_below g0 hc) ; have p1 := blk2 (blk_below g1 hc) ; have p2 := blk2 (blk_below g2 hc) ; have p3 := blk2 (blk_below g3 hc) ; have p4 := blk2 (blk_below g4 hc) ; go_wp2_with fail ; refine (add_any _ _ _ _ _).mono ?_ ; rintro e w2 ⟨rfl, hb2⟩ ; refine hK _ _ ⟨?_, rfl, hb2⟩ ; exact rfl))
  simp only [Act.put, List.setIfInBounds_toArray, List.set_cons_succ, List.set_cons_zero]
  first | (refine x_skip rfl ?_) | (refine x_quiet rfl hSt (fun _ h => h) _ ?_ rfl (by simp) ?_ ?_ ; rotate_left ; · (intro w3 hC K hK ; have hc := hC ; have p0 := blk2 (blk_below g0 hc) ; have p1 := blk2 (blk_below g1 hc) ; have p2 := blk2 (blk_below g2 hc) ; have p3 := blk2 (blk_below g3 hc) ; have p4 := blk2 (blk_below g4 hc) ; go_wp2_with fail ; refine ⟨?_, Below.refl _ _⟩ ; exact rfl))
  simp only [Act.put, List.setIfInBounds_toArray, List.set_cons_succ, List.set_cons_zero]
  first | (refine x_skip rfl ?_) | (refine x_pure rfl _ ?_ rfl (by simp) ?_ ?_ ; rotate_left ; · (intro w3 K hK ; go_wp2_with fail ; exact rfl))
  simp only [Act.put, List.setIfInBounds_toArray, List.set_cons_succ, List.set_cons_zero]
  (refine x_pure rfl _ ?_ rfl (by simp) ?_ ?_ ; rotate_left ; · (intro w3 K hK ; go_wp2_with fail ; exact rfl))
  simp only [Act.put, List.setIfInBounds_toArray, List.set_cons_succ, List.set_cons_zero]
  (refine x_pure rfl _ ?_ rfl (by simp) ?_ ?_ ; rotate_left ; · (intro w3 K hK ; go_wp2_with fail ; exact rfl))
  simp only [Act.put, List.setIfInBounds_toArray, List.set_cons_succ, List.set_cons_zero]
  first | (refine x_skip rfl ?_) | (refine x_quiet rfl hSt (fun _ h => h) _ ?_ rfl (by simp) ?_ ?_ ; rotate_left ; · (intro w3 hC K hK ; have hc := hC ; have p0 := blk2 (blk_below g0 hc) ; have p1 := blk2 (blk_below g1 hc) ; have p2 := blk2 (blk_below g2 hc) ; have p3 := blk2 (blk_below g3 hc) ; have p4 := blk2 (blk_below g4 hc) ; go_wp2_with fail ; refine ⟨?_, Below.refl _ _⟩ ; exact rfl))
  simp only [Act.put, List.setIfInBounds_toArray, List.set_cons_succ, List.set_cons_zero]
  first | (refine x_skip rfl ?_) | (refine x_quiet rfl hSt (fun _ h => h) _ ?_ rfl (by simp) ?_ ?_ ; rotate_left ; · (intro w3 hC K hK ; have hc := hC ; have p0 := blk2 (blk_below g0 hc) ; have p1 := blk2 (blk_below g1 hc) ; have p2 := blk2 (blk_below g2 hc) ; have p3 := blk2 (blk_below g3 hc) ; have p4 := blk2 (blk_below g4 hc) ; go_wp2_with fail ; refine ⟨?_, Below.refl _ _⟩ ; exact rfl))
  simp only [Act.put, List.setIfInBounds_toArray, List.set_cons_succ, List.set_cons_zero]
  first | (refine x_skip rfl ?_) | (refine x_quiet rfl hSt (fun _ h => h) _ ?_ rfl (by simp) ?_ ?_ ; rotate_left ; · (intro w3 hC K hK ; have hc := hC ; have p0 := blk2 (blk_below g0 hc) ; have p1 := blk2 (blk_below g1 hc) ; have p2 := blk2 (blk_below g2 hc) ; have p3 := blk2 (blk_below g3 hc) ; have p4 := blk2 (blk_below g4 hc) ; go_wp2_with fail ; refine ⟨?_, Below.refl _ _⟩ ; exact rfl))
  simp only [Act.put, List.setIfInBounds_toArray, List.set_cons_succ, List.set_cons_zero]
  first | (refine x_skip rfl ?_) | (refine x_quiet rfl hSt (fun _ h => h) _ ?_ rfl (by simp) ?_ ?_ ; rotate_left ; · (intro w3 hC K hK ; have hc := hC ; have p0 := blk2 (blk_below g0 hc) ; have p1 := blk2 (blk_below g1 hc) ; have p2 := blk2 (blk_below g2 hc) ; have p3 := blk2 (blk_below g3 hc) ; have p4 := blk2 (blk_below g4 hc) ; go_wp2_with fail ; refine (sub_any _ _ _ _ _).mono ?_ ; rintro e w2 ⟨rfl, hb2⟩ ; refine hK _ _ ⟨?_, rfl, hb2⟩ ; exact rfl))
  simp only [Act.put, List.setIfInBounds_toArray, List.set_cons_succ, List.set_cons_zero]
  first | (refine x_skip rfl ?_) | (refine x_quiet rfl hSt (fun _ h => h) _ ?_ rfl (by simp) ?_ ?_ ; rotate_left ; · (intro w3 hC K hK ; have hc := hC ; have p0 := blk2 (blk_below g0 hc) ; have p1 := blk2 (blk_below g1 hc) ; have p2 := blk2 (blk_below g2 hc) ; have p3 := blk2 (blk_below g3 hc) ; have p4 := blk2 (blk_below g4 hc) ; go_wp2_with fail ; refine (sub_any _ _ _ _ _).mono ?_ ; rintro e w2 ⟨rfl, hb2⟩ ; refine hK _ _ ⟨?_, rfl, hb2⟩ ; exact rfl))
  simp only [Act.put, List.setIfInBounds_toArray, List.set_cons_succ, List.set_cons_zero]
  first | (refine x_skip rfl ?_) | (refine x_quiet rfl hSt (fun _ h => h) _ ?_ rfl (by simp) ?_ ?_ ; rotate_left ; · (intro w3 hC K hK ; have hc := hC ; have p0 := blk2 (blk_below g0 hc) ; have p1 := blk2 (blk_below g1 hc) ; have p2 := blk2 (blk_below g2 hc) ; have p3 := blk2 (blk_below g3 hc) ; have p4 := blk2 (blk_below g4 hc) ; go_wp2_with fail ; refine ⟨?_, Below.refl _ _⟩ ; exact rfl))
  simp only [Act.put, List.setIfInBounds_toArray, List.set_cons_succ, List.set_cons_zero]
  first | (refine x_skip rfl ?_) | (refine x_quiet rfl hSt (fun _ h => h) _ ?_ rfl (by simp) ?_ ?_ ; rotate_left ; · (intro w3 hC K hK ; have hc := hC ; have p0 := blk2 (blk_below g0 hc) ; have p1 := blk2 (blk_below g1 hc) ; have p2 := blk2 (blk_below g2 hc) ; have p3 := blk2 (blk_below g3 hc) ; have p4 := blk2 (blk_below g4 hc) ; go_wp2_with fail ; refine ⟨?_, Below.refl _ _⟩ ; exact rfl))
  simp only [Act.put, List.setIfInBounds_toArray, List.set_cons_succ, List.set_cons_zero]
  first | (refine x_skip rfl ?_) | (refine x_quiet rfl hSt (fun _ h => h) _ ?_ rfl (by simp) ?_ ?_ ; rotate_left ; · (intro w3 hC K hK ; have hc := hC ; have p0 := blk2 (blk_below g0 hc) ; have p1 := blk2 (blk_below g1 hc) ; have p2 := blk2 (blk_below g2 hc) ; have p3 := blk2 (blk_below g3 hc) ; have p4 := blk2 (blk_below g4 hc) ; go_wp2_with fail ; refine (sub_any _ _ _ _ _).mono ?_ ; rintro e w2 ⟨rfl, hb2⟩ ; refine hK _ _ ⟨?_, rfl, hb2⟩ ; exact rfl))
  simp only [Act.put, List.setIfInBounds_toArray, List.set_cons_succ, List.set_cons_zero]
  first | (refine x_skip rfl ?_) | (refine x_pure rfl _ ?_ rfl (by simp) ?_ ?_ ; rotate_left ; · (intro w3 K hK ; go_wp2_with fail ; exact rfl))
  simp only [Act.put, List.setIfInBounds_toArray, List.set_cons_succ, List.set_cons_zero]
  (refine x_pure rfl _ ?_ rfl (by simp) ?_ ?_ ; rotate_left ; · (intro w3 K hK ; go_wp2_with fail ; exact rfl))
  simp only [Act.put, List.setIfInBounds_toArray, List.set_cons_succ, List.set_cons_zero]
  (refine x_pure rfl _ ?_ rfl (by simp) ?_ ?_ ; rotate_left ; · (intro w3 K hK ; go_wp2_with fail ; exact rfl))
  simp only [Act.put, List.setIfInBounds_toArray, List.set_cons_succ, List.set_cons_zero]
  refine x_nil ?_
  rintro w3 hc
  go_wp2_with fail
  go_ret
  exact ⟨rfl, hb.trans (hc.mono hzs)⟩
end Go.Proofs.YtjeaobknojmbpaaDoor
