/-
  The node's closures for Put and Delete, and Put and Delete themselves: whatever comes of the write.
-/
import Derived.Test.YtdflmplmpjghdaaGreatDoorNup
import Derived.Test.YtdflmplmpjghdaaGreatDoorWrite
namespace Go.Proofs.YtdflmplmpjghdaaGreatDoor
open Go.ChangeShapes Go.WideShapes Go.ChangeAt Go.RowKit Go.Deep Go.Shelf
set_option linter.unusedVariables false
set_option linter.unusedSimpArgs false
set_option maxRecDepth 100000

/-- What the store's write leaves: the version a b, the error E, the clock clk, the tree t2. -/
def SWr (w : World) (sb tb mb : Nat) (node clk : Int) (M : Nat) (t2 : Tr) (H : Nat) (a b E : Int) (x : Ending) (w' : World) : Prop :=
  x = .returned (.tuple #[vV a b, .int .i64 E]) ∧ ∃ m, m ≤ H ∧ StAt w' sb tb mb node clk (M + m) t2 ∧ Keep (fun k => k = mb ∨ k = tb ∨ k = sb) w w'
theorem SWr.of_bad {w : World} {sb tb mb : Nat} {node clock : Int} {M : Nat} {t : Tr} {e : Int} {H : Nat} (h : StAt w sb tb mb node clock M t) : ∀ x w', WBad w sb tb mb node clock M t e x w' → SWr w sb tb mb node clock M t H 0 0 e x w' :=
  fun x w' ⟨hx, hb⟩ => ⟨hx, 0, Nat.zero_le _, h.below hb, Keep.of_below hb⟩
theorem SWr.of_ok {w : World} {sb tb mb : Nat} {node clock : Int} {M : Nat} {t : Tr} {k v : ByteArray} {d : Bool} : ∀ x w', WOk w sb tb mb node clock M t k v d x w' → SWr w sb tb mb node (clock + 1) M (putT k (k, clock + 1, node, v, d) (tallyE k (clock + 1) node) t) (6 * t.high + 2) (clock + 1) node 0 x w' :=
  fun x w' ⟨hx, m, hm, h, hk⟩ => ⟨hx, m, hm, h, hk⟩
/-- What the node's closure leaves. -/
def NWr (w : World) (b3 sb tb mb : Nat) (node clk : Int) (M : Nat) (t2 : Tr) (H : Nat) (a b E : Int) (w' : World) : Prop :=
  w'.heap[b3]? = some (.cells #[.int .i64 a, .int .i64 b] 44 (0, 0)) ∧ (∃ m, m ≤ H ∧ StAt w' sb tb mb node clk (M + m) t2) ∧ Keep (fun k => k = b3 ∨ k = mb ∨ k = tb ∨ k = sb) w w'
theorem StAt.not {w : World} {sb tb mb : Nat} {node clock : Int} {M : Nat} {t : Tr} (h : StAt w sb tb mb node clock M t) {b : Nat} {cs : Array Value} {ty : TypeId} {fr : Nat × Nat} (hb : w.heap[b]? = some (.cells cs ty fr))
    (h1 : ty ≠ storeT) (h2 : ty ≠ 276) (h3 : ty ≠ 222) : ¬ (b = mb ∨ b = tb ∨ b = sb) := by
  obtain ⟨p, q1, q2⟩ := h.ob
  rintro (rfl | rfl | rfl)
  · exact ne_type hb h2 _ _ _ h.mt rfl
  · exact ne_type hb h3 _ _ _ q1 rfl
  · exact ne_type hb h1 _ _ _ h.blk rfl
theorem alloc4 (w : World) (A B C D : Obj) : Below w.heap.size w ((((w.alloc A).alloc B).alloc C).alloc D) ∧ ((((w.alloc A).alloc B).alloc C).alloc D).heap[w.heap.size]? = some A ∧ ((((w.alloc A).alloc B).alloc C).alloc D).heap[w.heap.size + 1]? = some B ∧ ((((w.alloc A).alloc B).alloc C).alloc D).heap[w.heap.size + 1 + 1]? = some C ∧ ((((w.alloc A).alloc B).alloc C).alloc D).heap[w.heap.size + 1 + 1 + 1]? = some D := by
  refine ⟨?_, ?_, ?_, ?_, ?_⟩
  · exact (((below_alloc_self w A).trans ((below_alloc_self _ B).mono (by simp))).trans ((below_alloc_self _ C).mono (by simp; omega))).trans ((below_alloc_self _ D).mono (by simp; omega))
  · exact heap_old (heap_old (heap_old (heap_new rfl)))
  · exact heap_old (heap_old (heap_new (by simp)))
  · exact heap_old (heap_new (by simp))
  · exact heap_new (by simp)
theorem alloc3 (w : World) (A B C : Obj) : Below w.heap.size w (((w.alloc A).alloc B).alloc C) ∧ (((w.alloc A).alloc B).alloc C).heap[w.heap.size]? = some A ∧ (((w.alloc A).alloc B).alloc C).heap[w.heap.size + 1]? = some B ∧ (((w.alloc A).alloc B).alloc C).heap[w.heap.size + 1 + 1]? = some C := by
  refine ⟨?_, ?_, ?_, ?_⟩
  · exact ((below_alloc_self w A).trans ((below_alloc_self _ B).mono (by simp))).trans ((below_alloc_self _ C).mono (by simp; omega))
  · exact heap_old (heap_old (heap_new rfl))
  · exact heap_old (heap_new (by simp))
  · exact heap_new (by simp)
set_option maxRecDepth 100000 in
set_option maxHeartbeats 8000000 in
theorem nput1_any (b0 b1 b2 b3 nb db sb tb mb : Nat) (c0 c1 c2 c3 node clock clk : Int) (M H : Nat) (t t2 : Tr) (k v : ByteArray) (z0 z1 a b E : Int) (w : World) (hb30 : 0 ≠ b3)
    (hS : ∀ w : World, StAt w sb tb mb node clock M t → Calls Tryz.prog 93 #[.pointer (some ⟨sb, 0, none⟩), .string k, .string v] w (SWr w sb tb mb node clk M t2 H a b E))
    (hn : NdAt w nb sb db c0 c1 c2 c3) (h : StAt w sb tb mb node clock M t)
    (g0 : w.heap[b0]? = some (.cells #[.pointer (some ⟨nb, 0, none⟩)] 93 (0, 0))) (g1 : w.heap[b1]? = some (.cells #[.string k] 9 (0, 0))) (g2 : w.heap[b2]? = some (.cells #[.string v] 9 (0, 0)))
    (g3 : w.heap[b3]? = some (.cells #[.int .i64 z0, .int .i64 z1] 44 (0, 0))) :
    Calls Tryz.prog 92 #[.pointer (some ⟨b0, 0, none⟩), .pointer (some ⟨b1, 0, none⟩), .pointer (some ⟨b2, 0, none⟩), .pointer (some ⟨b3, 0, none⟩)] w fun e w' => ∃ c, e = .returned (.int .i64 c) ∧ c = E ∧ NWr w b3 sb tb mb node clk M t2 H a b E w' := by
  have HS := Lib.hid hS
  have n3 := h.not g3 (by decide) (by decide) (by decide)
  have HN := Lib.hid (And.intro hn (And.intro h (And.intro g0 (And.intro g1 (And.intro g2 (And.intro g3 n3))))))
  clear hS hn h g0 g1 g2 g3 n3
  go_enter Tryz.func92, Tryz.ntmps92
  go_wp2_with fail
  have hSt : Stable (fun w3 : World => (Below w.heap.size w w3)) := by repeat (first | exact stable_ext _ | exact stable_blk _ _ | exact stable_true | (refine stable_bel ?_ ; (focus (first | (simp [World.size_setCell] ; done) | (simp [World.setCell] ; done)))) | refine Stable.and ?_ ?_)
  refine wp_region_x [0, 1, 2, 3, 4, 5, 6, 7, 8, 9, 10, 11] [1, 0, 0, 1, 1, 1, 3, 0, 0, 0, 3, 0] (fun w3 => (Below w.heap.size w w3)) (by kernel_rfl) (by kernel_rfl) ?_ ?_
  · (first | trivial | (repeat (first | (with_reducible assumption) | (with_reducible exact Below.refl _ _) | (with_reducible refine heap_drew ?_) | (focus ((with_reducible refine heap_new ?_) ; simp ; done)) | (with_reducible apply heap_set_to) | (focus ((with_reducible refine heap_set_ne ?_ ?_ _) ; rotate_left ; (focus (first | omega | (simp ; done) | (simp ; omega))))) | (with_reducible refine heap_old ?_) | (with_reducible refine Below.drew ?_) | (with_reducible refine below_set ?_ _ _) | (focus ((with_reducible refine Below.setCell ?_ ?_ _) ; rotate_left ; (focus (first | omega | (simp ; done) | (simp ; omega))))) | (focus ((with_reducible refine Below.alloc ?_ ?_ _) ; rotate_left ; (focus (first | omega | (simp ; done) | (simp ; omega))))) | (with_reducible rfl) | (focus (simp ; done)))))
  simp only [List.map_cons, List.map_nil, List.getD_cons_zero, List.getD_cons_succ]
  (refine x_quiet rfl hSt (fun _ h => h) _ ?_ rfl (by simp) ?_ ?_ ; rotate_left ; · (intro w3 hC K hK ; have hb := hC ; have q := ndCells (blk_below HN.out.1 hb) ; have q0 := blk1 (blk_below HN.out.2.2.1 hb) ; have q1 := blk1 (blk_below HN.out.2.2.2.1 hb) ; have q2 := blk1 (blk_below HN.out.2.2.2.2.1 hb) ; go_wp2_with fail ; refine ⟨?_, Below.refl _ _⟩ ; exact rfl))
  simp only [Act.put, List.setIfInBounds_toArray, List.set_cons_succ, List.set_cons_zero]
  (refine x_pure rfl _ ?_ rfl (by simp) ?_ ?_ ; rotate_left ; · (intro w3 K hK ; go_wp2_with fail ; exact rfl))
  simp only [Act.put, List.setIfInBounds_toArray, List.set_cons_succ, List.set_cons_zero]
  (refine x_pure rfl _ ?_ rfl (by simp) ?_ ?_ ; rotate_left ; · (intro w3 K hK ; go_wp2_with fail ; exact rfl))
  simp only [Act.put, List.setIfInBounds_toArray, List.set_cons_succ, List.set_cons_zero]
  (refine x_quiet rfl hSt (fun _ h => h) _ ?_ rfl (by simp) ?_ ?_ ; rotate_left ; · (intro w3 hC K hK ; have hb := hC ; have q := ndCells (blk_below HN.out.1 hb) ; have q0 := blk1 (blk_below HN.out.2.2.1 hb) ; have q1 := blk1 (blk_below HN.out.2.2.2.1 hb) ; have q2 := blk1 (blk_below HN.out.2.2.2.2.1 hb) ; go_wp2_with fail ; refine ⟨?_, Below.refl _ _⟩ ; exact rfl))
  simp only [Act.put, List.setIfInBounds_toArray, List.set_cons_succ, List.set_cons_zero]
  (refine x_quiet rfl hSt (fun _ h => h) _ ?_ rfl (by simp) ?_ ?_ ; rotate_left ; · (intro w3 hC K hK ; have hb := hC ; have q := ndCells (blk_below HN.out.1 hb) ; have q0 := blk1 (blk_below HN.out.2.2.1 hb) ; have q1 := blk1 (blk_below HN.out.2.2.2.1 hb) ; have q2 := blk1 (blk_below HN.out.2.2.2.2.1 hb) ; go_wp2_with fail ; refine ⟨?_, Below.refl _ _⟩ ; exact rfl))
  simp only [Act.put, List.setIfInBounds_toArray, List.set_cons_succ, List.set_cons_zero]
  (refine x_quiet rfl hSt (fun _ h => h) _ ?_ rfl (by simp) ?_ ?_ ; rotate_left ; · (intro w3 hC K hK ; have hb := hC ; have q := ndCells (blk_below HN.out.1 hb) ; have q0 := blk1 (blk_below HN.out.2.2.1 hb) ; have q1 := blk1 (blk_below HN.out.2.2.2.1 hb) ; have q2 := blk1 (blk_below HN.out.2.2.2.2.1 hb) ; go_wp2_with fail ; refine ⟨?_, Below.refl _ _⟩ ; exact rfl))
  simp only [Act.put, List.setIfInBounds_toArray, List.set_cons_succ, List.set_cons_zero]
  refine x_write rfl ?_
  intro w3 hD K hK ; have hb := hD ; have q := ndCells (blk_below HN.out.1 hb) ; have q0 := blk1 (blk_below HN.out.2.2.1 hb) ; have q1 := blk1 (blk_below HN.out.2.2.2.1 hb) ; have q2 := blk1 (blk_below HN.out.2.2.2.2.1 hb)
  go_wp2_with fail
  refine (HS.out w3 (HN.out.2.1.below hb)).mono ?_
  rintro x9 w9 ⟨rfl, c, hc9, hst9, hk9⟩
  have HZ := Lib.hid (And.intro hst9 (And.intro (hk9.blk (blk_below HN.out.2.2.2.2.2.1 hb) HN.out.2.2.2.2.2.2) ((Keep.of_below hb).trans hk9)))
  have q3 := blk2 HZ.out.2.1
  clear q q0 q1 q2 hst9 hk9 hb hSt
  refine hK _ _ ?_
  try simp only [Act.put, List.setIfInBounds_toArray, List.set_cons_succ, List.set_cons_zero]
  (refine x_pure rfl _ ?_ rfl (by simp) ?_ ?_ ; rotate_left ; · (intro w3 K hK ; go_wp2_with fail ; exact rfl))
  simp only [Act.put, List.setIfInBounds_toArray, List.set_cons_succ, List.set_cons_zero]
  (refine x_pure rfl _ ?_ rfl (by simp) ?_ ?_ ; rotate_left ; · (intro w3 K hK ; go_wp2_with fail ; exact rfl))
  simp only [Act.put, List.setIfInBounds_toArray, List.set_cons_succ, List.set_cons_zero]
  (refine x_pure rfl _ ?_ rfl (by simp) ?_ ?_ ; rotate_left ; · (intro w3 K hK ; go_wp2_with fail ; exact rfl))
  simp only [Act.put, List.setIfInBounds_toArray, List.set_cons_succ, List.set_cons_zero]
  refine x_write rfl ?_
  rintro w9 rfl K hK
  go_wp2_with fail
  try simp only [Act.put, List.setIfInBounds_toArray, List.set_cons_succ, List.set_cons_zero]
  (refine x_pure rfl _ ?_ rfl (by simp) ?_ ?_ ; rotate_left ; · (intro w3 K hK ; go_wp2_with fail ; exact rfl))
  simp only [Act.put, List.setIfInBounds_toArray, List.set_cons_succ, List.set_cons_zero]
  first | refine x_nil ?_ | refine x_end ?_
  rintro _ rfl
  have hke : Keep (fun k => k = b3) w9 ((w9.setCell ⟨b3, 0, none⟩ (.int .i64 a)).setCell ⟨b3, 1, none⟩ (.int .i64 b)) :=
    (Keep.set _ ⟨b3, 0, none⟩ _).trans (Keep.set _ ⟨b3, 1, none⟩ _)
  go_wp2_with fail
  go_ret
  refine ⟨E, rfl, rfl, ?_, ⟨c, hc9, HZ.out.1.side HZ.out.2.1 (by decide) (by decide) (by decide) (by decide) hb30 hke⟩, (HZ.out.2.2.mono fun _ _ h => Or.inr h).trans (hke.mono fun _ _ h => Or.inl h)⟩
  have e0 := heap_set_to HZ.out.2.1 (o := 0) (v := .int .i64 a) rfl
  have e1 := heap_set_to e0 (o := 1) (v := .int .i64 b) rfl
  simpa using e1
set_option maxRecDepth 100000 in
set_option maxHeartbeats 8000000 in
theorem ndel1_any (b0 b1 b3 nb db sb tb mb : Nat) (c0 c1 c2 c3 node clock clk : Int) (M H : Nat) (t t2 : Tr) (k : ByteArray) (z0 z1 a b E : Int) (w : World) (hb30 : 0 ≠ b3)
    (hS : ∀ w : World, StAt w sb tb mb node clock M t → Calls Tryz.prog 95 #[.pointer (some ⟨sb, 0, none⟩), .string k] w (SWr w sb tb mb node clk M t2 H a b E))
    (hn : NdAt w nb sb db c0 c1 c2 c3) (h : StAt w sb tb mb node clock M t)
    (g0 : w.heap[b0]? = some (.cells #[.pointer (some ⟨nb, 0, none⟩)] 93 (0, 0))) (g1 : w.heap[b1]? = some (.cells #[.string k] 9 (0, 0)))
    (g3 : w.heap[b3]? = some (.cells #[.int .i64 z0, .int .i64 z1] 44 (0, 0))) :
    Calls Tryz.prog 94 #[.pointer (some ⟨b0, 0, none⟩), .pointer (some ⟨b1, 0, none⟩), .pointer (some ⟨b3, 0, none⟩)] w fun e w' => ∃ c, e = .returned (.int .i64 c) ∧ c = E ∧ NWr w b3 sb tb mb node clk M t2 H a b E w' := by
  have HS := Lib.hid hS
  have n3 := h.not g3 (by decide) (by decide) (by decide)
  have HN := Lib.hid (And.intro hn (And.intro h (And.intro g0 (And.intro g1 (And.intro g3 n3)))))
  clear hS hn h g0 g1 g3 n3
  go_enter Tryz.func94, Tryz.ntmps94
  go_wp2_with fail
  have hSt : Stable (fun w3 : World => (Below w.heap.size w w3)) := by repeat (first | exact stable_ext _ | exact stable_blk _ _ | exact stable_true | (refine stable_bel ?_ ; (focus (first | (simp [World.size_setCell] ; done) | (simp [World.setCell] ; done)))) | refine Stable.and ?_ ?_)
  refine wp_region_x [0, 1, 2, 3, 4, 5, 6, 7, 8, 9, 10] [1, 0, 0, 1, 1, 3, 0, 0, 0, 3, 0] (fun w3 => (Below w.heap.size w w3)) (by kernel_rfl) (by kernel_rfl) ?_ ?_
  · (first | trivial | (repeat (first | (with_reducible assumption) | (with_reducible exact Below.refl _ _) | (with_reducible refine heap_drew ?_) | (focus ((with_reducible refine heap_new ?_) ; simp ; done)) | (with_reducible apply heap_set_to) | (focus ((with_reducible refine heap_set_ne ?_ ?_ _) ; rotate_left ; (focus (first | omega | (simp ; done) | (simp ; omega))))) | (with_reducible refine heap_old ?_) | (with_reducible refine Below.drew ?_) | (with_reducible refine below_set ?_ _ _) | (focus ((with_reducible refine Below.setCell ?_ ?_ _) ; rotate_left ; (focus (first | omega | (simp ; done) | (simp ; omega))))) | (focus ((with_reducible refine Below.alloc ?_ ?_ _) ; rotate_left ; (focus (first | omega | (simp ; done) | (simp ; omega))))) | (with_reducible rfl) | (focus (simp ; done)))))
  simp only [List.map_cons, List.map_nil, List.getD_cons_zero, List.getD_cons_succ]
  (refine x_quiet rfl hSt (fun _ h => h) _ ?_ rfl (by simp) ?_ ?_ ; rotate_left ; · (intro w3 hC K hK ; have hb := hC ; have q := ndCells (blk_below HN.out.1 hb) ; have q0 := blk1 (blk_below HN.out.2.2.1 hb) ; have q1 := blk1 (blk_below HN.out.2.2.2.1 hb) ; go_wp2_with fail ; refine ⟨?_, Below.refl _ _⟩ ; exact rfl))
  simp only [Act.put, List.setIfInBounds_toArray, List.set_cons_succ, List.set_cons_zero]
  (refine x_pure rfl _ ?_ rfl (by simp) ?_ ?_ ; rotate_left ; · (intro w3 K hK ; go_wp2_with fail ; exact rfl))
  simp only [Act.put, List.setIfInBounds_toArray, List.set_cons_succ, List.set_cons_zero]
  (refine x_pure rfl _ ?_ rfl (by simp) ?_ ?_ ; rotate_left ; · (intro w3 K hK ; go_wp2_with fail ; exact rfl))
  simp only [Act.put, List.setIfInBounds_toArray, List.set_cons_succ, List.set_cons_zero]
  (refine x_quiet rfl hSt (fun _ h => h) _ ?_ rfl (by simp) ?_ ?_ ; rotate_left ; · (intro w3 hC K hK ; have hb := hC ; have q := ndCells (blk_below HN.out.1 hb) ; have q0 := blk1 (blk_below HN.out.2.2.1 hb) ; have q1 := blk1 (blk_below HN.out.2.2.2.1 hb) ; go_wp2_with fail ; refine ⟨?_, Below.refl _ _⟩ ; exact rfl))
  simp only [Act.put, List.setIfInBounds_toArray, List.set_cons_succ, List.set_cons_zero]
  (refine x_quiet rfl hSt (fun _ h => h) _ ?_ rfl (by simp) ?_ ?_ ; rotate_left ; · (intro w3 hC K hK ; have hb := hC ; have q := ndCells (blk_below HN.out.1 hb) ; have q0 := blk1 (blk_below HN.out.2.2.1 hb) ; have q1 := blk1 (blk_below HN.out.2.2.2.1 hb) ; go_wp2_with fail ; refine ⟨?_, Below.refl _ _⟩ ; exact rfl))
  simp only [Act.put, List.setIfInBounds_toArray, List.set_cons_succ, List.set_cons_zero]
  refine x_write rfl ?_
  intro w3 hD K hK ; have hb := hD ; have q := ndCells (blk_below HN.out.1 hb) ; have q0 := blk1 (blk_below HN.out.2.2.1 hb) ; have q1 := blk1 (blk_below HN.out.2.2.2.1 hb)
  go_wp2_with fail
  refine (HS.out w3 (HN.out.2.1.below hb)).mono ?_
  rintro x9 w9 ⟨rfl, c, hc9, hst9, hk9⟩
  have HZ := Lib.hid (And.intro hst9 (And.intro (hk9.blk (blk_below HN.out.2.2.2.2.1 hb) HN.out.2.2.2.2.2) ((Keep.of_below hb).trans hk9)))
  have q3 := blk2 HZ.out.2.1
  clear q q0 q1 hst9 hk9 hb hSt
  refine hK _ _ ?_
  try simp only [Act.put, List.setIfInBounds_toArray, List.set_cons_succ, List.set_cons_zero]
  (refine x_pure rfl _ ?_ rfl (by simp) ?_ ?_ ; rotate_left ; · (intro w3 K hK ; go_wp2_with fail ; exact rfl))
  simp only [Act.put, List.setIfInBounds_toArray, List.set_cons_succ, List.set_cons_zero]
  (refine x_pure rfl _ ?_ rfl (by simp) ?_ ?_ ; rotate_left ; · (intro w3 K hK ; go_wp2_with fail ; exact rfl))
  simp only [Act.put, List.setIfInBounds_toArray, List.set_cons_succ, List.set_cons_zero]
  (refine x_pure rfl _ ?_ rfl (by simp) ?_ ?_ ; rotate_left ; · (intro w3 K hK ; go_wp2_with fail ; exact rfl))
  simp only [Act.put, List.setIfInBounds_toArray, List.set_cons_succ, List.set_cons_zero]
  refine x_write rfl ?_
  rintro w9 rfl K hK
  go_wp2_with fail
  try simp only [Act.put, List.setIfInBounds_toArray, List.set_cons_succ, List.set_cons_zero]
  (refine x_pure rfl _ ?_ rfl (by simp) ?_ ?_ ; rotate_left ; · (intro w3 K hK ; go_wp2_with fail ; exact rfl))
  simp only [Act.put, List.setIfInBounds_toArray, List.set_cons_succ, List.set_cons_zero]
  first | refine x_nil ?_ | refine x_end ?_
  rintro _ rfl
  have hke : Keep (fun k => k = b3) w9 ((w9.setCell ⟨b3, 0, none⟩ (.int .i64 a)).setCell ⟨b3, 1, none⟩ (.int .i64 b)) :=
    (Keep.set _ ⟨b3, 0, none⟩ _).trans (Keep.set _ ⟨b3, 1, none⟩ _)
  go_wp2_with fail
  go_ret
  refine ⟨E, rfl, rfl, ?_, ⟨c, hc9, HZ.out.1.side HZ.out.2.1 (by decide) (by decide) (by decide) (by decide) hb30 hke⟩, (HZ.out.2.2.mono fun _ _ h => Or.inr h).trans (hke.mono fun _ _ h => Or.inl h)⟩
  have e0 := heap_set_to HZ.out.2.1 (o := 0) (v := .int .i64 a) rfl
  have e1 := heap_set_to e0 (o := 1) (v := .int .i64 b) rfl
  simpa using e1
set_option maxRecDepth 100000 in
set_option maxHeartbeats 8000000 in
theorem nput_any (nb db sb tb mb : Nat) (c0 c1 c2 c3 node clock clk : Int) (M H : Nat) (t t2 : Tr) (k v : ByteArray) (a b E : Int) (w : World)
    (hS : ∀ w : World, StAt w sb tb mb node clock M t → Calls Tryz.prog 93 #[.pointer (some ⟨sb, 0, none⟩), .string k, .string v] w (SWr w sb tb mb node clk M t2 H a b E))
    (hn : NdAt w nb sb db c0 c1 c2 c3) (h : StAt w sb tb mb node clock M t) :
    Calls Tryz.prog 62 #[.pointer (some ⟨nb, 0, none⟩), .string k, .string v] w (SWr w sb tb mb node clk M t2 H a b E) := by
  have HS := Lib.hid hS
  obtain ⟨k0, k1, k2, k3, k4⟩ := alloc4 w (.cells #[.pointer (some ⟨nb, 0, none⟩)] 93 (0, 0)) (.cells #[.string k] 9 (0, 0)) (.cells #[.string v] 9 (0, 0)) (.cells #[.int .i64 0, .int .i64 0] 44 (0, 0))
  have HN := Lib.hid (And.intro (show NdAt _ nb sb db c0 c1 c2 c3 from blk_below hn k0) (And.intro (h.below k0) (And.intro k0 (And.intro k1 (And.intro k2 (And.intro k3 k4))))))
  have hpos := h.lanes.lt
  clear hS hn h k0 k1 k2 k3 k4
  go_enter Tryz.func62, Tryz.ntmps62
  go_wp2_with fail
  refine (up_put nb sb db c0 c1 c2 c3 _ _ _ HN.out.1 (nput1_any _ _ _ _ nb db sb tb mb c0 c1 c2 c3 node clock clk M H t t2 k v 0 0 a b E _ (by omega) HS.out HN.out.1 HN.out.2.1 HN.out.2.2.2.1 HN.out.2.2.2.2.1 HN.out.2.2.2.2.2.1 HN.out.2.2.2.2.2.2)).mono ?_
  rintro e w2 ⟨c, rfl, rfl, g3, ⟨m, hm, hst⟩, hk⟩
  have HZ := Lib.hid (And.intro hst (And.intro ((Keep.of_below HN.out.2.2.1).trans hk) g3))
  have q4 := blk2 g3
  clear hst hk g3
  go_wp2_with fail
  have hke : Keep (fun k => k = w.heap.size + 1 + 1 + 1) w2 ((w2.setCell ⟨w.heap.size + 1 + 1 + 1, 0, none⟩ (.int .i64 a)).setCell ⟨w.heap.size + 1 + 1 + 1, 1, none⟩ (.int .i64 b)) := (Keep.set w2 ⟨w.heap.size + 1 + 1 + 1, 0, none⟩ _).trans (Keep.set _ ⟨w.heap.size + 1 + 1 + 1, 1, none⟩ _)
  refine bodyPost_ret (v := .tuple #[vV a b, .int .i64 c]) (by simp [results, Tryz.results62, go_sem, q4]) rfl ⟨rfl, m, hm, ?_, ?_⟩
  · exact HZ.out.1.side HZ.out.2.2 (by decide) (by decide) (by decide) (by decide) (by omega) hke
  · exact (HZ.out.2.1.mono fun k hk h => h.resolve_left (by omega)).transNew hke fun k e => by rw [e]; omega
set_option maxRecDepth 100000 in
set_option maxHeartbeats 8000000 in
theorem ndel_any (nb db sb tb mb : Nat) (c0 c1 c2 c3 node clock clk : Int) (M H : Nat) (t t2 : Tr) (k : ByteArray) (a b E : Int) (w : World)
    (hS : ∀ w : World, StAt w sb tb mb node clock M t → Calls Tryz.prog 95 #[.pointer (some ⟨sb, 0, none⟩), .string k] w (SWr w sb tb mb node clk M t2 H a b E))
    (hn : NdAt w nb sb db c0 c1 c2 c3) (h : StAt w sb tb mb node clock M t) :
    Calls Tryz.prog 63 #[.pointer (some ⟨nb, 0, none⟩), .string k] w (SWr w sb tb mb node clk M t2 H a b E) := by
  have HS := Lib.hid hS
  obtain ⟨k0, k1, k2, k4⟩ := alloc3 w (.cells #[.pointer (some ⟨nb, 0, none⟩)] 93 (0, 0)) (.cells #[.string k] 9 (0, 0)) (.cells #[.int .i64 0, .int .i64 0] 44 (0, 0))
  have HN := Lib.hid (And.intro (show NdAt _ nb sb db c0 c1 c2 c3 from blk_below hn k0) (And.intro (h.below k0) (And.intro k0 (And.intro k1 (And.intro k2 k4)))))
  have hpos := h.lanes.lt
  clear hS hn h k0 k1 k2 k4
  go_enter Tryz.func63, Tryz.ntmps63
  go_wp2_with fail
  refine (up_delete nb sb db c0 c1 c2 c3 _ _ _ HN.out.1 (ndel1_any _ _ _ nb db sb tb mb c0 c1 c2 c3 node clock clk M H t t2 k 0 0 a b E _ (by omega) HS.out HN.out.1 HN.out.2.1 HN.out.2.2.2.1 HN.out.2.2.2.2.1 HN.out.2.2.2.2.2)).mono ?_
  rintro e w2 ⟨c, rfl, rfl, g3, ⟨m, hm, hst⟩, hk⟩
  have HZ := Lib.hid (And.intro hst (And.intro ((Keep.of_below HN.out.2.2.1).trans hk) g3))
  have q4 := blk2 g3
  clear hst hk g3
  go_wp2_with fail
  have hke : Keep (fun k => k = w.heap.size + 1 + 1) w2 ((w2.setCell ⟨w.heap.size + 1 + 1, 0, none⟩ (.int .i64 a)).setCell ⟨w.heap.size + 1 + 1, 1, none⟩ (.int .i64 b)) := (Keep.set w2 ⟨w.heap.size + 1 + 1, 0, none⟩ _).trans (Keep.set _ ⟨w.heap.size + 1 + 1, 1, none⟩ _)
  refine bodyPost_ret (v := .tuple #[vV a b, .int .i64 c]) (by simp [results, Tryz.results63, go_sem, q4]) rfl ⟨rfl, m, hm, ?_, ?_⟩
  · exact HZ.out.1.side HZ.out.2.2 (by decide) (by decide) (by decide) (by decide) (by omega) hke
  · exact (HZ.out.2.1.mono fun k hk h => h.resolve_left (by omega)).transNew hke fun k e => by rw [e]; omega
end Go.Proofs.YtdflmplmpjghdaaGreatDoor
