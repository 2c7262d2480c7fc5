/-
  The node's closure for Scan.
-/
import Derived.Test.YtdflmplmpjghdaaGreatDoorNup
namespace Go.Proofs.YtdflmplmpjghdaaGreatDoor
open Go.ChangeShapes Go.WideShapes Go.ChangeAt Go.RowKit Go.Deep Go.Shelf
set_option linter.unusedVariables false
set_option linter.unusedSimpArgs false
set_option maxRecDepth 100000
attribute [local go_sem] Oper.semAt_some

def NScanOf (w : World) (b2 : Nat) (t : Tr) (i j : Int) (e : Ending) (w' : World) : Prop := e = .returned (.int .i64 0) ∧ ∃ bl, w'.heap[b2]? = some (.cells #[scanV bl] 137 (0, 0)) ∧ (∃ wx, ScanAt wx bl t i j ∧ Keep (fun k => k = b2) wx w' ∧ wx.heap[b2]? = some (.cells #[.nilFunc] 137 (0, 0))) ∧ Keep (fun k => k = b2) w w'
set_option maxRecDepth 100000 in
set_option maxHeartbeats 8000000 in
theorem nscan1_any (b0 b1 b2 nb db sb tb mb : Nat) (c0 c1 c2 c3 node clock : Int) (M : Nat) (t : Tr) (lo hi : ByteArray) (op : Bool) (w : World) (hs : t.size ≤ 1000000)
    (hc : ∀ w : World, Calls Tryz.prog 82 #[rgV lo hi op] w fun e w' => e = .returned (.int .i64 0) ∧ Below w.heap.size w w')
    (hn : NdAt w nb sb db c0 c1 c2 c3) (h : StAt w sb tb mb node clock M t)
    (g0 : w.heap[b0]? = some (.cells #[.pointer (some ⟨nb, 0, none⟩)] 93 (0, 0))) (g1 : w.heap[b1]? = some (.cells #[.string lo, .string hi, .bool op] 36 (0, 0)))
    (g2 : w.heap[b2]? = some (.cells #[.nilFunc] 137 (0, 0))) :
    Calls Tryz.prog 98 #[.pointer (some ⟨b0, 0, none⟩), .pointer (some ⟨b1, 0, none⟩), .pointer (some ⟨b2, 0, none⟩)] w (NScanOf w b2 t (rankT lo t : Int) (endT hi op t : Int)) := by
  have HC := Lib.hid hc
  have HN := Lib.hid (And.intro hn (And.intro h (And.intro g0 (And.intro g1 g2))))
  clear hc hn h g0 g1 g2
  go_enter Tryz.func98, Tryz.ntmps98
  go_wp2_with fail
  have hSt : Stable (fun w3 : World => (Below w.heap.size w w3)) := by repeat (first | exact stable_ext _ | exact stable_blk _ _ | exact stable_true | (refine stable_bel ?_ ; (focus (first | (simp [World.size_setCell] ; done) | (simp [World.setCell] ; done)))) | refine Stable.and ?_ ?_)
  refine wp_region_x [0, 1, 2, 3, 4, 5, 6, 7, 8, 9, 10] [1, 0, 0, 1, 1, 4, 0, 0, 0, 3, 0] (fun w3 => (Below w.heap.size w w3)) (by kernel_rfl) (by kernel_rfl) ?_ ?_
  · (first | trivial | (repeat (first | (with_reducible assumption) | (with_reducible exact Below.refl _ _) | (with_reducible refine heap_drew ?_) | (focus ((with_reducible refine heap_new ?_) ; simp ; done)) | (with_reducible apply heap_set_to) | (focus ((with_reducible refine heap_set_ne ?_ ?_ _) ; rotate_left ; (focus (first | omega | (simp ; done) | (simp ; omega))))) | (with_reducible refine heap_old ?_) | (with_reducible refine Below.drew ?_) | (with_reducible refine below_set ?_ _ _) | (focus ((with_reducible refine Below.setCell ?_ ?_ _) ; rotate_left ; (focus (first | omega | (simp ; done) | (simp ; omega))))) | (focus ((with_reducible refine Below.alloc ?_ ?_ _) ; rotate_left ; (focus (first | omega | (simp ; done) | (simp ; omega))))) | (with_reducible rfl) | (focus (simp ; done)))))
  simp only [List.map_cons, List.map_nil, List.getD_cons_zero, List.getD_cons_succ]
  (refine x_quiet rfl hSt (fun _ h => h) _ ?_ rfl (by simp) ?_ ?_ ; rotate_left ; · (intro w3 hC K hK ; have hb := hC ; have q := ndCells (blk_below HN.out.1 hb) ; have q0 := blk1 (blk_below HN.out.2.2.1 hb) ; have q1 := blk3 (blk_below HN.out.2.2.2.1 hb) ; go_wp2_with fail ; refine ⟨?_, Below.refl _ _⟩ ; exact rfl))
  simp only [Act.put, List.setIfInBounds_toArray, List.set_cons_succ, List.set_cons_zero]
  (refine x_pure rfl _ ?_ rfl (by simp) ?_ ?_ ; rotate_left ; · (intro w3 K hK ; go_wp2_with fail ; exact rfl))
  simp only [Act.put, List.setIfInBounds_toArray, List.set_cons_succ, List.set_cons_zero]
  (refine x_pure rfl _ ?_ rfl (by simp) ?_ ?_ ; rotate_left ; · (intro w3 K hK ; go_wp2_with fail ; exact rfl))
  simp only [Act.put, List.setIfInBounds_toArray, List.set_cons_succ, List.set_cons_zero]
  (refine x_quiet rfl hSt (fun _ h => h) _ ?_ rfl (by simp) ?_ ?_ ; rotate_left ; · (intro w3 hC K hK ; have hb := hC ; have q := ndCells (blk_below HN.out.1 hb) ; have q0 := blk1 (blk_below HN.out.2.2.1 hb) ; have q1 := blk3 (blk_below HN.out.2.2.2.1 hb) ; go_wp2_with fail ; refine ⟨?_, Below.refl _ _⟩ ; exact rfl))
  simp only [Act.put, List.setIfInBounds_toArray, List.set_cons_succ, List.set_cons_zero]
  (refine x_quiet rfl hSt (fun _ h => h) _ ?_ rfl (by simp) ?_ ?_ ; rotate_left ; · (intro w3 hC K hK ; have hb := hC ; have q := ndCells (blk_below HN.out.1 hb) ; have q0 := blk1 (blk_below HN.out.2.2.1 hb) ; have q1 := blk3 (blk_below HN.out.2.2.2.1 hb) ; go_wp2_with fail ; refine ⟨?_, Below.refl _ _⟩ ; exact rfl))
  simp only [Act.put, List.setIfInBounds_toArray, List.set_cons_succ, List.set_cons_zero]
  refine x_make rfl ?_
  intro w3 hD K hK ; have hb := hD ; have q := ndCells (blk_below HN.out.1 hb) ; have q0 := blk1 (blk_below HN.out.2.2.1 hb) ; have q1 := blk3 (blk_below HN.out.2.2.2.1 hb)
  go_wp2_with fail
  refine (scan_any sb tb mb node clock M t lo hi op w3 (HN.out.2.1.below hb) (by omega) HC.out).mono ?_
  rintro x9 w9 ⟨bl, rfl, hs9, hb9⟩
  have HZ := Lib.hid (And.intro hs9 (hb.trans (hb9.mono hb.size)))
  clear q q0 q1 hs9 hb
  refine hK _ _ hb9 ?_
  try simp only [Act.put, List.setIfInBounds_toArray, List.set_cons_succ, List.set_cons_zero]
  (refine x_pure rfl _ ?_ rfl (by simp) ?_ ?_ ; rotate_left ; · (intro w3 K hK ; go_wp2_with fail ; exact rfl))
  simp only [Act.put, List.setIfInBounds_toArray, List.set_cons_succ, List.set_cons_zero]
  (refine x_pure rfl _ ?_ rfl (by simp) ?_ ?_ ; rotate_left ; · (intro w3 K hK ; go_wp2_with fail ; exact rfl))
  simp only [Act.put, List.setIfInBounds_toArray, List.set_cons_succ, List.set_cons_zero]
  (refine x_pure rfl _ ?_ rfl (by simp) ?_ ?_ ; rotate_left ; · (intro w3 K hK ; go_wp2_with fail ; exact rfl))
  simp only [Act.put, List.setIfInBounds_toArray, List.set_cons_succ, List.set_cons_zero]
  refine x_write rfl ?_
  intro wy hyb K hK
  have HY := Lib.hid (And.intro (HZ.out.1.below hyb) (HZ.out.2.trans (hyb.mono HZ.out.2.size)))
  have g2 := blk_below HN.out.2.2.2.2 HY.out.2
  have q2 := blk1 g2
  have HG := Lib.hid g2
  clear g2 hyb
  go_wp2_with fail
  try simp only [Act.put, List.setIfInBounds_toArray, List.set_cons_succ, List.set_cons_zero]
  (refine x_pure rfl _ ?_ rfl (by simp) ?_ ?_ ; rotate_left ; · (intro w3 K hK ; go_wp2_with fail ; exact rfl))
  simp only [Act.put, List.setIfInBounds_toArray, List.set_cons_succ, List.set_cons_zero]
  first | refine x_nil ?_ | refine x_end ?_
  rintro _ rfl
  go_wp2_with fail
  go_ret
  exact ⟨rfl, bl, heap_set_to HG.out (by simp), ⟨wy, HY.out.1, Keep.set _ ⟨b2, 0, none⟩ _, HG.out⟩, (Keep.of_below HY.out.2).trans (Keep.set _ ⟨b2, 0, none⟩ _)⟩
end Go.Proofs.YtdflmplmpjghdaaGreatDoor
