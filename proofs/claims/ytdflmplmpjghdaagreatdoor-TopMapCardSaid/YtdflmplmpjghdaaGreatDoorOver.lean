/-
  The tree: over.
-/
import Derived.Test.YtdflmplmpjghdaaGreatDoorTree
namespace Go.Proofs.YtdflmplmpjghdaaGreatDoor
open Go.ChangeShapes Go.WideShapes Go.ChangeAt Go.RowKit Go.Deep
set_option linter.unusedVariables false
set_option linter.unusedSimpArgs false
set_option maxRecDepth 100000

theorem Tr.high_le : ∀ t : Tr, t.high ≤ t.size
  | .nil => Nat.le_refl _
  | .node l _ _ _ r => by have := high_le l; have := high_le r; simp only [high, size]; omega
abbrev joinf (mb : Nat) : Value := .func (.func 120) #[.pointer (some ⟨mb, 0, none⟩)] #[]
/-- The meter in block mb stands at M. -/
def Mt (w : World) (mb : Nat) (M : Nat) : Prop := w.heap[mb]? = some (.cells #[.int .i64 (M : Int)] 276 (0, 0))
/-- The tree's own block, with any root. -/
def TObj (w : World) (tb mb : Nat) (rt : Value) : Prop := w.heap[tb]? = some (.cells #[.int .i64 0, .int .u64 0, .int .u64 0, joinf mb, rt] 222 (0, 0))
theorem blk5' {w : World} {b : Nat} {x0 x1 x2 x3 x4 : Value} {t : TypeId} (h : w.heap[b]? = some (.cells #[x0, x1, x2, x3, x4] t (0, 0))) :
    w.cell? ⟨b, 0, none⟩ = some x0 ∧ w.cell? ⟨b, 1, none⟩ = some x1 ∧ w.cell? ⟨b, 2, none⟩ = some x2 ∧ w.cell? ⟨b, 3, none⟩ = some x3 ∧ w.cell? ⟨b, 4, none⟩ = some x4 ∧ b < w.heap.size ∧ ∀ o, w.frozen? ⟨b, o, none⟩ = false := ⟨blk_cell h 0, blk_cell h 1, blk_cell h 2, blk_cell h 3, blk_cell h 4, blk_lt h, blk_free h⟩
theorem blkN {w : World} {b : Nat} {k : ByteArray} {e : Ent} {s t : T3} {pl pr : Value} {m h : Nat} (hb : w.heap[b]? = some (.cells (ncells k e s t pl pr m h) nodeT (0, 0))) :
    w.cell? ⟨b, 0, none⟩ = some (.string k) ∧ w.cell? ⟨b, 1, none⟩ = some (.string e.1) ∧ w.cell? ⟨b, 2, none⟩ = some (.int .i64 e.2.1) ∧ w.cell? ⟨b, 3, none⟩ = some (.int .i64 e.2.2.1) ∧ w.cell? ⟨b, 4, none⟩ = some (.string e.2.2.2.1) ∧ w.cell? ⟨b, 5, none⟩ = some (.bool e.2.2.2.2) ∧
    w.cell? ⟨b, 6, none⟩ = some (.int .i64 s.1) ∧ w.cell? ⟨b, 7, none⟩ = some (.int .u64 s.2.1) ∧ w.cell? ⟨b, 8, none⟩ = some (.int .u64 s.2.2) ∧ w.cell? ⟨b, 9, none⟩ = some (.int .i64 t.1) ∧ w.cell? ⟨b, 10, none⟩ = some (.int .u64 t.2.1) ∧ w.cell? ⟨b, 11, none⟩ = some (.int .u64 t.2.2) ∧
    w.cell? ⟨b, 12, none⟩ = some pl ∧ w.cell? ⟨b, 13, none⟩ = some pr ∧ w.cell? ⟨b, 14, none⟩ = some (.int .i64 (m : Int)) ∧ w.cell? ⟨b, 15, none⟩ = some (.int .i64 (h : Int)) ∧ b < w.heap.size ∧ ∀ o, w.frozen? ⟨b, o, none⟩ = false :=
  ⟨blk_cell hb 0, blk_cell hb 1, blk_cell hb 2, blk_cell hb 3, blk_cell hb 4, blk_cell hb 5, blk_cell hb 6, blk_cell hb 7, blk_cell hb 8, blk_cell hb 9, blk_cell hb 10, blk_cell hb 11, blk_cell hb 12, blk_cell hb 13, blk_cell hb 14, blk_cell hb 15, blk_lt hb, blk_free hb⟩

theorem Keep.setNew {p : Nat → Prop} {w w' : World} (h : Keep p w w') {a : Addr} (ha : w.heap.size ≤ a.block) (v : Value) : Keep p w (w'.setCell a v) :=
  ⟨h.os, h.tape, h.output, by rw [World.size_setCell]; exact h.size, fun k hk hn => (Below.heap_setCell w' a v k (by omega)).trans (h.block k hk hn)⟩
theorem ncells_set {k : ByteArray} {e : Ent} {s t t' : T3} {pl pr : Value} {m h : Nat} : (((ncells k e s t pl pr m h).setIfInBounds 9 (.int .i64 t'.1)).setIfInBounds 10 (.int .u64 t'.2.1)).setIfInBounds 11 (.int .u64 t'.2.2) = ncells k e s t' pl pr m h := by simp [ncells]
/-- How far 'over' is: the node's sum is t, the meter has counted c more. -/
structure OvAt (w W : World) (mb gn M c : Nat) (k : ByteArray) (e : Ent) (s t : T3) (pl pr : Value) (m h : Nat) : Prop where
  new : w.heap.size ≤ gn
  blk : W.heap[gn]? = some (.cells (ncells k e s t pl pr m h) nodeT (0, 0))
  mt : Mt W mb (M + c)
  keep : Keep (fun k => k = mb) w W
theorem OvAt.step {w W w8 w9 : World} {mb gn M c : Nat} {k : ByteArray} {e : Ent} {s t t' : T3} {pl pr : Value} {m h : Nat} (H : OvAt w W mb gn M c k e s t pl pr m h) (hmb : mb < w.heap.size) (hM : M + c ≤ 4611686018427387906) (hc : Below W.heap.size W w8)
    (hb : Below (w8.setCell ⟨mb, 0, none⟩ (.int .i64 (wrap64 (((M + c : Nat) : Int) + 1)))).heap.size (w8.setCell ⟨mb, 0, none⟩ (.int .i64 (wrap64 (((M + c : Nat) : Int) + 1)))) w9) :
    w9.heap[gn]? = some (.cells (ncells k e s t pl pr m h) nodeT (0, 0)) ∧ OvAt w (((w9.setCell ⟨gn, 9, none⟩ (.int .i64 t'.1)).setCell ⟨gn, 10, none⟩ (.int .u64 t'.2.1)).setCell ⟨gn, 11, none⟩ (.int .u64 t'.2.2)) mb gn M (c + 1) k e s t' pl pr m h := by
  have hne : mb ≠ gn := by have := H.new; omega
  have h8 := blk_below H.blk hc
  have h9 : w9.heap[gn]? = some (.cells (ncells k e s t pl pr m h) nodeT (0, 0)) := blk_below (heap_set_ne h8 hne.symm _) hb
  have hw : wrap64 (((M + c : Nat) : Int) + 1) = ((M + (c + 1) : Nat) : Int) := by unfold wrap64; omega
  have hm8 : Mt w8 mb (M + c) := blk_below H.mt hc
  have hm9 : Mt w9 mb (M + (c + 1)) := by
    have := blk_below (heap_set_to hm8 (o := 0) (v := .int .i64 (wrap64 (((M + c : Nat) : Int) + 1))) (cs' := #[.int .i64 (wrap64 (((M + c : Nat) : Int) + 1))]) (by simp)) hb
    rw [hw] at this
    exact this
  have k9 : Keep (fun k => k = mb) w w9 := ((H.keep.trans (Keep.of_below hc)).trans (Keep.set w8 ⟨mb, 0, none⟩ _)).trans (Keep.of_below hb)
  refine ⟨h9, H.new, ?_, ?_, ((k9.setNew (a := ⟨gn, 9, none⟩) H.new _).setNew (a := ⟨gn, 10, none⟩) H.new _).setNew (a := ⟨gn, 11, none⟩) H.new _⟩
  · rw [← ncells_set (t := t)]
    exact heap_set (heap_set (heap_set h9 9 _) 10 _) 11 _
  · exact heap_set_ne (heap_set_ne (heap_set_ne hm9 hne _) hne _) hne _
theorem mt_ne {w : World} {mb M : Nat} (h : Mt w mb M) : ∀ g cs fr, w.heap[g]? = some (.cells cs nodeT fr) → ¬ g = mb := fun g cs fr hg e => by
  unfold Mt at h
  rw [e, h] at hg
  simp only [Option.some.injEq, Obj.cells.injEq] at hg
  exact absurd hg.2.1 (by decide)
set_option maxRecDepth 100000 in
set_option maxHeartbeats 8000000 in
theorem over_any (mb tb gx M : Nat) (k : ByteArray) (e : Ent) (s : T3) (t0 : T3) (pl0 pr0 rt : Value) (m0 h0 : Nat) (l r : Tr) (pl pr : Option Nat) (w : World)
    (hm : Mt w mb M) (hM : M ≤ 4611686018427387904) (ht : TObj w tb mb rt) (hx : w.heap[gx]? = some (.cells (ncells k e s t0 pl0 pr0 m0 h0) nodeT (0, 0))) (hl : TreeAt w l pl) (hr : TreeAt w r pr) (hs : l.size + r.size ≤ 1099511627776) :
    Calls Tryz.prog 209 #[.pointer (some ⟨tb, 0, none⟩), .pointer (some ⟨gx, 0, none⟩), .pointer (pa pl), .pointer (pa pr)] w fun x w' =>
      ∃ g c, x = .returned (.pointer (pa (some g))) ∧ TreeAt w' (.node l k e s r) (some g) ∧ c ≤ 2 ∧ Mt w' mb (M + c) ∧ Keep (fun k => k = mb) w w' := by
  have hlh := l.high_le
  have hrh := r.high_le
  obtain ⟨k1, k2, k3, k4, k5⟩ := e
  obtain ⟨s1, s2, s3⟩ := s
  have HT : Hid (TreeAt w l pl ∧ TreeAt w r pr ∧ Mt w mb M ∧ TObj w tb mb rt) := ⟨hl, hr, hm, ht⟩
  clear hl hr hm ht
  go_enter Tryz.func209, Tryz.ntmps209
  go_wp2_with fail
  have hSt : Stable (fun w1 : World => (Below w.heap.size w w1)) := by repeat (first | exact stable_ext _ | exact stable_blk _ _ | exact stable_true | (refine stable_bel ?_ ; (focus (first | (simp [World.size_setCell] ; done) | (simp [World.setCell] ; done)))) | refine Stable.and ?_ ?_)
  refine wp_region_x [0, 1, 2, 3, 4, 5, 6, 7, 8, 9, 10, 11, 12, 13, 14, 15, 16, 17, 18, 19, 20, 21, 22, 23, 24, 25, 26, 27, 28, 29, 30, 31, 32] [0, 0, 0, 1, 0, 0, 0, 1, 0, 0, 0, 1, 0, 0, 0, 1, 0, 0, 0, 1, 0, 0, 1, 0, 0, 1, 0, 1, 0, 0, 0, 2, 0] (fun w1 => (Below w.heap.size w w1)) (by kernel_rfl) (by kernel_rfl) ?_ ?_
  · (first | trivial | (repeat (first | (with_reducible assumption) | (with_reducible exact Below.refl _ _) | (with_reducible refine heap_drew ?_) | (focus ((with_reducible refine heap_new ?_) ; simp ; done)) | (with_reducible apply heap_set_to) | (focus ((with_reducible refine heap_set_ne ?_ ?_ _) ; rotate_left ; (focus (first | omega | (simp ; done) | (simp ; omega))))) | (with_reducible refine heap_old ?_) | (with_reducible refine Below.drew ?_) | (with_reducible refine below_set ?_ _ _) | (focus ((with_reducible refine Below.setCell ?_ ?_ _) ; rotate_left ; (focus (first | omega | (simp ; done) | (simp ; omega))))) | (focus ((with_reducible refine Below.alloc ?_ ?_ _) ; rotate_left ; (focus (first | omega | (simp ; done) | (simp ; omega))))) | (with_reducible rfl) | (focus (simp ; done)))))
  simp only [List.map_cons, List.map_nil, List.getD_cons_zero, List.getD_cons_succ]
  (refine x_pure rfl _ ?_ rfl (by simp) ?_ ?_ ; rotate_left ; · (intro w1 K hK ; go_wp2_with fail ; exact rfl))
  simp only [Act.put, List.setIfInBounds_toArray, List.set_cons_succ, List.set_cons_zero]
  (refine x_pure rfl _ ?_ rfl (by simp) ?_ ?_ ; rotate_left ; · (intro w1 K hK ; go_wp2_with fail ; exact rfl))
  simp only [Act.put, List.setIfInBounds_toArray, List.set_cons_succ, List.set_cons_zero]
  (refine x_pure rfl _ ?_ rfl (by simp) ?_ ?_ ; rotate_left ; · (intro w1 K hK ; go_wp2_with fail ; exact rfl))
  simp only [Act.put, List.setIfInBounds_toArray, List.set_cons_succ, List.set_cons_zero]
  (refine x_quiet rfl hSt (fun _ h => h) _ ?_ rfl (by simp) ?_ ?_ ; rotate_left ; · (intro w1 hC K hK ; have hc := hC ; have q := blkN (blk_below hx hc) ; go_wp2_with fail ; refine ⟨?_, Below.refl _ _⟩ ; exact rfl))
  simp only [Act.put, List.setIfInBounds_toArray, List.set_cons_succ, List.set_cons_zero]
  (refine x_pure rfl _ ?_ rfl (by simp) ?_ ?_ ; rotate_left ; · (intro w1 K hK ; go_wp2_with fail ; exact rfl))
  simp only [Act.put, List.setIfInBounds_toArray, List.set_cons_succ, List.set_cons_zero]
  (refine x_pure rfl _ ?_ rfl (by simp) ?_ ?_ ; rotate_left ; · (intro w1 K hK ; go_wp2_with fail ; exact rfl))
  simp only [Act.put, List.setIfInBounds_toArray, List.set_cons_succ, List.set_cons_zero]
  (refine x_pure rfl _ ?_ rfl (by simp) ?_ ?_ ; rotate_left ; · (intro w1 K hK ; go_wp2_with fail ; exact rfl))
  simp only [Act.put, List.setIfInBounds_toArray, List.set_cons_succ, List.set_cons_zero]
  (refine x_quiet rfl hSt (fun _ h => h) _ ?_ rfl (by simp) ?_ ?_ ; rotate_left ; · (intro w1 hC K hK ; have hc := hC ; have q := blkN (blk_below hx hc) ; go_wp2_with fail ; refine ⟨?_, Below.refl _ _⟩ ; exact rfl))
  simp only [Act.put, List.setIfInBounds_toArray, List.set_cons_succ, List.set_cons_zero]
  (refine x_pure rfl _ ?_ rfl (by simp) ?_ ?_ ; rotate_left ; · (intro w1 K hK ; go_wp2_with fail ; exact rfl))
  simp only [Act.put, List.setIfInBounds_toArray, List.set_cons_succ, List.set_cons_zero]
  (refine x_pure rfl _ ?_ rfl (by simp) ?_ ?_ ; rotate_left ; · (intro w1 K hK ; go_wp2_with fail ; exact rfl))
  simp only [Act.put, List.setIfInBounds_toArray, List.set_cons_succ, List.set_cons_zero]
  (refine x_pure rfl _ ?_ rfl (by simp) ?_ ?_ ; rotate_left ; · (intro w1 K hK ; go_wp2_with fail ; exact rfl))
  simp only [Act.put, List.setIfInBounds_toArray, List.set_cons_succ, List.set_cons_zero]
  (refine x_quiet rfl hSt (fun _ h => h) _ ?_ rfl (by simp) ?_ ?_ ; rotate_left ; · (intro w1 hC K hK ; have hc := hC ; have q := blkN (blk_below hx hc) ; go_wp2_with fail ; refine ⟨?_, Below.refl _ _⟩ ; exact rfl))
  simp only [Act.put, List.setIfInBounds_toArray, List.set_cons_succ, List.set_cons_zero]
  (refine x_pure rfl _ ?_ rfl (by simp) ?_ ?_ ; rotate_left ; · (intro w1 K hK ; go_wp2_with fail ; exact rfl))
  simp only [Act.put, List.setIfInBounds_toArray, List.set_cons_succ, List.set_cons_zero]
  (refine x_pure rfl _ ?_ rfl (by simp) ?_ ?_ ; rotate_left ; · (intro w1 K hK ; go_wp2_with fail ; exact rfl))
  simp only [Act.put, List.setIfInBounds_toArray, List.set_cons_succ, List.set_cons_zero]
  (refine x_pure rfl _ ?_ rfl (by simp) ?_ ?_ ; rotate_left ; · (intro w1 K hK ; go_wp2_with fail ; exact rfl))
  simp only [Act.put, List.setIfInBounds_toArray, List.set_cons_succ, List.set_cons_zero]
  (refine x_quiet rfl hSt (fun _ h => h) _ ?_ rfl (by simp) ?_ ?_ ; rotate_left ; · (intro w1 hC K hK ; have hc := hC ; have q := blkN (blk_below hx hc) ; go_wp2_with fail ; refine ⟨?_, Below.refl _ _⟩ ; exact rfl))
  simp only [Act.put, List.setIfInBounds_toArray, List.set_cons_succ, List.set_cons_zero]
  (refine x_pure rfl _ ?_ rfl (by simp) ?_ ?_ ; rotate_left ; · (intro w1 K hK ; go_wp2_with fail ; exact rfl))
  simp only [Act.put, List.setIfInBounds_toArray, List.set_cons_succ, List.set_cons_zero]
  (refine x_pure rfl _ ?_ rfl (by simp) ?_ ?_ ; rotate_left ; · (intro w1 K hK ; go_wp2_with fail ; exact rfl))
  simp only [Act.put, List.setIfInBounds_toArray, List.set_cons_succ, List.set_cons_zero]
  (refine x_pure rfl _ ?_ rfl (by simp) ?_ ?_ ; rotate_left ; · (intro w1 K hK ; go_wp2_with fail ; exact rfl))
  simp only [Act.put, List.setIfInBounds_toArray, List.set_cons_succ, List.set_cons_zero]
  (refine x_quiet rfl hSt (fun _ h => h) _ ?_ rfl (by simp) ?_ ?_ ; rotate_left ; · (intro w1 hC K hK ; have hc := hC ; have q := blkN (blk_below hx hc) ; go_wp2_with fail ; first | (refine (manyb l pl w1 (HT.out.1.below hc)).mono ?_ ; rintro e w2 ⟨rfl, hb2⟩ ; refine hK _ _ ⟨?_, rfl, hb2⟩ ; (try simp only [List.getElem?_toArray, List.getElem?_cons_succ, List.getElem?_cons_zero]) ; exact rfl) | (refine (manyb r pr w1 (HT.out.2.1.below hc)).mono ?_ ; rintro e w2 ⟨rfl, hb2⟩ ; refine hK _ _ ⟨?_, rfl, hb2⟩ ; (try simp only [List.getElem?_toArray, List.getElem?_cons_succ, List.getElem?_cons_zero]) ; exact rfl)))
  simp only [Act.put, List.setIfInBounds_toArray, List.set_cons_succ, List.set_cons_zero]
  (refine x_pure rfl _ ?_ rfl (by simp) ?_ ?_ ; rotate_left ; · (intro w1 K hK ; go_wp2_with fail ; exact rfl))
  simp only [Act.put, List.setIfInBounds_toArray, List.set_cons_succ, List.set_cons_zero]
  (refine x_pure rfl _ ?_ rfl (by simp) ?_ ?_ ; rotate_left ; · (intro w1 K hK ; go_wp2_with fail ; exact rfl))
  simp only [Act.put, List.setIfInBounds_toArray, List.set_cons_succ, List.set_cons_zero]
  (refine x_quiet rfl hSt (fun _ h => h) _ ?_ rfl (by simp) ?_ ?_ ; rotate_left ; · (intro w1 hC K hK ; have hc := hC ; have q := blkN (blk_below hx hc) ; go_wp2_with fail ; first | (refine (manyb l pl w1 (HT.out.1.below hc)).mono ?_ ; rintro e w2 ⟨rfl, hb2⟩ ; refine hK _ _ ⟨?_, rfl, hb2⟩ ; (try simp only [List.getElem?_toArray, List.getElem?_cons_succ, List.getElem?_cons_zero]) ; exact rfl) | (refine (manyb r pr w1 (HT.out.2.1.below hc)).mono ?_ ; rintro e w2 ⟨rfl, hb2⟩ ; refine hK _ _ ⟨?_, rfl, hb2⟩ ; (try simp only [List.getElem?_toArray, List.getElem?_cons_succ, List.getElem?_cons_zero]) ; exact rfl)))
  simp only [Act.put, List.setIfInBounds_toArray, List.set_cons_succ, List.set_cons_zero]
  (refine x_pure rfl _ ?_ rfl (by simp) ?_ ?_ ; rotate_left ; · (intro w1 K hK ; go_wp2_with fail ; exact rfl))
  simp only [Act.put, List.setIfInBounds_toArray, List.set_cons_succ, List.set_cons_zero]
  (refine x_pure rfl _ ?_ rfl (by simp) ?_ ?_ ; rotate_left ; · (intro w1 K hK ; go_wp2_with fail ; exact rfl))
  simp only [Act.put, List.setIfInBounds_toArray, List.set_cons_succ, List.set_cons_zero]
  (refine x_quiet rfl hSt (fun _ h => h) _ ?_ rfl (by simp) ?_ ?_ ; rotate_left ; · (intro w1 hC K hK ; have hc := hC ; have q := blkN (blk_below hx hc) ; go_wp2_with fail ; first | (refine (highb l pl w1 (HT.out.1.below hc)).mono ?_ ; rintro e w2 ⟨rfl, hb2⟩ ; refine hK _ _ ⟨?_, rfl, hb2⟩ ; (try simp only [List.getElem?_toArray, List.getElem?_cons_succ, List.getElem?_cons_zero]) ; exact rfl) | (refine (highb r pr w1 (HT.out.2.1.below hc)).mono ?_ ; rintro e w2 ⟨rfl, hb2⟩ ; refine hK _ _ ⟨?_, rfl, hb2⟩ ; (try simp only [List.getElem?_toArray, List.getElem?_cons_succ, List.getElem?_cons_zero]) ; exact rfl)))
  simp only [Act.put, List.setIfInBounds_toArray, List.set_cons_succ, List.set_cons_zero]
  (refine x_pure rfl _ ?_ rfl (by simp) ?_ ?_ ; rotate_left ; · (intro w1 K hK ; go_wp2_with fail ; exact rfl))
  simp only [Act.put, List.setIfInBounds_toArray, List.set_cons_succ, List.set_cons_zero]
  (refine x_quiet rfl hSt (fun _ h => h) _ ?_ rfl (by simp) ?_ ?_ ; rotate_left ; · (intro w1 hC K hK ; have hc := hC ; have q := blkN (blk_below hx hc) ; go_wp2_with fail ; first | (refine (highb l pl w1 (HT.out.1.below hc)).mono ?_ ; rintro e w2 ⟨rfl, hb2⟩ ; refine hK _ _ ⟨?_, rfl, hb2⟩ ; (try simp only [List.getElem?_toArray, List.getElem?_cons_succ, List.getElem?_cons_zero]) ; exact rfl) | (refine (highb r pr w1 (HT.out.2.1.below hc)).mono ?_ ; rintro e w2 ⟨rfl, hb2⟩ ; refine hK _ _ ⟨?_, rfl, hb2⟩ ; (try simp only [List.getElem?_toArray, List.getElem?_cons_succ, List.getElem?_cons_zero]) ; exact rfl)))
  simp only [Act.put, List.setIfInBounds_toArray, List.set_cons_succ, List.set_cons_zero]
  (refine x_pure rfl _ ?_ rfl (by simp) ?_ ?_ ; rotate_left ; · (intro w1 K hK ; go_wp2_with fail ; exact rfl))
  simp only [Act.put, List.setIfInBounds_toArray, List.set_cons_succ, List.set_cons_zero]
  (refine x_pure rfl _ ?_ rfl (by simp) ?_ ?_ ; rotate_left ; · (intro w1 K hK ; go_wp2_with fail ; exact rfl))
  simp only [Act.put, List.setIfInBounds_toArray, List.set_cons_succ, List.set_cons_zero]
  (refine x_pure rfl _ ?_ rfl (by simp) ?_ ?_ ; rotate_left ; · (intro w1 K hK ; go_wp2_with fail ; exact rfl))
  simp only [Act.put, List.setIfInBounds_toArray, List.set_cons_succ, List.set_cons_zero]
  (refine x_new rfl hSt ?_ ?_ ?_ ; rotate_left ; (focus (intro w9 ; go_simp ; try exact rfl)) ; rintro gn0 ⟨w1n, hgn0, hgs0⟩)
  simp only [Act.put, List.setIfInBounds_toArray, List.set_cons_succ, List.set_cons_zero]
  (refine x_pure rfl _ ?_ rfl (by simp) ?_ ?_ ; rotate_left ; · (intro w1 K hK ; go_wp2_with fail ; exact rfl))
  simp only [Act.put, List.setIfInBounds_toArray, List.set_cons_succ, List.set_cons_zero]
  first | refine x_nil ?_ | refine x_end ?_
  rintro w1 ⟨hc, hn0⟩
  have hge : w.heap.size ≤ gn0 := by have := hgn0.size; omega
  have e1 : ((l.size + 1 + r.size : Nat) : Int) = l.size + 1 + r.size := by omega
  have e2 : ((1 + max l.high r.high : Nat) : Int) = 1 + max ↑l.high ↑r.high := by omega
  rw [← e1, ← e2] at hn0
  have HO : Hid (OvAt w w1 mb gn0 M 0 k (k1, k2, k3, k4, k5) (s1, s2, s3) (s1, s2, s3) (.pointer (pa pl)) (.pointer (pa pr)) (l.size + 1 + r.size) (1 + max l.high r.high)) := ⟨hge, hn0, blk_below HT.out.2.2.1 hc, Keep.of_below hc⟩
  have hmb := blk_lt HT.out.2.2.1
  have hTm : ¬ tb = mb := fun e => by
    have h1 := HT.out.2.2.1
    have h2 := HT.out.2.2.2
    unfold Mt at h1
    unfold TObj at h2
    rw [e, h1] at h2
    simp at h2
  clear hn0 hc hgn0 hgs0 hSt e1 e2
  cases l with
  | nil =>
    obtain rfl : pl = none := HT.out.1
    cases r with
    | nil =>
      obtain rfl : pr = none := HT.out.2.1
      rw [pa_none]
      go_wp2_with fail
      go_ret
      exact ⟨gn0, 0, rfl, ⟨gn0, none, none, rfl, HO.out.blk, HT.out.1.keep HO.out.keep (mt_ne HT.out.2.2.1), HT.out.2.1.keep HO.out.keep (mt_ne HT.out.2.2.1)⟩, by omega, HO.out.mt, HO.out.keep⟩
    | node rl rk re rs rr =>
      rw [pa_none]
      obtain ⟨gr, sl, sr, rfl, hbl, _, _⟩ := HT.out.2.1
      rw [pa_some]
      go_wp2_with fail
      have hSt : Stable (fun wx : World => (Below w1.heap.size w1 wx)) := by repeat (first | exact stable_ext _ | exact stable_blk _ _ | exact stable_true | (refine stable_bel ?_ ; (focus (first | (simp [World.size_setCell] ; done) | (simp [World.setCell] ; done)))) | refine Stable.and ?_ ?_)
      refine wp_region_x [0, 1, 2, 3, 4, 5, 6, 7, 8, 9, 10, 11, 12, 13, 14, 15, 16] [0, 0, 0, 0, 1, 0, 0, 0, 1, 0, 0, 0, 1, 3, 0, 0, 3] (fun wx => (Below w1.heap.size w1 wx)) (by kernel_rfl) (by kernel_rfl) ?_ ?_
      · (first | trivial | (repeat (first | (with_reducible assumption) | (with_reducible exact Below.refl _ _) | (with_reducible refine heap_drew ?_) | (focus ((with_reducible refine heap_new ?_) ; simp ; done)) | (with_reducible apply heap_set_to) | (focus ((with_reducible refine heap_set_ne ?_ ?_ _) ; rotate_left ; (focus (first | omega | (simp ; done) | (simp ; omega))))) | (with_reducible refine heap_old ?_) | (with_reducible refine Below.drew ?_) | (with_reducible refine below_set ?_ _ _) | (focus ((with_reducible refine Below.setCell ?_ ?_ _) ; rotate_left ; (focus (first | omega | (simp ; done) | (simp ; omega))))) | (focus ((with_reducible refine Below.alloc ?_ ?_ _) ; rotate_left ; (focus (first | omega | (simp ; done) | (simp ; omega))))) | (with_reducible rfl) | (focus (simp ; done)))))
      simp only [List.map_cons, List.map_nil, List.getD_cons_zero, List.getD_cons_succ]
      (refine x_pure rfl _ ?_ rfl (by simp) ?_ ?_ ; rotate_left ; · (intro wx K hK ; go_wp2_with fail ; exact rfl))
      simp only [Act.put, List.setIfInBounds_toArray, List.set_cons_succ, List.set_cons_zero]
      (refine x_pure rfl _ ?_ rfl (by simp) ?_ ?_ ; rotate_left ; · (intro wx K hK ; go_wp2_with fail ; exact rfl))
      simp only [Act.put, List.setIfInBounds_toArray, List.set_cons_succ, List.set_cons_zero]
      (refine x_pure rfl _ ?_ rfl (by simp) ?_ ?_ ; rotate_left ; · (intro wx K hK ; go_wp2_with fail ; exact rfl))
      simp only [Act.put, List.setIfInBounds_toArray, List.set_cons_succ, List.set_cons_zero]
      (refine x_pure rfl _ ?_ rfl (by simp) ?_ ?_ ; rotate_left ; · (intro wx K hK ; go_wp2_with fail ; exact rfl))
      simp only [Act.put, List.setIfInBounds_toArray, List.set_cons_succ, List.set_cons_zero]
      (refine x_quiet rfl hSt (fun _ h => h) _ ?_ rfl (by simp) ?_ ?_ ; rotate_left ; · (intro wx hC K hK ; have hc := hC ; have q1 := blkN (blk_below (HO.out.keep.blk hbl (mt_ne HT.out.2.2.1 _ _ _ hbl)) hc) ; have q2 := blkN (blk_below HO.out.blk hc) ; have q3 := blk5' (blk_below (HO.out.keep.blk HT.out.2.2.2 hTm) hc) ; go_wp2_with fail ; refine ⟨?_, Below.refl _ _⟩ ; exact rfl))
      simp only [Act.put, List.setIfInBounds_toArray, List.set_cons_succ, List.set_cons_zero]
      (refine x_pure rfl _ ?_ rfl (by simp) ?_ ?_ ; rotate_left ; · (intro wx K hK ; go_wp2_with fail ; exact rfl))
      simp only [Act.put, List.setIfInBounds_toArray, List.set_cons_succ, List.set_cons_zero]
      (refine x_pure rfl _ ?_ rfl (by simp) ?_ ?_ ; rotate_left ; · (intro wx K hK ; go_wp2_with fail ; exact rfl))
      simp only [Act.put, List.setIfInBounds_toArray, List.set_cons_succ, List.set_cons_zero]
      (refine x_pure rfl _ ?_ rfl (by simp) ?_ ?_ ; rotate_left ; · (intro wx K hK ; go_wp2_with fail ; exact rfl))
      simp only [Act.put, List.setIfInBounds_toArray, List.set_cons_succ, List.set_cons_zero]
      (refine x_quiet rfl hSt (fun _ h => h) _ ?_ rfl (by simp) ?_ ?_ ; rotate_left ; · (intro wx hC K hK ; have hc := hC ; have q1 := blkN (blk_below (HO.out.keep.blk hbl (mt_ne HT.out.2.2.1 _ _ _ hbl)) hc) ; have q2 := blkN (blk_below HO.out.blk hc) ; have q3 := blk5' (blk_below (HO.out.keep.blk HT.out.2.2.2 hTm) hc) ; go_wp2_with fail ; refine ⟨?_, Below.refl _ _⟩ ; exact rfl))
      simp only [Act.put, List.setIfInBounds_toArray, List.set_cons_succ, List.set_cons_zero]
      (refine x_pure rfl _ ?_ rfl (by simp) ?_ ?_ ; rotate_left ; · (intro wx K hK ; go_wp2_with fail ; exact rfl))
      simp only [Act.put, List.setIfInBounds_toArray, List.set_cons_succ, List.set_cons_zero]
      (refine x_pure rfl _ ?_ rfl (by simp) ?_ ?_ ; rotate_left ; · (intro wx K hK ; go_wp2_with fail ; exact rfl))
      simp only [Act.put, List.setIfInBounds_toArray, List.set_cons_succ, List.set_cons_zero]
      (refine x_pure rfl _ ?_ rfl (by simp) ?_ ?_ ; rotate_left ; · (intro wx K hK ; go_wp2_with fail ; exact rfl))
      simp only [Act.put, List.setIfInBounds_toArray, List.set_cons_succ, List.set_cons_zero]
      (refine x_quiet rfl hSt (fun _ h => h) _ ?_ rfl (by simp) ?_ ?_ ; rotate_left ; · (intro wx hC K hK ; have hc := hC ; have q1 := blkN (blk_below (HO.out.keep.blk hbl (mt_ne HT.out.2.2.1 _ _ _ hbl)) hc) ; have q2 := blkN (blk_below HO.out.blk hc) ; have q3 := blk5' (blk_below (HO.out.keep.blk HT.out.2.2.2 hTm) hc) ; go_wp2_with fail ; refine ⟨?_, Below.refl _ _⟩ ; exact rfl))
      simp only [Act.put, List.setIfInBounds_toArray, List.set_cons_succ, List.set_cons_zero]
      refine x_write rfl ?_
      intro wx hD K hK ; have hc := hD ; have q1 := blkN (blk_below (HO.out.keep.blk hbl (mt_ne HT.out.2.2.1 _ _ _ hbl)) hc) ; have q2 := blkN (blk_below HO.out.blk hc) ; have q3 := blk5' (blk_below (HO.out.keep.blk HT.out.2.2.2 hTm) hc)
      go_wp2_with fail
      refine (mjoin_any mb ((M + 0 : Nat) : Int) _ _ _ _ _ _ wx (blk_below HO.out.mt hc)).mono ?_
      rintro e w9 ⟨rfl, hb9⟩
      have hst := HO.out.step (t' := (tadd (s1, s2, s3) (Tr.node rl rk re rs rr).sum)) hmb (by omega) hc hb9
      have HO2 : Hid (_) := hst.2
      have q9 := blkN hst.1
      clear hst q1 q2 q3 hb9 HO hc hbl hSt
      refine hK _ _ ?_
      try simp only [Act.put, List.setIfInBounds_toArray, List.set_cons_succ, List.set_cons_zero]
      (refine x_pure rfl _ ?_ rfl (by simp) ?_ ?_ ; rotate_left ; · (intro wx K hK ; go_wp2_with fail ; exact rfl))
      simp only [Act.put, List.setIfInBounds_toArray, List.set_cons_succ, List.set_cons_zero]
      (refine x_pure rfl _ ?_ rfl (by simp) ?_ ?_ ; rotate_left ; · (intro wx K hK ; go_wp2_with fail ; exact rfl))
      simp only [Act.put, List.setIfInBounds_toArray, List.set_cons_succ, List.set_cons_zero]
      refine x_write rfl ?_
      rintro w9 rfl K hK
      go_wp2_with fail
      first | refine x_nil ?_ | refine x_end ?_
      rintro _ rfl
      clear q9
      go_wp2_with fail
      go_ret
      exact ⟨gn0, 1, rfl, ⟨gn0, none, (some gr), rfl, HO2.out.blk, HT.out.1.keep HO2.out.keep (mt_ne HT.out.2.2.1), HT.out.2.1.keep HO2.out.keep (mt_ne HT.out.2.2.1)⟩, by omega, HO2.out.mt, HO2.out.keep⟩
  | node ll lk le ls lr =>
    obtain ⟨gl, sl, sr, rfl, hbl, _, _⟩ := HT.out.1
    rw [pa_some]
    go_wp2_with fail
    have hSt : Stable (fun wx : World => (Below w1.heap.size w1 wx)) := by repeat (first | exact stable_ext _ | exact stable_blk _ _ | exact stable_true | (refine stable_bel ?_ ; (focus (first | (simp [World.size_setCell] ; done) | (simp [World.setCell] ; done)))) | refine Stable.and ?_ ?_)
    refine wp_region_x [0, 1, 2, 3, 4, 5, 6, 7, 8, 9, 10, 11, 12, 13, 14, 15, 16] [0, 0, 0, 0, 1, 0, 0, 0, 1, 0, 0, 0, 1, 3, 0, 0, 3] (fun wx => (Below w1.heap.size w1 wx)) (by kernel_rfl) (by kernel_rfl) ?_ ?_
    · (first | trivial | (repeat (first | (with_reducible assumption) | (with_reducible exact Below.refl _ _) | (with_reducible refine heap_drew ?_) | (focus ((with_reducible refine heap_new ?_) ; simp ; done)) | (with_reducible apply heap_set_to) | (focus ((with_reducible refine heap_set_ne ?_ ?_ _) ; rotate_left ; (focus (first | omega | (simp ; done) | (simp ; omega))))) | (with_reducible refine heap_old ?_) | (with_reducible refine Below.drew ?_) | (with_reducible refine below_set ?_ _ _) | (focus ((with_reducible refine Below.setCell ?_ ?_ _) ; rotate_left ; (focus (first | omega | (simp ; done) | (simp ; omega))))) | (focus ((with_reducible refine Below.alloc ?_ ?_ _) ; rotate_left ; (focus (first | omega | (simp ; done) | (simp ; omega))))) | (with_reducible rfl) | (focus (simp ; done)))))
    simp only [List.map_cons, List.map_nil, List.getD_cons_zero, List.getD_cons_succ]
    (refine x_pure rfl _ ?_ rfl (by simp) ?_ ?_ ; rotate_left ; · (intro wx K hK ; go_wp2_with fail ; exact rfl))
    simp only [Act.put, List.setIfInBounds_toArray, List.set_cons_succ, List.set_cons_zero]
    (refine x_pure rfl _ ?_ rfl (by simp) ?_ ?_ ; rotate_left ; · (intro wx K hK ; go_wp2_with fail ; exact rfl))
    simp only [Act.put, List.setIfInBounds_toArray, List.set_cons_succ, List.set_cons_zero]
    (refine x_pure rfl _ ?_ rfl (by simp) ?_ ?_ ; rotate_left ; · (intro wx K hK ; go_wp2_with fail ; exact rfl))
    simp only [Act.put, List.setIfInBounds_toArray, List.set_cons_succ, List.set_cons_zero]
    (refine x_pure rfl _ ?_ rfl (by simp) ?_ ?_ ; rotate_left ; · (intro wx K hK ; go_wp2_with fail ; exact rfl))
    simp only [Act.put, List.setIfInBounds_toArray, List.set_cons_succ, List.set_cons_zero]
    (refine x_quiet rfl hSt (fun _ h => h) _ ?_ rfl (by simp) ?_ ?_ ; rotate_left ; · (intro wx hC K hK ; have hc := hC ; have q1 := blkN (blk_below (HO.out.keep.blk hbl (mt_ne HT.out.2.2.1 _ _ _ hbl)) hc) ; have q2 := blkN (blk_below HO.out.blk hc) ; have q3 := blk5' (blk_below (HO.out.keep.blk HT.out.2.2.2 hTm) hc) ; go_wp2_with fail ; refine ⟨?_, Below.refl _ _⟩ ; exact rfl))
    simp only [Act.put, List.setIfInBounds_toArray, List.set_cons_succ, List.set_cons_zero]
    (refine x_pure rfl _ ?_ rfl (by simp) ?_ ?_ ; rotate_left ; · (intro wx K hK ; go_wp2_with fail ; exact rfl))
    simp only [Act.put, List.setIfInBounds_toArray, List.set_cons_succ, List.set_cons_zero]
    (refine x_pure rfl _ ?_ rfl (by simp) ?_ ?_ ; rotate_left ; · (intro wx K hK ; go_wp2_with fail ; exact rfl))
    simp only [Act.put, List.setIfInBounds_toArray, List.set_cons_succ, List.set_cons_zero]
    (refine x_pure rfl _ ?_ rfl (by simp) ?_ ?_ ; rotate_left ; · (intro wx K hK ; go_wp2_with fail ; exact rfl))
    simp only [Act.put, List.setIfInBounds_toArray, List.set_cons_succ, List.set_cons_zero]
    (refine x_quiet rfl hSt (fun _ h => h) _ ?_ rfl (by simp) ?_ ?_ ; rotate_left ; · (intro wx hC K hK ; have hc := hC ; have q1 := blkN (blk_below (HO.out.keep.blk hbl (mt_ne HT.out.2.2.1 _ _ _ hbl)) hc) ; have q2 := blkN (blk_below HO.out.blk hc) ; have q3 := blk5' (blk_below (HO.out.keep.blk HT.out.2.2.2 hTm) hc) ; go_wp2_with fail ; refine ⟨?_, Below.refl _ _⟩ ; exact rfl))
    simp only [Act.put, List.setIfInBounds_toArray, List.set_cons_succ, List.set_cons_zero]
    (refine x_pure rfl _ ?_ rfl (by simp) ?_ ?_ ; rotate_left ; · (intro wx K hK ; go_wp2_with fail ; exact rfl))
    simp only [Act.put, List.setIfInBounds_toArray, List.set_cons_succ, List.set_cons_zero]
    (refine x_pure rfl _ ?_ rfl (by simp) ?_ ?_ ; rotate_left ; · (intro wx K hK ; go_wp2_with fail ; exact rfl))
    simp only [Act.put, List.setIfInBounds_toArray, List.set_cons_succ, List.set_cons_zero]
    (refine x_pure rfl _ ?_ rfl (by simp) ?_ ?_ ; rotate_left ; · (intro wx K hK ; go_wp2_with fail ; exact rfl))
    simp only [Act.put, List.setIfInBounds_toArray, List.set_cons_succ, List.set_cons_zero]
    (refine x_quiet rfl hSt (fun _ h => h) _ ?_ rfl (by simp) ?_ ?_ ; rotate_left ; · (intro wx hC K hK ; have hc := hC ; have q1 := blkN (blk_below (HO.out.keep.blk hbl (mt_ne HT.out.2.2.1 _ _ _ hbl)) hc) ; have q2 := blkN (blk_below HO.out.blk hc) ; have q3 := blk5' (blk_below (HO.out.keep.blk HT.out.2.2.2 hTm) hc) ; go_wp2_with fail ; refine ⟨?_, Below.refl _ _⟩ ; exact rfl))
    simp only [Act.put, List.setIfInBounds_toArray, List.set_cons_succ, List.set_cons_zero]
    refine x_write rfl ?_
    intro wx hD K hK ; have hc := hD ; have q1 := blkN (blk_below (HO.out.keep.blk hbl (mt_ne HT.out.2.2.1 _ _ _ hbl)) hc) ; have q2 := blkN (blk_below HO.out.blk hc) ; have q3 := blk5' (blk_below (HO.out.keep.blk HT.out.2.2.2 hTm) hc)
    go_wp2_with fail
    refine (mjoin_any mb ((M + 0 : Nat) : Int) _ _ _ _ _ _ wx (blk_below HO.out.mt hc)).mono ?_
    rintro e w9 ⟨rfl, hb9⟩
    have hst := HO.out.step (t' := (tadd (Tr.node ll lk le ls lr).sum (s1, s2, s3))) hmb (by omega) hc hb9
    have HO2 : Hid (_) := hst.2
    have q9 := blkN hst.1
    clear hst q1 q2 q3 hb9 HO hc hbl hSt
    refine hK _ _ ?_
    try simp only [Act.put, List.setIfInBounds_toArray, List.set_cons_succ, List.set_cons_zero]
    (refine x_pure rfl _ ?_ rfl (by simp) ?_ ?_ ; rotate_left ; · (intro wx K hK ; go_wp2_with fail ; exact rfl))
    simp only [Act.put, List.setIfInBounds_toArray, List.set_cons_succ, List.set_cons_zero]
    (refine x_pure rfl _ ?_ rfl (by simp) ?_ ?_ ; rotate_left ; · (intro wx K hK ; go_wp2_with fail ; exact rfl))
    simp only [Act.put, List.setIfInBounds_toArray, List.set_cons_succ, List.set_cons_zero]
    refine x_write rfl ?_
    rintro w9 rfl K hK
    go_wp2_with fail
    first | refine x_nil ?_ | refine x_end ?_
    rintro _ rfl
    clear q9
    generalize hw2 : ((w9.setCell ⟨gn0, 9, none⟩ (.int .i64 (wrap64 ((Tr.node ll lk le ls lr).sum.1 + s1)))).setCell ⟨gn0, 10, none⟩ (.int .u64 (u64 ((Tr.node ll lk le ls lr).sum.2.1 + s2)))).setCell ⟨gn0, 11, none⟩ (.int .u64 (u64 ((Tr.node ll lk le ls lr).sum.2.2 + s3))) = w2
    have HO : Hid (OvAt w w2 mb gn0 M 1 k (k1, k2, k3, k4, k5) (s1, s2, s3) (tadd (Tr.node ll lk le ls lr).sum (s1, s2, s3)) (.pointer (pa (some gl))) (.pointer (pa pr)) ((Tr.node ll lk le ls lr).size + 1 + r.size) (1 + max (Tr.node ll lk le ls lr).high r.high)) := by rw [← hw2]; exact HO2
    clear HO2 hw2
    cases r with
    | nil =>
      obtain rfl : pr = none := HT.out.2.1
      rw [pa_none]
      go_wp2_with fail
      go_ret
      exact ⟨gn0, 1, rfl, ⟨gn0, (some gl), none, rfl, HO.out.blk, HT.out.1.keep HO.out.keep (mt_ne HT.out.2.2.1), HT.out.2.1.keep HO.out.keep (mt_ne HT.out.2.2.1)⟩, by omega, HO.out.mt, HO.out.keep⟩
    | node rl rk re rs rr =>
      obtain ⟨gr, sl, sr, rfl, hbl, _, _⟩ := HT.out.2.1
      rw [pa_some]
      go_wp2_with fail
      have hSt : Stable (fun wx : World => (Below w2.heap.size w2 wx)) := by repeat (first | exact stable_ext _ | exact stable_blk _ _ | exact stable_true | (refine stable_bel ?_ ; (focus (first | (simp [World.size_setCell] ; done) | (simp [World.setCell] ; done)))) | refine Stable.and ?_ ?_)
      refine wp_region_x [0, 1, 2, 3, 4, 5, 6, 7, 8, 9, 10, 11, 12, 13, 14, 15, 16] [0, 0, 0, 0, 1, 0, 0, 0, 1, 0, 0, 0, 1, 3, 0, 0, 3] (fun wx => (Below w2.heap.size w2 wx)) (by kernel_rfl) (by kernel_rfl) ?_ ?_
      · (first | trivial | (repeat (first | (with_reducible assumption) | (with_reducible exact Below.refl _ _) | (with_reducible refine heap_drew ?_) | (focus ((with_reducible refine heap_new ?_) ; simp ; done)) | (with_reducible apply heap_set_to) | (focus ((with_reducible refine heap_set_ne ?_ ?_ _) ; rotate_left ; (focus (first | omega | (simp ; done) | (simp ; omega))))) | (with_reducible refine heap_old ?_) | (with_reducible refine Below.drew ?_) | (with_reducible refine below_set ?_ _ _) | (focus ((with_reducible refine Below.setCell ?_ ?_ _) ; rotate_left ; (focus (first | omega | (simp ; done) | (simp ; omega))))) | (focus ((with_reducible refine Below.alloc ?_ ?_ _) ; rotate_left ; (focus (first | omega | (simp ; done) | (simp ; omega))))) | (with_reducible rfl) | (focus (simp ; done)))))
      simp only [List.map_cons, List.map_nil, List.getD_cons_zero, List.getD_cons_succ]
      (refine x_pure rfl _ ?_ rfl (by simp) ?_ ?_ ; rotate_left ; · (intro wx K hK ; go_wp2_with fail ; exact rfl))
      simp only [Act.put, List.setIfInBounds_toArray, List.set_cons_succ, List.set_cons_zero]
      (refine x_pure rfl _ ?_ rfl (by simp) ?_ ?_ ; rotate_left ; · (intro wx K hK ; go_wp2_with fail ; exact rfl))
      simp only [Act.put, List.setIfInBounds_toArray, List.set_cons_succ, List.set_cons_zero]
      (refine x_pure rfl _ ?_ rfl (by simp) ?_ ?_ ; rotate_left ; · (intro wx K hK ; go_wp2_with fail ; exact rfl))
      simp only [Act.put, List.setIfInBounds_toArray, List.set_cons_succ, List.set_cons_zero]
      (refine x_pure rfl _ ?_ rfl (by simp) ?_ ?_ ; rotate_left ; · (intro wx K hK ; go_wp2_with fail ; exact rfl))
      simp only [Act.put, List.setIfInBounds_toArray, List.set_cons_succ, List.set_cons_zero]
      (refine x_quiet rfl hSt (fun _ h => h) _ ?_ rfl (by simp) ?_ ?_ ; rotate_left ; · (intro wx hC K hK ; have hc := hC ; have q1 := blkN (blk_below (HO.out.keep.blk hbl (mt_ne HT.out.2.2.1 _ _ _ hbl)) hc) ; have q2 := blkN (blk_below HO.out.blk hc) ; have q3 := blk5' (blk_below (HO.out.keep.blk HT.out.2.2.2 hTm) hc) ; go_wp2_with fail ; refine ⟨?_, Below.refl _ _⟩ ; exact rfl))
      simp only [Act.put, List.setIfInBounds_toArray, List.set_cons_succ, List.set_cons_zero]
      (refine x_pure rfl _ ?_ rfl (by simp) ?_ ?_ ; rotate_left ; · (intro wx K hK ; go_wp2_with fail ; exact rfl))
      simp only [Act.put, List.setIfInBounds_toArray, List.set_cons_succ, List.set_cons_zero]
      (refine x_pure rfl _ ?_ rfl (by simp) ?_ ?_ ; rotate_left ; · (intro wx K hK ; go_wp2_with fail ; exact rfl))
      simp only [Act.put, List.setIfInBounds_toArray, List.set_cons_succ, List.set_cons_zero]
      (refine x_pure rfl _ ?_ rfl (by simp) ?_ ?_ ; rotate_left ; · (intro wx K hK ; go_wp2_with fail ; exact rfl))
      simp only [Act.put, List.setIfInBounds_toArray, List.set_cons_succ, List.set_cons_zero]
      (refine x_quiet rfl hSt (fun _ h => h) _ ?_ rfl (by simp) ?_ ?_ ; rotate_left ; · (intro wx hC K hK ; have hc := hC ; have q1 := blkN (blk_below (HO.out.keep.blk hbl (mt_ne HT.out.2.2.1 _ _ _ hbl)) hc) ; have q2 := blkN (blk_below HO.out.blk hc) ; have q3 := blk5' (blk_below (HO.out.keep.blk HT.out.2.2.2 hTm) hc) ; go_wp2_with fail ; refine ⟨?_, Below.refl _ _⟩ ; exact rfl))
      simp only [Act.put, List.setIfInBounds_toArray, List.set_cons_succ, List.set_cons_zero]
      (refine x_pure rfl _ ?_ rfl (by simp) ?_ ?_ ; rotate_left ; · (intro wx K hK ; go_wp2_with fail ; exact rfl))
      simp only [Act.put, List.setIfInBounds_toArray, List.set_cons_succ, List.set_cons_zero]
      (refine x_pure rfl _ ?_ rfl (by simp) ?_ ?_ ; rotate_left ; · (intro wx K hK ; go_wp2_with fail ; exact rfl))
      simp only [Act.put, List.setIfInBounds_toArray, List.set_cons_succ, List.set_cons_zero]
      (refine x_pure rfl _ ?_ rfl (by simp) ?_ ?_ ; rotate_left ; · (intro wx K hK ; go_wp2_with fail ; exact rfl))
      simp only [Act.put, List.setIfInBounds_toArray, List.set_cons_succ, List.set_cons_zero]
      (refine x_quiet rfl hSt (fun _ h => h) _ ?_ rfl (by simp) ?_ ?_ ; rotate_left ; · (intro wx hC K hK ; have hc := hC ; have q1 := blkN (blk_below (HO.out.keep.blk hbl (mt_ne HT.out.2.2.1 _ _ _ hbl)) hc) ; have q2 := blkN (blk_below HO.out.blk hc) ; have q3 := blk5' (blk_below (HO.out.keep.blk HT.out.2.2.2 hTm) hc) ; go_wp2_with fail ; refine ⟨?_, Below.refl _ _⟩ ; exact rfl))
      simp only [Act.put, List.setIfInBounds_toArray, List.set_cons_succ, List.set_cons_zero]
      refine x_write rfl ?_
      intro wx hD K hK ; have hc := hD ; have q1 := blkN (blk_below (HO.out.keep.blk hbl (mt_ne HT.out.2.2.1 _ _ _ hbl)) hc) ; have q2 := blkN (blk_below HO.out.blk hc) ; have q3 := blk5' (blk_below (HO.out.keep.blk HT.out.2.2.2 hTm) hc)
      go_wp2_with fail
      refine (mjoin_any mb ((M + 1 : Nat) : Int) _ _ _ _ _ _ wx (blk_below HO.out.mt hc)).mono ?_
      rintro e w9 ⟨rfl, hb9⟩
      have hst := HO.out.step (t' := (tadd (tadd (Tr.node ll lk le ls lr).sum (s1, s2, s3)) (Tr.node rl rk re rs rr).sum)) hmb (by omega) hc hb9
      have HO2 : Hid (_) := hst.2
      have q9 := blkN hst.1
      clear hst q1 q2 q3 hb9 HO hc hbl hSt
      refine hK _ _ ?_
      try simp only [Act.put, List.setIfInBounds_toArray, List.set_cons_succ, List.set_cons_zero]
      (refine x_pure rfl _ ?_ rfl (by simp) ?_ ?_ ; rotate_left ; · (intro wx K hK ; go_wp2_with fail ; exact rfl))
      simp only [Act.put, List.setIfInBounds_toArray, List.set_cons_succ, List.set_cons_zero]
      (refine x_pure rfl _ ?_ rfl (by simp) ?_ ?_ ; rotate_left ; · (intro wx K hK ; go_wp2_with fail ; exact rfl))
      simp only [Act.put, List.setIfInBounds_toArray, List.set_cons_succ, List.set_cons_zero]
      refine x_write rfl ?_
      rintro w9 rfl K hK
      go_wp2_with fail
      first | refine x_nil ?_ | refine x_end ?_
      rintro _ rfl
      clear q9
      go_wp2_with fail
      go_ret
      exact ⟨gn0, 2, rfl, ⟨gn0, (some gl), (some gr), rfl, HO2.out.blk, HT.out.1.keep HO2.out.keep (mt_ne HT.out.2.2.1), HT.out.2.1.keep HO2.out.keep (mt_ne HT.out.2.2.1)⟩, by omega, HO2.out.mt, HO2.out.keep⟩
end Go.Proofs.YtdflmplmpjghdaaGreatDoor
