/-
  The tree: put (of a node's tree with a row).
-/
import Derived.Test.YtdflmplmpjghdaaGreatDoorEven
import Derived.Laws.Cover1
namespace Go.Proofs.YtdflmplmpjghdaaGreatDoor
open Go.ChangeShapes Go.WideShapes Go.ChangeAt Go.RowKit Go.Deep
set_option linter.unusedVariables false
set_option linter.unusedSimpArgs false
set_option maxRecDepth 100000

/-- What 'put' is given. -/
structure PutAt (w : World) (mb tb gx M : Nat) (k : ByteArray) (e : Ent) (s t0 : T3) (pl0 pr0 rt : Value) (m0 h0 : Nat) (t : Tr) (p : Option Nat) : Prop where
  env : Env w mb tb M rt
  few : M + 6 * t.high ≤ 4611686018427370000
  x : w.heap[gx]? = some (.cells (ncells k e s t0 pl0 pr0 m0 h0) nodeT (0, 0))
  tt : TreeAt w t p
  size : t.size ≤ 1099511627000
theorem PutAt.below {w w' : World} {mb tb gx M : Nat} {k : ByteArray} {e : Ent} {s t0 : T3} {pl0 pr0 rt : Value} {m0 h0 : Nat} {t : Tr} {p : Option Nat} (h : PutAt w mb tb gx M k e s t0 pl0 pr0 rt m0 h0 t p) (hb : Below w.heap.size w w') :
    PutAt w' mb tb gx M k e s t0 pl0 pr0 rt m0 h0 t p := ⟨h.env.below hb, h.few, blk_below h.x hb, h.tt.below hb, h.size⟩
/-- What 'put' leaves. -/
def PutOf (w : World) (mb M : Nat) (k : ByteArray) (e : Ent) (s : T3) (t : Tr) (x : Ending) (w' : World) : Prop :=
  ∃ g c, x = .returned (.pointer (pa (some g))) ∧ TreeAt w' (putT k e s t) (some g) ∧ c ≤ 6 * t.high + 2 ∧ Mt w' mb (M + c) ∧ Keep (fun k => k = mb) w w'
set_option maxRecDepth 100000 in
set_option maxHeartbeats 8000000 in
theorem put_nil (mb tb gx M : Nat) (k : ByteArray) (e : Ent) (s : T3) (t0 : T3) (pl0 pr0 rt : Value) (m0 h0 : Nat) (p : Option Nat) (w : World) (h : PutAt w mb tb gx M k e s t0 pl0 pr0 rt m0 h0 .nil p) :
    Calls Tryz.prog 171 #[.pointer (some ⟨tb, 0, none⟩), .pointer (pa p), .pointer (some ⟨gx, 0, none⟩)] w (PutOf w mb M k e s  .nil) := by
  have hf := h.few
  obtain rfl : p = none := h.tt
  have HE := Lib.hid h
  clear h
  rw [pa_none]
  go_enter Tryz.func171, Tryz.ntmps171
  go_wp2_with fail
  refine (over_any mb tb gx M k e s t0 pl0 pr0 rt m0 h0 .nil .nil none none w HE.out.env.1 (by omega) HE.out.env.2 HE.out.x rfl rfl (by simp only [Tr.size]; omega)).mono ?_
  rintro x w1 ⟨g, c, rfl, h1, h2, h3, h4⟩
  have HZ := Lib.hid (And.intro h1 (And.intro h3 h4))
  clear h1 h3 h4
  go_wp2_with fail
  go_ret
  exact ⟨g, c, rfl, HZ.out.1, by simp only [Tr.high]; omega, HZ.out.2.1, HZ.out.2.2⟩
set_option maxRecDepth 100000 in
set_option maxHeartbeats 8000000 in
/-- The row goes to the left. -/
theorem put_less (mb tb gx M : Nat) (k : ByteArray) (e : Ent) (s : T3) (t0 : T3) (pl0 pr0 rt : Value) (m0 h0 : Nat) (l : Tr) (k2 : ByteArray) (e2 : Ent) (s2 : T3) (r : Tr) (p : Option Nat) (w : World) (h : PutAt w mb tb gx M k e s t0 pl0 pr0 rt m0 h0 (Tr.node l k2 e2 s2 r) p) (h1 : klb k k2 = true)
    (IH : ∀ (M : Nat) (q : Option Nat) (w : World), PutAt w mb tb gx M k e s t0 pl0 pr0 rt m0 h0 l q → Calls Tryz.prog 171 #[.pointer (some ⟨tb, 0, none⟩), .pointer (pa q), .pointer (some ⟨gx, 0, none⟩)] w (PutOf w mb M k e s l)) :
    Calls Tryz.prog 171 #[.pointer (some ⟨tb, 0, none⟩), .pointer (pa p), .pointer (some ⟨gx, 0, none⟩)] w (PutOf w mb M k e s  (Tr.node l k2 e2 s2 r)) := by
  have hsz := h.size
  have hf := h.few
  have HE := Lib.hid h
  obtain ⟨g, pl, pr, rfl, hbl⟩ := h.tt
  have HL : Hid (Kids w g l k2 e2 s2 r pl pr) := hbl
  rw [pa_some]
  clear h hbl
  simp only [Tr.size, Tr.high] at hsz hf
  have HD : Hid (Op.bytesLess k.toList k2.toList = true ∧ True) := ⟨h1, trivial⟩
  clear h1
  go_enter Tryz.func171, Tryz.ntmps171
  go_wp2_with fail
  have hSt : Stable (fun w1 : World => (Below w.heap.size w w1)) := by repeat (first | exact stable_ext _ | exact stable_blk _ _ | exact stable_true | (refine stable_bel ?_ ; (focus (first | (simp [World.size_setCell] ; done) | (simp [World.setCell] ; done)))) | refine Stable.and ?_ ?_)
  refine wp_region_x [0, 1, 2, 3, 4, 5, 6, 7, 8, 9] [0, 0, 0, 1, 0, 0, 0, 1, 0, 0] (fun w1 => (Below w.heap.size w w1)) (by kernel_rfl) (by kernel_rfl) ?_ ?_
  · (first | trivial | (repeat (first | (with_reducible assumption) | (with_reducible exact Below.refl _ _) | (with_reducible refine heap_drew ?_) | (focus ((with_reducible refine heap_new ?_) ; simp ; done)) | (with_reducible apply heap_set_to) | (focus ((with_reducible refine heap_set_ne ?_ ?_ _) ; rotate_left ; (focus (first | omega | (simp ; done) | (simp ; omega))))) | (with_reducible refine heap_old ?_) | (with_reducible refine Below.drew ?_) | (with_reducible refine below_set ?_ _ _) | (focus ((with_reducible refine Below.setCell ?_ ?_ _) ; rotate_left ; (focus (first | omega | (simp ; done) | (simp ; omega))))) | (focus ((with_reducible refine Below.alloc ?_ ?_ _) ; rotate_left ; (focus (first | omega | (simp ; done) | (simp ; omega))))) | (with_reducible rfl) | (focus (simp ; done)))))
  simp only [List.map_cons, List.map_nil, List.getD_cons_zero, List.getD_cons_succ]
  (refine x_pure rfl _ ?_ rfl (by simp) ?_ ?_ ; rotate_left ; · (intro w1 K hK ; go_wp2_with fail ; exact rfl))
  simp only [Act.put, List.setIfInBounds_toArray, List.set_cons_succ, List.set_cons_zero]
  (refine x_pure rfl _ ?_ rfl (by simp) ?_ ?_ ; rotate_left ; · (intro w1 K hK ; go_wp2_with fail ; exact rfl))
  simp only [Act.put, List.setIfInBounds_toArray, List.set_cons_succ, List.set_cons_zero]
  (refine x_pure rfl _ ?_ rfl (by simp) ?_ ?_ ; rotate_left ; · (intro w1 K hK ; go_wp2_with fail ; exact rfl))
  simp only [Act.put, List.setIfInBounds_toArray, List.set_cons_succ, List.set_cons_zero]
  (refine x_quiet rfl hSt (fun _ h => h) _ ?_ rfl (by simp) ?_ ?_ ; rotate_left ; · (intro w1 hC K hK ; have hc := hC ; have q := blkN (HL.out.below hc).1 ; have q2 := blkN (HE.out.below hc).x ; go_wp2_with fail ; refine ⟨?_, Below.refl _ _⟩ ; exact rfl))
  simp only [Act.put, List.setIfInBounds_toArray, List.set_cons_succ, List.set_cons_zero]
  (refine x_pure rfl _ ?_ rfl (by simp) ?_ ?_ ; rotate_left ; · (intro w1 K hK ; go_wp2_with fail ; exact rfl))
  simp only [Act.put, List.setIfInBounds_toArray, List.set_cons_succ, List.set_cons_zero]
  (refine x_pure rfl _ ?_ rfl (by simp) ?_ ?_ ; rotate_left ; · (intro w1 K hK ; go_wp2_with fail ; exact rfl))
  simp only [Act.put, List.setIfInBounds_toArray, List.set_cons_succ, List.set_cons_zero]
  (refine x_pure rfl _ ?_ rfl (by simp) ?_ ?_ ; rotate_left ; · (intro w1 K hK ; go_wp2_with fail ; exact rfl))
  simp only [Act.put, List.setIfInBounds_toArray, List.set_cons_succ, List.set_cons_zero]
  (refine x_quiet rfl hSt (fun _ h => h) _ ?_ rfl (by simp) ?_ ?_ ; rotate_left ; · (intro w1 hC K hK ; have hc := hC ; have q := blkN (HL.out.below hc).1 ; have q2 := blkN (HE.out.below hc).x ; go_wp2_with fail ; refine ⟨?_, Below.refl _ _⟩ ; exact rfl))
  simp only [Act.put, List.setIfInBounds_toArray, List.set_cons_succ, List.set_cons_zero]
  (refine x_pure rfl _ ?_ rfl (by simp) ?_ ?_ ; rotate_left ; · (intro w1 K hK ; have d := HD.out.1 ; go_wp2_with fail ; exact rfl))
  simp only [Act.put, List.setIfInBounds_toArray, List.set_cons_succ, List.set_cons_zero]
  (refine x_pure rfl _ ?_ rfl (by simp) ?_ ?_ ; rotate_left ; · (intro w1 K hK ; go_wp2_with fail ; exact rfl))
  simp only [Act.put, List.setIfInBounds_toArray, List.set_cons_succ, List.set_cons_zero]
  first | refine x_nil ?_ | refine x_end ?_
  rintro w1 hc
  go_wp2_with fail
  have hb1 : Below w.heap.size w w1 := by assumption
  have HE1 := Lib.hid (HE.out.below hb1)
  have HL1 := Lib.hid (HL.out.below hb1)
  have HB1 := Lib.hid (hb1)
  clear hb1 hSt hc
  have hps := putT_size k e s l
  have hDC : ∀ zw zx : World, (Below w1.heap.size w1 zw) → (Keep (fun k => k = mb)) zw zx → (fun w8 : World => (Keep (fun k => k = mb) w1 w8)) zx := fun _ _ hd hg => (Keep.of_below hd).trans hg
  have hSt : Stable (fun w8 : World => Below w1.heap.size w1 w8) := by repeat (first | exact stable_ext _ | exact stable_blk _ _ | exact stable_true | (refine stable_bel ?_ ; (focus (first | (simp [World.size_setCell] ; done) | (simp [World.setCell] ; done)))) | refine Stable.and ?_ ?_)
  refine G.wp_region_x (G := Keep (fun k => k = mb)) (D0 := fun w8 : World => Below w1.heap.size w1 w8) [0, 1, 2, 3, 4, 5, 6, 7, 9, 10, 11, 12, 8, 13, 14] [0, 0, 0, 0, 0, 0, 1, 0, 4, 0, 0, 0, 1, 3, 0] (fun w8 => (Keep (fun k => k = mb) w1 w8)) (by kernel_rfl) (by kernel_rfl) ?_ ?_
  · (exact (Below.refl _ _).drew)
  simp only [List.map_cons, List.map_nil, List.getD_cons_zero, List.getD_cons_succ]
  (refine G.x_pure rfl _ ?_ rfl (by simp) ?_ ?_ ; rotate_left ; · (intro w8 K hK ; go_wp2_with fail ; exact rfl))
  simp only [Act.put, List.setIfInBounds_toArray, List.set_cons_succ, List.set_cons_zero]
  (refine G.x_pure rfl _ ?_ rfl (by simp) ?_ ?_ ; rotate_left ; · (intro w8 K hK ; go_wp2_with fail ; exact rfl))
  simp only [Act.put, List.setIfInBounds_toArray, List.set_cons_succ, List.set_cons_zero]
  (refine G.x_pure rfl _ ?_ rfl (by simp) ?_ ?_ ; rotate_left ; · (intro w8 K hK ; go_wp2_with fail ; exact rfl))
  simp only [Act.put, List.setIfInBounds_toArray, List.set_cons_succ, List.set_cons_zero]
  (refine G.x_pure rfl _ ?_ rfl (by simp) ?_ ?_ ; rotate_left ; · (intro w8 K hK ; go_wp2_with fail ; exact rfl))
  simp only [Act.put, List.setIfInBounds_toArray, List.set_cons_succ, List.set_cons_zero]
  (refine G.x_pure rfl _ ?_ rfl (by simp) ?_ ?_ ; rotate_left ; · (intro w8 K hK ; go_wp2_with fail ; exact rfl))
  simp only [Act.put, List.setIfInBounds_toArray, List.set_cons_succ, List.set_cons_zero]
  (refine G.x_pure rfl _ ?_ rfl (by simp) ?_ ?_ ; rotate_left ; · (intro w8 K hK ; go_wp2_with fail ; exact rfl))
  simp only [Act.put, List.setIfInBounds_toArray, List.set_cons_succ, List.set_cons_zero]
  (refine G.x_quiet rfl hSt hDC _ ?_ rfl (by simp) ?_ ?_ ; rotate_left ; · (intro w8 hC K hK ; have hc := hC ; (first | (have q := blkN (HE1.out.env.node hc HL1.out.1)) | (have q := blkN (blk_below HL1.out.1 hc))) ; go_wp2_with fail ; refine ⟨?_, Below.refl _ _⟩ ; exact rfl))
  simp only [Act.put, List.setIfInBounds_toArray, List.set_cons_succ, List.set_cons_zero]
  (refine G.x_pure rfl _ ?_ rfl (by simp) ?_ ?_ ; rotate_left ; · (intro w8 K hK ; go_wp2_with fail ; exact rfl))
  simp only [Act.put, List.setIfInBounds_toArray, List.set_cons_succ, List.set_cons_zero]
  (refine G.x_pure rfl _ ?_ rfl (by simp) ?_ ?_ ; rotate_left ; · (intro w8 K hK ; go_wp2_with fail ; exact rfl))
  simp only [Act.put, List.setIfInBounds_toArray, List.set_cons_succ, List.set_cons_zero]
  (refine G.x_pure rfl _ ?_ rfl (by simp) ?_ ?_ ; rotate_left ; · (intro w8 K hK ; go_wp2_with fail ; exact rfl))
  simp only [Act.put, List.setIfInBounds_toArray, List.set_cons_succ, List.set_cons_zero]
  (refine G.x_pure rfl _ ?_ rfl (by simp) ?_ ?_ ; rotate_left ; · (intro w8 K hK ; go_wp2_with fail ; exact rfl))
  simp only [Act.put, List.setIfInBounds_toArray, List.set_cons_succ, List.set_cons_zero]
  (refine G.x_quiet rfl hSt hDC _ ?_ rfl (by simp) ?_ ?_ ; rotate_left ; · (intro w8 hC K hK ; have hc := hC ; (first | (have q := blkN (HE1.out.env.node hc HL1.out.1)) | (have q := blkN (blk_below HL1.out.1 hc))) ; go_wp2_with fail ; refine ⟨?_, Below.refl _ _⟩ ; exact rfl))
  simp only [Act.put, List.setIfInBounds_toArray, List.set_cons_succ, List.set_cons_zero]
  refine G.x_make rfl ?_
  intro w8 hD K hK ; have hc := hD ; (first | (have q := blkN (HE1.out.env.node hc HL1.out.1)) | (have q := blkN (blk_below HL1.out.1 hc)))
  go_wp2_with fail
  refine (IH M pl w8 ⟨HE1.out.env.below hc, by omega, blk_below HE1.out.x hc, (HL1.out.below hc).2.1, by omega⟩).mono ?_
  rintro x9 w9 ⟨g1, c1, rfl, ht1, hc1, hm1, hk1⟩
  have hk19 := (Keep.of_below hc).trans hk1
  have HM := Lib.hid (And.intro (HE1.out.env.keep hk19 hm1) (And.intro ht1 (And.intro (HE1.out.env.node hk19 HL1.out.1) (And.intro (HE1.out.env.tree hk19 HL1.out.2.2) hk19))))
  clear ht1 hm1 hk19 q hc
  refine hK _ _ hk1 ?_
  try simp only [Act.put, List.setIfInBounds_toArray, List.set_cons_succ, List.set_cons_zero]
  refine G.x_write rfl ?_
  intro wy hyb K hK
  go_wp2_with fail
  refine (even_any mb tb g (M + c1) k2 e2 s2 _ _ _ rt _ _ (putT k e s l) r (some g1) pr wy ⟨HM.out.1.below hyb, by omega, blk_below HM.out.2.2.1 hyb, HM.out.2.1.below hyb, HM.out.2.2.2.1.below hyb, by omega⟩).mono ?_
  rintro x10 w10 ⟨g2, c2, rfl, ht2, hc2, hm2, hk2⟩
  have HZ := Lib.hid (And.intro ht2 (And.intro hm2 ((HM.out.2.2.2.2.trans (Keep.of_below hyb)).trans hk2)))
  clear ht2 hm2 hk2
  refine hK _ _ ?_
  try simp only [Act.put, List.setIfInBounds_toArray, List.set_cons_succ, List.set_cons_zero]
  (refine G.x_pure rfl _ ?_ rfl (by simp) ?_ ?_ ; rotate_left ; · (intro w8 K hK ; go_wp2_with fail ; exact rfl))
  simp only [Act.put, List.setIfInBounds_toArray, List.set_cons_succ, List.set_cons_zero]
  first | refine G.x_nil ?_ | refine G.x_end ?_
  rintro w10 rfl
  go_wp2_with fail
  go_ret
  refine ⟨g2, c1 + c2, rfl, ?_, by simp only [Tr.high]; omega, by have := HZ.out.2.1; rwa [Nat.add_assoc] at this, (Keep.of_below HB1.out).trans HZ.out.2.2⟩
  have := HZ.out.1
  unfold putT
  rw [if_pos (show klb k k2 = true from HD.out.1)]
  exact this
set_option maxRecDepth 100000 in
set_option maxHeartbeats 8000000 in
/-- The row goes to the right. -/
theorem put_more (mb tb gx M : Nat) (k : ByteArray) (e : Ent) (s : T3) (t0 : T3) (pl0 pr0 rt : Value) (m0 h0 : Nat) (l : Tr) (k2 : ByteArray) (e2 : Ent) (s2 : T3) (r : Tr) (p : Option Nat) (w : World) (h : PutAt w mb tb gx M k e s t0 pl0 pr0 rt m0 h0 (Tr.node l k2 e2 s2 r) p) (h1 : klb k k2 = false) (h2 : klb k2 k = true)
    (IH : ∀ (M : Nat) (q : Option Nat) (w : World), PutAt w mb tb gx M k e s t0 pl0 pr0 rt m0 h0 r q → Calls Tryz.prog 171 #[.pointer (some ⟨tb, 0, none⟩), .pointer (pa q), .pointer (some ⟨gx, 0, none⟩)] w (PutOf w mb M k e s r)) :
    Calls Tryz.prog 171 #[.pointer (some ⟨tb, 0, none⟩), .pointer (pa p), .pointer (some ⟨gx, 0, none⟩)] w (PutOf w mb M k e s  (Tr.node l k2 e2 s2 r)) := by
  have hsz := h.size
  have hf := h.few
  have HE := Lib.hid h
  obtain ⟨g, pl, pr, rfl, hbl⟩ := h.tt
  have HL : Hid (Kids w g l k2 e2 s2 r pl pr) := hbl
  rw [pa_some]
  clear h hbl
  simp only [Tr.size, Tr.high] at hsz hf
  have HD : Hid (Op.bytesLess k.toList k2.toList = false ∧ (k.toList == k2.toList) = false) := ⟨h1, by
    rw [beq_eq_false_iff_ne]; intro hh; rw [toList_inj hh, klb_irrefl] at h2; cases h2⟩
  have H2 := Lib.hid h2
  clear h1 h2
  go_enter Tryz.func171, Tryz.ntmps171
  go_wp2_with fail
  have hSt : Stable (fun w1 : World => (Below w.heap.size w w1)) := by repeat (first | exact stable_ext _ | exact stable_blk _ _ | exact stable_true | (refine stable_bel ?_ ; (focus (first | (simp [World.size_setCell] ; done) | (simp [World.setCell] ; done)))) | refine Stable.and ?_ ?_)
  refine wp_region_x [0, 1, 2, 3, 4, 5, 6, 7, 8, 9] [0, 0, 0, 1, 0, 0, 0, 1, 0, 0] (fun w1 => (Below w.heap.size w w1)) (by kernel_rfl) (by kernel_rfl) ?_ ?_
  · (first | trivial | (repeat (first | (with_reducible assumption) | (with_reducible exact Below.refl _ _) | (with_reducible refine heap_drew ?_) | (focus ((with_reducible refine heap_new ?_) ; simp ; done)) | (with_reducible apply heap_set_to) | (focus ((with_reducible refine heap_set_ne ?_ ?_ _) ; rotate_left ; (focus (first | omega | (simp ; done) | (simp ; omega))))) | (with_reducible refine heap_old ?_) | (with_reducible refine Below.drew ?_) | (with_reducible refine below_set ?_ _ _) | (focus ((with_reducible refine Below.setCell ?_ ?_ _) ; rotate_left ; (focus (first | omega | (simp ; done) | (simp ; omega))))) | (focus ((with_reducible refine Below.alloc ?_ ?_ _) ; rotate_left ; (focus (first | omega | (simp ; done) | (simp ; omega))))) | (with_reducible rfl) | (focus (simp ; done)))))
  simp only [List.map_cons, List.map_nil, List.getD_cons_zero, List.getD_cons_succ]
  (refine x_pure rfl _ ?_ rfl (by simp) ?_ ?_ ; rotate_left ; · (intro w1 K hK ; go_wp2_with fail ; exact rfl))
  simp only [Act.put, List.setIfInBounds_toArray, List.set_cons_succ, List.set_cons_zero]
  (refine x_pure rfl _ ?_ rfl (by simp) ?_ ?_ ; rotate_left ; · (intro w1 K hK ; go_wp2_with fail ; exact rfl))
  simp only [Act.put, List.setIfInBounds_toArray, List.set_cons_succ, List.set_cons_zero]
  (refine x_pure rfl _ ?_ rfl (by simp) ?_ ?_ ; rotate_left ; · (intro w1 K hK ; go_wp2_with fail ; exact rfl))
  simp only [Act.put, List.setIfInBounds_toArray, List.set_cons_succ, List.set_cons_zero]
  (refine x_quiet rfl hSt (fun _ h => h) _ ?_ rfl (by simp) ?_ ?_ ; rotate_left ; · (intro w1 hC K hK ; have hc := hC ; have q := blkN (HL.out.below hc).1 ; have q2 := blkN (HE.out.below hc).x ; go_wp2_with fail ; refine ⟨?_, Below.refl _ _⟩ ; exact rfl))
  simp only [Act.put, List.setIfInBounds_toArray, List.set_cons_succ, List.set_cons_zero]
  (refine x_pure rfl _ ?_ rfl (by simp) ?_ ?_ ; rotate_left ; · (intro w1 K hK ; go_wp2_with fail ; exact rfl))
  simp only [Act.put, List.setIfInBounds_toArray, List.set_cons_succ, List.set_cons_zero]
  (refine x_pure rfl _ ?_ rfl (by simp) ?_ ?_ ; rotate_left ; · (intro w1 K hK ; go_wp2_with fail ; exact rfl))
  simp only [Act.put, List.setIfInBounds_toArray, List.set_cons_succ, List.set_cons_zero]
  (refine x_pure rfl _ ?_ rfl (by simp) ?_ ?_ ; rotate_left ; · (intro w1 K hK ; go_wp2_with fail ; exact rfl))
  simp only [Act.put, List.setIfInBounds_toArray, List.set_cons_succ, List.set_cons_zero]
  (refine x_quiet rfl hSt (fun _ h => h) _ ?_ rfl (by simp) ?_ ?_ ; rotate_left ; · (intro w1 hC K hK ; have hc := hC ; have q := blkN (HL.out.below hc).1 ; have q2 := blkN (HE.out.below hc).x ; go_wp2_with fail ; refine ⟨?_, Below.refl _ _⟩ ; exact rfl))
  simp only [Act.put, List.setIfInBounds_toArray, List.set_cons_succ, List.set_cons_zero]
  (refine x_pure rfl _ ?_ rfl (by simp) ?_ ?_ ; rotate_left ; · (intro w1 K hK ; have d := HD.out.1 ; go_wp2_with fail ; exact rfl))
  simp only [Act.put, List.setIfInBounds_toArray, List.set_cons_succ, List.set_cons_zero]
  (refine x_pure rfl _ ?_ rfl (by simp) ?_ ?_ ; rotate_left ; · (intro w1 K hK ; go_wp2_with fail ; exact rfl))
  simp only [Act.put, List.setIfInBounds_toArray, List.set_cons_succ, List.set_cons_zero]
  first | refine x_nil ?_ | refine x_end ?_
  rintro w1 hc
  go_wp2_with fail
  have hb1 : Below w.heap.size w w1 := by assumption
  have HE1 := Lib.hid (HE.out.below hb1)
  have HL1 := Lib.hid (HL.out.below hb1)
  have HB1 := Lib.hid (hb1)
  clear hb1 hSt hc
  have hSt : Stable (fun w2 : World => (Below w1.heap.size w1 w2)) := by repeat (first | exact stable_ext _ | exact stable_blk _ _ | exact stable_true | (refine stable_bel ?_ ; (focus (first | (simp [World.size_setCell] ; done) | (simp [World.setCell] ; done)))) | refine Stable.and ?_ ?_)
  refine wp_region_x [0, 1, 2, 3, 4, 5, 6, 7, 8, 9] [0, 0, 0, 1, 0, 0, 0, 1, 0, 0] (fun w2 => (Below w1.heap.size w1 w2)) (by kernel_rfl) (by kernel_rfl) ?_ ?_
  · (first | trivial | (repeat (first | (with_reducible assumption) | (with_reducible exact Below.refl _ _) | (with_reducible refine heap_drew ?_) | (focus ((with_reducible refine heap_new ?_) ; simp ; done)) | (with_reducible apply heap_set_to) | (focus ((with_reducible refine heap_set_ne ?_ ?_ _) ; rotate_left ; (focus (first | omega | (simp ; done) | (simp ; omega))))) | (with_reducible refine heap_old ?_) | (with_reducible refine Below.drew ?_) | (with_reducible refine below_set ?_ _ _) | (focus ((with_reducible refine Below.setCell ?_ ?_ _) ; rotate_left ; (focus (first | omega | (simp ; done) | (simp ; omega))))) | (focus ((with_reducible refine Below.alloc ?_ ?_ _) ; rotate_left ; (focus (first | omega | (simp ; done) | (simp ; omega))))) | (with_reducible rfl) | (focus (simp ; done)))))
  simp only [List.map_cons, List.map_nil, List.getD_cons_zero, List.getD_cons_succ]
  (refine x_pure rfl _ ?_ rfl (by simp) ?_ ?_ ; rotate_left ; · (intro w2 K hK ; go_wp2_with fail ; exact rfl))
  simp only [Act.put, List.setIfInBounds_toArray, List.set_cons_succ, List.set_cons_zero]
  (refine x_pure rfl _ ?_ rfl (by simp) ?_ ?_ ; rotate_left ; · (intro w2 K hK ; go_wp2_with fail ; exact rfl))
  simp only [Act.put, List.setIfInBounds_toArray, List.set_cons_succ, List.set_cons_zero]
  (refine x_pure rfl _ ?_ rfl (by simp) ?_ ?_ ; rotate_left ; · (intro w2 K hK ; go_wp2_with fail ; exact rfl))
  simp only [Act.put, List.setIfInBounds_toArray, List.set_cons_succ, List.set_cons_zero]
  (refine x_quiet rfl hSt (fun _ h => h) _ ?_ rfl (by simp) ?_ ?_ ; rotate_left ; · (intro w2 hC K hK ; have hc := hC ; have q := blkN (HL1.out.below hc).1 ; have q2 := blkN (HE1.out.below hc).x ; go_wp2_with fail ; refine ⟨?_, Below.refl _ _⟩ ; exact rfl))
  simp only [Act.put, List.setIfInBounds_toArray, List.set_cons_succ, List.set_cons_zero]
  (refine x_pure rfl _ ?_ rfl (by simp) ?_ ?_ ; rotate_left ; · (intro w2 K hK ; go_wp2_with fail ; exact rfl))
  simp only [Act.put, List.setIfInBounds_toArray, List.set_cons_succ, List.set_cons_zero]
  (refine x_pure rfl _ ?_ rfl (by simp) ?_ ?_ ; rotate_left ; · (intro w2 K hK ; go_wp2_with fail ; exact rfl))
  simp only [Act.put, List.setIfInBounds_toArray, List.set_cons_succ, List.set_cons_zero]
  (refine x_pure rfl _ ?_ rfl (by simp) ?_ ?_ ; rotate_left ; · (intro w2 K hK ; go_wp2_with fail ; exact rfl))
  simp only [Act.put, List.setIfInBounds_toArray, List.set_cons_succ, List.set_cons_zero]
  (refine x_quiet rfl hSt (fun _ h => h) _ ?_ rfl (by simp) ?_ ?_ ; rotate_left ; · (intro w2 hC K hK ; have hc := hC ; have q := blkN (HL1.out.below hc).1 ; have q2 := blkN (HE1.out.below hc).x ; go_wp2_with fail ; refine ⟨?_, Below.refl _ _⟩ ; exact rfl))
  simp only [Act.put, List.setIfInBounds_toArray, List.set_cons_succ, List.set_cons_zero]
  (refine x_pure rfl _ ?_ rfl (by simp) ?_ ?_ ; rotate_left ; · (intro w2 K hK ; have d := HD.out.1 ; have d2 := HD.out.2 ; go_wp2_with fail ; exact rfl))
  simp only [Act.put, List.setIfInBounds_toArray, List.set_cons_succ, List.set_cons_zero]
  (refine x_pure rfl _ ?_ rfl (by simp) ?_ ?_ ; rotate_left ; · (intro w2 K hK ; go_wp2_with fail ; exact rfl))
  simp only [Act.put, List.setIfInBounds_toArray, List.set_cons_succ, List.set_cons_zero]
  first | refine x_nil ?_ | refine x_end ?_
  rintro w2 hc
  go_wp2_with fail
  have hb2 : Below w1.heap.size w1 w2 := by assumption
  have HE2 := Lib.hid (HE1.out.below hb2)
  have HL2 := Lib.hid (HL1.out.below hb2)
  have HB2 := Lib.hid (HB1.out.trans (hb2.mono HB1.out.size))
  clear hb2 hSt hc
  have hps := putT_size k e s r
  have hDC : ∀ zw zx : World, (Below w2.heap.size w2 zw) → (Keep (fun k => k = mb)) zw zx → (fun w8 : World => (Keep (fun k => k = mb) w2 w8)) zx := fun _ _ hd hg => (Keep.of_below hd).trans hg
  have hSt : Stable (fun w8 : World => Below w2.heap.size w2 w8) := by repeat (first | exact stable_ext _ | exact stable_blk _ _ | exact stable_true | (refine stable_bel ?_ ; (focus (first | (simp [World.size_setCell] ; done) | (simp [World.setCell] ; done)))) | refine Stable.and ?_ ?_)
  refine G.wp_region_x (G := Keep (fun k => k = mb)) (D0 := fun w8 : World => Below w2.heap.size w2 w8) [0, 1, 2, 3, 4, 5, 6, 7, 8, 9, 10, 11, 12, 13, 14] [0, 0, 0, 0, 0, 1, 0, 0, 0, 0, 1, 0, 4, 3, 0] (fun w8 => (Keep (fun k => k = mb) w2 w8)) (by kernel_rfl) (by kernel_rfl) ?_ ?_
  · (exact (Below.refl _ _).drew)
  simp only [List.map_cons, List.map_nil, List.getD_cons_zero, List.getD_cons_succ]
  (refine G.x_pure rfl _ ?_ rfl (by simp) ?_ ?_ ; rotate_left ; · (intro w8 K hK ; go_wp2_with fail ; exact rfl))
  simp only [Act.put, List.setIfInBounds_toArray, List.set_cons_succ, List.set_cons_zero]
  (refine G.x_pure rfl _ ?_ rfl (by simp) ?_ ?_ ; rotate_left ; · (intro w8 K hK ; go_wp2_with fail ; exact rfl))
  simp only [Act.put, List.setIfInBounds_toArray, List.set_cons_succ, List.set_cons_zero]
  (refine G.x_pure rfl _ ?_ rfl (by simp) ?_ ?_ ; rotate_left ; · (intro w8 K hK ; go_wp2_with fail ; exact rfl))
  simp only [Act.put, List.setIfInBounds_toArray, List.set_cons_succ, List.set_cons_zero]
  (refine G.x_pure rfl _ ?_ rfl (by simp) ?_ ?_ ; rotate_left ; · (intro w8 K hK ; go_wp2_with fail ; exact rfl))
  simp only [Act.put, List.setIfInBounds_toArray, List.set_cons_succ, List.set_cons_zero]
  (refine G.x_pure rfl _ ?_ rfl (by simp) ?_ ?_ ; rotate_left ; · (intro w8 K hK ; go_wp2_with fail ; exact rfl))
  simp only [Act.put, List.setIfInBounds_toArray, List.set_cons_succ, List.set_cons_zero]
  (refine G.x_quiet rfl hSt hDC _ ?_ rfl (by simp) ?_ ?_ ; rotate_left ; · (intro w8 hC K hK ; have hc := hC ; (first | (have q := blkN (HE2.out.env.node hc HL2.out.1)) | (have q := blkN (blk_below HL2.out.1 hc))) ; go_wp2_with fail ; refine ⟨?_, Below.refl _ _⟩ ; exact rfl))
  simp only [Act.put, List.setIfInBounds_toArray, List.set_cons_succ, List.set_cons_zero]
  (refine G.x_pure rfl _ ?_ rfl (by simp) ?_ ?_ ; rotate_left ; · (intro w8 K hK ; go_wp2_with fail ; exact rfl))
  simp only [Act.put, List.setIfInBounds_toArray, List.set_cons_succ, List.set_cons_zero]
  (refine G.x_pure rfl _ ?_ rfl (by simp) ?_ ?_ ; rotate_left ; · (intro w8 K hK ; go_wp2_with fail ; exact rfl))
  simp only [Act.put, List.setIfInBounds_toArray, List.set_cons_succ, List.set_cons_zero]
  (refine G.x_pure rfl _ ?_ rfl (by simp) ?_ ?_ ; rotate_left ; · (intro w8 K hK ; go_wp2_with fail ; exact rfl))
  simp only [Act.put, List.setIfInBounds_toArray, List.set_cons_succ, List.set_cons_zero]
  (refine G.x_pure rfl _ ?_ rfl (by simp) ?_ ?_ ; rotate_left ; · (intro w8 K hK ; go_wp2_with fail ; exact rfl))
  simp only [Act.put, List.setIfInBounds_toArray, List.set_cons_succ, List.set_cons_zero]
  (refine G.x_quiet rfl hSt hDC _ ?_ rfl (by simp) ?_ ?_ ; rotate_left ; · (intro w8 hC K hK ; have hc := hC ; (first | (have q := blkN (HE2.out.env.node hc HL2.out.1)) | (have q := blkN (blk_below HL2.out.1 hc))) ; go_wp2_with fail ; refine ⟨?_, Below.refl _ _⟩ ; exact rfl))
  simp only [Act.put, List.setIfInBounds_toArray, List.set_cons_succ, List.set_cons_zero]
  (refine G.x_pure rfl _ ?_ rfl (by simp) ?_ ?_ ; rotate_left ; · (intro w8 K hK ; go_wp2_with fail ; exact rfl))
  simp only [Act.put, List.setIfInBounds_toArray, List.set_cons_succ, List.set_cons_zero]
  refine G.x_make rfl ?_
  intro w8 hD K hK ; have hc := hD ; (first | (have q := blkN (HE2.out.env.node hc HL2.out.1)) | (have q := blkN (blk_below HL2.out.1 hc)))
  go_wp2_with fail
  refine (IH M pr w8 ⟨HE2.out.env.below hc, by omega, blk_below HE2.out.x hc, (HL2.out.below hc).2.2, by omega⟩).mono ?_
  rintro x9 w9 ⟨g1, c1, rfl, ht1, hc1, hm1, hk1⟩
  have hk19 := (Keep.of_below hc).trans hk1
  have HM := Lib.hid (And.intro (HE2.out.env.keep hk19 hm1) (And.intro ht1 (And.intro (HE2.out.env.node hk19 HL2.out.1) (And.intro (HE2.out.env.tree hk19 HL2.out.2.1) hk19))))
  clear ht1 hm1 hk19 q hc
  refine hK _ _ hk1 ?_
  try simp only [Act.put, List.setIfInBounds_toArray, List.set_cons_succ, List.set_cons_zero]
  refine G.x_write rfl ?_
  intro wy hyb K hK
  go_wp2_with fail
  refine (even_any mb tb g (M + c1) k2 e2 s2 _ _ _ rt _ _ l (putT k e s r) pl (some g1) wy ⟨HM.out.1.below hyb, by omega, blk_below HM.out.2.2.1 hyb, HM.out.2.2.2.1.below hyb, HM.out.2.1.below hyb, by omega⟩).mono ?_
  rintro x10 w10 ⟨g2, c2, rfl, ht2, hc2, hm2, hk2⟩
  have HZ := Lib.hid (And.intro ht2 (And.intro hm2 ((HM.out.2.2.2.2.trans (Keep.of_below hyb)).trans hk2)))
  clear ht2 hm2 hk2
  refine hK _ _ ?_
  try simp only [Act.put, List.setIfInBounds_toArray, List.set_cons_succ, List.set_cons_zero]
  (refine G.x_pure rfl _ ?_ rfl (by simp) ?_ ?_ ; rotate_left ; · (intro w8 K hK ; go_wp2_with fail ; exact rfl))
  simp only [Act.put, List.setIfInBounds_toArray, List.set_cons_succ, List.set_cons_zero]
  first | refine G.x_nil ?_ | refine G.x_end ?_
  rintro w10 rfl
  go_wp2_with fail
  go_ret
  refine ⟨g2, c1 + c2, rfl, ?_, by simp only [Tr.high]; omega, by have := HZ.out.2.1; rwa [Nat.add_assoc] at this, (Keep.of_below HB2.out).trans HZ.out.2.2⟩
  have := HZ.out.1
  unfold putT
  rw [if_neg (by rw [show klb k k2 = false from HD.out.1]; simp), if_pos H2.out]
  exact this
set_option maxRecDepth 100000 in
set_option maxHeartbeats 8000000 in
/-- The row takes the place of one. -/
theorem put_same (mb tb gx M : Nat) (k : ByteArray) (e : Ent) (s : T3) (t0 : T3) (pl0 pr0 rt : Value) (m0 h0 : Nat) (l : Tr) (e2 : Ent) (s2 : T3) (r : Tr) (p : Option Nat) (w : World) (h : PutAt w mb tb gx M k e s t0 pl0 pr0 rt m0 h0 (Tr.node l k e2 s2 r) p) :
    Calls Tryz.prog 171 #[.pointer (some ⟨tb, 0, none⟩), .pointer (pa p), .pointer (some ⟨gx, 0, none⟩)] w (PutOf w mb M k e s  (Tr.node l k e2 s2 r)) := by
  have hsz := h.size
  have hf := h.few
  have HE := Lib.hid h
  obtain ⟨g, pl, pr, rfl, hbl⟩ := h.tt
  have HL : Hid (Kids w g l k e2 s2 r pl pr) := hbl
  rw [pa_some]
  clear h hbl
  simp only [Tr.size, Tr.high] at hsz hf
  have HD : Hid (Op.bytesLess k.toList k.toList = false ∧ (k.toList == k.toList) = true) := ⟨bl_irrefl _, by simp⟩
  go_enter Tryz.func171, Tryz.ntmps171
  go_wp2_with fail
  have hSt : Stable (fun w1 : World => (Below w.heap.size w w1)) := by repeat (first | exact stable_ext _ | exact stable_blk _ _ | exact stable_true | (refine stable_bel ?_ ; (focus (first | (simp [World.size_setCell] ; done) | (simp [World.setCell] ; done)))) | refine Stable.and ?_ ?_)
  refine wp_region_x [0, 1, 2, 3, 4, 5, 6, 7, 8, 9] [0, 0, 0, 1, 0, 0, 0, 1, 0, 0] (fun w1 => (Below w.heap.size w w1)) (by kernel_rfl) (by kernel_rfl) ?_ ?_
  · (first | trivial | (repeat (first | (with_reducible assumption) | (with_reducible exact Below.refl _ _) | (with_reducible refine heap_drew ?_) | (focus ((with_reducible refine heap_new ?_) ; simp ; done)) | (with_reducible apply heap_set_to) | (focus ((with_reducible refine heap_set_ne ?_ ?_ _) ; rotate_left ; (focus (first | omega | (simp ; done) | (simp ; omega))))) | (with_reducible refine heap_old ?_) | (with_reducible refine Below.drew ?_) | (with_reducible refine below_set ?_ _ _) | (focus ((with_reducible refine Below.setCell ?_ ?_ _) ; rotate_left ; (focus (first | omega | (simp ; done) | (simp ; omega))))) | (focus ((with_reducible refine Below.alloc ?_ ?_ _) ; rotate_left ; (focus (first | omega | (simp ; done) | (simp ; omega))))) | (with_reducible rfl) | (focus (simp ; done)))))
  simp only [List.map_cons, List.map_nil, List.getD_cons_zero, List.getD_cons_succ]
  (refine x_pure rfl _ ?_ rfl (by simp) ?_ ?_ ; rotate_left ; · (intro w1 K hK ; go_wp2_with fail ; exact rfl))
  simp only [Act.put, List.setIfInBounds_toArray, List.set_cons_succ, List.set_cons_zero]
  (refine x_pure rfl _ ?_ rfl (by simp) ?_ ?_ ; rotate_left ; · (intro w1 K hK ; go_wp2_with fail ; exact rfl))
  simp only [Act.put, List.setIfInBounds_toArray, List.set_cons_succ, List.set_cons_zero]
  (refine x_pure rfl _ ?_ rfl (by simp) ?_ ?_ ; rotate_left ; · (intro w1 K hK ; go_wp2_with fail ; exact rfl))
  simp only [Act.put, List.setIfInBounds_toArray, List.set_cons_succ, List.set_cons_zero]
  (refine x_quiet rfl hSt (fun _ h => h) _ ?_ rfl (by simp) ?_ ?_ ; rotate_left ; · (intro w1 hC K hK ; have hc := hC ; have q := blkN (HL.out.below hc).1 ; have q2 := blkN (HE.out.below hc).x ; go_wp2_with fail ; refine ⟨?_, Below.refl _ _⟩ ; exact rfl))
  simp only [Act.put, List.setIfInBounds_toArray, List.set_cons_succ, List.set_cons_zero]
  (refine x_pure rfl _ ?_ rfl (by simp) ?_ ?_ ; rotate_left ; · (intro w1 K hK ; go_wp2_with fail ; exact rfl))
  simp only [Act.put, List.setIfInBounds_toArray, List.set_cons_succ, List.set_cons_zero]
  (refine x_pure rfl _ ?_ rfl (by simp) ?_ ?_ ; rotate_left ; · (intro w1 K hK ; go_wp2_with fail ; exact rfl))
  simp only [Act.put, List.setIfInBounds_toArray, List.set_cons_succ, List.set_cons_zero]
  (refine x_pure rfl _ ?_ rfl (by simp) ?_ ?_ ; rotate_left ; · (intro w1 K hK ; go_wp2_with fail ; exact rfl))
  simp only [Act.put, List.setIfInBounds_toArray, List.set_cons_succ, List.set_cons_zero]
  (refine x_quiet rfl hSt (fun _ h => h) _ ?_ rfl (by simp) ?_ ?_ ; rotate_left ; · (intro w1 hC K hK ; have hc := hC ; have q := blkN (HL.out.below hc).1 ; have q2 := blkN (HE.out.below hc).x ; go_wp2_with fail ; refine ⟨?_, Below.refl _ _⟩ ; exact rfl))
  simp only [Act.put, List.setIfInBounds_toArray, List.set_cons_succ, List.set_cons_zero]
  (refine x_pure rfl _ ?_ rfl (by simp) ?_ ?_ ; rotate_left ; · (intro w1 K hK ; have d := HD.out.1 ; go_wp2_with fail ; exact rfl))
  simp only [Act.put, List.setIfInBounds_toArray, List.set_cons_succ, List.set_cons_zero]
  (refine x_pure rfl _ ?_ rfl (by simp) ?_ ?_ ; rotate_left ; · (intro w1 K hK ; go_wp2_with fail ; exact rfl))
  simp only [Act.put, List.setIfInBounds_toArray, List.set_cons_succ, List.set_cons_zero]
  first | refine x_nil ?_ | refine x_end ?_
  rintro w1 hc
  go_wp2_with fail
  have hb1 : Below w.heap.size w w1 := by assumption
  have HE1 := Lib.hid (HE.out.below hb1)
  have HL1 := Lib.hid (HL.out.below hb1)
  have HB1 := Lib.hid (hb1)
  clear hb1 hSt hc
  have hSt : Stable (fun w2 : World => (Below w1.heap.size w1 w2)) := by repeat (first | exact stable_ext _ | exact stable_blk _ _ | exact stable_true | (refine stable_bel ?_ ; (focus (first | (simp [World.size_setCell] ; done) | (simp [World.setCell] ; done)))) | refine Stable.and ?_ ?_)
  refine wp_region_x [0, 1, 2, 3, 4, 5, 6, 7, 8, 9] [0, 0, 0, 1, 0, 0, 0, 1, 0, 0] (fun w2 => (Below w1.heap.size w1 w2)) (by kernel_rfl) (by kernel_rfl) ?_ ?_
  · (first | trivial | (repeat (first | (with_reducible assumption) | (with_reducible exact Below.refl _ _) | (with_reducible refine heap_drew ?_) | (focus ((with_reducible refine heap_new ?_) ; simp ; done)) | (with_reducible apply heap_set_to) | (focus ((with_reducible refine heap_set_ne ?_ ?_ _) ; rotate_left ; (focus (first | omega | (simp ; done) | (simp ; omega))))) | (with_reducible refine heap_old ?_) | (with_reducible refine Below.drew ?_) | (with_reducible refine below_set ?_ _ _) | (focus ((with_reducible refine Below.setCell ?_ ?_ _) ; rotate_left ; (focus (first | omega | (simp ; done) | (simp ; omega))))) | (focus ((with_reducible refine Below.alloc ?_ ?_ _) ; rotate_left ; (focus (first | omega | (simp ; done) | (simp ; omega))))) | (with_reducible rfl) | (focus (simp ; done)))))
  simp only [List.map_cons, List.map_nil, List.getD_cons_zero, List.getD_cons_succ]
  (refine x_pure rfl _ ?_ rfl (by simp) ?_ ?_ ; rotate_left ; · (intro w2 K hK ; go_wp2_with fail ; exact rfl))
  simp only [Act.put, List.setIfInBounds_toArray, List.set_cons_succ, List.set_cons_zero]
  (refine x_pure rfl _ ?_ rfl (by simp) ?_ ?_ ; rotate_left ; · (intro w2 K hK ; go_wp2_with fail ; exact rfl))
  simp only [Act.put, List.setIfInBounds_toArray, List.set_cons_succ, List.set_cons_zero]
  (refine x_pure rfl _ ?_ rfl (by simp) ?_ ?_ ; rotate_left ; · (intro w2 K hK ; go_wp2_with fail ; exact rfl))
  simp only [Act.put, List.setIfInBounds_toArray, List.set_cons_succ, List.set_cons_zero]
  (refine x_quiet rfl hSt (fun _ h => h) _ ?_ rfl (by simp) ?_ ?_ ; rotate_left ; · (intro w2 hC K hK ; have hc := hC ; have q := blkN (HL1.out.below hc).1 ; have q2 := blkN (HE1.out.below hc).x ; go_wp2_with fail ; refine ⟨?_, Below.refl _ _⟩ ; exact rfl))
  simp only [Act.put, List.setIfInBounds_toArray, List.set_cons_succ, List.set_cons_zero]
  (refine x_pure rfl _ ?_ rfl (by simp) ?_ ?_ ; rotate_left ; · (intro w2 K hK ; go_wp2_with fail ; exact rfl))
  simp only [Act.put, List.setIfInBounds_toArray, List.set_cons_succ, List.set_cons_zero]
  (refine x_pure rfl _ ?_ rfl (by simp) ?_ ?_ ; rotate_left ; · (intro w2 K hK ; go_wp2_with fail ; exact rfl))
  simp only [Act.put, List.setIfInBounds_toArray, List.set_cons_succ, List.set_cons_zero]
  (refine x_pure rfl _ ?_ rfl (by simp) ?_ ?_ ; rotate_left ; · (intro w2 K hK ; go_wp2_with fail ; exact rfl))
  simp only [Act.put, List.setIfInBounds_toArray, List.set_cons_succ, List.set_cons_zero]
  (refine x_quiet rfl hSt (fun _ h => h) _ ?_ rfl (by simp) ?_ ?_ ; rotate_left ; · (intro w2 hC K hK ; have hc := hC ; have q := blkN (HL1.out.below hc).1 ; have q2 := blkN (HE1.out.below hc).x ; go_wp2_with fail ; refine ⟨?_, Below.refl _ _⟩ ; exact rfl))
  simp only [Act.put, List.setIfInBounds_toArray, List.set_cons_succ, List.set_cons_zero]
  (refine x_pure rfl _ ?_ rfl (by simp) ?_ ?_ ; rotate_left ; · (intro w2 K hK ; have d := HD.out.1 ; have d2 := HD.out.2 ; go_wp2_with fail ; exact rfl))
  simp only [Act.put, List.setIfInBounds_toArray, List.set_cons_succ, List.set_cons_zero]
  (refine x_pure rfl _ ?_ rfl (by simp) ?_ ?_ ; rotate_left ; · (intro w2 K hK ; go_wp2_with fail ; exact rfl))
  simp only [Act.put, List.setIfInBounds_toArray, List.set_cons_succ, List.set_cons_zero]
  first | refine x_nil ?_ | refine x_end ?_
  rintro w2 hc
  go_wp2_with fail
  have hb2 : Below w1.heap.size w1 w2 := by assumption
  have HE2 := Lib.hid (HE1.out.below hb2)
  have HL2 := Lib.hid (HL1.out.below hb2)
  have HB2 := Lib.hid (HB1.out.trans (hb2.mono HB1.out.size))
  clear hb2 hSt hc
  have hSt : Stable (fun w8 : World => (Below w2.heap.size w2 w8)) := by repeat (first | exact stable_ext _ | exact stable_blk _ _ | exact stable_true | (refine stable_bel ?_ ; (focus (first | (simp [World.size_setCell] ; done) | (simp [World.setCell] ; done)))) | refine Stable.and ?_ ?_)
  refine wp_region_x [0, 1, 2, 3, 4, 5, 6, 7, 8, 9, 10, 11] [0, 0, 0, 0, 0, 1, 0, 0, 0, 1, 3, 0] (fun w8 => (Below w2.heap.size w2 w8)) (by kernel_rfl) (by kernel_rfl) ?_ ?_
  · (first | trivial | (repeat (first | (with_reducible assumption) | (with_reducible exact Below.refl _ _) | (with_reducible refine heap_drew ?_) | (focus ((with_reducible refine heap_new ?_) ; simp ; done)) | (with_reducible apply heap_set_to) | (focus ((with_reducible refine heap_set_ne ?_ ?_ _) ; rotate_left ; (focus (first | omega | (simp ; done) | (simp ; omega))))) | (with_reducible refine heap_old ?_) | (with_reducible refine Below.drew ?_) | (with_reducible refine below_set ?_ _ _) | (focus ((with_reducible refine Below.setCell ?_ ?_ _) ; rotate_left ; (focus (first | omega | (simp ; done) | (simp ; omega))))) | (focus ((with_reducible refine Below.alloc ?_ ?_ _) ; rotate_left ; (focus (first | omega | (simp ; done) | (simp ; omega))))) | (with_reducible rfl) | (focus (simp ; done)))))
  simp only [List.map_cons, List.map_nil, List.getD_cons_zero, List.getD_cons_succ]
  (refine x_pure rfl _ ?_ rfl (by simp) ?_ ?_ ; rotate_left ; · (intro w8 K hK ; go_wp2_with fail ; exact rfl))
  simp only [Act.put, List.setIfInBounds_toArray, List.set_cons_succ, List.set_cons_zero]
  (refine x_pure rfl _ ?_ rfl (by simp) ?_ ?_ ; rotate_left ; · (intro w8 K hK ; go_wp2_with fail ; exact rfl))
  simp only [Act.put, List.setIfInBounds_toArray, List.set_cons_succ, List.set_cons_zero]
  (refine x_pure rfl _ ?_ rfl (by simp) ?_ ?_ ; rotate_left ; · (intro w8 K hK ; go_wp2_with fail ; exact rfl))
  simp only [Act.put, List.setIfInBounds_toArray, List.set_cons_succ, List.set_cons_zero]
  (refine x_pure rfl _ ?_ rfl (by simp) ?_ ?_ ; rotate_left ; · (intro w8 K hK ; go_wp2_with fail ; exact rfl))
  simp only [Act.put, List.setIfInBounds_toArray, List.set_cons_succ, List.set_cons_zero]
  (refine x_pure rfl _ ?_ rfl (by simp) ?_ ?_ ; rotate_left ; · (intro w8 K hK ; go_wp2_with fail ; exact rfl))
  simp only [Act.put, List.setIfInBounds_toArray, List.set_cons_succ, List.set_cons_zero]
  (refine x_quiet rfl hSt (fun _ h => h) _ ?_ rfl (by simp) ?_ ?_ ; rotate_left ; · (intro w8 hC K hK ; have hc := hC ; have q := blkN (HL2.out.below hc).1 ; go_wp2_with fail ; refine ⟨?_, Below.refl _ _⟩ ; exact rfl))
  simp only [Act.put, List.setIfInBounds_toArray, List.set_cons_succ, List.set_cons_zero]
  (refine x_pure rfl _ ?_ rfl (by simp) ?_ ?_ ; rotate_left ; · (intro w8 K hK ; go_wp2_with fail ; exact rfl))
  simp only [Act.put, List.setIfInBounds_toArray, List.set_cons_succ, List.set_cons_zero]
  (refine x_pure rfl _ ?_ rfl (by simp) ?_ ?_ ; rotate_left ; · (intro w8 K hK ; go_wp2_with fail ; exact rfl))
  simp only [Act.put, List.setIfInBounds_toArray, List.set_cons_succ, List.set_cons_zero]
  (refine x_pure rfl _ ?_ rfl (by simp) ?_ ?_ ; rotate_left ; · (intro w8 K hK ; go_wp2_with fail ; exact rfl))
  simp only [Act.put, List.setIfInBounds_toArray, List.set_cons_succ, List.set_cons_zero]
  (refine x_quiet rfl hSt (fun _ h => h) _ ?_ rfl (by simp) ?_ ?_ ; rotate_left ; · (intro w8 hC K hK ; have hc := hC ; have q := blkN (HL2.out.below hc).1 ; go_wp2_with fail ; refine ⟨?_, Below.refl _ _⟩ ; exact rfl))
  simp only [Act.put, List.setIfInBounds_toArray, List.set_cons_succ, List.set_cons_zero]
  refine x_write rfl ?_
  intro w8 hD K hK ; have hc := hD ; have q := blkN (HL2.out.below hc).1
  go_wp2_with fail
  refine (over_any mb tb gx M k e s t0 pl0 pr0 rt m0 h0 l r pl pr w8 (HE2.out.env.below hc).1 (by omega) (HE2.out.env.below hc).2 (blk_below HE2.out.x hc) (HL2.out.below hc).2.1 (HL2.out.below hc).2.2 (by omega)).mono ?_
  rintro x10 w10 ⟨g2, c2, rfl, ht2, hc2, hm2, hk2⟩
  have HZ := Lib.hid (And.intro ht2 (And.intro hm2 ((Keep.of_below hc).trans hk2)))
  clear ht2 hm2 hk2
  refine hK _ _ ?_
  try simp only [Act.put, List.setIfInBounds_toArray, List.set_cons_succ, List.set_cons_zero]
  (refine x_pure rfl _ ?_ rfl (by simp) ?_ ?_ ; rotate_left ; · (intro w8 K hK ; go_wp2_with fail ; exact rfl))
  simp only [Act.put, List.setIfInBounds_toArray, List.set_cons_succ, List.set_cons_zero]
  first | refine x_nil ?_ | refine x_end ?_
  rintro w10 rfl
  go_wp2_with fail
  go_ret
  refine ⟨g2, c2, rfl, ?_, by simp only [Tr.high]; omega, HZ.out.2.1, (Keep.of_below HB2.out).trans HZ.out.2.2⟩
  have := HZ.out.1
  unfold putT
  rw [if_neg (by rw [klb_irrefl]; simp), if_neg (by rw [klb_irrefl]; simp)]
  exact this
theorem put_any (mb tb gx : Nat) (k : ByteArray) (e : Ent) (s : T3) (t0 : T3) (pl0 pr0 rt : Value) (m0 h0 : Nat) : ∀ (t : Tr) (M : Nat) (p : Option Nat) (w : World), PutAt w mb tb gx M k e s t0 pl0 pr0 rt m0 h0 t p →
    Calls Tryz.prog 171 #[.pointer (some ⟨tb, 0, none⟩), .pointer (pa p), .pointer (some ⟨gx, 0, none⟩)] w (PutOf w mb M k e s  t)
  | .nil, M, p, w, h => put_nil mb tb gx M k e s t0 pl0 pr0 rt m0 h0 p w h
  | .node l k2 e2 s2 r, M, p, w, h => by
    by_cases h1 : klb k k2 = true
    · exact put_less mb tb gx M k e s t0 pl0 pr0 rt m0 h0 l k2 e2 s2 r p w h h1 (fun M q w hq => put_any mb tb gx k e s t0 pl0 pr0 rt m0 h0 l M q w hq)
    · have h1 : klb k k2 = false := by simpa using h1
      by_cases h2 : klb k2 k = true
      · exact put_more mb tb gx M k e s t0 pl0 pr0 rt m0 h0 l k2 e2 s2 r p w h h1 h2 (fun M q w hq => put_any mb tb gx k e s t0 pl0 pr0 rt m0 h0 r M q w hq)
      · obtain rfl : k = k2 := klb_total h1 (by simpa using h2)
        exact put_same mb tb gx M k e s t0 pl0 pr0 rt m0 h0 l e2 s2 r p w h
end Go.Proofs.YtdflmplmpjghdaaGreatDoor
