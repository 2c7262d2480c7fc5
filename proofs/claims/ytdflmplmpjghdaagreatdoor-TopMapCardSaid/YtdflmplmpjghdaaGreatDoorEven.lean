/-
  The tree: even.
-/
import Derived.Test.YtdflmplmpjghdaaGreatDoorTrLaw
import Derived.Test.YtdflmplmpjghdaaGreatDoorRg
namespace Go.Proofs.YtdflmplmpjghdaaGreatDoor
open Go.ChangeShapes Go.WideShapes Go.ChangeAt Go.RowKit Go.Deep
set_option linter.unusedVariables false
set_option linter.unusedSimpArgs false
set_option maxRecDepth 100000

/-- The meter and the tree's own block. -/
def Env (w : World) (mb tb M : Nat) (rt : Value) : Prop := Mt w mb M ∧ TObj w tb mb rt
theorem Env.below {w w' : World} {mb tb M : Nat} {rt : Value} (h : Env w mb tb M rt) (hb : Below w.heap.size w w') : Env w' mb tb M rt := ⟨blk_below h.1 hb, blk_below h.2 hb⟩
theorem tobj_ne {w : World} {mb tb M : Nat} {rt : Value} (h : Env w mb tb M rt) : ¬ tb = mb := fun e => by
  have h1 := h.1
  have h2 := h.2
  unfold Mt at h1
  unfold TObj at h2
  rw [e, h1] at h2
  simp at h2
theorem Env.keep {w w' : World} {mb tb M M' : Nat} {rt : Value} (h : Env w mb tb M rt) (hk : Keep (fun k => k = mb) w w') (hm : Mt w' mb M') : Env w' mb tb M' rt := ⟨hm, hk.blk h.2 (tobj_ne h)⟩
theorem Env.tree {w w' : World} {mb tb M : Nat} {rt : Value} (h : Env w mb tb M rt) (hk : Keep (fun k => k = mb) w w') {t : Tr} {p : Option Nat} (ht : TreeAt w t p) : TreeAt w' t p := ht.keep hk (mt_ne h.1)
theorem Env.node {w w' : World} {mb tb M : Nat} {rt : Value} (h : Env w mb tb M rt) (hk : Keep (fun k => k = mb) w w') {g : Nat} {cs : Array Value} {fr : Nat × Nat} (hg : w.heap[g]? = some (.cells cs nodeT fr)) : w'.heap[g]? = some (.cells cs nodeT fr) := hk.blk hg (mt_ne h.1 _ _ _ hg)

/-- A node's block and what stands below it. -/
def Kids (w : World) (g : Nat) (l : Tr) (k : ByteArray) (e : Ent) (s : T3) (r : Tr) (pl pr : Option Nat) : Prop :=
  w.heap[g]? = some (.cells (ncells k e s (Tr.node l k e s r).sum (.pointer (pa pl)) (.pointer (pa pr)) (Tr.node l k e s r).size (Tr.node l k e s r).high) nodeT (0, 0)) ∧ TreeAt w l pl ∧ TreeAt w r pr
theorem Kids.below {w w' : World} {g : Nat} {l : Tr} {k : ByteArray} {e : Ent} {s : T3} {r : Tr} {pl pr : Option Nat} (h : Kids w g l k e s r pl pr) (hb : Below w.heap.size w w') : Kids w' g l k e s r pl pr := ⟨blk_below h.1 hb, h.2.1.below hb, h.2.2.below hb⟩
theorem Env.kids {w w' : World} {mb tb M : Nat} {rt : Value} (h : Env w mb tb M rt) (hk : Keep (fun k => k = mb) w w') {g : Nat} {l : Tr} {k : ByteArray} {e : Ent} {s : T3} {r : Tr} {pl pr : Option Nat} (ht : Kids w g l k e s r pl pr) : Kids w' g l k e s r pl pr := ⟨h.node hk ht.1, h.tree hk ht.2.1, h.tree hk ht.2.2⟩
/-- What 'even' is given. -/
structure EvAt (w : World) (mb tb gx M : Nat) (k : ByteArray) (e : Ent) (s t0 : T3) (pl0 pr0 rt : Value) (m0 h0 : Nat) (l r : Tr) (pl pr : Option Nat) : Prop where
  env : Env w mb tb M rt
  few : M ≤ 4611686018427380000
  x : w.heap[gx]? = some (.cells (ncells k e s t0 pl0 pr0 m0 h0) nodeT (0, 0))
  tl : TreeAt w l pl
  tr : TreeAt w r pr
  size : l.size + r.size ≤ 1099511627700
theorem EvAt.below {w w' : World} {mb tb gx M : Nat} {k : ByteArray} {e : Ent} {s t0 : T3} {pl0 pr0 rt : Value} {m0 h0 : Nat} {l r : Tr} {pl pr : Option Nat} (h : EvAt w mb tb gx M k e s t0 pl0 pr0 rt m0 h0 l r pl pr) (hb : Below w.heap.size w w') :
    EvAt w' mb tb gx M k e s t0 pl0 pr0 rt m0 h0 l r pl pr := ⟨h.env.below hb, h.few, blk_below h.x hb, h.tl.below hb, h.tr.below hb, h.size⟩
set_option maxRecDepth 100000 in
set_option maxHeartbeats 8000000 in
/-- One rotation to the right. -/
theorem even_a (mb tb gx M : Nat) (k : ByteArray) (e : Ent) (s : T3) (t0 : T3) (pl0 pr0 rt : Value) (m0 h0 : Nat) (ll lr r : Tr) (lk : ByteArray) (le : Ent) (ls : T3) (pl pr : Option Nat) (w : World)
    (h : EvAt w mb tb gx M k e s t0 pl0 pr0 rt m0 h0 (.node ll lk le ls lr) r pl pr) (h1 : (Tr.node ll lk le ls lr).high > r.high + 1) (h2 : ll.high ≥ lr.high) :
    Calls Tryz.prog 210 #[.pointer (some ⟨tb, 0, none⟩), .pointer (some ⟨gx, 0, none⟩), .pointer (pa pl), .pointer (pa pr)] w fun x w' =>
      ∃ g c, x = .returned (.pointer (pa (some g))) ∧ TreeAt w' (.node ll lk le ls (.node lr k e s r)) (some g) ∧ c ≤ 6 ∧ Mt w' mb (M + c) ∧ Keep (fun k => k = mb) w w' := by
  have hsz := h.size
  have hf := h.few
  have hh0 := ((Tr.node ll lk le ls lr)).high_le
  have hh1 := (r).high_le
  have hh2 := (ll).high_le
  have hh3 := (lr).high_le
  have hsl : (Tr.node ll lk le ls lr).size = ll.size + 1 + lr.size := rfl
  have HE := Lib.hid h
  obtain ⟨gl, pll, plr, rfl, hbl⟩ := h.tl
  have HL : Hid (Kids w gl ll lk le ls lr pll plr) := hbl
  rw [pa_some]
  clear h hbl
  have HD0 : Hid (decide ((((r).high : Nat) : Int) + 1 < (((Tr.node ll lk le ls lr).high : Nat) : Int)) = true) := by simp only [Hid, decide_eq_true_eq]; omega
  have HG : Hid (decide ((((lr).high : Nat) : Int) ≤ (((ll).high : Nat) : Int)) = true ∧ decide ((lr).high ≤ (ll).high) = true) := by simp only [Hid, decide_eq_true_eq]; omega
  go_enter Tryz.func210, Tryz.ntmps210
  go_wp2_with fail
  have hSt : Stable (fun w1 : World => (Below w.heap.size w w1)) := by repeat (first | exact stable_ext _ | exact stable_blk _ _ | exact stable_true | (refine stable_bel ?_ ; (focus (first | (simp [World.size_setCell] ; done) | (simp [World.setCell] ; done)))) | refine Stable.and ?_ ?_)
  refine wp_region_x [0, 1, 2, 3, 4, 5, 6, 7, 8, 9, 10, 11, 12, 13, 14, 15, 16, 17, 18, 19] [0, 1, 0, 1, 0, 0, 0, 0, 0, 0, 1, 1, 0, 0, 0, 1, 1, 0, 0, 0] (fun w1 => (Below w.heap.size w w1)) (by kernel_rfl) (by kernel_rfl) ?_ ?_
  · (first | trivial | (repeat (first | (with_reducible assumption) | (with_reducible exact Below.refl _ _) | (with_reducible refine heap_drew ?_) | (focus ((with_reducible refine heap_new ?_) ; simp ; done)) | (with_reducible apply heap_set_to) | (focus ((with_reducible refine heap_set_ne ?_ ?_ _) ; rotate_left ; (focus (first | omega | (simp ; done) | (simp ; omega))))) | (with_reducible refine heap_old ?_) | (with_reducible refine Below.drew ?_) | (with_reducible refine below_set ?_ _ _) | (focus ((with_reducible refine Below.setCell ?_ ?_ _) ; rotate_left ; (focus (first | omega | (simp ; done) | (simp ; omega))))) | (focus ((with_reducible refine Below.alloc ?_ ?_ _) ; rotate_left ; (focus (first | omega | (simp ; done) | (simp ; omega))))) | (with_reducible rfl) | (focus (simp ; done)))))
  simp only [List.map_cons, List.map_nil, List.getD_cons_zero, List.getD_cons_succ]
  (refine x_pure rfl _ ?_ rfl (by simp) ?_ ?_ ; rotate_left ; · (intro w1 K hK ; go_wp2_with fail ; exact rfl))
  simp only [Act.put, List.setIfInBounds_toArray, List.set_cons_succ, List.set_cons_zero]
  (refine x_quiet rfl hSt (fun _ h => h) _ ?_ rfl (by simp) ?_ ?_ ; rotate_left ; · (intro w1 hC K hK ; have hc := hC ; have q := blkN (HL.out.below hc).1 ; go_wp2_with fail ; refine (highb (Tr.node ll lk le ls lr) (some gl) w1 (HE.out.tl.below hc)).mono ?_ ; rintro e w2 ⟨rfl, hb2⟩ ; refine hK _ _ ⟨?_, rfl, hb2⟩ ; (try simp only [List.getElem?_toArray, List.getElem?_cons_succ, List.getElem?_cons_zero]) ; exact rfl))
  simp only [Act.put, List.setIfInBounds_toArray, List.set_cons_succ, List.set_cons_zero]
  (refine x_pure rfl _ ?_ rfl (by simp) ?_ ?_ ; rotate_left ; · (intro w1 K hK ; go_wp2_with fail ; exact rfl))
  simp only [Act.put, List.setIfInBounds_toArray, List.set_cons_succ, List.set_cons_zero]
  (refine x_quiet rfl hSt (fun _ h => h) _ ?_ rfl (by simp) ?_ ?_ ; rotate_left ; · (intro w1 hC K hK ; have hc := hC ; have q := blkN (HL.out.below hc).1 ; go_wp2_with fail ; refine (highb r pr w1 (HE.out.tr.below hc)).mono ?_ ; rintro e w2 ⟨rfl, hb2⟩ ; refine hK _ _ ⟨?_, rfl, hb2⟩ ; (try simp only [List.getElem?_toArray, List.getElem?_cons_succ, List.getElem?_cons_zero]) ; exact rfl))
  simp only [Act.put, List.setIfInBounds_toArray, List.set_cons_succ, List.set_cons_zero]
  (refine x_pure rfl _ ?_ rfl (by simp) ?_ ?_ ; rotate_left ; · (intro w1 K hK ; go_wp2_with fail ; exact rfl))
  simp only [Act.put, List.setIfInBounds_toArray, List.set_cons_succ, List.set_cons_zero]
  (refine x_pure rfl _ ?_ rfl (by simp) ?_ ?_ ; rotate_left ; · (intro w1 K hK ; have d := HD0.out ; go_wp2_with fail ; exact rfl))
  simp only [Act.put, List.setIfInBounds_toArray, List.set_cons_succ, List.set_cons_zero]
  (refine x_pure rfl _ ?_ rfl (by simp) ?_ ?_ ; rotate_left ; · (intro w1 K hK ; go_wp2_with fail ; exact rfl))
  simp only [Act.put, List.setIfInBounds_toArray, List.set_cons_succ, List.set_cons_zero]
  first | ((with_reducible refine x_skip ?_ ?_) ; (focus rfl)) | (refine x_pure rfl _ ?_ rfl (by simp) ?_ ?_ ; rotate_left ; · (intro w1 K hK ; go_wp2_with fail ; exact rfl))
  simp only [Act.put, List.setIfInBounds_toArray, List.set_cons_succ, List.set_cons_zero]
  first | ((with_reducible refine x_skip ?_ ?_) ; (focus rfl)) | (refine x_pure rfl _ ?_ rfl (by simp) ?_ ?_ ; rotate_left ; · (intro w1 K hK ; go_wp2_with fail ; exact rfl))
  simp only [Act.put, List.setIfInBounds_toArray, List.set_cons_succ, List.set_cons_zero]
  first | ((with_reducible refine x_skip ?_ ?_) ; (focus rfl)) | (refine x_pure rfl _ ?_ rfl (by simp) ?_ ?_ ; rotate_left ; · (intro w1 K hK ; go_wp2_with fail ; exact rfl))
  simp only [Act.put, List.setIfInBounds_toArray, List.set_cons_succ, List.set_cons_zero]
  first | ((with_reducible refine x_skip ?_ ?_) ; (focus rfl)) | (refine x_quiet rfl hSt (fun _ h => h) _ ?_ rfl (by simp) ?_ ?_ ; rotate_left ; · (intro w1 hC K hK ; have hc := hC ; have q := blkN (HL.out.below hc).1 ; go_wp2_with fail ; refine ⟨?_, Below.refl _ _⟩ ; exact rfl))
  simp only [Act.put, List.setIfInBounds_toArray, List.set_cons_succ, List.set_cons_zero]
  first | ((with_reducible refine x_skip ?_ ?_) ; (focus rfl)) | (refine x_quiet rfl hSt (fun _ h => h) _ ?_ rfl (by simp) ?_ ?_ ; rotate_left ; · (intro w1 hC K hK ; have hc := hC ; have q := blkN (HL.out.below hc).1 ; go_wp2_with fail ; refine (highb ll pll w1 (HL.out.below hc).2.1).mono ?_ ; rintro e w2 ⟨rfl, hb2⟩ ; refine hK _ _ ⟨?_, rfl, hb2⟩ ; (try simp only [List.getElem?_toArray, List.getElem?_cons_succ, List.getElem?_cons_zero]) ; exact rfl))
  simp only [Act.put, List.setIfInBounds_toArray, List.set_cons_succ, List.set_cons_zero]
  first | ((with_reducible refine x_skip ?_ ?_) ; (focus rfl)) | (refine x_pure rfl _ ?_ rfl (by simp) ?_ ?_ ; rotate_left ; · (intro w1 K hK ; go_wp2_with fail ; exact rfl))
  simp only [Act.put, List.setIfInBounds_toArray, List.set_cons_succ, List.set_cons_zero]
  first | ((with_reducible refine x_skip ?_ ?_) ; (focus rfl)) | (refine x_pure rfl _ ?_ rfl (by simp) ?_ ?_ ; rotate_left ; · (intro w1 K hK ; go_wp2_with fail ; exact rfl))
  simp only [Act.put, List.setIfInBounds_toArray, List.set_cons_succ, List.set_cons_zero]
  first | ((with_reducible refine x_skip ?_ ?_) ; (focus rfl)) | (refine x_pure rfl _ ?_ rfl (by simp) ?_ ?_ ; rotate_left ; · (intro w1 K hK ; go_wp2_with fail ; exact rfl))
  simp only [Act.put, List.setIfInBounds_toArray, List.set_cons_succ, List.set_cons_zero]
  first | ((with_reducible refine x_skip ?_ ?_) ; (focus rfl)) | (refine x_quiet rfl hSt (fun _ h => h) _ ?_ rfl (by simp) ?_ ?_ ; rotate_left ; · (intro w1 hC K hK ; have hc := hC ; have q := blkN (HL.out.below hc).1 ; go_wp2_with fail ; refine ⟨?_, Below.refl _ _⟩ ; exact rfl))
  simp only [Act.put, List.setIfInBounds_toArray, List.set_cons_succ, List.set_cons_zero]
  first | ((with_reducible refine x_skip ?_ ?_) ; (focus rfl)) | (refine x_quiet rfl hSt (fun _ h => h) _ ?_ rfl (by simp) ?_ ?_ ; rotate_left ; · (intro w1 hC K hK ; have hc := hC ; have q := blkN (HL.out.below hc).1 ; go_wp2_with fail ; refine (highb lr plr w1 (HL.out.below hc).2.2).mono ?_ ; rintro e w2 ⟨rfl, hb2⟩ ; refine hK _ _ ⟨?_, rfl, hb2⟩ ; (try simp only [List.getElem?_toArray, List.getElem?_cons_succ, List.getElem?_cons_zero]) ; exact rfl))
  simp only [Act.put, List.setIfInBounds_toArray, List.set_cons_succ, List.set_cons_zero]
  first | ((with_reducible refine x_skip ?_ ?_) ; (focus rfl)) | (refine x_pure rfl _ ?_ rfl (by simp) ?_ ?_ ; rotate_left ; · (intro w1 K hK ; have d := HG.out.1 ; have d2 := HG.out.2 ; go_wp2_with fail ; exact rfl))
  simp only [Act.put, List.setIfInBounds_toArray, List.set_cons_succ, List.set_cons_zero]
  (refine x_pure rfl _ ?_ rfl (by simp) ?_ ?_ ; rotate_left ; · (intro w1 K hK ; go_wp2_with fail ; exact rfl))
  simp only [Act.put, List.setIfInBounds_toArray, List.set_cons_succ, List.set_cons_zero]
  (refine x_pure rfl _ ?_ rfl (by simp) ?_ ?_ ; rotate_left ; · (intro w1 K hK ; go_wp2_with fail ; exact rfl))
  simp only [Act.put, List.setIfInBounds_toArray, List.set_cons_succ, List.set_cons_zero]
  first | refine x_nil ?_ | refine x_end ?_
  rintro w1 hc
  go_wp2_with fail
  have hb1 : Below w.heap.size w w1 := by assumption
  clear hh0 hh1 hh2 hh3 hc
  have HE1 := Lib.hid (HE.out.below hb1)
  have HL1 := Lib.hid (HL.out.below hb1)
  have HB1 := Lib.hid (hb1)
  clear hb1 hSt
  have hDC : ∀ zw zx : World, (Below w1.heap.size w1 zw) → (Keep (fun k => k = mb)) zw zx → (fun w8 : World => (Keep (fun k => k = mb) w1 w8)) zx := fun _ _ hd hg => (Keep.of_below hd).trans hg
  have hSt : Stable (fun w8 : World => Below w1.heap.size w1 w8) := by repeat (first | exact stable_ext _ | exact stable_blk _ _ | exact stable_true | (refine stable_bel ?_ ; (focus (first | (simp [World.size_setCell] ; done) | (simp [World.setCell] ; done)))) | refine Stable.and ?_ ?_)
  refine G.wp_region_x (G := Keep (fun k => k = mb)) (D0 := fun w8 : World => Below w1.heap.size w1 w8) [0, 1, 2, 3, 4, 5, 6, 7, 8, 9, 10, 11, 12, 13, 14, 15] [0, 0, 0, 0, 0, 1, 0, 0, 0, 0, 0, 1, 0, 4, 3, 0] (fun w8 => (Keep (fun k => k = mb) w1 w8)) (by kernel_rfl) (by kernel_rfl) ?_ ?_
  · (exact (Below.refl _ _).drew)
  simp only [List.map_cons, List.map_nil, List.getD_cons_zero, List.getD_cons_succ]
  (refine G.x_pure rfl _ ?_ rfl (by simp) ?_ ?_ ; rotate_left ; · (intro w8 K hK ; go_wp2_with fail ; exact rfl))
  simp only [Act.put, List.setIfInBounds_toArray, List.set_cons_succ, List.set_cons_zero]
  (refine G.x_pure rfl _ ?_ rfl (by simp) ?_ ?_ ; rotate_left ; · (intro w8 K hK ; go_wp2_with fail ; exact rfl))
  simp only [Act.put, List.setIfInBounds_toArray, List.set_cons_succ, List.set_cons_zero]
  (refine G.x_pure rfl _ ?_ rfl (by simp) ?_ ?_ ; rotate_left ; · (intro w8 K hK ; go_wp2_with fail ; exact rfl))
  simp only [Act.put, List.setIfInBounds_toArray, List.set_cons_succ, List.set_cons_zero]
  (refine G.x_pure rfl _ ?_ rfl (by simp) ?_ ?_ ; rotate_left ; · (intro w8 K hK ; go_wp2_with fail ; exact rfl))
  simp only [Act.put, List.setIfInBounds_toArray, List.set_cons_succ, List.set_cons_zero]
  (refine G.x_pure rfl _ ?_ rfl (by simp) ?_ ?_ ; rotate_left ; · (intro w8 K hK ; go_wp2_with fail ; exact rfl))
  simp only [Act.put, List.setIfInBounds_toArray, List.set_cons_succ, List.set_cons_zero]
  (refine G.x_quiet rfl hSt hDC _ ?_ rfl (by simp) ?_ ?_ ; rotate_left ; · (intro w8 hC K hK ; have hc := hC ; (first | (have q := blkN (HE1.out.env.node hc HL1.out.1)) | (have q := blkN (blk_below HL1.out.1 hc))) ; go_wp2_with fail ; refine ⟨?_, Below.refl _ _⟩ ; exact rfl))
  simp only [Act.put, List.setIfInBounds_toArray, List.set_cons_succ, List.set_cons_zero]
  (refine G.x_pure rfl _ ?_ rfl (by simp) ?_ ?_ ; rotate_left ; · (intro w8 K hK ; go_wp2_with fail ; exact rfl))
  simp only [Act.put, List.setIfInBounds_toArray, List.set_cons_succ, List.set_cons_zero]
  (refine G.x_pure rfl _ ?_ rfl (by simp) ?_ ?_ ; rotate_left ; · (intro w8 K hK ; go_wp2_with fail ; exact rfl))
  simp only [Act.put, List.setIfInBounds_toArray, List.set_cons_succ, List.set_cons_zero]
  (refine G.x_pure rfl _ ?_ rfl (by simp) ?_ ?_ ; rotate_left ; · (intro w8 K hK ; go_wp2_with fail ; exact rfl))
  simp only [Act.put, List.setIfInBounds_toArray, List.set_cons_succ, List.set_cons_zero]
  (refine G.x_pure rfl _ ?_ rfl (by simp) ?_ ?_ ; rotate_left ; · (intro w8 K hK ; go_wp2_with fail ; exact rfl))
  simp only [Act.put, List.setIfInBounds_toArray, List.set_cons_succ, List.set_cons_zero]
  (refine G.x_pure rfl _ ?_ rfl (by simp) ?_ ?_ ; rotate_left ; · (intro w8 K hK ; go_wp2_with fail ; exact rfl))
  simp only [Act.put, List.setIfInBounds_toArray, List.set_cons_succ, List.set_cons_zero]
  (refine G.x_quiet rfl hSt hDC _ ?_ rfl (by simp) ?_ ?_ ; rotate_left ; · (intro w8 hC K hK ; have hc := hC ; (first | (have q := blkN (HE1.out.env.node hc HL1.out.1)) | (have q := blkN (blk_below HL1.out.1 hc))) ; go_wp2_with fail ; refine ⟨?_, Below.refl _ _⟩ ; exact rfl))
  simp only [Act.put, List.setIfInBounds_toArray, List.set_cons_succ, List.set_cons_zero]
  (refine G.x_pure rfl _ ?_ rfl (by simp) ?_ ?_ ; rotate_left ; · (intro w8 K hK ; go_wp2_with fail ; exact rfl))
  simp only [Act.put, List.setIfInBounds_toArray, List.set_cons_succ, List.set_cons_zero]
  refine G.x_make rfl ?_
  intro w8 hD K hK ; have hc := hD ; (first | (have q := blkN (HE1.out.env.node hc HL1.out.1)) | (have q := blkN (blk_below HL1.out.1 hc)))
  go_wp2_with fail
  refine (over_any mb tb gx M k e s t0 pl0 pr0 rt m0 h0 lr r plr pr w8 (HE1.out.env.below hc).1 (by omega) (HE1.out.env.below hc).2 (blk_below HE1.out.x hc) (HL1.out.below hc).2.2 (HE1.out.tr.below hc) (by omega)).mono ?_
  rintro x9 w9 ⟨g1, c1, rfl, ht1, hc1, hm1, hk1⟩
  have hk19 := (Keep.of_below hc).trans hk1
  have HM := Lib.hid (And.intro (HE1.out.env.keep hk19 hm1) (And.intro ht1 (And.intro (HE1.out.env.node hk19 HL1.out.1) (And.intro (HE1.out.env.tree hk19 HL1.out.2.1) hk19))))
  clear ht1 hm1 hk19 q hc
  refine hK _ _ hk1 ?_
  try simp only [Act.put, List.setIfInBounds_toArray, List.set_cons_succ, List.set_cons_zero]
  refine G.x_write rfl ?_
  intro wy hyb K hK
  go_wp2_with fail
  refine (over_any mb tb gl (M + c1) lk le ls _ _ _ rt _ _ ll (Tr.node lr k e s r) pll (some g1) wy (HM.out.1.below hyb).1 (by omega) (HM.out.1.below hyb).2 (blk_below HM.out.2.2.1 hyb) (HM.out.2.2.2.1.below hyb) (HM.out.2.1.below hyb) (by simp only [Tr.size]; omega)).mono ?_
  rintro x10 w10 ⟨g2, c2, rfl, ht2, hc2, hm2, hk2⟩
  have HZ := Lib.hid (And.intro ht2 (And.intro hm2 ((HM.out.2.2.2.2.trans (Keep.of_below hyb)).trans hk2)))
  clear ht2 hm2 hk2
  refine hK _ _ ?_
  try simp only [Act.put, List.setIfInBounds_toArray, List.set_cons_succ, List.set_cons_zero]
  (refine G.x_pure rfl _ ?_ rfl (by simp) ?_ ?_ ; rotate_left ; · (intro w8 K hK ; go_wp2_with fail ; exact rfl))
  simp only [Act.put, List.setIfInBounds_toArray, List.set_cons_succ, List.set_cons_zero]
  first | refine G.x_nil ?_ | refine G.x_end ?_
  rintro w10 rfl
  go_wp2_with fail
  go_ret
  exact ⟨g2, c1 + c2, rfl, HZ.out.1, by omega, by have := HZ.out.2.1; rwa [Nat.add_assoc] at this, (Keep.of_below HB1.out).trans HZ.out.2.2⟩
set_option maxRecDepth 100000 in
set_option maxHeartbeats 8000000 in
/-- One rotation to the left. -/
theorem even_c (mb tb gx M : Nat) (k : ByteArray) (e : Ent) (s : T3) (t0 : T3) (pl0 pr0 rt : Value) (m0 h0 : Nat) (l rl rr : Tr) (rk : ByteArray) (re : Ent) (rs : T3) (pl pr : Option Nat) (w : World)
    (h : EvAt w mb tb gx M k e s t0 pl0 pr0 rt m0 h0 l (.node rl rk re rs rr) pl pr) (h1 : (Tr.node rl rk re rs rr).high > l.high + 1) (h2 : rr.high ≥ rl.high) :
    Calls Tryz.prog 210 #[.pointer (some ⟨tb, 0, none⟩), .pointer (some ⟨gx, 0, none⟩), .pointer (pa pl), .pointer (pa pr)] w fun x w' =>
      ∃ g c, x = .returned (.pointer (pa (some g))) ∧ TreeAt w' (.node (.node l k e s rl) rk re rs rr) (some g) ∧ c ≤ 6 ∧ Mt w' mb (M + c) ∧ Keep (fun k => k = mb) w w' := by
  have hsz := h.size
  have hf := h.few
  have hh0 := ((Tr.node rl rk re rs rr)).high_le
  have hh1 := (l).high_le
  have hh2 := (rl).high_le
  have hh3 := (rr).high_le
  have hsl : (Tr.node rl rk re rs rr).size = rl.size + 1 + rr.size := rfl
  have HE := Lib.hid h
  obtain ⟨gr, prl, prr, rfl, hbl⟩ := h.tr
  have HL : Hid (Kids w gr rl rk re rs rr prl prr) := hbl
  rw [pa_some]
  clear h hbl
  have HD0 : Hid (decide ((((Tr.node rl rk re rs rr).high : Nat) : Int) + 1 < (((l).high : Nat) : Int)) = false) := by simp only [Hid, decide_eq_false_iff_not]; omega
  have HD1 : Hid (decide ((((l).high : Nat) : Int) + 1 < (((Tr.node rl rk re rs rr).high : Nat) : Int)) = true) := by simp only [Hid, decide_eq_true_eq]; omega
  have HG : Hid (decide ((((rl).high : Nat) : Int) ≤ (((rr).high : Nat) : Int)) = true ∧ decide ((rl).high ≤ (rr).high) = true) := by simp only [Hid, decide_eq_true_eq]; omega
  go_enter Tryz.func210, Tryz.ntmps210
  go_wp2_with fail
  have hSt : Stable (fun w0 : World => (Below w.heap.size w w0)) := by repeat (first | exact stable_ext _ | exact stable_blk _ _ | exact stable_true | (refine stable_bel ?_ ; (focus (first | (simp [World.size_setCell] ; done) | (simp [World.setCell] ; done)))) | refine Stable.and ?_ ?_)
  refine wp_region_x [0, 1, 2, 3, 4, 5, 6, 7, 8, 9, 10, 11, 12, 13, 14, 15, 16, 17, 18, 19] [0, 1, 0, 1, 0, 0, 0, 0, 0, 0, 1, 1, 0, 0, 0, 1, 1, 0, 0, 0] (fun w0 => (Below w.heap.size w w0)) (by kernel_rfl) (by kernel_rfl) ?_ ?_
  · (first | trivial | (repeat (first | (with_reducible assumption) | (with_reducible exact Below.refl _ _) | (with_reducible refine heap_drew ?_) | (focus ((with_reducible refine heap_new ?_) ; simp ; done)) | (with_reducible apply heap_set_to) | (focus ((with_reducible refine heap_set_ne ?_ ?_ _) ; rotate_left ; (focus (first | omega | (simp ; done) | (simp ; omega))))) | (with_reducible refine heap_old ?_) | (with_reducible refine Below.drew ?_) | (with_reducible refine below_set ?_ _ _) | (focus ((with_reducible refine Below.setCell ?_ ?_ _) ; rotate_left ; (focus (first | omega | (simp ; done) | (simp ; omega))))) | (focus ((with_reducible refine Below.alloc ?_ ?_ _) ; rotate_left ; (focus (first | omega | (simp ; done) | (simp ; omega))))) | (with_reducible rfl) | (focus (simp ; done)))))
  simp only [List.map_cons, List.map_nil, List.getD_cons_zero, List.getD_cons_succ]
  (refine x_pure rfl _ ?_ rfl (by simp) ?_ ?_ ; rotate_left ; · (intro w0 K hK ; go_wp2_with fail ; exact rfl))
  simp only [Act.put, List.setIfInBounds_toArray, List.set_cons_succ, List.set_cons_zero]
  (refine x_quiet rfl hSt (fun _ h => h) _ ?_ rfl (by simp) ?_ ?_ ; rotate_left ; · (intro w0 hC K hK ; have hc := hC ; go_wp2_with fail ; refine (highb l pl w0 (HE.out.tl.below hc)).mono ?_ ; rintro e w2 ⟨rfl, hb2⟩ ; refine hK _ _ ⟨?_, rfl, hb2⟩ ; (try simp only [List.getElem?_toArray, List.getElem?_cons_succ, List.getElem?_cons_zero]) ; exact rfl))
  simp only [Act.put, List.setIfInBounds_toArray, List.set_cons_succ, List.set_cons_zero]
  (refine x_pure rfl _ ?_ rfl (by simp) ?_ ?_ ; rotate_left ; · (intro w0 K hK ; go_wp2_with fail ; exact rfl))
  simp only [Act.put, List.setIfInBounds_toArray, List.set_cons_succ, List.set_cons_zero]
  (refine x_quiet rfl hSt (fun _ h => h) _ ?_ rfl (by simp) ?_ ?_ ; rotate_left ; · (intro w0 hC K hK ; have hc := hC ; go_wp2_with fail ; refine (highb (Tr.node rl rk re rs rr) (some gr) w0 (HE.out.tr.below hc)).mono ?_ ; rintro e w2 ⟨rfl, hb2⟩ ; refine hK _ _ ⟨?_, rfl, hb2⟩ ; (try simp only [List.getElem?_toArray, List.getElem?_cons_succ, List.getElem?_cons_zero]) ; exact rfl))
  simp only [Act.put, List.setIfInBounds_toArray, List.set_cons_succ, List.set_cons_zero]
  (refine x_pure rfl _ ?_ rfl (by simp) ?_ ?_ ; rotate_left ; · (intro w0 K hK ; go_wp2_with fail ; exact rfl))
  simp only [Act.put, List.setIfInBounds_toArray, List.set_cons_succ, List.set_cons_zero]
  (refine x_pure rfl _ ?_ rfl (by simp) ?_ ?_ ; rotate_left ; · (intro w0 K hK ; have d := HD0.out ; go_wp2_with fail ; exact rfl))
  simp only [Act.put, List.setIfInBounds_toArray, List.set_cons_succ, List.set_cons_zero]
  (refine x_pure rfl _ ?_ rfl (by simp) ?_ ?_ ; rotate_left ; · (intro w0 K hK ; go_wp2_with fail ; exact rfl))
  simp only [Act.put, List.setIfInBounds_toArray, List.set_cons_succ, List.set_cons_zero]
  first | ((with_reducible refine x_skip ?_ ?_) ; (focus rfl)) | (refine x_pure rfl _ ?_ rfl (by simp) ?_ ?_ ; rotate_left ; · (intro w0 K hK ; go_wp2_with fail ; exact rfl))
  simp only [Act.put, List.setIfInBounds_toArray, List.set_cons_succ, List.set_cons_zero]
  first | ((with_reducible refine x_skip ?_ ?_) ; (focus rfl)) | (refine x_pure rfl _ ?_ rfl (by simp) ?_ ?_ ; rotate_left ; · (intro w0 K hK ; go_wp2_with fail ; exact rfl))
  simp only [Act.put, List.setIfInBounds_toArray, List.set_cons_succ, List.set_cons_zero]
  first | ((with_reducible refine x_skip ?_ ?_) ; (focus rfl)) | (refine x_pure rfl _ ?_ rfl (by simp) ?_ ?_ ; rotate_left ; · (intro w0 K hK ; go_wp2_with fail ; exact rfl))
  simp only [Act.put, List.setIfInBounds_toArray, List.set_cons_succ, List.set_cons_zero]
  first | ((with_reducible refine x_skip ?_ ?_) ; (focus rfl)) | (refine x_quiet rfl hSt (fun _ h => h) _ ?_ rfl (by simp) ?_ ?_ ; rotate_left ; · (intro w0 hC K hK ; have hc := hC ; go_wp2_with fail ; refine ⟨?_, Below.refl _ _⟩ ; exact rfl))
  simp only [Act.put, List.setIfInBounds_toArray, List.set_cons_succ, List.set_cons_zero]
  first | ((with_reducible refine x_skip ?_ ?_) ; (focus rfl)) | (refine x_quiet rfl hSt (fun _ h => h) _ ?_ rfl (by simp) ?_ ?_ ; rotate_left ; · (intro w0 hC K hK ; have hc := hC ; go_wp2_with fail ; refine (highb (Tr.node rl rk re rs rr) (some gr) w0 (HE.out.tr.below hc)).mono ?_ ; rintro e w2 ⟨rfl, hb2⟩ ; refine hK _ _ ⟨?_, rfl, hb2⟩ ; (try simp only [List.getElem?_toArray, List.getElem?_cons_succ, List.getElem?_cons_zero]) ; exact rfl))
  simp only [Act.put, List.setIfInBounds_toArray, List.set_cons_succ, List.set_cons_zero]
  first | ((with_reducible refine x_skip ?_ ?_) ; (focus rfl)) | (refine x_pure rfl _ ?_ rfl (by simp) ?_ ?_ ; rotate_left ; · (intro w0 K hK ; go_wp2_with fail ; exact rfl))
  simp only [Act.put, List.setIfInBounds_toArray, List.set_cons_succ, List.set_cons_zero]
  first | ((with_reducible refine x_skip ?_ ?_) ; (focus rfl)) | (refine x_pure rfl _ ?_ rfl (by simp) ?_ ?_ ; rotate_left ; · (intro w0 K hK ; go_wp2_with fail ; exact rfl))
  simp only [Act.put, List.setIfInBounds_toArray, List.set_cons_succ, List.set_cons_zero]
  first | ((with_reducible refine x_skip ?_ ?_) ; (focus rfl)) | (refine x_pure rfl _ ?_ rfl (by simp) ?_ ?_ ; rotate_left ; · (intro w0 K hK ; go_wp2_with fail ; exact rfl))
  simp only [Act.put, List.setIfInBounds_toArray, List.set_cons_succ, List.set_cons_zero]
  first | ((with_reducible refine x_skip ?_ ?_) ; (focus rfl)) | (refine x_quiet rfl hSt (fun _ h => h) _ ?_ rfl (by simp) ?_ ?_ ; rotate_left ; · (intro w0 hC K hK ; have hc := hC ; go_wp2_with fail ; refine ⟨?_, Below.refl _ _⟩ ; exact rfl))
  simp only [Act.put, List.setIfInBounds_toArray, List.set_cons_succ, List.set_cons_zero]
  first | ((with_reducible refine x_skip ?_ ?_) ; (focus rfl)) | (refine x_quiet rfl hSt (fun _ h => h) _ ?_ rfl (by simp) ?_ ?_ ; rotate_left ; · (intro w0 hC K hK ; have hc := hC ; go_wp2_with fail ; refine (highb (Tr.node rl rk re rs rr) (some gr) w0 (HE.out.tr.below hc)).mono ?_ ; rintro e w2 ⟨rfl, hb2⟩ ; refine hK _ _ ⟨?_, rfl, hb2⟩ ; (try simp only [List.getElem?_toArray, List.getElem?_cons_succ, List.getElem?_cons_zero]) ; exact rfl))
  simp only [Act.put, List.setIfInBounds_toArray, List.set_cons_succ, List.set_cons_zero]
  first | ((with_reducible refine x_skip ?_ ?_) ; (focus rfl)) | (refine x_pure rfl _ ?_ rfl (by simp) ?_ ?_ ; rotate_left ; · (intro w0 K hK ; go_wp2_with fail ; exact rfl))
  simp only [Act.put, List.setIfInBounds_toArray, List.set_cons_succ, List.set_cons_zero]
  (refine x_pure rfl _ ?_ rfl (by simp) ?_ ?_ ; rotate_left ; · (intro w0 K hK ; go_wp2_with fail ; exact rfl))
  simp only [Act.put, List.setIfInBounds_toArray, List.set_cons_succ, List.set_cons_zero]
  (refine x_pure rfl _ ?_ rfl (by simp) ?_ ?_ ; rotate_left ; · (intro w0 K hK ; go_wp2_with fail ; exact rfl))
  simp only [Act.put, List.setIfInBounds_toArray, List.set_cons_succ, List.set_cons_zero]
  first | refine x_nil ?_ | refine x_end ?_
  rintro w0 hc
  go_wp2_with fail
  have hb0 : Below w.heap.size w w0 := by assumption
  clear hc
  refine (high_any l pl w0 (HE.out.tl.below hb0)).mono ?_
  rintro x w0 ⟨rfl, rfl⟩
  go_wp2_with fail
  refine (high_any (Tr.node rl rk re rs rr) (some gr) w0 (HE.out.tr.below hb0)).mono ?_
  rintro x w0 ⟨rfl, rfl⟩
  have d := HD0.out
  go_wp2_with fail
  clear d
  have HE0 := Lib.hid (HE.out.below hb0)
  have HL0 := Lib.hid (HL.out.below hb0)
  have HB0 := Lib.hid hb0
  clear hb0 hSt
  have hSt : Stable (fun w1 : World => (Below w0.heap.size w0 w1)) := by repeat (first | exact stable_ext _ | exact stable_blk _ _ | exact stable_true | (refine stable_bel ?_ ; (focus (first | (simp [World.size_setCell] ; done) | (simp [World.setCell] ; done)))) | refine Stable.and ?_ ?_)
  refine wp_region_x [0, 1, 2, 3, 4, 5, 6, 7, 8, 9, 10, 11, 12, 13, 14, 15, 16, 17, 18, 19] [0, 1, 0, 1, 0, 0, 0, 0, 0, 0, 1, 1, 0, 0, 0, 1, 1, 0, 0, 0] (fun w1 => (Below w0.heap.size w0 w1)) (by kernel_rfl) (by kernel_rfl) ?_ ?_
  · (first | trivial | (repeat (first | (with_reducible assumption) | (with_reducible exact Below.refl _ _) | (with_reducible refine heap_drew ?_) | (focus ((with_reducible refine heap_new ?_) ; simp ; done)) | (with_reducible apply heap_set_to) | (focus ((with_reducible refine heap_set_ne ?_ ?_ _) ; rotate_left ; (focus (first | omega | (simp ; done) | (simp ; omega))))) | (with_reducible refine heap_old ?_) | (with_reducible refine Below.drew ?_) | (with_reducible refine below_set ?_ _ _) | (focus ((with_reducible refine Below.setCell ?_ ?_ _) ; rotate_left ; (focus (first | omega | (simp ; done) | (simp ; omega))))) | (focus ((with_reducible refine Below.alloc ?_ ?_ _) ; rotate_left ; (focus (first | omega | (simp ; done) | (simp ; omega))))) | (with_reducible rfl) | (focus (simp ; done)))))
  simp only [List.map_cons, List.map_nil, List.getD_cons_zero, List.getD_cons_succ]
  (refine x_pure rfl _ ?_ rfl (by simp) ?_ ?_ ; rotate_left ; · (intro w1 K hK ; go_wp2_with fail ; exact rfl))
  simp only [Act.put, List.setIfInBounds_toArray, List.set_cons_succ, List.set_cons_zero]
  (refine x_quiet rfl hSt (fun _ h => h) _ ?_ rfl (by simp) ?_ ?_ ; rotate_left ; · (intro w1 hC K hK ; have hc := hC ; have q := blkN (HL0.out.below hc).1 ; go_wp2_with fail ; refine (highb (Tr.node rl rk re rs rr) (some gr) w1 (HE0.out.tr.below hc)).mono ?_ ; rintro e w2 ⟨rfl, hb2⟩ ; refine hK _ _ ⟨?_, rfl, hb2⟩ ; (try simp only [List.getElem?_toArray, List.getElem?_cons_succ, List.getElem?_cons_zero]) ; exact rfl))
  simp only [Act.put, List.setIfInBounds_toArray, List.set_cons_succ, List.set_cons_zero]
  (refine x_pure rfl _ ?_ rfl (by simp) ?_ ?_ ; rotate_left ; · (intro w1 K hK ; go_wp2_with fail ; exact rfl))
  simp only [Act.put, List.setIfInBounds_toArray, List.set_cons_succ, List.set_cons_zero]
  (refine x_quiet rfl hSt (fun _ h => h) _ ?_ rfl (by simp) ?_ ?_ ; rotate_left ; · (intro w1 hC K hK ; have hc := hC ; have q := blkN (HL0.out.below hc).1 ; go_wp2_with fail ; refine (highb l pl w1 (HE0.out.tl.below hc)).mono ?_ ; rintro e w2 ⟨rfl, hb2⟩ ; refine hK _ _ ⟨?_, rfl, hb2⟩ ; (try simp only [List.getElem?_toArray, List.getElem?_cons_succ, List.getElem?_cons_zero]) ; exact rfl))
  simp only [Act.put, List.setIfInBounds_toArray, List.set_cons_succ, List.set_cons_zero]
  (refine x_pure rfl _ ?_ rfl (by simp) ?_ ?_ ; rotate_left ; · (intro w1 K hK ; go_wp2_with fail ; exact rfl))
  simp only [Act.put, List.setIfInBounds_toArray, List.set_cons_succ, List.set_cons_zero]
  (refine x_pure rfl _ ?_ rfl (by simp) ?_ ?_ ; rotate_left ; · (intro w1 K hK ; have d := HD1.out ; go_wp2_with fail ; exact rfl))
  simp only [Act.put, List.setIfInBounds_toArray, List.set_cons_succ, List.set_cons_zero]
  (refine x_pure rfl _ ?_ rfl (by simp) ?_ ?_ ; rotate_left ; · (intro w1 K hK ; go_wp2_with fail ; exact rfl))
  simp only [Act.put, List.setIfInBounds_toArray, List.set_cons_succ, List.set_cons_zero]
  first | ((with_reducible refine x_skip ?_ ?_) ; (focus rfl)) | (refine x_pure rfl _ ?_ rfl (by simp) ?_ ?_ ; rotate_left ; · (intro w1 K hK ; go_wp2_with fail ; exact rfl))
  simp only [Act.put, List.setIfInBounds_toArray, List.set_cons_succ, List.set_cons_zero]
  first | ((with_reducible refine x_skip ?_ ?_) ; (focus rfl)) | (refine x_pure rfl _ ?_ rfl (by simp) ?_ ?_ ; rotate_left ; · (intro w1 K hK ; go_wp2_with fail ; exact rfl))
  simp only [Act.put, List.setIfInBounds_toArray, List.set_cons_succ, List.set_cons_zero]
  first | ((with_reducible refine x_skip ?_ ?_) ; (focus rfl)) | (refine x_pure rfl _ ?_ rfl (by simp) ?_ ?_ ; rotate_left ; · (intro w1 K hK ; go_wp2_with fail ; exact rfl))
  simp only [Act.put, List.setIfInBounds_toArray, List.set_cons_succ, List.set_cons_zero]
  first | ((with_reducible refine x_skip ?_ ?_) ; (focus rfl)) | (refine x_quiet rfl hSt (fun _ h => h) _ ?_ rfl (by simp) ?_ ?_ ; rotate_left ; · (intro w1 hC K hK ; have hc := hC ; have q := blkN (HL0.out.below hc).1 ; go_wp2_with fail ; refine ⟨?_, Below.refl _ _⟩ ; exact rfl))
  simp only [Act.put, List.setIfInBounds_toArray, List.set_cons_succ, List.set_cons_zero]
  first | ((with_reducible refine x_skip ?_ ?_) ; (focus rfl)) | (refine x_quiet rfl hSt (fun _ h => h) _ ?_ rfl (by simp) ?_ ?_ ; rotate_left ; · (intro w1 hC K hK ; have hc := hC ; have q := blkN (HL0.out.below hc).1 ; go_wp2_with fail ; refine (highb rr prr w1 (HL0.out.below hc).2.2).mono ?_ ; rintro e w2 ⟨rfl, hb2⟩ ; refine hK _ _ ⟨?_, rfl, hb2⟩ ; (try simp only [List.getElem?_toArray, List.getElem?_cons_succ, List.getElem?_cons_zero]) ; exact rfl))
  simp only [Act.put, List.setIfInBounds_toArray, List.set_cons_succ, List.set_cons_zero]
  first | ((with_reducible refine x_skip ?_ ?_) ; (focus rfl)) | (refine x_pure rfl _ ?_ rfl (by simp) ?_ ?_ ; rotate_left ; · (intro w1 K hK ; go_wp2_with fail ; exact rfl))
  simp only [Act.put, List.setIfInBounds_toArray, List.set_cons_succ, List.set_cons_zero]
  first | ((with_reducible refine x_skip ?_ ?_) ; (focus rfl)) | (refine x_pure rfl _ ?_ rfl (by simp) ?_ ?_ ; rotate_left ; · (intro w1 K hK ; go_wp2_with fail ; exact rfl))
  simp only [Act.put, List.setIfInBounds_toArray, List.set_cons_succ, List.set_cons_zero]
  first | ((with_reducible refine x_skip ?_ ?_) ; (focus rfl)) | (refine x_pure rfl _ ?_ rfl (by simp) ?_ ?_ ; rotate_left ; · (intro w1 K hK ; go_wp2_with fail ; exact rfl))
  simp only [Act.put, List.setIfInBounds_toArray, List.set_cons_succ, List.set_cons_zero]
  first | ((with_reducible refine x_skip ?_ ?_) ; (focus rfl)) | (refine x_quiet rfl hSt (fun _ h => h) _ ?_ rfl (by simp) ?_ ?_ ; rotate_left ; · (intro w1 hC K hK ; have hc := hC ; have q := blkN (HL0.out.below hc).1 ; go_wp2_with fail ; refine ⟨?_, Below.refl _ _⟩ ; exact rfl))
  simp only [Act.put, List.setIfInBounds_toArray, List.set_cons_succ, List.set_cons_zero]
  first | ((with_reducible refine x_skip ?_ ?_) ; (focus rfl)) | (refine x_quiet rfl hSt (fun _ h => h) _ ?_ rfl (by simp) ?_ ?_ ; rotate_left ; · (intro w1 hC K hK ; have hc := hC ; have q := blkN (HL0.out.below hc).1 ; go_wp2_with fail ; refine (highb rl prl w1 (HL0.out.below hc).2.1).mono ?_ ; rintro e w2 ⟨rfl, hb2⟩ ; refine hK _ _ ⟨?_, rfl, hb2⟩ ; (try simp only [List.getElem?_toArray, List.getElem?_cons_succ, List.getElem?_cons_zero]) ; exact rfl))
  simp only [Act.put, List.setIfInBounds_toArray, List.set_cons_succ, List.set_cons_zero]
  first | ((with_reducible refine x_skip ?_ ?_) ; (focus rfl)) | (refine x_pure rfl _ ?_ rfl (by simp) ?_ ?_ ; rotate_left ; · (intro w1 K hK ; have d := HG.out.1 ; have d2 := HG.out.2 ; go_wp2_with fail ; exact rfl))
  simp only [Act.put, List.setIfInBounds_toArray, List.set_cons_succ, List.set_cons_zero]
  (refine x_pure rfl _ ?_ rfl (by simp) ?_ ?_ ; rotate_left ; · (intro w1 K hK ; go_wp2_with fail ; exact rfl))
  simp only [Act.put, List.setIfInBounds_toArray, List.set_cons_succ, List.set_cons_zero]
  (refine x_pure rfl _ ?_ rfl (by simp) ?_ ?_ ; rotate_left ; · (intro w1 K hK ; go_wp2_with fail ; exact rfl))
  simp only [Act.put, List.setIfInBounds_toArray, List.set_cons_succ, List.set_cons_zero]
  first | refine x_nil ?_ | refine x_end ?_
  rintro w1 hc
  go_wp2_with fail
  have hb1 : Below w0.heap.size w0 w1 := by assumption
  clear hh0 hh1 hh2 hh3 hc
  have HE1 := Lib.hid (HE0.out.below hb1)
  have HL1 := Lib.hid (HL0.out.below hb1)
  have HB1 := Lib.hid (HB0.out.trans (hb1.mono HB0.out.size))
  clear hb1 hSt
  have hDC : ∀ zw zx : World, (Below w1.heap.size w1 zw) → (Keep (fun k => k = mb)) zw zx → (fun w8 : World => (Keep (fun k => k = mb) w1 w8)) zx := fun _ _ hd hg => (Keep.of_below hd).trans hg
  have hSt : Stable (fun w8 : World => Below w1.heap.size w1 w8) := by repeat (first | exact stable_ext _ | exact stable_blk _ _ | exact stable_true | (refine stable_bel ?_ ; (focus (first | (simp [World.size_setCell] ; done) | (simp [World.setCell] ; done)))) | refine Stable.and ?_ ?_)
  refine G.wp_region_x (G := Keep (fun k => k = mb)) (D0 := fun w8 : World => Below w1.heap.size w1 w8) [0, 1, 2, 3, 4, 5, 6, 7, 8, 10, 11, 12, 13, 9, 14, 15] [0, 0, 0, 0, 0, 0, 0, 0, 1, 4, 0, 0, 0, 1, 3, 0] (fun w8 => (Keep (fun k => k = mb) w1 w8)) (by kernel_rfl) (by kernel_rfl) ?_ ?_
  · (exact (Below.refl _ _).drew)
  simp only [List.map_cons, List.map_nil, List.getD_cons_zero, List.getD_cons_succ]
  (refine G.x_pure rfl _ ?_ rfl (by simp) ?_ ?_ ; rotate_left ; · (intro w8 K hK ; go_wp2_with fail ; exact rfl))
  simp only [Act.put, List.setIfInBounds_toArray, List.set_cons_succ, List.set_cons_zero]
  (refine G.x_pure rfl _ ?_ rfl (by simp) ?_ ?_ ; rotate_left ; · (intro w8 K hK ; go_wp2_with fail ; exact rfl))
  simp only [Act.put, List.setIfInBounds_toArray, List.set_cons_succ, List.set_cons_zero]
  (refine G.x_pure rfl _ ?_ rfl (by simp) ?_ ?_ ; rotate_left ; · (intro w8 K hK ; go_wp2_with fail ; exact rfl))
  simp only [Act.put, List.setIfInBounds_toArray, List.set_cons_succ, List.set_cons_zero]
  (refine G.x_pure rfl _ ?_ rfl (by simp) ?_ ?_ ; rotate_left ; · (intro w8 K hK ; go_wp2_with fail ; exact rfl))
  simp only [Act.put, List.setIfInBounds_toArray, List.set_cons_succ, List.set_cons_zero]
  (refine G.x_pure rfl _ ?_ rfl (by simp) ?_ ?_ ; rotate_left ; · (intro w8 K hK ; go_wp2_with fail ; exact rfl))
  simp only [Act.put, List.setIfInBounds_toArray, List.set_cons_succ, List.set_cons_zero]
  (refine G.x_pure rfl _ ?_ rfl (by simp) ?_ ?_ ; rotate_left ; · (intro w8 K hK ; go_wp2_with fail ; exact rfl))
  simp only [Act.put, List.setIfInBounds_toArray, List.set_cons_succ, List.set_cons_zero]
  (refine G.x_pure rfl _ ?_ rfl (by simp) ?_ ?_ ; rotate_left ; · (intro w8 K hK ; go_wp2_with fail ; exact rfl))
  simp only [Act.put, List.setIfInBounds_toArray, List.set_cons_succ, List.set_cons_zero]
  (refine G.x_pure rfl _ ?_ rfl (by simp) ?_ ?_ ; rotate_left ; · (intro w8 K hK ; go_wp2_with fail ; exact rfl))
  simp only [Act.put, List.setIfInBounds_toArray, List.set_cons_succ, List.set_cons_zero]
  (refine G.x_quiet rfl hSt hDC _ ?_ rfl (by simp) ?_ ?_ ; rotate_left ; · (intro w8 hC K hK ; have hc := hC ; (first | (have q := blkN (HE1.out.env.node hc HL1.out.1)) | (have q := blkN (blk_below HL1.out.1 hc))) ; go_wp2_with fail ; refine ⟨?_, Below.refl _ _⟩ ; exact rfl))
  simp only [Act.put, List.setIfInBounds_toArray, List.set_cons_succ, List.set_cons_zero]
  (refine G.x_pure rfl _ ?_ rfl (by simp) ?_ ?_ ; rotate_left ; · (intro w8 K hK ; go_wp2_with fail ; exact rfl))
  simp only [Act.put, List.setIfInBounds_toArray, List.set_cons_succ, List.set_cons_zero]
  (refine G.x_pure rfl _ ?_ rfl (by simp) ?_ ?_ ; rotate_left ; · (intro w8 K hK ; go_wp2_with fail ; exact rfl))
  simp only [Act.put, List.setIfInBounds_toArray, List.set_cons_succ, List.set_cons_zero]
  (refine G.x_pure rfl _ ?_ rfl (by simp) ?_ ?_ ; rotate_left ; · (intro w8 K hK ; go_wp2_with fail ; exact rfl))
  simp only [Act.put, List.setIfInBounds_toArray, List.set_cons_succ, List.set_cons_zero]
  (refine G.x_quiet rfl hSt hDC _ ?_ rfl (by simp) ?_ ?_ ; rotate_left ; · (intro w8 hC K hK ; have hc := hC ; (first | (have q := blkN (HE1.out.env.node hc HL1.out.1)) | (have q := blkN (blk_below HL1.out.1 hc))) ; go_wp2_with fail ; refine ⟨?_, Below.refl _ _⟩ ; exact rfl))
  simp only [Act.put, List.setIfInBounds_toArray, List.set_cons_succ, List.set_cons_zero]
  refine G.x_make rfl ?_
  intro w8 hD K hK ; have hc := hD ; (first | (have q := blkN (HE1.out.env.node hc HL1.out.1)) | (have q := blkN (blk_below HL1.out.1 hc)))
  go_wp2_with fail
  refine (over_any mb tb gx M k e s t0 pl0 pr0 rt m0 h0 l rl pl prl w8 (HE1.out.env.below hc).1 (by omega) (HE1.out.env.below hc).2 (blk_below HE1.out.x hc) (HE1.out.tl.below hc) (HL1.out.below hc).2.1 (by omega)).mono ?_
  rintro x9 w9 ⟨g1, c1, rfl, ht1, hc1, hm1, hk1⟩
  have hk19 := (Keep.of_below hc).trans hk1
  have HM := Lib.hid (And.intro (HE1.out.env.keep hk19 hm1) (And.intro ht1 (And.intro (HE1.out.env.node hk19 HL1.out.1) (And.intro (HE1.out.env.tree hk19 HL1.out.2.2) hk19))))
  clear ht1 hm1 hk19 q hc
  refine hK _ _ hk1 ?_
  try simp only [Act.put, List.setIfInBounds_toArray, List.set_cons_succ, List.set_cons_zero]
  refine G.x_write rfl ?_
  intro wy hyb K hK
  go_wp2_with fail
  refine (over_any mb tb gr (M + c1) rk re rs _ _ _ rt _ _ (Tr.node l k e s rl) rr (some g1) prr wy (HM.out.1.below hyb).1 (by omega) (HM.out.1.below hyb).2 (blk_below HM.out.2.2.1 hyb) (HM.out.2.1.below hyb) (HM.out.2.2.2.1.below hyb) (by simp only [Tr.size]; omega)).mono ?_
  rintro x10 w10 ⟨g2, c2, rfl, ht2, hc2, hm2, hk2⟩
  have HZ := Lib.hid (And.intro ht2 (And.intro hm2 ((HM.out.2.2.2.2.trans (Keep.of_below hyb)).trans hk2)))
  clear ht2 hm2 hk2
  refine hK _ _ ?_
  try simp only [Act.put, List.setIfInBounds_toArray, List.set_cons_succ, List.set_cons_zero]
  (refine G.x_pure rfl _ ?_ rfl (by simp) ?_ ?_ ; rotate_left ; · (intro w8 K hK ; go_wp2_with fail ; exact rfl))
  simp only [Act.put, List.setIfInBounds_toArray, List.set_cons_succ, List.set_cons_zero]
  first | refine G.x_nil ?_ | refine G.x_end ?_
  rintro w10 rfl
  go_wp2_with fail
  go_ret
  exact ⟨g2, c1 + c2, rfl, HZ.out.1, by omega, by have := HZ.out.2.1; rwa [Nat.add_assoc] at this, (Keep.of_below HB1.out).trans HZ.out.2.2⟩
set_option maxRecDepth 100000 in
set_option maxHeartbeats 8000000 in
/-- Two rotations, the right one last. -/
theorem even_b (mb tb gx M : Nat) (k : ByteArray) (e : Ent) (s : T3) (t0 : T3) (pl0 pr0 rt : Value) (m0 h0 : Nat) (ll m1 m2 r : Tr) (lk mk : ByteArray) (le me : Ent) (ls ms : T3) (pl pr : Option Nat) (w : World)
    (h : EvAt w mb tb gx M k e s t0 pl0 pr0 rt m0 h0 (.node ll lk le ls (.node m1 mk me ms m2)) r pl pr) (h1 : (Tr.node ll lk le ls (.node m1 mk me ms m2)).high > r.high + 1) (h2 : ll.high < (Tr.node m1 mk me ms m2).high) :
    Calls Tryz.prog 210 #[.pointer (some ⟨tb, 0, none⟩), .pointer (some ⟨gx, 0, none⟩), .pointer (pa pl), .pointer (pa pr)] w fun x w' =>
      ∃ g c, x = .returned (.pointer (pa (some g))) ∧ TreeAt w' (.node (.node ll lk le ls m1) mk me ms (.node m2 k e s r)) (some g) ∧ c ≤ 6 ∧ Mt w' mb (M + c) ∧ Keep (fun k => k = mb) w w' := by
  have hsz := h.size
  have hf := h.few
  have hh0 := ((Tr.node ll lk le ls (Tr.node m1 mk me ms m2))).high_le
  have hh1 := (r).high_le
  have hh2 := (ll).high_le
  have hh3 := ((Tr.node m1 mk me ms m2)).high_le
  have hsl : (Tr.node ll lk le ls (Tr.node m1 mk me ms m2)).size = ll.size + 1 + (m1.size + 1 + m2.size) := rfl
  have HE := Lib.hid h
  obtain ⟨gl, pll, plr, rfl, hb1, hb2, gm, pm1, pm2, rfl, hb3⟩ := h.tl
  have HL : Hid (Kids w gl ll lk le ls (Tr.node m1 mk me ms m2) pll (some gm)) := ⟨hb1, hb2, gm, pm1, pm2, rfl, hb3⟩
  have HK : Hid (Kids w gm m1 mk me ms m2 pm1 pm2) := hb3
  rw [pa_some]
  clear h hb1 hb2 hb3
  have HD0 : Hid (decide ((((r).high : Nat) : Int) + 1 < (((Tr.node ll lk le ls (Tr.node m1 mk me ms m2)).high : Nat) : Int)) = true) := by simp only [Hid, decide_eq_true_eq]; omega
  have HG : Hid (decide ((((Tr.node m1 mk me ms m2).high : Nat) : Int) ≤ (((ll).high : Nat) : Int)) = false ∧ decide ((Tr.node m1 mk me ms m2).high ≤ (ll).high) = false) := by simp only [Hid, decide_eq_false_iff_not]; omega
  go_enter Tryz.func210, Tryz.ntmps210
  go_wp2_with fail
  have hSt : Stable (fun w1 : World => (Below w.heap.size w w1)) := by repeat (first | exact stable_ext _ | exact stable_blk _ _ | exact stable_true | (refine stable_bel ?_ ; (focus (first | (simp [World.size_setCell] ; done) | (simp [World.setCell] ; done)))) | refine Stable.and ?_ ?_)
  refine wp_region_x [0, 1, 2, 3, 4, 5, 6, 7, 8, 9, 10, 11, 12, 13, 14, 15, 16, 17, 18, 19] [0, 1, 0, 1, 0, 0, 0, 0, 0, 0, 1, 1, 0, 0, 0, 1, 1, 0, 0, 0] (fun w1 => (Below w.heap.size w w1)) (by kernel_rfl) (by kernel_rfl) ?_ ?_
  · (first | trivial | (repeat (first | (with_reducible assumption) | (with_reducible exact Below.refl _ _) | (with_reducible refine heap_drew ?_) | (focus ((with_reducible refine heap_new ?_) ; simp ; done)) | (with_reducible apply heap_set_to) | (focus ((with_reducible refine heap_set_ne ?_ ?_ _) ; rotate_left ; (focus (first | omega | (simp ; done) | (simp ; omega))))) | (with_reducible refine heap_old ?_) | (with_reducible refine Below.drew ?_) | (with_reducible refine below_set ?_ _ _) | (focus ((with_reducible refine Below.setCell ?_ ?_ _) ; rotate_left ; (focus (first | omega | (simp ; done) | (simp ; omega))))) | (focus ((with_reducible refine Below.alloc ?_ ?_ _) ; rotate_left ; (focus (first | omega | (simp ; done) | (simp ; omega))))) | (with_reducible rfl) | (focus (simp ; done)))))
  simp only [List.map_cons, List.map_nil, List.getD_cons_zero, List.getD_cons_succ]
  (refine x_pure rfl _ ?_ rfl (by simp) ?_ ?_ ; rotate_left ; · (intro w1 K hK ; go_wp2_with fail ; exact rfl))
  simp only [Act.put, List.setIfInBounds_toArray, List.set_cons_succ, List.set_cons_zero]
  (refine x_quiet rfl hSt (fun _ h => h) _ ?_ rfl (by simp) ?_ ?_ ; rotate_left ; · (intro w1 hC K hK ; have hc := hC ; have q := blkN (HL.out.below hc).1 ; go_wp2_with fail ; refine (highb (Tr.node ll lk le ls (Tr.node m1 mk me ms m2)) (some gl) w1 (HE.out.tl.below hc)).mono ?_ ; rintro e w2 ⟨rfl, hb2⟩ ; refine hK _ _ ⟨?_, rfl, hb2⟩ ; (try simp only [List.getElem?_toArray, List.getElem?_cons_succ, List.getElem?_cons_zero]) ; exact rfl))
  simp only [Act.put, List.setIfInBounds_toArray, List.set_cons_succ, List.set_cons_zero]
  (refine x_pure rfl _ ?_ rfl (by simp) ?_ ?_ ; rotate_left ; · (intro w1 K hK ; go_wp2_with fail ; exact rfl))
  simp only [Act.put, List.setIfInBounds_toArray, List.set_cons_succ, List.set_cons_zero]
  (refine x_quiet rfl hSt (fun _ h => h) _ ?_ rfl (by simp) ?_ ?_ ; rotate_left ; · (intro w1 hC K hK ; have hc := hC ; have q := blkN (HL.out.below hc).1 ; go_wp2_with fail ; refine (highb r pr w1 (HE.out.tr.below hc)).mono ?_ ; rintro e w2 ⟨rfl, hb2⟩ ; refine hK _ _ ⟨?_, rfl, hb2⟩ ; (try simp only [List.getElem?_toArray, List.getElem?_cons_succ, List.getElem?_cons_zero]) ; exact rfl))
  simp only [Act.put, List.setIfInBounds_toArray, List.set_cons_succ, List.set_cons_zero]
  (refine x_pure rfl _ ?_ rfl (by simp) ?_ ?_ ; rotate_left ; · (intro w1 K hK ; go_wp2_with fail ; exact rfl))
  simp only [Act.put, List.setIfInBounds_toArray, List.set_cons_succ, List.set_cons_zero]
  (refine x_pure rfl _ ?_ rfl (by simp) ?_ ?_ ; rotate_left ; · (intro w1 K hK ; have d := HD0.out ; go_wp2_with fail ; exact rfl))
  simp only [Act.put, List.setIfInBounds_toArray, List.set_cons_succ, List.set_cons_zero]
  (refine x_pure rfl _ ?_ rfl (by simp) ?_ ?_ ; rotate_left ; · (intro w1 K hK ; go_wp2_with fail ; exact rfl))
  simp only [Act.put, List.setIfInBounds_toArray, List.set_cons_succ, List.set_cons_zero]
  first | ((with_reducible refine x_skip ?_ ?_) ; (focus rfl)) | (refine x_pure rfl _ ?_ rfl (by simp) ?_ ?_ ; rotate_left ; · (intro w1 K hK ; go_wp2_with fail ; exact rfl))
  simp only [Act.put, List.setIfInBounds_toArray, List.set_cons_succ, List.set_cons_zero]
  first | ((with_reducible refine x_skip ?_ ?_) ; (focus rfl)) | (refine x_pure rfl _ ?_ rfl (by simp) ?_ ?_ ; rotate_left ; · (intro w1 K hK ; go_wp2_with fail ; exact rfl))
  simp only [Act.put, List.setIfInBounds_toArray, List.set_cons_succ, List.set_cons_zero]
  first | ((with_reducible refine x_skip ?_ ?_) ; (focus rfl)) | (refine x_pure rfl _ ?_ rfl (by simp) ?_ ?_ ; rotate_left ; · (intro w1 K hK ; go_wp2_with fail ; exact rfl))
  simp only [Act.put, List.setIfInBounds_toArray, List.set_cons_succ, List.set_cons_zero]
  first | ((with_reducible refine x_skip ?_ ?_) ; (focus rfl)) | (refine x_quiet rfl hSt (fun _ h => h) _ ?_ rfl (by simp) ?_ ?_ ; rotate_left ; · (intro w1 hC K hK ; have hc := hC ; have q := blkN (HL.out.below hc).1 ; go_wp2_with fail ; refine ⟨?_, Below.refl _ _⟩ ; exact rfl))
  simp only [Act.put, List.setIfInBounds_toArray, List.set_cons_succ, List.set_cons_zero]
  first | ((with_reducible refine x_skip ?_ ?_) ; (focus rfl)) | (refine x_quiet rfl hSt (fun _ h => h) _ ?_ rfl (by simp) ?_ ?_ ; rotate_left ; · (intro w1 hC K hK ; have hc := hC ; have q := blkN (HL.out.below hc).1 ; go_wp2_with fail ; refine (highb ll pll w1 (HL.out.below hc).2.1).mono ?_ ; rintro e w2 ⟨rfl, hb2⟩ ; refine hK _ _ ⟨?_, rfl, hb2⟩ ; (try simp only [List.getElem?_toArray, List.getElem?_cons_succ, List.getElem?_cons_zero]) ; exact rfl))
  simp only [Act.put, List.setIfInBounds_toArray, List.set_cons_succ, List.set_cons_zero]
  first | ((with_reducible refine x_skip ?_ ?_) ; (focus rfl)) | (refine x_pure rfl _ ?_ rfl (by simp) ?_ ?_ ; rotate_left ; · (intro w1 K hK ; go_wp2_with fail ; exact rfl))
  simp only [Act.put, List.setIfInBounds_toArray, List.set_cons_succ, List.set_cons_zero]
  first | ((with_reducible refine x_skip ?_ ?_) ; (focus rfl)) | (refine x_pure rfl _ ?_ rfl (by simp) ?_ ?_ ; rotate_left ; · (intro w1 K hK ; go_wp2_with fail ; exact rfl))
  simp only [Act.put, List.setIfInBounds_toArray, List.set_cons_succ, List.set_cons_zero]
  first | ((with_reducible refine x_skip ?_ ?_) ; (focus rfl)) | (refine x_pure rfl _ ?_ rfl (by simp) ?_ ?_ ; rotate_left ; · (intro w1 K hK ; go_wp2_with fail ; exact rfl))
  simp only [Act.put, List.setIfInBounds_toArray, List.set_cons_succ, List.set_cons_zero]
  first | ((with_reducible refine x_skip ?_ ?_) ; (focus rfl)) | (refine x_quiet rfl hSt (fun _ h => h) _ ?_ rfl (by simp) ?_ ?_ ; rotate_left ; · (intro w1 hC K hK ; have hc := hC ; have q := blkN (HL.out.below hc).1 ; go_wp2_with fail ; refine ⟨?_, Below.refl _ _⟩ ; exact rfl))
  simp only [Act.put, List.setIfInBounds_toArray, List.set_cons_succ, List.set_cons_zero]
  first | ((with_reducible refine x_skip ?_ ?_) ; (focus rfl)) | (refine x_quiet rfl hSt (fun _ h => h) _ ?_ rfl (by simp) ?_ ?_ ; rotate_left ; · (intro w1 hC K hK ; have hc := hC ; have q := blkN (HL.out.below hc).1 ; go_wp2_with fail ; refine (highb (Tr.node m1 mk me ms m2) (some gm) w1 (HL.out.below hc).2.2).mono ?_ ; rintro e w2 ⟨rfl, hb2⟩ ; refine hK _ _ ⟨?_, rfl, hb2⟩ ; (try simp only [List.getElem?_toArray, List.getElem?_cons_succ, List.getElem?_cons_zero]) ; exact rfl))
  simp only [Act.put, List.setIfInBounds_toArray, List.set_cons_succ, List.set_cons_zero]
  first | ((with_reducible refine x_skip ?_ ?_) ; (focus rfl)) | (refine x_pure rfl _ ?_ rfl (by simp) ?_ ?_ ; rotate_left ; · (intro w1 K hK ; have d := HG.out.1 ; have d2 := HG.out.2 ; go_wp2_with fail ; exact rfl))
  simp only [Act.put, List.setIfInBounds_toArray, List.set_cons_succ, List.set_cons_zero]
  (refine x_pure rfl _ ?_ rfl (by simp) ?_ ?_ ; rotate_left ; · (intro w1 K hK ; go_wp2_with fail ; exact rfl))
  simp only [Act.put, List.setIfInBounds_toArray, List.set_cons_succ, List.set_cons_zero]
  (refine x_pure rfl _ ?_ rfl (by simp) ?_ ?_ ; rotate_left ; · (intro w1 K hK ; go_wp2_with fail ; exact rfl))
  simp only [Act.put, List.setIfInBounds_toArray, List.set_cons_succ, List.set_cons_zero]
  first | refine x_nil ?_ | refine x_end ?_
  rintro w1 hc
  have hb1 : Below w.heap.size w w1 := by assumption
  have HE1 := Lib.hid (HE.out.below hb1)
  have HL1 := Lib.hid (HL.out.below hb1)
  have HK1 := Lib.hid (HK.out.below hb1)
  have HB1 := Lib.hid (hb1)
  clear hb1 hSt hc
  go_wp2_with fail
  refine (high_any (Tr.node ll lk le ls (Tr.node m1 mk me ms m2)) (some gl) w1 HE1.out.tl).mono ?_
  rintro x w1 ⟨rfl, rfl⟩
  go_wp2_with fail
  refine (high_any r pr w1 HE1.out.tr).mono ?_
  rintro x w1 ⟨rfl, rfl⟩
  have q := blkN HL1.out.1
  have d := HD0.out
  go_wp2_with fail
  clear d
  clear hh0 hh1 hh2 hh3 q
  rw [pa_some]
  have hDC : ∀ zw zx : World, (Below w1.heap.size w1 zw) → (Keep (fun k => k = mb)) zw zx → (fun w8 : World => (Keep (fun k => k = mb) w1 w8)) zx := fun _ _ hd hg => (Keep.of_below hd).trans hg
  have hSt : Stable (fun w8 : World => Below w1.heap.size w1 w8) := by repeat (first | exact stable_ext _ | exact stable_blk _ _ | exact stable_true | (refine stable_bel ?_ ; (focus (first | (simp [World.size_setCell] ; done) | (simp [World.setCell] ; done)))) | refine Stable.and ?_ ?_)
  refine G.wp_region_x (G := Keep (fun k => k = mb)) (D0 := fun w8 : World => Below w1.heap.size w1 w8) [0, 1, 2, 3, 4, 5, 6, 7, 8, 9, 10, 11, 13, 14, 15, 16, 17, 18, 19, 12, 20, 21, 22] [0, 0, 0, 0, 0, 0, 0, 1, 0, 0, 0, 1, 4, 0, 0, 0, 0, 0, 1, 0, 4, 3, 0] (fun w8 => (Keep (fun k => k = mb) w1 w8)) (by kernel_rfl) (by kernel_rfl) ?_ ?_
  · (exact (Below.refl _ _).drew)
  simp only [List.map_cons, List.map_nil, List.getD_cons_zero, List.getD_cons_succ]
  (refine G.x_pure rfl _ ?_ rfl (by simp) ?_ ?_ ; rotate_left ; · (intro w8 K hK ; go_wp2_with fail ; exact rfl))
  simp only [Act.put, List.setIfInBounds_toArray, List.set_cons_succ, List.set_cons_zero]
  (refine G.x_pure rfl _ ?_ rfl (by simp) ?_ ?_ ; rotate_left ; · (intro w8 K hK ; go_wp2_with fail ; exact rfl))
  simp only [Act.put, List.setIfInBounds_toArray, List.set_cons_succ, List.set_cons_zero]
  (refine G.x_pure rfl _ ?_ rfl (by simp) ?_ ?_ ; rotate_left ; · (intro w8 K hK ; go_wp2_with fail ; exact rfl))
  simp only [Act.put, List.setIfInBounds_toArray, List.set_cons_succ, List.set_cons_zero]
  (refine G.x_pure rfl _ ?_ rfl (by simp) ?_ ?_ ; rotate_left ; · (intro w8 K hK ; go_wp2_with fail ; exact rfl))
  simp only [Act.put, List.setIfInBounds_toArray, List.set_cons_succ, List.set_cons_zero]
  (refine G.x_pure rfl _ ?_ rfl (by simp) ?_ ?_ ; rotate_left ; · (intro w8 K hK ; go_wp2_with fail ; exact rfl))
  simp only [Act.put, List.setIfInBounds_toArray, List.set_cons_succ, List.set_cons_zero]
  (refine G.x_pure rfl _ ?_ rfl (by simp) ?_ ?_ ; rotate_left ; · (intro w8 K hK ; go_wp2_with fail ; exact rfl))
  simp only [Act.put, List.setIfInBounds_toArray, List.set_cons_succ, List.set_cons_zero]
  (refine G.x_pure rfl _ ?_ rfl (by simp) ?_ ?_ ; rotate_left ; · (intro w8 K hK ; go_wp2_with fail ; exact rfl))
  simp only [Act.put, List.setIfInBounds_toArray, List.set_cons_succ, List.set_cons_zero]
  (refine G.x_quiet rfl hSt hDC _ ?_ rfl (by simp) ?_ ?_ ; rotate_left ; · (intro w8 hC K hK ; have hc := hC ; (first | (have q := blkN (HE1.out.env.node hc HL1.out.1)) | (have q := blkN (blk_below HL1.out.1 hc))) ; (first | (have q2 := blkN (HE1.out.env.node hc HK1.out.1)) | (have q2 := blkN (blk_below HK1.out.1 hc))) ; go_wp2_with fail ; refine ⟨?_, Below.refl _ _⟩ ; exact rfl))
  simp only [Act.put, List.setIfInBounds_toArray, List.set_cons_succ, List.set_cons_zero]
  (refine G.x_pure rfl _ ?_ rfl (by simp) ?_ ?_ ; rotate_left ; · (intro w8 K hK ; go_wp2_with fail ; exact rfl))
  simp only [Act.put, List.setIfInBounds_toArray, List.set_cons_succ, List.set_cons_zero]
  (refine G.x_pure rfl _ ?_ rfl (by simp) ?_ ?_ ; rotate_left ; · (intro w8 K hK ; go_wp2_with fail ; exact rfl))
  simp only [Act.put, List.setIfInBounds_toArray, List.set_cons_succ, List.set_cons_zero]
  (refine G.x_pure rfl _ ?_ rfl (by simp) ?_ ?_ ; rotate_left ; · (intro w8 K hK ; go_wp2_with fail ; exact rfl))
  simp only [Act.put, List.setIfInBounds_toArray, List.set_cons_succ, List.set_cons_zero]
  (refine G.x_quiet rfl hSt hDC _ ?_ rfl (by simp) ?_ ?_ ; rotate_left ; · (intro w8 hC K hK ; have hc := hC ; (first | (have q := blkN (HE1.out.env.node hc HL1.out.1)) | (have q := blkN (blk_below HL1.out.1 hc))) ; (first | (have q2 := blkN (HE1.out.env.node hc HK1.out.1)) | (have q2 := blkN (blk_below HK1.out.1 hc))) ; go_wp2_with fail ; refine ⟨?_, Below.refl _ _⟩ ; exact rfl))
  simp only [Act.put, List.setIfInBounds_toArray, List.set_cons_succ, List.set_cons_zero]
  (refine G.x_pure rfl _ ?_ rfl (by simp) ?_ ?_ ; rotate_left ; · (intro w8 K hK ; go_wp2_with fail ; exact rfl))
  simp only [Act.put, List.setIfInBounds_toArray, List.set_cons_succ, List.set_cons_zero]
  (refine G.x_pure rfl _ ?_ rfl (by simp) ?_ ?_ ; rotate_left ; · (intro w8 K hK ; go_wp2_with fail ; exact rfl))
  simp only [Act.put, List.setIfInBounds_toArray, List.set_cons_succ, List.set_cons_zero]
  (refine G.x_pure rfl _ ?_ rfl (by simp) ?_ ?_ ; rotate_left ; · (intro w8 K hK ; go_wp2_with fail ; exact rfl))
  simp only [Act.put, List.setIfInBounds_toArray, List.set_cons_succ, List.set_cons_zero]
  (refine G.x_pure rfl _ ?_ rfl (by simp) ?_ ?_ ; rotate_left ; · (intro w8 K hK ; go_wp2_with fail ; exact rfl))
  simp only [Act.put, List.setIfInBounds_toArray, List.set_cons_succ, List.set_cons_zero]
  (refine G.x_pure rfl _ ?_ rfl (by simp) ?_ ?_ ; rotate_left ; · (intro w8 K hK ; go_wp2_with fail ; exact rfl))
  simp only [Act.put, List.setIfInBounds_toArray, List.set_cons_succ, List.set_cons_zero]
  (refine G.x_quiet rfl hSt hDC _ ?_ rfl (by simp) ?_ ?_ ; rotate_left ; · (intro w8 hC K hK ; have hc := hC ; (first | (have q := blkN (HE1.out.env.node hc HL1.out.1)) | (have q := blkN (blk_below HL1.out.1 hc))) ; (first | (have q2 := blkN (HE1.out.env.node hc HK1.out.1)) | (have q2 := blkN (blk_below HK1.out.1 hc))) ; go_wp2_with fail ; refine ⟨?_, Below.refl _ _⟩ ; exact rfl))
  simp only [Act.put, List.setIfInBounds_toArray, List.set_cons_succ, List.set_cons_zero]
  (refine G.x_pure rfl _ ?_ rfl (by simp) ?_ ?_ ; rotate_left ; · (intro w8 K hK ; go_wp2_with fail ; exact rfl))
  simp only [Act.put, List.setIfInBounds_toArray, List.set_cons_succ, List.set_cons_zero]
  refine G.x_make rfl ?_
  intro w8 hD K hK ; have hc := hD ; (first | (have q := blkN (HE1.out.env.node hc HL1.out.1)) | (have q := blkN (blk_below HL1.out.1 hc))) ; (first | (have q2 := blkN (HE1.out.env.node hc HK1.out.1)) | (have q2 := blkN (blk_below HK1.out.1 hc)))
  go_wp2_with fail
  refine (over_any mb tb gl M lk le ls _ _ _ rt _ _ ll m1 pll pm1 w8 (HE1.out.env.below hc).1 (by omega) (HE1.out.env.below hc).2 (HL1.out.below hc).1 (HL1.out.below hc).2.1 (HK1.out.below hc).2.1 (by omega)).mono ?_
  rintro x9 w9 ⟨g1, c1, rfl, ht1, hc1, hm1, hk1⟩
  have hk19 := (Keep.of_below hc).trans hk1
  have HM := Lib.hid (And.intro (HE1.out.env.keep hk19 hm1) (And.intro ht1 (And.intro (HE1.out.env.node hk19 HE1.out.x) (And.intro (HE1.out.env.kids hk19 HK1.out) (And.intro (HE1.out.env.tree hk19 HE1.out.tr) hk19)))))
  clear ht1 hm1 hk19 q q2 hc
  refine hK _ _ hk1 ?_
  try simp only [Act.put, List.setIfInBounds_toArray, List.set_cons_succ, List.set_cons_zero]
  refine G.x_make rfl ?_
  intro wy hyb K hK
  go_wp2_with fail
  refine (over_any mb tb gx (M + c1) k e s t0 pl0 pr0 rt m0 h0 m2 r pm2 pr wy (HM.out.1.below hyb).1 (by omega) (HM.out.1.below hyb).2 (blk_below HM.out.2.2.1 hyb) (HM.out.2.2.2.1.below hyb).2.2 (HM.out.2.2.2.2.1.below hyb) (by omega)).mono ?_
  rintro x10 w10 ⟨g2, c2, rfl, ht2, hc2, hm2, hk2⟩
  have hky := (Keep.of_below hyb).trans hk2
  have HN := Lib.hid (And.intro (HM.out.1.keep hky hm2) (And.intro (HM.out.1.tree hky HM.out.2.1) (And.intro ht2 (And.intro (HM.out.1.kids hky HM.out.2.2.2.1) (HM.out.2.2.2.2.2.trans hky)))))
  clear ht2 hm2 hky hyb
  refine hK _ _ hk2 ?_
  try simp only [Act.put, List.setIfInBounds_toArray, List.set_cons_succ, List.set_cons_zero]
  refine G.x_write rfl ?_
  intro wz hzb K hK
  go_wp2_with fail
  refine (over_any mb tb gm (M + c1 + c2) mk me ms _ _ _ rt _ _ (Tr.node ll lk le ls m1) (Tr.node m2 k e s r) (some g1) (some g2) wz (HN.out.1.below hzb).1 (by omega) (HN.out.1.below hzb).2 (HN.out.2.2.2.1.below hzb).1 (HN.out.2.1.below hzb) (HN.out.2.2.1.below hzb) (by simp only [Tr.size]; omega)).mono ?_
  rintro x11 w11 ⟨g3, c3, rfl, ht3, hc3, hm3, hk3⟩
  have HZ := Lib.hid (And.intro ht3 (And.intro hm3 ((HN.out.2.2.2.2.trans (Keep.of_below hzb)).trans hk3)))
  clear ht3 hm3 hk3
  refine hK _ _ ?_
  try simp only [Act.put, List.setIfInBounds_toArray, List.set_cons_succ, List.set_cons_zero]
  (refine G.x_pure rfl _ ?_ rfl (by simp) ?_ ?_ ; rotate_left ; · (intro w8 K hK ; go_wp2_with fail ; exact rfl))
  simp only [Act.put, List.setIfInBounds_toArray, List.set_cons_succ, List.set_cons_zero]
  first | refine G.x_nil ?_ | refine G.x_end ?_
  rintro w11 rfl
  go_wp2_with fail
  go_ret
  exact ⟨g3, c1 + c2 + c3, rfl, HZ.out.1, by omega, by have := HZ.out.2.1; rwa [Nat.add_assoc, Nat.add_assoc, ← Nat.add_assoc c1] at this, (Keep.of_below HB1.out).trans HZ.out.2.2⟩
set_option maxRecDepth 100000 in
set_option maxHeartbeats 8000000 in
/-- Two rotations, the left one last. -/
theorem even_d (mb tb gx M : Nat) (k : ByteArray) (e : Ent) (s : T3) (t0 : T3) (pl0 pr0 rt : Value) (m0 h0 : Nat) (l m1 m2 rr : Tr) (rk mk : ByteArray) (re me : Ent) (rs ms : T3) (pl pr : Option Nat) (w : World)
    (h : EvAt w mb tb gx M k e s t0 pl0 pr0 rt m0 h0 l (.node (.node m1 mk me ms m2) rk re rs rr) pl pr) (h1 : (Tr.node (.node m1 mk me ms m2) rk re rs rr).high > l.high + 1) (h2 : rr.high < (Tr.node m1 mk me ms m2).high) :
    Calls Tryz.prog 210 #[.pointer (some ⟨tb, 0, none⟩), .pointer (some ⟨gx, 0, none⟩), .pointer (pa pl), .pointer (pa pr)] w fun x w' =>
      ∃ g c, x = .returned (.pointer (pa (some g))) ∧ TreeAt w' (.node (.node l k e s m1) mk me ms (.node m2 rk re rs rr)) (some g) ∧ c ≤ 6 ∧ Mt w' mb (M + c) ∧ Keep (fun k => k = mb) w w' := by
  have hsz := h.size
  have hf := h.few
  have hh0 := ((Tr.node (Tr.node m1 mk me ms m2) rk re rs rr)).high_le
  have hh1 := (l).high_le
  have hh2 := (rr).high_le
  have hh3 := ((Tr.node m1 mk me ms m2)).high_le
  have hsl : (Tr.node (Tr.node m1 mk me ms m2) rk re rs rr).size = m1.size + 1 + m2.size + 1 + rr.size := rfl
  have HE := Lib.hid h
  obtain ⟨gr, prl, prr, rfl, hb1, ⟨gm, pm1, pm2, rfl, hb3⟩, hb2⟩ := h.tr
  have HL : Hid (Kids w gr (Tr.node m1 mk me ms m2) rk re rs rr (some gm) prr) := ⟨hb1, ⟨gm, pm1, pm2, rfl, hb3⟩, hb2⟩
  have HK : Hid (Kids w gm m1 mk me ms m2 pm1 pm2) := hb3
  rw [pa_some]
  clear h hb1 hb2 hb3
  have HD0 : Hid (decide ((((Tr.node (Tr.node m1 mk me ms m2) rk re rs rr).high : Nat) : Int) + 1 < (((l).high : Nat) : Int)) = false) := by simp only [Hid, decide_eq_false_iff_not]; omega
  have HD1 : Hid (decide ((((l).high : Nat) : Int) + 1 < (((Tr.node (Tr.node m1 mk me ms m2) rk re rs rr).high : Nat) : Int)) = true) := by simp only [Hid, decide_eq_true_eq]; omega
  have HG : Hid (decide ((((Tr.node m1 mk me ms m2).high : Nat) : Int) ≤ (((rr).high : Nat) : Int)) = false ∧ decide ((Tr.node m1 mk me ms m2).high ≤ (rr).high) = false) := by simp only [Hid, decide_eq_false_iff_not]; omega
  go_enter Tryz.func210, Tryz.ntmps210
  go_wp2_with fail
  have hSt : Stable (fun w0 : World => (Below w.heap.size w w0)) := by repeat (first | exact stable_ext _ | exact stable_blk _ _ | exact stable_true | (refine stable_bel ?_ ; (focus (first | (simp [World.size_setCell] ; done) | (simp [World.setCell] ; done)))) | refine Stable.and ?_ ?_)
  refine wp_region_x [0, 1, 2, 3, 4, 5, 6, 7, 8, 9, 10, 11, 12, 13, 14, 15, 16, 17, 18, 19] [0, 1, 0, 1, 0, 0, 0, 0, 0, 0, 1, 1, 0, 0, 0, 1, 1, 0, 0, 0] (fun w0 => (Below w.heap.size w w0)) (by kernel_rfl) (by kernel_rfl) ?_ ?_
  · (first | trivial | (repeat (first | (with_reducible assumption) | (with_reducible exact Below.refl _ _) | (with_reducible refine heap_drew ?_) | (focus ((with_reducible refine heap_new ?_) ; simp ; done)) | (with_reducible apply heap_set_to) | (focus ((with_reducible refine heap_set_ne ?_ ?_ _) ; rotate_left ; (focus (first | omega | (simp ; done) | (simp ; omega))))) | (with_reducible refine heap_old ?_) | (with_reducible refine Below.drew ?_) | (with_reducible refine below_set ?_ _ _) | (focus ((with_reducible refine Below.setCell ?_ ?_ _) ; rotate_left ; (focus (first | omega | (simp ; done) | (simp ; omega))))) | (focus ((with_reducible refine Below.alloc ?_ ?_ _) ; rotate_left ; (focus (first | omega | (simp ; done) | (simp ; omega))))) | (with_reducible rfl) | (focus (simp ; done)))))
  simp only [List.map_cons, List.map_nil, List.getD_cons_zero, List.getD_cons_succ]
  (refine x_pure rfl _ ?_ rfl (by simp) ?_ ?_ ; rotate_left ; · (intro w0 K hK ; go_wp2_with fail ; exact rfl))
  simp only [Act.put, List.setIfInBounds_toArray, List.set_cons_succ, List.set_cons_zero]
  (refine x_quiet rfl hSt (fun _ h => h) _ ?_ rfl (by simp) ?_ ?_ ; rotate_left ; · (intro w0 hC K hK ; have hc := hC ; go_wp2_with fail ; refine (highb l pl w0 (HE.out.tl.below hc)).mono ?_ ; rintro e w2 ⟨rfl, hb2⟩ ; refine hK _ _ ⟨?_, rfl, hb2⟩ ; (try simp only [List.getElem?_toArray, List.getElem?_cons_succ, List.getElem?_cons_zero]) ; exact rfl))
  simp only [Act.put, List.setIfInBounds_toArray, List.set_cons_succ, List.set_cons_zero]
  (refine x_pure rfl _ ?_ rfl (by simp) ?_ ?_ ; rotate_left ; · (intro w0 K hK ; go_wp2_with fail ; exact rfl))
  simp only [Act.put, List.setIfInBounds_toArray, List.set_cons_succ, List.set_cons_zero]
  (refine x_quiet rfl hSt (fun _ h => h) _ ?_ rfl (by simp) ?_ ?_ ; rotate_left ; · (intro w0 hC K hK ; have hc := hC ; go_wp2_with fail ; refine (highb (Tr.node (Tr.node m1 mk me ms m2) rk re rs rr) (some gr) w0 (HE.out.tr.below hc)).mono ?_ ; rintro e w2 ⟨rfl, hb2⟩ ; refine hK _ _ ⟨?_, rfl, hb2⟩ ; (try simp only [List.getElem?_toArray, List.getElem?_cons_succ, List.getElem?_cons_zero]) ; exact rfl))
  simp only [Act.put, List.setIfInBounds_toArray, List.set_cons_succ, List.set_cons_zero]
  (refine x_pure rfl _ ?_ rfl (by simp) ?_ ?_ ; rotate_left ; · (intro w0 K hK ; go_wp2_with fail ; exact rfl))
  simp only [Act.put, List.setIfInBounds_toArray, List.set_cons_succ, List.set_cons_zero]
  (refine x_pure rfl _ ?_ rfl (by simp) ?_ ?_ ; rotate_left ; · (intro w0 K hK ; have d := HD0.out ; go_wp2_with fail ; exact rfl))
  simp only [Act.put, List.setIfInBounds_toArray, List.set_cons_succ, List.set_cons_zero]
  (refine x_pure rfl _ ?_ rfl (by simp) ?_ ?_ ; rotate_left ; · (intro w0 K hK ; go_wp2_with fail ; exact rfl))
  simp only [Act.put, List.setIfInBounds_toArray, List.set_cons_succ, List.set_cons_zero]
  first | ((with_reducible refine x_skip ?_ ?_) ; (focus rfl)) | (refine x_pure rfl _ ?_ rfl (by simp) ?_ ?_ ; rotate_left ; · (intro w0 K hK ; go_wp2_with fail ; exact rfl))
  simp only [Act.put, List.setIfInBounds_toArray, List.set_cons_succ, List.set_cons_zero]
  first | ((with_reducible refine x_skip ?_ ?_) ; (focus rfl)) | (refine x_pure rfl _ ?_ rfl (by simp) ?_ ?_ ; rotate_left ; · (intro w0 K hK ; go_wp2_with fail ; exact rfl))
  simp only [Act.put, List.setIfInBounds_toArray, List.set_cons_succ, List.set_cons_zero]
  first | ((with_reducible refine x_skip ?_ ?_) ; (focus rfl)) | (refine x_pure rfl _ ?_ rfl (by simp) ?_ ?_ ; rotate_left ; · (intro w0 K hK ; go_wp2_with fail ; exact rfl))
  simp only [Act.put, List.setIfInBounds_toArray, List.set_cons_succ, List.set_cons_zero]
  first | ((with_reducible refine x_skip ?_ ?_) ; (focus rfl)) | (refine x_quiet rfl hSt (fun _ h => h) _ ?_ rfl (by simp) ?_ ?_ ; rotate_left ; · (intro w0 hC K hK ; have hc := hC ; go_wp2_with fail ; refine ⟨?_, Below.refl _ _⟩ ; exact rfl))
  simp only [Act.put, List.setIfInBounds_toArray, List.set_cons_succ, List.set_cons_zero]
  first | ((with_reducible refine x_skip ?_ ?_) ; (focus rfl)) | (refine x_quiet rfl hSt (fun _ h => h) _ ?_ rfl (by simp) ?_ ?_ ; rotate_left ; · (intro w0 hC K hK ; have hc := hC ; go_wp2_with fail ; refine (highb (Tr.node (Tr.node m1 mk me ms m2) rk re rs rr) (some gr) w0 (HE.out.tr.below hc)).mono ?_ ; rintro e w2 ⟨rfl, hb2⟩ ; refine hK _ _ ⟨?_, rfl, hb2⟩ ; (try simp only [List.getElem?_toArray, List.getElem?_cons_succ, List.getElem?_cons_zero]) ; exact rfl))
  simp only [Act.put, List.setIfInBounds_toArray, List.set_cons_succ, List.set_cons_zero]
  first | ((with_reducible refine x_skip ?_ ?_) ; (focus rfl)) | (refine x_pure rfl _ ?_ rfl (by simp) ?_ ?_ ; rotate_left ; · (intro w0 K hK ; go_wp2_with fail ; exact rfl))
  simp only [Act.put, List.setIfInBounds_toArray, List.set_cons_succ, List.set_cons_zero]
  first | ((with_reducible refine x_skip ?_ ?_) ; (focus rfl)) | (refine x_pure rfl _ ?_ rfl (by simp) ?_ ?_ ; rotate_left ; · (intro w0 K hK ; go_wp2_with fail ; exact rfl))
  simp only [Act.put, List.setIfInBounds_toArray, List.set_cons_succ, List.set_cons_zero]
  first | ((with_reducible refine x_skip ?_ ?_) ; (focus rfl)) | (refine x_pure rfl _ ?_ rfl (by simp) ?_ ?_ ; rotate_left ; · (intro w0 K hK ; go_wp2_with fail ; exact rfl))
  simp only [Act.put, List.setIfInBounds_toArray, List.set_cons_succ, List.set_cons_zero]
  first | ((with_reducible refine x_skip ?_ ?_) ; (focus rfl)) | (refine x_quiet rfl hSt (fun _ h => h) _ ?_ rfl (by simp) ?_ ?_ ; rotate_left ; · (intro w0 hC K hK ; have hc := hC ; go_wp2_with fail ; refine ⟨?_, Below.refl _ _⟩ ; exact rfl))
  simp only [Act.put, List.setIfInBounds_toArray, List.set_cons_succ, List.set_cons_zero]
  first | ((with_reducible refine x_skip ?_ ?_) ; (focus rfl)) | (refine x_quiet rfl hSt (fun _ h => h) _ ?_ rfl (by simp) ?_ ?_ ; rotate_left ; · (intro w0 hC K hK ; have hc := hC ; go_wp2_with fail ; refine (highb (Tr.node (Tr.node m1 mk me ms m2) rk re rs rr) (some gr) w0 (HE.out.tr.below hc)).mono ?_ ; rintro e w2 ⟨rfl, hb2⟩ ; refine hK _ _ ⟨?_, rfl, hb2⟩ ; (try simp only [List.getElem?_toArray, List.getElem?_cons_succ, List.getElem?_cons_zero]) ; exact rfl))
  simp only [Act.put, List.setIfInBounds_toArray, List.set_cons_succ, List.set_cons_zero]
  first | ((with_reducible refine x_skip ?_ ?_) ; (focus rfl)) | (refine x_pure rfl _ ?_ rfl (by simp) ?_ ?_ ; rotate_left ; · (intro w0 K hK ; go_wp2_with fail ; exact rfl))
  simp only [Act.put, List.setIfInBounds_toArray, List.set_cons_succ, List.set_cons_zero]
  (refine x_pure rfl _ ?_ rfl (by simp) ?_ ?_ ; rotate_left ; · (intro w0 K hK ; go_wp2_with fail ; exact rfl))
  simp only [Act.put, List.setIfInBounds_toArray, List.set_cons_succ, List.set_cons_zero]
  (refine x_pure rfl _ ?_ rfl (by simp) ?_ ?_ ; rotate_left ; · (intro w0 K hK ; go_wp2_with fail ; exact rfl))
  simp only [Act.put, List.setIfInBounds_toArray, List.set_cons_succ, List.set_cons_zero]
  first | refine x_nil ?_ | refine x_end ?_
  rintro w0 hc
  go_wp2_with fail
  have hb0 : Below w.heap.size w w0 := by assumption
  clear hc
  refine (high_any l pl w0 (HE.out.tl.below hb0)).mono ?_
  rintro x w0 ⟨rfl, rfl⟩
  go_wp2_with fail
  refine (high_any (Tr.node (Tr.node m1 mk me ms m2) rk re rs rr) (some gr) w0 (HE.out.tr.below hb0)).mono ?_
  rintro x w0 ⟨rfl, rfl⟩
  have d := HD0.out
  go_wp2_with fail
  clear d
  have HE0 := Lib.hid (HE.out.below hb0)
  have HL0 := Lib.hid (HL.out.below hb0)
  have HK0 := Lib.hid (HK.out.below hb0)
  have HB0 := Lib.hid hb0
  clear hb0 hSt
  have hSt : Stable (fun w1 : World => (Below w0.heap.size w0 w1)) := by repeat (first | exact stable_ext _ | exact stable_blk _ _ | exact stable_true | (refine stable_bel ?_ ; (focus (first | (simp [World.size_setCell] ; done) | (simp [World.setCell] ; done)))) | refine Stable.and ?_ ?_)
  refine wp_region_x [0, 1, 2, 3, 4, 5, 6, 7, 8, 9, 10, 11, 12, 13, 14, 15, 16, 17, 18, 19] [0, 1, 0, 1, 0, 0, 0, 0, 0, 0, 1, 1, 0, 0, 0, 1, 1, 0, 0, 0] (fun w1 => (Below w0.heap.size w0 w1)) (by kernel_rfl) (by kernel_rfl) ?_ ?_
  · (first | trivial | (repeat (first | (with_reducible assumption) | (with_reducible exact Below.refl _ _) | (with_reducible refine heap_drew ?_) | (focus ((with_reducible refine heap_new ?_) ; simp ; done)) | (with_reducible apply heap_set_to) | (focus ((with_reducible refine heap_set_ne ?_ ?_ _) ; rotate_left ; (focus (first | omega | (simp ; done) | (simp ; omega))))) | (with_reducible refine heap_old ?_) | (with_reducible refine Below.drew ?_) | (with_reducible refine below_set ?_ _ _) | (focus ((with_reducible refine Below.setCell ?_ ?_ _) ; rotate_left ; (focus (first | omega | (simp ; done) | (simp ; omega))))) | (focus ((with_reducible refine Below.alloc ?_ ?_ _) ; rotate_left ; (focus (first | omega | (simp ; done) | (simp ; omega))))) | (with_reducible rfl) | (focus (simp ; done)))))
  simp only [List.map_cons, List.map_nil, List.getD_cons_zero, List.getD_cons_succ]
  (refine x_pure rfl _ ?_ rfl (by simp) ?_ ?_ ; rotate_left ; · (intro w1 K hK ; go_wp2_with fail ; exact rfl))
  simp only [Act.put, List.setIfInBounds_toArray, List.set_cons_succ, List.set_cons_zero]
  (refine x_quiet rfl hSt (fun _ h => h) _ ?_ rfl (by simp) ?_ ?_ ; rotate_left ; · (intro w1 hC K hK ; have hc := hC ; have q := blkN (HL0.out.below hc).1 ; go_wp2_with fail ; refine (highb (Tr.node (Tr.node m1 mk me ms m2) rk re rs rr) (some gr) w1 (HE0.out.tr.below hc)).mono ?_ ; rintro e w2 ⟨rfl, hb2⟩ ; refine hK _ _ ⟨?_, rfl, hb2⟩ ; (try simp only [List.getElem?_toArray, List.getElem?_cons_succ, List.getElem?_cons_zero]) ; exact rfl))
  simp only [Act.put, List.setIfInBounds_toArray, List.set_cons_succ, List.set_cons_zero]
  (refine x_pure rfl _ ?_ rfl (by simp) ?_ ?_ ; rotate_left ; · (intro w1 K hK ; go_wp2_with fail ; exact rfl))
  simp only [Act.put, List.setIfInBounds_toArray, List.set_cons_succ, List.set_cons_zero]
  (refine x_quiet rfl hSt (fun _ h => h) _ ?_ rfl (by simp) ?_ ?_ ; rotate_left ; · (intro w1 hC K hK ; have hc := hC ; have q := blkN (HL0.out.below hc).1 ; go_wp2_with fail ; refine (highb l pl w1 (HE0.out.tl.below hc)).mono ?_ ; rintro e w2 ⟨rfl, hb2⟩ ; refine hK _ _ ⟨?_, rfl, hb2⟩ ; (try simp only [List.getElem?_toArray, List.getElem?_cons_succ, List.getElem?_cons_zero]) ; exact rfl))
  simp only [Act.put, List.setIfInBounds_toArray, List.set_cons_succ, List.set_cons_zero]
  (refine x_pure rfl _ ?_ rfl (by simp) ?_ ?_ ; rotate_left ; · (intro w1 K hK ; go_wp2_with fail ; exact rfl))
  simp only [Act.put, List.setIfInBounds_toArray, List.set_cons_succ, List.set_cons_zero]
  (refine x_pure rfl _ ?_ rfl (by simp) ?_ ?_ ; rotate_left ; · (intro w1 K hK ; have d := HD1.out ; go_wp2_with fail ; exact rfl))
  simp only [Act.put, List.setIfInBounds_toArray, List.set_cons_succ, List.set_cons_zero]
  (refine x_pure rfl _ ?_ rfl (by simp) ?_ ?_ ; rotate_left ; · (intro w1 K hK ; go_wp2_with fail ; exact rfl))
  simp only [Act.put, List.setIfInBounds_toArray, List.set_cons_succ, List.set_cons_zero]
  first | ((with_reducible refine x_skip ?_ ?_) ; (focus rfl)) | (refine x_pure rfl _ ?_ rfl (by simp) ?_ ?_ ; rotate_left ; · (intro w1 K hK ; go_wp2_with fail ; exact rfl))
  simp only [Act.put, List.setIfInBounds_toArray, List.set_cons_succ, List.set_cons_zero]
  first | ((with_reducible refine x_skip ?_ ?_) ; (focus rfl)) | (refine x_pure rfl _ ?_ rfl (by simp) ?_ ?_ ; rotate_left ; · (intro w1 K hK ; go_wp2_with fail ; exact rfl))
  simp only [Act.put, List.setIfInBounds_toArray, List.set_cons_succ, List.set_cons_zero]
  first | ((with_reducible refine x_skip ?_ ?_) ; (focus rfl)) | (refine x_pure rfl _ ?_ rfl (by simp) ?_ ?_ ; rotate_left ; · (intro w1 K hK ; go_wp2_with fail ; exact rfl))
  simp only [Act.put, List.setIfInBounds_toArray, List.set_cons_succ, List.set_cons_zero]
  first | ((with_reducible refine x_skip ?_ ?_) ; (focus rfl)) | (refine x_quiet rfl hSt (fun _ h => h) _ ?_ rfl (by simp) ?_ ?_ ; rotate_left ; · (intro w1 hC K hK ; have hc := hC ; have q := blkN (HL0.out.below hc).1 ; go_wp2_with fail ; refine ⟨?_, Below.refl _ _⟩ ; exact rfl))
  simp only [Act.put, List.setIfInBounds_toArray, List.set_cons_succ, List.set_cons_zero]
  first | ((with_reducible refine x_skip ?_ ?_) ; (focus rfl)) | (refine x_quiet rfl hSt (fun _ h => h) _ ?_ rfl (by simp) ?_ ?_ ; rotate_left ; · (intro w1 hC K hK ; have hc := hC ; have q := blkN (HL0.out.below hc).1 ; go_wp2_with fail ; refine (highb rr prr w1 (HL0.out.below hc).2.2).mono ?_ ; rintro e w2 ⟨rfl, hb2⟩ ; refine hK _ _ ⟨?_, rfl, hb2⟩ ; (try simp only [List.getElem?_toArray, List.getElem?_cons_succ, List.getElem?_cons_zero]) ; exact rfl))
  simp only [Act.put, List.setIfInBounds_toArray, List.set_cons_succ, List.set_cons_zero]
  first | ((with_reducible refine x_skip ?_ ?_) ; (focus rfl)) | (refine x_pure rfl _ ?_ rfl (by simp) ?_ ?_ ; rotate_left ; · (intro w1 K hK ; go_wp2_with fail ; exact rfl))
  simp only [Act.put, List.setIfInBounds_toArray, List.set_cons_succ, List.set_cons_zero]
  first | ((with_reducible refine x_skip ?_ ?_) ; (focus rfl)) | (refine x_pure rfl _ ?_ rfl (by simp) ?_ ?_ ; rotate_left ; · (intro w1 K hK ; go_wp2_with fail ; exact rfl))
  simp only [Act.put, List.setIfInBounds_toArray, List.set_cons_succ, List.set_cons_zero]
  first | ((with_reducible refine x_skip ?_ ?_) ; (focus rfl)) | (refine x_pure rfl _ ?_ rfl (by simp) ?_ ?_ ; rotate_left ; · (intro w1 K hK ; go_wp2_with fail ; exact rfl))
  simp only [Act.put, List.setIfInBounds_toArray, List.set_cons_succ, List.set_cons_zero]
  first | ((with_reducible refine x_skip ?_ ?_) ; (focus rfl)) | (refine x_quiet rfl hSt (fun _ h => h) _ ?_ rfl (by simp) ?_ ?_ ; rotate_left ; · (intro w1 hC K hK ; have hc := hC ; have q := blkN (HL0.out.below hc).1 ; go_wp2_with fail ; refine ⟨?_, Below.refl _ _⟩ ; exact rfl))
  simp only [Act.put, List.setIfInBounds_toArray, List.set_cons_succ, List.set_cons_zero]
  first | ((with_reducible refine x_skip ?_ ?_) ; (focus rfl)) | (refine x_quiet rfl hSt (fun _ h => h) _ ?_ rfl (by simp) ?_ ?_ ; rotate_left ; · (intro w1 hC K hK ; have hc := hC ; have q := blkN (HL0.out.below hc).1 ; go_wp2_with fail ; refine (highb (Tr.node m1 mk me ms m2) (some gm) w1 (HL0.out.below hc).2.1).mono ?_ ; rintro e w2 ⟨rfl, hb2⟩ ; refine hK _ _ ⟨?_, rfl, hb2⟩ ; (try simp only [List.getElem?_toArray, List.getElem?_cons_succ, List.getElem?_cons_zero]) ; exact rfl))
  simp only [Act.put, List.setIfInBounds_toArray, List.set_cons_succ, List.set_cons_zero]
  first | ((with_reducible refine x_skip ?_ ?_) ; (focus rfl)) | (refine x_pure rfl _ ?_ rfl (by simp) ?_ ?_ ; rotate_left ; · (intro w1 K hK ; have d := HG.out.1 ; have d2 := HG.out.2 ; go_wp2_with fail ; exact rfl))
  simp only [Act.put, List.setIfInBounds_toArray, List.set_cons_succ, List.set_cons_zero]
  (refine x_pure rfl _ ?_ rfl (by simp) ?_ ?_ ; rotate_left ; · (intro w1 K hK ; go_wp2_with fail ; exact rfl))
  simp only [Act.put, List.setIfInBounds_toArray, List.set_cons_succ, List.set_cons_zero]
  (refine x_pure rfl _ ?_ rfl (by simp) ?_ ?_ ; rotate_left ; · (intro w1 K hK ; go_wp2_with fail ; exact rfl))
  simp only [Act.put, List.setIfInBounds_toArray, List.set_cons_succ, List.set_cons_zero]
  first | refine x_nil ?_ | refine x_end ?_
  rintro w1 hc
  have hb1 : Below w0.heap.size w0 w1 := by assumption
  have HE1 := Lib.hid (HE0.out.below hb1)
  have HL1 := Lib.hid (HL0.out.below hb1)
  have HK1 := Lib.hid (HK0.out.below hb1)
  have HB1 := Lib.hid (HB0.out.trans (hb1.mono HB0.out.size))
  clear hb1 hSt hc
  go_wp2_with fail
  refine (high_any (Tr.node (Tr.node m1 mk me ms m2) rk re rs rr) (some gr) w1 HE1.out.tr).mono ?_
  rintro x w1 ⟨rfl, rfl⟩
  go_wp2_with fail
  refine (high_any l pl w1 HE1.out.tl).mono ?_
  rintro x w1 ⟨rfl, rfl⟩
  have q := blkN HL1.out.1
  have d := HD1.out
  go_wp2_with fail
  clear d
  clear hh0 hh1 hh2 hh3 q
  rw [pa_some]
  have hDC : ∀ zw zx : World, (Below w1.heap.size w1 zw) → (Keep (fun k => k = mb)) zw zx → (fun w8 : World => (Keep (fun k => k = mb) w1 w8)) zx := fun _ _ hd hg => (Keep.of_below hd).trans hg
  have hSt : Stable (fun w8 : World => Below w1.heap.size w1 w8) := by repeat (first | exact stable_ext _ | exact stable_blk _ _ | exact stable_true | (refine stable_bel ?_ ; (focus (first | (simp [World.size_setCell] ; done) | (simp [World.setCell] ; done)))) | refine Stable.and ?_ ?_)
  refine G.wp_region_x (G := Keep (fun k => k = mb)) (D0 := fun w8 : World => Below w1.heap.size w1 w8) [0, 1, 2, 3, 4, 5, 6, 7, 8, 10, 11, 12, 13, 14, 15, 16, 17, 18, 19, 9, 20, 21, 22] [0, 0, 0, 0, 0, 0, 0, 0, 1, 4, 0, 0, 0, 0, 0, 1, 0, 0, 0, 1, 4, 3, 0] (fun w8 => (Keep (fun k => k = mb) w1 w8)) (by kernel_rfl) (by kernel_rfl) ?_ ?_
  · (exact (Below.refl _ _).drew)
  simp only [List.map_cons, List.map_nil, List.getD_cons_zero, List.getD_cons_succ]
  (refine G.x_pure rfl _ ?_ rfl (by simp) ?_ ?_ ; rotate_left ; · (intro w8 K hK ; go_wp2_with fail ; exact rfl))
  simp only [Act.put, List.setIfInBounds_toArray, List.set_cons_succ, List.set_cons_zero]
  (refine G.x_pure rfl _ ?_ rfl (by simp) ?_ ?_ ; rotate_left ; · (intro w8 K hK ; go_wp2_with fail ; exact rfl))
  simp only [Act.put, List.setIfInBounds_toArray, List.set_cons_succ, List.set_cons_zero]
  (refine G.x_pure rfl _ ?_ rfl (by simp) ?_ ?_ ; rotate_left ; · (intro w8 K hK ; go_wp2_with fail ; exact rfl))
  simp only [Act.put, List.setIfInBounds_toArray, List.set_cons_succ, List.set_cons_zero]
  (refine G.x_pure rfl _ ?_ rfl (by simp) ?_ ?_ ; rotate_left ; · (intro w8 K hK ; go_wp2_with fail ; exact rfl))
  simp only [Act.put, List.setIfInBounds_toArray, List.set_cons_succ, List.set_cons_zero]
  (refine G.x_pure rfl _ ?_ rfl (by simp) ?_ ?_ ; rotate_left ; · (intro w8 K hK ; go_wp2_with fail ; exact rfl))
  simp only [Act.put, List.setIfInBounds_toArray, List.set_cons_succ, List.set_cons_zero]
  (refine G.x_pure rfl _ ?_ rfl (by simp) ?_ ?_ ; rotate_left ; · (intro w8 K hK ; go_wp2_with fail ; exact rfl))
  simp only [Act.put, List.setIfInBounds_toArray, List.set_cons_succ, List.set_cons_zero]
  (refine G.x_pure rfl _ ?_ rfl (by simp) ?_ ?_ ; rotate_left ; · (intro w8 K hK ; go_wp2_with fail ; exact rfl))
  simp only [Act.put, List.setIfInBounds_toArray, List.set_cons_succ, List.set_cons_zero]
  (refine G.x_pure rfl _ ?_ rfl (by simp) ?_ ?_ ; rotate_left ; · (intro w8 K hK ; go_wp2_with fail ; exact rfl))
  simp only [Act.put, List.setIfInBounds_toArray, List.set_cons_succ, List.set_cons_zero]
  (refine G.x_quiet rfl hSt hDC _ ?_ rfl (by simp) ?_ ?_ ; rotate_left ; · (intro w8 hC K hK ; have hc := hC ; (first | (have q := blkN (HE1.out.env.node hc HL1.out.1)) | (have q := blkN (blk_below HL1.out.1 hc))) ; (first | (have q2 := blkN (HE1.out.env.node hc HK1.out.1)) | (have q2 := blkN (blk_below HK1.out.1 hc))) ; go_wp2_with fail ; refine ⟨?_, Below.refl _ _⟩ ; exact rfl))
  simp only [Act.put, List.setIfInBounds_toArray, List.set_cons_succ, List.set_cons_zero]
  (refine G.x_pure rfl _ ?_ rfl (by simp) ?_ ?_ ; rotate_left ; · (intro w8 K hK ; go_wp2_with fail ; exact rfl))
  simp only [Act.put, List.setIfInBounds_toArray, List.set_cons_succ, List.set_cons_zero]
  (refine G.x_pure rfl _ ?_ rfl (by simp) ?_ ?_ ; rotate_left ; · (intro w8 K hK ; go_wp2_with fail ; exact rfl))
  simp only [Act.put, List.setIfInBounds_toArray, List.set_cons_succ, List.set_cons_zero]
  (refine G.x_pure rfl _ ?_ rfl (by simp) ?_ ?_ ; rotate_left ; · (intro w8 K hK ; go_wp2_with fail ; exact rfl))
  simp only [Act.put, List.setIfInBounds_toArray, List.set_cons_succ, List.set_cons_zero]
  (refine G.x_pure rfl _ ?_ rfl (by simp) ?_ ?_ ; rotate_left ; · (intro w8 K hK ; go_wp2_with fail ; exact rfl))
  simp only [Act.put, List.setIfInBounds_toArray, List.set_cons_succ, List.set_cons_zero]
  (refine G.x_pure rfl _ ?_ rfl (by simp) ?_ ?_ ; rotate_left ; · (intro w8 K hK ; go_wp2_with fail ; exact rfl))
  simp only [Act.put, List.setIfInBounds_toArray, List.set_cons_succ, List.set_cons_zero]
  (refine G.x_quiet rfl hSt hDC _ ?_ rfl (by simp) ?_ ?_ ; rotate_left ; · (intro w8 hC K hK ; have hc := hC ; (first | (have q := blkN (HE1.out.env.node hc HL1.out.1)) | (have q := blkN (blk_below HL1.out.1 hc))) ; (first | (have q2 := blkN (HE1.out.env.node hc HK1.out.1)) | (have q2 := blkN (blk_below HK1.out.1 hc))) ; go_wp2_with fail ; refine ⟨?_, Below.refl _ _⟩ ; exact rfl))
  simp only [Act.put, List.setIfInBounds_toArray, List.set_cons_succ, List.set_cons_zero]
  (refine G.x_pure rfl _ ?_ rfl (by simp) ?_ ?_ ; rotate_left ; · (intro w8 K hK ; go_wp2_with fail ; exact rfl))
  simp only [Act.put, List.setIfInBounds_toArray, List.set_cons_succ, List.set_cons_zero]
  (refine G.x_pure rfl _ ?_ rfl (by simp) ?_ ?_ ; rotate_left ; · (intro w8 K hK ; go_wp2_with fail ; exact rfl))
  simp only [Act.put, List.setIfInBounds_toArray, List.set_cons_succ, List.set_cons_zero]
  (refine G.x_pure rfl _ ?_ rfl (by simp) ?_ ?_ ; rotate_left ; · (intro w8 K hK ; go_wp2_with fail ; exact rfl))
  simp only [Act.put, List.setIfInBounds_toArray, List.set_cons_succ, List.set_cons_zero]
  (refine G.x_quiet rfl hSt hDC _ ?_ rfl (by simp) ?_ ?_ ; rotate_left ; · (intro w8 hC K hK ; have hc := hC ; (first | (have q := blkN (HE1.out.env.node hc HL1.out.1)) | (have q := blkN (blk_below HL1.out.1 hc))) ; (first | (have q2 := blkN (HE1.out.env.node hc HK1.out.1)) | (have q2 := blkN (blk_below HK1.out.1 hc))) ; go_wp2_with fail ; refine ⟨?_, Below.refl _ _⟩ ; exact rfl))
  simp only [Act.put, List.setIfInBounds_toArray, List.set_cons_succ, List.set_cons_zero]
  refine G.x_make rfl ?_
  intro w8 hD K hK ; have hc := hD ; (first | (have q := blkN (HE1.out.env.node hc HL1.out.1)) | (have q := blkN (blk_below HL1.out.1 hc))) ; (first | (have q2 := blkN (HE1.out.env.node hc HK1.out.1)) | (have q2 := blkN (blk_below HK1.out.1 hc)))
  go_wp2_with fail
  refine (over_any mb tb gx M k e s t0 pl0 pr0 rt m0 h0 l m1 pl pm1 w8 (HE1.out.env.below hc).1 (by omega) (HE1.out.env.below hc).2 (blk_below HE1.out.x hc) (HE1.out.tl.below hc) (HK1.out.below hc).2.1 (by omega)).mono ?_
  rintro x9 w9 ⟨g1, c1, rfl, ht1, hc1, hm1, hk1⟩
  have hk19 := (Keep.of_below hc).trans hk1
  have HM := Lib.hid (And.intro (HE1.out.env.keep hk19 hm1) (And.intro ht1 (And.intro (HE1.out.env.node hk19 HL1.out.1) (And.intro (HE1.out.env.kids hk19 HK1.out) (And.intro (HE1.out.env.tree hk19 HL1.out.2.2) hk19)))))
  clear ht1 hm1 hk19 q q2 hc
  refine hK _ _ hk1 ?_
  try simp only [Act.put, List.setIfInBounds_toArray, List.set_cons_succ, List.set_cons_zero]
  refine G.x_make rfl ?_
  intro wy hyb K hK
  go_wp2_with fail
  refine (over_any mb tb gr (M + c1) rk re rs _ _ _ rt _ _ m2 rr pm2 prr wy (HM.out.1.below hyb).1 (by omega) (HM.out.1.below hyb).2 (blk_below HM.out.2.2.1 hyb) (HM.out.2.2.2.1.below hyb).2.2 (HM.out.2.2.2.2.1.below hyb) (by omega)).mono ?_
  rintro x10 w10 ⟨g2, c2, rfl, ht2, hc2, hm2, hk2⟩
  have hky := (Keep.of_below hyb).trans hk2
  have HN := Lib.hid (And.intro (HM.out.1.keep hky hm2) (And.intro (HM.out.1.tree hky HM.out.2.1) (And.intro ht2 (And.intro (HM.out.1.kids hky HM.out.2.2.2.1) (HM.out.2.2.2.2.2.trans hky)))))
  clear ht2 hm2 hky hyb
  refine hK _ _ hk2 ?_
  try simp only [Act.put, List.setIfInBounds_toArray, List.set_cons_succ, List.set_cons_zero]
  refine G.x_write rfl ?_
  intro wz hzb K hK
  go_wp2_with fail
  refine (over_any mb tb gm (M + c1 + c2) mk me ms _ _ _ rt _ _ (Tr.node l k e s m1) (Tr.node m2 rk re rs rr) (some g1) (some g2) wz (HN.out.1.below hzb).1 (by omega) (HN.out.1.below hzb).2 (HN.out.2.2.2.1.below hzb).1 (HN.out.2.1.below hzb) (HN.out.2.2.1.below hzb) (by simp only [Tr.size]; omega)).mono ?_
  rintro x11 w11 ⟨g3, c3, rfl, ht3, hc3, hm3, hk3⟩
  have HZ := Lib.hid (And.intro ht3 (And.intro hm3 ((HN.out.2.2.2.2.trans (Keep.of_below hzb)).trans hk3)))
  clear ht3 hm3 hk3
  refine hK _ _ ?_
  try simp only [Act.put, List.setIfInBounds_toArray, List.set_cons_succ, List.set_cons_zero]
  (refine G.x_pure rfl _ ?_ rfl (by simp) ?_ ?_ ; rotate_left ; · (intro w8 K hK ; go_wp2_with fail ; exact rfl))
  simp only [Act.put, List.setIfInBounds_toArray, List.set_cons_succ, List.set_cons_zero]
  first | refine G.x_nil ?_ | refine G.x_end ?_
  rintro w11 rfl
  go_wp2_with fail
  go_ret
  exact ⟨g3, c1 + c2 + c3, rfl, HZ.out.1, by omega, by have := HZ.out.2.1; rwa [Nat.add_assoc, Nat.add_assoc, ← Nat.add_assoc c1] at this, (Keep.of_below HB1.out).trans HZ.out.2.2⟩
set_option maxRecDepth 100000 in
set_option maxHeartbeats 8000000 in
/-- No rotation. -/
theorem even_n (mb tb gx M : Nat) (k : ByteArray) (e : Ent) (s : T3) (t0 : T3) (pl0 pr0 rt : Value) (m0 h0 : Nat) (l r : Tr) (pl pr : Option Nat) (w : World)
    (h : EvAt w mb tb gx M k e s t0 pl0 pr0 rt m0 h0 l r pl pr) (h1 : l.high ≤ r.high + 1) (h2 : r.high ≤ l.high + 1) :
    Calls Tryz.prog 210 #[.pointer (some ⟨tb, 0, none⟩), .pointer (some ⟨gx, 0, none⟩), .pointer (pa pl), .pointer (pa pr)] w fun x w' =>
      ∃ g c, x = .returned (.pointer (pa (some g))) ∧ TreeAt w' (.node l k e s r) (some g) ∧ c ≤ 6 ∧ Mt w' mb (M + c) ∧ Keep (fun k => k = mb) w w' := by
  have hsz := h.size
  have hf := h.few
  have hh0 := (l).high_le
  have hh1 := (r).high_le
  have HE := Lib.hid h
  clear h
  have HD0 : Hid (decide ((((r).high : Nat) : Int) + 1 < (((l).high : Nat) : Int)) = false) := by simp only [Hid, decide_eq_false_iff_not]; omega
  have HD1 : Hid (decide ((((l).high : Nat) : Int) + 1 < (((r).high : Nat) : Int)) = false) := by simp only [Hid, decide_eq_false_iff_not]; omega
  go_enter Tryz.func210, Tryz.ntmps210
  go_wp2_with fail
  have hSt : Stable (fun w0 : World => (Below w.heap.size w w0)) := by repeat (first | exact stable_ext _ | exact stable_blk _ _ | exact stable_true | (refine stable_bel ?_ ; (focus (first | (simp [World.size_setCell] ; done) | (simp [World.setCell] ; done)))) | refine Stable.and ?_ ?_)
  refine wp_region_x [0, 1, 2, 3, 4, 5, 6, 7, 8, 9, 10, 11, 12, 13, 14, 15, 16, 17, 18, 19] [0, 1, 0, 1, 0, 0, 0, 0, 0, 0, 1, 1, 0, 0, 0, 1, 1, 0, 0, 0] (fun w0 => (Below w.heap.size w w0)) (by kernel_rfl) (by kernel_rfl) ?_ ?_
  · (first | trivial | (repeat (first | (with_reducible assumption) | (with_reducible exact Below.refl _ _) | (with_reducible refine heap_drew ?_) | (focus ((with_reducible refine heap_new ?_) ; simp ; done)) | (with_reducible apply heap_set_to) | (focus ((with_reducible refine heap_set_ne ?_ ?_ _) ; rotate_left ; (focus (first | omega | (simp ; done) | (simp ; omega))))) | (with_reducible refine heap_old ?_) | (with_reducible refine Below.drew ?_) | (with_reducible refine below_set ?_ _ _) | (focus ((with_reducible refine Below.setCell ?_ ?_ _) ; rotate_left ; (focus (first | omega | (simp ; done) | (simp ; omega))))) | (focus ((with_reducible refine Below.alloc ?_ ?_ _) ; rotate_left ; (focus (first | omega | (simp ; done) | (simp ; omega))))) | (with_reducible rfl) | (focus (simp ; done)))))
  simp only [List.map_cons, List.map_nil, List.getD_cons_zero, List.getD_cons_succ]
  (refine x_pure rfl _ ?_ rfl (by simp) ?_ ?_ ; rotate_left ; · (intro w0 K hK ; go_wp2_with fail ; exact rfl))
  simp only [Act.put, List.setIfInBounds_toArray, List.set_cons_succ, List.set_cons_zero]
  (refine x_quiet rfl hSt (fun _ h => h) _ ?_ rfl (by simp) ?_ ?_ ; rotate_left ; · (intro w0 hC K hK ; have hc := hC ; go_wp2_with fail ; refine (highb l pl w0 (HE.out.tl.below hc)).mono ?_ ; rintro e w2 ⟨rfl, hb2⟩ ; refine hK _ _ ⟨?_, rfl, hb2⟩ ; (try simp only [List.getElem?_toArray, List.getElem?_cons_succ, List.getElem?_cons_zero]) ; exact rfl))
  simp only [Act.put, List.setIfInBounds_toArray, List.set_cons_succ, List.set_cons_zero]
  (refine x_pure rfl _ ?_ rfl (by simp) ?_ ?_ ; rotate_left ; · (intro w0 K hK ; go_wp2_with fail ; exact rfl))
  simp only [Act.put, List.setIfInBounds_toArray, List.set_cons_succ, List.set_cons_zero]
  (refine x_quiet rfl hSt (fun _ h => h) _ ?_ rfl (by simp) ?_ ?_ ; rotate_left ; · (intro w0 hC K hK ; have hc := hC ; go_wp2_with fail ; refine (highb r pr w0 (HE.out.tr.below hc)).mono ?_ ; rintro e w2 ⟨rfl, hb2⟩ ; refine hK _ _ ⟨?_, rfl, hb2⟩ ; (try simp only [List.getElem?_toArray, List.getElem?_cons_succ, List.getElem?_cons_zero]) ; exact rfl))
  simp only [Act.put, List.setIfInBounds_toArray, List.set_cons_succ, List.set_cons_zero]
  (refine x_pure rfl _ ?_ rfl (by simp) ?_ ?_ ; rotate_left ; · (intro w0 K hK ; go_wp2_with fail ; exact rfl))
  simp only [Act.put, List.setIfInBounds_toArray, List.set_cons_succ, List.set_cons_zero]
  (refine x_pure rfl _ ?_ rfl (by simp) ?_ ?_ ; rotate_left ; · (intro w0 K hK ; have d := HD0.out ; go_wp2_with fail ; exact rfl))
  simp only [Act.put, List.setIfInBounds_toArray, List.set_cons_succ, List.set_cons_zero]
  (refine x_pure rfl _ ?_ rfl (by simp) ?_ ?_ ; rotate_left ; · (intro w0 K hK ; go_wp2_with fail ; exact rfl))
  simp only [Act.put, List.setIfInBounds_toArray, List.set_cons_succ, List.set_cons_zero]
  first | ((with_reducible refine x_skip ?_ ?_) ; (focus rfl)) | (refine x_pure rfl _ ?_ rfl (by simp) ?_ ?_ ; rotate_left ; · (intro w0 K hK ; go_wp2_with fail ; exact rfl))
  simp only [Act.put, List.setIfInBounds_toArray, List.set_cons_succ, List.set_cons_zero]
  first | ((with_reducible refine x_skip ?_ ?_) ; (focus rfl)) | (refine x_pure rfl _ ?_ rfl (by simp) ?_ ?_ ; rotate_left ; · (intro w0 K hK ; go_wp2_with fail ; exact rfl))
  simp only [Act.put, List.setIfInBounds_toArray, List.set_cons_succ, List.set_cons_zero]
  first | ((with_reducible refine x_skip ?_ ?_) ; (focus rfl)) | (refine x_pure rfl _ ?_ rfl (by simp) ?_ ?_ ; rotate_left ; · (intro w0 K hK ; go_wp2_with fail ; exact rfl))
  simp only [Act.put, List.setIfInBounds_toArray, List.set_cons_succ, List.set_cons_zero]
  first | ((with_reducible refine x_skip ?_ ?_) ; (focus rfl)) | (refine x_quiet rfl hSt (fun _ h => h) _ ?_ rfl (by simp) ?_ ?_ ; rotate_left ; · (intro w0 hC K hK ; have hc := hC ; go_wp2_with fail ; refine ⟨?_, Below.refl _ _⟩ ; exact rfl))
  simp only [Act.put, List.setIfInBounds_toArray, List.set_cons_succ, List.set_cons_zero]
  first | ((with_reducible refine x_skip ?_ ?_) ; (focus rfl)) | (refine x_quiet rfl hSt (fun _ h => h) _ ?_ rfl (by simp) ?_ ?_ ; rotate_left ; · (intro w0 hC K hK ; have hc := hC ; go_wp2_with fail ; refine (highb r pr w0 (HE.out.tr.below hc)).mono ?_ ; rintro e w2 ⟨rfl, hb2⟩ ; refine hK _ _ ⟨?_, rfl, hb2⟩ ; (try simp only [List.getElem?_toArray, List.getElem?_cons_succ, List.getElem?_cons_zero]) ; exact rfl))
  simp only [Act.put, List.setIfInBounds_toArray, List.set_cons_succ, List.set_cons_zero]
  first | ((with_reducible refine x_skip ?_ ?_) ; (focus rfl)) | (refine x_pure rfl _ ?_ rfl (by simp) ?_ ?_ ; rotate_left ; · (intro w0 K hK ; go_wp2_with fail ; exact rfl))
  simp only [Act.put, List.setIfInBounds_toArray, List.set_cons_succ, List.set_cons_zero]
  first | ((with_reducible refine x_skip ?_ ?_) ; (focus rfl)) | (refine x_pure rfl _ ?_ rfl (by simp) ?_ ?_ ; rotate_left ; · (intro w0 K hK ; go_wp2_with fail ; exact rfl))
  simp only [Act.put, List.setIfInBounds_toArray, List.set_cons_succ, List.set_cons_zero]
  first | ((with_reducible refine x_skip ?_ ?_) ; (focus rfl)) | (refine x_pure rfl _ ?_ rfl (by simp) ?_ ?_ ; rotate_left ; · (intro w0 K hK ; go_wp2_with fail ; exact rfl))
  simp only [Act.put, List.setIfInBounds_toArray, List.set_cons_succ, List.set_cons_zero]
  first | ((with_reducible refine x_skip ?_ ?_) ; (focus rfl)) | (refine x_quiet rfl hSt (fun _ h => h) _ ?_ rfl (by simp) ?_ ?_ ; rotate_left ; · (intro w0 hC K hK ; have hc := hC ; go_wp2_with fail ; refine ⟨?_, Below.refl _ _⟩ ; exact rfl))
  simp only [Act.put, List.setIfInBounds_toArray, List.set_cons_succ, List.set_cons_zero]
  first | ((with_reducible refine x_skip ?_ ?_) ; (focus rfl)) | (refine x_quiet rfl hSt (fun _ h => h) _ ?_ rfl (by simp) ?_ ?_ ; rotate_left ; · (intro w0 hC K hK ; have hc := hC ; go_wp2_with fail ; refine (highb r pr w0 (HE.out.tr.below hc)).mono ?_ ; rintro e w2 ⟨rfl, hb2⟩ ; refine hK _ _ ⟨?_, rfl, hb2⟩ ; (try simp only [List.getElem?_toArray, List.getElem?_cons_succ, List.getElem?_cons_zero]) ; exact rfl))
  simp only [Act.put, List.setIfInBounds_toArray, List.set_cons_succ, List.set_cons_zero]
  first | ((with_reducible refine x_skip ?_ ?_) ; (focus rfl)) | (refine x_pure rfl _ ?_ rfl (by simp) ?_ ?_ ; rotate_left ; · (intro w0 K hK ; go_wp2_with fail ; exact rfl))
  simp only [Act.put, List.setIfInBounds_toArray, List.set_cons_succ, List.set_cons_zero]
  (refine x_pure rfl _ ?_ rfl (by simp) ?_ ?_ ; rotate_left ; · (intro w0 K hK ; go_wp2_with fail ; exact rfl))
  simp only [Act.put, List.setIfInBounds_toArray, List.set_cons_succ, List.set_cons_zero]
  (refine x_pure rfl _ ?_ rfl (by simp) ?_ ?_ ; rotate_left ; · (intro w0 K hK ; go_wp2_with fail ; exact rfl))
  simp only [Act.put, List.setIfInBounds_toArray, List.set_cons_succ, List.set_cons_zero]
  first | refine x_nil ?_ | refine x_end ?_
  rintro w0 hc
  go_wp2_with fail
  have hb0 : Below w.heap.size w w0 := by assumption
  clear hc hSt
  have HE0 := Lib.hid (HE.out.below hb0)
  have HB0 := Lib.hid hb0
  clear hb0
  refine (high_any l pl w0 HE0.out.tl).mono ?_
  rintro x w0 ⟨rfl, rfl⟩
  go_wp2_with fail
  refine (high_any r pr w0 HE0.out.tr).mono ?_
  rintro x w0 ⟨rfl, rfl⟩
  have d := HD0.out
  go_wp2_with fail
  clear d
  have hSt : Stable (fun w1 : World => (Below w0.heap.size w0 w1)) := by repeat (first | exact stable_ext _ | exact stable_blk _ _ | exact stable_true | (refine stable_bel ?_ ; (focus (first | (simp [World.size_setCell] ; done) | (simp [World.setCell] ; done)))) | refine Stable.and ?_ ?_)
  refine wp_region_x [0, 1, 2, 3, 4, 5, 6, 7, 8, 9, 10, 11, 12, 13, 14, 15, 16, 17, 18, 19] [0, 1, 0, 1, 0, 0, 0, 0, 0, 0, 1, 1, 0, 0, 0, 1, 1, 0, 0, 0] (fun w1 => (Below w0.heap.size w0 w1)) (by kernel_rfl) (by kernel_rfl) ?_ ?_
  · (first | trivial | (repeat (first | (with_reducible assumption) | (with_reducible exact Below.refl _ _) | (with_reducible refine heap_drew ?_) | (focus ((with_reducible refine heap_new ?_) ; simp ; done)) | (with_reducible apply heap_set_to) | (focus ((with_reducible refine heap_set_ne ?_ ?_ _) ; rotate_left ; (focus (first | omega | (simp ; done) | (simp ; omega))))) | (with_reducible refine heap_old ?_) | (with_reducible refine Below.drew ?_) | (with_reducible refine below_set ?_ _ _) | (focus ((with_reducible refine Below.setCell ?_ ?_ _) ; rotate_left ; (focus (first | omega | (simp ; done) | (simp ; omega))))) | (focus ((with_reducible refine Below.alloc ?_ ?_ _) ; rotate_left ; (focus (first | omega | (simp ; done) | (simp ; omega))))) | (with_reducible rfl) | (focus (simp ; done)))))
  simp only [List.map_cons, List.map_nil, List.getD_cons_zero, List.getD_cons_succ]
  (refine x_pure rfl _ ?_ rfl (by simp) ?_ ?_ ; rotate_left ; · (intro w1 K hK ; go_wp2_with fail ; exact rfl))
  simp only [Act.put, List.setIfInBounds_toArray, List.set_cons_succ, List.set_cons_zero]
  (refine x_quiet rfl hSt (fun _ h => h) _ ?_ rfl (by simp) ?_ ?_ ; rotate_left ; · (intro w1 hC K hK ; have hc := hC ; go_wp2_with fail ; refine (highb r pr w1 (HE0.out.tr.below hc)).mono ?_ ; rintro e w2 ⟨rfl, hb2⟩ ; refine hK _ _ ⟨?_, rfl, hb2⟩ ; (try simp only [List.getElem?_toArray, List.getElem?_cons_succ, List.getElem?_cons_zero]) ; exact rfl))
  simp only [Act.put, List.setIfInBounds_toArray, List.set_cons_succ, List.set_cons_zero]
  (refine x_pure rfl _ ?_ rfl (by simp) ?_ ?_ ; rotate_left ; · (intro w1 K hK ; go_wp2_with fail ; exact rfl))
  simp only [Act.put, List.setIfInBounds_toArray, List.set_cons_succ, List.set_cons_zero]
  (refine x_quiet rfl hSt (fun _ h => h) _ ?_ rfl (by simp) ?_ ?_ ; rotate_left ; · (intro w1 hC K hK ; have hc := hC ; go_wp2_with fail ; refine (highb l pl w1 (HE0.out.tl.below hc)).mono ?_ ; rintro e w2 ⟨rfl, hb2⟩ ; refine hK _ _ ⟨?_, rfl, hb2⟩ ; (try simp only [List.getElem?_toArray, List.getElem?_cons_succ, List.getElem?_cons_zero]) ; exact rfl))
  simp only [Act.put, List.setIfInBounds_toArray, List.set_cons_succ, List.set_cons_zero]
  (refine x_pure rfl _ ?_ rfl (by simp) ?_ ?_ ; rotate_left ; · (intro w1 K hK ; go_wp2_with fail ; exact rfl))
  simp only [Act.put, List.setIfInBounds_toArray, List.set_cons_succ, List.set_cons_zero]
  (refine x_pure rfl _ ?_ rfl (by simp) ?_ ?_ ; rotate_left ; · (intro w1 K hK ; have d := HD1.out ; go_wp2_with fail ; exact rfl))
  simp only [Act.put, List.setIfInBounds_toArray, List.set_cons_succ, List.set_cons_zero]
  (refine x_pure rfl _ ?_ rfl (by simp) ?_ ?_ ; rotate_left ; · (intro w1 K hK ; go_wp2_with fail ; exact rfl))
  simp only [Act.put, List.setIfInBounds_toArray, List.set_cons_succ, List.set_cons_zero]
  first | ((with_reducible refine x_skip ?_ ?_) ; (focus rfl)) | (refine x_pure rfl _ ?_ rfl (by simp) ?_ ?_ ; rotate_left ; · (intro w1 K hK ; go_wp2_with fail ; exact rfl))
  simp only [Act.put, List.setIfInBounds_toArray, List.set_cons_succ, List.set_cons_zero]
  first | ((with_reducible refine x_skip ?_ ?_) ; (focus rfl)) | (refine x_pure rfl _ ?_ rfl (by simp) ?_ ?_ ; rotate_left ; · (intro w1 K hK ; go_wp2_with fail ; exact rfl))
  simp only [Act.put, List.setIfInBounds_toArray, List.set_cons_succ, List.set_cons_zero]
  first | ((with_reducible refine x_skip ?_ ?_) ; (focus rfl)) | (refine x_pure rfl _ ?_ rfl (by simp) ?_ ?_ ; rotate_left ; · (intro w1 K hK ; go_wp2_with fail ; exact rfl))
  simp only [Act.put, List.setIfInBounds_toArray, List.set_cons_succ, List.set_cons_zero]
  first | ((with_reducible refine x_skip ?_ ?_) ; (focus rfl)) | (refine x_quiet rfl hSt (fun _ h => h) _ ?_ rfl (by simp) ?_ ?_ ; rotate_left ; · (intro w1 hC K hK ; have hc := hC ; go_wp2_with fail ; refine ⟨?_, Below.refl _ _⟩ ; exact rfl))
  simp only [Act.put, List.setIfInBounds_toArray, List.set_cons_succ, List.set_cons_zero]
  first | ((with_reducible refine x_skip ?_ ?_) ; (focus rfl)) | (refine x_quiet rfl hSt (fun _ h => h) _ ?_ rfl (by simp) ?_ ?_ ; rotate_left ; · (intro w1 hC K hK ; have hc := hC ; go_wp2_with fail ; refine (highb l pl w1 (HE0.out.tl.below hc)).mono ?_ ; rintro e w2 ⟨rfl, hb2⟩ ; refine hK _ _ ⟨?_, rfl, hb2⟩ ; (try simp only [List.getElem?_toArray, List.getElem?_cons_succ, List.getElem?_cons_zero]) ; exact rfl))
  simp only [Act.put, List.setIfInBounds_toArray, List.set_cons_succ, List.set_cons_zero]
  first | ((with_reducible refine x_skip ?_ ?_) ; (focus rfl)) | (refine x_pure rfl _ ?_ rfl (by simp) ?_ ?_ ; rotate_left ; · (intro w1 K hK ; go_wp2_with fail ; exact rfl))
  simp only [Act.put, List.setIfInBounds_toArray, List.set_cons_succ, List.set_cons_zero]
  first | ((with_reducible refine x_skip ?_ ?_) ; (focus rfl)) | (refine x_pure rfl _ ?_ rfl (by simp) ?_ ?_ ; rotate_left ; · (intro w1 K hK ; go_wp2_with fail ; exact rfl))
  simp only [Act.put, List.setIfInBounds_toArray, List.set_cons_succ, List.set_cons_zero]
  first | ((with_reducible refine x_skip ?_ ?_) ; (focus rfl)) | (refine x_pure rfl _ ?_ rfl (by simp) ?_ ?_ ; rotate_left ; · (intro w1 K hK ; go_wp2_with fail ; exact rfl))
  simp only [Act.put, List.setIfInBounds_toArray, List.set_cons_succ, List.set_cons_zero]
  first | ((with_reducible refine x_skip ?_ ?_) ; (focus rfl)) | (refine x_quiet rfl hSt (fun _ h => h) _ ?_ rfl (by simp) ?_ ?_ ; rotate_left ; · (intro w1 hC K hK ; have hc := hC ; go_wp2_with fail ; refine ⟨?_, Below.refl _ _⟩ ; exact rfl))
  simp only [Act.put, List.setIfInBounds_toArray, List.set_cons_succ, List.set_cons_zero]
  first | ((with_reducible refine x_skip ?_ ?_) ; (focus rfl)) | (refine x_quiet rfl hSt (fun _ h => h) _ ?_ rfl (by simp) ?_ ?_ ; rotate_left ; · (intro w1 hC K hK ; have hc := hC ; go_wp2_with fail ; refine (highb l pl w1 (HE0.out.tl.below hc)).mono ?_ ; rintro e w2 ⟨rfl, hb2⟩ ; refine hK _ _ ⟨?_, rfl, hb2⟩ ; (try simp only [List.getElem?_toArray, List.getElem?_cons_succ, List.getElem?_cons_zero]) ; exact rfl))
  simp only [Act.put, List.setIfInBounds_toArray, List.set_cons_succ, List.set_cons_zero]
  first | ((with_reducible refine x_skip ?_ ?_) ; (focus rfl)) | (refine x_pure rfl _ ?_ rfl (by simp) ?_ ?_ ; rotate_left ; · (intro w1 K hK ; go_wp2_with fail ; exact rfl))
  simp only [Act.put, List.setIfInBounds_toArray, List.set_cons_succ, List.set_cons_zero]
  (refine x_pure rfl _ ?_ rfl (by simp) ?_ ?_ ; rotate_left ; · (intro w1 K hK ; go_wp2_with fail ; exact rfl))
  simp only [Act.put, List.setIfInBounds_toArray, List.set_cons_succ, List.set_cons_zero]
  (refine x_pure rfl _ ?_ rfl (by simp) ?_ ?_ ; rotate_left ; · (intro w1 K hK ; go_wp2_with fail ; exact rfl))
  simp only [Act.put, List.setIfInBounds_toArray, List.set_cons_succ, List.set_cons_zero]
  first | refine x_nil ?_ | refine x_end ?_
  rintro w1 hc
  go_wp2_with fail
  have hb1 : Below w0.heap.size w0 w1 := by assumption
  clear hc hSt
  have HE1 := Lib.hid (HE0.out.below hb1)
  have HB1 := Lib.hid (HB0.out.trans (hb1.mono HB0.out.size))
  clear hb1
  refine (high_any r pr w1 HE1.out.tr).mono ?_
  rintro x w1 ⟨rfl, rfl⟩
  go_wp2_with fail
  refine (high_any l pl w1 HE1.out.tl).mono ?_
  rintro x w1 ⟨rfl, rfl⟩
  have d := HD1.out
  go_wp2_with fail
  clear d
  clear hh0 hh1
  refine (over_any mb tb gx M k e s t0 pl0 pr0 rt m0 h0 l r pl pr w1 HE1.out.env.1 (by omega) HE1.out.env.2 HE1.out.x HE1.out.tl HE1.out.tr (by omega)).mono ?_
  rintro x9 w9 ⟨g1, c1, rfl, ht1, hc1, hm1, hk1⟩
  have HZ := Lib.hid (And.intro ht1 (And.intro hm1 hk1))
  clear ht1 hm1 hk1
  go_wp2_with fail
  go_ret
  exact ⟨g1, c1, rfl, HZ.out.1, by omega, HZ.out.2.1, (Keep.of_below HB1.out).trans HZ.out.2.2⟩
theorem even_any (mb tb gx M : Nat) (k : ByteArray) (e : Ent) (s : T3) (t0 : T3) (pl0 pr0 rt : Value) (m0 h0 : Nat) (l r : Tr) (pl pr : Option Nat) (w : World)
    (h : EvAt w mb tb gx M k e s t0 pl0 pr0 rt m0 h0 l r pl pr) :
    Calls Tryz.prog 210 #[.pointer (some ⟨tb, 0, none⟩), .pointer (some ⟨gx, 0, none⟩), .pointer (pa pl), .pointer (pa pr)] w fun x w' =>
      ∃ g c, x = .returned (.pointer (pa (some g))) ∧ TreeAt w' (evenT l k e s r) (some g) ∧ c ≤ 6 ∧ Mt w' mb (M + c) ∧ Keep (fun k => k = mb) w w' := by
  unfold evenT
  split
  · rename_i h1
    cases l with
    | nil => simp [Tr.high] at h1
    | node ll lk le ls lr =>
      simp only
      split
      · rename_i h2; exact even_a mb tb gx M k e s t0 pl0 pr0 rt m0 h0 ll lr r lk le ls pl pr w h h1 h2
      · rename_i h2
        cases lr with
        | nil => simp [Tr.high] at h2
        | node m1 mk me ms m2 => exact even_b mb tb gx M k e s t0 pl0 pr0 rt m0 h0 ll m1 m2 r lk mk le me ls ms pl pr w h h1 (by omega)
  · rename_i h1
    split
    · rename_i h3
      cases r with
      | nil => simp [Tr.high] at h3
      | node rl rk re rs rr =>
        simp only
        split
        · rename_i h2; exact even_c mb tb gx M k e s t0 pl0 pr0 rt m0 h0 l rl rr rk re rs pl pr w h h3 h2
        · rename_i h2
          cases rl with
          | nil => simp [Tr.high] at h2
          | node m1 mk me ms m2 => exact even_d mb tb gx M k e s t0 pl0 pr0 rt m0 h0 l m1 m2 rr rk mk re me rs ms pl pr w h h3 (by omega)
    · rename_i h3
      exact even_n mb tb gx M k e s t0 pl0 pr0 rt m0 h0 l r pl pr w h (by omega) (by omega)
end Go.Proofs.YtdflmplmpjghdaaGreatDoor
