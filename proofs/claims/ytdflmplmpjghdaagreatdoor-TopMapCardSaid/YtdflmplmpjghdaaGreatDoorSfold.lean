/-
  The store: rank, Fold.
-/
import Derived.Test.YtdflmplmpjghdaaGreatDoorStore
namespace Go.Proofs.YtdflmplmpjghdaaGreatDoor
open Go.ChangeShapes Go.WideShapes Go.ChangeAt Go.RowKit Go.Deep
set_option linter.unusedVariables false
set_option linter.unusedSimpArgs false
set_option maxRecDepth 100000

theorem rankb (tb mb : Nat) (key : ByteArray) (t : Tr) (w : World) (h : TOb w tb mb t) (hs : t.size ≤ 1099511627000) :
    Calls Tryz.prog 127 #[.pointer (some ⟨tb, 0, none⟩), .string key] w fun e w' => e = .returned (.int .i64 (rankT key t : Int)) ∧ Below w.heap.size w w' :=
  (rank_any tb mb key t w h (by omega)).mono (by rintro e w' ⟨rfl, rfl⟩; exact ⟨rfl, Below.refl _ _⟩)
/-- Where a range ends. -/
def endT (hi : ByteArray) (op : Bool) (t : Tr) : Nat := if op then t.size else rankT hi t
theorem endT_le (hi : ByteArray) (op : Bool) (t : Tr) : endT hi op t ≤ t.size := by
  unfold endT
  split
  · exact Nat.le_refl _
  · exact rankT_le hi t
set_option maxRecDepth 100000 in
set_option maxHeartbeats 8000000 in
theorem srank_any (sb tb mb : Nat) (node clock : Int) (M : Nat) (t : Tr) (lo hi : ByteArray) (op : Bool) (w : World) (h : StAt w sb tb mb node clock M t) (hs : t.size ≤ 1099511627000) :
    Calls Tryz.prog 84 #[.pointer (some ⟨sb, 0, none⟩), rgV lo hi op] w fun e w' => e = .returned (.tuple #[.int .i64 (rankT lo t : Int), .int .i64 (endT hi op t : Int)]) ∧ Below w.heap.size w w' := by
  have hb0 := below_alloc_self w (.cells #[.string lo, .string hi, .bool op] 36 (0, 0))
  have H1 := Lib.hid (h.below hb0)
  have g3 : (w.alloc (.cells #[.string lo, .string hi, .bool op] 36 (0, 0))).heap[w.heap.size]? = some (.cells #[.string lo, .string hi, .bool op] 36 (0, 0)) := by (repeat (first | (with_reducible assumption) | (with_reducible exact Below.refl _ _) | (with_reducible refine heap_drew ?_) | (focus ((with_reducible refine heap_new ?_) ; simp ; done)) | (with_reducible apply heap_set_to) | (focus ((with_reducible refine heap_set_ne ?_ ?_ _) ; rotate_left ; (focus (first | omega | (simp ; done) | (simp ; omega))))) | (with_reducible refine heap_old ?_) | (with_reducible refine Below.drew ?_) | (with_reducible refine below_set ?_ _ _) | (focus ((with_reducible refine Below.setCell ?_ ?_ _) ; rotate_left ; (focus (first | omega | (simp ; done) | (simp ; omega))))) | (focus ((with_reducible refine Below.alloc ?_ ?_ _) ; rotate_left ; (focus (first | omega | (simp ; done) | (simp ; omega))))) | (with_reducible rfl) | (focus (simp ; done))))
  have HB0 := Lib.hid hb0
  have HG := Lib.hid g3
  clear h hb0 g3
  obtain ⟨b3, e3⟩ : ∃ b, b = w.heap.size := ⟨_, rfl⟩
  have HE := Lib.hid e3
  clear e3
  cases op with
  | true =>
    go_enter Tryz.func84, Tryz.ntmps84
    go_wp2_with fail
    rw [← HE.out] at HG ⊢
    generalize w.alloc (.cells #[.string lo, .string hi, .bool true] 36 (0, 0)) = w1 at *
    have hSt : Stable (fun w2 : World => (Below w1.heap.size w1 w2)) := by repeat (first | exact stable_ext _ | exact stable_blk _ _ | exact stable_true | (refine stable_bel ?_ ; (focus (first | (simp [World.size_setCell] ; done) | (simp [World.setCell] ; done)))) | refine Stable.and ?_ ?_)
    refine wp_region_x [0, 1, 2, 3, 4, 5, 6, 7, 8, 9, 10, 11, 12, 13] [0, 0, 0, 1, 0, 1, 1, 0, 0, 0, 1, 1, 0, 0] (fun w2 => (Below w1.heap.size w1 w2)) (by kernel_rfl) (by kernel_rfl) ?_ ?_
    · (first | trivial | (repeat (first | (with_reducible assumption) | (with_reducible exact Below.refl _ _) | (with_reducible refine heap_drew ?_) | (focus ((with_reducible refine heap_new ?_) ; simp ; done)) | (with_reducible apply heap_set_to) | (focus ((with_reducible refine heap_set_ne ?_ ?_ _) ; rotate_left ; (focus (first | omega | (simp ; done) | (simp ; omega))))) | (with_reducible refine heap_old ?_) | (with_reducible refine Below.drew ?_) | (with_reducible refine below_set ?_ _ _) | (focus ((with_reducible refine Below.setCell ?_ ?_ _) ; rotate_left ; (focus (first | omega | (simp ; done) | (simp ; omega))))) | (focus ((with_reducible refine Below.alloc ?_ ?_ _) ; rotate_left ; (focus (first | omega | (simp ; done) | (simp ; omega))))) | (with_reducible rfl) | (focus (simp ; done)))))
    simp only [List.map_cons, List.map_nil, List.getD_cons_zero, List.getD_cons_succ]
    (refine x_pure rfl _ ?_ rfl (by simp) ?_ ?_ ; rotate_left ; · (intro w2 K hK ; go_wp2_with fail ; exact rfl))
    simp only [Act.put, List.setIfInBounds_toArray, List.set_cons_succ, List.set_cons_zero]
    (refine x_pure rfl _ ?_ rfl (by simp) ?_ ?_ ; rotate_left ; · (intro w2 K hK ; go_wp2_with fail ; exact rfl))
    simp only [Act.put, List.setIfInBounds_toArray, List.set_cons_succ, List.set_cons_zero]
    (refine x_pure rfl _ ?_ rfl (by simp) ?_ ?_ ; rotate_left ; · (intro w2 K hK ; go_wp2_with fail ; exact rfl))
    simp only [Act.put, List.setIfInBounds_toArray, List.set_cons_succ, List.set_cons_zero]
    (refine x_quiet rfl hSt (fun _ h => h) _ ?_ rfl (by simp) ?_ ?_ ; rotate_left ; · (intro w2 hC K hK ; have hc := hC ; have q := blk4 (H1.out.below hc).blk ; have q3 := blk3 (blk_below HG.out hc) ; go_wp2_with fail ; refine ⟨?_, Below.refl _ _⟩ ; exact rfl))
    simp only [Act.put, List.setIfInBounds_toArray, List.set_cons_succ, List.set_cons_zero]
    (refine x_pure rfl _ ?_ rfl (by simp) ?_ ?_ ; rotate_left ; · (intro w2 K hK ; go_wp2_with fail ; exact rfl))
    simp only [Act.put, List.setIfInBounds_toArray, List.set_cons_succ, List.set_cons_zero]
    (refine x_quiet rfl hSt (fun _ h => h) _ ?_ rfl (by simp) ?_ ?_ ; rotate_left ; · (intro w2 hC K hK ; have hc := hC ; have q := blk4 (H1.out.below hc).blk ; have q3 := blk3 (blk_below HG.out hc) ; go_wp2_with fail ; refine ⟨?_, Below.refl _ _⟩ ; exact rfl))
    simp only [Act.put, List.setIfInBounds_toArray, List.set_cons_succ, List.set_cons_zero]
    (refine x_quiet rfl hSt (fun _ h => h) _ ?_ rfl (by simp) ?_ ?_ ; rotate_left ; · (intro w2 hC K hK ; have hc := hC ; have q := blk4 (H1.out.below hc).blk ; have q3 := blk3 (blk_below HG.out hc) ; go_wp2_with fail ; refine (rankb tb mb lo t w2 (H1.out.below hc).ob hs).mono ?_ ; rintro e w2 ⟨rfl, hb2⟩ ; refine hK _ _ ⟨?_, rfl, hb2⟩ ; (try simp only [List.getElem?_toArray, List.getElem?_cons_succ, List.getElem?_cons_zero]) ; exact rfl))
    simp only [Act.put, List.setIfInBounds_toArray, List.set_cons_succ, List.set_cons_zero]
    (refine x_pure rfl _ ?_ rfl (by simp) ?_ ?_ ; rotate_left ; · (intro w2 K hK ; go_wp2_with fail ; exact rfl))
    simp only [Act.put, List.setIfInBounds_toArray, List.set_cons_succ, List.set_cons_zero]
    (refine x_pure rfl _ ?_ rfl (by simp) ?_ ?_ ; rotate_left ; · (intro w2 K hK ; go_wp2_with fail ; exact rfl))
    simp only [Act.put, List.setIfInBounds_toArray, List.set_cons_succ, List.set_cons_zero]
    (refine x_pure rfl _ ?_ rfl (by simp) ?_ ?_ ; rotate_left ; · (intro w2 K hK ; go_wp2_with fail ; exact rfl))
    simp only [Act.put, List.setIfInBounds_toArray, List.set_cons_succ, List.set_cons_zero]
    (refine x_quiet rfl hSt (fun _ h => h) _ ?_ rfl (by simp) ?_ ?_ ; rotate_left ; · (intro w2 hC K hK ; have hc := hC ; have q := blk4 (H1.out.below hc).blk ; have q3 := blk3 (blk_below HG.out hc) ; go_wp2_with fail ; refine ⟨?_, Below.refl _ _⟩ ; exact rfl))
    simp only [Act.put, List.setIfInBounds_toArray, List.set_cons_succ, List.set_cons_zero]
    (refine x_quiet rfl hSt (fun _ h => h) _ ?_ rfl (by simp) ?_ ?_ ; rotate_left ; · (intro w2 hC K hK ; have hc := hC ; have q := blk4 (H1.out.below hc).blk ; have q3 := blk3 (blk_below HG.out hc) ; go_wp2_with fail ; refine (tlenb tb mb t w2 (H1.out.below hc).ob).mono ?_ ; rintro e w2 ⟨rfl, hb2⟩ ; refine hK _ _ ⟨?_, rfl, hb2⟩ ; (try simp only [List.getElem?_toArray, List.getElem?_cons_succ, List.getElem?_cons_zero]) ; exact rfl))
    simp only [Act.put, List.setIfInBounds_toArray, List.set_cons_succ, List.set_cons_zero]
    (refine x_pure rfl _ ?_ rfl (by simp) ?_ ?_ ; rotate_left ; · (intro w2 K hK ; go_wp2_with fail ; exact rfl))
    simp only [Act.put, List.setIfInBounds_toArray, List.set_cons_succ, List.set_cons_zero]
    (refine x_pure rfl _ ?_ rfl (by simp) ?_ ?_ ; rotate_left ; · (intro w2 K hK ; go_wp2_with fail ; exact rfl))
    simp only [Act.put, List.setIfInBounds_toArray, List.set_cons_succ, List.set_cons_zero]
    first | refine x_nil ?_ | refine x_end ?_
    rintro w2 hc
    have HB := Lib.hid (HB0.out.trans (hc.mono HB0.out.size))
    clear hc hSt
    go_wp2_with fail
    go_ret2
    exact ⟨rfl, HB.out⟩
  | false =>
    go_enter Tryz.func84, Tryz.ntmps84
    go_wp2_with fail
    rw [← HE.out] at HG ⊢
    generalize w.alloc (.cells #[.string lo, .string hi, .bool false] 36 (0, 0)) = w1 at *
    have hSt : Stable (fun w2 : World => (Below w1.heap.size w1 w2)) := by repeat (first | exact stable_ext _ | exact stable_blk _ _ | exact stable_true | (refine stable_bel ?_ ; (focus (first | (simp [World.size_setCell] ; done) | (simp [World.setCell] ; done)))) | refine Stable.and ?_ ?_)
    refine wp_region_x [0, 1, 2, 3, 4, 5, 6, 7, 8, 9, 10, 11, 12, 13, 14, 15] [0, 0, 0, 1, 0, 1, 1, 0, 0, 0, 1, 0, 1, 1, 0, 0] (fun w2 => (Below w1.heap.size w1 w2)) (by kernel_rfl) (by kernel_rfl) ?_ ?_
    · (first | trivial | (repeat (first | (with_reducible assumption) | (with_reducible exact Below.refl _ _) | (with_reducible refine heap_drew ?_) | (focus ((with_reducible refine heap_new ?_) ; simp ; done)) | (with_reducible apply heap_set_to) | (focus ((with_reducible refine heap_set_ne ?_ ?_ _) ; rotate_left ; (focus (first | omega | (simp ; done) | (simp ; omega))))) | (with_reducible refine heap_old ?_) | (with_reducible refine Below.drew ?_) | (with_reducible refine below_set ?_ _ _) | (focus ((with_reducible refine Below.setCell ?_ ?_ _) ; rotate_left ; (focus (first | omega | (simp ; done) | (simp ; omega))))) | (focus ((with_reducible refine Below.alloc ?_ ?_ _) ; rotate_left ; (focus (first | omega | (simp ; done) | (simp ; omega))))) | (with_reducible rfl) | (focus (simp ; done)))))
    simp only [List.map_cons, List.map_nil, List.getD_cons_zero, List.getD_cons_succ]
    (refine x_pure rfl _ ?_ rfl (by simp) ?_ ?_ ; rotate_left ; · (intro w2 K hK ; go_wp2_with fail ; exact rfl))
    simp only [Act.put, List.setIfInBounds_toArray, List.set_cons_succ, List.set_cons_zero]
    (refine x_pure rfl _ ?_ rfl (by simp) ?_ ?_ ; rotate_left ; · (intro w2 K hK ; go_wp2_with fail ; exact rfl))
    simp only [Act.put, List.setIfInBounds_toArray, List.set_cons_succ, List.set_cons_zero]
    (refine x_pure rfl _ ?_ rfl (by simp) ?_ ?_ ; rotate_left ; · (intro w2 K hK ; go_wp2_with fail ; exact rfl))
    simp only [Act.put, List.setIfInBounds_toArray, List.set_cons_succ, List.set_cons_zero]
    (refine x_quiet rfl hSt (fun _ h => h) _ ?_ rfl (by simp) ?_ ?_ ; rotate_left ; · (intro w2 hC K hK ; have hc := hC ; have q := blk4 (H1.out.below hc).blk ; have q3 := blk3 (blk_below HG.out hc) ; go_wp2_with fail ; refine ⟨?_, Below.refl _ _⟩ ; exact rfl))
    simp only [Act.put, List.setIfInBounds_toArray, List.set_cons_succ, List.set_cons_zero]
    (refine x_pure rfl _ ?_ rfl (by simp) ?_ ?_ ; rotate_left ; · (intro w2 K hK ; go_wp2_with fail ; exact rfl))
    simp only [Act.put, List.setIfInBounds_toArray, List.set_cons_succ, List.set_cons_zero]
    (refine x_quiet rfl hSt (fun _ h => h) _ ?_ rfl (by simp) ?_ ?_ ; rotate_left ; · (intro w2 hC K hK ; have hc := hC ; have q := blk4 (H1.out.below hc).blk ; have q3 := blk3 (blk_below HG.out hc) ; go_wp2_with fail ; refine ⟨?_, Below.refl _ _⟩ ; exact rfl))
    simp only [Act.put, List.setIfInBounds_toArray, List.set_cons_succ, List.set_cons_zero]
    (refine x_quiet rfl hSt (fun _ h => h) _ ?_ rfl (by simp) ?_ ?_ ; rotate_left ; · (intro w2 hC K hK ; have hc := hC ; have q := blk4 (H1.out.below hc).blk ; have q3 := blk3 (blk_below HG.out hc) ; go_wp2_with fail ; refine (rankb tb mb lo t w2 (H1.out.below hc).ob hs).mono ?_ ; rintro e w2 ⟨rfl, hb2⟩ ; refine hK _ _ ⟨?_, rfl, hb2⟩ ; (try simp only [List.getElem?_toArray, List.getElem?_cons_succ, List.getElem?_cons_zero]) ; exact rfl))
    simp only [Act.put, List.setIfInBounds_toArray, List.set_cons_succ, List.set_cons_zero]
    (refine x_pure rfl _ ?_ rfl (by simp) ?_ ?_ ; rotate_left ; · (intro w2 K hK ; go_wp2_with fail ; exact rfl))
    simp only [Act.put, List.setIfInBounds_toArray, List.set_cons_succ, List.set_cons_zero]
    (refine x_pure rfl _ ?_ rfl (by simp) ?_ ?_ ; rotate_left ; · (intro w2 K hK ; go_wp2_with fail ; exact rfl))
    simp only [Act.put, List.setIfInBounds_toArray, List.set_cons_succ, List.set_cons_zero]
    (refine x_pure rfl _ ?_ rfl (by simp) ?_ ?_ ; rotate_left ; · (intro w2 K hK ; go_wp2_with fail ; exact rfl))
    simp only [Act.put, List.setIfInBounds_toArray, List.set_cons_succ, List.set_cons_zero]
    (refine x_quiet rfl hSt (fun _ h => h) _ ?_ rfl (by simp) ?_ ?_ ; rotate_left ; · (intro w2 hC K hK ; have hc := hC ; have q := blk4 (H1.out.below hc).blk ; have q3 := blk3 (blk_below HG.out hc) ; go_wp2_with fail ; refine ⟨?_, Below.refl _ _⟩ ; exact rfl))
    simp only [Act.put, List.setIfInBounds_toArray, List.set_cons_succ, List.set_cons_zero]
    (refine x_pure rfl _ ?_ rfl (by simp) ?_ ?_ ; rotate_left ; · (intro w2 K hK ; go_wp2_with fail ; exact rfl))
    simp only [Act.put, List.setIfInBounds_toArray, List.set_cons_succ, List.set_cons_zero]
    (refine x_quiet rfl hSt (fun _ h => h) _ ?_ rfl (by simp) ?_ ?_ ; rotate_left ; · (intro w2 hC K hK ; have hc := hC ; have q := blk4 (H1.out.below hc).blk ; have q3 := blk3 (blk_below HG.out hc) ; go_wp2_with fail ; refine ⟨?_, Below.refl _ _⟩ ; exact rfl))
    simp only [Act.put, List.setIfInBounds_toArray, List.set_cons_succ, List.set_cons_zero]
    (refine x_quiet rfl hSt (fun _ h => h) _ ?_ rfl (by simp) ?_ ?_ ; rotate_left ; · (intro w2 hC K hK ; have hc := hC ; have q := blk4 (H1.out.below hc).blk ; have q3 := blk3 (blk_below HG.out hc) ; go_wp2_with fail ; refine (rankb tb mb hi t w2 (H1.out.below hc).ob hs).mono ?_ ; rintro e w2 ⟨rfl, hb2⟩ ; refine hK _ _ ⟨?_, rfl, hb2⟩ ; (try simp only [List.getElem?_toArray, List.getElem?_cons_succ, List.getElem?_cons_zero]) ; exact rfl))
    simp only [Act.put, List.setIfInBounds_toArray, List.set_cons_succ, List.set_cons_zero]
    (refine x_pure rfl _ ?_ rfl (by simp) ?_ ?_ ; rotate_left ; · (intro w2 K hK ; go_wp2_with fail ; exact rfl))
    simp only [Act.put, List.setIfInBounds_toArray, List.set_cons_succ, List.set_cons_zero]
    (refine x_pure rfl _ ?_ rfl (by simp) ?_ ?_ ; rotate_left ; · (intro w2 K hK ; go_wp2_with fail ; exact rfl))
    simp only [Act.put, List.setIfInBounds_toArray, List.set_cons_succ, List.set_cons_zero]
    first | refine x_nil ?_ | refine x_end ?_
    rintro w2 hc
    have HB := Lib.hid (HB0.out.trans (hc.mono HB0.out.size))
    clear hc hSt
    go_wp2_with fail
    go_ret2
    exact ⟨rfl, HB.out⟩
/-- A block that is none of the store's has turned. -/
theorem StAt.side {w w' : World} {sb tb mb : Nat} {node clock : Int} {M : Nat} {t : Tr} (h : StAt w sb tb mb node clock M t) {b : Nat} {cs : Array Value} {ty : TypeId} {fr : Nat × Nat} (hb : w.heap[b]? = some (.cells cs ty fr))
    (h1 : ty ≠ storeT) (h2 : ty ≠ 276) (h3 : ty ≠ 222) (h4 : ty ≠ nodeT) (h0 : 0 ≠ b) (hk : Keep (fun k => k = b) w w') : StAt w' sb tb mb node clock M t := by
  obtain ⟨p, q1, q2⟩ := h.ob
  exact ⟨hk.blk h.blk (ne_type hb h1 _ _ _ h.blk), hk.blk h.mt (ne_type hb h2 _ _ _ h.mt), ⟨p, hk.blk q1 (ne_type hb h3 _ _ _ q1), q2.keep hk (ne_type hb h4)⟩, h.lanes.keep hk h0⟩
/-- What Fold of a range that may be leaves. -/
def SFoldOf (w : World) (sb tb mb : Nat) (node clock : Int) (M : Nat) (t : Tr) (S : T3) (x : Ending) (w' : World) : Prop :=
  x = .returned (.tuple #[tv S.1 S.2.1 S.2.2, .int .i64 0]) ∧ ∃ c, c ≤ 4 * t.high ∧ StAt w' sb tb mb node clock (M + c) t ∧ Keep (fun k => k = mb) w w'
set_option maxRecDepth 100000 in
set_option maxHeartbeats 8000000 in
theorem sfold_any (sb tb mb : Nat) (node clock : Int) (M : Nat) (t : Tr) (lo hi : ByteArray) (op : Bool) (w : World) (h : StAt w sb tb mb node clock M t) (hs : t.size ≤ 1099511627000) (hok : Oks t.talls) (hf : M + 4 * t.high ≤ 4611686018427370000) (hh : t.high ≤ 200000)
    (h1 : lo.size ≤ 16) (h2 : hi.size ≤ 16) (h3 : rgOk lo hi op = true) :
    Calls Tryz.prog 101 #[.pointer (some ⟨sb, 0, none⟩), rgV lo hi op] w (SFoldOf w sb tb mb node clock M t (tsum (piecesT (rankT lo t) (endT hi op t) t))) := by
  have HC : Hid (∀ w : World, Calls Tryz.prog 82 #[rgV lo hi op] w fun e w' => e = .returned (.int .i64 0) ∧ Below w.heap.size w w') := fun w => by
    have := check_any lo hi op w (by omega) (by omega)
    rw [if_neg (by omega), if_pos h3] at this
    exact this
  have r1 := rankT_le lo t
  have r2 := endT_le hi op t
  have HF : Hid (∀ w : World, StAt w sb tb mb node clock M t → Calls Tryz.prog 135 #[.pointer (some ⟨tb, 0, none⟩), .int .i64 (rankT lo t : Int), .int .i64 (endT hi op t : Int)] w (TFoldOf w mb M (tsum (piecesT (rankT lo t) (endT hi op t) t)) t.high)) := fun w h => by
    have := tfold_any mb tb M (rankT lo t : Int) (endT hi op t : Int) t w h.mt h.ob hok hf hs hh (by omega) (by omega)
    rw [show min (endT hi op t : Int) (t.size : Int) = endT hi op t by omega] at this
    exact this
  clear h3 hok
  obtain ⟨W1, hW1⟩ : ∃ x, x = (w.alloc (.cells #[.string lo, .string hi, .bool op] 36 (0, 0))).alloc (.cells #[.int .i64 0, .int .u64 0, .int .u64 0] 49 (0, 0)) := ⟨_, rfl⟩
  have hb0 : Below w.heap.size w ((w.alloc (.cells #[.string lo, .string hi, .bool op] 36 (0, 0))).alloc (.cells #[.int .i64 0, .int .u64 0, .int .u64 0] 49 (0, 0))) := by (repeat (first | (with_reducible assumption) | (with_reducible exact Below.refl _ _) | (with_reducible refine heap_drew ?_) | (focus ((with_reducible refine heap_new ?_) ; simp ; done)) | (with_reducible apply heap_set_to) | (focus ((with_reducible refine heap_set_ne ?_ ?_ _) ; rotate_left ; (focus (first | omega | (simp ; done) | (simp ; omega))))) | (with_reducible refine heap_old ?_) | (with_reducible refine Below.drew ?_) | (with_reducible refine below_set ?_ _ _) | (focus ((with_reducible refine Below.setCell ?_ ?_ _) ; rotate_left ; (focus (first | omega | (simp ; done) | (simp ; omega))))) | (focus ((with_reducible refine Below.alloc ?_ ?_ _) ; rotate_left ; (focus (first | omega | (simp ; done) | (simp ; omega))))) | (with_reducible rfl) | (focus (simp ; done))))
  have g3 : ((w.alloc (.cells #[.string lo, .string hi, .bool op] 36 (0, 0))).alloc (.cells #[.int .i64 0, .int .u64 0, .int .u64 0] 49 (0, 0))).heap[w.heap.size]? = some (.cells #[.string lo, .string hi, .bool op] 36 (0, 0)) := by (repeat (first | (with_reducible assumption) | (with_reducible exact Below.refl _ _) | (with_reducible refine heap_drew ?_) | (focus ((with_reducible refine heap_new ?_) ; simp ; done)) | (with_reducible apply heap_set_to) | (focus ((with_reducible refine heap_set_ne ?_ ?_ _) ; rotate_left ; (focus (first | omega | (simp ; done) | (simp ; omega))))) | (with_reducible refine heap_old ?_) | (with_reducible refine Below.drew ?_) | (with_reducible refine below_set ?_ _ _) | (focus ((with_reducible refine Below.setCell ?_ ?_ _) ; rotate_left ; (focus (first | omega | (simp ; done) | (simp ; omega))))) | (focus ((with_reducible refine Below.alloc ?_ ?_ _) ; rotate_left ; (focus (first | omega | (simp ; done) | (simp ; omega))))) | (with_reducible rfl) | (focus (simp ; done))))
  have g4 : ((w.alloc (.cells #[.string lo, .string hi, .bool op] 36 (0, 0))).alloc (.cells #[.int .i64 0, .int .u64 0, .int .u64 0] 49 (0, 0))).heap[w.heap.size + 1]? = some (.cells #[.int .i64 0, .int .u64 0, .int .u64 0] 49 (0, 0)) := by (repeat (first | (with_reducible assumption) | (with_reducible exact Below.refl _ _) | (with_reducible refine heap_drew ?_) | (focus ((with_reducible refine heap_new ?_) ; simp ; done)) | (with_reducible apply heap_set_to) | (focus ((with_reducible refine heap_set_ne ?_ ?_ _) ; rotate_left ; (focus (first | omega | (simp ; done) | (simp ; omega))))) | (with_reducible refine heap_old ?_) | (with_reducible refine Below.drew ?_) | (with_reducible refine below_set ?_ _ _) | (focus ((with_reducible refine Below.setCell ?_ ?_ _) ; rotate_left ; (focus (first | omega | (simp ; done) | (simp ; omega))))) | (focus ((with_reducible refine Below.alloc ?_ ?_ _) ; rotate_left ; (focus (first | omega | (simp ; done) | (simp ; omega))))) | (with_reducible rfl) | (focus (simp ; done))))
  have H1 := Lib.hid (h.below hb0)
  have HH := Lib.hid (And.intro hb0 (And.intro g3 g4))
  have hlt := h.apart
  have hm0 := blk_lt h.mt
  clear hb0 g3 g4 h hW1
  go_enter Tryz.func101, Tryz.ntmps101
  go_wp2_with fail
  refine (HC.out _).mono ?_
  rintro e w2 ⟨rfl, hb2⟩
  have H2 := Lib.hid (H1.out.below hb2)
  have HB2 := Lib.hid (HH.out.1.trans (hb2.mono HH.out.1.size))
  have HG := Lib.hid (And.intro (blk_below HH.out.2.1 hb2) (blk_below HH.out.2.2 hb2))
  clear hb2
  go_wp2_with fail
  obtain ⟨b3, e3⟩ : ∃ b, b = w.heap.size := ⟨_, rfl⟩
  obtain ⟨b4, e4⟩ : ∃ b, b = w.heap.size + 1 := ⟨_, rfl⟩
  rw [← e4, ← e3] at HG
  rw [← e4, ← e3]
  have l4 : w.heap.size ≤ b4 := by omega
  have n4 : ¬ b4 = mb := by omega
  clear e3 e4
  have hSt : Stable (fun w3 : World => (Below w2.heap.size w2 w3)) := by repeat (first | exact stable_ext _ | exact stable_blk _ _ | exact stable_true | (refine stable_bel ?_ ; (focus (first | (simp [World.size_setCell] ; done) | (simp [World.setCell] ; done)))) | refine Stable.and ?_ ?_)
  refine wp_region_x [0, 1, 2, 3, 4, 5, 6, 7, 8, 9, 10, 11] [0, 0, 0, 1, 0, 1, 1, 0, 0, 3, 3, 0] (fun w3 => (Below w2.heap.size w2 w3)) (by kernel_rfl) (by kernel_rfl) ?_ ?_
  · (first | trivial | (repeat (first | (with_reducible assumption) | (with_reducible exact Below.refl _ _) | (with_reducible refine heap_drew ?_) | (focus ((with_reducible refine heap_new ?_) ; simp ; done)) | (with_reducible apply heap_set_to) | (focus ((with_reducible refine heap_set_ne ?_ ?_ _) ; rotate_left ; (focus (first | omega | (simp ; done) | (simp ; omega))))) | (with_reducible refine heap_old ?_) | (with_reducible refine Below.drew ?_) | (with_reducible refine below_set ?_ _ _) | (focus ((with_reducible refine Below.setCell ?_ ?_ _) ; rotate_left ; (focus (first | omega | (simp ; done) | (simp ; omega))))) | (focus ((with_reducible refine Below.alloc ?_ ?_ _) ; rotate_left ; (focus (first | omega | (simp ; done) | (simp ; omega))))) | (with_reducible rfl) | (focus (simp ; done)))))
  simp only [List.map_cons, List.map_nil, List.getD_cons_zero, List.getD_cons_succ]
  (refine x_pure rfl _ ?_ rfl (by simp) ?_ ?_ ; rotate_left ; · (intro w3 K hK ; go_wp2_with fail ; exact rfl))
  simp only [Act.put, List.setIfInBounds_toArray, List.set_cons_succ, List.set_cons_zero]
  (refine x_pure rfl _ ?_ rfl (by simp) ?_ ?_ ; rotate_left ; · (intro w3 K hK ; go_wp2_with fail ; exact rfl))
  simp only [Act.put, List.setIfInBounds_toArray, List.set_cons_succ, List.set_cons_zero]
  (refine x_pure rfl _ ?_ rfl (by simp) ?_ ?_ ; rotate_left ; · (intro w3 K hK ; go_wp2_with fail ; exact rfl))
  simp only [Act.put, List.setIfInBounds_toArray, List.set_cons_succ, List.set_cons_zero]
  (refine x_quiet rfl hSt (fun _ h => h) _ ?_ rfl (by simp) ?_ ?_ ; rotate_left ; · (intro w3 hC K hK ; have hc := hC ; have q := blk4 (H2.out.below hc).blk ; have q3 := blk3 (blk_below HG.out.1 hc) ; go_wp2_with fail ; refine ⟨?_, Below.refl _ _⟩ ; exact rfl))
  simp only [Act.put, List.setIfInBounds_toArray, List.set_cons_succ, List.set_cons_zero]
  (refine x_pure rfl _ ?_ rfl (by simp) ?_ ?_ ; rotate_left ; · (intro w3 K hK ; go_wp2_with fail ; exact rfl))
  simp only [Act.put, List.setIfInBounds_toArray, List.set_cons_succ, List.set_cons_zero]
  (refine x_quiet rfl hSt (fun _ h => h) _ ?_ rfl (by simp) ?_ ?_ ; rotate_left ; · (intro w3 hC K hK ; have hc := hC ; have q := blk4 (H2.out.below hc).blk ; have q3 := blk3 (blk_below HG.out.1 hc) ; go_wp2_with fail ; refine ⟨?_, Below.refl _ _⟩ ; exact rfl))
  simp only [Act.put, List.setIfInBounds_toArray, List.set_cons_succ, List.set_cons_zero]
  (refine x_quiet rfl hSt (fun _ h => h) _ ?_ rfl (by simp) ?_ ?_ ; rotate_left ; · (intro w3 hC K hK ; have hc := hC ; have q := blk4 (H2.out.below hc).blk ; have q3 := blk3 (blk_below HG.out.1 hc) ; go_wp2_with fail ; refine (srank_any sb tb mb node clock M t lo hi op w3 (H2.out.below hc) hs).mono ?_ ; rintro e w2 ⟨rfl, hb2⟩ ; refine hK _ _ ⟨?_, rfl, hb2⟩ ; (try simp only [List.getElem?_toArray, List.getElem?_cons_succ, List.getElem?_cons_zero]) ; exact rfl))
  simp only [Act.put, List.setIfInBounds_toArray, List.set_cons_succ, List.set_cons_zero]
  (refine x_pure rfl _ ?_ rfl (by simp) ?_ ?_ ; rotate_left ; · (intro w3 K hK ; go_wp2_with fail ; exact rfl))
  simp only [Act.put, List.setIfInBounds_toArray, List.set_cons_succ, List.set_cons_zero]
  (refine x_pure rfl _ ?_ rfl (by simp) ?_ ?_ ; rotate_left ; · (intro w3 K hK ; go_wp2_with fail ; exact rfl))
  simp only [Act.put, List.setIfInBounds_toArray, List.set_cons_succ, List.set_cons_zero]
  refine x_write rfl ?_
  intro w3 hD K hK ; have hc := hD ; have q := blk4 (H2.out.below hc).blk ; have q3 := blk3 (blk_below HG.out.1 hc)
  go_wp2_with fail
  refine (HF.out w3 (H2.out.below hc)).mono ?_
  rintro x9 w9 ⟨rfl, c, hc9, hm9, hk9⟩
  have hst9 := (H2.out.below hc).meter hk9 hm9
  have g49 := hk9.blk (blk_below HG.out.2 hc) n4
  have HZ := Lib.hid (And.intro hst9 (And.intro g49 (((Keep.of_below HB2.out).trans (Keep.of_below hc)).trans hk9)))
  have q9 := blk3 g49
  clear hst9 g49 hm9 hk9 q q3 hc hSt
  refine hK _ _ ?_
  try simp only [Act.put, List.setIfInBounds_toArray, List.set_cons_succ, List.set_cons_zero]
  refine x_write rfl ?_
  rintro w9 rfl K hK
  go_wp2_with fail
  (refine x_pure rfl _ ?_ rfl (by simp) ?_ ?_ ; rotate_left ; · (intro w3 K hK ; go_wp2_with fail ; exact rfl))
  simp only [Act.put, List.setIfInBounds_toArray, List.set_cons_succ, List.set_cons_zero]
  first | refine x_nil ?_ | refine x_end ?_
  rintro _ rfl
  generalize hS : tsum (piecesT (rankT lo t) (endT hi op t) t) = S at *
  obtain ⟨S1, S2, S3⟩ := S
  have hke : Keep (fun k => k = b4) w9 (((w9.setCell ⟨b4, 0, none⟩ (.int .i64 S1)).setCell ⟨b4, 1, none⟩ (.int .u64 S2)).setCell ⟨b4, 2, none⟩ (.int .u64 S3)) :=
    ((Keep.set _ ⟨b4, 0, none⟩ _).trans (Keep.set _ ⟨b4, 1, none⟩ _)).trans (Keep.set _ ⟨b4, 2, none⟩ _)
  clear hS
  go_wp2_with fail
  refine bodyPost_ret (v := .tuple #[tv S1 S2 S3, .int .i64 0]) (by simp [results, Tryz.results101, go_sem, q9]) rfl ⟨rfl, c, hc9, ?_, HZ.out.2.2.transNew hke fun k e => by rw [e]; exact l4⟩
  exact HZ.out.1.side HZ.out.2.1 (by decide) (by decide) (by decide) (by decide) (by omega) hke
end Go.Proofs.YtdflmplmpjghdaaGreatDoor
