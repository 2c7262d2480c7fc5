/-
  The store: write, Put, Delete.
-/
import Derived.Test.YtdflmplmpjghdaaGreatDoorLay
namespace Go.Proofs.YtdflmplmpjghdaaGreatDoor
open Go.ChangeShapes Go.WideShapes Go.ChangeAt Go.RowKit Go.Deep
set_option linter.unusedVariables false
set_option linter.unusedSimpArgs false
set_option maxRecDepth 100000

abbrev vV (c n : Int) : Value := .agg #[.int .i64 c, .int .i64 n]
/-- Why a write is refused; 0: it is not. -/
def errW (t : Tr) (k v : ByteArray) : Int := if 16 < k.size then 20 else if 32 < v.size then 31 else if fullT k t then 80 else 0
/-- What a refused write leaves. -/
def WBad (w : World) (sb tb mb : Nat) (node clock : Int) (M : Nat) (t : Tr) (e : Int) (x : Ending) (w' : World) : Prop :=
  x = .returned (.tuple #[vV 0 0, .int .i64 e]) ∧ Below w.heap.size w w'
/-- What a write leaves. -/
def WOk (w : World) (sb tb mb : Nat) (node clock : Int) (M : Nat) (t : Tr) (k v : ByteArray) (d : Bool) (x : Ending) (w' : World) : Prop :=
  x = .returned (.tuple #[vV (clock + 1) node, .int .i64 0]) ∧ ∃ m, m ≤ 6 * t.high + 2 ∧ StAt w' sb tb mb node (clock + 1) (M + m) (putT k (k, clock + 1, node, v, d) (tallyE k (clock + 1) node) t) ∧ Keep (fun k => k = mb ∨ k = tb ∨ k = sb) w w'
set_option maxRecDepth 100000 in
set_option maxHeartbeats 8000000 in
theorem write_bad (sb tb mb : Nat) (node clock : Int) (M : Nat) (t : Tr) (k v : ByteArray) (d : Bool) (w : World) (h : StAt w sb tb mb node clock M t) (hs : t.size ≤ 1099511627000) (hk : k.size ≤ 140737488351232) (hv : v.size ≤ 140737488351232) (he : errW t k v ≠ 0) :
    Calls Tryz.prog 132 #[.pointer (some ⟨sb, 0, none⟩), ev k 0 0 v d] w (WBad w sb tb mb node clock M t (errW t k v)) := by
  have hb0 : Below w.heap.size w ((w.alloc (.cells #[.string k, .int .i64 0, .int .i64 0, .string v, .bool d] 78 (0, 0))).alloc (.cells #[.int .i64 0, .int .i64 0] 44 (0, 0))) := by (repeat (first | (with_reducible assumption) | (with_reducible exact Below.refl _ _) | (with_reducible refine heap_drew ?_) | (focus ((with_reducible refine heap_new ?_) ; simp ; done)) | (with_reducible apply heap_set_to) | (focus ((with_reducible refine heap_set_ne ?_ ?_ _) ; rotate_left ; (focus (first | omega | (simp ; done) | (simp ; omega))))) | (with_reducible refine heap_old ?_) | (with_reducible refine Below.drew ?_) | (with_reducible refine below_set ?_ _ _) | (focus ((with_reducible refine Below.setCell ?_ ?_ _) ; rotate_left ; (focus (first | omega | (simp ; done) | (simp ; omega))))) | (focus ((with_reducible refine Below.alloc ?_ ?_ _) ; rotate_left ; (focus (first | omega | (simp ; done) | (simp ; omega))))) | (with_reducible rfl) | (focus (simp ; done))))
  have HB := Lib.hid hb0
  have H1 := Lib.hid (h.below hb0)
  clear h hb0
  by_cases h1 : 16 < k.size
  · rw [show errW t k v = 20 by unfold errW; rw [if_pos h1]]
    have d1 : (16 : Int) < (k.size : Int) := by omega
    clear he h1
    go_enter Tryz.func132, Tryz.ntmps132
    go_wp2_with fail
    refine bodyPost_ret (v := .tuple #[vV 0 0, .int .i64 20]) (by simp [results, Tryz.results132, go_sem]) rfl ⟨rfl, ?_⟩
    (repeat (first | (with_reducible assumption) | (with_reducible exact Below.refl _ _) | (with_reducible refine heap_drew ?_) | (focus ((with_reducible refine heap_new ?_) ; simp ; done)) | (with_reducible apply heap_set_to) | (focus ((with_reducible refine heap_set_ne ?_ ?_ _) ; rotate_left ; (focus (first | omega | (simp ; done) | (simp ; omega))))) | (with_reducible refine heap_old ?_) | (with_reducible refine Below.drew ?_) | (with_reducible refine below_set ?_ _ _) | (focus ((with_reducible refine Below.setCell ?_ ?_ _) ; rotate_left ; (focus (first | omega | (simp ; done) | (simp ; omega))))) | (focus ((with_reducible refine Below.alloc ?_ ?_ _) ; rotate_left ; (focus (first | omega | (simp ; done) | (simp ; omega))))) | (with_reducible rfl) | (focus (simp ; done))))
  · have d1 : (k.size : Int) ≤ 16 := by omega
    by_cases h2 : 32 < v.size
    · rw [show errW t k v = 31 by unfold errW; rw [if_neg h1, if_pos h2]]
      have d2 : (32 : Int) < (v.size : Int) := by omega
      clear he h1 h2
      go_enter Tryz.func132, Tryz.ntmps132
      go_wp2_with fail
      refine bodyPost_ret (v := .tuple #[vV 0 0, .int .i64 31]) (by simp [results, Tryz.results132, go_sem]) rfl ⟨rfl, ?_⟩
      (repeat (first | (with_reducible assumption) | (with_reducible exact Below.refl _ _) | (with_reducible refine heap_drew ?_) | (focus ((with_reducible refine heap_new ?_) ; simp ; done)) | (with_reducible apply heap_set_to) | (focus ((with_reducible refine heap_set_ne ?_ ?_ _) ; rotate_left ; (focus (first | omega | (simp ; done) | (simp ; omega))))) | (with_reducible refine heap_old ?_) | (with_reducible refine Below.drew ?_) | (with_reducible refine below_set ?_ _ _) | (focus ((with_reducible refine Below.setCell ?_ ?_ _) ; rotate_left ; (focus (first | omega | (simp ; done) | (simp ; omega))))) | (focus ((with_reducible refine Below.alloc ?_ ?_ _) ; rotate_left ; (focus (first | omega | (simp ; done) | (simp ; omega))))) | (with_reducible rfl) | (focus (simp ; done))))
    · have d2 : (v.size : Int) ≤ 32 := by omega
      have h3 : fullT k t = true := by
        cases hf : fullT k t
        · exfalso; apply he; unfold errW; rw [if_neg h1, if_neg h2, hf]; rfl
        · rfl
      rw [show errW t k v = 80 by unfold errW; rw [if_neg h1, if_neg h2, h3]; rfl]
      have H3 := Lib.hid h3
      clear he h1 h2 h3
      go_enter Tryz.func132, Tryz.ntmps132
      go_wp2_with fail
      refine (full_any sb tb mb node clock M t k _ H1.out hs).mono ?_
      rintro e w2 ⟨rfl, hb2⟩
      rw [H3.out]
      have g4 : w2.heap[w.heap.size + 1]? = some (.cells #[.int .i64 0, .int .i64 0] 44 (0, 0)) := blk_below (by (repeat (first | (with_reducible assumption) | (with_reducible exact Below.refl _ _) | (with_reducible refine heap_drew ?_) | (focus ((with_reducible refine heap_new ?_) ; simp ; done)) | (with_reducible apply heap_set_to) | (focus ((with_reducible refine heap_set_ne ?_ ?_ _) ; rotate_left ; (focus (first | omega | (simp ; done) | (simp ; omega))))) | (with_reducible refine heap_old ?_) | (with_reducible refine Below.drew ?_) | (with_reducible refine below_set ?_ _ _) | (focus ((with_reducible refine Below.setCell ?_ ?_ _) ; rotate_left ; (focus (first | omega | (simp ; done) | (simp ; omega))))) | (focus ((with_reducible refine Below.alloc ?_ ?_ _) ; rotate_left ; (focus (first | omega | (simp ; done) | (simp ; omega))))) | (with_reducible rfl) | (focus (simp ; done))))) hb2
      have hb : Below w.heap.size w w2 := below_back (by (repeat (first | (with_reducible assumption) | (with_reducible exact Below.refl _ _) | (with_reducible refine heap_drew ?_) | (focus ((with_reducible refine heap_new ?_) ; simp ; done)) | (with_reducible apply heap_set_to) | (focus ((with_reducible refine heap_set_ne ?_ ?_ _) ; rotate_left ; (focus (first | omega | (simp ; done) | (simp ; omega))))) | (with_reducible refine heap_old ?_) | (with_reducible refine Below.drew ?_) | (with_reducible refine below_set ?_ _ _) | (focus ((with_reducible refine Below.setCell ?_ ?_ _) ; rotate_left ; (focus (first | omega | (simp ; done) | (simp ; omega))))) | (focus ((with_reducible refine Below.alloc ?_ ?_ _) ; rotate_left ; (focus (first | omega | (simp ; done) | (simp ; omega))))) | (with_reducible rfl) | (focus (simp ; done))))) (by first | omega | (simp ; done) | (simp ; omega)) hb2
      clear hb2
      have hz := hb.size
      have q4 := blk2 g4
      go_wp2_with fail
      refine bodyPost_ret (v := .tuple #[vV 0 0, .int .i64 80]) (by simp [results, Tryz.results132, go_sem, q4]) rfl ⟨rfl, ?_⟩
      (repeat (first | (with_reducible assumption) | (with_reducible exact Below.refl _ _) | (with_reducible refine heap_drew ?_) | (focus ((with_reducible refine heap_new ?_) ; simp ; done)) | (with_reducible apply heap_set_to) | (focus ((with_reducible refine heap_set_ne ?_ ?_ _) ; rotate_left ; (focus (first | omega | (simp ; done) | (simp ; omega))))) | (with_reducible refine heap_old ?_) | (with_reducible refine Below.drew ?_) | (with_reducible refine below_set ?_ _ _) | (focus ((with_reducible refine Below.setCell ?_ ?_ _) ; rotate_left ; (focus (first | omega | (simp ; done) | (simp ; omega))))) | (focus ((with_reducible refine Below.alloc ?_ ?_ _) ; rotate_left ; (focus (first | omega | (simp ; done) | (simp ; omega))))) | (with_reducible rfl) | (focus (simp ; done))))
theorem nextb (clock node : Int) (w : World) (h1 : 0 ≤ clock) (h2 : clock < 1099511627776) (h3 : 0 ≤ node) (h4 : node < 8) :
    Calls Tryz.prog 176 #[.int .i64 clock, .int .i64 node] w fun e w' => e = .returned (.tuple #[.agg #[.int .i64 (clock + 1), .int .i64 node], .int .i64 0]) ∧ Below w.heap.size w w' := next_any clock node w h1 h2 h3 h4
set_option maxRecDepth 100000 in
set_option maxHeartbeats 8000000 in
theorem write_ok (sb tb mb : Nat) (node clock : Int) (M : Nat) (t : Tr) (k v : ByteArray) (d : Bool) (w : World) (h : StAt w sb tb mb node clock M t) (hs : t.size ≤ 1099511627000) (hk : k.size ≤ 140737488351232) (hv : v.size ≤ 140737488351232) (hf : M + 6 * t.high ≤ 4611686018427370000) (hc1 : 0 ≤ clock) (hc2 : clock < 1099511627776) (hn1 : 0 ≤ node) (hn2 : node < 8) (he : errW t k v = 0) :
    Calls Tryz.prog 132 #[.pointer (some ⟨sb, 0, none⟩), ev k 0 0 v d] w (WOk w sb tb mb node clock M t k v d) := by
  have hb0 : Below w.heap.size w ((w.alloc (.cells #[.string k, .int .i64 0, .int .i64 0, .string v, .bool d] 78 (0, 0))).alloc (.cells #[.int .i64 0, .int .i64 0] 44 (0, 0))) := by (repeat (first | (with_reducible assumption) | (with_reducible exact Below.refl _ _) | (with_reducible refine heap_drew ?_) | (focus ((with_reducible refine heap_new ?_) ; simp ; done)) | (with_reducible apply heap_set_to) | (focus ((with_reducible refine heap_set_ne ?_ ?_ _) ; rotate_left ; (focus (first | omega | (simp ; done) | (simp ; omega))))) | (with_reducible refine heap_old ?_) | (with_reducible refine Below.drew ?_) | (with_reducible refine below_set ?_ _ _) | (focus ((with_reducible refine Below.setCell ?_ ?_ _) ; rotate_left ; (focus (first | omega | (simp ; done) | (simp ; omega))))) | (focus ((with_reducible refine Below.alloc ?_ ?_ _) ; rotate_left ; (focus (first | omega | (simp ; done) | (simp ; omega))))) | (with_reducible rfl) | (focus (simp ; done))))
  have H1 := Lib.hid (h.below hb0)
  have hw0 := h.pos
  have hpos := h.lanes.lt
  have HM : Hid (mb < w.heap.size ∧ tb < w.heap.size ∧ sb < w.heap.size) := ⟨blk_lt h.mt, by obtain ⟨_, q, _⟩ := h.ob; exact blk_lt q, blk_lt h.blk⟩
  clear h hb0
  have h1 : ¬ 16 < k.size := fun h => by unfold errW at he; rw [if_pos h] at he; cases he
  have h2 : ¬ 32 < v.size := fun h => by unfold errW at he; rw [if_neg h1, if_pos h] at he; cases he
  have h3 : fullT k t = false := by
    cases hf : fullT k t
    · rfl
    · unfold errW at he; rw [if_neg h1, if_neg h2, hf] at he; cases he
  have d1 : (k.size : Int) ≤ 16 := by omega
  have d2 : (v.size : Int) ≤ 32 := by omega
  have H3 := Lib.hid h3
  clear he h1 h2 h3
  go_enter Tryz.func132, Tryz.ntmps132
  go_wp2_with fail
  refine (full_any sb tb mb node clock M t k _ H1.out hs).mono ?_
  rintro e w2 ⟨rfl, hb2⟩
  have H2 := Lib.hid (H1.out.below hb2)
  rw [H3.out]
  have g3 : w2.heap[w.heap.size]? = some (.cells #[.string k, .int .i64 0, .int .i64 0, .string v, .bool d] 78 (0, 0)) := blk_below (by (repeat (first | (with_reducible assumption) | (with_reducible exact Below.refl _ _) | (with_reducible refine heap_drew ?_) | (focus ((with_reducible refine heap_new ?_) ; simp ; done)) | (with_reducible apply heap_set_to) | (focus ((with_reducible refine heap_set_ne ?_ ?_ _) ; rotate_left ; (focus (first | omega | (simp ; done) | (simp ; omega))))) | (with_reducible refine heap_old ?_) | (with_reducible refine Below.drew ?_) | (with_reducible refine below_set ?_ _ _) | (focus ((with_reducible refine Below.setCell ?_ ?_ _) ; rotate_left ; (focus (first | omega | (simp ; done) | (simp ; omega))))) | (focus ((with_reducible refine Below.alloc ?_ ?_ _) ; rotate_left ; (focus (first | omega | (simp ; done) | (simp ; omega))))) | (with_reducible rfl) | (focus (simp ; done))))) hb2
  have g4 : w2.heap[w.heap.size + 1]? = some (.cells #[.int .i64 0, .int .i64 0] 44 (0, 0)) := blk_below (by (repeat (first | (with_reducible assumption) | (with_reducible exact Below.refl _ _) | (with_reducible refine heap_drew ?_) | (focus ((with_reducible refine heap_new ?_) ; simp ; done)) | (with_reducible apply heap_set_to) | (focus ((with_reducible refine heap_set_ne ?_ ?_ _) ; rotate_left ; (focus (first | omega | (simp ; done) | (simp ; omega))))) | (with_reducible refine heap_old ?_) | (with_reducible refine Below.drew ?_) | (with_reducible refine below_set ?_ _ _) | (focus ((with_reducible refine Below.setCell ?_ ?_ _) ; rotate_left ; (focus (first | omega | (simp ; done) | (simp ; omega))))) | (focus ((with_reducible refine Below.alloc ?_ ?_ _) ; rotate_left ; (focus (first | omega | (simp ; done) | (simp ; omega))))) | (with_reducible rfl) | (focus (simp ; done))))) hb2
  have hb : Below w.heap.size w w2 := below_back (by (repeat (first | (with_reducible assumption) | (with_reducible exact Below.refl _ _) | (with_reducible refine heap_drew ?_) | (focus ((with_reducible refine heap_new ?_) ; simp ; done)) | (with_reducible apply heap_set_to) | (focus ((with_reducible refine heap_set_ne ?_ ?_ _) ; rotate_left ; (focus (first | omega | (simp ; done) | (simp ; omega))))) | (with_reducible refine heap_old ?_) | (with_reducible refine Below.drew ?_) | (with_reducible refine below_set ?_ _ _) | (focus ((with_reducible refine Below.setCell ?_ ?_ _) ; rotate_left ; (focus (first | omega | (simp ; done) | (simp ; omega))))) | (focus ((with_reducible refine Below.alloc ?_ ?_ _) ; rotate_left ; (focus (first | omega | (simp ; done) | (simp ; omega))))) | (with_reducible rfl) | (focus (simp ; done))))) (by first | omega | (simp ; done) | (simp ; omega)) hb2
  clear hb2
  have hz := hb.size
  go_wp2_with fail
  obtain ⟨b3, e3⟩ : ∃ b, b = w.heap.size := ⟨_, rfl⟩
  obtain ⟨b4, e4⟩ : ∃ b, b = w.heap.size + 1 := ⟨_, rfl⟩
  rw [← e3] at g3
  rw [← e4] at g4
  rw [← e4, ← e3]
  have l3 : w.heap.size ≤ b3 := by omega
  have l4 : w.heap.size ≤ b4 := by omega
  have n34 : b3 ≠ b4 := by omega
  have m34 : b3 < w2.heap.size ∧ b4 < w2.heap.size := ⟨blk_lt g3, blk_lt g4⟩
  have HG := Lib.hid (And.intro g3 g4)
  have HB := Lib.hid hb
  clear e3 e4 hb hz g3 g4 H1
  have hSt : Stable (fun w3 : World => (Below w2.heap.size w2 w3)) := by repeat (first | exact stable_ext _ | exact stable_blk _ _ | exact stable_true | (refine stable_bel ?_ ; (focus (first | (simp [World.size_setCell] ; done) | (simp [World.setCell] ; done)))) | refine Stable.and ?_ ?_)
  refine wp_region_x [0, 1, 2, 3, 4, 5, 6, 7, 8, 9, 10, 11, 12, 13, 14] [0, 0, 0, 1, 0, 0, 0, 1, 1, 0, 0, 0, 2, 3, 0] (fun w3 => (Below w2.heap.size w2 w3)) (by kernel_rfl) (by kernel_rfl) ?_ ?_
  · (first | trivial | (repeat (first | (with_reducible assumption) | (with_reducible exact Below.refl _ _) | (with_reducible refine heap_drew ?_) | (focus ((with_reducible refine heap_new ?_) ; simp ; done)) | (with_reducible apply heap_set_to) | (focus ((with_reducible refine heap_set_ne ?_ ?_ _) ; rotate_left ; (focus (first | omega | (simp ; done) | (simp ; omega))))) | (with_reducible refine heap_old ?_) | (with_reducible refine Below.drew ?_) | (with_reducible refine below_set ?_ _ _) | (focus ((with_reducible refine Below.setCell ?_ ?_ _) ; rotate_left ; (focus (first | omega | (simp ; done) | (simp ; omega))))) | (focus ((with_reducible refine Below.alloc ?_ ?_ _) ; rotate_left ; (focus (first | omega | (simp ; done) | (simp ; omega))))) | (with_reducible rfl) | (focus (simp ; done)))))
  simp only [List.map_cons, List.map_nil, List.getD_cons_zero, List.getD_cons_succ]
  (refine x_pure rfl _ ?_ rfl (by simp) ?_ ?_ ; rotate_left ; · (intro w3 K hK ; go_wp2_with fail ; exact rfl))
  simp only [Act.put, List.setIfInBounds_toArray, List.set_cons_succ, List.set_cons_zero]
  (refine x_pure rfl _ ?_ rfl (by simp) ?_ ?_ ; rotate_left ; · (intro w3 K hK ; go_wp2_with fail ; exact rfl))
  simp only [Act.put, List.setIfInBounds_toArray, List.set_cons_succ, List.set_cons_zero]
  (refine x_pure rfl _ ?_ rfl (by simp) ?_ ?_ ; rotate_left ; · (intro w3 K hK ; go_wp2_with fail ; exact rfl))
  simp only [Act.put, List.setIfInBounds_toArray, List.set_cons_succ, List.set_cons_zero]
  (refine x_quiet rfl hSt (fun _ h => h) _ ?_ rfl (by simp) ?_ ?_ ; rotate_left ; · (intro w3 hC K hK ; have hc := hC ; have q := blk4 (H2.out.below hc).blk ; go_wp2_with fail ; refine ⟨?_, Below.refl _ _⟩ ; exact rfl))
  simp only [Act.put, List.setIfInBounds_toArray, List.set_cons_succ, List.set_cons_zero]
  (refine x_pure rfl _ ?_ rfl (by simp) ?_ ?_ ; rotate_left ; · (intro w3 K hK ; go_wp2_with fail ; exact rfl))
  simp only [Act.put, List.setIfInBounds_toArray, List.set_cons_succ, List.set_cons_zero]
  (refine x_pure rfl _ ?_ rfl (by simp) ?_ ?_ ; rotate_left ; · (intro w3 K hK ; go_wp2_with fail ; exact rfl))
  simp only [Act.put, List.setIfInBounds_toArray, List.set_cons_succ, List.set_cons_zero]
  (refine x_pure rfl _ ?_ rfl (by simp) ?_ ?_ ; rotate_left ; · (intro w3 K hK ; go_wp2_with fail ; exact rfl))
  simp only [Act.put, List.setIfInBounds_toArray, List.set_cons_succ, List.set_cons_zero]
  (refine x_quiet rfl hSt (fun _ h => h) _ ?_ rfl (by simp) ?_ ?_ ; rotate_left ; · (intro w3 hC K hK ; have hc := hC ; have q := blk4 (H2.out.below hc).blk ; go_wp2_with fail ; refine ⟨?_, Below.refl _ _⟩ ; exact rfl))
  simp only [Act.put, List.setIfInBounds_toArray, List.set_cons_succ, List.set_cons_zero]
  (refine x_quiet rfl hSt (fun _ h => h) _ ?_ rfl (by simp) ?_ ?_ ; rotate_left ; · (intro w3 hC K hK ; have hc := hC ; have q := blk4 (H2.out.below hc).blk ; go_wp2_with fail ; refine (nextb clock node w3 hc1 hc2 hn1 hn2).mono ?_ ; rintro e w2 ⟨rfl, hb2⟩ ; refine hK _ _ ⟨?_, rfl, hb2⟩ ; (try simp only [List.getElem?_toArray, List.getElem?_cons_succ, List.getElem?_cons_zero]) ; exact rfl))
  simp only [Act.put, List.setIfInBounds_toArray, List.set_cons_succ, List.set_cons_zero]
  (refine x_pure rfl _ ?_ rfl (by simp) ?_ ?_ ; rotate_left ; · (intro w3 K hK ; go_wp2_with fail ; exact rfl))
  simp only [Act.put, List.setIfInBounds_toArray, List.set_cons_succ, List.set_cons_zero]
  (refine x_pure rfl _ ?_ rfl (by simp) ?_ ?_ ; rotate_left ; · (intro w3 K hK ; go_wp2_with fail ; exact rfl))
  simp only [Act.put, List.setIfInBounds_toArray, List.set_cons_succ, List.set_cons_zero]
  (refine x_pure rfl _ ?_ rfl (by simp) ?_ ?_ ; rotate_left ; · (intro w3 K hK ; go_wp2_with fail ; exact rfl))
  simp only [Act.put, List.setIfInBounds_toArray, List.set_cons_succ, List.set_cons_zero]
  (refine x_new rfl hSt ?_ ?_ ?_ ; rotate_left ; (focus (intro w9 ; go_simp ; try exact rfl)) ; rintro gn0 ⟨w3n, hgn0, hgs0⟩)
  simp only [Act.put, List.setIfInBounds_toArray, List.set_cons_succ, List.set_cons_zero]
  refine x_write rfl ?_
  intro w3 hD K hK ; obtain ⟨hc, hn0⟩ := hD ; have q := blk4 (H2.out.below hc).blk ; have qn := blk2 hn0
  go_wp2_with fail
  (refine x_pure rfl _ ?_ rfl (by simp) ?_ ?_ ; rotate_left ; · (intro w3 K hK ; go_wp2_with fail ; exact rfl))
  simp only [Act.put, List.setIfInBounds_toArray, List.set_cons_succ, List.set_cons_zero]
  first | refine x_nil ?_ | refine x_end ?_
  rintro _ rfl
  have hgn : w2.heap.size ≤ gn0 := by have := hgn0.size; omega
  have hkv : Keep (fun k => k = gn0) w3 ((w3.setCell ⟨gn0, 0, none⟩ (.int .i64 (clock + 1))).setCell ⟨gn0, 1, none⟩ (.int .i64 node)) := (Keep.set w3 ⟨gn0, 0, none⟩ _).trans (Keep.set _ ⟨gn0, 1, none⟩ _)
  have g6 : ((w3.setCell ⟨gn0, 0, none⟩ (.int .i64 (clock + 1))).setCell ⟨gn0, 1, none⟩ (.int .i64 node)).heap[gn0]? = some (.cells #[.int .i64 (clock + 1), .int .i64 node] 44 (0, 0)) := heap_set (heap_set hn0 0 _) 1 _
  have hs4 := (H2.out.below hc).side hn0 (by decide) (by decide) (by decide) (by decide) (by omega) hkv
  have g34 := hkv.blk (blk_below HG.out.1 hc) (by omega)
  have g44 := hkv.blk (blk_below HG.out.2 hc) (by omega)
  have hk4 : Keep (fun k => k = mb ∨ k = tb ∨ k = sb) w ((w3.setCell ⟨gn0, 0, none⟩ (.int .i64 (clock + 1))).setCell ⟨gn0, 1, none⟩ (.int .i64 node)) := ((Keep.of_below HB.out).trans (Keep.of_below hc)).transNew hkv fun k e => by rw [e]; have := HB.out.size; omega
  clear hkv hn0 qn q hc hgn0 hgs0 hSt H2 HG HB
  generalize ((w3.setCell ⟨gn0, 0, none⟩ (.int .i64 (clock + 1))).setCell ⟨gn0, 1, none⟩ (.int .i64 node)) = w4 at *
  have hk5 : Keep (fun k => k = b3) w4 ((w4.setCell ⟨b3, 1, none⟩ (.int .i64 (clock + 1))).setCell ⟨b3, 2, none⟩ (.int .i64 node)) := (Keep.set w4 ⟨b3, 1, none⟩ _).trans (Keep.set _ ⟨b3, 2, none⟩ _)
  have HS5 := Lib.hid (hs4.side g34 (by decide) (by decide) (by decide) (by decide) (by omega) hk5)
  have HG5 := Lib.hid (And.intro (hk5.blk g44 (by omega)) (And.intro (hk5.blk g6 (by omega)) (hk4.transNew hk5 fun k e => by rw [e]; exact l3)))
  have q6 := blk2 g6
  have q3 := blk5 g34
  clear hk5 hs4 g34 g44 g6 hk4
  go_wp2_with fail
  refine (lay_any sb tb mb node clock M t k (clock + 1) node v d _ HS5.out hs hf hk).mono ?_
  rintro x w9 ⟨rfl, m, hm, hst, hkp⟩
  rw [show max clock (clock + 1) = clock + 1 by omega] at hst
  have hmm := HM.out
  have g49 := hkp.blk HG5.out.1 (by omega)
  have g69 := hkp.blk HG5.out.2.1 (by omega)
  have HZ := Lib.hid (And.intro hst (And.intro (HG5.out.2.2.trans hkp) g49))
  clear q6 q3 hst hkp hmm HS5 HG5
  have q6 := blk2 g69
  have q4 := blk2 g49
  clear g69 g49
  go_wp2_with fail
  have hke : Keep (fun k => k = b4) w9 ((w9.setCell ⟨b4, 0, none⟩ (.int .i64 (clock + 1))).setCell ⟨b4, 1, none⟩ (.int .i64 node)) := (Keep.set w9 ⟨b4, 0, none⟩ _).trans (Keep.set _ ⟨b4, 1, none⟩ _)
  refine bodyPost_ret (v := .tuple #[vV (clock + 1) node, .int .i64 0]) (by simp [results, Tryz.results132, go_sem, q4]) rfl ⟨rfl, m, hm, ?_, HZ.out.2.1.transNew hke fun k e => by rw [e]; exact l4⟩
  exact HZ.out.1.side HZ.out.2.2 (by decide) (by decide) (by decide) (by decide) (by omega) hke
set_option maxRecDepth 100000 in
set_option maxHeartbeats 8000000 in
theorem sput_bad (sb tb mb : Nat) (node clock : Int) (M : Nat) (t : Tr) (k v : ByteArray) (w : World) (h : StAt w sb tb mb node clock M t) (hs : t.size ≤ 1099511627000) (hk : k.size ≤ 140737488351232) (hv : v.size ≤ 140737488351232) (he : errW t k v ≠ 0) :
    Calls Tryz.prog 93 #[.pointer (some ⟨sb, 0, none⟩), .string k, .string v] w (WBad w sb tb mb node clock M t (errW t k v)) := by
  have hb0 := below_alloc_self w (.cells #[.int .i64 0, .int .i64 0] 44 (0, 0))
  have H1 := Lib.hid (h.below hb0)
  have HE := Lib.hid he
  clear h hb0 he
  generalize hgE : errW t k v = E at *
  have HGE := Lib.hid hgE
  clear hgE
  go_enter Tryz.func93, Tryz.ntmps93
  go_wp2_with fail
  refine (write_bad sb tb mb node clock M t k v false _ H1.out hs hk hv (by rw [HGE.out]; exact HE.out)).mono ?_
  rintro e w2 ⟨rfl, hb2⟩
  rw [HGE.out]
  have g4 : w2.heap[w.heap.size]? = some (.cells #[.int .i64 0, .int .i64 0] 44 (0, 0)) := blk_below (by (repeat (first | (with_reducible assumption) | (with_reducible exact Below.refl _ _) | (with_reducible refine heap_drew ?_) | (focus ((with_reducible refine heap_new ?_) ; simp ; done)) | (with_reducible apply heap_set_to) | (focus ((with_reducible refine heap_set_ne ?_ ?_ _) ; rotate_left ; (focus (first | omega | (simp ; done) | (simp ; omega))))) | (with_reducible refine heap_old ?_) | (with_reducible refine Below.drew ?_) | (with_reducible refine below_set ?_ _ _) | (focus ((with_reducible refine Below.setCell ?_ ?_ _) ; rotate_left ; (focus (first | omega | (simp ; done) | (simp ; omega))))) | (focus ((with_reducible refine Below.alloc ?_ ?_ _) ; rotate_left ; (focus (first | omega | (simp ; done) | (simp ; omega))))) | (with_reducible rfl) | (focus (simp ; done))))) hb2
  have hb : Below w.heap.size w w2 := below_back (by (repeat (first | (with_reducible assumption) | (with_reducible exact Below.refl _ _) | (with_reducible refine heap_drew ?_) | (focus ((with_reducible refine heap_new ?_) ; simp ; done)) | (with_reducible apply heap_set_to) | (focus ((with_reducible refine heap_set_ne ?_ ?_ _) ; rotate_left ; (focus (first | omega | (simp ; done) | (simp ; omega))))) | (with_reducible refine heap_old ?_) | (with_reducible refine Below.drew ?_) | (with_reducible refine below_set ?_ _ _) | (focus ((with_reducible refine Below.setCell ?_ ?_ _) ; rotate_left ; (focus (first | omega | (simp ; done) | (simp ; omega))))) | (focus ((with_reducible refine Below.alloc ?_ ?_ _) ; rotate_left ; (focus (first | omega | (simp ; done) | (simp ; omega))))) | (with_reducible rfl) | (focus (simp ; done))))) (by first | omega | (simp ; done) | (simp ; omega)) hb2
  clear hb2
  have q4 := blk2 g4
  go_wp2_with fail
  refine bodyPost_ret (v := .tuple #[vV 0 0, .int .i64 E]) (by simp [results, Tryz.results93, go_sem, q4]) rfl ⟨rfl, ?_⟩
  (repeat (first | (with_reducible assumption) | (with_reducible exact Below.refl _ _) | (with_reducible refine heap_drew ?_) | (focus ((with_reducible refine heap_new ?_) ; simp ; done)) | (with_reducible apply heap_set_to) | (focus ((with_reducible refine heap_set_ne ?_ ?_ _) ; rotate_left ; (focus (first | omega | (simp ; done) | (simp ; omega))))) | (with_reducible refine heap_old ?_) | (with_reducible refine Below.drew ?_) | (with_reducible refine below_set ?_ _ _) | (focus ((with_reducible refine Below.setCell ?_ ?_ _) ; rotate_left ; (focus (first | omega | (simp ; done) | (simp ; omega))))) | (focus ((with_reducible refine Below.alloc ?_ ?_ _) ; rotate_left ; (focus (first | omega | (simp ; done) | (simp ; omega))))) | (with_reducible rfl) | (focus (simp ; done))))
set_option maxRecDepth 100000 in
set_option maxHeartbeats 8000000 in
theorem sput_ok (sb tb mb : Nat) (node clock : Int) (M : Nat) (t : Tr) (k v : ByteArray) (w : World) (h : StAt w sb tb mb node clock M t) (hs : t.size ≤ 1099511627000) (hk : k.size ≤ 140737488351232) (hv : v.size ≤ 140737488351232) (hf : M + 6 * t.high ≤ 4611686018427370000) (hc1 : 0 ≤ clock) (hc2 : clock < 1099511627776) (hn1 : 0 ≤ node) (hn2 : node < 8) (he : errW t k v = 0) :
    Calls Tryz.prog 93 #[.pointer (some ⟨sb, 0, none⟩), .string k, .string v] w (WOk w sb tb mb node clock M t k v false) := by
  have hb0 := below_alloc_self w (.cells #[.int .i64 0, .int .i64 0] 44 (0, 0))
  have H1 := Lib.hid (h.below hb0)
  have hmm : mb < w.heap.size ∧ tb < w.heap.size ∧ sb < w.heap.size := ⟨blk_lt h.mt, by obtain ⟨_, q, _⟩ := h.ob; exact blk_lt q, blk_lt h.blk⟩
  have hpos := h.lanes.lt
  have HE := Lib.hid he
  clear h he
  go_enter Tryz.func93, Tryz.ntmps93
  go_wp2_with fail
  refine (write_ok sb tb mb node clock M t k v false _ H1.out hs hk hv hf hc1 hc2 hn1 hn2 HE.out).mono ?_
  rintro e w2 ⟨rfl, m, hm, hst, hkp⟩
  have g0 : (w.alloc (.cells #[.int .i64 0, .int .i64 0] 44 (0, 0))).heap[w.heap.size]? = some (.cells #[.int .i64 0, .int .i64 0] 44 (0, 0)) := by (repeat (first | (with_reducible assumption) | (with_reducible exact Below.refl _ _) | (with_reducible refine heap_drew ?_) | (focus ((with_reducible refine heap_new ?_) ; simp ; done)) | (with_reducible apply heap_set_to) | (focus ((with_reducible refine heap_set_ne ?_ ?_ _) ; rotate_left ; (focus (first | omega | (simp ; done) | (simp ; omega))))) | (with_reducible refine heap_old ?_) | (with_reducible refine Below.drew ?_) | (with_reducible refine below_set ?_ _ _) | (focus ((with_reducible refine Below.setCell ?_ ?_ _) ; rotate_left ; (focus (first | omega | (simp ; done) | (simp ; omega))))) | (focus ((with_reducible refine Below.alloc ?_ ?_ _) ; rotate_left ; (focus (first | omega | (simp ; done) | (simp ; omega))))) | (with_reducible rfl) | (focus (simp ; done))))
  have g4 := hkp.blk g0 (by omega)
  have HZ := Lib.hid (And.intro hst (And.intro ((Keep.of_below hb0).trans hkp) g4))
  clear hb0 hst hkp g0 hmm
  have q4 := blk2 g4
  clear g4
  go_wp2_with fail
  have hke : Keep (fun k => k = w.heap.size) w2 ((w2.setCell ⟨w.heap.size, 0, none⟩ (.int .i64 (clock + 1))).setCell ⟨w.heap.size, 1, none⟩ (.int .i64 node)) := (Keep.set w2 ⟨w.heap.size, 0, none⟩ _).trans (Keep.set _ ⟨w.heap.size, 1, none⟩ _)
  refine bodyPost_ret (v := .tuple #[vV (clock + 1) node, .int .i64 0]) (by simp [results, Tryz.results93, go_sem, q4]) rfl ⟨rfl, m, hm, ?_, HZ.out.2.1.transNew hke fun k e => by rw [e]; exact Nat.le_refl _⟩
  exact HZ.out.1.side HZ.out.2.2 (by decide) (by decide) (by decide) (by decide) (by omega) hke
set_option maxRecDepth 100000 in
set_option maxHeartbeats 8000000 in
theorem sdel_bad (sb tb mb : Nat) (node clock : Int) (M : Nat) (t : Tr) (k : ByteArray) (w : World) (h : StAt w sb tb mb node clock M t) (hs : t.size ≤ 1099511627000) (hk : k.size ≤ 140737488351232) (he : errW t k ⟨#[]⟩ ≠ 0) :
    Calls Tryz.prog 95 #[.pointer (some ⟨sb, 0, none⟩), .string k] w (WBad w sb tb mb node clock M t (errW t k ⟨#[]⟩)) := by
  have hb0 := below_alloc_self w (.cells #[.int .i64 0, .int .i64 0] 44 (0, 0))
  have H1 := Lib.hid (h.below hb0)
  have HE := Lib.hid he
  clear h hb0 he
  generalize hgE : errW t k ⟨#[]⟩ = E at *
  have HGE := Lib.hid hgE
  clear hgE
  go_enter Tryz.func95, Tryz.ntmps95
  go_wp2_with fail
  refine (write_bad sb tb mb node clock M t k ⟨#[]⟩ true _ H1.out hs hk (Nat.zero_le _) (by rw [HGE.out]; exact HE.out)).mono ?_
  rintro e w2 ⟨rfl, hb2⟩
  rw [HGE.out]
  have g4 : w2.heap[w.heap.size]? = some (.cells #[.int .i64 0, .int .i64 0] 44 (0, 0)) := blk_below (by (repeat (first | (with_reducible assumption) | (with_reducible exact Below.refl _ _) | (with_reducible refine heap_drew ?_) | (focus ((with_reducible refine heap_new ?_) ; simp ; done)) | (with_reducible apply heap_set_to) | (focus ((with_reducible refine heap_set_ne ?_ ?_ _) ; rotate_left ; (focus (first | omega | (simp ; done) | (simp ; omega))))) | (with_reducible refine heap_old ?_) | (with_reducible refine Below.drew ?_) | (with_reducible refine below_set ?_ _ _) | (focus ((with_reducible refine Below.setCell ?_ ?_ _) ; rotate_left ; (focus (first | omega | (simp ; done) | (simp ; omega))))) | (focus ((with_reducible refine Below.alloc ?_ ?_ _) ; rotate_left ; (focus (first | omega | (simp ; done) | (simp ; omega))))) | (with_reducible rfl) | (focus (simp ; done))))) hb2
  have hb : Below w.heap.size w w2 := below_back (by (repeat (first | (with_reducible assumption) | (with_reducible exact Below.refl _ _) | (with_reducible refine heap_drew ?_) | (focus ((with_reducible refine heap_new ?_) ; simp ; done)) | (with_reducible apply heap_set_to) | (focus ((with_reducible refine heap_set_ne ?_ ?_ _) ; rotate_left ; (focus (first | omega | (simp ; done) | (simp ; omega))))) | (with_reducible refine heap_old ?_) | (with_reducible refine Below.drew ?_) | (with_reducible refine below_set ?_ _ _) | (focus ((with_reducible refine Below.setCell ?_ ?_ _) ; rotate_left ; (focus (first | omega | (simp ; done) | (simp ; omega))))) | (focus ((with_reducible refine Below.alloc ?_ ?_ _) ; rotate_left ; (focus (first | omega | (simp ; done) | (simp ; omega))))) | (with_reducible rfl) | (focus (simp ; done))))) (by first | omega | (simp ; done) | (simp ; omega)) hb2
  clear hb2
  have q4 := blk2 g4
  go_wp2_with fail
  refine bodyPost_ret (v := .tuple #[vV 0 0, .int .i64 E]) (by simp [results, Tryz.results95, go_sem, q4]) rfl ⟨rfl, ?_⟩
  (repeat (first | (with_reducible assumption) | (with_reducible exact Below.refl _ _) | (with_reducible refine heap_drew ?_) | (focus ((with_reducible refine heap_new ?_) ; simp ; done)) | (with_reducible apply heap_set_to) | (focus ((with_reducible refine heap_set_ne ?_ ?_ _) ; rotate_left ; (focus (first | omega | (simp ; done) | (simp ; omega))))) | (with_reducible refine heap_old ?_) | (with_reducible refine Below.drew ?_) | (with_reducible refine below_set ?_ _ _) | (focus ((with_reducible refine Below.setCell ?_ ?_ _) ; rotate_left ; (focus (first | omega | (simp ; done) | (simp ; omega))))) | (focus ((with_reducible refine Below.alloc ?_ ?_ _) ; rotate_left ; (focus (first | omega | (simp ; done) | (simp ; omega))))) | (with_reducible rfl) | (focus (simp ; done))))
set_option maxRecDepth 100000 in
set_option maxHeartbeats 8000000 in
theorem sdel_ok (sb tb mb : Nat) (node clock : Int) (M : Nat) (t : Tr) (k : ByteArray) (w : World) (h : StAt w sb tb mb node clock M t) (hs : t.size ≤ 1099511627000) (hk : k.size ≤ 140737488351232) (hf : M + 6 * t.high ≤ 4611686018427370000) (hc1 : 0 ≤ clock) (hc2 : clock < 1099511627776) (hn1 : 0 ≤ node) (hn2 : node < 8) (he : errW t k ⟨#[]⟩ = 0) :
    Calls Tryz.prog 95 #[.pointer (some ⟨sb, 0, none⟩), .string k] w (WOk w sb tb mb node clock M t k ⟨#[]⟩ true) := by
  have hb0 := below_alloc_self w (.cells #[.int .i64 0, .int .i64 0] 44 (0, 0))
  have H1 := Lib.hid (h.below hb0)
  have hmm : mb < w.heap.size ∧ tb < w.heap.size ∧ sb < w.heap.size := ⟨blk_lt h.mt, by obtain ⟨_, q, _⟩ := h.ob; exact blk_lt q, blk_lt h.blk⟩
  have hpos := h.lanes.lt
  have HE := Lib.hid he
  clear h he
  go_enter Tryz.func95, Tryz.ntmps95
  go_wp2_with fail
  refine (write_ok sb tb mb node clock M t k ⟨#[]⟩ true _ H1.out hs hk (Nat.zero_le _) hf hc1 hc2 hn1 hn2 HE.out).mono ?_
  rintro e w2 ⟨rfl, m, hm, hst, hkp⟩
  have g0 : (w.alloc (.cells #[.int .i64 0, .int .i64 0] 44 (0, 0))).heap[w.heap.size]? = some (.cells #[.int .i64 0, .int .i64 0] 44 (0, 0)) := by (repeat (first | (with_reducible assumption) | (with_reducible exact Below.refl _ _) | (with_reducible refine heap_drew ?_) | (focus ((with_reducible refine heap_new ?_) ; simp ; done)) | (with_reducible apply heap_set_to) | (focus ((with_reducible refine heap_set_ne ?_ ?_ _) ; rotate_left ; (focus (first | omega | (simp ; done) | (simp ; omega))))) | (with_reducible refine heap_old ?_) | (with_reducible refine Below.drew ?_) | (with_reducible refine below_set ?_ _ _) | (focus ((with_reducible refine Below.setCell ?_ ?_ _) ; rotate_left ; (focus (first | omega | (simp ; done) | (simp ; omega))))) | (focus ((with_reducible refine Below.alloc ?_ ?_ _) ; rotate_left ; (focus (first | omega | (simp ; done) | (simp ; omega))))) | (with_reducible rfl) | (focus (simp ; done))))
  have g4 := hkp.blk g0 (by omega)
  have HZ := Lib.hid (And.intro hst (And.intro ((Keep.of_below hb0).trans hkp) g4))
  clear hb0 hst hkp g0 hmm
  have q4 := blk2 g4
  clear g4
  go_wp2_with fail
  have hke : Keep (fun k => k = w.heap.size) w2 ((w2.setCell ⟨w.heap.size, 0, none⟩ (.int .i64 (clock + 1))).setCell ⟨w.heap.size, 1, none⟩ (.int .i64 node)) := (Keep.set w2 ⟨w.heap.size, 0, none⟩ _).trans (Keep.set _ ⟨w.heap.size, 1, none⟩ _)
  refine bodyPost_ret (v := .tuple #[vV (clock + 1) node, .int .i64 0]) (by simp [results, Tryz.results95, go_sem, q4]) rfl ⟨rfl, m, hm, ?_, HZ.out.2.1.transNew hke fun k e => by rw [e]; exact Nat.le_refl _⟩
  exact HZ.out.1.side HZ.out.2.2 (by decide) (by decide) (by decide) (by decide) (by omega) hke
end Go.Proofs.YtdflmplmpjghdaaGreatDoor
