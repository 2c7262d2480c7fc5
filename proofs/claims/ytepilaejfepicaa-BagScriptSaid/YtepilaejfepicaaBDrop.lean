/-
  The bag's Take and Drop.
-/
import Derived.Test.YtepilaejfepicaaBTake
namespace Go.Proofs.Ytepilaejfepicaa
open Go.ChangeShapes Go.WideShapes Go.ChangeAt Go.RowKit Go.Deep
set_option linter.unusedVariables false
set_option linter.unusedSimpArgs false

theorem own_mono {w : World} {base base' n size : Nat} {e : TypeId} {v : Value} {xs : List Value} (h : w.ownsRow base e size v n xs) (hb : base' ≤ base) : w.ownsRow base' e size v n xs := by
  refine ⟨h.1, ?_⟩
  rcases h.2 with h2 | ⟨g, cap, cur, hv, hg, r⟩
  · exact Or.inl h2
  · exact Or.inr ⟨g, cap, cur, hv, Nat.le_trans hb hg, r⟩
theorem concat_cut {w wx : World} {B g ca : Nat} {L : List Pk} (i : Nat) (hi : i < L.length) (hL : L.length ≤ 512) (hown : w.ownsRow B 39 4 (.slice (some ⟨g, 0, none⟩) L.length ca) L.length (pflat L)) (hx : Below w.heap.size w wx)
    (h2 : Nat) (a1 : Addr) (c1 : Nat) (ha : a1 = ⟨g, (i + 1) * 4, none⟩ ∨ (L.length = i + 1 ∧ a1.block < wx.heap.size)) (hh : wx.heap[h2]? = some (.cells #[.slice (some ⟨g, 0, none⟩) i i, .slice (some a1) (L.length - (i + 1)) c1] 54 (0, 0))) :
    Calls Try.prog 30 #[.slice (some ⟨h2, 0, none⟩) 2 2] wx fun e w' => ∃ v, e = .returned v ∧ w'.ownsRow wx.heap.size 39 4 v (L.take i ++ L.drop (i + 1)).length (pflat (L.take i ++ L.drop (i + 1))) ∧ Below wx.heap.size wx w' := by
  have hg : g < w.heap.size := (hown.lt g rfl).2
  have hgx := Nat.lt_of_lt_of_le hg hx.size
  have key : ∀ j, j < L.length * 4 → wx.cell? ⟨g, j, none⟩ = (pflat L)[j]? := fun j hj => (hx.cell (p := ⟨g, j, none⟩) hg).trans (hown.cellAt j hj)
  have hlt : (L.take i).length = i := by simp; omega
  have hld : (L.drop (i + 1)).length = L.length - (i + 1) := by simp
  refine (concat_two h2 i i (L.length - (i + 1)) c1 (some ⟨g, 0, none⟩) (some a1) (pflat (L.take i)) (pflat (L.drop (i + 1))) wx hh (by rw [pflat_length, hlt]) (fun h => by cases h) ?_ (pflat_one _) (by rw [pflat_length, hld]) (fun h => by cases h) ?_ (pflat_one _) (by omega)).mono ?_
  · rintro ad he
    obtain rfl : (⟨g, 0, none⟩ : Addr) = ad := Option.some.inj he
    refine ⟨hgx, fun j u hj => ?_⟩
    have hjl := (List.getElem?_eq_some_iff.1 hj).1
    rw [pflat_length, hlt] at hjl
    rw [add_none, Nat.zero_add, key j (by omega), ← hj, ← pflat_take, List.getElem?_take, if_pos hjl]
  · rintro ad he
    obtain rfl : a1 = ad := Option.some.inj he
    rcases ha with rfl | ⟨h1, h3⟩
    · refine ⟨hgx, fun j u hj => ?_⟩
      have hjl := (List.getElem?_eq_some_iff.1 hj).1
      rw [pflat_length, hld] at hjl
      rw [add_none, key _ (by omega), ← hj, ← pflat_drop, List.getElem?_drop]
    · refine ⟨h3, fun j u hj => ?_⟩
      have hjl := (List.getElem?_eq_some_iff.1 hj).1
      rw [pflat_length, hld] at hjl
      omega
  · rintro e w' ⟨v, rfl, hv, hb⟩
    refine ⟨v, rfl, ?_, hb⟩
    rw [pflat_append, List.length_append, hlt, hld]
    exact hv
theorem concat_last {w wx : World} {B g ca : Nat} {L : List Pk} (i : Nat) (hi : i < L.length) (hL : L.length ≤ 512) (hown : w.ownsRow B 39 4 (.slice (some ⟨g, 0, none⟩) L.length ca) L.length (pflat L)) (hx : Below w.heap.size w wx)
    (h2 : Nat) (a1 : Addr) (c1 : Nat) (ha : L.length = i + 1 ∧ a1.block < wx.heap.size) (hh : wx.heap[h2]? = some (.cells #[.slice (some ⟨g, 0, none⟩) i i, .slice (some a1) 0 c1] 54 (0, 0))) :
    Calls Try.prog 30 #[.slice (some ⟨h2, 0, none⟩) 2 2] wx fun e w' => ∃ v, e = .returned v ∧ w'.ownsRow wx.heap.size 39 4 v (L.take i ++ L.drop (i + 1)).length (pflat (L.take i ++ L.drop (i + 1))) ∧ Below wx.heap.size wx w' :=
  concat_cut i hi hL hown hx h2 a1 c1 (Or.inr ha) (by rw [show L.length - (i + 1) = 0 by omega]; exact hh)
/-- Another row in the place of the bag's. -/
theorem bag_swap {w w9 : World} {B b wx : Nat} {vs v : Value} {room num lost : Int} {L L' : List Pk} (h : BagAt w B b vs room num lost L) (h9 : Below w.heap.size w w9) (hv : w9.ownsRow wx 39 4 v L'.length (pflat L')) (hwx : w.heap.size ≤ wx) (hsub : ∀ p ∈ L', p ∈ L) (hBw : B ≤ w.heap.size) :
    BagAt (w9.setCell ⟨b, 3, none⟩ v) B b v room num lost L' ∧ Keep (fun k => k = b) w (w9.setCell ⟨b, 3, none⟩ v) := by
  have h0 := h.below h9
  have hv0 := own_mono hv (Nat.le_trans hBw hwx)
  have K2 := Keep.set w9 ⟨b, 3, none⟩ v
  refine ⟨⟨h.1, heap_set_to h0.2.1 (by simp), own_keep hv0 K2 (fun g hg e => own_ne hv0 h0.2.1 (by decide) (by rw [hg, e])), fun p hp => (h0.2.2.2 p (hsub p hp)).keep K2 (fun g cs hg e => by
    subst e
    rw [h0.2.1] at hg
    simp at hg)⟩, (Keep.of_below h9).trans K2⟩

theorem take_none (B b : Nat) (vs : Value) (room num lost : Int) (L : List Pk) (i : Int) (w : World) (h : BagAt w B b vs room num lost L) (hi : i < 0 ∨ (L.length : Int) ≤ i) :
    Calls Try.prog 12 #[.pointer (some ⟨b, 0, none⟩), .int .i64 i] w fun e w' => e = .returned (.tuple #[pv 0 0 0 none 0 0, .int .i64 161]) ∧ Below w.heap.size w w' := by
  have C := fun w1 (hb : Below w.heap.size w w1) => none_any B b vs room num lost L i w1 (h.below hb)
  rw [decide_eq_true hi] at C
  have HC : Hid (∀ w1, Below w.heap.size w w1 → Calls Try.prog 29 #[.pointer (some ⟨b, 0, none⟩), .int .i64 i] w1 fun e w' => e = .returned (.bool true) ∧ w' = w1) := C
  clear h hi C
  go_enter Try.func12, Try.ntmps12
  go_wp2_with fail
  refine (HC.out _ (below_alloc_self w _)).mono ?_
  rintro e w1 ⟨rfl, rfl⟩
  clear HC
  go_wp2_with fail
  have qz := blk4 (show (w.alloc (.cells #[.int .i64 0, .int .i64 0, .int .i64 0, .slice none 0 0] 39 (0, 0))).heap[w.heap.size]? = some (.cells #[.int .i64 0, .int .i64 0, .int .i64 0, .slice none 0 0] 39 (0, 0)) from heap_new rfl)
  exact bodyPost_ret (v := .tuple #[pv 0 0 0 none 0 0, .int .i64 161]) (by simp [results, Try.results12, go_sem, qz.1, qz.2.1, qz.2.2.1, qz.2.2.2.1]) rfl ⟨rfl, below_alloc_self w _⟩

set_option maxHeartbeats 8000000 in
theorem take_ok1 (B b : Nat) (vs : Value) (room num lost : Int) (L : List Pk) (i : Nat) (hi : i < L.length) (w : World) (h : BagAt w B b vs room num lost L) (hBw : B ≤ w.heap.size) (hL : L.length ≤ 512) (hok : ∀ p ∈ L, p.Ok) :
    Calls Try.prog 12 #[.pointer (some ⟨b, 0, none⟩), .int .i64 i] w fun e w' => ∃ vs' ad' cap', e = .returned (.tuple #[pv L[i].num L[i].frm L[i].to ad' L[i].s.size cap', .int .i64 0]) ∧
      BagAt w' B b vs' room num lost (L.take i ++ L.drop (i + 1)) ∧ Keep (fun k => k = b) w w' ∧ (ad' = none → L[i].s.size = 0 ∧ cap' = 0) ∧ Dat w' w.heap.size ad' L[i].s ∧ ∀ g, vs'.ownBlock = some g → w.heap.size ≤ g := by
  have C := fun w1 (hb : Below w.heap.size w w1) => none_any B b vs room num lost L i w1 (h.below hb)
  rw [decide_eq_false (by omega)] at C
  have HC : Hid (∀ w1, Below w.heap.size w w1 → Calls Try.prog 29 #[.pointer (some ⟨b, 0, none⟩), .int .i64 i] w1 fun e w' => e = .returned (.bool false) ∧ w' = w1) := C
  have HB : Hid (BagAt w B b vs room num lost L) := h
  have hblk := h.2.1
  have hb0 : B ≤ b := h.1
  obtain ⟨oa, ca, rfl, hca, hca2, _, _⟩ := row_form h.2.2.1
  obtain ⟨g, rfl, x0, x1, x2, x3⟩ := own_pk h.2.2.1 i hi
  have hgw : g < w.heap.size := (h.2.2.1.lt g rfl).2
  have HX : Hid (∀ w1, Below w.heap.size w w1 → w1.cell? ⟨g, i * 4, none⟩ = some (.int .i64 L[i].num) ∧ w1.cell? ⟨g, i * 4 + 1, none⟩ = some (.int .i64 L[i].frm) ∧ w1.cell? ⟨g, i * 4 + 2, none⟩ = some (.int .i64 L[i].to) ∧ w1.cell? ⟨g, i * 4 + 3, none⟩ = some (.slice L[i].ad L[i].s.size L[i].cap)) :=
    fun w1 hb => ⟨(hb.cell (p := ⟨g, i * 4, none⟩) hgw).trans x0, (hb.cell (p := ⟨g, i * 4 + 1, none⟩) hgw).trans x1, (hb.cell (p := ⟨g, i * 4 + 2, none⟩) hgw).trans x2, (hb.cell (p := ⟨g, i * 4 + 3, none⟩) hgw).trans x3⟩
  have HP : Hid (L[i].Ok ∧ Dat w B L[i].ad L[i].s) := ⟨hok _ (List.getElem_mem hi), h.2.2.2 _ (List.getElem_mem hi)⟩
  clear h C x0 x1 x2 x3 hok
  unfold maxLen at hca2
  go_enter Try.func12, Try.ntmps12
  go_wp2_with fail
  refine (HC.out _ (below_alloc_self w _)).mono ?_
  rintro e w1 ⟨rfl, rfl⟩
  clear HC
  have q := blk4 (blk_below hblk (below_alloc_self w (.cells #[.int .i64 0, .int .i64 0, .int .i64 0, .slice none 0 0] 39 (0, 0))))
  have qx := HX.out _ (below_alloc_self w (.cells #[.int .i64 0, .int .i64 0, .int .i64 0, .slice none 0 0] 39 (0, 0)))
  go_wp2_with fail
  have hbs : Below w.heap.size w ((w.alloc (.cells #[.int .i64 0, .int .i64 0, .int .i64 0, .slice none 0 0] 39 (0, 0))).alloc (.cells #[.int .i64 L[i].num, .int .i64 L[i].frm, .int .i64 L[i].to, .slice L[i].ad L[i].s.size L[i].cap] 39 (0, 0))) := by (repeat (first | (with_reducible assumption) | (with_reducible exact Below.refl _ _) | (with_reducible refine heap_drew ?_) | (focus ((with_reducible refine heap_new ?_) ; simp ; done)) | (with_reducible apply heap_set_to) | (focus ((with_reducible refine heap_set_ne ?_ ?_ _) ; rotate_left ; (focus (first | omega | (simp ; done) | (simp ; omega))))) | (with_reducible refine heap_old ?_) | (with_reducible refine Below.drew ?_) | (with_reducible refine below_set ?_ _ _) | (focus ((with_reducible refine Below.setCell ?_ ?_ _) ; rotate_left ; (focus (first | omega | (simp ; done) | (simp ; omega))))) | (focus ((with_reducible refine Below.alloc ?_ ?_ _) ; rotate_left ; (focus (first | omega | (simp ; done) | (simp ; omega))))) | (with_reducible rfl) | (focus (simp ; done))))
  have gr : ((w.alloc (.cells #[.int .i64 0, .int .i64 0, .int .i64 0, .slice none 0 0] 39 (0, 0))).alloc (.cells #[.int .i64 L[i].num, .int .i64 L[i].frm, .int .i64 L[i].to, .slice L[i].ad L[i].s.size L[i].cap] 39 (0, 0))).heap[w.heap.size]? = some (.cells #[.int .i64 0, .int .i64 0, .int .i64 0, .slice none 0 0] 39 (0, 0)) := by (repeat (first | (with_reducible assumption) | (with_reducible exact Below.refl _ _) | (with_reducible refine heap_drew ?_) | (focus ((with_reducible refine heap_new ?_) ; simp ; done)) | (with_reducible apply heap_set_to) | (focus ((with_reducible refine heap_set_ne ?_ ?_ _) ; rotate_left ; (focus (first | omega | (simp ; done) | (simp ; omega))))) | (with_reducible refine heap_old ?_) | (with_reducible refine Below.drew ?_) | (with_reducible refine below_set ?_ _ _) | (focus ((with_reducible refine Below.setCell ?_ ?_ _) ; rotate_left ; (focus (first | omega | (simp ; done) | (simp ; omega))))) | (focus ((with_reducible refine Below.alloc ?_ ?_ _) ; rotate_left ; (focus (first | omega | (simp ; done) | (simp ; omega))))) | (with_reducible rfl) | (focus (simp ; done))))
  have gp : ((w.alloc (.cells #[.int .i64 0, .int .i64 0, .int .i64 0, .slice none 0 0] 39 (0, 0))).alloc (.cells #[.int .i64 L[i].num, .int .i64 L[i].frm, .int .i64 L[i].to, .slice L[i].ad L[i].s.size L[i].cap] 39 (0, 0))).heap[w.heap.size + 1]? = some (.cells #[.int .i64 L[i].num, .int .i64 L[i].frm, .int .i64 L[i].to, .slice L[i].ad L[i].s.size L[i].cap] 39 (0, 0)) := by (repeat (first | (with_reducible assumption) | (with_reducible exact Below.refl _ _) | (with_reducible refine heap_drew ?_) | (focus ((with_reducible refine heap_new ?_) ; simp ; done)) | (with_reducible apply heap_set_to) | (focus ((with_reducible refine heap_set_ne ?_ ?_ _) ; rotate_left ; (focus (first | omega | (simp ; done) | (simp ; omega))))) | (with_reducible refine heap_old ?_) | (with_reducible refine Below.drew ?_) | (with_reducible refine below_set ?_ _ _) | (focus ((with_reducible refine Below.setCell ?_ ?_ _) ; rotate_left ; (focus (first | omega | (simp ; done) | (simp ; omega))))) | (focus ((with_reducible refine Below.alloc ?_ ?_ _) ; rotate_left ; (focus (first | omega | (simp ; done) | (simp ; omega))))) | (with_reducible rfl) | (focus (simp ; done))))
  obtain ⟨rb, hrb⟩ : ∃ x, x = w.heap.size := ⟨_, rfl⟩
  rw [← hrb] at gr gp ⊢
  have HRB : Hid (rb = w.heap.size) := hrb
  have hbrb : b < rb := by have := blk_lt hblk; omega
  have hgrb : g < rb := by omega
  have hblks := blk_below hblk hbs
  have hgs := Nat.lt_of_lt_of_le hgw hbs.size
  clear hrb qx q hblk
  generalize hws : (w.alloc (.cells #[.int .i64 0, .int .i64 0, .int .i64 0, .slice none 0 0] 39 (0, 0))).alloc (.cells #[.int .i64 L[i].num, .int .i64 L[i].frm, .int .i64 L[i].to, .slice L[i].ad L[i].s.size L[i].cap] 39 (0, 0)) = ws at *
  clear hws
  obtain ⟨L', hLe⟩ : ∃ x, x = L.take i ++ L.drop (i + 1) := ⟨_, rfl⟩
  have HLe : Hid (L.take i ++ L.drop (i + 1) = L') := hLe.symm
  clear hLe
  by_cases hcm : i + 1 = ca
  · have HLast : Hid (L.length = i + 1) := by show L.length = i + 1; omega
    subst hcm
    refine wp_region_p [0, 1, 2, 3, 5, 6, 8, 9, 10, 12, 13] [0, 0, 0, 0, 1, 0, 0, 0, 0, 0, 0, 1, 0, 0, 0, 3, 3, 0, 0, 3] 9 #[true, true, true, true, false, true, true, false, true, true, true, false, true, true, false, false, false, false, false, false] (fun w8 => Below ws.heap.size ws w8) (by kernel_rfl) (by kernel_rfl) ?_ ?_
    · exact (Below.refl _ _).drew
    simp only [List.map_cons, List.map_nil, List.getD_cons_zero, List.getD_cons_succ]
    (refine x_pure rfl _ ?_ rfl (by simp) ?_ ?_ ; rotate_left ; · (intro w8 K hK ; go_wp2_with fail ; exact rfl))
    simp only [Act.put, List.setIfInBounds_toArray, List.set_cons_succ, List.set_cons_zero]
    (refine x_pure rfl _ ?_ rfl (by simp) ?_ ?_ ; rotate_left ; · (intro w8 K hK ; go_wp2_with fail ; exact rfl))
    simp only [Act.put, List.setIfInBounds_toArray, List.set_cons_succ, List.set_cons_zero]
    (refine x_pure rfl _ ?_ rfl (by simp) ?_ ?_ ; rotate_left ; · (intro w8 K hK ; go_wp2_with fail ; exact rfl))
    simp only [Act.put, List.setIfInBounds_toArray, List.set_cons_succ, List.set_cons_zero]
    (refine x_pure rfl _ ?_ rfl (by simp) ?_ ?_ ; rotate_left ; · (intro w8 K hK ; go_wp2_with fail ; exact rfl))
    simp only [Act.put, List.setIfInBounds_toArray, List.set_cons_succ, List.set_cons_zero]
    (refine x_pure rfl _ ?_ rfl (by simp) ?_ ?_ ; rotate_left ; · (intro w8 K hK ; go_wp2_with fail ; exact rfl))
    simp only [Act.put, List.setIfInBounds_toArray, List.set_cons_succ, List.set_cons_zero]
    (refine x_pure rfl _ ?_ rfl (by simp) ?_ ?_ ; rotate_left ; · (intro w8 K hK ; go_wp2_with fail ; exact rfl))
    simp only [Act.put, List.setIfInBounds_toArray, List.set_cons_succ, List.set_cons_zero]
    (refine x_pure rfl _ ?_ rfl (by simp) ?_ ?_ ; rotate_left ; · (intro w8 K hK ; go_wp2_with fail ; exact rfl))
    simp only [Act.put, List.setIfInBounds_toArray, List.set_cons_succ, List.set_cons_zero]
    (refine x_pure rfl _ ?_ rfl (by simp) ?_ ?_ ; rotate_left ; · (intro w8 K hK ; go_wp2_with fail ; exact rfl))
    simp only [Act.put, List.setIfInBounds_toArray, List.set_cons_succ, List.set_cons_zero]
    (refine x_pure rfl _ ?_ rfl (by simp) ?_ ?_ ; rotate_left ; · (intro w8 K hK ; go_wp2_with fail ; exact rfl))
    simp only [Act.put, List.setIfInBounds_toArray, List.set_cons_succ, List.set_cons_zero]
    (refine x_pure rfl _ ?_ rfl (by simp) ?_ ?_ ; rotate_left ; · (intro w8 K hK ; go_wp2_with fail ; exact rfl))
    simp only [Act.put, List.setIfInBounds_toArray, List.set_cons_succ, List.set_cons_zero]
    (refine x_pure rfl _ ?_ rfl (by simp) ?_ ?_ ; rotate_left ; · (intro w8 K hK ; go_wp2_with fail ; exact rfl))
    simp only [Act.put, List.setIfInBounds_toArray, List.set_cons_succ, List.set_cons_zero]
    refine x_end ?_
    refine wpX_fork2 (i := 4) (j := 11) (by kernel_rfl) (by kernel_rfl) ?_ ?_
    · simp only [List.getD_cons_zero, List.getD_cons_succ]
      refine x_quiet rfl (stable_bel (Nat.le_refl _)) (fun _ h => h) 22 (.slice (some ⟨g, 0, none⟩) L.length (i+1)) rfl (by simp) ?_ ?_
      · intro w8 hC K hK
        have q := blk4 (blk_below hblks hC)
        go_wp2_with fail
        all_goals first | exact Below.refl _ _ | exact ⟨rfl, Below.refl _ _⟩
      simp only [Act.put, List.setIfInBounds_toArray, List.set_cons_succ, List.set_cons_zero]
      refine x_end ?_
      refine wpX_tail [7, 11, 14, 15, 16, 17, 18, 19] 8 (by kernel_rfl) ?_
      simp only [List.map_cons, List.map_nil, List.getD_cons_zero, List.getD_cons_succ]
      (refine x_pure rfl _ ?_ rfl (by simp) ?_ ?_ ; rotate_left ; · (intro w8 K hK ; go_wp2_with fail ; exact rfl))
      simp only [Act.put, List.setIfInBounds_toArray, List.set_cons_succ, List.set_cons_zero]
      refine x_quiet rfl (stable_bel (Nat.le_refl _)) (fun _ h => h) 29 (.slice (some ⟨g, 0, none⟩) L.length (i+1)) rfl (by simp) ?_ ?_
      · intro w8 hC K hK
        have q := blk4 (blk_below hblks hC)
        go_wp2_with fail
        all_goals first | exact Below.refl _ _ | exact ⟨rfl, Below.refl _ _⟩
      simp only [Act.put, List.setIfInBounds_toArray, List.set_cons_succ, List.set_cons_zero]
      (refine x_pure rfl _ ?_ rfl (by simp) ?_ ?_ ; rotate_left ; · (intro w8 K hK ; go_wp2_with fail ; exact rfl))
      simp only [Act.put, List.setIfInBounds_toArray, List.set_cons_succ, List.set_cons_zero]
      refine x_write rfl ?_
      intro w8 hC K hK
      go_wp2_with fail
      refine x_write rfl ?_
      rintro _ rfl K hK
      go_wp2_with fail
      have g8 : (w8.alloc (.cells #[.slice (some ⟨g, 0, none⟩) i i, .slice (some ⟨g,0,none⟩) 0 0] 54 (0, 0))).heap[w8.heap.size]? = some (.cells #[.slice (some ⟨g, 0, none⟩) i i, .slice (some ⟨g,0,none⟩) 0 0] 54 (0, 0)) := by (repeat (first | (with_reducible assumption) | (with_reducible exact Below.refl _ _) | (with_reducible refine heap_drew ?_) | (focus ((with_reducible refine heap_new ?_) ; simp ; done)) | (with_reducible apply heap_set_to) | (focus ((with_reducible refine heap_set_ne ?_ ?_ _) ; rotate_left ; (focus (first | omega | (simp ; done) | (simp ; omega))))) | (with_reducible refine heap_old ?_) | (with_reducible refine Below.drew ?_) | (with_reducible refine below_set ?_ _ _) | (focus ((with_reducible refine Below.setCell ?_ ?_ _) ; rotate_left ; (focus (first | omega | (simp ; done) | (simp ; omega))))) | (focus ((with_reducible refine Below.alloc ?_ ?_ _) ; rotate_left ; (focus (first | omega | (simp ; done) | (simp ; omega))))) | (with_reducible rfl) | (focus (simp ; done))))
      have hx8 : Below ws.heap.size ws _ := hC.alloc hC.size (.cells #[.slice (some ⟨g, 0, none⟩) i i, .slice (some ⟨g,0,none⟩) 0 0] 54 (0, 0))
      have hxw := below_back hbs hbs.size hx8
      have hgz := Nat.lt_of_lt_of_le hgs hx8.size
      refine (concat_last i hi hL HB.out.2.2.1 hxw w8.heap.size ⟨g,0,none⟩ 0 ⟨HLast.out,hgz⟩ g8).mono ?_
      rintro e w9 ⟨v, rfl, hv, hb9⟩
      rw [HLe.out] at hv
      have hb9s := below_back hx8 hx8.size hb9
      have hv2 : w9.ownsRow ws.heap.size 39 4 v L'.length (pflat L') := own_mono hv hx8.size
      clear hv hb9 g8 hx8 hxw hC
      obtain ⟨ov, cv, rfl, _, _, _, _⟩ := row_form hv2
      refine hK _ _ ?_
      try simp only [Act.put, List.setIfInBounds_toArray, List.set_cons_succ, List.set_cons_zero]
      (refine x_pure rfl _ ?_ rfl (by simp) ?_ ?_ ; rotate_left ; · (intro w8 K hK ; go_wp2_with fail ; exact rfl))
      simp only [Act.put, List.setIfInBounds_toArray, List.set_cons_succ, List.set_cons_zero]
      (refine x_pure rfl _ ?_ rfl (by simp) ?_ ?_ ; rotate_left ; · (intro w8 K hK ; go_wp2_with fail ; exact rfl))
      simp only [Act.put, List.setIfInBounds_toArray, List.set_cons_succ, List.set_cons_zero]
      have HV : Hid (w9.ownsRow ws.heap.size 39 4 (.slice ov L'.length cv) L'.length (pflat L')) := hv2
      clear hv2
      refine x_write rfl ?_
      rintro w9 rfl K hK
      have q9 := blk4 (blk_below hblks hb9s)
      go_wp2_with fail
      refine x_end ?_
      rintro _ rfl
      have hP := bag_swap HB.out (below_back hbs hbs.size hb9s) HV.out hbs.size (fun p hp => (List.mem_append.1 (by rw [HLe.out]; exact hp : p ∈ L.take i ++ L.drop (i + 1))).elim (fun h => List.mem_of_mem_take h) (fun h => List.mem_of_mem_drop h)) hBw
      have gpA := heap_set_ne (blk_below gp hb9s) (show rb + 1 ≠ (⟨b, 3, none⟩ : Addr).block by show rb + 1 ≠ b; omega) (Value.slice ov L'.length cv)
      have grA := heap_set_ne (blk_below gr hb9s) (show rb ≠ (⟨b, 3, none⟩ : Addr).block by show rb ≠ b; omega) (Value.slice ov L'.length cv)
      have hrow : ∀ y, (Value.slice ov L'.length cv).ownBlock = some y → ws.heap.size ≤ y := fun y hy => (HV.out.lt y hy).1
      have hrbs : rb + 1 < ws.heap.size := blk_lt gp
      have hszA : ws.heap.size ≤ (w9.setCell ⟨b, 3, none⟩ (Value.slice ov L'.length cv)).heap.size := by rw [World.size_setCell]; exact hb9s.size
      generalize hwA : w9.setCell ⟨b, 3, none⟩ (Value.slice ov L'.length cv) = wA at *
      clear hwA q9 hb9s HV
      have HPA : Hid (BagAt wA B b (Value.slice ov L'.length cv) room num lost L' ∧ Keep (fun k => k = b) w wA) := hP
      have HRA : Hid (Reads wA L[i].ad L[i].s) := (HP.out.2.keep hP.2 (fun y cs hy e => HB.out.apart y cs hy (Or.inl e))).reads
      clear hP
      have qA := blk4 gpA
      go_wp2_with fail
      refine (own_any L[i].num L[i].frm L[i].to L[i].ad L[i].cap L[i].s wA HRA.out HP.out.1.1 (by have := HP.out.1.2; omega)).mono ?_
      rintro e w10 ⟨ad', cap', rfl, hn', hd', hb10⟩
      have HD : Hid (Dat w10 wA.heap.size ad' L[i].s) := hd'
      have HN : Hid (ad' = none → L[i].s.size = 0 ∧ cap' = 0) := hn'
      have gr10 := blk_below grA hb10
      have q10 := blk4 gr10
      have HB10 : Hid (BagAt w10 B b (Value.slice ov L'.length cv) room num lost L' ∧ Keep (fun k => k = b) w w10) := ⟨HPA.out.1.below hb10, HPA.out.2.trans (Keep.of_below hb10)⟩
      clear hd' hn' hb10 qA gpA grA HPA
      go_wp2_with fail
      have gz : ((((w10.setCell ⟨rb, 0, none⟩ (.int .i64 L[i].num)).setCell ⟨rb, 1, none⟩ (.int .i64 L[i].frm)).setCell ⟨rb, 2, none⟩ (.int .i64 L[i].to)).setCell ⟨rb, 3, none⟩ (.slice ad' L[i].s.size cap')).heap[rb]? = some (.cells #[.int .i64 L[i].num, .int .i64 L[i].frm, .int .i64 L[i].to, .slice ad' L[i].s.size cap'] 39 (0, 0)) := by (repeat (first | (with_reducible assumption) | (with_reducible exact Below.refl _ _) | (with_reducible refine heap_drew ?_) | (focus ((with_reducible refine heap_new ?_) ; simp ; done)) | (with_reducible apply heap_set_to) | (focus ((with_reducible refine heap_set_ne ?_ ?_ _) ; rotate_left ; (focus (first | omega | (simp ; done) | (simp ; omega))))) | (with_reducible refine heap_old ?_) | (with_reducible refine Below.drew ?_) | (with_reducible refine below_set ?_ _ _) | (focus ((with_reducible refine Below.setCell ?_ ?_ _) ; rotate_left ; (focus (first | omega | (simp ; done) | (simp ; omega))))) | (focus ((with_reducible refine Below.alloc ?_ ?_ _) ; rotate_left ; (focus (first | omega | (simp ; done) | (simp ; omega))))) | (with_reducible rfl) | (focus (simp ; done))))
      have KZ : Keep (fun k => k = rb) w10 ((((w10.setCell ⟨rb, 0, none⟩ (.int .i64 L[i].num)).setCell ⟨rb, 1, none⟩ (.int .i64 L[i].frm)).setCell ⟨rb, 2, none⟩ (.int .i64 L[i].to)).setCell ⟨rb, 3, none⟩ (.slice ad' L[i].s.size cap')) :=
        (((Keep.set _ ⟨rb, 0, none⟩ _).trans (Keep.set _ ⟨rb, 1, none⟩ _)).trans (Keep.set _ ⟨rb, 2, none⟩ _)).trans (Keep.set _ ⟨rb, 3, none⟩ _)
      have hdz := (((HD.out.set (p := ⟨rb, 0, none⟩) (by show rb < _; omega) (.int .i64 L[i].num)).set (p := ⟨rb, 1, none⟩) (by show rb < _; omega) (.int .i64 L[i].frm)).set (p := ⟨rb, 2, none⟩) (by show rb < _; omega) (.int .i64 L[i].to)).set (p := ⟨rb, 3, none⟩) (by show rb < _; omega) (.slice ad' L[i].s.size cap')
      have qz := blk4 gz
      have hwr := HRB.out
      refine bodyPost_ret (v := .tuple #[pv L[i].num L[i].frm L[i].to ad' L[i].s.size cap', .int .i64 0]) (by simp [results, Try.results12, go_sem, qz.1, qz.2.1, qz.2.2.1, qz.2.2.2.1]) rfl ?_
      rw [HLe.out]
      refine ⟨.slice ov L'.length cv, ad', cap', rfl, ?_, ?_, HN.out, hdz.mono ?_, fun y hy => Nat.le_trans hbs.size (hrow y hy)⟩
      · exact HB10.out.1.keep KZ (by omega) (fun y hy e => by have := hrow y hy; omega) (fun y cs hy e => by
          subst e
          rw [gr10] at hy
          simp at hy)
      · exact (Keep.trans (p := fun k => k = b ∨ k = rb) (HB10.out.2.mono fun k _ e => Or.inl e) (KZ.mono fun k _ e => Or.inr e)).mono fun k hk e => e.elim id (fun e => by omega)
      · exact Nat.le_trans hbs.size hszA
    · simp only [List.getD_cons_zero, List.getD_cons_succ]
      refine x_quiet rfl (stable_bel (Nat.le_refl _)) (fun _ h => h) 29 (.slice (some ⟨g, 0, none⟩) L.length (i+1)) rfl (by simp) ?_ ?_
      · intro w8 hC K hK
        have q := blk4 (blk_below hblks hC)
        go_wp2_with fail
        all_goals first | exact Below.refl _ _ | exact ⟨rfl, Below.refl _ _⟩
      simp only [Act.put, List.setIfInBounds_toArray, List.set_cons_succ, List.set_cons_zero]
      refine x_end ?_
      refine wpX_tail [14, 4, 7, 15, 16, 17, 18, 19] 8 (by kernel_rfl) ?_
      simp only [List.map_cons, List.map_nil, List.getD_cons_zero, List.getD_cons_succ]
      (refine x_pure rfl _ ?_ rfl (by simp) ?_ ?_ ; rotate_left ; · (intro w8 K hK ; go_wp2_with fail ; exact rfl))
      simp only [Act.put, List.setIfInBounds_toArray, List.set_cons_succ, List.set_cons_zero]
      refine x_quiet rfl (stable_bel (Nat.le_refl _)) (fun _ h => h) 22 (.slice (some ⟨g, 0, none⟩) L.length (i+1)) rfl (by simp) ?_ ?_
      · intro w8 hC K hK
        have q := blk4 (blk_below hblks hC)
        go_wp2_with fail
        all_goals first | exact Below.refl _ _ | exact ⟨rfl, Below.refl _ _⟩
      simp only [Act.put, List.setIfInBounds_toArray, List.set_cons_succ, List.set_cons_zero]
      (refine x_pure rfl _ ?_ rfl (by simp) ?_ ?_ ; rotate_left ; · (intro w8 K hK ; go_wp2_with fail ; exact rfl))
      simp only [Act.put, List.setIfInBounds_toArray, List.set_cons_succ, List.set_cons_zero]
      refine x_write rfl ?_
      intro w8 hC K hK
      go_wp2_with fail
      refine x_write rfl ?_
      rintro _ rfl K hK
      go_wp2_with fail
      have g8 : (w8.alloc (.cells #[.slice (some ⟨g, 0, none⟩) i i, .slice (some ⟨g,0,none⟩) 0 0] 54 (0, 0))).heap[w8.heap.size]? = some (.cells #[.slice (some ⟨g, 0, none⟩) i i, .slice (some ⟨g,0,none⟩) 0 0] 54 (0, 0)) := by (repeat (first | (with_reducible assumption) | (with_reducible exact Below.refl _ _) | (with_reducible refine heap_drew ?_) | (focus ((with_reducible refine heap_new ?_) ; simp ; done)) | (with_reducible apply heap_set_to) | (focus ((with_reducible refine heap_set_ne ?_ ?_ _) ; rotate_left ; (focus (first | omega | (simp ; done) | (simp ; omega))))) | (with_reducible refine heap_old ?_) | (with_reducible refine Below.drew ?_) | (with_reducible refine below_set ?_ _ _) | (focus ((with_reducible refine Below.setCell ?_ ?_ _) ; rotate_left ; (focus (first | omega | (simp ; done) | (simp ; omega))))) | (focus ((with_reducible refine Below.alloc ?_ ?_ _) ; rotate_left ; (focus (first | omega | (simp ; done) | (simp ; omega))))) | (with_reducible rfl) | (focus (simp ; done))))
      have hx8 : Below ws.heap.size ws _ := hC.alloc hC.size (.cells #[.slice (some ⟨g, 0, none⟩) i i, .slice (some ⟨g,0,none⟩) 0 0] 54 (0, 0))
      have hxw := below_back hbs hbs.size hx8
      have hgz := Nat.lt_of_lt_of_le hgs hx8.size
      refine (concat_last i hi hL HB.out.2.2.1 hxw w8.heap.size ⟨g,0,none⟩ 0 ⟨HLast.out,hgz⟩ g8).mono ?_
      rintro e w9 ⟨v, rfl, hv, hb9⟩
      rw [HLe.out] at hv
      have hb9s := below_back hx8 hx8.size hb9
      have hv2 : w9.ownsRow ws.heap.size 39 4 v L'.length (pflat L') := own_mono hv hx8.size
      clear hv hb9 g8 hx8 hxw hC
      obtain ⟨ov, cv, rfl, _, _, _, _⟩ := row_form hv2
      refine hK _ _ ?_
      try simp only [Act.put, List.setIfInBounds_toArray, List.set_cons_succ, List.set_cons_zero]
      (refine x_pure rfl _ ?_ rfl (by simp) ?_ ?_ ; rotate_left ; · (intro w8 K hK ; go_wp2_with fail ; exact rfl))
      simp only [Act.put, List.setIfInBounds_toArray, List.set_cons_succ, List.set_cons_zero]
      (refine x_pure rfl _ ?_ rfl (by simp) ?_ ?_ ; rotate_left ; · (intro w8 K hK ; go_wp2_with fail ; exact rfl))
      simp only [Act.put, List.setIfInBounds_toArray, List.set_cons_succ, List.set_cons_zero]
      have HV : Hid (w9.ownsRow ws.heap.size 39 4 (.slice ov L'.length cv) L'.length (pflat L')) := hv2
      clear hv2
      refine x_write rfl ?_
      rintro w9 rfl K hK
      have q9 := blk4 (blk_below hblks hb9s)
      go_wp2_with fail
      refine x_end ?_
      rintro _ rfl
      have hP := bag_swap HB.out (below_back hbs hbs.size hb9s) HV.out hbs.size (fun p hp => (List.mem_append.1 (by rw [HLe.out]; exact hp : p ∈ L.take i ++ L.drop (i + 1))).elim (fun h => List.mem_of_mem_take h) (fun h => List.mem_of_mem_drop h)) hBw
      have gpA := heap_set_ne (blk_below gp hb9s) (show rb + 1 ≠ (⟨b, 3, none⟩ : Addr).block by show rb + 1 ≠ b; omega) (Value.slice ov L'.length cv)
      have grA := heap_set_ne (blk_below gr hb9s) (show rb ≠ (⟨b, 3, none⟩ : Addr).block by show rb ≠ b; omega) (Value.slice ov L'.length cv)
      have hrow : ∀ y, (Value.slice ov L'.length cv).ownBlock = some y → ws.heap.size ≤ y := fun y hy => (HV.out.lt y hy).1
      have hrbs : rb + 1 < ws.heap.size := blk_lt gp
      have hszA : ws.heap.size ≤ (w9.setCell ⟨b, 3, none⟩ (Value.slice ov L'.length cv)).heap.size := by rw [World.size_setCell]; exact hb9s.size
      generalize hwA : w9.setCell ⟨b, 3, none⟩ (Value.slice ov L'.length cv) = wA at *
      clear hwA q9 hb9s HV
      have HPA : Hid (BagAt wA B b (Value.slice ov L'.length cv) room num lost L' ∧ Keep (fun k => k = b) w wA) := hP
      have HRA : Hid (Reads wA L[i].ad L[i].s) := (HP.out.2.keep hP.2 (fun y cs hy e => HB.out.apart y cs hy (Or.inl e))).reads
      clear hP
      have qA := blk4 gpA
      go_wp2_with fail
      refine (own_any L[i].num L[i].frm L[i].to L[i].ad L[i].cap L[i].s wA HRA.out HP.out.1.1 (by have := HP.out.1.2; omega)).mono ?_
      rintro e w10 ⟨ad', cap', rfl, hn', hd', hb10⟩
      have HD : Hid (Dat w10 wA.heap.size ad' L[i].s) := hd'
      have HN : Hid (ad' = none → L[i].s.size = 0 ∧ cap' = 0) := hn'
      have gr10 := blk_below grA hb10
      have q10 := blk4 gr10
      have HB10 : Hid (BagAt w10 B b (Value.slice ov L'.length cv) room num lost L' ∧ Keep (fun k => k = b) w w10) := ⟨HPA.out.1.below hb10, HPA.out.2.trans (Keep.of_below hb10)⟩
      clear hd' hn' hb10 qA gpA grA HPA
      go_wp2_with fail
      have gz : ((((w10.setCell ⟨rb, 0, none⟩ (.int .i64 L[i].num)).setCell ⟨rb, 1, none⟩ (.int .i64 L[i].frm)).setCell ⟨rb, 2, none⟩ (.int .i64 L[i].to)).setCell ⟨rb, 3, none⟩ (.slice ad' L[i].s.size cap')).heap[rb]? = some (.cells #[.int .i64 L[i].num, .int .i64 L[i].frm, .int .i64 L[i].to, .slice ad' L[i].s.size cap'] 39 (0, 0)) := by (repeat (first | (with_reducible assumption) | (with_reducible exact Below.refl _ _) | (with_reducible refine heap_drew ?_) | (focus ((with_reducible refine heap_new ?_) ; simp ; done)) | (with_reducible apply heap_set_to) | (focus ((with_reducible refine heap_set_ne ?_ ?_ _) ; rotate_left ; (focus (first | omega | (simp ; done) | (simp ; omega))))) | (with_reducible refine heap_old ?_) | (with_reducible refine Below.drew ?_) | (with_reducible refine below_set ?_ _ _) | (focus ((with_reducible refine Below.setCell ?_ ?_ _) ; rotate_left ; (focus (first | omega | (simp ; done) | (simp ; omega))))) | (focus ((with_reducible refine Below.alloc ?_ ?_ _) ; rotate_left ; (focus (first | omega | (simp ; done) | (simp ; omega))))) | (with_reducible rfl) | (focus (simp ; done))))
      have KZ : Keep (fun k => k = rb) w10 ((((w10.setCell ⟨rb, 0, none⟩ (.int .i64 L[i].num)).setCell ⟨rb, 1, none⟩ (.int .i64 L[i].frm)).setCell ⟨rb, 2, none⟩ (.int .i64 L[i].to)).setCell ⟨rb, 3, none⟩ (.slice ad' L[i].s.size cap')) :=
        (((Keep.set _ ⟨rb, 0, none⟩ _).trans (Keep.set _ ⟨rb, 1, none⟩ _)).trans (Keep.set _ ⟨rb, 2, none⟩ _)).trans (Keep.set _ ⟨rb, 3, none⟩ _)
      have hdz := (((HD.out.set (p := ⟨rb, 0, none⟩) (by show rb < _; omega) (.int .i64 L[i].num)).set (p := ⟨rb, 1, none⟩) (by show rb < _; omega) (.int .i64 L[i].frm)).set (p := ⟨rb, 2, none⟩) (by show rb < _; omega) (.int .i64 L[i].to)).set (p := ⟨rb, 3, none⟩) (by show rb < _; omega) (.slice ad' L[i].s.size cap')
      have qz := blk4 gz
      have hwr := HRB.out
      refine bodyPost_ret (v := .tuple #[pv L[i].num L[i].frm L[i].to ad' L[i].s.size cap', .int .i64 0]) (by simp [results, Try.results12, go_sem, qz.1, qz.2.1, qz.2.2.1, qz.2.2.2.1]) rfl ?_
      rw [HLe.out]
      refine ⟨.slice ov L'.length cv, ad', cap', rfl, ?_, ?_, HN.out, hdz.mono ?_, fun y hy => Nat.le_trans hbs.size (hrow y hy)⟩
      · exact HB10.out.1.keep KZ (by omega) (fun y hy e => by have := hrow y hy; omega) (fun y cs hy e => by
          subst e
          rw [gr10] at hy
          simp at hy)
      · exact (Keep.trans (p := fun k => k = b ∨ k = rb) (HB10.out.2.mono fun k _ e => Or.inl e) (KZ.mono fun k _ e => Or.inr e)).mono fun k hk e => e.elim id (fun e => by omega)
      · exact Nat.le_trans hbs.size hszA
  · refine wp_region_p [0, 1, 2, 3, 5, 6, 8, 9, 10, 12, 13] [0, 0, 0, 0, 1, 0, 0, 0, 0, 0, 0, 1, 0, 0, 0, 3, 3, 0, 0, 3] 9 #[true, true, true, true, false, true, true, false, true, true, true, false, true, true, false, false, false, false, false, false] (fun w8 => Below ws.heap.size ws w8) (by kernel_rfl) (by kernel_rfl) ?_ ?_
    · exact (Below.refl _ _).drew
    simp only [List.map_cons, List.map_nil, List.getD_cons_zero, List.getD_cons_succ]
    (refine x_pure rfl _ ?_ rfl (by simp) ?_ ?_ ; rotate_left ; · (intro w8 K hK ; go_wp2_with fail ; exact rfl))
    simp only [Act.put, List.setIfInBounds_toArray, List.set_cons_succ, List.set_cons_zero]
    (refine x_pure rfl _ ?_ rfl (by simp) ?_ ?_ ; rotate_left ; · (intro w8 K hK ; go_wp2_with fail ; exact rfl))
    simp only [Act.put, List.setIfInBounds_toArray, List.set_cons_succ, List.set_cons_zero]
    (refine x_pure rfl _ ?_ rfl (by simp) ?_ ?_ ; rotate_left ; · (intro w8 K hK ; go_wp2_with fail ; exact rfl))
    simp only [Act.put, List.setIfInBounds_toArray, List.set_cons_succ, List.set_cons_zero]
    (refine x_pure rfl _ ?_ rfl (by simp) ?_ ?_ ; rotate_left ; · (intro w8 K hK ; go_wp2_with fail ; exact rfl))
    simp only [Act.put, List.setIfInBounds_toArray, List.set_cons_succ, List.set_cons_zero]
    (refine x_pure rfl _ ?_ rfl (by simp) ?_ ?_ ; rotate_left ; · (intro w8 K hK ; go_wp2_with fail ; exact rfl))
    simp only [Act.put, List.setIfInBounds_toArray, List.set_cons_succ, List.set_cons_zero]
    (refine x_pure rfl _ ?_ rfl (by simp) ?_ ?_ ; rotate_left ; · (intro w8 K hK ; go_wp2_with fail ; exact rfl))
    simp only [Act.put, List.setIfInBounds_toArray, List.set_cons_succ, List.set_cons_zero]
    (refine x_pure rfl _ ?_ rfl (by simp) ?_ ?_ ; rotate_left ; · (intro w8 K hK ; go_wp2_with fail ; exact rfl))
    simp only [Act.put, List.setIfInBounds_toArray, List.set_cons_succ, List.set_cons_zero]
    (refine x_pure rfl _ ?_ rfl (by simp) ?_ ?_ ; rotate_left ; · (intro w8 K hK ; go_wp2_with fail ; exact rfl))
    simp only [Act.put, List.setIfInBounds_toArray, List.set_cons_succ, List.set_cons_zero]
    (refine x_pure rfl _ ?_ rfl (by simp) ?_ ?_ ; rotate_left ; · (intro w8 K hK ; go_wp2_with fail ; exact rfl))
    simp only [Act.put, List.setIfInBounds_toArray, List.set_cons_succ, List.set_cons_zero]
    (refine x_pure rfl _ ?_ rfl (by simp) ?_ ?_ ; rotate_left ; · (intro w8 K hK ; go_wp2_with fail ; exact rfl))
    simp only [Act.put, List.setIfInBounds_toArray, List.set_cons_succ, List.set_cons_zero]
    (refine x_pure rfl _ ?_ rfl (by simp) ?_ ?_ ; rotate_left ; · (intro w8 K hK ; go_wp2_with fail ; exact rfl))
    simp only [Act.put, List.setIfInBounds_toArray, List.set_cons_succ, List.set_cons_zero]
    refine x_end ?_
    refine wpX_fork2 (i := 4) (j := 11) (by kernel_rfl) (by kernel_rfl) ?_ ?_
    · simp only [List.getD_cons_zero, List.getD_cons_succ]
      refine x_quiet rfl (stable_bel (Nat.le_refl _)) (fun _ h => h) 22 (.slice (some ⟨g, 0, none⟩) L.length ca) rfl (by simp) ?_ ?_
      · intro w8 hC K hK
        have q := blk4 (blk_below hblks hC)
        go_wp2_with fail
        all_goals first | exact Below.refl _ _ | exact ⟨rfl, Below.refl _ _⟩
      simp only [Act.put, List.setIfInBounds_toArray, List.set_cons_succ, List.set_cons_zero]
      refine x_end ?_
      refine wpX_tail [7, 11, 14, 15, 16, 17, 18, 19] 8 (by kernel_rfl) ?_
      simp only [List.map_cons, List.map_nil, List.getD_cons_zero, List.getD_cons_succ]
      (refine x_pure rfl _ ?_ rfl (by simp) ?_ ?_ ; rotate_left ; · (intro w8 K hK ; go_wp2_with fail ; exact rfl))
      simp only [Act.put, List.setIfInBounds_toArray, List.set_cons_succ, List.set_cons_zero]
      refine x_quiet rfl (stable_bel (Nat.le_refl _)) (fun _ h => h) 29 (.slice (some ⟨g, 0, none⟩) L.length ca) rfl (by simp) ?_ ?_
      · intro w8 hC K hK
        have q := blk4 (blk_below hblks hC)
        go_wp2_with fail
        all_goals first | exact Below.refl _ _ | exact ⟨rfl, Below.refl _ _⟩
      simp only [Act.put, List.setIfInBounds_toArray, List.set_cons_succ, List.set_cons_zero]
      (refine x_pure rfl _ ?_ rfl (by simp) ?_ ?_ ; rotate_left ; · (intro w8 K hK ; go_wp2_with fail ; exact rfl))
      simp only [Act.put, List.setIfInBounds_toArray, List.set_cons_succ, List.set_cons_zero]
      refine x_write rfl ?_
      intro w8 hC K hK
      go_wp2_with fail
      refine x_write rfl ?_
      rintro _ rfl K hK
      go_wp2_with fail
      have g8 : (w8.alloc (.cells #[.slice (some ⟨g, 0, none⟩) i i, .slice (some ⟨g,(i+1)*4,none⟩) (L.length-(i+1)) (ca-(i+1))] 54 (0, 0))).heap[w8.heap.size]? = some (.cells #[.slice (some ⟨g, 0, none⟩) i i, .slice (some ⟨g,(i+1)*4,none⟩) (L.length-(i+1)) (ca-(i+1))] 54 (0, 0)) := by (repeat (first | (with_reducible assumption) | (with_reducible exact Below.refl _ _) | (with_reducible refine heap_drew ?_) | (focus ((with_reducible refine heap_new ?_) ; simp ; done)) | (with_reducible apply heap_set_to) | (focus ((with_reducible refine heap_set_ne ?_ ?_ _) ; rotate_left ; (focus (first | omega | (simp ; done) | (simp ; omega))))) | (with_reducible refine heap_old ?_) | (with_reducible refine Below.drew ?_) | (with_reducible refine below_set ?_ _ _) | (focus ((with_reducible refine Below.setCell ?_ ?_ _) ; rotate_left ; (focus (first | omega | (simp ; done) | (simp ; omega))))) | (focus ((with_reducible refine Below.alloc ?_ ?_ _) ; rotate_left ; (focus (first | omega | (simp ; done) | (simp ; omega))))) | (with_reducible rfl) | (focus (simp ; done))))
      have hx8 : Below ws.heap.size ws _ := hC.alloc hC.size (.cells #[.slice (some ⟨g, 0, none⟩) i i, .slice (some ⟨g,(i+1)*4,none⟩) (L.length-(i+1)) (ca-(i+1))] 54 (0, 0))
      have hxw := below_back hbs hbs.size hx8
      have hgz := Nat.lt_of_lt_of_le hgs hx8.size
      refine (concat_cut i hi hL HB.out.2.2.1 hxw w8.heap.size ⟨g,(i+1)*4,none⟩ (ca-(i+1)) (Or.inl rfl) g8).mono ?_
      rintro e w9 ⟨v, rfl, hv, hb9⟩
      rw [HLe.out] at hv
      have hb9s := below_back hx8 hx8.size hb9
      have hv2 : w9.ownsRow ws.heap.size 39 4 v L'.length (pflat L') := own_mono hv hx8.size
      clear hv hb9 g8 hx8 hxw hC
      obtain ⟨ov, cv, rfl, _, _, _, _⟩ := row_form hv2
      refine hK _ _ ?_
      try simp only [Act.put, List.setIfInBounds_toArray, List.set_cons_succ, List.set_cons_zero]
      (refine x_pure rfl _ ?_ rfl (by simp) ?_ ?_ ; rotate_left ; · (intro w8 K hK ; go_wp2_with fail ; exact rfl))
      simp only [Act.put, List.setIfInBounds_toArray, List.set_cons_succ, List.set_cons_zero]
      (refine x_pure rfl _ ?_ rfl (by simp) ?_ ?_ ; rotate_left ; · (intro w8 K hK ; go_wp2_with fail ; exact rfl))
      simp only [Act.put, List.setIfInBounds_toArray, List.set_cons_succ, List.set_cons_zero]
      have HV : Hid (w9.ownsRow ws.heap.size 39 4 (.slice ov L'.length cv) L'.length (pflat L')) := hv2
      clear hv2
      refine x_write rfl ?_
      rintro w9 rfl K hK
      have q9 := blk4 (blk_below hblks hb9s)
      go_wp2_with fail
      refine x_end ?_
      rintro _ rfl
      have hP := bag_swap HB.out (below_back hbs hbs.size hb9s) HV.out hbs.size (fun p hp => (List.mem_append.1 (by rw [HLe.out]; exact hp : p ∈ L.take i ++ L.drop (i + 1))).elim (fun h => List.mem_of_mem_take h) (fun h => List.mem_of_mem_drop h)) hBw
      have gpA := heap_set_ne (blk_below gp hb9s) (show rb + 1 ≠ (⟨b, 3, none⟩ : Addr).block by show rb + 1 ≠ b; omega) (Value.slice ov L'.length cv)
      have grA := heap_set_ne (blk_below gr hb9s) (show rb ≠ (⟨b, 3, none⟩ : Addr).block by show rb ≠ b; omega) (Value.slice ov L'.length cv)
      have hrow : ∀ y, (Value.slice ov L'.length cv).ownBlock = some y → ws.heap.size ≤ y := fun y hy => (HV.out.lt y hy).1
      have hrbs : rb + 1 < ws.heap.size := blk_lt gp
      have hszA : ws.heap.size ≤ (w9.setCell ⟨b, 3, none⟩ (Value.slice ov L'.length cv)).heap.size := by rw [World.size_setCell]; exact hb9s.size
      generalize hwA : w9.setCell ⟨b, 3, none⟩ (Value.slice ov L'.length cv) = wA at *
      clear hwA q9 hb9s HV
      have HPA : Hid (BagAt wA B b (Value.slice ov L'.length cv) room num lost L' ∧ Keep (fun k => k = b) w wA) := hP
      have HRA : Hid (Reads wA L[i].ad L[i].s) := (HP.out.2.keep hP.2 (fun y cs hy e => HB.out.apart y cs hy (Or.inl e))).reads
      clear hP
      have qA := blk4 gpA
      go_wp2_with fail
      refine (own_any L[i].num L[i].frm L[i].to L[i].ad L[i].cap L[i].s wA HRA.out HP.out.1.1 (by have := HP.out.1.2; omega)).mono ?_
      rintro e w10 ⟨ad', cap', rfl, hn', hd', hb10⟩
      have HD : Hid (Dat w10 wA.heap.size ad' L[i].s) := hd'
      have HN : Hid (ad' = none → L[i].s.size = 0 ∧ cap' = 0) := hn'
      have gr10 := blk_below grA hb10
      have q10 := blk4 gr10
      have HB10 : Hid (BagAt w10 B b (Value.slice ov L'.length cv) room num lost L' ∧ Keep (fun k => k = b) w w10) := ⟨HPA.out.1.below hb10, HPA.out.2.trans (Keep.of_below hb10)⟩
      clear hd' hn' hb10 qA gpA grA HPA
      go_wp2_with fail
      have gz : ((((w10.setCell ⟨rb, 0, none⟩ (.int .i64 L[i].num)).setCell ⟨rb, 1, none⟩ (.int .i64 L[i].frm)).setCell ⟨rb, 2, none⟩ (.int .i64 L[i].to)).setCell ⟨rb, 3, none⟩ (.slice ad' L[i].s.size cap')).heap[rb]? = some (.cells #[.int .i64 L[i].num, .int .i64 L[i].frm, .int .i64 L[i].to, .slice ad' L[i].s.size cap'] 39 (0, 0)) := by (repeat (first | (with_reducible assumption) | (with_reducible exact Below.refl _ _) | (with_reducible refine heap_drew ?_) | (focus ((with_reducible refine heap_new ?_) ; simp ; done)) | (with_reducible apply heap_set_to) | (focus ((with_reducible refine heap_set_ne ?_ ?_ _) ; rotate_left ; (focus (first | omega | (simp ; done) | (simp ; omega))))) | (with_reducible refine heap_old ?_) | (with_reducible refine Below.drew ?_) | (with_reducible refine below_set ?_ _ _) | (focus ((with_reducible refine Below.setCell ?_ ?_ _) ; rotate_left ; (focus (first | omega | (simp ; done) | (simp ; omega))))) | (focus ((with_reducible refine Below.alloc ?_ ?_ _) ; rotate_left ; (focus (first | omega | (simp ; done) | (simp ; omega))))) | (with_reducible rfl) | (focus (simp ; done))))
      have KZ : Keep (fun k => k = rb) w10 ((((w10.setCell ⟨rb, 0, none⟩ (.int .i64 L[i].num)).setCell ⟨rb, 1, none⟩ (.int .i64 L[i].frm)).setCell ⟨rb, 2, none⟩ (.int .i64 L[i].to)).setCell ⟨rb, 3, none⟩ (.slice ad' L[i].s.size cap')) :=
        (((Keep.set _ ⟨rb, 0, none⟩ _).trans (Keep.set _ ⟨rb, 1, none⟩ _)).trans (Keep.set _ ⟨rb, 2, none⟩ _)).trans (Keep.set _ ⟨rb, 3, none⟩ _)
      have hdz := (((HD.out.set (p := ⟨rb, 0, none⟩) (by show rb < _; omega) (.int .i64 L[i].num)).set (p := ⟨rb, 1, none⟩) (by show rb < _; omega) (.int .i64 L[i].frm)).set (p := ⟨rb, 2, none⟩) (by show rb < _; omega) (.int .i64 L[i].to)).set (p := ⟨rb, 3, none⟩) (by show rb < _; omega) (.slice ad' L[i].s.size cap')
      have qz := blk4 gz
      have hwr := HRB.out
      refine bodyPost_ret (v := .tuple #[pv L[i].num L[i].frm L[i].to ad' L[i].s.size cap', .int .i64 0]) (by simp [results, Try.results12, go_sem, qz.1, qz.2.1, qz.2.2.1, qz.2.2.2.1]) rfl ?_
      rw [HLe.out]
      refine ⟨.slice ov L'.length cv, ad', cap', rfl, ?_, ?_, HN.out, hdz.mono ?_, fun y hy => Nat.le_trans hbs.size (hrow y hy)⟩
      · exact HB10.out.1.keep KZ (by omega) (fun y hy e => by have := hrow y hy; omega) (fun y cs hy e => by
          subst e
          rw [gr10] at hy
          simp at hy)
      · exact (Keep.trans (p := fun k => k = b ∨ k = rb) (HB10.out.2.mono fun k _ e => Or.inl e) (KZ.mono fun k _ e => Or.inr e)).mono fun k hk e => e.elim id (fun e => by omega)
      · exact Nat.le_trans hbs.size hszA
    · simp only [List.getD_cons_zero, List.getD_cons_succ]
      refine x_quiet rfl (stable_bel (Nat.le_refl _)) (fun _ h => h) 29 (.slice (some ⟨g, 0, none⟩) L.length ca) rfl (by simp) ?_ ?_
      · intro w8 hC K hK
        have q := blk4 (blk_below hblks hC)
        go_wp2_with fail
        all_goals first | exact Below.refl _ _ | exact ⟨rfl, Below.refl _ _⟩
      simp only [Act.put, List.setIfInBounds_toArray, List.set_cons_succ, List.set_cons_zero]
      refine x_end ?_
      refine wpX_tail [14, 4, 7, 15, 16, 17, 18, 19] 8 (by kernel_rfl) ?_
      simp only [List.map_cons, List.map_nil, List.getD_cons_zero, List.getD_cons_succ]
      (refine x_pure rfl _ ?_ rfl (by simp) ?_ ?_ ; rotate_left ; · (intro w8 K hK ; go_wp2_with fail ; exact rfl))
      simp only [Act.put, List.setIfInBounds_toArray, List.set_cons_succ, List.set_cons_zero]
      refine x_quiet rfl (stable_bel (Nat.le_refl _)) (fun _ h => h) 22 (.slice (some ⟨g, 0, none⟩) L.length ca) rfl (by simp) ?_ ?_
      · intro w8 hC K hK
        have q := blk4 (blk_below hblks hC)
        go_wp2_with fail
        all_goals first | exact Below.refl _ _ | exact ⟨rfl, Below.refl _ _⟩
      simp only [Act.put, List.setIfInBounds_toArray, List.set_cons_succ, List.set_cons_zero]
      (refine x_pure rfl _ ?_ rfl (by simp) ?_ ?_ ; rotate_left ; · (intro w8 K hK ; go_wp2_with fail ; exact rfl))
      simp only [Act.put, List.setIfInBounds_toArray, List.set_cons_succ, List.set_cons_zero]
      refine x_write rfl ?_
      intro w8 hC K hK
      go_wp2_with fail
      refine x_write rfl ?_
      rintro _ rfl K hK
      go_wp2_with fail
      have g8 : (w8.alloc (.cells #[.slice (some ⟨g, 0, none⟩) i i, .slice (some ⟨g,(i+1)*4,none⟩) (L.length-(i+1)) (ca-(i+1))] 54 (0, 0))).heap[w8.heap.size]? = some (.cells #[.slice (some ⟨g, 0, none⟩) i i, .slice (some ⟨g,(i+1)*4,none⟩) (L.length-(i+1)) (ca-(i+1))] 54 (0, 0)) := by (repeat (first | (with_reducible assumption) | (with_reducible exact Below.refl _ _) | (with_reducible refine heap_drew ?_) | (focus ((with_reducible refine heap_new ?_) ; simp ; done)) | (with_reducible apply heap_set_to) | (focus ((with_reducible refine heap_set_ne ?_ ?_ _) ; rotate_left ; (focus (first | omega | (simp ; done) | (simp ; omega))))) | (with_reducible refine heap_old ?_) | (with_reducible refine Below.drew ?_) | (with_reducible refine below_set ?_ _ _) | (focus ((with_reducible refine Below.setCell ?_ ?_ _) ; rotate_left ; (focus (first | omega | (simp ; done) | (simp ; omega))))) | (focus ((with_reducible refine Below.alloc ?_ ?_ _) ; rotate_left ; (focus (first | omega | (simp ; done) | (simp ; omega))))) | (with_reducible rfl) | (focus (simp ; done))))
      have hx8 : Below ws.heap.size ws _ := hC.alloc hC.size (.cells #[.slice (some ⟨g, 0, none⟩) i i, .slice (some ⟨g,(i+1)*4,none⟩) (L.length-(i+1)) (ca-(i+1))] 54 (0, 0))
      have hxw := below_back hbs hbs.size hx8
      have hgz := Nat.lt_of_lt_of_le hgs hx8.size
      refine (concat_cut i hi hL HB.out.2.2.1 hxw w8.heap.size ⟨g,(i+1)*4,none⟩ (ca-(i+1)) (Or.inl rfl) g8).mono ?_
      rintro e w9 ⟨v, rfl, hv, hb9⟩
      rw [HLe.out] at hv
      have hb9s := below_back hx8 hx8.size hb9
      have hv2 : w9.ownsRow ws.heap.size 39 4 v L'.length (pflat L') := own_mono hv hx8.size
      clear hv hb9 g8 hx8 hxw hC
      obtain ⟨ov, cv, rfl, _, _, _, _⟩ := row_form hv2
      refine hK _ _ ?_
      try simp only [Act.put, List.setIfInBounds_toArray, List.set_cons_succ, List.set_cons_zero]
      (refine x_pure rfl _ ?_ rfl (by simp) ?_ ?_ ; rotate_left ; · (intro w8 K hK ; go_wp2_with fail ; exact rfl))
      simp only [Act.put, List.setIfInBounds_toArray, List.set_cons_succ, List.set_cons_zero]
      (refine x_pure rfl _ ?_ rfl (by simp) ?_ ?_ ; rotate_left ; · (intro w8 K hK ; go_wp2_with fail ; exact rfl))
      simp only [Act.put, List.setIfInBounds_toArray, List.set_cons_succ, List.set_cons_zero]
      have HV : Hid (w9.ownsRow ws.heap.size 39 4 (.slice ov L'.length cv) L'.length (pflat L')) := hv2
      clear hv2
      refine x_write rfl ?_
      rintro w9 rfl K hK
      have q9 := blk4 (blk_below hblks hb9s)
      go_wp2_with fail
      refine x_end ?_
      rintro _ rfl
      have hP := bag_swap HB.out (below_back hbs hbs.size hb9s) HV.out hbs.size (fun p hp => (List.mem_append.1 (by rw [HLe.out]; exact hp : p ∈ L.take i ++ L.drop (i + 1))).elim (fun h => List.mem_of_mem_take h) (fun h => List.mem_of_mem_drop h)) hBw
      have gpA := heap_set_ne (blk_below gp hb9s) (show rb + 1 ≠ (⟨b, 3, none⟩ : Addr).block by show rb + 1 ≠ b; omega) (Value.slice ov L'.length cv)
      have grA := heap_set_ne (blk_below gr hb9s) (show rb ≠ (⟨b, 3, none⟩ : Addr).block by show rb ≠ b; omega) (Value.slice ov L'.length cv)
      have hrow : ∀ y, (Value.slice ov L'.length cv).ownBlock = some y → ws.heap.size ≤ y := fun y hy => (HV.out.lt y hy).1
      have hrbs : rb + 1 < ws.heap.size := blk_lt gp
      have hszA : ws.heap.size ≤ (w9.setCell ⟨b, 3, none⟩ (Value.slice ov L'.length cv)).heap.size := by rw [World.size_setCell]; exact hb9s.size
      generalize hwA : w9.setCell ⟨b, 3, none⟩ (Value.slice ov L'.length cv) = wA at *
      clear hwA q9 hb9s HV
      have HPA : Hid (BagAt wA B b (Value.slice ov L'.length cv) room num lost L' ∧ Keep (fun k => k = b) w wA) := hP
      have HRA : Hid (Reads wA L[i].ad L[i].s) := (HP.out.2.keep hP.2 (fun y cs hy e => HB.out.apart y cs hy (Or.inl e))).reads
      clear hP
      have qA := blk4 gpA
      go_wp2_with fail
      refine (own_any L[i].num L[i].frm L[i].to L[i].ad L[i].cap L[i].s wA HRA.out HP.out.1.1 (by have := HP.out.1.2; omega)).mono ?_
      rintro e w10 ⟨ad', cap', rfl, hn', hd', hb10⟩
      have HD : Hid (Dat w10 wA.heap.size ad' L[i].s) := hd'
      have HN : Hid (ad' = none → L[i].s.size = 0 ∧ cap' = 0) := hn'
      have gr10 := blk_below grA hb10
      have q10 := blk4 gr10
      have HB10 : Hid (BagAt w10 B b (Value.slice ov L'.length cv) room num lost L' ∧ Keep (fun k => k = b) w w10) := ⟨HPA.out.1.below hb10, HPA.out.2.trans (Keep.of_below hb10)⟩
      clear hd' hn' hb10 qA gpA grA HPA
      go_wp2_with fail
      have gz : ((((w10.setCell ⟨rb, 0, none⟩ (.int .i64 L[i].num)).setCell ⟨rb, 1, none⟩ (.int .i64 L[i].frm)).setCell ⟨rb, 2, none⟩ (.int .i64 L[i].to)).setCell ⟨rb, 3, none⟩ (.slice ad' L[i].s.size cap')).heap[rb]? = some (.cells #[.int .i64 L[i].num, .int .i64 L[i].frm, .int .i64 L[i].to, .slice ad' L[i].s.size cap'] 39 (0, 0)) := by (repeat (first | (with_reducible assumption) | (with_reducible exact Below.refl _ _) | (with_reducible refine heap_drew ?_) | (focus ((with_reducible refine heap_new ?_) ; simp ; done)) | (with_reducible apply heap_set_to) | (focus ((with_reducible refine heap_set_ne ?_ ?_ _) ; rotate_left ; (focus (first | omega | (simp ; done) | (simp ; omega))))) | (with_reducible refine heap_old ?_) | (with_reducible refine Below.drew ?_) | (with_reducible refine below_set ?_ _ _) | (focus ((with_reducible refine Below.setCell ?_ ?_ _) ; rotate_left ; (focus (first | omega | (simp ; done) | (simp ; omega))))) | (focus ((with_reducible refine Below.alloc ?_ ?_ _) ; rotate_left ; (focus (first | omega | (simp ; done) | (simp ; omega))))) | (with_reducible rfl) | (focus (simp ; done))))
      have KZ : Keep (fun k => k = rb) w10 ((((w10.setCell ⟨rb, 0, none⟩ (.int .i64 L[i].num)).setCell ⟨rb, 1, none⟩ (.int .i64 L[i].frm)).setCell ⟨rb, 2, none⟩ (.int .i64 L[i].to)).setCell ⟨rb, 3, none⟩ (.slice ad' L[i].s.size cap')) :=
        (((Keep.set _ ⟨rb, 0, none⟩ _).trans (Keep.set _ ⟨rb, 1, none⟩ _)).trans (Keep.set _ ⟨rb, 2, none⟩ _)).trans (Keep.set _ ⟨rb, 3, none⟩ _)
      have hdz := (((HD.out.set (p := ⟨rb, 0, none⟩) (by show rb < _; omega) (.int .i64 L[i].num)).set (p := ⟨rb, 1, none⟩) (by show rb < _; omega) (.int .i64 L[i].frm)).set (p := ⟨rb, 2, none⟩) (by show rb < _; omega) (.int .i64 L[i].to)).set (p := ⟨rb, 3, none⟩) (by show rb < _; omega) (.slice ad' L[i].s.size cap')
      have qz := blk4 gz
      have hwr := HRB.out
      refine bodyPost_ret (v := .tuple #[pv L[i].num L[i].frm L[i].to ad' L[i].s.size cap', .int .i64 0]) (by simp [results, Try.results12, go_sem, qz.1, qz.2.1, qz.2.2.1, qz.2.2.2.1]) rfl ?_
      rw [HLe.out]
      refine ⟨.slice ov L'.length cv, ad', cap', rfl, ?_, ?_, HN.out, hdz.mono ?_, fun y hy => Nat.le_trans hbs.size (hrow y hy)⟩
      · exact HB10.out.1.keep KZ (by omega) (fun y hy e => by have := hrow y hy; omega) (fun y cs hy e => by
          subst e
          rw [gr10] at hy
          simp at hy)
      · exact (Keep.trans (p := fun k => k = b ∨ k = rb) (HB10.out.2.mono fun k _ e => Or.inl e) (KZ.mono fun k _ e => Or.inr e)).mono fun k hk e => e.elim id (fun e => by omega)
      · exact Nat.le_trans hbs.size hszA
theorem take_ok (B b : Nat) (vs : Value) (room num lost : Int) (L : List Pk) (i : Nat) (hi : i < L.length) (w : World) (h : BagAt w B b vs room num lost L) (hBw : B ≤ w.heap.size) (hL : L.length ≤ 512) (hok : ∀ p ∈ L, p.Ok) :
    Calls Try.prog 12 #[.pointer (some ⟨b, 0, none⟩), .int .i64 i] w fun e w' => ∃ vs' ad' cap', e = .returned (.tuple #[pv L[i].num L[i].frm L[i].to ad' L[i].s.size cap', .int .i64 0]) ∧
      BagAt w' B b vs' room num lost (L.take i ++ L.drop (i + 1)) ∧ Keep (mine b vs) w w' ∧ (ad' = none → L[i].s.size = 0 ∧ cap' = 0) ∧ Dat w' w.heap.size ad' L[i].s ∧ ∀ g, vs'.ownBlock = some g → w.heap.size ≤ g :=
  (take_ok1 B b vs room num lost L i hi w h hBw hL hok).mono fun e w' ⟨vs', ad', cap', h1, h2, h3, h4⟩ => ⟨vs', ad', cap', h1, h2, h3.mono (fun k _ e => Or.inl e), h4⟩
end Go.Proofs.Ytepilaejfepicaa
