/-
  The law's plain map: where it stands; place.
-/
import Derived.Test.YtdflmplmpjghdaaGreatDoorPlain
import Derived.Test.YtdflmplmpjghdaaGreatDoorColl
import Derived.Test.YtdflmplmpjghdaaGreatDoorNmap
namespace Go.Proofs.YtdflmplmpjghdaaGreatDoor
open Go.ChangeShapes Go.WideShapes Go.ChangeAt Go.RowKit Go.Deep Go.Shelf
set_option linter.unusedVariables false
set_option linter.unusedSimpArgs false
set_option maxRecDepth 100000

/-- A row of entries. -/
abbrev Es (w : World) (B : Nat) (v : Value) (L : List Ent) : Prop := w.ownsRow B entT 5 v L.length (eflat L)
theorem eflat_get : ∀ (L : List Ent) (k j : Nat) (h : k < L.length), j < 5 → (eflat L)[k * 5 + j]? = (ecl L[k])[j]?
  | e :: L, 0, j, _, hj => by
    show (ecl e ++ eflat L)[0 * 5 + j]? = _
    rw [List.getElem?_append_left (by simp [ecl]; omega)]
    simp
  | e :: L, k + 1, j, h, hj => by
    show (ecl e ++ eflat L)[(k + 1) * 5 + j]? = _
    rw [List.getElem?_append_right (by simp [ecl]; omega)]
    have := eflat_get L k j (by simpa using h) hj
    rw [show (k + 1) * 5 + j - (ecl e).length = k * 5 + j by simp [ecl]; omega, this]
    simp
  | [], k, j, h, _ => absurd h (by simp)
/-- The cells of an entry in a row, from offset o on. -/
def EAt (w : World) (g o : Nat) (e : Ent) : Prop := w.cell? ⟨g, o, none⟩ = some (.string e.1) ∧ w.cell? ⟨g, o + 1, none⟩ = some (.int .i64 e.2.1) ∧ w.cell? ⟨g, o + 2, none⟩ = some (.int .i64 e.2.2.1) ∧ w.cell? ⟨g, o + 3, none⟩ = some (.string e.2.2.2.1) ∧ w.cell? ⟨g, o + 4, none⟩ = some (.bool e.2.2.2.2) ∧ g < w.heap.size
theorem EAt.below {w w' : World} {g o : Nat} {e : Ent} (h : EAt w g o e) (hb : Below w.heap.size w w') : EAt w' g o e := by
  obtain ⟨h0, h1, h2, h3, h4, hl⟩ := h
  exact ⟨(hb.cell (p := ⟨g, o, none⟩) hl).trans h0, (hb.cell (p := ⟨g, o + 1, none⟩) hl).trans h1, (hb.cell (p := ⟨g, o + 2, none⟩) hl).trans h2, (hb.cell (p := ⟨g, o + 3, none⟩) hl).trans h3, (hb.cell (p := ⟨g, o + 4, none⟩) hl).trans h4, Nat.lt_of_lt_of_le hl hb.size⟩
theorem es_form {w : World} {B : Nat} {v : Value} {L : List Ent} (h : Es w B v L) : ∃ oa cap, v = .slice oa L.length cap ∧ ∀ k (hk : k < L.length), ∃ g, oa = some ⟨g, 0, none⟩ ∧ EAt w g (k * 5) L[k] := by
  rcases h.2 with ⟨rfl, h0⟩ | ⟨g, cap, cur, rfl, hg, hh, h1, h2, h3, h4⟩
  · exact ⟨none, 0, by rw [h0], fun k hk => by omega⟩
  · refine ⟨some ⟨g, 0, none⟩, cap, rfl, fun k hk => ⟨g, rfl, ?_⟩⟩
    have key : ∀ j u, j < 5 → (ecl L[k])[j]? = some u → w.cell? ⟨g, k * 5 + j, none⟩ = some u := fun j u hj hu => by
      have := h.cells (g := g) rfl (k * 5 + j) u (by rw [eflat_get L k j hk hj]; exact hu)
      rwa [add_none, Nat.zero_add] at this
    exact ⟨by simpa using key 0 _ (by omega) rfl, key 1 _ (by omega) rfl, key 2 _ (by omega) rfl, key 3 _ (by omega) rfl, key 4 _ (by omega) rfl, blk_lt hh⟩
theorem es_len {w : World} {B : Nat} {v : Value} {L : List Ent} (h : Es w B v L) (hL : L ≠ []) : ∃ g cap, v = .slice (some ⟨g, 0, none⟩) L.length cap := by
  rcases h.2 with ⟨rfl, h0⟩ | ⟨g, cap, cur, rfl, _⟩
  · exact absurd (List.eq_nil_of_length_eq_zero h0) hL
  · exact ⟨g, cap, rfl⟩
set_option maxRecDepth 100000 in
set_option maxHeartbeats 8000000 in
/-- Two rows of the same entries are the same. -/
theorem same_any (B1 B2 : Nat) (v1 v2 : Value) (L : List Ent) (w : World) (h1 : Es w B1 v1 L) (h2 : Es w B2 v2 L) (hL : L.length ≤ 1000000) :
    Calls Tryz.prog 10 #[v1, v2] w fun e w' => e = .returned (.bool true) ∧ Below w.heap.size w w' := by
  obtain ⟨oa, ca, rfl, hA⟩ := es_form h1
  obtain ⟨ob, cb, rfl, hB⟩ := es_form h2
  have HA := Lib.hid (And.intro hA hB)
  clear hA hB h1 h2
  go_enter Tryz.func10, Tryz.ntmps10
  go_wp2_with fail
  go_loopw [5] (fun s wr => ∃ k : Nat, k ≤ L.length ∧ s = .int .i64 (k : Int) ∧ Below w.heap.size w wr) (fun s _ => L.length - (intOf s).toNat)
  case atStart => exact ⟨0, Nat.zero_le _, rfl, Below.refl _ _⟩
  case round =>
    obtain ⟨k, hk, rfl, hb⟩ := hrel
    have HB := Lib.hid hb
    clear hb
    by_cases hlt : k < L.length
    · obtain ⟨ga, rfl, ha⟩ := HA.out.1 k hlt
      obtain ⟨gb, rfl, hb2⟩ := HA.out.2 k hlt
      obtain ⟨⟨x1, x2, x3, x4, x5⟩, hx⟩ : ∃ x, x = L[k] := ⟨_, rfl⟩
      rw [← hx] at ha hb2
      have HQ := Lib.hid (And.intro (ha.below HB.out) (hb2.below HB.out))
      clear ha hb2 hx
      go_wp2_with fail
      have hSt : Stable (fun w3 : World => (Below wr.heap.size wr w3)) := by repeat (first | exact stable_ext _ | exact stable_blk _ _ | exact stable_true | (refine stable_bel ?_ ; (focus (first | (simp [World.size_setCell] ; done) | (simp [World.setCell] ; done)))) | refine Stable.and ?_ ?_)
      refine wp_region_x [0, 1, 2, 3, 4, 5, 6, 7, 8] [0, 0, 0, 1, 0, 0, 0, 1, 0] (fun w3 => (Below wr.heap.size wr w3)) (by kernel_rfl) (by kernel_rfl) ?_ ?_
      · (first | trivial | (repeat (first | (with_reducible assumption) | (with_reducible exact Below.refl _ _) | (with_reducible refine heap_drew ?_) | (focus ((with_reducible refine heap_new ?_) ; simp ; done)) | (with_reducible apply heap_set_to) | (focus ((with_reducible refine heap_set_ne ?_ ?_ _) ; rotate_left ; (focus (first | omega | (simp ; done) | (simp ; omega))))) | (with_reducible refine heap_old ?_) | (with_reducible refine Below.drew ?_) | (with_reducible refine below_set ?_ _ _) | (focus ((with_reducible refine Below.setCell ?_ ?_ _) ; rotate_left ; (focus (first | omega | (simp ; done) | (simp ; omega))))) | (focus ((with_reducible refine Below.alloc ?_ ?_ _) ; rotate_left ; (focus (first | omega | (simp ; done) | (simp ; omega))))) | (with_reducible rfl) | (focus (simp ; done)))))
      simp only [List.map_cons, List.map_nil, List.getD_cons_zero, List.getD_cons_succ]
      (refine x_pure rfl _ ?_ rfl (by simp) ?_ ?_ ; rotate_left ; · (intro w3 K hK ; go_wp2_with fail ; exact rfl))
      simp only [Act.put, List.setIfInBounds_toArray, List.set_cons_succ, List.set_cons_zero]
      (refine x_pure rfl _ ?_ rfl (by simp) ?_ ?_ ; rotate_left ; · (intro w3 K hK ; go_wp2_with fail ; exact rfl))
      simp only [Act.put, List.setIfInBounds_toArray, List.set_cons_succ, List.set_cons_zero]
      (refine x_pure rfl _ ?_ rfl (by simp) ?_ ?_ ; rotate_left ; · (intro w3 K hK ; go_wp2_with fail ; exact rfl))
      simp only [Act.put, List.setIfInBounds_toArray, List.set_cons_succ, List.set_cons_zero]
      (refine x_quiet rfl hSt (fun _ h => h) _ ?_ rfl (by simp) ?_ ?_ ; rotate_left ; · (intro w3 hC K hK ; have hb := hC ; have qa := HQ.out.1.below hb ; have qb := HQ.out.2.below hb ; unfold EAt at qa qb ; simp only at qa qb ; go_wp2_with fail ; refine ⟨?_, Below.refl _ _⟩ ; exact rfl))
      simp only [Act.put, List.setIfInBounds_toArray, List.set_cons_succ, List.set_cons_zero]
      (refine x_pure rfl _ ?_ rfl (by simp) ?_ ?_ ; rotate_left ; · (intro w3 K hK ; go_wp2_with fail ; exact rfl))
      simp only [Act.put, List.setIfInBounds_toArray, List.set_cons_succ, List.set_cons_zero]
      (refine x_pure rfl _ ?_ rfl (by simp) ?_ ?_ ; rotate_left ; · (intro w3 K hK ; go_wp2_with fail ; exact rfl))
      simp only [Act.put, List.setIfInBounds_toArray, List.set_cons_succ, List.set_cons_zero]
      (refine x_pure rfl _ ?_ rfl (by simp) ?_ ?_ ; rotate_left ; · (intro w3 K hK ; go_wp2_with fail ; exact rfl))
      simp only [Act.put, List.setIfInBounds_toArray, List.set_cons_succ, List.set_cons_zero]
      (refine x_quiet rfl hSt (fun _ h => h) _ ?_ rfl (by simp) ?_ ?_ ; rotate_left ; · (intro w3 hC K hK ; have hb := hC ; have qa := HQ.out.1.below hb ; have qb := HQ.out.2.below hb ; unfold EAt at qa qb ; simp only at qa qb ; go_wp2_with fail ; refine ⟨?_, Below.refl _ _⟩ ; exact rfl))
      simp only [Act.put, List.setIfInBounds_toArray, List.set_cons_succ, List.set_cons_zero]
      (refine x_pure rfl _ ?_ rfl (by simp) ?_ ?_ ; rotate_left ; · (intro w3 K hK ; go_wp2_with fail ; exact rfl))
      simp only [Act.put, List.setIfInBounds_toArray, List.set_cons_succ, List.set_cons_zero]
      first | refine x_nil ?_ | refine x_end ?_
      rintro w3 hb
      have HC := Lib.hid (HB.out.trans (hb.mono HB.out.size))
      clear hb hSt
      go_wp2_with fail
      go_roundw
      case rel => exact ⟨k + 1, by omega, by go_num, HC.out⟩
      case measure => simp [intOf]; omega
    · go_wp2_with fail
      go_ret
      exact ⟨rfl, HB.out⟩
end Go.Proofs.YtdflmplmpjghdaaGreatDoor
namespace Go.Proofs.YtdflmplmpjghdaaGreatDoor
open Go.ChangeShapes Go.WideShapes Go.ChangeAt Go.RowKit Go.Deep Go.Shelf
set_option linter.unusedVariables false
set_option linter.unusedSimpArgs false
set_option maxRecDepth 100000

abbrev plainT : TypeId := 34
/-- The plain map stands there. -/
structure PAt (w : World) (pb : Nat) (v : Value) (n : Int) (L : List Ent) : Prop where
  blk : w.heap[pb]? = some (.cells #[v, .int .i64 n] plainT (0, 0))
  row : Es w 1 v L
theorem PAt.below {w w' : World} {pb : Nat} {v : Value} {n : Int} {L : List Ent} (h : PAt w pb v n L) (hb : Below w.heap.size w w') : PAt w' pb v n L := ⟨blk_below h.blk hb, own_below h.row hb⟩
theorem beq_toList (a b : ByteArray) : (a.toList == b.toList) = decide (a = b) := by
  by_cases h : a = b
  · subst h; simp
  · rw [decide_eq_false h, beq_eq_false_iff_ne]
    exact fun hh => h (toList_inj hh)
theorem isE_len {k : ByteArray} {L : List Ent} (h : placeE k L = L.length) : isE k L = false := by
  unfold isE
  rw [h]
  simp
theorem isE_at {k : ByteArray} {L : List Ent} {i : Nat} (h : i < L.length) (hp : i = placeE k L) : isE k L = (L[i].1.toList == k.toList) := by
  subst hp
  unfold isE
  rw [List.getElem?_eq_getElem h, beq_toList]
set_option maxRecDepth 100000 in
set_option maxHeartbeats 8000000 in
theorem place_any (pb : Nat) (v : Value) (n : Int) (L : List Ent) (key : ByteArray) (w : World) (h : PAt w pb v n L) (hL : L.length ≤ 1000000) :
    Calls Tryz.prog 27 #[.pointer (some ⟨pb, 0, none⟩), .string key] w fun e w' => e = .returned (.tuple #[.int .i64 (placeE key L : Int), .bool (isE key L)]) ∧ Below w.heap.size w w' := by
  obtain ⟨oa, cap, rfl, hA⟩ := es_form h.row
  have HA := Lib.hid (And.intro hA h.blk)
  clear hA h
  go_enter Tryz.func27, Tryz.ntmps27
  go_wp2_with fail
  go_loopw [6] (fun s wr => ∃ k : Nat, k ≤ L.length ∧ s = .int .i64 (k : Int) ∧ Hid (∀ j (h : j < L.length), j < k → klb L[j].1 key = true) ∧ Below w.heap.size w wr) (fun s _ => L.length - (intOf s).toNat)
  case atStart => exact ⟨0, Nat.zero_le _, rfl, (fun j _ h => absurd h (by omega)), Below.refl _ _⟩
  case round =>
    obtain ⟨k, hk, rfl, HJ, hb⟩ := hrel
    have HB := Lib.hid hb
    clear hb
    have q := blk2 (blk_below HA.out.2 HB.out)
    by_cases hlt : k < L.length
    · obtain ⟨ga, rfl, ha⟩ := HA.out.1 k hlt
      obtain ⟨⟨x1, x2, x3, x4, x5⟩, hx⟩ : ∃ x, x = L[k] := ⟨_, rfl⟩
      rw [← hx] at ha
      have HQ := Lib.hid (And.intro (ha.below HB.out) hx)
      clear ha hx
      have qa := HQ.out.1
      unfold EAt at qa
      simp only at qa
      cases hkl : klb x1 key with
      | true =>
        have d1 : Op.bytesLess x1.toList key.toList = true := hkl
        have HK : Hid (∀ j (h : j < L.length), j < k + 1 → klb L[j].1 key = true) := fun j hj hj2 => by
          by_cases e : j = k
          · subst e; rw [← HQ.out.2]; exact hkl
          · exact HJ.out j hj (by omega)
        clear hkl
        go_wp2_with fail
        go_roundw
        case rel => exact ⟨k + 1, by omega, by go_num, HK.out, HB.out⟩
        case measure => simp [intOf]; omega
      | false =>
        have hp : k = placeE key L := placeE_of key L k hk HJ.out (fun h => by rw [← HQ.out.2]; exact hkl)
        have d1 : Op.bytesLess x1.toList key.toList = false := hkl
        have HE : Hid (isE key L = (x1.toList == key.toList)) := by show _ = _; rw [isE_at hlt hp, ← HQ.out.2]
        have HP := Lib.hid hp
        clear hkl hp
        go_wp2_with fail
        clear q qa d1
        have hSt : Stable (fun w3 : World => (Below wr.heap.size wr w3)) := by repeat (first | exact stable_ext _ | exact stable_blk _ _ | exact stable_true | (refine stable_bel ?_ ; (focus (first | (simp [World.size_setCell] ; done) | (simp [World.setCell] ; done)))) | refine Stable.and ?_ ?_)
        refine wp_region_x [0, 1, 2, 3, 4, 5, 6, 7, 8, 9, 10, 11, 12, 13, 14, 15, 16, 17, 18, 19, 20, 21] [0, 0, 0, 0, 0, 1, 0, 0, 0, 0, 0, 0, 1, 0, 0, 0, 1, 0, 0, 0, 0, 0] (fun w3 => (Below wr.heap.size wr w3)) (by kernel_rfl) (by kernel_rfl) ?_ ?_
        · (first | trivial | (repeat (first | (with_reducible assumption) | (with_reducible exact Below.refl _ _) | (with_reducible refine heap_drew ?_) | (focus ((with_reducible refine heap_new ?_) ; simp ; done)) | (with_reducible apply heap_set_to) | (focus ((with_reducible refine heap_set_ne ?_ ?_ _) ; rotate_left ; (focus (first | omega | (simp ; done) | (simp ; omega))))) | (with_reducible refine heap_old ?_) | (with_reducible refine Below.drew ?_) | (with_reducible refine below_set ?_ _ _) | (focus ((with_reducible refine Below.setCell ?_ ?_ _) ; rotate_left ; (focus (first | omega | (simp ; done) | (simp ; omega))))) | (focus ((with_reducible refine Below.alloc ?_ ?_ _) ; rotate_left ; (focus (first | omega | (simp ; done) | (simp ; omega))))) | (with_reducible rfl) | (focus (simp ; done)))))
        simp only [List.map_cons, List.map_nil, List.getD_cons_zero, List.getD_cons_succ]
        (refine x_pure rfl _ ?_ rfl (by simp) ?_ ?_ ; rotate_left ; · (intro w3 K hK ; go_wp2_with fail ; exact rfl))
        simp only [Act.put, List.setIfInBounds_toArray, List.set_cons_succ, List.set_cons_zero]
        (refine x_pure rfl _ ?_ rfl (by simp) ?_ ?_ ; rotate_left ; · (intro w3 K hK ; go_wp2_with fail ; exact rfl))
        simp only [Act.put, List.setIfInBounds_toArray, List.set_cons_succ, List.set_cons_zero]
        (refine x_pure rfl _ ?_ rfl (by simp) ?_ ?_ ; rotate_left ; · (intro w3 K hK ; go_wp2_with fail ; exact rfl))
        simp only [Act.put, List.setIfInBounds_toArray, List.set_cons_succ, List.set_cons_zero]
        (refine x_pure rfl _ ?_ rfl (by simp) ?_ ?_ ; rotate_left ; · (intro w3 K hK ; go_wp2_with fail ; exact rfl))
        simp only [Act.put, List.setIfInBounds_toArray, List.set_cons_succ, List.set_cons_zero]
        (refine x_pure rfl _ ?_ rfl (by simp) ?_ ?_ ; rotate_left ; · (intro w3 K hK ; go_wp2_with fail ; exact rfl))
        simp only [Act.put, List.setIfInBounds_toArray, List.set_cons_succ, List.set_cons_zero]
        (refine x_quiet rfl hSt (fun _ h => h) _ ?_ rfl (by simp) ?_ ?_ ; rotate_left ; · (intro w3 hC K hK ; have hb := hC ; have q := blk2 (blk_below HA.out.2 (HB.out.trans (hb.mono HB.out.size))) ; have qa := HQ.out.1.below hb ; unfold EAt at qa ; simp only at qa ; go_wp2_with fail ; refine ⟨?_, Below.refl _ _⟩ ; exact rfl))
        simp only [Act.put, List.setIfInBounds_toArray, List.set_cons_succ, List.set_cons_zero]
        (refine x_pure rfl _ ?_ rfl (by simp) ?_ ?_ ; rotate_left ; · (intro w3 K hK ; go_wp2_with fail ; exact rfl))
        simp only [Act.put, List.setIfInBounds_toArray, List.set_cons_succ, List.set_cons_zero]
        (refine x_pure rfl _ ?_ rfl (by simp) ?_ ?_ ; rotate_left ; · (intro w3 K hK ; go_wp2_with fail ; exact rfl))
        simp only [Act.put, List.setIfInBounds_toArray, List.set_cons_succ, List.set_cons_zero]
        (refine x_pure rfl _ ?_ rfl (by simp) ?_ ?_ ; rotate_left ; · (intro w3 K hK ; go_wp2_with fail ; exact rfl))
        simp only [Act.put, List.setIfInBounds_toArray, List.set_cons_succ, List.set_cons_zero]
        first | ((with_reducible refine x_skip ?_ ?_) ; (focus rfl)) | (refine x_pure rfl _ ?_ rfl (by simp) ?_ ?_ ; rotate_left ; · (intro w3 K hK ; go_wp2_with fail ; exact rfl))
        simp only [Act.put, List.setIfInBounds_toArray, List.set_cons_succ, List.set_cons_zero]
        first | ((with_reducible refine x_skip ?_ ?_) ; (focus rfl)) | (refine x_pure rfl _ ?_ rfl (by simp) ?_ ?_ ; rotate_left ; · (intro w3 K hK ; go_wp2_with fail ; exact rfl))
        simp only [Act.put, List.setIfInBounds_toArray, List.set_cons_succ, List.set_cons_zero]
        first | ((with_reducible refine x_skip ?_ ?_) ; (focus rfl)) | (refine x_pure rfl _ ?_ rfl (by simp) ?_ ?_ ; rotate_left ; · (intro w3 K hK ; go_wp2_with fail ; exact rfl))
        simp only [Act.put, List.setIfInBounds_toArray, List.set_cons_succ, List.set_cons_zero]
        first | ((with_reducible refine x_skip ?_ ?_) ; (focus rfl)) | (refine x_quiet rfl hSt (fun _ h => h) _ ?_ rfl (by simp) ?_ ?_ ; rotate_left ; · (intro w3 hC K hK ; have hb := hC ; have q := blk2 (blk_below HA.out.2 (HB.out.trans (hb.mono HB.out.size))) ; have qa := HQ.out.1.below hb ; unfold EAt at qa ; simp only at qa ; go_wp2_with fail ; refine ⟨?_, Below.refl _ _⟩ ; exact rfl))
        simp only [Act.put, List.setIfInBounds_toArray, List.set_cons_succ, List.set_cons_zero]
        first | ((with_reducible refine x_skip ?_ ?_) ; (focus rfl)) | (refine x_pure rfl _ ?_ rfl (by simp) ?_ ?_ ; rotate_left ; · (intro w3 K hK ; go_wp2_with fail ; exact rfl))
        simp only [Act.put, List.setIfInBounds_toArray, List.set_cons_succ, List.set_cons_zero]
        first | ((with_reducible refine x_skip ?_ ?_) ; (focus rfl)) | (refine x_pure rfl _ ?_ rfl (by simp) ?_ ?_ ; rotate_left ; · (intro w3 K hK ; go_wp2_with fail ; exact rfl))
        simp only [Act.put, List.setIfInBounds_toArray, List.set_cons_succ, List.set_cons_zero]
        first | ((with_reducible refine x_skip ?_ ?_) ; (focus rfl)) | (refine x_pure rfl _ ?_ rfl (by simp) ?_ ?_ ; rotate_left ; · (intro w3 K hK ; go_wp2_with fail ; exact rfl))
        simp only [Act.put, List.setIfInBounds_toArray, List.set_cons_succ, List.set_cons_zero]
        first | ((with_reducible refine x_skip ?_ ?_) ; (focus rfl)) | (refine x_quiet rfl hSt (fun _ h => h) _ ?_ rfl (by simp) ?_ ?_ ; rotate_left ; · (intro w3 hC K hK ; have hb := hC ; have q := blk2 (blk_below HA.out.2 (HB.out.trans (hb.mono HB.out.size))) ; have qa := HQ.out.1.below hb ; unfold EAt at qa ; simp only at qa ; go_wp2_with fail ; refine ⟨?_, Below.refl _ _⟩ ; exact rfl))
        simp only [Act.put, List.setIfInBounds_toArray, List.set_cons_succ, List.set_cons_zero]
        first | ((with_reducible refine x_skip ?_ ?_) ; (focus rfl)) | (refine x_pure rfl _ ?_ rfl (by simp) ?_ ?_ ; rotate_left ; · (intro w3 K hK ; go_wp2_with fail ; exact rfl))
        simp only [Act.put, List.setIfInBounds_toArray, List.set_cons_succ, List.set_cons_zero]
        first | ((with_reducible refine x_skip ?_ ?_) ; (focus rfl)) | (refine x_pure rfl _ ?_ rfl (by simp) ?_ ?_ ; rotate_left ; · (intro w3 K hK ; go_wp2_with fail ; exact rfl))
        simp only [Act.put, List.setIfInBounds_toArray, List.set_cons_succ, List.set_cons_zero]
        (refine x_pure rfl _ ?_ rfl (by simp) ?_ ?_ ; rotate_left ; · (intro w3 K hK ; go_wp2_with fail ; exact rfl))
        simp only [Act.put, List.setIfInBounds_toArray, List.set_cons_succ, List.set_cons_zero]
        (refine x_pure rfl _ ?_ rfl (by simp) ?_ ?_ ; rotate_left ; · (intro w3 K hK ; go_wp2_with fail ; exact rfl))
        simp only [Act.put, List.setIfInBounds_toArray, List.set_cons_succ, List.set_cons_zero]
        (refine x_pure rfl _ ?_ rfl (by simp) ?_ ?_ ; rotate_left ; · (intro w3 K hK ; go_wp2_with fail ; exact rfl))
        simp only [Act.put, List.setIfInBounds_toArray, List.set_cons_succ, List.set_cons_zero]
        first | refine x_nil ?_ | refine x_end ?_
        rintro w3 hb
        have HC := Lib.hid (HB.out.trans (hb.mono HB.out.size))
        clear hb hSt
        go_wp2_with fail
        go_ret2
        exact ⟨by rw [← HP.out, HE.out]; rfl, HC.out⟩
    · obtain rfl : k = L.length := by omega
      have hp : L.length = placeE key L := placeE_of key L L.length hk HJ.out (fun h => absurd h hlt)
      have HE : Hid (isE key L = false) := isE_len hp.symm
      have HP := Lib.hid hp
      clear hp
      go_wp2_with fail
      clear q
      have hSt : Stable (fun w3 : World => (Below wr.heap.size wr w3)) := by repeat (first | exact stable_ext _ | exact stable_blk _ _ | exact stable_true | (refine stable_bel ?_ ; (focus (first | (simp [World.size_setCell] ; done) | (simp [World.setCell] ; done)))) | refine Stable.and ?_ ?_)
      refine wp_region_x [0, 1, 2, 3, 4, 5, 6, 7, 8, 9, 10, 11, 12, 13, 14, 15, 16, 17, 18, 19, 20, 21] [0, 0, 0, 0, 0, 1, 0, 0, 0, 0, 0, 0, 1, 0, 0, 0, 1, 0, 0, 0, 0, 0] (fun w3 => (Below wr.heap.size wr w3)) (by kernel_rfl) (by kernel_rfl) ?_ ?_
      · (first | trivial | (repeat (first | (with_reducible assumption) | (with_reducible exact Below.refl _ _) | (with_reducible refine heap_drew ?_) | (focus ((with_reducible refine heap_new ?_) ; simp ; done)) | (with_reducible apply heap_set_to) | (focus ((with_reducible refine heap_set_ne ?_ ?_ _) ; rotate_left ; (focus (first | omega | (simp ; done) | (simp ; omega))))) | (with_reducible refine heap_old ?_) | (with_reducible refine Below.drew ?_) | (with_reducible refine below_set ?_ _ _) | (focus ((with_reducible refine Below.setCell ?_ ?_ _) ; rotate_left ; (focus (first | omega | (simp ; done) | (simp ; omega))))) | (focus ((with_reducible refine Below.alloc ?_ ?_ _) ; rotate_left ; (focus (first | omega | (simp ; done) | (simp ; omega))))) | (with_reducible rfl) | (focus (simp ; done)))))
      simp only [List.map_cons, List.map_nil, List.getD_cons_zero, List.getD_cons_succ]
      (refine x_pure rfl _ ?_ rfl (by simp) ?_ ?_ ; rotate_left ; · (intro w3 K hK ; go_wp2_with fail ; exact rfl))
      simp only [Act.put, List.setIfInBounds_toArray, List.set_cons_succ, List.set_cons_zero]
      (refine x_pure rfl _ ?_ rfl (by simp) ?_ ?_ ; rotate_left ; · (intro w3 K hK ; go_wp2_with fail ; exact rfl))
      simp only [Act.put, List.setIfInBounds_toArray, List.set_cons_succ, List.set_cons_zero]
      (refine x_pure rfl _ ?_ rfl (by simp) ?_ ?_ ; rotate_left ; · (intro w3 K hK ; go_wp2_with fail ; exact rfl))
      simp only [Act.put, List.setIfInBounds_toArray, List.set_cons_succ, List.set_cons_zero]
      (refine x_pure rfl _ ?_ rfl (by simp) ?_ ?_ ; rotate_left ; · (intro w3 K hK ; go_wp2_with fail ; exact rfl))
      simp only [Act.put, List.setIfInBounds_toArray, List.set_cons_succ, List.set_cons_zero]
      (refine x_pure rfl _ ?_ rfl (by simp) ?_ ?_ ; rotate_left ; · (intro w3 K hK ; go_wp2_with fail ; exact rfl))
      simp only [Act.put, List.setIfInBounds_toArray, List.set_cons_succ, List.set_cons_zero]
      (refine x_quiet rfl hSt (fun _ h => h) _ ?_ rfl (by simp) ?_ ?_ ; rotate_left ; · (intro w3 hC K hK ; have hb := hC ; have q := blk2 (blk_below HA.out.2 (HB.out.trans (hb.mono HB.out.size))) ; go_wp2_with fail ; refine ⟨?_, Below.refl _ _⟩ ; exact rfl))
      simp only [Act.put, List.setIfInBounds_toArray, List.set_cons_succ, List.set_cons_zero]
      (refine x_pure rfl _ ?_ rfl (by simp) ?_ ?_ ; rotate_left ; · (intro w3 K hK ; go_wp2_with fail ; exact rfl))
      simp only [Act.put, List.setIfInBounds_toArray, List.set_cons_succ, List.set_cons_zero]
      (refine x_pure rfl _ ?_ rfl (by simp) ?_ ?_ ; rotate_left ; · (intro w3 K hK ; go_wp2_with fail ; exact rfl))
      simp only [Act.put, List.setIfInBounds_toArray, List.set_cons_succ, List.set_cons_zero]
      (refine x_pure rfl _ ?_ rfl (by simp) ?_ ?_ ; rotate_left ; · (intro w3 K hK ; go_wp2_with fail ; exact rfl))
      simp only [Act.put, List.setIfInBounds_toArray, List.set_cons_succ, List.set_cons_zero]
      first | ((with_reducible refine x_skip ?_ ?_) ; (focus rfl)) | (refine x_pure rfl _ ?_ rfl (by simp) ?_ ?_ ; rotate_left ; · (intro w3 K hK ; go_wp2_with fail ; exact rfl))
      simp only [Act.put, List.setIfInBounds_toArray, List.set_cons_succ, List.set_cons_zero]
      first | ((with_reducible refine x_skip ?_ ?_) ; (focus rfl)) | (refine x_pure rfl _ ?_ rfl (by simp) ?_ ?_ ; rotate_left ; · (intro w3 K hK ; go_wp2_with fail ; exact rfl))
      simp only [Act.put, List.setIfInBounds_toArray, List.set_cons_succ, List.set_cons_zero]
      first | ((with_reducible refine x_skip ?_ ?_) ; (focus rfl)) | (refine x_pure rfl _ ?_ rfl (by simp) ?_ ?_ ; rotate_left ; · (intro w3 K hK ; go_wp2_with fail ; exact rfl))
      simp only [Act.put, List.setIfInBounds_toArray, List.set_cons_succ, List.set_cons_zero]
      first | ((with_reducible refine x_skip ?_ ?_) ; (focus rfl)) | (refine x_quiet rfl hSt (fun _ h => h) _ ?_ rfl (by simp) ?_ ?_ ; rotate_left ; · (intro w3 hC K hK ; have hb := hC ; have q := blk2 (blk_below HA.out.2 (HB.out.trans (hb.mono HB.out.size))) ; go_wp2_with fail ; refine ⟨?_, Below.refl _ _⟩ ; exact rfl))
      simp only [Act.put, List.setIfInBounds_toArray, List.set_cons_succ, List.set_cons_zero]
      first | ((with_reducible refine x_skip ?_ ?_) ; (focus rfl)) | (refine x_pure rfl _ ?_ rfl (by simp) ?_ ?_ ; rotate_left ; · (intro w3 K hK ; go_wp2_with fail ; exact rfl))
      simp only [Act.put, List.setIfInBounds_toArray, List.set_cons_succ, List.set_cons_zero]
      first | ((with_reducible refine x_skip ?_ ?_) ; (focus rfl)) | (refine x_pure rfl _ ?_ rfl (by simp) ?_ ?_ ; rotate_left ; · (intro w3 K hK ; go_wp2_with fail ; exact rfl))
      simp only [Act.put, List.setIfInBounds_toArray, List.set_cons_succ, List.set_cons_zero]
      first | ((with_reducible refine x_skip ?_ ?_) ; (focus rfl)) | (refine x_pure rfl _ ?_ rfl (by simp) ?_ ?_ ; rotate_left ; · (intro w3 K hK ; go_wp2_with fail ; exact rfl))
      simp only [Act.put, List.setIfInBounds_toArray, List.set_cons_succ, List.set_cons_zero]
      first | ((with_reducible refine x_skip ?_ ?_) ; (focus rfl)) | (refine x_quiet rfl hSt (fun _ h => h) _ ?_ rfl (by simp) ?_ ?_ ; rotate_left ; · (intro w3 hC K hK ; have hb := hC ; have q := blk2 (blk_below HA.out.2 (HB.out.trans (hb.mono HB.out.size))) ; go_wp2_with fail ; refine ⟨?_, Below.refl _ _⟩ ; exact rfl))
      simp only [Act.put, List.setIfInBounds_toArray, List.set_cons_succ, List.set_cons_zero]
      first | ((with_reducible refine x_skip ?_ ?_) ; (focus rfl)) | (refine x_pure rfl _ ?_ rfl (by simp) ?_ ?_ ; rotate_left ; · (intro w3 K hK ; go_wp2_with fail ; exact rfl))
      simp only [Act.put, List.setIfInBounds_toArray, List.set_cons_succ, List.set_cons_zero]
      first | ((with_reducible refine x_skip ?_ ?_) ; (focus rfl)) | (refine x_pure rfl _ ?_ rfl (by simp) ?_ ?_ ; rotate_left ; · (intro w3 K hK ; go_wp2_with fail ; exact rfl))
      simp only [Act.put, List.setIfInBounds_toArray, List.set_cons_succ, List.set_cons_zero]
      (refine x_pure rfl _ ?_ rfl (by simp) ?_ ?_ ; rotate_left ; · (intro w3 K hK ; go_wp2_with fail ; exact rfl))
      simp only [Act.put, List.setIfInBounds_toArray, List.set_cons_succ, List.set_cons_zero]
      (refine x_pure rfl _ ?_ rfl (by simp) ?_ ?_ ; rotate_left ; · (intro w3 K hK ; go_wp2_with fail ; exact rfl))
      simp only [Act.put, List.setIfInBounds_toArray, List.set_cons_succ, List.set_cons_zero]
      (refine x_pure rfl _ ?_ rfl (by simp) ?_ ?_ ; rotate_left ; · (intro w3 K hK ; go_wp2_with fail ; exact rfl))
      simp only [Act.put, List.setIfInBounds_toArray, List.set_cons_succ, List.set_cons_zero]
      first | refine x_nil ?_ | refine x_end ?_
      rintro w3 hb
      have HC := Lib.hid (HB.out.trans (hb.mono HB.out.size))
      clear hb hSt
      go_wp2_with fail
      go_ret2
      exact ⟨by rw [← HP.out, HE.out]; rfl, HC.out⟩
end Go.Proofs.YtdflmplmpjghdaaGreatDoor
