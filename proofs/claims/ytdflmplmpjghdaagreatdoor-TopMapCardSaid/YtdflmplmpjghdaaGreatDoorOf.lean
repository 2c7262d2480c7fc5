/-
  mix.Of: what a key and a version come to.
-/
import Derived.Test.YtdflmplmpjghdaaGreatDoorWords
namespace Go.Proofs.YtdflmplmpjghdaaGreatDoor
open Go.ChangeShapes Go.WideShapes Go.ChangeAt Go.RowKit Go.Deep
set_option linter.unusedVariables false
set_option linter.unusedSimpArgs false
set_option maxRecDepth 100000

set_option maxHeartbeats 4000000 in
theorem of_any (s : ByteArray) (c n : Int) (w : World) (hL : Lanes w) (hs : s.size ≤ 9223372036854775807) :
    Calls Tryz.prog 51 #[.string s, .agg #[.int .i64 c, .int .i64 n]] w fun e w' => e = .returned (sv (mix0 s c n) (mix1 s c n)) ∧ Below w.heap.size w w' := by
  have hL0 := hL.lt
  have HL : Hid (Lanes w) := hL
  obtain ⟨l0, l1, l2, l3, l4, l5⟩ := hL
  have m0 : ∀ x y, ((w.alloc x).alloc y).cell? ⟨0, 0, none⟩ = some (.int .u64 2611923443488327891) := fun x y => by
    have := (((Below.refl _ _).alloc (Nat.le_refl _) x).alloc (by simp) y : Below w.heap.size w _).cell (p := ⟨0, 0, none⟩) hL0
    rw [this]; exact l0
  have m3 : ∀ x y, ((w.alloc x).alloc y).cell? ⟨0, 3, none⟩ = some (.int .u64 1376283091369227076) := fun x y => by
    have := (((Below.refl _ _).alloc (Nat.le_refl _) x).alloc (by simp) y : Below w.heap.size w _).cell (p := ⟨0, 3, none⟩) hL0
    rw [this]; exact l3
  clear l0 l1 l2 l3 l4 l5
  go_enter Tryz.func51, Tryz.ntmps51
  go_wp2_with fail
  clear m0 m3
  have g2 : (((w.alloc (.cells #[.int .i64 c, .int .i64 n] 44 (0, 0))).alloc (.cells #[.int .u64 0, .int .u64 0] 47 (0, 0))).alloc (.cells #[.int .u64 2611923443488327891, .int .u64 1376283091369227076] 47 (0, 0))).heap[w.heap.size + 1 + 1]? = some (.cells #[.int .u64 2611923443488327891, .int .u64 1376283091369227076] 47 (0, 0)) := by (repeat (first | (with_reducible assumption) | (with_reducible exact Below.refl _ _) | (with_reducible refine heap_drew ?_) | (focus ((with_reducible refine heap_new ?_) ; simp ; done)) | (with_reducible apply heap_set_to) | (focus ((with_reducible refine heap_set_ne ?_ ?_ _) ; rotate_left ; (focus (first | omega | (simp ; done) | (simp ; omega))))) | (with_reducible refine heap_old ?_) | (with_reducible refine Below.drew ?_) | (with_reducible refine below_set ?_ _ _) | (focus ((with_reducible refine Below.setCell ?_ ?_ _) ; rotate_left ; (focus (first | omega | (simp ; done) | (simp ; omega))))) | (focus ((with_reducible refine Below.alloc ?_ ?_ _) ; rotate_left ; (focus (first | omega | (simp ; done) | (simp ; omega))))) | (with_reducible rfl) | (focus (simp ; done))))
  have hb : Below w.heap.size w (((w.alloc (.cells #[.int .i64 c, .int .i64 n] 44 (0, 0))).alloc (.cells #[.int .u64 0, .int .u64 0] 47 (0, 0))).alloc (.cells #[.int .u64 2611923443488327891, .int .u64 1376283091369227076] 47 (0, 0))) := by (repeat (first | (with_reducible assumption) | (with_reducible exact Below.refl _ _) | (with_reducible refine heap_drew ?_) | (focus ((with_reducible refine heap_new ?_) ; simp ; done)) | (with_reducible apply heap_set_to) | (focus ((with_reducible refine heap_set_ne ?_ ?_ _) ; rotate_left ; (focus (first | omega | (simp ; done) | (simp ; omega))))) | (with_reducible refine heap_old ?_) | (with_reducible refine Below.drew ?_) | (with_reducible refine below_set ?_ _ _) | (focus ((with_reducible refine Below.setCell ?_ ?_ _) ; rotate_left ; (focus (first | omega | (simp ; done) | (simp ; omega))))) | (focus ((with_reducible refine Below.alloc ?_ ?_ _) ; rotate_left ; (focus (first | omega | (simp ; done) | (simp ; omega))))) | (with_reducible rfl) | (focus (simp ; done))))
  refine (stir_any _ _ _ _ _ (HL.out.below hb hL0) g2).mono ?_
  rintro e w1 ⟨rfl, hb1⟩
  clear g2 hb
  have g0 : w1.heap[w.heap.size]? = some (.cells #[.int .i64 c, .int .i64 n] 44 (0, 0)) := blk_below (by (repeat (first | (with_reducible assumption) | (with_reducible exact Below.refl _ _) | (with_reducible refine heap_drew ?_) | (focus ((with_reducible refine heap_new ?_) ; simp ; done)) | (with_reducible apply heap_set_to) | (focus ((with_reducible refine heap_set_ne ?_ ?_ _) ; rotate_left ; (focus (first | omega | (simp ; done) | (simp ; omega))))) | (with_reducible refine heap_old ?_) | (with_reducible refine Below.drew ?_) | (with_reducible refine below_set ?_ _ _) | (focus ((with_reducible refine Below.setCell ?_ ?_ _) ; rotate_left ; (focus (first | omega | (simp ; done) | (simp ; omega))))) | (focus ((with_reducible refine Below.alloc ?_ ?_ _) ; rotate_left ; (focus (first | omega | (simp ; done) | (simp ; omega))))) | (with_reducible rfl) | (focus (simp ; done))))) hb1
  have g1 : w1.heap[w.heap.size + 1]? = some (.cells #[.int .u64 0, .int .u64 0] 47 (0, 0)) := blk_below (by (repeat (first | (with_reducible assumption) | (with_reducible exact Below.refl _ _) | (with_reducible refine heap_drew ?_) | (focus ((with_reducible refine heap_new ?_) ; simp ; done)) | (with_reducible apply heap_set_to) | (focus ((with_reducible refine heap_set_ne ?_ ?_ _) ; rotate_left ; (focus (first | omega | (simp ; done) | (simp ; omega))))) | (with_reducible refine heap_old ?_) | (with_reducible refine Below.drew ?_) | (with_reducible refine below_set ?_ _ _) | (focus ((with_reducible refine Below.setCell ?_ ?_ _) ; rotate_left ; (focus (first | omega | (simp ; done) | (simp ; omega))))) | (focus ((with_reducible refine Below.alloc ?_ ?_ _) ; rotate_left ; (focus (first | omega | (simp ; done) | (simp ; omega))))) | (with_reducible rfl) | (focus (simp ; done))))) hb1
  have g2 : w1.heap[w.heap.size + 1 + 1]? = some (.cells #[.int .u64 (stp0 2611923443488327891 s.size), .int .u64 (stp1 1376283091369227076 s.size)] 47 (0, 0)) := blk_below (by (repeat (first | (with_reducible assumption) | (with_reducible exact Below.refl _ _) | (with_reducible refine heap_drew ?_) | (focus ((with_reducible refine heap_new ?_) ; simp ; done)) | (with_reducible apply heap_set_to) | (focus ((with_reducible refine heap_set_ne ?_ ?_ _) ; rotate_left ; (focus (first | omega | (simp ; done) | (simp ; omega))))) | (with_reducible refine heap_old ?_) | (with_reducible refine Below.drew ?_) | (with_reducible refine below_set ?_ _ _) | (focus ((with_reducible refine Below.setCell ?_ ?_ _) ; rotate_left ; (focus (first | omega | (simp ; done) | (simp ; omega))))) | (focus ((with_reducible refine Below.alloc ?_ ?_ _) ; rotate_left ; (focus (first | omega | (simp ; done) | (simp ; omega))))) | (with_reducible rfl) | (focus (simp ; done))))) hb1
  have hb : Below w.heap.size w w1 := below_back (by (repeat (first | (with_reducible assumption) | (with_reducible exact Below.refl _ _) | (with_reducible refine heap_drew ?_) | (focus ((with_reducible refine heap_new ?_) ; simp ; done)) | (with_reducible apply heap_set_to) | (focus ((with_reducible refine heap_set_ne ?_ ?_ _) ; rotate_left ; (focus (first | omega | (simp ; done) | (simp ; omega))))) | (with_reducible refine heap_old ?_) | (with_reducible refine Below.drew ?_) | (with_reducible refine below_set ?_ _ _) | (focus ((with_reducible refine Below.setCell ?_ ?_ _) ; rotate_left ; (focus (first | omega | (simp ; done) | (simp ; omega))))) | (focus ((with_reducible refine Below.alloc ?_ ?_ _) ; rotate_left ; (focus (first | omega | (simp ; done) | (simp ; omega))))) | (with_reducible rfl) | (focus (simp ; done))))) (by first | omega | (simp ; done) | (simp ; omega)) hb1
  clear hb1
  obtain ⟨A0, hA0⟩ : ∃ x, x = stp0 2611923443488327891 s.size := ⟨_, rfl⟩
  obtain ⟨B0, hB0⟩ : ∃ x, x = stp1 1376283091369227076 s.size := ⟨_, rfl⟩
  rw [← hA0, ← hB0] at g2
  have HA : Hid (A0 = _) := hA0
  have HB : Hid (B0 = _) := hB0
  clear hA0 hB0
  go_wp2_with fail
  go_loopw [0] (fun k wr => ∃ (r : ByteArray) (A B : Int), r.size ≤ s.size ∧ k = .string r ∧
      Hid ((chunks r.data.toList ++ [u64 c, u64 n]).foldl stp0 A = mix0 s c n ∧ (chunks r.data.toList ++ [u64 c, u64 n]).foldl stp1 B = mix1 s c n) ∧
      wr.heap[w.heap.size]? = some (.cells #[.int .i64 c, .int .i64 n] 44 (0, 0)) ∧ wr.heap[w.heap.size + 1]? = some (.cells #[.int .u64 0, .int .u64 0] 47 (0, 0)) ∧
      wr.heap[w.heap.size + 1 + 1]? = some (.cells #[.int .u64 A, .int .u64 B] 47 (0, 0)) ∧ Below w.heap.size w wr)
    (fun k _ => match k with | .string r => r.size | _ => 0)
  case atStart => exact ⟨s, A0, B0, Nat.le_refl _, rfl, ⟨by rw [HA.out]; rfl, by rw [HB.out]; rfl⟩, g0, g1, g2, hb⟩
  case round =>
    clear g0 g1 g2 hb HA HB
    obtain ⟨r, A, B, hr, rfl, HF, g0, g1, g2, hb⟩ := hrel
    have hz := hb.size
    by_cases h0 : 0 < r.size
    · obtain ⟨l, hl⟩ : ∃ l, l = r.data.toList := ⟨_, rfl⟩
      have hlen : l.length = r.size := by rw [hl]; rfl
      have HX : Hid (r.data.toList = l) := hl.symm
      clear hl
      have ht8 : (l.take 8).length = min 8 r.size := by rw [List.length_take, hlen]
      go_wp2_with fail
      all_goals
        go_loopw [7, 8] (fun x y wr' => ∃ i : Nat, i ≤ (l.take 8).length ∧ y = .int .i64 ((i : Int) - 1) ∧ x = .int .u64 (le ((l.take 8).drop i)) ∧ wr' = wr) (fun _ y _ => (intOf y + 1).toNat)
        case atStart =>
          refine ⟨(l.take 8).length, Nat.le_refl _, ?_, ?_, rfl⟩
          · congr 1; omega
          · rw [List.drop_length]; rfl
        case round =>
          obtain ⟨i, hi, rfl, rfl, rfl⟩ := hrel
          by_cases hi0 : 0 < i
          · have hi2 : i - 1 < r.size := by omega
            have HS : Hid _ := le_step HX.out hi0 hi hi2
            go_wp2_with fail
            go_roundw
            case rel => exact ⟨i - 1, by omega, by congr 1; omega, by rw [HS.out], trivial⟩
            case measure => simp [intOf]; omega
          · obtain rfl : i = 0 := by omega
            rw [List.drop_zero]
            go_wp2_with fail
            refine (stir_any _ A B _ _ (HL.out.below hb hL0) g2).mono ?_
            rintro e w3 ⟨rfl, hb3⟩
            have k0 : w3.heap[w.heap.size]? = some (.cells #[.int .i64 c, .int .i64 n] 44 (0, 0)) := blk_below (by (repeat (first | (with_reducible assumption) | (with_reducible exact Below.refl _ _) | (with_reducible refine heap_drew ?_) | (focus ((with_reducible refine heap_new ?_) ; simp ; done)) | (with_reducible apply heap_set_to) | (focus ((with_reducible refine heap_set_ne ?_ ?_ _) ; rotate_left ; (focus (first | omega | (simp ; done) | (simp ; omega))))) | (with_reducible refine heap_old ?_) | (with_reducible refine Below.drew ?_) | (with_reducible refine below_set ?_ _ _) | (focus ((with_reducible refine Below.setCell ?_ ?_ _) ; rotate_left ; (focus (first | omega | (simp ; done) | (simp ; omega))))) | (focus ((with_reducible refine Below.alloc ?_ ?_ _) ; rotate_left ; (focus (first | omega | (simp ; done) | (simp ; omega))))) | (with_reducible rfl) | (focus (simp ; done))))) hb3
            have k1 : w3.heap[w.heap.size + 1]? = some (.cells #[.int .u64 0, .int .u64 0] 47 (0, 0)) := blk_below (by (repeat (first | (with_reducible assumption) | (with_reducible exact Below.refl _ _) | (with_reducible refine heap_drew ?_) | (focus ((with_reducible refine heap_new ?_) ; simp ; done)) | (with_reducible apply heap_set_to) | (focus ((with_reducible refine heap_set_ne ?_ ?_ _) ; rotate_left ; (focus (first | omega | (simp ; done) | (simp ; omega))))) | (with_reducible refine heap_old ?_) | (with_reducible refine Below.drew ?_) | (with_reducible refine below_set ?_ _ _) | (focus ((with_reducible refine Below.setCell ?_ ?_ _) ; rotate_left ; (focus (first | omega | (simp ; done) | (simp ; omega))))) | (focus ((with_reducible refine Below.alloc ?_ ?_ _) ; rotate_left ; (focus (first | omega | (simp ; done) | (simp ; omega))))) | (with_reducible rfl) | (focus (simp ; done))))) hb3
            have k2 : w3.heap[w.heap.size + 1 + 1]? = some (.cells #[.int .u64 (stp0 A (le (l.take 8))), .int .u64 (stp1 B (le (l.take 8)))] 47 (0, 0)) := blk_below (by (repeat (first | (with_reducible assumption) | (with_reducible exact Below.refl _ _) | (with_reducible refine heap_drew ?_) | (focus ((with_reducible refine heap_new ?_) ; simp ; done)) | (with_reducible apply heap_set_to) | (focus ((with_reducible refine heap_set_ne ?_ ?_ _) ; rotate_left ; (focus (first | omega | (simp ; done) | (simp ; omega))))) | (with_reducible refine heap_old ?_) | (with_reducible refine Below.drew ?_) | (with_reducible refine below_set ?_ _ _) | (focus ((with_reducible refine Below.setCell ?_ ?_ _) ; rotate_left ; (focus (first | omega | (simp ; done) | (simp ; omega))))) | (focus ((with_reducible refine Below.alloc ?_ ?_ _) ; rotate_left ; (focus (first | omega | (simp ; done) | (simp ; omega))))) | (with_reducible rfl) | (focus (simp ; done))))) hb3
            have kb : Below w.heap.size w w3 := below_back (by (repeat (first | (with_reducible assumption) | (with_reducible exact Below.refl _ _) | (with_reducible refine heap_drew ?_) | (focus ((with_reducible refine heap_new ?_) ; simp ; done)) | (with_reducible apply heap_set_to) | (focus ((with_reducible refine heap_set_ne ?_ ?_ _) ; rotate_left ; (focus (first | omega | (simp ; done) | (simp ; omega))))) | (with_reducible refine heap_old ?_) | (with_reducible refine Below.drew ?_) | (with_reducible refine below_set ?_ _ _) | (focus ((with_reducible refine Below.setCell ?_ ?_ _) ; rotate_left ; (focus (first | omega | (simp ; done) | (simp ; omega))))) | (focus ((with_reducible refine Below.alloc ?_ ?_ _) ; rotate_left ; (focus (first | omega | (simp ; done) | (simp ; omega))))) | (with_reducible rfl) | (focus (simp ; done))))) (by first | omega | (simp ; done) | (simp ; omega)) hb3
            clear hb3 g0 g1 g2 hb
            go_wp2_with fail
            have hne : l ≠ [] := fun h => by rw [h] at hlen; simp at hlen; omega
            have HN : ∀ r' : ByteArray, r'.data.toList = l.drop 8 → Hid ((chunks r'.data.toList ++ [u64 c, u64 n]).foldl stp0 (stp0 A (le (l.take 8))) = mix0 s c n ∧ (chunks r'.data.toList ++ [u64 c, u64 n]).foldl stp1 (stp1 B (le (l.take 8))) = mix1 s c n) := fun r' h => by
              obtain ⟨h1, h2⟩ := HF.out
              rw [HX.out, chunks_step hne, List.cons_append, List.foldl_cons] at h1 h2
              rw [h]
              exact ⟨h1, h2⟩
            go_roundw
            case rel =>
              first
                | exact ⟨_, _, _, by simp, rfl, HN _ (by rw [List.drop_of_length_le (by omega)]; rfl), k0, k1, k2, kb⟩
                | exact ⟨_, _, _, by rw [ByteArray.size_extract]; omega, rfl, HN _ (by rw [toList_extract, HX.out]), k0, k1, k2, kb⟩
            case measure =>
              first
                | (simp; omega)
                | (simp only [ByteArray.size_extract]; omega)
    · obtain ⟨F1, F2⟩ := HF.out
      have hnil : r.data.toList = [] := List.eq_nil_of_length_eq_zero (by rw [len_list]; omega)
      rw [hnil, chunks_nil, List.nil_append] at F1 F2
      have F1' : Hid (stp0 (stp0 A (u64 c)) (u64 n) = mix0 s c n) := F1
      have F2' : Hid (stp1 (stp1 B (u64 c)) (u64 n) = mix1 s c n) := F2
      clear F1 F2 hnil HF
      have q0 := blk2 g0
      go_wp2_with fail
      refine (stir_any _ A B _ _ (HL.out.below hb hL0) g2).mono ?_
      rintro e w3 ⟨rfl, hb3⟩
      have k0 : w3.heap[w.heap.size]? = some (.cells #[.int .i64 c, .int .i64 n] 44 (0, 0)) := blk_below (by (repeat (first | (with_reducible assumption) | (with_reducible exact Below.refl _ _) | (with_reducible refine heap_drew ?_) | (focus ((with_reducible refine heap_new ?_) ; simp ; done)) | (with_reducible apply heap_set_to) | (focus ((with_reducible refine heap_set_ne ?_ ?_ _) ; rotate_left ; (focus (first | omega | (simp ; done) | (simp ; omega))))) | (with_reducible refine heap_old ?_) | (with_reducible refine Below.drew ?_) | (with_reducible refine below_set ?_ _ _) | (focus ((with_reducible refine Below.setCell ?_ ?_ _) ; rotate_left ; (focus (first | omega | (simp ; done) | (simp ; omega))))) | (focus ((with_reducible refine Below.alloc ?_ ?_ _) ; rotate_left ; (focus (first | omega | (simp ; done) | (simp ; omega))))) | (with_reducible rfl) | (focus (simp ; done))))) hb3
      have k1 : w3.heap[w.heap.size + 1]? = some (.cells #[.int .u64 0, .int .u64 0] 47 (0, 0)) := blk_below (by (repeat (first | (with_reducible assumption) | (with_reducible exact Below.refl _ _) | (with_reducible refine heap_drew ?_) | (focus ((with_reducible refine heap_new ?_) ; simp ; done)) | (with_reducible apply heap_set_to) | (focus ((with_reducible refine heap_set_ne ?_ ?_ _) ; rotate_left ; (focus (first | omega | (simp ; done) | (simp ; omega))))) | (with_reducible refine heap_old ?_) | (with_reducible refine Below.drew ?_) | (with_reducible refine below_set ?_ _ _) | (focus ((with_reducible refine Below.setCell ?_ ?_ _) ; rotate_left ; (focus (first | omega | (simp ; done) | (simp ; omega))))) | (focus ((with_reducible refine Below.alloc ?_ ?_ _) ; rotate_left ; (focus (first | omega | (simp ; done) | (simp ; omega))))) | (with_reducible rfl) | (focus (simp ; done))))) hb3
      have k2 : w3.heap[w.heap.size + 1 + 1]? = some (.cells #[.int .u64 (stp0 A (u64 c)), .int .u64 (stp1 B (u64 c))] 47 (0, 0)) := blk_below (by (repeat (first | (with_reducible assumption) | (with_reducible exact Below.refl _ _) | (with_reducible refine heap_drew ?_) | (focus ((with_reducible refine heap_new ?_) ; simp ; done)) | (with_reducible apply heap_set_to) | (focus ((with_reducible refine heap_set_ne ?_ ?_ _) ; rotate_left ; (focus (first | omega | (simp ; done) | (simp ; omega))))) | (with_reducible refine heap_old ?_) | (with_reducible refine Below.drew ?_) | (with_reducible refine below_set ?_ _ _) | (focus ((with_reducible refine Below.setCell ?_ ?_ _) ; rotate_left ; (focus (first | omega | (simp ; done) | (simp ; omega))))) | (focus ((with_reducible refine Below.alloc ?_ ?_ _) ; rotate_left ; (focus (first | omega | (simp ; done) | (simp ; omega))))) | (with_reducible rfl) | (focus (simp ; done))))) hb3
      have kb : Below w.heap.size w w3 := below_back (by (repeat (first | (with_reducible assumption) | (with_reducible exact Below.refl _ _) | (with_reducible refine heap_drew ?_) | (focus ((with_reducible refine heap_new ?_) ; simp ; done)) | (with_reducible apply heap_set_to) | (focus ((with_reducible refine heap_set_ne ?_ ?_ _) ; rotate_left ; (focus (first | omega | (simp ; done) | (simp ; omega))))) | (with_reducible refine heap_old ?_) | (with_reducible refine Below.drew ?_) | (with_reducible refine below_set ?_ _ _) | (focus ((with_reducible refine Below.setCell ?_ ?_ _) ; rotate_left ; (focus (first | omega | (simp ; done) | (simp ; omega))))) | (focus ((with_reducible refine Below.alloc ?_ ?_ _) ; rotate_left ; (focus (first | omega | (simp ; done) | (simp ; omega))))) | (with_reducible rfl) | (focus (simp ; done))))) (by first | omega | (simp ; done) | (simp ; omega)) hb3
      clear hb3 g0 g1 g2 hb q0
      have q0 := blk2 k0
      go_wp2_with fail
      refine (stir_any _ _ _ _ _ (HL.out.below kb hL0) k2).mono ?_
      rintro e w4 ⟨rfl, hb4⟩
      have g1 : w4.heap[w.heap.size + 1]? = some (.cells #[.int .u64 0, .int .u64 0] 47 (0, 0)) := blk_below (by (repeat (first | (with_reducible assumption) | (with_reducible exact Below.refl _ _) | (with_reducible refine heap_drew ?_) | (focus ((with_reducible refine heap_new ?_) ; simp ; done)) | (with_reducible apply heap_set_to) | (focus ((with_reducible refine heap_set_ne ?_ ?_ _) ; rotate_left ; (focus (first | omega | (simp ; done) | (simp ; omega))))) | (with_reducible refine heap_old ?_) | (with_reducible refine Below.drew ?_) | (with_reducible refine below_set ?_ _ _) | (focus ((with_reducible refine Below.setCell ?_ ?_ _) ; rotate_left ; (focus (first | omega | (simp ; done) | (simp ; omega))))) | (focus ((with_reducible refine Below.alloc ?_ ?_ _) ; rotate_left ; (focus (first | omega | (simp ; done) | (simp ; omega))))) | (with_reducible rfl) | (focus (simp ; done))))) hb4
      have g2 : w4.heap[w.heap.size + 1 + 1]? = some (.cells #[.int .u64 (stp0 (stp0 A (u64 c)) (u64 n)), .int .u64 (stp1 (stp1 B (u64 c)) (u64 n))] 47 (0, 0)) := blk_below (by (repeat (first | (with_reducible assumption) | (with_reducible exact Below.refl _ _) | (with_reducible refine heap_drew ?_) | (focus ((with_reducible refine heap_new ?_) ; simp ; done)) | (with_reducible apply heap_set_to) | (focus ((with_reducible refine heap_set_ne ?_ ?_ _) ; rotate_left ; (focus (first | omega | (simp ; done) | (simp ; omega))))) | (with_reducible refine heap_old ?_) | (with_reducible refine Below.drew ?_) | (with_reducible refine below_set ?_ _ _) | (focus ((with_reducible refine Below.setCell ?_ ?_ _) ; rotate_left ; (focus (first | omega | (simp ; done) | (simp ; omega))))) | (focus ((with_reducible refine Below.alloc ?_ ?_ _) ; rotate_left ; (focus (first | omega | (simp ; done) | (simp ; omega))))) | (with_reducible rfl) | (focus (simp ; done))))) hb4
      have hb : Below w.heap.size w w4 := below_back (by (repeat (first | (with_reducible assumption) | (with_reducible exact Below.refl _ _) | (with_reducible refine heap_drew ?_) | (focus ((with_reducible refine heap_new ?_) ; simp ; done)) | (with_reducible apply heap_set_to) | (focus ((with_reducible refine heap_set_ne ?_ ?_ _) ; rotate_left ; (focus (first | omega | (simp ; done) | (simp ; omega))))) | (with_reducible refine heap_old ?_) | (with_reducible refine Below.drew ?_) | (with_reducible refine below_set ?_ _ _) | (focus ((with_reducible refine Below.setCell ?_ ?_ _) ; rotate_left ; (focus (first | omega | (simp ; done) | (simp ; omega))))) | (focus ((with_reducible refine Below.alloc ?_ ?_ _) ; rotate_left ; (focus (first | omega | (simp ; done) | (simp ; omega))))) | (with_reducible rfl) | (focus (simp ; done))))) (by first | omega | (simp ; done) | (simp ; omega)) hb4
      clear hb4 k0 k1 k2 kb q0
      rw [F1'.out, F2'.out] at g2
      have q1 := blk2 g1
      have q2 := blk2 g2
      go_wp2_with fail
      refine bodyPost_ret (v := sv (mix0 s c n) (mix1 s c n)) (by simp [results, Tryz.results51, go_sem, q1]) rfl ⟨rfl, ?_⟩
      (repeat (first | (with_reducible assumption) | (with_reducible exact Below.refl _ _) | (with_reducible refine heap_drew ?_) | (focus ((with_reducible refine heap_new ?_) ; simp ; done)) | (with_reducible apply heap_set_to) | (focus ((with_reducible refine heap_set_ne ?_ ?_ _) ; rotate_left ; (focus (first | omega | (simp ; done) | (simp ; omega))))) | (with_reducible refine heap_old ?_) | (with_reducible refine Below.drew ?_) | (with_reducible refine below_set ?_ _ _) | (focus ((with_reducible refine Below.setCell ?_ ?_ _) ; rotate_left ; (focus (first | omega | (simp ; done) | (simp ; omega))))) | (focus ((with_reducible refine Below.alloc ?_ ?_ _) ; rotate_left ; (focus (first | omega | (simp ; done) | (simp ; omega))))) | (with_reducible rfl) | (focus (simp ; done))))
end Go.Proofs.YtdflmplmpjghdaaGreatDoor
