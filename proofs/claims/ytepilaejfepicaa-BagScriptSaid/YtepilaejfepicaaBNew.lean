/-
  The examples of the document (shown); BagNew: New of any number.
-/
import Derived.Test.YtepilaejfepicaaBShown
import Derived.Lib.SlBytesConst
namespace Go.Proofs.Ytepilaejfepicaa
open Go.ChangeShapes Go.WideShapes Go.ChangeAt Go.RowKit Go.Deep
set_option linter.unusedVariables false
set_option linter.unusedSimpArgs false

theorem reads_one {w : World} {g : Nat} {x : UInt8} {t : TypeId} {fr : Nat × Nat} (h : w.heap[g]? = some (.cells #[.int .u8 (x.toNat : Int)] t fr)) : Reads w (some ⟨g, 0, none⟩) ⟨#[x]⟩ :=
  Or.inr ⟨g, 0, rfl, blk_lt h, fun i hi => by
    have hi' : i < 1 := hi
    obtain rfl : i = 0 := by omega
    rw [blk_cell h]
    rfl⟩
theorem conv_const (w : World) (x : Int) : (convert 30 30 (.slice (some ⟨w.heap.size, 0, none⟩) 1 1)).run Try.prog (w.alloc (.cells #[.int .u8 x] 5 (0, 0))) = .ok (.slice (some ⟨w.heap.size, 0, none⟩) 1 1) (w.alloc (.cells #[.int .u8 x] 5 (1, 2))) :=
  Lib.run_convert_bytes_const w 30 5 #[.int .u8 x] 1 1 Try.underlying30 Try.underlying5
theorem size_zero {s : ByteArray} (h : s.size = 0) : s = ByteArray.empty := by
  have : s.data = #[] := Array.eq_empty_of_size_eq_zero h
  cases s
  simp only at this
  subst this
  rfl
/-- Bytes that are read as a text. -/
theorem conv_reads {w : World} {ad : Option Addr} {s : ByteArray} {cap : Nat} (h : Reads w ad s) : (convert 30 9 (.slice ad s.size cap)).run Try.prog w = .ok (.string s) w := by
  rcases h with h | ⟨g, o, rfl, _, h⟩
  · rw [size_zero h, run_convert_bytes_string w _ _ _ _ _ cap Try.underlying30 Try.underlying5 Try.underlying9]
    cases ad <;> simp [Conv.bytesToString, loadCells, loadCellsFrom, Sem.run_pure]
  · exact Lib.run_convert_whole w _ _ _ Try.underlying30 Try.underlying5 Try.underlying9 g o s h cap

set_option maxRecDepth 100000 in
set_option maxHeartbeats 16000000 in
theorem shown_any (w : World) : Calls Try.prog 7 #[] w fun e w' => e = .returned (.bool true) ∧ Below w.heap.size w w' := by
  go_enter Try.func7, Try.ntmps7
  go_wp2_with fail
  refine (new_ok 2 w.heap.size w (by omega) (Nat.le_refl _)).mono ?_
  rintro e w1 ⟨b, rfl, hbb, hB1, hb1⟩
  have HB1 : Hid (BagAt w1 w.heap.size b (.slice none 0 0) 2 0 0 []) := hB1
  have hz1 := hb1.size
  clear hB1
  have cv := conv_const w1 97
  go_wp2_with fail
  clear cv
  have gs1 : (w1.alloc (.cells #[.int .u8 97] 5 (1, 2))).heap[w1.heap.size]? = some (.cells #[.int .u8 97] 5 (1, 2)) := by (repeat (first | (with_reducible assumption) | (with_reducible exact Below.refl _ _) | (with_reducible refine heap_drew ?_) | (focus ((with_reducible refine heap_new ?_) ; simp ; done)) | (with_reducible apply heap_set_to) | (focus ((with_reducible refine heap_set_ne ?_ ?_ _) ; rotate_left ; (focus (first | omega | (simp ; done) | (simp ; omega))))) | (with_reducible refine heap_old ?_) | (with_reducible refine Below.drew ?_) | (with_reducible refine below_set ?_ _ _) | (focus ((with_reducible refine Below.setCell ?_ ?_ _) ; rotate_left ; (focus (first | omega | (simp ; done) | (simp ; omega))))) | (focus ((with_reducible refine Below.alloc ?_ ?_ _) ; rotate_left ; (focus (first | omega | (simp ; done) | (simp ; omega))))) | (with_reducible rfl) | (focus (simp ; done))))
  have hA1 := HB1.out.below (below_alloc_self w1 (.cells #[.int .u8 97] 5 (1, 2)))
  have hC1 := send_room w.heap.size b _ 2 0 0 [] 0 1 (some ⟨w1.heap.size, 0, none⟩) 1 ⟨#[97]⟩ _ hA1 (reads_one (x := 97) gs1) (fun h => by cases h) (by simp; omega) (by simp) (by omega) (by unfold badWay; omega) (by decide) (by simp)
  refine hC1.mono ?_
  rintro e w2 ⟨vs2, ad2, cap2, rfl, hB2, hK2, hn2, _⟩
  have hb2 : Below w.heap.size w w2 := (hb1.alloc hz1 (.cells #[.int .u8 97] 5 (1, 2))).trans (hK2.below (by simp; omega) hA1.mine_ge)
  have HB2 : Hid (BagAt w2 w.heap.size b vs2 2 1 0 [⟨1, 0, 1, ad2, cap2, ⟨#[97]⟩⟩]) := hB2
  have HN2 : Hid (ad2 = none → (⟨#[97]⟩ : ByteArray).size = 0 ∧ cap2 = 0) := hn2
  have hz2 := hb2.size
  clear gs1 HB1 hB2 hK2 hn2 hz1 hb1 hA1 hC1
  have cv := conv_const w2 98
  go_wp2_with fail
  clear cv
  have gs1 : (w2.alloc (.cells #[.int .u8 98] 5 (1, 2))).heap[w2.heap.size]? = some (.cells #[.int .u8 98] 5 (1, 2)) := by (repeat (first | (with_reducible assumption) | (with_reducible exact Below.refl _ _) | (with_reducible refine heap_drew ?_) | (focus ((with_reducible refine heap_new ?_) ; simp ; done)) | (with_reducible apply heap_set_to) | (focus ((with_reducible refine heap_set_ne ?_ ?_ _) ; rotate_left ; (focus (first | omega | (simp ; done) | (simp ; omega))))) | (with_reducible refine heap_old ?_) | (with_reducible refine Below.drew ?_) | (with_reducible refine below_set ?_ _ _) | (focus ((with_reducible refine Below.setCell ?_ ?_ _) ; rotate_left ; (focus (first | omega | (simp ; done) | (simp ; omega))))) | (focus ((with_reducible refine Below.alloc ?_ ?_ _) ; rotate_left ; (focus (first | omega | (simp ; done) | (simp ; omega))))) | (with_reducible rfl) | (focus (simp ; done))))
  have hA2 := HB2.out.below (below_alloc_self w2 (.cells #[.int .u8 98] 5 (1, 2)))
  have hC2 := send_room w.heap.size b _ 2 1 0 _ 1 0 (some ⟨w2.heap.size, 0, none⟩) 1 ⟨#[98]⟩ _ hA2 (reads_one (x := 98) gs1) (fun h => by cases h) (by simp; omega) (by simp) (by omega) (by unfold badWay; omega) (by decide) (by simp)
  refine hC2.mono ?_
  rintro e w3 ⟨vs3, ad3, cap3, rfl, hB3, hK3, hn3, _⟩
  have hb3 : Below w.heap.size w w3 := (hb2.alloc hz2 (.cells #[.int .u8 98] 5 (1, 2))).trans (hK3.below (by simp; omega) hA2.mine_ge)
  have HB3 : Hid (BagAt w3 w.heap.size b vs3 2 2 0 [⟨1, 0, 1, ad2, cap2, ⟨#[97]⟩⟩, ⟨2, 1, 0, ad3, cap3, ⟨#[98]⟩⟩]) := hB3
  have HN3 : Hid (ad3 = none → (⟨#[98]⟩ : ByteArray).size = 0 ∧ cap3 = 0) := hn3
  have hz3 := hb3.size
  clear gs1 HB2 hB3 hK3 hn3 hz2 hb2 hA2 hC2
  have cv := conv_const w3 99
  go_wp2_with fail
  clear cv
  have gs1 : (w3.alloc (.cells #[.int .u8 99] 5 (1, 2))).heap[w3.heap.size]? = some (.cells #[.int .u8 99] 5 (1, 2)) := by (repeat (first | (with_reducible assumption) | (with_reducible exact Below.refl _ _) | (with_reducible refine heap_drew ?_) | (focus ((with_reducible refine heap_new ?_) ; simp ; done)) | (with_reducible apply heap_set_to) | (focus ((with_reducible refine heap_set_ne ?_ ?_ _) ; rotate_left ; (focus (first | omega | (simp ; done) | (simp ; omega))))) | (with_reducible refine heap_old ?_) | (with_reducible refine Below.drew ?_) | (with_reducible refine below_set ?_ _ _) | (focus ((with_reducible refine Below.setCell ?_ ?_ _) ; rotate_left ; (focus (first | omega | (simp ; done) | (simp ; omega))))) | (focus ((with_reducible refine Below.alloc ?_ ?_ _) ; rotate_left ; (focus (first | omega | (simp ; done) | (simp ; omega))))) | (with_reducible rfl) | (focus (simp ; done))))
  have hA3 := HB3.out.below (below_alloc_self w3 (.cells #[.int .u8 99] 5 (1, 2)))
  have hC3 := send_full w.heap.size b _ 2 2 0 _ 0 1 (some ⟨w3.heap.size, 0, none⟩) 1 ⟨#[99]⟩ _ hA3 (reads_one (x := 99) gs1) (fun h => by cases h) (by simp; omega) (by simp) (by omega) (by unfold badWay; omega) (by decide) (by simp)
  refine hC3.mono ?_
  rintro e w4 ⟨rfl, hB4, hK4⟩
  have hb4 : Below w.heap.size w w4 := (hb3.alloc hz3 (.cells #[.int .u8 99] 5 (1, 2))).trans (hK4.below (by simp; omega) hA3.mine_ge)
  have HB4 : Hid (BagAt w4 w.heap.size b vs3 2 2 1 [⟨1, 0, 1, ad2, cap2, ⟨#[97]⟩⟩, ⟨2, 1, 0, ad3, cap3, ⟨#[98]⟩⟩]) := hB4
  have hz4 := hb4.size
  clear gs1 HB3 hB4 hK4 hz3 hb3 hA3 hC3
  go_wp2_with fail
  have hok4 : ∀ p ∈ [(⟨1, 0, 1, ad2, cap2, ⟨#[97]⟩⟩ : Pk), ⟨2, 1, 0, ad3, cap3, ⟨#[98]⟩⟩], p.Ok := fun p hp => by
    simp only [List.mem_cons, List.not_mem_nil, or_false] at hp
    rcases hp with rfl | rfl
    · exact ⟨HN2.out, by show (⟨#[97]⟩ : ByteArray).size ≤ 65536; decide⟩
    · exact ⟨HN3.out, by show (⟨#[98]⟩ : ByteArray).size ≤ 65536; decide⟩
  refine (take_ok w.heap.size b _ 2 2 1 _ 0 (by simp) w4 HB4.out hz4 (by simp) hok4).mono ?_
  rintro e w5 ⟨vs5, ad5, cap5, rfl, hB5, hK5, hn5, hd5, _⟩
  have hb5 : Below w.heap.size w w5 := hb4.trans (hK5.below hz4 HB4.out.mine_ge)
  have HB5 : Hid (BagAt w5 w.heap.size b vs5 2 2 1 [⟨2, 1, 0, ad3, cap3, ⟨#[98]⟩⟩]) := hB5
  have HD5 : Hid (Dat w5 w4.heap.size ad5 ⟨#[97]⟩) := hd5
  have hz5 := hb5.size
  clear HB4 hB5 hK5 hz4 hb4 hn5 hd5 hok4
  simp only [List.getElem_cons_zero, List.getElem_cons_succ]
  go_wp2_with fail
  have g7 : (w5.alloc (.cells #[.int .i64 1, .int .i64 0, .int .i64 1, .slice ad5 1 cap5] 39 (0, 0))).heap[w5.heap.size]? = some (.cells #[.int .i64 1, .int .i64 0, .int .i64 1, .slice ad5 1 cap5] 39 (0, 0)) := by (repeat (first | (with_reducible assumption) | (with_reducible exact Below.refl _ _) | (with_reducible refine heap_drew ?_) | (focus ((with_reducible refine heap_new ?_) ; simp ; done)) | (with_reducible apply heap_set_to) | (focus ((with_reducible refine heap_set_ne ?_ ?_ _) ; rotate_left ; (focus (first | omega | (simp ; done) | (simp ; omega))))) | (with_reducible refine heap_old ?_) | (with_reducible refine Below.drew ?_) | (with_reducible refine below_set ?_ _ _) | (focus ((with_reducible refine Below.setCell ?_ ?_ _) ; rotate_left ; (focus (first | omega | (simp ; done) | (simp ; omega))))) | (focus ((with_reducible refine Below.alloc ?_ ?_ _) ; rotate_left ; (focus (first | omega | (simp ; done) | (simp ; omega))))) | (with_reducible rfl) | (focus (simp ; done))))
  have hb5a := hb5.alloc hz5 (.cells #[.int .i64 1, .int .i64 0, .int .i64 1, .slice ad5 1 cap5] 39 (0, 0))
  have hA5 := HB5.out.below (below_alloc_self w5 (.cells #[.int .i64 1, .int .i64 0, .int .i64 1, .slice ad5 1 cap5] 39 (0, 0)))
  have D5 := HD5.out.keep (p := fun _ => False) (Keep.of_below (below_alloc_self w5 (.cells #[.int .i64 1, .int .i64 0, .int .i64 1, .slice ad5 1 cap5] 39 (0, 0)))) (fun _ _ _ h => h)
  have hbk : b < w5.heap.size := blk_lt HB5.out.2.1
  have hrow5 : ∀ g, vs5.ownBlock = some g → g < w5.heap.size := fun g hg => (HB5.out.2.2.1.lt g hg).2
  have hsz5 : (w5.alloc (.cells #[.int .i64 1, .int .i64 0, .int .i64 1, .slice ad5 1 cap5] 39 (0, 0))).heap.size = w5.heap.size + 1 := by simp
  obtain ⟨k7, hk7⟩ : ∃ g, g = w5.heap.size := ⟨_, rfl⟩
  have HK7 : Hid (k7 = w5.heap.size) := hk7
  rw [← hk7] at g7 hbk hrow5 hsz5 ⊢
  clear hk7
  generalize hwa : w5.alloc (.cells #[.int .i64 1, .int .i64 0, .int .i64 1, .slice ad5 1 cap5] 39 (0, 0)) = w5a at *
  clear hwa HB5 HD5
  have hz5a := hb5a.size
  refine (double_room w.heap.size b _ 2 2 1 _ 0 (by simp) w5a hA5 hz5a (by simp) (by omega) (by simp)).mono ?_
  rintro e w6 ⟨vs6, rfl, hB6, hK6, hat6⟩
  have g76 := hK6.blk g7 (fun e => e.elim (fun e => by omega) (fun e => by have := hrow5 _ e; omega))
  have D6 := D5.keep hK6 hA5.apart
  have hb6 : Below w.heap.size w w6 := hb5a.trans (hK6.below hz5a hA5.mine_ge)
  have hz6 := hb6.size
  have hrow6 : vs6.ownBlock ≠ some k7 := fun e => by
    rcases hat6 with h | ⟨⟨g, h, hg⟩, _⟩
    · rw [h] at e
      have := hrow5 _ e
      omega
    · rw [h] at e
      have : g = k7 := Option.some.inj e
      omega
  have HB6 : Hid (BagAt w6 w.heap.size b vs6 2 3 1 [⟨2, 1, 0, ad3, cap3, ⟨#[98]⟩⟩, ⟨3, 1, 0, ad3, cap3, ⟨#[98]⟩⟩]) := hB6
  have HR6 : Hid (vs6.ownBlock ≠ some k7) := hrow6
  have HD6 : Hid (Dat w6 w4.heap.size ad5 ⟨#[97]⟩) := D6
  clear g7 D5 D6 hb5a hA5 hrow5 hsz5 hz5a hB6 hK6 hat6 hrow6 hb5 hz5
  go_wp2_with fail
  have hok6 : ∀ p ∈ [(⟨2, 1, 0, ad3, cap3, ⟨#[98]⟩⟩ : Pk), ⟨3, 1, 0, ad3, cap3, ⟨#[98]⟩⟩], p.Ok := fun p hp => by
    simp only [List.mem_cons, List.not_mem_nil, or_false] at hp
    rcases hp with rfl | rfl
    · exact ⟨HN3.out, by show (⟨#[98]⟩ : ByteArray).size ≤ 65536; decide⟩
    · exact ⟨HN3.out, by show (⟨#[98]⟩ : ByteArray).size ≤ 65536; decide⟩
  refine (take_ok w.heap.size b _ 2 3 1 _ 1 (by simp) w6 HB6.out hz6 (by simp) hok6).mono ?_
  rintro e w7 ⟨vs7, ad7, cap7, rfl, hB7, hK7, hn7, hd7, _⟩
  have g77 := hK7.blk g76 (fun e => e.elim (fun e => by omega) (fun e => HR6.out e))
  have D7 := HD6.out.keep hK7 HB6.out.apart
  have hb7 : Below w.heap.size w w7 := hb6.trans (hK7.below hz6 HB6.out.mine_ge)
  have hz7 := hb7.size
  have HB7 : Hid (BagAt w7 w.heap.size b vs7 2 3 1 [⟨2, 1, 0, ad3, cap3, ⟨#[98]⟩⟩]) := hB7
  have HD7 : Hid (Dat w7 w4.heap.size ad5 ⟨#[97]⟩ ∧ Dat w7 w6.heap.size ad7 ⟨#[98]⟩) := ⟨D7, hd7⟩
  clear HB6 HR6 HD6 g76 D7 hB7 hK7 hn7 hd7 hok6 hb6 hz6
  simp only [List.getElem_cons_zero, List.getElem_cons_succ]
  go_wp2_with fail
  have g11 : (w7.alloc (.cells #[.int .i64 3, .int .i64 1, .int .i64 0, .slice ad7 1 cap7] 39 (0, 0))).heap[w7.heap.size]? = some (.cells #[.int .i64 3, .int .i64 1, .int .i64 0, .slice ad7 1 cap7] 39 (0, 0)) := by (repeat (first | (with_reducible assumption) | (with_reducible exact Below.refl _ _) | (with_reducible refine heap_drew ?_) | (focus ((with_reducible refine heap_new ?_) ; simp ; done)) | (with_reducible apply heap_set_to) | (focus ((with_reducible refine heap_set_ne ?_ ?_ _) ; rotate_left ; (focus (first | omega | (simp ; done) | (simp ; omega))))) | (with_reducible refine heap_old ?_) | (with_reducible refine Below.drew ?_) | (with_reducible refine below_set ?_ _ _) | (focus ((with_reducible refine Below.setCell ?_ ?_ _) ; rotate_left ; (focus (first | omega | (simp ; done) | (simp ; omega))))) | (focus ((with_reducible refine Below.alloc ?_ ?_ _) ; rotate_left ; (focus (first | omega | (simp ; done) | (simp ; omega))))) | (with_reducible rfl) | (focus (simp ; done))))
  have g78 := heap_old (o := (.cells #[.int .i64 3, .int .i64 1, .int .i64 0, .slice ad7 1 cap7] 39 (0, 0))) g77
  have hb7a := hb7.alloc hz7 (.cells #[.int .i64 3, .int .i64 1, .int .i64 0, .slice ad7 1 cap7] 39 (0, 0))
  have hA7 := HB7.out.below (below_alloc_self w7 (.cells #[.int .i64 3, .int .i64 1, .int .i64 0, .slice ad7 1 cap7] 39 (0, 0)))
  have D7a := HD7.out.1.keep (p := fun _ => False) (Keep.of_below (below_alloc_self w7 (.cells #[.int .i64 3, .int .i64 1, .int .i64 0, .slice ad7 1 cap7] 39 (0, 0)))) (fun _ _ _ h => h)
  have D7b := HD7.out.2.keep (p := fun _ => False) (Keep.of_below (below_alloc_self w7 (.cells #[.int .i64 3, .int .i64 1, .int .i64 0, .slice ad7 1 cap7] 39 (0, 0)))) (fun _ _ _ h => h)
  obtain ⟨k11, hk11⟩ : ∃ g, g = w7.heap.size := ⟨_, rfl⟩
  rw [← hk11] at g11 ⊢
  clear hk11
  generalize hwa : w7.alloc (.cells #[.int .i64 3, .int .i64 1, .int .i64 0, .slice ad7 1 cap7] 39 (0, 0)) = w7a at *
  clear hwa HB7 HD7
  refine (drop_none w.heap.size b _ 2 3 1 _ 1 w7a hA7 (Or.inr (by simp))).mono ?_
  rintro e w8 ⟨rfl, hb8⟩
  have q7 := blk4 (blk_below g78 hb8)
  have q11 := blk4 (blk_below g11 hb8)
  have hB8 := hA7.below hb8
  have cva : (convert 30 9 (.slice ad5 1 cap5)).run Try.prog w8 = .ok (.string ⟨#[97]⟩) w8 := conv_reads (s := ⟨#[97]⟩) (D7a.reads.below hb8)
  have cvb : (convert 30 9 (.slice ad7 1 cap7)).run Try.prog w8 = .ok (.string ⟨#[98]⟩) w8 := conv_reads (s := ⟨#[98]⟩) (D7b.reads.below hb8)
  have hbE : Below w.heap.size w w8 := below_back hb7a hb7a.size hb8
  have HB8 : Hid (BagAt w8 w.heap.size b vs7 2 3 1 [⟨2, 1, 0, ad3, cap3, ⟨#[98]⟩⟩]) := hB8
  clear g11 g78 g77 hb7a hA7 D7a D7b hB8 hb7 hz7 hb8
  go_wp2_with fail
  refine (len_any w.heap.size b _ 2 3 1 _ w8 HB8.out).mono ?_
  rintro e w9 ⟨rfl, rfl⟩
  go_wp2_with fail
  refine (lost_any w.heap.size b _ 2 3 1 _ w9 HB8.out).mono ?_
  rintro e w10 ⟨rfl, rfl⟩
  go_wp2_with fail
  go_ret
  exact ⟨rfl, hbE⟩

set_option maxHeartbeats 4000000 in
theorem new_walk (room : Int) (w : World) : Calls Try.prog 4 #[.int .i64 room] w fun e w' => e = .returned (.bool true) ∧ Below w.heap.size w w' := by
  go_enter Try.func4, Try.ntmps4
  go_wp2_with fail
  refine (shown_any w).mono ?_
  rintro e w1 ⟨rfl, hb1⟩
  have hz1 := hb1.size
  go_wp2_with fail
  by_cases h : room < 1 ∨ 512 < room
  · refine (new_bad room w1 h).mono ?_
    rintro e w2 ⟨rfl, rfl⟩
    by_cases h1 : room < 1
    · clear h
      go_wp2_with fail
      go_ret
      exact ⟨rfl, hb1⟩
    · have h2 : 512 < room := by omega
      clear h
      go_wp2_with fail
      go_ret
      exact ⟨rfl, hb1⟩
  · have h1 : 1 ≤ room ∧ room ≤ 512 := by omega
    clear h
    refine (new_ok room w.heap.size w1 h1 hz1).mono ?_
    rintro e w2 ⟨b, rfl, _, hB2, hb2⟩
    obtain ⟨h2, h3⟩ := h1
    have HB2 : Hid (BagAt w2 w.heap.size b (.slice none 0 0) room 0 0 []) := hB2
    clear hB2
    go_wp2_with fail
    refine (len_any w.heap.size b _ room 0 0 _ w2 HB2.out).mono ?_
    rintro e w3 ⟨rfl, rfl⟩
    go_wp2_with fail
    refine (lost_any w.heap.size b _ room 0 0 _ w3 HB2.out).mono ?_
    rintro e w4 ⟨rfl, rfl⟩
    go_wp2_with fail
    go_ret
    exact ⟨rfl, below_back hb1 hz1 hb2⟩

theorem bagnew_lifted (os : Os) (started : os.Started) (H : Type) (enc : TypeId × Value → H) :
    ReturnsInHanded {} Try.checked os 4 .any (Rows.bagNewSpec.pre6 enc Try.prog Try.f4 Rows.bagNewRow.domain false) (Rows.bagNewSpec.post enc Try.prog Try.f4 false true false false) := by
  refine returnsInHanded_of_change (C := Try.checked) own started (by kernel_rfl) Try.func4
    (ChangeSpec.witness6 (enc := enc) (C := Try.checked) false ⟨#[], #[.int .i64 0], []⟩ 8 (by kernel_rfl) (by kernel_rfl) (by kernel_rfl) (by kernel_rfl)) ?_
  intro W base args ds gs before hval0 hW hcnd _
  have hval : ∀ (j : Nat) t v, Try.f4.params[j]? = some t → args[j]? = some v → Value.okWide Try.prog W .any base t v := hval0
  have hW' := hW
  obtain ⟨p, q, hA0, hV, rfl, hfz, hnd⟩ := hW
  have hA : DataW.TrodAll enc Try.prog W 0 (fun _ => true) true Try.f4.params.toList args.toList ds p := hA0
  rw [Try.params4] at hA hval
  obtain ⟨v0, vs0, d0, ds0, p0, q0, hargs, rfl, rfl, h0, r0⟩ := trodAll_cons hA
  obtain ⟨rfl, rfl, rfl⟩ := trodAll_nil r0
  obtain rfl : args = #[v0] := by apply Array.toList_inj.1; exact hargs
  obtain ⟨room, rfl, rfl, rfl, wn⟩ := open_int Try.underlying3 (hval 0 _ v0 rfl rfl) h0
  refine (new_walk room W).mono fun e W' ⟨he, hg⟩ => ?_
  exact ⟨_, he, law_post laidOut (by kernel_rfl) (by kernel_rfl) Try.underlying4 rfl hW' rfl hg⟩

theorem bagnew_holds : Rows.BagNewSaid :=
  OpenClaim.holds_of_wide 4 Try.f4 rfl rfl rfl rfl rfl rfl rfl ⟨rfl, rfl, rfl, rfl, rfl⟩ rfl rfl rfl rfl rfl (by kernel_rfl) Try.func4 (by kernel_rfl)
    (of_decide_eq_true (by kernel_rfl)) (by unfold Func.isWrapper; first | (rw [if_pos (by decide +kernel)]; kernel_rfl) | (rw [if_neg (by decide +kernel)]; exact ⟨rfl, rfl⟩))
    (fun os started H enc _ => bagnew_lifted os started H enc)
#print axioms bagnew_holds
end Go.Proofs.Ytepilaejfepicaa
