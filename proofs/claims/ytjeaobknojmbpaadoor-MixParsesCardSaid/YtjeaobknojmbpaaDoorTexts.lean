/-
  The reference's Print: thirty-two digits.
-/
import Derived.Test.YtjeaobknojmbpaaDoorPrint
import Derived.Test.YtjeaobknojmbpaaDoorParse
namespace Go.Proofs.YtjeaobknojmbpaaDoor
open Go.ChangeShapes Go.WideShapes Go.ChangeAt Go.RowKit Go.Deep
set_option linter.unusedVariables false
set_option linter.unusedSimpArgs false

/-- Digit j of a word, the highest first. -/
def digAt (x : Int) (j : Nat) : UInt8 := hd ((x / 2 ^ (60 - 4 * j)).toNat % 16)
def digs (x : Int) (m : Nat) : List UInt8 := (List.range m).map (digAt x)

theorem digs_succ (x : Int) (m : Nat) : digs x (m + 1) = digs x m ++ [digAt x m] := by simp [digs, List.range_succ]
theorem digs_length (x : Int) (m : Nat) : (digs x m).length = m := by simp [digs]

theorem run_digs : ∀ (j : Nat), j < 16 → ∀ (w : World), (Instr.slice 9 (.string hexS) (some (.int .i64 j)) (some (.int .i64 ((j : Int) + 1))) none).run Tryd.prog w = .ok (.string ⟨#[hd j]⟩) w
  | 0, _, _ => by kernel_rfl
  | 1, _, _ => by kernel_rfl
  | 2, _, _ => by kernel_rfl
  | 3, _, _ => by kernel_rfl
  | 4, _, _ => by kernel_rfl
  | 5, _, _ => by kernel_rfl
  | 6, _, _ => by kernel_rfl
  | 7, _, _ => by kernel_rfl
  | 8, _, _ => by kernel_rfl
  | 9, _, _ => by kernel_rfl
  | 10, _, _ => by kernel_rfl
  | 11, _, _ => by kernel_rfl
  | 12, _, _ => by kernel_rfl
  | 13, _, _ => by kernel_rfl
  | 14, _, _ => by kernel_rfl
  | 15, _, _ => by kernel_rfl
  | n + 16, h, _ => by omega

set_option maxHeartbeats 4000000 in
theorem rprint_any (a b : Int) (w : World) (ha : 0 ≤ a) (hb0 : 0 ≤ b) :
    Calls Tryd.prog 23 #[sv a b] w fun e w' => e = .returned (.string ⟨(digs a 16 ++ digs b 16).toArray⟩) ∧ Below w.heap.size w w' := by
  go_enter Tryd.func23, Tryd.ntmps23
  go_wp2_with fail
  have g0 : (w.alloc (.cells #[.int .u64 a, .int .u64 b] 26 (0, 0))).heap[w.heap.size]? = some (.cells #[.int .u64 a, .int .u64 b] 26 (0, 0)) := by (repeat (first | (with_reducible assumption) | (with_reducible exact Below.refl _ _) | (with_reducible refine heap_drew ?_) | (focus ((with_reducible refine heap_new ?_) ; simp ; done)) | (with_reducible apply heap_set_to) | (focus ((with_reducible refine heap_set_ne ?_ ?_ _) ; rotate_left ; (focus (first | omega | (simp ; done) | (simp ; omega))))) | (with_reducible refine heap_old ?_) | (with_reducible refine Below.drew ?_) | (with_reducible refine below_set ?_ _ _) | (focus ((with_reducible refine Below.setCell ?_ ?_ _) ; rotate_left ; (focus (first | omega | (simp ; done) | (simp ; omega))))) | (focus ((with_reducible refine Below.alloc ?_ ?_ _) ; rotate_left ; (focus (first | omega | (simp ; done) | (simp ; omega))))) | (with_reducible rfl) | (focus (simp ; done))))
  have hb : Below w.heap.size w (w.alloc (.cells #[.int .u64 a, .int .u64 b] 26 (0, 0))) := by (repeat (first | (with_reducible assumption) | (with_reducible exact Below.refl _ _) | (with_reducible refine heap_drew ?_) | (focus ((with_reducible refine heap_new ?_) ; simp ; done)) | (with_reducible apply heap_set_to) | (focus ((with_reducible refine heap_set_ne ?_ ?_ _) ; rotate_left ; (focus (first | omega | (simp ; done) | (simp ; omega))))) | (with_reducible refine heap_old ?_) | (with_reducible refine Below.drew ?_) | (with_reducible refine below_set ?_ _ _) | (focus ((with_reducible refine Below.setCell ?_ ?_ _) ; rotate_left ; (focus (first | omega | (simp ; done) | (simp ; omega))))) | (focus ((with_reducible refine Below.alloc ?_ ?_ _) ; rotate_left ; (focus (first | omega | (simp ; done) | (simp ; omega))))) | (with_reducible rfl) | (focus (simp ; done))))
  generalize hws : w.alloc (.cells #[.int .u64 a, .int .u64 b] 26 (0, 0)) = ws at *
  clear hws
  have q0 := blk2 g0
  go_loopw [3, 4] (fun s c wr => ∃ (i : Nat) (t : ByteArray), i ≤ 32 ∧ c = .int .i64 i ∧ s = .string t ∧ Hid (t.data.toList = digs a (min i 16) ++ digs b (i - 16)) ∧ wr = ws) (fun _ c _ => 32 - (intOf c).toNat)
  case atStart => exact ⟨0, ⟨#[]⟩, by omega, rfl, rfl, rfl, rfl⟩
  case round =>
    obtain ⟨i, t, hi, rfl, rfl, HT, rfl⟩ := hrel
    by_cases hlt : i < 32
    · by_cases h16 : i < 16
      · have hq : (i : Int) / 16 = 0 := by omega
        have hr : (i : Int) % 16 = i := by omega
        have hsh : ((60 : Int) - 4 * i).toNat = 60 - 4 * i := by omega
        have hsh2 : (0 : Int) ≤ 60 - 4 * i := by omega
        obtain ⟨dg, hdg⟩ : ∃ dg : Nat, dg = (a / 2 ^ (60 - 4 * i)).toNat % 16 := ⟨_, rfl⟩
        have hdg2 : (a / 2 ^ (60 - 4 * i)).tmod 16 = (dg : Int) := by
          have h2 : 0 ≤ a / 2 ^ (60 - 4 * i) := Int.ediv_nonneg ha (by exact_mod_cast Nat.zero_le _)
          rw [hdg]
          generalize a / 2 ^ (60 - 4 * i) = y at *
          rw [Int.tmod_eq_emod_of_nonneg h2]; omega
        have hdg3 : dg < 16 := by omega
        have HD : Hid (digAt a i = hd dg) := by unfold Hid digAt; rw [hdg]
        clear hdg
        have x1 := run_digs dg hdg3
        have hts : t.size ≤ 32 := by rw [← len_list, HT.out, List.length_append]; simp [digs]; omega
        go_wp2_with fail
        go_roundw
        case rel =>
          refine ⟨i + 1, _, by omega, by go_num, rfl, ?_, trivial⟩
          unfold Hid
          rw [ByteArray.data_append, Array.toList_append, HT.out, show min (i + 1) 16 = i + 1 by omega, show min i 16 = i by omega, show i - 16 = 0 by omega, show i + 1 - 16 = 0 by omega, digs_succ, HD.out]
          simp [digs]
        case measure => simp [intOf]; omega
      · obtain ⟨k, rfl⟩ : ∃ k, i = k + 16 := ⟨i - 16, by omega⟩
        have hq : ((k : Int) + 16) / 16 = 1 := by omega
        have hr : (k : Int) % 16 = k := by omega
        have hr2 : ((k : Int) + 16) % 16 = k := by omega
        have hsh : ((60 : Int) - 4 * k).toNat = 60 - 4 * k := by omega
        have hsh2 : (0 : Int) ≤ 60 - 4 * k := by omega
        obtain ⟨dg, hdg⟩ : ∃ dg : Nat, dg = (b / 2 ^ (60 - 4 * k)).toNat % 16 := ⟨_, rfl⟩
        have hdg2 : (b / 2 ^ (60 - 4 * k)).tmod 16 = (dg : Int) := by
          have h2 : 0 ≤ b / 2 ^ (60 - 4 * k) := Int.ediv_nonneg hb0 (by exact_mod_cast Nat.zero_le _)
          rw [hdg]
          generalize b / 2 ^ (60 - 4 * k) = y at *
          rw [Int.tmod_eq_emod_of_nonneg h2]; omega
        have hdg3 : dg < 16 := by omega
        have HD : Hid (digAt b k = hd dg) := by unfold Hid digAt; rw [hdg]
        clear hdg
        have x1 := run_digs dg hdg3
        have hts : t.size ≤ 32 := by rw [← len_list, HT.out, List.length_append]; simp [digs]; omega
        go_wp2_with fail
        go_roundw
        case rel =>
          refine ⟨k + 16 + 1, _, by omega, by go_num, rfl, ?_, trivial⟩
          unfold Hid
          rw [ByteArray.data_append, Array.toList_append, HT.out, show min (k + 16 + 1) 16 = 16 by omega, show min (k + 16) 16 = 16 by omega, show k + 16 - 16 = k by omega, show k + 16 + 1 - 16 = k + 1 by omega, digs_succ b k, HD.out]
          simp
        case measure => simp [intOf]; omega
    · obtain rfl : i = 32 := by omega
      have htt : t = ⟨(digs a 16 ++ digs b 16).toArray⟩ := by
        have h1 : t = ⟨t.data.toList.toArray⟩ := by simp
        rw [h1, HT.out]
        rfl
      have HTT : Hid (t = _) := htt
      clear htt HT
      go_wp2_with fail
      go_ret
      exact ⟨by rw [← HTT.out]; rfl, hb⟩

/-! ### The plain law -/
theorem byteAt_nat (n j : Nat) : (byteAt (n : Int) j).toNat = n / 2 ^ (8 * (7 - j)) % 256 := by
  unfold byteAt
  have : ((n : Int) / 2 ^ (8 * (7 - j))).toNat = n / 2 ^ (8 * (7 - j)) := by
    have h : (n : Int) / 2 ^ (8 * (7 - j)) = ((n / 2 ^ (8 * (7 - j)) : Nat) : Int) := by norm_cast
    rw [h]; rfl
  rw [this]
  simp
theorem digAt_nat (n j : Nat) : digAt (n : Int) j = hd (n / 2 ^ (60 - 4 * j) % 16) := by
  unfold digAt
  have h : (n : Int) / 2 ^ (60 - 4 * j) = ((n / 2 ^ (60 - 4 * j) : Nat) : Int) := by norm_cast
  rw [h]; rfl
theorem hex_pair (n j : Nat) (hj : j ≤ 7) : hd ((byteAt (n : Int) j).toNat / 16) = digAt (n : Int) (2 * j) ∧ hd ((byteAt (n : Int) j).toNat % 16) = digAt (n : Int) (2 * j + 1) := by
  rw [byteAt_nat, digAt_nat, digAt_nat]
  have e1 : 2 ^ (60 - 4 * (2 * j)) = 2 ^ (8 * (7 - j)) * 16 := by
    rw [show 60 - 4 * (2 * j) = 8 * (7 - j) + 4 by omega, Nat.pow_add]
  have e2 : 60 - 4 * (2 * j + 1) = 8 * (7 - j) := by omega
  rw [e1, e2, ← Nat.div_div_eq_div_mul]
  generalize n / 2 ^ (8 * (7 - j)) = m
  constructor
  · congr 1; omega
  · congr 1; omega
theorem hex_be (n : Nat) : hexL (be (n : Int) 8) = digs (n : Int) 16 := by
  have e1 : be (n : Int) 8 = [byteAt n 0, byteAt n 1, byteAt n 2, byteAt n 3, byteAt n 4, byteAt n 5, byteAt n 6, byteAt n 7] := rfl
  have e2 : digs (n : Int) 16 = [digAt n (2 * 0), digAt n (2 * 0 + 1), digAt n (2 * 1), digAt n (2 * 1 + 1), digAt n (2 * 2), digAt n (2 * 2 + 1), digAt n (2 * 3), digAt n (2 * 3 + 1), digAt n (2 * 4), digAt n (2 * 4 + 1), digAt n (2 * 5), digAt n (2 * 5 + 1), digAt n (2 * 6), digAt n (2 * 6 + 1), digAt n (2 * 7), digAt n (2 * 7 + 1)] := rfl
  have h := fun j (hj : j ≤ 7) => hex_pair n j hj
  rw [e1, e2]
  simp only [hexL, (h 0 (by omega)).1, (h 0 (by omega)).2, (h 1 (by omega)).1, (h 1 (by omega)).2, (h 2 (by omega)).1, (h 2 (by omega)).2, (h 3 (by omega)).1, (h 3 (by omega)).2, (h 4 (by omega)).1, (h 4 (by omega)).2, (h 5 (by omega)).1, (h 5 (by omega)).2, (h 6 (by omega)).1, (h 6 (by omega)).2, (h 7 (by omega)).1, (h 7 (by omega)).2]
theorem hexL_append : ∀ l m : List UInt8, hexL (l ++ m) = hexL l ++ hexL m
  | [], m => rfl
  | b :: l, m => by rw [List.cons_append, hexL, hexL, hexL_append l m]; rfl
theorem print_eq (n m : Nat) : printL (n : Int) (m : Int) = digs (n : Int) 16 ++ digs (m : Int) 16 := by
  unfold printL; rw [hexL_append, hex_be, hex_be]
theorem nib_hd : ∀ n, n < 16 → nibB (hd n).toNat = true ∧ nibV (hd n).toNat = n := by decide
theorem unhex_hex : ∀ l : List UInt8, unhexL (hexL l) = some l
  | [] => rfl
  | c :: r => by
    have h1 := nib_hd (c.toNat / 16) (by have := c.toNat_lt; omega)
    have h2 := nib_hd (c.toNat % 16) (by omega)
    have e : UInt8.ofNat (c.toNat / 16 * 16 + c.toNat % 16) = c := by
      rw [show c.toNat / 16 * 16 + c.toNat % 16 = c.toNat by omega]; simp
    rw [hexL, unhexL, h1.1, h2.1, h1.2, h2.2, e, unhex_hex r]
    simp
theorem beV_be (n : Nat) (hn : n < 18446744073709551616) : beV (be (n : Int) 8) = n := by
  have e1 : be (n : Int) 8 = [byteAt n 0, byteAt n 1, byteAt n 2, byteAt n 3, byteAt n 4, byteAt n 5, byteAt n 6, byteAt n 7] := rfl
  rw [e1]
  simp only [beV, List.foldl_cons, List.foldl_nil, byteAt_nat]
  simp only [Nat.reduceMul, Nat.reduceSub, Nat.reducePow]
  omega
theorem parV_print (n m : Nat) (hn : n < 18446744073709551616) (hm : m < 18446744073709551616) : parV (printL (n : Int) (m : Int)) = .tuple #[sv n m, .int .i64 0] := by
  unfold parV printL
  rw [unhex_hex]
  have l1 : (be (n : Int) 8).length = 8 := by simp [be]
  have l2 : (be (m : Int) 8).length = 8 := by simp [be]
  simp only
  rw [if_pos (by rw [List.length_append, l1, l2]), List.take_left' l1, List.drop_left' l1, beV_be n hn, beV_be m hm]
end Go.Proofs.YtjeaobknojmbpaaDoor
