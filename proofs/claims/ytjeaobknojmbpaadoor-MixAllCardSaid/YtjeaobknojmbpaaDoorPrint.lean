/-
  mix.Print: a sum's sixteen bytes, in hexadecimal digits.
-/
import Derived.Test.YtjeaobknojmbpaaDoorHex
namespace Go.Proofs.YtjeaobknojmbpaaDoor
open Go.ChangeShapes Go.WideShapes Go.ChangeAt Go.RowKit Go.Deep
set_option linter.unusedVariables false
set_option linter.unusedSimpArgs false

/-- Byte j of a word, the highest first. -/
def byteAt (x : Int) (j : Nat) : UInt8 := UInt8.ofNat ((x / 2 ^ (8 * (7 - j))).toNat % 256)
def be (x : Int) (m : Nat) : List UInt8 := (List.range m).map (byteAt x)
def printL (a b : Int) : List UInt8 := hexL (be a 8 ++ be b 8)
theorem be_succ (x : Int) (m : Nat) : be x (m + 1) = be x m ++ [byteAt x m] := by simp [be, List.range_succ]
theorem u8_byte {x : Int} (h : 0 ≤ x) (j : Nat) : IntKind.u8.wrap (x / 2 ^ (8 * (7 - j))) = ((byteAt x j).toNat : Int) := by
  have h2 : 0 ≤ x / 2 ^ (8 * (7 - j)) := Int.ediv_nonneg h (by exact_mod_cast Nat.zero_le _)
  unfold byteAt
  generalize x / 2 ^ (8 * (7 - j)) = y at *
  obtain ⟨n, rfl⟩ := Int.eq_ofNat_of_zero_le h2
  simp [IntKind.wrap, IntKind.bits, IntKind.signed]
theorem byteCells_snoc (l : List UInt8) (b : UInt8) : Lib.byteCells (l ++ [b]) = Lib.byteCells l ++ [.int .u8 b.toNat] := by simp [Lib.byteCells]
theorem run_ix0 (a b : Int) (w : World) : (Instr.index 26 (sv a b) (.int .i64 0)).run Tryd.prog w = .ok (.int .u64 a) w := by kernel_rfl
theorem run_ix1 (a b : Int) (w : World) : (Instr.index 26 (sv a b) (.int .i64 1)).run Tryd.prog w = .ok (.int .u64 b) w := by kernel_rfl


set_option maxHeartbeats 4000000 in
theorem print_any (a b : Int) (w : World) (ha : 0 ≤ a) (hb0 : 0 ≤ b) :
    Calls Tryd.prog 21 #[sv a b] w fun e w' => e = .returned (.string ⟨(printL a b).toArray⟩) ∧ Below w.heap.size w w' := by
  have ix0 := run_ix0 a b
  have ix1 := run_ix1 a b
  go_enter Tryd.func21, Tryd.ntmps21
  go_wp2_with fail
  obtain ⟨bb, hbb⟩ : ∃ g, g = w.heap.size + 1 := ⟨_, rfl⟩
  have hb1 : Below w.heap.size w ((w.alloc (.cells #[.int .u64 a, .int .u64 b] 26 (0, 0))).alloc (.cells #[.pointer none, .slice none 0 0] 66 (0, 0))) := by (repeat (first | (with_reducible assumption) | (with_reducible exact Below.refl _ _) | (with_reducible refine heap_drew ?_) | (focus ((with_reducible refine heap_new ?_) ; simp ; done)) | (with_reducible apply heap_set_to) | (focus ((with_reducible refine heap_set_ne ?_ ?_ _) ; rotate_left ; (focus (first | omega | (simp ; done) | (simp ; omega))))) | (with_reducible refine heap_old ?_) | (with_reducible refine Below.drew ?_) | (with_reducible refine below_set ?_ _ _) | (focus ((with_reducible refine Below.setCell ?_ ?_ _) ; rotate_left ; (focus (first | omega | (simp ; done) | (simp ; omega))))) | (focus ((with_reducible refine Below.alloc ?_ ?_ _) ; rotate_left ; (focus (first | omega | (simp ; done) | (simp ; omega))))) | (with_reducible rfl) | (focus (simp ; done))))
  have hg1 : ((w.alloc (.cells #[.int .u64 a, .int .u64 b] 26 (0, 0))).alloc (.cells #[.pointer none, .slice none 0 0] 66 (0, 0))).heap[w.heap.size + 1]? = some (.cells #[.pointer none, .slice none 0 0] 66 (0, 0)) := by (repeat (first | (with_reducible assumption) | (with_reducible exact Below.refl _ _) | (with_reducible refine heap_drew ?_) | (focus ((with_reducible refine heap_new ?_) ; simp ; done)) | (with_reducible apply heap_set_to) | (focus ((with_reducible refine heap_set_ne ?_ ?_ _) ; rotate_left ; (focus (first | omega | (simp ; done) | (simp ; omega))))) | (with_reducible refine heap_old ?_) | (with_reducible refine Below.drew ?_) | (with_reducible refine below_set ?_ _ _) | (focus ((with_reducible refine Below.setCell ?_ ?_ _) ; rotate_left ; (focus (first | omega | (simp ; done) | (simp ; omega))))) | (focus ((with_reducible refine Below.alloc ?_ ?_ _) ; rotate_left ; (focus (first | omega | (simp ; done) | (simp ; omega))))) | (with_reducible rfl) | (focus (simp ; done))))
  rw [← hbb] at hg1 ⊢
  have IB1 : Hid (Lib.IsBuilder 66 5 w.heap.size bb (Lib.byteCells []) ((w.alloc (.cells #[.int .u64 a, .int .u64 b] 26 (0, 0))).alloc (.cells #[.pointer none, .slice none 0 0] 66 (0, 0)))) :=
    Or.inl ⟨by omega, .slice none 0 0, hg1, World.ownsRow_nil _ _ _ _, by simp [Value.ownBlock]⟩
  clear hg1
  generalize hws : (w.alloc (.cells #[.int .u64 a, .int .u64 b] 26 (0, 0))).alloc (.cells #[.pointer none, .slice none 0 0] 66 (0, 0)) = ws at *
  clear hws hbb
  refine wp_loop_rounds 3 ?_
  rw [rounds_succ]
  go_wp2_with fail
  go_loopw [6] (fun y wr => ∃ i : Nat, i ≤ 8 ∧ y = .int .i64 ((7 : Int) - i) ∧ Hid (Lib.IsBuilder 66 5 w.heap.size bb (Lib.byteCells ([] ++ be a i)) wr) ∧ Below w.heap.size w wr) (fun y _ => (intOf y + 1).toNat)
  case atStart => exact ⟨0, by omega, rfl, by have := IB1.out; simpa [be, Hid] using this, hb1⟩
  case round =>
    obtain ⟨i, hi, rfl, IB2, hb2⟩ := hrel
    by_cases hlt : i < 8
    · have hsh : ((8 : Int) * (7 - (i : Int))).toNat = 8 * (7 - i) := by omega
      have hsh2 : (0 : Int) ≤ (8 : Int) * (7 - (i : Int)) := by omega
      have hsh3 : (0 : Int) ≤ (7 - (i : Int)) := by omega
      go_wp2_with fail
      refine (wbyte_any w.heap.size bb _ _ _ IB2.out (by simp [Lib.byteCells, be]; omega) hb2.size).mono ?_
      rintro e w9 ⟨rfl, h9, hb9⟩
      have IB9 : Hid (Lib.IsBuilder 66 5 w.heap.size bb (Lib.byteCells ([] ++ be a (i + 1))) w9) := by
        have h10 : Lib.IsBuilder 66 5 w.heap.size bb _ w9 := Or.inr h9
        rw [be_succ a i, ← List.append_assoc, byteCells_snoc, ← u8_byte ha]
        exact h10
      have hb10 : Below w.heap.size w w9 := hb2.trans hb9
      clear h9 hb9 IB2 hb2
      go_wp2_with fail
      go_roundw
      case rel => exact ⟨i + 1, by omega, by congr 1; simp; omega, IB9, hb10⟩
      case measure => simp [intOf]; omega
    · obtain rfl : i = 8 := by omega
      have IB3 : Hid (Lib.IsBuilder 66 5 w.heap.size bb (Lib.byteCells (be a 8)) wr) := IB2
      clear IB2
      go_wp2_with fail
      rw [rounds_succ]
      go_wp2_with fail
      go_loopw [6] (fun y wr => ∃ i : Nat, i ≤ 8 ∧ y = .int .i64 ((7 : Int) - i) ∧ Hid (Lib.IsBuilder 66 5 w.heap.size bb (Lib.byteCells ((be a 8) ++ be b i)) wr) ∧ Below w.heap.size w wr) (fun y _ => (intOf y + 1).toNat)
      case atStart => exact ⟨0, by omega, rfl, by have := IB3.out; simpa [be, Hid] using this, hb2⟩
      case round =>
        obtain ⟨i, hi, rfl, IB2, hb2⟩ := hrel
        by_cases hlt : i < 8
        · have hsh : ((8 : Int) * (7 - (i : Int))).toNat = 8 * (7 - i) := by omega
          have hsh2 : (0 : Int) ≤ (8 : Int) * (7 - (i : Int)) := by omega
          have hsh3 : (0 : Int) ≤ (7 - (i : Int)) := by omega
          go_wp2_with fail
          refine (wbyte_any w.heap.size bb _ _ _ IB2.out (by simp [Lib.byteCells, be]; omega) hb2.size).mono ?_
          rintro e w9 ⟨rfl, h9, hb9⟩
          have IB9 : Hid (Lib.IsBuilder 66 5 w.heap.size bb (Lib.byteCells ((be a 8) ++ be b (i + 1))) w9) := by
            have h10 : Lib.IsBuilder 66 5 w.heap.size bb _ w9 := Or.inr h9
            rw [be_succ b i, ← List.append_assoc, byteCells_snoc, ← u8_byte hb0]
            exact h10
          have hb10 : Below w.heap.size w w9 := hb2.trans hb9
          clear h9 hb9 IB2 hb2
          go_wp2_with fail
          go_roundw
          case rel => exact ⟨i + 1, by omega, by congr 1; simp; omega, IB9, hb10⟩
          case measure => simp [intOf]; omega
        · obtain rfl : i = 8 := by omega
          go_wp2_with fail
          rw [rounds_succ]
          go_wp2_with fail
          refine (Go.Proofs.Tryd.Builder_String_any w.heap.size bb _ _ IB2.out hb2.size).mono ?_
          rintro e w8 ⟨rfl, hb8⟩
          replace hb2 := hb2.trans hb8
          go_wp2_with fail
          refine (hex_any _ _ (by simp [ByteArray.size, be])).mono ?_
          rintro e w9 ⟨rfl, hb9⟩
          replace hb2 := below_back hb2 hb2.size hb9
          go_wp2_with fail
          go_ret
          exact ⟨rfl, hb2⟩
end Go.Proofs.YtjeaobknojmbpaaDoor
