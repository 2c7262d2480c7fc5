/-
  The meter, and the bound of joins.
-/
import Derived.Test.YtdflmplmpjghdaaGreatDoorTKit
import Derived.Shelf.Small.Bits
import Derived.Laws.ShiftsVarLaws
import Derived.Deep.Slices
import Derived.Deep.Grids
namespace Go.Proofs.YtdflmplmpjghdaaGreatDoor
open Go.ChangeShapes Go.WideShapes Go.ChangeAt Go.RowKit Go.Deep
set_option linter.unusedVariables false
set_option linter.unusedSimpArgs false
set_option maxRecDepth 100000

abbrev T3 := Int × Int × Int
def tadd (s t : T3) : T3 := (wrap64 (s.1 + t.1), u64 (s.2.1 + t.2.1), u64 (s.2.2 + t.2.2))
theorem tadd_comm (s t : T3) : tadd s t = tadd t s := by simp only [tadd, Int.add_comm]
theorem wrap64_l (a b : Int) : wrap64 (wrap64 a + b) = wrap64 (a + b) := by unfold wrap64; omega
theorem u64_l (a b : Int) : u64 (u64 a + b) = u64 (a + b) := by simp only [u64, IntKind.wrap, IntKind.signed, IntKind.bits]; simp
theorem tadd_assoc (s t u : T3) : tadd (tadd s t) u = tadd s (tadd t u) := by
  have e : ∀ a b c : Int, wrap64 (wrap64 (a + b) + c) = wrap64 (a + wrap64 (b + c)) := fun a b c => by rw [wrap64_l, Int.add_comm a (wrap64 _), wrap64_l]; congr 1; omega
  have f : ∀ a b c : Int, u64 (u64 (a + b) + c) = u64 (a + u64 (b + c)) := fun a b c => by rw [u64_l, Int.add_comm a (u64 _), u64_l]; congr 1; omega
  simp only [tadd, e, f]
set_option maxHeartbeats 1000000 in
theorem mjoin_any (B : Nat) (k n a b m c d : Int) (w : World) (h : w.heap[B]? = some (.cells #[.int .i64 k] 276 (0, 0))) :
    Calls Tryz.prog 120 #[.pointer (some ⟨B, 0, none⟩), tv n a b, tv m c d] w fun e w' => e = .returned (tv (wrap64 (n + m)) (u64 (a + c)) (u64 (b + d))) ∧ Below (w.setCell ⟨B, 0, none⟩ (.int .i64 (wrap64 (k + 1)))).heap.size (w.setCell ⟨B, 0, none⟩ (.int .i64 (wrap64 (k + 1)))) w' := by
  rw [World.size_setCell]
  have hB := blk_lt h
  go_enter Tryz.func120, Tryz.ntmps120
  have qc : ∀ x y z, (((w.alloc x).alloc y).alloc z).cell? ⟨B, 0, none⟩ = some (.int .i64 k) := fun x y z => blk_cell (heap_old (heap_old (heap_old h))) 0
  have qf : ∀ x y z, (((w.alloc x).alloc y).alloc z).frozen? ⟨B, 0, none⟩ = false := fun x y z => blk_free (heap_old (heap_old (heap_old h))) 0
  go_wp2_with fail
  refine (join_any n a b m c d _).mono ?_
  rintro e w2 ⟨rfl, hb2⟩
  have g6 : w2.heap[w.heap.size + 1 + 1]? = some (.cells #[.int .i64 0, .int .u64 0, .int .u64 0] 49 (0, 0)) := blk_below (by (repeat (first | (with_reducible assumption) | (with_reducible exact Below.refl _ _) | (with_reducible refine heap_drew ?_) | (focus ((with_reducible refine heap_new ?_) ; simp ; done)) | (with_reducible apply heap_set_to) | (focus ((with_reducible refine heap_set_ne ?_ ?_ _) ; rotate_left ; (focus (first | omega | (simp ; done) | (simp ; omega))))) | (with_reducible refine heap_old ?_) | (with_reducible refine Below.drew ?_) | (with_reducible refine below_set ?_ _ _) | (focus ((with_reducible refine Below.setCell ?_ ?_ _) ; rotate_left ; (focus (first | omega | (simp ; done) | (simp ; omega))))) | (focus ((with_reducible refine Below.alloc ?_ ?_ _) ; rotate_left ; (focus (first | omega | (simp ; done) | (simp ; omega))))) | (with_reducible rfl) | (focus (simp ; done))))) hb2
  have hb : Below w.heap.size (w.setCell ⟨B, 0, none⟩ (.int .i64 (wrap64 (k + 1)))) w2 := below_back (by (repeat (first | (with_reducible assumption) | (with_reducible exact Below.refl _ _) | (with_reducible refine heap_drew ?_) | (focus ((with_reducible refine heap_new ?_) ; simp ; done)) | (with_reducible apply heap_set_to) | (focus ((with_reducible refine heap_set_ne ?_ ?_ _) ; rotate_left ; (focus (first | omega | (simp ; done) | (simp ; omega))))) | (with_reducible refine heap_old ?_) | (with_reducible refine Below.drew ?_) | (with_reducible refine below_set ?_ _ _) | (focus ((with_reducible refine Below.setCell ?_ ?_ _) ; rotate_left ; (focus (first | omega | (simp ; done) | (simp ; omega))))) | (focus ((with_reducible refine Below.alloc ?_ ?_ _) ; rotate_left ; (focus (first | omega | (simp ; done) | (simp ; omega))))) | (with_reducible rfl) | (focus (simp ; done))))) (by first | omega | (simp ; done) | (simp ; omega)) hb2
  clear hb2 qc qf
  have hz := hb.size
  have q6 := blk3 g6
  go_wp2_with fail
  refine bodyPost_ret (v := tv (wrap64 (n + m)) (u64 (a + c)) (u64 (b + d))) (by simp [results, Tryz.results120, go_sem, q6]) rfl ⟨rfl, ?_⟩
  rw [World.size_setCell] at hz
  (repeat (first | (with_reducible assumption) | (with_reducible exact Below.refl _ _) | (with_reducible refine heap_drew ?_) | (focus ((with_reducible refine heap_new ?_) ; simp ; done)) | (with_reducible apply heap_set_to) | (focus ((with_reducible refine heap_set_ne ?_ ?_ _) ; rotate_left ; (focus (first | omega | (simp ; done) | (simp ; omega))))) | (with_reducible refine heap_old ?_) | (with_reducible refine Below.drew ?_) | (with_reducible refine below_set ?_ _ _) | (focus ((with_reducible refine Below.setCell ?_ ?_ _) ; rotate_left ; (focus (first | omega | (simp ; done) | (simp ; omega))))) | (focus ((with_reducible refine Below.alloc ?_ ?_ _) ; rotate_left ; (focus (first | omega | (simp ; done) | (simp ; omega))))) | (with_reducible rfl) | (focus (simp ; done))))

theorem newm_any (w : World) : Calls Tryz.prog 118 #[] w fun e w' => e = .returned (.pointer (some ⟨w.heap.size, 0, none⟩)) ∧ w' = w.alloc (.cells #[.int .i64 0] 276 (0, 0)) := by
  go_enter Tryz.func118, Tryz.ntmps118
  go_wp2_with fail
  go_ret
  exact ⟨rfl, rfl⟩

def lg (n : Int) : Nat := Lib.bitLen n.toNat
theorem lg_neg {n : Int} (h : n ≤ 0) : lg n = 0 := by
  have : n.toNat = 0 := by omega
  unfold lg; rw [this]; decide
theorem lg_half {n : Int} (h : 0 < n) (h' : n ≤ 9223372036854775807) : lg n = 1 + lg (n / 2) := by
  unfold lg
  have e : (n / 2).toNat = n.toNat / 2 := by omega
  rw [e]
  exact Lib.bitLen_half _ (by omega) (by omega)
theorem lg_pow : ∀ (k : Nat) (n : Int), 0 < n → n < 2 ^ k → k ≤ 63 → 1 ≤ lg n ∧ lg n ≤ k ∧ (2 : Int) ^ (lg n - 1) ≤ n ∧ n < 2 ^ lg n
  | 0, n, h0, h1, _ => by simp at h1; omega
  | k + 1, n, h0, h1, h2 => by
    have hb : n ≤ 9223372036854775807 := by
      have : (2 : Int) ^ (k + 1) ≤ 2 ^ 63 := by exact_mod_cast Nat.pow_le_pow_right (by omega) h2
      omega
    rw [lg_half h0 hb]
    by_cases h : n / 2 ≤ 0
    · rw [lg_neg h]; simp; omega
    · have h1' : n / 2 < 2 ^ k := by
        have : (2 : Int) ^ (k + 1) = 2 * 2 ^ k := by rw [Int.pow_succ]; omega
        omega
      obtain ⟨a, b, c, d⟩ := lg_pow k (n / 2) (by omega) h1' (by omega)
      have e1 : (2 : Int) ^ (1 + lg (n / 2)) = 2 * 2 ^ lg (n / 2) := by rw [Nat.add_comm, Int.pow_succ]; omega
      have e2 : (2 : Int) ^ (1 + lg (n / 2) - 1) = 2 * 2 ^ (lg (n / 2) - 1) := by
        obtain ⟨m, hm⟩ : ∃ m, lg (n / 2) = m + 1 := ⟨lg (n / 2) - 1, by omega⟩
        rw [hm]
        have : 1 + (m + 1) - 1 = m + 1 := by omega
        rw [this, Int.pow_succ]
        simp; omega
      refine ⟨by omega, by omega, ?_, ?_⟩
      · rw [e2]; omega
      · rw [e1]; omega
theorem lg_all {n : Int} (h : 0 < n) (h' : n ≤ 9223372036854775807) : 1 ≤ lg n ∧ lg n ≤ 63 ∧ (2 : Int) ^ (lg n - 1) ≤ n ∧ n < 2 ^ lg n := lg_pow 63 n h (by omega) (by omega)
theorem lg_le {n : Int} (h' : n ≤ 9223372036854775807) : lg n ≤ 63 := by
  by_cases h : 0 < n
  · exact (lg_all h h').2.1
  · rw [lg_neg (by omega)]; omega

theorem u64_eq (x : Int) : u64 x = x % 18446744073709551616 := by simp [u64, IntKind.wrap, IntKind.signed, IntKind.bits]
theorem ret_int {k : IntKind} {a b : Int} (h : a = b) : Ending.returned (.int k a) = .returned (.int k b) := by rw [h]

end Go.Proofs.YtdflmplmpjghdaaGreatDoor
