/-
  TallyMeter: a meter joins as Join does, and counts; two meters have nothing in common; for every list of tallies and of signs.
-/
import Derived.Test.YtjeaobknojmbpaaMore
import Derived.Deep.Slices
import Derived.Deep.Grids
namespace Go.Proofs.Ytjeaobknojmbpaa
open Go.ChangeShapes Go.WideShapes Go.ChangeAt Go.RowKit Go.Deep
set_option linter.unusedVariables false
set_option linter.unusedSimpArgs false

/-! ### The plain law -/
def tadd (s t : T3) : T3 := (wrap64 (s.1 + t.1), u64 (s.2.1 + t.2.1), u64 (s.2.2 + t.2.2))
theorem tadd_comm (s t : T3) : tadd s t = tadd t s := by simp only [tadd, Int.add_comm]
theorem wrap64_l (a b : Int) : wrap64 (wrap64 a + b) = wrap64 (a + b) := by unfold wrap64; omega
theorem u64_l (a b : Int) : u64 (u64 a + b) = u64 (a + b) := by simp only [u64, IntKind.wrap, IntKind.signed, IntKind.bits]; simp
theorem tadd_assoc (s t u : T3) : tadd (tadd s t) u = tadd s (tadd t u) := by
  have e : ∀ a b c : Int, wrap64 (wrap64 (a + b) + c) = wrap64 (a + wrap64 (b + c)) := fun a b c => by rw [wrap64_l, Int.add_comm a (wrap64 _), wrap64_l]; congr 1; omega
  have f : ∀ a b c : Int, u64 (u64 (a + b) + c) = u64 (a + u64 (b + c)) := fun a b c => by rw [u64_l, Int.add_comm a (u64 _), u64_l]; congr 1; omega
  simp only [tadd, e, f]
def mX (e : Nat → T3) (s : Nat → Bool) : Nat → T3
  | 0 => (0, 0, 0)
  | k + 1 => if s k then mX e s k else tadd (mX e s k) (e k)
def mY (e : Nat → T3) (s : Nat → Bool) : Nat → T3
  | 0 => (0, 0, 0)
  | k + 1 => if s k then tadd (e k) (mY e s k) else mY e s k
def mS (e : Nat → T3) : Nat → T3
  | 0 => (0, 0, 0)
  | k + 1 => tadd (mS e k) (e k)
def mN (s : Nat → Bool) : Nat → Nat
  | 0 => 0
  | k + 1 => if s k then mN s k else mN s k + 1
theorem mN_le (s : Nat → Bool) : ∀ k, mN s k ≤ k
  | 0 => Nat.le_refl _
  | k + 1 => by have := mN_le s k; unfold mN; split <;> omega
theorem m_sum (e : Nat → T3) (s : Nat → Bool) : ∀ k, tadd (mX e s k) (mY e s k) = mS e k
  | 0 => by
    have h1 : wrap64 0 = 0 := by unfold wrap64; omega
    have h2 : u64 0 = 0 := rfl
    simp only [mX, mY, mS, tadd, Int.add_zero, h1, h2]
  | k + 1 => by
    have ih := m_sum e s k
    unfold mX mY mS
    split
    · rw [← ih, tadd_comm (e k), ← tadd_assoc]
    · rw [← ih, tadd_assoc, tadd_comm (e k), ← tadd_assoc]

/-! ### The meter -/
set_option maxHeartbeats 1000000 in
theorem mjoin_any (B : Nat) (k n a b m c d : Int) (w : World) (h : w.heap[B]? = some (.cells #[.int .i64 k] 43 (0, 0))) :
    Calls Try.prog 10 #[.pointer (some ⟨B, 0, none⟩), tv n a b, tv m c d] w fun e w' => e = .returned (tv (wrap64 (n + m)) (u64 (a + c)) (u64 (b + d))) ∧ Below (w.setCell ⟨B, 0, none⟩ (.int .i64 (wrap64 (k + 1)))).heap.size (w.setCell ⟨B, 0, none⟩ (.int .i64 (wrap64 (k + 1)))) w' := by
  rw [World.size_setCell]
  have hB := blk_lt h
  go_enter Try.func10, Try.ntmps10
  have qc : ∀ x y z, (((w.alloc x).alloc y).alloc z).cell? ⟨B, 0, none⟩ = some (.int .i64 k) := fun x y z => blk_cell (heap_old (heap_old (heap_old h))) 0
  have qf : ∀ x y z, (((w.alloc x).alloc y).alloc z).frozen? ⟨B, 0, none⟩ = false := fun x y z => blk_free (heap_old (heap_old (heap_old h))) 0
  go_wp2_with fail
  refine (join_any n a b m c d _).mono ?_
  rintro e w2 ⟨rfl, hb2⟩
  have g6 : w2.heap[w.heap.size + 1 + 1]? = some (.cells #[.int .i64 0, .int .u64 0, .int .u64 0] 26 (0, 0)) := blk_below (by (repeat (first | (with_reducible assumption) | (with_reducible exact Below.refl _ _) | (with_reducible refine heap_drew ?_) | ((with_reducible refine heap_new ?_) ; simp ; done) | (with_reducible apply heap_set_to) | ((with_reducible refine heap_set_ne ?_ ?_ _) ; rotate_left ; (focus (first | omega | (simp ; done) | (simp ; omega)))) | (with_reducible refine heap_old ?_) | (with_reducible refine Below.drew ?_) | (with_reducible refine below_set ?_ _ _) | ((with_reducible refine Below.setCell ?_ ?_ _) ; rotate_left ; (focus (first | omega | (simp ; done) | (simp ; omega)))) | ((with_reducible refine Below.alloc ?_ ?_ _) ; rotate_left ; (focus (first | omega | (simp ; done) | (simp ; omega)))) | (with_reducible rfl) | (focus (simp ; done))))) hb2
  have hb : Below w.heap.size (w.setCell ⟨B, 0, none⟩ (.int .i64 (wrap64 (k + 1)))) w2 := below_back (by (repeat (first | (with_reducible assumption) | (with_reducible exact Below.refl _ _) | (with_reducible refine heap_drew ?_) | ((with_reducible refine heap_new ?_) ; simp ; done) | (with_reducible apply heap_set_to) | ((with_reducible refine heap_set_ne ?_ ?_ _) ; rotate_left ; (focus (first | omega | (simp ; done) | (simp ; omega)))) | (with_reducible refine heap_old ?_) | (with_reducible refine Below.drew ?_) | (with_reducible refine below_set ?_ _ _) | ((with_reducible refine Below.setCell ?_ ?_ _) ; rotate_left ; (focus (first | omega | (simp ; done) | (simp ; omega)))) | ((with_reducible refine Below.alloc ?_ ?_ _) ; rotate_left ; (focus (first | omega | (simp ; done) | (simp ; omega)))) | (with_reducible rfl) | (focus (simp ; done))))) (by first | omega | (simp ; done) | (simp ; omega)) hb2
  clear hb2 qc qf
  have hz := hb.size
  have q6 := blk3 g6
  go_wp2_with fail
  refine bodyPost_ret (v := tv (wrap64 (n + m)) (u64 (a + c)) (u64 (b + d))) (by simp [results, Try.results10, go_sem, q6]) rfl ⟨rfl, ?_⟩
  rw [World.size_setCell] at hz
  (repeat (first | (with_reducible assumption) | (with_reducible exact Below.refl _ _) | (with_reducible refine heap_drew ?_) | ((with_reducible refine heap_new ?_) ; simp ; done) | (with_reducible apply heap_set_to) | ((with_reducible refine heap_set_ne ?_ ?_ _) ; rotate_left ; (focus (first | omega | (simp ; done) | (simp ; omega)))) | (with_reducible refine heap_old ?_) | (with_reducible refine Below.drew ?_) | (with_reducible refine below_set ?_ _ _) | ((with_reducible refine Below.setCell ?_ ?_ _) ; rotate_left ; (focus (first | omega | (simp ; done) | (simp ; omega)))) | ((with_reducible refine Below.alloc ?_ ?_ _) ; rotate_left ; (focus (first | omega | (simp ; done) | (simp ; omega)))) | (with_reducible rfl) | (focus (simp ; done))))

theorem newm_any (w : World) : Calls Try.prog 9 #[] w fun e w' => e = .returned (.pointer (some ⟨w.heap.size, 0, none⟩)) ∧ w' = w.alloc (.cells #[.int .i64 0] 43 (0, 0)) := by
  go_enter Try.func9, Try.ntmps9
  go_wp2_with fail
  go_ret
  exact ⟨rfl, rfl⟩

theorem joins_ct (B : Nat) (k : Int) (w : World) (h : w.heap[B]? = some (.cells #[.int .i64 k] 43 (0, 0))) :
    Calls Try.prog 11 #[.pointer (some ⟨B, 0, none⟩)] w fun e w' => e = .returned (.int .i64 k) ∧ w' = w := by
  have q0 := blk1 h
  go_enter Try.func11, Try.ntmps11
  go_wp2_with fail
  go_ret
  exact ⟨rfl, rfl⟩

theorem mX_hit {e : Nat → T3} {s : Nat → Bool} {k : Nat} (h : s k = true) : mX e s (k + 1) = mX e s k ∧ mY e s (k + 1) = tadd (e k) (mY e s k) ∧ mN s (k + 1) = mN s k := by
  refine ⟨?_, ?_, ?_⟩
  · rw [mX, if_pos h]
  · rw [mY, if_pos h]
  · rw [mN, if_pos h]
theorem mX_miss {e : Nat → T3} {s : Nat → Bool} {k : Nat} (h : s k = false) : mX e s (k + 1) = tadd (mX e s k) (e k) ∧ mY e s (k + 1) = mY e s k ∧ mN s (k + 1) = mN s k + 1 := by
  refine ⟨?_, ?_, ?_⟩
  · rw [mX, if_neg (by rw [h]; simp)]
  · rw [mY, if_neg (by rw [h]; simp)]
  · rw [mN, if_neg (by rw [h]; simp)]

set_option maxHeartbeats 4000000 in
theorem tmeter_walk (oa ob : Option Addr) (len cap ln2 cap2 : Nat) (el : Nat → T3) (sc : Nat → Bool) (w : World)
    (hc : ∀ k, k < len → ∃ b o, oa = some ⟨b, o, none⟩ ∧ b < w.heap.size ∧ w.cell? ⟨b, o + k * 3, none⟩ = some (.int .i64 (el k).1) ∧ w.cell? ⟨b, o + k * 3 + 1, none⟩ = some (.int .u64 (el k).2.1) ∧ w.cell? ⟨b, o + k * 3 + 2, none⟩ = some (.int .u64 (el k).2.2))
    (hs : ∀ k, k < ln2 → ∃ b o, ob = some ⟨b, o, none⟩ ∧ b < w.heap.size ∧ w.cell? ⟨b, o + k, none⟩ = some (.bool (sc k))) :
    Calls Try.prog 4 #[.slice oa len cap, .slice ob ln2 cap2] w fun r w' => r = .returned (.bool true) ∧ Below w.heap.size w w' := by
  have HC : Hid (∀ k, k < len → _) := hc
  have HS : Hid (∀ k, k < ln2 → _) := hs
  clear hc hs
  by_cases h1 : 1073741824 < len
  · go_enter Try.func4, Try.ntmps4
    go_wp2_with fail
    go_ret
    exact ⟨rfl, Below.refl _ _⟩
  by_cases h2 : 1073741824 < ln2
  · go_enter Try.func4, Try.ntmps4
    go_wp2_with fail
    go_ret
    exact ⟨rfl, Below.refl _ _⟩
  obtain ⟨S, hS⟩ : ∃ S : Nat → Bool, S = fun k => decide (k < ln2) && sc k := ⟨_, rfl⟩
  go_enter Try.func4, Try.ntmps4
  go_wp2_with fail
  refine (newm_any _).mono ?_
  rintro e w1 ⟨rfl, rfl⟩
  go_wp2_with fail
  refine (newm_any _).mono ?_
  rintro e w1 ⟨rfl, rfl⟩
  go_wp2_with fail
  go_loopw [9, 10] (fun n i wr => ∃ (k N M : Nat) (x1 x2 x3 y1 y2 y3 : Int), k ≤ len ∧ N + M = k ∧ i = .int .i64 k ∧ n = .int .i64 N ∧ Hid ((x1, x2, x3) = mX el S k ∧ (y1, y2, y3) = mY el S k ∧ N = mN S k) ∧
      wr.heap[w.heap.size]? = some (.cells #[.int .i64 N] 43 (0, 0)) ∧ wr.heap[w.heap.size + 1]? = some (.cells #[.int .i64 M] 43 (0, 0)) ∧
      wr.heap[w.heap.size + 1 + 1]? = some (.cells #[.int .i64 x1, .int .u64 x2, .int .u64 x3] 26 (0, 0)) ∧ wr.heap[w.heap.size + 1 + 1 + 1]? = some (.cells #[.int .i64 y1, .int .u64 y2, .int .u64 y3] 26 (0, 0)) ∧
      Below w.heap.size w wr) (fun _ i _ => len - (intOf i).toNat)
  case atStart =>
    refine ⟨0, 0, 0, 0, 0, 0, 0, 0, 0, Nat.zero_le _, rfl, rfl, rfl, ⟨rfl, rfl, rfl⟩, ?_, ?_, ?_, ?_, ?_⟩
    all_goals (try rw [show ((0 : Nat) : Int) = 0 from rfl])
    all_goals (repeat (first | (with_reducible assumption) | (with_reducible exact Below.refl _ _) | (with_reducible refine heap_drew ?_) | ((with_reducible refine heap_new ?_) ; simp ; done) | (with_reducible apply heap_set_to) | ((with_reducible refine heap_set_ne ?_ ?_ _) ; rotate_left ; (focus (first | omega | (simp ; done) | (simp ; omega)))) | (with_reducible refine heap_old ?_) | (with_reducible refine Below.drew ?_) | (with_reducible refine below_set ?_ _ _) | ((with_reducible refine Below.setCell ?_ ?_ _) ; rotate_left ; (focus (first | omega | (simp ; done) | (simp ; omega)))) | ((with_reducible refine Below.alloc ?_ ?_ _) ; rotate_left ; (focus (first | omega | (simp ; done) | (simp ; omega)))) | (with_reducible rfl) | (focus (simp ; done))))
  case round =>
    obtain ⟨k, N, M, x1, x2, x3, y1, y2, y3, hk, hNM, rfl, rfl, HX, g0, g1, g2, g3, hb⟩ := hrel
    have hz := hb.size
    by_cases hlt : k < len
    · obtain ⟨b, o, rfl, hbw, c1, c2, c3⟩ := HC.out k hlt
      obtain ⟨e1, e2, e3, he⟩ : ∃ e1 e2 e3, el k = (e1, e2, e3) := ⟨_, _, _, rfl⟩
      rw [he] at c1 c2 c3
      have CC : Hid (∀ w1 : World, Below w.heap.size w w1 → w1.cell? ⟨b, o + k * 3, none⟩ = some (.int .i64 e1) ∧ w1.cell? ⟨b, o + k * 3 + 1, none⟩ = some (.int .u64 e2) ∧ w1.cell? ⟨b, o + k * 3 + 2, none⟩ = some (.int .u64 e3)) := fun w1 h => ⟨(h.cell hbw).trans c1, (h.cell hbw).trans c2, (h.cell hbw).trans c3⟩
      have HE : Hid (el k = (e1, e2, e3)) := he
      clear c1 c2 c3 he
      by_cases hS1 : S k = true
      · have hS2 := hS1
        rw [hS] at hS2
        simp only [Bool.and_eq_true, decide_eq_true_eq] at hS2
        obtain ⟨hk2, hsc⟩ := hS2
        obtain ⟨b', o', rfl, hbw', d1⟩ := HS.out k hk2
        rw [hsc] at d1
        have d2 := (hb.cell hbw').trans d1
        go_wp2_with fail
        clear d1 d2
        have hSt : Stable (fun w3 : World => (Below w.heap.size w w3) ∧ (w3.heap[w.heap.size]? = some (.cells #[.int .i64 N] 43 (0, 0))) ∧ (w3.heap[w.heap.size + 1]? = some (.cells #[.int .i64 M] 43 (0, 0))) ∧ (w3.heap[w.heap.size + 1 + 1]? = some (.cells #[.int .i64 x1, .int .u64 x2, .int .u64 x3] 26 (0, 0))) ∧ (w3.heap[w.heap.size + 1 + 1 + 1]? = some (.cells #[.int .i64 y1, .int .u64 y2, .int .u64 y3] 26 (0, 0)))) := by repeat (first | exact stable_ext _ | exact stable_blk _ _ | exact stable_true | refine Stable.and ?_ ?_)
        refine wp_region_x [0, 1, 2, 3, 4, 5, 6, 7] [0, 0, 0, 0, 1, 1, 3, 3] (fun w3 => (Below w.heap.size w w3) ∧ (w3.heap[w.heap.size]? = some (.cells #[.int .i64 N] 43 (0, 0))) ∧ (w3.heap[w.heap.size + 1]? = some (.cells #[.int .i64 M] 43 (0, 0))) ∧ (w3.heap[w.heap.size + 1 + 1]? = some (.cells #[.int .i64 x1, .int .u64 x2, .int .u64 x3] 26 (0, 0))) ∧ (w3.heap[w.heap.size + 1 + 1 + 1]? = some (.cells #[.int .i64 y1, .int .u64 y2, .int .u64 y3] 26 (0, 0)))) (by kernel_rfl) (by kernel_rfl) ?_ ?_
        · (refine ⟨?_, ?_, ?_, ?_, ?_⟩ <;> (repeat (first | (with_reducible assumption) | exact Below.refl _ _ | (with_reducible refine heap_drew ?_) | ((with_reducible refine heap_new ?_) ; simp ; done) | (with_reducible refine heap_old ?_) | (with_reducible refine Below.drew ?_) | refine Below.alloc ?_ (by first | omega | (simp ; done) | (simp ; omega)) _ | refine Below.setCell ?_ (by first | omega | (simp ; done) | (simp ; omega)) _)))
        simp only [List.map_cons, List.map_nil, List.getD_cons_zero, List.getD_cons_succ]
        (refine x_pure rfl _ ?_ rfl (by simp) ?_ ?_ ; rotate_left ; · (intro w3 K hK ; go_wp2_with fail ; exact rfl))
        simp only [Act.put, List.setIfInBounds_toArray, List.set_cons_succ, List.set_cons_zero]
        (refine x_pure rfl _ ?_ rfl (by simp) ?_ ?_ ; rotate_left ; · (intro w3 K hK ; go_wp2_with fail ; exact rfl))
        simp only [Act.put, List.setIfInBounds_toArray, List.set_cons_succ, List.set_cons_zero]
        (refine x_pure rfl _ ?_ rfl (by simp) ?_ ?_ ; rotate_left ; · (intro w3 K hK ; go_wp2_with fail ; exact rfl))
        simp only [Act.put, List.setIfInBounds_toArray, List.set_cons_succ, List.set_cons_zero]
        (refine x_pure rfl _ ?_ rfl (by simp) ?_ ?_ ; rotate_left ; · (intro w3 K hK ; go_wp2_with fail ; exact rfl))
        simp only [Act.put, List.setIfInBounds_toArray, List.set_cons_succ, List.set_cons_zero]
        (refine x_quiet rfl hSt (fun _ h => h) _ ?_ rfl (by simp) ?_ ?_ ; rotate_left ; · (intro w3 hC K hK ; obtain ⟨hb, g0, g1, g2, g3⟩ := hC ; have q3 := blk3 g3 ; have c0 := CC.out _ hb ; go_wp2_with fail ; refine ⟨?_, Below.refl _ _⟩ ; exact rfl))
        simp only [Act.put, List.setIfInBounds_toArray, List.set_cons_succ, List.set_cons_zero]
        (refine x_quiet rfl hSt (fun _ h => h) _ ?_ rfl (by simp) ?_ ?_ ; rotate_left ; · (intro w3 hC K hK ; obtain ⟨hb, g0, g1, g2, g3⟩ := hC ; have q3 := blk3 g3 ; have c0 := CC.out _ hb ; go_wp2_with fail ; refine ⟨?_, Below.refl _ _⟩ ; exact rfl))
        simp only [Act.put, List.setIfInBounds_toArray, List.set_cons_succ, List.set_cons_zero]
        refine x_write rfl ?_
        intro w3 hD K hK ; obtain ⟨hb, g0, g1, g2, g3⟩ := hD ; have q3 := blk3 g3 ; have c0 := CC.out _ hb
        go_wp2_with fail
        refine (mjoin_any (w.heap.size + 1) M e1 e2 e3 y1 y2 y3 _ g1).mono ?_
        rintro e w4 ⟨rfl, hb4⟩
        have k0 : w4.heap[w.heap.size]? = some (.cells #[.int .i64 N] 43 (0, 0)) := blk_below (by (repeat (first | (with_reducible assumption) | (with_reducible exact Below.refl _ _) | (with_reducible refine heap_drew ?_) | ((with_reducible refine heap_new ?_) ; simp ; done) | (with_reducible apply heap_set_to) | ((with_reducible refine heap_set_ne ?_ ?_ _) ; rotate_left ; (focus (first | omega | (simp ; done) | (simp ; omega)))) | (with_reducible refine heap_old ?_) | (with_reducible refine Below.drew ?_) | (with_reducible refine below_set ?_ _ _) | ((with_reducible refine Below.setCell ?_ ?_ _) ; rotate_left ; (focus (first | omega | (simp ; done) | (simp ; omega)))) | ((with_reducible refine Below.alloc ?_ ?_ _) ; rotate_left ; (focus (first | omega | (simp ; done) | (simp ; omega)))) | (with_reducible rfl) | (focus (simp ; done))))) hb4
        have k1 : w4.heap[w.heap.size + 1]? = some (.cells #[.int .i64 (wrap64 (↑M + 1))] 43 (0, 0)) := blk_below (by (repeat (first | (with_reducible assumption) | (with_reducible exact Below.refl _ _) | (with_reducible refine heap_drew ?_) | ((with_reducible refine heap_new ?_) ; simp ; done) | (with_reducible apply heap_set_to) | ((with_reducible refine heap_set_ne ?_ ?_ _) ; rotate_left ; (focus (first | omega | (simp ; done) | (simp ; omega)))) | (with_reducible refine heap_old ?_) | (with_reducible refine Below.drew ?_) | (with_reducible refine below_set ?_ _ _) | ((with_reducible refine Below.setCell ?_ ?_ _) ; rotate_left ; (focus (first | omega | (simp ; done) | (simp ; omega)))) | ((with_reducible refine Below.alloc ?_ ?_ _) ; rotate_left ; (focus (first | omega | (simp ; done) | (simp ; omega)))) | (with_reducible rfl) | (focus (simp ; done))))) hb4
        have k2 : w4.heap[w.heap.size + 1 + 1]? = some (.cells #[.int .i64 x1, .int .u64 x2, .int .u64 x3] 26 (0, 0)) := blk_below (by (repeat (first | (with_reducible assumption) | (with_reducible exact Below.refl _ _) | (with_reducible refine heap_drew ?_) | ((with_reducible refine heap_new ?_) ; simp ; done) | (with_reducible apply heap_set_to) | ((with_reducible refine heap_set_ne ?_ ?_ _) ; rotate_left ; (focus (first | omega | (simp ; done) | (simp ; omega)))) | (with_reducible refine heap_old ?_) | (with_reducible refine Below.drew ?_) | (with_reducible refine below_set ?_ _ _) | ((with_reducible refine Below.setCell ?_ ?_ _) ; rotate_left ; (focus (first | omega | (simp ; done) | (simp ; omega)))) | ((with_reducible refine Below.alloc ?_ ?_ _) ; rotate_left ; (focus (first | omega | (simp ; done) | (simp ; omega)))) | (with_reducible rfl) | (focus (simp ; done))))) hb4
        have k3 : w4.heap[w.heap.size + 1 + 1 + 1]? = some (.cells #[.int .i64 y1, .int .u64 y2, .int .u64 y3] 26 (0, 0)) := blk_below (by (repeat (first | (with_reducible assumption) | (with_reducible exact Below.refl _ _) | (with_reducible refine heap_drew ?_) | ((with_reducible refine heap_new ?_) ; simp ; done) | (with_reducible apply heap_set_to) | ((with_reducible refine heap_set_ne ?_ ?_ _) ; rotate_left ; (focus (first | omega | (simp ; done) | (simp ; omega)))) | (with_reducible refine heap_old ?_) | (with_reducible refine Below.drew ?_) | (with_reducible refine below_set ?_ _ _) | ((with_reducible refine Below.setCell ?_ ?_ _) ; rotate_left ; (focus (first | omega | (simp ; done) | (simp ; omega)))) | ((with_reducible refine Below.alloc ?_ ?_ _) ; rotate_left ; (focus (first | omega | (simp ; done) | (simp ; omega)))) | (with_reducible rfl) | (focus (simp ; done))))) hb4
        have kb : Below w.heap.size w w4 := below_back (by (repeat (first | (with_reducible assumption) | (with_reducible exact Below.refl _ _) | (with_reducible refine heap_drew ?_) | ((with_reducible refine heap_new ?_) ; simp ; done) | (with_reducible apply heap_set_to) | ((with_reducible refine heap_set_ne ?_ ?_ _) ; rotate_left ; (focus (first | omega | (simp ; done) | (simp ; omega)))) | (with_reducible refine heap_old ?_) | (with_reducible refine Below.drew ?_) | (with_reducible refine below_set ?_ _ _) | ((with_reducible refine Below.setCell ?_ ?_ _) ; rotate_left ; (focus (first | omega | (simp ; done) | (simp ; omega)))) | ((with_reducible refine Below.alloc ?_ ?_ _) ; rotate_left ; (focus (first | omega | (simp ; done) | (simp ; omega)))) | (with_reducible rfl) | (focus (simp ; done))))) (by first | omega | (simp ; done) | (simp ; omega)) hb4
        clear hb4 hb g0 g1 g2 g3 q3 c0
        have p3 := blk3 k3
        refine hK _ _ ?_
        try simp only [Act.put, List.setIfInBounds_toArray, List.set_cons_succ, List.set_cons_zero]
        refine x_write rfl ?_
        rintro w4 rfl K hK
        go_wp2_with fail
        refine x_nil ?_
        rintro w5 hwe
        have f0 : w5.heap[w.heap.size]? = some (.cells #[.int .i64 N] 43 (0, 0)) := by rw [hwe] ; (repeat (first | (with_reducible assumption) | (with_reducible exact Below.refl _ _) | (with_reducible refine heap_drew ?_) | ((with_reducible refine heap_new ?_) ; simp ; done) | (with_reducible apply heap_set_to) | ((with_reducible refine heap_set_ne ?_ ?_ _) ; rotate_left ; (focus (first | omega | (simp ; done) | (simp ; omega)))) | (with_reducible refine heap_old ?_) | (with_reducible refine Below.drew ?_) | (with_reducible refine below_set ?_ _ _) | ((with_reducible refine Below.setCell ?_ ?_ _) ; rotate_left ; (focus (first | omega | (simp ; done) | (simp ; omega)))) | ((with_reducible refine Below.alloc ?_ ?_ _) ; rotate_left ; (focus (first | omega | (simp ; done) | (simp ; omega)))) | (with_reducible rfl) | (focus (simp ; done))))
        have f1 : w5.heap[w.heap.size + 1]? = some (.cells #[.int .i64 (wrap64 (↑M + 1))] 43 (0, 0)) := by rw [hwe] ; (repeat (first | (with_reducible assumption) | (with_reducible exact Below.refl _ _) | (with_reducible refine heap_drew ?_) | ((with_reducible refine heap_new ?_) ; simp ; done) | (with_reducible apply heap_set_to) | ((with_reducible refine heap_set_ne ?_ ?_ _) ; rotate_left ; (focus (first | omega | (simp ; done) | (simp ; omega)))) | (with_reducible refine heap_old ?_) | (with_reducible refine Below.drew ?_) | (with_reducible refine below_set ?_ _ _) | ((with_reducible refine Below.setCell ?_ ?_ _) ; rotate_left ; (focus (first | omega | (simp ; done) | (simp ; omega)))) | ((with_reducible refine Below.alloc ?_ ?_ _) ; rotate_left ; (focus (first | omega | (simp ; done) | (simp ; omega)))) | (with_reducible rfl) | (focus (simp ; done))))
        have f2 : w5.heap[w.heap.size + 1 + 1]? = some (.cells #[.int .i64 x1, .int .u64 x2, .int .u64 x3] 26 (0, 0)) := by rw [hwe] ; (repeat (first | (with_reducible assumption) | (with_reducible exact Below.refl _ _) | (with_reducible refine heap_drew ?_) | ((with_reducible refine heap_new ?_) ; simp ; done) | (with_reducible apply heap_set_to) | ((with_reducible refine heap_set_ne ?_ ?_ _) ; rotate_left ; (focus (first | omega | (simp ; done) | (simp ; omega)))) | (with_reducible refine heap_old ?_) | (with_reducible refine Below.drew ?_) | (with_reducible refine below_set ?_ _ _) | ((with_reducible refine Below.setCell ?_ ?_ _) ; rotate_left ; (focus (first | omega | (simp ; done) | (simp ; omega)))) | ((with_reducible refine Below.alloc ?_ ?_ _) ; rotate_left ; (focus (first | omega | (simp ; done) | (simp ; omega)))) | (with_reducible rfl) | (focus (simp ; done))))
        have f3 : w5.heap[w.heap.size + 1 + 1 + 1]? = some (.cells #[.int .i64 (wrap64 (e1 + y1)), .int .u64 (Go.Proofs.Ytjeaobknojmbpaa.u64 (e2 + y2)), .int .u64 (Go.Proofs.Ytjeaobknojmbpaa.u64 (e3 + y3))] 26 (0, 0)) := by rw [hwe] ; (repeat (first | (with_reducible assumption) | (with_reducible exact Below.refl _ _) | (with_reducible refine heap_drew ?_) | ((with_reducible refine heap_new ?_) ; simp ; done) | (with_reducible apply heap_set_to) | ((with_reducible refine heap_set_ne ?_ ?_ _) ; rotate_left ; (focus (first | omega | (simp ; done) | (simp ; omega)))) | (with_reducible refine heap_old ?_) | (with_reducible refine Below.drew ?_) | (with_reducible refine below_set ?_ _ _) | ((with_reducible refine Below.setCell ?_ ?_ _) ; rotate_left ; (focus (first | omega | (simp ; done) | (simp ; omega)))) | ((with_reducible refine Below.alloc ?_ ?_ _) ; rotate_left ; (focus (first | omega | (simp ; done) | (simp ; omega)))) | (with_reducible rfl) | (focus (simp ; done))))
        have fb : Below w.heap.size w w5 := by rw [hwe] ; (repeat (first | (with_reducible assumption) | (with_reducible exact Below.refl _ _) | (with_reducible refine heap_drew ?_) | ((with_reducible refine heap_new ?_) ; simp ; done) | (with_reducible apply heap_set_to) | ((with_reducible refine heap_set_ne ?_ ?_ _) ; rotate_left ; (focus (first | omega | (simp ; done) | (simp ; omega)))) | (with_reducible refine heap_old ?_) | (with_reducible refine Below.drew ?_) | (with_reducible refine below_set ?_ _ _) | ((with_reducible refine Below.setCell ?_ ?_ _) ; rotate_left ; (focus (first | omega | (simp ; done) | (simp ; omega)))) | ((with_reducible refine Below.alloc ?_ ?_ _) ; rotate_left ; (focus (first | omega | (simp ; done) | (simp ; omega)))) | (with_reducible rfl) | (focus (simp ; done))))
        clear hwe
        have ew : wrap64 ((M : Int) + 1) = (M : Int) + 1 := by unfold wrap64; omega
        rw [ew] at f1
        have et : ((M : Int) + 1 == (k : Int) + 1 - (N : Int)) = true := by rw [beq_iff_eq]; omega
        clear k0 k1 k2 k3 kb p3
        go_wp2_with fail
        refine (joins_ct _ _ _ f0).mono ?_
        rintro e w5 ⟨rfl, rfl⟩
        go_wp2_with fail
        refine (joins_ct _ _ _ f1).mono ?_
        rintro e w5 ⟨rfl, rfl⟩
        go_wp2_with fail
        refine (joins_ct _ _ _ f0).mono ?_
        rintro e w5 ⟨rfl, rfl⟩
        go_wp2_with fail
        go_roundw
        case rel =>
          obtain ⟨a1, a2, a3⟩ := HX.out
          obtain ⟨m1, m2, m3⟩ := mX_hit (e := el) hS1
          exact ⟨k + 1, N, M + 1, x1, x2, x3, _, _, _, by omega, by omega, by go_num, rfl, ⟨by rw [m1]; exact a1, by rw [m2, ← a2, HE.out]; rfl, by rw [m3]; exact a3⟩, f0, by simpa using f1, f2, f3, fb⟩
        case measure => simp [intOf]; omega
      · have hS3 : S k = false := by simpa using hS1
        have tt : (¬ k < ln2) ∨ (∃ b' o', ob = some ⟨b', o', none⟩ ∧ k < ln2 ∧ wr.cell? ⟨b', o' + k, none⟩ = some (.bool false)) := by
          by_cases hk2 : k < ln2
          · right
            obtain ⟨b', o', h1, hbw', d1⟩ := HS.out k hk2
            have hsc : sc k = false := by
              rw [hS] at hS3
              simpa [hk2] using hS3
            rw [hsc] at d1
            exact ⟨b', o', h1, hk2, (hb.cell hbw').trans d1⟩
          · exact Or.inl hk2
        have ew : wrap64 ((N : Int) + 1) = (N : Int) + 1 := by unfold wrap64; omega
        rcases tt with tt | ⟨b', o', rfl, hk2, d2⟩
        all_goals
          go_wp2_with fail
          try clear d2
          clear ew
          have hSt : Stable (fun w3 : World => (Below w.heap.size w w3) ∧ (w3.heap[w.heap.size]? = some (.cells #[.int .i64 N] 43 (0, 0))) ∧ (w3.heap[w.heap.size + 1]? = some (.cells #[.int .i64 M] 43 (0, 0))) ∧ (w3.heap[w.heap.size + 1 + 1]? = some (.cells #[.int .i64 x1, .int .u64 x2, .int .u64 x3] 26 (0, 0))) ∧ (w3.heap[w.heap.size + 1 + 1 + 1]? = some (.cells #[.int .i64 y1, .int .u64 y2, .int .u64 y3] 26 (0, 0)))) := by repeat (first | exact stable_ext _ | exact stable_blk _ _ | exact stable_true | refine Stable.and ?_ ?_)
          refine wp_region_x [0, 1, 2, 3, 4, 5, 6, 7] [0, 1, 0, 0, 0, 1, 3, 3] (fun w3 => (Below w.heap.size w w3) ∧ (w3.heap[w.heap.size]? = some (.cells #[.int .i64 N] 43 (0, 0))) ∧ (w3.heap[w.heap.size + 1]? = some (.cells #[.int .i64 M] 43 (0, 0))) ∧ (w3.heap[w.heap.size + 1 + 1]? = some (.cells #[.int .i64 x1, .int .u64 x2, .int .u64 x3] 26 (0, 0))) ∧ (w3.heap[w.heap.size + 1 + 1 + 1]? = some (.cells #[.int .i64 y1, .int .u64 y2, .int .u64 y3] 26 (0, 0)))) (by kernel_rfl) (by kernel_rfl) ?_ ?_
          · (refine ⟨?_, ?_, ?_, ?_, ?_⟩ <;> (repeat (first | (with_reducible assumption) | exact Below.refl _ _ | (with_reducible refine heap_drew ?_) | ((with_reducible refine heap_new ?_) ; simp ; done) | (with_reducible refine heap_old ?_) | (with_reducible refine Below.drew ?_) | refine Below.alloc ?_ (by first | omega | (simp ; done) | (simp ; omega)) _ | refine Below.setCell ?_ (by first | omega | (simp ; done) | (simp ; omega)) _)))
          simp only [List.map_cons, List.map_nil, List.getD_cons_zero, List.getD_cons_succ]
          (refine x_pure rfl _ ?_ rfl (by simp) ?_ ?_ ; rotate_left ; · (intro w3 K hK ; go_wp2_with fail ; exact rfl))
          simp only [Act.put, List.setIfInBounds_toArray, List.set_cons_succ, List.set_cons_zero]
          (refine x_quiet rfl hSt (fun _ h => h) _ ?_ rfl (by simp) ?_ ?_ ; rotate_left ; · (intro w3 hC K hK ; obtain ⟨hb, g0, g1, g2, g3⟩ := hC ; have q2 := blk3 g2 ; have c0 := CC.out _ hb ; go_wp2_with fail ; refine ⟨?_, Below.refl _ _⟩ ; exact rfl))
          simp only [Act.put, List.setIfInBounds_toArray, List.set_cons_succ, List.set_cons_zero]
          (refine x_pure rfl _ ?_ rfl (by simp) ?_ ?_ ; rotate_left ; · (intro w3 K hK ; go_wp2_with fail ; exact rfl))
          simp only [Act.put, List.setIfInBounds_toArray, List.set_cons_succ, List.set_cons_zero]
          (refine x_pure rfl _ ?_ rfl (by simp) ?_ ?_ ; rotate_left ; · (intro w3 K hK ; go_wp2_with fail ; exact rfl))
          simp only [Act.put, List.setIfInBounds_toArray, List.set_cons_succ, List.set_cons_zero]
          (refine x_pure rfl _ ?_ rfl (by simp) ?_ ?_ ; rotate_left ; · (intro w3 K hK ; go_wp2_with fail ; exact rfl))
          simp only [Act.put, List.setIfInBounds_toArray, List.set_cons_succ, List.set_cons_zero]
          (refine x_quiet rfl hSt (fun _ h => h) _ ?_ rfl (by simp) ?_ ?_ ; rotate_left ; · (intro w3 hC K hK ; obtain ⟨hb, g0, g1, g2, g3⟩ := hC ; have q2 := blk3 g2 ; have c0 := CC.out _ hb ; go_wp2_with fail ; refine ⟨?_, Below.refl _ _⟩ ; exact rfl))
          simp only [Act.put, List.setIfInBounds_toArray, List.set_cons_succ, List.set_cons_zero]
          refine x_write rfl ?_
          intro w3 hD K hK ; obtain ⟨hb, g0, g1, g2, g3⟩ := hD ; have q2 := blk3 g2 ; have c0 := CC.out _ hb
          go_wp2_with fail
          refine (mjoin_any (w.heap.size) N x1 x2 x3 e1 e2 e3 _ g0).mono ?_
          rintro e w4 ⟨rfl, hb4⟩
          have k0 : w4.heap[w.heap.size]? = some (.cells #[.int .i64 (wrap64 (↑N + 1))] 43 (0, 0)) := blk_below (by (repeat (first | (with_reducible assumption) | (with_reducible exact Below.refl _ _) | (with_reducible refine heap_drew ?_) | ((with_reducible refine heap_new ?_) ; simp ; done) | (with_reducible apply heap_set_to) | ((with_reducible refine heap_set_ne ?_ ?_ _) ; rotate_left ; (focus (first | omega | (simp ; done) | (simp ; omega)))) | (with_reducible refine heap_old ?_) | (with_reducible refine Below.drew ?_) | (with_reducible refine below_set ?_ _ _) | ((with_reducible refine Below.setCell ?_ ?_ _) ; rotate_left ; (focus (first | omega | (simp ; done) | (simp ; omega)))) | ((with_reducible refine Below.alloc ?_ ?_ _) ; rotate_left ; (focus (first | omega | (simp ; done) | (simp ; omega)))) | (with_reducible rfl) | (focus (simp ; done))))) hb4
          have k1 : w4.heap[w.heap.size + 1]? = some (.cells #[.int .i64 M] 43 (0, 0)) := blk_below (by (repeat (first | (with_reducible assumption) | (with_reducible exact Below.refl _ _) | (with_reducible refine heap_drew ?_) | ((with_reducible refine heap_new ?_) ; simp ; done) | (with_reducible apply heap_set_to) | ((with_reducible refine heap_set_ne ?_ ?_ _) ; rotate_left ; (focus (first | omega | (simp ; done) | (simp ; omega)))) | (with_reducible refine heap_old ?_) | (with_reducible refine Below.drew ?_) | (with_reducible refine below_set ?_ _ _) | ((with_reducible refine Below.setCell ?_ ?_ _) ; rotate_left ; (focus (first | omega | (simp ; done) | (simp ; omega)))) | ((with_reducible refine Below.alloc ?_ ?_ _) ; rotate_left ; (focus (first | omega | (simp ; done) | (simp ; omega)))) | (with_reducible rfl) | (focus (simp ; done))))) hb4
          have k2 : w4.heap[w.heap.size + 1 + 1]? = some (.cells #[.int .i64 x1, .int .u64 x2, .int .u64 x3] 26 (0, 0)) := blk_below (by (repeat (first | (with_reducible assumption) | (with_reducible exact Below.refl _ _) | (with_reducible refine heap_drew ?_) | ((with_reducible refine heap_new ?_) ; simp ; done) | (with_reducible apply heap_set_to) | ((with_reducible refine heap_set_ne ?_ ?_ _) ; rotate_left ; (focus (first | omega | (simp ; done) | (simp ; omega)))) | (with_reducible refine heap_old ?_) | (with_reducible refine Below.drew ?_) | (with_reducible refine below_set ?_ _ _) | ((with_reducible refine Below.setCell ?_ ?_ _) ; rotate_left ; (focus (first | omega | (simp ; done) | (simp ; omega)))) | ((with_reducible refine Below.alloc ?_ ?_ _) ; rotate_left ; (focus (first | omega | (simp ; done) | (simp ; omega)))) | (with_reducible rfl) | (focus (simp ; done))))) hb4
          have k3 : w4.heap[w.heap.size + 1 + 1 + 1]? = some (.cells #[.int .i64 y1, .int .u64 y2, .int .u64 y3] 26 (0, 0)) := blk_below (by (repeat (first | (with_reducible assumption) | (with_reducible exact Below.refl _ _) | (with_reducible refine heap_drew ?_) | ((with_reducible refine heap_new ?_) ; simp ; done) | (with_reducible apply heap_set_to) | ((with_reducible refine heap_set_ne ?_ ?_ _) ; rotate_left ; (focus (first | omega | (simp ; done) | (simp ; omega)))) | (with_reducible refine heap_old ?_) | (with_reducible refine Below.drew ?_) | (with_reducible refine below_set ?_ _ _) | ((with_reducible refine Below.setCell ?_ ?_ _) ; rotate_left ; (focus (first | omega | (simp ; done) | (simp ; omega)))) | ((with_reducible refine Below.alloc ?_ ?_ _) ; rotate_left ; (focus (first | omega | (simp ; done) | (simp ; omega)))) | (with_reducible rfl) | (focus (simp ; done))))) hb4
          have kb : Below w.heap.size w w4 := below_back (by (repeat (first | (with_reducible assumption) | (with_reducible exact Below.refl _ _) | (with_reducible refine heap_drew ?_) | ((with_reducible refine heap_new ?_) ; simp ; done) | (with_reducible apply heap_set_to) | ((with_reducible refine heap_set_ne ?_ ?_ _) ; rotate_left ; (focus (first | omega | (simp ; done) | (simp ; omega)))) | (with_reducible refine heap_old ?_) | (with_reducible refine Below.drew ?_) | (with_reducible refine below_set ?_ _ _) | ((with_reducible refine Below.setCell ?_ ?_ _) ; rotate_left ; (focus (first | omega | (simp ; done) | (simp ; omega)))) | ((with_reducible refine Below.alloc ?_ ?_ _) ; rotate_left ; (focus (first | omega | (simp ; done) | (simp ; omega)))) | (with_reducible rfl) | (focus (simp ; done))))) (by first | omega | (simp ; done) | (simp ; omega)) hb4
          clear hb4 hb g0 g1 g2 g3 q2 c0
          have p2 := blk3 k2
          refine hK _ _ ?_
          try simp only [Act.put, List.setIfInBounds_toArray, List.set_cons_succ, List.set_cons_zero]
          refine x_write rfl ?_
          rintro w4 rfl K hK
          go_wp2_with fail
          refine x_nil ?_
          rintro w5 hwe
          have f0 : w5.heap[w.heap.size]? = some (.cells #[.int .i64 (wrap64 (↑N + 1))] 43 (0, 0)) := by rw [hwe] ; (repeat (first | (with_reducible assumption) | (with_reducible exact Below.refl _ _) | (with_reducible refine heap_drew ?_) | ((with_reducible refine heap_new ?_) ; simp ; done) | (with_reducible apply heap_set_to) | ((with_reducible refine heap_set_ne ?_ ?_ _) ; rotate_left ; (focus (first | omega | (simp ; done) | (simp ; omega)))) | (with_reducible refine heap_old ?_) | (with_reducible refine Below.drew ?_) | (with_reducible refine below_set ?_ _ _) | ((with_reducible refine Below.setCell ?_ ?_ _) ; rotate_left ; (focus (first | omega | (simp ; done) | (simp ; omega)))) | ((with_reducible refine Below.alloc ?_ ?_ _) ; rotate_left ; (focus (first | omega | (simp ; done) | (simp ; omega)))) | (with_reducible rfl) | (focus (simp ; done))))
          have f1 : w5.heap[w.heap.size + 1]? = some (.cells #[.int .i64 M] 43 (0, 0)) := by rw [hwe] ; (repeat (first | (with_reducible assumption) | (with_reducible exact Below.refl _ _) | (with_reducible refine heap_drew ?_) | ((with_reducible refine heap_new ?_) ; simp ; done) | (with_reducible apply heap_set_to) | ((with_reducible refine heap_set_ne ?_ ?_ _) ; rotate_left ; (focus (first | omega | (simp ; done) | (simp ; omega)))) | (with_reducible refine heap_old ?_) | (with_reducible refine Below.drew ?_) | (with_reducible refine below_set ?_ _ _) | ((with_reducible refine Below.setCell ?_ ?_ _) ; rotate_left ; (focus (first | omega | (simp ; done) | (simp ; omega)))) | ((with_reducible refine Below.alloc ?_ ?_ _) ; rotate_left ; (focus (first | omega | (simp ; done) | (simp ; omega)))) | (with_reducible rfl) | (focus (simp ; done))))
          have f2 : w5.heap[w.heap.size + 1 + 1]? = some (.cells #[.int .i64 (wrap64 (x1 + e1)), .int .u64 (Go.Proofs.Ytjeaobknojmbpaa.u64 (x2 + e2)), .int .u64 (Go.Proofs.Ytjeaobknojmbpaa.u64 (x3 + e3))] 26 (0, 0)) := by rw [hwe] ; (repeat (first | (with_reducible assumption) | (with_reducible exact Below.refl _ _) | (with_reducible refine heap_drew ?_) | ((with_reducible refine heap_new ?_) ; simp ; done) | (with_reducible apply heap_set_to) | ((with_reducible refine heap_set_ne ?_ ?_ _) ; rotate_left ; (focus (first | omega | (simp ; done) | (simp ; omega)))) | (with_reducible refine heap_old ?_) | (with_reducible refine Below.drew ?_) | (with_reducible refine below_set ?_ _ _) | ((with_reducible refine Below.setCell ?_ ?_ _) ; rotate_left ; (focus (first | omega | (simp ; done) | (simp ; omega)))) | ((with_reducible refine Below.alloc ?_ ?_ _) ; rotate_left ; (focus (first | omega | (simp ; done) | (simp ; omega)))) | (with_reducible rfl) | (focus (simp ; done))))
          have f3 : w5.heap[w.heap.size + 1 + 1 + 1]? = some (.cells #[.int .i64 y1, .int .u64 y2, .int .u64 y3] 26 (0, 0)) := by rw [hwe] ; (repeat (first | (with_reducible assumption) | (with_reducible exact Below.refl _ _) | (with_reducible refine heap_drew ?_) | ((with_reducible refine heap_new ?_) ; simp ; done) | (with_reducible apply heap_set_to) | ((with_reducible refine heap_set_ne ?_ ?_ _) ; rotate_left ; (focus (first | omega | (simp ; done) | (simp ; omega)))) | (with_reducible refine heap_old ?_) | (with_reducible refine Below.drew ?_) | (with_reducible refine below_set ?_ _ _) | ((with_reducible refine Below.setCell ?_ ?_ _) ; rotate_left ; (focus (first | omega | (simp ; done) | (simp ; omega)))) | ((with_reducible refine Below.alloc ?_ ?_ _) ; rotate_left ; (focus (first | omega | (simp ; done) | (simp ; omega)))) | (with_reducible rfl) | (focus (simp ; done))))
          have fb : Below w.heap.size w w5 := by rw [hwe] ; (repeat (first | (with_reducible assumption) | (with_reducible exact Below.refl _ _) | (with_reducible refine heap_drew ?_) | ((with_reducible refine heap_new ?_) ; simp ; done) | (with_reducible apply heap_set_to) | ((with_reducible refine heap_set_ne ?_ ?_ _) ; rotate_left ; (focus (first | omega | (simp ; done) | (simp ; omega)))) | (with_reducible refine heap_old ?_) | (with_reducible refine Below.drew ?_) | (with_reducible refine below_set ?_ _ _) | ((with_reducible refine Below.setCell ?_ ?_ _) ; rotate_left ; (focus (first | omega | (simp ; done) | (simp ; omega)))) | ((with_reducible refine Below.alloc ?_ ?_ _) ; rotate_left ; (focus (first | omega | (simp ; done) | (simp ; omega)))) | (with_reducible rfl) | (focus (simp ; done))))
          clear hwe
          have ew : wrap64 ((N : Int) + 1) = (N : Int) + 1 := by unfold wrap64; omega
          rw [ew] at f0
          have et : ((M : Int) == (k : Int) + 1 - ((N : Int) + 1)) = true := by rw [beq_iff_eq]; omega
          clear k0 k1 k2 k3 kb p2
          go_wp2_with fail
          refine (joins_ct _ _ _ f0).mono ?_
          rintro e w5 ⟨rfl, rfl⟩
          go_wp2_with fail
          refine (joins_ct _ _ _ f1).mono ?_
          rintro e w5 ⟨rfl, rfl⟩
          go_wp2_with fail
          refine (joins_ct _ _ _ f0).mono ?_
          rintro e w5 ⟨rfl, rfl⟩
          go_wp2_with fail
          go_roundw
          case rel =>
            obtain ⟨a1, a2, a3⟩ := HX.out
            obtain ⟨m1, m2, m3⟩ := mX_miss (e := el) hS3
            exact ⟨k + 1, N + 1, M, _, _, _, y1, y2, y3, by omega, by omega, by go_num, by go_num, ⟨by rw [m1, ← a1, HE.out]; rfl, by rw [m2]; exact a2, by rw [m3, ← a3]⟩, by simpa using f0, f1, f2, f3, fb⟩
          case measure => simp [intOf]; omega
    · obtain rfl : k = len := by omega
      clear g0 g1 hlt
      go_wp2_with fail
      obtain ⟨sB, hsB⟩ : ∃ g, g = wr.heap.size := ⟨_, rfl⟩
      have hS4 : w.heap.size + 1 + 1 + 1 < sB := by have := blk_lt g3; omega
      rw [← hsB]
      go_loopw [12] (fun i w2 => ∃ (j : Nat) (s1 s2 s3 : Int), j ≤ k ∧ i = .int .i64 j ∧ Hid ((s1, s2, s3) = mS el j) ∧
          w2.heap[w.heap.size + 1 + 1]? = some (.cells #[.int .i64 x1, .int .u64 x2, .int .u64 x3] 26 (0, 0)) ∧ w2.heap[w.heap.size + 1 + 1 + 1]? = some (.cells #[.int .i64 y1, .int .u64 y2, .int .u64 y3] 26 (0, 0)) ∧
          w2.heap[sB]? = some (.cells #[.int .i64 s1, .int .u64 s2, .int .u64 s3] 26 (0, 0)) ∧
          Below w.heap.size w w2) (fun i _ => k - (intOf i).toNat)
      case atStart =>
        subst hsB
        refine ⟨0, 0, 0, 0, Nat.zero_le _, rfl, rfl, ?_, ?_, ?_, ?_⟩
        all_goals (repeat (first | (with_reducible assumption) | (with_reducible exact Below.refl _ _) | (with_reducible refine heap_drew ?_) | ((with_reducible refine heap_new ?_) ; simp ; done) | (with_reducible apply heap_set_to) | ((with_reducible refine heap_set_ne ?_ ?_ _) ; rotate_left ; (focus (first | omega | (simp ; done) | (simp ; omega)))) | (with_reducible refine heap_old ?_) | (with_reducible refine Below.drew ?_) | (with_reducible refine below_set ?_ _ _) | ((with_reducible refine Below.setCell ?_ ?_ _) ; rotate_left ; (focus (first | omega | (simp ; done) | (simp ; omega)))) | ((with_reducible refine Below.alloc ?_ ?_ _) ; rotate_left ; (focus (first | omega | (simp ; done) | (simp ; omega)))) | (with_reducible rfl) | (focus (simp ; done))))
      case round =>
        obtain ⟨j, s1, s2, s3, hj, rfl, HS3, f2, f3, f4, fb⟩ := hrel
        have hz2 := fb.size
        by_cases hlt : j < k
        · obtain ⟨b, o, rfl, hbw, c1, c2, c3⟩ := HC.out j hlt
          obtain ⟨e1, e2, e3, he⟩ : ∃ e1 e2 e3, el j = (e1, e2, e3) := ⟨_, _, _, rfl⟩
          rw [he] at c1 c2 c3
          have CC : Hid (∀ w1 : World, Below w.heap.size w w1 → w1.cell? ⟨b, o + j * 3, none⟩ = some (.int .i64 e1) ∧ w1.cell? ⟨b, o + j * 3 + 1, none⟩ = some (.int .u64 e2) ∧ w1.cell? ⟨b, o + j * 3 + 2, none⟩ = some (.int .u64 e3)) := fun w1 h => ⟨(h.cell hbw).trans c1, (h.cell hbw).trans c2, (h.cell hbw).trans c3⟩
          have HE : Hid (el j = (e1, e2, e3)) := he
          clear c1 c2 c3 he
          go_wp2_with fail
          clear g2 g3 hb hsB
          have hSt : Stable (fun w3 : World => (Below w.heap.size w w3) ∧ (w3.heap[w.heap.size + 1 + 1]? = some (.cells #[.int .i64 x1, .int .u64 x2, .int .u64 x3] 26 (0, 0))) ∧ (w3.heap[w.heap.size + 1 + 1 + 1]? = some (.cells #[.int .i64 y1, .int .u64 y2, .int .u64 y3] 26 (0, 0))) ∧ (w3.heap[sB]? = some (.cells #[.int .i64 s1, .int .u64 s2, .int .u64 s3] 26 (0, 0)))) := by repeat (first | exact stable_ext _ | exact stable_blk _ _ | exact stable_true | refine Stable.and ?_ ?_)
          refine wp_region_x [0, 1, 2, 3, 4, 5, 6] [1, 0, 0, 0, 1, 1, 3] (fun w3 => (Below w.heap.size w w3) ∧ (w3.heap[w.heap.size + 1 + 1]? = some (.cells #[.int .i64 x1, .int .u64 x2, .int .u64 x3] 26 (0, 0))) ∧ (w3.heap[w.heap.size + 1 + 1 + 1]? = some (.cells #[.int .i64 y1, .int .u64 y2, .int .u64 y3] 26 (0, 0))) ∧ (w3.heap[sB]? = some (.cells #[.int .i64 s1, .int .u64 s2, .int .u64 s3] 26 (0, 0)))) (by kernel_rfl) (by kernel_rfl) ?_ ?_
          · (refine ⟨?_, ?_, ?_, ?_⟩ <;> (repeat (first | (with_reducible assumption) | exact Below.refl _ _ | (with_reducible refine heap_drew ?_) | ((with_reducible refine heap_new ?_) ; simp ; done) | (with_reducible refine heap_old ?_) | (with_reducible refine Below.drew ?_) | refine Below.alloc ?_ (by first | omega | (simp ; done) | (simp ; omega)) _ | refine Below.setCell ?_ (by first | omega | (simp ; done) | (simp ; omega)) _)))
          simp only [List.map_cons, List.map_nil, List.getD_cons_zero, List.getD_cons_succ]
          (refine x_quiet rfl hSt (fun _ h => h) _ ?_ rfl (by simp) ?_ ?_ ; rotate_left ; · (intro w3 hC K hK ; obtain ⟨fb, f2, f3, f4⟩ := hC ; have q4 := blk3 f4 ; have c0 := CC.out _ fb ; go_wp2_with fail ; refine ⟨?_, Below.refl _ _⟩ ; exact rfl))
          simp only [Act.put, List.setIfInBounds_toArray, List.set_cons_succ, List.set_cons_zero]
          (refine x_pure rfl _ ?_ rfl (by simp) ?_ ?_ ; rotate_left ; · (intro w3 K hK ; go_wp2_with fail ; exact rfl))
          simp only [Act.put, List.setIfInBounds_toArray, List.set_cons_succ, List.set_cons_zero]
          (refine x_pure rfl _ ?_ rfl (by simp) ?_ ?_ ; rotate_left ; · (intro w3 K hK ; go_wp2_with fail ; exact rfl))
          simp only [Act.put, List.setIfInBounds_toArray, List.set_cons_succ, List.set_cons_zero]
          (refine x_pure rfl _ ?_ rfl (by simp) ?_ ?_ ; rotate_left ; · (intro w3 K hK ; go_wp2_with fail ; exact rfl))
          simp only [Act.put, List.setIfInBounds_toArray, List.set_cons_succ, List.set_cons_zero]
          (refine x_quiet rfl hSt (fun _ h => h) _ ?_ rfl (by simp) ?_ ?_ ; rotate_left ; · (intro w3 hC K hK ; obtain ⟨fb, f2, f3, f4⟩ := hC ; have q4 := blk3 f4 ; have c0 := CC.out _ fb ; go_wp2_with fail ; refine ⟨?_, Below.refl _ _⟩ ; exact rfl))
          simp only [Act.put, List.setIfInBounds_toArray, List.set_cons_succ, List.set_cons_zero]
          (refine x_quiet rfl hSt (fun _ h => h) _ ?_ rfl (by simp) ?_ ?_ ; rotate_left ; · (intro w3 hC K hK ; obtain ⟨fb, f2, f3, f4⟩ := hC ; have q4 := blk3 f4 ; have c0 := CC.out _ fb ; go_wp2_with fail ; refine (rjoin_any _ _ _ _ _ _ _).mono ?_ ; rintro e w2 ⟨rfl, hb2⟩ ; refine hK _ _ ⟨?_, rfl, hb2⟩ ; exact rfl))
          simp only [Act.put, List.setIfInBounds_toArray, List.set_cons_succ, List.set_cons_zero]
          refine x_write rfl ?_
          intro w3 hD K hK ; obtain ⟨fb, f2, f3, f4⟩ := hD ; have q4 := blk3 f4 ; have c0 := CC.out _ fb
          go_wp2_with fail
          refine x_nil ?_
          rintro w5 hwe
          have k2 : w5.heap[w.heap.size + 1 + 1]? = some (.cells #[.int .i64 x1, .int .u64 x2, .int .u64 x3] 26 (0, 0)) := by rw [hwe] ; (repeat (first | (with_reducible assumption) | (with_reducible exact Below.refl _ _) | (with_reducible refine heap_drew ?_) | ((with_reducible refine heap_new ?_) ; simp ; done) | (with_reducible apply heap_set_to) | ((with_reducible refine heap_set_ne ?_ ?_ _) ; rotate_left ; (focus (first | omega | (simp ; done) | (simp ; omega)))) | (with_reducible refine heap_old ?_) | (with_reducible refine Below.drew ?_) | (with_reducible refine below_set ?_ _ _) | ((with_reducible refine Below.setCell ?_ ?_ _) ; rotate_left ; (focus (first | omega | (simp ; done) | (simp ; omega)))) | ((with_reducible refine Below.alloc ?_ ?_ _) ; rotate_left ; (focus (first | omega | (simp ; done) | (simp ; omega)))) | (with_reducible rfl) | (focus (simp ; done))))
          have k3 : w5.heap[w.heap.size + 1 + 1 + 1]? = some (.cells #[.int .i64 y1, .int .u64 y2, .int .u64 y3] 26 (0, 0)) := by rw [hwe] ; (repeat (first | (with_reducible assumption) | (with_reducible exact Below.refl _ _) | (with_reducible refine heap_drew ?_) | ((with_reducible refine heap_new ?_) ; simp ; done) | (with_reducible apply heap_set_to) | ((with_reducible refine heap_set_ne ?_ ?_ _) ; rotate_left ; (focus (first | omega | (simp ; done) | (simp ; omega)))) | (with_reducible refine heap_old ?_) | (with_reducible refine Below.drew ?_) | (with_reducible refine below_set ?_ _ _) | ((with_reducible refine Below.setCell ?_ ?_ _) ; rotate_left ; (focus (first | omega | (simp ; done) | (simp ; omega)))) | ((with_reducible refine Below.alloc ?_ ?_ _) ; rotate_left ; (focus (first | omega | (simp ; done) | (simp ; omega)))) | (with_reducible rfl) | (focus (simp ; done))))
          have k4 : w5.heap[sB]? = some (.cells #[.int .i64 (wrap64 (s1 + e1)), .int .u64 (Go.Proofs.Ytjeaobknojmbpaa.u64 (s2 + e2)), .int .u64 (Go.Proofs.Ytjeaobknojmbpaa.u64 (s3 + e3))] 26 (0, 0)) := by rw [hwe] ; (repeat (first | (with_reducible assumption) | (with_reducible exact Below.refl _ _) | (with_reducible refine heap_drew ?_) | ((with_reducible refine heap_new ?_) ; simp ; done) | (with_reducible apply heap_set_to) | ((with_reducible refine heap_set_ne ?_ ?_ _) ; rotate_left ; (focus (first | omega | (simp ; done) | (simp ; omega)))) | (with_reducible refine heap_old ?_) | (with_reducible refine Below.drew ?_) | (with_reducible refine below_set ?_ _ _) | ((with_reducible refine Below.setCell ?_ ?_ _) ; rotate_left ; (focus (first | omega | (simp ; done) | (simp ; omega)))) | ((with_reducible refine Below.alloc ?_ ?_ _) ; rotate_left ; (focus (first | omega | (simp ; done) | (simp ; omega)))) | (with_reducible rfl) | (focus (simp ; done))))
          have kb : Below w.heap.size w w5 := by rw [hwe] ; (repeat (first | (with_reducible assumption) | (with_reducible exact Below.refl _ _) | (with_reducible refine heap_drew ?_) | ((with_reducible refine heap_new ?_) ; simp ; done) | (with_reducible apply heap_set_to) | ((with_reducible refine heap_set_ne ?_ ?_ _) ; rotate_left ; (focus (first | omega | (simp ; done) | (simp ; omega)))) | (with_reducible refine heap_old ?_) | (with_reducible refine Below.drew ?_) | (with_reducible refine below_set ?_ _ _) | ((with_reducible refine Below.setCell ?_ ?_ _) ; rotate_left ; (focus (first | omega | (simp ; done) | (simp ; omega)))) | ((with_reducible refine Below.alloc ?_ ?_ _) ; rotate_left ; (focus (first | omega | (simp ; done) | (simp ; omega)))) | (with_reducible rfl) | (focus (simp ; done))))
          clear hwe
          go_wp2_with fail
          go_roundw
          case rel =>
            exact ⟨j + 1, _, _, _, by omega, by go_num, by have := HS3.out; unfold Hid; rw [mS, ← this, HE.out]; rfl, k2, k3, k4, kb⟩
          case measure => simp [intOf]; omega
        · obtain rfl : j = k := by omega
          have hsum : (wrap64 (x1 + y1), Go.Proofs.Ytjeaobknojmbpaa.u64 (x2 + y2), Go.Proofs.Ytjeaobknojmbpaa.u64 (x3 + y3)) = (s1, s2, s3) := by
            have := m_sum el S j
            obtain ⟨a1, a2, a3⟩ := HX.out
            rw [← a1, ← a2, ← HS3.out] at this
            exact this
          simp only [Prod.mk.injEq] at hsum
          clear g2 g3 hb hsB
          have hq : ((s1 == s1 && (s2 == s2 && s3 == s3)) = true) := by simp
          go_wp2_with fail
          have hSt : Stable (fun w3 : World => (Below w.heap.size w w3) ∧ (w3.heap[w.heap.size + 1 + 1]? = some (.cells #[.int .i64 x1, .int .u64 x2, .int .u64 x3] 26 (0, 0))) ∧ (w3.heap[w.heap.size + 1 + 1 + 1]? = some (.cells #[.int .i64 y1, .int .u64 y2, .int .u64 y3] 26 (0, 0))) ∧ (w3.heap[sB]? = some (.cells #[.int .i64 s1, .int .u64 s2, .int .u64 s3] 26 (0, 0)))) := by repeat (first | exact stable_ext _ | exact stable_blk _ _ | exact stable_true | refine Stable.and ?_ ?_)
          refine wp_region_x [0, 1, 2, 3, 4, 5] [1, 1, 1, 1, 0, 0] (fun w3 => (Below w.heap.size w w3) ∧ (w3.heap[w.heap.size + 1 + 1]? = some (.cells #[.int .i64 x1, .int .u64 x2, .int .u64 x3] 26 (0, 0))) ∧ (w3.heap[w.heap.size + 1 + 1 + 1]? = some (.cells #[.int .i64 y1, .int .u64 y2, .int .u64 y3] 26 (0, 0))) ∧ (w3.heap[sB]? = some (.cells #[.int .i64 s1, .int .u64 s2, .int .u64 s3] 26 (0, 0)))) (by kernel_rfl) (by kernel_rfl) ?_ ?_
          · (refine ⟨?_, ?_, ?_, ?_⟩ <;> (repeat (first | (with_reducible assumption) | exact Below.refl _ _ | (with_reducible refine heap_drew ?_) | ((with_reducible refine heap_new ?_) ; simp ; done) | (with_reducible refine heap_old ?_) | (with_reducible refine Below.drew ?_) | refine Below.alloc ?_ (by first | omega | (simp ; done) | (simp ; omega)) _ | refine Below.setCell ?_ (by first | omega | (simp ; done) | (simp ; omega)) _)))
          simp only [List.map_cons, List.map_nil, List.getD_cons_zero, List.getD_cons_succ]
          (refine x_quiet rfl hSt (fun _ h => h) _ ?_ rfl (by simp) ?_ ?_ ; rotate_left ; · (intro w3 hC K hK ; obtain ⟨fb, f2, f3, f4⟩ := hC ; have q2 := blk3 f2 ; have q3 := blk3 f3 ; have q4 := blk3 f4 ; go_wp2_with fail ; refine ⟨?_, Below.refl _ _⟩ ; exact rfl))
          simp only [Act.put, List.setIfInBounds_toArray, List.set_cons_succ, List.set_cons_zero]
          (refine x_quiet rfl hSt (fun _ h => h) _ ?_ rfl (by simp) ?_ ?_ ; rotate_left ; · (intro w3 hC K hK ; obtain ⟨fb, f2, f3, f4⟩ := hC ; have q2 := blk3 f2 ; have q3 := blk3 f3 ; have q4 := blk3 f4 ; go_wp2_with fail ; refine ⟨?_, Below.refl _ _⟩ ; exact rfl))
          simp only [Act.put, List.setIfInBounds_toArray, List.set_cons_succ, List.set_cons_zero]
          (refine x_quiet rfl hSt (fun _ h => h) _ ?_ rfl (by simp) ?_ ?_ ; rotate_left ; · (intro w3 hC K hK ; obtain ⟨fb, f2, f3, f4⟩ := hC ; have q2 := blk3 f2 ; have q3 := blk3 f3 ; have q4 := blk3 f4 ; go_wp2_with fail ; refine (rjoin_any _ _ _ _ _ _ _).mono ?_ ; rintro e w2 ⟨rfl, hb2⟩ ; refine hK _ _ ⟨?_, rfl, hb2⟩ ; exact rfl))
          simp only [Act.put, List.setIfInBounds_toArray, List.set_cons_succ, List.set_cons_zero]
          (refine x_quiet rfl hSt (fun _ h => h) _ ?_ rfl (by simp) ?_ ?_ ; rotate_left ; · (intro w3 hC K hK ; obtain ⟨fb, f2, f3, f4⟩ := hC ; have q2 := blk3 f2 ; have q3 := blk3 f3 ; have q4 := blk3 f4 ; go_wp2_with fail ; refine ⟨?_, Below.refl _ _⟩ ; exact rfl))
          simp only [Act.put, List.setIfInBounds_toArray, List.set_cons_succ, List.set_cons_zero]
          (refine x_pure rfl _ ?_ rfl (by simp) ?_ ?_ ; rotate_left ; · (intro w3 K hK ; go_wp2_with fail ; exact rfl))
          simp only [Act.put, List.setIfInBounds_toArray, List.set_cons_succ, List.set_cons_zero]
          (refine x_pure rfl _ ?_ rfl (by simp) ?_ ?_ ; rotate_left ; · (intro w3 K hK ; go_wp2_with fail ; exact rfl))
          simp only [Act.put, List.setIfInBounds_toArray, List.set_cons_succ, List.set_cons_zero]
          refine x_nil ?_
          rintro w3 ⟨fb, f2, f3, f4⟩
          go_wp2_with fail
          go_ret
          exact ⟨rfl, fb⟩

set_option maxRecDepth 100000 in
theorem tmeter_lifted (os : Os) (started : os.Started) (H : Type) (enc : TypeId × Value → H) :
    ReturnsInHanded {} Try.checked os 4 .any (Rows.tallyMeterSpec.pre6 enc Try.prog Try.f4 Rows.tallyMeterRow.domain false) (Rows.tallyMeterSpec.post enc Try.prog Try.f4 false true false false) := by
  refine returnsInHanded_of_change (C := Try.checked) own started (by kernel_rfl) Try.func4
    (ChangeSpec.witness6 (enc := enc) (C := Try.checked) false ⟨#[], #[.slice none 0 0, .slice none 0 0], []⟩ 8 (by kernel_rfl) (by kernel_rfl) (by kernel_rfl) (by kernel_rfl)) ?_
  intro W base args ds gs before hval0 hW hcnd _
  have hval : ∀ (j : Nat) t v, Try.f4.params[j]? = some t → args[j]? = some v → Value.okWide Try.prog W .any base t v := hval0
  have hW' := hW
  obtain ⟨p, q, hA0, hV, rfl, hfz, hnd⟩ := hW
  have hA : DataW.TrodAll enc Try.prog W 0 (fun _ => true) true Try.f4.params.toList args.toList ds p := hA0
  rw [Try.params4] at hA hval
  obtain ⟨v0, vs0, d0, ds0, p0, q0, hargs, rfl, rfl, h0, r0⟩ := trodAll_cons hA
  obtain ⟨v1, vs1, d1, ds1, p1, q1, rfl, rfl, rfl, h1, r1⟩ := trodAll_cons r0
  obtain ⟨rfl, rfl, rfl⟩ := trodAll_nil r1
  obtain rfl : args = #[v0, v1] := by apply Array.toList_inj.1; exact hargs
  obtain ⟨oa, len, cap, el, rfl, hc⟩ := open_tallies (hval 0 _ v0 rfl rfl) h0
  obtain ⟨ob, ln2, cap2, sc, rfl, hs⟩ := open_signs (hval 1 _ v1 rfl rfl) h1
  refine (tmeter_walk oa ob len cap ln2 cap2 el sc W hc hs).mono fun e W' ⟨he, hg⟩ => ?_
  exact ⟨_, he, law_post laidOut (by kernel_rfl) (by kernel_rfl) Try.underlying4 rfl hW' rfl hg⟩

theorem tmeter_holds : Rows.TallyMeterSaid :=
  OpenClaim.holds_of_wide 4 Try.f4 rfl rfl rfl rfl rfl rfl rfl ⟨rfl, rfl, rfl, rfl, rfl⟩ rfl rfl rfl rfl rfl (by kernel_rfl) Try.func4 (by kernel_rfl)
    (of_decide_eq_true (by kernel_rfl)) (by unfold Func.isWrapper; first | (rw [if_pos (by decide +kernel)]; kernel_rfl) | (rw [if_neg (by decide +kernel)]; exact ⟨rfl, rfl⟩))
    (fun os started H enc _ => tmeter_lifted os started H enc)
#print axioms tmeter_holds
end Go.Proofs.Ytjeaobknojmbpaa
