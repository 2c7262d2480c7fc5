/-
  TallyLess: what is left where a part is taken away is what the reference tells; joined with the part it is the whole; and a part joined to a tally is taken away again; for every two tallies.
-/
import Derived.Test.YtjeaobknojmbpaaLessA
import Derived.Test.YtjeaobknojmbpaaLessB
namespace Go.Proofs.Ytjeaobknojmbpaa
open Go.ChangeShapes Go.WideShapes Go.ChangeAt Go.RowKit
set_option linter.unusedVariables false
set_option linter.unusedSimpArgs false

def okB (n a b m c d : Int) : Bool := decide (0 ≤ m) && decide (m ≤ n) && !(decide (n = m) && !(a == c && b == d))
def lX (n a b m c d : Int) : Int := if okB n a b m c d then n - m else 0
def lY (n a b m c d : Int) : Int := if okB n a b m c d then u64 (a - c) else 0
def lZ (n a b m c d : Int) : Int := if okB n a b m c d then u64 (b - d) else 0
def lE (n a b m c d : Int) : Int := if okB n a b m c d then 0 else 50

theorem less_any (n a b m c d : Int) (hn : Inr .i64 n) (w : World) :
    Calls Try.prog 12 #[tv n a b, tv m c d] w fun e w' => e = .returned (.tuple #[tv (lX n a b m c d) (lY n a b m c d) (lZ n a b m c d), .int .i64 (lE n a b m c d)]) ∧ Below w.heap.size w w' := by
  have hi := hn.i64
  have no : okB n a b m c d = false → tv (lX n a b m c d) (lY n a b m c d) (lZ n a b m c d) = tv 0 0 0 ∧ lE n a b m c d = 50 := fun h => by simp [lX, lY, lZ, lE, h]
  have yes : okB n a b m c d = true → tv (lX n a b m c d) (lY n a b m c d) (lZ n a b m c d) = tv (n - m) (u64 (a - c)) (u64 (b - d)) ∧ lE n a b m c d = 0 := fun h => by simp [lX, lY, lZ, lE, h]
  by_cases hm : 0 ≤ m
  · by_cases h : n < m
    · obtain ⟨e1, e2⟩ := no (by simp [okB]; omega)
      rw [e1, e2]; exact less_big n a b m c d hm h w
    · by_cases h1 : n = m
      · by_cases h2 : (a == c && b == d) = true
        · obtain ⟨e1, e2⟩ := yes (by simp [okB, h2, hm]; omega)
          rw [e1, e2]
          simp only [Bool.and_eq_true, beq_iff_eq] at h2
          obtain ⟨rfl, rfl⟩ := h2
          subst h1
          have : tv (n - n) (u64 (a - a)) (u64 (b - b)) = tv 0 0 0 := by simp [u64]; rfl
          rw [this]
          exact less_same n a b n a b hm rfl rfl rfl hi.2 w
        · obtain ⟨e1, e2⟩ := no (by simp only [Bool.not_eq_true] at h2; simp [okB, h1, h2])
          rw [e1, e2]; exact less_odd n a b m c d hm h1 (by simpa using h2) w
      · obtain ⟨e1, e2⟩ := yes (by simp [okB, h1, hm]; omega)
        rw [e1, e2]; exact less_less n a b m c d hm (by omega) hi.2 w
  · obtain ⟨e1, e2⟩ := no (by simp [okB, hm])
    rw [e1, e2]; exact less_neg n a b m c d (by omega) w

theorem rless_any (n a b m c d : Int) (hn : Inr .i64 n) (w : World) :
    Calls Try.prog 13 #[tv n a b, tv m c d] w fun e w' => e = .returned (.tuple #[tv (lX n a b m c d) (lY n a b m c d) (lZ n a b m c d), .int .i64 (lE n a b m c d)]) ∧ Below w.heap.size w w' := by
  have hi := hn.i64
  have no : okB n a b m c d = false → tv (lX n a b m c d) (lY n a b m c d) (lZ n a b m c d) = tv 0 0 0 ∧ lE n a b m c d = 50 := fun h => by simp [lX, lY, lZ, lE, h]
  have yes : okB n a b m c d = true → tv (lX n a b m c d) (lY n a b m c d) (lZ n a b m c d) = tv (n - m) (u64 (a - c)) (u64 (b - d)) ∧ lE n a b m c d = 0 := fun h => by simp [lX, lY, lZ, lE, h]
  by_cases h0 : n < 0
  · obtain ⟨e1, e2⟩ := no (by
      by_cases hm : 0 ≤ m
      · have : ¬ m ≤ n := by omega
        simp [okB, this]
      · simp [okB, hm])
    rw [e1, e2]; exact rless_nneg n a b m c d h0 w
  by_cases hm : 0 ≤ m
  · by_cases h : n < m
    · obtain ⟨e1, e2⟩ := no (by simp [okB]; omega)
      rw [e1, e2]; exact rless_big n a b m c d hm h (by omega) w
    · by_cases h1 : n = m
      · by_cases h2 : (a == c && b == d) = true
        · obtain ⟨e1, e2⟩ := yes (by simp [okB, h2, hm]; omega)
          rw [e1, e2]
          simp only [Bool.and_eq_true, beq_iff_eq] at h2
          obtain ⟨rfl, rfl⟩ := h2
          subst h1
          have : tv (n - n) (u64 (a - a)) (u64 (b - b)) = tv 0 0 0 := by simp [u64]; rfl
          rw [this]
          exact rless_same n a b n a b hm rfl rfl rfl hi.2 w
        · obtain ⟨e1, e2⟩ := no (by simp only [Bool.not_eq_true] at h2; simp [okB, h1, h2])
          rw [e1, e2]; exact rless_odd n a b m c d hm h1 (by simpa using h2) w
      · obtain ⟨e1, e2⟩ := yes (by simp [okB, h1, hm]; omega)
        rw [e1, e2]; exact rless_less n a b m c d hm (by omega) hi.2 w
  · obtain ⟨e1, e2⟩ := no (by simp [okB, hm])
    rw [e1, e2]; exact rless_neg n a b m c d (by omega) (by omega) w

theorem u64_eq' (x : Int) : u64 x = x % 18446744073709551616 := by simp [u64, IntKind.wrap, IntKind.signed, IntKind.bits]

/-- Where something is left, the part joined to it is the whole. -/
theorem less_back {n a b m c d : Int} (hn : Inr .i64 n) (ha : Inr .u64 a) (hb : Inr .u64 b) (hm : Inr .i64 m) (hc : Inr .u64 c) (hd : Inr .u64 d) (h : okB n a b m c d = true) :
    lE n a b m c d = 0 ∧ wrap64 (lX n a b m c d + m) = n ∧ u64 (lY n a b m c d + c) = a ∧ u64 (lZ n a b m c d + d) = b := by
  have h1 := hn.i64; have h2 := ha.u64; have h3 := hb.u64; have h4 := hm.i64; have h5 := hc.u64; have h6 := hd.u64
  simp only [lE, lX, lY, lZ, h, if_true, u64_eq']
  refine ⟨trivial, ?_, by omega, by omega⟩
  unfold wrap64; omega

/-- What was joined is taken away again. -/
theorem less_fore {n a b m c d : Int} (ha : Inr .u64 a) (hb : Inr .u64 b) (hc : Inr .u64 c) (hd : Inr .u64 d) (h0 : 0 ≤ n) (h1 : n ≤ 2305843009213693952) (h2 : 0 ≤ m) (h3 : m ≤ 2305843009213693952) (hz : n = 0 → a = 0 ∧ b = 0) :
    lE (wrap64 (n + m)) (u64 (a + c)) (u64 (b + d)) m c d = 0 ∧ lX (wrap64 (n + m)) (u64 (a + c)) (u64 (b + d)) m c d = n ∧ lY (wrap64 (n + m)) (u64 (a + c)) (u64 (b + d)) m c d = a ∧ lZ (wrap64 (n + m)) (u64 (a + c)) (u64 (b + d)) m c d = b := by
  have g2 := ha.u64; have g3 := hb.u64; have g5 := hc.u64; have g6 := hd.u64
  have e : wrap64 (n + m) = n + m := by unfold wrap64; omega
  have hk : okB (wrap64 (n + m)) (u64 (a + c)) (u64 (b + d)) m c d = true := by
    rw [e]
    by_cases hn : n = 0
    · obtain ⟨rfl, rfl⟩ := hz hn
      have e1 : u64 c = c := by rw [u64_eq']; omega
      have e2 : u64 d = d := by rw [u64_eq']; omega
      simp [okB, h2, e1, e2, h0]
      omega
    · have e1 : ¬ (n + m = m) := by omega
      simp [okB, h2, e1, h0]
      omega
  rw [e] at hk ⊢
  simp only [lE, lX, lY, lZ, hk, if_true]
  simp only [u64_eq']
  refine ⟨trivial, by omega, by omega, by omega⟩

theorem wrapIn {n m : Int} : Inr .i64 (wrap64 (n + m)) := by
  unfold Inr wrap64
  simp [Lit.wf, IntKind.min, IntKind.max, IntKind.signed, IntKind.bits]
  omega

theorem blkstep {w w1 : World} {b : Nat} {o : Obj} (h : w.heap[b]? = some o) (hb : Below w.heap.size w w1) : w1.heap[b]? = some o := blk_below h hb

set_option maxHeartbeats 8000000 in
theorem tless_walk (n a b m c d : Int) (hn : Inr .i64 n) (ha : Inr .u64 a) (hb' : Inr .u64 b) (hm : Inr .i64 m) (hc : Inr .u64 c) (hd : Inr .u64 d) (w : World) :
    Calls Try.prog 5 #[tv n a b, tv m c d] w fun r w' => r = .returned (.bool true) ∧ Below w.heap.size w w' := by
  have C1 : Hid (∀ w, _) := @less_any n a b m c d hn
  have C2 : Hid (∀ w, _) := @rless_any n a b m c d hn
  have BK : Hid (okB n a b m c d = true → _) := @less_back n a b m c d hn ha hb' hm hc hd
  have EE : Hid (okB n a b m c d = false → lE n a b m c d = 50) := fun h => by simp [lE, h]
  have FR : Hid (_) := @less_fore n a b m c d ha hb' hc hd
  have C3 : Hid (∀ w, _) := @less_any (wrap64 (n + m)) (u64 (a + c)) (u64 (b + d)) m c d wrapIn
  have hni := hn.i64
  have hmi := hm.i64
  clear hn ha hb' hm hc hd
  go_enter Try.func5, Try.ntmps5
  go_wp2_with fail
  refine (C1.out _).mono ?_
  rintro r w1 ⟨rfl, hb1⟩
  have g0 : w1.heap[w.heap.size]? = some (.cells #[.int .i64 n, .int .u64 a, .int .u64 b] 26 (0, 0)) := blk_below (by repeat (first | (refine heap_new ?_; simp; done) | refine heap_old ?_)) hb1
  have g1 : w1.heap[w.heap.size + 1]? = some (.cells #[.int .i64 m, .int .u64 c, .int .u64 d] 26 (0, 0)) := blk_below (by repeat (first | (refine heap_new ?_; simp; done) | refine heap_old ?_)) hb1
  have hb : Below w.heap.size w w1 := below_back ((((Below.refl _ _).alloc (Nat.le_refl _) _).alloc (by simp) _)) (by simp; omega) hb1
  clear hb1
  have hz := hb.size
  generalize hX : lX n a b m c d = X at *
  generalize hY : lY n a b m c d = Y at *
  generalize hZ : lZ n a b m c d = Z at *
  generalize hE : lE n a b m c d = E at *
  have HX : Hid (_ ∧ _ ∧ _ ∧ _) := ⟨hX, hY, hZ, hE⟩
  clear hX hY hZ hE
  have q0 := blk3 g0
  have q1 := blk3 g1
  go_wp2_with fail
  refine (C2.out _).mono ?_
  rintro r w2 ⟨rfl, hb2⟩
  have g3 : w2.heap[w1.heap.size]? = some (.cells #[.int .i64 X, .int .u64 Y, .int .u64 Z] 26 (0, 0)) := blk_below (by repeat (first | (refine heap_new ?_; simp; done) | refine heap_old ?_)) hb2
  replace g0 := blk_below (heap_old g0) hb2
  replace g1 := blk_below (heap_old g1) hb2
  replace hb := below_back (hb.alloc hz _) (by simp; omega) hb2
  clear hb2 q0 q1
  have hz2 := hb.size
  have q0 := blk3 g0
  have q1 := blk3 g1
  have q3 := blk3 g3
  go_wp2_with fail
  clear q0 q1 q3
  by_cases hok : okB n a b m c d = true
  · obtain ⟨rfl, j1, j2, j3⟩ := BK.out hok
    clear BK EE
    have hSt : Stable (fun w3 : World => (Below w.heap.size w w3) ∧ (w3.heap[w.heap.size]? = some (.cells #[.int .i64 n, .int .u64 a, .int .u64 b] 26 (0, 0))) ∧ (w3.heap[w.heap.size + 1]? = some (.cells #[.int .i64 m, .int .u64 c, .int .u64 d] 26 (0, 0))) ∧ (w3.heap[w1.heap.size]? = some (.cells #[.int .i64 X, .int .u64 Y, .int .u64 Z] 26 (0, 0)))) := by repeat (first | exact stable_ext _ | exact stable_blk _ _ | exact stable_true | refine Stable.and ?_ ?_)
    refine wp_region_x [0, 1, 2, 3, 4, 5, 6, 7, 8] [0, 0, 0, 1, 1, 1, 1, 0, 0] (fun w3 => (Below w.heap.size w w3) ∧ (w3.heap[w.heap.size]? = some (.cells #[.int .i64 n, .int .u64 a, .int .u64 b] 26 (0, 0))) ∧ (w3.heap[w.heap.size + 1]? = some (.cells #[.int .i64 m, .int .u64 c, .int .u64 d] 26 (0, 0))) ∧ (w3.heap[w1.heap.size]? = some (.cells #[.int .i64 X, .int .u64 Y, .int .u64 Z] 26 (0, 0)))) (by kernel_rfl) (by kernel_rfl) ?_ ?_
    · (refine ⟨?_, ?_, ?_, ?_⟩ <;> (repeat (first | (with_reducible assumption) | exact Below.refl _ _ | (with_reducible refine heap_drew ?_) | ((with_reducible refine heap_new ?_) ; simp ; done) | (with_reducible refine heap_old ?_) | (with_reducible refine Below.drew ?_) | refine Below.alloc ?_ (by first | omega | (simp ; done) | (simp ; omega)) _ | refine Below.setCell ?_ (by first | omega | (simp ; done) | (simp ; omega)) _)))
    simp only [List.map_cons, List.map_nil, List.getD_cons_zero, List.getD_cons_succ]
    (refine x_pure rfl _ ?_ rfl (by simp) ?_ ?_ ; rotate_left ; · (intro w3 K hK ; go_wp2_with fail ; exact rfl))
    simp only [Act.put, List.setIfInBounds_toArray, List.set_cons_succ, List.set_cons_zero]
    (refine x_pure rfl _ ?_ rfl (by simp) ?_ ?_ ; rotate_left ; · (intro w3 K hK ; go_wp2_with fail ; exact rfl))
    simp only [Act.put, List.setIfInBounds_toArray, List.set_cons_succ, List.set_cons_zero]
    (refine x_pure rfl _ ?_ rfl (by simp) ?_ ?_ ; rotate_left ; · (intro w3 K hK ; go_wp2_with fail ; exact rfl))
    simp only [Act.put, List.setIfInBounds_toArray, List.set_cons_succ, List.set_cons_zero]
    first | (refine x_skip rfl ?_) | (refine x_quiet rfl hSt (fun _ h => h) _ ?_ rfl (by simp) ?_ ?_ ; rotate_left ; · (intro w3 hC K hK ; obtain ⟨hb, g0, g1, g3⟩ := hC ; have q0 := blk3 g0 ; have q1 := blk3 g1 ; have q3 := blk3 g3 ; go_wp2_with fail ; refine ⟨?_, Below.refl _ _⟩ ; exact rfl))
    simp only [Act.put, List.setIfInBounds_toArray, List.set_cons_succ, List.set_cons_zero]
    first | (refine x_skip rfl ?_) | (refine x_quiet rfl hSt (fun _ h => h) _ ?_ rfl (by simp) ?_ ?_ ; rotate_left ; · (intro w3 hC K hK ; obtain ⟨hb, g0, g1, g3⟩ := hC ; have q0 := blk3 g0 ; have q1 := blk3 g1 ; have q3 := blk3 g3 ; go_wp2_with fail ; refine ⟨?_, Below.refl _ _⟩ ; exact rfl))
    simp only [Act.put, List.setIfInBounds_toArray, List.set_cons_succ, List.set_cons_zero]
    first | (refine x_skip rfl ?_) | (refine x_quiet rfl hSt (fun _ h => h) _ ?_ rfl (by simp) ?_ ?_ ; rotate_left ; · (intro w3 hC K hK ; obtain ⟨hb, g0, g1, g3⟩ := hC ; have q0 := blk3 g0 ; have q1 := blk3 g1 ; have q3 := blk3 g3 ; go_wp2_with fail ; refine (join_any _ _ _ _ _ _ _).mono ?_ ; rintro e w2 ⟨rfl, hb2⟩ ; refine hK _ _ ⟨?_, rfl, hb2⟩ ; exact rfl))
    simp only [Act.put, List.setIfInBounds_toArray, List.set_cons_succ, List.set_cons_zero]
    first | (refine x_skip rfl ?_) | (refine x_quiet rfl hSt (fun _ h => h) _ ?_ rfl (by simp) ?_ ?_ ; rotate_left ; · (intro w3 hC K hK ; obtain ⟨hb, g0, g1, g3⟩ := hC ; have q0 := blk3 g0 ; have q1 := blk3 g1 ; have q3 := blk3 g3 ; go_wp2_with fail ; refine ⟨?_, Below.refl _ _⟩ ; exact rfl))
    simp only [Act.put, List.setIfInBounds_toArray, List.set_cons_succ, List.set_cons_zero]
    first | (refine x_skip rfl ?_) | (refine x_pure rfl _ ?_ rfl (by simp) ?_ ?_ ; rotate_left ; · (intro w3 K hK ; go_wp2_with fail ; exact rfl))
    simp only [Act.put, List.setIfInBounds_toArray, List.set_cons_succ, List.set_cons_zero]
    (refine x_pure rfl _ ?_ rfl (by simp) ?_ ?_ ; rotate_left ; · (intro w3 K hK ; go_wp2_with fail ; exact rfl))
    simp only [Act.put, List.setIfInBounds_toArray, List.set_cons_succ, List.set_cons_zero]
    refine x_nil ?_
    rintro w3 ⟨hb, g0, g1, g3⟩
    clear j1 j2 j3 C1 C2 hSt
    have q0 := blk3 g0
    have q1 := blk3 g1
    have hz := hb.size
    by_cases t1 : n < 0
    · go_wp2_with fail
      go_ret
      exact ⟨rfl, hb⟩
    by_cases t2 : m < 0
    · go_wp2_with fail
      go_ret
      exact ⟨rfl, hb⟩
    by_cases t3 : n > 2305843009213693952
    · go_wp2_with fail
      go_ret
      exact ⟨rfl, hb⟩
    by_cases t4 : m > 2305843009213693952
    · go_wp2_with fail
      go_ret
      exact ⟨rfl, hb⟩
    by_cases t5 : n = 0 ∧ (a == 0 && b == 0) = false
    · obtain ⟨rfl, t6⟩ := t5
      go_wp2_with fail
      go_ret
      exact ⟨rfl, hb⟩
    have hzz : n = 0 → a = 0 ∧ b = 0 := fun h => by
      have : ¬ (a == 0 && b == 0) = false := fun h' => t5 ⟨h, h'⟩
      simpa using this
    have C4 : Hid (∀ w : World, Calls Try.prog 12 #[tv (wrap64 (n + m)) (u64 (a + c)) (u64 (b + d)), tv m c d] w fun e w' => e = .returned (.tuple #[tv n a b, .int .i64 0]) ∧ Below w.heap.size w w') := by
      obtain ⟨e1, e2, e3, e4⟩ := FR.out (by omega) (by omega) (by omega) (by omega) hzz
      have c3 := C3.out
      rw [e1, e2, e3, e4] at c3
      exact c3
    have tt : (n == 0) = false ∨ (n == 0) = true ∧ (a == 0 && b == 0) = true := by
      by_cases h : n = 0
      · right; obtain ⟨rfl, rfl⟩ := hzz h; subst h; exact ⟨rfl, rfl⟩
      · left; rw [beq_eq_false_iff_ne]; exact h
    clear t5 hzz FR C3
    rcases tt with tt | ⟨tt1, tt2⟩
    all_goals
      go_wp2_with fail
      have hSt : Stable (fun w5 : World => (Below w.heap.size w w5) ∧ (w5.heap[w.heap.size]? = some (.cells #[.int .i64 n, .int .u64 a, .int .u64 b] 26 (0, 0))) ∧ (w5.heap[w.heap.size + 1]? = some (.cells #[.int .i64 m, .int .u64 c, .int .u64 d] 26 (0, 0)))) := by repeat (first | exact stable_ext _ | exact stable_blk _ _ | exact stable_true | refine Stable.and ?_ ?_)
      refine wp_region_x [0, 1, 2, 3, 4, 5, 6, 7, 8, 9, 10] [1, 1, 1, 1, 1, 0, 0, 0, 2, 3, 0] (fun w5 => (Below w.heap.size w w5) ∧ (w5.heap[w.heap.size]? = some (.cells #[.int .i64 n, .int .u64 a, .int .u64 b] 26 (0, 0))) ∧ (w5.heap[w.heap.size + 1]? = some (.cells #[.int .i64 m, .int .u64 c, .int .u64 d] 26 (0, 0)))) (by kernel_rfl) (by kernel_rfl) ?_ ?_
      · (refine ⟨?_, ?_, ?_⟩ <;> (repeat (first | (with_reducible assumption) | exact Below.refl _ _ | (with_reducible refine heap_drew ?_) | ((with_reducible refine heap_new ?_) ; simp ; done) | (with_reducible refine heap_old ?_) | (with_reducible refine Below.drew ?_) | refine Below.alloc ?_ (by first | omega | (simp ; done) | (simp ; omega)) _ | refine Below.setCell ?_ (by first | omega | (simp ; done) | (simp ; omega)) _)))
      simp only [List.map_cons, List.map_nil, List.getD_cons_zero, List.getD_cons_succ]
      (refine x_quiet rfl hSt (fun _ h => h) _ ?_ rfl (by simp) ?_ ?_ ; rotate_left ; · (intro w5 hC K hK ; obtain ⟨hb, g0, g1⟩ := hC ; have q0 := blk3 g0 ; have q1 := blk3 g1 ; go_wp2_with fail ; refine ⟨?_, Below.refl _ _⟩ ; exact rfl))
      simp only [Act.put, List.setIfInBounds_toArray, List.set_cons_succ, List.set_cons_zero]
      (refine x_quiet rfl hSt (fun _ h => h) _ ?_ rfl (by simp) ?_ ?_ ; rotate_left ; · (intro w5 hC K hK ; obtain ⟨hb, g0, g1⟩ := hC ; have q0 := blk3 g0 ; have q1 := blk3 g1 ; go_wp2_with fail ; refine ⟨?_, Below.refl _ _⟩ ; exact rfl))
      simp only [Act.put, List.setIfInBounds_toArray, List.set_cons_succ, List.set_cons_zero]
      (refine x_quiet rfl hSt (fun _ h => h) _ ?_ rfl (by simp) ?_ ?_ ; rotate_left ; · (intro w5 hC K hK ; obtain ⟨hb, g0, g1⟩ := hC ; have q0 := blk3 g0 ; have q1 := blk3 g1 ; go_wp2_with fail ; refine (join_any _ _ _ _ _ _ _).mono ?_ ; rintro e w2 ⟨rfl, hb2⟩ ; refine hK _ _ ⟨?_, rfl, hb2⟩ ; exact rfl))
      simp only [Act.put, List.setIfInBounds_toArray, List.set_cons_succ, List.set_cons_zero]
      (refine x_quiet rfl hSt (fun _ h => h) _ ?_ rfl (by simp) ?_ ?_ ; rotate_left ; · (intro w5 hC K hK ; obtain ⟨hb, g0, g1⟩ := hC ; have q0 := blk3 g0 ; have q1 := blk3 g1 ; go_wp2_with fail ; refine ⟨?_, Below.refl _ _⟩ ; exact rfl))
      simp only [Act.put, List.setIfInBounds_toArray, List.set_cons_succ, List.set_cons_zero]
      (refine x_quiet rfl hSt (fun _ h => h) _ ?_ rfl (by simp) ?_ ?_ ; rotate_left ; · (intro w5 hC K hK ; obtain ⟨hb, g0, g1⟩ := hC ; have q0 := blk3 g0 ; have q1 := blk3 g1 ; go_wp2_with fail ; refine (C4.out _).mono ?_ ; rintro e w2 ⟨rfl, hb2⟩ ; refine hK _ _ ⟨?_, rfl, hb2⟩ ; exact rfl))
      simp only [Act.put, List.setIfInBounds_toArray, List.set_cons_succ, List.set_cons_zero]
      (refine x_pure rfl _ ?_ rfl (by simp) ?_ ?_ ; rotate_left ; · (intro w5 K hK ; go_wp2_with fail ; exact rfl))
      simp only [Act.put, List.setIfInBounds_toArray, List.set_cons_succ, List.set_cons_zero]
      (refine x_pure rfl _ ?_ rfl (by simp) ?_ ?_ ; rotate_left ; · (intro w5 K hK ; go_wp2_with fail ; exact rfl))
      simp only [Act.put, List.setIfInBounds_toArray, List.set_cons_succ, List.set_cons_zero]
      (refine x_pure rfl _ ?_ rfl (by simp) ?_ ?_ ; rotate_left ; · (intro w5 K hK ; go_wp2_with fail ; exact rfl))
      simp only [Act.put, List.setIfInBounds_toArray, List.set_cons_succ, List.set_cons_zero]
      (refine x_new rfl hSt ?_ ?_ ?_ ; rotate_left ; (focus (intro w9 ; go_simp ; try exact rfl)) ; rintro gn0 ⟨w5n, hgn0, hgs0⟩)
      simp only [Act.put, List.setIfInBounds_toArray, List.set_cons_succ, List.set_cons_zero]
      refine x_write rfl ?_
      intro w5 hD K hK ; obtain ⟨⟨hb, g0, g1⟩, hn0⟩ := hD ; have q0 := blk3 g0 ; have q1 := blk3 g1 ; have q9 := blk3 hn0 ; have hg9 : w.heap.size ≤ gn0 := (by have := hgn0.1.size; omega) ; have hg8 : w.heap.size < gn0 := (by have := blk_lt hgn0.2.1; omega) ; have hg7 : w.heap.size + 1 < gn0 := (by have := blk_lt hgn0.2.2; omega)
      go_wp2_with fail
      (refine x_pure rfl _ ?_ rfl (by simp) ?_ ?_ ; rotate_left ; · (intro w5 K hK ; go_wp2_with fail ; exact rfl))
      simp only [Act.put, List.setIfInBounds_toArray, List.set_cons_succ, List.set_cons_zero]
      refine x_nil ?_
      rintro w6 hwe
      have f0 : w6.heap[w.heap.size]? = some (.cells #[.int .i64 n, .int .u64 a, .int .u64 b] 26 (0, 0)) := by rw [hwe] ; (repeat (first | (with_reducible assumption) | (with_reducible exact Below.refl _ _) | (with_reducible refine heap_drew ?_) | ((with_reducible refine heap_new ?_) ; simp ; done) | (with_reducible apply heap_set_to) | ((with_reducible refine heap_set_ne ?_ ?_ _) ; rotate_left ; (focus (first | omega | (simp ; done) | (simp ; omega)))) | (with_reducible refine heap_old ?_) | (with_reducible refine Below.drew ?_) | (with_reducible refine below_set ?_ _ _) | ((with_reducible refine Below.setCell ?_ ?_ _) ; rotate_left ; (focus (first | omega | (simp ; done) | (simp ; omega)))) | ((with_reducible refine Below.alloc ?_ ?_ _) ; rotate_left ; (focus (first | omega | (simp ; done) | (simp ; omega)))) | (with_reducible rfl) | (focus (simp ; done))))
      have f9 : w6.heap[gn0]? = some (.cells #[.int .i64 n, .int .u64 a, .int .u64 b] 26 (0, 0)) := by rw [hwe] ; (repeat (first | (with_reducible assumption) | (with_reducible exact Below.refl _ _) | (with_reducible refine heap_drew ?_) | ((with_reducible refine heap_new ?_) ; simp ; done) | (with_reducible apply heap_set_to) | ((with_reducible refine heap_set_ne ?_ ?_ _) ; rotate_left ; (focus (first | omega | (simp ; done) | (simp ; omega)))) | (with_reducible refine heap_old ?_) | (with_reducible refine Below.drew ?_) | (with_reducible refine below_set ?_ _ _) | ((with_reducible refine Below.setCell ?_ ?_ _) ; rotate_left ; (focus (first | omega | (simp ; done) | (simp ; omega)))) | ((with_reducible refine Below.alloc ?_ ?_ _) ; rotate_left ; (focus (first | omega | (simp ; done) | (simp ; omega)))) | (with_reducible rfl) | (focus (simp ; done))))
      have hb6 : Below w.heap.size w w6 := by rw [hwe] ; (repeat (first | (with_reducible assumption) | (with_reducible exact Below.refl _ _) | (with_reducible refine heap_drew ?_) | ((with_reducible refine heap_new ?_) ; simp ; done) | (with_reducible apply heap_set_to) | ((with_reducible refine heap_set_ne ?_ ?_ _) ; rotate_left ; (focus (first | omega | (simp ; done) | (simp ; omega)))) | (with_reducible refine heap_old ?_) | (with_reducible refine Below.drew ?_) | (with_reducible refine below_set ?_ _ _) | ((with_reducible refine Below.setCell ?_ ?_ _) ; rotate_left ; (focus (first | omega | (simp ; done) | (simp ; omega)))) | ((with_reducible refine Below.alloc ?_ ?_ _) ; rotate_left ; (focus (first | omega | (simp ; done) | (simp ; omega)))) | (with_reducible rfl) | (focus (simp ; done))))
      clear hwe
      have q0 := blk3 f0
      have q9 := blk3 f9
      go_wp2_with fail
      go_ret
      exact ⟨rfl, hb6⟩
  · have e50 := EE.out (by simpa using hok)
    subst e50
    clear BK hok EE
    have hSt : Stable (fun w3 : World => (Below w.heap.size w w3) ∧ (w3.heap[w.heap.size]? = some (.cells #[.int .i64 n, .int .u64 a, .int .u64 b] 26 (0, 0))) ∧ (w3.heap[w.heap.size + 1]? = some (.cells #[.int .i64 m, .int .u64 c, .int .u64 d] 26 (0, 0))) ∧ (w3.heap[w1.heap.size]? = some (.cells #[.int .i64 X, .int .u64 Y, .int .u64 Z] 26 (0, 0)))) := by repeat (first | exact stable_ext _ | exact stable_blk _ _ | exact stable_true | refine Stable.and ?_ ?_)
    refine wp_region_x [0, 1, 2, 3, 4, 5, 6, 7, 8] [0, 0, 0, 1, 1, 1, 1, 0, 0] (fun w3 => (Below w.heap.size w w3) ∧ (w3.heap[w.heap.size]? = some (.cells #[.int .i64 n, .int .u64 a, .int .u64 b] 26 (0, 0))) ∧ (w3.heap[w.heap.size + 1]? = some (.cells #[.int .i64 m, .int .u64 c, .int .u64 d] 26 (0, 0))) ∧ (w3.heap[w1.heap.size]? = some (.cells #[.int .i64 X, .int .u64 Y, .int .u64 Z] 26 (0, 0)))) (by kernel_rfl) (by kernel_rfl) ?_ ?_
    · (refine ⟨?_, ?_, ?_, ?_⟩ <;> (repeat (first | (with_reducible assumption) | exact Below.refl _ _ | (with_reducible refine heap_drew ?_) | ((with_reducible refine heap_new ?_) ; simp ; done) | (with_reducible refine heap_old ?_) | (with_reducible refine Below.drew ?_) | refine Below.alloc ?_ (by first | omega | (simp ; done) | (simp ; omega)) _ | refine Below.setCell ?_ (by first | omega | (simp ; done) | (simp ; omega)) _)))
    simp only [List.map_cons, List.map_nil, List.getD_cons_zero, List.getD_cons_succ]
    (refine x_pure rfl _ ?_ rfl (by simp) ?_ ?_ ; rotate_left ; · (intro w3 K hK ; go_wp2_with fail ; exact rfl))
    simp only [Act.put, List.setIfInBounds_toArray, List.set_cons_succ, List.set_cons_zero]
    (refine x_pure rfl _ ?_ rfl (by simp) ?_ ?_ ; rotate_left ; · (intro w3 K hK ; go_wp2_with fail ; exact rfl))
    simp only [Act.put, List.setIfInBounds_toArray, List.set_cons_succ, List.set_cons_zero]
    (refine x_pure rfl _ ?_ rfl (by simp) ?_ ?_ ; rotate_left ; · (intro w3 K hK ; go_wp2_with fail ; exact rfl))
    simp only [Act.put, List.setIfInBounds_toArray, List.set_cons_succ, List.set_cons_zero]
    first | (refine x_skip rfl ?_) | (refine x_quiet rfl hSt (fun _ h => h) _ ?_ rfl (by simp) ?_ ?_ ; rotate_left ; · (intro w3 hC K hK ; obtain ⟨hb, g0, g1, g3⟩ := hC ; have q0 := blk3 g0 ; have q1 := blk3 g1 ; have q3 := blk3 g3 ; go_wp2_with fail ; refine ⟨?_, Below.refl _ _⟩ ; exact rfl))
    simp only [Act.put, List.setIfInBounds_toArray, List.set_cons_succ, List.set_cons_zero]
    first | (refine x_skip rfl ?_) | (refine x_quiet rfl hSt (fun _ h => h) _ ?_ rfl (by simp) ?_ ?_ ; rotate_left ; · (intro w3 hC K hK ; obtain ⟨hb, g0, g1, g3⟩ := hC ; have q0 := blk3 g0 ; have q1 := blk3 g1 ; have q3 := blk3 g3 ; go_wp2_with fail ; refine ⟨?_, Below.refl _ _⟩ ; exact rfl))
    simp only [Act.put, List.setIfInBounds_toArray, List.set_cons_succ, List.set_cons_zero]
    first | (refine x_skip rfl ?_) | (refine x_quiet rfl hSt (fun _ h => h) _ ?_ rfl (by simp) ?_ ?_ ; rotate_left ; · (intro w3 hC K hK ; obtain ⟨hb, g0, g1, g3⟩ := hC ; have q0 := blk3 g0 ; have q1 := blk3 g1 ; have q3 := blk3 g3 ; go_wp2_with fail ; refine (join_any _ _ _ _ _ _ _).mono ?_ ; rintro e w2 ⟨rfl, hb2⟩ ; refine hK _ _ ⟨?_, rfl, hb2⟩ ; exact rfl))
    simp only [Act.put, List.setIfInBounds_toArray, List.set_cons_succ, List.set_cons_zero]
    first | (refine x_skip rfl ?_) | (refine x_quiet rfl hSt (fun _ h => h) _ ?_ rfl (by simp) ?_ ?_ ; rotate_left ; · (intro w3 hC K hK ; obtain ⟨hb, g0, g1, g3⟩ := hC ; have q0 := blk3 g0 ; have q1 := blk3 g1 ; have q3 := blk3 g3 ; go_wp2_with fail ; refine ⟨?_, Below.refl _ _⟩ ; exact rfl))
    simp only [Act.put, List.setIfInBounds_toArray, List.set_cons_succ, List.set_cons_zero]
    first | (refine x_skip rfl ?_) | (refine x_pure rfl _ ?_ rfl (by simp) ?_ ?_ ; rotate_left ; · (intro w3 K hK ; go_wp2_with fail ; exact rfl))
    simp only [Act.put, List.setIfInBounds_toArray, List.set_cons_succ, List.set_cons_zero]
    (refine x_pure rfl _ ?_ rfl (by simp) ?_ ?_ ; rotate_left ; · (intro w3 K hK ; go_wp2_with fail ; exact rfl))
    simp only [Act.put, List.setIfInBounds_toArray, List.set_cons_succ, List.set_cons_zero]
    refine x_nil ?_
    rintro w3 ⟨hb, g0, g1, g3⟩
    clear C1 C2 hSt
    have q0 := blk3 g0
    have q1 := blk3 g1
    have hz := hb.size
    by_cases t1 : n < 0
    · go_wp2_with fail
      go_ret
      exact ⟨rfl, hb⟩
    by_cases t2 : m < 0
    · go_wp2_with fail
      go_ret
      exact ⟨rfl, hb⟩
    by_cases t3 : n > 2305843009213693952
    · go_wp2_with fail
      go_ret
      exact ⟨rfl, hb⟩
    by_cases t4 : m > 2305843009213693952
    · go_wp2_with fail
      go_ret
      exact ⟨rfl, hb⟩
    by_cases t5 : n = 0 ∧ (a == 0 && b == 0) = false
    · obtain ⟨rfl, t6⟩ := t5
      go_wp2_with fail
      go_ret
      exact ⟨rfl, hb⟩
    have hzz : n = 0 → a = 0 ∧ b = 0 := fun h => by
      have : ¬ (a == 0 && b == 0) = false := fun h' => t5 ⟨h, h'⟩
      simpa using this
    have C4 : Hid (∀ w : World, Calls Try.prog 12 #[tv (wrap64 (n + m)) (u64 (a + c)) (u64 (b + d)), tv m c d] w fun e w' => e = .returned (.tuple #[tv n a b, .int .i64 0]) ∧ Below w.heap.size w w') := by
      obtain ⟨e1, e2, e3, e4⟩ := FR.out (by omega) (by omega) (by omega) (by omega) hzz
      have c3 := C3.out
      rw [e1, e2, e3, e4] at c3
      exact c3
    have tt : (n == 0) = false ∨ (n == 0) = true ∧ (a == 0 && b == 0) = true := by
      by_cases h : n = 0
      · right; obtain ⟨rfl, rfl⟩ := hzz h; subst h; exact ⟨rfl, rfl⟩
      · left; rw [beq_eq_false_iff_ne]; exact h
    clear t5 hzz FR C3
    rcases tt with tt | ⟨tt1, tt2⟩
    all_goals
      go_wp2_with fail
      have hSt : Stable (fun w5 : World => (Below w.heap.size w w5) ∧ (w5.heap[w.heap.size]? = some (.cells #[.int .i64 n, .int .u64 a, .int .u64 b] 26 (0, 0))) ∧ (w5.heap[w.heap.size + 1]? = some (.cells #[.int .i64 m, .int .u64 c, .int .u64 d] 26 (0, 0)))) := by repeat (first | exact stable_ext _ | exact stable_blk _ _ | exact stable_true | refine Stable.and ?_ ?_)
      refine wp_region_x [0, 1, 2, 3, 4, 5, 6, 7, 8, 9, 10] [1, 1, 1, 1, 1, 0, 0, 0, 2, 3, 0] (fun w5 => (Below w.heap.size w w5) ∧ (w5.heap[w.heap.size]? = some (.cells #[.int .i64 n, .int .u64 a, .int .u64 b] 26 (0, 0))) ∧ (w5.heap[w.heap.size + 1]? = some (.cells #[.int .i64 m, .int .u64 c, .int .u64 d] 26 (0, 0)))) (by kernel_rfl) (by kernel_rfl) ?_ ?_
      · (refine ⟨?_, ?_, ?_⟩ <;> (repeat (first | (with_reducible assumption) | exact Below.refl _ _ | (with_reducible refine heap_drew ?_) | ((with_reducible refine heap_new ?_) ; simp ; done) | (with_reducible refine heap_old ?_) | (with_reducible refine Below.drew ?_) | refine Below.alloc ?_ (by first | omega | (simp ; done) | (simp ; omega)) _ | refine Below.setCell ?_ (by first | omega | (simp ; done) | (simp ; omega)) _)))
      simp only [List.map_cons, List.map_nil, List.getD_cons_zero, List.getD_cons_succ]
      (refine x_quiet rfl hSt (fun _ h => h) _ ?_ rfl (by simp) ?_ ?_ ; rotate_left ; · (intro w5 hC K hK ; obtain ⟨hb, g0, g1⟩ := hC ; have q0 := blk3 g0 ; have q1 := blk3 g1 ; go_wp2_with fail ; refine ⟨?_, Below.refl _ _⟩ ; exact rfl))
      simp only [Act.put, List.setIfInBounds_toArray, List.set_cons_succ, List.set_cons_zero]
      (refine x_quiet rfl hSt (fun _ h => h) _ ?_ rfl (by simp) ?_ ?_ ; rotate_left ; · (intro w5 hC K hK ; obtain ⟨hb, g0, g1⟩ := hC ; have q0 := blk3 g0 ; have q1 := blk3 g1 ; go_wp2_with fail ; refine ⟨?_, Below.refl _ _⟩ ; exact rfl))
      simp only [Act.put, List.setIfInBounds_toArray, List.set_cons_succ, List.set_cons_zero]
      (refine x_quiet rfl hSt (fun _ h => h) _ ?_ rfl (by simp) ?_ ?_ ; rotate_left ; · (intro w5 hC K hK ; obtain ⟨hb, g0, g1⟩ := hC ; have q0 := blk3 g0 ; have q1 := blk3 g1 ; go_wp2_with fail ; refine (join_any _ _ _ _ _ _ _).mono ?_ ; rintro e w2 ⟨rfl, hb2⟩ ; refine hK _ _ ⟨?_, rfl, hb2⟩ ; exact rfl))
      simp only [Act.put, List.setIfInBounds_toArray, List.set_cons_succ, List.set_cons_zero]
      (refine x_quiet rfl hSt (fun _ h => h) _ ?_ rfl (by simp) ?_ ?_ ; rotate_left ; · (intro w5 hC K hK ; obtain ⟨hb, g0, g1⟩ := hC ; have q0 := blk3 g0 ; have q1 := blk3 g1 ; go_wp2_with fail ; refine ⟨?_, Below.refl _ _⟩ ; exact rfl))
      simp only [Act.put, List.setIfInBounds_toArray, List.set_cons_succ, List.set_cons_zero]
      (refine x_quiet rfl hSt (fun _ h => h) _ ?_ rfl (by simp) ?_ ?_ ; rotate_left ; · (intro w5 hC K hK ; obtain ⟨hb, g0, g1⟩ := hC ; have q0 := blk3 g0 ; have q1 := blk3 g1 ; go_wp2_with fail ; refine (C4.out _).mono ?_ ; rintro e w2 ⟨rfl, hb2⟩ ; refine hK _ _ ⟨?_, rfl, hb2⟩ ; exact rfl))
      simp only [Act.put, List.setIfInBounds_toArray, List.set_cons_succ, List.set_cons_zero]
      (refine x_pure rfl _ ?_ rfl (by simp) ?_ ?_ ; rotate_left ; · (intro w5 K hK ; go_wp2_with fail ; exact rfl))
      simp only [Act.put, List.setIfInBounds_toArray, List.set_cons_succ, List.set_cons_zero]
      (refine x_pure rfl _ ?_ rfl (by simp) ?_ ?_ ; rotate_left ; · (intro w5 K hK ; go_wp2_with fail ; exact rfl))
      simp only [Act.put, List.setIfInBounds_toArray, List.set_cons_succ, List.set_cons_zero]
      (refine x_pure rfl _ ?_ rfl (by simp) ?_ ?_ ; rotate_left ; · (intro w5 K hK ; go_wp2_with fail ; exact rfl))
      simp only [Act.put, List.setIfInBounds_toArray, List.set_cons_succ, List.set_cons_zero]
      (refine x_new rfl hSt ?_ ?_ ?_ ; rotate_left ; (focus (intro w9 ; go_simp ; try exact rfl)) ; rintro gn0 ⟨w5n, hgn0, hgs0⟩)
      simp only [Act.put, List.setIfInBounds_toArray, List.set_cons_succ, List.set_cons_zero]
      refine x_write rfl ?_
      intro w5 hD K hK ; obtain ⟨⟨hb, g0, g1⟩, hn0⟩ := hD ; have q0 := blk3 g0 ; have q1 := blk3 g1 ; have q9 := blk3 hn0 ; have hg9 : w.heap.size ≤ gn0 := (by have := hgn0.1.size; omega) ; have hg8 : w.heap.size < gn0 := (by have := blk_lt hgn0.2.1; omega) ; have hg7 : w.heap.size + 1 < gn0 := (by have := blk_lt hgn0.2.2; omega)
      go_wp2_with fail
      (refine x_pure rfl _ ?_ rfl (by simp) ?_ ?_ ; rotate_left ; · (intro w5 K hK ; go_wp2_with fail ; exact rfl))
      simp only [Act.put, List.setIfInBounds_toArray, List.set_cons_succ, List.set_cons_zero]
      refine x_nil ?_
      rintro w6 hwe
      have f0 : w6.heap[w.heap.size]? = some (.cells #[.int .i64 n, .int .u64 a, .int .u64 b] 26 (0, 0)) := by rw [hwe] ; (repeat (first | (with_reducible assumption) | (with_reducible exact Below.refl _ _) | (with_reducible refine heap_drew ?_) | ((with_reducible refine heap_new ?_) ; simp ; done) | (with_reducible apply heap_set_to) | ((with_reducible refine heap_set_ne ?_ ?_ _) ; rotate_left ; (focus (first | omega | (simp ; done) | (simp ; omega)))) | (with_reducible refine heap_old ?_) | (with_reducible refine Below.drew ?_) | (with_reducible refine below_set ?_ _ _) | ((with_reducible refine Below.setCell ?_ ?_ _) ; rotate_left ; (focus (first | omega | (simp ; done) | (simp ; omega)))) | ((with_reducible refine Below.alloc ?_ ?_ _) ; rotate_left ; (focus (first | omega | (simp ; done) | (simp ; omega)))) | (with_reducible rfl) | (focus (simp ; done))))
      have f9 : w6.heap[gn0]? = some (.cells #[.int .i64 n, .int .u64 a, .int .u64 b] 26 (0, 0)) := by rw [hwe] ; (repeat (first | (with_reducible assumption) | (with_reducible exact Below.refl _ _) | (with_reducible refine heap_drew ?_) | ((with_reducible refine heap_new ?_) ; simp ; done) | (with_reducible apply heap_set_to) | ((with_reducible refine heap_set_ne ?_ ?_ _) ; rotate_left ; (focus (first | omega | (simp ; done) | (simp ; omega)))) | (with_reducible refine heap_old ?_) | (with_reducible refine Below.drew ?_) | (with_reducible refine below_set ?_ _ _) | ((with_reducible refine Below.setCell ?_ ?_ _) ; rotate_left ; (focus (first | omega | (simp ; done) | (simp ; omega)))) | ((with_reducible refine Below.alloc ?_ ?_ _) ; rotate_left ; (focus (first | omega | (simp ; done) | (simp ; omega)))) | (with_reducible rfl) | (focus (simp ; done))))
      have hb6 : Below w.heap.size w w6 := by rw [hwe] ; (repeat (first | (with_reducible assumption) | (with_reducible exact Below.refl _ _) | (with_reducible refine heap_drew ?_) | ((with_reducible refine heap_new ?_) ; simp ; done) | (with_reducible apply heap_set_to) | ((with_reducible refine heap_set_ne ?_ ?_ _) ; rotate_left ; (focus (first | omega | (simp ; done) | (simp ; omega)))) | (with_reducible refine heap_old ?_) | (with_reducible refine Below.drew ?_) | (with_reducible refine below_set ?_ _ _) | ((with_reducible refine Below.setCell ?_ ?_ _) ; rotate_left ; (focus (first | omega | (simp ; done) | (simp ; omega)))) | ((with_reducible refine Below.alloc ?_ ?_ _) ; rotate_left ; (focus (first | omega | (simp ; done) | (simp ; omega)))) | (with_reducible rfl) | (focus (simp ; done))))
      clear hwe
      have q0 := blk3 f0
      have q9 := blk3 f9
      go_wp2_with fail
      go_ret
      exact ⟨rfl, hb6⟩

set_option maxRecDepth 100000 in
theorem tless_lifted (os : Os) (started : os.Started) (H : Type) (enc : TypeId × Value → H) :
    ReturnsInHanded {} Try.checked os 5 .any (Rows.tallyLessSpec.pre6 enc Try.prog Try.f5 Rows.tallyLessRow.domain false) (Rows.tallyLessSpec.post enc Try.prog Try.f5 false true false false) := by
  refine returnsInHanded_of_change (C := Try.checked) own started (by kernel_rfl) Try.func5
    (ChangeSpec.witness6 (enc := enc) (C := Try.checked) false ⟨#[], #[tv 0 0 0, tv 0 0 0], []⟩ 8 (by kernel_rfl) (by kernel_rfl) (by kernel_rfl) (by kernel_rfl)) ?_
  intro W base args ds gs before hval0 hW hcnd _
  have hval : ∀ (j : Nat) t v, Try.f5.params[j]? = some t → args[j]? = some v → Value.okWide Try.prog W .any base t v := hval0
  have hW' := hW
  obtain ⟨p, q, hA0, hV, rfl, hfz, hnd⟩ := hW
  have hA : DataW.TrodAll enc Try.prog W 0 (fun _ => true) true Try.f5.params.toList args.toList ds p := hA0
  rw [Try.params5] at hA hval
  obtain ⟨v0, vs0, d0, ds0, p0, q0, hargs, rfl, rfl, h0, r0⟩ := trodAll_cons hA
  obtain ⟨v1, vs1, d1, ds1, p1, q1, rfl, rfl, rfl, h1, r1⟩ := trodAll_cons r0
  obtain ⟨rfl, rfl, rfl⟩ := trodAll_nil r1
  obtain rfl : args = #[v0, v1] := by apply Array.toList_inj.1; exact hargs
  obtain ⟨n, a, b, rfl, wn, wa, wb⟩ := open_tally (hval 0 _ v0 rfl rfl) h0
  obtain ⟨m, c, d, rfl, wm, wc, wd⟩ := open_tally (hval 1 _ v1 rfl rfl) h1
  refine (tless_walk n a b m c d wn wa wb wm wc wd W).mono fun e W' ⟨he, hg⟩ => ?_
  exact ⟨_, he, law_post laidOut (by kernel_rfl) (by kernel_rfl) Try.underlying4 rfl hW' rfl hg⟩

theorem tless_holds : Rows.TallyLessSaid :=
  OpenClaim.holds_of_wide 5 Try.f5 rfl rfl rfl rfl rfl rfl rfl ⟨rfl, rfl, rfl, rfl, rfl⟩ rfl rfl rfl rfl rfl (by kernel_rfl) Try.func5 (by kernel_rfl)
    (of_decide_eq_true (by kernel_rfl)) (by unfold Func.isWrapper; first | (rw [if_pos (by decide +kernel)]; kernel_rfl) | (rw [if_neg (by decide +kernel)]; exact ⟨rfl, rfl⟩))
    (fun os started H enc _ => tless_lifted os started H enc)
#print axioms tless_holds
end Go.Proofs.Ytjeaobknojmbpaa
