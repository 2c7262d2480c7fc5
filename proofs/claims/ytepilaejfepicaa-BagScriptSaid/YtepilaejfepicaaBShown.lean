/-
  The bag's Drop, the examples of the document (shown), among; the law BagNew.
-/
import Derived.Test.YtepilaejfepicaaBDrop
namespace Go.Proofs.Ytepilaejfepicaa
open Go.ChangeShapes Go.WideShapes Go.ChangeAt Go.RowKit Go.Deep
set_option linter.unusedVariables false
set_option linter.unusedSimpArgs false

theorem drop_none (B b : Nat) (vs : Value) (room num lost : Int) (L : List Pk) (i : Int) (w : World) (h : BagAt w B b vs room num lost L) (hi : i < 0 ∨ (L.length : Int) ≤ i) :
    Calls Try.prog 13 #[.pointer (some ⟨b, 0, none⟩), .int .i64 i] w fun e w' => e = .returned (.int .i64 161) ∧ Below w.heap.size w w' := by
  have C := take_none B b vs room num lost L i w h hi
  clear h hi
  go_enter Try.func13, Try.ntmps13
  go_wp2_with fail
  refine C.mono ?_
  rintro e w1 ⟨rfl, hb⟩
  clear C
  go_wp2_with fail
  go_ret
  exact ⟨rfl, hb.alloc hb.size _⟩

set_option maxHeartbeats 4000000 in
theorem drop_ok1 (B b : Nat) (vs : Value) (room num lost : Int) (L : List Pk) (i : Nat) (hi : i < L.length) (w : World) (h : BagAt w B b vs room num lost L) (hBw : B ≤ w.heap.size) (hL : L.length ≤ 512) (hok : ∀ p ∈ L, p.Ok) (hl : 0 ≤ lost ∧ lost ≤ 4611686018427387904) :
    Calls Try.prog 13 #[.pointer (some ⟨b, 0, none⟩), .int .i64 i] w fun e w' => ∃ vs', e = .returned (.int .i64 0) ∧
      BagAt w' B b vs' room num (lost + 1) (L.take i ++ L.drop (i + 1)) ∧ Keep (fun k => k = b) w w' ∧ ∀ g, vs'.ownBlock = some g → w.heap.size ≤ g := by
  have C := take_ok1 B b vs room num lost L i hi w h hBw hL hok
  clear hok
  go_enter Try.func13, Try.ntmps13
  go_wp2_with fail
  refine C.mono ?_
  rintro e w1 ⟨vs', ad', cap', rfl, hB1, hK1, _, _, hfr⟩
  clear C
  have q := blk4 hB1.2.1
  have HB1 : Hid (BagAt w1 B b vs' room num lost (L.take i ++ L.drop (i + 1)) ∧ Keep (fun k => k = b) w w1 ∧ ∀ g, vs'.ownBlock = some g → w.heap.size ≤ g) := ⟨hB1, hK1, hfr⟩
  have HBb : Hid (BagAt w B b vs room num lost L) := h
  have hbw : b < w.heap.size := blk_lt h.2.1
  clear hB1 hK1 hfr h
  go_wp2_with fail
  go_ret
  have h2 := HB1.out.1.set (num' := num) (room' := room) (lost' := lost + 1) 2 (.int .i64 (lost + 1)) (by simp)
  refine ⟨vs', rfl, h2.1.below (below_alloc_self _ _), (HB1.out.2.1.trans ?_).trans (Keep.of_below (below_alloc_self _ _)), HB1.out.2.2⟩
  exact Keep.set _ ⟨b, 2, none⟩ _
theorem drop_ok (B b : Nat) (vs : Value) (room num lost : Int) (L : List Pk) (i : Nat) (hi : i < L.length) (w : World) (h : BagAt w B b vs room num lost L) (hBw : B ≤ w.heap.size) (hL : L.length ≤ 512) (hok : ∀ p ∈ L, p.Ok) (hl : 0 ≤ lost ∧ lost ≤ 4611686018427387904) :
    Calls Try.prog 13 #[.pointer (some ⟨b, 0, none⟩), .int .i64 i] w fun e w' => ∃ vs', e = .returned (.int .i64 0) ∧
      BagAt w' B b vs' room num (lost + 1) (L.take i ++ L.drop (i + 1)) ∧ Keep (mine b vs) w w' ∧ ∀ g, vs'.ownBlock = some g → w.heap.size ≤ g :=
  (drop_ok1 B b vs room num lost L i hi w h hBw hL hok hl).mono fun e w' ⟨vs', h1, h2, h3, h4⟩ => ⟨vs', h1, h2, h3.mono (fun k _ e => Or.inl e), h4⟩

theorem among_any (i n : Int) (hi : -9223372036854775808 ≤ i ∧ i ≤ 9223372036854775807) (hn : 1 ≤ n) (hn2 : n ≤ 9223372036854775807) (w : World) :
    Calls Try.prog 9 #[.int .i64 i, .int .i64 n] w fun e w' => e = .returned (.int .i64 (i % n)) ∧ w' = w := by
  have h1 : i.tmod n < n := Int.tmod_lt_of_pos i (by omega)
  have h2 : -n < i.tmod n := Int.lt_tmod_of_pos i (b := n) (by omega)
  have h3 : i % n = if i.tmod n < 0 then i.tmod n + n else i.tmod n := by
    have e := Int.tmod_add_mul_tdiv i n
    have e3 : i % n = i.tmod n % n := by
      conv => lhs; rw [← e]
      rw [Int.add_mul_emod_self_left]
    rw [e3]
    split
    · rw [← Int.add_emod_right]
      exact Int.emod_eq_of_lt (by omega) (by omega)
    · exact Int.emod_eq_of_lt (by omega) (by omega)
  generalize hq : i.tmod n = q at *
  have hn0 : ¬ n = 0 := by omega
  by_cases hq0 : q < 0
  · rw [if_pos hq0] at h3
    have H3 : Hid (i % n = q + n) := h3
    clear h3
    go_enter Try.func9, Try.ntmps9
    go_wp2_with fail
    go_ret
    exact ⟨by rw [H3.out]; rfl, rfl⟩
  · rw [if_neg hq0] at h3
    have H3 : Hid (i % n = q) := h3
    clear h3
    go_enter Try.func9, Try.ntmps9
    go_wp2_with fail
    go_ret
    exact ⟨by rw [H3.out]; rfl, rfl⟩
end Go.Proofs.Ytepilaejfepicaa
