/-
  More small facts: a cell written in two worlds alike; the elements of a slice.
-/
import Derived.Test.YtjeaobknojmbpaaLaw
import Derived.Deep.Slices
namespace Go.Proofs.Ytjeaobknojmbpaa
open Go.ChangeShapes Go.WideShapes Go.ChangeAt Go.RowKit Go.Deep
set_option linter.unusedVariables false
set_option linter.unusedSimpArgs false

/-- The same cell written in both. -/
theorem below_set {B : Nat} {a w : World} (h : Below B a w) (p : Addr) (v : Value) : Below B (a.setCell p v) (w.setCell p v) :=
  ⟨h.os, h.tape, h.output, by simpa [World.setCell] using h.size, fun k hk => by
    have := h.block k hk
    simp only [World.setCell, Array.getElem?_modify, this]⟩

abbrev T3 := Int × Int × Int

section
variable {H : Type} {enc : TypeId × Value → H} {w : World} {base : Nat} {held : Bool}

theorem cell_lt {b o : Nat} {v : Value} (h : w.cell? ⟨b, o, none⟩ = some v) : b < w.heap.size := by
  unfold World.cell? at h
  by_cases hb : b < w.heap.size
  · exact hb
  · simp [hb] at h

theorem add_none (b o n : Nat) : (⟨b, o, none⟩ : Addr).add n = ⟨b, o + n, none⟩ := by
  unfold Addr.add
  split <;> simp_all

/-- A slice of tallies: its cells. -/
theorem open_tallies {v : Value} {d : DataW H} {p : List MemPlace} (hv : Value.okWide Try.prog w .any base 29 v) (h : DataW.Trod enc Try.prog w 0 (fun _ => true) held 29 v d p) :
    ∃ (oa : Option Addr) (len cap : Nat) (el : Nat → T3), v = .slice oa len cap ∧ ∀ k, k < len → ∃ b o, oa = some ⟨b, o, none⟩ ∧ b < w.heap.size ∧
      w.cell? ⟨b, o + k * 3, none⟩ = some (.int .i64 (el k).1) ∧ w.cell? ⟨b, o + k * 3 + 1, none⟩ = some (.int .u64 (el k).2.1) ∧ w.cell? ⟨b, o + k * 3 + 2, none⟩ = some (.int .u64 (el k).2.2) := by
  obtain ⟨oa, len, cap, rfl⟩ := okWide_slice Try.underlying29 hv
  obtain ⟨fuel, hf⟩ := h
  rcases open_slice Try.underlying29 hf with ⟨hc, _⟩ | ⟨a, len', cap', m, n, D, Pl, hc, hb, hl, hm, hmm, _, hx⟩
  · have hc' : Value.slice oa len cap = .slice none 0 0 := List.head_eq_of_cons_eq hc
    simp only [Value.slice.injEq] at hc'
    obtain ⟨rfl, rfl, rfl⟩ := hc'
    exact ⟨none, 0, 0, fun _ => (0, 0, 0), rfl, fun k hk => absurd hk (by omega)⟩
  · have hc' : Value.slice oa len cap = .slice (some a) len' cap' := List.head_eq_of_cons_eq hc
    simp only [Value.slice.injEq] at hc'
    obtain ⟨rfl, rfl, rfl⟩ := hc'
    simp only [if_true] at hmm
    subst hmm
    have he : Try.prog.cellsOf 26 = 3 := by kernel_rfl
    rw [he] at hx
    have key : ∀ i, i < len → ∃ q : T3, ∃ b o, (some a : Option Addr) = some ⟨b, o, none⟩ ∧ b < w.heap.size ∧
        w.cell? ⟨b, o + i * 3, none⟩ = some (.int .i64 q.1) ∧ w.cell? ⟨b, o + i * 3 + 1, none⟩ = some (.int .u64 q.2.1) ∧ w.cell? ⟨b, o + i * 3 + 2, none⟩ = some (.int .u64 q.2.2) := fun i hi => by
      obtain ⟨cs', h1, h2⟩ := hx i (by omega)
      obtain ⟨_, hlen, hcell⟩ := World.cells?_some h1
      obtain ⟨x, y, z, rfl, _⟩ := trod_tally h2
      have e0 := hcell 0 (by omega)
      have e1 := hcell 1 (by omega)
      have e2 := hcell 2 (by omega)
      have hs : a.spot = none := by
        obtain ⟨cs0, g1, g2⟩ := hx 0 (by omega)
        obtain ⟨_, _, gcell⟩ := World.cells?_some g1
        obtain ⟨x', y', z', rfl, _⟩ := trod_tally g2
        have := World.cell?_spot (gcell 0 (by omega))
        simpa [Addr.add] using this
      obtain ⟨b, o, spot⟩ := a
      simp only at hs
      subst hs
      simp only [add_none, Nat.add_zero, List.getElem?_cons_zero, List.getElem?_cons_succ] at e0 e1 e2
      exact ⟨(x, y, z), b, o, rfl, cell_lt e0, e0, e1, e2⟩
    obtain ⟨el, hel⟩ := choose_lt key
    exact ⟨some a, len, m, el, rfl, hel⟩

/-- A slice of signs. -/
theorem open_signs {v : Value} {d : DataW H} {p : List MemPlace} (hv : Value.okWide Try.prog w .any base 30 v) (h : DataW.Trod enc Try.prog w 0 (fun _ => true) held 30 v d p) :
    ∃ (oa : Option Addr) (len cap : Nat) (el : Nat → Bool), v = .slice oa len cap ∧ ∀ k, k < len → ∃ b o, oa = some ⟨b, o, none⟩ ∧ b < w.heap.size ∧ w.cell? ⟨b, o + k, none⟩ = some (.bool (el k)) := by
  obtain ⟨oa, len, cap, rfl⟩ := okWide_slice Try.underlying30 hv
  obtain ⟨fuel, hf⟩ := h
  rcases open_slice1 Try.underlying30 (by kernel_rfl) hf with ⟨hc, _⟩ | ⟨a, len', cap', m, n, V, D, Pl, hc, hb, hl, hm, hmm, _, hx⟩
  · have hc' : Value.slice oa len cap = .slice none 0 0 := List.head_eq_of_cons_eq hc
    simp only [Value.slice.injEq] at hc'
    obtain ⟨rfl, rfl, rfl⟩ := hc'
    exact ⟨none, 0, 0, fun _ => false, rfl, fun k hk => absurd hk (by omega)⟩
  · have hc' : Value.slice oa len cap = .slice (some a) len' cap' := List.head_eq_of_cons_eq hc
    simp only [Value.slice.injEq] at hc'
    obtain ⟨rfl, rfl, rfl⟩ := hc'
    simp only [if_true] at hmm
    subst hmm
    have key : ∀ i, i < len → ∃ q : Bool, ∃ b o, (some a : Option Addr) = some ⟨b, o, none⟩ ∧ b < w.heap.size ∧ w.cell? ⟨b, o + i, none⟩ = some (.bool q) := fun i hi => by
      obtain ⟨e0, h2⟩ := hx i (by omega)
      obtain ⟨q, h3, _⟩ := DataW.trod_bool Try.underlying4 h2
      have hs : a.spot = none := by
        have := World.cell?_spot (hx 0 (by omega)).1
        simpa [Addr.add] using this
      obtain ⟨b, o, spot⟩ := a
      simp only at hs
      subst hs
      have h4 : V i = .bool q := by simpa using h3
      rw [h4, add_none] at e0
      exact ⟨q, b, o, rfl, cell_lt e0, e0⟩
    obtain ⟨el, hel⟩ := choose_lt key
    exact ⟨some a, len, m, el, rfl, hel⟩
end
end Go.Proofs.Ytjeaobknojmbpaa
