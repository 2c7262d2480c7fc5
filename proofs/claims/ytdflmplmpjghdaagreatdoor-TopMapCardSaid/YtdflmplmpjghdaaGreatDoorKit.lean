/-
  More small facts: a cell written in two worlds alike; a cell's block; the cell of a slice.
-/
import Derived.Test.YtdflmplmpjghdaaGreatDoorLaw
import Derived.Deep.Slices
namespace Go.Proofs.YtdflmplmpjghdaaGreatDoor
open Go.ChangeShapes Go.WideShapes Go.ChangeAt Go.RowKit Go.Deep
set_option linter.unusedVariables false
set_option linter.unusedSimpArgs false
set_option maxRecDepth 100000

/-- The same cell written in both. -/
theorem below_set {B : Nat} {a w : World} (h : Below B a w) (p : Addr) (v : Value) : Below B (a.setCell p v) (w.setCell p v) :=
  ⟨h.os, h.tape, h.output, by simpa [World.setCell] using h.size, fun k hk => by
    have := h.block k hk
    simp only [World.setCell, Array.getElem?_modify, this]⟩

theorem stable_bel {B : Nat} {w0 : World} (h : B ≤ w0.heap.size) : Stable (fun w => Below B w0 w) := fun _ _ hd hb => hd.trans (hb.mono (Nat.le_trans h hd.size))

theorem cell_lt {w : World} {b o : Nat} {v : Value} (h : w.cell? ⟨b, o, none⟩ = some v) : b < w.heap.size := by
  unfold World.cell? at h
  by_cases hb : b < w.heap.size
  · exact hb
  · simp [hb] at h

theorem add_none (b o n : Nat) : (⟨b, o, none⟩ : Addr).add n = ⟨b, o + n, none⟩ := by
  unfold Addr.add
  split <;> simp_all
end Go.Proofs.YtdflmplmpjghdaaGreatDoor
