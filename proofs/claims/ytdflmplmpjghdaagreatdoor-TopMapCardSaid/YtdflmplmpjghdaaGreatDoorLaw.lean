/-
  The frame of a law's proof: what an argument of each kind is as a value; from the walk to the given row.
-/
import Derived.Test.YtdflmplmpjghdaaGreatDoorEq
namespace Go.Proofs.YtdflmplmpjghdaaGreatDoor
open Go.ChangeShapes Go.WideShapes Go.ChangeAt Go.RowKit
set_option linter.unusedVariables false
set_option linter.unusedSimpArgs false
set_option maxRecDepth 100000

theorem own : ownKnob Tryz.prog.godebug = none := by kernel_rfl
theorem laidOut : laidOutB Tryz.prog = true := by kernel_rfl

/-- A whole number in the range of its kind. -/
def Inr (k : IntKind) (x : Int) : Prop := (Lit.int k x).wf = true
theorem Inr.i64 {x : Int} (h : Inr .i64 x) : -9223372036854775808 ≤ x ∧ x ≤ 9223372036854775807 := by
  simpa [Inr, Lit.wf, IntKind.min, IntKind.max, IntKind.signed, IntKind.bits] using h
theorem Inr.u64 {x : Int} (h : Inr .u64 x) : 0 ≤ x ∧ x ≤ 18446744073709551615 := by
  simpa [Inr, Lit.wf, IntKind.min, IntKind.max, IntKind.signed, IntKind.bits] using h

section
variable {H : Type} {enc : TypeId × Value → H} {w : World} {base : Nat} {spare : Nat → Bool} {held : Bool} {fuel : Nat}

theorem trod_sum {cs : List Value} {x : DataW H × List MemPlace} (h : DataW.trod enc Tryz.prog w base spare held fuel 47 cs = some x) :
    ∃ a b, cs = [.int .u64 a, .int .u64 b] ∧ Inr .u64 a ∧ Inr .u64 b := by
  obtain ⟨xs, m, _, _, hl, hn, hi⟩ := DataW.trod_array Tryz.underlying47 h
  have hc : Tryz.prog.cellsOf 47 = 2 := by kernel_rfl
  have he : Tryz.prog.cellsOf 45 = 1 := by kernel_rfl
  rw [hc] at hl
  match cs, hl with
  | [c0, c1], _ =>
    have h0 := hi 0 (by omega)
    have h1 := hi 1 (by omega)
    rw [he] at h0 h1
    have e0 : xs[0]? = some (xs[0]'(by omega)) := List.getElem?_eq_getElem (by omega)
    have e1 : xs[1]? = some (xs[1]'(by omega)) := List.getElem?_eq_getElem (by omega)
    obtain ⟨a, ha, _, wa⟩ := DataW.trod_int Tryz.underlying45 (h0.trans e0)
    obtain ⟨b, hb, _, wb⟩ := DataW.trod_int Tryz.underlying45 (h1.trans e1)
    simp at ha hb
    exact ⟨a, b, by rw [ha, hb], wa, wb⟩

theorem trod_tally {cs : List Value} {x : DataW H × List MemPlace} (h : DataW.trod enc Tryz.prog w base spare held fuel 49 cs = some x) :
    ∃ n a b, cs = [.int .i64 n, .int .u64 a, .int .u64 b] ∧ Inr .i64 n ∧ Inr .u64 a ∧ Inr .u64 b := by
  obtain ⟨xs, m, _, _, hl, hn, hi⟩ := DataW.trod_struct Tryz.underlying49 h
  have hc : Tryz.prog.cellsOf 49 = 3 := by kernel_rfl
  have he : Tryz.prog.cellsOf 3 = 1 := by kernel_rfl
  have hs : Tryz.prog.cellsOf 47 = 2 := by kernel_rfl
  rw [hc] at hl
  match cs, hl with
  | [c0, c1, c2], _ =>
    have hn2 : xs.length = 2 := hn
    have h0 : DataW.trod enc Tryz.prog w base spare held m 3 (([c0, c1, c2].drop 0).take (Tryz.prog.cellsOf 3)) = xs[0]? := hi 0 _ rfl
    have h1 : DataW.trod enc Tryz.prog w base spare held m 47 (([c0, c1, c2].drop 1).take (Tryz.prog.cellsOf 47)) = xs[1]? := hi 1 _ rfl
    rw [he] at h0
    rw [hs] at h1
    have e0 : xs[0]? = some (xs[0]'(by omega)) := List.getElem?_eq_getElem (by omega)
    have e1 : xs[1]? = some (xs[1]'(by omega)) := List.getElem?_eq_getElem (by omega)
    obtain ⟨n, hn', _, wn⟩ := DataW.trod_int Tryz.underlying3 (h0.trans e0)
    obtain ⟨a, b, hab, wa, wb⟩ := trod_sum (h1.trans e1)
    simp at hn' hab
    exact ⟨n, a, b, by rw [hn', hab.1, hab.2], wn, wa, wb⟩

theorem open_tally {v : Value} {d : DataW H} {p : List MemPlace} (hv : Value.okWide Tryz.prog w .any base 49 v) (h : DataW.Trod enc Tryz.prog w 0 spare held 49 v d p) :
    ∃ n a b, v = tv n a b ∧ Inr .i64 n ∧ Inr .u64 a ∧ Inr .u64 b := by
  obtain ⟨cs, rfl, _⟩ := okWide_struct Tryz.underlying49 hv
  obtain ⟨fuel, hf⟩ := h
  obtain ⟨n, a, b, hc, wn, wa, wb⟩ := trod_tally hf
  refine ⟨n, a, b, ?_, wn, wa, wb⟩
  have : cs = #[.int .i64 n, .int .u64 a, .int .u64 b] := by
    apply Array.toList_inj.1
    exact hc
  rw [this]
end
end Go.Proofs.YtdflmplmpjghdaaGreatDoor
