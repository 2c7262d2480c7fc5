/-
  The listed variable: what the row's condition gives a walk; a world that meets it.
-/
import Derived.Test.YtdflmplmpjghdaaDoorStir
import Derived.ProofKit
import Derived.LaidMore
import Derived.OpenShut
import Derived.Stop.Joined
namespace Go.Proofs.YtdflmplmpjghdaaDoor
open Go.ChangeShapes Go.WideShapes Go.ChangeAt Go.WideMaps Go.WideElems Go.RowKit
set_option linter.unusedVariables false
set_option linter.unusedSimpArgs false

theorem gLanes : Tryd.prog.globalNamed "tideline/mix.lanes" = some 0 := by kernel_rfl
theorem tLanes : (Tryd.prog.globals[0]?).map (·.type) = some 95 := by kernel_rfl

/-- The row's list. -/
abbrev laidL : List (String × DataW Unit) := [("tideline/mix.lanes", Rows.laid_tideline_mix_lanes)]

/-- The door's own heap meets the condition. -/
theorem door_met (os : Os) (args : Array Value) : laidMetH Tryd.prog laidL ((World.doorLaid Tryd.prog 400 os).forCall (fun _ _ => 0) ⟨#[], args, []⟩).memory :=
  laidMetH_of_parts3 (fuel := 8) (laidMet_of_run' 8 (by kernel_rfl) (by kernel_rfl)) (by kernel_rfl) (by kernel_rfl)

section
variable {H : Type} {enc : TypeId × Value → H} {w : World} {base : Nat} {spare : Nat → Bool} {held : Bool} {fuel : Nat}

theorem trod_lane {cs : List Value} {x : DataW H × List MemPlace} (h : DataW.trod enc Tryd.prog w base spare held fuel 94 cs = some x) :
    ∃ a b c, cs = [.int .u64 a, .int .u64 b, .int .i64 c] ∧ x.1 = .agg [.lit (.int .u64 a), .lit (.int .u64 b), .lit (.int .i64 c)] := by
  obtain ⟨xs, m, _, hx, hl, hn, hi⟩ := DataW.trod_struct Tryd.underlying94 h
  have hc : Tryd.prog.cellsOf 94 = 3 := by kernel_rfl
  have he : Tryd.prog.cellsOf 40 = 1 := by kernel_rfl
  have hf : Tryd.prog.cellsOf 3 = 1 := by kernel_rfl
  rw [hc] at hl
  match cs, hl with
  | [c0, c1, c2], _ =>
    have hn2 : xs.length = 3 := hn
    have h0 : DataW.trod enc Tryd.prog w base spare held m 40 (([c0, c1, c2].drop 0).take (Tryd.prog.cellsOf 40)) = xs[0]? := hi 0 _ rfl
    have h1 : DataW.trod enc Tryd.prog w base spare held m 40 (([c0, c1, c2].drop 1).take (Tryd.prog.cellsOf 40)) = xs[1]? := hi 1 _ rfl
    have h2 : DataW.trod enc Tryd.prog w base spare held m 3 (([c0, c1, c2].drop 2).take (Tryd.prog.cellsOf 3)) = xs[2]? := hi 2 _ rfl
    rw [he] at h0 h1
    rw [hf] at h2
    match xs, hn2, hx, h0, h1, h2 with
    | [x0, x1, x2], _, hx, h0, h1, h2 =>
      obtain ⟨a, ha, a2, _⟩ := DataW.trod_int Tryd.underlying40 (show _ = some x0 from h0)
      obtain ⟨b, hb, b2, _⟩ := DataW.trod_int Tryd.underlying40 (show _ = some x1 from h1)
      obtain ⟨c, hc, c2, _⟩ := DataW.trod_int Tryd.underlying3 (show _ = some x2 from h2)
      simp at ha hb hc
      refine ⟨a, b, c, by rw [ha, hb, hc], ?_⟩
      rw [hx, a2, b2, c2]; rfl
end

/-- What the condition gives the walks. -/
theorem lanes_of_laid {W : World} (h : laidMetH Tryd.prog laidL W) : Lanes W := by
  rw [MakeChecks.laidMetH_plain _ _ _ (by kernel_rfl)] at h
  obtain ⟨ps, ⟨g0, t0, cs0, f0, p0, q0, hg0, ht0, hv0, hd0, _, _⟩, _, _⟩ := h
  obtain rfl := Option.some.inj (gLanes.symm.trans hg0)
  obtain rfl := Option.some.inj (tLanes.symm.trans ht0)
  obtain ⟨xs, m1, _, hx1, hlen, hn2, hel⟩ := DataW.trod_array Tryd.underlying95 hd0
  have c3 : Tryd.prog.cellsOf 94 = 3 := by kernel_rfl
  have c6 : Tryd.prog.cellsOf 95 = 6 := by kernel_rfl
  rw [c6] at hlen
  have h0 := hel 0 (by decide)
  have h1 := hel 1 (by decide)
  rw [c3] at h0 h1
  obtain ⟨l⟩ := cs0
  match l, hlen with
  | [v0, v1, v2, v3, v4, v5], _ =>
    match xs, hn2, hx1, h0, h1 with
    | [x0, x1], _, hx1, h0, h1 =>
      obtain ⟨a, b, c, e1, e2⟩ := trod_lane (show _ = some x0 from h0)
      obtain ⟨a', b', c', e3, e4⟩ := trod_lane (show _ = some x1 from h1)
      simp at e1 e3
      have hx : Rows.laid_tideline_mix_lanes = DataW.agg [x0.1, x1.1] := congrArg Prod.fst hx1
      rw [e2, e4] at hx
      simp only [Rows.laid_tideline_mix_lanes, DataW.agg.injEq, List.cons.injEq, DataW.lit.injEq, Lit.int.injEq, true_and, and_true] at hx
      obtain ⟨⟨rfl, rfl, rfl⟩, rfl, rfl, rfl⟩ := hx
      obtain ⟨rfl, rfl, rfl⟩ := e1
      obtain ⟨rfl, rfl, rfl⟩ := e3
      have hv := fun j => World.var?_cell hg0 hv0 j
      exact ⟨by simpa using hv 0, by simpa using hv 1, by simpa using hv 2, by simpa using hv 3, by simpa using hv 4, by simpa using hv 5⟩
end Go.Proofs.YtdflmplmpjghdaaDoor
