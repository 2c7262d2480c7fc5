/-
  The document's examples of layer 4 hold.
-/
import Derived.Test.YtjeaobknojmbpaaDoorParse
import Derived.Test.YtjeaobknojmbpaaDoorPrint
import Derived.Test.YtjeaobknojmbpaaDoorOf
import Derived.Test.YtjeaobknojmbpaaDoorEq
namespace Go.Proofs.YtjeaobknojmbpaaDoor
open Go.ChangeShapes Go.WideShapes Go.ChangeAt Go.RowKit Go.Deep
set_option linter.unusedVariables false
set_option linter.unusedSimpArgs false

abbrev keyS : ByteArray := ⟨#[97, 98, 99, 100, 101, 102, 103, 104, 105]⟩
abbrev txtS : ByteArray := ⟨#[48, 48, 48, 48, 48, 48, 48, 48, 48, 48, 48, 48, 48, 48, 48, 102, 48, 48, 48, 48, 48, 48, 48, 48, 48, 48, 48, 48, 48, 48, 97, 48]⟩
theorem key_mix : mix0 keyS 5 2 = 14210195330942416807 ∧ mix1 keyS 5 2 = 13079631299086425565 := by decide +kernel
theorem key_print : (printL 14210195330942416807 13079631299086425565) = [99, 53, 51, 52, 99, 49, 53, 100, 53, 57, 98, 99, 98, 55, 97, 55, 98, 53, 56, 52, 50, 102, 53, 101, 49, 102, 50, 48, 57, 100, 100, 100] := by decide +kernel
theorem txt_par : parV txtS.data.toList = .tuple #[sv 15 160, .int .i64 0] := by
  have h : unhexL txtS.data.toList = some [0, 0, 0, 0, 0, 0, 0, 15, 0, 0, 0, 0, 0, 0, 0, 160] := by decide +kernel
  unfold parV
  rw [h]
  rfl

set_option maxHeartbeats 4000000 in
theorem shown_any (w : World) (hL : Lanes w) :
    Calls Tryd.prog 19 #[] w fun e w' => e = .returned (.bool true) ∧ Below w.heap.size w w' := by
  go_enter Tryd.func19, Tryd.ntmps19
  go_wp2_with fail
  refine (of_any keyS 5 2 _ hL (by decide)).mono ?_
  rintro e w1 ⟨rfl, hb⟩
  rw [key_mix.1, key_mix.2]
  have hz := hb.size
  go_wp2_with fail
  refine (parse_any txtS _ (by decide)).mono ?_
  rintro e w2 ⟨rfl, hb2⟩
  rw [txt_par]
  have g1 : w2.heap[w1.heap.size]? = some (.cells #[.int .u64 14210195330942416807, .int .u64 13079631299086425565] 26 (0, 0)) := blk_below (by (repeat (first | (with_reducible assumption) | (with_reducible exact Below.refl _ _) | (with_reducible refine heap_drew ?_) | (focus ((with_reducible refine heap_new ?_) ; simp ; done)) | (with_reducible apply heap_set_to) | (focus ((with_reducible refine heap_set_ne ?_ ?_ _) ; rotate_left ; (focus (first | omega | (simp ; done) | (simp ; omega))))) | (with_reducible refine heap_old ?_) | (with_reducible refine Below.drew ?_) | (with_reducible refine below_set ?_ _ _) | (focus ((with_reducible refine Below.setCell ?_ ?_ _) ; rotate_left ; (focus (first | omega | (simp ; done) | (simp ; omega))))) | (focus ((with_reducible refine Below.alloc ?_ ?_ _) ; rotate_left ; (focus (first | omega | (simp ; done) | (simp ; omega))))) | (with_reducible rfl) | (focus (simp ; done))))) hb2
  have hb' : Below w.heap.size w w2 := below_back (by (repeat (first | (with_reducible assumption) | (with_reducible exact Below.refl _ _) | (with_reducible refine heap_drew ?_) | (focus ((with_reducible refine heap_new ?_) ; simp ; done)) | (with_reducible apply heap_set_to) | (focus ((with_reducible refine heap_set_ne ?_ ?_ _) ; rotate_left ; (focus (first | omega | (simp ; done) | (simp ; omega))))) | (with_reducible refine heap_old ?_) | (with_reducible refine Below.drew ?_) | (with_reducible refine below_set ?_ _ _) | (focus ((with_reducible refine Below.setCell ?_ ?_ _) ; rotate_left ; (focus (first | omega | (simp ; done) | (simp ; omega))))) | (focus ((with_reducible refine Below.alloc ?_ ?_ _) ; rotate_left ; (focus (first | omega | (simp ; done) | (simp ; omega))))) | (with_reducible rfl) | (focus (simp ; done))))) (by first | omega | (simp ; done) | (simp ; omega)) hb2
  clear hb2
  have hlt := blk_lt g1
  have q1 := blk2 g1
  go_wp2_with fail
  refine (print_any _ _ _ (by decide) (by decide)).mono ?_
  rintro e w3 ⟨rfl, hb3⟩
  rw [key_print]
  have g2 : w3.heap[w2.heap.size]? = some (.cells #[.int .u64 15, .int .u64 160] 26 (0, 0)) := blk_below (by (repeat (first | (with_reducible assumption) | (with_reducible exact Below.refl _ _) | (with_reducible refine heap_drew ?_) | (focus ((with_reducible refine heap_new ?_) ; simp ; done)) | (with_reducible apply heap_set_to) | (focus ((with_reducible refine heap_set_ne ?_ ?_ _) ; rotate_left ; (focus (first | omega | (simp ; done) | (simp ; omega))))) | (with_reducible refine heap_old ?_) | (with_reducible refine Below.drew ?_) | (with_reducible refine below_set ?_ _ _) | (focus ((with_reducible refine Below.setCell ?_ ?_ _) ; rotate_left ; (focus (first | omega | (simp ; done) | (simp ; omega))))) | (focus ((with_reducible refine Below.alloc ?_ ?_ _) ; rotate_left ; (focus (first | omega | (simp ; done) | (simp ; omega))))) | (with_reducible rfl) | (focus (simp ; done))))) hb3
  have hz2 := hb'.size
  have hb4 : Below w.heap.size w w3 := below_back (by (repeat (first | (with_reducible assumption) | (with_reducible exact Below.refl _ _) | (with_reducible refine heap_drew ?_) | (focus ((with_reducible refine heap_new ?_) ; simp ; done)) | (with_reducible apply heap_set_to) | (focus ((with_reducible refine heap_set_ne ?_ ?_ _) ; rotate_left ; (focus (first | omega | (simp ; done) | (simp ; omega))))) | (with_reducible refine heap_old ?_) | (with_reducible refine Below.drew ?_) | (with_reducible refine below_set ?_ _ _) | (focus ((with_reducible refine Below.setCell ?_ ?_ _) ; rotate_left ; (focus (first | omega | (simp ; done) | (simp ; omega))))) | (focus ((with_reducible refine Below.alloc ?_ ?_ _) ; rotate_left ; (focus (first | omega | (simp ; done) | (simp ; omega))))) | (with_reducible rfl) | (focus (simp ; done))))) (by first | omega | (simp ; done) | (simp ; omega)) hb3
  clear hb3 q1 g1 hlt hb hb' hz hz2
  have q2 := blk2 g2
  go_wp2_with fail
  refine (sub_any 0 0 1 2 _).mono ?_
  rintro e w5 ⟨rfl, hb5⟩
  have hb6 := below_back hb4 hb4.size hb5
  clear hb5
  go_wp2_with fail
  go_ret
  exact ⟨rfl, hb6⟩
end Go.Proofs.YtjeaobknojmbpaaDoor
