/-
  The reference's Drop.
-/
import Derived.Test.YtepilaejfepicaaBRtake
namespace Go.Proofs.Ytepilaejfepicaa
open Go.ChangeShapes Go.WideShapes Go.ChangeAt Go.RowKit Go.Deep
set_option linter.unusedVariables false
set_option linter.unusedSimpArgs false

theorem RBagAt.below {w w' : World} {B b : Nat} {vs : Value} {room num lost : Int} {L : List Pk} (h : RBagAt w B b vs room num lost L) (hb : Below w.heap.size w w') : RBagAt w' B b vs room num lost L :=
  ⟨h.1, blk_below h.2.1 hb, own_below h.2.2.1 hb, fun p hp => (h.2.2.2 p hp).keep (p := fun _ => False) (Keep.of_below hb) (fun _ _ _ _ h => h)⟩
theorem RBagAt.set {w : World} {B b : Nat} {vs : Value} {room num lost room' num' lost' : Int} {L : List Pk} (h : RBagAt w B b vs room num lost L) (o : Nat) (v : Value)
    (hc : (#[.int .i64 room', .int .i64 num', .int .i64 lost', vs] : Array Value) = (#[.int .i64 room, .int .i64 num, .int .i64 lost, vs] : Array Value).setIfInBounds o v) : RBagAt (w.setCell ⟨b, o, none⟩ v) B b vs room' num' lost' L ∧ Keep (mine b vs) w (w.setCell ⟨b, o, none⟩ v) := by
  have K2 := Keep.set w ⟨b, o, none⟩ v
  exact ⟨⟨h.1, heap_set_to h.2.1 hc, own_keep h.2.2.1 K2 (fun g hg e => own_ne h.2.2.1 h.2.1 (by decide) (by rw [hg, e])), fun p hp => (h.2.2.2 p hp).keep K2 (fun g cs fr hg e => by
    subst e
    rw [h.2.1] at hg
    simp at hg)⟩, K2.mono fun k _ e => Or.inl e⟩
theorem rdrop_none (B b : Nat) (vs : Value) (room num lost : Int) (L : List Pk) (i : Int) (w : World) (h : RBagAt w B b vs room num lost L) (hi : i < 0 ∨ (L.length : Int) ≤ i) :
    Calls Try.prog 20 #[.pointer (some ⟨b, 0, none⟩), .int .i64 i] w fun e w' => e = .returned (.int .i64 161) ∧ Below w.heap.size w w' := by
  have C := rtake_none B b vs room num lost L i w h hi
  clear h hi
  go_enter Try.func20, Try.ntmps20
  go_wp2_with fail
  refine C.mono ?_
  rintro e w1 ⟨rfl, hb⟩
  clear C
  go_wp2_with fail
  go_ret
  exact ⟨rfl, hb.alloc hb.size _⟩

set_option maxHeartbeats 4000000 in
theorem rdrop_ok (B b : Nat) (vs : Value) (room num lost : Int) (L : List Pk) (i : Nat) (hi : i < L.length) (w : World) (h : RBagAt w B b vs room num lost L) (hBw : B ≤ w.heap.size) (hL : L.length ≤ 512) (hl : 0 ≤ lost ∧ lost ≤ 4611686018427387904) :
    Calls Try.prog 20 #[.pointer (some ⟨b, 0, none⟩), .int .i64 i] w fun e w' => ∃ vs', e = .returned (.int .i64 0) ∧
      RBagAt w' B b vs' room num (lost + 1) (L.take i ++ L.drop (i + 1)) ∧ Keep (fun k => k = b) w w' ∧ ∀ g, vs'.ownBlock = some g → w.heap.size ≤ g := by
  have C := rtake_ok B b vs room num lost L i hi w h hBw hL
  go_enter Try.func20, Try.ntmps20
  go_wp2_with fail
  refine C.mono ?_
  rintro e w1 ⟨vs', rfl, hB1, hK1, hfr⟩
  clear C
  have q := blk4 hB1.2.1
  have HB1 : Hid (RBagAt w1 B b vs' room num lost (L.take i ++ L.drop (i + 1)) ∧ Keep (fun k => k = b) w w1 ∧ ∀ g, vs'.ownBlock = some g → w.heap.size ≤ g) := ⟨hB1, hK1, hfr⟩
  have HBb : Hid (RBagAt w B b vs room num lost L) := h
  have hbw : b < w.heap.size := blk_lt h.2.1
  clear hB1 hK1 hfr h
  go_wp2_with fail
  go_ret
  have h2 := HB1.out.1.set (num' := num) (room' := room) (lost' := lost + 1) 2 (.int .i64 (lost + 1)) (by simp)
  refine ⟨vs', rfl, h2.1.below (below_alloc_self _ _), (HB1.out.2.1.trans ?_).trans (Keep.of_below (below_alloc_self _ _)), HB1.out.2.2⟩
  exact Keep.set _ ⟨b, 2, none⟩ _

end Go.Proofs.Ytepilaejfepicaa
