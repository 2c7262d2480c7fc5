/-
  The tree: what a tree is in memory; many, high, over.
-/
import Derived.Test.YtdflmplmpjghdaaGreatDoorTMeter
import Derived.Test.YtdflmplmpjghdaaGreatDoorTOf
import Derived.Lib.Hide
namespace Go.Proofs.YtdflmplmpjghdaaGreatDoor
open Go.ChangeShapes Go.WideShapes Go.ChangeAt Go.RowKit Go.Deep
set_option linter.unusedVariables false
set_option linter.unusedSimpArgs false
set_option maxRecDepth 100000

/-- An entry: its key, counter, node, value, and whether it is dead. -/
abbrev Ent := ByteArray × Int × Int × ByteArray × Bool
/-- A tree: a row has a key, an entry and what it comes to. -/
inductive Tr where
  | nil
  | node (l : Tr) (k : ByteArray) (e : Ent) (s : T3) (r : Tr)
namespace Tr
def size : Tr → Nat
  | nil => 0
  | node l _ _ _ r => l.size + 1 + r.size
def high : Tr → Nat
  | nil => 0
  | node l _ _ _ r => 1 + max l.high r.high
def sum : Tr → T3
  | nil => (0, 0, 0)
  | node l _ _ s r =>
    let a := match l with | nil => s | _ => tadd l.sum s
    match r with | nil => a | _ => tadd a r.sum
end Tr
/-- A node's address. -/
def pa (p : Option Nat) : Option Addr := p.map fun g => ⟨g, 0, none⟩
theorem pa_none : pa none = none := rfl
theorem pa_some (g : Nat) : pa (some g) = some ⟨g, 0, none⟩ := rfl
abbrev ncells (k : ByteArray) (e : Ent) (s t : T3) (pl pr : Value) (m h : Nat) : Array Value :=
  #[.string k, .string e.1, .int .i64 e.2.1, .int .i64 e.2.2.1, .string e.2.2.2.1, .bool e.2.2.2.2, .int .i64 s.1, .int .u64 s.2.1, .int .u64 s.2.2, .int .i64 t.1, .int .u64 t.2.1, .int .u64 t.2.2, pl, pr, .int .i64 (m : Int), .int .i64 (h : Int)]
abbrev nodeT : TypeId := 279
/-- The tree stands there. -/
def TreeAt (w : World) : Tr → Option Nat → Prop
  | .nil, p => p = none
  | .node l k e s r, p => ∃ g pl pr, p = some g ∧ w.heap[g]? = some (.cells (ncells k e s (Tr.node l k e s r).sum (.pointer (pa pl)) (.pointer (pa pr)) (Tr.node l k e s r).size (Tr.node l k e s r).high) nodeT (0, 0)) ∧ TreeAt w l pl ∧ TreeAt w r pr
theorem TreeAt.keep {p : Nat → Prop} {w w' : World} (hk : Keep p w w') (hp : ∀ g cs fr, w.heap[g]? = some (.cells cs nodeT fr) → ¬ p g) : ∀ {t : Tr} {q : Option Nat}, TreeAt w t q → TreeAt w' t q
  | .nil, _, h => h
  | .node l k e s r, q, h => by
    obtain ⟨g, pl, pr, rfl, h1, h2, h3⟩ := h
    exact ⟨g, pl, pr, rfl, hk.blk h1 (hp _ _ _ h1), h2.keep hk hp, h3.keep hk hp⟩
theorem TreeAt.below {w w' : World} (hb : Below w.heap.size w w') {t : Tr} {q : Option Nat} (h : TreeAt w t q) : TreeAt w' t q := h.keep (p := fun _ => False) (Keep.of_below hb) (fun _ _ _ _ h => h)

theorem many_any (t : Tr) (p : Option Nat) (w : World) (h : TreeAt w t p) : Calls Tryz.prog 124 #[.pointer (pa p)] w fun e w' => e = .returned (.int .i64 (t.size : Int)) ∧ w' = w := by
  cases t with
  | nil =>
    obtain rfl : p = none := h
    rw [pa_none]
    go_enter Tryz.func124, Tryz.ntmps124
    go_wp2_with fail
    go_ret
    exact ⟨rfl, rfl⟩
  | node l k e s r =>
    obtain ⟨g, pl, pr, rfl, h1, _, _⟩ := h
    rw [pa_some]
    have q := blk_cell h1 14
    have q2 := blk_lt h1
    go_enter Tryz.func124, Tryz.ntmps124
    go_wp2_with fail
    go_ret
    exact ⟨rfl, rfl⟩
theorem high_any (t : Tr) (p : Option Nat) (w : World) (h : TreeAt w t p) : Calls Tryz.prog 223 #[.pointer (pa p)] w fun e w' => e = .returned (.int .i64 (t.high : Int)) ∧ w' = w := by
  cases t with
  | nil =>
    obtain rfl : p = none := h
    rw [pa_none]
    go_enter Tryz.func223, Tryz.ntmps223
    go_wp2_with fail
    go_ret
    exact ⟨rfl, rfl⟩
  | node l k e s r =>
    obtain ⟨g, pl, pr, rfl, h1, _, _⟩ := h
    rw [pa_some]
    have q := blk_cell h1 15
    have q2 := blk_lt h1
    go_enter Tryz.func223, Tryz.ntmps223
    go_wp2_with fail
    go_ret
    exact ⟨rfl, rfl⟩
theorem manyb (t : Tr) (p : Option Nat) (w : World) (h : TreeAt w t p) : Calls Tryz.prog 124 #[.pointer (pa p)] w fun e w' => e = .returned (.int .i64 (t.size : Int)) ∧ Below w.heap.size w w' :=
  (many_any t p w h).mono (by rintro e w' ⟨rfl, rfl⟩; exact ⟨rfl, Below.refl _ _⟩)
theorem highb (t : Tr) (p : Option Nat) (w : World) (h : TreeAt w t p) : Calls Tryz.prog 223 #[.pointer (pa p)] w fun e w' => e = .returned (.int .i64 (t.high : Int)) ∧ Below w.heap.size w w' :=
  (high_any t p w h).mono (by rintro e w' ⟨rfl, rfl⟩; exact ⟨rfl, Below.refl _ _⟩)
end Go.Proofs.YtdflmplmpjghdaaGreatDoor
