/-
  What a step leaves as it was: nothing that was there has turned, but for some blocks.
-/
import Derived.Test.YtdflmplmpjghdaaGreatDoorBase
namespace Go.Proofs.YtdflmplmpjghdaaGreatDoor
open Go Go.RowKit
set_option linter.unusedVariables false
set_option linter.unusedSimpArgs false
set_option maxRecDepth 100000

/-- Nothing that was there has turned, but for the blocks of which p tells. -/
structure Keep (p : Nat → Prop) (w w' : World) : Prop where
  os : w'.os = w.os
  tape : w'.tape = w.tape
  output : w'.output = w.output
  size : w.heap.size ≤ w'.heap.size
  block : ∀ k, k < w.heap.size → ¬ p k → w'.heap[k]? = w.heap[k]?
theorem Keep.refl (p : Nat → Prop) (w : World) : Keep p w w := ⟨rfl, rfl, rfl, Nat.le_refl _, fun _ _ _ => rfl⟩
theorem Keep.trans {p : Nat → Prop} {a b c : World} (h : Keep p a b) (k : Keep p b c) : Keep p a c :=
  ⟨k.os.trans h.os, k.tape.trans h.tape, k.output.trans h.output, Nat.le_trans h.size k.size, fun i hi hn => (k.block i (Nat.lt_of_lt_of_le hi h.size) hn).trans (h.block i hi hn)⟩
theorem Keep.mono {p q : Nat → Prop} {w w' : World} (h : Keep p w w') (hp : ∀ k, k < w.heap.size → p k → q k) : Keep q w w' := ⟨h.os, h.tape, h.output, h.size, fun k hk hn => h.block k hk fun hpk => hn (hp k hk hpk)⟩
theorem Keep.of_below {p : Nat → Prop} {w w' : World} (h : Below w.heap.size w w') : Keep p w w' := ⟨h.os, h.tape, h.output, h.size, fun k hk _ => h.block k hk⟩
theorem Keep.from_below {B : Nat} {w w' : World} (h : Below B w w') : Keep (fun k => B ≤ k) w w' := ⟨h.os, h.tape, h.output, h.size, fun k _ hn => h.block k (by omega)⟩
theorem Keep.below {p : Nat → Prop} {B : Nat} {w w' : World} (h : Keep p w w') (hB : B ≤ w.heap.size) (hp : ∀ k, p k → B ≤ k) : Below B w w' := ⟨h.os, h.tape, h.output, h.size, fun k hk => h.block k (Nat.lt_of_lt_of_le hk hB) fun hpk => by have := hp k hpk; omega⟩
theorem Keep.grown {w w' : World} {row : Option Nat} (hg : w.grownBy w' row) : Keep (fun k => row = some k) w w' := ⟨hg.os, hg.tape, hg.output, hg.size, fun k hk hn => hg.block k hk fun e => hn e.symm⟩
theorem Keep.set (w : World) (p : Addr) (v : Value) : Keep (fun k => k = p.block) w (w.setCell p v) := ⟨rfl, rfl, rfl, by simp [World.setCell], fun k _ hn => Below.heap_setCell w p v k hn⟩
theorem Keep.blk {p : Nat → Prop} {w w' : World} (h : Keep p w w') {g : Nat} {o : Obj} (hg : w.heap[g]? = some o) (hn : ¬ p g) : w'.heap[g]? = some o := (h.block g (blk_lt hg) hn).trans hg
theorem Keep.cell {p : Nat → Prop} {w w' : World} (h : Keep p w w') {a : Addr} (hl : a.block < w.heap.size) (hn : ¬ p a.block) : w'.cell? a = w.cell? a := World.cell?_of_block (h.block a.block hl hn)
theorem Keep.drew (p : Nat → Prop) (w : World) : Keep p w w.drew := ⟨rfl, rfl, rfl, Nat.le_refl _, fun _ _ _ => rfl⟩
end Go.Proofs.YtdflmplmpjghdaaGreatDoor
