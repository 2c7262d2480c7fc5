/-
  The tree: pieces.
-/
import Derived.Test.YtdflmplmpjghdaaGreatDoorTput
namespace Go.Proofs.YtdflmplmpjghdaaGreatDoor
open Go.ChangeShapes Go.WideShapes Go.ChangeAt Go.RowKit Go.Deep
set_option linter.unusedVariables false
set_option linter.unusedSimpArgs false
set_option maxRecDepth 100000

theorem info_tally : (Tryz.prog.info? 49).map (fun i => (i.zero, i.size, i.bytes)) = some (some (.agg #[.int .i64 0, .int .u64 0, .int .u64 0]), 3, 24) := by kernel_rfl
/-- A tally's cells. -/
def tcells (s : T3) : List Value := [.int .i64 s.1, .int .u64 s.2.1, .int .u64 s.2.2]
def tflat : List T3 → List Value
  | [] => []
  | s :: r => tcells s ++ tflat r
theorem tflat_length : ∀ l : List T3, (tflat l).length = l.length * 3
  | [] => rfl
  | e :: r => by rw [tflat, List.length_append, tflat_length r, List.length_cons]; simp [tcells]; omega
theorem tflat_append : ∀ l m : List T3, tflat (l ++ m) = tflat l ++ tflat m
  | [], m => rfl
  | e :: r, m => by rw [List.cons_append, tflat, tflat, tflat_append r m, List.append_assoc]
theorem tflat_get : ∀ (l : List T3) (k : Nat) (h : k < l.length) (r : Nat), r < 3 → (tflat l)[k * 3 + r]? = (tcells l[k])[r]?
  | s :: l, 0, _, r, hr => by
    rw [tflat, List.getElem?_append_left (by simp [tcells]; omega)]
    simp
  | s :: l, k + 1, h, r, hr => by
    have := tflat_get l k (by simpa using h) r hr
    rw [tflat, List.getElem?_append_right (by simp [tcells]; omega)]
    simp only [List.getElem_cons_succ, tcells, List.length_cons, List.length_nil] at this ⊢
    rw [← this]; congr 1; omega
theorem tcells_one (s : T3) : ∀ u ∈ tcells s, u.oneCell' = true := by
  intro u h
  simp only [tcells, List.mem_cons, List.not_mem_nil, or_false] at h
  rcases h with rfl | rfl | rfl <;> rfl

abbrev tT : TypeId := 49
/-- What a step of 'pieces' leaves: the row has become longer; nothing else has turned. -/
structure PcOf (w w' : World) (B : Nat) (v v' : Value) (n : Nat) (xs : List Value) : Prop where
  own : w'.ownsRow B tT 3 v' n xs
  keep : Keep (fun k => v.ownBlock = some k) w w'
  blk : ∀ g, v'.ownBlock = some g → v.ownBlock = some g ∨ w.heap.size ≤ g
theorem PcOf.trans {w a b : World} {B : Nat} {v v1 v2 : Value} {n1 n2 : Nat} {x1 x2 : List Value} (h : PcOf w a B v v1 n1 x1) (k : PcOf a b B v1 v2 n2 x2) : PcOf w b B v v2 n2 x2 := by
  refine ⟨k.own, ?_, ?_⟩
  · refine ⟨k.keep.os.trans h.keep.os, k.keep.tape.trans h.keep.tape, k.keep.output.trans h.keep.output, Nat.le_trans h.keep.size k.keep.size, fun i hi hn => (k.keep.block i (Nat.lt_of_lt_of_le hi h.keep.size) fun hv => ?_).trans (h.keep.block i hi hn)⟩
    rcases h.blk i hv with h1 | h1
    · exact hn h1
    · omega
  · intro g hg
    rcases k.blk g hg with h1 | h1
    · exact h.blk g h1
    · exact Or.inr (Nat.le_trans h.keep.size h1)
theorem PcOf.below {w a b : World} {B : Nat} {v v1 : Value} {n1 : Nat} {x1 : List Value} (hb : Below w.heap.size w a) (k : PcOf a b B v v1 n1 x1) : PcOf w b B v v1 n1 x1 :=
  ⟨k.own, (Keep.of_below hb).trans k.keep, fun g hg => (k.blk g hg).imp id fun h => Nat.le_trans hb.size h⟩
/-- Trees do not lie in rows of tallies. -/
theorem PcOf.tree {w w' : World} {B : Nat} {v v' : Value} {n m : Nat} {xs ys : List Value} (h : PcOf w w' B v v' n xs) (ho : w.ownsRow B tT 3 v m ys) {t : Tr} {p : Option Nat} (ht : TreeAt w t p) : TreeAt w' t p :=
  ht.keep h.keep fun g cs fr hg => own_ne ho hg (by decide)
theorem PcOf.node {w w' : World} {B : Nat} {v v' : Value} {n m : Nat} {xs ys : List Value} (h : PcOf w w' B v v' n xs) (ho : w.ownsRow B tT 3 v m ys) {g : Nat} {cs : Array Value} {fr : Nat × Nat} (hg : w.heap[g]? = some (.cells cs nodeT fr)) : w'.heap[g]? = some (.cells cs nodeT fr) :=
  h.keep.blk hg (own_ne ho hg (by decide))
/-- The step that append does: behind a literal of one tally. -/
theorem PcOf.app {w w' : World} {B n : Nat} {v v' : Value} {xs : List Value} {s : T3} {ob : Obj} (hBw : B ≤ w.heap.size) (h1 : w'.ownsRow B tT 3 v' (n + 1) (xs ++ tcells s)) (h2 : (w.alloc ob).grownBy w' v.ownBlock)
    (h3 : v'.ownBlock = v.ownBlock ∨ (v'.ownBlock = some (w.heap.size + 1) ∧ (w.alloc ob).grownBy w' none)) : PcOf w w' B v v' (n + 1) (xs ++ tcells s) := by
  refine ⟨h1, (Keep.of_below (below_alloc_self w ob)).trans (Keep.grown h2), ?_⟩
  intro g hg
  rcases h3 with h3 | ⟨h3, _⟩
  · rw [h3] at hg; exact Or.inl hg
  · rw [h3] at hg
    simp only [Option.some.injEq] at hg
    refine Or.inr ?_
    omega
end Go.Proofs.YtdflmplmpjghdaaGreatDoor
