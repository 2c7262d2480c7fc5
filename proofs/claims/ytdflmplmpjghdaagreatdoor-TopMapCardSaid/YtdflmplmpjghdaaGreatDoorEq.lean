/-
  Two tallies, two sums held against each other.
-/
import Derived.Test.YtdflmplmpjghdaaGreatDoorTally
namespace Go.Proofs.YtdflmplmpjghdaaGreatDoor
open Go.ChangeShapes Go.WideShapes Go.ChangeAt Go.RowKit
set_option linter.unusedVariables false
set_option linter.unusedSimpArgs false
set_option maxRecDepth 100000

theorem run_eqIn_sum (d : Nat) (a b x y : Int) (w : World) : (Op.equalIn (d + 1 + 1) 47 (sv a b) (sv x y)).run Tryz.prog w = .ok (a == x && b == y) w := by
  unfold Op.equalIn
  have hs : ∀ w : World, (sizeOf 45).run Tryz.prog w = .ok 1 w := fun _ => by kernel_rfl
  have p0 : ∀ (u v : Value) (w : World), (part 45 #[u, v] 0).run Tryz.prog w = .ok u w := fun _ _ _ => by kernel_rfl
  have p1 : ∀ (u v : Value) (w : World), (part 45 #[u, v] 1).run Tryz.prog w = .ok v w := fun _ _ _ => by kernel_rfl
  have q := fun (x y : Int) (w : World) => run_equalIn_int (P := Tryz.prog) w d 45 .u64 .u64 x y Tryz.underlying45
  simp only [Sem.run_bind, run_underlying Tryz.underlying47, Result.andThen_ok, hs]
  simp only [Std.Legacy.Range.forIn_eq_forIn_range', Std.Legacy.Range.size, Nat.sub_zero, Nat.reduceAdd, Nat.add_one_sub_one, Nat.div_one, List.range'_succ, List.range'_zero, List.forIn_cons, List.forIn_nil, Nat.mul_one]
  simp only [Sem.run_bind, p0, p1, q, Result.andThen_ok]
  cases (a == x)
  · simp [Sem.run_pure, Sem.run_bind]
  · simp only [Bool.not_true, Bool.false_eq_true, if_false, Sem.run_pure, Sem.run_bind, Result.andThen_ok, p1, q]
    cases (b == y) <;> simp [Sem.run_pure]

theorem run_eqIn_tally (d : Nat) (n a b m x y : Int) (w : World) : (Op.equalIn (d + 1 + 1 + 1) 49 (tv n a b) (tv m x y)).run Tryz.prog w = .ok (n == m && (a == x && b == y)) w := by
  have p0 : ∀ (u v z : Value) (w : World), (part 3 #[u, v, z] 0).run Tryz.prog w = .ok u w := fun _ _ _ _ => by kernel_rfl
  have p1 : ∀ (u v z : Value) (w : World), (part 47 #[u, v, z] 1).run Tryz.prog w = .ok (.agg #[v, z]) w := fun _ _ _ _ => by kernel_rfl
  have q := fun (x y : Int) (w : World) => run_equalIn_int (P := Tryz.prog) w (d + 1) 3 .i64 .i64 x y Tryz.underlying3
  rw [run_equalIn_struct w (d + 2) 49 _ _ (by kernel_rfl) (by kernel_rfl)]
  have hf : (Tryz.prog.fieldsOf 49).toList = (match Tryz.prog.underlying 49 with | some (.struct fs) => fs | _ => #[]).toList := rfl
  rw [hf, Tryz.underlying49]
  simp only [Op.eqFields, ne_eq, String.reduceEq, not_false_eq_true, if_true, Sem.run_bind, p0, p1, q, run_eqIn_sum, Result.andThen_ok]
  cases (n == m)
  · simp [Sem.run_pure, Sem.run_bind]
  · simp only [Bool.not_true, Bool.false_eq_true, if_false, Sem.run_pure, Sem.run_bind, Result.andThen_ok, p1, q, run_eqIn_sum]
    cases (a == x && b == y) <;> simp [Sem.run_pure]

theorem run_eql_sum (a b x y : Int) (w : World) : (binOp .eql 47 (sv a b) (sv x y)).run Tryz.prog w = .ok (.bool (a == x && b == y)) w := by
  rw [run_eql_struct]
  rw [run_eqIn_sum 9998]; rfl
theorem run_neq_sum (a b x y : Int) (w : World) : (binOp .neq 47 (sv a b) (sv x y)).run Tryz.prog w = .ok (.bool (!(a == x && b == y))) w := by
  rw [run_neq_struct]
  rw [run_eqIn_sum 9998]; rfl
theorem run_eql_tally (n a b m x y : Int) (w : World) : (binOp .eql 49 (tv n a b) (tv m x y)).run Tryz.prog w = .ok (.bool (n == m && (a == x && b == y))) w := by
  rw [run_eql_struct]
  rw [run_eqIn_tally 9997]; rfl
theorem run_neq_tally (n a b m x y : Int) (w : World) : (binOp .neq 49 (tv n a b) (tv m x y)).run Tryz.prog w = .ok (.bool (!(n == m && (a == x && b == y)))) w := by
  rw [run_neq_struct]
  rw [run_eqIn_tally 9997]; rfl

theorem guard_tally (op : BinOp) (x y : Operand) (xs ys : Array Value) (w : World) : (eqGuard op 49 x y (.agg xs) (.agg ys)).run Tryz.prog w = .ok () w := run_eqGuard_agg w op _ x y xs ys (by kernel_rfl)
theorem guard_sum (op : BinOp) (x y : Operand) (xs ys : Array Value) (w : World) : (eqGuard op 47 x y (.agg xs) (.agg ys)).run Tryz.prog w = .ok () w := run_eqGuard_agg w op _ x y xs ys (by kernel_rfl)
attribute [go_sem] run_eqIn_sum run_eqIn_tally guard_tally guard_sum
end Go.Proofs.YtdflmplmpjghdaaGreatDoor
