/-
  The tree: walk, over a yield of which the caller says what it keeps.
-/
import Derived.Test.YtdflmplmpjghdaaGreatDoorTops
import Derived.Test.YtdflmplmpjghdaaGreatDoorRh
import Derived.Laws.EntriesVeiled
import Derived.Shelf.Abstract
import Derived.Shelf.RegionOpen
namespace Go.Proofs.YtdflmplmpjghdaaGreatDoor
open Go.ChangeShapes Go.WideShapes Go.ChangeAt Go.RowKit Go.Deep Go.Shelf
set_option linter.unusedVariables false
set_option linter.unusedSimpArgs false
set_option maxRecDepth 100000
attribute [local go_sem] Oper.semAt_some

/-- The rows from i on, below j. -/
def cutR (i j : Int) (l : List Row) : List Row := (l.take j.toNat).drop i.toNat
theorem cutR_ge {i j : Int} (h : i ≥ j) (l : List Row) : cutR i j l = [] := by
  unfold cutR
  rw [List.drop_eq_nil_iff, List.length_take]; omega
theorem cutR_append {i j : Int} (h0 : 0 ≤ i) (a : List Row) (s : Row) (b : List Row) :
    cutR i j (a ++ s :: b) = cutR i (min j a.length) a ++ (if i ≤ a.length ∧ (a.length : Int) < j then [s] else []) ++ cutR (max (i - a.length - 1) 0) (j - a.length - 1) b := by
  unfold cutR
  by_cases h1 : j ≤ a.length
  · have e1 : (if i ≤ a.length ∧ (a.length : Int) < j then [s] else []) = [] := if_neg (by omega)
    have e2 : (j - a.length - 1).toNat = 0 := by omega
    rw [e1, e2, List.take_zero, List.drop_nil, List.append_nil, List.append_nil, List.take_append_of_le_length (by omega)]
    rw [show (min j (a.length : Int)).toNat = j.toNat by omega]
  · have e3 : j.toNat = a.length + ((j - a.length - 1).toNat + 1) := by omega
    have e4 : (min j (a.length : Int)).toNat = a.length := by omega
    rw [e3, List.take_length_add_append, e4, List.take_length, List.take_succ_cons]
    by_cases h2 : i ≤ a.length
    · rw [if_pos ⟨h2, by omega⟩, List.drop_append_of_le_length (by omega)]
      rw [show (max (i - a.length - 1) 0).toNat = 0 by omega, List.drop_zero]
      simp
    · rw [if_neg (by omega), show i.toNat = a.length + ((max (i - a.length - 1) 0).toNat + 1) by omega, List.drop_length_add_append, List.drop_succ_cons]
      rw [show a.drop (a.length + ((max (i - a.length - 1) 0).toNat + 1)) = [] by rw [List.drop_eq_nil_iff]; omega]
      simp
/-- What the yield of a walk promises. -/
structure Yl (P : Program) (l : Nat) (RR : List Row) (B : Nat) (p : Nat → Prop) (T : TypeId → Prop) (J Jx : Nat → World → Prop) : Prop where
  node : T nodeT
  oj : OwnFrom B J
  ox : OwnFrom B Jx
  yl : ∀ k args W1, (h : k < RR.length) → J k W1 → args = #[.string RR[k].1, evE RR[k].2.1] → YieldN P l args W1 fun b W' => KeepsFrom B W1 W' ∧ if b = true then J (k + 1) W' ∧ KeepT p T W1 W' else Jx (k + 1) W'
def WkEnd (RR : List Row) (B : Nat) (p : Nat → Prop) (T : TypeId → Prop) (J Jx : Nat → World → Prop) (W : World) (k : Nat) (b : Bool) (W' : World) : Prop :=
  KeepsFrom B W W' ∧ if b = true then J k W' ∧ KeepT p T W W' else ∃ k, k ≤ RR.length ∧ Jx k W'
def WkOf (RR : List Row) (B : Nat) (p : Nat → Prop) (T : TypeId → Prop) (J Jx : Nat → World → Prop) (W : World) (k : Nat) (e : Ending) (W' : World) : Prop := ∃ b, e = .returned (.bool b) ∧ WkEnd RR B p T J Jx W k b W'
theorem KeepT.tree {p : Nat → Prop} {T : TypeId → Prop} {w w' : World} (hk : KeepT p T w w') (hT : T nodeT) : ∀ {t : Tr} {q : Option Nat}, TreeAt w t q → TreeAt w' t q
  | .nil, _, h => h
  | .node l k e s r, q, h => by
    obtain ⟨g, pl, pr, rfl, h1, h2, h3⟩ := h
    exact ⟨g, pl, pr, rfl, hk.typ _ _ _ _ hT h1, hk.tree hT h2, hk.tree hT h3⟩
structure WkAt (W : World) (RR : List Row) (B : Nat) (t : Tr) (q : Option Nat) (i j : Int) (k0 : Nat) (J : Nat → World → Prop) : Prop where
  tt : TreeAt W t q
  i0 : 0 ≤ i
  i1 : i ≤ 1125899906842624
  j0 : -1125899906842624 + (t.size : Int) ≤ j
  j1 : j ≤ 1125899906842624
  size : t.size ≤ 1099511627000
  pre : cutR i j t.rows <+: RR.drop k0
  jj : J k0 W
  few : k0 ≤ RR.length
abbrev wkf : Nat := 126
def IHw (P : Program) (l : Nat) (RR : List Row) (B : Nat) (p : Nat → Prop) (T : TypeId → Prop) (J Jx : Nat → World → Prop) (t : Tr) : Prop := ∀ (q : Option Nat) (i j : Int) (k0 : Nat) (W : World), WkAt W RR B t q i j k0 J →
  Calls P 126 #[.pointer (pa q), .int .i64 i, .int .i64 j, .func (.yield l) #[] #[]] W (WkOf RR B p T J Jx W (k0 + (cutR i j t.rows).length))
set_option maxHeartbeats 4000000 in
theorem walk_ge (l : Nat) (RR : List Row) (B : Nat) (p : Nat → Prop) (T : TypeId → Prop) (J Jx : Nat → World → Prop) (t : Tr) (q : Option Nat) (i j : Int) (k0 : Nat) (W : World) (h : WkAt W RR B t q i j k0 J) (hij : t = .nil ∨ j ≤ i) :
    Calls Tryz.prog 126 #[.pointer (pa q), .int .i64 i, .int .i64 j, .func (.yield l) #[] #[]] W (WkOf RR B p T J Jx W (k0 + (cutR i j t.rows).length)) := by
  have hz : (cutR i j t.rows).length = 0 := by
    rcases hij with rfl | hij
    · simp [Tr.rows, cutR]
    · rw [cutR_ge hij]; rfl
  rw [hz, Nat.add_zero]
  have HJ := Lib.hid h.jj
  cases t with
  | nil =>
    obtain rfl : q = none := h.tt
    clear h hij hz
    rw [pa_none]
    go_enter Tryz.func126, Tryz.ntmps126
    go_wp2_with fail
    go_ret
    exact ⟨true, rfl, KeepsFrom.refl _ _, HJ.out, KeepT.refl _ _ _⟩
  | node l' k e s r =>
    have hij : j ≤ i := by rcases hij with hij | hij; cases hij; exact hij
    obtain ⟨g, pl, pr, rfl, _, _, _⟩ := h.tt
    clear h hz
    rw [pa_some]
    go_enter Tryz.func126, Tryz.ntmps126
    go_wp2_with fail
    go_ret
    exact ⟨true, rfl, KeepsFrom.refl _ _, HJ.out, KeepT.refl _ _ _⟩
theorem WkEnd.stop {RR : List Row} {B : Nat} {p : Nat → Prop} {T : TypeId → Prop} {J Jx : Nat → World → Prop} {W W1 W2 : World} {k k' : Nat} (ox : OwnFrom B Jx) (h : WkEnd RR B p T J Jx W k false W1) (hb : Below W1.heap.size W1 W2) : WkEnd RR B p T J Jx W k' false W2 := by
  obtain ⟨h1, k2, h2, h3⟩ := h
  exact ⟨h1.trans (KeepsFrom.of_below _ hb), k2, h2, OwnFrom.keepOf ox h3 hb⟩
theorem pre_mid {RR A C : List Row} {s : Row} {k0 : Nat} (h : A ++ [s] ++ C <+: RR.drop k0) : A <+: RR.drop k0 ∧ (∃ hk : k0 + A.length < RR.length, RR[k0 + A.length] = s) ∧ C <+: RR.drop (k0 + A.length + 1) := by
  obtain ⟨Z, hZ⟩ := h
  refine ⟨⟨[s] ++ C ++ Z, by rw [← hZ]; simp⟩, ?_, ⟨Z, ?_⟩⟩
  · have hl : (RR.drop k0).length = A.length + 1 + C.length + Z.length := by rw [← hZ]; simp; omega
    rw [List.length_drop] at hl
    refine ⟨by omega, ?_⟩
    have : (RR.drop k0)[A.length]? = some s := by rw [← hZ]; simp
    rw [List.getElem?_drop] at this
    exact (List.getElem?_eq_some_iff.1 this).2
  · have : RR.drop (k0 + A.length + 1) = (RR.drop k0).drop (A.length + 1) := by rw [List.drop_drop]; congr 1
    rw [this, ← hZ, List.append_assoc, show A.length + 1 = (A ++ [s]).length by simp, List.append_assoc A, ← List.append_assoc A [s], List.drop_left]
theorem pre_two {RR A C : List Row} {k0 : Nat} (h : A ++ C <+: RR.drop k0) : A <+: RR.drop k0 ∧ C <+: RR.drop (k0 + A.length) := by
  obtain ⟨Z, hZ⟩ := h
  refine ⟨⟨C ++ Z, by rw [← hZ]; simp⟩, ⟨Z, ?_⟩⟩
  have : RR.drop (k0 + A.length) = (RR.drop k0).drop A.length := by rw [List.drop_drop]
  rw [this, ← hZ, List.append_assoc, List.drop_left]
set_option maxHeartbeats 8000000 in
theorem walk_mid (l : Nat) (RR : List Row) (B : Nat) (p : Nat → Prop) (T : TypeId → Prop) (J Jx : Nat → World → Prop) (hy : Yl Tryz.prog l RR B p T J Jx) (tl tr : Tr) (k : ByteArray) (e : Ent) (s : T3) (q : Option Nat) (i j : Int) (k0 : Nat) (W : World) (h : WkAt W RR B (.node tl k e s tr) q i j k0 J)
    (hij : i < j) (h2 : i ≤ tl.size) (h3 : (tl.size : Int) < j) (IL : IHw Tryz.prog l RR B p T J Jx tl) (IR : IHw Tryz.prog l RR B p T J Jx tr) :
    Calls Tryz.prog 126 #[.pointer (pa q), .int .i64 i, .int .i64 j, .func (.yield l) #[] #[]] W (WkOf RR B p T J Jx W (k0 + (cutR i j (Tr.node tl k e s tr).rows).length)) := by
  have hcut : cutR i j (Tr.node tl k e s tr).rows = cutR i tl.size tl.rows ++ [(k, e, s)] ++ cutR 0 (j - tl.size - 1) tr.rows := by
    show cutR i j (tl.rows ++ (k, e, s) :: tr.rows) = _
    rw [cutR_append h.i0, Tr.rows_length, if_pos ⟨h2, h3⟩, show min j (tl.size : Int) = tl.size by omega, show max (i - (tl.size : Int) - 1) 0 = 0 by omega]
  have hpre := h.pre
  rw [hcut] at hpre ⊢
  obtain ⟨p1, ⟨hk1, hk2⟩, p2⟩ := pre_mid hpre
  have HP := Lib.hid (And.intro p1 (And.intro hk2 p2))
  have hln : k0 + (cutR i tl.size tl.rows ++ [(k, e, s)] ++ cutR 0 (j - tl.size - 1) tr.rows).length = k0 + (cutR i tl.size tl.rows).length + 1 + (cutR 0 (j - tl.size - 1) tr.rows).length := by simp; omega
  rw [hln]
  clear hcut hpre hln p1 hk2 p2
  have HD1 : Hid (decide ((tl.size : Int) < i) = false) := by simp only [Hid, decide_eq_false_iff_not]; omega
  have HD2 : Hid (decide (j ≤ (tl.size : Int)) = false) := by simp only [Hid, decide_eq_false_iff_not]; omega
  have j0 := h.j0
  have j1 := h.j1
  have i0 := h.i0
  have i1 := h.i1
  have hlen := h.size
  have hfew := h.few
  simp only [Tr.size] at j0 hlen
  obtain ⟨g, pl, pr, rfl, hbl, hl, hr⟩ := h.tt
  have q := blkN hbl
  have HL : Hid (Kids W g tl k e s tr pl pr) := ⟨hbl, hl, hr⟩
  have HJ := Lib.hid h.jj
  have HY := Lib.hid hy
  clear h hbl hl hr hy
  rw [pa_some]
  refine (callsIn_wide (n := 3)).1 (callsIn_of_wp Tryz.func126 rfl trivial ?_ rfl)
  simp only [Tryz.ntmps126, List.size_toArray, List.length_cons, List.length_nil, Nat.reduceAdd, Nat.reduceSub, Array.replicate_succ, Array.replicate_zero, List.push_toArray, List.append_toArray, List.nil_append, List.cons_append]
  gi_wp2_with (refine ⟨trivial, ?_⟩; gi_at_call 124; refine (callsIn_wide.2 (many_any tl pl W HL.out.2.1)).mono ?_; rintro e2 W ⟨rfl, rfl⟩)
  have hDC : ∀ zw : World, (Below W.heap.size W zw) → (fun w8 : World => (KeepT p T W w8)) zw := fun _ h => KeepT.of_below h
  have hSt : Stable (fun w8 : World => Below W.heap.size W w8) := by repeat (first | exact stable_ext _ | exact stable_blk _ _ | exact stable_true | refine Stable.and ?_ ?_)
  refine H.wpIn_region_y (D0 := fun w8 : World => Below W.heap.size W w8) (none) [0, 1, 2, 3, 4, 5, 6, 7, 8, 9, 10, 11, 12, 13, 14, 15, 16, 17, 18, 19, 20, 21, 22, 23, 24, 25, 26, 27, 28, 29, 30, 31, 32, 33, 34, 35, 36, 37, 38, 39, 40, 41, 42, 43, 44, 45, 46, 47, 48, 49] [0, 0, 0, 1, 0, 0, 0, 0, 0, 3, 0, 0, 0, 0, 0, 0, 0, 0, 0, 0, 0, 0, 0, 0, 1, 0, 0, 0, 1, 3, 0, 0, 0, 0, 0, 0, 1, 0, 0, 0, 0, 0, 0, 0, 0, 0, 0, 3, 0, 0] (fun w8 => (KeepT p T W w8)) (by kernel_rfl) (by kernel_rfl) ?_ ?_
  · (exact (Below.refl _ _).drew)
  simp only [List.map_cons, List.map_nil, List.getD_cons_zero, List.getD_cons_succ]
  (refine H.y_pure rfl _ ?_ rfl (by simp) ?_ ?_ ; rotate_left ; · (intro w8 K hK ; go_wp2_with fail ; exact rfl))
  simp only [Act.put, List.setIfInBounds_toArray, List.set_cons_succ, List.set_cons_zero]
  (refine H.y_pure rfl _ ?_ rfl (by simp) ?_ ?_ ; rotate_left ; · (intro w8 K hK ; go_wp2_with fail ; exact rfl))
  simp only [Act.put, List.setIfInBounds_toArray, List.set_cons_succ, List.set_cons_zero]
  (refine H.y_pure rfl _ ?_ rfl (by simp) ?_ ?_ ; rotate_left ; · (intro w8 K hK ; go_wp2_with fail ; exact rfl))
  simp only [Act.put, List.setIfInBounds_toArray, List.set_cons_succ, List.set_cons_zero]
  (refine H.y_quiet rfl hSt hDC _ ?_ rfl (by simp) ?_ ?_ ; rotate_left ; · (intro w8 hC K hK ; have hc := hC ; (first | (have q := blkN (hc.typ _ _ _ _ HY.out.node HL.out.1)) | (have q := blkN (blk_below HL.out.1 hc))) ; go_wp2_with fail ; refine ⟨?_, Below.refl _ _⟩ ; exact rfl))
  simp only [Act.put, List.setIfInBounds_toArray, List.set_cons_succ, List.set_cons_zero]
  (refine H.y_pure rfl _ ?_ rfl (by simp) ?_ ?_ ; rotate_left ; · (intro w8 K hK ; go_wp2_with fail ; exact rfl))
  simp only [Act.put, List.setIfInBounds_toArray, List.set_cons_succ, List.set_cons_zero]
  (refine H.y_pure rfl _ ?_ rfl (by simp) ?_ ?_ ; rotate_left ; · (intro w8 K hK ; go_wp2_with fail ; exact rfl))
  simp only [Act.put, List.setIfInBounds_toArray, List.set_cons_succ, List.set_cons_zero]
  (refine H.y_pure rfl _ ?_ rfl (by simp) ?_ ?_ ; rotate_left ; · (intro w8 K hK ; go_wp2_with fail ; exact rfl))
  simp only [Act.put, List.setIfInBounds_toArray, List.set_cons_succ, List.set_cons_zero]
  (refine H.y_pure rfl _ ?_ rfl (by simp) ?_ ?_ ; rotate_left ; · (intro w8 K hK ; go_wp2_with fail ; exact rfl))
  simp only [Act.put, List.setIfInBounds_toArray, List.set_cons_succ, List.set_cons_zero]
  (refine H.y_pure rfl _ ?_ rfl (by simp) ?_ ?_ ; rotate_left ; · (intro w8 K hK ; go_wp2_with fail ; exact rfl))
  simp only [Act.put, List.setIfInBounds_toArray, List.set_cons_succ, List.set_cons_zero]
  refine H.y_any rfl ?_
  intro w8 hD K hK ; have hc := hD ; (first | (have q := blkN (hc.typ _ _ _ _ HY.out.node HL.out.1)) | (have q := blkN (blk_below HL.out.1 hc)))
  refine wpIn_of_wp (by intro c h; cases h) ?_
  go_wp2_with fail
  rw [show min j (tl.size : Int) = tl.size by omega]
  refine (IL pl i tl.size k0 w8 ⟨HL.out.2.1.below hc, i0, i1, by omega, by omega, by omega, HP.out.1, OwnFrom.keepOf HY.out.oj HJ.out hc, hfew⟩).mono ?_
  rintro e9 w9 ⟨b1, rfl, hend⟩
  have HE : Hid (WkEnd RR B p T J Jx W (k0 + (cutR i tl.size tl.rows).length) b1 w9) := ⟨(KeepsFrom.of_below _ hc).trans hend.1, by cases b1; exact hend.2; exact ⟨hend.2.1, (KeepT.of_below hc).trans hend.2.2⟩⟩
  clear hend q hc hD
  refine hK _ _ (fun x => Below w9.heap.size w9 x) (Below.refl _ _) ?_
  try simp only [Act.put, List.setIfInBounds_toArray, List.set_cons_succ, List.set_cons_zero]
  cases b1
  · (refine H.y_pure rfl _ ?_ rfl (by simp) ?_ ?_ ; rotate_left ; · (intro w8 K hK ; go_wp2_with fail ; exact rfl))
    simp only [Act.put, List.setIfInBounds_toArray, List.set_cons_succ, List.set_cons_zero]
    first | ((with_reducible refine H.y_skip ?_ ?_) ; (focus rfl)) | (refine H.y_pure rfl _ ?_ rfl (by simp) ?_ ?_ ; rotate_left ; · (intro w8 K hK ; go_wp2_with fail ; exact rfl))
    simp only [Act.put, List.setIfInBounds_toArray, List.set_cons_succ, List.set_cons_zero]
    first | ((with_reducible refine H.y_skip ?_ ?_) ; (focus rfl)) | (refine H.y_pure rfl _ ?_ rfl (by simp) ?_ ?_ ; rotate_left ; · (intro w8 K hK ; go_wp2_with fail ; exact rfl))
    simp only [Act.put, List.setIfInBounds_toArray, List.set_cons_succ, List.set_cons_zero]
    first | ((with_reducible refine H.y_skip ?_ ?_) ; (focus rfl)) | (refine H.y_pure rfl _ ?_ rfl (by simp) ?_ ?_ ; rotate_left ; · (intro w8 K hK ; go_wp2_with fail ; exact rfl))
    simp only [Act.put, List.setIfInBounds_toArray, List.set_cons_succ, List.set_cons_zero]
    first | ((with_reducible refine H.y_skip ?_ ?_) ; (focus rfl)) | (refine H.y_pure rfl _ ?_ rfl (by simp) ?_ ?_ ; rotate_left ; · (intro w8 K hK ; go_wp2_with fail ; exact rfl))
    simp only [Act.put, List.setIfInBounds_toArray, List.set_cons_succ, List.set_cons_zero]
    first | ((with_reducible refine H.y_skip ?_ ?_) ; (focus rfl)) | (refine H.y_pure rfl _ ?_ rfl (by simp) ?_ ?_ ; rotate_left ; · (intro w8 K hK ; go_wp2_with fail ; exact rfl))
    simp only [Act.put, List.setIfInBounds_toArray, List.set_cons_succ, List.set_cons_zero]
    first | ((with_reducible refine H.y_skip ?_ ?_) ; (focus rfl)) | (refine H.y_pure rfl _ ?_ rfl (by simp) ?_ ?_ ; rotate_left ; · (intro w8 K hK ; go_wp2_with fail ; exact rfl))
    simp only [Act.put, List.setIfInBounds_toArray, List.set_cons_succ, List.set_cons_zero]
    first | ((with_reducible refine H.y_skip ?_ ?_) ; (focus rfl)) | (refine H.y_pure rfl _ ?_ rfl (by simp) ?_ ?_ ; rotate_left ; · (intro w8 K hK ; go_wp2_with fail ; exact rfl))
    simp only [Act.put, List.setIfInBounds_toArray, List.set_cons_succ, List.set_cons_zero]
    first | ((with_reducible refine H.y_skip ?_ ?_) ; (focus rfl)) | (refine H.y_pure rfl _ ?_ rfl (by simp) ?_ ?_ ; rotate_left ; · (intro w8 K hK ; go_wp2_with fail ; exact rfl))
    simp only [Act.put, List.setIfInBounds_toArray, List.set_cons_succ, List.set_cons_zero]
    first | ((with_reducible refine H.y_skip ?_ ?_) ; (focus rfl)) | (refine H.y_pure rfl _ ?_ rfl (by simp) ?_ ?_ ; rotate_left ; · (intro w8 K hK ; go_wp2_with fail ; exact rfl))
    simp only [Act.put, List.setIfInBounds_toArray, List.set_cons_succ, List.set_cons_zero]
    first | ((with_reducible refine H.y_skip ?_ ?_) ; (focus rfl)) | (refine H.y_pure rfl _ ?_ rfl (by simp) ?_ ?_ ; rotate_left ; · (intro w8 K hK ; go_wp2_with fail ; exact rfl))
    simp only [Act.put, List.setIfInBounds_toArray, List.set_cons_succ, List.set_cons_zero]
    first | ((with_reducible refine H.y_skip ?_ ?_) ; (focus rfl)) | (refine H.y_pure rfl _ ?_ rfl (by simp) ?_ ?_ ; rotate_left ; · (intro w8 K hK ; go_wp2_with fail ; exact rfl))
    simp only [Act.put, List.setIfInBounds_toArray, List.set_cons_succ, List.set_cons_zero]
    first | ((with_reducible refine H.y_skip ?_ ?_) ; (focus rfl)) | (refine H.y_pure rfl _ ?_ rfl (by simp) ?_ ?_ ; rotate_left ; · (intro w8 K hK ; go_wp2_with fail ; exact rfl))
    simp only [Act.put, List.setIfInBounds_toArray, List.set_cons_succ, List.set_cons_zero]
    first | ((with_reducible refine H.y_skip ?_ ?_) ; (focus rfl)) | (refine H.y_pure rfl _ ?_ rfl (by simp) ?_ ?_ ; rotate_left ; · (intro w8 K hK ; go_wp2_with fail ; exact rfl))
    simp only [Act.put, List.setIfInBounds_toArray, List.set_cons_succ, List.set_cons_zero]
    first | ((with_reducible refine H.y_skip ?_ ?_) ; (focus rfl)) | (refine H.y_pure rfl _ ?_ rfl (by simp) ?_ ?_ ; rotate_left ; · (intro w8 K hK ; go_wp2_with fail ; exact rfl))
    simp only [Act.put, List.setIfInBounds_toArray, List.set_cons_succ, List.set_cons_zero]
    first | ((with_reducible refine H.y_skip ?_ ?_) ; (focus rfl)) | (refine H.y_pure rfl _ ?_ rfl (by simp) ?_ ?_ ; rotate_left ; · (intro w8 K hK ; go_wp2_with fail ; exact rfl))
    simp only [Act.put, List.setIfInBounds_toArray, List.set_cons_succ, List.set_cons_zero]
    first | ((with_reducible refine H.y_skip ?_ ?_) ; (focus rfl)) | (refine H.y_pure rfl _ ?_ rfl (by simp) ?_ ?_ ; rotate_left ; · (intro w8 K hK ; go_wp2_with fail ; exact rfl))
    simp only [Act.put, List.setIfInBounds_toArray, List.set_cons_succ, List.set_cons_zero]
    first | ((with_reducible refine H.y_skip ?_ ?_) ; (focus rfl)) | (refine H.y_pure rfl _ ?_ rfl (by simp) ?_ ?_ ; rotate_left ; · (intro w8 K hK ; go_wp2_with fail ; exact rfl))
    simp only [Act.put, List.setIfInBounds_toArray, List.set_cons_succ, List.set_cons_zero]
    first | ((with_reducible refine H.y_skip ?_ ?_) ; (focus rfl)) | (refine H.y_pure rfl _ ?_ rfl (by simp) ?_ ?_ ; rotate_left ; · (intro w8 K hK ; go_wp2_with fail ; exact rfl))
    simp only [Act.put, List.setIfInBounds_toArray, List.set_cons_succ, List.set_cons_zero]
    first | ((with_reducible refine H.y_skip ?_ ?_) ; (focus rfl)) | (refine H.y_pure rfl _ ?_ rfl (by simp) ?_ ?_ ; rotate_left ; · (intro w8 K hK ; go_wp2_with fail ; exact rfl))
    simp only [Act.put, List.setIfInBounds_toArray, List.set_cons_succ, List.set_cons_zero]
    first | ((with_reducible refine H.y_skip ?_ ?_) ; (focus rfl)) | (refine H.y_pure rfl _ ?_ rfl (by simp) ?_ ?_ ; rotate_left ; · (intro w8 K hK ; go_wp2_with fail ; exact rfl))
    simp only [Act.put, List.setIfInBounds_toArray, List.set_cons_succ, List.set_cons_zero]
    (refine H.y_pure rfl _ ?_ rfl (by simp) ?_ ?_ ; rotate_left ; · (intro w8 K hK ; go_wp2_with fail ; exact rfl))
    simp only [Act.put, List.setIfInBounds_toArray, List.set_cons_succ, List.set_cons_zero]
    (refine H.y_pure rfl _ ?_ rfl (by simp) ?_ ?_ ; rotate_left ; · (intro w8 K hK ; go_wp2_with fail ; exact rfl))
    simp only [Act.put, List.setIfInBounds_toArray, List.set_cons_succ, List.set_cons_zero]
    first | ((with_reducible refine H.y_skip ?_ ?_) ; (focus rfl)) | (refine H.y_pure rfl _ ?_ rfl (by simp) ?_ ?_ ; rotate_left ; · (intro w8 K hK ; go_wp2_with fail ; exact rfl))
    simp only [Act.put, List.setIfInBounds_toArray, List.set_cons_succ, List.set_cons_zero]
    first | ((with_reducible refine H.y_skip ?_ ?_) ; (focus rfl)) | (refine H.y_pure rfl _ ?_ rfl (by simp) ?_ ?_ ; rotate_left ; · (intro w8 K hK ; go_wp2_with fail ; exact rfl))
    simp only [Act.put, List.setIfInBounds_toArray, List.set_cons_succ, List.set_cons_zero]
    first | ((with_reducible refine H.y_skip ?_ ?_) ; (focus rfl)) | (refine H.y_pure rfl _ ?_ rfl (by simp) ?_ ?_ ; rotate_left ; · (intro w8 K hK ; go_wp2_with fail ; exact rfl))
    simp only [Act.put, List.setIfInBounds_toArray, List.set_cons_succ, List.set_cons_zero]
    first | ((with_reducible refine H.y_skip ?_ ?_) ; (focus rfl)) | (refine H.y_pure rfl _ ?_ rfl (by simp) ?_ ?_ ; rotate_left ; · (intro w8 K hK ; go_wp2_with fail ; exact rfl))
    simp only [Act.put, List.setIfInBounds_toArray, List.set_cons_succ, List.set_cons_zero]
    first | ((with_reducible refine H.y_skip ?_ ?_) ; (focus rfl)) | (refine H.y_pure rfl _ ?_ rfl (by simp) ?_ ?_ ; rotate_left ; · (intro w8 K hK ; go_wp2_with fail ; exact rfl))
    simp only [Act.put, List.setIfInBounds_toArray, List.set_cons_succ, List.set_cons_zero]
    first | ((with_reducible refine H.y_skip ?_ ?_) ; (focus rfl)) | (refine H.y_pure rfl _ ?_ rfl (by simp) ?_ ?_ ; rotate_left ; · (intro w8 K hK ; go_wp2_with fail ; exact rfl))
    simp only [Act.put, List.setIfInBounds_toArray, List.set_cons_succ, List.set_cons_zero]
    first | ((with_reducible refine H.y_skip ?_ ?_) ; (focus rfl)) | (refine H.y_pure rfl _ ?_ rfl (by simp) ?_ ?_ ; rotate_left ; · (intro w8 K hK ; go_wp2_with fail ; exact rfl))
    simp only [Act.put, List.setIfInBounds_toArray, List.set_cons_succ, List.set_cons_zero]
    first | ((with_reducible refine H.y_skip ?_ ?_) ; (focus rfl)) | (refine H.y_pure rfl _ ?_ rfl (by simp) ?_ ?_ ; rotate_left ; · (intro w8 K hK ; go_wp2_with fail ; exact rfl))
    simp only [Act.put, List.setIfInBounds_toArray, List.set_cons_succ, List.set_cons_zero]
    first | ((with_reducible refine H.y_skip ?_ ?_) ; (focus rfl)) | (refine H.y_pure rfl _ ?_ rfl (by simp) ?_ ?_ ; rotate_left ; · (intro w8 K hK ; go_wp2_with fail ; exact rfl))
    simp only [Act.put, List.setIfInBounds_toArray, List.set_cons_succ, List.set_cons_zero]
    first | ((with_reducible refine H.y_skip ?_ ?_) ; (focus rfl)) | (refine H.y_pure rfl _ ?_ rfl (by simp) ?_ ?_ ; rotate_left ; · (intro w8 K hK ; go_wp2_with fail ; exact rfl))
    simp only [Act.put, List.setIfInBounds_toArray, List.set_cons_succ, List.set_cons_zero]
    first | ((with_reducible refine H.y_skip ?_ ?_) ; (focus rfl)) | (refine H.y_pure rfl _ ?_ rfl (by simp) ?_ ?_ ; rotate_left ; · (intro w8 K hK ; go_wp2_with fail ; exact rfl))
    simp only [Act.put, List.setIfInBounds_toArray, List.set_cons_succ, List.set_cons_zero]
    first | ((with_reducible refine H.y_skip ?_ ?_) ; (focus rfl)) | (refine H.y_pure rfl _ ?_ rfl (by simp) ?_ ?_ ; rotate_left ; · (intro w8 K hK ; go_wp2_with fail ; exact rfl))
    simp only [Act.put, List.setIfInBounds_toArray, List.set_cons_succ, List.set_cons_zero]
    first | ((with_reducible refine H.y_skip ?_ ?_) ; (focus rfl)) | (refine H.y_pure rfl _ ?_ rfl (by simp) ?_ ?_ ; rotate_left ; · (intro w8 K hK ; go_wp2_with fail ; exact rfl))
    simp only [Act.put, List.setIfInBounds_toArray, List.set_cons_succ, List.set_cons_zero]
    first | ((with_reducible refine H.y_skip ?_ ?_) ; (focus rfl)) | (refine H.y_pure rfl _ ?_ rfl (by simp) ?_ ?_ ; rotate_left ; · (intro w8 K hK ; go_wp2_with fail ; exact rfl))
    simp only [Act.put, List.setIfInBounds_toArray, List.set_cons_succ, List.set_cons_zero]
    first | ((with_reducible refine H.y_skip ?_ ?_) ; (focus rfl)) | (refine H.y_pure rfl _ ?_ rfl (by simp) ?_ ?_ ; rotate_left ; · (intro w8 K hK ; go_wp2_with fail ; exact rfl))
    simp only [Act.put, List.setIfInBounds_toArray, List.set_cons_succ, List.set_cons_zero]
    (refine H.y_pure rfl _ ?_ rfl (by simp) ?_ ?_ ; rotate_left ; · (intro w8 K hK ; go_wp2_with fail ; exact rfl))
    simp only [Act.put, List.setIfInBounds_toArray, List.set_cons_succ, List.set_cons_zero]
    (refine H.y_pure rfl _ ?_ rfl (by simp) ?_ ?_ ; rotate_left ; · (intro w8 K hK ; go_wp2_with fail ; exact rfl))
    simp only [Act.put, List.setIfInBounds_toArray, List.set_cons_succ, List.set_cons_zero]
    first | refine H.y_nil ?_ | refine H.y_end ?_
    rintro wy hyb
    have HZ := Lib.hid (HE.out.stop (k' := k0 + (cutR i tl.size tl.rows).length + 1 + (cutR 0 (j - tl.size - 1) tr.rows).length) HY.out.ox hyb)
    clear hyb HE hSt hDC
    gi_wp2
    go_ret
    exact ⟨false, rfl, HZ.out⟩
  have HT1 : Hid (J (k0 + (cutR i tl.size tl.rows).length) w9 ∧ KeepT p T W w9) := HE.out.2
  (refine H.y_pure rfl _ ?_ rfl (by simp) ?_ ?_ ; rotate_left ; · (intro w8 K hK ; go_wp2_with fail ; exact rfl))
  simp only [Act.put, List.setIfInBounds_toArray, List.set_cons_succ, List.set_cons_zero]
  first | ((with_reducible refine H.y_skip ?_ ?_) ; (focus rfl)) | (refine H.y_pure rfl _ ?_ rfl (by simp) ?_ ?_ ; rotate_left ; · (intro w8 K hK ; go_wp2_with fail ; exact rfl))
  simp only [Act.put, List.setIfInBounds_toArray, List.set_cons_succ, List.set_cons_zero]
  first | ((with_reducible refine H.y_skip ?_ ?_) ; (focus rfl)) | (refine H.y_pure rfl _ ?_ rfl (by simp) ?_ ?_ ; rotate_left ; · (intro w8 K hK ; go_wp2_with fail ; exact rfl))
  simp only [Act.put, List.setIfInBounds_toArray, List.set_cons_succ, List.set_cons_zero]
  first | ((with_reducible refine H.y_skip ?_ ?_) ; (focus rfl)) | (refine H.y_pure rfl _ ?_ rfl (by simp) ?_ ?_ ; rotate_left ; · (intro w8 K hK ; have d := HD1.out ; go_wp2_with fail ; exact rfl))
  simp only [Act.put, List.setIfInBounds_toArray, List.set_cons_succ, List.set_cons_zero]
  first | ((with_reducible refine H.y_skip ?_ ?_) ; (focus rfl)) | (refine H.y_pure rfl _ ?_ rfl (by simp) ?_ ?_ ; rotate_left ; · (intro w8 K hK ; go_wp2_with fail ; exact rfl))
  simp only [Act.put, List.setIfInBounds_toArray, List.set_cons_succ, List.set_cons_zero]
  first | ((with_reducible refine H.y_skip ?_ ?_) ; (focus rfl)) | (refine H.y_pure rfl _ ?_ rfl (by simp) ?_ ?_ ; rotate_left ; · (intro w8 K hK ; go_wp2_with fail ; exact rfl))
  simp only [Act.put, List.setIfInBounds_toArray, List.set_cons_succ, List.set_cons_zero]
  first | ((with_reducible refine H.y_skip ?_ ?_) ; (focus rfl)) | (refine H.y_pure rfl _ ?_ rfl (by simp) ?_ ?_ ; rotate_left ; · (intro w8 K hK ; go_wp2_with fail ; exact rfl))
  simp only [Act.put, List.setIfInBounds_toArray, List.set_cons_succ, List.set_cons_zero]
  first | ((with_reducible refine H.y_skip ?_ ?_) ; (focus rfl)) | (refine H.y_pure rfl _ ?_ rfl (by simp) ?_ ?_ ; rotate_left ; · (intro w8 K hK ; have d := HD2.out ; go_wp2_with fail ; exact rfl))
  simp only [Act.put, List.setIfInBounds_toArray, List.set_cons_succ, List.set_cons_zero]
  first | ((with_reducible refine H.y_skip ?_ ?_) ; (focus rfl)) | (refine H.y_pure rfl _ ?_ rfl (by simp) ?_ ?_ ; rotate_left ; · (intro w8 K hK ; go_wp2_with fail ; exact rfl))
  simp only [Act.put, List.setIfInBounds_toArray, List.set_cons_succ, List.set_cons_zero]
  first | ((with_reducible refine H.y_skip ?_ ?_) ; (focus rfl)) | (refine H.y_pure rfl _ ?_ rfl (by simp) ?_ ?_ ; rotate_left ; · (intro w8 K hK ; go_wp2_with fail ; exact rfl))
  simp only [Act.put, List.setIfInBounds_toArray, List.set_cons_succ, List.set_cons_zero]
  first | ((with_reducible refine H.y_skip ?_ ?_) ; (focus rfl)) | (refine H.y_pure rfl _ ?_ rfl (by simp) ?_ ?_ ; rotate_left ; · (intro w8 K hK ; go_wp2_with fail ; exact rfl))
  simp only [Act.put, List.setIfInBounds_toArray, List.set_cons_succ, List.set_cons_zero]
  first | ((with_reducible refine H.y_skip ?_ ?_) ; (focus rfl)) | (refine H.y_pure rfl _ ?_ rfl (by simp) ?_ ?_ ; rotate_left ; · (intro w8 K hK ; go_wp2_with fail ; exact rfl))
  simp only [Act.put, List.setIfInBounds_toArray, List.set_cons_succ, List.set_cons_zero]
  first | ((with_reducible refine H.y_skip ?_ ?_) ; (focus rfl)) | (refine H.y_pure rfl _ ?_ rfl (by simp) ?_ ?_ ; rotate_left ; · (intro w8 K hK ; go_wp2_with fail ; exact rfl))
  simp only [Act.put, List.setIfInBounds_toArray, List.set_cons_succ, List.set_cons_zero]
  first | ((with_reducible refine H.y_skip ?_ ?_) ; (focus rfl)) | (refine H.y_pure rfl _ ?_ rfl (by simp) ?_ ?_ ; rotate_left ; · (intro w8 K hK ; go_wp2_with fail ; exact rfl))
  simp only [Act.put, List.setIfInBounds_toArray, List.set_cons_succ, List.set_cons_zero]
  first | ((with_reducible refine H.y_skip ?_ ?_) ; (focus rfl)) | (refine H.y_quiet rfl (stable_ext _) (fun _ hd => HT1.out.2.trans (KeepT.of_below hd)) _ ?_ rfl (by simp) ?_ ?_ ; rotate_left ; · (intro w8 hC K hK ; have hc := hC ; (first | (have q := blkN (hc.typ _ _ _ _ HY.out.node HL.out.1)) | (have q := blkN (blk_below HL.out.1 hc))) ; go_wp2_with fail ; refine ⟨?_, Below.refl _ _⟩ ; exact rfl))
  simp only [Act.put, List.setIfInBounds_toArray, List.set_cons_succ, List.set_cons_zero]
  first | ((with_reducible refine H.y_skip ?_ ?_) ; (focus rfl)) | (refine H.y_pure rfl _ ?_ rfl (by simp) ?_ ?_ ; rotate_left ; · (intro w8 K hK ; go_wp2_with fail ; exact rfl))
  simp only [Act.put, List.setIfInBounds_toArray, List.set_cons_succ, List.set_cons_zero]
  first | ((with_reducible refine H.y_skip ?_ ?_) ; (focus rfl)) | (refine H.y_pure rfl _ ?_ rfl (by simp) ?_ ?_ ; rotate_left ; · (intro w8 K hK ; go_wp2_with fail ; exact rfl))
  simp only [Act.put, List.setIfInBounds_toArray, List.set_cons_succ, List.set_cons_zero]
  first | ((with_reducible refine H.y_skip ?_ ?_) ; (focus rfl)) | (refine H.y_pure rfl _ ?_ rfl (by simp) ?_ ?_ ; rotate_left ; · (intro w8 K hK ; go_wp2_with fail ; exact rfl))
  simp only [Act.put, List.setIfInBounds_toArray, List.set_cons_succ, List.set_cons_zero]
  first | ((with_reducible refine H.y_skip ?_ ?_) ; (focus rfl)) | (refine H.y_quiet rfl (stable_ext _) (fun _ hd => HT1.out.2.trans (KeepT.of_below hd)) _ ?_ rfl (by simp) ?_ ?_ ; rotate_left ; · (intro w8 hC K hK ; have hc := hC ; (first | (have q := blkN (hc.typ _ _ _ _ HY.out.node HL.out.1)) | (have q := blkN (blk_below HL.out.1 hc))) ; go_wp2_with fail ; refine ⟨?_, Below.refl _ _⟩ ; exact rfl))
  simp only [Act.put, List.setIfInBounds_toArray, List.set_cons_succ, List.set_cons_zero]
  refine H.y_any rfl ?_
  intro wy hyb K hK
  obtain ⟨fnn, tmps, assign, body, hyy, hR0⟩ := HY.out.yl (k0 + (cutR i tl.size tl.rows).length) _ wy hk1 (OwnFrom.keepOf HY.out.oj HT1.out.1 hyb) (by rw [HP.out.2.1])
  have hR := roundIn_any (m' := 3 - 1) rfl hR0
  clear hR0
  simp only [fenceOf]
  gi_wp2
  refine hR.mono ?_
  rintro e5 w5 ⟨b2, rfl, hkf, hbb⟩
  have HE2 : Hid (WkEnd RR B p T J Jx W (k0 + (cutR i tl.size tl.rows).length + 1) b2 w5) := ⟨(HE.out.1.trans (KeepsFrom.of_below _ hyb)).trans hkf, by cases b2; exact ⟨_, hk1, hbb⟩; exact ⟨hbb.1, (HT1.out.2.trans (KeepT.of_below hyb)).trans hbb.2⟩⟩
  clear hkf hbb hR hyb hyy
  refine hK _ _ (fun x => Below w5.heap.size w5 x) (Below.refl _ _) ?_
  try simp only [Act.put, List.setIfInBounds_toArray, List.set_cons_succ, List.set_cons_zero]
  cases b2
  · first | ((with_reducible refine H.y_skip ?_ ?_) ; (focus rfl)) | (refine H.y_pure rfl _ ?_ rfl (by simp) ?_ ?_ ; rotate_left ; · (intro w8 K hK ; go_wp2_with fail ; exact rfl))
    simp only [Act.put, List.setIfInBounds_toArray, List.set_cons_succ, List.set_cons_zero]
    (refine H.y_pure rfl _ ?_ rfl (by simp) ?_ ?_ ; rotate_left ; · (intro w8 K hK ; go_wp2_with fail ; exact rfl))
    simp only [Act.put, List.setIfInBounds_toArray, List.set_cons_succ, List.set_cons_zero]
    (refine H.y_pure rfl _ ?_ rfl (by simp) ?_ ?_ ; rotate_left ; · (intro w8 K hK ; go_wp2_with fail ; exact rfl))
    simp only [Act.put, List.setIfInBounds_toArray, List.set_cons_succ, List.set_cons_zero]
    first | ((with_reducible refine H.y_skip ?_ ?_) ; (focus rfl)) | (refine H.y_pure rfl _ ?_ rfl (by simp) ?_ ?_ ; rotate_left ; · (intro w8 K hK ; go_wp2_with fail ; exact rfl))
    simp only [Act.put, List.setIfInBounds_toArray, List.set_cons_succ, List.set_cons_zero]
    first | ((with_reducible refine H.y_skip ?_ ?_) ; (focus rfl)) | (refine H.y_pure rfl _ ?_ rfl (by simp) ?_ ?_ ; rotate_left ; · (intro w8 K hK ; go_wp2_with fail ; exact rfl))
    simp only [Act.put, List.setIfInBounds_toArray, List.set_cons_succ, List.set_cons_zero]
    first | ((with_reducible refine H.y_skip ?_ ?_) ; (focus rfl)) | (refine H.y_pure rfl _ ?_ rfl (by simp) ?_ ?_ ; rotate_left ; · (intro w8 K hK ; go_wp2_with fail ; exact rfl))
    simp only [Act.put, List.setIfInBounds_toArray, List.set_cons_succ, List.set_cons_zero]
    first | ((with_reducible refine H.y_skip ?_ ?_) ; (focus rfl)) | (refine H.y_pure rfl _ ?_ rfl (by simp) ?_ ?_ ; rotate_left ; · (intro w8 K hK ; go_wp2_with fail ; exact rfl))
    simp only [Act.put, List.setIfInBounds_toArray, List.set_cons_succ, List.set_cons_zero]
    first | ((with_reducible refine H.y_skip ?_ ?_) ; (focus rfl)) | (refine H.y_pure rfl _ ?_ rfl (by simp) ?_ ?_ ; rotate_left ; · (intro w8 K hK ; go_wp2_with fail ; exact rfl))
    simp only [Act.put, List.setIfInBounds_toArray, List.set_cons_succ, List.set_cons_zero]
    first | ((with_reducible refine H.y_skip ?_ ?_) ; (focus rfl)) | (refine H.y_pure rfl _ ?_ rfl (by simp) ?_ ?_ ; rotate_left ; · (intro w8 K hK ; go_wp2_with fail ; exact rfl))
    simp only [Act.put, List.setIfInBounds_toArray, List.set_cons_succ, List.set_cons_zero]
    first | ((with_reducible refine H.y_skip ?_ ?_) ; (focus rfl)) | (refine H.y_pure rfl _ ?_ rfl (by simp) ?_ ?_ ; rotate_left ; · (intro w8 K hK ; go_wp2_with fail ; exact rfl))
    simp only [Act.put, List.setIfInBounds_toArray, List.set_cons_succ, List.set_cons_zero]
    first | ((with_reducible refine H.y_skip ?_ ?_) ; (focus rfl)) | (refine H.y_pure rfl _ ?_ rfl (by simp) ?_ ?_ ; rotate_left ; · (intro w8 K hK ; go_wp2_with fail ; exact rfl))
    simp only [Act.put, List.setIfInBounds_toArray, List.set_cons_succ, List.set_cons_zero]
    first | ((with_reducible refine H.y_skip ?_ ?_) ; (focus rfl)) | (refine H.y_pure rfl _ ?_ rfl (by simp) ?_ ?_ ; rotate_left ; · (intro w8 K hK ; go_wp2_with fail ; exact rfl))
    simp only [Act.put, List.setIfInBounds_toArray, List.set_cons_succ, List.set_cons_zero]
    first | ((with_reducible refine H.y_skip ?_ ?_) ; (focus rfl)) | (refine H.y_pure rfl _ ?_ rfl (by simp) ?_ ?_ ; rotate_left ; · (intro w8 K hK ; go_wp2_with fail ; exact rfl))
    simp only [Act.put, List.setIfInBounds_toArray, List.set_cons_succ, List.set_cons_zero]
    first | ((with_reducible refine H.y_skip ?_ ?_) ; (focus rfl)) | (refine H.y_pure rfl _ ?_ rfl (by simp) ?_ ?_ ; rotate_left ; · (intro w8 K hK ; go_wp2_with fail ; exact rfl))
    simp only [Act.put, List.setIfInBounds_toArray, List.set_cons_succ, List.set_cons_zero]
    first | ((with_reducible refine H.y_skip ?_ ?_) ; (focus rfl)) | (refine H.y_pure rfl _ ?_ rfl (by simp) ?_ ?_ ; rotate_left ; · (intro w8 K hK ; go_wp2_with fail ; exact rfl))
    simp only [Act.put, List.setIfInBounds_toArray, List.set_cons_succ, List.set_cons_zero]
    first | ((with_reducible refine H.y_skip ?_ ?_) ; (focus rfl)) | (refine H.y_pure rfl _ ?_ rfl (by simp) ?_ ?_ ; rotate_left ; · (intro w8 K hK ; go_wp2_with fail ; exact rfl))
    simp only [Act.put, List.setIfInBounds_toArray, List.set_cons_succ, List.set_cons_zero]
    first | ((with_reducible refine H.y_skip ?_ ?_) ; (focus rfl)) | (refine H.y_pure rfl _ ?_ rfl (by simp) ?_ ?_ ; rotate_left ; · (intro w8 K hK ; go_wp2_with fail ; exact rfl))
    simp only [Act.put, List.setIfInBounds_toArray, List.set_cons_succ, List.set_cons_zero]
    first | ((with_reducible refine H.y_skip ?_ ?_) ; (focus rfl)) | (refine H.y_pure rfl _ ?_ rfl (by simp) ?_ ?_ ; rotate_left ; · (intro w8 K hK ; go_wp2_with fail ; exact rfl))
    simp only [Act.put, List.setIfInBounds_toArray, List.set_cons_succ, List.set_cons_zero]
    (refine H.y_pure rfl _ ?_ rfl (by simp) ?_ ?_ ; rotate_left ; · (intro w8 K hK ; go_wp2_with fail ; exact rfl))
    simp only [Act.put, List.setIfInBounds_toArray, List.set_cons_succ, List.set_cons_zero]
    (refine H.y_pure rfl _ ?_ rfl (by simp) ?_ ?_ ; rotate_left ; · (intro w8 K hK ; go_wp2_with fail ; exact rfl))
    simp only [Act.put, List.setIfInBounds_toArray, List.set_cons_succ, List.set_cons_zero]
    first | refine H.y_nil ?_ | refine H.y_end ?_
    rintro wz hzb
    have HZ := Lib.hid (HE2.out.stop (k' := k0 + (cutR i tl.size tl.rows).length + 1 + (cutR 0 (j - tl.size - 1) tr.rows).length) HY.out.ox hzb)
    clear hzb HE HE2 HT1 hSt hDC
    gi_wp2
    go_ret
    exact ⟨false, rfl, HZ.out⟩
  have HT2 : Hid (J (k0 + (cutR i tl.size tl.rows).length + 1) w5 ∧ KeepT p T W w5) := HE2.out.2
  first | ((with_reducible refine H.y_skip ?_ ?_) ; (focus rfl)) | (refine H.y_pure rfl _ ?_ rfl (by simp) ?_ ?_ ; rotate_left ; · (intro w8 K hK ; go_wp2_with fail ; exact rfl))
  simp only [Act.put, List.setIfInBounds_toArray, List.set_cons_succ, List.set_cons_zero]
  (refine H.y_pure rfl _ ?_ rfl (by simp) ?_ ?_ ; rotate_left ; · (intro w8 K hK ; go_wp2_with fail ; exact rfl))
  simp only [Act.put, List.setIfInBounds_toArray, List.set_cons_succ, List.set_cons_zero]
  (refine H.y_pure rfl _ ?_ rfl (by simp) ?_ ?_ ; rotate_left ; · (intro w8 K hK ; go_wp2_with fail ; exact rfl))
  simp only [Act.put, List.setIfInBounds_toArray, List.set_cons_succ, List.set_cons_zero]
  first | ((with_reducible refine H.y_skip ?_ ?_) ; (focus rfl)) | (refine H.y_pure rfl _ ?_ rfl (by simp) ?_ ?_ ; rotate_left ; · (intro w8 K hK ; go_wp2_with fail ; exact rfl))
  simp only [Act.put, List.setIfInBounds_toArray, List.set_cons_succ, List.set_cons_zero]
  first | ((with_reducible refine H.y_skip ?_ ?_) ; (focus rfl)) | (refine H.y_pure rfl _ ?_ rfl (by simp) ?_ ?_ ; rotate_left ; · (intro w8 K hK ; go_wp2_with fail ; exact rfl))
  simp only [Act.put, List.setIfInBounds_toArray, List.set_cons_succ, List.set_cons_zero]
  first | ((with_reducible refine H.y_skip ?_ ?_) ; (focus rfl)) | (refine H.y_pure rfl _ ?_ rfl (by simp) ?_ ?_ ; rotate_left ; · (intro w8 K hK ; go_wp2_with fail ; exact rfl))
  simp only [Act.put, List.setIfInBounds_toArray, List.set_cons_succ, List.set_cons_zero]
  first | ((with_reducible refine H.y_skip ?_ ?_) ; (focus rfl)) | (refine H.y_quiet rfl (stable_ext _) (fun _ hd => HT2.out.2.trans (KeepT.of_below hd)) _ ?_ rfl (by simp) ?_ ?_ ; rotate_left ; · (intro w8 hC K hK ; have hc := hC ; (first | (have q := blkN (hc.typ _ _ _ _ HY.out.node HL.out.1)) | (have q := blkN (blk_below HL.out.1 hc))) ; go_wp2_with fail ; refine ⟨?_, Below.refl _ _⟩ ; exact rfl))
  simp only [Act.put, List.setIfInBounds_toArray, List.set_cons_succ, List.set_cons_zero]
  first | ((with_reducible refine H.y_skip ?_ ?_) ; (focus rfl)) | (refine H.y_pure rfl _ ?_ rfl (by simp) ?_ ?_ ; rotate_left ; · (intro w8 K hK ; go_wp2_with fail ; exact rfl))
  simp only [Act.put, List.setIfInBounds_toArray, List.set_cons_succ, List.set_cons_zero]
  first | ((with_reducible refine H.y_skip ?_ ?_) ; (focus rfl)) | (refine H.y_pure rfl _ ?_ rfl (by simp) ?_ ?_ ; rotate_left ; · (intro w8 K hK ; go_wp2_with fail ; exact rfl))
  simp only [Act.put, List.setIfInBounds_toArray, List.set_cons_succ, List.set_cons_zero]
  first | ((with_reducible refine H.y_skip ?_ ?_) ; (focus rfl)) | (refine H.y_pure rfl _ ?_ rfl (by simp) ?_ ?_ ; rotate_left ; · (intro w8 K hK ; go_wp2_with fail ; exact rfl))
  simp only [Act.put, List.setIfInBounds_toArray, List.set_cons_succ, List.set_cons_zero]
  first | ((with_reducible refine H.y_skip ?_ ?_) ; (focus rfl)) | (refine H.y_pure rfl _ ?_ rfl (by simp) ?_ ?_ ; rotate_left ; · (intro w8 K hK ; go_wp2_with fail ; exact rfl))
  simp only [Act.put, List.setIfInBounds_toArray, List.set_cons_succ, List.set_cons_zero]
  first | ((with_reducible refine H.y_skip ?_ ?_) ; (focus rfl)) | (refine H.y_pure rfl _ ?_ rfl (by simp) ?_ ?_ ; rotate_left ; · (intro w8 K hK ; go_wp2_with fail ; exact rfl))
  simp only [Act.put, List.setIfInBounds_toArray, List.set_cons_succ, List.set_cons_zero]
  first | ((with_reducible refine H.y_skip ?_ ?_) ; (focus rfl)) | (refine H.y_pure rfl _ ?_ rfl (by simp) ?_ ?_ ; rotate_left ; · (intro w8 K hK ; go_wp2_with fail ; exact rfl))
  simp only [Act.put, List.setIfInBounds_toArray, List.set_cons_succ, List.set_cons_zero]
  first | ((with_reducible refine H.y_skip ?_ ?_) ; (focus rfl)) | (refine H.y_pure rfl _ ?_ rfl (by simp) ?_ ?_ ; rotate_left ; · (intro w8 K hK ; go_wp2_with fail ; exact rfl))
  simp only [Act.put, List.setIfInBounds_toArray, List.set_cons_succ, List.set_cons_zero]
  first | ((with_reducible refine H.y_skip ?_ ?_) ; (focus rfl)) | (refine H.y_pure rfl _ ?_ rfl (by simp) ?_ ?_ ; rotate_left ; · (intro w8 K hK ; go_wp2_with fail ; exact rfl))
  simp only [Act.put, List.setIfInBounds_toArray, List.set_cons_succ, List.set_cons_zero]
  first | ((with_reducible refine H.y_skip ?_ ?_) ; (focus rfl)) | (refine H.y_pure rfl _ ?_ rfl (by simp) ?_ ?_ ; rotate_left ; · (intro w8 K hK ; go_wp2_with fail ; exact rfl))
  simp only [Act.put, List.setIfInBounds_toArray, List.set_cons_succ, List.set_cons_zero]
  first | ((with_reducible refine H.y_skip ?_ ?_) ; (focus rfl)) | (refine H.y_pure rfl _ ?_ rfl (by simp) ?_ ?_ ; rotate_left ; · (intro w8 K hK ; go_wp2_with fail ; exact rfl))
  simp only [Act.put, List.setIfInBounds_toArray, List.set_cons_succ, List.set_cons_zero]
  refine H.y_any rfl ?_
  intro wz hzb K hK
  refine wpIn_of_wp (by intro c h; cases h) ?_
  go_wp2_with fail
  rw [show max (i - (tl.size : Int) - 1) 0 = 0 by omega]
  refine (IR pr 0 (j - tl.size - 1) (k0 + (cutR i tl.size tl.rows).length + 1) wz ⟨(HT2.out.2.trans (KeepT.of_below hzb)).tree HY.out.node HL.out.2.2, by omega, by omega, by omega, by omega, by omega, HP.out.2.2, OwnFrom.keepOf HY.out.oj HT2.out.1 hzb, by omega⟩).mono ?_
  rintro e7 w7 ⟨b3, rfl, hend⟩
  have HE3 : Hid (WkEnd RR B p T J Jx W (k0 + (cutR i tl.size tl.rows).length + 1 + (cutR 0 (j - tl.size - 1) tr.rows).length) b3 w7) := ⟨(HE2.out.1.trans (KeepsFrom.of_below _ hzb)).trans hend.1, by cases b3; exact hend.2; exact ⟨hend.2.1, (HT2.out.2.trans (KeepT.of_below hzb)).trans hend.2.2⟩⟩
  clear hend hzb
  refine hK _ _ (fun x => x = w7) rfl ?_
  try simp only [Act.put, List.setIfInBounds_toArray, List.set_cons_succ, List.set_cons_zero]
  (refine H.y_pure rfl _ ?_ rfl (by simp) ?_ ?_ ; rotate_left ; · (intro w8 K hK ; go_wp2_with fail ; exact rfl))
  simp only [Act.put, List.setIfInBounds_toArray, List.set_cons_succ, List.set_cons_zero]
  (refine H.y_pure rfl _ ?_ rfl (by simp) ?_ ?_ ; rotate_left ; · (intro w8 K hK ; go_wp2_with fail ; exact rfl))
  simp only [Act.put, List.setIfInBounds_toArray, List.set_cons_succ, List.set_cons_zero]
  first | refine H.y_nil ?_ | refine H.y_end ?_
  rintro w7 rfl
  clear HE HE2 HT1 HT2 hSt hDC
  gi_wp2
  go_ret
  exact ⟨b3, rfl, HE3.out⟩
set_option maxHeartbeats 8000000 in
theorem walk_left (l : Nat) (RR : List Row) (B : Nat) (p : Nat → Prop) (T : TypeId → Prop) (J Jx : Nat → World → Prop) (hy : Yl Tryz.prog l RR B p T J Jx) (tl tr : Tr) (k : ByteArray) (e : Ent) (s : T3) (q : Option Nat) (i j : Int) (k0 : Nat) (W : World) (h : WkAt W RR B (.node tl k e s tr) q i j k0 J)
    (hij : i < j) (h3 : j ≤ (tl.size : Int)) (IL : IHw Tryz.prog l RR B p T J Jx tl) (IR : IHw Tryz.prog l RR B p T J Jx tr) :
    Calls Tryz.prog 126 #[.pointer (pa q), .int .i64 i, .int .i64 j, .func (.yield l) #[] #[]] W (WkOf RR B p T J Jx W (k0 + (cutR i j (Tr.node tl k e s tr).rows).length)) := by
  have hcut : cutR i j (Tr.node tl k e s tr).rows = cutR i j tl.rows ++ cutR 0 (j - tl.size - 1) tr.rows := by
    show cutR i j (tl.rows ++ (k, e, s) :: tr.rows) = _
    rw [cutR_append h.i0, Tr.rows_length, if_neg (by omega), show min j (tl.size : Int) = j by omega, show max (i - (tl.size : Int) - 1) 0 = 0 by omega, List.append_nil]
  have hpre := h.pre
  rw [hcut] at hpre ⊢
  have hk1 : (cutR i j tl.rows).length ≤ RR.length - k0 := by have := (pre_two hpre).1.length_le; rwa [List.length_drop] at this
  have HP := Lib.hid (pre_two hpre)
  have hln : k0 + (cutR i j tl.rows ++ cutR 0 (j - tl.size - 1) tr.rows).length = k0 + (cutR i j tl.rows).length + (cutR 0 (j - tl.size - 1) tr.rows).length := by simp; omega
  rw [hln]
  clear hcut hpre hln
  have HD1 : Hid (decide ((tl.size : Int) < i) = false) := by simp only [Hid, decide_eq_false_iff_not]; omega
  have HD2 : Hid (decide (j ≤ (tl.size : Int)) = true) := by simp only [Hid, decide_eq_true_eq]; omega
  have j0 := h.j0
  have j1 := h.j1
  have i0 := h.i0
  have i1 := h.i1
  have hlen := h.size
  have hfew := h.few
  simp only [Tr.size] at j0 hlen
  obtain ⟨g, pl, pr, rfl, hbl, hl, hr⟩ := h.tt
  have q := blkN hbl
  have HL : Hid (Kids W g tl k e s tr pl pr) := ⟨hbl, hl, hr⟩
  have HJ := Lib.hid h.jj
  have HY := Lib.hid hy
  clear h hbl hl hr hy
  rw [pa_some]
  refine (callsIn_wide (n := 3)).1 (callsIn_of_wp Tryz.func126 rfl trivial ?_ rfl)
  simp only [Tryz.ntmps126, List.size_toArray, List.length_cons, List.length_nil, Nat.reduceAdd, Nat.reduceSub, Array.replicate_succ, Array.replicate_zero, List.push_toArray, List.append_toArray, List.nil_append, List.cons_append]
  gi_wp2_with (refine ⟨trivial, ?_⟩; gi_at_call 124; refine (callsIn_wide.2 (many_any tl pl W HL.out.2.1)).mono ?_; rintro e2 W ⟨rfl, rfl⟩)
  have hDC : ∀ zw : World, (Below W.heap.size W zw) → (fun w8 : World => (KeepT p T W w8)) zw := fun _ h => KeepT.of_below h
  have hSt : Stable (fun w8 : World => Below W.heap.size W w8) := by repeat (first | exact stable_ext _ | exact stable_blk _ _ | exact stable_true | refine Stable.and ?_ ?_)
  refine H.wpIn_region_y (D0 := fun w8 : World => Below W.heap.size W w8) (none) [0, 1, 2, 3, 4, 5, 6, 7, 8, 9, 10, 11, 12, 13, 14, 15, 16, 17, 18, 19, 20, 21, 22, 23, 24, 25, 26, 27, 28, 29, 30, 31, 32, 33, 34, 35, 36, 37, 38, 39, 40, 41, 42, 43, 44, 45, 46, 47, 48, 49] [0, 0, 0, 1, 0, 0, 0, 0, 0, 3, 0, 0, 0, 0, 0, 0, 0, 0, 0, 0, 0, 0, 0, 0, 1, 0, 0, 0, 1, 3, 0, 0, 0, 0, 0, 0, 1, 0, 0, 0, 0, 0, 0, 0, 0, 0, 0, 3, 0, 0] (fun w8 => (KeepT p T W w8)) (by kernel_rfl) (by kernel_rfl) ?_ ?_
  · (exact (Below.refl _ _).drew)
  simp only [List.map_cons, List.map_nil, List.getD_cons_zero, List.getD_cons_succ]
  (refine H.y_pure rfl _ ?_ rfl (by simp) ?_ ?_ ; rotate_left ; · (intro w8 K hK ; go_wp2_with fail ; exact rfl))
  simp only [Act.put, List.setIfInBounds_toArray, List.set_cons_succ, List.set_cons_zero]
  (refine H.y_pure rfl _ ?_ rfl (by simp) ?_ ?_ ; rotate_left ; · (intro w8 K hK ; go_wp2_with fail ; exact rfl))
  simp only [Act.put, List.setIfInBounds_toArray, List.set_cons_succ, List.set_cons_zero]
  (refine H.y_pure rfl _ ?_ rfl (by simp) ?_ ?_ ; rotate_left ; · (intro w8 K hK ; go_wp2_with fail ; exact rfl))
  simp only [Act.put, List.setIfInBounds_toArray, List.set_cons_succ, List.set_cons_zero]
  (refine H.y_quiet rfl hSt hDC _ ?_ rfl (by simp) ?_ ?_ ; rotate_left ; · (intro w8 hC K hK ; have hc := hC ; (first | (have q := blkN (hc.typ _ _ _ _ HY.out.node HL.out.1)) | (have q := blkN (blk_below HL.out.1 hc))) ; go_wp2_with fail ; refine ⟨?_, Below.refl _ _⟩ ; exact rfl))
  simp only [Act.put, List.setIfInBounds_toArray, List.set_cons_succ, List.set_cons_zero]
  (refine H.y_pure rfl _ ?_ rfl (by simp) ?_ ?_ ; rotate_left ; · (intro w8 K hK ; go_wp2_with fail ; exact rfl))
  simp only [Act.put, List.setIfInBounds_toArray, List.set_cons_succ, List.set_cons_zero]
  (refine H.y_pure rfl _ ?_ rfl (by simp) ?_ ?_ ; rotate_left ; · (intro w8 K hK ; go_wp2_with fail ; exact rfl))
  simp only [Act.put, List.setIfInBounds_toArray, List.set_cons_succ, List.set_cons_zero]
  (refine H.y_pure rfl _ ?_ rfl (by simp) ?_ ?_ ; rotate_left ; · (intro w8 K hK ; go_wp2_with fail ; exact rfl))
  simp only [Act.put, List.setIfInBounds_toArray, List.set_cons_succ, List.set_cons_zero]
  (refine H.y_pure rfl _ ?_ rfl (by simp) ?_ ?_ ; rotate_left ; · (intro w8 K hK ; go_wp2_with fail ; exact rfl))
  simp only [Act.put, List.setIfInBounds_toArray, List.set_cons_succ, List.set_cons_zero]
  (refine H.y_pure rfl _ ?_ rfl (by simp) ?_ ?_ ; rotate_left ; · (intro w8 K hK ; go_wp2_with fail ; exact rfl))
  simp only [Act.put, List.setIfInBounds_toArray, List.set_cons_succ, List.set_cons_zero]
  refine H.y_any rfl ?_
  intro w8 hD K hK ; have hc := hD ; (first | (have q := blkN (hc.typ _ _ _ _ HY.out.node HL.out.1)) | (have q := blkN (blk_below HL.out.1 hc)))
  refine wpIn_of_wp (by intro c h; cases h) ?_
  go_wp2_with fail
  rw [show min j (tl.size : Int) = j by omega]
  refine (IL pl i j k0 w8 ⟨HL.out.2.1.below hc, i0, i1, by omega, by omega, by omega, HP.out.1, OwnFrom.keepOf HY.out.oj HJ.out hc, hfew⟩).mono ?_
  rintro e9 w9 ⟨b1, rfl, hend⟩
  have HE : Hid (WkEnd RR B p T J Jx W (k0 + (cutR i j tl.rows).length) b1 w9) := ⟨(KeepsFrom.of_below _ hc).trans hend.1, by cases b1; exact hend.2; exact ⟨hend.2.1, (KeepT.of_below hc).trans hend.2.2⟩⟩
  clear hend q hc hD
  refine hK _ _ (fun x => Below w9.heap.size w9 x) (Below.refl _ _) ?_
  try simp only [Act.put, List.setIfInBounds_toArray, List.set_cons_succ, List.set_cons_zero]
  cases b1
  · (refine H.y_pure rfl _ ?_ rfl (by simp) ?_ ?_ ; rotate_left ; · (intro w8 K hK ; go_wp2_with fail ; exact rfl))
    simp only [Act.put, List.setIfInBounds_toArray, List.set_cons_succ, List.set_cons_zero]
    first | ((with_reducible refine H.y_skip ?_ ?_) ; (focus rfl)) | (refine H.y_pure rfl _ ?_ rfl (by simp) ?_ ?_ ; rotate_left ; · (intro w8 K hK ; go_wp2_with fail ; exact rfl))
    simp only [Act.put, List.setIfInBounds_toArray, List.set_cons_succ, List.set_cons_zero]
    first | ((with_reducible refine H.y_skip ?_ ?_) ; (focus rfl)) | (refine H.y_pure rfl _ ?_ rfl (by simp) ?_ ?_ ; rotate_left ; · (intro w8 K hK ; go_wp2_with fail ; exact rfl))
    simp only [Act.put, List.setIfInBounds_toArray, List.set_cons_succ, List.set_cons_zero]
    first | ((with_reducible refine H.y_skip ?_ ?_) ; (focus rfl)) | (refine H.y_pure rfl _ ?_ rfl (by simp) ?_ ?_ ; rotate_left ; · (intro w8 K hK ; go_wp2_with fail ; exact rfl))
    simp only [Act.put, List.setIfInBounds_toArray, List.set_cons_succ, List.set_cons_zero]
    first | ((with_reducible refine H.y_skip ?_ ?_) ; (focus rfl)) | (refine H.y_pure rfl _ ?_ rfl (by simp) ?_ ?_ ; rotate_left ; · (intro w8 K hK ; go_wp2_with fail ; exact rfl))
    simp only [Act.put, List.setIfInBounds_toArray, List.set_cons_succ, List.set_cons_zero]
    first | ((with_reducible refine H.y_skip ?_ ?_) ; (focus rfl)) | (refine H.y_pure rfl _ ?_ rfl (by simp) ?_ ?_ ; rotate_left ; · (intro w8 K hK ; go_wp2_with fail ; exact rfl))
    simp only [Act.put, List.setIfInBounds_toArray, List.set_cons_succ, List.set_cons_zero]
    first | ((with_reducible refine H.y_skip ?_ ?_) ; (focus rfl)) | (refine H.y_pure rfl _ ?_ rfl (by simp) ?_ ?_ ; rotate_left ; · (intro w8 K hK ; go_wp2_with fail ; exact rfl))
    simp only [Act.put, List.setIfInBounds_toArray, List.set_cons_succ, List.set_cons_zero]
    first | ((with_reducible refine H.y_skip ?_ ?_) ; (focus rfl)) | (refine H.y_pure rfl _ ?_ rfl (by simp) ?_ ?_ ; rotate_left ; · (intro w8 K hK ; go_wp2_with fail ; exact rfl))
    simp only [Act.put, List.setIfInBounds_toArray, List.set_cons_succ, List.set_cons_zero]
    first | ((with_reducible refine H.y_skip ?_ ?_) ; (focus rfl)) | (refine H.y_pure rfl _ ?_ rfl (by simp) ?_ ?_ ; rotate_left ; · (intro w8 K hK ; go_wp2_with fail ; exact rfl))
    simp only [Act.put, List.setIfInBounds_toArray, List.set_cons_succ, List.set_cons_zero]
    first | ((with_reducible refine H.y_skip ?_ ?_) ; (focus rfl)) | (refine H.y_pure rfl _ ?_ rfl (by simp) ?_ ?_ ; rotate_left ; · (intro w8 K hK ; go_wp2_with fail ; exact rfl))
    simp only [Act.put, List.setIfInBounds_toArray, List.set_cons_succ, List.set_cons_zero]
    first | ((with_reducible refine H.y_skip ?_ ?_) ; (focus rfl)) | (refine H.y_pure rfl _ ?_ rfl (by simp) ?_ ?_ ; rotate_left ; · (intro w8 K hK ; go_wp2_with fail ; exact rfl))
    simp only [Act.put, List.setIfInBounds_toArray, List.set_cons_succ, List.set_cons_zero]
    first | ((with_reducible refine H.y_skip ?_ ?_) ; (focus rfl)) | (refine H.y_pure rfl _ ?_ rfl (by simp) ?_ ?_ ; rotate_left ; · (intro w8 K hK ; go_wp2_with fail ; exact rfl))
    simp only [Act.put, List.setIfInBounds_toArray, List.set_cons_succ, List.set_cons_zero]
    first | ((with_reducible refine H.y_skip ?_ ?_) ; (focus rfl)) | (refine H.y_pure rfl _ ?_ rfl (by simp) ?_ ?_ ; rotate_left ; · (intro w8 K hK ; go_wp2_with fail ; exact rfl))
    simp only [Act.put, List.setIfInBounds_toArray, List.set_cons_succ, List.set_cons_zero]
    first | ((with_reducible refine H.y_skip ?_ ?_) ; (focus rfl)) | (refine H.y_pure rfl _ ?_ rfl (by simp) ?_ ?_ ; rotate_left ; · (intro w8 K hK ; go_wp2_with fail ; exact rfl))
    simp only [Act.put, List.setIfInBounds_toArray, List.set_cons_succ, List.set_cons_zero]
    first | ((with_reducible refine H.y_skip ?_ ?_) ; (focus rfl)) | (refine H.y_pure rfl _ ?_ rfl (by simp) ?_ ?_ ; rotate_left ; · (intro w8 K hK ; go_wp2_with fail ; exact rfl))
    simp only [Act.put, List.setIfInBounds_toArray, List.set_cons_succ, List.set_cons_zero]
    first | ((with_reducible refine H.y_skip ?_ ?_) ; (focus rfl)) | (refine H.y_pure rfl _ ?_ rfl (by simp) ?_ ?_ ; rotate_left ; · (intro w8 K hK ; go_wp2_with fail ; exact rfl))
    simp only [Act.put, List.setIfInBounds_toArray, List.set_cons_succ, List.set_cons_zero]
    first | ((with_reducible refine H.y_skip ?_ ?_) ; (focus rfl)) | (refine H.y_pure rfl _ ?_ rfl (by simp) ?_ ?_ ; rotate_left ; · (intro w8 K hK ; go_wp2_with fail ; exact rfl))
    simp only [Act.put, List.setIfInBounds_toArray, List.set_cons_succ, List.set_cons_zero]
    first | ((with_reducible refine H.y_skip ?_ ?_) ; (focus rfl)) | (refine H.y_pure rfl _ ?_ rfl (by simp) ?_ ?_ ; rotate_left ; · (intro w8 K hK ; go_wp2_with fail ; exact rfl))
    simp only [Act.put, List.setIfInBounds_toArray, List.set_cons_succ, List.set_cons_zero]
    first | ((with_reducible refine H.y_skip ?_ ?_) ; (focus rfl)) | (refine H.y_pure rfl _ ?_ rfl (by simp) ?_ ?_ ; rotate_left ; · (intro w8 K hK ; go_wp2_with fail ; exact rfl))
    simp only [Act.put, List.setIfInBounds_toArray, List.set_cons_succ, List.set_cons_zero]
    first | ((with_reducible refine H.y_skip ?_ ?_) ; (focus rfl)) | (refine H.y_pure rfl _ ?_ rfl (by simp) ?_ ?_ ; rotate_left ; · (intro w8 K hK ; go_wp2_with fail ; exact rfl))
    simp only [Act.put, List.setIfInBounds_toArray, List.set_cons_succ, List.set_cons_zero]
    first | ((with_reducible refine H.y_skip ?_ ?_) ; (focus rfl)) | (refine H.y_pure rfl _ ?_ rfl (by simp) ?_ ?_ ; rotate_left ; · (intro w8 K hK ; go_wp2_with fail ; exact rfl))
    simp only [Act.put, List.setIfInBounds_toArray, List.set_cons_succ, List.set_cons_zero]
    (refine H.y_pure rfl _ ?_ rfl (by simp) ?_ ?_ ; rotate_left ; · (intro w8 K hK ; go_wp2_with fail ; exact rfl))
    simp only [Act.put, List.setIfInBounds_toArray, List.set_cons_succ, List.set_cons_zero]
    (refine H.y_pure rfl _ ?_ rfl (by simp) ?_ ?_ ; rotate_left ; · (intro w8 K hK ; go_wp2_with fail ; exact rfl))
    simp only [Act.put, List.setIfInBounds_toArray, List.set_cons_succ, List.set_cons_zero]
    first | ((with_reducible refine H.y_skip ?_ ?_) ; (focus rfl)) | (refine H.y_pure rfl _ ?_ rfl (by simp) ?_ ?_ ; rotate_left ; · (intro w8 K hK ; go_wp2_with fail ; exact rfl))
    simp only [Act.put, List.setIfInBounds_toArray, List.set_cons_succ, List.set_cons_zero]
    first | ((with_reducible refine H.y_skip ?_ ?_) ; (focus rfl)) | (refine H.y_pure rfl _ ?_ rfl (by simp) ?_ ?_ ; rotate_left ; · (intro w8 K hK ; go_wp2_with fail ; exact rfl))
    simp only [Act.put, List.setIfInBounds_toArray, List.set_cons_succ, List.set_cons_zero]
    first | ((with_reducible refine H.y_skip ?_ ?_) ; (focus rfl)) | (refine H.y_pure rfl _ ?_ rfl (by simp) ?_ ?_ ; rotate_left ; · (intro w8 K hK ; go_wp2_with fail ; exact rfl))
    simp only [Act.put, List.setIfInBounds_toArray, List.set_cons_succ, List.set_cons_zero]
    first | ((with_reducible refine H.y_skip ?_ ?_) ; (focus rfl)) | (refine H.y_pure rfl _ ?_ rfl (by simp) ?_ ?_ ; rotate_left ; · (intro w8 K hK ; go_wp2_with fail ; exact rfl))
    simp only [Act.put, List.setIfInBounds_toArray, List.set_cons_succ, List.set_cons_zero]
    first | ((with_reducible refine H.y_skip ?_ ?_) ; (focus rfl)) | (refine H.y_pure rfl _ ?_ rfl (by simp) ?_ ?_ ; rotate_left ; · (intro w8 K hK ; go_wp2_with fail ; exact rfl))
    simp only [Act.put, List.setIfInBounds_toArray, List.set_cons_succ, List.set_cons_zero]
    first | ((with_reducible refine H.y_skip ?_ ?_) ; (focus rfl)) | (refine H.y_pure rfl _ ?_ rfl (by simp) ?_ ?_ ; rotate_left ; · (intro w8 K hK ; go_wp2_with fail ; exact rfl))
    simp only [Act.put, List.setIfInBounds_toArray, List.set_cons_succ, List.set_cons_zero]
    first | ((with_reducible refine H.y_skip ?_ ?_) ; (focus rfl)) | (refine H.y_pure rfl _ ?_ rfl (by simp) ?_ ?_ ; rotate_left ; · (intro w8 K hK ; go_wp2_with fail ; exact rfl))
    simp only [Act.put, List.setIfInBounds_toArray, List.set_cons_succ, List.set_cons_zero]
    first | ((with_reducible refine H.y_skip ?_ ?_) ; (focus rfl)) | (refine H.y_pure rfl _ ?_ rfl (by simp) ?_ ?_ ; rotate_left ; · (intro w8 K hK ; go_wp2_with fail ; exact rfl))
    simp only [Act.put, List.setIfInBounds_toArray, List.set_cons_succ, List.set_cons_zero]
    first | ((with_reducible refine H.y_skip ?_ ?_) ; (focus rfl)) | (refine H.y_pure rfl _ ?_ rfl (by simp) ?_ ?_ ; rotate_left ; · (intro w8 K hK ; go_wp2_with fail ; exact rfl))
    simp only [Act.put, List.setIfInBounds_toArray, List.set_cons_succ, List.set_cons_zero]
    first | ((with_reducible refine H.y_skip ?_ ?_) ; (focus rfl)) | (refine H.y_pure rfl _ ?_ rfl (by simp) ?_ ?_ ; rotate_left ; · (intro w8 K hK ; go_wp2_with fail ; exact rfl))
    simp only [Act.put, List.setIfInBounds_toArray, List.set_cons_succ, List.set_cons_zero]
    first | ((with_reducible refine H.y_skip ?_ ?_) ; (focus rfl)) | (refine H.y_pure rfl _ ?_ rfl (by simp) ?_ ?_ ; rotate_left ; · (intro w8 K hK ; go_wp2_with fail ; exact rfl))
    simp only [Act.put, List.setIfInBounds_toArray, List.set_cons_succ, List.set_cons_zero]
    first | ((with_reducible refine H.y_skip ?_ ?_) ; (focus rfl)) | (refine H.y_pure rfl _ ?_ rfl (by simp) ?_ ?_ ; rotate_left ; · (intro w8 K hK ; go_wp2_with fail ; exact rfl))
    simp only [Act.put, List.setIfInBounds_toArray, List.set_cons_succ, List.set_cons_zero]
    first | ((with_reducible refine H.y_skip ?_ ?_) ; (focus rfl)) | (refine H.y_pure rfl _ ?_ rfl (by simp) ?_ ?_ ; rotate_left ; · (intro w8 K hK ; go_wp2_with fail ; exact rfl))
    simp only [Act.put, List.setIfInBounds_toArray, List.set_cons_succ, List.set_cons_zero]
    first | ((with_reducible refine H.y_skip ?_ ?_) ; (focus rfl)) | (refine H.y_pure rfl _ ?_ rfl (by simp) ?_ ?_ ; rotate_left ; · (intro w8 K hK ; go_wp2_with fail ; exact rfl))
    simp only [Act.put, List.setIfInBounds_toArray, List.set_cons_succ, List.set_cons_zero]
    first | ((with_reducible refine H.y_skip ?_ ?_) ; (focus rfl)) | (refine H.y_pure rfl _ ?_ rfl (by simp) ?_ ?_ ; rotate_left ; · (intro w8 K hK ; go_wp2_with fail ; exact rfl))
    simp only [Act.put, List.setIfInBounds_toArray, List.set_cons_succ, List.set_cons_zero]
    (refine H.y_pure rfl _ ?_ rfl (by simp) ?_ ?_ ; rotate_left ; · (intro w8 K hK ; go_wp2_with fail ; exact rfl))
    simp only [Act.put, List.setIfInBounds_toArray, List.set_cons_succ, List.set_cons_zero]
    (refine H.y_pure rfl _ ?_ rfl (by simp) ?_ ?_ ; rotate_left ; · (intro w8 K hK ; go_wp2_with fail ; exact rfl))
    simp only [Act.put, List.setIfInBounds_toArray, List.set_cons_succ, List.set_cons_zero]
    first | refine H.y_nil ?_ | refine H.y_end ?_
    rintro wy hyb
    have HZ := Lib.hid (HE.out.stop (k' := k0 + (cutR i j tl.rows).length + (cutR 0 (j - tl.size - 1) tr.rows).length) HY.out.ox hyb)
    clear hyb HE hSt hDC
    gi_wp2
    go_ret
    exact ⟨false, rfl, HZ.out⟩
  have HT1 : Hid (J (k0 + (cutR i j tl.rows).length) w9 ∧ KeepT p T W w9) := HE.out.2
  (refine H.y_pure rfl _ ?_ rfl (by simp) ?_ ?_ ; rotate_left ; · (intro w8 K hK ; go_wp2_with fail ; exact rfl))
  simp only [Act.put, List.setIfInBounds_toArray, List.set_cons_succ, List.set_cons_zero]
  first | ((with_reducible refine H.y_skip ?_ ?_) ; (focus rfl)) | (refine H.y_pure rfl _ ?_ rfl (by simp) ?_ ?_ ; rotate_left ; · (intro w8 K hK ; go_wp2_with fail ; exact rfl))
  simp only [Act.put, List.setIfInBounds_toArray, List.set_cons_succ, List.set_cons_zero]
  first | ((with_reducible refine H.y_skip ?_ ?_) ; (focus rfl)) | (refine H.y_pure rfl _ ?_ rfl (by simp) ?_ ?_ ; rotate_left ; · (intro w8 K hK ; go_wp2_with fail ; exact rfl))
  simp only [Act.put, List.setIfInBounds_toArray, List.set_cons_succ, List.set_cons_zero]
  first | ((with_reducible refine H.y_skip ?_ ?_) ; (focus rfl)) | (refine H.y_pure rfl _ ?_ rfl (by simp) ?_ ?_ ; rotate_left ; · (intro w8 K hK ; have d := HD1.out ; go_wp2_with fail ; exact rfl))
  simp only [Act.put, List.setIfInBounds_toArray, List.set_cons_succ, List.set_cons_zero]
  first | ((with_reducible refine H.y_skip ?_ ?_) ; (focus rfl)) | (refine H.y_pure rfl _ ?_ rfl (by simp) ?_ ?_ ; rotate_left ; · (intro w8 K hK ; go_wp2_with fail ; exact rfl))
  simp only [Act.put, List.setIfInBounds_toArray, List.set_cons_succ, List.set_cons_zero]
  first | ((with_reducible refine H.y_skip ?_ ?_) ; (focus rfl)) | (refine H.y_pure rfl _ ?_ rfl (by simp) ?_ ?_ ; rotate_left ; · (intro w8 K hK ; go_wp2_with fail ; exact rfl))
  simp only [Act.put, List.setIfInBounds_toArray, List.set_cons_succ, List.set_cons_zero]
  first | ((with_reducible refine H.y_skip ?_ ?_) ; (focus rfl)) | (refine H.y_pure rfl _ ?_ rfl (by simp) ?_ ?_ ; rotate_left ; · (intro w8 K hK ; go_wp2_with fail ; exact rfl))
  simp only [Act.put, List.setIfInBounds_toArray, List.set_cons_succ, List.set_cons_zero]
  first | ((with_reducible refine H.y_skip ?_ ?_) ; (focus rfl)) | (refine H.y_pure rfl _ ?_ rfl (by simp) ?_ ?_ ; rotate_left ; · (intro w8 K hK ; have d := HD2.out ; go_wp2_with fail ; exact rfl))
  simp only [Act.put, List.setIfInBounds_toArray, List.set_cons_succ, List.set_cons_zero]
  first | ((with_reducible refine H.y_skip ?_ ?_) ; (focus rfl)) | (refine H.y_pure rfl _ ?_ rfl (by simp) ?_ ?_ ; rotate_left ; · (intro w8 K hK ; go_wp2_with fail ; exact rfl))
  simp only [Act.put, List.setIfInBounds_toArray, List.set_cons_succ, List.set_cons_zero]
  first | ((with_reducible refine H.y_skip ?_ ?_) ; (focus rfl)) | (refine H.y_pure rfl _ ?_ rfl (by simp) ?_ ?_ ; rotate_left ; · (intro w8 K hK ; go_wp2_with fail ; exact rfl))
  simp only [Act.put, List.setIfInBounds_toArray, List.set_cons_succ, List.set_cons_zero]
  first | ((with_reducible refine H.y_skip ?_ ?_) ; (focus rfl)) | (refine H.y_pure rfl _ ?_ rfl (by simp) ?_ ?_ ; rotate_left ; · (intro w8 K hK ; go_wp2_with fail ; exact rfl))
  simp only [Act.put, List.setIfInBounds_toArray, List.set_cons_succ, List.set_cons_zero]
  first | ((with_reducible refine H.y_skip ?_ ?_) ; (focus rfl)) | (refine H.y_pure rfl _ ?_ rfl (by simp) ?_ ?_ ; rotate_left ; · (intro w8 K hK ; go_wp2_with fail ; exact rfl))
  simp only [Act.put, List.setIfInBounds_toArray, List.set_cons_succ, List.set_cons_zero]
  first | ((with_reducible refine H.y_skip ?_ ?_) ; (focus rfl)) | (refine H.y_pure rfl _ ?_ rfl (by simp) ?_ ?_ ; rotate_left ; · (intro w8 K hK ; go_wp2_with fail ; exact rfl))
  simp only [Act.put, List.setIfInBounds_toArray, List.set_cons_succ, List.set_cons_zero]
  first | ((with_reducible refine H.y_skip ?_ ?_) ; (focus rfl)) | (refine H.y_pure rfl _ ?_ rfl (by simp) ?_ ?_ ; rotate_left ; · (intro w8 K hK ; go_wp2_with fail ; exact rfl))
  simp only [Act.put, List.setIfInBounds_toArray, List.set_cons_succ, List.set_cons_zero]
  first | ((with_reducible refine H.y_skip ?_ ?_) ; (focus rfl)) | (refine H.y_quiet rfl (stable_ext _) (fun _ hd => HT1.out.2.trans (KeepT.of_below hd)) _ ?_ rfl (by simp) ?_ ?_ ; rotate_left ; · (intro w8 hC K hK ; have hc := hC ; (first | (have q := blkN (hc.typ _ _ _ _ HY.out.node HL.out.1)) | (have q := blkN (blk_below HL.out.1 hc))) ; go_wp2_with fail ; refine ⟨?_, Below.refl _ _⟩ ; exact rfl))
  simp only [Act.put, List.setIfInBounds_toArray, List.set_cons_succ, List.set_cons_zero]
  first | ((with_reducible refine H.y_skip ?_ ?_) ; (focus rfl)) | (refine H.y_pure rfl _ ?_ rfl (by simp) ?_ ?_ ; rotate_left ; · (intro w8 K hK ; go_wp2_with fail ; exact rfl))
  simp only [Act.put, List.setIfInBounds_toArray, List.set_cons_succ, List.set_cons_zero]
  first | ((with_reducible refine H.y_skip ?_ ?_) ; (focus rfl)) | (refine H.y_pure rfl _ ?_ rfl (by simp) ?_ ?_ ; rotate_left ; · (intro w8 K hK ; go_wp2_with fail ; exact rfl))
  simp only [Act.put, List.setIfInBounds_toArray, List.set_cons_succ, List.set_cons_zero]
  first | ((with_reducible refine H.y_skip ?_ ?_) ; (focus rfl)) | (refine H.y_pure rfl _ ?_ rfl (by simp) ?_ ?_ ; rotate_left ; · (intro w8 K hK ; go_wp2_with fail ; exact rfl))
  simp only [Act.put, List.setIfInBounds_toArray, List.set_cons_succ, List.set_cons_zero]
  first | ((with_reducible refine H.y_skip ?_ ?_) ; (focus rfl)) | (refine H.y_quiet rfl (stable_ext _) (fun _ hd => HT1.out.2.trans (KeepT.of_below hd)) _ ?_ rfl (by simp) ?_ ?_ ; rotate_left ; · (intro w8 hC K hK ; have hc := hC ; (first | (have q := blkN (hc.typ _ _ _ _ HY.out.node HL.out.1)) | (have q := blkN (blk_below HL.out.1 hc))) ; go_wp2_with fail ; refine ⟨?_, Below.refl _ _⟩ ; exact rfl))
  simp only [Act.put, List.setIfInBounds_toArray, List.set_cons_succ, List.set_cons_zero]
  (with_reducible refine H.y_skip ?_ ?_) ; (focus rfl)
  simp only [Act.put, List.setIfInBounds_toArray, List.set_cons_succ, List.set_cons_zero]
  first | ((with_reducible refine H.y_skip ?_ ?_) ; (focus rfl)) | (refine H.y_pure rfl _ ?_ rfl (by simp) ?_ ?_ ; rotate_left ; · (intro w8 K hK ; go_wp2_with fail ; exact rfl))
  simp only [Act.put, List.setIfInBounds_toArray, List.set_cons_succ, List.set_cons_zero]
  (refine H.y_pure rfl _ ?_ rfl (by simp) ?_ ?_ ; rotate_left ; · (intro w8 K hK ; go_wp2_with fail ; exact rfl))
  simp only [Act.put, List.setIfInBounds_toArray, List.set_cons_succ, List.set_cons_zero]
  (refine H.y_pure rfl _ ?_ rfl (by simp) ?_ ?_ ; rotate_left ; · (intro w8 K hK ; go_wp2_with fail ; exact rfl))
  simp only [Act.put, List.setIfInBounds_toArray, List.set_cons_succ, List.set_cons_zero]
  first | ((with_reducible refine H.y_skip ?_ ?_) ; (focus rfl)) | (refine H.y_pure rfl _ ?_ rfl (by simp) ?_ ?_ ; rotate_left ; · (intro w8 K hK ; go_wp2_with fail ; exact rfl))
  simp only [Act.put, List.setIfInBounds_toArray, List.set_cons_succ, List.set_cons_zero]
  first | ((with_reducible refine H.y_skip ?_ ?_) ; (focus rfl)) | (refine H.y_pure rfl _ ?_ rfl (by simp) ?_ ?_ ; rotate_left ; · (intro w8 K hK ; go_wp2_with fail ; exact rfl))
  simp only [Act.put, List.setIfInBounds_toArray, List.set_cons_succ, List.set_cons_zero]
  first | ((with_reducible refine H.y_skip ?_ ?_) ; (focus rfl)) | (refine H.y_pure rfl _ ?_ rfl (by simp) ?_ ?_ ; rotate_left ; · (intro w8 K hK ; go_wp2_with fail ; exact rfl))
  simp only [Act.put, List.setIfInBounds_toArray, List.set_cons_succ, List.set_cons_zero]
  first | ((with_reducible refine H.y_skip ?_ ?_) ; (focus rfl)) | (refine H.y_quiet rfl (stable_ext _) (fun _ hd => HT1.out.2.trans (KeepT.of_below hd)) _ ?_ rfl (by simp) ?_ ?_ ; rotate_left ; · (intro w8 hC K hK ; have hc := hC ; (first | (have q := blkN (hc.typ _ _ _ _ HY.out.node HL.out.1)) | (have q := blkN (blk_below HL.out.1 hc))) ; go_wp2_with fail ; refine ⟨?_, Below.refl _ _⟩ ; exact rfl))
  simp only [Act.put, List.setIfInBounds_toArray, List.set_cons_succ, List.set_cons_zero]
  first | ((with_reducible refine H.y_skip ?_ ?_) ; (focus rfl)) | (refine H.y_pure rfl _ ?_ rfl (by simp) ?_ ?_ ; rotate_left ; · (intro w8 K hK ; go_wp2_with fail ; exact rfl))
  simp only [Act.put, List.setIfInBounds_toArray, List.set_cons_succ, List.set_cons_zero]
  first | ((with_reducible refine H.y_skip ?_ ?_) ; (focus rfl)) | (refine H.y_pure rfl _ ?_ rfl (by simp) ?_ ?_ ; rotate_left ; · (intro w8 K hK ; go_wp2_with fail ; exact rfl))
  simp only [Act.put, List.setIfInBounds_toArray, List.set_cons_succ, List.set_cons_zero]
  first | ((with_reducible refine H.y_skip ?_ ?_) ; (focus rfl)) | (refine H.y_pure rfl _ ?_ rfl (by simp) ?_ ?_ ; rotate_left ; · (intro w8 K hK ; go_wp2_with fail ; exact rfl))
  simp only [Act.put, List.setIfInBounds_toArray, List.set_cons_succ, List.set_cons_zero]
  first | ((with_reducible refine H.y_skip ?_ ?_) ; (focus rfl)) | (refine H.y_pure rfl _ ?_ rfl (by simp) ?_ ?_ ; rotate_left ; · (intro w8 K hK ; go_wp2_with fail ; exact rfl))
  simp only [Act.put, List.setIfInBounds_toArray, List.set_cons_succ, List.set_cons_zero]
  first | ((with_reducible refine H.y_skip ?_ ?_) ; (focus rfl)) | (refine H.y_pure rfl _ ?_ rfl (by simp) ?_ ?_ ; rotate_left ; · (intro w8 K hK ; go_wp2_with fail ; exact rfl))
  simp only [Act.put, List.setIfInBounds_toArray, List.set_cons_succ, List.set_cons_zero]
  first | ((with_reducible refine H.y_skip ?_ ?_) ; (focus rfl)) | (refine H.y_pure rfl _ ?_ rfl (by simp) ?_ ?_ ; rotate_left ; · (intro w8 K hK ; go_wp2_with fail ; exact rfl))
  simp only [Act.put, List.setIfInBounds_toArray, List.set_cons_succ, List.set_cons_zero]
  first | ((with_reducible refine H.y_skip ?_ ?_) ; (focus rfl)) | (refine H.y_pure rfl _ ?_ rfl (by simp) ?_ ?_ ; rotate_left ; · (intro w8 K hK ; go_wp2_with fail ; exact rfl))
  simp only [Act.put, List.setIfInBounds_toArray, List.set_cons_succ, List.set_cons_zero]
  first | ((with_reducible refine H.y_skip ?_ ?_) ; (focus rfl)) | (refine H.y_pure rfl _ ?_ rfl (by simp) ?_ ?_ ; rotate_left ; · (intro w8 K hK ; go_wp2_with fail ; exact rfl))
  simp only [Act.put, List.setIfInBounds_toArray, List.set_cons_succ, List.set_cons_zero]
  first | ((with_reducible refine H.y_skip ?_ ?_) ; (focus rfl)) | (refine H.y_pure rfl _ ?_ rfl (by simp) ?_ ?_ ; rotate_left ; · (intro w8 K hK ; go_wp2_with fail ; exact rfl))
  simp only [Act.put, List.setIfInBounds_toArray, List.set_cons_succ, List.set_cons_zero]
  first | ((with_reducible refine H.y_skip ?_ ?_) ; (focus rfl)) | (refine H.y_pure rfl _ ?_ rfl (by simp) ?_ ?_ ; rotate_left ; · (intro w8 K hK ; go_wp2_with fail ; exact rfl))
  simp only [Act.put, List.setIfInBounds_toArray, List.set_cons_succ, List.set_cons_zero]
  refine H.y_any rfl ?_
  intro wy hyb K hK
  refine wpIn_of_wp (by intro c h; cases h) ?_
  go_wp2_with fail
  rw [show max (i - (tl.size : Int) - 1) 0 = 0 by omega]
  refine (IR pr 0 (j - tl.size - 1) (k0 + (cutR i j tl.rows).length) wy ⟨(HT1.out.2.trans (KeepT.of_below hyb)).tree HY.out.node HL.out.2.2, by omega, by omega, by omega, by omega, by omega, HP.out.2, OwnFrom.keepOf HY.out.oj HT1.out.1 hyb, by omega⟩).mono ?_
  rintro e7 w7 ⟨b3, rfl, hend⟩
  have HE3 : Hid (WkEnd RR B p T J Jx W (k0 + (cutR i j tl.rows).length + (cutR 0 (j - tl.size - 1) tr.rows).length) b3 w7) := ⟨(HE.out.1.trans (KeepsFrom.of_below _ hyb)).trans hend.1, by cases b3; exact hend.2; exact ⟨hend.2.1, (HT1.out.2.trans (KeepT.of_below hyb)).trans hend.2.2⟩⟩
  clear hend hyb
  refine hK _ _ (fun x => x = w7) rfl ?_
  try simp only [Act.put, List.setIfInBounds_toArray, List.set_cons_succ, List.set_cons_zero]
  (refine H.y_pure rfl _ ?_ rfl (by simp) ?_ ?_ ; rotate_left ; · (intro w8 K hK ; go_wp2_with fail ; exact rfl))
  simp only [Act.put, List.setIfInBounds_toArray, List.set_cons_succ, List.set_cons_zero]
  (refine H.y_pure rfl _ ?_ rfl (by simp) ?_ ?_ ; rotate_left ; · (intro w8 K hK ; go_wp2_with fail ; exact rfl))
  simp only [Act.put, List.setIfInBounds_toArray, List.set_cons_succ, List.set_cons_zero]
  first | refine H.y_nil ?_ | refine H.y_end ?_
  rintro w7 rfl
  clear HE HT1 hSt hDC
  gi_wp2
  go_ret
  exact ⟨b3, rfl, HE3.out⟩
set_option maxHeartbeats 8000000 in
theorem walk_right (l : Nat) (RR : List Row) (B : Nat) (p : Nat → Prop) (T : TypeId → Prop) (J Jx : Nat → World → Prop) (hy : Yl Tryz.prog l RR B p T J Jx) (tl tr : Tr) (k : ByteArray) (e : Ent) (s : T3) (q : Option Nat) (i j : Int) (k0 : Nat) (W : World) (h : WkAt W RR B (.node tl k e s tr) q i j k0 J)
    (hij : i < j) (h2 : (tl.size : Int) < i) (IL : IHw Tryz.prog l RR B p T J Jx tl) (IR : IHw Tryz.prog l RR B p T J Jx tr) :
    Calls Tryz.prog 126 #[.pointer (pa q), .int .i64 i, .int .i64 j, .func (.yield l) #[] #[]] W (WkOf RR B p T J Jx W (k0 + (cutR i j (Tr.node tl k e s tr).rows).length)) := by
  have hcut : cutR i j (Tr.node tl k e s tr).rows = cutR i tl.size tl.rows ++ cutR (i - tl.size - 1) (j - tl.size - 1) tr.rows := by
    show cutR i j (tl.rows ++ (k, e, s) :: tr.rows) = _
    rw [cutR_append h.i0, Tr.rows_length, if_neg (by omega), show min j (tl.size : Int) = tl.size by omega, show max (i - (tl.size : Int) - 1) 0 = (i - tl.size - 1) by omega, List.append_nil]
  have hpre := h.pre
  rw [hcut] at hpre ⊢
  have hk1 : (cutR i tl.size tl.rows).length ≤ RR.length - k0 := by have := (pre_two hpre).1.length_le; rwa [List.length_drop] at this
  have HP := Lib.hid (pre_two hpre)
  have hln : k0 + (cutR i tl.size tl.rows ++ cutR (i - tl.size - 1) (j - tl.size - 1) tr.rows).length = k0 + (cutR i tl.size tl.rows).length + (cutR (i - tl.size - 1) (j - tl.size - 1) tr.rows).length := by simp; omega
  rw [hln]
  clear hcut hpre hln
  have HD1 : Hid (decide ((tl.size : Int) < i) = true) := by simp only [Hid, decide_eq_true_eq]; omega
  have HD2 : Hid (decide (j ≤ (tl.size : Int)) = false) := by simp only [Hid, decide_eq_false_iff_not]; omega
  have j0 := h.j0
  have j1 := h.j1
  have i0 := h.i0
  have i1 := h.i1
  have hlen := h.size
  have hfew := h.few
  simp only [Tr.size] at j0 hlen
  obtain ⟨g, pl, pr, rfl, hbl, hl, hr⟩ := h.tt
  have q := blkN hbl
  have HL : Hid (Kids W g tl k e s tr pl pr) := ⟨hbl, hl, hr⟩
  have HJ := Lib.hid h.jj
  have HY := Lib.hid hy
  clear h hbl hl hr hy
  rw [pa_some]
  refine (callsIn_wide (n := 3)).1 (callsIn_of_wp Tryz.func126 rfl trivial ?_ rfl)
  simp only [Tryz.ntmps126, List.size_toArray, List.length_cons, List.length_nil, Nat.reduceAdd, Nat.reduceSub, Array.replicate_succ, Array.replicate_zero, List.push_toArray, List.append_toArray, List.nil_append, List.cons_append]
  gi_wp2_with (refine ⟨trivial, ?_⟩; gi_at_call 124; refine (callsIn_wide.2 (many_any tl pl W HL.out.2.1)).mono ?_; rintro e2 W ⟨rfl, rfl⟩)
  have hDC : ∀ zw : World, (Below W.heap.size W zw) → (fun w8 : World => (KeepT p T W w8)) zw := fun _ h => KeepT.of_below h
  have hSt : Stable (fun w8 : World => Below W.heap.size W w8) := by repeat (first | exact stable_ext _ | exact stable_blk _ _ | exact stable_true | refine Stable.and ?_ ?_)
  refine H.wpIn_region_y (D0 := fun w8 : World => Below W.heap.size W w8) (none) [0, 1, 2, 3, 4, 5, 6, 7, 8, 9, 10, 11, 12, 13, 14, 15, 16, 17, 18, 19, 20, 21, 22, 23, 24, 25, 26, 27, 28, 29, 30, 31, 32, 33, 34, 35, 36, 37, 38, 39, 40, 41, 42, 43, 44, 45, 46, 47, 48, 49] [0, 0, 0, 1, 0, 0, 0, 0, 0, 3, 0, 0, 0, 0, 0, 0, 0, 0, 0, 0, 0, 0, 0, 0, 1, 0, 0, 0, 1, 3, 0, 0, 0, 0, 0, 0, 1, 0, 0, 0, 0, 0, 0, 0, 0, 0, 0, 3, 0, 0] (fun w8 => (KeepT p T W w8)) (by kernel_rfl) (by kernel_rfl) ?_ ?_
  · (exact (Below.refl _ _).drew)
  simp only [List.map_cons, List.map_nil, List.getD_cons_zero, List.getD_cons_succ]
  (refine H.y_pure rfl _ ?_ rfl (by simp) ?_ ?_ ; rotate_left ; · (intro w8 K hK ; go_wp2_with fail ; exact rfl))
  simp only [Act.put, List.setIfInBounds_toArray, List.set_cons_succ, List.set_cons_zero]
  (refine H.y_pure rfl _ ?_ rfl (by simp) ?_ ?_ ; rotate_left ; · (intro w8 K hK ; go_wp2_with fail ; exact rfl))
  simp only [Act.put, List.setIfInBounds_toArray, List.set_cons_succ, List.set_cons_zero]
  (refine H.y_pure rfl _ ?_ rfl (by simp) ?_ ?_ ; rotate_left ; · (intro w8 K hK ; go_wp2_with fail ; exact rfl))
  simp only [Act.put, List.setIfInBounds_toArray, List.set_cons_succ, List.set_cons_zero]
  (refine H.y_quiet rfl hSt hDC _ ?_ rfl (by simp) ?_ ?_ ; rotate_left ; · (intro w8 hC K hK ; have hc := hC ; (first | (have q := blkN (hc.typ _ _ _ _ HY.out.node HL.out.1)) | (have q := blkN (blk_below HL.out.1 hc))) ; go_wp2_with fail ; refine ⟨?_, Below.refl _ _⟩ ; exact rfl))
  simp only [Act.put, List.setIfInBounds_toArray, List.set_cons_succ, List.set_cons_zero]
  (refine H.y_pure rfl _ ?_ rfl (by simp) ?_ ?_ ; rotate_left ; · (intro w8 K hK ; go_wp2_with fail ; exact rfl))
  simp only [Act.put, List.setIfInBounds_toArray, List.set_cons_succ, List.set_cons_zero]
  (refine H.y_pure rfl _ ?_ rfl (by simp) ?_ ?_ ; rotate_left ; · (intro w8 K hK ; go_wp2_with fail ; exact rfl))
  simp only [Act.put, List.setIfInBounds_toArray, List.set_cons_succ, List.set_cons_zero]
  (refine H.y_pure rfl _ ?_ rfl (by simp) ?_ ?_ ; rotate_left ; · (intro w8 K hK ; go_wp2_with fail ; exact rfl))
  simp only [Act.put, List.setIfInBounds_toArray, List.set_cons_succ, List.set_cons_zero]
  (refine H.y_pure rfl _ ?_ rfl (by simp) ?_ ?_ ; rotate_left ; · (intro w8 K hK ; go_wp2_with fail ; exact rfl))
  simp only [Act.put, List.setIfInBounds_toArray, List.set_cons_succ, List.set_cons_zero]
  (refine H.y_pure rfl _ ?_ rfl (by simp) ?_ ?_ ; rotate_left ; · (intro w8 K hK ; go_wp2_with fail ; exact rfl))
  simp only [Act.put, List.setIfInBounds_toArray, List.set_cons_succ, List.set_cons_zero]
  refine H.y_any rfl ?_
  intro w8 hD K hK ; have hc := hD ; (first | (have q := blkN (hc.typ _ _ _ _ HY.out.node HL.out.1)) | (have q := blkN (blk_below HL.out.1 hc)))
  refine wpIn_of_wp (by intro c h; cases h) ?_
  go_wp2_with fail
  rw [show min j (tl.size : Int) = tl.size by omega]
  refine (IL pl i tl.size k0 w8 ⟨HL.out.2.1.below hc, i0, i1, by omega, by omega, by omega, HP.out.1, OwnFrom.keepOf HY.out.oj HJ.out hc, hfew⟩).mono ?_
  rintro e9 w9 ⟨b1, rfl, hend⟩
  have HE : Hid (WkEnd RR B p T J Jx W (k0 + (cutR i tl.size tl.rows).length) b1 w9) := ⟨(KeepsFrom.of_below _ hc).trans hend.1, by cases b1; exact hend.2; exact ⟨hend.2.1, (KeepT.of_below hc).trans hend.2.2⟩⟩
  clear hend q hc hD
  refine hK _ _ (fun x => Below w9.heap.size w9 x) (Below.refl _ _) ?_
  try simp only [Act.put, List.setIfInBounds_toArray, List.set_cons_succ, List.set_cons_zero]
  cases b1
  · (refine H.y_pure rfl _ ?_ rfl (by simp) ?_ ?_ ; rotate_left ; · (intro w8 K hK ; go_wp2_with fail ; exact rfl))
    simp only [Act.put, List.setIfInBounds_toArray, List.set_cons_succ, List.set_cons_zero]
    first | ((with_reducible refine H.y_skip ?_ ?_) ; (focus rfl)) | (refine H.y_pure rfl _ ?_ rfl (by simp) ?_ ?_ ; rotate_left ; · (intro w8 K hK ; go_wp2_with fail ; exact rfl))
    simp only [Act.put, List.setIfInBounds_toArray, List.set_cons_succ, List.set_cons_zero]
    first | ((with_reducible refine H.y_skip ?_ ?_) ; (focus rfl)) | (refine H.y_pure rfl _ ?_ rfl (by simp) ?_ ?_ ; rotate_left ; · (intro w8 K hK ; go_wp2_with fail ; exact rfl))
    simp only [Act.put, List.setIfInBounds_toArray, List.set_cons_succ, List.set_cons_zero]
    first | ((with_reducible refine H.y_skip ?_ ?_) ; (focus rfl)) | (refine H.y_pure rfl _ ?_ rfl (by simp) ?_ ?_ ; rotate_left ; · (intro w8 K hK ; go_wp2_with fail ; exact rfl))
    simp only [Act.put, List.setIfInBounds_toArray, List.set_cons_succ, List.set_cons_zero]
    first | ((with_reducible refine H.y_skip ?_ ?_) ; (focus rfl)) | (refine H.y_pure rfl _ ?_ rfl (by simp) ?_ ?_ ; rotate_left ; · (intro w8 K hK ; go_wp2_with fail ; exact rfl))
    simp only [Act.put, List.setIfInBounds_toArray, List.set_cons_succ, List.set_cons_zero]
    first | ((with_reducible refine H.y_skip ?_ ?_) ; (focus rfl)) | (refine H.y_pure rfl _ ?_ rfl (by simp) ?_ ?_ ; rotate_left ; · (intro w8 K hK ; go_wp2_with fail ; exact rfl))
    simp only [Act.put, List.setIfInBounds_toArray, List.set_cons_succ, List.set_cons_zero]
    first | ((with_reducible refine H.y_skip ?_ ?_) ; (focus rfl)) | (refine H.y_pure rfl _ ?_ rfl (by simp) ?_ ?_ ; rotate_left ; · (intro w8 K hK ; go_wp2_with fail ; exact rfl))
    simp only [Act.put, List.setIfInBounds_toArray, List.set_cons_succ, List.set_cons_zero]
    first | ((with_reducible refine H.y_skip ?_ ?_) ; (focus rfl)) | (refine H.y_pure rfl _ ?_ rfl (by simp) ?_ ?_ ; rotate_left ; · (intro w8 K hK ; go_wp2_with fail ; exact rfl))
    simp only [Act.put, List.setIfInBounds_toArray, List.set_cons_succ, List.set_cons_zero]
    first | ((with_reducible refine H.y_skip ?_ ?_) ; (focus rfl)) | (refine H.y_pure rfl _ ?_ rfl (by simp) ?_ ?_ ; rotate_left ; · (intro w8 K hK ; go_wp2_with fail ; exact rfl))
    simp only [Act.put, List.setIfInBounds_toArray, List.set_cons_succ, List.set_cons_zero]
    first | ((with_reducible refine H.y_skip ?_ ?_) ; (focus rfl)) | (refine H.y_pure rfl _ ?_ rfl (by simp) ?_ ?_ ; rotate_left ; · (intro w8 K hK ; go_wp2_with fail ; exact rfl))
    simp only [Act.put, List.setIfInBounds_toArray, List.set_cons_succ, List.set_cons_zero]
    first | ((with_reducible refine H.y_skip ?_ ?_) ; (focus rfl)) | (refine H.y_pure rfl _ ?_ rfl (by simp) ?_ ?_ ; rotate_left ; · (intro w8 K hK ; go_wp2_with fail ; exact rfl))
    simp only [Act.put, List.setIfInBounds_toArray, List.set_cons_succ, List.set_cons_zero]
    first | ((with_reducible refine H.y_skip ?_ ?_) ; (focus rfl)) | (refine H.y_pure rfl _ ?_ rfl (by simp) ?_ ?_ ; rotate_left ; · (intro w8 K hK ; go_wp2_with fail ; exact rfl))
    simp only [Act.put, List.setIfInBounds_toArray, List.set_cons_succ, List.set_cons_zero]
    first | ((with_reducible refine H.y_skip ?_ ?_) ; (focus rfl)) | (refine H.y_pure rfl _ ?_ rfl (by simp) ?_ ?_ ; rotate_left ; · (intro w8 K hK ; go_wp2_with fail ; exact rfl))
    simp only [Act.put, List.setIfInBounds_toArray, List.set_cons_succ, List.set_cons_zero]
    first | ((with_reducible refine H.y_skip ?_ ?_) ; (focus rfl)) | (refine H.y_pure rfl _ ?_ rfl (by simp) ?_ ?_ ; rotate_left ; · (intro w8 K hK ; go_wp2_with fail ; exact rfl))
    simp only [Act.put, List.setIfInBounds_toArray, List.set_cons_succ, List.set_cons_zero]
    first | ((with_reducible refine H.y_skip ?_ ?_) ; (focus rfl)) | (refine H.y_pure rfl _ ?_ rfl (by simp) ?_ ?_ ; rotate_left ; · (intro w8 K hK ; go_wp2_with fail ; exact rfl))
    simp only [Act.put, List.setIfInBounds_toArray, List.set_cons_succ, List.set_cons_zero]
    first | ((with_reducible refine H.y_skip ?_ ?_) ; (focus rfl)) | (refine H.y_pure rfl _ ?_ rfl (by simp) ?_ ?_ ; rotate_left ; · (intro w8 K hK ; go_wp2_with fail ; exact rfl))
    simp only [Act.put, List.setIfInBounds_toArray, List.set_cons_succ, List.set_cons_zero]
    first | ((with_reducible refine H.y_skip ?_ ?_) ; (focus rfl)) | (refine H.y_pure rfl _ ?_ rfl (by simp) ?_ ?_ ; rotate_left ; · (intro w8 K hK ; go_wp2_with fail ; exact rfl))
    simp only [Act.put, List.setIfInBounds_toArray, List.set_cons_succ, List.set_cons_zero]
    first | ((with_reducible refine H.y_skip ?_ ?_) ; (focus rfl)) | (refine H.y_pure rfl _ ?_ rfl (by simp) ?_ ?_ ; rotate_left ; · (intro w8 K hK ; go_wp2_with fail ; exact rfl))
    simp only [Act.put, List.setIfInBounds_toArray, List.set_cons_succ, List.set_cons_zero]
    first | ((with_reducible refine H.y_skip ?_ ?_) ; (focus rfl)) | (refine H.y_pure rfl _ ?_ rfl (by simp) ?_ ?_ ; rotate_left ; · (intro w8 K hK ; go_wp2_with fail ; exact rfl))
    simp only [Act.put, List.setIfInBounds_toArray, List.set_cons_succ, List.set_cons_zero]
    first | ((with_reducible refine H.y_skip ?_ ?_) ; (focus rfl)) | (refine H.y_pure rfl _ ?_ rfl (by simp) ?_ ?_ ; rotate_left ; · (intro w8 K hK ; go_wp2_with fail ; exact rfl))
    simp only [Act.put, List.setIfInBounds_toArray, List.set_cons_succ, List.set_cons_zero]
    first | ((with_reducible refine H.y_skip ?_ ?_) ; (focus rfl)) | (refine H.y_pure rfl _ ?_ rfl (by simp) ?_ ?_ ; rotate_left ; · (intro w8 K hK ; go_wp2_with fail ; exact rfl))
    simp only [Act.put, List.setIfInBounds_toArray, List.set_cons_succ, List.set_cons_zero]
    (refine H.y_pure rfl _ ?_ rfl (by simp) ?_ ?_ ; rotate_left ; · (intro w8 K hK ; go_wp2_with fail ; exact rfl))
    simp only [Act.put, List.setIfInBounds_toArray, List.set_cons_succ, List.set_cons_zero]
    (refine H.y_pure rfl _ ?_ rfl (by simp) ?_ ?_ ; rotate_left ; · (intro w8 K hK ; go_wp2_with fail ; exact rfl))
    simp only [Act.put, List.setIfInBounds_toArray, List.set_cons_succ, List.set_cons_zero]
    first | ((with_reducible refine H.y_skip ?_ ?_) ; (focus rfl)) | (refine H.y_pure rfl _ ?_ rfl (by simp) ?_ ?_ ; rotate_left ; · (intro w8 K hK ; go_wp2_with fail ; exact rfl))
    simp only [Act.put, List.setIfInBounds_toArray, List.set_cons_succ, List.set_cons_zero]
    first | ((with_reducible refine H.y_skip ?_ ?_) ; (focus rfl)) | (refine H.y_pure rfl _ ?_ rfl (by simp) ?_ ?_ ; rotate_left ; · (intro w8 K hK ; go_wp2_with fail ; exact rfl))
    simp only [Act.put, List.setIfInBounds_toArray, List.set_cons_succ, List.set_cons_zero]
    first | ((with_reducible refine H.y_skip ?_ ?_) ; (focus rfl)) | (refine H.y_pure rfl _ ?_ rfl (by simp) ?_ ?_ ; rotate_left ; · (intro w8 K hK ; go_wp2_with fail ; exact rfl))
    simp only [Act.put, List.setIfInBounds_toArray, List.set_cons_succ, List.set_cons_zero]
    first | ((with_reducible refine H.y_skip ?_ ?_) ; (focus rfl)) | (refine H.y_pure rfl _ ?_ rfl (by simp) ?_ ?_ ; rotate_left ; · (intro w8 K hK ; go_wp2_with fail ; exact rfl))
    simp only [Act.put, List.setIfInBounds_toArray, List.set_cons_succ, List.set_cons_zero]
    first | ((with_reducible refine H.y_skip ?_ ?_) ; (focus rfl)) | (refine H.y_pure rfl _ ?_ rfl (by simp) ?_ ?_ ; rotate_left ; · (intro w8 K hK ; go_wp2_with fail ; exact rfl))
    simp only [Act.put, List.setIfInBounds_toArray, List.set_cons_succ, List.set_cons_zero]
    first | ((with_reducible refine H.y_skip ?_ ?_) ; (focus rfl)) | (refine H.y_pure rfl _ ?_ rfl (by simp) ?_ ?_ ; rotate_left ; · (intro w8 K hK ; go_wp2_with fail ; exact rfl))
    simp only [Act.put, List.setIfInBounds_toArray, List.set_cons_succ, List.set_cons_zero]
    first | ((with_reducible refine H.y_skip ?_ ?_) ; (focus rfl)) | (refine H.y_pure rfl _ ?_ rfl (by simp) ?_ ?_ ; rotate_left ; · (intro w8 K hK ; go_wp2_with fail ; exact rfl))
    simp only [Act.put, List.setIfInBounds_toArray, List.set_cons_succ, List.set_cons_zero]
    first | ((with_reducible refine H.y_skip ?_ ?_) ; (focus rfl)) | (refine H.y_pure rfl _ ?_ rfl (by simp) ?_ ?_ ; rotate_left ; · (intro w8 K hK ; go_wp2_with fail ; exact rfl))
    simp only [Act.put, List.setIfInBounds_toArray, List.set_cons_succ, List.set_cons_zero]
    first | ((with_reducible refine H.y_skip ?_ ?_) ; (focus rfl)) | (refine H.y_pure rfl _ ?_ rfl (by simp) ?_ ?_ ; rotate_left ; · (intro w8 K hK ; go_wp2_with fail ; exact rfl))
    simp only [Act.put, List.setIfInBounds_toArray, List.set_cons_succ, List.set_cons_zero]
    first | ((with_reducible refine H.y_skip ?_ ?_) ; (focus rfl)) | (refine H.y_pure rfl _ ?_ rfl (by simp) ?_ ?_ ; rotate_left ; · (intro w8 K hK ; go_wp2_with fail ; exact rfl))
    simp only [Act.put, List.setIfInBounds_toArray, List.set_cons_succ, List.set_cons_zero]
    first | ((with_reducible refine H.y_skip ?_ ?_) ; (focus rfl)) | (refine H.y_pure rfl _ ?_ rfl (by simp) ?_ ?_ ; rotate_left ; · (intro w8 K hK ; go_wp2_with fail ; exact rfl))
    simp only [Act.put, List.setIfInBounds_toArray, List.set_cons_succ, List.set_cons_zero]
    first | ((with_reducible refine H.y_skip ?_ ?_) ; (focus rfl)) | (refine H.y_pure rfl _ ?_ rfl (by simp) ?_ ?_ ; rotate_left ; · (intro w8 K hK ; go_wp2_with fail ; exact rfl))
    simp only [Act.put, List.setIfInBounds_toArray, List.set_cons_succ, List.set_cons_zero]
    first | ((with_reducible refine H.y_skip ?_ ?_) ; (focus rfl)) | (refine H.y_pure rfl _ ?_ rfl (by simp) ?_ ?_ ; rotate_left ; · (intro w8 K hK ; go_wp2_with fail ; exact rfl))
    simp only [Act.put, List.setIfInBounds_toArray, List.set_cons_succ, List.set_cons_zero]
    first | ((with_reducible refine H.y_skip ?_ ?_) ; (focus rfl)) | (refine H.y_pure rfl _ ?_ rfl (by simp) ?_ ?_ ; rotate_left ; · (intro w8 K hK ; go_wp2_with fail ; exact rfl))
    simp only [Act.put, List.setIfInBounds_toArray, List.set_cons_succ, List.set_cons_zero]
    first | ((with_reducible refine H.y_skip ?_ ?_) ; (focus rfl)) | (refine H.y_pure rfl _ ?_ rfl (by simp) ?_ ?_ ; rotate_left ; · (intro w8 K hK ; go_wp2_with fail ; exact rfl))
    simp only [Act.put, List.setIfInBounds_toArray, List.set_cons_succ, List.set_cons_zero]
    (refine H.y_pure rfl _ ?_ rfl (by simp) ?_ ?_ ; rotate_left ; · (intro w8 K hK ; go_wp2_with fail ; exact rfl))
    simp only [Act.put, List.setIfInBounds_toArray, List.set_cons_succ, List.set_cons_zero]
    (refine H.y_pure rfl _ ?_ rfl (by simp) ?_ ?_ ; rotate_left ; · (intro w8 K hK ; go_wp2_with fail ; exact rfl))
    simp only [Act.put, List.setIfInBounds_toArray, List.set_cons_succ, List.set_cons_zero]
    first | refine H.y_nil ?_ | refine H.y_end ?_
    rintro wy hyb
    have HZ := Lib.hid (HE.out.stop (k' := k0 + (cutR i tl.size tl.rows).length + (cutR (i - tl.size - 1) (j - tl.size - 1) tr.rows).length) HY.out.ox hyb)
    clear hyb HE hSt hDC
    gi_wp2
    go_ret
    exact ⟨false, rfl, HZ.out⟩
  have HT1 : Hid (J (k0 + (cutR i tl.size tl.rows).length) w9 ∧ KeepT p T W w9) := HE.out.2
  (refine H.y_pure rfl _ ?_ rfl (by simp) ?_ ?_ ; rotate_left ; · (intro w8 K hK ; go_wp2_with fail ; exact rfl))
  simp only [Act.put, List.setIfInBounds_toArray, List.set_cons_succ, List.set_cons_zero]
  first | ((with_reducible refine H.y_skip ?_ ?_) ; (focus rfl)) | (refine H.y_pure rfl _ ?_ rfl (by simp) ?_ ?_ ; rotate_left ; · (intro w8 K hK ; go_wp2_with fail ; exact rfl))
  simp only [Act.put, List.setIfInBounds_toArray, List.set_cons_succ, List.set_cons_zero]
  first | ((with_reducible refine H.y_skip ?_ ?_) ; (focus rfl)) | (refine H.y_pure rfl _ ?_ rfl (by simp) ?_ ?_ ; rotate_left ; · (intro w8 K hK ; go_wp2_with fail ; exact rfl))
  simp only [Act.put, List.setIfInBounds_toArray, List.set_cons_succ, List.set_cons_zero]
  first | ((with_reducible refine H.y_skip ?_ ?_) ; (focus rfl)) | (refine H.y_pure rfl _ ?_ rfl (by simp) ?_ ?_ ; rotate_left ; · (intro w8 K hK ; have d := HD1.out ; go_wp2_with fail ; exact rfl))
  simp only [Act.put, List.setIfInBounds_toArray, List.set_cons_succ, List.set_cons_zero]
  first | ((with_reducible refine H.y_skip ?_ ?_) ; (focus rfl)) | (refine H.y_pure rfl _ ?_ rfl (by simp) ?_ ?_ ; rotate_left ; · (intro w8 K hK ; go_wp2_with fail ; exact rfl))
  simp only [Act.put, List.setIfInBounds_toArray, List.set_cons_succ, List.set_cons_zero]
  first | ((with_reducible refine H.y_skip ?_ ?_) ; (focus rfl)) | (refine H.y_pure rfl _ ?_ rfl (by simp) ?_ ?_ ; rotate_left ; · (intro w8 K hK ; go_wp2_with fail ; exact rfl))
  simp only [Act.put, List.setIfInBounds_toArray, List.set_cons_succ, List.set_cons_zero]
  first | ((with_reducible refine H.y_skip ?_ ?_) ; (focus rfl)) | (refine H.y_pure rfl _ ?_ rfl (by simp) ?_ ?_ ; rotate_left ; · (intro w8 K hK ; go_wp2_with fail ; exact rfl))
  simp only [Act.put, List.setIfInBounds_toArray, List.set_cons_succ, List.set_cons_zero]
  first | ((with_reducible refine H.y_skip ?_ ?_) ; (focus rfl)) | (refine H.y_pure rfl _ ?_ rfl (by simp) ?_ ?_ ; rotate_left ; · (intro w8 K hK ; have d := HD2.out ; go_wp2_with fail ; exact rfl))
  simp only [Act.put, List.setIfInBounds_toArray, List.set_cons_succ, List.set_cons_zero]
  first | ((with_reducible refine H.y_skip ?_ ?_) ; (focus rfl)) | (refine H.y_pure rfl _ ?_ rfl (by simp) ?_ ?_ ; rotate_left ; · (intro w8 K hK ; go_wp2_with fail ; exact rfl))
  simp only [Act.put, List.setIfInBounds_toArray, List.set_cons_succ, List.set_cons_zero]
  first | ((with_reducible refine H.y_skip ?_ ?_) ; (focus rfl)) | (refine H.y_pure rfl _ ?_ rfl (by simp) ?_ ?_ ; rotate_left ; · (intro w8 K hK ; go_wp2_with fail ; exact rfl))
  simp only [Act.put, List.setIfInBounds_toArray, List.set_cons_succ, List.set_cons_zero]
  first | ((with_reducible refine H.y_skip ?_ ?_) ; (focus rfl)) | (refine H.y_pure rfl _ ?_ rfl (by simp) ?_ ?_ ; rotate_left ; · (intro w8 K hK ; go_wp2_with fail ; exact rfl))
  simp only [Act.put, List.setIfInBounds_toArray, List.set_cons_succ, List.set_cons_zero]
  first | ((with_reducible refine H.y_skip ?_ ?_) ; (focus rfl)) | (refine H.y_pure rfl _ ?_ rfl (by simp) ?_ ?_ ; rotate_left ; · (intro w8 K hK ; go_wp2_with fail ; exact rfl))
  simp only [Act.put, List.setIfInBounds_toArray, List.set_cons_succ, List.set_cons_zero]
  first | ((with_reducible refine H.y_skip ?_ ?_) ; (focus rfl)) | (refine H.y_pure rfl _ ?_ rfl (by simp) ?_ ?_ ; rotate_left ; · (intro w8 K hK ; go_wp2_with fail ; exact rfl))
  simp only [Act.put, List.setIfInBounds_toArray, List.set_cons_succ, List.set_cons_zero]
  first | ((with_reducible refine H.y_skip ?_ ?_) ; (focus rfl)) | (refine H.y_pure rfl _ ?_ rfl (by simp) ?_ ?_ ; rotate_left ; · (intro w8 K hK ; go_wp2_with fail ; exact rfl))
  simp only [Act.put, List.setIfInBounds_toArray, List.set_cons_succ, List.set_cons_zero]
  first | ((with_reducible refine H.y_skip ?_ ?_) ; (focus rfl)) | (refine H.y_quiet rfl (stable_ext _) (fun _ hd => HT1.out.2.trans (KeepT.of_below hd)) _ ?_ rfl (by simp) ?_ ?_ ; rotate_left ; · (intro w8 hC K hK ; have hc := hC ; (first | (have q := blkN (hc.typ _ _ _ _ HY.out.node HL.out.1)) | (have q := blkN (blk_below HL.out.1 hc))) ; go_wp2_with fail ; refine ⟨?_, Below.refl _ _⟩ ; exact rfl))
  simp only [Act.put, List.setIfInBounds_toArray, List.set_cons_succ, List.set_cons_zero]
  first | ((with_reducible refine H.y_skip ?_ ?_) ; (focus rfl)) | (refine H.y_pure rfl _ ?_ rfl (by simp) ?_ ?_ ; rotate_left ; · (intro w8 K hK ; go_wp2_with fail ; exact rfl))
  simp only [Act.put, List.setIfInBounds_toArray, List.set_cons_succ, List.set_cons_zero]
  first | ((with_reducible refine H.y_skip ?_ ?_) ; (focus rfl)) | (refine H.y_pure rfl _ ?_ rfl (by simp) ?_ ?_ ; rotate_left ; · (intro w8 K hK ; go_wp2_with fail ; exact rfl))
  simp only [Act.put, List.setIfInBounds_toArray, List.set_cons_succ, List.set_cons_zero]
  first | ((with_reducible refine H.y_skip ?_ ?_) ; (focus rfl)) | (refine H.y_pure rfl _ ?_ rfl (by simp) ?_ ?_ ; rotate_left ; · (intro w8 K hK ; go_wp2_with fail ; exact rfl))
  simp only [Act.put, List.setIfInBounds_toArray, List.set_cons_succ, List.set_cons_zero]
  first | ((with_reducible refine H.y_skip ?_ ?_) ; (focus rfl)) | (refine H.y_quiet rfl (stable_ext _) (fun _ hd => HT1.out.2.trans (KeepT.of_below hd)) _ ?_ rfl (by simp) ?_ ?_ ; rotate_left ; · (intro w8 hC K hK ; have hc := hC ; (first | (have q := blkN (hc.typ _ _ _ _ HY.out.node HL.out.1)) | (have q := blkN (blk_below HL.out.1 hc))) ; go_wp2_with fail ; refine ⟨?_, Below.refl _ _⟩ ; exact rfl))
  simp only [Act.put, List.setIfInBounds_toArray, List.set_cons_succ, List.set_cons_zero]
  (with_reducible refine H.y_skip ?_ ?_) ; (focus rfl)
  simp only [Act.put, List.setIfInBounds_toArray, List.set_cons_succ, List.set_cons_zero]
  first | ((with_reducible refine H.y_skip ?_ ?_) ; (focus rfl)) | (refine H.y_pure rfl _ ?_ rfl (by simp) ?_ ?_ ; rotate_left ; · (intro w8 K hK ; go_wp2_with fail ; exact rfl))
  simp only [Act.put, List.setIfInBounds_toArray, List.set_cons_succ, List.set_cons_zero]
  (refine H.y_pure rfl _ ?_ rfl (by simp) ?_ ?_ ; rotate_left ; · (intro w8 K hK ; go_wp2_with fail ; exact rfl))
  simp only [Act.put, List.setIfInBounds_toArray, List.set_cons_succ, List.set_cons_zero]
  (refine H.y_pure rfl _ ?_ rfl (by simp) ?_ ?_ ; rotate_left ; · (intro w8 K hK ; go_wp2_with fail ; exact rfl))
  simp only [Act.put, List.setIfInBounds_toArray, List.set_cons_succ, List.set_cons_zero]
  first | ((with_reducible refine H.y_skip ?_ ?_) ; (focus rfl)) | (refine H.y_pure rfl _ ?_ rfl (by simp) ?_ ?_ ; rotate_left ; · (intro w8 K hK ; go_wp2_with fail ; exact rfl))
  simp only [Act.put, List.setIfInBounds_toArray, List.set_cons_succ, List.set_cons_zero]
  first | ((with_reducible refine H.y_skip ?_ ?_) ; (focus rfl)) | (refine H.y_pure rfl _ ?_ rfl (by simp) ?_ ?_ ; rotate_left ; · (intro w8 K hK ; go_wp2_with fail ; exact rfl))
  simp only [Act.put, List.setIfInBounds_toArray, List.set_cons_succ, List.set_cons_zero]
  first | ((with_reducible refine H.y_skip ?_ ?_) ; (focus rfl)) | (refine H.y_pure rfl _ ?_ rfl (by simp) ?_ ?_ ; rotate_left ; · (intro w8 K hK ; go_wp2_with fail ; exact rfl))
  simp only [Act.put, List.setIfInBounds_toArray, List.set_cons_succ, List.set_cons_zero]
  first | ((with_reducible refine H.y_skip ?_ ?_) ; (focus rfl)) | (refine H.y_quiet rfl (stable_ext _) (fun _ hd => HT1.out.2.trans (KeepT.of_below hd)) _ ?_ rfl (by simp) ?_ ?_ ; rotate_left ; · (intro w8 hC K hK ; have hc := hC ; (first | (have q := blkN (hc.typ _ _ _ _ HY.out.node HL.out.1)) | (have q := blkN (blk_below HL.out.1 hc))) ; go_wp2_with fail ; refine ⟨?_, Below.refl _ _⟩ ; exact rfl))
  simp only [Act.put, List.setIfInBounds_toArray, List.set_cons_succ, List.set_cons_zero]
  first | ((with_reducible refine H.y_skip ?_ ?_) ; (focus rfl)) | (refine H.y_pure rfl _ ?_ rfl (by simp) ?_ ?_ ; rotate_left ; · (intro w8 K hK ; go_wp2_with fail ; exact rfl))
  simp only [Act.put, List.setIfInBounds_toArray, List.set_cons_succ, List.set_cons_zero]
  first | ((with_reducible refine H.y_skip ?_ ?_) ; (focus rfl)) | (refine H.y_pure rfl _ ?_ rfl (by simp) ?_ ?_ ; rotate_left ; · (intro w8 K hK ; go_wp2_with fail ; exact rfl))
  simp only [Act.put, List.setIfInBounds_toArray, List.set_cons_succ, List.set_cons_zero]
  first | ((with_reducible refine H.y_skip ?_ ?_) ; (focus rfl)) | (refine H.y_pure rfl _ ?_ rfl (by simp) ?_ ?_ ; rotate_left ; · (intro w8 K hK ; go_wp2_with fail ; exact rfl))
  simp only [Act.put, List.setIfInBounds_toArray, List.set_cons_succ, List.set_cons_zero]
  first | ((with_reducible refine H.y_skip ?_ ?_) ; (focus rfl)) | (refine H.y_pure rfl _ ?_ rfl (by simp) ?_ ?_ ; rotate_left ; · (intro w8 K hK ; go_wp2_with fail ; exact rfl))
  simp only [Act.put, List.setIfInBounds_toArray, List.set_cons_succ, List.set_cons_zero]
  first | ((with_reducible refine H.y_skip ?_ ?_) ; (focus rfl)) | (refine H.y_pure rfl _ ?_ rfl (by simp) ?_ ?_ ; rotate_left ; · (intro w8 K hK ; go_wp2_with fail ; exact rfl))
  simp only [Act.put, List.setIfInBounds_toArray, List.set_cons_succ, List.set_cons_zero]
  first | ((with_reducible refine H.y_skip ?_ ?_) ; (focus rfl)) | (refine H.y_pure rfl _ ?_ rfl (by simp) ?_ ?_ ; rotate_left ; · (intro w8 K hK ; go_wp2_with fail ; exact rfl))
  simp only [Act.put, List.setIfInBounds_toArray, List.set_cons_succ, List.set_cons_zero]
  first | ((with_reducible refine H.y_skip ?_ ?_) ; (focus rfl)) | (refine H.y_pure rfl _ ?_ rfl (by simp) ?_ ?_ ; rotate_left ; · (intro w8 K hK ; go_wp2_with fail ; exact rfl))
  simp only [Act.put, List.setIfInBounds_toArray, List.set_cons_succ, List.set_cons_zero]
  first | ((with_reducible refine H.y_skip ?_ ?_) ; (focus rfl)) | (refine H.y_pure rfl _ ?_ rfl (by simp) ?_ ?_ ; rotate_left ; · (intro w8 K hK ; go_wp2_with fail ; exact rfl))
  simp only [Act.put, List.setIfInBounds_toArray, List.set_cons_succ, List.set_cons_zero]
  first | ((with_reducible refine H.y_skip ?_ ?_) ; (focus rfl)) | (refine H.y_pure rfl _ ?_ rfl (by simp) ?_ ?_ ; rotate_left ; · (intro w8 K hK ; go_wp2_with fail ; exact rfl))
  simp only [Act.put, List.setIfInBounds_toArray, List.set_cons_succ, List.set_cons_zero]
  first | ((with_reducible refine H.y_skip ?_ ?_) ; (focus rfl)) | (refine H.y_pure rfl _ ?_ rfl (by simp) ?_ ?_ ; rotate_left ; · (intro w8 K hK ; go_wp2_with fail ; exact rfl))
  simp only [Act.put, List.setIfInBounds_toArray, List.set_cons_succ, List.set_cons_zero]
  refine H.y_any rfl ?_
  intro wy hyb K hK
  refine wpIn_of_wp (by intro c h; cases h) ?_
  go_wp2_with fail
  rw [show max (i - (tl.size : Int) - 1) 0 = (i - tl.size - 1) by omega]
  refine (IR pr (i - tl.size - 1) (j - tl.size - 1) (k0 + (cutR i tl.size tl.rows).length) wy ⟨(HT1.out.2.trans (KeepT.of_below hyb)).tree HY.out.node HL.out.2.2, by omega, by omega, by omega, by omega, by omega, HP.out.2, OwnFrom.keepOf HY.out.oj HT1.out.1 hyb, by omega⟩).mono ?_
  rintro e7 w7 ⟨b3, rfl, hend⟩
  have HE3 : Hid (WkEnd RR B p T J Jx W (k0 + (cutR i tl.size tl.rows).length + (cutR (i - tl.size - 1) (j - tl.size - 1) tr.rows).length) b3 w7) := ⟨(HE.out.1.trans (KeepsFrom.of_below _ hyb)).trans hend.1, by cases b3; exact hend.2; exact ⟨hend.2.1, (HT1.out.2.trans (KeepT.of_below hyb)).trans hend.2.2⟩⟩
  clear hend hyb
  refine hK _ _ (fun x => x = w7) rfl ?_
  try simp only [Act.put, List.setIfInBounds_toArray, List.set_cons_succ, List.set_cons_zero]
  (refine H.y_pure rfl _ ?_ rfl (by simp) ?_ ?_ ; rotate_left ; · (intro w8 K hK ; go_wp2_with fail ; exact rfl))
  simp only [Act.put, List.setIfInBounds_toArray, List.set_cons_succ, List.set_cons_zero]
  (refine H.y_pure rfl _ ?_ rfl (by simp) ?_ ?_ ; rotate_left ; · (intro w8 K hK ; go_wp2_with fail ; exact rfl))
  simp only [Act.put, List.setIfInBounds_toArray, List.set_cons_succ, List.set_cons_zero]
  first | refine H.y_nil ?_ | refine H.y_end ?_
  rintro w7 rfl
  clear HE HT1 hSt hDC
  gi_wp2
  go_ret
  exact ⟨b3, rfl, HE3.out⟩
theorem walk_any (l : Nat) (RR : List Row) (B : Nat) (p : Nat → Prop) (T : TypeId → Prop) (J Jx : Nat → World → Prop) (hy : Yl Tryz.prog l RR B p T J Jx) : ∀ t : Tr, IHw Tryz.prog l RR B p T J Jx t
  | .nil => fun q i j k0 W h => walk_ge l RR B p T J Jx .nil q i j k0 W h (.inl rfl)
  | .node tl k e s tr => fun q i j k0 W h => by
    by_cases hij : j ≤ i
    · exact walk_ge l RR B p T J Jx _ q i j k0 W h (.inr hij)
    · by_cases h2 : (tl.size : Int) < i
      · exact walk_right l RR B p T J Jx hy tl tr k e s q i j k0 W h (by omega) h2 (walk_any l RR B p T J Jx hy tl) (walk_any l RR B p T J Jx hy tr)
      · by_cases h3 : (tl.size : Int) < j
        · exact walk_mid l RR B p T J Jx hy tl tr k e s q i j k0 W h (by omega) (by omega) h3 (walk_any l RR B p T J Jx hy tl) (walk_any l RR B p T J Jx hy tr)
        · exact walk_left l RR B p T J Jx hy tl tr k e s q i j k0 W h (by omega) (by omega) (walk_any l RR B p T J Jx hy tl) (walk_any l RR B p T J Jx hy tr)
end Go.Proofs.YtdflmplmpjghdaaGreatDoor
