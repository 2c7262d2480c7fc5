/-
  node.up, and the node's closures for the store's calls.
-/
import Derived.Test.YtdflmplmpjghdaaGreatDoorNmap
namespace Go.Proofs.YtdflmplmpjghdaaGreatDoor
open Go.ChangeShapes Go.WideShapes Go.ChangeAt Go.RowKit Go.Deep Go.Shelf
set_option linter.unusedVariables false
set_option linter.unusedSimpArgs false
set_option maxRecDepth 100000
attribute [local go_sem] Oper.semAt_some

set_option maxHeartbeats 4000000 in
theorem up_get (nb sb db : Nat) (c0 c1 c2 c3 : Int) (caps : Array Value) (w : World) (R : Int → World → Prop) (hn : NdAt w nb sb db c0 c1 c2 c3)
    (hc : Calls Tryz.prog 96 caps w fun e w' => ∃ c, e = .returned (.int .i64 c) ∧ R c w') :
    Calls Tryz.prog 91 #[.pointer (some ⟨nb, 0, none⟩), .func (.func 96) #[] caps] w fun e w' => ∃ c, e = .returned (.int .i64 c) ∧ R c w' := by
  have q := ndCells hn
  clear hn
  go_enter Tryz.func91, Tryz.ntmps91
  go_wp2_with fail
  refine hc.mono ?_
  rintro e w' ⟨c, rfl, hr⟩
  go_wp2_with fail
  go_ret
  exact ⟨c, rfl, hr⟩
set_option maxHeartbeats 4000000 in
theorem up_put (nb sb db : Nat) (c0 c1 c2 c3 : Int) (caps : Array Value) (w : World) (R : Int → World → Prop) (hn : NdAt w nb sb db c0 c1 c2 c3)
    (hc : Calls Tryz.prog 92 caps w fun e w' => ∃ c, e = .returned (.int .i64 c) ∧ R c w') :
    Calls Tryz.prog 91 #[.pointer (some ⟨nb, 0, none⟩), .func (.func 92) #[] caps] w fun e w' => ∃ c, e = .returned (.int .i64 c) ∧ R c w' := by
  have q := ndCells hn
  clear hn
  go_enter Tryz.func91, Tryz.ntmps91
  go_wp2_with fail
  refine hc.mono ?_
  rintro e w' ⟨c, rfl, hr⟩
  go_wp2_with fail
  go_ret
  exact ⟨c, rfl, hr⟩
set_option maxHeartbeats 4000000 in
theorem up_delete (nb sb db : Nat) (c0 c1 c2 c3 : Int) (caps : Array Value) (w : World) (R : Int → World → Prop) (hn : NdAt w nb sb db c0 c1 c2 c3)
    (hc : Calls Tryz.prog 94 caps w fun e w' => ∃ c, e = .returned (.int .i64 c) ∧ R c w') :
    Calls Tryz.prog 91 #[.pointer (some ⟨nb, 0, none⟩), .func (.func 94) #[] caps] w fun e w' => ∃ c, e = .returned (.int .i64 c) ∧ R c w' := by
  have q := ndCells hn
  clear hn
  go_enter Tryz.func91, Tryz.ntmps91
  go_wp2_with fail
  refine hc.mono ?_
  rintro e w' ⟨c, rfl, hr⟩
  go_wp2_with fail
  go_ret
  exact ⟨c, rfl, hr⟩
set_option maxHeartbeats 4000000 in
theorem up_scan (nb sb db : Nat) (c0 c1 c2 c3 : Int) (caps : Array Value) (w : World) (R : Int → World → Prop) (hn : NdAt w nb sb db c0 c1 c2 c3)
    (hc : Calls Tryz.prog 98 caps w fun e w' => ∃ c, e = .returned (.int .i64 c) ∧ R c w') :
    Calls Tryz.prog 91 #[.pointer (some ⟨nb, 0, none⟩), .func (.func 98) #[] caps] w fun e w' => ∃ c, e = .returned (.int .i64 c) ∧ R c w' := by
  have q := ndCells hn
  clear hn
  go_enter Tryz.func91, Tryz.ntmps91
  go_wp2_with fail
  refine hc.mono ?_
  rintro e w' ⟨c, rfl, hr⟩
  go_wp2_with fail
  go_ret
  exact ⟨c, rfl, hr⟩
set_option maxHeartbeats 4000000 in
theorem up_fold (nb sb db : Nat) (c0 c1 c2 c3 : Int) (caps : Array Value) (w : World) (R : Int → World → Prop) (hn : NdAt w nb sb db c0 c1 c2 c3)
    (hc : Calls Tryz.prog 100 caps w fun e w' => ∃ c, e = .returned (.int .i64 c) ∧ R c w') :
    Calls Tryz.prog 91 #[.pointer (some ⟨nb, 0, none⟩), .func (.func 100) #[] caps] w fun e w' => ∃ c, e = .returned (.int .i64 c) ∧ R c w' := by
  have q := ndCells hn
  clear hn
  go_enter Tryz.func91, Tryz.ntmps91
  go_wp2_with fail
  refine hc.mono ?_
  rintro e w' ⟨c, rfl, hr⟩
  go_wp2_with fail
  go_ret
  exact ⟨c, rfl, hr⟩
def NGetOf (w : World) (b2 b3 : Nat) (key : ByteArray) (t : Tr) (e : Ending) (w' : World) : Prop := e = .returned (.int .i64 (if 16 < key.size then 20 else 0)) ∧
  ∃ (x : Ent) (xb : Bool), (x, xb) = (if 16 < key.size then (ent0, false) else (entOf (getT key t), (getT key t).isSome)) ∧ w'.heap[b2]? = some (.cells #[.string x.1, .int .i64 x.2.1, .int .i64 x.2.2.1, .string x.2.2.2.1, .bool x.2.2.2.2] entT (0, 0)) ∧ w'.heap[b3]? = some (.cells #[.bool xb] 4 (0, 0)) ∧ Keep (fun k => k = b2 ∨ k = b3) w w'
set_option maxRecDepth 100000 in
set_option maxHeartbeats 8000000 in
/-- What the closure of Get does: the answer lies in the boxes b2, b3 behind it. -/
theorem nget1_any (b0 b1 b2 b3 nb db sb tb mb : Nat) (c0 c1 c2 c3 node clock : Int) (M : Nat) (t : Tr) (key : ByteArray) (z : Ent) (zb : Bool) (w : World) (hk : key.size ≤ 140737488351232) (hn : NdAt w nb sb db c0 c1 c2 c3) (h : StAt w sb tb mb node clock M t)
    (g0 : w.heap[b0]? = some (.cells #[.pointer (some ⟨nb, 0, none⟩)] 93 (0, 0))) (g1 : w.heap[b1]? = some (.cells #[.string key] 9 (0, 0)))
    (g2 : w.heap[b2]? = some (.cells #[.string z.1, .int .i64 z.2.1, .int .i64 z.2.2.1, .string z.2.2.2.1, .bool z.2.2.2.2] entT (0, 0))) (g3 : w.heap[b3]? = some (.cells #[.bool zb] 4 (0, 0))) :
    Calls Tryz.prog 96 #[.pointer (some ⟨b0, 0, none⟩), .pointer (some ⟨b1, 0, none⟩), .pointer (some ⟨b2, 0, none⟩), .pointer (some ⟨b3, 0, none⟩)] w (NGetOf w b2 b3 key t) := by
  obtain ⟨x, xb, hx⟩ : ∃ x xb, (x, xb) = (if 16 < key.size then (ent0, false) else (entOf (getT key t), (getT key t).isSome)) := ⟨_, _, rfl⟩
  obtain ⟨c, hce⟩ : ∃ c : Int, c = (if 16 < key.size then 20 else 0) := ⟨_, rfl⟩
  have HS : Hid (∀ w : World, StAt w sb tb mb node clock M t → Calls Tryz.prog 97 #[.pointer (some ⟨sb, 0, none⟩), .string key] w fun e w' => e = .returned (.tuple #[evE x, .bool xb, .int .i64 c]) ∧ Below w.heap.size w w') := fun w h => by
    refine (sget_any sb tb mb node clock M t key w h hk).mono ?_
    rintro e w' ⟨rfl, hb⟩
    refine ⟨?_, hb⟩
    rw [hce]
    by_cases hh : 16 < key.size
    · rw [if_pos hh] at hx ⊢
      rw [if_pos hh]
      simp only [Prod.mk.injEq] at hx
      obtain ⟨rfl, rfl⟩ := hx
      rfl
    · rw [if_neg hh] at hx ⊢
      rw [if_neg hh]
      simp only [Prod.mk.injEq] at hx
      obtain ⟨rfl, rfl⟩ := hx
      rfl
  have HX := Lib.hid (And.intro hx hce)
  have n23 : b3 ≠ b2 := ne_type g2 (by decide) _ _ _ g3
  have HN := Lib.hid (And.intro hn (And.intro h (And.intro g0 (And.intro g1 (And.intro g2 g3)))))
  clear hx hce hn h g0 g1 g2 g3
  obtain ⟨x1, x2, x3, x4, x5⟩ := x
  go_enter Tryz.func96, Tryz.ntmps96
  go_wp2_with fail
  have hSt : Stable (fun w3 : World => (Below w.heap.size w w3)) := by repeat (first | exact stable_ext _ | exact stable_blk _ _ | exact stable_true | (refine stable_bel ?_ ; (focus (first | (simp [World.size_setCell] ; done) | (simp [World.setCell] ; done)))) | refine Stable.and ?_ ?_)
  refine wp_region_x [0, 1, 2, 3, 4, 5, 6, 7, 8, 9, 10, 11, 12] [1, 0, 0, 1, 1, 1, 0, 0, 0, 0, 3, 3, 0] (fun w3 => (Below w.heap.size w w3)) (by kernel_rfl) (by kernel_rfl) ?_ ?_
  · (first | trivial | (repeat (first | (with_reducible assumption) | (with_reducible exact Below.refl _ _) | (with_reducible refine heap_drew ?_) | (focus ((with_reducible refine heap_new ?_) ; simp ; done)) | (with_reducible apply heap_set_to) | (focus ((with_reducible refine heap_set_ne ?_ ?_ _) ; rotate_left ; (focus (first | omega | (simp ; done) | (simp ; omega))))) | (with_reducible refine heap_old ?_) | (with_reducible refine Below.drew ?_) | (with_reducible refine below_set ?_ _ _) | (focus ((with_reducible refine Below.setCell ?_ ?_ _) ; rotate_left ; (focus (first | omega | (simp ; done) | (simp ; omega))))) | (focus ((with_reducible refine Below.alloc ?_ ?_ _) ; rotate_left ; (focus (first | omega | (simp ; done) | (simp ; omega))))) | (with_reducible rfl) | (focus (simp ; done)))))
  simp only [List.map_cons, List.map_nil, List.getD_cons_zero, List.getD_cons_succ]
  (refine x_quiet rfl hSt (fun _ h => h) _ ?_ rfl (by simp) ?_ ?_ ; rotate_left ; · (intro w3 hC K hK ; have hc := hC ; have q := ndCells (blk_below HN.out.1 hc) ; have q0 := blk1 (blk_below HN.out.2.2.1 hc) ; have q1 := blk1 (blk_below HN.out.2.2.2.1 hc) ; go_wp2_with fail ; refine ⟨?_, Below.refl _ _⟩ ; exact rfl))
  simp only [Act.put, List.setIfInBounds_toArray, List.set_cons_succ, List.set_cons_zero]
  (refine x_pure rfl _ ?_ rfl (by simp) ?_ ?_ ; rotate_left ; · (intro w3 K hK ; go_wp2_with fail ; exact rfl))
  simp only [Act.put, List.setIfInBounds_toArray, List.set_cons_succ, List.set_cons_zero]
  (refine x_pure rfl _ ?_ rfl (by simp) ?_ ?_ ; rotate_left ; · (intro w3 K hK ; go_wp2_with fail ; exact rfl))
  simp only [Act.put, List.setIfInBounds_toArray, List.set_cons_succ, List.set_cons_zero]
  (refine x_quiet rfl hSt (fun _ h => h) _ ?_ rfl (by simp) ?_ ?_ ; rotate_left ; · (intro w3 hC K hK ; have hc := hC ; have q := ndCells (blk_below HN.out.1 hc) ; have q0 := blk1 (blk_below HN.out.2.2.1 hc) ; have q1 := blk1 (blk_below HN.out.2.2.2.1 hc) ; go_wp2_with fail ; refine ⟨?_, Below.refl _ _⟩ ; exact rfl))
  simp only [Act.put, List.setIfInBounds_toArray, List.set_cons_succ, List.set_cons_zero]
  (refine x_quiet rfl hSt (fun _ h => h) _ ?_ rfl (by simp) ?_ ?_ ; rotate_left ; · (intro w3 hC K hK ; have hc := hC ; have q := ndCells (blk_below HN.out.1 hc) ; have q0 := blk1 (blk_below HN.out.2.2.1 hc) ; have q1 := blk1 (blk_below HN.out.2.2.2.1 hc) ; go_wp2_with fail ; refine ⟨?_, Below.refl _ _⟩ ; exact rfl))
  simp only [Act.put, List.setIfInBounds_toArray, List.set_cons_succ, List.set_cons_zero]
  (refine x_quiet rfl hSt (fun _ h => h) _ ?_ rfl (by simp) ?_ ?_ ; rotate_left ; · (intro w3 hC K hK ; have hc := hC ; have q := ndCells (blk_below HN.out.1 hc) ; have q0 := blk1 (blk_below HN.out.2.2.1 hc) ; have q1 := blk1 (blk_below HN.out.2.2.2.1 hc) ; go_wp2_with fail ; refine (HS.out w3 (HN.out.2.1.below hc)).mono ?_ ; rintro e w2 ⟨rfl, hb2⟩ ; refine hK _ _ ⟨?_, rfl, hb2⟩ ; (try simp only [List.getElem?_toArray, List.getElem?_cons_succ, List.getElem?_cons_zero]) ; exact rfl))
  simp only [Act.put, List.setIfInBounds_toArray, List.set_cons_succ, List.set_cons_zero]
  (refine x_pure rfl _ ?_ rfl (by simp) ?_ ?_ ; rotate_left ; · (intro w3 K hK ; go_wp2_with fail ; exact rfl))
  simp only [Act.put, List.setIfInBounds_toArray, List.set_cons_succ, List.set_cons_zero]
  (refine x_pure rfl _ ?_ rfl (by simp) ?_ ?_ ; rotate_left ; · (intro w3 K hK ; go_wp2_with fail ; exact rfl))
  simp only [Act.put, List.setIfInBounds_toArray, List.set_cons_succ, List.set_cons_zero]
  (refine x_pure rfl _ ?_ rfl (by simp) ?_ ?_ ; rotate_left ; · (intro w3 K hK ; go_wp2_with fail ; exact rfl))
  simp only [Act.put, List.setIfInBounds_toArray, List.set_cons_succ, List.set_cons_zero]
  (refine x_pure rfl _ ?_ rfl (by simp) ?_ ?_ ; rotate_left ; · (intro w3 K hK ; go_wp2_with fail ; exact rfl))
  simp only [Act.put, List.setIfInBounds_toArray, List.set_cons_succ, List.set_cons_zero]
  refine x_write rfl ?_
  intro w3 hD K hK ; have hc := hD ; have q := ndCells (blk_below HN.out.1 hc) ; have q0 := blk1 (blk_below HN.out.2.2.1 hc) ; have q1 := blk1 (blk_below HN.out.2.2.2.1 hc)
  have HY := Lib.hid (And.intro hc (And.intro (blk_below HN.out.2.2.2.2.1 hc) (blk_below HN.out.2.2.2.2.2 hc)))
  have q2 := blk5 HY.out.2.1
  have q3 := blk1 HY.out.2.2
  clear q q0 q1 hc
  go_wp2_with fail
  try simp only [Act.put, List.setIfInBounds_toArray, List.set_cons_succ, List.set_cons_zero]
  refine x_write rfl ?_
  rintro _ rfl K hK
  go_wp2_with fail
  try simp only [Act.put, List.setIfInBounds_toArray, List.set_cons_succ, List.set_cons_zero]
  (refine x_pure rfl _ ?_ rfl (by simp) ?_ ?_ ; rotate_left ; · (intro w3 K hK ; go_wp2_with fail ; exact rfl))
  simp only [Act.put, List.setIfInBounds_toArray, List.set_cons_succ, List.set_cons_zero]
  first | refine x_nil ?_ | refine x_end ?_
  rintro _ rfl
  go_wp2_with fail
  go_ret
  have k1 : Keep (fun k => k = b2) w3 (((((w3.setCell ⟨b2, 0, none⟩ (.string x1)).setCell ⟨b2, 1, none⟩ (.int .i64 x2)).setCell ⟨b2, 2, none⟩ (.int .i64 x3)).setCell ⟨b2, 3, none⟩ (.string x4)).setCell ⟨b2, 4, none⟩ (.bool x5)) :=
    ((((Keep.set _ ⟨b2, 0, none⟩ _).trans (Keep.set _ ⟨b2, 1, none⟩ _)).trans (Keep.set _ ⟨b2, 2, none⟩ _)).trans (Keep.set _ ⟨b2, 3, none⟩ _)).trans (Keep.set _ ⟨b2, 4, none⟩ _)
  refine ⟨by rw [HX.out.2]; rfl, (x1, x2, x3, x4, x5), xb, HX.out.1, ?_, ?_, ?_⟩
  · refine heap_set_ne (p := ⟨b3, 0, none⟩) ?_ (fun e => n23 e.symm) _
    have h0 := heap_set_to HY.out.2.1 (o := 0) (v := .string x1) rfl
    have h1 := heap_set_to h0 (o := 1) (v := .int .i64 x2) rfl
    have h2 := heap_set_to h1 (o := 2) (v := .int .i64 x3) rfl
    have h3 := heap_set_to h2 (o := 3) (v := .string x4) rfl
    have h4 := heap_set_to h3 (o := 4) (v := .bool x5) rfl
    simpa using h4
  · exact heap_set_to (k1.blk HY.out.2.2 n23) (by simp)
  · exact ((Keep.of_below HY.out.1).trans (k1.mono fun _ _ h => Or.inl h)).trans ((Keep.set _ ⟨b3, 0, none⟩ _).mono fun _ _ h => Or.inr h)
end Go.Proofs.YtdflmplmpjghdaaGreatDoor
