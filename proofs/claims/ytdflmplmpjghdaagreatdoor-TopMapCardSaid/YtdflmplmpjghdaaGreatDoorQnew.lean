/-
  world.New.
-/
import Derived.Test.YtdflmplmpjghdaaGreatDoorNup
import Derived.Test.YtdflmplmpjghdaaGreatDoorSnew
import Derived.Carry
import Derived.Test.YtdflmplmpjghdaaGreatDoorNput
namespace Go.Proofs.YtdflmplmpjghdaaGreatDoor
open Go.ChangeShapes Go.WideShapes Go.ChangeAt Go.RowKit Go.Deep Go.Shelf
set_option linter.unusedVariables false
set_option linter.unusedSimpArgs false
set_option maxRecDepth 100000

abbrev cfgT : TypeId := 23
/-- May it be a configuration? -/
def CfgOk (c0 c1 c2 c3 : Int) : Prop := 2 ≤ c0 ∧ c0 ≤ 16 ∧ 1 ≤ c1 ∧ c1 ≤ 32 ∧ 1 ≤ c2 ∧ c2 ≤ 100 ∧ 0 ≤ c3 ∧ c3 ≤ 20
abbrev cfV (c0 c1 c2 c3 : Int) : Value := .agg #[.int .i64 c0, .int .i64 c1, .int .i64 c2, .int .i64 c3]
theorem cfg_any (c0 c1 c2 c3 : Int) (h : CfgOk c0 c1 c2 c3) (w : World) :
    Calls Tryz.prog 49 #[cfV c0 c1 c2 c3] w fun e w' => e = .returned (.int .i64 0) ∧ Below w.heap.size w w' := by
  have hbx := below_alloc_self w (.cells #[.int .i64 c0, .int .i64 c1, .int .i64 c2, .int .i64 c3] cfgT (0, 0))
  obtain ⟨h0, h1, h2, h3, h4, h5, h6, h7⟩ := h
  go_enter Tryz.func49, Tryz.ntmps49
  go_wp2_with fail
  go_ret
  exact ⟨rfl, hbx⟩
set_option maxHeartbeats 4000000 in
theorem rcfg_any (c0 c1 c2 c3 : Int) (w : World) :
    Calls Tryz.prog 23 #[cfV c0 c1 c2 c3] w fun e w' => ∃ z, e = .returned (.int .i64 z) ∧ (z = 0 → CfgOk c0 c1 c2 c3) ∧ (CfgOk c0 c1 c2 c3 → z = 0) ∧ Below w.heap.size w w' := by
  have hbx := below_alloc_self w (.cells #[.int .i64 c0, .int .i64 c1, .int .i64 c2, .int .i64 c3] cfgT (0, 0))
  by_cases h0 : c0 < 2
  · go_enter Tryz.func23, Tryz.ntmps23
    go_wp2_with fail
    go_ret
    exact ⟨1, rfl, fun h => absurd h (by decide), fun h => (by unfold CfgOk at h; omega), hbx⟩
  have h0 : 2 ≤ c0 := by omega
  by_cases h1 : 16 < c0
  · go_enter Tryz.func23, Tryz.ntmps23
    go_wp2_with fail
    go_ret
    exact ⟨1, rfl, fun h => absurd h (by decide), fun h => (by unfold CfgOk at h; omega), hbx⟩
  have h1 : c0 ≤ 16 := by omega
  by_cases h2 : c1 < 1
  · go_enter Tryz.func23, Tryz.ntmps23
    go_wp2_with fail
    go_ret
    exact ⟨1, rfl, fun h => absurd h (by decide), fun h => (by unfold CfgOk at h; omega), hbx⟩
  have h2 : 1 ≤ c1 := by omega
  by_cases h3 : 32 < c1
  · go_enter Tryz.func23, Tryz.ntmps23
    go_wp2_with fail
    go_ret
    exact ⟨1, rfl, fun h => absurd h (by decide), fun h => (by unfold CfgOk at h; omega), hbx⟩
  have h3 : c1 ≤ 32 := by omega
  by_cases h4 : c2 < 1
  · go_enter Tryz.func23, Tryz.ntmps23
    go_wp2_with fail
    go_ret
    exact ⟨1, rfl, fun h => absurd h (by decide), fun h => (by unfold CfgOk at h; omega), hbx⟩
  have h4 : 1 ≤ c2 := by omega
  by_cases h5 : 100 < c2
  · go_enter Tryz.func23, Tryz.ntmps23
    go_wp2_with fail
    go_ret
    exact ⟨1, rfl, fun h => absurd h (by decide), fun h => (by unfold CfgOk at h; omega), hbx⟩
  have h5 : c2 ≤ 100 := by omega
  by_cases h6 : c3 < 0
  · go_enter Tryz.func23, Tryz.ntmps23
    go_wp2_with fail
    go_ret
    exact ⟨1, rfl, fun h => absurd h (by decide), fun h => (by unfold CfgOk at h; omega), hbx⟩
  have h6 : 0 ≤ c3 := by omega
  by_cases h7 : 20 < c3
  · go_enter Tryz.func23, Tryz.ntmps23
    go_wp2_with fail
    go_ret
    exact ⟨1, rfl, fun h => absurd h (by decide), fun h => (by unfold CfgOk at h; omega), hbx⟩
  have h7 : c3 ≤ 20 := by omega
  go_enter Tryz.func23, Tryz.ntmps23
  go_wp2_with fail
  go_ret
  exact ⟨0, rfl, fun _ => ⟨h0, h1, h2, h3, h4, h5, h6, h7⟩, fun _ => rfl, hbx⟩
/-- The law's first test. -/
theorem right_any (n c0 c1 c2 c3 : Int) (h1 : 2 ≤ n) (h2 : n ≤ 8) (w : World) :
    Calls Tryz.prog 7 #[.int .i64 n, cfV c0 c1 c2 c3] w fun e w' => ∃ b : Bool, e = .returned (.bool b) ∧ (b = true → CfgOk c0 c1 c2 c3) ∧ Below w.heap.size w w' := by
  have HB := Lib.hid (below_alloc_self w (.cells #[.int .i64 c0, .int .i64 c1, .int .i64 c2, .int .i64 c3] cfgT (0, 0)))
  go_enter Tryz.func7, Tryz.ntmps7
  go_wp2_with fail
  refine (rcfg_any c0 c1 c2 c3 _).mono ?_
  rintro e w2 ⟨z, rfl, hz1, hz2, hb2⟩
  have HZ := Lib.hid (And.intro hz1 (HB.out.trans (hb2.mono HB.out.size)))
  clear hz1 hz2 hb2
  go_wp2_with fail
  go_ret
  refine ⟨_, rfl, fun h => HZ.out.1 (by simpa using h), HZ.out.2⟩
/-- A new bag. -/
abbrev bagC (room num lost : Int) (v : Value) : Array Value := #[.int .i64 room, .int .i64 num, .int .i64 lost, v]
theorem bnew_any (w : World) : Calls Tryz.prog 24 #[.int .i64 512] w fun e w' => e = .returned (.tuple #[.pointer (some ⟨w.heap.size, 0, none⟩), .int .i64 0]) ∧ w' = w.alloc (.cells (bagC 512 0 0 (.slice none 0 0)) 128 (0, 0)) := by
  go_enter Tryz.func24, Tryz.ntmps24
  go_wp2_with fail
  go_ret2
  exact ⟨rfl, rfl⟩
/-- A timer of no alarms. -/
def TmNew (w : World) (th : Nat) : Prop := ∃ ah, w.heap[th]? = some (.cells #[.map (some ah), .slice none 0 0] 283 (0, 0)) ∧ w.heap[ah]? = some (.map #[] 0)
theorem TmNew.below {w w' : World} {th : Nat} (h : TmNew w th) (hb : Below w.heap.size w w') : TmNew w' th := by
  obtain ⟨ah, h1, h2⟩ := h
  exact ⟨ah, blk_below h1 hb, blk_below h2 hb⟩
theorem tmnew_any (w : World) : Calls Tryz.prog 123 #[] w fun e w' => ∃ th, e = .returned (.pointer (some ⟨th, 0, none⟩)) ∧ w.heap.size ≤ th ∧ TmNew w' th ∧ Below w.heap.size w w' := by
  have hmm := @run_makeMap Tryz.prog
  go_enter Tryz.func123, Tryz.ntmps123
  go_wp2_with fail
  go_ret
  refine ⟨w.heap.size + 1, rfl, by omega, ⟨w.heap.size, heap_new (by simp), heap_old (heap_new rfl)⟩, ?_⟩
  (repeat (first | (with_reducible assumption) | (with_reducible exact Below.refl _ _) | (with_reducible refine heap_drew ?_) | (focus ((with_reducible refine heap_new ?_) ; simp ; done)) | (with_reducible apply heap_set_to) | (focus ((with_reducible refine heap_set_ne ?_ ?_ _) ; rotate_left ; (focus (first | omega | (simp ; done) | (simp ; omega))))) | (with_reducible refine heap_old ?_) | (with_reducible refine Below.drew ?_) | (with_reducible refine below_set ?_ _ _) | (focus ((with_reducible refine Below.setCell ?_ ?_ _) ; rotate_left ; (focus (first | omega | (simp ; done) | (simp ; omega))))) | (focus ((with_reducible refine Below.alloc ?_ ?_ _) ; rotate_left ; (focus (first | omega | (simp ; done) | (simp ; omega))))) | (with_reducible rfl) | (focus (simp ; done))))
/-- A new desk. -/
abbrev deskC (sb : Nat) (c0 c1 c2 c3 life now opened : Int) (l : Value) (mh th : Nat) (g : List Value) : Array Value := List.toArray (.pointer (some ⟨sb, 0, none⟩) :: .int .i64 c0 :: .int .i64 c1 :: .int .i64 c2 :: .int .i64 c3 :: .int .i64 life :: .int .i64 now :: .int .i64 opened :: l :: .map (some mh) :: .pointer (some ⟨th, 0, none⟩) :: g)
abbrev goneNew : List Value := [Value.int .i64 0, Value.int .i64 0, Value.int .i64 0, Value.int .i64 0, Value.int .i64 0, Value.int .i64 0, Value.int .i64 0, Value.int .i64 0, Value.int .i64 0, Value.int .i64 0, Value.int .i64 0, Value.int .i64 0, Value.int .i64 0, Value.int .i64 0, Value.int .i64 0, Value.int .i64 0, Value.int .i64 0, Value.int .i64 0, Value.int .i64 0, Value.int .i64 0, Value.int .i64 0, Value.int .i64 0, Value.int .i64 0, Value.int .i64 0]
def DeskNew (w : World) (db sb : Nat) (c0 c1 c2 c3 life : Int) : Prop := ∃ mh th, w.heap[db]? = some (.cells (deskC sb c0 c1 c2 c3 life 0 0 (.slice none 0 0) mh th goneNew) 219 (0, 0)) ∧ w.heap[mh]? = some (.map #[] 0) ∧ TmNew w th
theorem DeskNew.below {w w' : World} {db sb : Nat} {c0 c1 c2 c3 life : Int} (h : DeskNew w db sb c0 c1 c2 c3 life) (hb : Below w.heap.size w w') : DeskNew w' db sb c0 c1 c2 c3 life := by
  obtain ⟨mh, th, h1, h2, h3⟩ := h
  exact ⟨mh, th, blk_below h1 hb, blk_below h2 hb, h3.below hb⟩
set_option maxRecDepth 100000 in
set_option maxHeartbeats 8000000 in
theorem sesnew_any (sb : Nat) (c0 c1 c2 c3 life : Int) (hc : CfgOk c0 c1 c2 c3) (h1 : 1 ≤ life) (h2 : life ≤ 1048576) (w : World) :
    Calls Tryz.prog 80 #[.pointer (some ⟨sb, 0, none⟩), cfV c0 c1 c2 c3, .int .i64 life] w fun e w' => ∃ db, e = .returned (.tuple #[.pointer (some ⟨db, 0, none⟩), .int .i64 0]) ∧ w.heap.size ≤ db ∧ DeskNew w' db sb c0 c1 c2 c3 life ∧ Below w.heap.size w w' := by
  have HC := Lib.hid hc
  have hbx := below_alloc_self w (.cells #[.int .i64 c0, .int .i64 c1, .int .i64 c2, .int .i64 c3] cfgT (0, 0))
  have gx : (w.alloc (.cells #[.int .i64 c0, .int .i64 c1, .int .i64 c2, .int .i64 c3] cfgT (0, 0))).heap[w.heap.size]? = some (.cells #[.int .i64 c0, .int .i64 c1, .int .i64 c2, .int .i64 c3] cfgT (0, 0)) := heap_new rfl
  have HX := Lib.hid (And.intro hbx gx)
  clear hc hbx gx
  go_enter Tryz.func80, Tryz.ntmps80
  go_wp2_with fail
  refine (cfg_any c0 c1 c2 c3 HC.out _).mono ?_
  rintro e w2 ⟨rfl, hb2⟩
  have hb3 := HX.out.1.trans (hb2.mono HX.out.1.size)
  have g3 := blk_below HX.out.2 hb2
  have HB := Lib.hid (And.intro hb3 g3)
  clear hb2 hb3 g3 HX
  go_wp2_with fail
  have hSt : Stable (fun w3 : World => (Below w2.heap.size w2 w3)) := by repeat (first | exact stable_ext _ | exact stable_blk _ _ | exact stable_true | (refine stable_bel ?_ ; (focus (first | (simp [World.size_setCell] ; done) | (simp [World.setCell] ; done)))) | refine Stable.and ?_ ?_)
  refine wp_region_p [0, 1, 2] [0, 1, 0, 4, 4, 0, 2, 0, 0] 6 #[true, true, true, false, false, false, false, false, false] (fun w3 => (Below w2.heap.size w2 w3)) (by kernel_rfl) (by kernel_rfl) ?_ ?_
  · (first | trivial | (repeat (first | (with_reducible assumption) | (with_reducible exact Below.refl _ _) | (with_reducible refine heap_drew ?_) | (focus ((with_reducible refine heap_new ?_) ; simp ; done)) | (with_reducible apply heap_set_to) | (focus ((with_reducible refine heap_set_ne ?_ ?_ _) ; rotate_left ; (focus (first | omega | (simp ; done) | (simp ; omega))))) | (with_reducible refine heap_old ?_) | (with_reducible refine Below.drew ?_) | (with_reducible refine below_set ?_ _ _) | (focus ((with_reducible refine Below.setCell ?_ ?_ _) ; rotate_left ; (focus (first | omega | (simp ; done) | (simp ; omega))))) | (focus ((with_reducible refine Below.alloc ?_ ?_ _) ; rotate_left ; (focus (first | omega | (simp ; done) | (simp ; omega))))) | (with_reducible rfl) | (focus (simp ; done)))))
  simp only [List.map_cons, List.map_nil, List.getD_cons_zero, List.getD_cons_succ]
  (refine x_pure rfl _ ?_ rfl (by simp) ?_ ?_ ; rotate_left ; · (intro w3 K hK ; go_wp2_with fail ; exact rfl))
  simp only [Act.put, List.setIfInBounds_toArray, List.set_cons_succ, List.set_cons_zero]
  (refine x_quiet rfl hSt (fun _ h => h) _ ?_ rfl (by simp) ?_ ?_ ; rotate_left ; · (intro w3 hC K hK ; have hb := hC ; have q := blk4 (blk_below HB.out.2 hb) ; go_wp2_with fail ; refine ⟨?_, Below.refl _ _⟩ ; exact rfl))
  simp only [Act.put, List.setIfInBounds_toArray, List.set_cons_succ, List.set_cons_zero]
  (refine x_pure rfl _ ?_ rfl (by simp) ?_ ?_ ; rotate_left ; · (intro w3 K hK ; go_wp2_with fail ; exact rfl))
  simp only [Act.put, List.setIfInBounds_toArray, List.set_cons_succ, List.set_cons_zero]
  refine x_end ?_
  refine wpX_fork2 (i := 3) (j := 4) (by kernel_rfl) (by kernel_rfl) ?_ ?_
  · simp only [List.map_cons, List.map_nil, List.getD_cons_zero, List.getD_cons_succ]
    refine x_make rfl ?_
    intro w3 hc K hK
    have hmm := @run_makeMap Tryz.prog
    go_wp2_with fail
    refine hK _ _ (below_alloc_self _ _) ?_
    clear hmm
    have hb4 := hc.trans ((below_alloc_self w3 (.map #[] 0)).mono hc.size)
    have gm : (w3.alloc (.map #[] 0)).heap[w3.heap.size]? = some (.map #[] 0) := heap_new rfl
    generalize w3.heap.size = mh at *
    generalize w3.alloc (.map #[] 0) = w9 at *
    have HZ := Lib.hid (And.intro gm (HB.out.1.trans (hb4.mono HB.out.1.size)))
    clear hb4 gm hc hK
    try simp only [Act.put, List.setIfInBounds_toArray, List.set_cons_succ, List.set_cons_zero]
    refine x_end ?_
    refine wpX_tail [4, 5, 6, 7, 8] 5 (by kernel_rfl) ?_
    simp only [List.map_cons, List.map_nil, List.getD_cons_zero, List.getD_cons_succ]
    refine x_make rfl ?_
    intro w10 hc10 K hK
    go_wp2_with fail
    refine (tmnew_any w10).mono ?_
    rintro x11 w11 ⟨th, rfl, hth, htm, hb11⟩
    refine hK _ _ hb11 ?_
    have hb12 := hc10.trans (hb11.mono hc10.size)
    have HT := Lib.hid (And.intro htm (And.intro (blk_below HZ.out.1 hb12) (HZ.out.2.trans (hb12.mono HZ.out.2.size))))
    clear htm hb11 hb12 hc10 hth hK HZ
    try simp only [Act.put, List.setIfInBounds_toArray, List.set_cons_succ, List.set_cons_zero]
    (refine x_pure rfl _ ?_ rfl (by simp) ?_ ?_ ; rotate_left ; · (intro w3 K hK ; go_wp2_with fail ; exact rfl))
    try simp only [Act.put, List.setIfInBounds_toArray, List.set_cons_succ, List.set_cons_zero]
    (refine x_new rfl (by repeat (first | exact stable_ext _ | exact stable_blk _ _ | exact stable_true | (refine stable_bel ?_ ; (focus (first | (simp [World.size_setCell] ; done) | (simp [World.setCell] ; done)))) | refine Stable.and ?_ ?_)) ?_ ?_ ?_ ; rotate_left ; (focus (intro w9 ; go_simp ; try exact rfl)) ; rintro db ⟨wn, hgn, hgs⟩)
    try simp only [Act.put, List.setIfInBounds_toArray, List.set_cons_succ, List.set_cons_zero]
    (refine x_pure rfl _ ?_ rfl (by simp) ?_ ?_ ; rotate_left ; · (intro w3 K hK ; go_wp2_with fail ; exact rfl))
    try simp only [Act.put, List.setIfInBounds_toArray, List.set_cons_succ, List.set_cons_zero]
    (refine x_pure rfl _ ?_ rfl (by simp) ?_ ?_ ; rotate_left ; · (intro w3 K hK ; go_wp2_with fail ; exact rfl))
    try simp only [Act.put, List.setIfInBounds_toArray, List.set_cons_succ, List.set_cons_zero]
    refine x_nil ?_
    rintro wy ⟨hyb, hn⟩
    have hge : w.heap.size ≤ db := by have := (HT.out.2.2.trans (hgn.mono HT.out.2.2.size)).size; omega
    have hn : wy.heap[db]? = some (.cells (deskC sb c0 c1 c2 c3 life 0 0 (.slice none 0 0) mh th goneNew) 219 (0, 0)) := hn
    have HY := Lib.hid (And.intro hyb (And.intro hn hge))
    clear hyb hn hgn hgs hSt hge
    go_wp2_with fail
    go_ret2
    exact ⟨db, rfl, HY.out.2.2, ⟨mh, th, HY.out.2.1, blk_below HT.out.2.1 HY.out.1, HT.out.1.below HY.out.1⟩, HT.out.2.2.trans (HY.out.1.mono HT.out.2.2.size)⟩
  · simp only [List.map_cons, List.map_nil, List.getD_cons_zero, List.getD_cons_succ]
    refine x_make rfl ?_
    intro w10 hc10 K hK
    go_wp2_with fail
    refine (tmnew_any w10).mono ?_
    rintro x11 w11 ⟨th, rfl, hth, htm, hb11⟩
    refine hK _ _ hb11 ?_
    have hb12 := hc10.trans (hb11.mono hc10.size)
    have HZ := Lib.hid (And.intro htm (HB.out.1.trans (hb12.mono HB.out.1.size)))
    clear htm hb11 hb12 hc10 hth hK
    try simp only [Act.put, List.setIfInBounds_toArray, List.set_cons_succ, List.set_cons_zero]
    refine x_end ?_
    refine wpX_tail [3, 5, 6, 7, 8] 5 (by kernel_rfl) ?_
    simp only [List.map_cons, List.map_nil, List.getD_cons_zero, List.getD_cons_succ]
    refine x_make rfl ?_
    intro w3 hc K hK
    have hmm := @run_makeMap Tryz.prog
    go_wp2_with fail
    refine hK _ _ (below_alloc_self _ _) ?_
    clear hmm
    have hb4 := hc.trans ((below_alloc_self w3 (.map #[] 0)).mono hc.size)
    have gm : (w3.alloc (.map #[] 0)).heap[w3.heap.size]? = some (.map #[] 0) := heap_new rfl
    generalize w3.heap.size = mh at *
    generalize w3.alloc (.map #[] 0) = w9 at *
    have HT := Lib.hid (And.intro (HZ.out.1.below hb4) (And.intro gm (HZ.out.2.trans (hb4.mono HZ.out.2.size))))
    clear hb4 gm hc hK HZ
    try simp only [Act.put, List.setIfInBounds_toArray, List.set_cons_succ, List.set_cons_zero]
    (refine x_pure rfl _ ?_ rfl (by simp) ?_ ?_ ; rotate_left ; · (intro w3 K hK ; go_wp2_with fail ; exact rfl))
    try simp only [Act.put, List.setIfInBounds_toArray, List.set_cons_succ, List.set_cons_zero]
    (refine x_new rfl (by repeat (first | exact stable_ext _ | exact stable_blk _ _ | exact stable_true | (refine stable_bel ?_ ; (focus (first | (simp [World.size_setCell] ; done) | (simp [World.setCell] ; done)))) | refine Stable.and ?_ ?_)) ?_ ?_ ?_ ; rotate_left ; (focus (intro w9 ; go_simp ; try exact rfl)) ; rintro db ⟨wn, hgn, hgs⟩)
    try simp only [Act.put, List.setIfInBounds_toArray, List.set_cons_succ, List.set_cons_zero]
    (refine x_pure rfl _ ?_ rfl (by simp) ?_ ?_ ; rotate_left ; · (intro w3 K hK ; go_wp2_with fail ; exact rfl))
    try simp only [Act.put, List.setIfInBounds_toArray, List.set_cons_succ, List.set_cons_zero]
    (refine x_pure rfl _ ?_ rfl (by simp) ?_ ?_ ; rotate_left ; · (intro w3 K hK ; go_wp2_with fail ; exact rfl))
    try simp only [Act.put, List.setIfInBounds_toArray, List.set_cons_succ, List.set_cons_zero]
    refine x_nil ?_
    rintro wy ⟨hyb, hn⟩
    have hge : w.heap.size ≤ db := by have := (HT.out.2.2.trans (hgn.mono HT.out.2.2.size)).size; omega
    have hn : wy.heap[db]? = some (.cells (deskC sb c0 c1 c2 c3 life 0 0 (.slice none 0 0) mh th goneNew) 219 (0, 0)) := hn
    have HY := Lib.hid (And.intro hyb (And.intro hn hge))
    clear hyb hn hgn hgs hSt hge
    go_wp2_with fail
    go_ret2
    exact ⟨db, rfl, HY.out.2.2, ⟨mh, th, HY.out.2.1, blk_below HT.out.2.1 HY.out.1, HT.out.1.below HY.out.1⟩, HT.out.2.2.trans (HY.out.1.mono HT.out.2.2.size)⟩
end Go.Proofs.YtdflmplmpjghdaaGreatDoor
namespace Go.Proofs.YtdflmplmpjghdaaGreatDoor
open Go.ChangeShapes Go.WideShapes Go.ChangeAt Go.RowKit Go.Deep Go.Shelf
set_option linter.unusedVariables false
set_option linter.unusedSimpArgs false
set_option maxRecDepth 100000

/-- The node's cells: those that count stay as they are. -/
abbrev ndC (c0 c1 c2 c3 : Int) (sb : Nat) (desk : Option Addr) (life : Int) : Array Value := #[.int .i64 c0, .int .i64 c1, .int .i64 c2, .int .i64 c3, .pointer (some ⟨sb, 0, none⟩), .pointer desk, .slice none 0 0, .int .i64 life, .int .i64 0, .int .i64 0, .int .i64 0, .int .i64 0, .int .i64 0, .int .i64 0, .int .i64 0, .int .i64 0, .int .i64 0, .int .i64 0]
theorem ndc_cells {w : World} {nb sb : Nat} {c0 c1 c2 c3 life : Int} {d : Option Addr} (h : w.heap[nb]? = some (.cells (ndC c0 c1 c2 c3 sb d life) nodeN (0, 0))) :
    w.cell? ⟨nb, 0, none⟩ = some (.int .i64 c0) ∧ w.cell? ⟨nb, 1, none⟩ = some (.int .i64 c1) ∧ w.cell? ⟨nb, 2, none⟩ = some (.int .i64 c2) ∧ w.cell? ⟨nb, 3, none⟩ = some (.int .i64 c3) ∧ w.cell? ⟨nb, 4, none⟩ = some (.pointer (some ⟨sb, 0, none⟩)) ∧ w.cell? ⟨nb, 5, none⟩ = some (.pointer d) ∧ w.cell? ⟨nb, 7, none⟩ = some (.int .i64 life) ∧ nb < w.heap.size ∧ ∀ o, w.frozen? ⟨nb, o, none⟩ = false :=
  ⟨blk_cell h 0, blk_cell h 1, blk_cell h 2, blk_cell h 3, blk_cell h 4, blk_cell h 5, blk_cell h 7, blk_lt h, blk_free h⟩
theorem DeskNew.side {w w' : World} {db sb : Nat} {c0 c1 c2 c3 life : Int} (h : DeskNew w db sb c0 c1 c2 c3 life) {b : Nat} {cs : Array Value} {ty : TypeId} {fr : Nat × Nat} (hb : w.heap[b]? = some (.cells cs ty fr)) (h1 : ty ≠ 219) (h2 : ty ≠ 283) (hk : Keep (fun k => k = b) w w') : DeskNew w' db sb c0 c1 c2 c3 life := by
  obtain ⟨mh, th, g1, g2, ah, g3, g4⟩ := h
  exact ⟨mh, th, hk.blk g1 (ne_type hb h1 _ _ _ g1), hk.blk g2 (fun e => by subst e; rw [hb] at g2; cases g2), ah, hk.blk g3 (ne_type hb h2 _ _ _ g3), hk.blk g4 (fun e => by subst e; rw [hb] at g4; cases g4)⟩
set_option maxRecDepth 100000 in
set_option maxHeartbeats 8000000 in
theorem begins_any (nb sb : Nat) (c0 c1 c2 c3 : Int) (hc : CfgOk c0 c1 c2 c3) (w : World) (h : w.heap[nb]? = some (.cells (ndC c0 c1 c2 c3 sb none 0) nodeN (0, 0))) :
    Calls Tryz.prog 50 #[.pointer (some ⟨nb, 0, none⟩)] w fun e w' => e = .returned (.tuple #[]) ∧ ∃ db, w.heap.size ≤ db ∧ NdAt w' nb sb db c0 c1 c2 c3 ∧ DeskNew w' db sb c0 c1 c2 c3 1 ∧ Keep (fun k => k = nb) w w' := by
  have q := ndc_cells h
  have HH := Lib.hid (And.intro hc h)
  clear hc h
  go_enter Tryz.func50, Tryz.ntmps50
  go_wp2_with fail
  clear q
  have h1 : (w.setCell ⟨nb, 7, none⟩ (.int .i64 1)).heap[nb]? = some (.cells (ndC c0 c1 c2 c3 sb none 1) nodeN (0, 0)) := heap_set_to HH.out.2 (by simp)
  have k1 := Keep.set w ⟨nb, 7, none⟩ (.int .i64 1)
  generalize w.setCell ⟨nb, 7, none⟩ (.int .i64 1) = w1 at *
  have H1 := Lib.hid (And.intro h1 k1)
  clear h1 k1
  have hSt : Stable (fun w3 : World => (Below w1.heap.size w1 w3)) := by repeat (first | exact stable_ext _ | exact stable_blk _ _ | exact stable_true | (refine stable_bel ?_ ; (focus (first | (simp [World.size_setCell] ; done) | (simp [World.setCell] ; done)))) | refine Stable.and ?_ ?_)
  refine wp_region_x [0, 1, 2, 3, 4, 5, 6, 7, 8, 9, 10, 11, 12, 13, 14, 15, 16, 17, 18, 19] [0, 0, 0, 0, 1, 0, 0, 0, 1, 0, 0, 0, 1, 4, 0, 0, 0, 0, 0, 3] (fun w3 => (Below w1.heap.size w1 w3)) (by kernel_rfl) (by kernel_rfl) ?_ ?_
  · (first | trivial | (repeat (first | (with_reducible assumption) | (with_reducible exact Below.refl _ _) | (with_reducible refine heap_drew ?_) | (focus ((with_reducible refine heap_new ?_) ; simp ; done)) | (with_reducible apply heap_set_to) | (focus ((with_reducible refine heap_set_ne ?_ ?_ _) ; rotate_left ; (focus (first | omega | (simp ; done) | (simp ; omega))))) | (with_reducible refine heap_old ?_) | (with_reducible refine Below.drew ?_) | (with_reducible refine below_set ?_ _ _) | (focus ((with_reducible refine Below.setCell ?_ ?_ _) ; rotate_left ; (focus (first | omega | (simp ; done) | (simp ; omega))))) | (focus ((with_reducible refine Below.alloc ?_ ?_ _) ; rotate_left ; (focus (first | omega | (simp ; done) | (simp ; omega))))) | (with_reducible rfl) | (focus (simp ; done)))))
  simp only [List.map_cons, List.map_nil, List.getD_cons_zero, List.getD_cons_succ]
  (refine x_pure rfl _ ?_ rfl (by simp) ?_ ?_ ; rotate_left ; · (intro w3 K hK ; go_wp2_with fail ; exact rfl))
  simp only [Act.put, List.setIfInBounds_toArray, List.set_cons_succ, List.set_cons_zero]
  (refine x_pure rfl _ ?_ rfl (by simp) ?_ ?_ ; rotate_left ; · (intro w3 K hK ; go_wp2_with fail ; exact rfl))
  simp only [Act.put, List.setIfInBounds_toArray, List.set_cons_succ, List.set_cons_zero]
  (refine x_pure rfl _ ?_ rfl (by simp) ?_ ?_ ; rotate_left ; · (intro w3 K hK ; go_wp2_with fail ; exact rfl))
  simp only [Act.put, List.setIfInBounds_toArray, List.set_cons_succ, List.set_cons_zero]
  (refine x_pure rfl _ ?_ rfl (by simp) ?_ ?_ ; rotate_left ; · (intro w3 K hK ; go_wp2_with fail ; exact rfl))
  simp only [Act.put, List.setIfInBounds_toArray, List.set_cons_succ, List.set_cons_zero]
  (refine x_quiet rfl hSt (fun _ h => h) _ ?_ rfl (by simp) ?_ ?_ ; rotate_left ; · (intro w3 hC K hK ; have hb := hC ; have q := ndc_cells (blk_below H1.out.1 hb) ; go_wp2_with fail ; refine ⟨?_, Below.refl _ _⟩ ; exact rfl))
  simp only [Act.put, List.setIfInBounds_toArray, List.set_cons_succ, List.set_cons_zero]
  (refine x_pure rfl _ ?_ rfl (by simp) ?_ ?_ ; rotate_left ; · (intro w3 K hK ; go_wp2_with fail ; exact rfl))
  simp only [Act.put, List.setIfInBounds_toArray, List.set_cons_succ, List.set_cons_zero]
  (refine x_pure rfl _ ?_ rfl (by simp) ?_ ?_ ; rotate_left ; · (intro w3 K hK ; go_wp2_with fail ; exact rfl))
  simp only [Act.put, List.setIfInBounds_toArray, List.set_cons_succ, List.set_cons_zero]
  (refine x_pure rfl _ ?_ rfl (by simp) ?_ ?_ ; rotate_left ; · (intro w3 K hK ; go_wp2_with fail ; exact rfl))
  simp only [Act.put, List.setIfInBounds_toArray, List.set_cons_succ, List.set_cons_zero]
  (refine x_quiet rfl hSt (fun _ h => h) _ ?_ rfl (by simp) ?_ ?_ ; rotate_left ; · (intro w3 hC K hK ; have hb := hC ; have q := ndc_cells (blk_below H1.out.1 hb) ; go_wp2_with fail ; refine ⟨?_, Below.refl _ _⟩ ; exact rfl))
  simp only [Act.put, List.setIfInBounds_toArray, List.set_cons_succ, List.set_cons_zero]
  (refine x_pure rfl _ ?_ rfl (by simp) ?_ ?_ ; rotate_left ; · (intro w3 K hK ; go_wp2_with fail ; exact rfl))
  simp only [Act.put, List.setIfInBounds_toArray, List.set_cons_succ, List.set_cons_zero]
  (refine x_pure rfl _ ?_ rfl (by simp) ?_ ?_ ; rotate_left ; · (intro w3 K hK ; go_wp2_with fail ; exact rfl))
  simp only [Act.put, List.setIfInBounds_toArray, List.set_cons_succ, List.set_cons_zero]
  (refine x_pure rfl _ ?_ rfl (by simp) ?_ ?_ ; rotate_left ; · (intro w3 K hK ; go_wp2_with fail ; exact rfl))
  simp only [Act.put, List.setIfInBounds_toArray, List.set_cons_succ, List.set_cons_zero]
  (refine x_quiet rfl hSt (fun _ h => h) _ ?_ rfl (by simp) ?_ ?_ ; rotate_left ; · (intro w3 hC K hK ; have hb := hC ; have q := ndc_cells (blk_below H1.out.1 hb) ; go_wp2_with fail ; refine ⟨?_, Below.refl _ _⟩ ; exact rfl))
  simp only [Act.put, List.setIfInBounds_toArray, List.set_cons_succ, List.set_cons_zero]
  refine x_make rfl ?_
  intro w3 hD K hK ; have hb := hD ; have q := ndc_cells (blk_below H1.out.1 hb)
  go_wp2_with fail
  refine (sesnew_any sb c0 c1 c2 c3 1 HH.out.1 (by omega) (by omega) w3).mono ?_
  rintro x9 w9 ⟨db, rfl, hge, hd, hb9⟩
  have hge2 : w.heap.size ≤ db := Nat.le_trans (Nat.le_trans H1.out.2.size hb.size) hge
  have HZ := Lib.hid (And.intro hd (And.intro (hb.trans (hb9.mono hb.size)) (And.intro hge2 (hb9.size))))
  have hge3 : w1.heap.size ≤ db := Nat.le_trans hb.size hge
  clear q hd hb hge hge2
  refine hK _ _ hb9 ?_
  try simp only [Act.put, List.setIfInBounds_toArray, List.set_cons_succ, List.set_cons_zero]
  (refine x_pure rfl _ ?_ rfl (by simp) ?_ ?_ ; rotate_left ; · (intro w3 K hK ; go_wp2_with fail ; exact rfl))
  simp only [Act.put, List.setIfInBounds_toArray, List.set_cons_succ, List.set_cons_zero]
  (refine x_pure rfl _ ?_ rfl (by simp) ?_ ?_ ; rotate_left ; · (intro w3 K hK ; go_wp2_with fail ; exact rfl))
  simp only [Act.put, List.setIfInBounds_toArray, List.set_cons_succ, List.set_cons_zero]
  (refine x_pure rfl _ ?_ rfl (by simp) ?_ ?_ ; rotate_left ; · (intro w3 K hK ; go_wp2_with fail ; exact rfl))
  simp only [Act.put, List.setIfInBounds_toArray, List.set_cons_succ, List.set_cons_zero]
  (refine x_pure rfl _ ?_ rfl (by simp) ?_ ?_ ; rotate_left ; · (intro w3 K hK ; go_wp2_with fail ; exact rfl))
  simp only [Act.put, List.setIfInBounds_toArray, List.set_cons_succ, List.set_cons_zero]
  (refine x_pure rfl _ ?_ rfl (by simp) ?_ ?_ ; rotate_left ; · (intro w3 K hK ; go_wp2_with fail ; exact rfl))
  simp only [Act.put, List.setIfInBounds_toArray, List.set_cons_succ, List.set_cons_zero]
  refine x_write rfl ?_
  intro wy hyb K hK
  have HY := Lib.hid (And.intro (HZ.out.1.below hyb) (HZ.out.2.1.trans (hyb.mono HZ.out.2.1.size)))
  have g := blk_below H1.out.1 HY.out.2
  have q := ndc_cells g
  have HG := Lib.hid g
  clear g hyb
  go_wp2_with fail
  try simp only [Act.put, List.setIfInBounds_toArray, List.set_cons_succ, List.set_cons_zero]
  first | refine x_nil ?_ | refine x_end ?_
  rintro _ rfl
  go_wp2_with fail
  go_end0
  have hk2 := Keep.set wy ⟨nb, 5, none⟩ (.pointer (some ⟨db, 0, none⟩))
  exact ⟨rfl, db, Nat.le_trans H1.out.2.size hge3, heap_set_to HG.out (by simp), HY.out.1.side HG.out (by decide) (by decide) hk2, (H1.out.2.trans (Keep.of_below HY.out.2)).trans hk2⟩
/-- What node.New leaves. -/
def NNewOf (w : World) (id c0 c1 c2 c3 : Int) (x : Ending) (w' : World) : Prop := ∃ nb db sb tb mb, x = .returned (.tuple #[.pointer (some ⟨nb, 0, none⟩), .int .i64 0]) ∧ (w.heap.size ≤ nb ∧ w.heap.size ≤ db ∧ w.heap.size ≤ sb ∧ w.heap.size ≤ tb ∧ w.heap.size ≤ mb) ∧ NdAt w' nb sb db c0 c1 c2 c3 ∧ StAt w' sb tb mb id 0 0 .nil ∧ DeskNew w' db sb c0 c1 c2 c3 1 ∧ Below w.heap.size w w'
set_option maxRecDepth 100000 in
set_option maxHeartbeats 8000000 in
theorem nnew_any (id c0 c1 c2 c3 : Int) (hc : CfgOk c0 c1 c2 c3) (h1 : 0 ≤ id) (h2 : id < 8) (w : World) (hL : Lanes w) :
    Calls Tryz.prog 25 #[.int .i64 id, cfV c0 c1 c2 c3] w (NNewOf w id c0 c1 c2 c3) := by
  have hb0 := below_alloc_self w (.cells #[.int .i64 c0, .int .i64 c1, .int .i64 c2, .int .i64 c3] cfgT (0, 0))
  have g0 : (w.alloc (.cells #[.int .i64 c0, .int .i64 c1, .int .i64 c2, .int .i64 c3] cfgT (0, 0))).heap[w.heap.size]? = some (.cells #[.int .i64 c0, .int .i64 c1, .int .i64 c2, .int .i64 c3] cfgT (0, 0)) := heap_new rfl
  have HL := Lib.hid (And.intro (hL.below hb0 hL.lt) (And.intro hc (And.intro hb0 g0)))
  clear hL hc hb0 g0
  go_enter Tryz.func25, Tryz.ntmps25
  go_wp2_with fail
  refine (snew_any id h1 h2 _ HL.out.1).mono ?_
  rintro e w1 ⟨sb, tb, mb, rfl, l1, l2, l3, hst, hb1⟩
  have H1 := Lib.hid (And.intro hst (And.intro (blk_below HL.out.2.2.2 hb1) (HL.out.2.2.1.trans (hb1.mono HL.out.2.2.1.size))))
  have l0 := HL.out.2.2.1.size
  have q := blk4 H1.out.2.1
  clear hst hb1
  go_wp2_with fail
  refine (cfg_any c0 c1 c2 c3 HL.out.2.1 _).mono ?_
  rintro e w2 ⟨rfl, hb2⟩
  have H2 := Lib.hid (And.intro (H1.out.1.below hb2) (And.intro (blk_below H1.out.2.1 hb2) (H1.out.2.2.trans (hb2.mono H1.out.2.2.size))))
  have q := blk4 H2.out.2.1
  clear hb2 H1
  go_wp2_with fail
  have hb3 := below_alloc_self w2 (.cells (ndC c0 c1 c2 c3 sb none 0) nodeN (0, 0))
  have g3 : (w2.alloc (.cells (ndC c0 c1 c2 c3 sb none 0) nodeN (0, 0))).heap[w2.heap.size]? = some (.cells (ndC c0 c1 c2 c3 sb none 0) nodeN (0, 0)) := heap_new rfl
  have hw2 := H2.out.2.2.size
  have H3 := Lib.hid (And.intro (H2.out.1.below hb3) (And.intro g3 (H2.out.2.2.trans (hb3.mono H2.out.2.2.size))))
  clear hb3 g3 q
  refine (begins_any w2.heap.size sb c0 c1 c2 c3 HL.out.2.1 _ H3.out.2.1).mono ?_
  rintro e w4 ⟨rfl, db, hge, hnd, hdk, hkp⟩
  have H4 := Lib.hid (And.intro hnd (And.intro hdk hkp))
  have hge2 := H3.out.2.2.size
  clear hnd hdk hkp
  go_wp2_with fail
  go_ret2
  exact ⟨w2.heap.size, db, sb, tb, mb, rfl, ⟨hw2, by omega, by omega, by omega, by omega⟩, H4.out.1, H3.out.1.side H3.out.2.1 (by decide) (by decide) (by decide) (by decide) (by have := H2.out.1.lanes.lt; omega) H4.out.2.2, H4.out.2.1, H3.out.2.2.trans (H4.out.2.2.below H3.out.2.2.size fun k e => by rw [e]; exact hw2)⟩
end Go.Proofs.YtdflmplmpjghdaaGreatDoor
namespace Go.Proofs.YtdflmplmpjghdaaGreatDoor
open Go.ChangeShapes Go.WideShapes Go.ChangeAt Go.RowKit Go.Deep Go.Shelf
set_option linter.unusedVariables false
set_option linter.unusedSimpArgs false
set_option maxRecDepth 100000

/-- A node's blocks. -/
structure NR where
  nb : Nat
  db : Nat
  sb : Nat
  tb : Nat
  mb : Nat
abbrev nptT : TypeId := 93
abbrev worldT : TypeId := 92
abbrev nptr (r : NR) : Value := .pointer (some ⟨r.nb, 0, none⟩)
/-- All nodes are new. -/
def AllNew (c0 c1 c2 c3 : Int) (L : List NR) (w : World) : Prop := ∀ k (h : k < L.length), NdAt w L[k].nb L[k].sb L[k].db c0 c1 c2 c3 ∧ StAt w L[k].sb L[k].tb L[k].mb (k : Int) 0 0 .nil ∧ DeskNew w L[k].db L[k].sb c0 c1 c2 c3 1
/-- Their blocks are not the same. -/
def NR.apart (r s : NR) : Prop := r.sb ≠ s.sb ∧ r.tb ≠ s.tb ∧ r.mb ≠ s.mb ∧ r.nb ≠ s.nb ∧ r.db ≠ s.db
/-- None of the blocks of a node is of that type. -/
def offT (ty : TypeId) : Prop := ty ≠ storeT ∧ ty ≠ 276 ∧ ty ≠ 222 ∧ ty ≠ nodeT ∧ ty ≠ nodeN ∧ ty ≠ 219 ∧ ty ≠ 283
theorem AllNew.side {c0 c1 c2 c3 : Int} {L : List NR} {w w' : World} (h : AllNew c0 c1 c2 c3 L w) {b : Nat} {cs : Array Value} {ty : TypeId} {fr : Nat × Nat} (hb : w.heap[b]? = some (.cells cs ty fr)) (ht : offT ty) (h0 : 0 ≠ b) (hk : Keep (fun k => k = b) w w') : AllNew c0 c1 c2 c3 L w' := fun k hk2 => by
  obtain ⟨h1, h2, h3⟩ := h k hk2
  obtain ⟨t1, t2, t3, t4, t5, t6, t7⟩ := ht
  exact ⟨hk.blk h1 (ne_type hb t5 _ _ _ h1), h2.side hb t1 t2 t3 t4 h0 hk, h3.side hb t6 t7 hk⟩
theorem AllNew.below {c0 c1 c2 c3 : Int} {L : List NR} {w w' : World} (h : AllNew c0 c1 c2 c3 L w) (hb : Below w.heap.size w w') : AllNew c0 c1 c2 c3 L w' := fun k hk2 => by
  obtain ⟨h1, h2, h3⟩ := h k hk2
  exact ⟨blk_below h1 hb, h2.below hb, h3.below hb⟩
theorem AllNew.grown {c0 c1 c2 c3 : Int} {L : List NR} {w w' : World} (h : AllNew c0 c1 c2 c3 L w) {B n size : Nat} {e : TypeId} {v : Value} {xs : List Value} (ho : w.ownsRow B e size v n xs) (hB : 0 < B) (ht : offT e) (hg : w.grownBy w' v.ownBlock) : AllNew c0 c1 c2 c3 L w' := by
  rcases ho.2 with ⟨rfl, _⟩ | ⟨g, cap, cur, rfl, hg0, hh, _⟩
  · exact h.below ((Keep.grown hg).below (Nat.le_refl _) (fun k e => by cases e))
  · exact h.side hh ht (by omega) ((Keep.grown hg).mono fun k _ e => by simp only [Value.ownBlock, Option.some.injEq] at e; exact e.symm)
theorem info_npt : (Tryz.prog.info? nptT).map (fun i => (i.zero, i.size, i.bytes)) = some (some (.pointer none), 1, 8) := by kernel_rfl
/-- What world.New leaves. -/
structure WAt (w : World) (wb bb : Nat) (v : Value) (L : List NR) : Prop where
  blk : w.heap[wb]? = some (.cells #[v, .pointer (some ⟨bb, 0, none⟩)] worldT (0, 0))
  row : w.ownsRow 1 nptT 1 v L.length (L.map nptr)
def WNewOf (w : World) (n c0 c1 c2 c3 : Int) (x : Ending) (w' : World) : Prop := ∃ wb bb v L, x = .returned (.tuple #[.pointer (some ⟨wb, 0, none⟩), .int .i64 0]) ∧ ((L : List NR).length : Int) = n ∧ WAt w' wb bb v L ∧ w'.heap[bb]? = some (.cells (bagC 512 0 0 (.slice none 0 0)) 128 (0, 0)) ∧ AllNew c0 c1 c2 c3 L w' ∧ L.Pairwise NR.apart ∧ (∀ r ∈ L, w.heap.size ≤ r.sb ∧ w.heap.size ≤ r.tb ∧ w.heap.size ≤ r.mb ∧ w.heap.size ≤ r.nb ∧ w.heap.size ≤ r.db) ∧ w.heap.size ≤ wb ∧ w.heap.size ≤ bb ∧ (∀ g, v.ownBlock = some g → w.heap.size ≤ g) ∧ Below w.heap.size w w'
/-- Between two rounds. -/
structure WRnd (w : World) (c0 c1 c2 c3 : Int) (cb bb wb : Nat) (v : Value) (L : List NR) (wr : World) : Prop where
  blk : wr.heap[wb]? = some (.cells #[v, .pointer (some ⟨bb, 0, none⟩)] worldT (0, 0))
  row : wr.ownsRow cb nptT 1 v L.length (L.map nptr)
  all : AllNew c0 c1 c2 c3 L wr
  apart : L.Pairwise NR.apart
  new : ∀ r ∈ L, w.heap.size ≤ r.sb ∧ w.heap.size ≤ r.tb ∧ w.heap.size ≤ r.mb ∧ w.heap.size ≤ r.nb ∧ w.heap.size ≤ r.db
  cfg : wr.heap[cb]? = some (.cells #[.int .i64 c0, .int .i64 c1, .int .i64 c2, .int .i64 c3] cfgT (0, 0))
  bag : wr.heap[bb]? = some (.cells (bagC 512 0 0 (.slice none 0 0)) 128 (0, 0))
  bel : Below w.heap.size w wr
  lanes : Lanes wr
/-- The same, with one node more that has not been laid into the row. -/
structure WRnd1 (w : World) (c0 c1 c2 c3 : Int) (cb bb : Nat) (L : List NR) (wr : World) : Prop where
  all : AllNew c0 c1 c2 c3 L wr
  apart : L.Pairwise NR.apart
  new : ∀ r ∈ L, w.heap.size ≤ r.sb ∧ w.heap.size ≤ r.tb ∧ w.heap.size ≤ r.mb ∧ w.heap.size ≤ r.nb ∧ w.heap.size ≤ r.db
  cfg : wr.heap[cb]? = some (.cells #[.int .i64 c0, .int .i64 c1, .int .i64 c2, .int .i64 c3] cfgT (0, 0))
  bag : wr.heap[bb]? = some (.cells (bagC 512 0 0 (.slice none 0 0)) 128 (0, 0))
  bel : Below w.heap.size w wr
  lanes : Lanes wr
theorem WRnd1.below {w : World} {c0 c1 c2 c3 : Int} {cb bb : Nat} {L : List NR} {wr w' : World} (h : WRnd1 w c0 c1 c2 c3 cb bb L wr) (hb : Below wr.heap.size wr w') : WRnd1 w c0 c1 c2 c3 cb bb L w' :=
  ⟨h.all.below hb, h.apart, h.new, blk_below h.cfg hb, blk_below h.bag hb, h.bel.trans (hb.mono h.bel.size), h.lanes.below hb h.lanes.lt⟩
theorem WRnd.push {w : World} {c0 c1 c2 c3 : Int} {cb bb wb : Nat} {v : Value} {L : List NR} {wr w1 : World} (h : WRnd w c0 c1 c2 c3 cb bb wb v L wr) (r : NR)
    (hge : wr.heap.size ≤ r.nb ∧ wr.heap.size ≤ r.db ∧ wr.heap.size ≤ r.sb ∧ wr.heap.size ≤ r.tb ∧ wr.heap.size ≤ r.mb) (hn : NdAt w1 r.nb r.sb r.db c0 c1 c2 c3) (hs : StAt w1 r.sb r.tb r.mb (L.length : Int) 0 0 .nil) (hd : DeskNew w1 r.db r.sb c0 c1 c2 c3 1) (hb : Below wr.heap.size wr w1) :
    WRnd1 w c0 c1 c2 c3 cb bb (L ++ [r]) w1 := by
  have hz := h.bel.size
  refine ⟨?_, ?_, ?_, blk_below h.cfg hb, blk_below h.bag hb, h.bel.trans (hb.mono h.bel.size), h.lanes.below hb h.lanes.lt⟩
  · intro k hk
    by_cases hk2 : k < L.length
    · rw [List.getElem_append_left hk2]
      exact h.all.below hb k hk2
    · have e : k = L.length := by simp at hk; omega
      subst e
      rw [List.getElem_append_right (Nat.le_refl _)]
      simp only [Nat.sub_self, List.getElem_cons_zero]
      exact ⟨hn, hs, hd⟩
  · refine List.pairwise_append.2 ⟨h.apart, List.pairwise_singleton _ _, fun x hx y hy => ?_⟩
    obtain rfl : y = r := by simpa using hy
    obtain ⟨k, hk, rfl⟩ := List.getElem_of_mem hx
    obtain ⟨g1, g2, g3⟩ := h.all k hk
    obtain ⟨mh, th, g4, _⟩ := g3
    obtain ⟨p, g5, _⟩ := g2.ob
    have l1 := blk_lt g1
    have l2 := blk_lt g2.blk
    have l3 := blk_lt g2.mt
    have l4 := blk_lt g4
    have l5 := blk_lt g5
    exact ⟨by omega, by omega, by omega, by omega, by omega⟩
  · intro x hx
    rcases List.mem_append.1 hx with hx | hx
    · exact h.new x hx
    · obtain rfl : x = r := by simpa using hx
      exact ⟨by omega, by omega, by omega, by omega, by omega⟩
theorem WRnd1.side {w : World} {c0 c1 c2 c3 : Int} {cb bb : Nat} {L : List NR} {wr w' : World} (h : WRnd1 w c0 c1 c2 c3 cb bb L wr) {b : Nat} {cs : Array Value} {ty : TypeId} {fr : Nat × Nat} (hb : wr.heap[b]? = some (.cells cs ty fr)) (ht : offT ty) (h1 : ty ≠ cfgT) (h2 : ty ≠ 128) (hge : w.heap.size ≤ b) (h0 : 0 < w.heap.size) (hk : Keep (fun k => k = b) wr w') : WRnd1 w c0 c1 c2 c3 cb bb L w' :=
  ⟨h.all.side hb ht (by omega) hk, h.apart, h.new, hk.blk h.cfg (ne_type hb h1 _ _ _ h.cfg), hk.blk h.bag (ne_type hb h2 _ _ _ h.bag), h.bel.trans (hk.below h.bel.size fun k e => by rw [e]; exact hge), h.lanes.keep hk (by omega)⟩
theorem WRnd1.grown {w : World} {c0 c1 c2 c3 : Int} {cb bb : Nat} {L : List NR} {wr w' : World} (h : WRnd1 w c0 c1 c2 c3 cb bb L wr) (hcb : w.heap.size = cb) (h0 : 0 < cb) {v : Value} {xs : List Value} {n : Nat} (ho : wr.ownsRow cb nptT 1 v n xs) (hg : wr.grownBy w' v.ownBlock) : WRnd1 w c0 c1 c2 c3 cb bb L w' := by
  rcases ho.2 with ⟨rfl, _⟩ | ⟨g, cap, cur, rfl, hg0, hh, _⟩
  · exact h.below ((Keep.grown hg).below (Nat.le_refl _) (fun k e => by cases e))
  · exact h.side hh (by unfold offT; decide) (by decide) (by decide) (by omega) (by omega) ((Keep.grown hg).mono fun k _ e => by simp only [Value.ownBlock, Option.some.injEq] at e; exact e.symm)
theorem lit1_news {w : World} {b : Nat} {x : Value} {t : TypeId} (h : w.heap[b]? = some (.cells #[x] t (0, 0))) : ∀ ad, some (⟨b, 0, none⟩ : Addr) = some ad → ∀ j u, [x][j]? = some u → w.cell? (ad.add j) = some u := by
  intro ad ha j u hu
  injection ha with ha
  subst ha
  cases j with
  | zero => rw [add_none, blk_cell h]; simpa using hu
  | succ j => simp at hu
set_option maxRecDepth 100000 in
set_option maxHeartbeats 8000000 in
theorem wnew_any (n : Nat) (c0 c1 c2 c3 : Int) (hc : CfgOk c0 c1 c2 c3) (h1 : 2 ≤ n) (h2 : n ≤ 8) (w : World) (hL : Lanes w) :
    Calls Tryz.prog 8 #[.int .i64 (n : Int), cfV c0 c1 c2 c3] w (WNewOf w n c0 c1 c2 c3) := by
  obtain ⟨i0, hi, hz0, hz1, hz2⟩ : ∃ i, Tryz.prog.info? nptT = some i ∧ i.zero = some (.pointer none) ∧ i.size = 1 ∧ i.bytes = 8 := by
    have := info_npt
    cases h : Tryz.prog.info? nptT with
    | none => rw [h] at this; cases this
    | some i => rw [h] at this; simp at this; exact ⟨i, rfl, this.1, this.2.1, this.2.2⟩
  have HI : Hid (_ ∧ _ ∧ _ ∧ _) := ⟨hi, hz0, hz1, hz2⟩
  clear hi hz0 hz1 hz2
  obtain ⟨k0, k1, k2, k3⟩ := alloc3 w (.cells #[.int .i64 c0, .int .i64 c1, .int .i64 c2, .int .i64 c3] cfgT (0, 0)) (.cells (bagC 512 0 0 (.slice none 0 0)) 128 (0, 0)) (.cells #[.slice none 0 0, .pointer (some ⟨w.heap.size + 1, 0, none⟩)] worldT (0, 0))
  have hl0 := hL.lt
  have HL := Lib.hid (And.intro (hL.below k0 hL.lt) (And.intro hc (And.intro k0 (And.intro k1 (And.intro k2 k3)))))
  clear hL hc k0 k1 k2 k3
  go_enter Tryz.func8, Tryz.ntmps8
  go_wp2_with fail
  refine (bnew_any _).mono ?_
  rintro e wx ⟨rfl, rfl⟩
  go_wp2_with fail
  generalize hW : ((w.alloc (.cells #[.int .i64 c0, .int .i64 c1, .int .i64 c2, .int .i64 c3] cfgT (0, 0))).alloc (.cells (bagC 512 0 0 (.slice none 0 0)) 128 (0, 0))).alloc (.cells #[.slice none 0 0, .pointer (some ⟨w.heap.size + 1, 0, none⟩)] worldT (0, 0)) = W0 at *
  clear hW
  obtain ⟨cb, ecb⟩ : ∃ x, x = w.heap.size := ⟨_, rfl⟩
  obtain ⟨bb, ebb⟩ : ∃ x, x = w.heap.size + 1 := ⟨_, rfl⟩
  obtain ⟨wb, ewb⟩ : ∃ x, x = w.heap.size + 1 + 1 := ⟨_, rfl⟩
  rw [← ewb, ← ebb, ← ecb] at HL
  rw [← ewb, ← ebb, ← ecb]
  have HE : Hid (w.heap.size = cb ∧ cb < bb ∧ bb < wb ∧ 0 < cb) := by refine ⟨?_, ?_, ?_, ?_⟩ <;> omega
  clear ebb ewb ecb hl0
  have HCf : Hid (CfgOk c0 c1 c2 c3) := HL.out.2.1
  go_loopw [26] (fun i wr => ∃ (k : Nat) (v : Value) (L : List NR), k ≤ n ∧ i = .int .i64 (k : Int) ∧ L.length = k ∧ Hid (WRnd w c0 c1 c2 c3 cb bb wb v L wr))
    (fun i _ => n - (intOf i).toNat)
  case atStart => exact ⟨0, _, [], by omega, rfl, rfl, ⟨HL.out.2.2.2.2.2, ⟨rfl, Or.inl ⟨rfl, rfl⟩⟩, (fun k h => absurd h (by simp)), List.Pairwise.nil, (fun r h => by cases h), HL.out.2.2.2.1, HL.out.2.2.2.2.1, (by rw [HE.out.1]; exact HL.out.2.2.1), HL.out.1⟩⟩
  case round =>
    clear HL
    obtain ⟨k, v, L, hk, rfl, hLk, HR⟩ := hrel
    by_cases hlt : k < n
    · have d : (k : Int) < (n : Int) := by omega
      have q := blk4 HR.out.cfg
      go_wp2_with fail
      refine (nnew_any (k : Int) c0 c1 c2 c3 HCf.out (by omega) (by omega) _ HR.out.lanes).mono ?_
      rintro e w1 ⟨nb, db, sb, tb, mb, rfl, hge, hn, hs, hd, hb⟩
      have H1 := Lib.hid (And.intro (HR.out.push ⟨nb, db, sb, tb, mb⟩ hge hn (hLk ▸ hs) hd hb) (And.intro (own_below HR.out.row hb) (blk_below HR.out.blk hb)))
      have HS1 : Hid (wr.heap.size ≤ w1.heap.size) := hb.size
      have hl1 : cb ≤ w1.heap.size := by have := HR.out.bel.size; have := hb.size; have := HE.out; omega
      clear hn hs hd hb hge q HR
      have q2 := blk2 H1.out.2.2
      have hba := below_alloc_self w1 (.cells #[nptr ⟨nb, db, sb, tb, mb⟩] nptT (0, 0))
      have gl : (w1.alloc (.cells #[nptr ⟨nb, db, sb, tb, mb⟩] nptT (0, 0))).heap[w1.heap.size]? = some (.cells #[nptr ⟨nb, db, sb, tb, mb⟩] nptT (0, 0)) := heap_new rfl
      have HA := Lib.hid (And.intro (H1.out.1.below hba) (And.intro (own_below H1.out.2.1 hba) (And.intro (blk_below H1.out.2.2 hba) gl)))
      have hl2 : cb ≤ (w1.alloc (.cells #[nptr ⟨nb, db, sb, tb, mb⟩] nptT (0, 0))).heap.size := Nat.le_trans hl1 hba.size
      clear hba gl
      go_wp2_with (first
        | (at_builtin; (refine wpList_append_any _ rfl (.tmp 41) (.tmp 43) 90 rfl cb nptT i0 _ 1 8 Tryz.underlying90 HI.out.1 HI.out.2.1 HI.out.2.2.1 HI.out.2.2.2 rfl (by decide) v L.length (L.map nptr) rfl HA.out.2.1 (some ⟨w1.heap.size, 0, none⟩) 1 1 [nptr ⟨nb, db, sb, tb, mb⟩] rfl rfl (fun h => nomatch h) (lit1_news HA.out.2.2.2) (by simp [Value.oneCell']) ?c3 ?c4 ?c5 ?_))
        | fail)
      case c3 => unfold maxLen; omega
      case c4 => omega
      case c5 => exact hl2
      intro v' w4 ho hg hb
      obtain ⟨oa, n', cap, rfl⟩ : ∃ oa n' cap, v' = .slice oa n' cap := by
        rcases ho.2 with ⟨h, _⟩ | ⟨g, cap, cur, h, _⟩
        · exact ⟨_, _, _, h⟩
        · exact ⟨_, _, _, h⟩
      have h4 := HA.out.1.grown HE.out.1 HE.out.2.2.2 HA.out.2.1 hg
      have g4 := (Keep.grown hg).blk HA.out.2.2.1 (own_ne HA.out.2.1 HA.out.2.2.1 (by decide))
      have q4 := blk2 g4
      have H4 := Lib.hid (And.intro h4 (And.intro ho g4))
      clear q2 hb ho hg h4 g4 HA H1
      go_wp2_with fail
      have hks := Keep.set w4 ⟨wb, 0, none⟩ (.slice oa n' cap)
      have h5 := H4.out.1.side H4.out.2.2 (by unfold offT; decide) (by decide) (by decide) (by have := HE.out; omega) (by have := HE.out; omega) hks
      have g5 : (w4.setCell ⟨wb, 0, none⟩ (.slice oa n' cap)).heap[wb]? = some (.cells #[.slice oa n' cap, .pointer (some ⟨bb, 0, none⟩)] worldT (0, 0)) := heap_set_to H4.out.2.2 (by simp)
      have o5 := own_keep H4.out.2.1 hks (fun g hv e => own_ne H4.out.2.1 H4.out.2.2 (by decide) (by rw [hv, show g = wb from e]))
      go_roundw
      case rel =>
        refine ⟨k + 1, .slice oa n' cap, L ++ [⟨nb, db, sb, tb, mb⟩], by omega, by go_num, by simp [hLk], ⟨g5, ?_, h5.all, h5.apart, h5.new, h5.cfg, h5.bag, h5.bel, h5.lanes⟩⟩
        rw [List.length_append, List.map_append, hLk]
        exact o5
      case measure => simp [intOf]; omega
    · obtain rfl : k = n := by omega
      go_wp2_with fail
      go_ret2
      refine ⟨wb, bb, v, L, rfl, by rw [hLk], ⟨HR.out.blk, ?_⟩, HR.out.bag, HR.out.all, HR.out.apart, HR.out.new, by have := HE.out; omega, by have := HE.out; omega, ?_, HR.out.bel⟩
      · have := HE.out
        exact own_mono HR.out.row (by omega)
      · intro g hg
        rcases HR.out.row.2 with ⟨rfl, _⟩ | ⟨g', cap, cur, rfl, hb', _⟩
        · cases hg
        · simp only [Value.ownBlock, Option.some.injEq] at hg
          have := HE.out
          omega
end Go.Proofs.YtdflmplmpjghdaaGreatDoor
