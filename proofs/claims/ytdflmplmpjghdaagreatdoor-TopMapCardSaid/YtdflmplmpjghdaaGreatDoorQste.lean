/-
  A command at the world, and at the plain map: Get.
-/
import Derived.Test.YtdflmplmpjghdaaGreatDoorQdo
import Derived.Test.YtdflmplmpjghdaaGreatDoorQlaw
namespace Go.Proofs.YtdflmplmpjghdaaGreatDoor
open Go.ChangeShapes Go.WideShapes Go.ChangeAt Go.RowKit Go.Deep Go.Shelf
set_option linter.unusedVariables false
set_option linter.unusedSimpArgs false
set_option maxRecDepth 100000
attribute [local go_sem] Oper.semAt_some

/-- What a step of the law leaves. -/
def StpOf (w : World) (wb bb pb : Nat) (v : Value) (r0 r1 : NR) (c0 c1 c2 c3 clk : Int) (M : Nat) (t : Tr) (pv : Value) (n : Int) (E : List Ent) (x : Ending) (w' : World) : Prop :=
  x = .returned (.bool true) ∧ ∃ clk' M' t' pv' n' E', M' ≤ M + 200 ∧ n ≤ n' ∧ n' ≤ n + 1 ∧ LwAt wb bb pb v r0 r1 c0 c1 c2 c3 clk' M' t' pv' n' E' w' ∧ Link clk' n' t' E' ∧ Keep (fun g => Kmts r0 g ∨ g = pb) w w'
theorem alloc_setRow (w : World) (old new : Array Value) (t : TypeId) (fr : Nat × Nat) : (w.alloc (.cells old t fr)).setRow w.heap.size new = w.alloc (.cells new t fr) := by
  have hh : ((w.alloc (.cells old t fr)).setRow w.heap.size new).heap = (w.alloc (.cells new t fr)).heap := by
    apply Array.ext_getElem?
    intro i
    by_cases e : i = w.heap.size
    · subst e
      rw [setRow_heap _ _ _ _ _ _ (heap_new rfl), heap_new rfl]
    · rw [setRow_other _ _ _ _ e, heap_alloc, heap_alloc, if_neg e, if_neg e]
  unfold World.setRow World.alloc at hh ⊢
  simp only at hh
  simp only [hh]
/-- The first cells of an answer. -/
theorem ans_cells {w : World} {g : Nat} {a b : Int} {ve : Value} {s1 s2 s3 : Int} (h : w.heap[g]? = some (ansO a b ve (s1, s2, s3))) :
    w.cell? ⟨g, 0, none⟩ = some (.int .i64 a) ∧ w.cell? ⟨g, 1, none⟩ = some (.int .i64 b) ∧ w.cell? ⟨g, 2, none⟩ = some ve ∧ w.cell? ⟨g, 3, none⟩ = some (.int .i64 s1) ∧ w.cell? ⟨g, 4, none⟩ = some (.int .u64 s2) ∧ w.cell? ⟨g, 5, none⟩ = some (.int .u64 s3) ∧ g < w.heap.size ∧ ∀ o, w.frozen? ⟨g, o, none⟩ = false :=
  ⟨blk_cell h 0, blk_cell h 1, blk_cell h 2, blk_cell h 3, blk_cell h 4, blk_cell h 5, blk_lt h, blk_free h⟩
theorem off_one {w : World} {g : Nat} {cs : Array Value} (h : w.heap[g]? = some (.cells cs ansT (0, 0))) (h0 : 0 < g) : Off2 w (fun k => k = g) := fun k e => by
  subst e
  exact ⟨h0, cs, ansT, (0, 0), h, by unfold offT; decide, by decide, by decide, by decide, by decide⟩
set_option maxRecDepth 100000 in
set_option maxHeartbeats 16000000 in
theorem step_put (wb bb pb : Nat) (v : Value) (r0 r1 : NR) (c0 c1 c2 c3 clk : Int) (M : Nat) (t : Tr) (pv : Value) (n : Int) (E : List Ent) (pr nn : Int) (key val lo hi : ByteArray) (op : Bool) (w : World) (h : LwAt wb bb pb v r0 r1 c0 c1 c2 c3 clk M t pv n E w) (hl : Link clk n t E) (hn : 0 ≤ n ∧ n ≤ 100000) (hM : M ≤ 1000000000) (hp0 : 0 < pb) (hk : key.size ≤ 140737488351232) (hv : val.size ≤ 140737488351232) :
    Calls Tryz.prog 9 #[.pointer (some ⟨pb, 0, none⟩), .pointer (some ⟨wb, 0, none⟩), opA 1 (0 : Nat) pr nn key val lo hi op] w (StpOf w wb bb pb v r0 r1 c0 c1 c2 c3 clk M t pv n E) := by
  have hb0 := below_alloc_self w (opO 1 (0 : Nat) pr nn key val lo hi op)
  have g0 : (w.alloc (opO 1 (0 : Nat) pr nn key val lo hi op)).heap[w.heap.size]? = some (opO 1 (0 : Nat) pr nn key val lo hi op) := heap_new rfl
  obtain rfl : clk = n := hl.clk
  have hE : E.length ≤ 256 := by rw [← hl.hol.size]; exact hl.sok.size
  have H0 := Lib.hid (And.intro (h.below hb0) (And.intro hl (And.intro hb0 g0)))
  clear h hl hb0 g0
  go_enter Tryz.func9, Tryz.ntmps9
  go_wp2_with fail
  refine (dput_any wb bb pb v r0 r1 c0 c1 c2 c3 clk M t pv clk E pr nn key val lo hi op _ H0.out.1 H0.out.2.1 (by omega) hM hk hv).mono ?_
  rintro x w1 ⟨rfl, M1, hM1, hlw, hkp⟩
  have HK1 : Hid (Keep (Kmts r0) w w1) := (Keep.of_below H0.out.2.2.1).trans hkp
  have HO1 : Hid (w1.heap[w.heap.size]? = some (opO 1 (0 : Nat) pr nn key val lo hi op)) := hkp.blk H0.out.2.2.2 (H0.out.1.s0.not H0.out.2.2.2 (by decide) (by decide) (by decide))
  by_cases he : errW t key val = 0
  · rw [if_pos he, if_pos he] at hlw
    rw [if_pos he, he]
    have HP := Lib.hid (alloc2 w1 (ansO (clk + 1) 0 (.slice none 0 0) (0, 0, 0)) (ansO 0 0 (.slice none 0 0) (0, 0, 0)))
    have HL1 := Lib.hid hlw
    have heL : errL E key val = 0 := by rw [← H0.out.2.1.errs]; exact he
    have HE := Lib.hid (And.intro heL (H0.out.2.1.put key val false he))
    clear hlw hkp he heL
    have qo := blk9 (blk_below HO1.out HP.out.1)
    go_wp2_with (first
      | (refine wpList_store_row rfl ansT (.tmp 7) (.tmp 19) rfl _ _ rfl rfl ansT _ (heap_new rfl) ansInfo rfl (ans1 _ _ _ _ rfl) ?_ ; rw [alloc_setRow])
      | (refine wpList_store_row rfl ansT (.tmp 9) (.tmp 21) rfl _ _ rfl rfl ansT _ (heap_new (by simp)) ansInfo rfl (ans1 0 0 (.slice none 0 0) (0, 0, 0) rfl) ?_ ; rw [setRow_self _ _ _ _ _ (heap_new (by simp))] ; generalize (w1.alloc (ansO (clk + 1) 0 (.slice none 0 0) (0, 0, 0))).alloc (ansO 0 0 (.slice none 0 0) (0, 0, 0)) = w3 at *)
      | fail)
    clear qo
    have HL3 := Lib.hid (HL1.out.below HP.out.1)
    refine (pwrite_ok pb pv clk E key val false w3 HL3.out.pat (by omega) hk hv (by omega) HE.out.1).mono ?_
    rintro x w4 ⟨rfl, pv', hpat, hkp4⟩
    have g7 := hkp4.blk HP.out.2.1 (ne_type HL3.out.pat.blk (by decide) _ _ _ HP.out.2.1)
    have g9 := hkp4.blk HP.out.2.2 (ne_type HL3.out.pat.blk (by decide) _ _ _ HP.out.2.2)
    have hl4 := HL3.out.plain hkp4 hpat hp0
    have q7 := ans_cells g7
    have q9 := ans_cells g9
    have k5 : Keep (fun g => g = w1.heap.size + 1) w4 ((w4.setCell ⟨w1.heap.size + 1, 0, none⟩ (.int .i64 (clk + 1))).setCell ⟨w1.heap.size + 1, 1, none⟩ (.int .i64 0)) := (Keep.set w4 ⟨w1.heap.size + 1, 0, none⟩ _).trans (Keep.set _ ⟨w1.heap.size + 1, 1, none⟩ _)
    have h5 := hl4.off k5 (off_one g9 (by omega))
    have g75 := k5.blk g7 (by omega)
    have g95 : ((w4.setCell ⟨w1.heap.size + 1, 0, none⟩ (.int .i64 (clk + 1))).setCell ⟨w1.heap.size + 1, 1, none⟩ (.int .i64 0)).heap[w1.heap.size + 1]? = some (ansO (clk + 1) 0 (.slice none 0 0) (0, 0, 0)) := heap_set_to (heap_set_to g9 rfl) (by simp)
    have H5 := Lib.hid (And.intro h5 (And.intro g75 (And.intro g95 (And.intro hkp4 k5))))
    clear g7 g9 hl4 k5 h5 g75 g95 hpat hkp4
    go_wp2_with fail
    refine (same_any 1 1 _ _ [] _ (own_nil _ _) (own_nil _ _) (by simp)).mono ?_
    rintro x w6 ⟨rfl, hb6⟩
    have q7b := ans_cells (blk_below H5.out.2.1 hb6)
    have q9b := ans_cells (blk_below H5.out.2.2.1 hb6)
    have H6 := Lib.hid (And.intro (H5.out.1.below hb6) hb6)
    clear hb6 q7 q9
    go_wp2_with fail
    go_ret
    refine ⟨rfl, _, M1, _, pv', _, _, hM1, by omega, by omega, H6.out.1, HE.out.2, ?_⟩
    exact (((HK1.out.mono fun _ _ e => Or.inl e).trans (Keep.of_below HP.out.1)).trans (H5.out.2.2.2.1.mono fun _ _ e => Or.inr e)).transNew (H5.out.2.2.2.2.trans (Keep.of_below H6.out.2)) (fun k e => by rw [e]; have := HK1.out.size; omega)
  · rw [if_neg he, if_neg he] at hlw
    rw [if_neg he]
    have he2 : errL E key val ≠ 0 := by rw [← H0.out.2.1.errs]; exact he
    rw [H0.out.2.1.errs]
    have HP := Lib.hid (alloc2 w1 (ansO 0 0 (.slice none 0 0) (0, 0, 0)) (ansO 0 0 (.slice none 0 0) (0, 0, 0)))
    have HL1 := Lib.hid hlw
    have HE := Lib.hid he2
    clear hlw hkp he he2
    obtain ⟨Er, hEr⟩ : ∃ Er, Er = errL E key val := ⟨_, rfl⟩
    rw [← hEr]
    have HEr := Lib.hid hEr
    clear hEr
    have qo := blk9 (blk_below HO1.out HP.out.1)
    go_wp2_with (first
      | (refine wpList_store_row rfl ansT (.tmp 7) (.tmp 19) rfl _ _ rfl rfl ansT _ (heap_new rfl) ansInfo rfl (ans1 _ _ _ _ rfl) ?_ ; rw [alloc_setRow])
      | (refine wpList_store_row rfl ansT (.tmp 9) (.tmp 21) rfl _ _ rfl rfl ansT _ (heap_new (by simp)) ansInfo rfl (ans1 0 0 (.slice none 0 0) (0, 0, 0) rfl) ?_ ; rw [setRow_self _ _ _ _ _ (heap_new (by simp))] ; generalize (w1.alloc (ansO 0 0 (.slice none 0 0) (0, 0, 0))).alloc (ansO 0 0 (.slice none 0 0) (0, 0, 0)) = w3 at *)
      | fail)
    clear qo
    have HL3 := Lib.hid (HL1.out.below HP.out.1)
    refine (pwrite_bad pb pv clk E key val false w3 HL3.out.pat (by omega) hk hv HE.out).mono ?_
    rintro x w4 ⟨rfl, hb4⟩
    rw [← HEr.out]
    have g7 := blk_below HP.out.2.1 hb4
    have g9 := blk_below HP.out.2.2 hb4
    have hl4 := HL3.out.below hb4
    have q7 := ans_cells g7
    have q9 := ans_cells g9
    have k5 : Keep (fun g => g = w1.heap.size + 1) w4 ((w4.setCell ⟨w1.heap.size + 1, 0, none⟩ (.int .i64 0)).setCell ⟨w1.heap.size + 1, 1, none⟩ (.int .i64 0)) := (Keep.set w4 ⟨w1.heap.size + 1, 0, none⟩ _).trans (Keep.set _ ⟨w1.heap.size + 1, 1, none⟩ _)
    have h5 := hl4.off k5 (off_one g9 (by omega))
    have g75 := k5.blk g7 (by omega)
    have g95 : ((w4.setCell ⟨w1.heap.size + 1, 0, none⟩ (.int .i64 0)).setCell ⟨w1.heap.size + 1, 1, none⟩ (.int .i64 0)).heap[w1.heap.size + 1]? = some (ansO 0 0 (.slice none 0 0) (0, 0, 0)) := heap_set_to (heap_set_to g9 rfl) (by simp)
    have H5 := Lib.hid (And.intro h5 (And.intro g75 (And.intro g95 (And.intro hb4 k5))))
    clear g7 g9 hl4 k5 h5 g75 g95 hb4
    go_wp2_with fail
    refine (same_any 1 1 _ _ [] _ (own_nil _ _) (own_nil _ _) (by simp)).mono ?_
    rintro x w6 ⟨rfl, hb6⟩
    have q7b := ans_cells (blk_below H5.out.2.1 hb6)
    have q9b := ans_cells (blk_below H5.out.2.2.1 hb6)
    have H6 := Lib.hid (And.intro (H5.out.1.below hb6) hb6)
    clear hb6 q7 q9
    go_wp2_with fail
    go_ret
    refine ⟨rfl, _, M1, _, pv, _, _, hM1, by omega, by omega, H6.out.1, H0.out.2.1, ?_⟩
    exact (((HK1.out.mono fun _ _ e => Or.inl e).trans (Keep.of_below HP.out.1)).trans (Keep.of_below H5.out.2.2.2.1)).transNew (H5.out.2.2.2.2.trans (Keep.of_below H6.out.2)) (fun k e => by rw [e]; have := HK1.out.size; omega)
end Go.Proofs.YtdflmplmpjghdaaGreatDoor
namespace Go.Proofs.YtdflmplmpjghdaaGreatDoor
open Go.ChangeShapes Go.WideShapes Go.ChangeAt Go.RowKit Go.Deep Go.Shelf
set_option linter.unusedVariables false
set_option linter.unusedSimpArgs false
set_option maxRecDepth 100000
attribute [local go_sem] Oper.semAt_some

set_option maxRecDepth 100000 in
set_option maxHeartbeats 16000000 in
theorem step_del (wb bb pb : Nat) (v : Value) (r0 r1 : NR) (c0 c1 c2 c3 clk : Int) (M : Nat) (t : Tr) (pv : Value) (n : Int) (E : List Ent) (pr nn : Int) (key val lo hi : ByteArray) (op : Bool) (w : World) (h : LwAt wb bb pb v r0 r1 c0 c1 c2 c3 clk M t pv n E w) (hl : Link clk n t E) (hn : 0 ≤ n ∧ n ≤ 100000) (hM : M ≤ 1000000000) (hp0 : 0 < pb) (hk : key.size ≤ 140737488351232) (hv : val.size ≤ 140737488351232) :
    Calls Tryz.prog 9 #[.pointer (some ⟨pb, 0, none⟩), .pointer (some ⟨wb, 0, none⟩), opA 2 (0 : Nat) pr nn key val lo hi op] w (StpOf w wb bb pb v r0 r1 c0 c1 c2 c3 clk M t pv n E) := by
  have hb0 := below_alloc_self w (opO 2 (0 : Nat) pr nn key val lo hi op)
  have g0 : (w.alloc (opO 2 (0 : Nat) pr nn key val lo hi op)).heap[w.heap.size]? = some (opO 2 (0 : Nat) pr nn key val lo hi op) := heap_new rfl
  obtain rfl : clk = n := hl.clk
  have hE : E.length ≤ 256 := by rw [← hl.hol.size]; exact hl.sok.size
  have H0 := Lib.hid (And.intro (h.below hb0) (And.intro hl (And.intro hb0 g0)))
  clear h hl hb0 g0
  go_enter Tryz.func9, Tryz.ntmps9
  go_wp2_with fail
  refine (ddel_any wb bb pb v r0 r1 c0 c1 c2 c3 clk M t pv clk E pr nn key val lo hi op _ H0.out.1 H0.out.2.1 (by omega) hM hk hv).mono ?_
  rintro x w1 ⟨rfl, M1, hM1, hlw, hkp⟩
  have HK1 : Hid (Keep (Kmts r0) w w1) := (Keep.of_below H0.out.2.2.1).trans hkp
  have HO1 : Hid (w1.heap[w.heap.size]? = some (opO 2 (0 : Nat) pr nn key val lo hi op)) := hkp.blk H0.out.2.2.2 (H0.out.1.s0.not H0.out.2.2.2 (by decide) (by decide) (by decide))
  by_cases he : errW t key ⟨#[]⟩ = 0
  · rw [if_pos he, if_pos he] at hlw
    rw [if_pos he, he]
    have HP := Lib.hid (alloc2 w1 (ansO (clk + 1) 0 (.slice none 0 0) (0, 0, 0)) (ansO 0 0 (.slice none 0 0) (0, 0, 0)))
    have HL1 := Lib.hid hlw
    have heL : errL E key ⟨#[]⟩ = 0 := by rw [← H0.out.2.1.errs]; exact he
    have HE := Lib.hid (And.intro heL (H0.out.2.1.put key ⟨#[]⟩ true he))
    clear hlw hkp he heL
    have qo := blk9 (blk_below HO1.out HP.out.1)
    go_wp2_with (first
      | (refine wpList_store_row rfl ansT (.tmp 7) (.tmp 19) rfl _ _ rfl rfl ansT _ (heap_new rfl) ansInfo rfl (ans1 _ _ _ _ rfl) ?_ ; rw [alloc_setRow])
      | (refine wpList_store_row rfl ansT (.tmp 9) (.tmp 21) rfl _ _ rfl rfl ansT _ (heap_new (by simp)) ansInfo rfl (ans1 0 0 (.slice none 0 0) (0, 0, 0) rfl) ?_ ; rw [setRow_self _ _ _ _ _ (heap_new (by simp))] ; generalize (w1.alloc (ansO (clk + 1) 0 (.slice none 0 0) (0, 0, 0))).alloc (ansO 0 0 (.slice none 0 0) (0, 0, 0)) = w3 at *)
      | fail)
    clear qo
    have HL3 := Lib.hid (HL1.out.below HP.out.1)
    refine (pwrite_ok pb pv clk E key ⟨#[]⟩ true w3 HL3.out.pat (by omega) hk (Nat.zero_le _) (by omega) HE.out.1).mono ?_
    rintro x w4 ⟨rfl, pv', hpat, hkp4⟩
    have g7 := hkp4.blk HP.out.2.1 (ne_type HL3.out.pat.blk (by decide) _ _ _ HP.out.2.1)
    have g9 := hkp4.blk HP.out.2.2 (ne_type HL3.out.pat.blk (by decide) _ _ _ HP.out.2.2)
    have hl4 := HL3.out.plain hkp4 hpat hp0
    have q7 := ans_cells g7
    have q9 := ans_cells g9
    have k5 : Keep (fun g => g = w1.heap.size + 1) w4 ((w4.setCell ⟨w1.heap.size + 1, 0, none⟩ (.int .i64 (clk + 1))).setCell ⟨w1.heap.size + 1, 1, none⟩ (.int .i64 0)) := (Keep.set w4 ⟨w1.heap.size + 1, 0, none⟩ _).trans (Keep.set _ ⟨w1.heap.size + 1, 1, none⟩ _)
    have h5 := hl4.off k5 (off_one g9 (by omega))
    have g75 := k5.blk g7 (by omega)
    have g95 : ((w4.setCell ⟨w1.heap.size + 1, 0, none⟩ (.int .i64 (clk + 1))).setCell ⟨w1.heap.size + 1, 1, none⟩ (.int .i64 0)).heap[w1.heap.size + 1]? = some (ansO (clk + 1) 0 (.slice none 0 0) (0, 0, 0)) := heap_set_to (heap_set_to g9 rfl) (by simp)
    have H5 := Lib.hid (And.intro h5 (And.intro g75 (And.intro g95 (And.intro hkp4 k5))))
    clear g7 g9 hl4 k5 h5 g75 g95 hpat hkp4
    go_wp2_with fail
    refine (same_any 1 1 _ _ [] _ (own_nil _ _) (own_nil _ _) (by simp)).mono ?_
    rintro x w6 ⟨rfl, hb6⟩
    have q7b := ans_cells (blk_below H5.out.2.1 hb6)
    have q9b := ans_cells (blk_below H5.out.2.2.1 hb6)
    have H6 := Lib.hid (And.intro (H5.out.1.below hb6) hb6)
    clear hb6 q7 q9
    go_wp2_with fail
    go_ret
    refine ⟨rfl, _, M1, _, pv', _, _, hM1, by omega, by omega, H6.out.1, HE.out.2, ?_⟩
    exact (((HK1.out.mono fun _ _ e => Or.inl e).trans (Keep.of_below HP.out.1)).trans (H5.out.2.2.2.1.mono fun _ _ e => Or.inr e)).transNew (H5.out.2.2.2.2.trans (Keep.of_below H6.out.2)) (fun k e => by rw [e]; have := HK1.out.size; omega)
  · rw [if_neg he, if_neg he] at hlw
    rw [if_neg he]
    have he2 : errL E key ⟨#[]⟩ ≠ 0 := by rw [← H0.out.2.1.errs]; exact he
    rw [H0.out.2.1.errs]
    have HP := Lib.hid (alloc2 w1 (ansO 0 0 (.slice none 0 0) (0, 0, 0)) (ansO 0 0 (.slice none 0 0) (0, 0, 0)))
    have HL1 := Lib.hid hlw
    have HE := Lib.hid he2
    clear hlw hkp he he2
    obtain ⟨Er, hEr⟩ : ∃ Er, Er = errL E key ⟨#[]⟩ := ⟨_, rfl⟩
    rw [← hEr]
    have HEr := Lib.hid hEr
    clear hEr
    have qo := blk9 (blk_below HO1.out HP.out.1)
    go_wp2_with (first
      | (refine wpList_store_row rfl ansT (.tmp 7) (.tmp 19) rfl _ _ rfl rfl ansT _ (heap_new rfl) ansInfo rfl (ans1 _ _ _ _ rfl) ?_ ; rw [alloc_setRow])
      | (refine wpList_store_row rfl ansT (.tmp 9) (.tmp 21) rfl _ _ rfl rfl ansT _ (heap_new (by simp)) ansInfo rfl (ans1 0 0 (.slice none 0 0) (0, 0, 0) rfl) ?_ ; rw [setRow_self _ _ _ _ _ (heap_new (by simp))] ; generalize (w1.alloc (ansO 0 0 (.slice none 0 0) (0, 0, 0))).alloc (ansO 0 0 (.slice none 0 0) (0, 0, 0)) = w3 at *)
      | fail)
    clear qo
    have HL3 := Lib.hid (HL1.out.below HP.out.1)
    refine (pwrite_bad pb pv clk E key ⟨#[]⟩ true w3 HL3.out.pat (by omega) hk (Nat.zero_le _) HE.out).mono ?_
    rintro x w4 ⟨rfl, hb4⟩
    rw [← HEr.out]
    have g7 := blk_below HP.out.2.1 hb4
    have g9 := blk_below HP.out.2.2 hb4
    have hl4 := HL3.out.below hb4
    have q7 := ans_cells g7
    have q9 := ans_cells g9
    have k5 : Keep (fun g => g = w1.heap.size + 1) w4 ((w4.setCell ⟨w1.heap.size + 1, 0, none⟩ (.int .i64 0)).setCell ⟨w1.heap.size + 1, 1, none⟩ (.int .i64 0)) := (Keep.set w4 ⟨w1.heap.size + 1, 0, none⟩ _).trans (Keep.set _ ⟨w1.heap.size + 1, 1, none⟩ _)
    have h5 := hl4.off k5 (off_one g9 (by omega))
    have g75 := k5.blk g7 (by omega)
    have g95 : ((w4.setCell ⟨w1.heap.size + 1, 0, none⟩ (.int .i64 0)).setCell ⟨w1.heap.size + 1, 1, none⟩ (.int .i64 0)).heap[w1.heap.size + 1]? = some (ansO 0 0 (.slice none 0 0) (0, 0, 0)) := heap_set_to (heap_set_to g9 rfl) (by simp)
    have H5 := Lib.hid (And.intro h5 (And.intro g75 (And.intro g95 (And.intro hb4 k5))))
    clear g7 g9 hl4 k5 h5 g75 g95 hb4
    go_wp2_with fail
    refine (same_any 1 1 _ _ [] _ (own_nil _ _) (own_nil _ _) (by simp)).mono ?_
    rintro x w6 ⟨rfl, hb6⟩
    have q7b := ans_cells (blk_below H5.out.2.1 hb6)
    have q9b := ans_cells (blk_below H5.out.2.2.1 hb6)
    have H6 := Lib.hid (And.intro (H5.out.1.below hb6) hb6)
    clear hb6 q7 q9
    go_wp2_with fail
    go_ret
    refine ⟨rfl, _, M1, _, pv, _, _, hM1, by omega, by omega, H6.out.1, H0.out.2.1, ?_⟩
    exact (((HK1.out.mono fun _ _ e => Or.inl e).trans (Keep.of_below HP.out.1)).trans (Keep.of_below H5.out.2.2.2.1)).transNew (H5.out.2.2.2.2.trans (Keep.of_below H6.out.2)) (fun k e => by rw [e]; have := HK1.out.size; omega)
set_option maxRecDepth 100000 in
set_option maxHeartbeats 16000000 in
theorem step_fold (wb bb pb : Nat) (v : Value) (r0 r1 : NR) (c0 c1 c2 c3 clk : Int) (M : Nat) (t : Tr) (pv : Value) (n : Int) (E : List Ent) (pr nn : Int) (key val lo hi : ByteArray) (op : Bool) (w : World) (h : LwAt wb bb pb v r0 r1 c0 c1 c2 c3 clk M t pv n E w) (hl : Link clk n t E) (hn : 0 ≤ n ∧ n ≤ 100000) (hM : M ≤ 1000000000) (hp0 : 0 < pb) (h1 : lo.size ≤ 140737488351232) (h2 : hi.size ≤ 140737488351232) :
    Calls Tryz.prog 9 #[.pointer (some ⟨pb, 0, none⟩), .pointer (some ⟨wb, 0, none⟩), opA 5 (0 : Nat) pr nn key val lo hi op] w (StpOf w wb bb pb v r0 r1 c0 c1 c2 c3 clk M t pv n E) := by
  have hb0 := below_alloc_self w (opO 5 (0 : Nat) pr nn key val lo hi op)
  have g0 : (w.alloc (opO 5 (0 : Nat) pr nn key val lo hi op)).heap[w.heap.size]? = some (opO 5 (0 : Nat) pr nn key val lo hi op) := heap_new rfl
  obtain rfl : clk = n := hl.clk
  have hE : E.length ≤ 256 := by rw [← hl.hol.size]; exact hl.sok.size
  have H0 := Lib.hid (And.intro (h.below hb0) (And.intro hl (And.intro hb0 g0)))
  clear h hl hb0 g0
  go_enter Tryz.func9, Tryz.ntmps9
  go_wp2_with fail
  refine (dfold_any wb bb pb v r0 r1 c0 c1 c2 c3 clk M t pv clk E pr nn key val lo hi op _ H0.out.1 H0.out.2.1 hM h1 h2).mono ?_
  rintro x w1 ⟨rfl, M1, hM1, hlw, hkp⟩
  have HK1 : Hid (Keep (Kmts r0) w w1) := (Keep.of_below H0.out.2.2.1).trans hkp
  have HO1 : Hid (w1.heap[w.heap.size]? = some (opO 5 (0 : Nat) pr nn key val lo hi op)) := hkp.blk H0.out.2.2.2 (H0.out.1.s0.not H0.out.2.2.2 (by decide) (by decide) (by decide))
  have HL1 := Lib.hid hlw
  clear hlw hkp
  obtain ⟨cR, hcR⟩ : ∃ c, c = errR lo hi op := ⟨_, rfl⟩
  rw [← hcR]
  by_cases he : cR = 0
  · have heR : errR lo hi op = 0 := by rw [← hcR]; exact he
    obtain ⟨e1, e2, e3⟩ := errR_ok heR
    have HE3 := Lib.hid e3
    rw [if_pos he, he]
    clear he heR hcR e3
    obtain ⟨⟨S1, S2, S3⟩, hS⟩ : ∃ S, S = sumE (inE lo hi op true E) := ⟨_, rfl⟩
    rw [← hS]
    have HS := Lib.hid hS
    clear hS
    have HP := Lib.hid (alloc2 w1 (ansO 0 0 (.slice none 0 0) (S1, S2, S3)) (ansO 0 0 (.slice none 0 0) (0, 0, 0)))
    have qo := blk9 (blk_below HO1.out HP.out.1)
    go_wp2_with (first
      | (refine wpList_store_row rfl ansT (.tmp 7) (.tmp 19) rfl _ _ rfl rfl ansT _ (heap_new rfl) ansInfo rfl (ans1 _ _ _ _ rfl) ?_ ; rw [alloc_setRow])
      | (refine wpList_store_row rfl ansT (.tmp 9) (.tmp 21) rfl _ _ rfl rfl ansT _ (heap_new (by simp)) ansInfo rfl (ans1 0 0 (.slice none 0 0) (0, 0, 0) rfl) ?_ ; rw [setRow_self _ _ _ _ _ (heap_new (by simp))] ; generalize (w1.alloc (ansO 0 0 (.slice none 0 0) (S1, S2, S3))).alloc (ansO 0 0 (.slice none 0 0) (0, 0, 0)) = w3 at *)
      | fail)
    clear qo
    have HL3 := Lib.hid (HL1.out.below HP.out.1)
    refine (pin_ok pb pv clk E lo hi op true w3 HL3.out.pat (by omega) e1 e2 HE3.out).mono ?_
    rintro x w4 ⟨vi, rfl, ho4, hb4⟩
    obtain ⟨oai, capi, rfl, _⟩ := es_form ho4
    have HO4 := Lib.hid ho4
    have HL4 := Lib.hid (And.intro (HL3.out.below hb4) (And.intro (blk_below HP.out.2.1 hb4) (And.intro (blk_below HP.out.2.2 hb4) hb4)))
    have hil := inE_len lo hi op true E
    clear hb4 ho4
    go_wp2_with fail
    refine (folds_any _ _ (inE lo hi op true E) w4 HO4.out HL4.out.1.s0.lanes (by omega) (fun e he => H0.out.2.1.key e (List.mem_filter.1 he).1)).mono ?_
    rintro x w5 ⟨rfl, hb5⟩
    rw [← HS.out]
    have g7 := blk_below HL4.out.2.1 hb5
    have g9 := blk_below HL4.out.2.2.1 hb5
    have hl4 := HL4.out.1.below hb5
    have q7 := ans_cells g7
    have q9 := ans_cells g9
    have k5 : Keep (fun g => g = w1.heap.size + 1) w5 (((w5.setCell ⟨w1.heap.size + 1, 3, none⟩ (.int .i64 S1)).setCell ⟨w1.heap.size + 1, 4, none⟩ (.int .u64 S2)).setCell ⟨w1.heap.size + 1, 5, none⟩ (.int .u64 S3)) := ((Keep.set w5 ⟨w1.heap.size + 1, 3, none⟩ _).trans (Keep.set _ ⟨w1.heap.size + 1, 4, none⟩ _)).trans (Keep.set _ ⟨w1.heap.size + 1, 5, none⟩ _)
    have h5 := hl4.off k5 (off_one g9 (by omega))
    have g75 := k5.blk g7 (by omega)
    have g95 : (((w5.setCell ⟨w1.heap.size + 1, 3, none⟩ (.int .i64 S1)).setCell ⟨w1.heap.size + 1, 4, none⟩ (.int .u64 S2)).setCell ⟨w1.heap.size + 1, 5, none⟩ (.int .u64 S3)).heap[w1.heap.size + 1]? = some (ansO 0 0 (.slice none 0 0) (S1, S2, S3)) := heap_set_to (heap_set_to (heap_set_to g9 rfl) rfl) (by simp)
    have H5 := Lib.hid (And.intro h5 (And.intro g75 (And.intro g95 (And.intro (HL4.out.2.2.2.trans (hb5.mono HL4.out.2.2.2.size)) k5))))
    clear g7 g9 hl4 k5 h5 g75 g95 hb5
    go_wp2_with fail
    refine (same_any 1 1 _ _ [] _ (own_nil _ _) (own_nil _ _) (by simp)).mono ?_
    rintro x w6 ⟨rfl, hb6⟩
    have q7b := ans_cells (blk_below H5.out.2.1 hb6)
    have q9b := ans_cells (blk_below H5.out.2.2.1 hb6)
    have H6 := Lib.hid (And.intro (H5.out.1.below hb6) hb6)
    clear hb6 q7 q9
    go_wp2_with fail
    go_ret
    refine ⟨rfl, _, M1, _, pv, _, _, hM1, by omega, by omega, H6.out.1, H0.out.2.1, ?_⟩
    exact (((HK1.out.mono fun _ _ e => Or.inl e).trans (Keep.of_below HP.out.1)).trans (Keep.of_below H5.out.2.2.2.1)).transNew (H5.out.2.2.2.2.trans (Keep.of_below H6.out.2)) (fun k e => by rw [e]; have := HK1.out.size; omega)
  · have hne : ¬ (lo.size ≤ 16 ∧ hi.size ≤ 16 ∧ rgOk lo hi op = true) := fun hh => he (by rw [hcR]; unfold errR; rw [if_neg (by omega), if_pos hh.2.2])
    have hc2 : (if lo.size > 16 ∨ hi.size > 16 then (20 : Int) else 21) = cR := by
      rw [hcR]
      unfold errR
      by_cases hh : lo.size > 16 ∨ hi.size > 16
      · rw [if_pos hh, if_pos hh]
      · rw [if_neg hh, if_neg hh, if_neg (fun h => hne ⟨by omega, by omega, h⟩)]
    rw [if_neg he]
    have HC2 := Lib.hid hc2
    have HNE := Lib.hid hne
    clear hcR hc2 hne
    have HP := Lib.hid (alloc2 w1 (ansO 0 0 (.slice none 0 0) (0, 0, 0)) (ansO 0 0 (.slice none 0 0) (0, 0, 0)))
    have qo := blk9 (blk_below HO1.out HP.out.1)
    go_wp2_with (first
      | (refine wpList_store_row rfl ansT (.tmp 7) (.tmp 19) rfl _ _ rfl rfl ansT _ (heap_new rfl) ansInfo rfl (ans1 _ _ _ _ rfl) ?_ ; rw [alloc_setRow])
      | (refine wpList_store_row rfl ansT (.tmp 9) (.tmp 21) rfl _ _ rfl rfl ansT _ (heap_new (by simp)) ansInfo rfl (ans1 0 0 (.slice none 0 0) (0, 0, 0) rfl) ?_ ; rw [setRow_self _ _ _ _ _ (heap_new (by simp))] ; generalize (w1.alloc (ansO 0 0 (.slice none 0 0) (0, 0, 0))).alloc (ansO 0 0 (.slice none 0 0) (0, 0, 0)) = w3 at *)
      | fail)
    clear qo
    have HL3 := Lib.hid (HL1.out.below HP.out.1)
    refine (pin_bad pb lo hi op true w3 h1 h2 HNE.out).mono ?_
    rintro x w4 ⟨rfl, hb4⟩
    rw [HC2.out]
    have g7 := blk_below HP.out.2.1 hb4
    have g9 := blk_below HP.out.2.2 hb4
    have q7 := ans_cells g7
    have q9 := ans_cells g9
    have H5 := Lib.hid (And.intro (HL3.out.below hb4) (And.intro g7 (And.intro g9 hb4)))
    clear g7 g9 hb4
    go_wp2_with fail
    refine (same_any 1 1 _ _ [] _ (own_nil _ _) (own_nil _ _) (by simp)).mono ?_
    rintro x w6 ⟨rfl, hb6⟩
    have q7b := ans_cells (blk_below H5.out.2.1 hb6)
    have q9b := ans_cells (blk_below H5.out.2.2.1 hb6)
    have H6 := Lib.hid (And.intro (H5.out.1.below hb6) hb6)
    clear hb6 q7 q9
    go_wp2_with fail
    go_ret
    refine ⟨rfl, _, M1, _, pv, _, _, hM1, by omega, by omega, H6.out.1, H0.out.2.1, ?_⟩
    exact (((HK1.out.mono fun _ _ e => Or.inl e).trans (Keep.of_below HP.out.1)).trans (Keep.of_below H5.out.2.2.2)).trans (Keep.of_below H6.out.2)
end Go.Proofs.YtdflmplmpjghdaaGreatDoor
namespace Go.Proofs.YtdflmplmpjghdaaGreatDoor
open Go.ChangeShapes Go.WideShapes Go.ChangeAt Go.RowKit Go.Deep Go.Shelf
set_option linter.unusedVariables false
set_option linter.unusedSimpArgs false
set_option maxRecDepth 100000
attribute [local go_sem] Oper.semAt_some

set_option maxRecDepth 100000 in
set_option maxHeartbeats 16000000 in
theorem step_scan (wb bb pb : Nat) (v : Value) (r0 r1 : NR) (c0 c1 c2 c3 clk : Int) (M : Nat) (t : Tr) (pv : Value) (n : Int) (E : List Ent) (pr nn : Int) (key val lo hi : ByteArray) (op : Bool) (w : World) (h : LwAt wb bb pb v r0 r1 c0 c1 c2 c3 clk M t pv n E w) (hl : Link clk n t E) (hn : 0 ≤ n ∧ n ≤ 100000) (hM : M ≤ 1000000000) (hp0 : 0 < pb) (h1 : lo.size ≤ 140737488351232) (h2 : hi.size ≤ 140737488351232) :
    Calls Tryz.prog 9 #[.pointer (some ⟨pb, 0, none⟩), .pointer (some ⟨wb, 0, none⟩), opA 4 (0 : Nat) pr nn key val lo hi op] w (StpOf w wb bb pb v r0 r1 c0 c1 c2 c3 clk M t pv n E) := by
  have hb0 := below_alloc_self w (opO 4 (0 : Nat) pr nn key val lo hi op)
  have g0 : (w.alloc (opO 4 (0 : Nat) pr nn key val lo hi op)).heap[w.heap.size]? = some (opO 4 (0 : Nat) pr nn key val lo hi op) := heap_new rfl
  obtain rfl : clk = n := hl.clk
  have hE : E.length ≤ 256 := by rw [← hl.hol.size]; exact hl.sok.size
  have H0 := Lib.hid (And.intro (h.below hb0) (And.intro hl (And.intro hb0 g0)))
  clear h hl hb0 g0
  go_enter Tryz.func9, Tryz.ntmps9
  go_wp2_with fail
  refine (dscan_any wb bb pb v r0 r1 c0 c1 c2 c3 clk M t pv clk E pr nn key val lo hi op _ H0.out.1 H0.out.2.1 h1 h2).mono ?_
  rintro x w1 ⟨ve, rfl, ho1, hlw, hb1⟩
  have HB1 : Hid (Below w.heap.size w w1) := H0.out.2.2.1.trans (hb1.mono H0.out.2.2.1.size)
  have HO1 : Hid (w1.heap[w.heap.size]? = some (opO 4 (0 : Nat) pr nn key val lo hi op)) := blk_below H0.out.2.2.2 hb1
  obtain ⟨Lr, hLr⟩ : ∃ L, L = (if errR lo hi op = 0 then inE lo hi op false E else []) := ⟨_, rfl⟩
  rw [← hLr] at ho1
  obtain ⟨oav, capv, rfl, _⟩ := es_form ho1
  have HL1 := Lib.hid (And.intro hlw ho1)
  clear hlw hb1 ho1
  obtain ⟨cR, hcR⟩ : ∃ c, c = errR lo hi op := ⟨_, rfl⟩
  rw [← hcR]
  have HP := Lib.hid (alloc2 w1 (ansO 0 0 (.slice oav Lr.length capv) (0, 0, 0)) (ansO 0 0 (.slice none 0 0) (0, 0, 0)))
  by_cases he : cR = 0
  · have heR : errR lo hi op = 0 := by rw [← hcR]; exact he
    obtain ⟨e1, e2, e3⟩ := errR_ok heR
    rw [if_pos heR] at hLr
    have HE3 := Lib.hid (And.intro e3 hLr)
    have hil := inE_len lo hi op false E
    rw [← hLr] at hil
    rw [he]
    clear he heR hcR e3 hLr
    have qo := blk9 (blk_below HO1.out HP.out.1)
    go_wp2_with (first
      | (refine wpList_store_row rfl ansT (.tmp 7) (.tmp 19) rfl _ _ rfl rfl ansT _ (heap_new rfl) ansInfo rfl (ans1 _ _ _ _ rfl) ?_ ; rw [alloc_setRow])
      | (refine wpList_store_row rfl ansT (.tmp 9) (.tmp 21) rfl _ _ rfl rfl ansT _ (heap_new (by simp)) ansInfo rfl (ans1 0 0 (.slice none 0 0) (0, 0, 0) rfl) ?_ ; rw [setRow_self _ _ _ _ _ (heap_new (by simp))] ; generalize (w1.alloc (ansO 0 0 (.slice oav Lr.length capv) (0, 0, 0))).alloc (ansO 0 0 (.slice none 0 0) (0, 0, 0)) = w3 at *)
      | fail)
    clear qo
    have HL3 := Lib.hid (And.intro (HL1.out.1.below HP.out.1) (own_below HL1.out.2 HP.out.1))
    refine (pin_ok pb pv clk E lo hi op false w3 HL3.out.1.pat (by omega) e1 e2 HE3.out.1).mono ?_
    rintro x w4 ⟨vi, rfl, ho4, hb4⟩
    rw [← HE3.out.2] at ho4
    obtain ⟨oai, capi, rfl, _⟩ := es_form ho4
    have g7 := blk_below HP.out.2.1 hb4
    have g9 := blk_below HP.out.2.2 hb4
    have q7 := ans_cells g7
    have q9 := ans_cells g9
    have k5 : Keep (fun g => g = w1.heap.size + 1) w4 (w4.setCell ⟨w1.heap.size + 1, 2, none⟩ (.slice oai Lr.length capi)) := Keep.set w4 ⟨w1.heap.size + 1, 2, none⟩ _
    have hoff := off_one g9 (by omega)
    have hp5 : ∀ g, g = w1.heap.size + 1 → ∃ cs ty fr, w4.heap[g]? = some (.cells cs ty fr) ∧ ty ≠ entT := fun g e => by subst e; exact ⟨_, _, _, g9, by decide⟩
    have g95 : (w4.setCell ⟨w1.heap.size + 1, 2, none⟩ (.slice oai Lr.length capi)).heap[w1.heap.size + 1]? = some (ansO 0 0 (.slice oai Lr.length capi) (0, 0, 0)) := heap_set_to g9 (by simp)
    have ho7 := own_below HL3.out.2 hb4
    have H5 := Lib.hid (And.intro ((HL3.out.1.below hb4).off k5 hoff) (And.intro (k5.blk g7 (by omega)) (And.intro g95 (And.intro (own_keep ho7 k5 (own_off ho7 hp5)) (And.intro (own_keep ho4 k5 (own_off ho4 hp5)) ((Keep.of_below (p := fun g => g = w1.heap.size + 1) hb4).trans k5))))))
    clear g7 g9 k5 g95 hb4 ho4 hoff hp5 ho7
    go_wp2_with fail
    refine (same_any _ _ _ _ Lr _ H5.out.2.2.2.1 H5.out.2.2.2.2.1 (by omega)).mono ?_
    rintro x w6 ⟨rfl, hb6⟩
    have q7b := ans_cells (blk_below H5.out.2.1 hb6)
    have q9b := ans_cells (blk_below H5.out.2.2.1 hb6)
    have H6 := Lib.hid (And.intro (H5.out.1.below hb6) hb6)
    clear hb6 q7 q9
    go_wp2_with fail
    go_ret
    refine ⟨rfl, _, M, _, pv, _, _, by omega, by omega, by omega, H6.out.1, H0.out.2.1, ?_⟩
    exact ((Keep.of_below HB1.out).trans (Keep.of_below HP.out.1)).transNew (H5.out.2.2.2.2.2.trans (Keep.of_below H6.out.2)) (fun k e => by rw [e]; have := HB1.out.size; omega)
  · have hne : ¬ (lo.size ≤ 16 ∧ hi.size ≤ 16 ∧ rgOk lo hi op = true) := fun hh => he (by rw [hcR]; unfold errR; rw [if_neg (by omega), if_pos hh.2.2])
    have hc2 : (if lo.size > 16 ∨ hi.size > 16 then (20 : Int) else 21) = cR := by
      rw [hcR]
      unfold errR
      by_cases hh : lo.size > 16 ∨ hi.size > 16
      · rw [if_pos hh, if_pos hh]
      · rw [if_neg hh, if_neg hh, if_neg (fun h => hne ⟨by omega, by omega, h⟩)]
    rw [if_neg (by rw [← hcR]; exact he)] at hLr
    subst hLr
    have HC2 := Lib.hid hc2
    have HNE := Lib.hid hne
    clear hcR hc2 hne
    have qo := blk9 (blk_below HO1.out HP.out.1)
    go_wp2_with (first
      | (refine wpList_store_row rfl ansT (.tmp 7) (.tmp 19) rfl _ _ rfl rfl ansT _ (heap_new rfl) ansInfo rfl (ans1 _ _ _ _ rfl) ?_ ; rw [alloc_setRow])
      | (refine wpList_store_row rfl ansT (.tmp 9) (.tmp 21) rfl _ _ rfl rfl ansT _ (heap_new (by simp)) ansInfo rfl (ans1 0 0 (.slice none 0 0) (0, 0, 0) rfl) ?_ ; rw [setRow_self _ _ _ _ _ (heap_new (by simp))] ; generalize (w1.alloc (ansO 0 0 (.slice oav ([] : List Ent).length capv) (0, 0, 0))).alloc (ansO 0 0 (.slice none 0 0) (0, 0, 0)) = w3 at *)
      | fail)
    clear qo
    have HL3 := Lib.hid (And.intro (HL1.out.1.below HP.out.1) (own_below HL1.out.2 HP.out.1))
    refine (pin_bad pb lo hi op false w3 h1 h2 HNE.out).mono ?_
    rintro x w4 ⟨rfl, hb4⟩
    rw [HC2.out]
    have g7 := blk_below HP.out.2.1 hb4
    have g9 := blk_below HP.out.2.2 hb4
    have q7 := ans_cells g7
    have q9 := ans_cells g9
    have k5 : Keep (fun g => g = w1.heap.size + 1) w4 (w4.setCell ⟨w1.heap.size + 1, 2, none⟩ (.slice none 0 0)) := Keep.set w4 ⟨w1.heap.size + 1, 2, none⟩ _
    have hoff := off_one g9 (by omega)
    have hp5 : ∀ g, g = w1.heap.size + 1 → ∃ cs ty fr, w4.heap[g]? = some (.cells cs ty fr) ∧ ty ≠ entT := fun g e => by subst e; exact ⟨_, _, _, g9, by decide⟩
    have g95 : (w4.setCell ⟨w1.heap.size + 1, 2, none⟩ (.slice none 0 0)).heap[w1.heap.size + 1]? = some (ansO 0 0 (.slice none 0 0) (0, 0, 0)) := heap_set_to g9 (by simp)
    have ho7 := own_below HL3.out.2 hb4
    have H5 := Lib.hid (And.intro ((HL3.out.1.below hb4).off k5 hoff) (And.intro (k5.blk g7 (by omega)) (And.intro g95 (And.intro (own_keep ho7 k5 (own_off ho7 hp5)) (And.intro (own_nil (w4.setCell ⟨w1.heap.size + 1, 2, none⟩ (.slice none 0 0)) 1) ((Keep.of_below (p := fun g => g = w1.heap.size + 1) hb4).trans k5))))))
    clear g7 g9 k5 g95 hb4 hoff hp5 ho7
    go_wp2_with fail
    refine (same_any _ _ _ _ [] _ H5.out.2.2.2.1 H5.out.2.2.2.2.1 (by simp)).mono ?_
    rintro x w6 ⟨rfl, hb6⟩
    have q7b := ans_cells (blk_below H5.out.2.1 hb6)
    have q9b := ans_cells (blk_below H5.out.2.2.1 hb6)
    have H6 := Lib.hid (And.intro (H5.out.1.below hb6) hb6)
    clear hb6 q7 q9
    go_wp2_with fail
    go_ret
    refine ⟨rfl, _, M, _, pv, _, _, by omega, by omega, by omega, H6.out.1, H0.out.2.1, ?_⟩
    exact ((Keep.of_below HB1.out).trans (Keep.of_below HP.out.1)).transNew (H5.out.2.2.2.2.2.trans (Keep.of_below H6.out.2)) (fun k e => by rw [e]; have := HB1.out.size; omega)
end Go.Proofs.YtdflmplmpjghdaaGreatDoor
namespace Go.Proofs.YtdflmplmpjghdaaGreatDoor
open Go.ChangeShapes Go.WideShapes Go.ChangeAt Go.RowKit Go.Deep Go.Shelf
set_option linter.unusedVariables false
set_option linter.unusedSimpArgs false
set_option maxRecDepth 100000
attribute [local go_sem] Oper.semAt_some

theorem ent_news {w : World} {b : Nat} {e : Ent} (h : w.heap[b]? = some (entO e)) : ∀ ad, some (⟨b, 0, none⟩ : Addr) = some ad → ∀ j u, (ecl e)[j]? = some u → w.cell? (ad.add j) = some u := by
  intro ad ha j u hu
  injection ha with ha
  subst ha
  rw [add_none, blk_cell h, Nat.zero_add]
  simpa [ecl] using hu
set_option maxRecDepth 100000 in
set_option maxHeartbeats 16000000 in
theorem step_get (wb bb pb : Nat) (v : Value) (r0 r1 : NR) (c0 c1 c2 c3 clk : Int) (M : Nat) (t : Tr) (pv : Value) (n : Int) (E : List Ent) (pr nn : Int) (key val lo hi : ByteArray) (op : Bool) (w : World) (h : LwAt wb bb pb v r0 r1 c0 c1 c2 c3 clk M t pv n E w) (hl : Link clk n t E) (hn : 0 ≤ n ∧ n ≤ 100000) (hM : M ≤ 1000000000) (hp0 : 0 < pb) (hk : key.size ≤ 140737488351232) :
    Calls Tryz.prog 9 #[.pointer (some ⟨pb, 0, none⟩), .pointer (some ⟨wb, 0, none⟩), opA 3 (0 : Nat) pr nn key val lo hi op] w (StpOf w wb bb pb v r0 r1 c0 c1 c2 c3 clk M t pv n E) := by
  have hb0 := below_alloc_self w (opO 3 (0 : Nat) pr nn key val lo hi op)
  have g0 : (w.alloc (opO 3 (0 : Nat) pr nn key val lo hi op)).heap[w.heap.size]? = some (opO 3 (0 : Nat) pr nn key val lo hi op) := heap_new rfl
  obtain rfl : clk = n := hl.clk
  have hE : E.length ≤ 256 := by rw [← hl.hol.size]; exact hl.sok.size
  have H0 := Lib.hid (And.intro (h.below hb0) (And.intro hl (And.intro hb0 g0)))
  clear h hl hb0 g0
  go_enter Tryz.func9, Tryz.ntmps9
  go_wp2_with fail
  refine (dget_any wb bb pb v r0 r1 c0 c1 c2 c3 clk M t pv clk E pr nn key val lo hi op _ H0.out.1 H0.out.2.1 hk).mono ?_
  rintro x w1 ⟨ve, rfl, ho1, hlw, hb1⟩
  have HB1 : Hid (Below w.heap.size w w1) := H0.out.2.2.1.trans (hb1.mono H0.out.2.2.1.size)
  have HO1 : Hid (w1.heap[w.heap.size]? = some (opO 3 (0 : Nat) pr nn key val lo hi op)) := blk_below H0.out.2.2.2 hb1
  obtain ⟨Lr, hLr⟩ : ∃ L, L = (if 16 < key.size then [] else (getT key t).toList) := ⟨_, rfl⟩
  rw [← hLr] at ho1
  obtain ⟨oav, capv, rfl, _⟩ := es_form ho1
  have HL1 := Lib.hid (And.intro hlw ho1)
  clear hlw hb1 ho1
  have HP := Lib.hid (alloc2 w1 (ansO 0 0 (.slice oav Lr.length capv) (0, 0, 0)) (ansO 0 0 (.slice none 0 0) (0, 0, 0)))
  obtain ⟨P, hP⟩ : ∃ P, P = placeE key E := ⟨_, rfl⟩
  have HPl := Lib.hid hP
  clear hP
  by_cases hk16 : 16 < key.size
  · rw [if_pos hk16] at hLr ⊢
    subst hLr
    have d : (16 : Int) < (key.size : Int) := by omega
    obtain ⟨bI, hbI⟩ : ∃ b, b = isE key E := ⟨_, rfl⟩
    have HbI := Lib.hid hbI
    clear hk16 hbI
    have qo := blk9 (blk_below HO1.out HP.out.1)
    go_wp2_with (first
      | (refine wpList_store_row rfl ansT (.tmp 7) (.tmp 19) rfl _ _ rfl rfl ansT _ (heap_new rfl) ansInfo rfl (ans1 _ _ _ _ rfl) ?_ ; rw [alloc_setRow])
      | (refine wpList_store_row rfl ansT (.tmp 9) (.tmp 21) rfl _ _ rfl rfl ansT _ (heap_new (by simp)) ansInfo rfl (ans1 0 0 (.slice none 0 0) (0, 0, 0) rfl) ?_ ; rw [setRow_self _ _ _ _ _ (heap_new (by simp))] ; generalize (w1.alloc (ansO 0 0 (.slice oav ([] : List Ent).length capv) (0, 0, 0))).alloc (ansO 0 0 (.slice none 0 0) (0, 0, 0)) = w3 at *)
      | fail)
    clear qo
    have HL3 := Lib.hid (And.intro (HL1.out.1.below HP.out.1) (own_below HL1.out.2 HP.out.1))
    refine (place_any pb pv clk E key w3 HL3.out.1.pat (by omega)).mono ?_
    rintro x w4 ⟨rfl, hb4⟩
    rw [← HPl.out, ← HbI.out]
    have g7 := blk_below HP.out.2.1 hb4
    have g9 := blk_below HP.out.2.2 hb4
    have q7 := ans_cells g7
    have q9 := ans_cells g9
    have qo := blk9 (blk_below HO1.out (HP.out.1.trans (hb4.mono HP.out.1.size)))
    have H5 := Lib.hid (And.intro (HL3.out.1.below hb4) (And.intro g7 (And.intro g9 (And.intro (own_below HL3.out.2 hb4) (And.intro (own_nil w4 1) (Keep.of_below (p := fun g => g = w1.heap.size + 1) hb4))))))
    clear g7 g9 hb4
    go_wp2_with fail
    refine (same_any _ _ _ _ [] _ H5.out.2.2.2.1 H5.out.2.2.2.2.1 (by simp)).mono ?_
    rintro x w6 ⟨rfl, hb6⟩
    have q7b := ans_cells (blk_below H5.out.2.1 hb6)
    have q9b := ans_cells (blk_below H5.out.2.2.1 hb6)
    have H6 := Lib.hid (And.intro (H5.out.1.below hb6) hb6)
    clear hb6 q7 q9
    go_wp2_with fail
    go_ret
    refine ⟨rfl, _, M, _, pv, _, _, by omega, by omega, by omega, H6.out.1, H0.out.2.1, ?_⟩
    exact ((Keep.of_below HB1.out).trans (Keep.of_below HP.out.1)).transNew (H5.out.2.2.2.2.2.trans (Keep.of_below H6.out.2)) (fun k e => by rw [e]; have := HB1.out.size; omega)
  · rw [if_neg hk16] at hLr ⊢
    have hgp := get_plain H0.out.2.1.hol H0.out.2.1.sok.ris key
    have d : (key.size : Int) ≤ 16 := by omega
    cases hI : isE key E with
    | false =>
      rw [hgp, hI, if_neg (by simp)] at hLr
      obtain rfl : Lr = [] := hLr
      have HbI := Lib.hid hI
      clear hk16 hgp hI
      have qo := blk9 (blk_below HO1.out HP.out.1)
      go_wp2_with (first
        | (refine wpList_store_row rfl ansT (.tmp 7) (.tmp 19) rfl _ _ rfl rfl ansT _ (heap_new rfl) ansInfo rfl (ans1 _ _ _ _ rfl) ?_ ; rw [alloc_setRow])
        | (refine wpList_store_row rfl ansT (.tmp 9) (.tmp 21) rfl _ _ rfl rfl ansT _ (heap_new (by simp)) ansInfo rfl (ans1 0 0 (.slice none 0 0) (0, 0, 0) rfl) ?_ ; rw [setRow_self _ _ _ _ _ (heap_new (by simp))] ; generalize (w1.alloc (ansO 0 0 (.slice oav ([] : List Ent).length capv) (0, 0, 0))).alloc (ansO 0 0 (.slice none 0 0) (0, 0, 0)) = w3 at *)
        | fail)
      clear qo
      have HL3 := Lib.hid (And.intro (HL1.out.1.below HP.out.1) (own_below HL1.out.2 HP.out.1))
      refine (place_any pb pv clk E key w3 HL3.out.1.pat (by omega)).mono ?_
      rintro x w4 ⟨rfl, hb4⟩
      rw [← HPl.out, HbI.out]
      have g7 := blk_below HP.out.2.1 hb4
      have g9 := blk_below HP.out.2.2 hb4
      have q7 := ans_cells g7
      have q9 := ans_cells g9
      have qo := blk9 (blk_below HO1.out (HP.out.1.trans (hb4.mono HP.out.1.size)))
      have H5 := Lib.hid (And.intro (HL3.out.1.below hb4) (And.intro g7 (And.intro g9 (And.intro (own_below HL3.out.2 hb4) (And.intro (own_nil w4 1) (Keep.of_below (p := fun g => g = w1.heap.size + 1) hb4))))))
      clear g7 g9 hb4
      go_wp2_with fail
      refine (same_any _ _ _ _ [] _ H5.out.2.2.2.1 H5.out.2.2.2.2.1 (by simp)).mono ?_
      rintro x w6 ⟨rfl, hb6⟩
      have q7b := ans_cells (blk_below H5.out.2.1 hb6)
      have q9b := ans_cells (blk_below H5.out.2.2.1 hb6)
      have H6 := Lib.hid (And.intro (H5.out.1.below hb6) hb6)
      clear hb6 q7 q9
      go_wp2_with fail
      go_ret
      refine ⟨rfl, _, M, _, pv, _, _, by omega, by omega, by omega, H6.out.1, H0.out.2.1, ?_⟩
      exact ((Keep.of_below HB1.out).trans (Keep.of_below HP.out.1)).transNew (H5.out.2.2.2.2.2.trans (Keep.of_below H6.out.2)) (fun k e => by rw [e]; have := HB1.out.size; omega)
    | true =>
      obtain ⟨hPl, _⟩ := isE_some hI
      rw [hgp, if_pos hI, List.getElem?_eq_getElem hPl] at hLr
      rw [← HPl.out] at hPl
      obtain ⟨⟨x1, x2, x3, x4, x5⟩, hx⟩ : ∃ x, x = E[P] := ⟨_, rfl⟩
      have hLr2 : Lr = [(x1, x2, x3, x4, x5)] := by
        rw [hLr, hx]
        simp [← HPl.out]
      clear hLr
      subst hLr2
      have HbI := Lib.hid hI
      have HX := Lib.hid hx
      clear hk16 hgp hI hx
      obtain ⟨i0, hi0, hz0, hz1, hz2⟩ : ∃ i, Tryz.prog.info? entT = some i ∧ i.zero = some (.agg #[.string ⟨#[]⟩, .int .i64 0, .int .i64 0, .string ⟨#[]⟩, .bool false]) ∧ i.size = 5 ∧ i.bytes = 56 := by
        have := info_ent
        cases h : Tryz.prog.info? entT with
        | none => rw [h] at this; cases this
        | some i => rw [h] at this; simp at this; exact ⟨i, rfl, this.1, this.2.1, this.2.2⟩
      have HI0 : Hid (_ ∧ _ ∧ _ ∧ _) := ⟨hi0, hz0, hz1, hz2⟩
      clear hi0 hz0 hz1 hz2
      have qo := blk9 (blk_below HO1.out HP.out.1)
      go_wp2_with (first
        | (refine wpList_store_row rfl ansT (.tmp 7) (.tmp 19) rfl _ _ rfl rfl ansT _ (heap_new rfl) ansInfo rfl (ans1 _ _ _ _ rfl) ?_ ; rw [alloc_setRow])
        | (refine wpList_store_row rfl ansT (.tmp 9) (.tmp 21) rfl _ _ rfl rfl ansT _ (heap_new (by simp)) ansInfo rfl (ans1 0 0 (.slice none 0 0) (0, 0, 0) rfl) ?_ ; rw [setRow_self _ _ _ _ _ (heap_new (by simp))] ; generalize (w1.alloc (ansO 0 0 (.slice oav ([(x1, x2, x3, x4, x5)] : List Ent).length capv) (0, 0, 0))).alloc (ansO 0 0 (.slice none 0 0) (0, 0, 0)) = w3 at *)
        | fail)
      clear qo
      have HL3 := Lib.hid (And.intro (HL1.out.1.below HP.out.1) (own_below HL1.out.2 HP.out.1))
      obtain ⟨oap, capp, rfl, hrow⟩ := es_form HL3.out.1.pat.row
      refine (place_any pb _ clk E key w3 HL3.out.1.pat (by omega)).mono ?_
      rintro x w4 ⟨rfl, hb4⟩
      rw [← HPl.out, HbI.out]
      obtain ⟨gp, rfl, hgp⟩ := hrow P hPl
      rw [← HX.out] at hgp
      have g7 := blk_below HP.out.2.1 hb4
      have g9 := blk_below HP.out.2.2 hb4
      have q7 := ans_cells g7
      have q9 := ans_cells g9
      have qo := blk9 (blk_below HO1.out (HP.out.1.trans (hb4.mono HP.out.1.size)))
      have hs4 := blk_lt g9
      have H4 := Lib.hid (And.intro (HL3.out.1.below hb4) (And.intro g7 (And.intro g9 (And.intro (own_below HL3.out.2 hb4) (And.intro hb4 (hgp.below hb4))))))
      clear g7 g9 hb4 hgp hrow
      go_wp2_with fail
      clear q7 q9 qo
      have hSt : Stable (fun wq : World => (Below w4.heap.size w4 wq)) := by repeat (first | exact stable_ext _ | exact stable_blk _ _ | exact stable_true | (refine stable_bel ?_ ; (focus (first | (simp [World.size_setCell] ; done) | (simp [World.setCell] ; done)))) | refine Stable.and ?_ ?_)
      refine wp_region_x [0, 1, 2, 3, 4, 5, 6, 7, 8, 9, 10, 11, 12] [0, 1, 0, 0, 0, 1, 0, 0, 1, 4, 4, 0, 3] (fun wq => (Below w4.heap.size w4 wq)) (by kernel_rfl) (by kernel_rfl) ?_ ?_
      · (first | trivial | (repeat (first | (with_reducible assumption) | (with_reducible exact Below.refl _ _) | (with_reducible refine heap_drew ?_) | (focus ((with_reducible refine heap_new ?_) ; simp ; done)) | (with_reducible apply heap_set_to) | (focus ((with_reducible refine heap_set_ne ?_ ?_ _) ; rotate_left ; (focus (first | omega | (simp ; done) | (simp ; omega))))) | (with_reducible refine heap_old ?_) | (with_reducible refine Below.drew ?_) | (with_reducible refine below_set ?_ _ _) | (focus ((with_reducible refine Below.setCell ?_ ?_ _) ; rotate_left ; (focus (first | omega | (simp ; done) | (simp ; omega))))) | (focus ((with_reducible refine Below.alloc ?_ ?_ _) ; rotate_left ; (focus (first | omega | (simp ; done) | (simp ; omega))))) | (with_reducible rfl) | (focus (simp ; done)))))
      simp only [List.map_cons, List.map_nil, List.getD_cons_zero, List.getD_cons_succ]
      (refine x_pure rfl _ ?_ rfl (by simp) ?_ ?_ ; rotate_left ; · (intro wq K hK ; go_wp2_with fail ; exact rfl))
      simp only [Act.put, List.setIfInBounds_toArray, List.set_cons_succ, List.set_cons_zero]
      (refine x_quiet rfl hSt (fun _ h => h) _ ?_ rfl (by simp) ?_ ?_ ; rotate_left ; · (intro wq hC K hK ; have hb := hC ; have q9 := ans_cells (blk_below H4.out.2.2.1 hb) ; have qp := blk2 (blk_below H4.out.1.pat.blk hb) ; have qa := H4.out.2.2.2.2.2.below hb ; unfold EAt at qa ; simp only at qa ; go_wp2_with fail ; refine ⟨?_, Below.refl _ _⟩ ; exact rfl))
      simp only [Act.put, List.setIfInBounds_toArray, List.set_cons_succ, List.set_cons_zero]
      (refine x_pure rfl _ ?_ rfl (by simp) ?_ ?_ ; rotate_left ; · (intro wq K hK ; go_wp2_with fail ; exact rfl))
      simp only [Act.put, List.setIfInBounds_toArray, List.set_cons_succ, List.set_cons_zero]
      (refine x_pure rfl _ ?_ rfl (by simp) ?_ ?_ ; rotate_left ; · (intro wq K hK ; go_wp2_with fail ; exact rfl))
      simp only [Act.put, List.setIfInBounds_toArray, List.set_cons_succ, List.set_cons_zero]
      (refine x_pure rfl _ ?_ rfl (by simp) ?_ ?_ ; rotate_left ; · (intro wq K hK ; go_wp2_with fail ; exact rfl))
      simp only [Act.put, List.setIfInBounds_toArray, List.set_cons_succ, List.set_cons_zero]
      (refine x_quiet rfl hSt (fun _ h => h) _ ?_ rfl (by simp) ?_ ?_ ; rotate_left ; · (intro wq hC K hK ; have hb := hC ; have q9 := ans_cells (blk_below H4.out.2.2.1 hb) ; have qp := blk2 (blk_below H4.out.1.pat.blk hb) ; have qa := H4.out.2.2.2.2.2.below hb ; unfold EAt at qa ; simp only at qa ; go_wp2_with fail ; refine ⟨?_, Below.refl _ _⟩ ; exact rfl))
      simp only [Act.put, List.setIfInBounds_toArray, List.set_cons_succ, List.set_cons_zero]
      (refine x_pure rfl _ ?_ rfl (by simp) ?_ ?_ ; rotate_left ; · (intro wq K hK ; go_wp2_with fail ; exact rfl))
      simp only [Act.put, List.setIfInBounds_toArray, List.set_cons_succ, List.set_cons_zero]
      (refine x_pure rfl _ ?_ rfl (by simp) ?_ ?_ ; rotate_left ; · (intro wq K hK ; go_wp2_with fail ; exact rfl))
      simp only [Act.put, List.setIfInBounds_toArray, List.set_cons_succ, List.set_cons_zero]
      (refine x_quiet rfl hSt (fun _ h => h) _ ?_ rfl (by simp) ?_ ?_ ; rotate_left ; · (intro wq hC K hK ; have hb := hC ; have q9 := ans_cells (blk_below H4.out.2.2.1 hb) ; have qp := blk2 (blk_below H4.out.1.pat.blk hb) ; have qa := H4.out.2.2.2.2.2.below hb ; unfold EAt at qa ; simp only at qa ; go_wp2_with fail ; refine ⟨?_, Below.refl _ _⟩ ; exact rfl))
      simp only [Act.put, List.setIfInBounds_toArray, List.set_cons_succ, List.set_cons_zero]
      refine x_make rfl ?_
      intro wq hD K hK ; have hb := hD ; have q9 := ans_cells (blk_below H4.out.2.2.1 hb) ; have qp := blk2 (blk_below H4.out.1.pat.blk hb) ; have qa := H4.out.2.2.2.2.2.below hb ; unfold EAt at qa ; simp only at qa
      go_wp2_with fail
      refine hK _ _ (below_alloc_self wq (entO (x1, x2, x3, x4, x5))) ?_
      have g9n : (wq.alloc (entO (x1, x2, x3, x4, x5))).heap[wq.heap.size]? = some (entO (x1, x2, x3, x4, x5)) := heap_new rfl
      have hb9 := hb.trans ((below_alloc_self wq (entO (x1, x2, x3, x4, x5))).mono hb.size)
      clear q9 qp qa hb hK hSt
      generalize wq.heap.size = bX at *
      generalize wq.alloc (entO (x1, x2, x3, x4, x5)) = w9 at *
      try simp only [Act.put, List.setIfInBounds_toArray, List.set_cons_succ, List.set_cons_zero]
      refine x_make rfl ?_
      intro wy hyb K hK
      have hn10 := blk_below g9n hyb
      have hbY := hb9.trans (hyb.mono hb9.size)
      refine wp_append_any _ (.tmp 61) (.tmp 69) 32 rfl wy.heap.size entT i0 _ 5 56 Tryz.underlying32 HI0.out.1 HI0.out.2.1 HI0.out.2.2.1 HI0.out.2.2.2 rfl (by decide) (.slice none 0 0) 0 [] rfl (World.ownsRow_nil _ _ _ _) (some ⟨bX, 0, none⟩) 1 1 (ecl (x1, x2, x3, x4, x5)) rfl rfl (fun h => nomatch h) (ent_news hn10) (ecl_one _) (by unfold maxLen; omega) (by omega) (Nat.le_refl _) ?_
      intro v2 w10 ho10 hg10 _
      have hb10 : Below wy.heap.size wy w10 := (Keep.grown hg10).below (Nat.le_refl _) (fun k e => by cases e)
      obtain ⟨oa2, n2, cap2, rfl⟩ : ∃ oa n cap, v2 = .slice oa n cap := by (rcases ho10.2 with ⟨h, _⟩ | ⟨g, cap, cur, h, _⟩ ; exact ⟨_, _, _, h⟩ ; exact ⟨_, _, _, h⟩)
      have hbZ := hbY.trans (hb10.mono hbY.size)
      refine hK _ _ hb10 ?_
      have HZ := Lib.hid (And.intro ho10 hbZ)
      clear ho10 hg10 hb10 hbZ hbY hn10 hyb g9n hb9 hK
      try simp only [Act.put, List.setIfInBounds_toArray, List.set_cons_succ, List.set_cons_zero]
      (refine x_pure rfl _ ?_ rfl (by simp) ?_ ?_ ; rotate_left ; · (intro wq K hK ; go_wp2_with fail ; exact rfl))
      simp only [Act.put, List.setIfInBounds_toArray, List.set_cons_succ, List.set_cons_zero]
      refine x_write rfl ?_
      intro wz hzb K hK
      have hbZ := HZ.out.2.trans (hzb.mono HZ.out.2.size)
      have g9z := blk_below H4.out.2.2.1 hbZ
      have q9 := ans_cells g9z
      have HY := Lib.hid (And.intro (own_below HZ.out.1 hzb) (And.intro hbZ g9z))
      clear hbZ g9z hzb
      go_wp2_with fail
      try simp only [Act.put, List.setIfInBounds_toArray, List.set_cons_succ, List.set_cons_zero]
      first | refine x_nil ?_ | refine x_end ?_
      rintro _ rfl
      have k5 : Keep (fun g => g = w1.heap.size + 1) wz (wz.setCell ⟨w1.heap.size + 1, 2, none⟩ (.slice oa2 n2 cap2)) := Keep.set wz ⟨w1.heap.size + 1, 2, none⟩ _
      have hoff := off_one HY.out.2.2 (by omega)
      have hp5 : ∀ g, g = w1.heap.size + 1 → ∃ cs ty fr, wz.heap[g]? = some (.cells cs ty fr) ∧ ty ≠ entT := fun g e => by subst e; exact ⟨_, _, _, HY.out.2.2, by decide⟩
      have g95 : (wz.setCell ⟨w1.heap.size + 1, 2, none⟩ (.slice oa2 n2 cap2)).heap[w1.heap.size + 1]? = some (ansO 0 0 (.slice oa2 n2 cap2) (0, 0, 0)) := heap_set_to HY.out.2.2 (by simp)
      have ho7 := own_below H4.out.2.2.2.1 HY.out.2.1
      have ho8 : Es wz wy.heap.size (.slice oa2 n2 cap2) [(x1, x2, x3, x4, x5)] := by
        have := HY.out.1
        show wz.ownsRow _ _ _ _ 1 (eflat [(x1, x2, x3, x4, x5)])
        simpa [eflat] using this
      have g7z := blk_below H4.out.2.1 HY.out.2.1
      have H5 := Lib.hid (And.intro ((H4.out.1.below HY.out.2.1).off k5 hoff) (And.intro (k5.blk g7z (by omega)) (And.intro g95 (And.intro (own_keep ho7 k5 (own_off ho7 hp5)) (And.intro (own_keep ho8 k5 (own_off ho8 hp5)) ((Keep.of_below (p := fun g => g = w1.heap.size + 1) (H4.out.2.2.2.2.1.trans (HY.out.2.1.mono H4.out.2.2.2.2.1.size))).trans k5))))))
      have q7 := ans_cells H5.out.2.1
      have q9 := ans_cells H5.out.2.2.1
      clear k5 hoff hp5 g95 ho7 ho8 g7z
      generalize wz.setCell ⟨w1.heap.size + 1, 2, none⟩ (.slice oa2 n2 cap2) = w5 at *
      go_wp2_with fail
      refine (same_any _ _ _ _ [(x1, x2, x3, x4, x5)] _ H5.out.2.2.2.1 H5.out.2.2.2.2.1 (by simp)).mono ?_
      rintro x w6 ⟨rfl, hb6⟩
      have q7b := ans_cells (blk_below H5.out.2.1 hb6)
      have q9b := ans_cells (blk_below H5.out.2.2.1 hb6)
      have H6 := Lib.hid (And.intro (H5.out.1.below hb6) hb6)
      clear hb6 q7 q9
      go_wp2_with fail
      go_ret
      refine ⟨rfl, _, M, _, _, _, _, by omega, by omega, by omega, H6.out.1, H0.out.2.1, ?_⟩
      exact ((Keep.of_below HB1.out).trans (Keep.of_below HP.out.1)).transNew (H5.out.2.2.2.2.2.trans (Keep.of_below H6.out.2)) (fun k e => by rw [e]; have := HB1.out.size; omega)
end Go.Proofs.YtdflmplmpjghdaaGreatDoor
