/-
  Do at node 0: what it answers, and what it leaves.
-/
import Derived.Test.YtdflmplmpjghdaaGreatDoorAct
import Derived.Test.YtdflmplmpjghdaaGreatDoorQlaw
namespace Go.Proofs.YtdflmplmpjghdaaGreatDoor
open Go.ChangeShapes Go.WideShapes Go.ChangeAt Go.RowKit Go.Deep Go.Shelf
set_option linter.unusedVariables false
set_option linter.unusedSimpArgs false
set_option maxRecDepth 100000
attribute [local go_sem] Oper.semAt_some

/-- The world's block, and its row of nodes. -/
theorem WAt.form {w : World} {wb bb : Nat} {v : Value} {L : List NR} (h : WAt w wb bb v L) : ∃ oa cap, v = .slice oa L.length cap ∧ ∀ k (hk : k < L.length), ∃ g, oa = some ⟨g, 0, none⟩ ∧ w.cell? ⟨g, k, none⟩ = some (nptr L[k]) ∧ g < w.heap.size := by
  rcases h.row.2 with ⟨rfl, h0⟩ | ⟨g, cap, cur, rfl, hg, hh, h1, h2, h3, h4⟩
  · exact ⟨none, 0, by rw [h0], fun k hk => by omega⟩
  · refine ⟨some ⟨g, 0, none⟩, cap, rfl, fun k hk => ⟨g, rfl, ?_, blk_lt hh⟩⟩
    have := h.row.cells (g := g) rfl k (nptr L[k]) (by simp [hk])
    rwa [add_none, Nat.zero_add] at this
theorem WAt.below {w w' : World} {wb bb : Nat} {v : Value} {L : List NR} (h : WAt w wb bb v L) (hb : Below w.heap.size w w') : WAt w' wb bb v L := ⟨blk_below h.blk hb, own_below h.row hb⟩
theorem has_any (wb bb : Nat) (v : Value) (L : List NR) (n : Int) (w : World) (h : WAt w wb bb v L) : Calls Tryz.prog 30 #[.pointer (some ⟨wb, 0, none⟩), .int .i64 n] w fun e w' => e = .returned (.bool (decide (0 ≤ n ∧ n < L.length))) ∧ w' = w := by
  obtain ⟨oa, cap, rfl, _⟩ := h.form
  have q := blk2 h.blk
  clear h
  by_cases h0 : 0 ≤ n
  · go_enter Tryz.func30, Tryz.ntmps30
    go_wp2_with fail
    go_ret
    exact ⟨by simp [h0], rfl⟩
  · have d : n < 0 := by omega
    go_enter Tryz.func30, Tryz.ntmps30
    go_wp2_with fail
    go_ret
    exact ⟨by simp; omega, rfl⟩
theorem blk9 {w : World} {b : Nat} {x0 x1 x2 x3 x4 x5 x6 x7 x8 : Value} {t : TypeId} (h : w.heap[b]? = some (.cells #[x0, x1, x2, x3, x4, x5, x6, x7, x8] t (0, 0))) :
    w.cell? ⟨b, 0, none⟩ = some x0 ∧ w.cell? ⟨b, 1, none⟩ = some x1 ∧ w.cell? ⟨b, 2, none⟩ = some x2 ∧ w.cell? ⟨b, 3, none⟩ = some x3 ∧ w.cell? ⟨b, 4, none⟩ = some x4 ∧ w.cell? ⟨b, 5, none⟩ = some x5 ∧ w.cell? ⟨b, 6, none⟩ = some x6 ∧ w.cell? ⟨b, 7, none⟩ = some x7 ∧ w.cell? ⟨b, 8, none⟩ = some x8 ∧ b < w.heap.size ∧ ∀ o, w.frozen? ⟨b, o, none⟩ = false :=
  ⟨blk_cell h 0, blk_cell h 1, blk_cell h 2, blk_cell h 3, blk_cell h 4, blk_cell h 5, blk_cell h 6, blk_cell h 7, blk_cell h 8, blk_lt h, blk_free h⟩
/-- Answers that lie there lie there still. -/
def AKeep (w w' : World) : Prop := w.heap.size ≤ w'.heap.size ∧ ∀ (g : Nat) (cs : Array Value), w.heap[g]? = some (.cells cs ansT (0, 0)) → w'.heap[g]? = some (.cells cs ansT (0, 0))
theorem AKeep.of_below {w w' : World} (h : Below w.heap.size w w') : AKeep w w' := ⟨h.size, fun g cs hg => blk_below hg h⟩
theorem AKeep.of_keep {p : Nat → Prop} {w w' : World} (h : Keep p w w') (hp : ∀ g cs, w.heap[g]? = some (.cells cs ansT (0, 0)) → ¬ p g) : AKeep w w' := ⟨h.size, fun g cs hg => h.blk hg (hp g cs hg)⟩
theorem AKeep.lt {w w' : World} (h : AKeep w w') {g : Nat} {cs : Array Value} (hg : w.heap[g]? = some (.cells cs ansT (0, 0))) : g < w'.heap.size := blk_lt (h.2 g cs hg)
/-- What Do leaves: act's world, in which the answer's own block turns. -/
def DoOf (w : World) (a b : Int) (S : T3) (E : Int) (R : Option Addr → Nat → Nat → World → World → Prop) (x : Ending) (w' : World) : Prop :=
  ∃ oa n c w1 w2 p, x = .returned (.tuple #[if E = 0 then ansV a b (.slice oa n c) S else ansV 0 0 (.slice none 0 0) (0, 0, 0), .int .i64 E]) ∧ Below w.heap.size w w1 ∧ R oa n c w1 w2 ∧ Keep p w2 w' ∧ ∀ k, p k → w.heap.size ≤ k ∧ ∃ cs, w2.heap[k]? = some (.cells cs ansT (0, 0))
set_option maxRecDepth 100000 in
set_option maxHeartbeats 16000000 in
theorem do_any (wb bb : Nat) (v : Value) (L : List NR) (nd : Nat) (hnd : nd < L.length) (k pr n : Int) (key val lo hi : ByteArray) (op : Bool) (a b : Int) (S : T3) (E : Int) (R : Option Addr → Nat → Nat → World → World → Prop) (w : World) (h : WAt w wb bb v L) (hk1 : 1 ≤ k) (hk2 : k ≤ 5)
    (hact : ∀ w' : World, Below w.heap.size w w' → Calls Tryz.prog 36 #[.pointer (some ⟨wb, 0, none⟩), nptr L[nd], opA k nd pr n key val lo hi op] w' fun x w2 => ∃ oa n c, x = .returned (.tuple #[ansV a b (.slice oa n c) S, .int .i64 E]) ∧ R oa n c w' w2 ∧ AKeep w' w2) :
    Calls Tryz.prog 12 #[.pointer (some ⟨wb, 0, none⟩), opA k nd pr n key val lo hi op] w (DoOf w a b S E R) := by
  obtain ⟨oa, cap, rfl, hrow⟩ := h.form
  obtain ⟨g, rfl, hg, hgl⟩ := hrow nd hnd
  obtain ⟨k0, k1, k2⟩ := alloc2 w (opO k nd pr n key val lo hi op) (ansO 0 0 (.slice none 0 0) (0, 0, 0))
  have HN := Lib.hid (And.intro (h.below k0) (And.intro hact (And.intro k0 (And.intro k1 k2))))
  have HGc := Lib.hid (And.intro hg hgl)
  obtain ⟨d, hd⟩ : ∃ d : Int, d = L.length := ⟨_, rfl⟩
  have hnd2 : (nd : Int) < d := by omega
  have hnd3 : (0 : Int) ≤ (nd : Int) := by omega
  have hdec : Hid (decide ((0 : Int) ≤ (nd : Int) ∧ (nd : Int) < L.length) = true) := by show _ = _; simp [hnd]
  clear hact h k0 k1 k2 hrow hg
  go_enter Tryz.func12, Tryz.ntmps12
  go_wp2_with fail
  refine (has_any wb bb _ L (nd : Int) _ HN.out.1).mono ?_
  rintro e wx ⟨rfl, rfl⟩
  rw [hdec.out]
  generalize (w.alloc (opO k nd pr n key val lo hi op)).alloc (ansO 0 0 (.slice none 0 0) (0, 0, 0)) = W1 at *
  have qo := blk9 HN.out.2.2.2.1
  go_wp2_with fail
  clear qo
  have hSt : Stable (fun w3 : World => (Below W1.heap.size W1 w3)) := by repeat (first | exact stable_ext _ | exact stable_blk _ _ | exact stable_true | (refine stable_bel ?_ ; (focus (first | (simp [World.size_setCell] ; done) | (simp [World.setCell] ; done)))) | refine Stable.and ?_ ?_)
  refine wp_region_p [0, 1, 2, 3, 4, 5, 6, 7, 8, 9] [0, 0, 0, 0, 1, 0, 1, 0, 1, 1, 3, 0, 0, 0, 4, 3, 0] 7 #[true, true, true, true, true, true, true, true, true, true, false, false, false, false, false, false, false] (fun w3 => (Below W1.heap.size W1 w3)) (by kernel_rfl) (by kernel_rfl) ?_ ?_
  · (first | trivial | (repeat (first | (with_reducible assumption) | (with_reducible exact Below.refl _ _) | (with_reducible refine heap_drew ?_) | (focus ((with_reducible refine heap_new ?_) ; simp ; done)) | (with_reducible apply heap_set_to) | (focus ((with_reducible refine heap_set_ne ?_ ?_ _) ; rotate_left ; (focus (first | omega | (simp ; done) | (simp ; omega))))) | (with_reducible refine heap_old ?_) | (with_reducible refine Below.drew ?_) | (with_reducible refine below_set ?_ _ _) | (focus ((with_reducible refine Below.setCell ?_ ?_ _) ; rotate_left ; (focus (first | omega | (simp ; done) | (simp ; omega))))) | (focus ((with_reducible refine Below.alloc ?_ ?_ _) ; rotate_left ; (focus (first | omega | (simp ; done) | (simp ; omega))))) | (with_reducible rfl) | (focus (simp ; done)))))
  simp only [List.map_cons, List.map_nil, List.getD_cons_zero, List.getD_cons_succ]
  (refine x_pure rfl _ ?_ rfl (by simp) ?_ ?_ ; rotate_left ; · (intro w3 K hK ; go_wp2_with fail ; exact rfl))
  simp only [Act.put, List.setIfInBounds_toArray, List.set_cons_succ, List.set_cons_zero]
  (refine x_pure rfl _ ?_ rfl (by simp) ?_ ?_ ; rotate_left ; · (intro w3 K hK ; go_wp2_with fail ; exact rfl))
  simp only [Act.put, List.setIfInBounds_toArray, List.set_cons_succ, List.set_cons_zero]
  (refine x_pure rfl _ ?_ rfl (by simp) ?_ ?_ ; rotate_left ; · (intro w3 K hK ; go_wp2_with fail ; exact rfl))
  simp only [Act.put, List.setIfInBounds_toArray, List.set_cons_succ, List.set_cons_zero]
  (refine x_pure rfl _ ?_ rfl (by simp) ?_ ?_ ; rotate_left ; · (intro w3 K hK ; go_wp2_with fail ; exact rfl))
  simp only [Act.put, List.setIfInBounds_toArray, List.set_cons_succ, List.set_cons_zero]
  (refine x_quiet rfl hSt (fun _ h => h) _ ?_ rfl (by simp) ?_ ?_ ; rotate_left ; · (intro w3 hC K hK ; have hb := hC ; have q := blk2 (HN.out.1.below hb).blk ; have qg : w3.cell? ⟨g, nd, none⟩ = some (nptr L[nd]) := (HN.out.2.2.1.trans (hb.mono HN.out.2.2.1.size)).cell (p := ⟨g, nd, none⟩) HGc.out.2 |>.trans HGc.out.1 ; have qo := blk9 (blk_below HN.out.2.2.2.1 hb) ; go_wp2_with fail ; refine ⟨?_, Below.refl _ _⟩ ; exact rfl))
  simp only [Act.put, List.setIfInBounds_toArray, List.set_cons_succ, List.set_cons_zero]
  (refine x_pure rfl _ ?_ rfl (by simp) ?_ ?_ ; rotate_left ; · (intro w3 K hK ; go_wp2_with fail ; exact rfl))
  simp only [Act.put, List.setIfInBounds_toArray, List.set_cons_succ, List.set_cons_zero]
  (refine x_quiet rfl hSt (fun _ h => h) _ ?_ rfl (by simp) ?_ ?_ ; rotate_left ; · (intro w3 hC K hK ; have hb := hC ; have q := blk2 (HN.out.1.below hb).blk ; have qg : w3.cell? ⟨g, nd, none⟩ = some (nptr L[nd]) := (HN.out.2.2.1.trans (hb.mono HN.out.2.2.1.size)).cell (p := ⟨g, nd, none⟩) HGc.out.2 |>.trans HGc.out.1 ; have qo := blk9 (blk_below HN.out.2.2.2.1 hb) ; go_wp2_with fail ; refine ⟨?_, Below.refl _ _⟩ ; exact rfl))
  simp only [Act.put, List.setIfInBounds_toArray, List.set_cons_succ, List.set_cons_zero]
  (refine x_pure rfl _ ?_ rfl (by simp) ?_ ?_ ; rotate_left ; · (intro w3 K hK ; go_wp2_with fail ; exact rfl))
  simp only [Act.put, List.setIfInBounds_toArray, List.set_cons_succ, List.set_cons_zero]
  (refine x_quiet rfl hSt (fun _ h => h) _ ?_ rfl (by simp) ?_ ?_ ; rotate_left ; · (intro w3 hC K hK ; have hb := hC ; have q := blk2 (HN.out.1.below hb).blk ; have qg : w3.cell? ⟨g, nd, none⟩ = some (nptr L[nd]) := (HN.out.2.2.1.trans (hb.mono HN.out.2.2.1.size)).cell (p := ⟨g, nd, none⟩) HGc.out.2 |>.trans HGc.out.1 ; have qo := blk9 (blk_below HN.out.2.2.2.1 hb) ; go_wp2_with fail ; refine ⟨?_, Below.refl _ _⟩ ; exact rfl))
  simp only [Act.put, List.setIfInBounds_toArray, List.set_cons_succ, List.set_cons_zero]
  (refine x_quiet rfl hSt (fun _ h => h) _ ?_ rfl (by simp) ?_ ?_ ; rotate_left ; · (intro w3 hC K hK ; have hb := hC ; have q := blk2 (HN.out.1.below hb).blk ; have qg : w3.cell? ⟨g, nd, none⟩ = some (nptr L[nd]) := (HN.out.2.2.1.trans (hb.mono HN.out.2.2.1.size)).cell (p := ⟨g, nd, none⟩) HGc.out.2 |>.trans HGc.out.1 ; have qo := blk9 (blk_below HN.out.2.2.2.1 hb) ; go_wp2_with fail ; refine ⟨?_, Below.refl _ _⟩ ; exact rfl))
  simp only [Act.put, List.setIfInBounds_toArray, List.set_cons_succ, List.set_cons_zero]
  refine x_end ?_
  refine wpX_fork2 (i := 10) (j := 14) (by kernel_rfl) (by kernel_rfl) ?_ ?_
  · simp only [List.map_cons, List.map_nil, List.getD_cons_zero, List.getD_cons_succ]
    refine x_write rfl ?_
    intro w3 hb K hK
    go_wp2_with fail
    refine (HN.out.2.1 w3 (HN.out.2.2.1.trans (hb.mono HN.out.2.2.1.size))).mono ?_
    rintro x9 w9 ⟨oa, n9, c9, rfl, hR, hA⟩
    refine hK _ _ ?_
    have HZ := Lib.hid (And.intro hR (And.intro (HN.out.2.2.1.trans (hb.mono HN.out.2.2.1.size)) (hA.2 _ _ (blk_below HN.out.2.2.2.2 hb))))
    clear hb hR hA hK
    try simp only [Act.put, List.setIfInBounds_toArray, List.set_cons_succ, List.set_cons_zero]
    refine x_end ?_
    refine wpX_tail [11, 12, 13, 14, 15, 16] 6 (by kernel_rfl) ?_
    simp only [List.map_cons, List.map_nil, List.getD_cons_zero, List.getD_cons_succ]
    (refine x_pure rfl _ ?_ rfl (by simp) ?_ ?_ ; rotate_left ; · (intro w3 K hK ; go_wp2_with fail ; exact rfl))
    try simp only [Act.put, List.setIfInBounds_toArray, List.set_cons_succ, List.set_cons_zero]
    (refine x_pure rfl _ ?_ rfl (by simp) ?_ ?_ ; rotate_left ; · (intro w3 K hK ; go_wp2_with fail ; exact rfl))
    try simp only [Act.put, List.setIfInBounds_toArray, List.set_cons_succ, List.set_cons_zero]
    (refine x_pure rfl _ ?_ rfl (by simp) ?_ ?_ ; rotate_left ; · (intro w3 K hK ; go_wp2_with fail ; exact rfl))
    try simp only [Act.put, List.setIfInBounds_toArray, List.set_cons_succ, List.set_cons_zero]
    refine x_make rfl ?_
    rintro w9 rfl K hK
    go_wp2_with fail
    refine hK _ _ (below_alloc_self _ _) ?_
    have hY0 := below_alloc_self w9 (ansO 0 0 (.slice none 0 0) (0, 0, 0))
    have hY1 : (w9.alloc (ansO 0 0 (.slice none 0 0) (0, 0, 0))).heap[w9.heap.size]? = some (ansO 0 0 (.slice none 0 0) (0, 0, 0)) := heap_new rfl
    have hlt9 : w.heap.size + 1 < w9.heap.size := blk_lt HZ.out.2.2
    obtain ⟨bN, hbN⟩ : ∃ x, x = w9.heap.size := ⟨_, rfl⟩
    have hY1 : (w9.alloc (ansO 0 0 (.slice none 0 0) (0, 0, 0))).heap[bN]? = some (ansO 0 0 (.slice none 0 0) (0, 0, 0)) := by rw [hbN]; exact hY1
    have HY0 := Lib.hid (And.intro hY0 hY1)
    clear hY0 hY1 hK
    rw [← hbN]
    try simp only [Act.put, List.setIfInBounds_toArray, List.set_cons_succ, List.set_cons_zero]
    refine x_write rfl ?_
    intro w8 hb8 K hK
    have HY := Lib.hid (And.intro (blk_below HY0.out.2 hb8) (And.intro (blk_below HZ.out.2.2 (HY0.out.1.trans (hb8.mono HY0.out.1.size))) (And.intro (show w.heap.size + 1 ≠ bN by omega) (Keep.of_below (p := fun k => k = w.heap.size + 1 ∨ k = w.heap.size + 1) (HY0.out.1.trans (hb8.mono HY0.out.1.size))))))
    have hle : w9.heap.size ≤ bN := by omega
    clear hb8
    refine wp_store_row ansT (.tmp 11) (.tmp 102) rfl bN _ rfl rfl ansT _ HY.out.1 ansInfo rfl (ans1 _ _ _ _ rfl) ?_
    refine hK _ _ ?_
    try simp only [Act.put, List.setIfInBounds_toArray, List.set_cons_succ, List.set_cons_zero]
    (refine x_pure rfl _ ?_ rfl (by simp) ?_ ?_ ; rotate_left ; · (intro w3 K hK ; go_wp2_with fail ; exact rfl))
    try simp only [Act.put, List.setIfInBounds_toArray, List.set_cons_succ, List.set_cons_zero]
    refine x_nil ?_
    rintro _ rfl
    have hp1 : ∀ k, (k = w.heap.size + 1 ∨ k = w.heap.size + 1) → w.heap.size ≤ k ∧ ∃ cs, w9.heap[k]? = some (.cells cs ansT (0, 0)) := fun k e => by
      have e : k = w.heap.size + 1 := by omega
      subst e
      exact ⟨by omega, _, HZ.out.2.2⟩
    have hu := setRow_heap w8 bN _ (ansL a b (.slice oa n9 c9) S).toArray ansT (0, 0) HY.out.1
    have hk := setRow_keep w8 bN (ansL a b (.slice oa n9 c9) S).toArray
    have HF := Lib.hid (And.intro hu (And.intro (hk.blk HY.out.2.1 HY.out.2.2.1) (And.intro (HY.out.2.2.2.transNew hk fun k e => by rw [e]; exact hle) hp1)))
    clear hu hk
    generalize w8.setRow bN (ansL a b (.slice oa n9 c9) S).toArray = wf at *
    by_cases hE : E = 0
    · subst hE
      go_wp2_with (first
        | (refine wpList_load_row rfl ansT (.tmp 11) rfl _ rfl ansT _ (0, 0) _ HF.out.1 Tryz.underlying59 rfl ansInfo ?_)
        | (refine wpList_store_row rfl ansT (.tmp 4) (.tmp 108) rfl _ _ rfl rfl ansT _ HF.out.2.1 ansInfo rfl (ans1 _ _ _ _ rfl) ?_)
        | fail)
      refine bodyPost_ret (results_cell_tmp Tryz.results12 _ _ _ ansT _ (0, 0) _ _ rfl (setRow_heap _ _ _ _ _ _ HF.out.2.1) Tryz.underlying59 rfl ansInfo rfl) rfl ⟨oa, n9, c9, _, _, _, rfl, HZ.out.2.1, HZ.out.1, HF.out.2.2.1.trans ((setRow_keep _ _ _).mono fun _ _ e => Or.inl e), HF.out.2.2.2⟩
    · go_wp2_with (first
        | (refine wpList_store_row rfl ansT (.tmp 4) (.tmp 106) rfl _ _ rfl rfl ansT _ HF.out.2.1 ansInfo rfl (ans1 0 0 (.slice none 0 0) (0, 0, 0) rfl) ?_)
        | fail)
      refine bodyPost_ret (v := .tuple #[ansV 0 0 (.slice none 0 0) (0, 0, 0), .int .i64 E]) (results_cell_tmp Tryz.results12 _ _ _ ansT _ (0, 0) _ _ rfl (setRow_heap _ _ _ (ansL 0 0 (.slice none 0 0) (0, 0, 0)).toArray _ _ HF.out.2.1) Tryz.underlying59 rfl ansInfo rfl) rfl ⟨oa, n9, c9, _, _, _, by rw [if_neg hE], HZ.out.2.1, HZ.out.1, HF.out.2.2.1.trans ((setRow_keep _ _ _).mono fun _ _ e => Or.inl e), HF.out.2.2.2⟩
  · simp only [List.map_cons, List.map_nil, List.getD_cons_zero, List.getD_cons_succ]
    refine x_make rfl ?_
    intro w3 hb K hK
    go_wp2_with fail
    refine hK _ _ (below_alloc_self _ _) ?_
    have hY1 : (w3.alloc (ansO 0 0 (.slice none 0 0) (0, 0, 0))).heap[w3.heap.size]? = some (ansO 0 0 (.slice none 0 0) (0, 0, 0)) := heap_new rfl
    have hY0 := hb.trans ((below_alloc_self w3 (ansO 0 0 (.slice none 0 0) (0, 0, 0))).mono hb.size)
    have hge3 := hb.size
    have HY0 := Lib.hid (And.intro hY0 hY1)
    clear hY0 hY1 hK hb
    obtain ⟨bN, hbN⟩ : ∃ x, x = w3.heap.size := ⟨_, rfl⟩
    have hlt1 : w.heap.size + 1 < bN := by have := blk_lt HN.out.2.2.2.2; omega
    rw [← hbN] at HY0
    rw [← hbN]
    generalize w3.alloc (ansO 0 0 (.slice none 0 0) (0, 0, 0)) = w4 at *
    try simp only [Act.put, List.setIfInBounds_toArray, List.set_cons_succ, List.set_cons_zero]
    refine x_end ?_
    refine wpX_tail [10, 11, 12, 13, 15, 16] 6 (by kernel_rfl) ?_
    simp only [List.map_cons, List.map_nil, List.getD_cons_zero, List.getD_cons_succ]
    refine x_write rfl ?_
    intro w5 hb5 K hK
    have hb6 := HY0.out.1.trans (hb5.mono HY0.out.1.size)
    go_wp2_with fail
    refine (HN.out.2.1 w5 (HN.out.2.2.1.trans (hb6.mono HN.out.2.2.1.size))).mono ?_
    rintro x9 w8 ⟨oa, n9, c9, rfl, hR, hA⟩
    refine hK _ _ ?_
    have HZ := Lib.hid (And.intro hR (And.intro (HN.out.2.2.1.trans (hb6.mono HN.out.2.2.1.size)) (hA.2 _ _ (blk_below HN.out.2.2.2.2 hb6))))
    have HY := Lib.hid (And.intro (hA.2 _ _ (blk_below HY0.out.2 hb5)) (show w.heap.size + 1 ≠ bN by omega))
    clear hb5 hb6 hR hA hK
    try simp only [Act.put, List.setIfInBounds_toArray, List.set_cons_succ, List.set_cons_zero]
    (refine x_pure rfl _ ?_ rfl (by simp) ?_ ?_ ; rotate_left ; · (intro w3 K hK ; go_wp2_with fail ; exact rfl))
    try simp only [Act.put, List.setIfInBounds_toArray, List.set_cons_succ, List.set_cons_zero]
    (refine x_pure rfl _ ?_ rfl (by simp) ?_ ?_ ; rotate_left ; · (intro w3 K hK ; go_wp2_with fail ; exact rfl))
    try simp only [Act.put, List.setIfInBounds_toArray, List.set_cons_succ, List.set_cons_zero]
    (refine x_pure rfl _ ?_ rfl (by simp) ?_ ?_ ; rotate_left ; · (intro w3 K hK ; go_wp2_with fail ; exact rfl))
    try simp only [Act.put, List.setIfInBounds_toArray, List.set_cons_succ, List.set_cons_zero]
    refine x_write rfl ?_
    rintro w8 rfl K hK
    refine wp_store_row ansT (.tmp 11) (.tmp 102) rfl bN _ rfl rfl ansT _ HY.out.1 ansInfo rfl (ans1 _ _ _ _ rfl) ?_
    refine hK _ _ ?_
    clear hK
    try simp only [Act.put, List.setIfInBounds_toArray, List.set_cons_succ, List.set_cons_zero]
    (refine x_pure rfl _ ?_ rfl (by simp) ?_ ?_ ; rotate_left ; · (intro w3 K hK ; go_wp2_with fail ; exact rfl))
    try simp only [Act.put, List.setIfInBounds_toArray, List.set_cons_succ, List.set_cons_zero]
    refine x_nil ?_
    rintro _ rfl
    have hu := setRow_heap w8 bN _ (ansL a b (.slice oa n9 c9) S).toArray ansT (0, 0) HY.out.1
    have hk := setRow_keep w8 bN (ansL a b (.slice oa n9 c9) S).toArray
    have hk2 : Keep (fun k => k = w.heap.size + 1 ∨ k = bN) w8 (w8.setRow bN (ansL a b (.slice oa n9 c9) S).toArray) := hk.mono fun k _ e => Or.inr e
    have hp2 : ∀ k, (k = w.heap.size + 1 ∨ k = bN) → w.heap.size ≤ k ∧ ∃ cs, w8.heap[k]? = some (.cells cs ansT (0, 0)) := fun k e => by
      rcases e with rfl | rfl
      · exact ⟨by omega, _, HZ.out.2.2⟩
      · exact ⟨by omega, _, HY.out.1⟩
    have HF := Lib.hid (And.intro hu (And.intro (hk.blk HZ.out.2.2 HY.out.2) (And.intro hk2 hp2)))
    clear hu hk hk2
    generalize w8.setRow bN (ansL a b (.slice oa n9 c9) S).toArray = wf at *
    by_cases hE : E = 0
    · subst hE
      go_wp2_with (first
        | (refine wpList_load_row rfl ansT (.tmp 11) rfl _ rfl ansT _ (0, 0) _ HF.out.1 Tryz.underlying59 rfl ansInfo ?_)
        | (refine wpList_store_row rfl ansT (.tmp 4) (.tmp 108) rfl _ _ rfl rfl ansT _ HF.out.2.1 ansInfo rfl (ans1 _ _ _ _ rfl) ?_)
        | fail)
      refine bodyPost_ret (results_cell_tmp Tryz.results12 _ _ _ ansT _ (0, 0) _ _ rfl (setRow_heap _ _ _ _ _ _ HF.out.2.1) Tryz.underlying59 rfl ansInfo rfl) rfl ⟨oa, n9, c9, _, _, _, rfl, HZ.out.2.1, HZ.out.1, HF.out.2.2.1.trans ((setRow_keep _ _ _).mono fun _ _ e => Or.inl e), HF.out.2.2.2⟩
    · go_wp2_with (first
        | (refine wpList_store_row rfl ansT (.tmp 4) (.tmp 106) rfl _ _ rfl rfl ansT _ HF.out.2.1 ansInfo rfl (ans1 0 0 (.slice none 0 0) (0, 0, 0) rfl) ?_)
        | fail)
      refine bodyPost_ret (v := .tuple #[ansV 0 0 (.slice none 0 0) (0, 0, 0), .int .i64 E]) (results_cell_tmp Tryz.results12 _ _ _ ansT _ (0, 0) _ _ rfl (setRow_heap _ _ _ (ansL 0 0 (.slice none 0 0) (0, 0, 0)).toArray _ _ HF.out.2.1) Tryz.underlying59 rfl ansInfo rfl) rfl ⟨oa, n9, c9, _, _, _, by rw [if_neg hE], HZ.out.2.1, HZ.out.1, HF.out.2.2.1.trans ((setRow_keep _ _ _).mono fun _ _ e => Or.inl e), HF.out.2.2.2⟩
end Go.Proofs.YtdflmplmpjghdaaGreatDoor
namespace Go.Proofs.YtdflmplmpjghdaaGreatDoor
open Go.ChangeShapes Go.WideShapes Go.ChangeAt Go.RowKit Go.Deep Go.Shelf
set_option linter.unusedVariables false
set_option linter.unusedSimpArgs false
set_option maxRecDepth 100000

/-- What stands there. -/
structure LwAt (wb bb pb : Nat) (v : Value) (r0 r1 : NR) (c0 c1 c2 c3 : Int) (clk : Int) (M : Nat) (t : Tr) (pv : Value) (n : Int) (E : List Ent) (w : World) : Prop where
  wat : WAt w wb bb v [r0, r1]
  n0 : NdAt w r0.nb r0.sb r0.db c0 c1 c2 c3
  s0 : StAt w r0.sb r0.tb r0.mb 0 clk M t
  n1 : NdAt w r1.nb r1.sb r1.db c0 c1 c2 c3
  s1 : StAt w r1.sb r1.tb r1.mb 1 0 0 .nil
  ap : NR.apart r0 r1
  pat : PAt w pb pv n E
theorem LwAt.below {wb bb pb : Nat} {v : Value} {r0 r1 : NR} {c0 c1 c2 c3 clk : Int} {M : Nat} {t : Tr} {pv : Value} {n : Int} {E : List Ent} {w w' : World} (h : LwAt wb bb pb v r0 r1 c0 c1 c2 c3 clk M t pv n E w) (hb : Below w.heap.size w w') : LwAt wb bb pb v r0 r1 c0 c1 c2 c3 clk M t pv n E w' :=
  ⟨h.wat.below hb, blk_below h.n0 hb, h.s0.below hb, blk_below h.n1 hb, h.s1.below hb, h.ap, h.pat.below hb⟩
/-- A row's block is none of those. -/
theorem own_off {w : World} {B n size : Nat} {e : TypeId} {v : Value} {xs : List Value} (h : w.ownsRow B e size v n xs) {p : Nat → Prop} (hp : ∀ g, p g → ∃ cs ty fr, w.heap[g]? = some (.cells cs ty fr) ∧ ty ≠ e) : ∀ g, v.ownBlock = some g → ¬ p g := fun g hv hg => by
  obtain ⟨cs, ty, fr, h1, h2⟩ := hp g hg
  exact own_ne h h1 (fun e => h2 e.symm) hv
theorem blk_off {w : World} {b : Nat} {cs : Array Value} {e : TypeId} {fr : Nat × Nat} (h : w.heap[b]? = some (.cells cs e fr)) {p : Nat → Prop} (hp : ∀ g, p g → ∃ cs ty fr, w.heap[g]? = some (.cells cs ty fr) ∧ ty ≠ e) : ¬ p b := fun hg => by
  obtain ⟨cs', ty, fr', h1, h2⟩ := hp b hg
  rw [h] at h1
  simp only [Option.some.injEq, Obj.cells.injEq] at h1
  exact h2 h1.2.1.symm
/-- Blocks of none of these kinds have turned. -/
def Off2 (w : World) (p : Nat → Prop) : Prop := ∀ g, p g → 0 < g ∧ ∃ cs ty fr, w.heap[g]? = some (.cells cs ty fr) ∧ offT ty ∧ ty ≠ worldT ∧ ty ≠ nptT ∧ ty ≠ plainT ∧ ty ≠ entT
theorem StAt.off {w w' : World} {sb tb mb : Nat} {node clk : Int} {M : Nat} {t : Tr} (h : StAt w sb tb mb node clk M t) {p : Nat → Prop} (hk : Keep p w w') (hp : Off2 w p) : StAt w' sb tb mb node clk M t := by
  obtain ⟨q, q1, q2⟩ := h.ob
  have f : ∀ (e : TypeId), (∀ ty, offT ty → ty ≠ e) → ∀ g, p g → ∃ cs ty fr, w.heap[g]? = some (.cells cs ty fr) ∧ ty ≠ e := fun e he g hg => by
    obtain ⟨_, cs, ty, fr, h1, h2, _⟩ := hp g hg
    exact ⟨cs, ty, fr, h1, he ty h2⟩
  exact ⟨hk.blk h.blk (blk_off h.blk (f _ fun ty ho => ho.1)), hk.blk h.mt (blk_off h.mt (f _ fun ty ho => ho.2.1)), ⟨q, hk.blk q1 (blk_off q1 (f _ fun ty ho => ho.2.2.1)), q2.keep hk (fun g cs fr hg => blk_off hg (f _ fun ty ho => ho.2.2.2.1))⟩, h.lanes.keep hk (fun h0 => by have := (hp 0 h0).1; omega)⟩
theorem LwAt.off {wb bb pb : Nat} {v : Value} {r0 r1 : NR} {c0 c1 c2 c3 clk : Int} {M : Nat} {t : Tr} {pv : Value} {n : Int} {E : List Ent} {w w' : World} (h : LwAt wb bb pb v r0 r1 c0 c1 c2 c3 clk M t pv n E w) {p : Nat → Prop} (hk : Keep p w w') (hp : Off2 w p) : LwAt wb bb pb v r0 r1 c0 c1 c2 c3 clk M t pv n E w' := by
  have f : ∀ (e : TypeId), (∀ ty, (offT ty ∧ ty ≠ worldT ∧ ty ≠ nptT ∧ ty ≠ plainT ∧ ty ≠ entT) → ty ≠ e) → ∀ g, p g → ∃ cs ty fr, w.heap[g]? = some (.cells cs ty fr) ∧ ty ≠ e := fun e he g hg => by
    obtain ⟨_, cs, ty, fr, h1, h2⟩ := hp g hg
    exact ⟨cs, ty, fr, h1, he ty h2⟩
  exact ⟨⟨hk.blk h.wat.blk (blk_off h.wat.blk (f _ fun ty ho => ho.2.1)), own_keep h.wat.row hk (own_off h.wat.row (f _ fun ty ho => ho.2.2.1))⟩, hk.blk h.n0 (blk_off h.n0 (f _ fun ty ho => ho.1.2.2.2.2.1)), h.s0.off hk hp, hk.blk h.n1 (blk_off h.n1 (f _ fun ty ho => ho.1.2.2.2.2.1)), h.s1.off hk hp, h.ap,
    ⟨hk.blk h.pat.blk (blk_off h.pat.blk (f _ fun ty ho => ho.2.2.2.1)), own_keep h.pat.row hk (own_off h.pat.row (f _ fun ty ho => ho.2.2.2.2))⟩⟩
/-- Node 0's store has turned. -/
theorem LwAt.move {wb bb pb : Nat} {v : Value} {r0 r1 : NR} {c0 c1 c2 c3 clk clk' : Int} {M M' : Nat} {t t' : Tr} {pv : Value} {n : Int} {E : List Ent} {w w' : World} (h : LwAt wb bb pb v r0 r1 c0 c1 c2 c3 clk M t pv n E w) (hk : Keep (fun g => g = r0.mb ∨ g = r0.tb ∨ g = r0.sb) w w') (hs : StAt w' r0.sb r0.tb r0.mb 0 clk' M' t') : LwAt wb bb pb v r0 r1 c0 c1 c2 c3 clk' M' t' pv n E w' := by
  obtain ⟨q, q1, q2⟩ := h.s0.ob
  obtain ⟨p1, p2, p3⟩ := h.s1.ob
  have f : ∀ (e : TypeId), (storeT ≠ e ∧ 276 ≠ e ∧ 222 ≠ e) → ∀ g, (g = r0.mb ∨ g = r0.tb ∨ g = r0.sb) → ∃ cs ty fr, w.heap[g]? = some (.cells cs ty fr) ∧ ty ≠ e := fun e he g hg => by
    rcases hg with rfl | rfl | rfl
    · exact ⟨_, _, _, h.s0.mt, he.2.1⟩
    · exact ⟨_, _, _, q1, he.2.2⟩
    · exact ⟨_, _, _, h.s0.blk, he.1⟩
  obtain ⟨a1, a2, a3, _⟩ := h.ap
  have z := h.s0.pos
  refine ⟨⟨hk.blk h.wat.blk (blk_off h.wat.blk (f _ (by decide))), own_keep h.wat.row hk (own_off h.wat.row (f _ (by decide)))⟩, hk.blk h.n0 (blk_off h.n0 (f _ (by decide))), hs, hk.blk h.n1 (blk_off h.n1 (f _ (by decide))), ⟨hk.blk h.s1.blk ?_, hk.blk h.s1.mt ?_, ⟨p1, hk.blk p2 ?_, p3.keep hk (fun g cs fr hg => blk_off hg (f _ (by decide)))⟩, h.s1.lanes.keep hk (fun e => by omega)⟩, h.ap,
    ⟨hk.blk h.pat.blk (blk_off h.pat.blk (f _ (by decide))), own_keep h.pat.row hk (own_off h.pat.row (f _ (by decide)))⟩⟩
  · rintro (e | e | e)
    · exact ne_type h.s0.mt (by decide) _ _ _ h.s1.blk e
    · exact ne_type q1 (by decide) _ _ _ h.s1.blk e
    · exact a1 e.symm
  · rintro (e | e | e)
    · exact a3 e.symm
    · exact ne_type q1 (by decide) _ _ _ h.s1.mt e
    · exact ne_type h.s0.blk (by decide) _ _ _ h.s1.mt e
  · rintro (e | e | e)
    · exact ne_type h.s0.mt (by decide) _ _ _ p2 e
    · exact a2 e.symm
    · exact ne_type h.s0.blk (by decide) _ _ _ p2 e
/-- The plain map has turned. -/
theorem LwAt.plain {wb bb pb : Nat} {v : Value} {r0 r1 : NR} {c0 c1 c2 c3 clk : Int} {M : Nat} {t : Tr} {pv pv' : Value} {n n' : Int} {E E' : List Ent} {w w' : World} (h : LwAt wb bb pb v r0 r1 c0 c1 c2 c3 clk M t pv n E w) (hk : Keep (fun g => g = pb) w w') (hp : PAt w' pb pv' n' E') (h0 : 0 < pb) : LwAt wb bb pb v r0 r1 c0 c1 c2 c3 clk M t pv' n' E' w' := by
  obtain ⟨q, q1, q2⟩ := h.s0.ob
  obtain ⟨p1, p2, p3⟩ := h.s1.ob
  have g := h.pat.blk
  have f : ∀ (e : TypeId), plainT ≠ e → ∀ x, x = pb → ∃ cs ty fr, w.heap[x]? = some (.cells cs ty fr) ∧ ty ≠ e := fun e he x hx => by subst hx; exact ⟨_, _, _, g, he⟩
  exact ⟨⟨hk.blk h.wat.blk (blk_off h.wat.blk (f _ (by decide))), own_keep h.wat.row hk (own_off h.wat.row (f _ (by decide)))⟩, hk.blk h.n0 (blk_off h.n0 (f _ (by decide))), h.s0.side g (by decide) (by decide) (by decide) (by decide) (by omega) hk, hk.blk h.n1 (blk_off h.n1 (f _ (by decide))), h.s1.side g (by decide) (by decide) (by decide) (by decide) (by omega) hk, h.ap, hp⟩
/-- The two are linked. -/
structure Link (clk n : Int) (t : Tr) (E : List Ent) : Prop where
  clk : clk = n
  hol : Holds t E
  sok : Sok t
  key : ∀ e ∈ E, e.1.size ≤ 16
theorem Link.errs {clk n : Int} {t : Tr} {E : List Ent} (h : Link clk n t E) (k v : ByteArray) : errW t k v = errL E k v := by
  have e1 : fullT k t = (!isE k E && decide (256 ≤ E.length)) := by
    unfold fullT
    rw [get_isSome h.hol h.sok.ris, h.hol.size]
  unfold errW errL
  rw [e1]
theorem mem_writeE {e x : Ent} {L : List Ent} (h : x ∈ writeE e L) : x = e ∨ x ∈ L := by
  unfold writeE at h
  rcases List.mem_append.1 h with h | h
  · exact Or.inr (List.mem_of_mem_take h)
  · rcases List.mem_cons.1 h with h | h
    · exact Or.inl h
    · exact Or.inr (List.mem_of_mem_drop h)
theorem Link.put {clk n : Int} {t : Tr} {E : List Ent} (h : Link clk n t E) (k v : ByteArray) (d : Bool) (he : errW t k v = 0) : Link (clk + 1) (n + 1) (putT k (k, clk + 1, 0, v, d) (tallyE k (clk + 1) 0) t) (writeE (k, n + 1, 0, v, d) E) := by
  have hc := h.clk
  subst hc
  have hk : k.size ≤ 16 := by
    unfold errW at he
    by_cases hh : 16 < k.size
    · rw [if_pos hh] at he; cases he
    · omega
  exact ⟨rfl, h.hol.put h.sok.ris (k, clk + 1, 0, v, d), (h.sok.put (errW_full he) (k, clk + 1, 0, v, d) (clk + 1) 0).1, fun e hm => by
    rcases mem_writeE hm with rfl | hm
    · exact hk
    · exact h.key e hm⟩
end Go.Proofs.YtdflmplmpjghdaaGreatDoor
namespace Go.Proofs.YtdflmplmpjghdaaGreatDoor
open Go.ChangeShapes Go.WideShapes Go.ChangeAt Go.RowKit Go.Deep Go.Shelf
set_option linter.unusedVariables false
set_option linter.unusedSimpArgs false
set_option maxRecDepth 100000

abbrev Kmts (r : NR) : Nat → Prop := fun g => g = r.mb ∨ g = r.tb ∨ g = r.sb
theorem off_ans {w : World} {p : Nat → Prop} (h0 : 0 < w.heap.size) {w2 : World} (hp : ∀ k, p k → w.heap.size ≤ k ∧ ∃ cs, w2.heap[k]? = some (.cells cs ansT (0, 0))) : Off2 w2 p := fun g hg => by
  obtain ⟨h1, cs, h2⟩ := hp g hg
  exact ⟨by omega, cs, ansT, (0, 0), h2, by unfold offT; decide, by decide, by decide, by decide, by decide⟩
theorem StAt.akeep {w w' : World} {sb tb mb : Nat} {node clk : Int} {M : Nat} {t : Tr} (h : StAt w sb tb mb node clk M t) (hk : Keep (fun g => g = mb ∨ g = tb ∨ g = sb) w w') : AKeep w w' :=
  AKeep.of_keep hk fun g cs hg => h.not hg (by decide) (by decide) (by decide)
theorem Sok.high19 {t : Tr} (h : Sok t) : t.high ≤ 19 := by
  have h1 := h.high
  have h2 := h.lg9
  omega
/-- What a write's Do leaves. -/
def DwOf (w : World) (wb bb pb : Nat) (v : Value) (r0 r1 : NR) (c0 c1 c2 c3 clk : Int) (M : Nat) (t : Tr) (pv : Value) (n : Int) (E : List Ent) (k val : ByteArray) (d : Bool) (x : Ending) (w' : World) : Prop :=
  x = .returned (.tuple #[ansV (if errW t k val = 0 then clk + 1 else 0) 0 (.slice none 0 0) (0, 0, 0), .int .i64 (errW t k val)]) ∧ ∃ M', M' ≤ M + 200 ∧ LwAt wb bb pb v r0 r1 c0 c1 c2 c3 (if errW t k val = 0 then clk + 1 else clk) M' (if errW t k val = 0 then putT k (k, clk + 1, 0, val, d) (tallyE k (clk + 1) 0) t else t) pv n E w' ∧ Keep (Kmts r0) w w'
set_option maxHeartbeats 4000000 in
theorem dput_any (wb bb pb : Nat) (v : Value) (r0 r1 : NR) (c0 c1 c2 c3 clk : Int) (M : Nat) (t : Tr) (pv : Value) (n : Int) (E : List Ent) (pr nn : Int) (key val lo hi : ByteArray) (op : Bool) (w : World) (h : LwAt wb bb pb v r0 r1 c0 c1 c2 c3 clk M t pv n E w) (hl : Link clk n t E) (hc : 0 ≤ clk ∧ clk ≤ 1000000) (hM : M ≤ 1000000000) (hk : key.size ≤ 140737488351232) (hv : val.size ≤ 140737488351232) :
    Calls Tryz.prog 12 #[.pointer (some ⟨wb, 0, none⟩), opA 1 (0 : Nat) pr nn key val lo hi op] w (DwOf w wb bb pb v r0 r1 c0 c1 c2 c3 clk M t pv n E key val false) := by
  have hh := hl.sok.high19
  have hsz := hl.sok.size
  have h00 := h.s0.lanes.lt
  by_cases he : errW t key val = 0
  · refine (do_any wb bb v [r0, r1] 0 (by simp) 1 pr nn key val lo hi op (clk + 1) 0 (0, 0, 0) 0 (fun oa n' c' w1 w2 => oa = none ∧ n' = 0 ∧ c' = 0 ∧ ∃ m, m ≤ 6 * t.high + 2 ∧ StAt w2 r0.sb r0.tb r0.mb 0 (clk + 1) (M + m) (putT key (key, clk + 1, 0, val, false) (tallyE key (clk + 1) 0) t) ∧ Keep (Kmts r0) w1 w2) w h.wat (by omega) (by omega) ?_).mono ?_
    · intro w1 hb1
      have h1 := h.below hb1
      refine (act_put wb r0.nb r0.sb r0.tb r0.mb 0 clk (clk + 1) M (6 * t.high + 2) t (putT key (key, clk + 1, 0, val, false) (tallyE key (clk + 1) 0) t) (0 : Nat) pr nn key val lo hi op (clk + 1) 0 0 w1 ?_ h1.s0).mono ?_
      · intro w2 hb2
        have h2 := h1.below hb2
        exact nput_any r0.nb r0.db r0.sb r0.tb r0.mb c0 c1 c2 c3 0 clk (clk + 1) M (6 * t.high + 2) t _ key val (clk + 1) 0 0 w2 (fun w3 h3 => (sput_ok r0.sb r0.tb r0.mb 0 clk M t key val w3 h3 (by omega) hk hv (by omega) hc.1 (by omega) (by omega) (by omega) he).mono SWr.of_ok) h2.n0 h2.s0
      · rintro x w2 ⟨rfl, m, hm, hs, hkk⟩
        exact ⟨none, 0, 0, rfl, ⟨rfl, rfl, rfl, m, hm, hs, hkk⟩, h1.s0.akeep hkk⟩
    · rintro x w' ⟨oa, n', c', w1, w2, p, rfl, hb, ⟨rfl, rfl, rfl, m, hm, hs, hkk⟩, hkp, hp⟩
      refine ⟨by rw [he]; rfl, M + m, by omega, ?_, ((Keep.of_below hb).trans hkk).transNew hkp (fun k hk => (hp k hk).1)⟩
      rw [if_pos he, if_pos he]
      exact ((h.below hb).move hkk hs).off hkp (off_ans h00 hp)
  · refine (do_any wb bb v [r0, r1] 0 (by simp) 1 pr nn key val lo hi op 0 0 (0, 0, 0) (errW t key val) (fun oa n' c' w1 w2 => oa = none ∧ n' = 0 ∧ c' = 0 ∧ ∃ m, m ≤ 0 ∧ StAt w2 r0.sb r0.tb r0.mb 0 clk (M + m) t ∧ Keep (Kmts r0) w1 w2) w h.wat (by omega) (by omega) ?_).mono ?_
    · intro w1 hb1
      have h1 := h.below hb1
      refine (act_put wb r0.nb r0.sb r0.tb r0.mb 0 clk clk M 0 t t (0 : Nat) pr nn key val lo hi op 0 0 (errW t key val) w1 ?_ h1.s0).mono ?_
      · intro w2 hb2
        have h2 := h1.below hb2
        exact nput_any r0.nb r0.db r0.sb r0.tb r0.mb c0 c1 c2 c3 0 clk clk M 0 t t key val 0 0 (errW t key val) w2 (fun w3 h3 => (sput_bad r0.sb r0.tb r0.mb 0 clk M t key val w3 h3 (by omega) hk hv he).mono (SWr.of_bad h3)) h2.n0 h2.s0
      · rintro x w2 ⟨rfl, m, hm, hs, hkk⟩
        exact ⟨none, 0, 0, rfl, ⟨rfl, rfl, rfl, m, hm, hs, hkk⟩, h1.s0.akeep hkk⟩
    · rintro x w' ⟨oa, n', c', w1, w2, p, rfl, hb, ⟨rfl, rfl, rfl, m, hm, hs, hkk⟩, hkp, hp⟩
      refine ⟨by rw [if_neg he, if_neg he], M + m, by omega, ?_, ((Keep.of_below hb).trans hkk).transNew hkp (fun k hk => (hp k hk).1)⟩
      rw [if_neg he, if_neg he]
      exact ((h.below hb).move hkk hs).off hkp (off_ans h00 hp)
set_option maxHeartbeats 4000000 in
theorem ddel_any (wb bb pb : Nat) (v : Value) (r0 r1 : NR) (c0 c1 c2 c3 clk : Int) (M : Nat) (t : Tr) (pv : Value) (n : Int) (E : List Ent) (pr nn : Int) (key val lo hi : ByteArray) (op : Bool) (w : World) (h : LwAt wb bb pb v r0 r1 c0 c1 c2 c3 clk M t pv n E w) (hl : Link clk n t E) (hc : 0 ≤ clk ∧ clk ≤ 1000000) (hM : M ≤ 1000000000) (hk : key.size ≤ 140737488351232) (hv : val.size ≤ 140737488351232) :
    Calls Tryz.prog 12 #[.pointer (some ⟨wb, 0, none⟩), opA 2 (0 : Nat) pr nn key val lo hi op] w (DwOf w wb bb pb v r0 r1 c0 c1 c2 c3 clk M t pv n E key ⟨#[]⟩ true) := by
  have hh := hl.sok.high19
  have hsz := hl.sok.size
  have h00 := h.s0.lanes.lt
  by_cases he : errW t key ⟨#[]⟩ = 0
  · refine (do_any wb bb v [r0, r1] 0 (by simp) 2 pr nn key val lo hi op (clk + 1) 0 (0, 0, 0) 0 (fun oa n' c' w1 w2 => oa = none ∧ n' = 0 ∧ c' = 0 ∧ ∃ m, m ≤ 6 * t.high + 2 ∧ StAt w2 r0.sb r0.tb r0.mb 0 (clk + 1) (M + m) (putT key (key, clk + 1, 0, ⟨#[]⟩, true) (tallyE key (clk + 1) 0) t) ∧ Keep (Kmts r0) w1 w2) w h.wat (by omega) (by omega) ?_).mono ?_
    · intro w1 hb1
      have h1 := h.below hb1
      refine (act_del wb r0.nb r0.sb r0.tb r0.mb 0 clk (clk + 1) M (6 * t.high + 2) t (putT key (key, clk + 1, 0, ⟨#[]⟩, true) (tallyE key (clk + 1) 0) t) (0 : Nat) pr nn key val lo hi op (clk + 1) 0 0 w1 ?_ h1.s0).mono ?_
      · intro w2 hb2
        have h2 := h1.below hb2
        exact ndel_any r0.nb r0.db r0.sb r0.tb r0.mb c0 c1 c2 c3 0 clk (clk + 1) M (6 * t.high + 2) t _ key (clk + 1) 0 0 w2 (fun w3 h3 => (sdel_ok r0.sb r0.tb r0.mb 0 clk M t key w3 h3 (by omega) hk (by omega) hc.1 (by omega) (by omega) (by omega) he).mono SWr.of_ok) h2.n0 h2.s0
      · rintro x w2 ⟨rfl, m, hm, hs, hkk⟩
        exact ⟨none, 0, 0, rfl, ⟨rfl, rfl, rfl, m, hm, hs, hkk⟩, h1.s0.akeep hkk⟩
    · rintro x w' ⟨oa, n', c', w1, w2, p, rfl, hb, ⟨rfl, rfl, rfl, m, hm, hs, hkk⟩, hkp, hp⟩
      refine ⟨by rw [he]; rfl, M + m, by omega, ?_, ((Keep.of_below hb).trans hkk).transNew hkp (fun k hk => (hp k hk).1)⟩
      rw [if_pos he, if_pos he]
      exact ((h.below hb).move hkk hs).off hkp (off_ans h00 hp)
  · refine (do_any wb bb v [r0, r1] 0 (by simp) 2 pr nn key val lo hi op 0 0 (0, 0, 0) (errW t key ⟨#[]⟩) (fun oa n' c' w1 w2 => oa = none ∧ n' = 0 ∧ c' = 0 ∧ ∃ m, m ≤ 0 ∧ StAt w2 r0.sb r0.tb r0.mb 0 clk (M + m) t ∧ Keep (Kmts r0) w1 w2) w h.wat (by omega) (by omega) ?_).mono ?_
    · intro w1 hb1
      have h1 := h.below hb1
      refine (act_del wb r0.nb r0.sb r0.tb r0.mb 0 clk clk M 0 t t (0 : Nat) pr nn key val lo hi op 0 0 (errW t key ⟨#[]⟩) w1 ?_ h1.s0).mono ?_
      · intro w2 hb2
        have h2 := h1.below hb2
        exact ndel_any r0.nb r0.db r0.sb r0.tb r0.mb c0 c1 c2 c3 0 clk clk M 0 t t key 0 0 (errW t key ⟨#[]⟩) w2 (fun w3 h3 => (sdel_bad r0.sb r0.tb r0.mb 0 clk M t key w3 h3 (by omega) hk he).mono (SWr.of_bad h3)) h2.n0 h2.s0
      · rintro x w2 ⟨rfl, m, hm, hs, hkk⟩
        exact ⟨none, 0, 0, rfl, ⟨rfl, rfl, rfl, m, hm, hs, hkk⟩, h1.s0.akeep hkk⟩
    · rintro x w' ⟨oa, n', c', w1, w2, p, rfl, hb, ⟨rfl, rfl, rfl, m, hm, hs, hkk⟩, hkp, hp⟩
      refine ⟨by rw [if_neg he, if_neg he], M + m, by omega, ?_, ((Keep.of_below hb).trans hkk).transNew hkp (fun k hk => (hp k hk).1)⟩
      rw [if_neg he, if_neg he]
      exact ((h.below hb).move hkk hs).off hkp (off_ans h00 hp)
/-- Is it a range? -/
def errR (lo hi : ByteArray) (op : Bool) : Int := if lo.size > 16 ∨ hi.size > 16 then 20 else if rgOk lo hi op then 0 else 21
theorem errR_ok {lo hi : ByteArray} {op : Bool} (h : errR lo hi op = 0) : lo.size ≤ 16 ∧ hi.size ≤ 16 ∧ rgOk lo hi op = true := by
  unfold errR at h
  by_cases h1 : lo.size > 16 ∨ hi.size > 16
  · rw [if_pos h1] at h; cases h
  · rw [if_neg h1] at h
    refine ⟨by omega, by omega, ?_⟩
    by_cases h2 : rgOk lo hi op = true
    · exact h2
    · rw [if_neg h2] at h; cases h
/-- What a fold's Do leaves. -/
def DfOf (w : World) (wb bb pb : Nat) (v : Value) (r0 r1 : NR) (c0 c1 c2 c3 clk : Int) (M : Nat) (t : Tr) (pv : Value) (n : Int) (E : List Ent) (S : T3) (c : Int) (x : Ending) (w' : World) : Prop :=
  x = .returned (.tuple #[ansV 0 0 (.slice none 0 0) S, .int .i64 c]) ∧ ∃ M', M' ≤ M + 200 ∧ LwAt wb bb pb v r0 r1 c0 c1 c2 c3 clk M' t pv n E w' ∧ Keep (Kmts r0) w w'
set_option maxHeartbeats 4000000 in
theorem dfold_any (wb bb pb : Nat) (v : Value) (r0 r1 : NR) (c0 c1 c2 c3 clk : Int) (M : Nat) (t : Tr) (pv : Value) (n : Int) (E : List Ent) (pr nn : Int) (key val lo hi : ByteArray) (op : Bool) (w : World) (h : LwAt wb bb pb v r0 r1 c0 c1 c2 c3 clk M t pv n E w) (hl : Link clk n t E) (hM : M ≤ 1000000000) (h1 : lo.size ≤ 140737488351232) (h2 : hi.size ≤ 140737488351232) :
    Calls Tryz.prog 12 #[.pointer (some ⟨wb, 0, none⟩), opA 5 (0 : Nat) pr nn key val lo hi op] w (DfOf w wb bb pb v r0 r1 c0 c1 c2 c3 clk M t pv n E (if errR lo hi op = 0 then sumE (inE lo hi op true E) else (0, 0, 0)) (errR lo hi op)) := by
  have hh := hl.sok.high19
  have hsz := hl.sok.size
  have h00 := h.s0.lanes.lt
  obtain ⟨S, hS⟩ : ∃ S, S = (if errR lo hi op = 0 then sumE (inE lo hi op true E) else (0, 0, 0)) := ⟨_, rfl⟩
  rw [← hS]
  have hF : ∀ w3 : World, StAt w3 r0.sb r0.tb r0.mb 0 clk M t → Calls Tryz.prog 101 #[.pointer (some ⟨r0.sb, 0, none⟩), rgV lo hi op] w3 (SFr w3 r0.sb r0.tb r0.mb 0 clk M t S (errR lo hi op)) := fun w3 h3 => by
    by_cases he : errR lo hi op = 0
    · obtain ⟨e1, e2, e3⟩ := errR_ok he
      rw [hS, if_pos he, he]
      refine (sfold_any r0.sb r0.tb r0.mb 0 clk M t lo hi op w3 h3 (by omega) hl.sok.oks (by omega) (by omega) e1 e2 e3).mono ?_
      rintro x w' ⟨rfl, hx⟩
      rw [fold_holds hl.hol hl.sok.ris hl.sok.oks e3]
      exact ⟨rfl, hx⟩
    · rw [hS, if_neg he]
      refine (sfold_bad r0.sb r0.tb r0.mb lo hi op w3 (errR lo hi op) he (fun w4 => check_any lo hi op w4 h1 h2)).mono ?_
      rintro x w' ⟨rfl, hb⟩
      exact ⟨rfl, 0, Nat.zero_le _, h3.below hb, Keep.of_below hb⟩
  refine (do_any wb bb v [r0, r1] 0 (by simp) 5 pr nn key val lo hi op 0 0 S (errR lo hi op) (fun oa n' c' w1 w2 => oa = none ∧ n' = 0 ∧ c' = 0 ∧ ∃ m, m ≤ 4 * t.high ∧ StAt w2 r0.sb r0.tb r0.mb 0 clk (M + m) t ∧ Keep (Kmts r0) w1 w2) w h.wat (by omega) (by omega) ?_).mono ?_
  · intro w1 hb1
    have h1 := h.below hb1
    refine (act_fold wb r0.nb r0.sb r0.tb r0.mb 0 clk M t (0 : Nat) pr nn key val lo hi op S (errR lo hi op) w1 ?_ h1.s0).mono ?_
    · intro w2 hb2
      have h2 := h1.below hb2
      exact nfold_any r0.nb r0.db r0.sb r0.tb r0.mb c0 c1 c2 c3 0 clk M t lo hi op S (errR lo hi op) w2 hF h2.n0 h2.s0
    · rintro x w2 ⟨rfl, m, hm, hs, hkk⟩
      have hk3 : Keep (Kmts r0) w1 w2 := hkk.mono fun _ _ e => Or.inl e
      exact ⟨none, 0, 0, rfl, ⟨rfl, rfl, rfl, m, hm, hs, hk3⟩, h1.s0.akeep hk3⟩
  · rintro x w' ⟨oa, n', c', w1, w2, p, rfl, hb, ⟨rfl, rfl, rfl, m, hm, hs, hkk⟩, hkp, hp⟩
    refine ⟨?_, M + m, by omega, ((h.below hb).move hkk hs).off hkp (off_ans h00 hp), ((Keep.of_below hb).trans hkk).transNew hkp (fun k hk => (hp k hk).1)⟩
    by_cases he : errR lo hi op = 0
    · rw [if_pos he]
    · rw [if_neg he, hS, if_neg he]
/-- What Do leaves that answers entries. -/
def DeOf (w : World) (wb bb pb : Nat) (v : Value) (r0 r1 : NR) (c0 c1 c2 c3 clk : Int) (M : Nat) (t : Tr) (pv : Value) (n : Int) (E : List Ent) (L : List Ent) (c : Int) (x : Ending) (w' : World) : Prop :=
  ∃ ve, x = .returned (.tuple #[ansV 0 0 ve (0, 0, 0), .int .i64 c]) ∧ Es w' w.heap.size ve L ∧ LwAt wb bb pb v r0 r1 c0 c1 c2 c3 clk M t pv n E w' ∧ Below w.heap.size w w'
theorem de_of {w : World} {wb bb pb : Nat} {v : Value} {r0 r1 : NR} {c0 c1 c2 c3 clk : Int} {M : Nat} {t : Tr} {pv : Value} {n : Int} {E : List Ent} {L : List Ent} {c : Int} (h : LwAt wb bb pb v r0 r1 c0 c1 c2 c3 clk M t pv n E w) (hL : c ≠ 0 → L = []) : ∀ x w', DoOf w 0 0 (0, 0, 0) c (fun oa n' c' w1 w2 => Es w2 w1.heap.size (.slice oa n' c') L ∧ Below w1.heap.size w1 w2) x w' → DeOf w wb bb pb v r0 r1 c0 c1 c2 c3 clk M t pv n E L c x w' := by
  rintro x w' ⟨oa, n', c', w1, w2, p, rfl, hb, ⟨ho, hb2⟩, hkp, hp⟩
  have h00 := h.s0.lanes.lt
  have hb3 := hb.trans (hb2.mono hb.size)
  have hbf : Below w.heap.size w w' := hb3.trans (hkp.below hb3.size fun k hk => (hp k hk).1)
  have hlw := (h.below hb3).off hkp (off_ans h00 hp)
  by_cases hc : c = 0
  · rw [if_pos hc]
    exact ⟨_, rfl, own_mono (own_keep ho hkp (own_off ho (fun g hg => by obtain ⟨_, cs, h2⟩ := hp g hg; exact ⟨cs, ansT, (0, 0), h2, by decide⟩))) hb.size, hlw, hbf⟩
  · rw [if_neg hc, hL hc]
    exact ⟨_, rfl, own_nil _ _, hlw, hbf⟩
theorem ae_act {w1 : World} {L : List Ent} {c : Int} : ∀ x w2, AEr w1 L c x w2 → ∃ oa n' c', x = .returned (.tuple #[ansV 0 0 (.slice oa n' c') (0, 0, 0), .int .i64 c]) ∧ (Es w2 w1.heap.size (.slice oa n' c') L ∧ Below w1.heap.size w1 w2) ∧ AKeep w1 w2 := by
  rintro x w2 ⟨ve, rfl, ho, hb⟩
  rcases ho.2 with ⟨rfl, _⟩ | ⟨g, cap, cur, rfl, _⟩
  · exact ⟨_, _, _, rfl, ⟨ho, hb⟩, AKeep.of_below hb⟩
  · exact ⟨_, _, _, rfl, ⟨ho, hb⟩, AKeep.of_below hb⟩
set_option maxHeartbeats 4000000 in
theorem dget_any (wb bb pb : Nat) (v : Value) (r0 r1 : NR) (c0 c1 c2 c3 clk : Int) (M : Nat) (t : Tr) (pv : Value) (n : Int) (E : List Ent) (pr nn : Int) (key val lo hi : ByteArray) (op : Bool) (w : World) (h : LwAt wb bb pb v r0 r1 c0 c1 c2 c3 clk M t pv n E w) (hl : Link clk n t E) (hk : key.size ≤ 140737488351232) :
    Calls Tryz.prog 12 #[.pointer (some ⟨wb, 0, none⟩), opA 3 (0 : Nat) pr nn key val lo hi op] w (DeOf w wb bb pb v r0 r1 c0 c1 c2 c3 clk M t pv n E (if 16 < key.size then [] else (getT key t).toList) (if 16 < key.size then 20 else 0)) := by
  refine (do_any wb bb v [r0, r1] 0 (by simp) 3 pr nn key val lo hi op 0 0 (0, 0, 0) (if 16 < key.size then 20 else 0) (fun oa n' c' w1 w2 => Es w2 w1.heap.size (.slice oa n' c') (if 16 < key.size then [] else (getT key t).toList) ∧ Below w1.heap.size w1 w2) w h.wat (by omega) (by omega) ?_).mono (de_of h (fun hc => by
    by_cases hh : 16 < key.size
    · rw [if_pos hh]
    · rw [if_neg hh] at hc; exact absurd rfl hc))
  intro w1 hb1
  have h1 := h.below hb1
  refine (act_get wb r0.nb t (0 : Nat) pr nn key val lo hi op w1 ?_).mono ae_act
  intro w2 hb2
  have h2 := h1.below hb2
  exact nget_any r0.nb r0.db r0.sb r0.tb r0.mb c0 c1 c2 c3 0 clk M t key w2 hk h2.n0 h2.s0
set_option maxHeartbeats 4000000 in
theorem dscan_any (wb bb pb : Nat) (v : Value) (r0 r1 : NR) (c0 c1 c2 c3 clk : Int) (M : Nat) (t : Tr) (pv : Value) (n : Int) (E : List Ent) (pr nn : Int) (key val lo hi : ByteArray) (op : Bool) (w : World) (h : LwAt wb bb pb v r0 r1 c0 c1 c2 c3 clk M t pv n E w) (hl : Link clk n t E) (h1 : lo.size ≤ 140737488351232) (h2 : hi.size ≤ 140737488351232) :
    Calls Tryz.prog 12 #[.pointer (some ⟨wb, 0, none⟩), opA 4 (0 : Nat) pr nn key val lo hi op] w (DeOf w wb bb pb v r0 r1 c0 c1 c2 c3 clk M t pv n E (if errR lo hi op = 0 then inE lo hi op false E else []) (errR lo hi op)) := by
  have hsz := hl.sok.size
  refine (do_any wb bb v [r0, r1] 0 (by simp) 4 pr nn key val lo hi op 0 0 (0, 0, 0) (errR lo hi op) (fun oa n' c' w1 w2 => Es w2 w1.heap.size (.slice oa n' c') (if errR lo hi op = 0 then inE lo hi op false E else []) ∧ Below w1.heap.size w1 w2) w h.wat (by omega) (by omega) ?_).mono (de_of h (fun hc => if_neg hc))
  intro w1 hb1
  have h1' := h.below hb1
  by_cases he : errR lo hi op = 0
  · obtain ⟨e1, e2, e3⟩ := errR_ok he
    have hlen : (inE lo hi op false E).length ≤ 1000000 := Nat.le_trans (inE_len _ _ _ _ _) (by rw [← hl.hol.size]; omega)
    rw [if_pos he, he]
    refine (act_scan wb r0.nb t (0 : Nat) pr nn key val lo hi op (inE lo hi op false E) hlen (by omega) (live_holds hl.hol hl.sok.ris e3) w1 ?_).mono ae_act
    intro w2 hb2
    have h2' := h1'.below hb2
    exact nscan_any r0.nb r0.db r0.sb r0.tb r0.mb c0 c1 c2 c3 0 clk M t lo hi op w2 (by omega) (fun w4 => by
      have := check_any lo hi op w4 h1 h2
      rw [show (if lo.size > 16 ∨ hi.size > 16 then (20 : Int) else if rgOk lo hi op then 0 else 21) = 0 from he] at this
      exact this) h2'.n0 h2'.s0
  · rw [if_neg he]
    refine (act_scan_bad wb r0.nb (0 : Nat) pr nn key val lo hi op (errR lo hi op) he w1 ?_).mono ae_act
    intro w2 hb2
    have h2' := h1'.below hb2
    exact nscan_bad r0.nb r0.db r0.sb r0.tb r0.mb c0 c1 c2 c3 0 clk M t lo hi op w2 (errR lo hi op) he (fun w4 => check_any lo hi op w4 h1 h2) h2'.n0 h2'.s0
end Go.Proofs.YtdflmplmpjghdaaGreatDoor
