/-
  The world's act, at one node: Put, Delete, Get, Scan, Fold.
-/
import Derived.Test.YtdflmplmpjghdaaGreatDoorQnod
import Derived.Test.YtdflmplmpjghdaaGreatDoorQnod
import Derived.Test.YtdflmplmpjghdaaGreatDoorPlain
import Derived.Test.YtdflmplmpjghdaaGreatDoorQnew
namespace Go.Proofs.YtdflmplmpjghdaaGreatDoor
open Go.ChangeShapes Go.WideShapes Go.ChangeAt Go.RowKit Go.Deep Go.Shelf
set_option linter.unusedVariables false
set_option linter.unusedSimpArgs false
set_option maxRecDepth 100000
attribute [local go_sem] Oper.semAt_some

/-! ### Blocks of many cells -/
/-- One cell after the other is written. -/
def setL (w : World) (b o : Nat) : List Value → World
  | [] => w
  | v :: l => setL (w.setCell ⟨b, o, none⟩ v) b (o + 1) l
theorem setL_keep (b : Nat) : ∀ (l : List Value) (o : Nat) (w : World), Keep (fun k => k = b) w (setL w b o l)
  | [], o, w => Keep.refl _ _
  | v :: l, o, w => (Keep.set w ⟨b, o, none⟩ v).trans (setL_keep b l (o + 1) _)
theorem setL_any (b : Nat) (t : TypeId) (fr : Nat × Nat) : ∀ (l p q : List Value) (w : World), q.length = l.length → w.heap[b]? = some (.cells (p ++ q).toArray t fr) → (setL w b p.length l).heap[b]? = some (.cells (p ++ l).toArray t fr)
  | [], p, q, w, hq, h => by
    have : q = [] := List.eq_nil_of_length_eq_zero (by simpa using hq)
    subst this
    exact h
  | v :: l, p, x :: q, w, hq, h => by
    have h1 := heap_set h p.length v
    have e : (p ++ x :: q).toArray.setIfInBounds p.length v = ((p ++ [v]) ++ q).toArray := by
      apply Array.toList_inj.1
      simp
    rw [e] at h1
    have := setL_any b t fr l (p ++ [v]) q _ (by simpa using hq) h1
    simp only [List.length_append, List.length_cons, List.length_nil] at this
    simpa [setL] using this
  | v :: l, p, [], w, hq, h => by simp at hq
theorem setL_heap {w : World} {b : Nat} {t : TypeId} {fr : Nat × Nat} {q : List Value} (l : List Value) (h : w.heap[b]? = some (.cells q.toArray t fr)) (hq : q.length = l.length) : (setL w b 0 l).heap[b]? = some (.cells l.toArray t fr) := setL_any b t fr l [] q w hq h
theorem alloc2 (w : World) (A B : Obj) : Below w.heap.size w ((w.alloc A).alloc B) ∧ ((w.alloc A).alloc B).heap[w.heap.size]? = some A ∧ ((w.alloc A).alloc B).heap[w.heap.size + 1]? = some B := by
  refine ⟨?_, ?_, ?_⟩
  · exact (below_alloc_self w A).trans ((below_alloc_self _ B).mono (by simp))
  · exact heap_old (heap_new rfl)
  · exact heap_new (by simp)
theorem setCell_same {w : World} {b o : Nat} {cs : Array Value} {t : TypeId} {fr : Nat × Nat} {v : Value} (h : w.heap[b]? = some (.cells cs t fr)) (hv : cs[o]? = some v) : w.setCell ⟨b, o, none⟩ v = w := by
  have hh : (w.setCell ⟨b, o, none⟩ v).heap = w.heap := by
    apply Array.ext_getElem?
    intro i
    by_cases e : i = b
    · subst e
      rw [heap_set h, h]
      congr 2
      apply Array.ext_getElem?
      intro j
      by_cases ej : j = o
      · subst ej
        rw [Array.getElem?_setIfInBounds_self]
        obtain ⟨h1, h2⟩ := Array.getElem?_eq_some_iff.1 hv
        rw [if_pos h1, hv]
      · rw [Array.getElem?_setIfInBounds_ne (Ne.symm ej)]
    · exact Below.heap_setCell w ⟨b, o, none⟩ v i e
  unfold World.setCell at hh ⊢
  simp only at hh
  rw [hh]
/-- An answer: a version, entries, a tally. -/
abbrev ansT : TypeId := 59
abbrev ansL (a b : Int) (ve : Value) (S : T3) : List Value := [Value.int .i64 a, Value.int .i64 b, ve, Value.int .i64 S.1, Value.int .u64 S.2.1, Value.int .u64 S.2.2, Value.int .i64 0, Value.int .i64 0, Value.int .i64 0, Value.int .i64 0, Value.int .i64 0, Value.slice none 0 0, Value.int .i64 0, Value.int .i64 0, Value.int .i64 0, Value.int .i64 0, Value.int .i64 0, Value.int .i64 0, Value.int .i64 0, Value.int .i64 0, Value.int .i64 0, Value.int .i64 0, Value.slice none 0 0]
abbrev ansV (a b : Int) (ve : Value) (S : T3) : Value := .agg (ansL a b ve S).toArray
abbrev ansO (a b : Int) (ve : Value) (S : T3) : Obj := .cells (ansL a b ve S).toArray ansT (0, 0)
theorem blk23 {w : World} {b : Nat} {x0 x1 x2 x3 x4 x5 x6 x7 x8 x9 x10 x11 x12 x13 x14 x15 x16 x17 x18 x19 x20 x21 x22 : Value} {t : TypeId} (h : w.heap[b]? = some (.cells #[x0, x1, x2, x3, x4, x5, x6, x7, x8, x9, x10, x11, x12, x13, x14, x15, x16, x17, x18, x19, x20, x21, x22] t (0, 0))) :
    w.cell? ⟨b, 0, none⟩ = some x0 ∧ w.cell? ⟨b, 1, none⟩ = some x1 ∧ w.cell? ⟨b, 2, none⟩ = some x2 ∧ w.cell? ⟨b, 3, none⟩ = some x3 ∧ w.cell? ⟨b, 4, none⟩ = some x4 ∧ w.cell? ⟨b, 5, none⟩ = some x5 ∧ w.cell? ⟨b, 6, none⟩ = some x6 ∧ w.cell? ⟨b, 7, none⟩ = some x7 ∧ w.cell? ⟨b, 8, none⟩ = some x8 ∧ w.cell? ⟨b, 9, none⟩ = some x9 ∧ w.cell? ⟨b, 10, none⟩ = some x10 ∧ w.cell? ⟨b, 11, none⟩ = some x11 ∧ w.cell? ⟨b, 12, none⟩ = some x12 ∧ w.cell? ⟨b, 13, none⟩ = some x13 ∧ w.cell? ⟨b, 14, none⟩ = some x14 ∧ w.cell? ⟨b, 15, none⟩ = some x15 ∧ w.cell? ⟨b, 16, none⟩ = some x16 ∧ w.cell? ⟨b, 17, none⟩ = some x17 ∧ w.cell? ⟨b, 18, none⟩ = some x18 ∧ w.cell? ⟨b, 19, none⟩ = some x19 ∧ w.cell? ⟨b, 20, none⟩ = some x20 ∧ w.cell? ⟨b, 21, none⟩ = some x21 ∧ w.cell? ⟨b, 22, none⟩ = some x22 ∧ b < w.heap.size ∧ ∀ o, w.frozen? ⟨b, o, none⟩ = false :=
  ⟨blk_cell h 0, blk_cell h 1, blk_cell h 2, blk_cell h 3, blk_cell h 4, blk_cell h 5, blk_cell h 6, blk_cell h 7, blk_cell h 8, blk_cell h 9, blk_cell h 10, blk_cell h 11, blk_cell h 12, blk_cell h 13, blk_cell h 14, blk_cell h 15, blk_cell h 16, blk_cell h 17, blk_cell h 18, blk_cell h 19, blk_cell h 20, blk_cell h 21, blk_cell h 22, blk_lt h, blk_free h⟩
abbrev opA (k nd pr n : Int) (key val lo hi : ByteArray) (op : Bool) : Value := .agg #[.int .i64 k, .int .i64 nd, .int .i64 pr, .int .i64 n, .string key, .string val, .string lo, .string hi, .bool op]
abbrev opO (k nd pr n : Int) (key val lo hi : ByteArray) (op : Bool) : Obj := .cells #[.int .i64 k, .int .i64 nd, .int .i64 pr, .int .i64 n, .string key, .string val, .string lo, .string hi, .bool op] 38 (0, 0)
theorem ansInfo : (Tryz.prog.info? ansT).map (·.size) = some 23 := by kernel_rfl
theorem ans1 (a b : Int) (ve : Value) (S : T3) (h : ve.oneCell' = true) : (ansL a b ve S).toArray.all (·.oneCell') = true := by cases ve <;> first | (simp [Value.oneCell'] ; done) | (simp [Value.oneCell'] at h)
theorem setRow_keep (w : World) (g : Nat) (cs : Array Value) : Keep (fun k => k = g) w (w.setRow g cs) := ⟨rfl, rfl, rfl, by simp, fun k _ hn => setRow_other w g k cs hn⟩
/-- Two results: a variable of many cells, a slot. -/
theorem results_cell_tmp {P : Program} {fn : Func} {p q : Tmp} {ty : TypeId} (h : fn.results = #[.cell p ty, .tmp q]) (tmps : Array Value) (w : World) (g : Nat) (t : TypeId) (cs : Array Value) (fr : Nat × Nat) (d : TypeDesc) (v : Value)
    (hp : tmps.getD p undef = .pointer (some ⟨g, 0, none⟩)) (hg : w.heap[g]? = some (.cells cs t fr))
    (hu : P.underlying ty = some d) (hd : (match d with | .struct _ | .array _ _ => true | _ => false) = true) (hi : (P.info? ty).map (·.size) = some cs.size) (hq : tmps.getD q undef = v) :
    (results fn tmps).run P w = .ok (.tuple #[.agg cs, v]) w := by
  have hp' : tmps[p]?.getD undef = .pointer (some ⟨g, 0, none⟩) := by simpa using hp
  have hq' : tmps[q]?.getD undef = v := by simpa using hq
  simp [results, h, hp', hq', asAddr, run_loadVar_row w g t ty cs fr d hg hu hd hi]
/-- What a command with a version leaves. -/
def AWr (w : World) (sb tb mb : Nat) (node clk : Int) (M : Nat) (t2 : Tr) (H : Nat) (a b E : Int) (x : Ending) (w' : World) : Prop :=
  x = .returned (.tuple #[ansV a b (.slice none 0 0) (0, 0, 0), .int .i64 E]) ∧ ∃ m, m ≤ H ∧ StAt w' sb tb mb node clk (M + m) t2 ∧ Keep (fun k => k = mb ∨ k = tb ∨ k = sb) w w'
set_option maxRecDepth 100000 in
set_option maxHeartbeats 8000000 in
theorem act_put (wb nb sb tb mb : Nat) (node clock clk : Int) (M H : Nat) (t t2 : Tr) (nd pr n : Int) (key val lo hi : ByteArray) (op : Bool) (a b E : Int) (w : World)
    (hP : ∀ w' : World, Below w.heap.size w w' → Calls Tryz.prog 62 #[.pointer (some ⟨nb, 0, none⟩), .string key, .string val] w' (SWr w' sb tb mb node clk M t2 H a b E)) (h : StAt w sb tb mb node clock M t) :
    Calls Tryz.prog 36 #[.pointer (some ⟨wb, 0, none⟩), .pointer (some ⟨nb, 0, none⟩), opA 1 nd pr n key val lo hi op] w (AWr w sb tb mb node clk M t2 H a b E) := by
  obtain ⟨k0, k1, k2⟩ := alloc2 w (opO 1 nd pr n key val lo hi op) (ansO 0 0 (.slice none 0 0) (0, 0, 0))
  have HN := Lib.hid (And.intro hP (And.intro (h.below k0) (And.intro k0 k2)))
  have HP := h.lanes.lt
  have n3 := (h.below k0).not k2 (by decide) (by decide) (by decide)
  have HX := Lib.hid n3
  clear hP h k0 k1 k2 n3
  go_enter Tryz.func36, Tryz.ntmps36
  go_wp2_with fail
  refine (HN.out.1 _ HN.out.2.2.1).mono ?_
  rintro e w2 ⟨rfl, m, hm, hst, hk⟩
  have g := hk.blk HN.out.2.2.2 HX.out
  have HZ := Lib.hid (And.intro hst (And.intro g ((Keep.of_below HN.out.2.2.1).trans hk)))
  have q : w2.cell? ⟨w.heap.size + 1, 0, none⟩ = some (.int .i64 0) ∧ w2.cell? ⟨w.heap.size + 1, 1, none⟩ = some (.int .i64 0) ∧ w.heap.size + 1 < w2.heap.size ∧ ∀ o, w2.frozen? ⟨w.heap.size + 1, o, none⟩ = false := ⟨blk_cell g 0, blk_cell g 1, blk_lt g, blk_free g⟩
  have g1 : ((w2.setCell ⟨w.heap.size + 1, 0, none⟩ (.int .i64 a)).setCell ⟨w.heap.size + 1, 1, none⟩ (.int .i64 b)).heap[w.heap.size + 1]? = some (ansO a b (.slice none 0 0) (0, 0, 0)) := heap_set_to (heap_set_to HZ.out.2.1 rfl) (by simp)
  have k1 : Keep (fun k => k = w.heap.size + 1) w2 ((w2.setCell ⟨w.heap.size + 1, 0, none⟩ (.int .i64 a)).setCell ⟨w.heap.size + 1, 1, none⟩ (.int .i64 b)) := (Keep.set w2 ⟨w.heap.size + 1, 0, none⟩ _).trans (Keep.set _ ⟨w.heap.size + 1, 1, none⟩ _)
  have HG := Lib.hid (And.intro g1 k1)
  clear g g1 k1 hk hst
  go_wp2_with (first
    | (refine wpList_load_row rfl ansT (.tmp 6) rfl _ rfl ansT _ (0, 0) _ HG.out.1 Tryz.underlying59 rfl ansInfo ?_)
    | (refine wpList_store_row rfl ansT (.tmp 6) (.tmp 143) rfl _ _ rfl rfl ansT _ HG.out.1 ansInfo rfl (ans1 _ _ _ _ rfl) ?_ ; rw [setRow_self _ _ _ _ _ HG.out.1])
    | fail)
  refine bodyPost_ret (results_cell_tmp Tryz.results36 _ _ _ ansT _ (0, 0) _ _ rfl HG.out.1 Tryz.underlying59 rfl ansInfo rfl) rfl ⟨rfl, m, hm, ?_, ?_⟩
  · exact HZ.out.1.side HZ.out.2.1 (by decide) (by decide) (by decide) (by decide) (by omega) HG.out.2
  · exact HZ.out.2.2.transNew HG.out.2 fun k e => by rw [e]; omega
set_option maxRecDepth 100000 in
set_option maxHeartbeats 8000000 in
theorem act_del (wb nb sb tb mb : Nat) (node clock clk : Int) (M H : Nat) (t t2 : Tr) (nd pr n : Int) (key val lo hi : ByteArray) (op : Bool) (a b E : Int) (w : World)
    (hP : ∀ w' : World, Below w.heap.size w w' → Calls Tryz.prog 63 #[.pointer (some ⟨nb, 0, none⟩), .string key] w' (SWr w' sb tb mb node clk M t2 H a b E)) (h : StAt w sb tb mb node clock M t) :
    Calls Tryz.prog 36 #[.pointer (some ⟨wb, 0, none⟩), .pointer (some ⟨nb, 0, none⟩), opA 2 nd pr n key val lo hi op] w (AWr w sb tb mb node clk M t2 H a b E) := by
  obtain ⟨k0, k1, k2⟩ := alloc2 w (opO 2 nd pr n key val lo hi op) (ansO 0 0 (.slice none 0 0) (0, 0, 0))
  have HN := Lib.hid (And.intro hP (And.intro (h.below k0) (And.intro k0 k2)))
  have HP := h.lanes.lt
  have n3 := (h.below k0).not k2 (by decide) (by decide) (by decide)
  have HX := Lib.hid n3
  clear hP h k0 k1 k2 n3
  go_enter Tryz.func36, Tryz.ntmps36
  go_wp2_with fail
  refine (HN.out.1 _ HN.out.2.2.1).mono ?_
  rintro e w2 ⟨rfl, m, hm, hst, hk⟩
  have g := hk.blk HN.out.2.2.2 HX.out
  have HZ := Lib.hid (And.intro hst (And.intro g ((Keep.of_below HN.out.2.2.1).trans hk)))
  have q : w2.cell? ⟨w.heap.size + 1, 0, none⟩ = some (.int .i64 0) ∧ w2.cell? ⟨w.heap.size + 1, 1, none⟩ = some (.int .i64 0) ∧ w.heap.size + 1 < w2.heap.size ∧ ∀ o, w2.frozen? ⟨w.heap.size + 1, o, none⟩ = false := ⟨blk_cell g 0, blk_cell g 1, blk_lt g, blk_free g⟩
  have g1 : ((w2.setCell ⟨w.heap.size + 1, 0, none⟩ (.int .i64 a)).setCell ⟨w.heap.size + 1, 1, none⟩ (.int .i64 b)).heap[w.heap.size + 1]? = some (ansO a b (.slice none 0 0) (0, 0, 0)) := heap_set_to (heap_set_to HZ.out.2.1 rfl) (by simp)
  have k1 : Keep (fun k => k = w.heap.size + 1) w2 ((w2.setCell ⟨w.heap.size + 1, 0, none⟩ (.int .i64 a)).setCell ⟨w.heap.size + 1, 1, none⟩ (.int .i64 b)) := (Keep.set w2 ⟨w.heap.size + 1, 0, none⟩ _).trans (Keep.set _ ⟨w.heap.size + 1, 1, none⟩ _)
  have HG := Lib.hid (And.intro g1 k1)
  clear g g1 k1 hk hst
  go_wp2_with (first
    | (refine wpList_load_row rfl ansT (.tmp 6) rfl _ rfl ansT _ (0, 0) _ HG.out.1 Tryz.underlying59 rfl ansInfo ?_)
    | (refine wpList_store_row rfl ansT (.tmp 6) (.tmp 143) rfl _ _ rfl rfl ansT _ HG.out.1 ansInfo rfl (ans1 _ _ _ _ rfl) ?_ ; rw [setRow_self _ _ _ _ _ HG.out.1])
    | fail)
  refine bodyPost_ret (results_cell_tmp Tryz.results36 _ _ _ ansT _ (0, 0) _ _ rfl HG.out.1 Tryz.underlying59 rfl ansInfo rfl) rfl ⟨rfl, m, hm, ?_, ?_⟩
  · exact HZ.out.1.side HZ.out.2.1 (by decide) (by decide) (by decide) (by decide) (by omega) HG.out.2
  · exact HZ.out.2.2.transNew HG.out.2 fun k e => by rw [e]; omega
/-- What a fold's command leaves. -/
def AFr (w : World) (sb tb mb : Nat) (node clock : Int) (M : Nat) (t : Tr) (S : T3) (E : Int) (x : Ending) (w' : World) : Prop :=
  x = .returned (.tuple #[ansV 0 0 (.slice none 0 0) S, .int .i64 E]) ∧ ∃ m, m ≤ 4 * t.high ∧ StAt w' sb tb mb node clock (M + m) t ∧ Keep (fun k => k = mb) w w'
set_option maxRecDepth 100000 in
set_option maxHeartbeats 8000000 in
theorem act_fold (wb nb sb tb mb : Nat) (node clock : Int) (M : Nat) (t : Tr) (nd pr n : Int) (key val lo hi : ByteArray) (op : Bool) (S : T3) (E : Int) (w : World)
    (hP : ∀ w' : World, Below w.heap.size w w' → Calls Tryz.prog 66 #[.pointer (some ⟨nb, 0, none⟩), rgV lo hi op] w' (SFr w' sb tb mb node clock M t S E)) (h : StAt w sb tb mb node clock M t) :
    Calls Tryz.prog 36 #[.pointer (some ⟨wb, 0, none⟩), .pointer (some ⟨nb, 0, none⟩), opA 5 nd pr n key val lo hi op] w (AFr w sb tb mb node clock M t S E) := by
  obtain ⟨k0, k1, k2⟩ := alloc2 w (opO 5 nd pr n key val lo hi op) (ansO 0 0 (.slice none 0 0) (0, 0, 0))
  have HN := Lib.hid (And.intro hP (And.intro (h.below k0) (And.intro k0 k2)))
  have HP := h.lanes.lt
  have n3 : ¬ w.heap.size + 1 = mb := fun e => (h.below k0).not k2 (by decide) (by decide) (by decide) (Or.inl e)
  have HX := Lib.hid n3
  obtain ⟨S1, S2, S3⟩ := S
  clear hP h k0 k1 k2 n3
  go_enter Tryz.func36, Tryz.ntmps36
  go_wp2_with fail
  refine (HN.out.1 _ HN.out.2.2.1).mono ?_
  rintro e w2 ⟨rfl, m, hm, hst, hk⟩
  have g := hk.blk HN.out.2.2.2 HX.out
  have HZ := Lib.hid (And.intro hst (And.intro g ((Keep.of_below HN.out.2.2.1).trans hk)))
  have q : w2.cell? ⟨w.heap.size + 1, 3, none⟩ = some (.int .i64 0) ∧ w2.cell? ⟨w.heap.size + 1, 4, none⟩ = some (.int .u64 0) ∧ w2.cell? ⟨w.heap.size + 1, 5, none⟩ = some (.int .u64 0) ∧ w.heap.size + 1 < w2.heap.size ∧ ∀ o, w2.frozen? ⟨w.heap.size + 1, o, none⟩ = false := ⟨blk_cell g 3, blk_cell g 4, blk_cell g 5, blk_lt g, blk_free g⟩
  have g1 : (((w2.setCell ⟨w.heap.size + 1, 3, none⟩ (.int .i64 S1)).setCell ⟨w.heap.size + 1, 4, none⟩ (.int .u64 S2)).setCell ⟨w.heap.size + 1, 5, none⟩ (.int .u64 S3)).heap[w.heap.size + 1]? = some (ansO 0 0 (.slice none 0 0) (S1, S2, S3)) := heap_set_to (heap_set_to (heap_set_to HZ.out.2.1 rfl) rfl) (by simp)
  have k1 : Keep (fun k => k = w.heap.size + 1) w2 (((w2.setCell ⟨w.heap.size + 1, 3, none⟩ (.int .i64 S1)).setCell ⟨w.heap.size + 1, 4, none⟩ (.int .u64 S2)).setCell ⟨w.heap.size + 1, 5, none⟩ (.int .u64 S3)) := ((Keep.set w2 ⟨w.heap.size + 1, 3, none⟩ _).trans (Keep.set _ ⟨w.heap.size + 1, 4, none⟩ _)).trans (Keep.set _ ⟨w.heap.size + 1, 5, none⟩ _)
  have HG := Lib.hid (And.intro g1 k1)
  clear g g1 k1 hk hst
  go_wp2_with (first
    | (refine wpList_load_row rfl ansT (.tmp 6) rfl _ rfl ansT _ (0, 0) _ HG.out.1 Tryz.underlying59 rfl ansInfo ?_)
    | (refine wpList_store_row rfl ansT (.tmp 6) (.tmp 143) rfl _ _ rfl rfl ansT _ HG.out.1 ansInfo rfl (ans1 _ _ _ _ rfl) ?_ ; rw [setRow_self _ _ _ _ _ HG.out.1])
    | fail)
  refine bodyPost_ret (results_cell_tmp Tryz.results36 _ _ _ ansT _ (0, 0) _ _ rfl HG.out.1 Tryz.underlying59 rfl ansInfo rfl) rfl ⟨rfl, m, hm, ?_, ?_⟩
  · exact HZ.out.1.side HZ.out.2.1 (by decide) (by decide) (by decide) (by decide) (by omega) HG.out.2
  · exact HZ.out.2.2.transNew HG.out.2 fun k e => by rw [e]; omega
/-! ### Commands that answer entries -/
theorem entInfo : (Tryz.prog.info? entT).map (·.size) = some 5 := by kernel_rfl
/-- What a command that answers entries leaves. -/
def AEr (w : World) (L : List Ent) (E : Int) (x : Ending) (w' : World) : Prop :=
  ∃ v, x = .returned (.tuple #[ansV 0 0 v (0, 0, 0), .int .i64 E]) ∧ w'.ownsRow w.heap.size entT 5 v L.length (eflat L) ∧ Below w.heap.size w w'
theorem own_nil (w : World) (B : Nat) : w.ownsRow B entT 5 (.slice none 0 0) ([] : List Ent).length (eflat []) := ⟨rfl, Or.inl ⟨rfl, rfl⟩⟩
theorem own_one {w : World} {b B : Nat} {x : Ent} (h : w.heap[b]? = some (entO x)) (hB : B ≤ b) : w.ownsRow B entT 5 (.slice (some ⟨b, 0, none⟩) 1 1) [x].length (eflat [x]) :=
  ⟨rfl, Or.inr ⟨b, 1, _, rfl, hB, h, Nat.le_refl _, by unfold maxLen; omega, rfl, rfl⟩⟩
set_option maxRecDepth 100000 in
set_option maxHeartbeats 8000000 in
theorem act_get (wb nb : Nat) (t : Tr) (nd pr n : Int) (key val lo hi : ByteArray) (op : Bool) (w : World)
    (hP : ∀ w' : World, Below w.heap.size w w' → Calls Tryz.prog 64 #[.pointer (some ⟨nb, 0, none⟩), .string key] w' (NGetR w' key t)) :
    Calls Tryz.prog 36 #[.pointer (some ⟨wb, 0, none⟩), .pointer (some ⟨nb, 0, none⟩), opA 3 nd pr n key val lo hi op] w (AEr w (if 16 < key.size then [] else (getT key t).toList) (if 16 < key.size then 20 else 0)) := by
  obtain ⟨k0, k1, k2⟩ := alloc2 w (opO 3 nd pr n key val lo hi op) (ansO 0 0 (.slice none 0 0) (0, 0, 0))
  have HN := Lib.hid (And.intro hP (And.intro k0 k2))
  obtain ⟨Lr, hLr⟩ : ∃ L, L = (if 16 < key.size then [] else (getT key t).toList) := ⟨_, rfl⟩
  obtain ⟨Er, hEr⟩ : ∃ E : Int, E = (if 16 < key.size then 20 else 0) := ⟨_, rfl⟩
  rw [← hLr, ← hEr]
  have HLE := Lib.hid (And.intro hLr hEr)
  clear hP k0 k1 k2 hLr hEr
  go_enter Tryz.func36, Tryz.ntmps36
  go_wp2_with fail
  refine (HN.out.1 _ HN.out.2.1).mono ?_
  rintro e w2 ⟨x, xb, c, hx, hc, rfl, hb⟩
  have hxL : Lr = (if xb = true then [x] else []) := by
    rw [HLE.out.1]
    by_cases hk : 16 < key.size
    · rw [if_pos hk] at hx ⊢
      simp only [Prod.mk.injEq] at hx
      rw [hx.2]; rfl
    · rw [if_neg hk] at hx ⊢
      simp only [Prod.mk.injEq] at hx
      rw [hx.1, hx.2]
      cases getT key t <;> rfl
  obtain rfl : c = Er := by rw [hc, HLE.out.2]
  have HZ := Lib.hid (And.intro (blk_below HN.out.2.2 hb) (And.intro (HN.out.2.1.trans (hb.mono HN.out.2.1.size)) hxL))
  obtain ⟨x1, x2, x3, x4, x5⟩ := x
  clear hx hc hb hxL
  have hsz : w.heap.size + 1 < w2.heap.size := blk_lt HZ.out.1
  have hA : Hid (((w2.alloc (.cells #[.string ⟨#[]⟩, .int .i64 0, .int .i64 0, .string ⟨#[]⟩, .bool false] entT (0, 0))).setRow w2.heap.size #[.string x1, .int .i64 x2, .int .i64 x3, .string x4, .bool x5]).heap[w2.heap.size]? = some (entO (x1, x2, x3, x4, x5)) ∧
      ((w2.alloc (.cells #[.string ⟨#[]⟩, .int .i64 0, .int .i64 0, .string ⟨#[]⟩, .bool false] entT (0, 0))).setRow w2.heap.size #[.string x1, .int .i64 x2, .int .i64 x3, .string x4, .bool x5]).heap[w.heap.size + 1]? = some (ansO 0 0 (.slice none 0 0) (0, 0, 0)) ∧
      Below w2.heap.size w2 ((w2.alloc (.cells #[.string ⟨#[]⟩, .int .i64 0, .int .i64 0, .string ⟨#[]⟩, .bool false] entT (0, 0))).setRow w2.heap.size #[.string x1, .int .i64 x2, .int .i64 x3, .string x4, .bool x5])) := by
    refine ⟨setRow_heap _ _ _ _ _ _ (heap_new rfl), ?_, ?_⟩
    · rw [setRow_other _ _ _ _ (by omega)]; exact heap_old HZ.out.1
    · exact (below_alloc_self w2 _).trans ((setRow_keep _ w2.heap.size _).below (by simp) (fun k e => by rw [e]; exact Nat.le_refl _))
  cases xb with
  | false =>
    go_wp2_with (first
      | (refine wpList_store_row rfl entT (.tmp 8) (.tmp 52) rfl _ _ rfl rfl entT _ (heap_new rfl) entInfo rfl (by simp [Value.oneCell']) ?_ ; generalize (w2.alloc (.cells #[.string ⟨#[]⟩, .int .i64 0, .int .i64 0, .string ⟨#[]⟩, .bool false] entT (0, 0))).setRow w2.heap.size #[.string x1, .int .i64 x2, .int .i64 x3, .string x4, .bool x5] = w3 at *)
      | (refine wpList_load_row rfl ansT (.tmp 6) rfl _ rfl ansT _ (0, 0) _ hA.out.2.1 Tryz.underlying59 rfl ansInfo ?_)
      | (refine wpList_store_row rfl ansT (.tmp 6) (.tmp 143) rfl _ _ rfl rfl ansT _ hA.out.2.1 ansInfo rfl (ans1 _ _ _ _ rfl) ?_ ; rw [setRow_self _ _ _ _ _ hA.out.2.1])
      | fail)
    have hb3 := HZ.out.2.1.trans (hA.out.2.2.mono HZ.out.2.1.size)
    refine bodyPost_ret (results_cell_tmp Tryz.results36 _ _ _ ansT _ (0, 0) _ _ rfl hA.out.2.1 Tryz.underlying59 rfl ansInfo rfl) rfl ⟨.slice none 0 0, rfl, ?_, hb3⟩
    rw [show Lr = [] by rw [HZ.out.2.2]; rfl]
    exact own_nil _ _
  | true =>
    have q : ((w2.alloc (.cells #[.string ⟨#[]⟩, .int .i64 0, .int .i64 0, .string ⟨#[]⟩, .bool false] entT (0, 0))).setRow w2.heap.size #[.string x1, .int .i64 x2, .int .i64 x3, .string x4, .bool x5]).cell? ⟨w.heap.size + 1, 2, none⟩ = some (.slice none 0 0) ∧ w.heap.size + 1 < ((w2.alloc (.cells #[.string ⟨#[]⟩, .int .i64 0, .int .i64 0, .string ⟨#[]⟩, .bool false] entT (0, 0))).setRow w2.heap.size #[.string x1, .int .i64 x2, .int .i64 x3, .string x4, .bool x5]).heap.size ∧ ∀ o, ((w2.alloc (.cells #[.string ⟨#[]⟩, .int .i64 0, .int .i64 0, .string ⟨#[]⟩, .bool false] entT (0, 0))).setRow w2.heap.size #[.string x1, .int .i64 x2, .int .i64 x3, .string x4, .bool x5]).frozen? ⟨w.heap.size + 1, o, none⟩ = false := ⟨blk_cell hA.out.2.1 2, blk_lt hA.out.2.1, blk_free hA.out.2.1⟩
    go_wp2_with (first
      | (refine wpList_store_row rfl entT (.tmp 8) (.tmp 52) rfl _ _ rfl rfl entT _ (heap_new rfl) entInfo rfl (by simp [Value.oneCell']) ?_ ; generalize (w2.alloc (.cells #[.string ⟨#[]⟩, .int .i64 0, .int .i64 0, .string ⟨#[]⟩, .bool false] entT (0, 0))).setRow w2.heap.size #[.string x1, .int .i64 x2, .int .i64 x3, .string x4, .bool x5] = w3 at *)
      | (refine wpList_load_row rfl entT (.tmp 8) rfl _ rfl entT _ (0, 0) _ hA.out.1 Tryz.underlying78 rfl entInfo ?_)
      | (refine wpList_load_row rfl ansT (.tmp 6) rfl _ rfl ansT _ (0, 0) _ (heap_old (o' := ansO 0 0 (.slice (some ⟨w3.heap.size, 0, none⟩) 1 1) (0, 0, 0)) (heap_set_to (o := 2) (v := .slice (some ⟨w3.heap.size, 0, none⟩) 1 1) hA.out.2.1 (by simp))) Tryz.underlying59 rfl ansInfo ?_)
      | (refine wpList_store_row rfl ansT (.tmp 6) (.tmp 143) rfl _ _ rfl rfl ansT _ (heap_old (o' := ansO 0 0 (.slice (some ⟨w3.heap.size, 0, none⟩) 1 1) (0, 0, 0)) (heap_set_to (o := 2) (v := .slice (some ⟨w3.heap.size, 0, none⟩) 1 1) hA.out.2.1 (by simp))) ansInfo rfl (ans1 _ _ _ _ rfl) ?_ ; rw [setRow_self _ _ _ _ _ (heap_old (o' := ansO 0 0 (.slice (some ⟨w3.heap.size, 0, none⟩) 1 1) (0, 0, 0)) (heap_set_to (o := 2) (v := .slice (some ⟨w3.heap.size, 0, none⟩) 1 1) hA.out.2.1 (by simp)))])
      | fail)
    have hb3 := HZ.out.2.1.trans (hA.out.2.2.mono HZ.out.2.1.size)
    have hG : ((w3.setCell ⟨w.heap.size + 1, 2, none⟩ (.slice (some ⟨w3.heap.size, 0, none⟩) 1 1)).alloc (entO (x1, x2, x3, x4, x5))).heap[w.heap.size + 1]? = some (ansO 0 0 (.slice (some ⟨w3.heap.size, 0, none⟩) 1 1) (0, 0, 0)) := heap_old (heap_set_to hA.out.2.1 (by simp))
    have hs3 := hA.out.2.2.size
    have hs0 := HN.out.2.1.size
    refine bodyPost_ret (results_cell_tmp Tryz.results36 _ _ _ ansT _ (0, 0) _ _ rfl hG Tryz.underlying59 rfl ansInfo rfl) rfl ⟨_, rfl, ?_, ?_⟩
    · rw [show Lr = [(x1, x2, x3, x4, x5)] by rw [HZ.out.2.2]; rfl]
      exact own_one (heap_new (by simp)) (by omega)
    · exact (hb3.setCell (p := ⟨w.heap.size + 1, 2, none⟩) (by simp) _).alloc (by simp; omega) _
set_option maxRecDepth 100000 in
set_option maxHeartbeats 8000000 in
theorem act_scan_bad (wb nb : Nat) (nd pr n : Int) (key val lo hi : ByteArray) (op : Bool) (c : Int) (hc0 : c ≠ 0) (w : World)
    (hP : ∀ w' : World, Below w.heap.size w w' → Calls Tryz.prog 65 #[.pointer (some ⟨nb, 0, none⟩), rgV lo hi op] w' fun e w2 => e = .returned (.tuple #[.nilFunc, .int .i64 c]) ∧ Below w'.heap.size w' w2) :
    Calls Tryz.prog 36 #[.pointer (some ⟨wb, 0, none⟩), .pointer (some ⟨nb, 0, none⟩), opA 4 nd pr n key val lo hi op] w (AEr w [] c) := by
  obtain ⟨k0, k1, k2⟩ := alloc2 w (opO 4 nd pr n key val lo hi op) (ansO 0 0 (.slice none 0 0) (0, 0, 0))
  have HN := Lib.hid (And.intro hP (And.intro k0 k2))
  clear hP k0 k1 k2
  go_enter Tryz.func36, Tryz.ntmps36
  go_wp2_with fail
  refine (HN.out.1 _ HN.out.2.1).mono ?_
  rintro e w2 ⟨rfl, hb⟩
  have HG := Lib.hid (And.intro (blk_below HN.out.2.2 hb) (HN.out.2.1.trans (hb.mono HN.out.2.1.size)))
  clear hb
  go_wp2_with (first
    | (refine wpList_load_row rfl ansT (.tmp 6) rfl _ rfl ansT _ (0, 0) _ HG.out.1 Tryz.underlying59 rfl ansInfo ?_)
    | (refine wpList_store_row rfl ansT (.tmp 6) (.tmp 143) rfl _ _ rfl rfl ansT _ HG.out.1 ansInfo rfl (ans1 _ _ _ _ rfl) ?_ ; rw [setRow_self _ _ _ _ _ HG.out.1])
    | fail)
  refine bodyPost_ret (results_cell_tmp Tryz.results36 _ _ _ ansT _ (0, 0) _ _ rfl HG.out.1 Tryz.underlying59 rfl ansInfo rfl) rfl ⟨.slice none 0 0, rfl, own_nil _ _, HG.out.2⟩
theorem entArgs_map (L : List Ent) : entArgs (L.map rowOf) = entA L := by
  funext k args W
  simp only [entArgs, entA, List.length_map, List.getElem_map, rowOf]
set_option maxRecDepth 100000 in
set_option maxHeartbeats 8000000 in
theorem act_scan (wb nb : Nat) (t : Tr) (nd pr n : Int) (key val lo hi : ByteArray) (op : Bool) (L : List Ent) (hL : L.length ≤ 1000000) (hs : t.size ≤ 1000000) (hR : liveR (cutR (rankT lo t : Int) (endT hi op t : Int) t.rows) = L.map rowOf) (w : World)
    (hP : ∀ w' : World, Below w.heap.size w w' → Calls Tryz.prog 65 #[.pointer (some ⟨nb, 0, none⟩), rgV lo hi op] w' fun e w2 => ∃ bl, e = .returned (.tuple #[scanV bl, .int .i64 0]) ∧ ScanAt w2 bl t (rankT lo t : Int) (endT hi op t : Int) ∧ Below w'.heap.size w' w2) :
    Calls Tryz.prog 36 #[.pointer (some ⟨wb, 0, none⟩), .pointer (some ⟨nb, 0, none⟩), opA 4 nd pr n key val lo hi op] w (AEr w L 0) := by
  obtain ⟨k0, k1, k2⟩ := alloc2 w (opO 4 nd pr n key val lo hi op) (ansO 0 0 (.slice none 0 0) (0, 0, 0))
  have HN := Lib.hid (And.intro hP (And.intro k0 k2))
  have HR := Lib.hid hR
  have r1 := rankT_le lo t
  have r2 := endT_le hi op t
  clear hP k0 k1 k2 hR
  go_enter Tryz.func36, Tryz.ntmps36
  go_wp2_with fail
  refine (HN.out.1 _ HN.out.2.1).mono ?_
  rintro e w2 ⟨bl, rfl, hsc, hb⟩
  have HZ := Lib.hid (And.intro (blk_below HN.out.2.2 hb) (And.intro (HN.out.2.1.trans (hb.mono HN.out.2.1.size)) hsc))
  clear hb hsc
  have hq : Hid (∀ w1, Below w2.heap.size w2 w1 → SeqN Tryz.prog 134 #[.pointer (some ⟨bl, 0, none⟩)] L.length (entA L) (fun k => w2.heap.size ≤ k) collT w1) := fun w1 hb => by
    have := scan_seq bl t (rankT lo t : Int) (endT hi op t : Int) (fun k => w2.heap.size ≤ k) collT ⟨Or.inl rfl, Or.inr rfl⟩ w1 (HZ.out.2.2.below hb) (by omega) (by omega) (by omega) (fun k hk => Nat.le_trans hb.size hk)
    rw [HR.out, entArgs_map] at this
    rwa [show L.length = (L.map rowOf).length by simp]
  clear r1 r2 hs
  go_wp2_with fail
  refine (coll_any 134 #[.pointer (some ⟨bl, 0, none⟩)] L w2 (enters_of Tryz.func134 (by kernel_rfl) rfl) hL hq.out).mono ?_
  rintro e w3 ⟨v, rfl, ho, hb3⟩
  obtain ⟨oa, n', cap, rfl⟩ : ∃ oa n' cap, v = .slice oa n' cap := by
    rcases ho.2 with ⟨h, _⟩ | ⟨g, cap, cur, h, _⟩
    · exact ⟨_, _, _, h⟩
    · exact ⟨_, _, _, h⟩
  have ga := blk_below HZ.out.1 hb3
  have q : w3.cell? ⟨w.heap.size + 1, 2, none⟩ = some (.slice none 0 0) ∧ w.heap.size + 1 < w3.heap.size ∧ ∀ o, w3.frozen? ⟨w.heap.size + 1, o, none⟩ = false := ⟨blk_cell ga 2, blk_lt ga, blk_free ga⟩
  have hks := Keep.set w3 ⟨w.heap.size + 1, 2, none⟩ (.slice oa n' cap)
  have g1 : (w3.setCell ⟨w.heap.size + 1, 2, none⟩ (.slice oa n' cap)).heap[w.heap.size + 1]? = some (ansO 0 0 (.slice oa n' cap) (0, 0, 0)) := heap_set_to ga (by simp)
  have ho2 := own_mono (own_keep ho hks (fun g hv e => own_ne ho ga (by decide) (by rw [hv, show g = w.heap.size + 1 from e]))) HZ.out.2.1.size
  have hbf : Below w.heap.size w (w3.setCell ⟨w.heap.size + 1, 2, none⟩ (.slice oa n' cap)) := (HZ.out.2.1.trans (hb3.mono HZ.out.2.1.size)).setCell (by simp) _
  have HG := Lib.hid (And.intro g1 (And.intro ho2 hbf))
  clear ga hks g1 ho2 hbf ho hb3
  go_wp2_with (first
    | (refine wpList_load_row rfl ansT (.tmp 6) rfl _ rfl ansT _ (0, 0) _ HG.out.1 Tryz.underlying59 rfl ansInfo ?_)
    | (refine wpList_store_row rfl ansT (.tmp 6) (.tmp 143) rfl _ _ rfl rfl ansT _ HG.out.1 ansInfo rfl (ans1 _ _ _ _ rfl) ?_ ; rw [setRow_self _ _ _ _ _ HG.out.1])
    | fail)
  refine bodyPost_ret (results_cell_tmp Tryz.results36 _ _ _ ansT _ (0, 0) _ _ rfl HG.out.1 Tryz.underlying59 rfl ansInfo rfl) rfl ⟨.slice oa n' cap, rfl, HG.out.2.1, HG.out.2.2⟩
end Go.Proofs.YtdflmplmpjghdaaGreatDoor
