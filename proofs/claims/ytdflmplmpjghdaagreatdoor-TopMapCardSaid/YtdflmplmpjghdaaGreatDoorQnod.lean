/-
  node.Scan, whatever comes of it.
-/
import Derived.Test.YtdflmplmpjghdaaGreatDoorNscan
import Derived.Test.YtdflmplmpjghdaaGreatDoorNput
import Derived.Test.YtdflmplmpjghdaaGreatDoorRg
namespace Go.Proofs.YtdflmplmpjghdaaGreatDoor
open Go.ChangeShapes Go.WideShapes Go.ChangeAt Go.RowKit Go.Deep Go.Shelf
set_option linter.unusedVariables false
set_option linter.unusedSimpArgs false
set_option maxRecDepth 100000
attribute [local go_sem] Oper.semAt_some

/-! ### Fold -/
set_option maxRecDepth 100000 in
set_option maxHeartbeats 8000000 in
theorem sfold_bad (sb tb mb : Nat) (lo hi : ByteArray) (op : Bool) (w : World) (c : Int) (hc0 : c ≠ 0)
    (hc : ∀ w : World, Calls Tryz.prog 82 #[rgV lo hi op] w fun e w' => e = .returned (.int .i64 c) ∧ Below w.heap.size w w') :
    Calls Tryz.prog 101 #[.pointer (some ⟨sb, 0, none⟩), rgV lo hi op] w fun e w' => e = .returned (.tuple #[tv 0 0 0, .int .i64 c]) ∧ Below w.heap.size w w' := by
  have hb0 : Below w.heap.size w ((w.alloc (.cells #[.string lo, .string hi, .bool op] 36 (0, 0))).alloc (.cells #[.int .i64 0, .int .u64 0, .int .u64 0] 49 (0, 0))) := by (repeat (first | (with_reducible assumption) | (with_reducible exact Below.refl _ _) | (with_reducible refine heap_drew ?_) | (focus ((with_reducible refine heap_new ?_) ; simp ; done)) | (with_reducible apply heap_set_to) | (focus ((with_reducible refine heap_set_ne ?_ ?_ _) ; rotate_left ; (focus (first | omega | (simp ; done) | (simp ; omega))))) | (with_reducible refine heap_old ?_) | (with_reducible refine Below.drew ?_) | (with_reducible refine below_set ?_ _ _) | (focus ((with_reducible refine Below.setCell ?_ ?_ _) ; rotate_left ; (focus (first | omega | (simp ; done) | (simp ; omega))))) | (focus ((with_reducible refine Below.alloc ?_ ?_ _) ; rotate_left ; (focus (first | omega | (simp ; done) | (simp ; omega))))) | (with_reducible rfl) | (focus (simp ; done))))
  have HB0 := Lib.hid hb0
  clear hb0
  go_enter Tryz.func101, Tryz.ntmps101
  go_wp2_with fail
  refine (hc _).mono ?_
  rintro e w2 ⟨rfl, hb2⟩
  have g4 : w2.heap[w.heap.size + 1]? = some (.cells #[.int .i64 0, .int .u64 0, .int .u64 0] 49 (0, 0)) := blk_below (by (repeat (first | (with_reducible assumption) | (with_reducible exact Below.refl _ _) | (with_reducible refine heap_drew ?_) | (focus ((with_reducible refine heap_new ?_) ; simp ; done)) | (with_reducible apply heap_set_to) | (focus ((with_reducible refine heap_set_ne ?_ ?_ _) ; rotate_left ; (focus (first | omega | (simp ; done) | (simp ; omega))))) | (with_reducible refine heap_old ?_) | (with_reducible refine Below.drew ?_) | (with_reducible refine below_set ?_ _ _) | (focus ((with_reducible refine Below.setCell ?_ ?_ _) ; rotate_left ; (focus (first | omega | (simp ; done) | (simp ; omega))))) | (focus ((with_reducible refine Below.alloc ?_ ?_ _) ; rotate_left ; (focus (first | omega | (simp ; done) | (simp ; omega))))) | (with_reducible rfl) | (focus (simp ; done))))) hb2
  have hb := HB0.out.trans (hb2.mono HB0.out.size)
  have q4 := blk3 g4
  clear hb2 hc
  go_wp2_with fail
  refine bodyPost_ret (v := .tuple #[tv 0 0 0, .int .i64 c]) (by simp [results, Tryz.results101, go_sem, q4]) rfl ⟨rfl, ?_⟩
  have hle : w.heap.size ≤ w.heap.size + 1 := by omega
  (repeat (first | (with_reducible assumption) | (with_reducible exact Below.refl _ _) | (with_reducible refine heap_drew ?_) | (focus ((with_reducible refine heap_new ?_) ; simp ; done)) | (with_reducible apply heap_set_to) | (focus ((with_reducible refine heap_set_ne ?_ ?_ _) ; rotate_left ; (focus (first | omega | (simp ; done) | (simp ; omega))))) | (with_reducible refine heap_old ?_) | (with_reducible refine Below.drew ?_) | (with_reducible refine below_set ?_ _ _) | (focus ((with_reducible refine Below.setCell ?_ ?_ _) ; rotate_left ; (focus (first | omega | (simp ; done) | (simp ; omega))))) | (focus ((with_reducible refine Below.alloc ?_ ?_ _) ; rotate_left ; (focus (first | omega | (simp ; done) | (simp ; omega))))) | (with_reducible rfl) | (focus (simp ; done))))
/-- What a fold leaves. -/
def SFr (w : World) (sb tb mb : Nat) (node clock : Int) (M : Nat) (t : Tr) (S : T3) (E : Int) (x : Ending) (w' : World) : Prop :=
  x = .returned (.tuple #[tv S.1 S.2.1 S.2.2, .int .i64 E]) ∧ ∃ m, m ≤ 4 * t.high ∧ StAt w' sb tb mb node clock (M + m) t ∧ Keep (fun k => k = mb) w w'
def NFr (w : World) (b2 sb tb mb : Nat) (node clock : Int) (M : Nat) (t : Tr) (S : T3) (w' : World) : Prop := w'.heap[b2]? = some (.cells #[.int .i64 S.1, .int .u64 S.2.1, .int .u64 S.2.2] 49 (0, 0)) ∧ (∃ c, c ≤ 4 * t.high ∧ StAt w' sb tb mb node clock (M + c) t) ∧ Keep (fun k => k = b2 ∨ k = mb) w w'
set_option maxRecDepth 100000 in
set_option maxHeartbeats 8000000 in
theorem nfold1g (b0 b1 b2 nb db sb tb mb : Nat) (c0 c1 c2 c3 node clock : Int) (M : Nat) (t : Tr) (lo hi : ByteArray) (op : Bool) (z S : T3) (E : Int) (w : World) (hb20 : 0 ≠ b2)
    (hF : ∀ w : World, StAt w sb tb mb node clock M t → Calls Tryz.prog 101 #[.pointer (some ⟨sb, 0, none⟩), rgV lo hi op] w (SFr w sb tb mb node clock M t S E))
    (hn : NdAt w nb sb db c0 c1 c2 c3) (h : StAt w sb tb mb node clock M t)
    (g0 : w.heap[b0]? = some (.cells #[.pointer (some ⟨nb, 0, none⟩)] 93 (0, 0))) (g1 : w.heap[b1]? = some (.cells #[.string lo, .string hi, .bool op] 36 (0, 0)))
    (g2 : w.heap[b2]? = some (.cells #[.int .i64 z.1, .int .u64 z.2.1, .int .u64 z.2.2] 49 (0, 0))) :
    Calls Tryz.prog 100 #[.pointer (some ⟨b0, 0, none⟩), .pointer (some ⟨b1, 0, none⟩), .pointer (some ⟨b2, 0, none⟩)] w fun e w' => ∃ c, e = .returned (.int .i64 c) ∧ c = E ∧ NFr w b2 sb tb mb node clock M t S w' := by
  have HF := Lib.hid hF
  obtain ⟨S1, S2, S3⟩ := S
  have n2 : b2 ≠ mb := fun e => ne_type h.mt (ty' := 49) (by decide) _ _ _ g2 e
  have HN := Lib.hid (And.intro hn (And.intro h (And.intro g0 (And.intro g1 g2))))
  clear hn h g0 g1 g2 hF
  go_enter Tryz.func100, Tryz.ntmps100
  go_wp2_with fail
  have hSt : Stable (fun w3 : World => (Below w.heap.size w w3)) := by repeat (first | exact stable_ext _ | exact stable_blk _ _ | exact stable_true | (refine stable_bel ?_ ; (focus (first | (simp [World.size_setCell] ; done) | (simp [World.setCell] ; done)))) | refine Stable.and ?_ ?_)
  refine wp_region_x [0, 1, 2, 3, 4, 5, 6, 7, 8, 9, 10] [1, 0, 0, 1, 1, 3, 0, 0, 0, 3, 0] (fun w3 => (Below w.heap.size w w3)) (by kernel_rfl) (by kernel_rfl) ?_ ?_
  · (first | trivial | (repeat (first | (with_reducible assumption) | (with_reducible exact Below.refl _ _) | (with_reducible refine heap_drew ?_) | (focus ((with_reducible refine heap_new ?_) ; simp ; done)) | (with_reducible apply heap_set_to) | (focus ((with_reducible refine heap_set_ne ?_ ?_ _) ; rotate_left ; (focus (first | omega | (simp ; done) | (simp ; omega))))) | (with_reducible refine heap_old ?_) | (with_reducible refine Below.drew ?_) | (with_reducible refine below_set ?_ _ _) | (focus ((with_reducible refine Below.setCell ?_ ?_ _) ; rotate_left ; (focus (first | omega | (simp ; done) | (simp ; omega))))) | (focus ((with_reducible refine Below.alloc ?_ ?_ _) ; rotate_left ; (focus (first | omega | (simp ; done) | (simp ; omega))))) | (with_reducible rfl) | (focus (simp ; done)))))
  simp only [List.map_cons, List.map_nil, List.getD_cons_zero, List.getD_cons_succ]
  (refine x_quiet rfl hSt (fun _ h => h) _ ?_ rfl (by simp) ?_ ?_ ; rotate_left ; · (intro w3 hC K hK ; have hb := hC ; have q := ndCells (blk_below HN.out.1 hb) ; have q0 := blk1 (blk_below HN.out.2.2.1 hb) ; have q1 := blk3 (blk_below HN.out.2.2.2.1 hb) ; go_wp2_with fail ; refine ⟨?_, Below.refl _ _⟩ ; exact rfl))
  simp only [Act.put, List.setIfInBounds_toArray, List.set_cons_succ, List.set_cons_zero]
  (refine x_pure rfl _ ?_ rfl (by simp) ?_ ?_ ; rotate_left ; · (intro w3 K hK ; go_wp2_with fail ; exact rfl))
  simp only [Act.put, List.setIfInBounds_toArray, List.set_cons_succ, List.set_cons_zero]
  (refine x_pure rfl _ ?_ rfl (by simp) ?_ ?_ ; rotate_left ; · (intro w3 K hK ; go_wp2_with fail ; exact rfl))
  simp only [Act.put, List.setIfInBounds_toArray, List.set_cons_succ, List.set_cons_zero]
  (refine x_quiet rfl hSt (fun _ h => h) _ ?_ rfl (by simp) ?_ ?_ ; rotate_left ; · (intro w3 hC K hK ; have hb := hC ; have q := ndCells (blk_below HN.out.1 hb) ; have q0 := blk1 (blk_below HN.out.2.2.1 hb) ; have q1 := blk3 (blk_below HN.out.2.2.2.1 hb) ; go_wp2_with fail ; refine ⟨?_, Below.refl _ _⟩ ; exact rfl))
  simp only [Act.put, List.setIfInBounds_toArray, List.set_cons_succ, List.set_cons_zero]
  (refine x_quiet rfl hSt (fun _ h => h) _ ?_ rfl (by simp) ?_ ?_ ; rotate_left ; · (intro w3 hC K hK ; have hb := hC ; have q := ndCells (blk_below HN.out.1 hb) ; have q0 := blk1 (blk_below HN.out.2.2.1 hb) ; have q1 := blk3 (blk_below HN.out.2.2.2.1 hb) ; go_wp2_with fail ; refine ⟨?_, Below.refl _ _⟩ ; exact rfl))
  simp only [Act.put, List.setIfInBounds_toArray, List.set_cons_succ, List.set_cons_zero]
  refine x_write rfl ?_
  intro w3 hD K hK ; have hb := hD ; have q := ndCells (blk_below HN.out.1 hb) ; have q0 := blk1 (blk_below HN.out.2.2.1 hb) ; have q1 := blk3 (blk_below HN.out.2.2.2.1 hb)
  go_wp2_with fail
  refine (HF.out w3 (HN.out.2.1.below hb)).mono ?_
  rintro x9 w9 ⟨rfl, c, hc9, hst9, hk9⟩
  have HZ := Lib.hid (And.intro hst9 (And.intro (hk9.blk (blk_below HN.out.2.2.2.2 hb) n2) ((Keep.of_below hb).trans hk9)))
  have q2 := blk3 HZ.out.2.1
  clear q q0 q1 hst9 hk9 hb hSt
  refine hK _ _ ?_
  try simp only [Act.put, List.setIfInBounds_toArray, List.set_cons_succ, List.set_cons_zero]
  (refine x_pure rfl _ ?_ rfl (by simp) ?_ ?_ ; rotate_left ; · (intro w3 K hK ; go_wp2_with fail ; exact rfl))
  simp only [Act.put, List.setIfInBounds_toArray, List.set_cons_succ, List.set_cons_zero]
  (refine x_pure rfl _ ?_ rfl (by simp) ?_ ?_ ; rotate_left ; · (intro w3 K hK ; go_wp2_with fail ; exact rfl))
  simp only [Act.put, List.setIfInBounds_toArray, List.set_cons_succ, List.set_cons_zero]
  (refine x_pure rfl _ ?_ rfl (by simp) ?_ ?_ ; rotate_left ; · (intro w3 K hK ; go_wp2_with fail ; exact rfl))
  simp only [Act.put, List.setIfInBounds_toArray, List.set_cons_succ, List.set_cons_zero]
  refine x_write rfl ?_
  rintro w9 rfl K hK
  go_wp2_with fail
  try simp only [Act.put, List.setIfInBounds_toArray, List.set_cons_succ, List.set_cons_zero]
  (refine x_pure rfl _ ?_ rfl (by simp) ?_ ?_ ; rotate_left ; · (intro w3 K hK ; go_wp2_with fail ; exact rfl))
  simp only [Act.put, List.setIfInBounds_toArray, List.set_cons_succ, List.set_cons_zero]
  first | refine x_nil ?_ | refine x_end ?_
  rintro _ rfl
  have hke : Keep (fun k => k = b2) w9 (((w9.setCell ⟨b2, 0, none⟩ (.int .i64 S1)).setCell ⟨b2, 1, none⟩ (.int .u64 S2)).setCell ⟨b2, 2, none⟩ (.int .u64 S3)) :=
    ((Keep.set _ ⟨b2, 0, none⟩ _).trans (Keep.set _ ⟨b2, 1, none⟩ _)).trans (Keep.set _ ⟨b2, 2, none⟩ _)
  go_wp2_with fail
  go_ret
  refine ⟨E, rfl, rfl, ?_, ⟨c, hc9, HZ.out.1.side HZ.out.2.1 (by decide) (by decide) (by decide) (by decide) hb20 hke⟩, (HZ.out.2.2.mono fun _ _ h => Or.inr h).trans (hke.mono fun _ _ h => Or.inl h)⟩
  have e0 := heap_set_to HZ.out.2.1 (o := 0) (v := .int .i64 S1) rfl
  have e1 := heap_set_to e0 (o := 1) (v := .int .u64 S2) rfl
  have e2 := heap_set_to e1 (o := 2) (v := .int .u64 S3) rfl
  simpa using e2
set_option maxRecDepth 100000 in
set_option maxHeartbeats 8000000 in
theorem nfold_any (nb db sb tb mb : Nat) (c0 c1 c2 c3 node clock : Int) (M : Nat) (t : Tr) (lo hi : ByteArray) (op : Bool) (S : T3) (E : Int) (w : World)
    (hF : ∀ w : World, StAt w sb tb mb node clock M t → Calls Tryz.prog 101 #[.pointer (some ⟨sb, 0, none⟩), rgV lo hi op] w (SFr w sb tb mb node clock M t S E))
    (hn : NdAt w nb sb db c0 c1 c2 c3) (h : StAt w sb tb mb node clock M t) :
    Calls Tryz.prog 66 #[.pointer (some ⟨nb, 0, none⟩), rgV lo hi op] w (SFr w sb tb mb node clock M t S E) := by
  have HS := Lib.hid hF
  obtain ⟨k0, k1, k2, k4⟩ := alloc3 w (.cells #[.pointer (some ⟨nb, 0, none⟩)] 93 (0, 0)) (.cells #[.string lo, .string hi, .bool op] 36 (0, 0)) (.cells #[.int .i64 0, .int .u64 0, .int .u64 0] 49 (0, 0))
  have HN := Lib.hid (And.intro (show NdAt _ nb sb db c0 c1 c2 c3 from blk_below hn k0) (And.intro (h.below k0) (And.intro k0 (And.intro k1 (And.intro k2 k4)))))
  have hpos := h.lanes.lt
  clear hF hn h k0 k1 k2 k4
  go_enter Tryz.func66, Tryz.ntmps66
  go_wp2_with fail
  refine (up_fold nb sb db c0 c1 c2 c3 _ _ _ HN.out.1 (nfold1g _ _ _ nb db sb tb mb c0 c1 c2 c3 node clock M t lo hi op (0, 0, 0) S E _ (by omega) HS.out HN.out.1 HN.out.2.1 HN.out.2.2.2.1 HN.out.2.2.2.2.1 HN.out.2.2.2.2.2)).mono ?_
  rintro e w2 ⟨c, rfl, rfl, g3, ⟨m, hm, hst⟩, hk⟩
  have HZ := Lib.hid (And.intro hst (And.intro ((Keep.of_below HN.out.2.2.1).trans hk) g3))
  have q4 := blk3 g3
  obtain ⟨S1, S2, S3⟩ := S
  clear hst hk g3 HS
  go_wp2_with fail
  have hke : Keep (fun k => k = w.heap.size + 1 + 1) w2 (((w2.setCell ⟨w.heap.size + 1 + 1, 0, none⟩ (.int .i64 S1)).setCell ⟨w.heap.size + 1 + 1, 1, none⟩ (.int .u64 S2)).setCell ⟨w.heap.size + 1 + 1, 2, none⟩ (.int .u64 S3)) := ((Keep.set w2 ⟨w.heap.size + 1 + 1, 0, none⟩ _).trans (Keep.set _ ⟨w.heap.size + 1 + 1, 1, none⟩ _)).trans (Keep.set _ ⟨w.heap.size + 1 + 1, 2, none⟩ _)
  refine bodyPost_ret (v := .tuple #[tv S1 S2 S3, .int .i64 c]) (by simp [results, Tryz.results66, go_sem, q4]) rfl ⟨rfl, m, hm, ?_, ?_⟩
  · exact HZ.out.1.side HZ.out.2.2 (by decide) (by decide) (by decide) (by decide) (by omega) hke
  · exact (HZ.out.2.1.mono fun k hk h => h.resolve_left (by omega)).transNew hke fun k e => by rw [e]; omega

/-! ### Get -/
/-- What a Get answers. -/
def NGetR (w : World) (key : ByteArray) (t : Tr) (e : Ending) (w' : World) : Prop := ∃ (x : Ent) (xb : Bool) (c : Int), (x, xb) = (if 16 < key.size then (ent0, false) else (entOf (getT key t), (getT key t).isSome)) ∧ c = (if 16 < key.size then 20 else 0) ∧ e = .returned (.tuple #[evE x, .bool xb, .int .i64 c]) ∧ Below w.heap.size w w'
abbrev entO (x : Ent) : Obj := .cells #[.string x.1, .int .i64 x.2.1, .int .i64 x.2.2.1, .string x.2.2.2.1, .bool x.2.2.2.2] entT (0, 0)
/-- The block b alone may turn; if it held X it holds it still. -/
def GSame (b : Nat) (X : Obj) (w w' : World) : Prop := Keep (fun k => k = b) w w' ∧ (w.heap[b]? = some X → w'.heap[b]? = some X)
theorem GSame.refl (b : Nat) (X : Obj) (w : World) : GSame b X w w := ⟨Keep.refl _ _, fun h => h⟩
instance (b : Nat) (X : Obj) : G.Grows (GSame b X) where
  trans := fun _ _ _ h k => ⟨h.1.trans k.1, fun e => k.2 (h.2 e)⟩
  below := fun _ _ h => ⟨Keep.of_below h, fun e => blk_below e h⟩
def NgC (w2 : World) (b2 b3 : Nat) (x : Ent) (xb : Bool) (w : World) : Prop := Keep (fun k => k = b2) w2 w ∧ w.heap[b2]? = some (entO x) ∧ w.heap[b3]? = some (.cells #[.bool xb] 4 (0, 0))
def NgD (w2 : World) (b2 b3 : Nat) (x : Ent) (xb : Bool) (w : World) : Prop := Keep (fun k => k = b2 ∨ k = b3) w2 w ∧ w.heap[b2]? = some (entO x) ∧ w.heap[b3]? = some (.cells #[.bool xb] 4 (0, 0))
theorem gsame_set {w : World} {b : Nat} {x : Ent} (h : w.heap[b]? = some (entO x)) : GSame b (entO x) w (((((w.setCell ⟨b, 0, none⟩ (.string x.1)).setCell ⟨b, 1, none⟩ (.int .i64 x.2.1)).setCell ⟨b, 2, none⟩ (.int .i64 x.2.2.1)).setCell ⟨b, 3, none⟩ (.string x.2.2.2.1)).setCell ⟨b, 4, none⟩ (.bool x.2.2.2.2)) := by
  refine ⟨((((Keep.set _ ⟨b, 0, none⟩ _).trans (Keep.set _ ⟨b, 1, none⟩ _)).trans (Keep.set _ ⟨b, 2, none⟩ _)).trans (Keep.set _ ⟨b, 3, none⟩ _)).trans (Keep.set _ ⟨b, 4, none⟩ _), fun _ => ?_⟩
  have h0 := heap_set_to h (o := 0) (v := .string x.1) rfl
  have h1 := heap_set_to h0 (o := 1) (v := .int .i64 x.2.1) rfl
  have h2 := heap_set_to h1 (o := 2) (v := .int .i64 x.2.2.1) rfl
  have h3 := heap_set_to h2 (o := 3) (v := .string x.2.2.2.1) rfl
  have h4 := heap_set_to h3 (o := 4) (v := .bool x.2.2.2.2) rfl
  simpa using h4
theorem NgC.grow {w2 : World} {b2 b3 : Nat} {x : Ent} {xb : Bool} {w w' : World} (h : NgC w2 b2 b3 x xb w) (hg : GSame b2 (entO x) w w') (hn : b3 ≠ b2) : NgC w2 b2 b3 x xb w' := ⟨h.1.trans hg.1, hg.2 h.2.1, hg.1.blk h.2.2 hn⟩
theorem NgC.set3 {w2 : World} {b2 b3 : Nat} {x : Ent} {xb : Bool} {w : World} (h : NgC w2 b2 b3 x xb w) (hn : b2 ≠ b3) : NgD w2 b2 b3 x xb (w.setCell ⟨b3, 0, none⟩ (.bool xb)) :=
  ⟨(h.1.mono fun _ _ h => Or.inl h).trans ((Keep.set w ⟨b3, 0, none⟩ _).mono fun _ _ h => Or.inr h), heap_set_ne h.2.1 hn _, heap_set_to h.2.2 (by simp)⟩
set_option maxRecDepth 100000 in
set_option maxHeartbeats 8000000 in
theorem nget_any (nb db sb tb mb : Nat) (c0 c1 c2 c3 node clock : Int) (M : Nat) (t : Tr) (key : ByteArray) (w : World) (hk : key.size ≤ 140737488351232) (hn : NdAt w nb sb db c0 c1 c2 c3) (h : StAt w sb tb mb node clock M t) :
    Calls Tryz.prog 64 #[.pointer (some ⟨nb, 0, none⟩), .string key] w (NGetR w key t) := by
  obtain ⟨k0, k1, k2, k3, k4⟩ := alloc4 w (.cells #[.pointer (some ⟨nb, 0, none⟩)] 93 (0, 0)) (.cells #[.string key] 9 (0, 0)) (.cells #[.string ⟨#[]⟩, .int .i64 0, .int .i64 0, .string ⟨#[]⟩, .bool false] entT (0, 0)) (.cells #[.bool false] 4 (0, 0))
  have HN := Lib.hid (And.intro (show NdAt _ nb sb db c0 c1 c2 c3 from blk_below hn k0) (And.intro (h.below k0) (And.intro k0 (And.intro k1 (And.intro k2 (And.intro k3 k4))))))
  clear hn h k0 k1 k2 k3 k4
  go_enter Tryz.func64, Tryz.ntmps64
  go_wp2_with fail
  generalize (((w.alloc (.cells #[.pointer (some ⟨nb, 0, none⟩)] 93 (0, 0))).alloc (.cells #[.string key] 9 (0, 0))).alloc (.cells #[.string ⟨#[]⟩, .int .i64 0, .int .i64 0, .string ⟨#[]⟩, .bool false] entT (0, 0))).alloc (.cells #[.bool false] 4 (0, 0)) = W1 at *
  refine (up_get nb sb db c0 c1 c2 c3 _ _ (fun c w' => NGetOf W1 (w.heap.size + 1 + 1) (w.heap.size + 1 + 1 + 1) key t (.returned (.int .i64 c)) w') HN.out.1 ((nget1_any _ _ _ _ nb db sb tb mb c0 c1 c2 c3 node clock M t key ent0 false _ hk HN.out.1 HN.out.2.1 HN.out.2.2.2.1 HN.out.2.2.2.2.1 HN.out.2.2.2.2.2.1 HN.out.2.2.2.2.2.2).mono (fun e w' h => ⟨_, h.1, h.1 ▸ h⟩))).mono ?_
  rintro e w2 ⟨c, rfl, hc, x, xb, hx, g2, g3, hk2⟩
  have hc : c = (if 16 < key.size then 20 else 0) := by simpa using hc
  have HZ := Lib.hid (And.intro hx (And.intro ((Keep.of_below HN.out.2.2.1).trans hk2) (And.intro g2 (And.intro g3 hc))))
  obtain ⟨x1, x2, x3, x4, x5⟩ := x
  clear hx g2 g3 hk2 hc hk
  go_wp2_with fail
  obtain ⟨b2, e2⟩ : ∃ b, b = w.heap.size + 1 + 1 := ⟨_, rfl⟩
  obtain ⟨b3, e3⟩ : ∃ b, b = w.heap.size + 1 + 1 + 1 := ⟨_, rfl⟩
  rw [← e3, ← e2] at HZ
  rw [← e3, ← e2]
  have HE : Hid (w.heap.size ≤ b2 ∧ w.heap.size ≤ b3 ∧ b2 ≠ b3) := by refine ⟨?_, ?_, ?_⟩ <;> omega
  clear e2 e3 HN
  have HX0 : Hid (w2.heap[b2]? = some (entO (x1, x2, x3, x4, x5))) := HZ.out.2.2.1
  have hS3 : ∀ zw zx : World, Below w2.heap.size w2 zw → GSame b2 (entO (x1, x2, x3, x4, x5)) zw zx → NgC w2 b2 b3 (x1, x2, x3, x4, x5) xb zx := fun zw zx hd hg => ⟨(Keep.of_below hd).trans hg.1, hg.2 (blk_below HX0.out hd), hg.1.blk (blk_below HZ.out.2.2.2.1 hd) (fun e => HE.out.2.2 e.symm)⟩
  have hDC : ∀ zw zx : World, (Below w2.heap.size w2 zw) → (GSame b2 (entO (x1, x2, x3, x4, x5))) zw zx → (fun w3 : World => (NgC w2 b2 b3 (x1, x2, x3, x4, x5) xb w3)) zx := hS3
  have hSt : Stable (fun w3 : World => Below w2.heap.size w2 w3) := by repeat (first | exact stable_ext _ | exact stable_blk _ _ | exact stable_true | (refine stable_bel ?_ ; (focus (first | (simp [World.size_setCell] ; done) | (simp [World.setCell] ; done)))) | refine Stable.and ?_ ?_)
  refine G.wp_region_x (G := GSame b2 (entO (x1, x2, x3, x4, x5))) (D0 := fun w3 : World => Below w2.heap.size w2 w3) [0, 1, 2, 3, 4, 5] [1, 1, 0, 4, 3, 0] (fun w3 => (NgC w2 b2 b3 (x1, x2, x3, x4, x5) xb w3)) (by kernel_rfl) (by kernel_rfl) ?_ ?_
  · (exact (Below.refl _ _).drew)
  simp only [List.map_cons, List.map_nil, List.getD_cons_zero, List.getD_cons_succ]
  (refine G.x_quiet rfl hSt hDC _ ?_ rfl (by simp) ?_ ?_ ; rotate_left ; · (intro w3 hC K hK ; have hc := hC ; (first | (have q2 := blk5 hc.2.1) | (have q2 := blk5 (blk_below HX0.out hc))) ; (first | (have q3 := blk1 hc.2.2) | skip) ; go_wp2_with fail ; refine ⟨?_, Below.refl _ _⟩ ; exact rfl))
  simp only [Act.put, List.setIfInBounds_toArray, List.set_cons_succ, List.set_cons_zero]
  (refine G.x_quiet rfl hSt hDC _ ?_ rfl (by simp) ?_ ?_ ; rotate_left ; · (intro w3 hC K hK ; have hc := hC ; (first | (have q2 := blk5 hc.2.1) | (have q2 := blk5 (blk_below HX0.out hc))) ; (first | (have q3 := blk1 hc.2.2) | skip) ; go_wp2_with fail ; refine ⟨?_, Below.refl _ _⟩ ; exact rfl))
  simp only [Act.put, List.setIfInBounds_toArray, List.set_cons_succ, List.set_cons_zero]
  (refine G.x_pure rfl _ ?_ rfl (by simp) ?_ ?_ ; rotate_left ; · (intro w3 K hK ; go_wp2_with fail ; exact rfl))
  simp only [Act.put, List.setIfInBounds_toArray, List.set_cons_succ, List.set_cons_zero]
  refine G.x_make rfl ?_
  intro w3 hD K hK ; have hc := hD ; (first | (have q2 := blk5 hc.2.1) | (have q2 := blk5 (blk_below HX0.out hc))) ; (first | (have q3 := blk1 hc.2.2) | skip)
  have hC3 := hS3 _ _ hc (GSame.refl _ _ _)
  go_wp2_with fail
  have hg9 := gsame_set (x := (x1, x2, x3, x4, x5)) hC3.2.1
  have hC9 := hS3 _ _ hc hg9
  clear q2 hC3 hc
  refine hK _ _ hg9 ?_
  generalize ((((w3.setCell ⟨b2, 0, none⟩ (.string x1)).setCell ⟨b2, 1, none⟩ (.int .i64 x2)).setCell ⟨b2, 2, none⟩ (.int .i64 x3)).setCell ⟨b2, 3, none⟩ (.string x4)).setCell ⟨b2, 4, none⟩ (.bool x5) = w9 at *
  try simp only [Act.put, List.setIfInBounds_toArray, List.set_cons_succ, List.set_cons_zero]
  refine G.x_write rfl ?_
  intro wy hyb K hK
  have hY := hC9.grow ⟨Keep.of_below hyb, fun e => blk_below e hyb⟩ (fun e => HE.out.2.2 e.symm)
  have q3 := blk1 hY.2.2
  have HY := Lib.hid hY
  clear hY hyb hC9
  go_wp2_with fail
  try simp only [Act.put, List.setIfInBounds_toArray, List.set_cons_succ, List.set_cons_zero]
  (refine G.x_pure rfl _ ?_ rfl (by simp) ?_ ?_ ; rotate_left ; · (intro w3 K hK ; go_wp2_with fail ; exact rfl))
  simp only [Act.put, List.setIfInBounds_toArray, List.set_cons_succ, List.set_cons_zero]
  first | refine G.x_nil ?_ | refine G.x_end ?_
  rintro _ rfl
  have hfin := HY.out.set3 (fun e => HE.out.2.2 e)
  have q2 := blk5 hfin.2.1
  have q3 := blk1 hfin.2.2
  have HF := Lib.hid hfin
  clear hfin
  generalize wy.setCell ⟨b3, 0, none⟩ (.bool xb) = w9 at *
  go_wp2_with fail
  refine bodyPost_ret (v := .tuple #[evE (x1, x2, x3, x4, x5), .bool xb, .int .i64 c]) (by simp [results, Tryz.results64, go_sem, q2, q3]) rfl ⟨_, _, c, HZ.out.1, HZ.out.2.2.2.2, rfl, ?_⟩
  exact ((HZ.out.2.1.trans HF.out.1).below (Nat.le_refl _) (fun k e => by have := HE.out; rcases e with rfl | rfl <;> omega))
end Go.Proofs.YtdflmplmpjghdaaGreatDoor
namespace Go.Proofs.YtdflmplmpjghdaaGreatDoor
open Go.ChangeShapes Go.WideShapes Go.ChangeAt Go.RowKit Go.Deep Go.Shelf
set_option linter.unusedVariables false
set_option linter.unusedSimpArgs false
set_option maxRecDepth 100000
attribute [local go_sem] Oper.semAt_some

def NScanBad (w : World) (b2 : Nat) (w' : World) : Prop := w'.heap[b2]? = some (.cells #[.nilFunc] 137 (0, 0)) ∧ Keep (fun k => k = b2) w w'
set_option maxRecDepth 100000 in
set_option maxHeartbeats 8000000 in
theorem nscan1_bad (b0 b1 b2 nb db sb tb mb : Nat) (c0 c1 c2 c3 node clock : Int) (M : Nat) (t : Tr) (lo hi : ByteArray) (op : Bool) (w : World) (c : Int) (hc0 : c ≠ 0)
    (hc : ∀ w : World, Calls Tryz.prog 82 #[rgV lo hi op] w fun e w' => e = .returned (.int .i64 c) ∧ Below w.heap.size w w')
    (hn : NdAt w nb sb db c0 c1 c2 c3) (h : StAt w sb tb mb node clock M t)
    (g0 : w.heap[b0]? = some (.cells #[.pointer (some ⟨nb, 0, none⟩)] 93 (0, 0))) (g1 : w.heap[b1]? = some (.cells #[.string lo, .string hi, .bool op] 36 (0, 0)))
    (g2 : w.heap[b2]? = some (.cells #[.nilFunc] 137 (0, 0))) :
    Calls Tryz.prog 98 #[.pointer (some ⟨b0, 0, none⟩), .pointer (some ⟨b1, 0, none⟩), .pointer (some ⟨b2, 0, none⟩)] w fun e w' => ∃ c', e = .returned (.int .i64 c') ∧ c' = c ∧ NScanBad w b2 w' := by
  have HC := Lib.hid hc
  have HN := Lib.hid (And.intro hn (And.intro h (And.intro g0 (And.intro g1 g2))))
  clear hc hn h g0 g1 g2
  go_enter Tryz.func98, Tryz.ntmps98
  go_wp2_with fail
  have hSt : Stable (fun w3 : World => (Below w.heap.size w w3)) := by repeat (first | exact stable_ext _ | exact stable_blk _ _ | exact stable_true | (refine stable_bel ?_ ; (focus (first | (simp [World.size_setCell] ; done) | (simp [World.setCell] ; done)))) | refine Stable.and ?_ ?_)
  refine wp_region_x [0, 1, 2, 3, 4, 5, 6, 7, 8, 9, 10] [1, 0, 0, 1, 1, 4, 0, 0, 0, 3, 0] (fun w3 => (Below w.heap.size w w3)) (by kernel_rfl) (by kernel_rfl) ?_ ?_
  · (first | trivial | (repeat (first | (with_reducible assumption) | (with_reducible exact Below.refl _ _) | (with_reducible refine heap_drew ?_) | (focus ((with_reducible refine heap_new ?_) ; simp ; done)) | (with_reducible apply heap_set_to) | (focus ((with_reducible refine heap_set_ne ?_ ?_ _) ; rotate_left ; (focus (first | omega | (simp ; done) | (simp ; omega))))) | (with_reducible refine heap_old ?_) | (with_reducible refine Below.drew ?_) | (with_reducible refine below_set ?_ _ _) | (focus ((with_reducible refine Below.setCell ?_ ?_ _) ; rotate_left ; (focus (first | omega | (simp ; done) | (simp ; omega))))) | (focus ((with_reducible refine Below.alloc ?_ ?_ _) ; rotate_left ; (focus (first | omega | (simp ; done) | (simp ; omega))))) | (with_reducible rfl) | (focus (simp ; done)))))
  simp only [List.map_cons, List.map_nil, List.getD_cons_zero, List.getD_cons_succ]
  (refine x_quiet rfl hSt (fun _ h => h) _ ?_ rfl (by simp) ?_ ?_ ; rotate_left ; · (intro w3 hC K hK ; have hb := hC ; have q := ndCells (blk_below HN.out.1 hb) ; have q0 := blk1 (blk_below HN.out.2.2.1 hb) ; have q1 := blk3 (blk_below HN.out.2.2.2.1 hb) ; go_wp2_with fail ; refine ⟨?_, Below.refl _ _⟩ ; exact rfl))
  simp only [Act.put, List.setIfInBounds_toArray, List.set_cons_succ, List.set_cons_zero]
  (refine x_pure rfl _ ?_ rfl (by simp) ?_ ?_ ; rotate_left ; · (intro w3 K hK ; go_wp2_with fail ; exact rfl))
  simp only [Act.put, List.setIfInBounds_toArray, List.set_cons_succ, List.set_cons_zero]
  (refine x_pure rfl _ ?_ rfl (by simp) ?_ ?_ ; rotate_left ; · (intro w3 K hK ; go_wp2_with fail ; exact rfl))
  simp only [Act.put, List.setIfInBounds_toArray, List.set_cons_succ, List.set_cons_zero]
  (refine x_quiet rfl hSt (fun _ h => h) _ ?_ rfl (by simp) ?_ ?_ ; rotate_left ; · (intro w3 hC K hK ; have hb := hC ; have q := ndCells (blk_below HN.out.1 hb) ; have q0 := blk1 (blk_below HN.out.2.2.1 hb) ; have q1 := blk3 (blk_below HN.out.2.2.2.1 hb) ; go_wp2_with fail ; refine ⟨?_, Below.refl _ _⟩ ; exact rfl))
  simp only [Act.put, List.setIfInBounds_toArray, List.set_cons_succ, List.set_cons_zero]
  (refine x_quiet rfl hSt (fun _ h => h) _ ?_ rfl (by simp) ?_ ?_ ; rotate_left ; · (intro w3 hC K hK ; have hb := hC ; have q := ndCells (blk_below HN.out.1 hb) ; have q0 := blk1 (blk_below HN.out.2.2.1 hb) ; have q1 := blk3 (blk_below HN.out.2.2.2.1 hb) ; go_wp2_with fail ; refine ⟨?_, Below.refl _ _⟩ ; exact rfl))
  simp only [Act.put, List.setIfInBounds_toArray, List.set_cons_succ, List.set_cons_zero]
  refine x_make rfl ?_
  intro w3 hD K hK ; have hb := hD ; have q := ndCells (blk_below HN.out.1 hb) ; have q0 := blk1 (blk_below HN.out.2.2.1 hb) ; have q1 := blk3 (blk_below HN.out.2.2.2.1 hb)
  go_wp2_with fail
  refine (scan_bad sb tb mb node clock M t lo hi op w3 c hc0 HC.out).mono ?_
  rintro x9 w9 ⟨rfl, hb9⟩
  have HZ := Lib.hid (hb.trans (hb9.mono hb.size))
  clear q q0 q1 hb
  refine hK _ _ hb9 ?_
  try simp only [Act.put, List.setIfInBounds_toArray, List.set_cons_succ, List.set_cons_zero]
  (refine x_pure rfl _ ?_ rfl (by simp) ?_ ?_ ; rotate_left ; · (intro w3 K hK ; go_wp2_with fail ; exact rfl))
  simp only [Act.put, List.setIfInBounds_toArray, List.set_cons_succ, List.set_cons_zero]
  (refine x_pure rfl _ ?_ rfl (by simp) ?_ ?_ ; rotate_left ; · (intro w3 K hK ; go_wp2_with fail ; exact rfl))
  simp only [Act.put, List.setIfInBounds_toArray, List.set_cons_succ, List.set_cons_zero]
  (refine x_pure rfl _ ?_ rfl (by simp) ?_ ?_ ; rotate_left ; · (intro w3 K hK ; go_wp2_with fail ; exact rfl))
  simp only [Act.put, List.setIfInBounds_toArray, List.set_cons_succ, List.set_cons_zero]
  refine x_write rfl ?_
  intro wy hyb K hK
  have HY := Lib.hid (HZ.out.trans (hyb.mono HZ.out.size))
  have g2 := blk_below HN.out.2.2.2.2 HY.out
  have q2 := blk1 g2
  have HG := Lib.hid g2
  clear g2 hyb
  go_wp2_with fail
  try simp only [Act.put, List.setIfInBounds_toArray, List.set_cons_succ, List.set_cons_zero]
  (refine x_pure rfl _ ?_ rfl (by simp) ?_ ?_ ; rotate_left ; · (intro w3 K hK ; go_wp2_with fail ; exact rfl))
  simp only [Act.put, List.setIfInBounds_toArray, List.set_cons_succ, List.set_cons_zero]
  first | refine x_nil ?_ | refine x_end ?_
  rintro _ rfl
  go_wp2_with fail
  go_ret
  exact ⟨c, rfl, rfl, heap_set_to HG.out (by simp), (Keep.of_below HY.out).trans (Keep.set _ ⟨b2, 0, none⟩ _)⟩
theorem ScanAt.keep {w w' : World} {bl : Nat} {t : Tr} {i j : Int} (h : ScanAt w bl t i j) {b : Nat} (hb : w.heap[b]? = some (.cells #[.nilFunc] 137 (0, 0))) (hk : Keep (fun k => k = b) w w') : ScanAt w' bl t i j := by
  obtain ⟨b2, h1, bn, bi, bj, h2, ⟨p, h3, h4⟩, h5, h6⟩ := h
  have n1 : bl ≠ b := fun e => by subst e; rw [h1] at hb; simp at hb
  exact ⟨b2, hk.blk h1 n1, bn, bi, bj, hk.blk h2 (ne_type hb (by decide) _ _ _ h2), ⟨p, hk.blk h3 (ne_type hb (by decide) _ _ _ h3), h4.keep hk (ne_type hb (by decide))⟩, hk.blk h5 (ne_type hb (by decide) _ _ _ h5), hk.blk h6 (ne_type hb (by decide) _ _ _ h6)⟩
set_option maxRecDepth 100000 in
set_option maxHeartbeats 8000000 in
theorem nscan_bad (nb db sb tb mb : Nat) (c0 c1 c2 c3 node clock : Int) (M : Nat) (t : Tr) (lo hi : ByteArray) (op : Bool) (w : World) (c : Int) (hc0 : c ≠ 0)
    (hc : ∀ w : World, Calls Tryz.prog 82 #[rgV lo hi op] w fun e w' => e = .returned (.int .i64 c) ∧ Below w.heap.size w w')
    (hn : NdAt w nb sb db c0 c1 c2 c3) (h : StAt w sb tb mb node clock M t) :
    Calls Tryz.prog 65 #[.pointer (some ⟨nb, 0, none⟩), rgV lo hi op] w fun e w' => e = .returned (.tuple #[.nilFunc, .int .i64 c]) ∧ Below w.heap.size w w' := by
  have HC := Lib.hid hc
  obtain ⟨k0, k1, k2, k4⟩ := alloc3 w (.cells #[.pointer (some ⟨nb, 0, none⟩)] 93 (0, 0)) (.cells #[.string lo, .string hi, .bool op] 36 (0, 0)) (.cells #[.nilFunc] 137 (0, 0))
  have HN := Lib.hid (And.intro (show NdAt _ nb sb db c0 c1 c2 c3 from blk_below hn k0) (And.intro (h.below k0) (And.intro k0 (And.intro k1 (And.intro k2 k4)))))
  clear hc hn h k0 k1 k2 k4
  go_enter Tryz.func65, Tryz.ntmps65
  go_wp2_with fail
  refine (up_scan nb sb db c0 c1 c2 c3 _ _ _ HN.out.1 (nscan1_bad _ _ _ nb db sb tb mb c0 c1 c2 c3 node clock M t lo hi op _ c hc0 HC.out HN.out.1 HN.out.2.1 HN.out.2.2.2.1 HN.out.2.2.2.2.1 HN.out.2.2.2.2.2)).mono ?_
  rintro e w2 ⟨c', rfl, rfl, g3, hk⟩
  have HZ := Lib.hid (And.intro ((Keep.of_below (p := fun k => k = w.heap.size + 1 + 1) HN.out.2.2.1).trans hk) g3)
  have q4 := blk1 g3
  clear hk g3
  go_wp2_with fail
  have hke : Keep (fun k => k = w.heap.size + 1 + 1) w2 (w2.setCell ⟨w.heap.size + 1 + 1, 0, none⟩ .nilFunc) := Keep.set w2 ⟨w.heap.size + 1 + 1, 0, none⟩ _
  refine bodyPost_ret (v := .tuple #[.nilFunc, .int .i64 c']) (by simp [results, Tryz.results65, go_sem, q4]) rfl ⟨rfl, (HZ.out.1.trans hke).below (Nat.le_refl _) (fun k e => by rw [e]; omega)⟩
set_option maxRecDepth 100000 in
set_option maxHeartbeats 8000000 in
theorem nscan_any (nb db sb tb mb : Nat) (c0 c1 c2 c3 node clock : Int) (M : Nat) (t : Tr) (lo hi : ByteArray) (op : Bool) (w : World) (hs : t.size ≤ 1000000)
    (hc : ∀ w : World, Calls Tryz.prog 82 #[rgV lo hi op] w fun e w' => e = .returned (.int .i64 0) ∧ Below w.heap.size w w')
    (hn : NdAt w nb sb db c0 c1 c2 c3) (h : StAt w sb tb mb node clock M t) :
    Calls Tryz.prog 65 #[.pointer (some ⟨nb, 0, none⟩), rgV lo hi op] w fun e w' => ∃ bl, e = .returned (.tuple #[scanV bl, .int .i64 0]) ∧ ScanAt w' bl t (rankT lo t : Int) (endT hi op t : Int) ∧ Below w.heap.size w w' := by
  have HC := Lib.hid hc
  obtain ⟨k0, k1, k2, k4⟩ := alloc3 w (.cells #[.pointer (some ⟨nb, 0, none⟩)] 93 (0, 0)) (.cells #[.string lo, .string hi, .bool op] 36 (0, 0)) (.cells #[.nilFunc] 137 (0, 0))
  have HN := Lib.hid (And.intro (show NdAt _ nb sb db c0 c1 c2 c3 from blk_below hn k0) (And.intro (h.below k0) (And.intro k0 (And.intro k1 (And.intro k2 k4)))))
  clear hc hn h k0 k1 k2 k4
  go_enter Tryz.func65, Tryz.ntmps65
  go_wp2_with fail
  generalize ((w.alloc (.cells #[.pointer (some ⟨nb, 0, none⟩)] 93 (0, 0))).alloc (.cells #[.string lo, .string hi, .bool op] 36 (0, 0))).alloc (.cells #[.nilFunc] 137 (0, 0)) = W1 at *
  refine (up_scan nb sb db c0 c1 c2 c3 _ _ (fun c w' => NScanOf W1 (w.heap.size + 1 + 1) t (rankT lo t : Int) (endT hi op t : Int) (.returned (.int .i64 c)) w') HN.out.1 ((nscan1_any _ _ _ nb db sb tb mb c0 c1 c2 c3 node clock M t lo hi op _ hs HC.out HN.out.1 HN.out.2.1 HN.out.2.2.2.1 HN.out.2.2.2.2.1 HN.out.2.2.2.2.2).mono (fun e w' h => ⟨_, h.1, h.1 ▸ h⟩))).mono ?_
  rintro e w2 ⟨c, rfl, hc, bl, g3, ⟨wx, hsx, hkx, hgx⟩, hk⟩
  obtain rfl : c = 0 := by simpa using hc
  have HZ := Lib.hid (And.intro ((Keep.of_below (p := fun k => k = w.heap.size + 1 + 1) HN.out.2.2.1).trans hk) (And.intro g3 (And.intro hsx (And.intro hkx hgx))))
  have q4 := blk1 g3
  clear hk g3 hsx hkx hgx hc
  go_wp2_with fail
  have hke : Keep (fun k => k = w.heap.size + 1 + 1) w2 (w2.setCell ⟨w.heap.size + 1 + 1, 0, none⟩ (scanV bl)) := Keep.set w2 ⟨w.heap.size + 1 + 1, 0, none⟩ _
  refine bodyPost_ret (v := .tuple #[scanV bl, .int .i64 0]) (by simp [results, Tryz.results65, go_sem, q4]) rfl ⟨bl, rfl, HZ.out.2.2.1.keep HZ.out.2.2.2.2 (HZ.out.2.2.2.1.trans hke), (HZ.out.1.trans hke).below (Nat.le_refl _) (fun k e => by rw [e]; omega)⟩
end Go.Proofs.YtdflmplmpjghdaaGreatDoor
