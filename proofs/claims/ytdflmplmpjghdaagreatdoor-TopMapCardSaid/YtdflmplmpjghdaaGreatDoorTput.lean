/-
  The tree: Put.
-/
import Derived.Test.YtdflmplmpjghdaaGreatDoorTops
namespace Go.Proofs.YtdflmplmpjghdaaGreatDoor
open Go.ChangeShapes Go.WideShapes Go.ChangeAt Go.RowKit Go.Deep
set_option linter.unusedVariables false
set_option linter.unusedSimpArgs false
set_option maxRecDepth 100000

theorem getV_form (o : Option Ent) : ∃ (x : Ent) (b : Bool), getV o = .tuple #[.agg #[.string x.1, .int .i64 x.2.1, .int .i64 x.2.2.1, .string x.2.2.2.1, .bool x.2.2.2.2], .bool b] := by
  cases o with
  | none => exact ⟨ent0, false, rfl⟩
  | some x => exact ⟨x, true, rfl⟩
theorem Keep.transNew {p q : Nat → Prop} {w a b : World} (h : Keep p w a) (k : Keep q a b) (hq : ∀ k, q k → w.heap.size ≤ k) : Keep p w b :=
  ⟨k.os.trans h.os, k.tape.trans h.tape, k.output.trans h.output, Nat.le_trans h.size k.size, fun i hi hn => (k.block i (Nat.lt_of_lt_of_le hi h.size) (fun hqi => by have := hq i hqi; omega)).trans (h.block i hi hn)⟩
theorem ne_type {w : World} {b : Nat} {cs : Array Value} {ty ty' : TypeId} {fr : Nat × Nat} (hb : w.heap[b]? = some (.cells cs ty fr)) (hne : ty ≠ ty') : ∀ g cs' fr', w.heap[g]? = some (.cells cs' ty' fr') → ¬ g = b := fun g cs' fr' hg e => by
  subst e
  rw [hb] at hg
  simp only [Option.some.injEq, Obj.cells.injEq] at hg
  exact hne hg.2.1
/-- What the call has in hand when the row is in the tree, but for the root. -/
structure TputAt (w W : World) (tb mb M c : Nat) (rt : Value) (t : Tr) (g b8 b10 : Nat) (x : Ent) : Prop where
  mt : Mt W mb (M + c)
  ob : TObj W tb mb rt
  tt : TreeAt W t (some g)
  keep : Keep (fun k => k = mb ∨ k = tb) w W
  g8 : W.heap[b8]? = some (.cells #[.string ⟨#[]⟩, .int .i64 0, .int .i64 0, .string ⟨#[]⟩, .bool false] 78 (0, 0))
  g10 : W.heap[b10]? = some (.cells #[.string x.1, .int .i64 x.2.1, .int .i64 x.2.2.1, .string x.2.2.2.1, .bool x.2.2.2.2] 78 (0, 0))
theorem TputAt.root {w W : World} {tb mb M c : Nat} {rt : Value} {t : Tr} {g b8 b10 : Nat} {x : Ent} (h : TputAt w W tb mb M c rt t g b8 b10 x) (v : Value) : TputAt w (W.setCell ⟨tb, 4, none⟩ v) tb mb M c v t g b8 b10 x := by
  have e1 : ¬ mb = tb := fun e => by
    have h1 := h.mt; have h2 := h.ob
    unfold Mt at h1; unfold TObj at h2
    rw [e, h2] at h1; simp at h1
  refine ⟨heap_set_ne h.mt e1 _, ?_, h.tt.keep (Keep.set W ⟨tb, 4, none⟩ v) (ne_type h.ob (by decide)), h.keep.trans ((Keep.set W ⟨tb, 4, none⟩ v).mono fun k _ hk => Or.inr hk), heap_set_ne h.g8 (by have := ne_type h.ob (ty' := 78) (by decide) _ _ _ h.g8; exact this) _, heap_set_ne h.g10 (by have := ne_type h.ob (ty' := 78) (by decide) _ _ _ h.g10; exact this) _⟩
  have := heap_set h.ob 4 v
  exact this
theorem TputAt.done {w W W' : World} {tb mb M c : Nat} {t : Tr} {g b8 b10 : Nat} {x : Ent} (h : TputAt w W tb mb M c (.pointer (pa (some g))) t g b8 b10 x) (h8 : w.heap.size ≤ b8) (hk : Keep (fun k => k = b8) W W') :
    Mt W' mb (M + c) ∧ TOb W' tb mb t ∧ Keep (fun k => k = mb ∨ k = tb) w W' := by
  refine ⟨hk.blk h.mt ?_, ⟨some g, hk.blk h.ob ?_, h.tt.keep hk (ne_type h.g8 (by decide))⟩, h.keep.transNew hk fun k e => by rw [e]; exact h8⟩
  · exact ne_type h.g8 (ty' := 276) (by decide) _ _ _ h.mt
  · exact ne_type h.g8 (ty' := 222) (by decide) _ _ _ h.ob
/-- What Tree.Put leaves. -/
def TPutOf (w : World) (mb tb M : Nat) (k : ByteArray) (e : Ent) (s : T3) (t : Tr) (x : Ending) (w' : World) : Prop :=
  x = .returned (getV (getT k t)) ∧ ∃ c, c ≤ 6 * t.high + 2 ∧ Mt w' mb (M + c) ∧ TOb w' tb mb (putT k e s t) ∧ Keep (fun k => k = mb ∨ k = tb) w w'
set_option maxRecDepth 100000 in
set_option maxHeartbeats 8000000 in
theorem tput_any (mb tb M : Nat) (k k1 k4 : ByteArray) (k2 k3 : Int) (k5 : Bool) (s1 s2 s3 : Int) (t : Tr) (w : World) (hm : Mt w mb M) (ht : TOb w tb mb t) (hf : M + 6 * t.high ≤ 4611686018427370000) (hs : t.size ≤ 1099511627000) :
    Calls Tryz.prog 121 #[.pointer (some ⟨tb, 0, none⟩), .string k, .agg #[.string k1, .int .i64 k2, .int .i64 k3, .string k4, .bool k5], .agg #[.int .i64 s1, .int .u64 s2, .int .u64 s3]] w (TPutOf w mb tb M k (k1, k2, k3, k4, k5) (s1, s2, s3) t) := by
  obtain ⟨gx, gb, hg⟩ := getV_form (getT k t)
  have HG := Lib.hid hg
  have HT := Lib.hid (And.intro hm ht)
  have hl1 := blk_lt hm
  have hl2 : tb < w.heap.size := by obtain ⟨_, h, _⟩ := ht; exact blk_lt h
  clear hm ht hg
  go_enter Tryz.func121, Tryz.ntmps121
  go_wp2_with fail
  have hb0 : Below w.heap.size w (((w.alloc (.cells #[.string k1, .int .i64 k2, .int .i64 k3, .string k4, .bool k5] 78 (0, 0))).alloc (.cells #[.int .i64 s1, .int .u64 s2, .int .u64 s3] 49 (0, 0))).alloc (.cells #[.string ⟨#[]⟩, .int .i64 0, .int .i64 0, .string ⟨#[]⟩, .bool false] 78 (0, 0))) := by (repeat (first | (with_reducible assumption) | (with_reducible exact Below.refl _ _) | (with_reducible refine heap_drew ?_) | (focus ((with_reducible refine heap_new ?_) ; simp ; done)) | (with_reducible apply heap_set_to) | (focus ((with_reducible refine heap_set_ne ?_ ?_ _) ; rotate_left ; (focus (first | omega | (simp ; done) | (simp ; omega))))) | (with_reducible refine heap_old ?_) | (with_reducible refine Below.drew ?_) | (with_reducible refine below_set ?_ _ _) | (focus ((with_reducible refine Below.setCell ?_ ?_ _) ; rotate_left ; (focus (first | omega | (simp ; done) | (simp ; omega))))) | (focus ((with_reducible refine Below.alloc ?_ ?_ _) ; rotate_left ; (focus (first | omega | (simp ; done) | (simp ; omega))))) | (with_reducible rfl) | (focus (simp ; done))))
  refine (tget_any tb mb k t _ (HT.out.2.below hb0)).mono ?_
  rintro e w1 ⟨rfl, hb1⟩
  rw [HG.out]
  clear hb0
  have g6 : w1.heap[w.heap.size]? = some (.cells #[.string k1, .int .i64 k2, .int .i64 k3, .string k4, .bool k5] 78 (0, 0)) := blk_below (by (repeat (first | (with_reducible assumption) | (with_reducible exact Below.refl _ _) | (with_reducible refine heap_drew ?_) | (focus ((with_reducible refine heap_new ?_) ; simp ; done)) | (with_reducible apply heap_set_to) | (focus ((with_reducible refine heap_set_ne ?_ ?_ _) ; rotate_left ; (focus (first | omega | (simp ; done) | (simp ; omega))))) | (with_reducible refine heap_old ?_) | (with_reducible refine Below.drew ?_) | (with_reducible refine below_set ?_ _ _) | (focus ((with_reducible refine Below.setCell ?_ ?_ _) ; rotate_left ; (focus (first | omega | (simp ; done) | (simp ; omega))))) | (focus ((with_reducible refine Below.alloc ?_ ?_ _) ; rotate_left ; (focus (first | omega | (simp ; done) | (simp ; omega))))) | (with_reducible rfl) | (focus (simp ; done))))) hb1
  have g7 : w1.heap[w.heap.size + 1]? = some (.cells #[.int .i64 s1, .int .u64 s2, .int .u64 s3] 49 (0, 0)) := blk_below (by (repeat (first | (with_reducible assumption) | (with_reducible exact Below.refl _ _) | (with_reducible refine heap_drew ?_) | (focus ((with_reducible refine heap_new ?_) ; simp ; done)) | (with_reducible apply heap_set_to) | (focus ((with_reducible refine heap_set_ne ?_ ?_ _) ; rotate_left ; (focus (first | omega | (simp ; done) | (simp ; omega))))) | (with_reducible refine heap_old ?_) | (with_reducible refine Below.drew ?_) | (with_reducible refine below_set ?_ _ _) | (focus ((with_reducible refine Below.setCell ?_ ?_ _) ; rotate_left ; (focus (first | omega | (simp ; done) | (simp ; omega))))) | (focus ((with_reducible refine Below.alloc ?_ ?_ _) ; rotate_left ; (focus (first | omega | (simp ; done) | (simp ; omega))))) | (with_reducible rfl) | (focus (simp ; done))))) hb1
  have g8 : w1.heap[w.heap.size + 1 + 1]? = some (.cells #[.string ⟨#[]⟩, .int .i64 0, .int .i64 0, .string ⟨#[]⟩, .bool false] 78 (0, 0)) := blk_below (by (repeat (first | (with_reducible assumption) | (with_reducible exact Below.refl _ _) | (with_reducible refine heap_drew ?_) | (focus ((with_reducible refine heap_new ?_) ; simp ; done)) | (with_reducible apply heap_set_to) | (focus ((with_reducible refine heap_set_ne ?_ ?_ _) ; rotate_left ; (focus (first | omega | (simp ; done) | (simp ; omega))))) | (with_reducible refine heap_old ?_) | (with_reducible refine Below.drew ?_) | (with_reducible refine below_set ?_ _ _) | (focus ((with_reducible refine Below.setCell ?_ ?_ _) ; rotate_left ; (focus (first | omega | (simp ; done) | (simp ; omega))))) | (focus ((with_reducible refine Below.alloc ?_ ?_ _) ; rotate_left ; (focus (first | omega | (simp ; done) | (simp ; omega))))) | (with_reducible rfl) | (focus (simp ; done))))) hb1
  have hb : Below w.heap.size w w1 := below_back (by (repeat (first | (with_reducible assumption) | (with_reducible exact Below.refl _ _) | (with_reducible refine heap_drew ?_) | (focus ((with_reducible refine heap_new ?_) ; simp ; done)) | (with_reducible apply heap_set_to) | (focus ((with_reducible refine heap_set_ne ?_ ?_ _) ; rotate_left ; (focus (first | omega | (simp ; done) | (simp ; omega))))) | (with_reducible refine heap_old ?_) | (with_reducible refine Below.drew ?_) | (with_reducible refine below_set ?_ _ _) | (focus ((with_reducible refine Below.setCell ?_ ?_ _) ; rotate_left ; (focus (first | omega | (simp ; done) | (simp ; omega))))) | (focus ((with_reducible refine Below.alloc ?_ ?_ _) ; rotate_left ; (focus (first | omega | (simp ; done) | (simp ; omega))))) | (with_reducible rfl) | (focus (simp ; done))))) (by first | omega | (simp ; done) | (simp ; omega)) hb1
  clear hb1
  go_wp2_with fail
  obtain ⟨gx1, gx2, gx3, gx4, gx5⟩ := gx
  have hz := hb.size
  obtain ⟨b6, e6⟩ : ∃ b, b = w.heap.size := ⟨_, rfl⟩
  obtain ⟨b7, e7⟩ : ∃ b, b = w.heap.size + 1 := ⟨_, rfl⟩
  obtain ⟨b8, e8⟩ : ∃ b, b = w.heap.size + 1 + 1 := ⟨_, rfl⟩
  obtain ⟨b10, e10⟩ : ∃ b, b = w1.heap.size := ⟨_, rfl⟩
  have k10 : (w1.alloc (.cells #[.string gx1, .int .i64 gx2, .int .i64 gx3, .string gx4, .bool gx5] 78 (0, 0))).heap[w1.heap.size]? = some (.cells #[.string gx1, .int .i64 gx2, .int .i64 gx3, .string gx4, .bool gx5] 78 (0, 0)) := by (repeat (first | (with_reducible assumption) | (with_reducible exact Below.refl _ _) | (with_reducible refine heap_drew ?_) | (focus ((with_reducible refine heap_new ?_) ; simp ; done)) | (with_reducible apply heap_set_to) | (focus ((with_reducible refine heap_set_ne ?_ ?_ _) ; rotate_left ; (focus (first | omega | (simp ; done) | (simp ; omega))))) | (with_reducible refine heap_old ?_) | (with_reducible refine Below.drew ?_) | (with_reducible refine below_set ?_ _ _) | (focus ((with_reducible refine Below.setCell ?_ ?_ _) ; rotate_left ; (focus (first | omega | (simp ; done) | (simp ; omega))))) | (focus ((with_reducible refine Below.alloc ?_ ?_ _) ; rotate_left ; (focus (first | omega | (simp ; done) | (simp ; omega))))) | (with_reducible rfl) | (focus (simp ; done))))
  have k6 := heap_old (o := .cells #[.string gx1, .int .i64 gx2, .int .i64 gx3, .string gx4, .bool gx5] 78 (0, 0)) g6
  have k7 := heap_old (o := .cells #[.string gx1, .int .i64 gx2, .int .i64 gx3, .string gx4, .bool gx5] 78 (0, 0)) g7
  have k8 := heap_old (o := .cells #[.string gx1, .int .i64 gx2, .int .i64 gx3, .string gx4, .bool gx5] 78 (0, 0)) g8
  have hb2 := hb.alloc hz (.cells #[.string gx1, .int .i64 gx2, .int .i64 gx3, .string gx4, .bool gx5] 78 (0, 0))
  rw [← e6] at k6
  rw [← e7] at k7
  rw [← e8] at k8
  rw [← e10] at k10
  rw [← e8, ← e7, ← e6, ← e10]
  generalize hw2 : w1.alloc (.cells #[.string gx1, .int .i64 gx2, .int .i64 gx3, .string gx4, .bool gx5] 78 (0, 0)) = w2 at *
  have h8 : w.heap.size ≤ b8 := by omega
  have h10 : w.heap.size ≤ b10 := by omega
  have hHM : Mt w2 mb M := blk_below HT.out.1 hb2
  have hHB : TOb w2 tb mb t := HT.out.2.below hb2
  obtain ⟨p, hTO, hTT⟩ := hHB
  have HQ := Lib.hid (And.intro hHM (And.intro hTO hTT))
  have HB := Lib.hid hb2
  have H8 := Lib.hid (And.intro k8 k10)
  clear e6 e7 e8 e10 g6 g7 g8 hb hz hb2 hHM hTO hTT k8 k10 hw2 HT
  have hSt : Stable (fun w3 : World => (Below w2.heap.size w2 w3)) := by repeat (first | exact stable_ext _ | exact stable_blk _ _ | exact stable_true | (refine stable_bel ?_ ; (focus (first | (simp [World.size_setCell] ; done) | (simp [World.setCell] ; done)))) | refine Stable.and ?_ ?_)
  refine wp_region_x [0, 1, 2, 3, 4, 5, 6, 7, 8, 9, 10, 11, 12, 13, 14] [0, 0, 0, 0, 0, 1, 0, 1, 1, 0, 2, 3, 0, 0, 3] (fun w3 => (Below w2.heap.size w2 w3)) (by kernel_rfl) (by kernel_rfl) ?_ ?_
  · (first | trivial | (repeat (first | (with_reducible assumption) | (with_reducible exact Below.refl _ _) | (with_reducible refine heap_drew ?_) | (focus ((with_reducible refine heap_new ?_) ; simp ; done)) | (with_reducible apply heap_set_to) | (focus ((with_reducible refine heap_set_ne ?_ ?_ _) ; rotate_left ; (focus (first | omega | (simp ; done) | (simp ; omega))))) | (with_reducible refine heap_old ?_) | (with_reducible refine Below.drew ?_) | (with_reducible refine below_set ?_ _ _) | (focus ((with_reducible refine Below.setCell ?_ ?_ _) ; rotate_left ; (focus (first | omega | (simp ; done) | (simp ; omega))))) | (focus ((with_reducible refine Below.alloc ?_ ?_ _) ; rotate_left ; (focus (first | omega | (simp ; done) | (simp ; omega))))) | (with_reducible rfl) | (focus (simp ; done)))))
  simp only [List.map_cons, List.map_nil, List.getD_cons_zero, List.getD_cons_succ]
  (refine x_pure rfl _ ?_ rfl (by simp) ?_ ?_ ; rotate_left ; · (intro w3 K hK ; go_wp2_with fail ; exact rfl))
  simp only [Act.put, List.setIfInBounds_toArray, List.set_cons_succ, List.set_cons_zero]
  (refine x_pure rfl _ ?_ rfl (by simp) ?_ ?_ ; rotate_left ; · (intro w3 K hK ; go_wp2_with fail ; exact rfl))
  simp only [Act.put, List.setIfInBounds_toArray, List.set_cons_succ, List.set_cons_zero]
  (refine x_pure rfl _ ?_ rfl (by simp) ?_ ?_ ; rotate_left ; · (intro w3 K hK ; go_wp2_with fail ; exact rfl))
  simp only [Act.put, List.setIfInBounds_toArray, List.set_cons_succ, List.set_cons_zero]
  (refine x_pure rfl _ ?_ rfl (by simp) ?_ ?_ ; rotate_left ; · (intro w3 K hK ; go_wp2_with fail ; exact rfl))
  simp only [Act.put, List.setIfInBounds_toArray, List.set_cons_succ, List.set_cons_zero]
  (refine x_pure rfl _ ?_ rfl (by simp) ?_ ?_ ; rotate_left ; · (intro w3 K hK ; go_wp2_with fail ; exact rfl))
  simp only [Act.put, List.setIfInBounds_toArray, List.set_cons_succ, List.set_cons_zero]
  (refine x_quiet rfl hSt (fun _ h => h) _ ?_ rfl (by simp) ?_ ?_ ; rotate_left ; · (intro w3 hC K hK ; have hc := hC ; have q := blk5' (blk_below HQ.out.2.1 hc) ; have q6 := blk5 (blk_below k6 hc) ; have q7 := blk3 (blk_below k7 hc) ; go_wp2_with fail ; refine ⟨?_, Below.refl _ _⟩ ; exact rfl))
  simp only [Act.put, List.setIfInBounds_toArray, List.set_cons_succ, List.set_cons_zero]
  (refine x_pure rfl _ ?_ rfl (by simp) ?_ ?_ ; rotate_left ; · (intro w3 K hK ; go_wp2_with fail ; exact rfl))
  simp only [Act.put, List.setIfInBounds_toArray, List.set_cons_succ, List.set_cons_zero]
  (refine x_quiet rfl hSt (fun _ h => h) _ ?_ rfl (by simp) ?_ ?_ ; rotate_left ; · (intro w3 hC K hK ; have hc := hC ; have q := blk5' (blk_below HQ.out.2.1 hc) ; have q6 := blk5 (blk_below k6 hc) ; have q7 := blk3 (blk_below k7 hc) ; go_wp2_with fail ; refine ⟨?_, Below.refl _ _⟩ ; exact rfl))
  simp only [Act.put, List.setIfInBounds_toArray, List.set_cons_succ, List.set_cons_zero]
  (refine x_quiet rfl hSt (fun _ h => h) _ ?_ rfl (by simp) ?_ ?_ ; rotate_left ; · (intro w3 hC K hK ; have hc := hC ; have q := blk5' (blk_below HQ.out.2.1 hc) ; have q6 := blk5 (blk_below k6 hc) ; have q7 := blk3 (blk_below k7 hc) ; go_wp2_with fail ; refine ⟨?_, Below.refl _ _⟩ ; exact rfl))
  simp only [Act.put, List.setIfInBounds_toArray, List.set_cons_succ, List.set_cons_zero]
  (refine x_pure rfl _ ?_ rfl (by simp) ?_ ?_ ; rotate_left ; · (intro w3 K hK ; go_wp2_with fail ; exact rfl))
  simp only [Act.put, List.setIfInBounds_toArray, List.set_cons_succ, List.set_cons_zero]
  (refine x_new rfl hSt ?_ ?_ ?_ ; rotate_left ; (focus (intro w9 ; go_simp ; try exact rfl)) ; rintro gn0 ⟨w3n, hgn0, hgs0⟩)
  simp only [Act.put, List.setIfInBounds_toArray, List.set_cons_succ, List.set_cons_zero]
  refine x_write rfl ?_
  intro w3 hD K hK ; obtain ⟨hc, hn0⟩ := hD ; have q := blk5' (blk_below HQ.out.2.1 hc) ; have q6 := blk5 (blk_below k6 hc) ; have q7 := blk3 (blk_below k7 hc)
  go_wp2_with fail
  refine (put_any mb tb gn0 k (k1, k2, k3, k4, k5) (s1, s2, s3) (0, 0, 0) (.pointer none) (.pointer none) (.pointer (pa p)) 0 0 t M p w3 ⟨⟨blk_below HQ.out.1 hc, blk_below HQ.out.2.1 hc⟩, hf, hn0, HQ.out.2.2.below hc, hs⟩).mono ?_
  rintro x9 w9 ⟨g, c, rfl, ht9, hc9, hm9, hk9⟩
  have hkk := (Keep.of_below hc).trans hk9
  have HA : Hid (TputAt w w9 tb mb M c (.pointer (pa p)) (putT k (k1, k2, k3, k4, k5) (s1, s2, s3) t) g b8 b10 (gx1, gx2, gx3, gx4, gx5)) := ⟨hm9, hkk.blk HQ.out.2.1 (tobj_ne ⟨HQ.out.1, HQ.out.2.1⟩), ht9, ((Keep.of_below HB.out).trans hkk).mono (fun k _ h => Or.inl h), hkk.blk H8.out.1 (by omega), hkk.blk H8.out.2 (by omega)⟩
  have q9 := blk5' HA.out.ob
  clear hkk ht9 hm9 hk9 q q6 q7 k6 k7 hc hn0 hSt
  refine hK _ _ ?_
  try simp only [Act.put, List.setIfInBounds_toArray, List.set_cons_succ, List.set_cons_zero]
  (refine x_pure rfl _ ?_ rfl (by simp) ?_ ?_ ; rotate_left ; · (intro w3 K hK ; go_wp2_with fail ; exact rfl))
  simp only [Act.put, List.setIfInBounds_toArray, List.set_cons_succ, List.set_cons_zero]
  (refine x_pure rfl _ ?_ rfl (by simp) ?_ ?_ ; rotate_left ; · (intro w3 K hK ; go_wp2_with fail ; exact rfl))
  simp only [Act.put, List.setIfInBounds_toArray, List.set_cons_succ, List.set_cons_zero]
  refine x_write rfl ?_
  rintro w9 rfl K hK
  go_wp2_with fail
  first | refine x_nil ?_ | refine x_end ?_
  rintro _ rfl
  have HA2 := Lib.hid (HA.out.root (.pointer (pa (some g))))
  clear HA q9
  generalize w9.setCell ⟨tb, 4, none⟩ (.pointer (pa (some g))) = wr at *
  have q8 := blk5 HA2.out.g8
  have q10 := blk5 HA2.out.g10
  go_wp2_with fail
  have hke : Keep (fun k => k = b8) wr (((((wr.setCell ⟨b8, 0, none⟩ (.string gx1)).setCell ⟨b8, 1, none⟩ (.int .i64 gx2)).setCell ⟨b8, 2, none⟩ (.int .i64 gx3)).setCell ⟨b8, 3, none⟩ (.string gx4)).setCell ⟨b8, 4, none⟩ (.bool gx5)) :=
    ((((Keep.set _ ⟨b8, 0, none⟩ _).trans (Keep.set _ ⟨b8, 1, none⟩ _)).trans (Keep.set _ ⟨b8, 2, none⟩ _)).trans (Keep.set _ ⟨b8, 3, none⟩ _)).trans (Keep.set _ ⟨b8, 4, none⟩ _)
  obtain ⟨z1, z2, z3⟩ := HA2.out.done h8 hke
  refine bodyPost_ret (v := .tuple #[.agg #[.string gx1, .int .i64 gx2, .int .i64 gx3, .string gx4, .bool gx5], .bool gb]) (by simp [results, Tryz.results121, go_sem, q8]) rfl ⟨by rw [HG.out], c, hc9, z1, z2, z3⟩
end Go.Proofs.YtdflmplmpjghdaaGreatDoor
