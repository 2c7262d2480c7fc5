/-
  The store: lay.
-/
import Derived.Test.YtdflmplmpjghdaaGreatDoorSfold
namespace Go.Proofs.YtdflmplmpjghdaaGreatDoor
open Go.ChangeShapes Go.WideShapes Go.ChangeAt Go.RowKit Go.Deep
set_option linter.unusedVariables false
set_option linter.unusedSimpArgs false
set_option maxRecDepth 100000

/-- What an entry comes to. -/
abbrev tallyE (k : ByteArray) (c n : Int) : T3 := (1, mix0 k c n, mix1 k c n)
/-- What 'lay' leaves. -/
def LayOf (w : World) (sb tb mb : Nat) (node clock : Int) (M : Nat) (t : Tr) (k : ByteArray) (c n : Int) (v : ByteArray) (d : Bool) (x : Ending) (w' : World) : Prop :=
  x = .returned (.tuple #[]) ∧ ∃ m, m ≤ 6 * t.high + 2 ∧ StAt w' sb tb mb node (max clock c) (M + m) (putT k (k, c, n, v, d) (tallyE k c n) t) ∧ Keep (fun k => k = mb ∨ k = tb ∨ k = sb) w w'
theorem StAt.put {w w' : World} {sb tb mb : Nat} {node clock : Int} {M M' : Nat} {t t' : Tr} (h : StAt w sb tb mb node clock M t) (hk : Keep (fun k => k = mb ∨ k = tb) w w') (hm : Mt w' mb M') (ho : TOb w' tb mb t') : StAt w' sb tb mb node clock M' t' := by
  obtain ⟨a1, a2, a3⟩ := h.apart
  obtain ⟨z1, z2, z3⟩ := h.pos
  exact ⟨hk.blk h.blk (by rintro (e | e) <;> omega), hm, ho, h.lanes.keep hk (by rintro (e | e) <;> omega)⟩
theorem StAt.clocked {w : World} {sb tb mb : Nat} {node clock : Int} {M : Nat} {t : Tr} (h : StAt w sb tb mb node clock M t) (c : Int) : StAt (w.setCell ⟨sb, 1, none⟩ (.int .i64 c)) sb tb mb node c M t := by
  obtain ⟨a1, a2, a3⟩ := h.apart
  obtain ⟨p, q1, q2⟩ := h.ob
  exact ⟨heap_set h.blk 1 _, heap_set_ne h.mt (fun e => a2 e.symm) _, ⟨p, heap_set_ne q1 (fun e => a1 e.symm) _, q2.keep (Keep.set w ⟨sb, 1, none⟩ _) (ne_type h.blk (by decide))⟩, h.lanes.keep (Keep.set w ⟨sb, 1, none⟩ _) h.pos.1⟩
set_option maxRecDepth 100000 in
set_option maxHeartbeats 8000000 in
theorem lay_any (sb tb mb : Nat) (node clock : Int) (M : Nat) (t : Tr) (k : ByteArray) (c n : Int) (v : ByteArray) (d : Bool) (w : World) (h : StAt w sb tb mb node clock M t) (hs : t.size ≤ 1099511627000) (hf : M + 6 * t.high ≤ 4611686018427370000) (hk : k.size ≤ 140737488351232) :
    Calls Tryz.prog 177 #[.pointer (some ⟨sb, 0, none⟩), ev k c n v d] w (LayOf w sb tb mb node clock M t k c n v d) := by
  have hb0 := below_alloc_self w (.cells #[.string k, .int .i64 c, .int .i64 n, .string v, .bool d] 78 (0, 0))
  have H1 := Lib.hid (h.below hb0)
  have g3 : (w.alloc (.cells #[.string k, .int .i64 c, .int .i64 n, .string v, .bool d] 78 (0, 0))).heap[w.heap.size]? = some (.cells #[.string k, .int .i64 c, .int .i64 n, .string v, .bool d] 78 (0, 0)) := by (repeat (first | (with_reducible assumption) | (with_reducible exact Below.refl _ _) | (with_reducible refine heap_drew ?_) | (focus ((with_reducible refine heap_new ?_) ; simp ; done)) | (with_reducible apply heap_set_to) | (focus ((with_reducible refine heap_set_ne ?_ ?_ _) ; rotate_left ; (focus (first | omega | (simp ; done) | (simp ; omega))))) | (with_reducible refine heap_old ?_) | (with_reducible refine Below.drew ?_) | (with_reducible refine below_set ?_ _ _) | (focus ((with_reducible refine Below.setCell ?_ ?_ _) ; rotate_left ; (focus (first | omega | (simp ; done) | (simp ; omega))))) | (focus ((with_reducible refine Below.alloc ?_ ?_ _) ; rotate_left ; (focus (first | omega | (simp ; done) | (simp ; omega))))) | (with_reducible rfl) | (focus (simp ; done))))
  have HB0 := Lib.hid hb0
  have hm1 := blk_lt h.mt
  have hm2 : tb < w.heap.size := by obtain ⟨_, h, _⟩ := h.ob; exact blk_lt h
  clear h hb0
  obtain ⟨b3, e3⟩ : ∃ b, b = w.heap.size := ⟨_, rfl⟩
  rw [← e3] at g3
  have HG := Lib.hid g3
  have HE := Lib.hid e3
  have n3 : ¬ (b3 = mb ∨ b3 = tb) := by omega
  clear e3 g3
  go_enter Tryz.func177, Tryz.ntmps177
  go_wp2_with fail
  rw [← HE.out]
  generalize w.alloc (.cells #[.string k, .int .i64 c, .int .i64 n, .string v, .bool d] 78 (0, 0)) = w1 at *
  have hSt : Stable (fun w2 : World => (Below w1.heap.size w1 w2)) := by repeat (first | exact stable_ext _ | exact stable_blk _ _ | exact stable_true | (refine stable_bel ?_ ; (focus (first | (simp [World.size_setCell] ; done) | (simp [World.setCell] ; done)))) | refine Stable.and ?_ ?_)
  refine wp_region_x [0, 1, 2, 3, 4, 5, 6, 7, 8, 9] [0, 0, 0, 1, 0, 1, 1, 1, 1, 3] (fun w2 => (Below w1.heap.size w1 w2)) (by kernel_rfl) (by kernel_rfl) ?_ ?_
  · (first | trivial | (repeat (first | (with_reducible assumption) | (with_reducible exact Below.refl _ _) | (with_reducible refine heap_drew ?_) | (focus ((with_reducible refine heap_new ?_) ; simp ; done)) | (with_reducible apply heap_set_to) | (focus ((with_reducible refine heap_set_ne ?_ ?_ _) ; rotate_left ; (focus (first | omega | (simp ; done) | (simp ; omega))))) | (with_reducible refine heap_old ?_) | (with_reducible refine Below.drew ?_) | (with_reducible refine below_set ?_ _ _) | (focus ((with_reducible refine Below.setCell ?_ ?_ _) ; rotate_left ; (focus (first | omega | (simp ; done) | (simp ; omega))))) | (focus ((with_reducible refine Below.alloc ?_ ?_ _) ; rotate_left ; (focus (first | omega | (simp ; done) | (simp ; omega))))) | (with_reducible rfl) | (focus (simp ; done)))))
  simp only [List.map_cons, List.map_nil, List.getD_cons_zero, List.getD_cons_succ]
  (refine x_pure rfl _ ?_ rfl (by simp) ?_ ?_ ; rotate_left ; · (intro w2 K hK ; go_wp2_with fail ; exact rfl))
  simp only [Act.put, List.setIfInBounds_toArray, List.set_cons_succ, List.set_cons_zero]
  (refine x_pure rfl _ ?_ rfl (by simp) ?_ ?_ ; rotate_left ; · (intro w2 K hK ; go_wp2_with fail ; exact rfl))
  simp only [Act.put, List.setIfInBounds_toArray, List.set_cons_succ, List.set_cons_zero]
  (refine x_pure rfl _ ?_ rfl (by simp) ?_ ?_ ; rotate_left ; · (intro w2 K hK ; go_wp2_with fail ; exact rfl))
  simp only [Act.put, List.setIfInBounds_toArray, List.set_cons_succ, List.set_cons_zero]
  (refine x_quiet rfl hSt (fun _ h => h) _ ?_ rfl (by simp) ?_ ?_ ; rotate_left ; · (intro w2 hC K hK ; have hc := hC ; have q := blk4 (H1.out.below hc).blk ; have q3 := blk5 (blk_below HG.out hc) ; go_wp2_with fail ; refine ⟨?_, Below.refl _ _⟩ ; exact rfl))
  simp only [Act.put, List.setIfInBounds_toArray, List.set_cons_succ, List.set_cons_zero]
  (refine x_pure rfl _ ?_ rfl (by simp) ?_ ?_ ; rotate_left ; · (intro w2 K hK ; go_wp2_with fail ; exact rfl))
  simp only [Act.put, List.setIfInBounds_toArray, List.set_cons_succ, List.set_cons_zero]
  (refine x_quiet rfl hSt (fun _ h => h) _ ?_ rfl (by simp) ?_ ?_ ; rotate_left ; · (intro w2 hC K hK ; have hc := hC ; have q := blk4 (H1.out.below hc).blk ; have q3 := blk5 (blk_below HG.out hc) ; go_wp2_with fail ; refine ⟨?_, Below.refl _ _⟩ ; exact rfl))
  simp only [Act.put, List.setIfInBounds_toArray, List.set_cons_succ, List.set_cons_zero]
  (refine x_quiet rfl hSt (fun _ h => h) _ ?_ rfl (by simp) ?_ ?_ ; rotate_left ; · (intro w2 hC K hK ; have hc := hC ; have q := blk4 (H1.out.below hc).blk ; have q3 := blk5 (blk_below HG.out hc) ; go_wp2_with fail ; refine ⟨?_, Below.refl _ _⟩ ; exact rfl))
  simp only [Act.put, List.setIfInBounds_toArray, List.set_cons_succ, List.set_cons_zero]
  (refine x_quiet rfl hSt (fun _ h => h) _ ?_ rfl (by simp) ?_ ?_ ; rotate_left ; · (intro w2 hC K hK ; have hc := hC ; have q := blk4 (H1.out.below hc).blk ; have q3 := blk5 (blk_below HG.out hc) ; go_wp2_with fail ; refine ⟨?_, Below.refl _ _⟩ ; exact rfl))
  simp only [Act.put, List.setIfInBounds_toArray, List.set_cons_succ, List.set_cons_zero]
  (refine x_quiet rfl hSt (fun _ h => h) _ ?_ rfl (by simp) ?_ ?_ ; rotate_left ; · (intro w2 hC K hK ; have hc := hC ; have q := blk4 (H1.out.below hc).blk ; have q3 := blk5 (blk_below HG.out hc) ; go_wp2_with fail ; refine (tof_any k c n v d w2 (H1.out.below hc).lanes hk).mono ?_ ; rintro e w2 ⟨rfl, hb2⟩ ; refine hK _ _ ⟨?_, rfl, hb2⟩ ; (try simp only [List.getElem?_toArray, List.getElem?_cons_succ, List.getElem?_cons_zero]) ; exact rfl))
  simp only [Act.put, List.setIfInBounds_toArray, List.set_cons_succ, List.set_cons_zero]
  refine x_write rfl ?_
  intro w2 hD K hK ; have hc := hD ; have q := blk4 (H1.out.below hc).blk ; have q3 := blk5 (blk_below HG.out hc)
  go_wp2_with fail
  refine (tput_any mb tb M k k v c n d 1 (mix0 k c n) (mix1 k c n) t w2 (H1.out.below hc).mt (H1.out.below hc).ob hf hs).mono ?_
  rintro x9 w9 ⟨rfl, m, hm, hmt, hob, hkp⟩
  have HZ := Lib.hid (And.intro ((H1.out.below hc).put hkp hmt hob) (And.intro (hkp.blk (blk_below HG.out hc) n3) (((Keep.of_below HB0.out).trans (Keep.of_below hc)).trans hkp)))
  clear hmt hob hkp q q3 hc hSt
  refine hK _ _ ?_
  try simp only [Act.put, List.setIfInBounds_toArray, List.set_cons_succ, List.set_cons_zero]
  first | refine x_nil ?_ | refine x_end ?_
  rintro w9 rfl
  clear HG H1 HB0
  go_wp2_with fail
  have hSt : Stable (fun w10 : World => (Below w9.heap.size w9 w10)) := by repeat (first | exact stable_ext _ | exact stable_blk _ _ | exact stable_true | (refine stable_bel ?_ ; (focus (first | (simp [World.size_setCell] ; done) | (simp [World.setCell] ; done)))) | refine Stable.and ?_ ?_)
  refine wp_region_x [0, 1, 2, 3, 4, 5, 6, 7, 8, 9, 10, 11] [0, 0, 0, 0, 1, 0, 0, 1, 0, 0, 0, 3] (fun w10 => (Below w9.heap.size w9 w10)) (by kernel_rfl) (by kernel_rfl) ?_ ?_
  · (first | trivial | (repeat (first | (with_reducible assumption) | (with_reducible exact Below.refl _ _) | (with_reducible refine heap_drew ?_) | (focus ((with_reducible refine heap_new ?_) ; simp ; done)) | (with_reducible apply heap_set_to) | (focus ((with_reducible refine heap_set_ne ?_ ?_ _) ; rotate_left ; (focus (first | omega | (simp ; done) | (simp ; omega))))) | (with_reducible refine heap_old ?_) | (with_reducible refine Below.drew ?_) | (with_reducible refine below_set ?_ _ _) | (focus ((with_reducible refine Below.setCell ?_ ?_ _) ; rotate_left ; (focus (first | omega | (simp ; done) | (simp ; omega))))) | (focus ((with_reducible refine Below.alloc ?_ ?_ _) ; rotate_left ; (focus (first | omega | (simp ; done) | (simp ; omega))))) | (with_reducible rfl) | (focus (simp ; done)))))
  simp only [List.map_cons, List.map_nil, List.getD_cons_zero, List.getD_cons_succ]
  (refine x_pure rfl _ ?_ rfl (by simp) ?_ ?_ ; rotate_left ; · (intro w10 K hK ; go_wp2_with fail ; exact rfl))
  simp only [Act.put, List.setIfInBounds_toArray, List.set_cons_succ, List.set_cons_zero]
  (refine x_pure rfl _ ?_ rfl (by simp) ?_ ?_ ; rotate_left ; · (intro w10 K hK ; go_wp2_with fail ; exact rfl))
  simp only [Act.put, List.setIfInBounds_toArray, List.set_cons_succ, List.set_cons_zero]
  (refine x_pure rfl _ ?_ rfl (by simp) ?_ ?_ ; rotate_left ; · (intro w10 K hK ; go_wp2_with fail ; exact rfl))
  simp only [Act.put, List.setIfInBounds_toArray, List.set_cons_succ, List.set_cons_zero]
  (refine x_pure rfl _ ?_ rfl (by simp) ?_ ?_ ; rotate_left ; · (intro w10 K hK ; go_wp2_with fail ; exact rfl))
  simp only [Act.put, List.setIfInBounds_toArray, List.set_cons_succ, List.set_cons_zero]
  (refine x_quiet rfl hSt (fun _ h => h) _ ?_ rfl (by simp) ?_ ?_ ; rotate_left ; · (intro w10 hC K hK ; have hc := hC ; have q := blk4 (HZ.out.1.below hc).blk ; have q3 := blk5 (blk_below HZ.out.2.1 hc) ; go_wp2_with fail ; refine ⟨?_, Below.refl _ _⟩ ; exact rfl))
  simp only [Act.put, List.setIfInBounds_toArray, List.set_cons_succ, List.set_cons_zero]
  (refine x_pure rfl _ ?_ rfl (by simp) ?_ ?_ ; rotate_left ; · (intro w10 K hK ; go_wp2_with fail ; exact rfl))
  simp only [Act.put, List.setIfInBounds_toArray, List.set_cons_succ, List.set_cons_zero]
  (refine x_pure rfl _ ?_ rfl (by simp) ?_ ?_ ; rotate_left ; · (intro w10 K hK ; go_wp2_with fail ; exact rfl))
  simp only [Act.put, List.setIfInBounds_toArray, List.set_cons_succ, List.set_cons_zero]
  (refine x_quiet rfl hSt (fun _ h => h) _ ?_ rfl (by simp) ?_ ?_ ; rotate_left ; · (intro w10 hC K hK ; have hc := hC ; have q := blk4 (HZ.out.1.below hc).blk ; have q3 := blk5 (blk_below HZ.out.2.1 hc) ; go_wp2_with fail ; refine ⟨?_, Below.refl _ _⟩ ; exact rfl))
  simp only [Act.put, List.setIfInBounds_toArray, List.set_cons_succ, List.set_cons_zero]
  (refine x_pure rfl _ ?_ rfl (by simp) ?_ ?_ ; rotate_left ; · (intro w10 K hK ; go_wp2_with fail ; exact rfl))
  simp only [Act.put, List.setIfInBounds_toArray, List.set_cons_succ, List.set_cons_zero]
  (refine x_pure rfl _ ?_ rfl (by simp) ?_ ?_ ; rotate_left ; · (intro w10 K hK ; go_wp2_with fail ; exact rfl))
  simp only [Act.put, List.setIfInBounds_toArray, List.set_cons_succ, List.set_cons_zero]
  (refine x_pure rfl _ ?_ rfl (by simp) ?_ ?_ ; rotate_left ; · (intro w10 K hK ; go_wp2_with fail ; exact rfl))
  simp only [Act.put, List.setIfInBounds_toArray, List.set_cons_succ, List.set_cons_zero]
  refine x_write rfl ?_
  intro w10 hD K hK ; have hc := hD ; have q := blk4 (HZ.out.1.below hc).blk ; have q3 := blk5 (blk_below HZ.out.2.1 hc)
  go_wp2_with fail
  first | refine x_nil ?_ | refine x_end ?_
  rintro _ rfl
  go_wp2_with fail
  go_end0
  exact ⟨rfl, m, hm, (HZ.out.1.below hc).clocked _, ((HZ.out.2.2.mono fun k _ h => h.elim Or.inl fun h => Or.inr (Or.inl h)).trans (Keep.of_below hc)).trans ((Keep.set w10 ⟨sb, 1, none⟩ _).mono fun k _ h => Or.inr (Or.inr h))⟩
end Go.Proofs.YtdflmplmpjghdaaGreatDoor
