/-
  The reference's lay and Send where there is room; its Double.
-/
import Derived.Test.YtepilaejfepicaaBRsend
import Derived.Laws.IdiomStrings
namespace Go.Proofs.Ytepilaejfepicaa
open Go.ChangeShapes Go.WideShapes Go.ChangeAt Go.RowKit Go.Deep
set_option linter.unusedVariables false
set_option linter.unusedSimpArgs false

theorem conv_str (s : ByteArray) (w : World) : (convert 9 30 (.string s)).run Try.prog w = .ok (.slice (some ⟨w.heap.size, 0, none⟩) s.size (grownCap w s.size 0 5))
      (w.alloc (.cells (bytesRow s (grownCap w s.size 0 5)) 5 ((bytesRow s (grownCap w s.size 0 5)).size, (bytesRow s (grownCap w s.size 0 5)).size + 1))).drew :=
  run_bytes_of_string w _ _ _ s Try.underlying9 Try.underlying30 Try.underlying5
theorem rdat_str (s : ByteArray) (w : World) (B cap : Nat) (fr : Nat × Nat) (hB : B ≤ w.heap.size) : RDat (w.alloc (.cells (bytesRow s cap) 5 fr)).drew B (some ⟨w.heap.size, 0, none⟩) s := by
  have hg : (w.alloc (.cells (bytesRow s cap) 5 fr)).drew.heap[w.heap.size]? = some (.cells (bytesRow s cap) 5 fr) := heap_new rfl
  refine Or.inr ⟨w.heap.size, _, fr, hB, rfl, hg, fun i hi => ?_⟩
  rw [blk_cell hg, Nat.zero_add, bytesRow_at s cap i hi]
  rfl

/-- A packet more in the reference's row: what that leaves. -/
theorem rbag_push {w3 wx w6 : World} {B b : Nat} {vs : Value} {room num lost : Int} {L : List Pk} (q : Pk) (h3 : RBagAt w3 B b vs room num lost L) (hx : Below w3.heap.size w3 wx) (hq : RDat wx B q.ad q.s) {v' : Value}
    (hown : w6.ownsRow B 39 4 v' (L.length + 1) (pflat L ++ pflat [q])) (hgrow : wx.grownBy w6 vs.ownBlock) (hat : v'.ownBlock = vs.ownBlock ∨ (v'.ownBlock = some wx.heap.size ∧ wx.grownBy w6 none)) :
    w6.heap[b]? = some (.cells #[.int .i64 room, .int .i64 num, .int .i64 lost, vs] 65 (0, 0)) ∧ RBagAt (w6.setCell ⟨b, 3, none⟩ v') B b v' room num lost (L ++ [q]) ∧ Keep (mine b vs) w3 (w6.setCell ⟨b, 3, none⟩ v') ∧
      (v'.ownBlock = vs.ownBlock ∨ ((∃ g, v'.ownBlock = some g ∧ w3.heap.size ≤ g) ∧ Keep (fun k => k = b) w3 (w6.setCell ⟨b, 3, none⟩ v'))) := by
  have hX := h3.below hx
  have KG := Keep.grown hgrow
  have gb : w6.heap[b]? = some (.cells #[.int .i64 room, .int .i64 num, .int .i64 lost, vs] 65 (0, 0)) := KG.blk hX.2.1 (own_ne hX.2.2.1 hX.2.1 (by decide))
  have K2 := Keep.set w6 ⟨b, 3, none⟩ v'
  have hu : ∀ g cs fr, wx.heap[g]? = some (.cells cs 5 fr) → ¬ vs.ownBlock = some g := fun g cs fr hg => own_ne hX.2.2.1 hg (by decide)
  have hu2 : ∀ g cs fr, w6.heap[g]? = some (.cells cs 5 fr) → ¬ g = b := fun g cs fr hg e => by
    subst e
    rw [gb] at hg
    simp at hg
  refine ⟨gb, ⟨h3.1, heap_set_to gb (by simp), ?_, ?_⟩, (Keep.of_below hx).trans ((KG.mono fun k _ e => Or.inr e).trans (K2.mono fun k _ e => Or.inl e)), ?_⟩
  · have := own_keep hown K2 (fun g hg e => own_ne hown gb (by decide) (by rw [hg, e]))
    rw [pflat_append, List.length_append]
    exact this
  · intro p hp
    have hd : RDat wx B p.ad p.s := by
      rcases List.mem_append.1 hp with hp | hp
      · exact hX.2.2.2 p hp
      · obtain rfl : p = q := by simpa using hp
        exact hq
    exact (hd.keep KG hu).keep K2 hu2
  · rcases hat with h | ⟨h, hg0⟩
    · exact Or.inl h
    · exact Or.inr ⟨⟨_, h, hx.size⟩, ((Keep.of_below hx).trans ((Keep.grown hg0).mono fun k _ e => by cases e)).trans K2⟩

set_option maxHeartbeats 8000000 in
theorem rlay_room (B b : Nat) (vs : Value) (room num lost : Int) (L : List Pk) (f t : Int) (s : ByteArray) (w : World) (h : RBagAt w B b vs room num lost L) (hBw : B ≤ w.heap.size)
    (hL : L.length ≤ 512) (hs : s.size ≤ 65536) (hl : 0 ≤ num ∧ num ≤ 4611686018427387904) (hfull : (L.length : Int) < room) :
    Calls Try.prog 31 #[.pointer (some ⟨b, 0, none⟩), .int .i64 f, .int .i64 t, .string s] w fun e w' => ∃ vs' ad cap, e = .returned (.int .i64 (num + 1)) ∧ RBagAt w' B b vs' room (num + 1) lost (L ++ [⟨num + 1, f, t, ad, cap, s⟩]) ∧ Keep (mine b vs) w w' ∧
      (ad = none → s.size = 0 ∧ cap = 0) ∧ (vs'.ownBlock = vs.ownBlock ∨ ((∃ g, vs'.ownBlock = some g ∧ w.heap.size ≤ g) ∧ Keep (fun k => k = b) w w')) ∧ (s.size = 0 ∨ ∃ g, ad = some ⟨g, 0, none⟩ ∧ w.heap.size ≤ g) := by
  have HB : Hid (RBagAt w B b vs room num lost L) := h
  obtain ⟨hbB, g0, hown, _⟩ := h
  obtain ⟨oa, ca, rfl, _, _, _, _⟩ := row_form hown
  clear hown
  obtain ⟨i0, hi, hz0, hz1, hz2⟩ := info_parts info_pk
  have HI : Hid (_ ∧ _ ∧ _ ∧ _) := ⟨hi, hz0, hz1, hz2⟩
  clear hi hz0 hz1 hz2
  go_enter Try.func31, Try.ntmps31
  go_wp2_with fail
  have hSt : Stable (fun w2 : World => (Below w.heap.size w w2)) := by repeat (first | exact stable_ext _ | exact stable_blk _ _ | exact stable_true | (refine stable_bel ?_ ; (focus (first | (simp [World.size_setCell] ; done) | (simp [World.setCell] ; done)))) | refine Stable.and ?_ ?_)
  refine wp_region_x [0, 1, 2, 3, 4, 5, 6, 7, 8, 9] [0, 0, 0, 1, 0, 0, 0, 0, 1, 0] (fun w2 => (Below w.heap.size w w2)) (by kernel_rfl) (by kernel_rfl) ?_ ?_
  · (first | trivial | (repeat (first | (with_reducible assumption) | (with_reducible exact Below.refl _ _) | (with_reducible refine heap_drew ?_) | (focus ((with_reducible refine heap_new ?_) ; simp ; done)) | (with_reducible apply heap_set_to) | (focus ((with_reducible refine heap_set_ne ?_ ?_ _) ; rotate_left ; (focus (first | omega | (simp ; done) | (simp ; omega))))) | (with_reducible refine heap_old ?_) | (with_reducible refine Below.drew ?_) | (with_reducible refine below_set ?_ _ _) | (focus ((with_reducible refine Below.setCell ?_ ?_ _) ; rotate_left ; (focus (first | omega | (simp ; done) | (simp ; omega))))) | (focus ((with_reducible refine Below.alloc ?_ ?_ _) ; rotate_left ; (focus (first | omega | (simp ; done) | (simp ; omega))))) | (with_reducible rfl) | (focus (simp ; done)))))
  simp only [List.map_cons, List.map_nil, List.getD_cons_zero, List.getD_cons_succ]
  (refine x_pure rfl _ ?_ rfl (by simp) ?_ ?_ ; rotate_left ; · (intro w2 K hK ; go_wp2_with fail ; exact rfl))
  simp only [Act.put, List.setIfInBounds_toArray, List.set_cons_succ, List.set_cons_zero]
  (refine x_pure rfl _ ?_ rfl (by simp) ?_ ?_ ; rotate_left ; · (intro w2 K hK ; go_wp2_with fail ; exact rfl))
  simp only [Act.put, List.setIfInBounds_toArray, List.set_cons_succ, List.set_cons_zero]
  (refine x_pure rfl _ ?_ rfl (by simp) ?_ ?_ ; rotate_left ; · (intro w2 K hK ; go_wp2_with fail ; exact rfl))
  simp only [Act.put, List.setIfInBounds_toArray, List.set_cons_succ, List.set_cons_zero]
  (refine x_quiet rfl hSt (fun _ h => h) _ ?_ rfl (by simp) ?_ ?_ ; rotate_left ; · (intro w2 hC K hK ; have hc := hC ; have q := blk4 (blk_below g0 hc) ; go_wp2_with fail ; refine ⟨?_, Below.refl _ _⟩ ; exact rfl))
  simp only [Act.put, List.setIfInBounds_toArray, List.set_cons_succ, List.set_cons_zero]
  (refine x_pure rfl _ ?_ rfl (by simp) ?_ ?_ ; rotate_left ; · (intro w2 K hK ; go_wp2_with fail ; exact rfl))
  simp only [Act.put, List.setIfInBounds_toArray, List.set_cons_succ, List.set_cons_zero]
  (refine x_pure rfl _ ?_ rfl (by simp) ?_ ?_ ; rotate_left ; · (intro w2 K hK ; go_wp2_with fail ; exact rfl))
  simp only [Act.put, List.setIfInBounds_toArray, List.set_cons_succ, List.set_cons_zero]
  (refine x_pure rfl _ ?_ rfl (by simp) ?_ ?_ ; rotate_left ; · (intro w2 K hK ; go_wp2_with fail ; exact rfl))
  simp only [Act.put, List.setIfInBounds_toArray, List.set_cons_succ, List.set_cons_zero]
  (refine x_pure rfl _ ?_ rfl (by simp) ?_ ?_ ; rotate_left ; · (intro w2 K hK ; go_wp2_with fail ; exact rfl))
  simp only [Act.put, List.setIfInBounds_toArray, List.set_cons_succ, List.set_cons_zero]
  (refine x_quiet rfl hSt (fun _ h => h) _ ?_ rfl (by simp) ?_ ?_ ; rotate_left ; · (intro w2 hC K hK ; have hc := hC ; have q := blk4 (blk_below g0 hc) ; go_wp2_with fail ; refine ⟨?_, Below.refl _ _⟩ ; exact rfl))
  simp only [Act.put, List.setIfInBounds_toArray, List.set_cons_succ, List.set_cons_zero]
  (refine x_pure rfl _ ?_ rfl (by simp) ?_ ?_ ; rotate_left ; · (intro w2 K hK ; go_wp2_with fail ; exact rfl))
  simp only [Act.put, List.setIfInBounds_toArray, List.set_cons_succ, List.set_cons_zero]
  first | refine x_nil ?_ | refine x_end ?_
  rintro w2 hc
  have g2 := blk_below g0 hc
  have q := blk4 g2
  go_wp2_with fail
  have h3 := (HB.out.below hc).set (num' := num + 1) (room' := room) (lost' := lost) 1 (.int .i64 (num + 1)) (by simp)
  have K3 : Keep (fun k => k = b) w (w2.setCell ⟨b, 1, none⟩ (.int .i64 (num + 1))) := (Keep.of_below hc).trans (Keep.set w2 ⟨b, 1, none⟩ _)
  generalize hw3 : w2.setCell ⟨b, 1, none⟩ (.int .i64 (num + 1)) = w3 at *
  have H3 : Hid (RBagAt w3 B b (.slice oa L.length ca) room (num + 1) lost L ∧ Keep (fun k => k = b) w w3) := ⟨h3.1, K3⟩
  have g3 := h3.1.2.1
  have hB3 : B ≤ w3.heap.size := Nat.le_trans hBw K3.size
  clear hw3 g0 g2 q hc h3 K3 w2
  have hSt : Stable (fun w8 : World => (Below w3.heap.size w3 w8)) := by repeat (first | exact stable_ext _ | exact stable_blk _ _ | exact stable_true | (refine stable_bel ?_ ; (focus (first | (simp [World.size_setCell] ; done) | (simp [World.setCell] ; done)))) | refine Stable.and ?_ ?_)
  refine wp_region_x [0, 1, 2, 3, 4, 5, 6, 7, 8, 9, 10, 11, 12, 13, 14, 15, 16, 17, 18] [0, 0, 0, 0, 1, 0, 0, 0, 1, 0, 0, 0, 4, 0, 4, 3, 0, 0, 3] (fun w8 => (Below w3.heap.size w3 w8)) (by kernel_rfl) (by kernel_rfl) ?_ ?_
  · (first | trivial | (repeat (first | (with_reducible assumption) | (with_reducible exact Below.refl _ _) | (with_reducible refine heap_drew ?_) | (focus ((with_reducible refine heap_new ?_) ; simp ; done)) | (with_reducible apply heap_set_to) | (focus ((with_reducible refine heap_set_ne ?_ ?_ _) ; rotate_left ; (focus (first | omega | (simp ; done) | (simp ; omega))))) | (with_reducible refine heap_old ?_) | (with_reducible refine Below.drew ?_) | (with_reducible refine below_set ?_ _ _) | (focus ((with_reducible refine Below.setCell ?_ ?_ _) ; rotate_left ; (focus (first | omega | (simp ; done) | (simp ; omega))))) | (focus ((with_reducible refine Below.alloc ?_ ?_ _) ; rotate_left ; (focus (first | omega | (simp ; done) | (simp ; omega))))) | (with_reducible rfl) | (focus (simp ; done)))))
  simp only [List.map_cons, List.map_nil, List.getD_cons_zero, List.getD_cons_succ]
  (refine x_pure rfl _ ?_ rfl (by simp) ?_ ?_ ; rotate_left ; · (intro w8 K hK ; go_wp2_with fail ; exact rfl))
  simp only [Act.put, List.setIfInBounds_toArray, List.set_cons_succ, List.set_cons_zero]
  (refine x_pure rfl _ ?_ rfl (by simp) ?_ ?_ ; rotate_left ; · (intro w8 K hK ; go_wp2_with fail ; exact rfl))
  simp only [Act.put, List.setIfInBounds_toArray, List.set_cons_succ, List.set_cons_zero]
  (refine x_pure rfl _ ?_ rfl (by simp) ?_ ?_ ; rotate_left ; · (intro w8 K hK ; go_wp2_with fail ; exact rfl))
  simp only [Act.put, List.setIfInBounds_toArray, List.set_cons_succ, List.set_cons_zero]
  (refine x_pure rfl _ ?_ rfl (by simp) ?_ ?_ ; rotate_left ; · (intro w8 K hK ; go_wp2_with fail ; exact rfl))
  simp only [Act.put, List.setIfInBounds_toArray, List.set_cons_succ, List.set_cons_zero]
  (refine x_quiet rfl hSt (fun _ h => h) _ ?_ rfl (by simp) ?_ ?_ ; rotate_left ; · (intro w8 hC K hK ; have hc := hC ; have q := blk4 (blk_below g3 hc) ; go_wp2_with fail ; refine ⟨?_, Below.refl _ _⟩ ; exact rfl))
  simp only [Act.put, List.setIfInBounds_toArray, List.set_cons_succ, List.set_cons_zero]
  (refine x_pure rfl _ ?_ rfl (by simp) ?_ ?_ ; rotate_left ; · (intro w8 K hK ; go_wp2_with fail ; exact rfl))
  simp only [Act.put, List.setIfInBounds_toArray, List.set_cons_succ, List.set_cons_zero]
  (refine x_pure rfl _ ?_ rfl (by simp) ?_ ?_ ; rotate_left ; · (intro w8 K hK ; go_wp2_with fail ; exact rfl))
  simp only [Act.put, List.setIfInBounds_toArray, List.set_cons_succ, List.set_cons_zero]
  (refine x_pure rfl _ ?_ rfl (by simp) ?_ ?_ ; rotate_left ; · (intro w8 K hK ; go_wp2_with fail ; exact rfl))
  simp only [Act.put, List.setIfInBounds_toArray, List.set_cons_succ, List.set_cons_zero]
  (refine x_quiet rfl hSt (fun _ h => h) _ ?_ rfl (by simp) ?_ ?_ ; rotate_left ; · (intro w8 hC K hK ; have hc := hC ; have q := blk4 (blk_below g3 hc) ; go_wp2_with fail ; refine ⟨?_, Below.refl _ _⟩ ; exact rfl))
  simp only [Act.put, List.setIfInBounds_toArray, List.set_cons_succ, List.set_cons_zero]
  (refine x_pure rfl _ ?_ rfl (by simp) ?_ ?_ ; rotate_left ; · (intro w8 K hK ; go_wp2_with fail ; exact rfl))
  simp only [Act.put, List.setIfInBounds_toArray, List.set_cons_succ, List.set_cons_zero]
  (refine x_pure rfl _ ?_ rfl (by simp) ?_ ?_ ; rotate_left ; · (intro w8 K hK ; go_wp2_with fail ; exact rfl))
  simp only [Act.put, List.setIfInBounds_toArray, List.set_cons_succ, List.set_cons_zero]
  (refine x_pure rfl _ ?_ rfl (by simp) ?_ ?_ ; rotate_left ; · (intro w8 K hK ; go_wp2_with fail ; exact rfl))
  simp only [Act.put, List.setIfInBounds_toArray, List.set_cons_succ, List.set_cons_zero]
  refine x_make rfl ?_
  intro w8 hD K hK ; have hc := hD ; have q := blk4 (blk_below g3 hc)
  have cv := conv_str s w8
  go_wp2_with fail
  have hd9 := rdat_str s w8 B (grownCap w8 s.size 0 5) ((bytesRow s (grownCap w8 s.size 0 5)).size, (bytesRow s (grownCap w8 s.size 0 5)).size + 1) (Nat.le_trans hB3 hc.size)
  have hb8 : Below w8.heap.size w8 (w8.alloc (.cells (bytesRow s (grownCap w8 s.size 0 5)) 5 ((bytesRow s (grownCap w8 s.size 0 5)).size, (bytesRow s (grownCap w8 s.size 0 5)).size + 1))).drew := (below_alloc_self _ _).drew
  have hx9 := below_back hc hc.size hb8
  refine hK _ _ hb8 ?_
  generalize (w8.alloc (.cells (bytesRow s (grownCap w8 s.size 0 5)) 5 ((bytesRow s (grownCap w8 s.size 0 5)).size, (bytesRow s (grownCap w8 s.size 0 5)).size + 1))).drew = w9 at *
  generalize grownCap w8 s.size 0 5 = cp at *
  have hgd0 : w3.heap.size ≤ w8.heap.size := hc.size
  generalize w8.heap.size = gd at *
  have HD9 : Hid (RDat w9 B (some ⟨gd, 0, none⟩) s) := hd9
  clear hd9 cv hb8 q hc hD
  try simp only [Act.put, List.setIfInBounds_toArray, List.set_cons_succ, List.set_cons_zero]
  (refine x_pure rfl _ ?_ rfl (by simp) ?_ ?_ ; rotate_left ; · (intro w8 K hK ; go_wp2_with fail ; exact rfl))
  simp only [Act.put, List.setIfInBounds_toArray, List.set_cons_succ, List.set_cons_zero]
  refine x_make rfl ?_
  intro wq hq K hK
  go_wp2_with fail
  have hbq : Below wq.heap.size wq (wq.alloc (.cells #[.int .i64 (num + 1), .int .i64 f, .int .i64 t, .slice (some ⟨gd, 0, none⟩) s.size cp] 39 (0, 0))) := below_alloc_self _ _
  have hx8 := below_back hx9 hx9.size (below_back hq hq.size hbq)
  have hqd0 := HD9.out.keep (p := fun _ => False) (Keep.of_below (below_back hq hq.size hbq)) (fun _ _ _ _ h => h)
  have gx1 : (wq.alloc (.cells #[.int .i64 (num + 1), .int .i64 f, .int .i64 t, .slice (some ⟨gd, 0, none⟩) s.size cp] 39 (0, 0))).heap[wq.heap.size]? = some (.cells #[.int .i64 (num + 1), .int .i64 f, .int .i64 t, .slice (some ⟨gd, 0, none⟩) s.size cp] 39 (0, 0)) := by (repeat (first | (with_reducible assumption) | (with_reducible exact Below.refl _ _) | (with_reducible refine heap_drew ?_) | (focus ((with_reducible refine heap_new ?_) ; simp ; done)) | (with_reducible apply heap_set_to) | (focus ((with_reducible refine heap_set_ne ?_ ?_ _) ; rotate_left ; (focus (first | omega | (simp ; done) | (simp ; omega))))) | (with_reducible refine heap_old ?_) | (with_reducible refine Below.drew ?_) | (with_reducible refine below_set ?_ _ _) | (focus ((with_reducible refine Below.setCell ?_ ?_ _) ; rotate_left ; (focus (first | omega | (simp ; done) | (simp ; omega))))) | (focus ((with_reducible refine Below.alloc ?_ ?_ _) ; rotate_left ; (focus (first | omega | (simp ; done) | (simp ; omega))))) | (with_reducible rfl) | (focus (simp ; done))))
  refine hK _ _ hbq ?_
  generalize wq.alloc (.cells #[.int .i64 (num + 1), .int .i64 f, .int .i64 t, .slice (some ⟨gd, 0, none⟩) s.size cp] 39 (0, 0)) = w10 at *
  generalize wq.heap.size = gp at *
  have gx0 : Hid _ := gx1
  have HQD : Hid (RDat w10 B (some ⟨gd, 0, none⟩) s) := hqd0
  clear gx1 hqd0 hx9 hbq HD9 hq
  try simp only [Act.put, List.setIfInBounds_toArray, List.set_cons_succ, List.set_cons_zero]
  refine x_write rfl ?_
  intro wy hy K hK
  have gx : Hid _ := blk_below gx0.out hy
  have hx := below_back hx8 hx8.size hy
  have hqd := HQD.out.keep (p := fun _ => False) (Keep.of_below hy) (fun _ _ _ _ h => h)
  refine wp_append_any _ (.tmp 37) (.tmp 47) 54 rfl B 39 i0 _ 4 48 Try.underlying54 HI.out.1 HI.out.2.1 HI.out.2.2.1 HI.out.2.2.2 rfl (by decide) (.slice oa L.length ca) L.length (pflat L) rfl (H3.out.1.below hx).2.2.1 (some ⟨gp, 0, none⟩) 1 1 (pflat [⟨num + 1, f, t, some ⟨gd, 0, none⟩, cp, s⟩]) rfl rfl (fun h => by cases h) (pk_news gx.out) (pflat_one _) ?_ ?_ ?_ ?_
  · unfold maxLen; omega
  · omega
  · exact Nat.le_trans hB3 hx.size
  intro v' w6 hown hgrow hat
  obtain ⟨oa', ca', rfl, _, _, _, _⟩ := row_form hown
  have hP := rbag_push ⟨num + 1, f, t, some ⟨gd, 0, none⟩, cp, s⟩ H3.out.1 hx hqd hown hgrow hat
  have HP : Hid _ := hP.2
  have q6 := blk4 hP.1
  clear hown hgrow hat hP hx gx hqd hy
  refine hK _ _ ?_
  try simp only [Act.put, List.setIfInBounds_toArray, List.set_cons_succ, List.set_cons_zero]
  (refine x_pure rfl _ ?_ rfl (by simp) ?_ ?_ ; rotate_left ; · (intro w8 K hK ; go_wp2_with fail ; exact rfl))
  simp only [Act.put, List.setIfInBounds_toArray, List.set_cons_succ, List.set_cons_zero]
  (refine x_pure rfl _ ?_ rfl (by simp) ?_ ?_ ; rotate_left ; · (intro w8 K hK ; go_wp2_with fail ; exact rfl))
  simp only [Act.put, List.setIfInBounds_toArray, List.set_cons_succ, List.set_cons_zero]
  refine x_write rfl ?_
  rintro w6 rfl K hK
  go_wp2_with fail
  first | refine x_nil ?_ | refine x_end ?_
  rintro _ rfl
  have q7 := blk4 HP.out.1.2.1
  clear q6
  go_wp2_with fail
  go_ret
  obtain ⟨h1, h2, h3⟩ := HP.out
  exact ⟨_, _, _, rfl, h1, (H3.out.2.mono fun k _ e => Or.inl e).trans h2, (fun h => by cases h), (h3.elim Or.inl fun ⟨⟨g, e1, e2⟩, hk⟩ => Or.inr ⟨⟨g, e1, Nat.le_trans H3.out.2.size e2⟩, H3.out.2.trans hk⟩), Or.inr ⟨gd, rfl, Nat.le_trans H3.out.2.size hgd0⟩⟩

theorem rsend_room (B b : Nat) (vs : Value) (room num lost : Int) (L : List Pk) (f t : Int) (ad : Option Addr) (cap : Nat) (s : ByteArray) (w : World) (h : RBagAt w B b vs room num lost L) (hr : Reads w ad s) (hBw : B ≤ w.heap.size)
    (hL : L.length ≤ 512) (hl : 0 ≤ num ∧ num ≤ 4611686018427387904) (hw : ¬ badWay f t) (hs : s.size ≤ 65536) (hfull : (L.length : Int) < room) :
    Calls Try.prog 17 #[.pointer (some ⟨b, 0, none⟩), .int .i64 f, .int .i64 t, .slice ad s.size cap] w fun e w' => ∃ vs' ad' cap', e = .returned (.tuple #[.int .i64 (num + 1), .int .i64 0]) ∧ RBagAt w' B b vs' room (num + 1) lost (L ++ [⟨num + 1, f, t, ad', cap', s⟩]) ∧ Keep (mine b vs) w w' ∧
      (ad' = none → s.size = 0 ∧ cap' = 0) ∧ (vs'.ownBlock = vs.ownBlock ∨ ((∃ g, vs'.ownBlock = some g ∧ w.heap.size ≤ g) ∧ Keep (fun k => k = b) w w')) ∧ (s.size = 0 ∨ ∃ g, ad' = some ⟨g, 0, none⟩ ∧ w.heap.size ≤ g) := by
  unfold badWay at hw
  obtain ⟨h1, h2, h3, h4, h5⟩ : ¬ f < 0 ∧ ¬ 8 ≤ f ∧ ¬ t < 0 ∧ ¬ 8 ≤ t ∧ ¬ f = t := by omega
  clear hw
  have cv := conv_reads (cap := cap) hr
  have C := rlay_room B b vs room num lost L f t s w h hBw hL hs hl hfull
  clear h hr
  go_enter Try.func17, Try.ntmps17
  go_wp2_with fail
  refine C.mono ?_
  rintro e w2 ⟨vs', ad', cap', rfl, hF⟩
  have HF : Hid (RBagAt w2 B b vs' room (num + 1) lost (L ++ [⟨num + 1, f, t, ad', cap', s⟩]) ∧ Keep (mine b vs) w w2 ∧ (ad' = none → s.size = 0 ∧ cap' = 0) ∧ (vs'.ownBlock = vs.ownBlock ∨ ((∃ g, vs'.ownBlock = some g ∧ w.heap.size ≤ g) ∧ Keep (fun k => k = b) w w2)) ∧ (s.size = 0 ∨ ∃ g, ad' = some ⟨g, 0, none⟩ ∧ w.heap.size ≤ g)) := hF
  clear hF C cv
  go_wp2_with fail
  exact bodyPost_ret (v := .tuple #[.int .i64 (num + 1), .int .i64 0]) (by simp [results, Try.results17, go_sem]) rfl ⟨vs', ad', cap', rfl, HF.out⟩

theorem rdouble_none (B b : Nat) (vs : Value) (room num lost : Int) (L : List Pk) (i : Int) (w : World) (h : RBagAt w B b vs room num lost L) (hi : i < 0 ∨ (L.length : Int) ≤ i) :
    Calls Try.prog 21 #[.pointer (some ⟨b, 0, none⟩), .int .i64 i] w fun e w' => e = .returned (.tuple #[.int .i64 0, .int .i64 161]) ∧ w' = w := by
  obtain ⟨_, hblk, hown, _⟩ := h
  obtain ⟨oa, ca, rfl, _, _, _, _⟩ := row_form hown
  have q := blk4 hblk
  clear hown hblk
  go_enter Try.func21, Try.ntmps21
  by_cases h1 : i < 0
  · clear hi
    go_wp2_with fail
    exact bodyPost_ret (v := .tuple #[.int .i64 0, .int .i64 161]) (by simp [results, Try.results21, go_sem]) rfl ⟨rfl, rfl⟩
  · have h2 : (L.length : Int) ≤ i := by omega
    clear hi
    go_wp2_with fail
    exact bodyPost_ret (v := .tuple #[.int .i64 0, .int .i64 161]) (by simp [results, Try.results21, go_sem]) rfl ⟨rfl, rfl⟩
theorem rdouble_full (B b : Nat) (vs : Value) (room num lost : Int) (L : List Pk) (i : Nat) (hi : i < L.length) (w : World) (h : RBagAt w B b vs room num lost L)
    (hL : L.length ≤ 512) (hl : 0 ≤ lost ∧ lost ≤ 4611686018427387904) (hfull : room ≤ (L.length : Int)) :
    Calls Try.prog 21 #[.pointer (some ⟨b, 0, none⟩), .int .i64 i] w fun e w' => e = .returned (.tuple #[.int .i64 0, .int .i64 0]) ∧ RBagAt w' B b vs room num (lost + 1) L ∧ Keep (mine b vs) w w' := by
  have HB : Hid (RBagAt w B b vs room num lost L) := h
  have q := blk4 h.2.1
  obtain ⟨oa, ca, rfl, hca, _, _, _⟩ := row_form h.2.2.1
  obtain ⟨g, rfl, x0, x1, x2, x3⟩ := own_pk h.2.2.1 i hi
  have hrd := (h.2.2.2 L[i] (List.getElem_mem hi)).reads
  obtain ⟨pw, hpw⟩ : ∃ x, x = w.alloc (.cells #[.int .i64 L[i].num, .int .i64 L[i].frm, .int .i64 L[i].to, .slice L[i].ad L[i].s.size L[i].cap] 39 (0, 0)) := ⟨_, rfl⟩
  have hbp : Below w.heap.size w pw := by rw [hpw]; exact below_alloc_self _ _
  have cv := conv_reads (cap := L[i].cap) (hrd.below hbp)
  have HP : Hid (RBagAt pw B b (.slice (some ⟨g, 0, none⟩) L.length ca) room num lost L ∧ Below w.heap.size w pw) := ⟨h.below hbp, hbp⟩
  have hsz := hbp.size
  rw [hpw] at cv
  clear h hrd hbp
  go_enter Try.func21, Try.ntmps21
  have HE : Hid (pw = w.alloc (.cells #[.int .i64 L[i].num, .int .i64 L[i].frm, .int .i64 L[i].to, .slice L[i].ad L[i].s.size L[i].cap] 39 (0, 0))) := hpw
  clear hpw
  go_wp2_with fail
  rw [← HE.out]
  clear cv x0 x1 x2 x3 q
  refine (rlay_full B b _ room num lost L L[i].frm L[i].to L[i].s pw HP.out.1 hL hl hfull).mono ?_
  rintro e w2 ⟨rfl, hB2, hK2⟩
  have HF : Hid (RBagAt w2 B b (.slice (some ⟨g, 0, none⟩) L.length ca) room num (lost + 1) L ∧ Keep (mine b (.slice (some ⟨g, 0, none⟩) L.length ca)) w w2) := ⟨hB2, (Keep.of_below HP.out.2).trans hK2⟩
  clear hB2 hK2
  go_wp2_with fail
  exact bodyPost_ret (v := .tuple #[.int .i64 0, .int .i64 0]) (by simp [results, Try.results21, go_sem]) rfl ⟨rfl, HF.out⟩
theorem rdouble_room (B b : Nat) (vs : Value) (room num lost : Int) (L : List Pk) (i : Nat) (hi : i < L.length) (w : World) (h : RBagAt w B b vs room num lost L) (hBw : B ≤ w.heap.size) (hs : L[i].s.size ≤ 65536)
    (hL : L.length ≤ 512) (hl : 0 ≤ num ∧ num ≤ 4611686018427387904) (hfull : (L.length : Int) < room) :
    Calls Try.prog 21 #[.pointer (some ⟨b, 0, none⟩), .int .i64 i] w fun e w' => ∃ vs' ad' cap', e = .returned (.tuple #[.int .i64 (num + 1), .int .i64 0]) ∧ RBagAt w' B b vs' room (num + 1) lost (L ++ [⟨num + 1, L[i].frm, L[i].to, ad', cap', L[i].s⟩]) ∧ Keep (mine b vs) w w' ∧
      (ad' = none → L[i].s.size = 0 ∧ cap' = 0) ∧ (vs'.ownBlock = vs.ownBlock ∨ ((∃ g, vs'.ownBlock = some g ∧ w.heap.size ≤ g) ∧ Keep (fun k => k = b) w w')) ∧ (L[i].s.size = 0 ∨ ∃ g, ad' = some ⟨g, 0, none⟩ ∧ w.heap.size ≤ g) := by
  have HB : Hid (RBagAt w B b vs room num lost L) := h
  have q := blk4 h.2.1
  obtain ⟨oa, ca, rfl, hca, _, _, _⟩ := row_form h.2.2.1
  obtain ⟨g, rfl, x0, x1, x2, x3⟩ := own_pk h.2.2.1 i hi
  have hrd := (h.2.2.2 L[i] (List.getElem_mem hi)).reads
  obtain ⟨pw, hpw⟩ : ∃ x, x = w.alloc (.cells #[.int .i64 L[i].num, .int .i64 L[i].frm, .int .i64 L[i].to, .slice L[i].ad L[i].s.size L[i].cap] 39 (0, 0)) := ⟨_, rfl⟩
  have hbp : Below w.heap.size w pw := by rw [hpw]; exact below_alloc_self _ _
  have cv := conv_reads (cap := L[i].cap) (hrd.below hbp)
  have HP : Hid (RBagAt pw B b (.slice (some ⟨g, 0, none⟩) L.length ca) room num lost L ∧ Below w.heap.size w pw) := ⟨h.below hbp, hbp⟩
  have hsz := hbp.size
  rw [hpw] at cv
  clear h hrd hbp
  go_enter Try.func21, Try.ntmps21
  have HE : Hid (pw = w.alloc (.cells #[.int .i64 L[i].num, .int .i64 L[i].frm, .int .i64 L[i].to, .slice L[i].ad L[i].s.size L[i].cap] 39 (0, 0))) := hpw
  clear hpw
  go_wp2_with fail
  rw [← HE.out]
  clear cv x0 x1 x2 x3 q
  refine (rlay_room B b _ room num lost L L[i].frm L[i].to L[i].s pw HP.out.1 (by omega) hL hs hl hfull).mono ?_
  rintro e w2 ⟨vs', ad', cap', rfl, hB2, hK2, hn2, hat, hfr⟩
  have HF : Hid (RBagAt w2 B b vs' room (num + 1) lost (L ++ [⟨num + 1, L[i].frm, L[i].to, ad', cap', L[i].s⟩]) ∧ Keep (mine b (.slice (some ⟨g, 0, none⟩) L.length ca)) w w2 ∧ (ad' = none → L[i].s.size = 0 ∧ cap' = 0) ∧
      (vs'.ownBlock = (Value.slice (some ⟨g, 0, none⟩) L.length ca).ownBlock ∨ ((∃ g, vs'.ownBlock = some g ∧ w.heap.size ≤ g) ∧ Keep (fun k => k = b) w w2)) ∧ (L[i].s.size = 0 ∨ ∃ g, ad' = some ⟨g, 0, none⟩ ∧ w.heap.size ≤ g)) :=
    ⟨hB2, (Keep.of_below HP.out.2).trans hK2, hn2, (hat.elim Or.inl fun ⟨⟨g, e1, e2⟩, hk⟩ => Or.inr ⟨⟨g, e1, by omega⟩, (Keep.of_below HP.out.2).trans hk⟩), hfr.elim Or.inl fun ⟨g, e1, e2⟩ => Or.inr ⟨g, e1, by omega⟩⟩
  clear hB2 hK2 hn2 hat hfr
  go_wp2_with fail
  exact bodyPost_ret (v := .tuple #[.int .i64 (num + 1), .int .i64 0]) (by simp [results, Try.results21, go_sem]) rfl ⟨vs', ad', cap', rfl, HF.out⟩
end Go.Proofs.Ytepilaejfepicaa
