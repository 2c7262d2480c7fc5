/-
  bag.add: a frame is laid into the bag, or is lost where there is no room.
-/
import Derived.Test.YtepilaejfepicaaBOwn
namespace Go.Proofs.Ytepilaejfepicaa
open Go.ChangeShapes Go.WideShapes Go.ChangeAt Go.RowKit Go.Deep
set_option linter.unusedVariables false
set_option linter.unusedSimpArgs false

theorem cut {P : Program} {c : Code} {Q : Exit → Act → World → Prop} {a : Act} {w : World} (R : Act → Act → World → Prop) (h : c.wp P (fun e a' w' => e = .normal ∧ R a a' w') a w) (hk : ∀ a' w', R a a' w' → Q .normal a' w') : c.wp P Q a w :=
  Code.wp_mono (fun e a' w' ⟨he, hr⟩ => by subst he; exact hk a' w' hr) h
/-- An own row as a slice. -/
theorem row_form {w : World} {B : Nat} {v : Value} {n : Nat} {xs : List Value} (h : w.ownsRow B 39 4 v n xs) : ∃ oa cap, v = .slice oa n cap ∧ n ≤ cap ∧ cap ≤ maxLen ∧ (oa = none → n = 0 ∧ cap = 0) ∧ (∀ a, oa = some a → a.off = 0 ∧ a.spot = none) := by
  rcases h.2 with ⟨rfl, h0⟩ | ⟨g, cap, cur, rfl, hb, hg, hnc, hcm, hcs, ht⟩
  · exact ⟨none, 0, by rw [h0], by omega, Nat.zero_le _, fun _ => ⟨h0, rfl⟩, fun a h => by cases h⟩
  · exact ⟨some ⟨g, 0, none⟩, cap, rfl, hnc, hcm, fun h => (by cases h), fun a h => by cases h; exact ⟨rfl, rfl⟩⟩

/-- One of the bag's numbers is written. -/
theorem BagAt.set {w : World} {B b : Nat} {vs : Value} {room num lost room' num' lost' : Int} {L : List Pk} (h : BagAt w B b vs room num lost L) (o : Nat) (v : Value)
    (hc : (#[.int .i64 room', .int .i64 num', .int .i64 lost', vs] : Array Value) = (#[.int .i64 room, .int .i64 num, .int .i64 lost, vs] : Array Value).setIfInBounds o v) : BagAt (w.setCell ⟨b, o, none⟩ v) B b vs room' num' lost' L ∧ Keep (mine b vs) w (w.setCell ⟨b, o, none⟩ v) := by
  have K2 := Keep.set w ⟨b, o, none⟩ v
  exact ⟨⟨h.1, heap_set_to h.2.1 hc, own_keep h.2.2.1 K2 (fun g hg e => own_ne h.2.2.1 h.2.1 (by decide) (by rw [hg, e])), fun p hp => (h.2.2.2 p hp).keep K2 (fun g cs hg e => by
    subst e
    rw [h.2.1] at hg
    simp at hg)⟩, K2.mono fun k _ e => Or.inl e⟩

set_option maxHeartbeats 4000000 in
theorem add_full (B b : Nat) (vs : Value) (room num lost : Int) (L : List Pk) (n f t : Int) (ad : Option Addr) (cap : Nat) (s : ByteArray) (w : World) (h : BagAt w B b vs room num lost L)
    (hL : L.length ≤ 512) (hl : 0 ≤ lost ∧ lost ≤ 4611686018427387904) (hfull : room ≤ (L.length : Int)) :
    Calls Try.prog 27 #[.pointer (some ⟨b, 0, none⟩), pv n f t ad s.size cap] w fun e w' => e = .returned (.int .i64 0) ∧ BagAt w' B b vs room num (lost + 1) L ∧ Keep (mine b vs) w w' := by
  have HB : Hid (BagAt w B b vs room num lost L) := h
  obtain ⟨hbB, hblk, hown, _⟩ := h
  obtain ⟨oa, ca, rfl, _, _, _, _⟩ := row_form hown
  clear hown
  go_enter Try.func27, Try.ntmps27
  go_wp2_with fail
  have hb0 : Below w.heap.size w (w.alloc (.cells #[.int .i64 n, .int .i64 f, .int .i64 t, .slice ad s.size cap] 39 (0, 0))) := by (repeat (first | (with_reducible assumption) | (with_reducible exact Below.refl _ _) | (with_reducible refine heap_drew ?_) | (focus ((with_reducible refine heap_new ?_) ; simp ; done)) | (with_reducible apply heap_set_to) | (focus ((with_reducible refine heap_set_ne ?_ ?_ _) ; rotate_left ; (focus (first | omega | (simp ; done) | (simp ; omega))))) | (with_reducible refine heap_old ?_) | (with_reducible refine Below.drew ?_) | (with_reducible refine below_set ?_ _ _) | (focus ((with_reducible refine Below.setCell ?_ ?_ _) ; rotate_left ; (focus (first | omega | (simp ; done) | (simp ; omega))))) | (focus ((with_reducible refine Below.alloc ?_ ?_ _) ; rotate_left ; (focus (first | omega | (simp ; done) | (simp ; omega))))) | (with_reducible rfl) | (focus (simp ; done))))
  have g0 := blk_below hblk hb0
  generalize hws : w.alloc (.cells #[.int .i64 n, .int .i64 f, .int .i64 t, .slice ad s.size cap] 39 (0, 0)) = ws at *
  clear hws hblk
  have hSt : Stable (fun w2 : World => (Below ws.heap.size ws w2)) := by repeat (first | exact stable_ext _ | exact stable_blk _ _ | exact stable_true | (refine stable_bel ?_ ; (focus (first | (simp [World.size_setCell] ; done) | (simp [World.setCell] ; done)))) | refine Stable.and ?_ ?_)
  refine wp_region_x [0, 1, 2, 3, 4, 5, 6, 7, 8, 9] [0, 0, 0, 1, 0, 0, 0, 0, 1, 0] (fun w2 => (Below ws.heap.size ws w2)) (by kernel_rfl) (by kernel_rfl) ?_ ?_
  · (first | trivial | (repeat (first | (with_reducible assumption) | (with_reducible exact Below.refl _ _) | (with_reducible refine heap_drew ?_) | (focus ((with_reducible refine heap_new ?_) ; simp ; done)) | (with_reducible apply heap_set_to) | (focus ((with_reducible refine heap_set_ne ?_ ?_ _) ; rotate_left ; (focus (first | omega | (simp ; done) | (simp ; omega))))) | (with_reducible refine heap_old ?_) | (with_reducible refine Below.drew ?_) | (with_reducible refine below_set ?_ _ _) | (focus ((with_reducible refine Below.setCell ?_ ?_ _) ; rotate_left ; (focus (first | omega | (simp ; done) | (simp ; omega))))) | (focus ((with_reducible refine Below.alloc ?_ ?_ _) ; rotate_left ; (focus (first | omega | (simp ; done) | (simp ; omega))))) | (with_reducible rfl) | (focus (simp ; done)))))
  simp only [List.map_cons, List.map_nil, List.getD_cons_zero, List.getD_cons_succ]
  (refine x_pure rfl _ ?_ rfl (by simp) ?_ ?_ ; rotate_left ; · (intro w2 K hK ; go_wp2_with fail ; exact rfl))
  simp only [Act.put, List.setIfInBounds_toArray, List.set_cons_succ, List.set_cons_zero]
  (refine x_pure rfl _ ?_ rfl (by simp) ?_ ?_ ; rotate_left ; · (intro w2 K hK ; go_wp2_with fail ; exact rfl))
  simp only [Act.put, List.setIfInBounds_toArray, List.set_cons_succ, List.set_cons_zero]
  (refine x_pure rfl _ ?_ rfl (by simp) ?_ ?_ ; rotate_left ; · (intro w2 K hK ; go_wp2_with fail ; exact rfl))
  simp only [Act.put, List.setIfInBounds_toArray, List.set_cons_succ, List.set_cons_zero]
  (refine x_quiet rfl hSt (fun _ h => h) _ ?_ rfl (by simp) ?_ ?_ ; rotate_left ; · (intro w2 hC K hK ; have hc := hC ; have q := blk4 (blk_below g0 hc) ; go_wp2_with fail ; refine ⟨?_, Below.refl _ _⟩ ; exact rfl))
  simp only [Act.put, List.setIfInBounds_toArray, List.set_cons_succ, List.set_cons_zero]
  (refine x_pure rfl _ ?_ rfl (by simp) ?_ ?_ ; rotate_left ; · (intro w2 K hK ; go_wp2_with fail ; exact rfl))
  simp only [Act.put, List.setIfInBounds_toArray, List.set_cons_succ, List.set_cons_zero]
  (refine x_pure rfl _ ?_ rfl (by simp) ?_ ?_ ; rotate_left ; · (intro w2 K hK ; go_wp2_with fail ; exact rfl))
  simp only [Act.put, List.setIfInBounds_toArray, List.set_cons_succ, List.set_cons_zero]
  (refine x_pure rfl _ ?_ rfl (by simp) ?_ ?_ ; rotate_left ; · (intro w2 K hK ; go_wp2_with fail ; exact rfl))
  simp only [Act.put, List.setIfInBounds_toArray, List.set_cons_succ, List.set_cons_zero]
  (refine x_pure rfl _ ?_ rfl (by simp) ?_ ?_ ; rotate_left ; · (intro w2 K hK ; go_wp2_with fail ; exact rfl))
  simp only [Act.put, List.setIfInBounds_toArray, List.set_cons_succ, List.set_cons_zero]
  (refine x_quiet rfl hSt (fun _ h => h) _ ?_ rfl (by simp) ?_ ?_ ; rotate_left ; · (intro w2 hC K hK ; have hc := hC ; have q := blk4 (blk_below g0 hc) ; go_wp2_with fail ; refine ⟨?_, Below.refl _ _⟩ ; exact rfl))
  simp only [Act.put, List.setIfInBounds_toArray, List.set_cons_succ, List.set_cons_zero]
  (refine x_pure rfl _ ?_ rfl (by simp) ?_ ?_ ; rotate_left ; · (intro w2 K hK ; go_wp2_with fail ; exact rfl))
  simp only [Act.put, List.setIfInBounds_toArray, List.set_cons_succ, List.set_cons_zero]
  first | refine x_nil ?_ | refine x_end ?_
  rintro w2 hc
  have g2 := blk_below g0 hc
  have q := blk4 g2
  have hb2 : Below w.heap.size w w2 := below_back hb0 hb0.size hc
  clear g0 hc hb0
  go_wp2_with fail
  go_ret
  have hB2 := HB.out.below hb2
  have h2 := hB2.set (num' := num) (room' := room) (lost' := lost + 1) 2 (.int .i64 (lost + 1)) (by simp)
  exact ⟨rfl, h2.1, (Keep.of_below hb2).trans h2.2⟩

theorem pk_news {w : World} {g : Nat} {n f t : Int} {ad : Option Addr} {cap : Nat} {s : ByteArray} (h : w.heap[g]? = some (.cells #[.int .i64 n, .int .i64 f, .int .i64 t, .slice ad s.size cap] 39 (0, 0))) :
    ∀ a, (some ⟨g, 0, none⟩ : Option Addr) = some a → ∀ j u, (pflat [⟨n, f, t, ad, cap, s⟩])[j]? = some u → w.cell? (a.add j) = some u := fun a ha j u hj => by
  obtain rfl : (⟨g, 0, none⟩ : Addr) = a := Option.some.inj ha
  rw [add_none, blk_cell h, Nat.zero_add]
  have e : pflat [⟨n, f, t, ad, cap, s⟩] = [.int .i64 n, .int .i64 f, .int .i64 t, .slice ad s.size cap] := rfl
  rw [e] at hj
  rw [← hj]
  simp
/-- A packet more in the bag's row: what that leaves. -/
theorem bag_push {w3 wx w6 : World} {B b : Nat} {vs : Value} {room num lost : Int} {L : List Pk} (q : Pk) (h3 : BagAt w3 B b vs room num lost L) (hx : Below w3.heap.size w3 wx) (hq : Dat w3 B q.ad q.s) {v' : Value}
    (hown : w6.ownsRow B 39 4 v' (L.length + 1) (pflat L ++ pflat [q])) (hgrow : wx.grownBy w6 vs.ownBlock) (hat : v'.ownBlock = vs.ownBlock ∨ (v'.ownBlock = some wx.heap.size ∧ wx.grownBy w6 none)) {pb : Nat} {ob : Obj} (gp : w3.heap[pb]? = some ob) (hp1 : pb ≠ b) (hp2 : vs.ownBlock ≠ some pb) :
    w6.heap[b]? = some (.cells #[.int .i64 room, .int .i64 num, .int .i64 lost, vs] 60 (0, 0)) ∧ BagAt (w6.setCell ⟨b, 3, none⟩ v') B b v' room num lost (L ++ [q]) ∧ Keep (mine b vs) w3 (w6.setCell ⟨b, 3, none⟩ v') ∧
      (v'.ownBlock = vs.ownBlock ∨ ((∃ g, v'.ownBlock = some g ∧ w3.heap.size ≤ g) ∧ Keep (fun k => k = b) w3 (w6.setCell ⟨b, 3, none⟩ v'))) ∧ (w6.setCell ⟨b, 3, none⟩ v').heap[pb]? = some ob := by
  have hX := h3.below hx
  have KG := Keep.grown hgrow
  have gb : w6.heap[b]? = some (.cells #[.int .i64 room, .int .i64 num, .int .i64 lost, vs] 60 (0, 0)) := KG.blk hX.2.1 (own_ne hX.2.2.1 hX.2.1 (by decide))
  have K2 := Keep.set w6 ⟨b, 3, none⟩ v'
  have hu : ∀ g cs, wx.heap[g]? = some (.cells cs 5 (0, 0)) → ¬ vs.ownBlock = some g := fun g cs hg => own_ne hX.2.2.1 hg (by decide)
  have hu2 : ∀ g cs, w6.heap[g]? = some (.cells cs 5 (0, 0)) → ¬ g = b := fun g cs hg e => by
    subst e
    rw [gb] at hg
    simp at hg
  have hKx : Keep (mine b vs) w3 wx := Keep.of_below hx
  refine ⟨gb, ⟨h3.1, heap_set_to gb (by simp), ?_, ?_⟩, (hKx.trans (KG.mono fun k _ e => Or.inr e)).trans (K2.mono fun k _ e => Or.inl e), ?_, ?_⟩
  · have := own_keep hown K2 (fun g hg e => own_ne hown gb (by decide) (by rw [hg, e]))
    rw [pflat_append, List.length_append]
    exact this
  · intro p hp
    have hd : Dat wx B p.ad p.s := by
      rcases List.mem_append.1 hp with hp | hp
      · exact hX.2.2.2 p hp
      · obtain rfl : p = q := by simpa using hp
        exact hq.keep (p := fun _ => False) (Keep.of_below hx) (fun _ _ _ h => h)
    exact (hd.keep KG hu).keep K2 hu2
  · rcases hat with h | ⟨h, hg0⟩
    · exact Or.inl h
    · refine Or.inr ⟨⟨_, h, hx.size⟩, ((Keep.of_below hx).trans ((Keep.grown hg0).mono fun k _ e => by cases e)).trans K2⟩
  · exact heap_set_ne (KG.blk ((hx.block pb (blk_lt gp)).trans gp) hp2) hp1 _

set_option maxHeartbeats 8000000 in
theorem add_room (B b : Nat) (vs : Value) (room num lost : Int) (L : List Pk) (n f t : Int) (ad : Option Addr) (cap : Nat) (s : ByteArray) (w : World) (h : BagAt w B b vs room num lost L) (hd : Dat w B ad s) (hBw : B ≤ w.heap.size)
    (hL : L.length ≤ 512) (hl : 0 ≤ num ∧ num ≤ 4611686018427387904) (hfull : (L.length : Int) < room) :
    Calls Try.prog 27 #[.pointer (some ⟨b, 0, none⟩), pv n f t ad s.size cap] w fun e w' => ∃ vs', e = .returned (.int .i64 (num + 1)) ∧ BagAt w' B b vs' room (num + 1) lost (L ++ [⟨num + 1, f, t, ad, cap, s⟩]) ∧ Keep (mine b vs) w w' ∧
      (vs'.ownBlock = vs.ownBlock ∨ ((∃ g, vs'.ownBlock = some g ∧ w.heap.size ≤ g) ∧ Keep (fun k => k = b) w w')) := by
  have HB : Hid (BagAt w B b vs room num lost L ∧ Dat w B ad s) := ⟨h, hd⟩
  obtain ⟨hbB, hblk, hown, _⟩ := h
  obtain ⟨oa, ca, rfl, _, _, _, _⟩ := row_form hown
  clear hown hd
  go_enter Try.func27, Try.ntmps27
  go_wp2_with fail
  have hb0 : Below w.heap.size w (w.alloc (.cells #[.int .i64 n, .int .i64 f, .int .i64 t, .slice ad s.size cap] 39 (0, 0))) := by (repeat (first | (with_reducible assumption) | (with_reducible exact Below.refl _ _) | (with_reducible refine heap_drew ?_) | (focus ((with_reducible refine heap_new ?_) ; simp ; done)) | (with_reducible apply heap_set_to) | (focus ((with_reducible refine heap_set_ne ?_ ?_ _) ; rotate_left ; (focus (first | omega | (simp ; done) | (simp ; omega))))) | (with_reducible refine heap_old ?_) | (with_reducible refine Below.drew ?_) | (with_reducible refine below_set ?_ _ _) | (focus ((with_reducible refine Below.setCell ?_ ?_ _) ; rotate_left ; (focus (first | omega | (simp ; done) | (simp ; omega))))) | (focus ((with_reducible refine Below.alloc ?_ ?_ _) ; rotate_left ; (focus (first | omega | (simp ; done) | (simp ; omega))))) | (with_reducible rfl) | (focus (simp ; done))))
  have gp : (w.alloc (.cells #[.int .i64 n, .int .i64 f, .int .i64 t, .slice ad s.size cap] 39 (0, 0))).heap[w.heap.size]? = some (.cells #[.int .i64 n, .int .i64 f, .int .i64 t, .slice ad s.size cap] 39 (0, 0)) := by (repeat (first | (with_reducible assumption) | (with_reducible exact Below.refl _ _) | (with_reducible refine heap_drew ?_) | (focus ((with_reducible refine heap_new ?_) ; simp ; done)) | (with_reducible apply heap_set_to) | (focus ((with_reducible refine heap_set_ne ?_ ?_ _) ; rotate_left ; (focus (first | omega | (simp ; done) | (simp ; omega))))) | (with_reducible refine heap_old ?_) | (with_reducible refine Below.drew ?_) | (with_reducible refine below_set ?_ _ _) | (focus ((with_reducible refine Below.setCell ?_ ?_ _) ; rotate_left ; (focus (first | omega | (simp ; done) | (simp ; omega))))) | (focus ((with_reducible refine Below.alloc ?_ ?_ _) ; rotate_left ; (focus (first | omega | (simp ; done) | (simp ; omega))))) | (with_reducible rfl) | (focus (simp ; done))))
  have g0 := blk_below hblk hb0
  have hbw := blk_lt hblk
  obtain ⟨pb, hpb⟩ : ∃ g, g = w.heap.size := ⟨_, rfl⟩
  rw [← hpb] at gp ⊢
  have HPB : Hid (pb = w.heap.size) := hpb
  have hne : b ≠ pb := by omega
  clear hpb
  generalize hws : w.alloc (.cells #[.int .i64 n, .int .i64 f, .int .i64 t, .slice ad s.size cap] 39 (0, 0)) = ws at *
  clear hws hblk
  have hSt : Stable (fun w2 : World => (Below ws.heap.size ws w2)) := by repeat (first | exact stable_ext _ | exact stable_blk _ _ | exact stable_true | (refine stable_bel ?_ ; (focus (first | (simp [World.size_setCell] ; done) | (simp [World.setCell] ; done)))) | refine Stable.and ?_ ?_)
  refine wp_region_x [0, 1, 2, 3, 4, 5, 6, 7, 8, 9] [0, 0, 0, 1, 0, 0, 0, 0, 1, 0] (fun w2 => (Below ws.heap.size ws w2)) (by kernel_rfl) (by kernel_rfl) ?_ ?_
  · (first | trivial | (repeat (first | (with_reducible assumption) | (with_reducible exact Below.refl _ _) | (with_reducible refine heap_drew ?_) | (focus ((with_reducible refine heap_new ?_) ; simp ; done)) | (with_reducible apply heap_set_to) | (focus ((with_reducible refine heap_set_ne ?_ ?_ _) ; rotate_left ; (focus (first | omega | (simp ; done) | (simp ; omega))))) | (with_reducible refine heap_old ?_) | (with_reducible refine Below.drew ?_) | (with_reducible refine below_set ?_ _ _) | (focus ((with_reducible refine Below.setCell ?_ ?_ _) ; rotate_left ; (focus (first | omega | (simp ; done) | (simp ; omega))))) | (focus ((with_reducible refine Below.alloc ?_ ?_ _) ; rotate_left ; (focus (first | omega | (simp ; done) | (simp ; omega))))) | (with_reducible rfl) | (focus (simp ; done)))))
  simp only [List.map_cons, List.map_nil, List.getD_cons_zero, List.getD_cons_succ]
  (refine x_pure rfl _ ?_ rfl (by simp) ?_ ?_ ; rotate_left ; · (intro w2 K hK ; go_wp2_with fail ; exact rfl))
  simp only [Act.put, List.setIfInBounds_toArray, List.set_cons_succ, List.set_cons_zero]
  (refine x_pure rfl _ ?_ rfl (by simp) ?_ ?_ ; rotate_left ; · (intro w2 K hK ; go_wp2_with fail ; exact rfl))
  simp only [Act.put, List.setIfInBounds_toArray, List.set_cons_succ, List.set_cons_zero]
  (refine x_pure rfl _ ?_ rfl (by simp) ?_ ?_ ; rotate_left ; · (intro w2 K hK ; go_wp2_with fail ; exact rfl))
  simp only [Act.put, List.setIfInBounds_toArray, List.set_cons_succ, List.set_cons_zero]
  (refine x_quiet rfl hSt (fun _ h => h) _ ?_ rfl (by simp) ?_ ?_ ; rotate_left ; · (intro w2 hC K hK ; have hc := hC ; have q := blk4 (blk_below g0 hc) ; go_wp2_with fail ; refine ⟨?_, Below.refl _ _⟩ ; exact rfl))
  simp only [Act.put, List.setIfInBounds_toArray, List.set_cons_succ, List.set_cons_zero]
  (refine x_pure rfl _ ?_ rfl (by simp) ?_ ?_ ; rotate_left ; · (intro w2 K hK ; go_wp2_with fail ; exact rfl))
  simp only [Act.put, List.setIfInBounds_toArray, List.set_cons_succ, List.set_cons_zero]
  (refine x_pure rfl _ ?_ rfl (by simp) ?_ ?_ ; rotate_left ; · (intro w2 K hK ; go_wp2_with fail ; exact rfl))
  simp only [Act.put, List.setIfInBounds_toArray, List.set_cons_succ, List.set_cons_zero]
  (refine x_pure rfl _ ?_ rfl (by simp) ?_ ?_ ; rotate_left ; · (intro w2 K hK ; go_wp2_with fail ; exact rfl))
  simp only [Act.put, List.setIfInBounds_toArray, List.set_cons_succ, List.set_cons_zero]
  (refine x_pure rfl _ ?_ rfl (by simp) ?_ ?_ ; rotate_left ; · (intro w2 K hK ; go_wp2_with fail ; exact rfl))
  simp only [Act.put, List.setIfInBounds_toArray, List.set_cons_succ, List.set_cons_zero]
  (refine x_quiet rfl hSt (fun _ h => h) _ ?_ rfl (by simp) ?_ ?_ ; rotate_left ; · (intro w2 hC K hK ; have hc := hC ; have q := blk4 (blk_below g0 hc) ; go_wp2_with fail ; refine ⟨?_, Below.refl _ _⟩ ; exact rfl))
  simp only [Act.put, List.setIfInBounds_toArray, List.set_cons_succ, List.set_cons_zero]
  (refine x_pure rfl _ ?_ rfl (by simp) ?_ ?_ ; rotate_left ; · (intro w2 K hK ; go_wp2_with fail ; exact rfl))
  simp only [Act.put, List.setIfInBounds_toArray, List.set_cons_succ, List.set_cons_zero]
  first | refine x_nil ?_ | refine x_end ?_
  rintro w2 hc
  have g2 := blk_below g0 hc
  have gp2 := blk_below gp hc
  have q := blk4 g2
  have qp := blk4 gp2
  have hb2 : Below w.heap.size w w2 := below_back hb0 hb0.size hc
  clear g0 gp hc hb0
  go_wp2_with fail
  have hB2 := HB.out.1.below hb2
  have h2 := hB2.set (num' := num + 1) (room' := room) (lost' := lost) 1 (.int .i64 (num + 1)) (by simp)
  have K2 := Keep.set (w2.setCell ⟨b, 1, none⟩ (.int .i64 (num + 1))) ⟨pb, 0, none⟩ (.int .i64 (num + 1))
  have gp3 : ((w2.setCell ⟨b, 1, none⟩ (.int .i64 (num + 1))).setCell ⟨pb, 0, none⟩ (.int .i64 (num + 1))).heap[pb]? = some (.cells #[.int .i64 (num + 1), .int .i64 f, .int .i64 t, .slice ad s.size cap] 39 (0, 0)) := heap_set_to (heap_set_ne gp2 hne.symm _) (by simp)
  have hrow : ∀ g, (Value.slice oa L.length ca).ownBlock = some g → ¬ g = pb := fun g hg e => by
    have := (HB.out.1.2.2.1.lt g hg).2
    have := HPB.out
    omega
  have hu : ∀ g cs, w2.heap[g]? = some (.cells cs 5 (0, 0)) → ¬ (g = b ∨ g = pb) := fun g cs hg e => by
    rcases e with e | e <;> subst e
    · rw [g2] at hg; simp at hg
    · rw [gp2] at hg; simp at hg
  have h3 := h2.1.keep K2 hne hrow (fun g cs hg e => by
    rw [e, show ((⟨pb, 0, none⟩ : Addr).block) = pb from rfl, heap_set_ne gp2 hne.symm] at hg
    simp at hg)
  have hd3 : Dat ((w2.setCell ⟨b, 1, none⟩ (.int .i64 (num + 1))).setCell ⟨pb, 0, none⟩ (.int .i64 (num + 1))) B ad s := (HB.out.2.keep (p := fun _ => False) (Keep.of_below hb2) (fun _ _ _ h => h)).keep (((Keep.set w2 ⟨b, 1, none⟩ _).mono fun k _ e => Or.inl e).trans (K2.mono fun k _ e => Or.inr e)) hu
  have K3 : Keep (mine b (.slice oa L.length ca)) w ((w2.setCell ⟨b, 1, none⟩ (.int .i64 (num + 1))).setCell ⟨pb, 0, none⟩ (.int .i64 (num + 1))) := by
    have k0 : Keep (fun k => mine b (.slice oa L.length ca) k ∨ k = pb) w _ := ((Keep.of_below hb2).trans (h2.2.mono fun k _ e => Or.inl e)).trans (K2.mono fun k _ e => Or.inr e)
    exact k0.mono fun k hk e => by
      rcases e with e | e
      · exact e
      · have := HPB.out; omega
  have K1 : Keep (fun k => k = b) w ((w2.setCell ⟨b, 1, none⟩ (.int .i64 (num + 1))).setCell ⟨pb, 0, none⟩ (.int .i64 (num + 1))) := by
    have k0 : Keep (fun k => k = b ∨ k = pb) w _ := ((Keep.of_below hb2).trans ((Keep.set w2 ⟨b, 1, none⟩ (.int .i64 (num + 1))).mono fun k _ e => Or.inl e)).trans (K2.mono fun k _ e => Or.inr e)
    exact k0.mono fun k hk e => by
      rcases e with e | e
      · exact e
      · have := HPB.out; omega
  generalize hw3 : (w2.setCell ⟨b, 1, none⟩ (.int .i64 (num + 1))).setCell ⟨pb, 0, none⟩ (.int .i64 (num + 1)) = w3 at *
  have H3 : Hid (BagAt w3 B b (.slice oa L.length ca) room (num + 1) lost L ∧ Dat w3 B ad s ∧ (Value.slice oa L.length ca).ownBlock ≠ some pb) := ⟨h3, hd3, fun e => hrow pb e rfl⟩
  have g3 := h3.2.1
  have hB3 : B ≤ w3.heap.size := by have := blk_lt g3; have := h3.1; omega
  clear hw3 hu hrow h2 hB2 K2 q qp gp2 g2 h3 hd3 hb2
  obtain ⟨i0, hi, hz0, hz1, hz2⟩ := info_parts info_pk
  have HI : Hid (_ ∧ _ ∧ _ ∧ _) := ⟨hi, hz0, hz1, hz2⟩
  clear hi hz0 hz1 hz2
  refine cut (fun a a' w' => ∃ v34 v35 v36 v37 v38 v39 v40 v' v42 v43, a' = (((((((((a.put (some 34) v34).put (some 35) v35).put (some 36) v36).put (some 37) v37).put (some 38) v38).put (some 39) v39).put (some 40) v40).put (some 41) v').put (some 42) v42).put (some 43) v43 ∧
      BagAt w' B b v' room (num + 1) lost (L ++ [⟨num + 1, f, t, ad, cap, s⟩]) ∧ Keep (mine b (.slice oa L.length ca)) w3 w' ∧ (v'.ownBlock = (Value.slice oa L.length ca).ownBlock ∨ ((∃ g, v'.ownBlock = some g ∧ w3.heap.size ≤ g) ∧ Keep (fun k => k = b) w3 w')) ∧ w'.heap[pb]? = some (.cells #[.int .i64 (num + 1), .int .i64 f, .int .i64 t, .slice ad s.size cap] 39 (0, 0))) ?_ ?_
  · refine wp_region_p [0, 1, 2, 3] [0, 0, 0, 0, 3, 3, 3, 3, 0, 0, 3] 7 #[true, true, true, true, false, false, false, false, false, false, false] (fun w8 => Below w3.heap.size w3 w8) (by kernel_rfl) (by kernel_rfl) ?_ ?_
    · exact (Below.refl _ _).drew
    simp only [List.map_cons, List.map_nil, List.getD_cons_zero, List.getD_cons_succ]
    refine x_pure rfl 34 (.pointer (some ⟨b, 0, none⟩)) rfl (by simp) ?_ ?_
    · intro w8 K hK
      go_wp2_with fail
    simp only [Act.put, List.setIfInBounds_toArray, List.set_cons_succ, List.set_cons_zero]
    refine x_pure rfl 35 (.pointer (some ⟨b, 0, none⟩)) rfl (by simp) ?_ ?_
    · intro w8 K hK
      go_wp2_with fail
    simp only [Act.put, List.setIfInBounds_toArray, List.set_cons_succ, List.set_cons_zero]
    refine x_pure rfl 36 (.pointer (some ⟨b, 0, none⟩)) rfl (by simp) ?_ ?_
    · intro w8 K hK
      go_wp2_with fail
    simp only [Act.put, List.setIfInBounds_toArray, List.set_cons_succ, List.set_cons_zero]
    refine x_pure rfl 37 (.pointer (some ⟨b, 3, none⟩)) rfl (by simp) ?_ ?_
    · intro w8 K hK
      go_wp2_with fail
    simp only [Act.put, List.setIfInBounds_toArray, List.set_cons_succ, List.set_cons_zero]
    refine x_end ?_
    refine wpX_fork2 (i := 4) (j := 5) (by kernel_rfl) (by kernel_rfl) ?_ ?_
    · simp only [List.getD_cons_zero, List.getD_cons_succ]
      refine x_write rfl ?_
      intro w8 hD K hK
      have q := blk4 (blk_below g3 hD)
      go_wp2_with fail
      refine x_end ?_
      refine wpX_tail [5, 6, 7, 8, 9, 10] 6 (by kernel_rfl) ?_
      simp only [List.map_cons, List.map_nil, List.getD_cons_zero, List.getD_cons_succ]
      refine x_write rfl ?_
      rintro w8 rfl K hK
      have q := blk4 (blk_below gp3 hD)
      go_wp2_with fail
      refine x_write rfl ?_
      rintro w8 rfl K hK
      go_wp2_with fail
      have gx0 : (w8.alloc (.cells #[.int .i64 (num + 1), .int .i64 f, .int .i64 t, .slice ad s.size cap] 39 (0, 0))).heap[w8.heap.size]? = some (.cells #[.int .i64 (num + 1), .int .i64 f, .int .i64 t, .slice ad s.size cap] 39 (0, 0)) := by (repeat (first | (with_reducible assumption) | (with_reducible exact Below.refl _ _) | (with_reducible refine heap_drew ?_) | (focus ((with_reducible refine heap_new ?_) ; simp ; done)) | (with_reducible apply heap_set_to) | (focus ((with_reducible refine heap_set_ne ?_ ?_ _) ; rotate_left ; (focus (first | omega | (simp ; done) | (simp ; omega))))) | (with_reducible refine heap_old ?_) | (with_reducible refine Below.drew ?_) | (with_reducible refine below_set ?_ _ _) | (focus ((with_reducible refine Below.setCell ?_ ?_ _) ; rotate_left ; (focus (first | omega | (simp ; done) | (simp ; omega))))) | (focus ((with_reducible refine Below.alloc ?_ ?_ _) ; rotate_left ; (focus (first | omega | (simp ; done) | (simp ; omega))))) | (with_reducible rfl) | (focus (simp ; done))))
      have gx : Hid _ := gx0
      have hx := hD.alloc hD.size (.cells #[.int .i64 (num + 1), .int .i64 f, .int .i64 t, .slice ad s.size cap] 39 (0, 0))
      clear hD gx0 q
      refine x_write rfl ?_
      rintro wx rfl K hK
      refine wp_append_any _ (.tmp 38) (.tmp 40) 54 rfl B 39 i0 _ 4 48 Try.underlying54 HI.out.1 HI.out.2.1 HI.out.2.2.1 HI.out.2.2.2 rfl (by decide) (.slice oa L.length ca) L.length (pflat L) rfl (H3.out.1.below hx).2.2.1 (some ⟨w8.heap.size, 0, none⟩) 1 1 (pflat [⟨num + 1, f, t, ad, cap, s⟩]) rfl rfl (fun h => by cases h) (pk_news gx.out) (pflat_one _) ?_ ?_ ?_ ?_
      · unfold maxLen; omega
      · omega
      · exact Nat.le_trans hB3 hx.size
      intro v' w6 hown hgrow hat
      obtain ⟨oa', ca', rfl, _, _, _, _⟩ := row_form hown
      have hP := bag_push ⟨num + 1, f, t, ad, cap, s⟩ H3.out.1 hx H3.out.2.1 hown hgrow hat gp3 hne.symm H3.out.2.2
      have HP : Hid _ := hP.2
      have q6 := blk4 hP.1
      refine hK _ _ ?_
      try simp only [Act.put, List.setIfInBounds_toArray, List.set_cons_succ, List.set_cons_zero]
      clear hown hgrow hat hP hx gx
      refine x_pure rfl 42 (.pointer (some ⟨b, 0, none⟩)) rfl (by simp) ?_ ?_
      · intro w8 K hK
        go_wp2_with fail
      simp only [Act.put, List.setIfInBounds_toArray, List.set_cons_succ, List.set_cons_zero]
      refine x_pure rfl 43 (.pointer (some ⟨b, 3, none⟩)) rfl (by simp) ?_ ?_
      · intro w8 K hK
        go_wp2_with fail
      simp only [Act.put, List.setIfInBounds_toArray, List.set_cons_succ, List.set_cons_zero]
      refine x_write rfl ?_
      rintro w6 rfl K hK
      go_wp2_with fail
      refine x_end ?_
      rintro _ rfl
      first | exact ⟨_, _, _, _, _, _, _, _, ⟨_, _, rfl⟩, HP.out⟩ | exact ⟨trivial, _, _, _, _, _, _, _, _, ⟨_, _, rfl⟩, HP.out⟩ | exact ⟨trivial, _, _, _, _, _, _, _, _, _, _, rfl, HP.out⟩
    · simp only [List.getD_cons_zero, List.getD_cons_succ]
      refine x_write rfl ?_
      intro w8 hD K hK
      have q := blk4 (blk_below gp3 hD)
      go_wp2_with fail
      refine x_end ?_
      refine wpX_fork2 (i := 4) (j := 6) (by kernel_rfl) (by kernel_rfl) ?_ ?_
      · simp only [List.getD_cons_zero, List.getD_cons_succ]
        refine x_write rfl ?_
        rintro w8 rfl K hK
        have q := blk4 (blk_below g3 hD)
        go_wp2_with fail
        refine x_end ?_
        refine wpX_tail [6, 7, 8, 9, 10] 5 (by kernel_rfl) ?_
        simp only [List.map_cons, List.map_nil, List.getD_cons_zero, List.getD_cons_succ]
        refine x_write rfl ?_
        rintro w8 rfl K hK
        go_wp2_with fail
        have gx0 : (w8.alloc (.cells #[.int .i64 (num + 1), .int .i64 f, .int .i64 t, .slice ad s.size cap] 39 (0, 0))).heap[w8.heap.size]? = some (.cells #[.int .i64 (num + 1), .int .i64 f, .int .i64 t, .slice ad s.size cap] 39 (0, 0)) := by (repeat (first | (with_reducible assumption) | (with_reducible exact Below.refl _ _) | (with_reducible refine heap_drew ?_) | (focus ((with_reducible refine heap_new ?_) ; simp ; done)) | (with_reducible apply heap_set_to) | (focus ((with_reducible refine heap_set_ne ?_ ?_ _) ; rotate_left ; (focus (first | omega | (simp ; done) | (simp ; omega))))) | (with_reducible refine heap_old ?_) | (with_reducible refine Below.drew ?_) | (with_reducible refine below_set ?_ _ _) | (focus ((with_reducible refine Below.setCell ?_ ?_ _) ; rotate_left ; (focus (first | omega | (simp ; done) | (simp ; omega))))) | (focus ((with_reducible refine Below.alloc ?_ ?_ _) ; rotate_left ; (focus (first | omega | (simp ; done) | (simp ; omega))))) | (with_reducible rfl) | (focus (simp ; done))))
        have gx : Hid _ := gx0
        have hx := hD.alloc hD.size (.cells #[.int .i64 (num + 1), .int .i64 f, .int .i64 t, .slice ad s.size cap] 39 (0, 0))
        clear hD gx0 q
        refine x_write rfl ?_
        rintro wx rfl K hK
        refine wp_append_any _ (.tmp 38) (.tmp 40) 54 rfl B 39 i0 _ 4 48 Try.underlying54 HI.out.1 HI.out.2.1 HI.out.2.2.1 HI.out.2.2.2 rfl (by decide) (.slice oa L.length ca) L.length (pflat L) rfl (H3.out.1.below hx).2.2.1 (some ⟨w8.heap.size, 0, none⟩) 1 1 (pflat [⟨num + 1, f, t, ad, cap, s⟩]) rfl rfl (fun h => by cases h) (pk_news gx.out) (pflat_one _) ?_ ?_ ?_ ?_
        · unfold maxLen; omega
        · omega
        · exact Nat.le_trans hB3 hx.size
        intro v' w6 hown hgrow hat
        obtain ⟨oa', ca', rfl, _, _, _, _⟩ := row_form hown
        have hP := bag_push ⟨num + 1, f, t, ad, cap, s⟩ H3.out.1 hx H3.out.2.1 hown hgrow hat gp3 hne.symm H3.out.2.2
        have HP : Hid _ := hP.2
        have q6 := blk4 hP.1
        refine hK _ _ ?_
        try simp only [Act.put, List.setIfInBounds_toArray, List.set_cons_succ, List.set_cons_zero]
        clear hown hgrow hat hP hx gx
        refine x_pure rfl 42 (.pointer (some ⟨b, 0, none⟩)) rfl (by simp) ?_ ?_
        · intro w8 K hK
          go_wp2_with fail
        simp only [Act.put, List.setIfInBounds_toArray, List.set_cons_succ, List.set_cons_zero]
        refine x_pure rfl 43 (.pointer (some ⟨b, 3, none⟩)) rfl (by simp) ?_ ?_
        · intro w8 K hK
          go_wp2_with fail
        simp only [Act.put, List.setIfInBounds_toArray, List.set_cons_succ, List.set_cons_zero]
        refine x_write rfl ?_
        rintro w6 rfl K hK
        go_wp2_with fail
        refine x_end ?_
        rintro _ rfl
        first | exact ⟨_, _, _, _, _, _, _, _, ⟨_, _, rfl⟩, HP.out⟩ | exact ⟨trivial, _, _, _, _, _, _, _, _, ⟨_, _, rfl⟩, HP.out⟩ | exact ⟨trivial, _, _, _, _, _, _, _, _, _, _, rfl, HP.out⟩
      · simp only [List.getD_cons_zero, List.getD_cons_succ]
        refine x_write rfl ?_
        rintro w8 rfl K hK
        go_wp2_with fail
        refine x_end ?_
        refine wpX_tail [4, 7, 8, 9, 10] 5 (by kernel_rfl) ?_
        simp only [List.map_cons, List.map_nil, List.getD_cons_zero, List.getD_cons_succ]
        refine x_write rfl ?_
        rintro _ rfl K hK
        have gx0 : (w8.alloc (.cells #[.int .i64 (num + 1), .int .i64 f, .int .i64 t, .slice ad s.size cap] 39 (0, 0))).heap[w8.heap.size]? = some (.cells #[.int .i64 (num + 1), .int .i64 f, .int .i64 t, .slice ad s.size cap] 39 (0, 0)) := by (repeat (first | (with_reducible assumption) | (with_reducible exact Below.refl _ _) | (with_reducible refine heap_drew ?_) | (focus ((with_reducible refine heap_new ?_) ; simp ; done)) | (with_reducible apply heap_set_to) | (focus ((with_reducible refine heap_set_ne ?_ ?_ _) ; rotate_left ; (focus (first | omega | (simp ; done) | (simp ; omega))))) | (with_reducible refine heap_old ?_) | (with_reducible refine Below.drew ?_) | (with_reducible refine below_set ?_ _ _) | (focus ((with_reducible refine Below.setCell ?_ ?_ _) ; rotate_left ; (focus (first | omega | (simp ; done) | (simp ; omega))))) | (focus ((with_reducible refine Below.alloc ?_ ?_ _) ; rotate_left ; (focus (first | omega | (simp ; done) | (simp ; omega))))) | (with_reducible rfl) | (focus (simp ; done))))
        have gx : Hid _ := gx0
        have hx := hD.alloc hD.size (.cells #[.int .i64 (num + 1), .int .i64 f, .int .i64 t, .slice ad s.size cap] 39 (0, 0))
        have q := blk4 (blk_below g3 hx)
        clear gx0
        go_wp2_with fail
        clear hD q
        refine x_write rfl ?_
        rintro wx rfl K hK
        refine wp_append_any _ (.tmp 38) (.tmp 40) 54 rfl B 39 i0 _ 4 48 Try.underlying54 HI.out.1 HI.out.2.1 HI.out.2.2.1 HI.out.2.2.2 rfl (by decide) (.slice oa L.length ca) L.length (pflat L) rfl (H3.out.1.below hx).2.2.1 (some ⟨w8.heap.size, 0, none⟩) 1 1 (pflat [⟨num + 1, f, t, ad, cap, s⟩]) rfl rfl (fun h => by cases h) (pk_news gx.out) (pflat_one _) ?_ ?_ ?_ ?_
        · unfold maxLen; omega
        · omega
        · exact Nat.le_trans hB3 hx.size
        intro v' w6 hown hgrow hat
        obtain ⟨oa', ca', rfl, _, _, _, _⟩ := row_form hown
        have hP := bag_push ⟨num + 1, f, t, ad, cap, s⟩ H3.out.1 hx H3.out.2.1 hown hgrow hat gp3 hne.symm H3.out.2.2
        have HP : Hid _ := hP.2
        have q6 := blk4 hP.1
        refine hK _ _ ?_
        try simp only [Act.put, List.setIfInBounds_toArray, List.set_cons_succ, List.set_cons_zero]
        clear hown hgrow hat hP hx gx
        refine x_pure rfl 42 (.pointer (some ⟨b, 0, none⟩)) rfl (by simp) ?_ ?_
        · intro w8 K hK
          go_wp2_with fail
        simp only [Act.put, List.setIfInBounds_toArray, List.set_cons_succ, List.set_cons_zero]
        refine x_pure rfl 43 (.pointer (some ⟨b, 3, none⟩)) rfl (by simp) ?_ ?_
        · intro w8 K hK
          go_wp2_with fail
        simp only [Act.put, List.setIfInBounds_toArray, List.set_cons_succ, List.set_cons_zero]
        refine x_write rfl ?_
        rintro w6 rfl K hK
        go_wp2_with fail
        refine x_end ?_
        rintro _ rfl
        first | exact ⟨_, _, _, _, _, _, _, _, ⟨_, _, rfl⟩, HP.out⟩ | exact ⟨trivial, _, _, _, _, _, _, _, _, ⟨_, _, rfl⟩, HP.out⟩ | exact ⟨trivial, _, _, _, _, _, _, _, _, _, _, rfl, HP.out⟩
  · rintro _ w6 ⟨v34, v35, v36, v37, v38, v39, v40, v', v42, v43, rfl, hB6, hK6, hat, gp6⟩
    simp only [Act.put, List.setIfInBounds_toArray, List.set_cons_succ, List.set_cons_zero]
    have HF : Hid (BagAt w6 B b v' room (num + 1) lost (L ++ [⟨num + 1, f, t, ad, cap, s⟩]) ∧ Keep (mine b (.slice oa L.length ca)) w w6 ∧ (v'.ownBlock = (Value.slice oa L.length ca).ownBlock ∨ ((∃ g, v'.ownBlock = some g ∧ w.heap.size ≤ g) ∧ Keep (fun k => k = b) w w6))) :=
      ⟨hB6, K3.trans hK6, hat.elim Or.inl fun ⟨⟨g, h1, h2⟩, hk⟩ => Or.inr ⟨⟨g, h1, Nat.le_trans K3.size h2⟩, K1.trans hk⟩⟩
    have q := blk4 gp6
    clear hB6 hK6 hat gp6 g3 gp3
    go_wp2_with fail
    go_ret
    exact ⟨v', rfl, HF.out⟩
end Go.Proofs.Ytepilaejfepicaa
