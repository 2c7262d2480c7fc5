/-
  The tree: Fold.
-/
import Derived.Test.YtdflmplmpjghdaaGreatDoorPieces
namespace Go.Proofs.YtdflmplmpjghdaaGreatDoor
open Go.ChangeShapes Go.WideShapes Go.ChangeAt Go.RowKit Go.Deep
set_option linter.unusedVariables false
set_option linter.unusedSimpArgs false
set_option maxRecDepth 100000

theorem tlenb (tb mb : Nat) (t : Tr) (w : World) (h : TOb w tb mb t) : Calls Tryz.prog 128 #[.pointer (some ⟨tb, 0, none⟩)] w fun e w' => e = .returned (.int .i64 (t.size : Int)) ∧ Below w.heap.size w w' :=
  (tlen_any tb mb t w h).mono (by rintro e w' ⟨rfl, rfl⟩; exact ⟨rfl, Below.refl _ _⟩)
theorem pieces_ok : ∀ (t : Tr) (i j : Int), Oks t.talls → Oks (piecesT i j t)
  | .nil, i, j, _ => by intro s h; simp [piecesT] at h
  | .node l k e s r, i, j, h => by
    have h' := h
    rw [Tr.talls_node] at h'
    have hl := pieces_ok l i (min j l.size) h'.left
    have hr := pieces_ok r (max (i - l.size - 1) 0) (j - l.size - 1) (fun x hx => h'.right x (List.mem_cons_of_mem _ hx))
    have hs : s.ok := h'.right s (List.mem_cons_self ..)
    intro x hx
    unfold piecesT at hx
    split at hx
    · cases hx
    · split at hx
      · obtain rfl : x = (Tr.node l k e s r).sum := by simpa using hx
        rw [sum_tsum _ h]; exact tsum_ok _
      · rcases List.mem_append.1 hx with hx | hx
        · rcases List.mem_append.1 hx with hx | hx
          · exact hl x hx
          · split at hx
            · obtain rfl : x = s := by simpa using hx
              exact hs
            · cases hx
        · exact hr x hx
theorem tsum_take {L : List T3} (h : Oks L) {k : Nat} (hk : k < L.length) : tsum (L.take (k + 1)) = tadd (tsum (L.take k)) L[k] := by
  rw [List.take_succ_eq_append_getElem hk, tsum_append, tsum_one (h _ (List.getElem_mem hk))]
theorem row_form3 {w : World} {B : Nat} {v : Value} {n : Nat} {xs : List Value} (h : w.ownsRow B tT 3 v n xs) : ∃ oa cap, v = .slice oa n cap ∧ cap ≤ maxLen ∧ n ≤ cap := by
  rcases h.2 with ⟨rfl, h0⟩ | ⟨g, cap, cur, rfl, hb, hg, hnc, hcm, hcs, ht⟩
  · exact ⟨none, 0, by rw [h0], Nat.zero_le _, by omega⟩
  · exact ⟨some ⟨g, 0, none⟩, cap, rfl, hcm, hnc⟩
theorem own_t3 {w : World} {B : Nat} {oa : Option Addr} {n cap : Nat} {L : List T3} (h : w.ownsRow B tT 3 (.slice oa n cap) n (tflat L)) (i : Nat) (hi : i < L.length) : ∃ g, oa = some ⟨g, 0, none⟩ ∧ B ≤ g ∧ g < w.heap.size ∧
    w.cell? ⟨g, i * 3, none⟩ = some (.int .i64 L[i].1) ∧ w.cell? ⟨g, i * 3 + 1, none⟩ = some (.int .u64 L[i].2.1) ∧ w.cell? ⟨g, i * 3 + 2, none⟩ = some (.int .u64 L[i].2.2) := by
  have hn : L.length = n := by have := h.1; rw [tflat_length] at this; omega
  rcases h.2 with ⟨_, h0⟩ | ⟨g, c, cur, hv, hbg, hg, _⟩
  · omega
  · simp only [Value.slice.injEq] at hv
    obtain ⟨rfl, _, rfl⟩ := hv
    have key : ∀ r, r < 3 → w.cell? ⟨g, i * 3 + r, none⟩ = (tcells L[i])[r]? := fun r hr => by
      rw [h.cellAt (i * 3 + r) (by omega), tflat_get L i hi r hr]
    exact ⟨g, rfl, hbg, blk_lt hg, key 0 (by omega), key 1 (by omega), key 2 (by omega)⟩
/-- How far the loop of Fold is. -/
structure FoldAt (w wr : World) (mb M b6 b7 B : Nat) (v : Value) (L : List T3) (k : Nat) : Prop where
  mt : Mt wr mb (M + (k - 1))
  keep : Keep (fun k => k = mb) w wr
  own : wr.ownsRow B tT 3 v L.length (tflat L)
  o7 : wr.heap[b7]? = some (.cells #[.int .i64 (tsum (L.take k)).1, .int .u64 (tsum (L.take k)).2.1, .int .u64 (tsum (L.take k)).2.2] tT (0, 0))
  o6 : wr.heap[b6]? = some (.cells #[.int .i64 0, .int .u64 0, .int .u64 0] tT (0, 0))
  n7 : w.heap.size ≤ b7
  l7 : b7 < B
  n67 : b6 ≠ b7
  n6 : w.heap.size ≤ b6
theorem FoldAt.ne {w wr : World} {mb M b6 b7 B : Nat} {v : Value} {L : List T3} {k : Nat} (h : FoldAt w wr mb M b6 b7 B v L k) : mb ≠ b7 ∧ mb ≠ b6 := by
  have h1 := ne_type h.o7 (ty' := 276) (by decide) _ _ _ h.mt
  have h2 := ne_type h.o6 (ty' := 276) (by decide) _ _ _ h.mt
  exact ⟨h1, h2⟩
theorem own_B {w : World} {base n size : Nat} {e : TypeId} {v : Value} {xs : List Value} (h : w.ownsRow base e size v n xs) {g : Nat} (hv : v.ownBlock = some g) : base ≤ g ∧ ∃ cs, w.heap[g]? = some (.cells cs e (0, 0)) := by
  rcases h.2 with ⟨rfl, _⟩ | ⟨g', cap, cur, rfl, hb, hh, _⟩
  · cases hv
  · simp only [Value.ownBlock, Option.some.injEq] at hv
    subst hv
    exact ⟨hb, cur, hh⟩
theorem FoldAt.step {w wr wx : World} {mb M b6 b7 B : Nat} {v : Value} {L : List T3} {k : Nat} (h : FoldAt w wr mb M b6 b7 B v L k) (hk : Keep (fun k => k = mb) wr wx) (hm : Mt wx mb (M + (k + 1 - 1))) {a : T3} (ha : tsum (L.take (k + 1)) = a) :
    FoldAt w (((wx.setCell ⟨b7, 0, none⟩ (.int .i64 a.1)).setCell ⟨b7, 1, none⟩ (.int .u64 a.2.1)).setCell ⟨b7, 2, none⟩ (.int .u64 a.2.2)) mb M b6 b7 B v L (k + 1) := by
  obtain ⟨n1, n2⟩ := h.ne
  have o7 := hk.blk h.o7 (fun e => n1 e.symm)
  have o6 := hk.blk h.o6 (fun e => n2 e.symm)
  have k3 : Keep (fun k => k = b7) wx (((wx.setCell ⟨b7, 0, none⟩ (.int .i64 a.1)).setCell ⟨b7, 1, none⟩ (.int .u64 a.2.1)).setCell ⟨b7, 2, none⟩ (.int .u64 a.2.2)) := ((Keep.set wx ⟨b7, 0, none⟩ _).trans (Keep.set _ ⟨b7, 1, none⟩ _)).trans (Keep.set _ ⟨b7, 2, none⟩ _)
  refine ⟨k3.blk hm n1, (h.keep.trans hk).transNew k3 (fun k e => by rw [e]; exact h.n7), ?_, ?_, k3.blk o6 h.n67, h.n7, h.l7, h.n67, h.n6⟩
  · refine own_keep (own_keep h.own hk (fun g hg => own_ne h.own h.mt (by decide) |> fun h1 h2 => h1 (by rw [hg, h2]))) k3 fun g hg e => ?_
    have := (own_B h.own hg).1
    have := h.l7
    omega
  · rw [ha]
    exact heap_set (heap_set (heap_set o7 0 _) 1 _) 2 _
theorem FoldAt.below {w wr wx : World} {mb M b6 b7 B : Nat} {v : Value} {L : List T3} {k : Nat} (h : FoldAt w wr mb M b6 b7 B v L k) (hb : Below wr.heap.size wr wx) : FoldAt w wx mb M b6 b7 B v L k :=
  ⟨blk_below h.mt hb, h.keep.trans (Keep.of_below hb), own_below h.own hb, blk_below h.o7 hb, blk_below h.o6 hb, h.n7, h.l7, h.n67, h.n6⟩
/-- What Fold leaves. -/
def TFoldOf (w : World) (mb M : Nat) (S : T3) (h : Nat) (x : Ending) (w' : World) : Prop :=
  x = .returned (tv S.1 S.2.1 S.2.2) ∧ ∃ c, c ≤ 4 * h ∧ Mt w' mb (M + c) ∧ Keep (fun k => k = mb) w w'
set_option maxRecDepth 100000 in
set_option maxHeartbeats 8000000 in
theorem tfold_any (mb tb M : Nat) (i j : Int) (t : Tr) (w : World) (hm : Mt w mb M) (ht : TOb w tb mb t) (hok : Oks t.talls) (hf : M + 4 * t.high ≤ 4611686018427370000) (hs : t.size ≤ 1099511627000) (hh : t.high ≤ 200000) (hi : 0 ≤ i ∧ i ≤ 1125899906842624) (hj : 0 ≤ j ∧ j ≤ 1125899906842624) :
    Calls Tryz.prog 135 #[.pointer (some ⟨tb, 0, none⟩), .int .i64 i, .int .i64 j] w (TFoldOf w mb M (tsum (piecesT i (min j t.size) t)) t.high) := by
  obtain ⟨p, h1, h2⟩ := ht
  have q := blk5' h1
  have HT := Lib.hid (And.intro hm (And.intro h1 (And.intro h2 hok)))
  have hl1 := blk_lt hm
  have hpf := pieces_few t i (min j t.size)
  have HPO := Lib.hid (pieces_ok t i (min j t.size) hok)
  clear hm h1 h2 hok
  go_enter Tryz.func135, Tryz.ntmps135
  go_wp2_with fail
  obtain ⟨b6, e6⟩ : ∃ b, b = w.heap.size := ⟨_, rfl⟩
  obtain ⟨b7, e7⟩ : ∃ b, b = w.heap.size + 1 := ⟨_, rfl⟩
  have g6 : ((w.alloc (.cells #[.int .i64 0, .int .u64 0, .int .u64 0] 49 (0, 0))).alloc (.cells #[.int .i64 0, .int .u64 0, .int .u64 0] 49 (0, 0))).heap[w.heap.size]? = some (.cells #[.int .i64 0, .int .u64 0, .int .u64 0] 49 (0, 0)) := by (repeat (first | (with_reducible assumption) | (with_reducible exact Below.refl _ _) | (with_reducible refine heap_drew ?_) | (focus ((with_reducible refine heap_new ?_) ; simp ; done)) | (with_reducible apply heap_set_to) | (focus ((with_reducible refine heap_set_ne ?_ ?_ _) ; rotate_left ; (focus (first | omega | (simp ; done) | (simp ; omega))))) | (with_reducible refine heap_old ?_) | (with_reducible refine Below.drew ?_) | (with_reducible refine below_set ?_ _ _) | (focus ((with_reducible refine Below.setCell ?_ ?_ _) ; rotate_left ; (focus (first | omega | (simp ; done) | (simp ; omega))))) | (focus ((with_reducible refine Below.alloc ?_ ?_ _) ; rotate_left ; (focus (first | omega | (simp ; done) | (simp ; omega))))) | (with_reducible rfl) | (focus (simp ; done))))
  have g7 : ((w.alloc (.cells #[.int .i64 0, .int .u64 0, .int .u64 0] 49 (0, 0))).alloc (.cells #[.int .i64 0, .int .u64 0, .int .u64 0] 49 (0, 0))).heap[w.heap.size + 1]? = some (.cells #[.int .i64 0, .int .u64 0, .int .u64 0] 49 (0, 0)) := by (repeat (first | (with_reducible assumption) | (with_reducible exact Below.refl _ _) | (with_reducible refine heap_drew ?_) | (focus ((with_reducible refine heap_new ?_) ; simp ; done)) | (with_reducible apply heap_set_to) | (focus ((with_reducible refine heap_set_ne ?_ ?_ _) ; rotate_left ; (focus (first | omega | (simp ; done) | (simp ; omega))))) | (with_reducible refine heap_old ?_) | (with_reducible refine Below.drew ?_) | (with_reducible refine below_set ?_ _ _) | (focus ((with_reducible refine Below.setCell ?_ ?_ _) ; rotate_left ; (focus (first | omega | (simp ; done) | (simp ; omega))))) | (focus ((with_reducible refine Below.alloc ?_ ?_ _) ; rotate_left ; (focus (first | omega | (simp ; done) | (simp ; omega))))) | (with_reducible rfl) | (focus (simp ; done))))
  have hb0 : Below w.heap.size w ((w.alloc (.cells #[.int .i64 0, .int .u64 0, .int .u64 0] 49 (0, 0))).alloc (.cells #[.int .i64 0, .int .u64 0, .int .u64 0] 49 (0, 0))) := by (repeat (first | (with_reducible assumption) | (with_reducible exact Below.refl _ _) | (with_reducible refine heap_drew ?_) | (focus ((with_reducible refine heap_new ?_) ; simp ; done)) | (with_reducible apply heap_set_to) | (focus ((with_reducible refine heap_set_ne ?_ ?_ _) ; rotate_left ; (focus (first | omega | (simp ; done) | (simp ; omega))))) | (with_reducible refine heap_old ?_) | (with_reducible refine Below.drew ?_) | (with_reducible refine below_set ?_ _ _) | (focus ((with_reducible refine Below.setCell ?_ ?_ _) ; rotate_left ; (focus (first | omega | (simp ; done) | (simp ; omega))))) | (focus ((with_reducible refine Below.alloc ?_ ?_ _) ; rotate_left ; (focus (first | omega | (simp ; done) | (simp ; omega))))) | (with_reducible rfl) | (focus (simp ; done))))
  have hsz : ((w.alloc (.cells #[.int .i64 0, .int .u64 0, .int .u64 0] 49 (0, 0))).alloc (.cells #[.int .i64 0, .int .u64 0, .int .u64 0] 49 (0, 0))).heap.size = w.heap.size + 1 + 1 := by simp
  rw [← e6] at g6
  rw [← e7] at g7
  rw [← e7, ← e6]
  generalize hw2 : ((w.alloc (.cells #[.int .i64 0, .int .u64 0, .int .u64 0] 49 (0, 0))).alloc (.cells #[.int .i64 0, .int .u64 0, .int .u64 0] 49 (0, 0))) = w2 at *
  have l7 : b7 < w2.heap.size := by omega
  have n7 : w.heap.size ≤ b7 := by omega
  have n67 : b6 ≠ b7 := by omega
  have n6 : w.heap.size ≤ b6 := by omega
  have HB := Lib.hid hb0
  have HG := Lib.hid (And.intro g6 g7)
  have HN := Lib.hid (And.intro n7 (And.intro l7 (And.intro n67 n6)))
  have HQ : Hid (Mt w2 mb M ∧ TObj w2 tb mb (.pointer (pa p)) ∧ TreeAt w2 t p) := ⟨blk_below HT.out.1 hb0, blk_below HT.out.2.1 hb0, HT.out.2.2.1.below hb0⟩
  clear hsz e6 e7 g6 g7 hb0 hw2 q n7 n67 n6
  have hmx : Hid (max i 0 = i) := by show max i 0 = i; omega
  have hSt : Stable (fun w8 : World => (Below w2.heap.size w2 w8)) := by repeat (first | exact stable_ext _ | exact stable_blk _ _ | exact stable_true | (refine stable_bel ?_ ; (focus (first | (simp [World.size_setCell] ; done) | (simp [World.setCell] ; done)))) | refine Stable.and ?_ ?_)
  refine wp_region_x [0, 1, 2, 3, 4, 5, 6, 7, 8, 9, 12, 10, 11] [0, 0, 0, 1, 0, 0, 0, 0, 1, 0, 3, 0, 0] (fun w8 => (Below w2.heap.size w2 w8)) (by kernel_rfl) (by kernel_rfl) ?_ ?_
  · (first | trivial | (repeat (first | (with_reducible assumption) | (with_reducible exact Below.refl _ _) | (with_reducible refine heap_drew ?_) | (focus ((with_reducible refine heap_new ?_) ; simp ; done)) | (with_reducible apply heap_set_to) | (focus ((with_reducible refine heap_set_ne ?_ ?_ _) ; rotate_left ; (focus (first | omega | (simp ; done) | (simp ; omega))))) | (with_reducible refine heap_old ?_) | (with_reducible refine Below.drew ?_) | (with_reducible refine below_set ?_ _ _) | (focus ((with_reducible refine Below.setCell ?_ ?_ _) ; rotate_left ; (focus (first | omega | (simp ; done) | (simp ; omega))))) | (focus ((with_reducible refine Below.alloc ?_ ?_ _) ; rotate_left ; (focus (first | omega | (simp ; done) | (simp ; omega))))) | (with_reducible rfl) | (focus (simp ; done)))))
  simp only [List.map_cons, List.map_nil, List.getD_cons_zero, List.getD_cons_succ]
  (refine x_pure rfl _ ?_ rfl (by simp) ?_ ?_ ; rotate_left ; · (intro w8 K hK ; go_wp2_with fail ; exact rfl))
  simp only [Act.put, List.setIfInBounds_toArray, List.set_cons_succ, List.set_cons_zero]
  (refine x_pure rfl _ ?_ rfl (by simp) ?_ ?_ ; rotate_left ; · (intro w8 K hK ; go_wp2_with fail ; exact rfl))
  simp only [Act.put, List.setIfInBounds_toArray, List.set_cons_succ, List.set_cons_zero]
  (refine x_pure rfl _ ?_ rfl (by simp) ?_ ?_ ; rotate_left ; · (intro w8 K hK ; go_wp2_with fail ; exact rfl))
  simp only [Act.put, List.setIfInBounds_toArray, List.set_cons_succ, List.set_cons_zero]
  (refine x_quiet rfl hSt (fun _ h => h) _ ?_ rfl (by simp) ?_ ?_ ; rotate_left ; · (intro w8 hC K hK ; have hc := hC ; have q := blk5' (blk_below HQ.out.2.1 hc) ; go_wp2_with fail ; refine ⟨?_, Below.refl _ _⟩ ; exact rfl))
  simp only [Act.put, List.setIfInBounds_toArray, List.set_cons_succ, List.set_cons_zero]
  (refine x_pure rfl _ ?_ rfl (by simp) ?_ ?_ ; rotate_left ; · (intro w8 K hK ; go_wp2_with fail ; exact rfl))
  simp only [Act.put, List.setIfInBounds_toArray, List.set_cons_succ, List.set_cons_zero]
  (refine x_pure rfl _ ?_ rfl (by simp) ?_ ?_ ; rotate_left ; · (intro w8 K hK ; go_wp2_with fail ; exact rfl))
  simp only [Act.put, List.setIfInBounds_toArray, List.set_cons_succ, List.set_cons_zero]
  (refine x_pure rfl _ ?_ rfl (by simp) ?_ ?_ ; rotate_left ; · (intro w8 K hK ; go_wp2_with fail ; exact rfl))
  simp only [Act.put, List.setIfInBounds_toArray, List.set_cons_succ, List.set_cons_zero]
  (refine x_pure rfl _ ?_ rfl (by simp) ?_ ?_ ; rotate_left ; · (intro w8 K hK ; go_wp2_with fail ; exact rfl))
  simp only [Act.put, List.setIfInBounds_toArray, List.set_cons_succ, List.set_cons_zero]
  (refine x_quiet rfl hSt (fun _ h => h) _ ?_ rfl (by simp) ?_ ?_ ; rotate_left ; · (intro w8 hC K hK ; have hc := hC ; have q := blk5' (blk_below HQ.out.2.1 hc) ; go_wp2_with fail ; refine (tlenb tb mb t w8 ⟨p, blk_below HQ.out.2.1 hc, HQ.out.2.2.below hc⟩).mono ?_ ; rintro e w2 ⟨rfl, hb2⟩ ; refine hK _ _ ⟨?_, rfl, hb2⟩ ; (try simp only [List.getElem?_toArray, List.getElem?_cons_succ, List.getElem?_cons_zero]) ; exact rfl))
  simp only [Act.put, List.setIfInBounds_toArray, List.set_cons_succ, List.set_cons_zero]
  (refine x_pure rfl _ ?_ rfl (by simp) ?_ ?_ ; rotate_left ; · (intro w8 K hK ; go_wp2_with fail ; exact rfl))
  simp only [Act.put, List.setIfInBounds_toArray, List.set_cons_succ, List.set_cons_zero]
  (refine x_pure rfl _ ?_ rfl (by simp) ?_ ?_ ; rotate_left ; · (intro w8 K hK ; go_wp2_with fail ; exact rfl))
  simp only [Act.put, List.setIfInBounds_toArray, List.set_cons_succ, List.set_cons_zero]
  refine x_write rfl ?_
  intro w8 hD K hK ; have hc := hD ; have q := blk5' (blk_below HQ.out.2.1 hc)
  go_wp2_with fail
  try rw [hmx.out]
  refine (pieces_any t w2.heap.size p i (min j t.size) (.slice none 0 0) 0 [] w8 ⟨HQ.out.2.2.below hc, hc.size, World.ownsRow_nil _ _ _ _, by omega, by omega, by omega, by omega, by omega, by omega⟩).mono ?_
  rintro x9 w9 ⟨v9, rfl, hp⟩
  have hp9 : PcOf w8 w9 w2.heap.size (.slice none 0 0) v9 (piecesT i (min j t.size) t).length (tflat (piecesT i (min j t.size) t)) := by simpa using hp
  have hk0 : Keep (fun _ => False) w2 w9 := (Keep.of_below hc).trans (hp9.keep.mono fun k _ h => by cases h)
  obtain ⟨oa, cap, rfl, hcap, hlc⟩ := row_form3 hp9.own
  have HF : Hid (FoldAt w w9 mb M b6 b7 w2.heap.size (.slice oa (piecesT i (min j t.size) t).length cap) (piecesT i (min j t.size) t) 0) := ⟨hk0.blk HQ.out.1 (fun h => h), (Keep.of_below HB.out).trans (hk0.mono fun k _ h => by cases h), hp9.own, hk0.blk HG.out.2 (fun h => h), hk0.blk HG.out.1 (fun h => h), HN.out.1, HN.out.2.1, HN.out.2.2.1, HN.out.2.2.2⟩
  clear hp hp9 hk0 q hc hSt hmx
  refine hK _ _ ?_
  try simp only [Act.put, List.setIfInBounds_toArray, List.set_cons_succ, List.set_cons_zero]
  (refine x_pure rfl _ ?_ rfl (by simp) ?_ ?_ ; rotate_left ; · (intro w8 K hK ; go_wp2_with fail ; exact rfl))
  simp only [Act.put, List.setIfInBounds_toArray, List.set_cons_succ, List.set_cons_zero]
  first | refine x_nil ?_ | refine x_end ?_
  rintro w9 rfl
  unfold maxLen at hcap
  obtain ⟨L, hL⟩ : ∃ L, L = piecesT i (min j t.size) t := ⟨_, rfl⟩
  have HLL := Lib.hid hL
  rw [← hL] at HF hpf hlc HPO ⊢
  have HPF := Lib.hid hpf
  clear hL hpf
  go_wp2_with fail
  go_loopw [26] (fun s wr => ∃ k : Nat, k ≤ L.length ∧ s = .int .i64 k ∧ Hid (FoldAt w wr mb M b6 b7 w2.heap.size (.slice oa L.length cap) L k)) (fun s _ => L.length - (intOf s).toNat)
  case atStart => exact ⟨0, Nat.zero_le _, rfl, HF⟩
  case round =>
    clear HF
    obtain ⟨k, hk, rfl, HF⟩ := hrel
    obtain ⟨⟨a1, a2, a3⟩, ha⟩ : ∃ a, a = tsum (L.take k) := ⟨_, rfl⟩
    have g7 := HF.out.o7
    rw [← ha] at g7
    have HA := Lib.hid ha
    clear ha
    simp only at g7
    by_cases hlt : k < L.length
    · obtain ⟨g, rfl, hbg, hgl, x0, x1, x2⟩ := own_t3 HF.out.own k hlt
      obtain ⟨⟨s1, s2, s3⟩, hLk⟩ : ∃ s, s = L[k] := ⟨_, rfl⟩
      rw [← hLk] at x0 x1 x2
      simp only at x0 x1 x2
      have HS : Hid (tsum (L.take (k + 1)) = tadd (a1, a2, a3) (s1, s2, s3)) := by show _ = _; rw [tsum_take HPO.out hlt, ← HA.out, ← hLk]
      have HO : Hid (T3.ok (s1, s2, s3)) := by show T3.ok _; rw [hLk]; exact HPO.out _ (List.getElem_mem hlt)
      clear hLk
      have hk5 := below_alloc_self wr (.cells #[.int .i64 s1, .int .u64 s2, .int .u64 s3] 49 (0, 0))
      have hM5 := blk_below HF.out.mt hk5
      have hT5 : TObj (wr.alloc (.cells #[.int .i64 s1, .int .u64 s2, .int .u64 s3] 49 (0, 0))) tb mb (.pointer (pa p)) := blk_below (HF.out.keep.blk HT.out.2.1 (tobj_ne ⟨HT.out.1, HT.out.2.1⟩)) hk5
      have h75 := blk_below g7 hk5
      have h95 : (wr.alloc (.cells #[.int .i64 s1, .int .u64 s2, .int .u64 s3] 49 (0, 0))).heap[wr.heap.size]? = some (.cells #[.int .i64 s1, .int .u64 s2, .int .u64 s3] 49 (0, 0)) := by (repeat (first | (with_reducible assumption) | (with_reducible exact Below.refl _ _) | (with_reducible refine heap_drew ?_) | (focus ((with_reducible refine heap_new ?_) ; simp ; done)) | (with_reducible apply heap_set_to) | (focus ((with_reducible refine heap_set_ne ?_ ?_ _) ; rotate_left ; (focus (first | omega | (simp ; done) | (simp ; omega))))) | (with_reducible refine heap_old ?_) | (with_reducible refine Below.drew ?_) | (with_reducible refine below_set ?_ _ _) | (focus ((with_reducible refine Below.setCell ?_ ?_ _) ; rotate_left ; (focus (first | omega | (simp ; done) | (simp ; omega))))) | (focus ((with_reducible refine Below.alloc ?_ ?_ _) ; rotate_left ; (focus (first | omega | (simp ; done) | (simp ; omega))))) | (with_reducible rfl) | (focus (simp ; done))))
      by_cases hk0 : k = 0
      · obtain rfl : k = 0 := hk0
        have q7 := blk3 g7
        have HZ : Hid ((a1, a2, a3) = ((0, 0, 0) : T3)) := HA.out
        have H5 := Lib.hid (And.intro hk5 hM5)
        clear hk5 hM5 hT5 h75 h95
        go_wp2_with fail
        go_roundw
        case rel => exact ⟨0 + 1, by omega, by go_num, (HF.out.step (Keep.refl _ _) HF.out.mt (a := (s1, s2, s3)) (by rw [HS.out, HZ.out, zero_tadd HO.out])).below (below_alloc_self _ _)⟩
        case measure => simp [intOf]; omega
      · have d : ((k : Int) == 0) = false := by rw [beq_eq_false_iff_ne]; omega
        have d2 : (k : Int) ≠ 0 := by omega
        obtain ⟨b9, e9⟩ : ∃ b, b = wr.heap.size := ⟨_, rfl⟩
        rw [← e9] at h95
        have H5 := Lib.hid (And.intro hk5 (And.intro hM5 (And.intro hT5 (And.intro h75 h95))))
        have HE9 := Lib.hid e9
        clear hk5 hM5 hT5 h75 h95 e9
        go_wp2_with fail
        rw [← HE9.out]
        generalize hw5 : wr.alloc (.cells #[.int .i64 s1, .int .u64 s2, .int .u64 s3] 49 (0, 0)) = w5 at *
        clear hw5 d d2 x0 x1 x2 g7
        have hSt : Stable (fun w8 : World => (Below w5.heap.size w5 w8)) := by repeat (first | exact stable_ext _ | exact stable_blk _ _ | exact stable_true | (refine stable_bel ?_ ; (focus (first | (simp [World.size_setCell] ; done) | (simp [World.setCell] ; done)))) | refine Stable.and ?_ ?_)
        refine wp_region_x [0, 1, 2, 3, 4, 5, 6, 7] [0, 0, 0, 1, 1, 1, 3, 3] (fun w8 => (Below w5.heap.size w5 w8)) (by kernel_rfl) (by kernel_rfl) ?_ ?_
        · (first | trivial | (repeat (first | (with_reducible assumption) | (with_reducible exact Below.refl _ _) | (with_reducible refine heap_drew ?_) | (focus ((with_reducible refine heap_new ?_) ; simp ; done)) | (with_reducible apply heap_set_to) | (focus ((with_reducible refine heap_set_ne ?_ ?_ _) ; rotate_left ; (focus (first | omega | (simp ; done) | (simp ; omega))))) | (with_reducible refine heap_old ?_) | (with_reducible refine Below.drew ?_) | (with_reducible refine below_set ?_ _ _) | (focus ((with_reducible refine Below.setCell ?_ ?_ _) ; rotate_left ; (focus (first | omega | (simp ; done) | (simp ; omega))))) | (focus ((with_reducible refine Below.alloc ?_ ?_ _) ; rotate_left ; (focus (first | omega | (simp ; done) | (simp ; omega))))) | (with_reducible rfl) | (focus (simp ; done)))))
        simp only [List.map_cons, List.map_nil, List.getD_cons_zero, List.getD_cons_succ]
        (refine x_pure rfl _ ?_ rfl (by simp) ?_ ?_ ; rotate_left ; · (intro w8 K hK ; go_wp2_with fail ; exact rfl))
        simp only [Act.put, List.setIfInBounds_toArray, List.set_cons_succ, List.set_cons_zero]
        (refine x_pure rfl _ ?_ rfl (by simp) ?_ ?_ ; rotate_left ; · (intro w8 K hK ; go_wp2_with fail ; exact rfl))
        simp only [Act.put, List.setIfInBounds_toArray, List.set_cons_succ, List.set_cons_zero]
        (refine x_pure rfl _ ?_ rfl (by simp) ?_ ?_ ; rotate_left ; · (intro w8 K hK ; go_wp2_with fail ; exact rfl))
        simp only [Act.put, List.setIfInBounds_toArray, List.set_cons_succ, List.set_cons_zero]
        (refine x_quiet rfl hSt (fun _ h => h) _ ?_ rfl (by simp) ?_ ?_ ; rotate_left ; · (intro w8 hC K hK ; have hc := hC ; have q := blk5' (blk_below H5.out.2.2.1 hc) ; have q7 := blk3 (blk_below H5.out.2.2.2.1 hc) ; have q9 := blk3 (blk_below H5.out.2.2.2.2 hc) ; go_wp2_with fail ; refine ⟨?_, Below.refl _ _⟩ ; exact rfl))
        simp only [Act.put, List.setIfInBounds_toArray, List.set_cons_succ, List.set_cons_zero]
        (refine x_quiet rfl hSt (fun _ h => h) _ ?_ rfl (by simp) ?_ ?_ ; rotate_left ; · (intro w8 hC K hK ; have hc := hC ; have q := blk5' (blk_below H5.out.2.2.1 hc) ; have q7 := blk3 (blk_below H5.out.2.2.2.1 hc) ; have q9 := blk3 (blk_below H5.out.2.2.2.2 hc) ; go_wp2_with fail ; refine ⟨?_, Below.refl _ _⟩ ; exact rfl))
        simp only [Act.put, List.setIfInBounds_toArray, List.set_cons_succ, List.set_cons_zero]
        (refine x_quiet rfl hSt (fun _ h => h) _ ?_ rfl (by simp) ?_ ?_ ; rotate_left ; · (intro w8 hC K hK ; have hc := hC ; have q := blk5' (blk_below H5.out.2.2.1 hc) ; have q7 := blk3 (blk_below H5.out.2.2.2.1 hc) ; have q9 := blk3 (blk_below H5.out.2.2.2.2 hc) ; go_wp2_with fail ; refine ⟨?_, Below.refl _ _⟩ ; exact rfl))
        simp only [Act.put, List.setIfInBounds_toArray, List.set_cons_succ, List.set_cons_zero]
        refine x_write rfl ?_
        intro w8 hD K hK ; have hc := hD ; have q := blk5' (blk_below H5.out.2.2.1 hc) ; have q7 := blk3 (blk_below H5.out.2.2.2.1 hc) ; have q9 := blk3 (blk_below H5.out.2.2.2.2 hc)
        go_wp2_with fail
        refine (mjoin_any mb ((M + (k - 1) : Nat) : Int) _ _ _ _ _ _ w8 (blk_below H5.out.2.1 hc)).mono ?_
        rintro e w10 ⟨rfl, hb9⟩
        have hkw : Keep (fun k => k = mb) wr w10 := (((Keep.of_below H5.out.1).trans (Keep.of_below hc)).trans (Keep.set w8 ⟨mb, 0, none⟩ _)).trans (Keep.of_below hb9)
        have hmw : Mt w10 mb (M + (k + 1 - 1)) := by
          have hm8 : Mt w8 mb (M + (k - 1)) := blk_below H5.out.2.1 hc
          have hw : wrap64 (((M + (k - 1) : Nat) : Int) + 1) = ((M + (k + 1 - 1) : Nat) : Int) := by have := HPF.out; unfold wrap64; omega
          have := blk_below (heap_set_to hm8 (o := 0) (v := .int .i64 (wrap64 (((M + (k - 1) : Nat) : Int) + 1))) (cs' := #[.int .i64 (wrap64 (((M + (k - 1) : Nat) : Int) + 1))]) (by simp)) hb9
          rw [hw] at this
          exact this
        have HW := Lib.hid (And.intro hkw hmw)
        have g10 := hkw.blk HF.out.o7 (fun e => HF.out.ne.1 e.symm)
        have q10 := blk3 g10
        clear hkw hmw g10 q q7 q9 hc hb9 hSt
        refine hK _ _ ?_
        try simp only [Act.put, List.setIfInBounds_toArray, List.set_cons_succ, List.set_cons_zero]
        refine x_write rfl ?_
        rintro w10 rfl K hK
        go_wp2_with fail
        first | refine x_nil ?_ | refine x_end ?_
        rintro _ rfl
        clear q10
        go_wp2_with fail
        go_roundw
        case rel => exact ⟨k + 1, by omega, by go_num, HF.out.step HW.out.1 HW.out.2 (a := tadd (a1, a2, a3) (s1, s2, s3)) HS.out⟩
        case measure => simp [intOf]; omega
    · obtain rfl : k = L.length := by omega
      have q7 := blk3 g7
      have q6 := blk3 HF.out.o6
      clear g7
      go_wp2_with fail
      have hke : Keep (fun k => k = b6) wr (((wr.setCell ⟨b6, 0, none⟩ (.int .i64 a1)).setCell ⟨b6, 1, none⟩ (.int .u64 a2)).setCell ⟨b6, 2, none⟩ (.int .u64 a3)) :=
        ((Keep.set _ ⟨b6, 0, none⟩ _).trans (Keep.set _ ⟨b6, 1, none⟩ _)).trans (Keep.set _ ⟨b6, 2, none⟩ _)
      refine bodyPost_ret (v := tv a1 a2 a3) (by simp [results, Tryz.results135, go_sem, q6]) rfl ⟨?_, L.length - 1, by have := HPF.out; omega, hke.blk HF.out.mt (fun e => HF.out.ne.2 e), HF.out.keep.transNew hke fun k e => ?_⟩
      · have := HA.out
        rw [List.take_length, HLL.out] at this
        rw [← this]
      · rw [e]; exact HF.out.n6
end Go.Proofs.YtdflmplmpjghdaaGreatDoor
