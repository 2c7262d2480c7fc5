/-
  The reference's Take.
-/
import Derived.Test.YtepilaejfepicaaBRef
namespace Go.Proofs.Ytepilaejfepicaa
open Go.ChangeShapes Go.WideShapes Go.ChangeAt Go.RowKit Go.Deep
set_option linter.unusedVariables false
set_option linter.unusedSimpArgs false

theorem rtake_none (B b : Nat) (vs : Value) (room num lost : Int) (L : List Pk) (i : Int) (w : World) (h : RBagAt w B b vs room num lost L) (hi : i < 0 ∨ (L.length : Int) ≤ i) :
    Calls Try.prog 18 #[.pointer (some ⟨b, 0, none⟩), .int .i64 i] w fun e w' => e = .returned (.tuple #[pv 0 0 0 none 0 0, .int .i64 161]) ∧ Below w.heap.size w w' := by
  obtain ⟨_, hblk, hown, _⟩ := h
  obtain ⟨oa, ca, rfl, _, _, _, _⟩ := row_form hown
  have q := blk4 (blk_below hblk (below_alloc_self w (.cells #[.int .i64 0, .int .i64 0, .int .i64 0, .slice none 0 0] 39 (0, 0))))
  have hbl := blk_lt hblk
  clear hown hblk
  have qz := blk4 (show (w.alloc (.cells #[.int .i64 0, .int .i64 0, .int .i64 0, .slice none 0 0] 39 (0, 0))).heap[w.heap.size]? = some (.cells #[.int .i64 0, .int .i64 0, .int .i64 0, .slice none 0 0] 39 (0, 0)) from heap_new rfl)
  go_enter Try.func18, Try.ntmps18
  by_cases h1 : i < 0
  · clear hi
    go_wp2_with fail
    exact bodyPost_ret (v := .tuple #[pv 0 0 0 none 0 0, .int .i64 161]) (by simp [results, Try.results18, go_sem, qz.1, qz.2.1, qz.2.2.1, qz.2.2.2.1]) rfl ⟨rfl, below_alloc_self w _⟩
  · have h2 : (L.length : Int) ≤ i := by omega
    clear hi
    go_wp2_with fail
    exact bodyPost_ret (v := .tuple #[pv 0 0 0 none 0 0, .int .i64 161]) (by simp [results, Try.results18, go_sem, qz.1, qz.2.1, qz.2.2.1, qz.2.2.2.1]) rfl ⟨rfl, below_alloc_self w _⟩
/-- Another row in the place of the reference's bag's. -/
theorem rbag_swap {w w9 : World} {B b wx : Nat} {vs v : Value} {room num lost : Int} {L L' : List Pk} (h : RBagAt w B b vs room num lost L) (h9 : Below w.heap.size w w9) (hv : w9.ownsRow wx 39 4 v L'.length (pflat L')) (hwx : w.heap.size ≤ wx) (hsub : ∀ p ∈ L', p ∈ L) (hBw : B ≤ w.heap.size) :
    RBagAt (w9.setCell ⟨b, 3, none⟩ v) B b v room num lost L' ∧ Keep (fun k => k = b) w (w9.setCell ⟨b, 3, none⟩ v) := by
  have hblk := blk_below h.2.1 h9
  have hv0 := own_mono hv (Nat.le_trans hBw hwx)
  have K2 := Keep.set w9 ⟨b, 3, none⟩ v
  refine ⟨⟨h.1, heap_set_to hblk (by simp), own_keep hv0 K2 (fun g hg e => own_ne hv0 hblk (by decide) (by rw [hg, e])), fun p hp => ((h.2.2.2 p (hsub p hp)).keep (p := fun _ => False) (Keep.of_below h9) (fun _ _ _ _ h => h)).keep K2 (fun g cs fr hg e => by
    subst e
    rw [hblk] at hg
    simp at hg)⟩, (Keep.of_below h9).trans K2⟩
theorem RBagAt.other {w w' : World} {B b kp : Nat} {vs : Value} {room num lost : Int} {L : List Pk} (h : RBagAt w B b vs room num lost L) {cs : Array Value} {fr : Nat × Nat} (hg : w.heap[kp]? = some (.cells cs 39 fr)) (hb : b ≠ kp) (hr : ∀ g, vs.ownBlock = some g → g ≠ kp) (hk : Keep (fun k => k = kp) w w') : RBagAt w' B b vs room num lost L :=
  ⟨h.1, hk.blk h.2.1 hb, own_keep h.2.2.1 hk hr, fun p hp => (h.2.2.2 p hp).keep hk (fun g cs fr hu e => by
    subst e
    rw [hg] at hu
    simp at hu)⟩
theorem pk_cells {w w' : World} {B g ca : Nat} {L : List Pk} (hown : w.ownsRow B 39 4 (.slice (some ⟨g, 0, none⟩) L.length ca) L.length (pflat L)) (hb : Below w.heap.size w w') : ∀ j, j < L.length * 4 → w'.cell? ⟨g, j, none⟩ = (pflat L)[j]? := fun j hj =>
  (hb.cell (p := ⟨g, j, none⟩) (hown.lt g rfl).2).trans (hown.cellAt j hj)
theorem pk_take {w : World} {g : Nat} {L : List Pk} (h : ∀ j, j < L.length * 4 → w.cell? ⟨g, j, none⟩ = (pflat L)[j]?) (k : Nat) (hk : k < L.length) : ∀ a, (some ⟨g, 0, none⟩ : Option Addr) = some a → ∀ j u, (pflat (L.take k))[j]? = some u → w.cell? (a.add j) = some u := fun a ha j u hj => by
  obtain rfl : (⟨g, 0, none⟩ : Addr) = a := Option.some.inj ha
  have hjl := (List.getElem?_eq_some_iff.1 hj).1
  rw [pflat_length, List.length_take] at hjl
  rw [add_none, Nat.zero_add, h j (by omega), ← hj, ← pflat_take, List.getElem?_take, if_pos (by omega)]
theorem pk_drop {w : World} {g : Nat} {L : List Pk} (h : ∀ j, j < L.length * 4 → w.cell? ⟨g, j, none⟩ = (pflat L)[j]?) (k : Nat) : ∀ a, (some ⟨g, (k + 1) * 4, none⟩ : Option Addr) = some a → ∀ j u, (pflat (L.drop (k + 1)))[j]? = some u → w.cell? (a.add j) = some u := fun a ha j u hj => by
  obtain rfl : (⟨g, (k + 1) * 4, none⟩ : Addr) = a := Option.some.inj ha
  have hjl := (List.getElem?_eq_some_iff.1 hj).1
  rw [pflat_length, List.length_drop] at hjl
  rw [add_none, h _ (by omega), ← hj, ← pflat_drop, List.getElem?_drop]
theorem pk_drop0 {w : World} {L : List Pk} (k : Nat) (hk : L.length = k + 1) (x : Addr) : ∀ a, (some x : Option Addr) = some a → ∀ j u, (pflat (L.drop (k + 1)))[j]? = some u → w.cell? (a.add j) = some u := fun a ha j u hj => by
  have hjl := (List.getElem?_eq_some_iff.1 hj).1
  rw [pflat_length, List.length_drop] at hjl
  omega

set_option maxHeartbeats 8000000 in
theorem rtake_ok (B b : Nat) (vs : Value) (room num lost : Int) (L : List Pk) (i : Nat) (hi : i < L.length) (w : World) (h : RBagAt w B b vs room num lost L) (hBw : B ≤ w.heap.size) (hL : L.length ≤ 512) :
    Calls Try.prog 18 #[.pointer (some ⟨b, 0, none⟩), .int .i64 i] w fun e w' => ∃ vs', e = .returned (.tuple #[pv L[i].num L[i].frm L[i].to L[i].ad L[i].s.size L[i].cap, .int .i64 0]) ∧
      RBagAt w' B b vs' room num lost (L.take i ++ L.drop (i + 1)) ∧ Keep (fun k => k = b) w w' ∧ ∀ g, vs'.ownBlock = some g → w.heap.size ≤ g := by
  obtain ⟨i0, hi0, hz0, hz1, hz2⟩ := info_parts info_pk
  have HI : Hid (_ ∧ _ ∧ _ ∧ _) := ⟨hi0, hz0, hz1, hz2⟩
  clear hi0 hz0 hz1 hz2
  have HB : Hid (RBagAt w B b vs room num lost L) := h
  have hblk := h.2.1
  obtain ⟨oa, ca, rfl, hca, hca2, _, _⟩ := row_form h.2.2.1
  obtain ⟨g, rfl, x0, x1, x2, x3⟩ := own_pk h.2.2.1 i hi
  have hgw : g < w.heap.size := (h.2.2.1.lt g rfl).2
  have hbw : b < w.heap.size := blk_lt hblk
  unfold maxLen at hca2
  have q := blk4 hblk
  have hbs : Below w.heap.size w ((w.alloc (.cells #[.int .i64 0, .int .i64 0, .int .i64 0, .slice none 0 0] 39 (0, 0))).alloc (.cells #[.int .i64 L[i].num, .int .i64 L[i].frm, .int .i64 L[i].to, .slice L[i].ad L[i].s.size L[i].cap] 39 (0, 0))) := by (repeat (first | (with_reducible assumption) | (with_reducible exact Below.refl _ _) | (with_reducible refine heap_drew ?_) | (focus ((with_reducible refine heap_new ?_) ; simp ; done)) | (with_reducible apply heap_set_to) | (focus ((with_reducible refine heap_set_ne ?_ ?_ _) ; rotate_left ; (focus (first | omega | (simp ; done) | (simp ; omega))))) | (with_reducible refine heap_old ?_) | (with_reducible refine Below.drew ?_) | (with_reducible refine below_set ?_ _ _) | (focus ((with_reducible refine Below.setCell ?_ ?_ _) ; rotate_left ; (focus (first | omega | (simp ; done) | (simp ; omega))))) | (focus ((with_reducible refine Below.alloc ?_ ?_ _) ; rotate_left ; (focus (first | omega | (simp ; done) | (simp ; omega))))) | (with_reducible rfl) | (focus (simp ; done))))
  have HC : Hid (∀ w', Below w.heap.size w w' → ∀ j, j < L.length * 4 → w'.cell? ⟨g, j, none⟩ = (pflat L)[j]?) := fun w' hb => pk_cells HB.out.2.2.1 hb
  clear h hblk
  go_enter Try.func18, Try.ntmps18
  have HT : Hid (∀ a, (some ⟨g, 0, none⟩ : Option Addr) = some a → ∀ j u, (pflat (L.take i))[j]? = some u → ((w.alloc (.cells #[.int .i64 0, .int .i64 0, .int .i64 0, .slice none 0 0] 39 (0, 0))).alloc (.cells #[.int .i64 L[i].num, .int .i64 L[i].frm, .int .i64 L[i].to, .slice L[i].ad L[i].s.size L[i].cap] 39 (0, 0))).cell? (a.add j) = some u) := pk_take (HC.out _ hbs) i hi
  go_wp2_with (first
    | (at_builtin; (refine wpList_append_any _ rfl (.tmp 27) (.tmp 33) 54 rfl ((w.alloc (.cells #[.int .i64 0, .int .i64 0, .int .i64 0, .slice none 0 0] 39 (0, 0))).alloc (.cells #[.int .i64 L[i].num, .int .i64 L[i].frm, .int .i64 L[i].to, .slice L[i].ad L[i].s.size L[i].cap] 39 (0, 0))).heap.size 39 i0 _ 4 48 Try.underlying54 HI.out.1 HI.out.2.1 HI.out.2.2.1 HI.out.2.2.2 rfl (by decide) (.slice none 0 0) 0 [] rfl (World.ownsRow_nil _ _ _ _) (some ⟨g, 0, none⟩) i ca (pflat (L.take i)) rfl (by rw [pflat_length, List.length_take]; omega) (fun h => by cases h) HT.out (pflat_one _) ?_ ?_ ?_ ?_))
    | fail)
  · unfold maxLen; omega
  · omega
  · exact Nat.le_refl _
  intro v1 w3 hown1 hgrow1 _
  have hb3 : Below w.heap.size w w3 := hbs.grown hgrow1 hbs.size (fun y hy => by cases hy)
  have hO1 : w3.ownsRow ((w.alloc (.cells #[.int .i64 0, .int .i64 0, .int .i64 0, .slice none 0 0] 39 (0, 0))).alloc (.cells #[.int .i64 L[i].num, .int .i64 L[i].frm, .int .i64 L[i].to, .slice L[i].ad L[i].s.size L[i].cap] 39 (0, 0))).heap.size 39 4 v1 i (pflat (L.take i)) := by simpa using hown1
  have hfr1 : ∀ y, v1.ownBlock = some y → w.heap.size + 2 ≤ y := fun y hy => by have := (hO1.lt y hy).1; simpa using this
  have HO1 : Hid (w3.ownsRow w.heap.size 39 4 v1 i (pflat (L.take i))) := own_mono hO1 hbs.size
  have gz0 : ((w.alloc (.cells #[.int .i64 0, .int .i64 0, .int .i64 0, .slice none 0 0] 39 (0, 0))).alloc (.cells #[.int .i64 L[i].num, .int .i64 L[i].frm, .int .i64 L[i].to, .slice L[i].ad L[i].s.size L[i].cap] 39 (0, 0))).heap[w.heap.size]? = some (.cells #[.int .i64 0, .int .i64 0, .int .i64 0, .slice none 0 0] 39 (0, 0)) := by (repeat (first | (with_reducible assumption) | (with_reducible exact Below.refl _ _) | (with_reducible refine heap_drew ?_) | (focus ((with_reducible refine heap_new ?_) ; simp ; done)) | (with_reducible apply heap_set_to) | (focus ((with_reducible refine heap_set_ne ?_ ?_ _) ; rotate_left ; (focus (first | omega | (simp ; done) | (simp ; omega))))) | (with_reducible refine heap_old ?_) | (with_reducible refine Below.drew ?_) | (with_reducible refine below_set ?_ _ _) | (focus ((with_reducible refine Below.setCell ?_ ?_ _) ; rotate_left ; (focus (first | omega | (simp ; done) | (simp ; omega))))) | (focus ((with_reducible refine Below.alloc ?_ ?_ _) ; rotate_left ; (focus (first | omega | (simp ; done) | (simp ; omega))))) | (with_reducible rfl) | (focus (simp ; done))))
  have gp0 : ((w.alloc (.cells #[.int .i64 0, .int .i64 0, .int .i64 0, .slice none 0 0] 39 (0, 0))).alloc (.cells #[.int .i64 L[i].num, .int .i64 L[i].frm, .int .i64 L[i].to, .slice L[i].ad L[i].s.size L[i].cap] 39 (0, 0))).heap[w.heap.size + 1]? = some (.cells #[.int .i64 L[i].num, .int .i64 L[i].frm, .int .i64 L[i].to, .slice L[i].ad L[i].s.size L[i].cap] 39 (0, 0)) := by (repeat (first | (with_reducible assumption) | (with_reducible exact Below.refl _ _) | (with_reducible refine heap_drew ?_) | (focus ((with_reducible refine heap_new ?_) ; simp ; done)) | (with_reducible apply heap_set_to) | (focus ((with_reducible refine heap_set_ne ?_ ?_ _) ; rotate_left ; (focus (first | omega | (simp ; done) | (simp ; omega))))) | (with_reducible refine heap_old ?_) | (with_reducible refine Below.drew ?_) | (with_reducible refine below_set ?_ _ _) | (focus ((with_reducible refine Below.setCell ?_ ?_ _) ; rotate_left ; (focus (first | omega | (simp ; done) | (simp ; omega))))) | (focus ((with_reducible refine Below.alloc ?_ ?_ _) ; rotate_left ; (focus (first | omega | (simp ; done) | (simp ; omega))))) | (with_reducible rfl) | (focus (simp ; done))))
  have gz3 := (hgrow1.block w.heap.size (by simp; omega) (by simp [Value.ownBlock])).trans gz0
  have gp3 := (hgrow1.block (w.heap.size + 1) (by simp) (by simp [Value.ownBlock])).trans gp0
  have HG3 : Hid (w3.heap[w.heap.size]? = some (.cells #[.int .i64 0, .int .i64 0, .int .i64 0, .slice none 0 0] 39 (0, 0)) ∧ w3.heap[w.heap.size + 1]? = some (.cells #[.int .i64 L[i].num, .int .i64 L[i].frm, .int .i64 L[i].to, .slice L[i].ad L[i].s.size L[i].cap] 39 (0, 0)) ∧ ∀ y, v1.ownBlock = some y → w.heap.size + 2 ≤ y) := ⟨gz3, gp3, hfr1⟩
  have q3 := blk4 (blk_below HB.out.2.1 hb3)
  obtain ⟨L', hLe⟩ : ∃ x, x = L.take i ++ L.drop (i + 1) := ⟨_, rfl⟩
  have HLe : Hid (L.take i ++ L.drop (i + 1) = L') := hLe.symm
  clear hLe hown1 hgrow1 hO1 hfr1 gz0 gp0 gz3 gp3 q x0 x1 x2 x3 HT hbs
  by_cases hcm : i + 1 = ca
  · have HSl : Hid (L.length = i + 1) := by show L.length = i + 1; omega
    subst hcm
    have HT2 : Hid (∀ a, (some ⟨g,0,none⟩ : Option Addr) = some a → ∀ j u, (pflat (L.drop (i + 1)))[j]? = some u → w3.cell? (a.add j) = some u) := (pk_drop0 i HSl.out _)
    go_wp2_with (first
      | (at_builtin; (refine wpList_append_any _ rfl (.tmp 36) (.tmp 43) 54 rfl w.heap.size 39 i0 _ 4 48 Try.underlying54 HI.out.1 HI.out.2.1 HI.out.2.2.1 HI.out.2.2.2 rfl (by decide) v1 i (pflat (L.take i)) rfl HO1.out (some ⟨g,0,none⟩) 0 0 (pflat (L.drop (i + 1))) rfl (by rw [pflat_length, List.length_drop]; try omega) (fun h => by cases h) HT2.out (pflat_one _) ?_ ?_ ?_ ?_))
      | fail)
    · unfold maxLen; omega
    · omega
    · exact hb3.size
    intro v2 w4 hown2 hgrow2 hat2
    have hO2 : w4.ownsRow w.heap.size 39 4 v2 L'.length (pflat L') := by rw [← HLe.out, pflat_append, List.length_append, List.length_take, List.length_drop, Nat.min_eq_left (by omega)]; (rw [show L.length - (i + 1) = 0 by omega]); exact hown2
    have hb4 : Below w.heap.size w w4 := hb3.grown hgrow2 hb3.size (fun y hy => (HO1.out.lt y hy).1)
    have gz4 := (hgrow2.block w.heap.size (blk_lt HG3.out.1) (fun e => by have := HG3.out.2.2 _ e.symm; omega)).trans HG3.out.1
    have gp4 := (hgrow2.block (w.heap.size + 1) (blk_lt HG3.out.2.1) (fun e => by have := HG3.out.2.2 _ e.symm; omega)).trans HG3.out.2.1
    have hv2f : ∀ y, v2.ownBlock = some y → w.heap.size + 2 ≤ y := fun y hy => by
      rcases hat2 with e | ⟨e, _⟩
      · exact HG3.out.2.2 y (by rw [← e]; exact hy)
      · rw [e] at hy
        have h1 : w3.heap.size = y := Option.some.inj hy
        have h2 := blk_lt HG3.out.2.1
        omega
    obtain ⟨ov, cv, rfl, _, _, _, _⟩ := row_form hO2
    have HV : Hid (w4.ownsRow w.heap.size 39 4 (.slice ov L'.length cv) L'.length (pflat L') ∧ (∀ y, (Value.slice ov L'.length cv).ownBlock = some y → w.heap.size + 2 ≤ y) ∧ w4.heap[w.heap.size]? = some (.cells #[.int .i64 0, .int .i64 0, .int .i64 0, .slice none 0 0] 39 (0, 0))) := ⟨hO2, hv2f, gz4⟩
    have q4 := blk4 (blk_below HB.out.2.1 hb4)
    have qp4 := blk4 gp4
    have qz4 := blk4 gz4
    have hlen : (List.take i L).length + (List.drop (i + 1) L).length = L'.length := by rw [← HLe.out, List.length_append]
    clear hown2 hgrow2 hO2 hv2f gz4 gp4 q3 HT2 hlen hat2
    go_wp2_with fail
    clear q4 qp4 qz4
    have hS := rbag_swap HB.out hb4 HV.out.1 (Nat.le_refl _) (fun p hp => (List.mem_append.1 (by rw [HLe.out]; exact hp : p ∈ L.take i ++ L.drop (i + 1))).elim List.mem_of_mem_take List.mem_of_mem_drop) hBw
    have gz5 := heap_set_ne HV.out.2.2 (show w.heap.size ≠ (⟨b, 3, none⟩ : Addr).block by show w.heap.size ≠ b; omega) (Value.slice ov L'.length cv)
    have gzz : (((((w4.setCell ⟨b, 3, none⟩ (.slice ov L'.length cv)).setCell ⟨w.heap.size, 0, none⟩ (.int .i64 L[i].num)).setCell ⟨w.heap.size, 1, none⟩ (.int .i64 L[i].frm)).setCell ⟨w.heap.size, 2, none⟩ (.int .i64 L[i].to)).setCell ⟨w.heap.size, 3, none⟩ (.slice L[i].ad L[i].s.size L[i].cap)).heap[w.heap.size]? = some (.cells #[.int .i64 L[i].num, .int .i64 L[i].frm, .int .i64 L[i].to, .slice L[i].ad L[i].s.size L[i].cap] 39 (0, 0)) := by (repeat (first | (with_reducible assumption) | (with_reducible exact Below.refl _ _) | (with_reducible refine heap_drew ?_) | (focus ((with_reducible refine heap_new ?_) ; simp ; done)) | (with_reducible apply heap_set_to) | (focus ((with_reducible refine heap_set_ne ?_ ?_ _) ; rotate_left ; (focus (first | omega | (simp ; done) | (simp ; omega))))) | (with_reducible refine heap_old ?_) | (with_reducible refine Below.drew ?_) | (with_reducible refine below_set ?_ _ _) | (focus ((with_reducible refine Below.setCell ?_ ?_ _) ; rotate_left ; (focus (first | omega | (simp ; done) | (simp ; omega))))) | (focus ((with_reducible refine Below.alloc ?_ ?_ _) ; rotate_left ; (focus (first | omega | (simp ; done) | (simp ; omega))))) | (with_reducible rfl) | (focus (simp ; done))))
    have KZ : Keep (fun k => k = w.heap.size) (w4.setCell ⟨b, 3, none⟩ (.slice ov L'.length cv)) (((((w4.setCell ⟨b, 3, none⟩ (.slice ov L'.length cv)).setCell ⟨w.heap.size, 0, none⟩ (.int .i64 L[i].num)).setCell ⟨w.heap.size, 1, none⟩ (.int .i64 L[i].frm)).setCell ⟨w.heap.size, 2, none⟩ (.int .i64 L[i].to)).setCell ⟨w.heap.size, 3, none⟩ (.slice L[i].ad L[i].s.size L[i].cap)) :=
      (((Keep.set _ ⟨w.heap.size, 0, none⟩ _).trans (Keep.set _ ⟨w.heap.size, 1, none⟩ _)).trans (Keep.set _ ⟨w.heap.size, 2, none⟩ _)).trans (Keep.set _ ⟨w.heap.size, 3, none⟩ _)
    have qz := blk4 gzz
    refine bodyPost_ret (v := .tuple #[pv L[i].num L[i].frm L[i].to L[i].ad L[i].s.size L[i].cap, .int .i64 0]) (by simp [results, Try.results18, go_sem, qz.1, qz.2.1, qz.2.2.1, qz.2.2.2.1]) rfl ?_
    rw [HLe.out]
    refine ⟨.slice ov L'.length cv, rfl, hS.1.other gz5 (by omega) (fun y hy e => by have := HV.out.2.1 y hy; omega) KZ, ?_, fun y hy => by have := HV.out.2.1 y hy; omega⟩
    exact (Keep.trans (p := fun k => k = b ∨ k = w.heap.size) (hS.2.mono fun k _ e => Or.inl e) (KZ.mono fun k _ e => Or.inr e)).mono fun k hk e => e.elim id (fun e => by omega)
  · have HT2 : Hid (∀ a, (some ⟨g,(i+1)*4,none⟩ : Option Addr) = some a → ∀ j u, (pflat (L.drop (i + 1)))[j]? = some u → w3.cell? (a.add j) = some u) := (pk_drop (HC.out _ hb3) i)
    go_wp2_with (first
      | (at_builtin; (refine wpList_append_any _ rfl (.tmp 36) (.tmp 43) 54 rfl w.heap.size 39 i0 _ 4 48 Try.underlying54 HI.out.1 HI.out.2.1 HI.out.2.2.1 HI.out.2.2.2 rfl (by decide) v1 i (pflat (L.take i)) rfl HO1.out (some ⟨g,(i+1)*4,none⟩) (L.length-(i+1)) (ca-(i+1)) (pflat (L.drop (i + 1))) rfl (by rw [pflat_length, List.length_drop]; try omega) (fun h => by cases h) HT2.out (pflat_one _) ?_ ?_ ?_ ?_))
      | fail)
    · unfold maxLen; omega
    · omega
    · exact hb3.size
    intro v2 w4 hown2 hgrow2 hat2
    have hO2 : w4.ownsRow w.heap.size 39 4 v2 L'.length (pflat L') := by rw [← HLe.out, pflat_append, List.length_append, List.length_take, List.length_drop, Nat.min_eq_left (by omega)]; skip; exact hown2
    have hb4 : Below w.heap.size w w4 := hb3.grown hgrow2 hb3.size (fun y hy => (HO1.out.lt y hy).1)
    have gz4 := (hgrow2.block w.heap.size (blk_lt HG3.out.1) (fun e => by have := HG3.out.2.2 _ e.symm; omega)).trans HG3.out.1
    have gp4 := (hgrow2.block (w.heap.size + 1) (blk_lt HG3.out.2.1) (fun e => by have := HG3.out.2.2 _ e.symm; omega)).trans HG3.out.2.1
    have hv2f : ∀ y, v2.ownBlock = some y → w.heap.size + 2 ≤ y := fun y hy => by
      rcases hat2 with e | ⟨e, _⟩
      · exact HG3.out.2.2 y (by rw [← e]; exact hy)
      · rw [e] at hy
        have h1 : w3.heap.size = y := Option.some.inj hy
        have h2 := blk_lt HG3.out.2.1
        omega
    obtain ⟨ov, cv, rfl, _, _, _, _⟩ := row_form hO2
    have HV : Hid (w4.ownsRow w.heap.size 39 4 (.slice ov L'.length cv) L'.length (pflat L') ∧ (∀ y, (Value.slice ov L'.length cv).ownBlock = some y → w.heap.size + 2 ≤ y) ∧ w4.heap[w.heap.size]? = some (.cells #[.int .i64 0, .int .i64 0, .int .i64 0, .slice none 0 0] 39 (0, 0))) := ⟨hO2, hv2f, gz4⟩
    have q4 := blk4 (blk_below HB.out.2.1 hb4)
    have qp4 := blk4 gp4
    have qz4 := blk4 gz4
    have hlen : (List.take i L).length + (List.drop (i + 1) L).length = L'.length := by rw [← HLe.out, List.length_append]
    clear hown2 hgrow2 hO2 hv2f gz4 gp4 q3 HT2 hlen hat2
    go_wp2_with fail
    clear q4 qp4 qz4
    have hS := rbag_swap HB.out hb4 HV.out.1 (Nat.le_refl _) (fun p hp => (List.mem_append.1 (by rw [HLe.out]; exact hp : p ∈ L.take i ++ L.drop (i + 1))).elim List.mem_of_mem_take List.mem_of_mem_drop) hBw
    have gz5 := heap_set_ne HV.out.2.2 (show w.heap.size ≠ (⟨b, 3, none⟩ : Addr).block by show w.heap.size ≠ b; omega) (Value.slice ov L'.length cv)
    have gzz : (((((w4.setCell ⟨b, 3, none⟩ (.slice ov L'.length cv)).setCell ⟨w.heap.size, 0, none⟩ (.int .i64 L[i].num)).setCell ⟨w.heap.size, 1, none⟩ (.int .i64 L[i].frm)).setCell ⟨w.heap.size, 2, none⟩ (.int .i64 L[i].to)).setCell ⟨w.heap.size, 3, none⟩ (.slice L[i].ad L[i].s.size L[i].cap)).heap[w.heap.size]? = some (.cells #[.int .i64 L[i].num, .int .i64 L[i].frm, .int .i64 L[i].to, .slice L[i].ad L[i].s.size L[i].cap] 39 (0, 0)) := by (repeat (first | (with_reducible assumption) | (with_reducible exact Below.refl _ _) | (with_reducible refine heap_drew ?_) | (focus ((with_reducible refine heap_new ?_) ; simp ; done)) | (with_reducible apply heap_set_to) | (focus ((with_reducible refine heap_set_ne ?_ ?_ _) ; rotate_left ; (focus (first | omega | (simp ; done) | (simp ; omega))))) | (with_reducible refine heap_old ?_) | (with_reducible refine Below.drew ?_) | (with_reducible refine below_set ?_ _ _) | (focus ((with_reducible refine Below.setCell ?_ ?_ _) ; rotate_left ; (focus (first | omega | (simp ; done) | (simp ; omega))))) | (focus ((with_reducible refine Below.alloc ?_ ?_ _) ; rotate_left ; (focus (first | omega | (simp ; done) | (simp ; omega))))) | (with_reducible rfl) | (focus (simp ; done))))
    have KZ : Keep (fun k => k = w.heap.size) (w4.setCell ⟨b, 3, none⟩ (.slice ov L'.length cv)) (((((w4.setCell ⟨b, 3, none⟩ (.slice ov L'.length cv)).setCell ⟨w.heap.size, 0, none⟩ (.int .i64 L[i].num)).setCell ⟨w.heap.size, 1, none⟩ (.int .i64 L[i].frm)).setCell ⟨w.heap.size, 2, none⟩ (.int .i64 L[i].to)).setCell ⟨w.heap.size, 3, none⟩ (.slice L[i].ad L[i].s.size L[i].cap)) :=
      (((Keep.set _ ⟨w.heap.size, 0, none⟩ _).trans (Keep.set _ ⟨w.heap.size, 1, none⟩ _)).trans (Keep.set _ ⟨w.heap.size, 2, none⟩ _)).trans (Keep.set _ ⟨w.heap.size, 3, none⟩ _)
    have qz := blk4 gzz
    refine bodyPost_ret (v := .tuple #[pv L[i].num L[i].frm L[i].to L[i].ad L[i].s.size L[i].cap, .int .i64 0]) (by simp [results, Try.results18, go_sem, qz.1, qz.2.1, qz.2.2.1, qz.2.2.2.1]) rfl ?_
    rw [HLe.out]
    refine ⟨.slice ov L'.length cv, rfl, hS.1.other gz5 (by omega) (fun y hy e => by have := HV.out.2.1 y hy; omega) KZ, ?_, fun y hy => by have := HV.out.2.1 y hy; omega⟩
    exact (Keep.trans (p := fun k => k = b ∨ k = w.heap.size) (hS.2.mono fun k _ e => Or.inl e) (KZ.mono fun k _ e => Or.inr e)).mono fun k hk e => e.elim id (fun e => by omega)
end Go.Proofs.Ytepilaejfepicaa
