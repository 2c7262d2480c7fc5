/-
  slices.Clone of bytes and bag.own: a packet in new memory.
-/
import Derived.Test.YtepilaejfepicaaBKit
import Derived.Lib.SliceRun
namespace Go.Proofs.Ytepilaejfepicaa
open Go.ChangeShapes Go.WideShapes Go.ChangeAt Go.RowKit Go.Deep
set_option linter.unusedVariables false
set_option linter.unusedSimpArgs false

theorem eql_bytes_nil (a : Option Addr) (l c : Nat) (w : World) : (binOp .eql 30 (.slice a l c) (.slice none 0 0)).run Try.prog w = .ok (.bool a.isNone) w := Lib.run_eql_slice_nil w _ _ a l c 0 0 Try.underlying30
attribute [go_sem] eql_bytes_nil

theorem strCells_get (s : ByteArray) (i : Nat) (h : i < s.size) : (Lib.strCells s)[i]? = some (.int .u8 (s[i].toNat : Int)) := by
  have h2 : i < s.data.toList.length := by simpa using h
  unfold Lib.strCells
  rw [List.getElem?_map, List.getElem?_eq_getElem h2]
  rfl
theorem dat_of_own {w : World} {B : Nat} {v : Value} {s : ByteArray} (h : w.ownsRow B 5 1 v s.size (Lib.strCells s)) :
    ∃ ad cap, v = .slice ad s.size cap ∧ (ad = none → s.size = 0 ∧ cap = 0) ∧ Dat w B ad s := by
  rcases h.2 with ⟨rfl, h0⟩ | ⟨g, cap, cur, rfl, hb, hg, hnc, hcm, hcs, ht⟩
  · exact ⟨none, 0, by rw [h0], fun _ => ⟨h0, rfl⟩, Or.inl h0⟩
  · refine ⟨some ⟨g, 0, none⟩, cap, rfl, fun h => (by cases h), Or.inr ⟨g, cur, hb, rfl, hg, fun i hi => ?_⟩⟩
    rw [blk_cell hg, Nat.zero_add, ← Array.getElem?_toList]
    have : cur.toList[i]? = (cur.toList.take (s.size * 1))[i]? := by rw [List.getElem?_take, if_pos (by omega)]
    rw [this, ht, strCells_get s i hi]
theorem reads_news {w : World} {ad : Option Addr} {s : ByteArray} (h : Reads w ad s) : ∀ a, ad = some a → ∀ j u, (Lib.strCells s)[j]? = some u → w.cell? (a.add j) = some u := fun a ha j u hj => by
  have hl := (List.getElem?_eq_some_iff.1 hj).1
  rw [Lib.strCells_length] at hl
  rcases h with h | ⟨g, o, h1, h2, h3⟩
  · omega
  · rw [h1] at ha
    obtain rfl : (⟨g, o, none⟩ : Addr) = a := Option.some.inj ha
    rw [strCells_get s j hl] at hj
    rw [add_none, h3 j hl, ← hj]

set_option maxHeartbeats 2000000 in
theorem clone_any (ad : Option Addr) (cap : Nat) (s : ByteArray) (w : World) (h : Reads w ad s) (hn : ad = none → s.size = 0 ∧ cap = 0) (hs : s.size ≤ 140737488351232) :
    Calls Try.prog 34 #[.slice ad s.size cap] w fun e w' => ∃ ad' cap', e = .returned (.slice ad' s.size cap') ∧ (ad' = none → s.size = 0 ∧ cap' = 0) ∧ Dat w' w.heap.size ad' s ∧ Below w.heap.size w w' := by
  cases ad with
  | none =>
    obtain ⟨h0, hc0⟩ := hn rfl
    subst hc0
    rw [h0]
    go_enter Try.func34, Try.ntmps34
    go_wp2_with fail
    go_ret
    exact ⟨none, 0, rfl, fun _ => rfl, Or.inl h0, Below.refl _ _⟩
  | some a =>
    obtain ⟨i0, hi, hz0, hz1, hz2⟩ := info_parts info_byte
    have HI : Hid (_ ∧ _ ∧ _ ∧ _) := ⟨hi, hz0, hz1, hz2⟩
    clear hi hz0 hz1 hz2
    have HO : Hid ((w.alloc (.cells #[] 5 (0, 0))).ownsRow w.heap.size 5 1 (.slice (some ⟨w.heap.size, 0, none⟩) 0 0) 0 []) := World.ownsRow_lit w #[] 0 (Nat.le_refl _) (by unfold maxLen; omega) rfl
    have HR : Hid (Reads (w.alloc (.cells #[] 5 (0, 0))) (some a) s) := h.below (below_alloc_self w _)
    clear h hn
    go_enter Try.func34, Try.ntmps34
    go_wp2_with (first
      | (at_builtin; (refine wpList_append_any _ rfl (.tmp 5) (.tmp 6) 30 rfl w.heap.size 5 i0 _ 1 1 Try.underlying30 HI.out.1 HI.out.2.1 HI.out.2.2.1 HI.out.2.2.2 rfl (by decide) _ 0 [] rfl HO.out (some a) s.size cap (Lib.strCells s) rfl (by rw [Lib.strCells_length]; omega) (fun h => by cases h) (reads_news HR.out) (Lib.strCells_oneCell s) ?_ ?_ ?_ ?_))
      | fail)
    · unfold maxLen; omega
    · omega
    · simp
    intro v w2 hown hgrow _
    have hb : Below w.heap.size w w2 := (below_alloc_self w _).grown hgrow (by simp) (fun y hy => (HO.out.lt y hy).1)
    have hown2 : w2.ownsRow w.heap.size 5 1 v s.size (Lib.strCells s) := by simpa using hown
    obtain ⟨ad', cap', rfl, hn', hd⟩ := dat_of_own hown2
    have HD : Hid (Dat w2 w.heap.size ad' s) := hd
    have HN : Hid (ad' = none → s.size = 0 ∧ cap' = 0) := hn'
    clear hown hown2 hgrow hd hn' HO HR
    go_wp2_with fail
    go_ret
    exact ⟨ad', cap', rfl, HN.out, HD.out, hb⟩

set_option maxHeartbeats 2000000 in
theorem own_any (n f t : Int) (ad : Option Addr) (cap : Nat) (s : ByteArray) (w : World) (h : Reads w ad s) (hn : ad = none → s.size = 0 ∧ cap = 0) (hs : s.size ≤ 140737488351232) :
    Calls Try.prog 28 #[pv n f t ad s.size cap] w fun e w' => ∃ ad' cap', e = .returned (pv n f t ad' s.size cap') ∧ (ad' = none → s.size = 0 ∧ cap' = 0) ∧ Dat w' w.heap.size ad' s ∧ Below w.heap.size w w' := by
  have HR : Hid (Reads w ad s ∧ (ad = none → s.size = 0 ∧ cap = 0)) := ⟨h, hn⟩
  clear h hn
  go_enter Try.func28, Try.ntmps28
  go_wp2_with fail
  have hb0 : Below w.heap.size w ((w.alloc (.cells #[.int .i64 n, .int .i64 f, .int .i64 t, .slice ad s.size cap] 39 (0, 0))).alloc (.cells #[.int .i64 0, .int .i64 0, .int .i64 0, .slice none 0 0] 39 (0, 0))) := by (repeat (first | (with_reducible assumption) | (with_reducible exact Below.refl _ _) | (with_reducible refine heap_drew ?_) | (focus ((with_reducible refine heap_new ?_) ; simp ; done)) | (with_reducible apply heap_set_to) | (focus ((with_reducible refine heap_set_ne ?_ ?_ _) ; rotate_left ; (focus (first | omega | (simp ; done) | (simp ; omega))))) | (with_reducible refine heap_old ?_) | (with_reducible refine Below.drew ?_) | (with_reducible refine below_set ?_ _ _) | (focus ((with_reducible refine Below.setCell ?_ ?_ _) ; rotate_left ; (focus (first | omega | (simp ; done) | (simp ; omega))))) | (focus ((with_reducible refine Below.alloc ?_ ?_ _) ; rotate_left ; (focus (first | omega | (simp ; done) | (simp ; omega))))) | (with_reducible rfl) | (focus (simp ; done))))
  refine (clone_any ad cap s _ (HR.out.1.below hb0) HR.out.2 hs).mono ?_
  rintro e w1 ⟨ad', cap', rfl, hn', hd, hb1⟩
  have g0 : w1.heap[w.heap.size]? = some (.cells #[.int .i64 n, .int .i64 f, .int .i64 t, .slice ad s.size cap] 39 (0, 0)) := blk_below (by (repeat (first | (with_reducible assumption) | (with_reducible exact Below.refl _ _) | (with_reducible refine heap_drew ?_) | (focus ((with_reducible refine heap_new ?_) ; simp ; done)) | (with_reducible apply heap_set_to) | (focus ((with_reducible refine heap_set_ne ?_ ?_ _) ; rotate_left ; (focus (first | omega | (simp ; done) | (simp ; omega))))) | (with_reducible refine heap_old ?_) | (with_reducible refine Below.drew ?_) | (with_reducible refine below_set ?_ _ _) | (focus ((with_reducible refine Below.setCell ?_ ?_ _) ; rotate_left ; (focus (first | omega | (simp ; done) | (simp ; omega))))) | (focus ((with_reducible refine Below.alloc ?_ ?_ _) ; rotate_left ; (focus (first | omega | (simp ; done) | (simp ; omega))))) | (with_reducible rfl) | (focus (simp ; done))))) hb1
  have g1 : w1.heap[w.heap.size + 1]? = some (.cells #[.int .i64 0, .int .i64 0, .int .i64 0, .slice none 0 0] 39 (0, 0)) := blk_below (by (repeat (first | (with_reducible assumption) | (with_reducible exact Below.refl _ _) | (with_reducible refine heap_drew ?_) | (focus ((with_reducible refine heap_new ?_) ; simp ; done)) | (with_reducible apply heap_set_to) | (focus ((with_reducible refine heap_set_ne ?_ ?_ _) ; rotate_left ; (focus (first | omega | (simp ; done) | (simp ; omega))))) | (with_reducible refine heap_old ?_) | (with_reducible refine Below.drew ?_) | (with_reducible refine below_set ?_ _ _) | (focus ((with_reducible refine Below.setCell ?_ ?_ _) ; rotate_left ; (focus (first | omega | (simp ; done) | (simp ; omega))))) | (focus ((with_reducible refine Below.alloc ?_ ?_ _) ; rotate_left ; (focus (first | omega | (simp ; done) | (simp ; omega))))) | (with_reducible rfl) | (focus (simp ; done))))) hb1
  have hb : Below w.heap.size w w1 := below_back (by (repeat (first | (with_reducible assumption) | (with_reducible exact Below.refl _ _) | (with_reducible refine heap_drew ?_) | (focus ((with_reducible refine heap_new ?_) ; simp ; done)) | (with_reducible apply heap_set_to) | (focus ((with_reducible refine heap_set_ne ?_ ?_ _) ; rotate_left ; (focus (first | omega | (simp ; done) | (simp ; omega))))) | (with_reducible refine heap_old ?_) | (with_reducible refine Below.drew ?_) | (with_reducible refine below_set ?_ _ _) | (focus ((with_reducible refine Below.setCell ?_ ?_ _) ; rotate_left ; (focus (first | omega | (simp ; done) | (simp ; omega))))) | (focus ((with_reducible refine Below.alloc ?_ ?_ _) ; rotate_left ; (focus (first | omega | (simp ; done) | (simp ; omega))))) | (with_reducible rfl) | (focus (simp ; done))))) (by first | omega | (simp ; done) | (simp ; omega)) hb1
  have HD : Hid (Dat w1 (w.heap.size + 2) ad' s) := by unfold Hid; simpa using hd
  have HN : Hid (ad' = none → s.size = 0 ∧ cap' = 0) := hn'
  clear hb0 hd hn' HR hb1
  have q0 := blk4 g0
  have q1 := blk4 g1
  have hz := hb.size
  go_wp2_with fail
  have gz : (((((w1.setCell ⟨w.heap.size, 3, none⟩ (.slice ad' s.size cap')).setCell ⟨w.heap.size + 1, 0, none⟩ (.int .i64 n)).setCell ⟨w.heap.size + 1, 1, none⟩ (.int .i64 f)).setCell ⟨w.heap.size + 1, 2, none⟩ (.int .i64 t)).setCell ⟨w.heap.size + 1, 3, none⟩ (.slice ad' s.size cap')).heap[w.heap.size + 1]? = some (.cells #[.int .i64 n, .int .i64 f, .int .i64 t, .slice ad' s.size cap'] 39 (0, 0)) := by (repeat (first | (with_reducible assumption) | (with_reducible exact Below.refl _ _) | (with_reducible refine heap_drew ?_) | (focus ((with_reducible refine heap_new ?_) ; simp ; done)) | (with_reducible apply heap_set_to) | (focus ((with_reducible refine heap_set_ne ?_ ?_ _) ; rotate_left ; (focus (first | omega | (simp ; done) | (simp ; omega))))) | (with_reducible refine heap_old ?_) | (with_reducible refine Below.drew ?_) | (with_reducible refine below_set ?_ _ _) | (focus ((with_reducible refine Below.setCell ?_ ?_ _) ; rotate_left ; (focus (first | omega | (simp ; done) | (simp ; omega))))) | (focus ((with_reducible refine Below.alloc ?_ ?_ _) ; rotate_left ; (focus (first | omega | (simp ; done) | (simp ; omega))))) | (with_reducible rfl) | (focus (simp ; done))))
  have hbz : Below w.heap.size w (((((w1.setCell ⟨w.heap.size, 3, none⟩ (.slice ad' s.size cap')).setCell ⟨w.heap.size + 1, 0, none⟩ (.int .i64 n)).setCell ⟨w.heap.size + 1, 1, none⟩ (.int .i64 f)).setCell ⟨w.heap.size + 1, 2, none⟩ (.int .i64 t)).setCell ⟨w.heap.size + 1, 3, none⟩ (.slice ad' s.size cap')) := by (repeat (first | (with_reducible assumption) | (with_reducible exact Below.refl _ _) | (with_reducible refine heap_drew ?_) | (focus ((with_reducible refine heap_new ?_) ; simp ; done)) | (with_reducible apply heap_set_to) | (focus ((with_reducible refine heap_set_ne ?_ ?_ _) ; rotate_left ; (focus (first | omega | (simp ; done) | (simp ; omega))))) | (with_reducible refine heap_old ?_) | (with_reducible refine Below.drew ?_) | (with_reducible refine below_set ?_ _ _) | (focus ((with_reducible refine Below.setCell ?_ ?_ _) ; rotate_left ; (focus (first | omega | (simp ; done) | (simp ; omega))))) | (focus ((with_reducible refine Below.alloc ?_ ?_ _) ; rotate_left ; (focus (first | omega | (simp ; done) | (simp ; omega))))) | (with_reducible rfl) | (focus (simp ; done))))
  have hdz := ((((HD.out.set (p := ⟨w.heap.size, 3, none⟩) (by simp) (.slice ad' s.size cap')).set (p := ⟨w.heap.size + 1, 0, none⟩) (by simp) (.int .i64 n)).set (p := ⟨w.heap.size + 1, 1, none⟩) (by simp) (.int .i64 f)).set (p := ⟨w.heap.size + 1, 2, none⟩) (by simp) (.int .i64 t)).set (p := ⟨w.heap.size + 1, 3, none⟩) (by simp) (.slice ad' s.size cap')
  have qz := blk4 gz
  clear q0 q1 g0 g1 hb gz
  refine bodyPost_ret (v := pv n f t ad' s.size cap') (by simp [results, Try.results28, go_sem, qz.1, qz.2.1, qz.2.2.1, qz.2.2.2.1]) rfl ?_
  exact ⟨ad', cap', rfl, HN.out, hdz.mono (by omega), hbz⟩
end Go.Proofs.Ytepilaejfepicaa
