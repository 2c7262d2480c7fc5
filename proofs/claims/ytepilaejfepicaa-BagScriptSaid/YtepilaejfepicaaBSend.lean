/-
  The bag's New, Len, Lost, none, Send, Double.
-/
import Derived.Test.YtepilaejfepicaaBAdd
namespace Go.Proofs.Ytepilaejfepicaa
open Go.ChangeShapes Go.WideShapes Go.ChangeAt Go.RowKit Go.Deep
set_option linter.unusedVariables false
set_option linter.unusedSimpArgs false

theorem new_ok (room : Int) (B : Nat) (w : World) (h : 1 ≤ room ∧ room ≤ 512) (hB : B ≤ w.heap.size) :
    Calls Try.prog 8 #[.int .i64 room] w fun e w' => ∃ b, e = .returned (.tuple #[.pointer (some ⟨b, 0, none⟩), .int .i64 0]) ∧ w.heap.size ≤ b ∧ BagAt w' B b (.slice none 0 0) room 0 0 [] ∧ Below w.heap.size w w' := by
  go_enter Try.func8, Try.ntmps8
  have h1 : ¬ room < 1 := by omega
  have h2 : ¬ room > 512 := by omega
  go_wp2_with fail
  exact bodyPost_ret (v := .tuple #[.pointer (some ⟨w.heap.size, 0, none⟩), .int .i64 0]) (by simp [results, Try.results8, go_sem]) rfl ⟨w.heap.size, rfl, Nat.le_refl _, ⟨hB, heap_new rfl, World.ownsRow_nil _ _ _ _, by simp⟩, below_alloc_self w _⟩
theorem new_bad (room : Int) (w : World) (h : room < 1 ∨ 512 < room) :
    Calls Try.prog 8 #[.int .i64 room] w fun e w' => e = .returned (.tuple #[.pointer none, .int .i64 1]) ∧ w' = w := by
  go_enter Try.func8, Try.ntmps8
  by_cases h1 : room < 1
  · go_wp2_with fail
    refine bodyPost_ret (v := .tuple #[.pointer none, .int .i64 1]) (by simp [results, Try.results8, go_sem]) rfl ⟨rfl, rfl⟩
  · have h2 : 512 < room := by omega
    go_wp2_with fail
    refine bodyPost_ret (v := .tuple #[.pointer none, .int .i64 1]) (by simp [results, Try.results8, go_sem]) rfl ⟨rfl, rfl⟩
theorem len_any (B b : Nat) (vs : Value) (room num lost : Int) (L : List Pk) (w : World) (h : BagAt w B b vs room num lost L) :
    Calls Try.prog 14 #[.pointer (some ⟨b, 0, none⟩)] w fun e w' => e = .returned (.int .i64 L.length) ∧ w' = w := by
  obtain ⟨_, hblk, hown, _⟩ := h
  obtain ⟨oa, ca, rfl, _, _, _, _⟩ := row_form hown
  have q := blk4 hblk
  clear hown hblk
  go_enter Try.func14, Try.ntmps14
  go_wp2_with fail
  go_ret
  exact ⟨rfl, rfl⟩
theorem lost_any (B b : Nat) (vs : Value) (room num lost : Int) (L : List Pk) (w : World) (h : BagAt w B b vs room num lost L) :
    Calls Try.prog 15 #[.pointer (some ⟨b, 0, none⟩)] w fun e w' => e = .returned (.int .i64 lost) ∧ w' = w := by
  obtain ⟨_, hblk, hown, _⟩ := h
  have q := blk4 hblk
  clear hown hblk
  go_enter Try.func15, Try.ntmps15
  go_wp2_with fail
  go_ret
  exact ⟨rfl, rfl⟩
theorem none_any (B b : Nat) (vs : Value) (room num lost : Int) (L : List Pk) (i : Int) (w : World) (h : BagAt w B b vs room num lost L) :
    Calls Try.prog 29 #[.pointer (some ⟨b, 0, none⟩), .int .i64 i] w fun e w' => e = .returned (.bool (decide (i < 0 ∨ (L.length : Int) ≤ i))) ∧ w' = w := by
  obtain ⟨_, hblk, hown, _⟩ := h
  obtain ⟨oa, ca, rfl, _, _, _, _⟩ := row_form hown
  have q := blk4 hblk
  clear hown hblk
  go_enter Try.func29, Try.ntmps29
  by_cases h1 : i < 0
  · go_wp2_with fail
    go_ret
    exact ⟨by simp [h1], rfl⟩
  · go_wp2_with fail
    go_ret
    exact ⟨by simp; omega, rfl⟩

/-- The arguments that Send refuses. -/
def badWay (f t : Int) : Prop := f < 0 ∨ 8 ≤ f ∨ t < 0 ∨ 8 ≤ t ∨ f = t
theorem send_bad (p : Value) (f t : Int) (ad : Option Addr) (cap n : Nat) (w : World) (h : badWay f t) :
    Calls Try.prog 10 #[p, .int .i64 f, .int .i64 t, .slice ad n cap] w fun e w' => e = .returned (.tuple #[.int .i64 0, .int .i64 1]) ∧ w' = w := by
  have H : Hid (badWay f t) := h
  clear h
  go_enter Try.func10, Try.ntmps10
  by_cases h1 : f < 0
  · go_wp2_with fail
    exact bodyPost_ret (v := .tuple #[.int .i64 0, .int .i64 1]) (by simp [results, Try.results10, go_sem]) rfl ⟨rfl, rfl⟩
  by_cases h2 : 8 ≤ f
  · go_wp2_with fail
    exact bodyPost_ret (v := .tuple #[.int .i64 0, .int .i64 1]) (by simp [results, Try.results10, go_sem]) rfl ⟨rfl, rfl⟩
  by_cases h3 : t < 0
  · go_wp2_with fail
    exact bodyPost_ret (v := .tuple #[.int .i64 0, .int .i64 1]) (by simp [results, Try.results10, go_sem]) rfl ⟨rfl, rfl⟩
  by_cases h4 : 8 ≤ t
  · go_wp2_with fail
    exact bodyPost_ret (v := .tuple #[.int .i64 0, .int .i64 1]) (by simp [results, Try.results10, go_sem]) rfl ⟨rfl, rfl⟩
  by_cases h5 : f = t
  · subst h5
    go_wp2_with fail
    exact bodyPost_ret (v := .tuple #[.int .i64 0, .int .i64 1]) (by simp [results, Try.results10, go_sem]) rfl ⟨rfl, rfl⟩
  · exfalso
    rcases H.out with h | h | h | h | h
    · exact h1 h
    · exact h2 h
    · exact h3 h
    · exact h4 h
    · exact h5 h
theorem send_long (p : Value) (f t : Int) (ad : Option Addr) (cap n : Nat) (w : World) (h : ¬ badWay f t) (hn : 65536 < n) :
    Calls Try.prog 10 #[p, .int .i64 f, .int .i64 t, .slice ad n cap] w fun e w' => e = .returned (.tuple #[.int .i64 0, .int .i64 120]) ∧ w' = w := by
  unfold badWay at h
  obtain ⟨h1, h2, h3, h4, h5⟩ : ¬ f < 0 ∧ ¬ 8 ≤ f ∧ ¬ t < 0 ∧ ¬ 8 ≤ t ∧ ¬ f = t := by omega
  clear h
  go_enter Try.func10, Try.ntmps10
  go_wp2_with fail
  exact bodyPost_ret (v := .tuple #[.int .i64 0, .int .i64 120]) (by simp [results, Try.results10, go_sem]) rfl ⟨rfl, rfl⟩
theorem send_full (B b : Nat) (vs : Value) (room num lost : Int) (L : List Pk) (f t : Int) (ad : Option Addr) (cap : Nat) (s : ByteArray) (w : World) (h : BagAt w B b vs room num lost L) (hr : Reads w ad s) (hnil : ad = none → s.size = 0 ∧ cap = 0) (hBw : B ≤ w.heap.size)
    (hL : L.length ≤ 512) (hl : 0 ≤ lost ∧ lost ≤ 4611686018427387904) (hw : ¬ badWay f t) (hs : s.size ≤ 65536) (hfull : room ≤ (L.length : Int)) :
    Calls Try.prog 10 #[.pointer (some ⟨b, 0, none⟩), .int .i64 f, .int .i64 t, .slice ad s.size cap] w fun e w' => e = .returned (.tuple #[.int .i64 0, .int .i64 0]) ∧ BagAt w' B b vs room num (lost + 1) L ∧ Keep (mine b vs) w w' := by
  unfold badWay at hw
  obtain ⟨h1, h2, h3, h4, h5⟩ : ¬ f < 0 ∧ ¬ 8 ≤ f ∧ ¬ t < 0 ∧ ¬ 8 ≤ t ∧ ¬ f = t := by omega
  clear hw
  have HB : Hid (BagAt w B b vs room num lost L) := h
  clear h
  go_enter Try.func10, Try.ntmps10
  go_wp2_with fail
  refine (own_any 0 f t ad cap s _ hr hnil (by omega)).mono ?_
  rintro e w1 ⟨ad', cap', rfl, hn1, hd, hb⟩
  have HN : Hid (ad' = none → s.size = 0 ∧ cap' = 0) := hn1
  clear hn1
  have HB1 : Hid (BagAt w1 B b vs room num lost L) := HB.out.below hb
  have hd1 : Dat w1 B ad' s := hd.mono hBw
  have hB1 := Nat.le_trans hBw hb.size
  have HFr : Hid (s.size = 0 ∨ ∃ g, ad' = some ⟨g, 0, none⟩ ∧ w.heap.size ≤ g) := hd.elim Or.inl fun ⟨g, _, h1, h2, _⟩ => Or.inr ⟨g, h2, h1⟩
  clear HB hd
  go_wp2_with fail
  refine (add_full B b vs room num lost L 0 f t ad' cap' s w1 HB1.out hL hl hfull).mono ?_
  rintro e w2 ⟨rfl, hB2, hK2⟩
  have HF : Hid (BagAt w2 B b vs room num (lost + 1) L ∧ Keep (mine b vs) w w2) := ⟨hB2, (Keep.of_below hb).trans hK2⟩
  clear hB2 hK2 hb
  go_wp2_with fail
  exact bodyPost_ret (v := .tuple #[.int .i64 0, .int .i64 0]) (by simp [results, Try.results10, go_sem]) rfl ⟨rfl, HF.out⟩
theorem send_room (B b : Nat) (vs : Value) (room num lost : Int) (L : List Pk) (f t : Int) (ad : Option Addr) (cap : Nat) (s : ByteArray) (w : World) (h : BagAt w B b vs room num lost L) (hr : Reads w ad s) (hnil : ad = none → s.size = 0 ∧ cap = 0) (hBw : B ≤ w.heap.size)
    (hL : L.length ≤ 512) (hl : 0 ≤ num ∧ num ≤ 4611686018427387904) (hw : ¬ badWay f t) (hs : s.size ≤ 65536) (hfull : (L.length : Int) < room) :
    Calls Try.prog 10 #[.pointer (some ⟨b, 0, none⟩), .int .i64 f, .int .i64 t, .slice ad s.size cap] w fun e w' => ∃ vs' ad' cap', e = .returned (.tuple #[.int .i64 (num + 1), .int .i64 0]) ∧ BagAt w' B b vs' room (num + 1) lost (L ++ [⟨num + 1, f, t, ad', cap', s⟩]) ∧ Keep (mine b vs) w w' ∧
      (ad' = none → s.size = 0 ∧ cap' = 0) ∧ (vs'.ownBlock = vs.ownBlock ∨ ((∃ g, vs'.ownBlock = some g ∧ w.heap.size ≤ g) ∧ Keep (fun k => k = b) w w')) ∧ (s.size = 0 ∨ ∃ g, ad' = some ⟨g, 0, none⟩ ∧ w.heap.size ≤ g) := by
  unfold badWay at hw
  obtain ⟨h1, h2, h3, h4, h5⟩ : ¬ f < 0 ∧ ¬ 8 ≤ f ∧ ¬ t < 0 ∧ ¬ 8 ≤ t ∧ ¬ f = t := by omega
  clear hw
  have HB : Hid (BagAt w B b vs room num lost L) := h
  clear h
  go_enter Try.func10, Try.ntmps10
  go_wp2_with fail
  refine (own_any 0 f t ad cap s _ hr hnil (by omega)).mono ?_
  rintro e w1 ⟨ad', cap', rfl, hn1, hd, hb⟩
  have HN : Hid (ad' = none → s.size = 0 ∧ cap' = 0) := hn1
  clear hn1
  have HB1 : Hid (BagAt w1 B b vs room num lost L) := HB.out.below hb
  have hd1 : Dat w1 B ad' s := hd.mono hBw
  have hB1 := Nat.le_trans hBw hb.size
  have HFr : Hid (s.size = 0 ∨ ∃ g, ad' = some ⟨g, 0, none⟩ ∧ w.heap.size ≤ g) := hd.elim Or.inl fun ⟨g, _, h1, h2, _⟩ => Or.inr ⟨g, h2, h1⟩
  clear HB hd
  go_wp2_with fail
  refine (add_room B b vs room num lost L 0 f t ad' cap' s w1 HB1.out hd1 hB1 hL hl hfull).mono ?_
  rintro e w2 ⟨vs', rfl, hB2, hK2, hat⟩
  have HF : Hid (BagAt w2 B b vs' room (num + 1) lost (L ++ [⟨num + 1, f, t, ad', cap', s⟩]) ∧ Keep (mine b vs) w w2 ∧ (ad' = none → s.size = 0 ∧ cap' = 0) ∧ (vs'.ownBlock = vs.ownBlock ∨ ((∃ g, vs'.ownBlock = some g ∧ w.heap.size ≤ g) ∧ Keep (fun k => k = b) w w2)) ∧ (s.size = 0 ∨ ∃ g, ad' = some ⟨g, 0, none⟩ ∧ w.heap.size ≤ g)) := ⟨hB2, (Keep.of_below hb).trans hK2, HN.out, hat.elim Or.inl fun ⟨⟨g, h1, h2⟩, hk⟩ => Or.inr ⟨⟨g, h1, Nat.le_trans hb.size h2⟩, (Keep.of_below hb).trans hk⟩, HFr.out⟩
  clear hB2 hK2 hb hat HN
  go_wp2_with fail
  exact bodyPost_ret (v := .tuple #[.int .i64 (num + 1), .int .i64 0]) (by simp [results, Try.results10, go_sem]) rfl ⟨vs', ad', cap', rfl, HF.out⟩

/-- A packet is as a slice may be, and no longer than a frame. -/
def Pk.Ok (p : Pk) : Prop := (p.ad = none → p.s.size = 0 ∧ p.cap = 0) ∧ p.s.size ≤ 65536
/-- The i-th packet of the row. -/
theorem own_pk {w : World} {B : Nat} {oa : Option Addr} {n cap : Nat} {L : List Pk} (h : w.ownsRow B 39 4 (.slice oa n cap) n (pflat L)) (i : Nat) (hi : i < L.length) : ∃ g, oa = some ⟨g, 0, none⟩ ∧
    w.cell? ⟨g, i * 4, none⟩ = some (.int .i64 L[i].num) ∧ w.cell? ⟨g, i * 4 + 1, none⟩ = some (.int .i64 L[i].frm) ∧ w.cell? ⟨g, i * 4 + 2, none⟩ = some (.int .i64 L[i].to) ∧ w.cell? ⟨g, i * 4 + 3, none⟩ = some (.slice L[i].ad L[i].s.size L[i].cap) := by
  have hn : L.length = n := by have := h.1; rw [pflat_length] at this; omega
  rcases h.2 with ⟨_, h0⟩ | ⟨g, c, cur, hv, _, _⟩
  · omega
  · simp only [Value.slice.injEq] at hv
    obtain ⟨rfl, _, rfl⟩ := hv
    have key : ∀ r, r < 4 → w.cell? ⟨g, i * 4 + r, none⟩ = (L[i].cells)[r]? := fun r hr => by
      rw [h.cellAt (i * 4 + r) (by omega), pflat_get L i hi r hr]
    exact ⟨g, rfl, key 0 (by omega), key 1 (by omega), key 2 (by omega), key 3 (by omega)⟩

theorem double_none (B b : Nat) (vs : Value) (room num lost : Int) (L : List Pk) (i : Int) (w : World) (h : BagAt w B b vs room num lost L) (hi : i < 0 ∨ (L.length : Int) ≤ i) :
    Calls Try.prog 11 #[.pointer (some ⟨b, 0, none⟩), .int .i64 i] w fun e w' => e = .returned (.tuple #[.int .i64 0, .int .i64 161]) ∧ w' = w := by
  have C := none_any B b vs room num lost L i w h
  rw [decide_eq_true hi] at C
  clear h hi
  go_enter Try.func11, Try.ntmps11
  go_wp2_with fail
  refine C.mono ?_
  rintro e w1 ⟨rfl, rfl⟩
  go_wp2_with fail
  exact bodyPost_ret (v := .tuple #[.int .i64 0, .int .i64 161]) (by simp [results, Try.results11, go_sem]) rfl ⟨rfl, rfl⟩
theorem double_full (B b : Nat) (vs : Value) (room num lost : Int) (L : List Pk) (i : Nat) (hi : i < L.length) (w : World) (h : BagAt w B b vs room num lost L) (hBw : B ≤ w.heap.size)
    (hL : L.length ≤ 512) (hl : 0 ≤ lost ∧ lost ≤ 4611686018427387904) (hfull : room ≤ (L.length : Int)) :
    Calls Try.prog 11 #[.pointer (some ⟨b, 0, none⟩), .int .i64 i] w fun e w' => e = .returned (.tuple #[.int .i64 0, .int .i64 0]) ∧ BagAt w' B b vs room num (lost + 1) L ∧ Keep (mine b vs) w w' := by
  have C := none_any B b vs room num lost L i w h
  rw [decide_eq_false (by omega)] at C
  have HB : Hid (BagAt w B b vs room num lost L) := h
  have q := blk4 h.2.1
  obtain ⟨oa, ca, rfl, hca, _, _, _⟩ := row_form h.2.2.1
  obtain ⟨g, rfl, x0, x1, x2, x3⟩ := own_pk h.2.2.1 i hi
  have hd := h.2.2.2 L[i] (List.getElem_mem hi)
  have HD : Hid (Dat w B L[i].ad L[i].s) := hd
  clear h hd
  go_enter Try.func11, Try.ntmps11
  go_wp2_with fail
  refine C.mono ?_
  rintro e w1 ⟨rfl, rfl⟩
  clear C
  go_wp2_with fail
  refine (add_full B b _ room num lost L L[i].num L[i].frm L[i].to L[i].ad L[i].cap L[i].s w1 HB.out hL hl hfull).mono ?_
  rintro e w2 ⟨rfl, hB2, hK2⟩
  have HF : Hid (BagAt w2 B b (.slice (some ⟨g, 0, none⟩) L.length ca) room num (lost + 1) L ∧ Keep (mine b (.slice (some ⟨g, 0, none⟩) L.length ca)) w1 w2) := ⟨hB2, hK2⟩
  clear hB2 hK2 x0 x1 x2 x3 q
  go_wp2_with fail
  exact bodyPost_ret (v := .tuple #[.int .i64 0, .int .i64 0]) (by simp [results, Try.results11, go_sem]) rfl ⟨rfl, HF.out⟩
theorem double_room (B b : Nat) (vs : Value) (room num lost : Int) (L : List Pk) (i : Nat) (hi : i < L.length) (w : World) (h : BagAt w B b vs room num lost L) (hBw : B ≤ w.heap.size)
    (hL : L.length ≤ 512) (hl : 0 ≤ num ∧ num ≤ 4611686018427387904) (hfull : (L.length : Int) < room) :
    Calls Try.prog 11 #[.pointer (some ⟨b, 0, none⟩), .int .i64 i] w fun e w' => ∃ vs', e = .returned (.tuple #[.int .i64 (num + 1), .int .i64 0]) ∧ BagAt w' B b vs' room (num + 1) lost (L ++ [⟨num + 1, L[i].frm, L[i].to, L[i].ad, L[i].cap, L[i].s⟩]) ∧ Keep (mine b vs) w w' ∧
      (vs'.ownBlock = vs.ownBlock ∨ ((∃ g, vs'.ownBlock = some g ∧ w.heap.size ≤ g) ∧ Keep (fun k => k = b) w w')) := by
  have C := none_any B b vs room num lost L i w h
  rw [decide_eq_false (by omega)] at C
  have HB : Hid (BagAt w B b vs room num lost L) := h
  have q := blk4 h.2.1
  obtain ⟨oa, ca, rfl, hca, _, _, _⟩ := row_form h.2.2.1
  obtain ⟨g, rfl, x0, x1, x2, x3⟩ := own_pk h.2.2.1 i hi
  have hd := h.2.2.2 L[i] (List.getElem_mem hi)
  have HD : Hid (Dat w B L[i].ad L[i].s) := hd
  clear h hd
  go_enter Try.func11, Try.ntmps11
  go_wp2_with fail
  refine C.mono ?_
  rintro e w1 ⟨rfl, rfl⟩
  clear C
  go_wp2_with fail
  refine (add_room B b _ room num lost L L[i].num L[i].frm L[i].to L[i].ad L[i].cap L[i].s w1 HB.out HD.out hBw hL hl hfull).mono ?_
  rintro e w2 ⟨vs', rfl, hB2, hK2, hat⟩
  have HF : Hid (BagAt w2 B b vs' room (num + 1) lost (L ++ [⟨num + 1, L[i].frm, L[i].to, L[i].ad, L[i].cap, L[i].s⟩]) ∧ Keep (mine b (.slice (some ⟨g, 0, none⟩) L.length ca)) w1 w2 ∧ (vs'.ownBlock = (Value.slice (some ⟨g, 0, none⟩) L.length ca).ownBlock ∨ ((∃ g, vs'.ownBlock = some g ∧ w1.heap.size ≤ g) ∧ Keep (fun k => k = b) w1 w2))) := ⟨hB2, hK2, hat⟩
  clear hB2 hK2 x0 x1 x2 x3 q hat
  go_wp2_with fail
  exact bodyPost_ret (v := .tuple #[.int .i64 (num + 1), .int .i64 0]) (by simp [results, Try.results11, go_sem]) rfl ⟨vs', rfl, HF.out⟩
end Go.Proofs.Ytepilaejfepicaa
