/-
  The tree: pieces, walked.
-/
import Derived.Test.YtdflmplmpjghdaaGreatDoorPcs
namespace Go.Proofs.YtdflmplmpjghdaaGreatDoor
open Go.ChangeShapes Go.WideShapes Go.ChangeAt Go.RowKit Go.Deep
set_option linter.unusedVariables false
set_option linter.unusedSimpArgs false
set_option maxRecDepth 100000

def PcRes (w : World) (B : Nat) (v : Value) (n : Nat) (xs : List Value) (l : List T3) (x : Ending) (w' : World) : Prop := ∃ v', x = .returned v' ∧ PcOf w w' B v v' (n + l.length) (xs ++ tflat l)
structure PcAt (w : World) (B : Nat) (t : Tr) (p : Option Nat) (i j : Int) (v : Value) (n : Nat) (xs : List Value) : Prop where
  tt : TreeAt w t p
  base : B ≤ w.heap.size
  own : w.ownsRow B tT 3 v n xs
  i0 : 0 ≤ i
  i1 : i ≤ 1125899906842624
  j0 : -1125899906842624 + (t.size : Int) ≤ j
  j1 : j ≤ 1125899906842624
  size : t.size ≤ 1099511627776
  few : n + (piecesT i j t).length ≤ 1000000
theorem pc_none {w : World} {B : Nat} {v : Value} {n : Nat} {xs : List Value} (h : w.ownsRow B tT 3 v n xs) : PcRes w B v n xs [] (.returned v) w :=
  ⟨v, rfl, by simpa [tflat] using h, Keep.refl _ _, fun g hg => Or.inl hg⟩
theorem lit_news (w : World) (s : T3) : ∀ ad, some (⟨w.heap.size, 0, none⟩ : Addr) = some ad → ∀ j u, (tcells s)[j]? = some u → (w.alloc (.cells #[.int .i64 s.1, .int .u64 s.2.1, .int .u64 s.2.2] tT (0, 0))).cell? (ad.add j) = some u := by
  intro ad h j u hu
  injection h with h
  subst h
  rw [add_none, blk_cell (heap_new rfl), Nat.zero_add]
  simpa [tcells] using hu
set_option maxHeartbeats 4000000 in
theorem pcs_nil (B : Nat) (p : Option Nat) (i j : Int) (v : Value) (n : Nat) (xs : List Value) (w : World) (h : PcAt w B .nil p i j v n xs) :
    Calls Tryz.prog 178 #[.pointer (pa p), .int .i64 i, .int .i64 j, v] w (PcRes w B v n xs (piecesT i j .nil)) := by
  have HP := Lib.hid h
  obtain rfl : p = none := h.tt
  clear h
  rw [pa_none]
  go_enter Tryz.func178, Tryz.ntmps178
  go_wp2_with fail
  go_ret
  exact pc_none HP.out.own
set_option maxHeartbeats 4000000 in
theorem pcs_ge (B : Nat) (t : Tr) (p : Option Nat) (i j : Int) (v : Value) (n : Nat) (xs : List Value) (w : World) (h : PcAt w B t p i j v n xs) (hij : j ≤ i) :
    Calls Tryz.prog 178 #[.pointer (pa p), .int .i64 i, .int .i64 j, v] w (PcRes w B v n xs (piecesT i j t)) := by
  rw [pieces_none hij]
  cases t with
  | nil => have := pcs_nil B p i j v n xs w h; exact this
  | node l k e s r =>
    have HP := Lib.hid h
    obtain ⟨g, pl, pr, rfl, _, _, _⟩ := h.tt
    clear h
    rw [pa_some]
    go_enter Tryz.func178, Tryz.ntmps178
    go_wp2_with fail
    go_ret
    exact pc_none HP.out.own
set_option maxHeartbeats 4000000 in
theorem pcs_all (B : Nat) (l r : Tr) (k : ByteArray) (e : Ent) (s : T3) (p : Option Nat) (i j : Int) (v : Value) (n : Nat) (xs : List Value) (w : World) (h : PcAt w B (.node l k e s r) p i j v n xs) (hij : i < j) (h1 : i ≤ 0) (h2 : ((Tr.node l k e s r).size : Int) ≤ j) :
    Calls Tryz.prog 178 #[.pointer (pa p), .int .i64 i, .int .i64 j, v] w (PcRes w B v n xs (piecesT i j (.node l k e s r))) := by
  have hpc : piecesT i j (.node l k e s r) = [(Tr.node l k e s r).sum] := by unfold piecesT; rw [if_neg (by omega), if_pos ⟨h1, h2⟩]
  rw [hpc]
  have hfew := h.few
  rw [hpc] at hfew
  simp only [List.length_cons, List.length_nil] at hfew
  clear hpc
  have HP := Lib.hid h
  obtain ⟨g, pl, pr, rfl, hbl, _, _⟩ := h.tt
  have q := blkN hbl
  clear h hbl
  rw [pa_some]
  obtain ⟨i0, hi, hz0, hz1, hz2⟩ := info_parts info_tally
  have HI : Hid (_ ∧ _ ∧ _ ∧ _) := ⟨hi, hz0, hz1, hz2⟩
  clear hi hz0 hz1 hz2
  have HO := Lib.hid HP.out.own
  generalize hsm : (Tr.node l k e s r).sum = sm at *
  obtain ⟨sm1, sm2, sm3⟩ := sm
  clear hsm
  have HO2 : Hid ((w.alloc (.cells #[.int .i64 sm1, .int .u64 sm2, .int .u64 sm3] tT (0, 0))).ownsRow B tT 3 v n xs) := own_below HP.out.own (below_alloc_self w _)
  go_enter Tryz.func178, Tryz.ntmps178
  go_wp2_with (first
    | (at_builtin; (refine wpList_append_any _ rfl (.tmp 28) (.tmp 33) 291 rfl B 49 i0 _ 3 24 Tryz.underlying291 HI.out.1 HI.out.2.1 HI.out.2.2.1 HI.out.2.2.2 rfl (by decide) v n xs rfl HO2.out (some ⟨w.heap.size, 0, none⟩) 1 1 (tcells (sm1, sm2, sm3)) rfl rfl (fun h => nomatch h) (lit_news w (sm1, sm2, sm3)) (tcells_one _) ?c3 ?c4 ?c5 ?_))
    | fail)
  case c3 => unfold maxLen; omega
  case c4 => omega
  case c5 => have := HP.out.base; simp; omega
  intro v' w' ho hg hb
  go_wp2_with fail
  go_ret
  exact ⟨v', rfl, by have := PcOf.app HP.out.base ho hg hb; simpa [tflat] using this⟩
def IHp (t : Tr) : Prop := ∀ (B : Nat) (p : Option Nat) (i j : Int) (v : Value) (n : Nat) (xs : List Value) (w : World), PcAt w B t p i j v n xs →
    Calls Tryz.prog 178 #[.pointer (pa p), .int .i64 i, .int .i64 j, v] w (PcRes w B v n xs (piecesT i j t))
theorem pc_mid {i j : Int} {l r : Tr} {k : ByteArray} {e : Ent} {s : T3} (h : i < j) (h1 : 0 < i ∨ (i ≤ 0 ∧ j < (Tr.node l k e s r).size)) (h2 : i ≤ l.size) (h3 : (l.size : Int) < j) :
    piecesT i j (.node l k e s r) = piecesT i l.size l ++ [s] ++ piecesT 0 (j - l.size - 1) r := by
  conv => lhs; unfold piecesT
  rw [if_neg (by omega), if_neg (by omega), if_pos ⟨h2, h3⟩, show min j (l.size : Int) = l.size by omega, show max (i - (l.size : Int) - 1) 0 = 0 by omega]
theorem pc_right {i j : Int} {l r : Tr} {k : ByteArray} {e : Ent} {s : T3} (h : i < j) (h2 : (l.size : Int) < i) :
    piecesT i j (.node l k e s r) = piecesT i l.size l ++ piecesT (i - l.size - 1) (j - l.size - 1) r := by
  conv => lhs; unfold piecesT
  rw [if_neg (by omega), if_neg (by omega), if_neg (by omega), show min j (l.size : Int) = l.size by omega, show max (i - (l.size : Int) - 1) 0 = i - l.size - 1 by omega, List.append_nil]
theorem pc_left {i j : Int} {l r : Tr} {k : ByteArray} {e : Ent} {s : T3} (h : i < j) (h1 : 0 < i ∨ (i ≤ 0 ∧ j < (Tr.node l k e s r).size)) (h3 : j ≤ (l.size : Int)) :
    piecesT i j (.node l k e s r) = piecesT i j l ++ piecesT 0 (j - l.size - 1) r := by
  conv => lhs; unfold piecesT
  rw [if_neg (by omega), if_neg (by omega), if_neg (by omega), show min j (l.size : Int) = j by omega, show max (i - (l.size : Int) - 1) 0 = 0 by omega, List.append_nil]
/-- What was there when the inner call came back. -/
theorem PcOf.kids {w w' : World} {B : Nat} {v v' : Value} {n m : Nat} {xs ys : List Value} (h : PcOf w w' B v v' n xs) (ho : w.ownsRow B tT 3 v m ys) {g : Nat} {l : Tr} {k : ByteArray} {e : Ent} {s : T3} {r : Tr} {pl pr : Option Nat} (ht : Kids w g l k e s r pl pr) : Kids w' g l k e s r pl pr := ⟨h.node ho ht.1, h.tree ho ht.2.1, h.tree ho ht.2.2⟩
set_option maxRecDepth 100000 in
set_option maxHeartbeats 8000000 in
theorem pcs_mid (B : Nat) (l r : Tr) (k : ByteArray) (e : Ent) (s : T3) (p : Option Nat) (i j : Int) (v : Value) (n : Nat) (xs : List Value) (w : World) (h : PcAt w B (.node l k e s r) p i j v n xs) (hij : i < j) (h1 : 0 < i ∨ (i ≤ 0 ∧ j < (Tr.node l k e s r).size)) (h2 : i ≤ l.size) (h3 : (l.size : Int) < j) (IL : IHp l) (IR : IHp r) :
    Calls Tryz.prog 178 #[.pointer (pa p), .int .i64 i, .int .i64 j, v] w (PcRes w B v n xs (piecesT i j (.node l k e s r))) := by
  have hpc := pc_mid (r := r) (k := k) (e := e) (s := s) hij h1 h2 h3
  have h63 := h.j1
  rcases h1 with h1 | ⟨h1, h4⟩
  all_goals
    have hfew := h.few
    have hlen := h.size
    have j0 := h.j0
    have j1 := h.j1
    have i0' := h.i0
    have i1' := h.i1
    rw [hpc] at hfew
    simp only [List.length_append, List.length_cons, List.length_nil] at hfew
    simp only [Tr.size] at hlen j0
    rw [hpc]
    clear hpc
    have HP := Lib.hid h
    obtain ⟨g, pl, pr, rfl, hbl, hl, hr⟩ := h.tt
    have q := blkN hbl
    have HL : Hid (Kids w g l k e s r pl pr) := ⟨hbl, hl, hr⟩
    clear h hbl hl hr
    rw [pa_some]
    obtain ⟨s1, s2, s3⟩ := s
    obtain ⟨i0, hi, hz0, hz1, hz2⟩ := info_parts info_tally
    have HI : Hid (_ ∧ _ ∧ _ ∧ _) := ⟨hi, hz0, hz1, hz2⟩
    clear hi hz0 hz1 hz2
    go_enter Tryz.func178, Tryz.ntmps178
    go_wp2_with fail
    refine (many_any l pl w HL.out.2.1).mono ?_
    rintro x w ⟨rfl, rfl⟩
    go_wp2_with fail
    rw [show min j (l.size : Int) = l.size by omega]
    refine (IL B pl i l.size v n xs w ⟨HL.out.2.1, HP.out.base, HP.out.own, i0', i1', by omega, by omega, by omega, by omega⟩).mono ?_
    rintro x w1 ⟨v1, rfl, hp1⟩
    have HP1 := Lib.hid hp1
    have HL1 := Lib.hid (hp1.kids HP.out.own HL.out)
    have HB1 : Hid (B ≤ w1.heap.size) := Nat.le_trans HP.out.base hp1.keep.size
    clear hp1 q
    have q := blkN HL1.out.1
    have HO2 : Hid ((w1.alloc (.cells #[.int .i64 s1, .int .u64 s2, .int .u64 s3] tT (0, 0))).ownsRow B tT 3 v1 _ _) := own_below HP1.out.own (below_alloc_self w1 _)
    go_wp2_with (first
      | (at_builtin; (refine wpList_append_any _ rfl (.tmp 58) (.tmp 63) 291 rfl B 49 i0 _ 3 24 Tryz.underlying291 HI.out.1 HI.out.2.1 HI.out.2.2.1 HI.out.2.2.2 rfl (by decide) v1 _ _ rfl HO2.out (some ⟨w1.heap.size, 0, none⟩) 1 1 (tcells (s1, s2, s3)) rfl rfl (fun h => nomatch h) (lit_news w1 (s1, s2, s3)) (tcells_one _) ?c3 ?c4 ?c5 ?_))
      | fail)
    case c3 => unfold maxLen; omega
    case c4 => omega
    case c5 => have := HB1.out; simp; omega
    intro v2 w2 ho hg hb
    rw [← List.append_assoc] at ho
    have hp2 := HP1.out.trans (PcOf.app HB1.out ho hg hb)
    have HP2 := Lib.hid hp2
    have HL2 := Lib.hid (hp2.kids HP.out.own HL.out)
    have HB2 : Hid (B ≤ w2.heap.size) := Nat.le_trans HP.out.base hp2.keep.size
    clear hp2 q ho hg hb HO2
    have q := blkN HL2.out.1
    go_wp2_with fail
    rw [show max (i - (l.size : Int) - 1) 0 = 0 by omega]
    refine (IR B pr 0 (j - l.size - 1) v2 _ _ w2 ⟨HL2.out.2.2, HB2.out, HP2.out.own, by omega, by omega, by omega, by omega, by omega, by omega⟩).mono ?_
    rintro x w9 ⟨v9, rfl, hp9⟩
    have HP9 := Lib.hid hp9
    clear hp9
    go_wp2_with fail
    go_ret
    refine ⟨v9, rfl, ?_⟩
    have := HP2.out.trans HP9.out
    simp only [tflat_append, List.length_append, List.length_cons, List.length_nil, List.nil_append, tflat, List.append_assoc, Nat.zero_add] at this ⊢
    rw [show ∀ a b : Nat, n + (a + (1 + b)) = n + a + 1 + b from fun a b => by omega]
    exact this
set_option maxRecDepth 100000 in
set_option maxHeartbeats 8000000 in
theorem pcs_left (B : Nat) (l r : Tr) (k : ByteArray) (e : Ent) (s : T3) (p : Option Nat) (i j : Int) (v : Value) (n : Nat) (xs : List Value) (w : World) (h : PcAt w B (.node l k e s r) p i j v n xs) (hij : i < j) (h1 : 0 < i ∨ (i ≤ 0 ∧ j < (Tr.node l k e s r).size)) (h3 : j ≤ (l.size : Int)) (IL : IHp l) (IR : IHp r) :
    Calls Tryz.prog 178 #[.pointer (pa p), .int .i64 i, .int .i64 j, v] w (PcRes w B v n xs (piecesT i j (.node l k e s r))) := by
  have hpc := pc_left (r := r) (k := k) (e := e) (s := s) hij h1 h3
  have h2 : i ≤ (l.size : Int) := by omega
  have h63 := h.j1
  rcases h1 with h1 | ⟨h1, h4⟩
  all_goals
    have hfew := h.few
    have hlen := h.size
    have j0 := h.j0
    have j1 := h.j1
    have i0' := h.i0
    have i1' := h.i1
    rw [hpc] at hfew
    simp only [List.length_append, List.length_cons, List.length_nil] at hfew
    simp only [Tr.size] at hlen j0
    rw [hpc]
    clear hpc
    have HP := Lib.hid h
    obtain ⟨g, pl, pr, rfl, hbl, hl, hr⟩ := h.tt
    have q := blkN hbl
    have HL : Hid (Kids w g l k e s r pl pr) := ⟨hbl, hl, hr⟩
    clear h hbl hl hr
    rw [pa_some]
    obtain ⟨s1, s2, s3⟩ := s
    obtain ⟨i0, hi, hz0, hz1, hz2⟩ := info_parts info_tally
    have HI : Hid (_ ∧ _ ∧ _ ∧ _) := ⟨hi, hz0, hz1, hz2⟩
    clear hi hz0 hz1 hz2
    go_enter Tryz.func178, Tryz.ntmps178
    go_wp2_with fail
    refine (many_any l pl w HL.out.2.1).mono ?_
    rintro x w ⟨rfl, rfl⟩
    go_wp2_with fail
    rw [show min j (l.size : Int) = j by omega]
    refine (IL B pl i j v n xs w ⟨HL.out.2.1, HP.out.base, HP.out.own, i0', i1', by omega, by omega, by omega, by omega⟩).mono ?_
    rintro x w1 ⟨v1, rfl, hp1⟩
    have HP1 := Lib.hid hp1
    have HL1 := Lib.hid (hp1.kids HP.out.own HL.out)
    have HB1 : Hid (B ≤ w1.heap.size) := Nat.le_trans HP.out.base hp1.keep.size
    clear hp1 q
    have q := blkN HL1.out.1
    go_wp2_with fail
    rw [show max (i - (l.size : Int) - 1) 0 = 0 by omega]
    refine (IR B pr 0 (j - l.size - 1) v1 _ _ w1 ⟨HL1.out.2.2, HB1.out, HP1.out.own, by omega, by omega, by omega, by omega, by omega, by omega⟩).mono ?_
    rintro x w9 ⟨v9, rfl, hp9⟩
    have HP9 := Lib.hid hp9
    clear hp9
    go_wp2_with fail
    go_ret
    refine ⟨v9, rfl, ?_⟩
    have := HP1.out.trans HP9.out
    simp only [tflat_append, List.length_append, List.append_assoc] at this ⊢
    rw [← Nat.add_assoc]
    exact this
set_option maxRecDepth 100000 in
set_option maxHeartbeats 8000000 in
theorem pcs_right (B : Nat) (l r : Tr) (k : ByteArray) (e : Ent) (s : T3) (p : Option Nat) (i j : Int) (v : Value) (n : Nat) (xs : List Value) (w : World) (h : PcAt w B (.node l k e s r) p i j v n xs) (hij : i < j) (h2 : (l.size : Int) < i) (IL : IHp l) (IR : IHp r) :
    Calls Tryz.prog 178 #[.pointer (pa p), .int .i64 i, .int .i64 j, v] w (PcRes w B v n xs (piecesT i j (.node l k e s r))) := by
  have hpc := pc_right (r := r) (k := k) (e := e) (s := s) hij h2
  have h1 : 0 < i := by omega
  have h63 := h.j1
  have hfew := h.few
  have hlen := h.size
  have j0 := h.j0
  have j1 := h.j1
  have i0' := h.i0
  have i1' := h.i1
  rw [hpc] at hfew
  simp only [List.length_append, List.length_cons, List.length_nil] at hfew
  simp only [Tr.size] at hlen j0
  rw [hpc]
  clear hpc
  have HP := Lib.hid h
  obtain ⟨g, pl, pr, rfl, hbl, hl, hr⟩ := h.tt
  have q := blkN hbl
  have HL : Hid (Kids w g l k e s r pl pr) := ⟨hbl, hl, hr⟩
  clear h hbl hl hr
  rw [pa_some]
  obtain ⟨s1, s2, s3⟩ := s
  obtain ⟨i0, hi, hz0, hz1, hz2⟩ := info_parts info_tally
  have HI : Hid (_ ∧ _ ∧ _ ∧ _) := ⟨hi, hz0, hz1, hz2⟩
  clear hi hz0 hz1 hz2
  go_enter Tryz.func178, Tryz.ntmps178
  go_wp2_with fail
  refine (many_any l pl w HL.out.2.1).mono ?_
  rintro x w ⟨rfl, rfl⟩
  go_wp2_with fail
  rw [show min j (l.size : Int) = l.size by omega]
  refine (IL B pl i l.size v n xs w ⟨HL.out.2.1, HP.out.base, HP.out.own, i0', i1', by omega, by omega, by omega, by omega⟩).mono ?_
  rintro x w1 ⟨v1, rfl, hp1⟩
  have HP1 := Lib.hid hp1
  have HL1 := Lib.hid (hp1.kids HP.out.own HL.out)
  have HB1 : Hid (B ≤ w1.heap.size) := Nat.le_trans HP.out.base hp1.keep.size
  clear hp1 q
  have q := blkN HL1.out.1
  go_wp2_with fail
  rw [show max (i - (l.size : Int) - 1) 0 = (i - l.size - 1) by omega]
  refine (IR B pr (i - l.size - 1) (j - l.size - 1) v1 _ _ w1 ⟨HL1.out.2.2, HB1.out, HP1.out.own, by omega, by omega, by omega, by omega, by omega, by omega⟩).mono ?_
  rintro x w9 ⟨v9, rfl, hp9⟩
  have HP9 := Lib.hid hp9
  clear hp9
  go_wp2_with fail
  go_ret
  refine ⟨v9, rfl, ?_⟩
  have := HP1.out.trans HP9.out
  simp only [tflat_append, List.length_append, List.append_assoc] at this ⊢
  rw [← Nat.add_assoc]
  exact this
theorem pieces_any : ∀ t : Tr, IHp t
  | .nil => fun B p i j v n xs w h => pcs_nil B p i j v n xs w h
  | .node l k e s r => fun B p i j v n xs w h => by
    by_cases hij : j ≤ i
    · exact pcs_ge B _ p i j v n xs w h hij
    · by_cases h1 : i ≤ 0 ∧ ((Tr.node l k e s r).size : Int) ≤ j
      · exact pcs_all B l r k e s p i j v n xs w h (by omega) h1.1 h1.2
      · by_cases h2 : (l.size : Int) < i
        · exact pcs_right B l r k e s p i j v n xs w h (by omega) h2 (pieces_any l) (pieces_any r)
        · by_cases h3 : (l.size : Int) < j
          · exact pcs_mid B l r k e s p i j v n xs w h (by omega) (by omega) (by omega) h3 (pieces_any l) (pieces_any r)
          · exact pcs_left B l r k e s p i j v n xs w h (by omega) (by omega) (by omega) (pieces_any l) (pieces_any r)
end Go.Proofs.YtdflmplmpjghdaaGreatDoor
