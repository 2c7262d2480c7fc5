/-
  The tree: Len, Rank, Get.
-/
import Derived.Test.YtdflmplmpjghdaaGreatDoorPut
import Derived.Deep.LoopGhost
namespace Go.Proofs.YtdflmplmpjghdaaGreatDoor
open Go.ChangeShapes Go.WideShapes Go.ChangeAt Go.RowKit Go.Deep
set_option linter.unusedVariables false
set_option linter.unusedSimpArgs false
set_option maxRecDepth 100000

/-- The tree's own block, and what it holds. -/
def TOb (w : World) (tb mb : Nat) (t : Tr) : Prop := ∃ p, TObj w tb mb (.pointer (pa p)) ∧ TreeAt w t p
theorem TOb.below {w w' : World} {tb mb : Nat} {t : Tr} (h : TOb w tb mb t) (hb : Below w.heap.size w w') : TOb w' tb mb t := by
  obtain ⟨p, h1, h2⟩ := h
  exact ⟨p, blk_below h1 hb, h2.below hb⟩
abbrev evE (e : Ent) : Value := .agg #[.string e.1, .int .i64 e.2.1, .int .i64 e.2.2.1, .string e.2.2.2.1, .bool e.2.2.2.2]
abbrev ent0 : Ent := (⟨#[]⟩, 0, 0, ⟨#[]⟩, false)
/-- What Get answers. -/
def getV : Option Ent → Value
  | none => .tuple #[evE ent0, .bool false]
  | some e => .tuple #[evE e, .bool true]

theorem tlen_any (tb mb : Nat) (t : Tr) (w : World) (h : TOb w tb mb t) : Calls Tryz.prog 128 #[.pointer (some ⟨tb, 0, none⟩)] w fun e w' => e = .returned (.int .i64 (t.size : Int)) ∧ w' = w := by
  obtain ⟨p, h1, h2⟩ := h
  have q := blk5' h1
  have HT := Lib.hid h2
  clear h1 h2
  go_enter Tryz.func128, Tryz.ntmps128
  go_wp2_with fail
  refine (many_any t p w HT.out).mono ?_
  rintro e w' ⟨rfl, rfl⟩
  go_wp2_with fail
  go_ret
  exact ⟨rfl, rfl⟩

set_option maxHeartbeats 4000000 in
theorem rank_any (tb mb : Nat) (key : ByteArray) (t : Tr) (w : World) (h : TOb w tb mb t) (hs : t.size ≤ 1099511627776) :
    Calls Tryz.prog 127 #[.pointer (some ⟨tb, 0, none⟩), .string key] w fun e w' => e = .returned (.int .i64 (rankT key t : Int)) ∧ w' = w := by
  obtain ⟨p, h1, h2⟩ := h
  have q := blk5' h1
  have HT := Lib.hid h2
  clear h1 h2
  go_enter Tryz.func127, Tryz.ntmps127
  go_wp2_with fail
  clear q
  go_loopg [5, 6] t.size (fun g s5 s6 wr => ∃ (t' : Tr) (p' : Option Nat) (n : Nat), t'.size ≤ g ∧ s5 = .int .i64 n ∧ s6 = .pointer (pa p') ∧ Hid (TreeAt w t' p' ∧ n + rankT key t' = rankT key t) ∧ n + t'.size ≤ t.size ∧ wr = w)
  case atStart => exact ⟨t, p, 0, Nat.le_refl _, rfl, rfl, ⟨HT.out, by omega⟩, by omega, rfl⟩
  case round =>
    obtain ⟨t', p', n, hg, rfl, rfl, HR, hn, rfl⟩ := hrel
    cases t' with
    | nil =>
      obtain rfl : p' = none := HR.out.1
      rw [pa_none]
      go_wp2_with fail
      go_ret
      exact ⟨ret_int (by have := HR.out.2; simp only [rankT] at this; omega), rfl⟩
    | node l k e s r =>
      obtain ⟨g', pl, pr, rfl, hb, hl, hr⟩ := HR.out.1
      have HL := Lib.hid (And.intro hl hr)
      have q := blkN hb
      have HN := Lib.hid HR.out.2
      clear hl hr hb HR
      rw [pa_some]
      simp only [Tr.size] at hg hn
      by_cases hk : klb k key = true
      · have d : Op.bytesLess k.toList key.toList = true := hk
        have HK := Lib.hid hk
        clear hk
        go_wp2_with fail
        refine (many_any l pl _ HL.out.1).mono ?_
        rintro e2 wr ⟨rfl, rfl⟩
        go_wp2_with fail
        go_roundg r.size
        case rel => exact ⟨r, pr, n + (l.size + 1), Nat.le_refl _, by congr 1, rfl, ⟨HL.out.2, by have := HN.out; simp only [rankT, HK.out, if_true] at this; omega⟩, by omega, rfl⟩
        case measure => omega
      · have hk : klb k key = false := by simpa using hk
        have d : Op.bytesLess k.toList key.toList = false := hk
        have HK := Lib.hid hk
        clear hk
        go_wp2_with fail
        go_roundg l.size
        case rel => exact ⟨l, pl, n, Nat.le_refl _, rfl, rfl, ⟨HL.out.1, by have := HN.out; simp only [rankT, HK.out, Bool.false_eq_true, if_false] at this; omega⟩, by omega, rfl⟩
        case measure => omega

set_option maxHeartbeats 4000000 in
theorem tget_any (tb mb : Nat) (key : ByteArray) (t : Tr) (w : World) (h : TOb w tb mb t) :
    Calls Tryz.prog 133 #[.pointer (some ⟨tb, 0, none⟩), .string key] w fun e w' => e = .returned (getV (getT key t)) ∧ Below w.heap.size w w' := by
  obtain ⟨p, h1, h2⟩ := h
  have q := blk5' h1
  have HT : Hid (TreeAt (w.alloc (.cells #[.string ⟨#[]⟩, .int .i64 0, .int .i64 0, .string ⟨#[]⟩, .bool false] 78 (0, 0))) t p) := h2.below ((Below.refl _ _).alloc (Nat.le_refl _) _)
  clear h1 h2
  go_enter Tryz.func133, Tryz.ntmps133
  go_wp2_with fail
  go_step3
  go_wp2_with fail
  go_step3
  go_wp2_with fail
  clear q
  go_loopg [6] t.size (fun g s6 wr => ∃ (t' : Tr) (p' : Option Nat), t'.size ≤ g ∧ s6 = .pointer (pa p') ∧ Hid (TreeAt (w.alloc (.cells #[.string ⟨#[]⟩, .int .i64 0, .int .i64 0, .string ⟨#[]⟩, .bool false] 78 (0, 0))) t' p' ∧ getT key t' = getT key t) ∧ wr = (w.alloc (.cells #[.string ⟨#[]⟩, .int .i64 0, .int .i64 0, .string ⟨#[]⟩, .bool false] 78 (0, 0))))
  case atStart => exact ⟨t, p, Nat.le_refl _, rfl, ⟨HT.out, rfl⟩, rfl⟩
  case round =>
    obtain ⟨t', p', hg, rfl, HR, rfl⟩ := hrel
    cases t' with
    | nil =>
      obtain rfl : p' = none := HR.out.1
      have HN : Hid (none = getT key t) := HR.out.2
      rw [pa_none]
      go_wp2_with fail
      rw [Exit.noGoto_ret]
      refine bodyPost_ret (v := getV none) (by simp [results, Tryz.results133, go_sem, getV]) rfl ⟨by rw [← HN.out], ?_⟩
      (repeat (first | (with_reducible assumption) | (with_reducible exact Below.refl _ _) | (with_reducible refine heap_drew ?_) | (focus ((with_reducible refine heap_new ?_) ; simp ; done)) | (with_reducible apply heap_set_to) | (focus ((with_reducible refine heap_set_ne ?_ ?_ _) ; rotate_left ; (focus (first | omega | (simp ; done) | (simp ; omega))))) | (with_reducible refine heap_old ?_) | (with_reducible refine Below.drew ?_) | (with_reducible refine below_set ?_ _ _) | (focus ((with_reducible refine Below.setCell ?_ ?_ _) ; rotate_left ; (focus (first | omega | (simp ; done) | (simp ; omega))))) | (focus ((with_reducible refine Below.alloc ?_ ?_ _) ; rotate_left ; (focus (first | omega | (simp ; done) | (simp ; omega))))) | (with_reducible rfl) | (focus (simp ; done))))
    | node l k e s r =>
      obtain ⟨g', pl, pr, rfl, hb, hl, hr⟩ := HR.out.1
      have HL := Lib.hid (And.intro hl hr)
      have q := blkN hb
      have HN := Lib.hid HR.out.2
      clear hl hr hb HR
      rw [pa_some]
      simp only [Tr.size] at hg
      by_cases hk : klb key k = true
      · have d : Op.bytesLess key.toList k.toList = true := hk
        have HK := Lib.hid hk
        clear hk
        go_wp2_with fail
        go_roundg l.size
        case rel => exact ⟨l, pl, Nat.le_refl _, rfl, ⟨HL.out.1, by have := HN.out; simp only [getT, HK.out, if_true] at this; exact this⟩, rfl⟩
        case measure => omega
      · have hk : klb key k = false := by simpa using hk
        by_cases hk2 : klb k key = true
        · have d : Op.bytesLess key.toList k.toList = false := hk
          have d2 : (key.toList == k.toList) = false := by rw [beq_eq_false_iff_ne]; intro hh; rw [toList_inj hh, klb_irrefl] at hk2; cases hk2
          have HK := Lib.hid (And.intro hk hk2)
          clear hk hk2
          go_wp2_with fail
          go_roundg r.size
          case rel => exact ⟨r, pr, Nat.le_refl _, rfl, ⟨HL.out.2, by have := HN.out; simp only [getT, HK.out.1, HK.out.2, if_true, Bool.false_eq_true, if_false] at this; exact this⟩, rfl⟩
          case measure => omega
        · have hk2 : klb k key = false := by simpa using hk2
          obtain rfl : key = k := klb_total hk hk2
          have HG : Hid (some e = getT key t) := by have := HN.out; simp only [getT, hk, Bool.false_eq_true, if_false] at this; exact this
          have d : Op.bytesLess key.toList key.toList = false := hk
          clear hk hk2 HN
          go_wp2_with fail
          rw [Exit.noGoto_ret]
          refine bodyPost_ret (v := getV (some e)) (by simp [results, Tryz.results133, go_sem, getV]) rfl ⟨by rw [← HG.out], ?_⟩
          (repeat (first | (with_reducible assumption) | (with_reducible exact Below.refl _ _) | (with_reducible refine heap_drew ?_) | (focus ((with_reducible refine heap_new ?_) ; simp ; done)) | (with_reducible apply heap_set_to) | (focus ((with_reducible refine heap_set_ne ?_ ?_ _) ; rotate_left ; (focus (first | omega | (simp ; done) | (simp ; omega))))) | (with_reducible refine heap_old ?_) | (with_reducible refine Below.drew ?_) | (with_reducible refine below_set ?_ _ _) | (focus ((with_reducible refine Below.setCell ?_ ?_ _) ; rotate_left ; (focus (first | omega | (simp ; done) | (simp ; omega))))) | (focus ((with_reducible refine Below.alloc ?_ ?_ _) ; rotate_left ; (focus (first | omega | (simp ; done) | (simp ; omega))))) | (with_reducible rfl) | (focus (simp ; done))))
end Go.Proofs.YtdflmplmpjghdaaGreatDoor
