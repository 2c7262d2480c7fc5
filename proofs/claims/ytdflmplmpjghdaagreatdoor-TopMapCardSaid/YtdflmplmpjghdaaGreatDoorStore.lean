/-
  The store: what it is; its small functions.
-/
import Derived.Test.YtdflmplmpjghdaaGreatDoorTfold
namespace Go.Proofs.YtdflmplmpjghdaaGreatDoor
open Go.ChangeShapes Go.WideShapes Go.ChangeAt Go.RowKit Go.Deep
set_option linter.unusedVariables false
set_option linter.unusedSimpArgs false
set_option maxRecDepth 100000

abbrev storeT : TypeId := 180
/-- The store stands there. -/
structure StAt (w : World) (sb tb mb : Nat) (node clock : Int) (M : Nat) (t : Tr) : Prop where
  blk : w.heap[sb]? = some (.cells #[.int .i64 node, .int .i64 clock, .pointer (some ⟨mb, 0, none⟩), .pointer (some ⟨tb, 0, none⟩)] storeT (0, 0))
  mt : Mt w mb M
  ob : TOb w tb mb t
  lanes : Lanes w
theorem StAt.below {w w' : World} {sb tb mb : Nat} {node clock : Int} {M : Nat} {t : Tr} (h : StAt w sb tb mb node clock M t) (hb : Below w.heap.size w w') : StAt w' sb tb mb node clock M t :=
  ⟨blk_below h.blk hb, blk_below h.mt hb, h.ob.below hb, h.lanes.below hb h.lanes.lt⟩
/-- Block 0 holds the lanes, no store, no tree, no meter. -/
theorem StAt.pos {w : World} {sb tb mb : Nat} {node clock : Int} {M : Nat} {t : Tr} (h : StAt w sb tb mb node clock M t) : 0 ≠ sb ∧ 0 ≠ tb ∧ 0 ≠ mb := by
  obtain ⟨p, h1, _⟩ := h.ob
  have hl := h.lanes.1
  refine ⟨fun e => ?_, fun e => ?_, fun e => ?_⟩
  · subst e; rw [blk_cell h.blk 0] at hl; simp at hl
  · subst e; rw [blk_cell h1 0] at hl; simp at hl
  · subst e; rw [blk_cell h.mt 0] at hl; simp at hl
theorem Lanes.keep {p : Nat → Prop} {w w' : World} (h : Lanes w) (hk : Keep p w w') (hp : ¬ p 0) : Lanes w' := by
  have hl := h.lt
  have e : ∀ o, w'.cell? ⟨0, o, none⟩ = w.cell? ⟨0, o, none⟩ := fun o => hk.cell (a := ⟨0, o, none⟩) hl hp
  exact ⟨(e 0).trans h.1, (e 1).trans h.2.1, (e 2).trans h.2.2.1, (e 3).trans h.2.2.2.1, (e 4).trans h.2.2.2.2.1, (e 5).trans h.2.2.2.2.2⟩
/-- The three blocks are three. -/
theorem StAt.apart {w : World} {sb tb mb : Nat} {node clock : Int} {M : Nat} {t : Tr} (h : StAt w sb tb mb node clock M t) : sb ≠ tb ∧ sb ≠ mb ∧ tb ≠ mb := by
  obtain ⟨p, h1, _⟩ := h.ob
  exact ⟨ne_type h1 (ty' := storeT) (by decide) _ _ _ h.blk, ne_type h.mt (ty' := storeT) (by decide) _ _ _ h.blk, ne_type h.mt (ty' := 222) (by decide) _ _ _ h1⟩
/-- Only the meter has turned. -/
theorem StAt.meter {w w' : World} {sb tb mb : Nat} {node clock : Int} {M M' : Nat} {t : Tr} (h : StAt w sb tb mb node clock M t) (hk : Keep (fun k => k = mb) w w') (hm : Mt w' mb M') : StAt w' sb tb mb node clock M' t := by
  obtain ⟨a1, a2, a3⟩ := h.apart
  obtain ⟨p, h1, h2⟩ := h.ob
  exact ⟨hk.blk h.blk a2, hm, ⟨p, hk.blk h1 a3, h2.keep hk (mt_ne h.mt)⟩, h.lanes.keep hk h.pos.2.2⟩

theorem slen_any (sb tb mb : Nat) (node clock : Int) (M : Nat) (t : Tr) (w : World) (h : StAt w sb tb mb node clock M t) : Calls Tryz.prog 156 #[.pointer (some ⟨sb, 0, none⟩)] w fun e w' => e = .returned (.int .i64 (t.size : Int)) ∧ w' = w := by
  have q := blk4 h.blk
  have HT := Lib.hid h
  clear h
  go_enter Tryz.func156, Tryz.ntmps156
  go_wp2_with fail
  refine (tlen_any tb mb t w HT.out.ob).mono ?_
  rintro e w' ⟨rfl, rfl⟩
  go_wp2_with fail
  go_ret
  exact ⟨rfl, rfl⟩
/-- Is there no room for a key? -/
def fullT (key : ByteArray) (t : Tr) : Bool := !(getT key t).isSome && decide (256 ≤ t.size)
set_option maxHeartbeats 4000000 in
theorem full_any (sb tb mb : Nat) (node clock : Int) (M : Nat) (t : Tr) (key : ByteArray) (w : World) (h : StAt w sb tb mb node clock M t) (hs : t.size ≤ 1099511627000) :
    Calls Tryz.prog 175 #[.pointer (some ⟨sb, 0, none⟩), .string key] w fun e w' => e = .returned (.bool (fullT key t)) ∧ Below w.heap.size w w' := by
  have q := blk4 h.blk
  have HT := Lib.hid h
  clear h
  cases hg : getT key t with
  | none =>
    have HG := Lib.hid hg
    have HF : Hid (fullT key t = decide (256 ≤ t.size)) := by show _ = _; unfold fullT; rw [hg]; rfl
    clear hg
    go_enter Tryz.func175, Tryz.ntmps175
    go_wp2_with fail
    refine (tget_any tb mb key t w HT.out.ob).mono ?_
    rintro e w1 ⟨rfl, hb1⟩
    rw [HG.out]
    have q1 := blk4 (HT.out.below hb1).blk
    have hb2 := hb1.alloc hb1.size (.cells #[.string ⟨#[]⟩, .int .i64 0, .int .i64 0, .string ⟨#[]⟩, .bool false] 78 (0, 0))
    have HT2 := Lib.hid (HT.out.ob.below hb2)
    have HB := Lib.hid hb2
    clear hb1 hb2
    unfold getV
    by_cases hsz : 256 ≤ t.size
    · have d : (256 : Int) ≤ (t.size : Int) := by omega
      go_wp2_with fail
      refine (tlen_any tb mb t _ HT2.out).mono ?_
      rintro e w' ⟨rfl, rfl⟩
      go_wp2_with fail
      go_ret
      exact ⟨by rw [HF.out, decide_eq_true hsz]; rfl, HB.out⟩
    · have d : (t.size : Int) < 256 := by omega
      go_wp2_with fail
      refine (tlen_any tb mb t _ HT2.out).mono ?_
      rintro e w' ⟨rfl, rfl⟩
      go_wp2_with fail
      go_ret
      exact ⟨by rw [HF.out, decide_eq_false hsz]; show Ending.returned (.bool (decide ((256 : Int) ≤ (t.size : Int)))) = _; rw [decide_eq_false (by omega)], HB.out⟩
  | some x =>
    have HG := Lib.hid hg
    have HF : Hid (fullT key t = false) := by show _ = _; unfold fullT; rw [hg]; rfl
    clear hg
    go_enter Tryz.func175, Tryz.ntmps175
    go_wp2_with fail
    refine (tget_any tb mb key t w HT.out.ob).mono ?_
    rintro e w1 ⟨rfl, hb1⟩
    rw [HG.out]
    have HB := Lib.hid (hb1.alloc hb1.size (.cells #[.string x.1, .int .i64 x.2.1, .int .i64 x.2.2.1, .string x.2.2.2.1, .bool x.2.2.2.2] 78 (0, 0)))
    clear hb1
    unfold getV
    go_wp2_with fail
    go_ret
    exact ⟨by rw [HF.out]; rfl, HB.out⟩
/-- The next version: here never worn. -/
theorem next_any (clock node : Int) (w : World) (h1 : 0 ≤ clock) (h2 : clock < 1099511627776) (h3 : 0 ≤ node) (h4 : node < 8) :
    Calls Tryz.prog 176 #[.int .i64 clock, .int .i64 node] w fun e w' => e = .returned (.tuple #[.agg #[.int .i64 (clock + 1), .int .i64 node], .int .i64 0]) ∧ Below w.heap.size w w' := by
  have d : ¬ clock = 1099511627776 := by omega
  go_enter Tryz.func176, Tryz.ntmps176
  go_wp2_with fail
  refine bodyPost_ret (v := .tuple #[.agg #[.int .i64 (clock + 1), .int .i64 node], .int .i64 0]) (by simp [results, Tryz.results176, go_sem]) rfl ⟨rfl, ?_⟩
  (repeat (first | (with_reducible assumption) | (with_reducible exact Below.refl _ _) | (with_reducible refine heap_drew ?_) | (focus ((with_reducible refine heap_new ?_) ; simp ; done)) | (with_reducible apply heap_set_to) | (focus ((with_reducible refine heap_set_ne ?_ ?_ _) ; rotate_left ; (focus (first | omega | (simp ; done) | (simp ; omega))))) | (with_reducible refine heap_old ?_) | (with_reducible refine Below.drew ?_) | (with_reducible refine below_set ?_ _ _) | (focus ((with_reducible refine Below.setCell ?_ ?_ _) ; rotate_left ; (focus (first | omega | (simp ; done) | (simp ; omega))))) | (focus ((with_reducible refine Below.alloc ?_ ?_ _) ; rotate_left ; (focus (first | omega | (simp ; done) | (simp ; omega))))) | (with_reducible rfl) | (focus (simp ; done))))
abbrev rgV (lo hi : ByteArray) (op : Bool) : Value := .agg #[.string lo, .string hi, .bool op]
/-- May it be a range? -/
def rgOk (lo hi : ByteArray) (op : Bool) : Bool := if op then hi.toList.isEmpty else !klb hi lo
set_option maxHeartbeats 4000000 in
theorem check_any (lo hi : ByteArray) (op : Bool) (w : World) (h1 : lo.size ≤ 140737488351232) (h2 : hi.size ≤ 140737488351232) :
    Calls Tryz.prog 82 #[rgV lo hi op] w fun e w' => e = .returned (.int .i64 (if lo.size > 16 ∨ hi.size > 16 then 20 else if rgOk lo hi op then 0 else 21)) ∧ Below w.heap.size w w' := by
  have hbx : Below w.heap.size w (w.alloc (.cells #[.string lo, .string hi, .bool op] 36 (0, 0))) := below_alloc_self w _
  by_cases a1 : 16 < lo.size
  · rw [if_pos (Or.inl a1)]
    have d : (16 : Int) < (lo.size : Int) := by omega
    go_enter Tryz.func82, Tryz.ntmps82
    go_wp2_with fail
    go_ret
    exact ⟨rfl, hbx⟩
  · by_cases a2 : 16 < hi.size
    · rw [if_pos (Or.inr a2)]
      have d : (lo.size : Int) ≤ 16 := by omega
      have d2 : (16 : Int) < (hi.size : Int) := by omega
      clear a1
      go_enter Tryz.func82, Tryz.ntmps82
      go_wp2_with fail
      go_ret
      exact ⟨rfl, hbx⟩
    · rw [if_neg (by omega)]
      have d : (lo.size : Int) ≤ 16 := by omega
      have d2 : (hi.size : Int) ≤ 16 := by omega
      clear a1 a2
      cases op with
      | true =>
        cases he : hi.toList.isEmpty with
        | true =>
          rw [if_pos (by unfold rgOk; rw [he]; rfl)]
          have d3 : (!hi.toList.isEmpty) = false := by rw [he]; rfl
          have d4 : hi.toList = [] := by simpa using he
          go_enter Tryz.func82, Tryz.ntmps82
          go_wp2_with fail
          go_ret
          exact ⟨rfl, hbx⟩
        | false =>
          rw [if_neg (by unfold rgOk; rw [he]; simp)]
          have d3 : (!hi.toList.isEmpty) = true := by rw [he]; rfl
          have d4 : hi.toList ≠ [] := by simpa using he
          go_enter Tryz.func82, Tryz.ntmps82
          go_wp2_with fail
          go_ret
          exact ⟨rfl, hbx⟩
      | false =>
        cases hk : klb hi lo with
        | true =>
          rw [if_neg (by unfold rgOk; rw [hk]; simp)]
          have d3 : Op.bytesLess lo.toList hi.toList = false := klb_asymm hk
          have d4 : (lo.toList == hi.toList) = false := by rw [beq_eq_false_iff_ne]; intro hh; rw [toList_inj hh, klb_irrefl] at hk; cases hk
          clear hk
          go_enter Tryz.func82, Tryz.ntmps82
          go_wp2_with fail
          go_ret
          exact ⟨rfl, hbx⟩
        | false =>
          rw [if_pos (by unfold rgOk; rw [hk]; rfl)]
          cases hk2 : klb lo hi with
          | true =>
            have d3 : Op.bytesLess lo.toList hi.toList = true := hk2
            clear hk hk2
            go_enter Tryz.func82, Tryz.ntmps82
            go_wp2_with fail
            go_ret
            exact ⟨rfl, hbx⟩
          | false =>
            obtain rfl : lo = hi := klb_total hk2 hk
            have d3 : Op.bytesLess lo.toList lo.toList = false := hk
            clear hk hk2
            go_enter Tryz.func82, Tryz.ntmps82
            go_wp2_with fail
            go_ret
            exact ⟨rfl, hbx⟩
end Go.Proofs.YtdflmplmpjghdaaGreatDoor
