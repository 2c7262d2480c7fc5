/-
  The tree: Span, and what its iterator promises.
-/
import Derived.Test.YtdflmplmpjghdaaGreatDoorWalk
import Derived.Test.YtdflmplmpjghdaaGreatDoorTput
namespace Go.Proofs.YtdflmplmpjghdaaGreatDoor
open Go.ChangeShapes Go.WideShapes Go.ChangeAt Go.RowKit Go.Deep Go.Shelf
set_option linter.unusedVariables false
set_option linter.unusedSimpArgs false
set_option maxRecDepth 100000
attribute [local go_sem] Oper.semAt_some

/-- The iterator that Span hands out, and what lies in its boxes. -/
def spanV (bn bi bj : Nat) : Value := .func (.func 125) #[] #[.pointer (some ⟨bn, 0, none⟩), .pointer (some ⟨bi, 0, none⟩), .pointer (some ⟨bj, 0, none⟩)]
structure SpanAt (w : World) (bn bi bj : Nat) (t : Tr) (i j : Int) : Prop where
  root : ∃ p, w.heap[bn]? = some (.cells #[.pointer (pa p)] 220 (0, 0)) ∧ TreeAt w t p
  from_ : w.heap[bi]? = some (.cells #[.int .i64 i] 3 (0, 0))
  to_ : w.heap[bj]? = some (.cells #[.int .i64 j] 3 (0, 0))
theorem SpanAt.below {w w' : World} {bn bi bj : Nat} {t : Tr} {i j : Int} (h : SpanAt w bn bi bj t i j) (hb : Below w.heap.size w w') : SpanAt w' bn bi bj t i j := by
  obtain ⟨⟨p, h1, h2⟩, h3, h4⟩ := h
  exact ⟨⟨p, blk_below h1 hb, h2.below hb⟩, blk_below h3 hb, blk_below h4 hb⟩
set_option maxHeartbeats 4000000 in
theorem tspan_any (tb mb : Nat) (i j : Int) (t : Tr) (w : World) (h : TOb w tb mb t) (hi : 0 ≤ i) (hs : t.size ≤ 1099511627000) :
    Calls Tryz.prog 83 #[.pointer (some ⟨tb, 0, none⟩), .int .i64 i, .int .i64 j] w fun e w' => ∃ bn bi bj, e = .returned (spanV bn bi bj) ∧ SpanAt w' bn bi bj t i (min j t.size) ∧ Below w.heap.size w w' := by
  obtain ⟨p, h1, h2⟩ := h
  have q := blk5' h1
  have HT := Lib.hid h2
  clear h1 h2
  go_enter Tryz.func83, Tryz.ntmps83
  go_wp2_with fail
  have g4 : (((w.alloc (.cells #[.int .i64 i] 3 (0, 0))).alloc (.cells #[.int .i64 j] 3 (0, 0))).alloc (.cells #[.pointer (pa p)] 220 (0, 0))).heap[w.heap.size]? = some (.cells #[.int .i64 i] 3 (0, 0)) := by (repeat (first | (with_reducible assumption) | (with_reducible exact Below.refl _ _) | (with_reducible refine heap_drew ?_) | (focus ((with_reducible refine heap_new ?_) ; simp ; done)) | (with_reducible apply heap_set_to) | (focus ((with_reducible refine heap_set_ne ?_ ?_ _) ; rotate_left ; (focus (first | omega | (simp ; done) | (simp ; omega))))) | (with_reducible refine heap_old ?_) | (with_reducible refine Below.drew ?_) | (with_reducible refine below_set ?_ _ _) | (focus ((with_reducible refine Below.setCell ?_ ?_ _) ; rotate_left ; (focus (first | omega | (simp ; done) | (simp ; omega))))) | (focus ((with_reducible refine Below.alloc ?_ ?_ _) ; rotate_left ; (focus (first | omega | (simp ; done) | (simp ; omega))))) | (with_reducible rfl) | (focus (simp ; done))))
  have g5 : (((w.alloc (.cells #[.int .i64 i] 3 (0, 0))).alloc (.cells #[.int .i64 j] 3 (0, 0))).alloc (.cells #[.pointer (pa p)] 220 (0, 0))).heap[w.heap.size + 1]? = some (.cells #[.int .i64 j] 3 (0, 0)) := by (repeat (first | (with_reducible assumption) | (with_reducible exact Below.refl _ _) | (with_reducible refine heap_drew ?_) | (focus ((with_reducible refine heap_new ?_) ; simp ; done)) | (with_reducible apply heap_set_to) | (focus ((with_reducible refine heap_set_ne ?_ ?_ _) ; rotate_left ; (focus (first | omega | (simp ; done) | (simp ; omega))))) | (with_reducible refine heap_old ?_) | (with_reducible refine Below.drew ?_) | (with_reducible refine below_set ?_ _ _) | (focus ((with_reducible refine Below.setCell ?_ ?_ _) ; rotate_left ; (focus (first | omega | (simp ; done) | (simp ; omega))))) | (focus ((with_reducible refine Below.alloc ?_ ?_ _) ; rotate_left ; (focus (first | omega | (simp ; done) | (simp ; omega))))) | (with_reducible rfl) | (focus (simp ; done))))
  have g7 : (((w.alloc (.cells #[.int .i64 i] 3 (0, 0))).alloc (.cells #[.int .i64 j] 3 (0, 0))).alloc (.cells #[.pointer (pa p)] 220 (0, 0))).heap[w.heap.size + 1 + 1]? = some (.cells #[.pointer (pa p)] 220 (0, 0)) := by (repeat (first | (with_reducible assumption) | (with_reducible exact Below.refl _ _) | (with_reducible refine heap_drew ?_) | (focus ((with_reducible refine heap_new ?_) ; simp ; done)) | (with_reducible apply heap_set_to) | (focus ((with_reducible refine heap_set_ne ?_ ?_ _) ; rotate_left ; (focus (first | omega | (simp ; done) | (simp ; omega))))) | (with_reducible refine heap_old ?_) | (with_reducible refine Below.drew ?_) | (with_reducible refine below_set ?_ _ _) | (focus ((with_reducible refine Below.setCell ?_ ?_ _) ; rotate_left ; (focus (first | omega | (simp ; done) | (simp ; omega))))) | (focus ((with_reducible refine Below.alloc ?_ ?_ _) ; rotate_left ; (focus (first | omega | (simp ; done) | (simp ; omega))))) | (with_reducible rfl) | (focus (simp ; done))))
  have hb : Below w.heap.size w (((w.alloc (.cells #[.int .i64 i] 3 (0, 0))).alloc (.cells #[.int .i64 j] 3 (0, 0))).alloc (.cells #[.pointer (pa p)] 220 (0, 0))) := by (repeat (first | (with_reducible assumption) | (with_reducible exact Below.refl _ _) | (with_reducible refine heap_drew ?_) | (focus ((with_reducible refine heap_new ?_) ; simp ; done)) | (with_reducible apply heap_set_to) | (focus ((with_reducible refine heap_set_ne ?_ ?_ _) ; rotate_left ; (focus (first | omega | (simp ; done) | (simp ; omega))))) | (with_reducible refine heap_old ?_) | (with_reducible refine Below.drew ?_) | (with_reducible refine below_set ?_ _ _) | (focus ((with_reducible refine Below.setCell ?_ ?_ _) ; rotate_left ; (focus (first | omega | (simp ; done) | (simp ; omega))))) | (focus ((with_reducible refine Below.alloc ?_ ?_ _) ; rotate_left ; (focus (first | omega | (simp ; done) | (simp ; omega))))) | (with_reducible rfl) | (focus (simp ; done))))
  obtain ⟨b4, e4⟩ : ∃ b, b = w.heap.size := ⟨_, rfl⟩
  obtain ⟨b5, e5⟩ : ∃ b, b = w.heap.size + 1 := ⟨_, rfl⟩
  obtain ⟨b7, e7⟩ : ∃ b, b = w.heap.size + 1 + 1 := ⟨_, rfl⟩
  rw [← e4] at g4
  rw [← e5] at g5
  rw [← e7] at g7
  rw [← e7, ← e5, ← e4]
  generalize ((w.alloc (.cells #[.int .i64 i] 3 (0, 0))).alloc (.cells #[.int .i64 j] 3 (0, 0))).alloc (.cells #[.pointer (pa p)] 220 (0, 0)) = w2 at *
  have l4 : w.heap.size ≤ b4 := by omega
  have l5 : w.heap.size ≤ b5 := by omega
  have n45 : b4 ≠ b5 := by omega
  have n47 : b7 ≠ b4 := by omega
  have n57 : b7 ≠ b5 := by omega
  have HG := Lib.hid (And.intro g4 (And.intro g5 g7))
  have HB := Lib.hid hb
  have HT2 := Lib.hid (HT.out.below hb)
  clear e4 e5 e7 g4 g5 g7 hb q
  have hDC : ∀ zw zx : World, (Below w2.heap.size w2 zw) → (Keep (fun k => k = b4)) zw zx → (fun w8 : World => (Keep (fun k => k = b4) w2 w8)) zx := fun _ _ hd hg => (Keep.of_below hd).trans hg
  have hSt : Stable (fun w8 : World => Below w2.heap.size w2 w8) := by repeat (first | exact stable_ext _ | exact stable_blk _ _ | exact stable_true | (refine stable_bel ?_ ; (focus (first | (simp [World.size_setCell] ; done) | (simp [World.setCell] ; done)))) | refine Stable.and ?_ ?_)
  refine G.wp_region_x (G := Keep (fun k => k = b4)) (D0 := fun w8 : World => Below w2.heap.size w2 w8) [2, 3, 4, 5, 0, 1, 6, 7] [4, 0, 1, 1, 1, 0, 4, 3] (fun w8 => (Keep (fun k => k = b4) w2 w8)) (by kernel_rfl) (by kernel_rfl) ?_ ?_
  · (exact (Below.refl _ _).drew)
  simp only [List.map_cons, List.map_nil, List.getD_cons_zero, List.getD_cons_succ]
  (refine G.x_quiet rfl hSt hDC _ ?_ rfl (by simp) ?_ ?_ ; rotate_left ; · (intro w8 hC K hK ; have hc := hC ; (first | (have q5 := blk1 (hc.blk HG.out.2.1 (fun e => n45 e.symm))) | (have q5 := blk1 (blk_below HG.out.2.1 hc))) ; (first | (have q7 := blk1 (hc.blk HG.out.2.2 n47)) | (have q7 := blk1 (blk_below HG.out.2.2 hc))) ; go_wp2_with fail ; refine ⟨?_, Below.refl _ _⟩ ; exact rfl))
  simp only [Act.put, List.setIfInBounds_toArray, List.set_cons_succ, List.set_cons_zero]
  (refine G.x_quiet rfl hSt hDC _ ?_ rfl (by simp) ?_ ?_ ; rotate_left ; · (intro w8 hC K hK ; have hc := hC ; (first | (have q5 := blk1 (hc.blk HG.out.2.1 (fun e => n45 e.symm))) | (have q5 := blk1 (blk_below HG.out.2.1 hc))) ; (first | (have q7 := blk1 (hc.blk HG.out.2.2 n47)) | (have q7 := blk1 (blk_below HG.out.2.2 hc))) ; go_wp2_with fail ; refine ⟨?_, Below.refl _ _⟩ ; exact rfl))
  simp only [Act.put, List.setIfInBounds_toArray, List.set_cons_succ, List.set_cons_zero]
  (refine G.x_quiet rfl hSt hDC _ ?_ rfl (by simp) ?_ ?_ ; rotate_left ; · (intro w8 hC K hK ; have hc := hC ; (first | (have q5 := blk1 (hc.blk HG.out.2.1 (fun e => n45 e.symm))) | (have q5 := blk1 (blk_below HG.out.2.1 hc))) ; (first | (have q7 := blk1 (hc.blk HG.out.2.2 n47)) | (have q7 := blk1 (blk_below HG.out.2.2 hc))) ; go_wp2_with fail ; refine (manyb t p w8 (HT2.out.keep hc (ne_type HG.out.1 (by decide)))).mono ?_ ; rintro e w2 ⟨rfl, hb2⟩ ; refine hK _ _ ⟨?_, rfl, hb2⟩ ; (try simp only [List.getElem?_toArray, List.getElem?_cons_succ, List.getElem?_cons_zero]) ; exact rfl))
  simp only [Act.put, List.setIfInBounds_toArray, List.set_cons_succ, List.set_cons_zero]
  (refine G.x_pure rfl _ ?_ rfl (by simp) ?_ ?_ ; rotate_left ; · (intro w8 K hK ; go_wp2_with fail ; exact rfl))
  simp only [Act.put, List.setIfInBounds_toArray, List.set_cons_succ, List.set_cons_zero]
  refine G.x_make rfl ?_
  intro w8 hD K hK ; have hc := hD ; (first | (have q5 := blk1 (hc.blk HG.out.2.1 (fun e => n45 e.symm))) | (have q5 := blk1 (blk_below HG.out.2.1 hc))) ; (first | (have q7 := blk1 (hc.blk HG.out.2.2 n47)) | (have q7 := blk1 (blk_below HG.out.2.2 hc)))
  have q4 := blk1 (blk_below HG.out.1 hc)
  go_wp2_with fail
  refine hK _ _ (Keep.refl _ _) ?_
  try simp only [Act.put, List.setIfInBounds_toArray, List.set_cons_succ, List.set_cons_zero]
  (refine G.x_pure rfl _ ?_ rfl (by simp) ?_ ?_ ; rotate_left ; · (intro w8 K hK ; go_wp2_with fail ; exact rfl))
  simp only [Act.put, List.setIfInBounds_toArray, List.set_cons_succ, List.set_cons_zero]
  refine G.x_make rfl ?_
  intro wy hyb K hK
  have hwy := hc.trans (hyb.mono hc.size)
  have g4 := blk_below HG.out.1 hwy
  have g5 := blk_below HG.out.2.1 hwy
  have g7 := blk_below HG.out.2.2 hwy
  have q4 := blk1 g4
  go_wp2_with fail
  refine hK _ _ (Keep.set wy ⟨b4, 0, none⟩ _) ?_
  try simp only [Act.put, List.setIfInBounds_toArray, List.set_cons_succ, List.set_cons_zero]
  refine G.x_write rfl ?_
  intro wz hzb K hK
  have k4 := blk_below (heap_set_to g4 (o := 0) (v := .int .i64 (max i 0)) (cs' := #[.int .i64 (max i 0)]) (by simp)) hzb
  have k5 := blk_below (heap_set_ne g5 (p := ⟨b4, 0, none⟩) (fun e => n45 e.symm) (.int .i64 (max i 0))) hzb
  have k7 := blk_below (heap_set_ne g7 (p := ⟨b4, 0, none⟩) n47 (.int .i64 (max i 0))) hzb
  have hbz : Below w.heap.size w wz := (HB.out.trans (hwy.mono HB.out.size)).setCell (p := ⟨b4, 0, none⟩) l4 (.int .i64 (max i 0)) |>.trans (hzb.mono (by rw [World.size_setCell]; exact (HB.out.trans (hwy.mono HB.out.size)).size))
  have htz : TreeAt wz t p := (HT2.out.keep (((Keep.of_below hwy).trans (Keep.set wy ⟨b4, 0, none⟩ (.int .i64 (max i 0)))).trans (Keep.of_below hzb)) (p := fun k => k = b4) (ne_type HG.out.1 (by decide)))
  have q5 := blk1 k5
  clear q4 q7 hzb hyb hwy g4 g5 g7 hc
  go_wp2_with fail
  try simp only [Act.put, List.setIfInBounds_toArray, List.set_cons_succ, List.set_cons_zero]
  first | refine G.x_nil ?_ | refine G.x_end ?_
  rintro _ rfl
  go_wp2_with fail
  go_ret
  refine ⟨b7, b4, b5, rfl, ⟨⟨p, heap_set_ne k7 n57 _, htz.keep (Keep.set wz ⟨b5, 0, none⟩ _) (ne_type k5 (by decide))⟩, ?_, ?_⟩, hbz.setCell (p := ⟨b5, 0, none⟩) l5 _⟩
  · have := heap_set_ne k4 (p := ⟨b5, 0, none⟩) n45 (.int .i64 (min j t.size))
    rwa [show max i 0 = i by omega] at this
  · exact heap_set_to k5 (by simp)
/-- What a row's iterator hands over in round k: the key, the entry. -/
def rowArgs (RR : List Row) (k : Nat) (args : Array Value) (_ : World) : Prop := ∃ h : k < RR.length, args = #[.string RR[k].1, evE RR[k].2.1]
set_option maxHeartbeats 4000000 in
theorem span_seq (bn bi bj : Nat) (t : Tr) (i j : Int) (p : Nat → Prop) (T : TypeId → Prop) (hT : T nodeT) (w : World) (h : SpanAt w bn bi bj t i j) (hi : 0 ≤ i ∧ i ≤ 1099511627776) (hj : 0 ≤ j ∧ j ≤ 1099511627776) (hs : t.size ≤ 1099511627000) :
    SeqN Tryz.prog 125 #[.pointer (some ⟨bn, 0, none⟩), .pointer (some ⟨bi, 0, none⟩), .pointer (some ⟨bj, 0, none⟩)] (cutR i j t.rows).length (rowArgs (cutR i j t.rows)) p T w := by
  intro l J Jx W hW hJ hJx hY h0
  obtain ⟨⟨q, g1, g2⟩, g3, g4⟩ := h.below hW
  have q1 := blk1 g1
  have q2 := blk1 g3
  have q3 := blk1 g4
  have HY : Hid (Yl Tryz.prog l (cutR i j t.rows) W.heap.size p T J Jx) := ⟨hT, hJ, hJx, fun k args W1 hk hj ha => hY k args W1 hk hj ⟨hk, ha⟩⟩
  have HA : Hid (WkAt W (cutR i j t.rows) W.heap.size t q i j 0 J) := ⟨g2, hi.1, by omega, by omega, by omega, hs, by rw [List.drop_zero]; exact List.prefix_refl _, h0, Nat.zero_le _⟩
  clear hJ hJx hY h0 g1 g2 g3 g4 h hW hT
  go_enter Tryz.func125, Tryz.ntmps125
  go_wp2_with fail
  refine (walk_any l (cutR i j t.rows) W.heap.size p T J Jx HY.out t q i j 0 W HA.out).mono ?_
  rintro e w1 ⟨b, rfl, hend⟩
  have HE := Lib.hid hend
  clear hend q1 q2 q3
  go_wp2_with fail
  go_end0
  refine ⟨⟨_, rfl⟩, ?_⟩
  have h1 := HE.out.2
  rw [Nat.zero_add] at h1
  cases b with
  | true => exact .inl h1.1
  | false => exact .inr h1
end Go.Proofs.YtdflmplmpjghdaaGreatDoor
