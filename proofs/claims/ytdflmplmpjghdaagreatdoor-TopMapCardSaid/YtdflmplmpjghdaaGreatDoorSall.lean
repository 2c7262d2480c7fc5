/-
  The store: Get, All, and what All's iterator promises.
-/
import Derived.Test.YtdflmplmpjghdaaGreatDoorSpan
import Derived.Test.YtdflmplmpjghdaaGreatDoorSfold
namespace Go.Proofs.YtdflmplmpjghdaaGreatDoor
open Go.ChangeShapes Go.WideShapes Go.ChangeAt Go.RowKit Go.Deep Go.Shelf
set_option linter.unusedVariables false
set_option linter.unusedSimpArgs false
set_option maxRecDepth 100000
attribute [local go_sem] Oper.semAt_some

def entOf : Option Ent → Ent
  | none => ent0
  | some e => e
theorem getV_of (o : Option Ent) : getV o = .tuple #[evE (entOf o), .bool o.isSome] := by cases o <;> rfl
set_option maxHeartbeats 4000000 in
theorem sget_any (sb tb mb : Nat) (node clock : Int) (M : Nat) (t : Tr) (key : ByteArray) (w : World) (h : StAt w sb tb mb node clock M t) (hk : key.size ≤ 140737488351232) :
    Calls Tryz.prog 97 #[.pointer (some ⟨sb, 0, none⟩), .string key] w fun e w' => e = .returned (if 16 < key.size then .tuple #[evE ent0, .bool false, .int .i64 20] else .tuple #[evE (entOf (getT key t)), .bool (getT key t).isSome, .int .i64 0]) ∧ Below w.heap.size w w' := by
  have q := blk4 h.blk
  have HT := Lib.hid h
  have HB0 := Lib.hid (below_alloc_self w (.cells #[.string ⟨#[]⟩, .int .i64 0, .int .i64 0, .string ⟨#[]⟩, .bool false] 78 (0, 0)))
  clear h
  by_cases a1 : 16 < key.size
  · rw [if_pos a1]
    have d : (16 : Int) < (key.size : Int) := by omega
    go_enter Tryz.func97, Tryz.ntmps97
    go_wp2_with fail
    refine bodyPost_ret (v := .tuple #[evE ent0, .bool false, .int .i64 20]) (by simp [results, Tryz.results97, go_sem]) rfl ⟨rfl, ?_⟩
    (repeat (first | (with_reducible assumption) | (with_reducible exact Below.refl _ _) | (with_reducible refine heap_drew ?_) | (focus ((with_reducible refine heap_new ?_) ; simp ; done)) | (with_reducible apply heap_set_to) | (focus ((with_reducible refine heap_set_ne ?_ ?_ _) ; rotate_left ; (focus (first | omega | (simp ; done) | (simp ; omega))))) | (with_reducible refine heap_old ?_) | (with_reducible refine Below.drew ?_) | (with_reducible refine below_set ?_ _ _) | (focus ((with_reducible refine Below.setCell ?_ ?_ _) ; rotate_left ; (focus (first | omega | (simp ; done) | (simp ; omega))))) | (focus ((with_reducible refine Below.alloc ?_ ?_ _) ; rotate_left ; (focus (first | omega | (simp ; done) | (simp ; omega))))) | (with_reducible rfl) | (focus (simp ; done))))
  · rw [if_neg a1]
    have d : (key.size : Int) ≤ 16 := by omega
    go_enter Tryz.func97, Tryz.ntmps97
    go_wp2_with fail
    refine (tget_any tb mb key t _ (HT.out.below HB0.out).ob).mono ?_
    rintro e w1 ⟨rfl, hb1⟩
    rw [getV_of]
    generalize hx : entOf (getT key t) = x
    generalize hxb : (getT key t).isSome = b
    obtain ⟨x1, x2, x3, x4, x5⟩ := x
    have HX := Lib.hid (And.intro hx hxb)
    clear hx hxb
    have g4 : (w.alloc (.cells #[.string ⟨#[]⟩, .int .i64 0, .int .i64 0, .string ⟨#[]⟩, .bool false] 78 (0, 0))).heap[w.heap.size]? = some (.cells #[.string ⟨#[]⟩, .int .i64 0, .int .i64 0, .string ⟨#[]⟩, .bool false] 78 (0, 0)) := heap_new rfl
    have HB1 := Lib.hid (HB0.out.trans (hb1.mono HB0.out.size))
    have g41 := blk_below g4 hb1
    have l41 := blk_lt g41
    have q4 := blk5 g41
    clear g4 hb1 q
    generalize hb4 : w.heap.size = b4 at *
    have HE := Lib.hid hb4
    clear hb4
    go_wp2_with fail
    refine bodyPost_ret (v := .tuple #[evE (x1, x2, x3, x4, x5), .bool b, .int .i64 0]) (by simp [results, Tryz.results97, go_sem, World.cell?_alloc_lt, l41, q4]) rfl ⟨by rw [HX.out.1, HX.out.2], ?_⟩
    have hw : Below w.heap.size w w1 := by
      first | exact HB1.out | (rw [HE.out]; exact HB1.out)
    have hle : w.heap.size ≤ b4 := by rw [HE.out]; exact Nat.le_refl _
    (repeat (first | (with_reducible assumption) | (with_reducible exact Below.refl _ _) | (with_reducible refine heap_drew ?_) | (focus ((with_reducible refine heap_new ?_) ; simp ; done)) | (with_reducible apply heap_set_to) | (focus ((with_reducible refine heap_set_ne ?_ ?_ _) ; rotate_left ; (focus (first | omega | (simp ; done) | (simp ; omega))))) | (with_reducible refine heap_old ?_) | (with_reducible refine Below.drew ?_) | (with_reducible refine below_set ?_ _ _) | (focus ((with_reducible refine Below.setCell ?_ ?_ _) ; rotate_left ; (focus (first | omega | (simp ; done) | (simp ; omega))))) | (focus ((with_reducible refine Below.alloc ?_ ?_ _) ; rotate_left ; (focus (first | omega | (simp ; done) | (simp ; omega))))) | (with_reducible rfl) | (focus (simp ; done))))
abbrev allV (bl : Nat) : Value := .func (.func 85) #[] #[.pointer (some ⟨bl, 0, none⟩)]
/-- The store's iterator, laid: the tree's in its box. -/
def AllAt (w : World) (bl : Nat) (t : Tr) (i j : Int) : Prop := ∃ bn bi bj, w.heap[bl]? = some (.cells #[spanV bn bi bj] 176 (0, 0)) ∧ SpanAt w bn bi bj t i j
theorem AllAt.below {w w' : World} {bl : Nat} {t : Tr} {i j : Int} (h : AllAt w bl t i j) (hb : Below w.heap.size w w') : AllAt w' bl t i j := by
  obtain ⟨bn, bi, bj, h1, h2⟩ := h
  exact ⟨bn, bi, bj, blk_below h1 hb, h2.below hb⟩
def entArgs (RR : List Row) (k : Nat) (args : Array Value) (_ : World) : Prop := ∃ h : k < RR.length, args = #[evE RR[k].2.1]
abbrev yieldE : TypeId := 119
set_option maxRecDepth 100000 in
set_option maxHeartbeats 8000000 in
theorem all_seq (bl : Nat) (t : Tr) (i j : Int) (p : Nat → Prop) (T : TypeId → Prop) (hT : T nodeT ∧ T yieldE) (w : World) (h : AllAt w bl t i j) (hi : 0 ≤ i ∧ i ≤ 1099511627776) (hj : 0 ≤ j ∧ j ≤ 1099511627776) (hs : t.size ≤ 1099511627000) (hp : ∀ k, w.heap.size ≤ k → p k) :
    SeqN Tryz.prog 85 #[.pointer (some ⟨bl, 0, none⟩)] (cutR i j t.rows).length (entArgs (cutR i j t.rows)) p T w := by
  intro l J Jx W hW hJ hJx hY h0
  obtain ⟨bn, bi, bj, g1, g2⟩ := h.below hW
  have hsW := hW.size
  have hpW : ∀ k, W.heap.size ≤ k → p k := fun k hk => hp k (Nat.le_trans hsW hk)
  have HS := Lib.hid (And.intro g2 hpW)
  clear h hp hW g2 hpW
  generalize hR : cutR i j t.rows = RR at *
  refine calls_of_marks 3 Tryz.func85 rfl ?_
  simp only [Tryz.ntmps85, List.size_toArray, List.length_cons, List.length_nil, Nat.reduceAdd, Nat.reduceSub, Array.replicate_succ, Array.replicate_zero, List.push_toArray, List.append_toArray, List.nil_append, List.cons_append]
  have q := blk1 g1
  gi_wp2
  have hbs := below_alloc_self W (.cells #[.func (.yield l) #[] #[]] yieldE (0, 0))
  have gy : (W.alloc (.cells #[.func (.yield l) #[] #[]] yieldE (0, 0))).heap[W.heap.size]? = some (.cells #[.func (.yield l) #[] #[]] yieldE (0, 0)) := by (repeat (first | (with_reducible assumption) | (with_reducible exact Below.refl _ _) | (with_reducible refine heap_drew ?_) | (focus ((with_reducible refine heap_new ?_) ; simp ; done)) | (with_reducible apply heap_set_to) | (focus ((with_reducible refine heap_set_ne ?_ ?_ _) ; rotate_left ; (focus (first | omega | (simp ; done) | (simp ; omega))))) | (with_reducible refine heap_old ?_) | (with_reducible refine Below.drew ?_) | (with_reducible refine below_set ?_ _ _) | (focus ((with_reducible refine Below.setCell ?_ ?_ _) ; rotate_left ; (focus (first | omega | (simp ; done) | (simp ; omega))))) | (focus ((with_reducible refine Below.alloc ?_ ?_ _) ; rotate_left ; (focus (first | omega | (simp ; done) | (simp ; omega))))) | (with_reducible rfl) | (focus (simp ; done))))
  generalize hws : W.alloc (.cells #[.func (.yield l) #[] #[]] yieldE (0, 0)) = ws at *
  clear hws q
  have hzs := hbs.size
  refine wpIn_range (gf := 125) (lb := #[.pointer (some ⟨bn, 0, none⟩), .pointer (some ⟨bi, 0, none⟩), .pointer (some ⟨bj, 0, none⟩)]) rfl (enters_of Tryz.func125 (by kernel_rfl) rfl)
    (hR ▸ span_seq bn bi bj t i j p T hT.1 ws (HS.out.1.below hbs) hi hj hs : SeqN Tryz.prog 125 _ RR.length (rowArgs RR) p T ws) (fun k hk => HS.out.2 k (Nat.le_trans hzs hk)) ?hps
    (fun k W' => J k W' ∧ KeepT p T ws W' ∧ W'.heap[W.heap.size]? = some (.cells #[.func (.yield l) #[] #[]] yieldE (0, 0)))
    (fun c k W' => c = .ret ∧ Jx k W')
    ((OwnFrom.mono hJ hzs).and ((ownFrom_keepT (Nat.le_refl _)).and (ownFrom_blk _ _ _ _ _))) (fun c => (OwnFrom.pure _ _).and (OwnFrom.mono hJx hzs)) ⟨OwnFrom.keepOf hJ h0 hbs, KeepT.refl _ _ _, gy⟩
    (fun k a' W' => ∃ (h : k < RR.length) (bp : Nat), ws.heap.size ≤ bp ∧ W'.heap[bp]? = some (.cells #[.string RR[k].2.1.1, .int .i64 RR[k].2.1.2.1, .int .i64 RR[k].2.1.2.2.1, .string RR[k].2.1.2.2.2.1, .bool RR[k].2.1.2.2.2.2] 78 (0, 0)) ∧ a' = { tmps := #[.func (.yield l) #[] #[], .pointer (some ⟨bl, 0, none⟩), .pointer (some ⟨W.heap.size, 0, none⟩), undef, .pointer (some ⟨bp, 0, none⟩), spanV bn bi bj, .string RR[k].1, evE RR[k].2.1, undef, undef, undef, undef], defers := [] })
    ?hA ?assign ?body ?done ?stop
  case hps => intro k args W' h; obtain ⟨_, rfl⟩ := h; rfl
  case hA =>
    intro a' k X Y row hs hg hr
    obtain ⟨h, bp, h1, h2, h3⟩ := hs
    exact ⟨h, bp, h1, ownFrom_blk (β := Unit) _ (fun _ => bp) (fun _ => #[.string RR[k].2.1.1, .int .i64 RR[k].2.1.2.1, .int .i64 RR[k].2.1.2.2.1, .string RR[k].2.1.2.2.2.1, .bool RR[k].2.1.2.2.2.2]) _ _ () X Y row h2 hg hr, h3⟩
  case assign =>
    rintro l2 k args W2 K hk ⟨hj, hkt, hy2⟩ ⟨hlt, rfl⟩ hK
    gi_wp2
    have hb2 := below_alloc_self W2 (.cells #[.string RR[k].2.1.1, .int .i64 RR[k].2.1.2.1, .int .i64 RR[k].2.1.2.2.1, .string RR[k].2.1.2.2.2.1, .bool RR[k].2.1.2.2.2.2] 78 (0, 0))
    exact hK _ _ (KeepsFrom.of_below _ hb2) (KeepT.of_below hb2) ⟨OwnFrom.keepOf hJ hj hb2, hkt.trans (KeepT.of_below hb2), blk_below hy2 hb2⟩ ⟨hlt, W2.heap.size, hkt.keep.size, heap_new rfl, rfl⟩
  case body =>
    rintro l2 k a' W2 hl ⟨r2, hr2⟩ hk ⟨hj, hkt, hy2⟩ ⟨hlt, bp, hbp, gp, rfl⟩
    have q := blk1 hy2
    have qp := blk5 gp
    obtain ⟨fn, tmps, assign, body, hy, hR0⟩ := hY k _ W2 hk hj ⟨hlt, rfl⟩
    have hR1 := roundIn_any (m' := 3 - 1) rfl hR0
    clear hR0 hY
    gi_wp2
    refine hR1.mono ?_
    rintro e w5 ⟨bb, rfl, hkf, hbb⟩
    have HF : Hid (KeepsFrom ws.heap.size W2 w5 ∧ if bb = true then J (k + 1) w5 ∧ KeepT p T W2 w5 ∧ w5.heap[W.heap.size]? = some (.cells #[.func (.yield l) #[] #[]] yieldE (0, 0)) else Jx (k + 1) w5) := by
      refine ⟨KeepsFrom.mono hkf hzs, ?_⟩
      cases bb with
      | true => exact ⟨hbb.1, hbb.2, hbb.2.typ _ _ _ _ hT.2 hy2⟩
      | false => exact hbb
    clear hkf hbb hR1 q qp hr2
    cases bb with
    | true =>
      gi_wp2
      exact ⟨HF.out.1, HF.out.2.2.1, HF.out.2.1, hkt.trans HF.out.2.2.1, HF.out.2.2.2⟩
    | false =>
      gi_wp2
      exact ⟨HF.out.1, rfl, HF.out.2⟩
  case done =>
    rintro D W2 hD ⟨hj, _, _⟩ hdef
    gi_wp2
    refine ⟨by simp, .inl ⟨_, _, rfl, run_takeDeferred hdef, ?_⟩⟩
    exact ⟨_, results_none rfl _ _ _, ⟨_, rfl⟩, .inl (OwnFrom.putObj hJ _ hj (by omega) hdef rfl)⟩
  case stop =>
    rintro D c k W2 hD hk ⟨rfl, hj⟩ hdef
    gi_wp2
    refine ⟨by simp, .inl ⟨_, _, rfl, run_takeDeferred hdef, ?_⟩⟩
    exact ⟨_, results_none rfl _ _ _, ⟨_, rfl⟩, .inr ⟨k, hk, OwnFrom.putObj hJx _ hj (by omega) hdef rfl⟩⟩
theorem SpanAt.side {w : World} {bn bi bj : Nat} {t : Tr} {i j : Int} (h : SpanAt w bn bi bj t i j) {b : Nat} {cs : Array Value} {ty : TypeId} (hb : w.heap[b]? = some (.cells cs ty (0, 0))) (h1 : ty ≠ 220) (h2 : ty ≠ 3) (h3 : ty ≠ nodeT) (v : Value) : SpanAt (w.setCell ⟨b, 0, none⟩ v) bn bi bj t i j := by
  obtain ⟨⟨p, g1, g2⟩, g3, g4⟩ := h
  have k := Keep.set w ⟨b, 0, none⟩ v
  exact ⟨⟨p, k.blk g1 (ne_type hb h1 _ _ _ g1), g2.keep k (ne_type hb h3)⟩, k.blk g3 (ne_type hb h2 _ _ _ g3), k.blk g4 (ne_type hb h2 _ _ _ g4)⟩
set_option maxRecDepth 100000 in
set_option maxHeartbeats 8000000 in
theorem all_bad (sb tb mb : Nat) (node clock : Int) (M : Nat) (t : Tr) (lo hi : ByteArray) (op : Bool) (w : World) (c : Int) (hc0 : c ≠ 0)
    (hc : ∀ w : World, Calls Tryz.prog 82 #[rgV lo hi op] w fun e w' => e = .returned (.int .i64 c) ∧ Below w.heap.size w w') :
    Calls Tryz.prog 52 #[.pointer (some ⟨sb, 0, none⟩), rgV lo hi op] w fun e w' => e = .returned (.tuple #[.nilFunc, .int .i64 c]) ∧ Below w.heap.size w w' := by
  have HB0 := Lib.hid (below_alloc_self w (.cells #[.string lo, .string hi, .bool op] 36 (0, 0)))
  go_enter Tryz.func52, Tryz.ntmps52
  go_wp2_with fail
  refine (hc _).mono ?_
  rintro e w2 ⟨rfl, hb2⟩
  have HB := Lib.hid (HB0.out.trans (hb2.mono HB0.out.size))
  clear hb2 hc
  go_wp2_with fail
  go_ret2
  exact ⟨rfl, HB.out⟩
set_option maxRecDepth 100000 in
set_option maxHeartbeats 8000000 in
theorem all_any (sb tb mb : Nat) (node clock : Int) (M : Nat) (t : Tr) (lo hi : ByteArray) (op : Bool) (w : World) (h : StAt w sb tb mb node clock M t) (hs : t.size ≤ 1099511627000)
    (hc : ∀ w : World, Calls Tryz.prog 82 #[rgV lo hi op] w fun e w' => e = .returned (.int .i64 0) ∧ Below w.heap.size w w') :
    Calls Tryz.prog 52 #[.pointer (some ⟨sb, 0, none⟩), rgV lo hi op] w fun e w' => ∃ bl, e = .returned (.tuple #[allV bl, .int .i64 0]) ∧ AllAt w' bl t (rankT lo t : Int) (endT hi op t : Int) ∧ Below w.heap.size w w' := by
  have hb0 := below_alloc_self w (.cells #[.string lo, .string hi, .bool op] 36 (0, 0))
  have H1 := Lib.hid (h.below hb0)
  have g3 : (w.alloc (.cells #[.string lo, .string hi, .bool op] 36 (0, 0))).heap[w.heap.size]? = some (.cells #[.string lo, .string hi, .bool op] 36 (0, 0)) := by (repeat (first | (with_reducible assumption) | (with_reducible exact Below.refl _ _) | (with_reducible refine heap_drew ?_) | (focus ((with_reducible refine heap_new ?_) ; simp ; done)) | (with_reducible apply heap_set_to) | (focus ((with_reducible refine heap_set_ne ?_ ?_ _) ; rotate_left ; (focus (first | omega | (simp ; done) | (simp ; omega))))) | (with_reducible refine heap_old ?_) | (with_reducible refine Below.drew ?_) | (with_reducible refine below_set ?_ _ _) | (focus ((with_reducible refine Below.setCell ?_ ?_ _) ; rotate_left ; (focus (first | omega | (simp ; done) | (simp ; omega))))) | (focus ((with_reducible refine Below.alloc ?_ ?_ _) ; rotate_left ; (focus (first | omega | (simp ; done) | (simp ; omega))))) | (with_reducible rfl) | (focus (simp ; done))))
  have HH := Lib.hid (And.intro hb0 g3)
  have he := endT_le hi op t
  have HF : Hid (∀ w : World, StAt w sb tb mb node clock M t → Calls Tryz.prog 83 #[.pointer (some ⟨tb, 0, none⟩), .int .i64 (rankT lo t : Int), .int .i64 (endT hi op t : Int)] w fun e w' => ∃ bn bi bj, e = .returned (spanV bn bi bj) ∧ SpanAt w' bn bi bj t (rankT lo t : Int) (endT hi op t : Int) ∧ Below w.heap.size w w') := fun w h => by
    have := tspan_any tb mb (rankT lo t : Int) (endT hi op t : Int) t w h.ob (by omega) hs
    rwa [show min (endT hi op t : Int) (t.size : Int) = endT hi op t by omega] at this
  clear hb0 g3 h he
  go_enter Tryz.func52, Tryz.ntmps52
  go_wp2_with fail
  refine (hc _).mono ?_
  rintro e w2 ⟨rfl, hb2⟩
  have H2 := Lib.hid (H1.out.below hb2)
  have HB2 := Lib.hid (HH.out.1.trans (hb2.mono HH.out.1.size))
  have HG := Lib.hid (blk_below HH.out.2 hb2)
  clear hb2 hc
  go_wp2_with fail
  obtain ⟨b3, e3⟩ : ∃ b, b = w.heap.size := ⟨_, rfl⟩
  rw [← e3] at HG
  rw [← e3]
  clear e3
  have hSt : Stable (fun w3 : World => (Below w2.heap.size w2 w3)) := by repeat (first | exact stable_ext _ | exact stable_blk _ _ | exact stable_true | (refine stable_bel ?_ ; (focus (first | (simp [World.size_setCell] ; done) | (simp [World.setCell] ; done)))) | refine Stable.and ?_ ?_)
  refine wp_region_p [0, 1, 2, 3, 4, 5, 6, 7, 8] [0, 0, 0, 1, 0, 1, 1, 0, 0, 4, 2, 3] 3 #[true, true, true, true, true, true, true, true, true, false, false, false] (fun w3 => (Below w2.heap.size w2 w3)) (by kernel_rfl) (by kernel_rfl) ?_ ?_
  · (first | trivial | (repeat (first | (with_reducible assumption) | (with_reducible exact Below.refl _ _) | (with_reducible refine heap_drew ?_) | (focus ((with_reducible refine heap_new ?_) ; simp ; done)) | (with_reducible apply heap_set_to) | (focus ((with_reducible refine heap_set_ne ?_ ?_ _) ; rotate_left ; (focus (first | omega | (simp ; done) | (simp ; omega))))) | (with_reducible refine heap_old ?_) | (with_reducible refine Below.drew ?_) | (with_reducible refine below_set ?_ _ _) | (focus ((with_reducible refine Below.setCell ?_ ?_ _) ; rotate_left ; (focus (first | omega | (simp ; done) | (simp ; omega))))) | (focus ((with_reducible refine Below.alloc ?_ ?_ _) ; rotate_left ; (focus (first | omega | (simp ; done) | (simp ; omega))))) | (with_reducible rfl) | (focus (simp ; done)))))
  simp only [List.map_cons, List.map_nil, List.getD_cons_zero, List.getD_cons_succ]
  (refine x_pure rfl _ ?_ rfl (by simp) ?_ ?_ ; rotate_left ; · (intro w3 K hK ; go_wp2_with fail ; exact rfl))
  simp only [Act.put, List.setIfInBounds_toArray, List.set_cons_succ, List.set_cons_zero]
  (refine x_pure rfl _ ?_ rfl (by simp) ?_ ?_ ; rotate_left ; · (intro w3 K hK ; go_wp2_with fail ; exact rfl))
  simp only [Act.put, List.setIfInBounds_toArray, List.set_cons_succ, List.set_cons_zero]
  (refine x_pure rfl _ ?_ rfl (by simp) ?_ ?_ ; rotate_left ; · (intro w3 K hK ; go_wp2_with fail ; exact rfl))
  simp only [Act.put, List.setIfInBounds_toArray, List.set_cons_succ, List.set_cons_zero]
  (refine x_quiet rfl hSt (fun _ h => h) _ ?_ rfl (by simp) ?_ ?_ ; rotate_left ; · (intro w3 hC K hK ; have hc := hC ; have q := blk4 (H2.out.below hc).blk ; have q3 := blk3 (blk_below HG.out hc) ; go_wp2_with fail ; refine ⟨?_, Below.refl _ _⟩ ; exact rfl))
  simp only [Act.put, List.setIfInBounds_toArray, List.set_cons_succ, List.set_cons_zero]
  (refine x_pure rfl _ ?_ rfl (by simp) ?_ ?_ ; rotate_left ; · (intro w3 K hK ; go_wp2_with fail ; exact rfl))
  simp only [Act.put, List.setIfInBounds_toArray, List.set_cons_succ, List.set_cons_zero]
  (refine x_quiet rfl hSt (fun _ h => h) _ ?_ rfl (by simp) ?_ ?_ ; rotate_left ; · (intro w3 hC K hK ; have hc := hC ; have q := blk4 (H2.out.below hc).blk ; have q3 := blk3 (blk_below HG.out hc) ; go_wp2_with fail ; refine ⟨?_, Below.refl _ _⟩ ; exact rfl))
  simp only [Act.put, List.setIfInBounds_toArray, List.set_cons_succ, List.set_cons_zero]
  (refine x_quiet rfl hSt (fun _ h => h) _ ?_ rfl (by simp) ?_ ?_ ; rotate_left ; · (intro w3 hC K hK ; have hc := hC ; have q := blk4 (H2.out.below hc).blk ; have q3 := blk3 (blk_below HG.out hc) ; go_wp2_with fail ; refine (srank_any sb tb mb node clock M t lo hi op w3 (H2.out.below hc) hs).mono ?_ ; rintro e w2 ⟨rfl, hb2⟩ ; refine hK _ _ ⟨?_, rfl, hb2⟩ ; (try simp only [List.getElem?_toArray, List.getElem?_cons_succ, List.getElem?_cons_zero]) ; exact rfl))
  simp only [Act.put, List.setIfInBounds_toArray, List.set_cons_succ, List.set_cons_zero]
  (refine x_pure rfl _ ?_ rfl (by simp) ?_ ?_ ; rotate_left ; · (intro w3 K hK ; go_wp2_with fail ; exact rfl))
  simp only [Act.put, List.setIfInBounds_toArray, List.set_cons_succ, List.set_cons_zero]
  (refine x_pure rfl _ ?_ rfl (by simp) ?_ ?_ ; rotate_left ; · (intro w3 K hK ; go_wp2_with fail ; exact rfl))
  simp only [Act.put, List.setIfInBounds_toArray, List.set_cons_succ, List.set_cons_zero]
  refine x_end ?_
  refine wpX_fork2 (i := 9) (j := 10) (by kernel_rfl) (by kernel_rfl) ?_ ?_
  · simp only [List.getD_cons_zero, List.getD_cons_succ]
    refine x_make rfl ?_
    intro w3 hc K hK
    go_wp2_with fail
    refine (HF.out w3 (H2.out.below hc)).mono ?_
    rintro x9 w9 ⟨bn, bi, bj, rfl, hs9, hb9⟩
    have HZ := Lib.hid (And.intro hs9 (HB2.out.trans ((hc.trans (hb9.mono hc.size)).mono HB2.out.size)))
    refine hK _ _ hb9 ?_
    clear hb9 hc hs9 hSt
    simp only [Act.put, List.setIfInBounds_toArray, List.set_cons_succ, List.set_cons_zero]
    refine x_end ?_
    refine wpX_tail [10, 11] 2 (by kernel_rfl) ?_
    simp only [List.map_cons, List.map_nil, List.getD_cons_zero, List.getD_cons_succ]
    (refine x_new rfl (by repeat (first | exact stable_ext _ | exact stable_blk _ _ | exact stable_true | (refine stable_bel ?_ ; (focus (first | (simp [World.size_setCell] ; done) | (simp [World.setCell] ; done)))) | refine Stable.and ?_ ?_)) ?_ ?_ ?_ ; rotate_left ; (focus (intro w9 ; go_simp ; try exact rfl)) ; rintro bl ⟨wn, hgn, hgs⟩)
    simp only [Act.put, List.setIfInBounds_toArray, List.set_cons_succ, List.set_cons_zero]
    refine x_write rfl ?_
    rintro wy ⟨hyb, hn⟩ K hK
    have hge : w9.heap.size ≤ bl := by have := hgn.size; omega
    have hge0 : w.heap.size ≤ bl := Nat.le_trans HZ.out.2.size hge
    have qn := blk1 hn
    have HY := Lib.hid (And.intro hyb (And.intro hn (And.intro hge hge0)))
    clear hyb hn hge hge0 hgn
    simp only [spanV]
    go_wp2_with fail
    refine x_nil ?_
    rintro _ rfl
    go_wp2_with fail
    go_ret2
    have hz := HY.out.1.setCell (p := ⟨bl, 0, none⟩) HY.out.2.2.1 (spanV bn bi bj)
    exact ⟨bl, rfl, ⟨bn, bi, bj, heap_set_to HY.out.2.1 (by simp [spanV]), HZ.out.1.below hz⟩, (HZ.out.2.trans (HY.out.1.mono HZ.out.2.size)).setCell HY.out.2.2.2 _⟩
  · simp only [List.getD_cons_zero, List.getD_cons_succ]
    (refine x_new rfl hSt ?_ ?_ ?_ ; rotate_left ; (focus (intro w9 ; go_simp ; try exact rfl)) ; rintro bl ⟨wn, hgn, hgs⟩)
    simp only [Act.put, List.setIfInBounds_toArray, List.set_cons_succ, List.set_cons_zero]
    refine x_end ?_
    refine wpX_tail [9, 11] 2 (by kernel_rfl) ?_
    simp only [List.map_cons, List.map_nil, List.getD_cons_zero, List.getD_cons_succ]
    have hge0 : w.heap.size ≤ bl := by have := (HB2.out.trans (hgn.mono HB2.out.size)).size; omega
    refine x_make rfl ?_
    rintro w3 ⟨hc, hn⟩ K hK
    go_wp2_with fail
    refine (HF.out w3 (H2.out.below hc)).mono ?_
    rintro x9 w9 ⟨bn, bi, bj, rfl, hs9, hb9⟩
    have HZ := Lib.hid (And.intro hs9 (And.intro (HB2.out.trans ((hc.trans (hb9.mono hc.size)).mono HB2.out.size)) (blk_below hn hb9)))
    refine hK _ _ hb9 ?_
    clear hb9 hc hs9 hSt hn hgn
    try simp only [Act.put, List.setIfInBounds_toArray, List.set_cons_succ, List.set_cons_zero]
    refine x_write rfl ?_
    rintro wy hyb K hK
    have hn := blk_below HZ.out.2.2 hyb
    have qn := blk1 hn
    have HY := Lib.hid (And.intro hyb (And.intro hn hge0))
    clear hyb hn hge0
    simp only [spanV]
    go_wp2_with fail
    refine x_nil ?_
    rintro _ rfl
    go_wp2_with fail
    go_ret2
    exact ⟨bl, rfl, ⟨bn, bi, bj, heap_set_to HY.out.2.1 (by simp [spanV]), (HZ.out.1.below HY.out.1).side HY.out.2.1 (by decide) (by decide) (by decide) _⟩, (HZ.out.2.1.trans (HY.out.1.mono HZ.out.2.1.size)).setCell HY.out.2.2 _⟩
end Go.Proofs.YtdflmplmpjghdaaGreatDoor
