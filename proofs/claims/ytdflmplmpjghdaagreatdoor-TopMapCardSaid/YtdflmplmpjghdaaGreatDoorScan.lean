/-
  The store: Scan, and what its iterator promises.
-/
import Derived.Test.YtdflmplmpjghdaaGreatDoorSall
namespace Go.Proofs.YtdflmplmpjghdaaGreatDoor
open Go.ChangeShapes Go.WideShapes Go.ChangeAt Go.RowKit Go.Deep Go.Shelf
set_option linter.unusedVariables false
set_option linter.unusedSimpArgs false
set_option maxRecDepth 100000
attribute [local go_sem] Oper.semAt_some

section
variable {P : Program} {b : Frame} {a : Act} {k : List Item} {cs : List Frame} {w : World} {Q : Exit → Act → World → Prop} {F : Fence} {n : Nat}
theorem stepR_scope {c : Code} : step P (lone (b.atR a (.code (.scope c) :: k)) cs w) = .next (lone (b.atR a (.code c :: .inScope c :: k)) cs w) := step_lone_go (by simp [stepG, stepG.exec, Frame.atR])
theorem stepR_inScope {c : Code} : step P (lone (b.atR a (.inScope c :: k)) cs w) = .next (lone (b.atR a k) cs w) := step_lone_go (by simp [stepG, stepG.exec, Frame.atR])
/-- A scope from which no goto leaves. -/
theorem wpIn_scope {c : Code} (h : c.wpIn F n P (Exit.noGoto Q) a w) : (Code.scope c).wpIn F n P Q a w := by
  intro b k cs hro hb hr
  have h0 : (lone (b.atR a (.code (.scope c) :: k)) cs w).fenced P F := fenced_calm hb hr rfl
  obtain ⟨e, a₁, w₁, hq, harr⟩ := h b (.inScope c :: k) cs hro hb hr
  cases e with
  | normal => exact ⟨.normal, a₁, w₁, hq, .head h0 stepR_scope (StepsIn.trans harr (.one (fenced_calm hb hr rfl) stepR_inScope))⟩
  | exit id' =>
    have hx : exitTo id' (.inScope c :: k) = exitTo id' k := by simp [exitTo]
    exact ⟨.exit id', a₁, w₁, hq, fun k' hk => .head h0 stepR_scope (harr.1 k' (by rw [hx]; exact hk)),
        fun hr' hk => let ⟨k₁, h1, h2⟩ := harr.2 hr' (by rw [hx]; exact hk); ⟨k₁, h1, .head h0 stepR_scope h2⟩⟩
  | goto l => exact hq.elim
  | ret => exact ⟨_, a₁, w₁, hq, .of_steps (.one h0 stepR_scope) harr⟩
  | panic ch => exact ⟨_, a₁, w₁, hq, .of_steps (.one h0 stepR_scope) harr⟩
  | outgrown => exact ⟨_, a₁, w₁, hq, .of_steps (.one h0 stepR_scope) harr⟩
end
/-- Is the row's entry alive? -/
def liveB (r : Row) : Bool := !r.2.1.2.2.2.2
def liveR (l : List Row) : List Row := l.filter liveB
def lcR (l : List Row) (k : Nat) : Nat := (liveR (l.take k)).length
theorem lcR_zero (l : List Row) : lcR l 0 = 0 := by simp [lcR, liveR]
theorem lcR_all (l : List Row) : lcR l l.length = (liveR l).length := by rw [lcR, List.take_length]
theorem lcR_succ (l : List Row) (k : Nat) (h : k < l.length) : lcR l (k + 1) = lcR l k + if liveB l[k] = true then 1 else 0 := by
  unfold lcR liveR
  rw [List.take_succ_eq_append_getElem h, List.filter_append, List.length_append]
  by_cases hb : liveB l[k] = true
  · rw [if_pos hb, List.filter_cons_of_pos hb]; rfl
  · rw [if_neg hb, List.filter_cons_of_neg hb]; rfl
theorem lcR_get (l : List Row) (k : Nat) (h : k < l.length) (hb : liveB l[k] = true) : ∃ hl : lcR l k < (liveR l).length, (liveR l)[lcR l k] = l[k] := by
  have e : liveR l = liveR (l.take k) ++ l[k] :: liveR (l.drop (k + 1)) := by
    have : l = l.take k ++ l[k] :: l.drop (k + 1) := by rw [List.getElem_cons_drop, List.take_append_drop]
    unfold liveR
    conv => lhs; rw [this]
    rw [List.filter_append, List.filter_cons_of_pos hb]
  have hl : lcR l k < (liveR l).length := by rw [e]; simp [lcR]
  refine ⟨hl, ?_⟩
  have : (liveR l)[lcR l k]? = some l[k] := by
    rw [e, List.getElem?_append_right (by simp [lcR])]; simp [lcR]
  rw [List.getElem?_eq_getElem hl] at this
  exact Option.some.inj this

abbrev scanV (bl : Nat) : Value := .func (.func 134) #[] #[.pointer (some ⟨bl, 0, none⟩)]
def ScanAt (w : World) (bl : Nat) (t : Tr) (i j : Int) : Prop := ∃ b2, w.heap[bl]? = some (.cells #[allV b2] 137 (0, 0)) ∧ AllAt w b2 t i j
theorem ScanAt.below {w w' : World} {bl : Nat} {t : Tr} {i j : Int} (h : ScanAt w bl t i j) (hb : Below w.heap.size w w') : ScanAt w' bl t i j := by
  obtain ⟨b2, h1, h2⟩ := h
  exact ⟨b2, blk_below h1 hb, h2.below hb⟩
set_option maxRecDepth 100000 in
set_option maxHeartbeats 8000000 in
theorem scan_seq (bl : Nat) (t : Tr) (i j : Int) (p : Nat → Prop) (T : TypeId → Prop) (hT : T nodeT ∧ T yieldE) (w : World) (h : ScanAt w bl t i j) (hi : 0 ≤ i ∧ i ≤ 1099511627776) (hj : 0 ≤ j ∧ j ≤ 1099511627776) (hs : t.size ≤ 1099511627000) (hp : ∀ k, w.heap.size ≤ k → p k) :
    SeqN Tryz.prog 134 #[.pointer (some ⟨bl, 0, none⟩)] (liveR (cutR i j t.rows)).length (entArgs (liveR (cutR i j t.rows))) p T w := by
  intro l J Jx W hW hJ hJx hY h0
  obtain ⟨b2, g1, g2⟩ := h.below hW
  have hsW := hW.size
  have hpW : ∀ k, W.heap.size ≤ k → p k := fun k hk => hp k (Nat.le_trans hsW hk)
  have HS := Lib.hid (And.intro g2 hpW)
  clear h hp hW g2 hpW
  generalize hR : cutR i j t.rows = RR at *
  refine calls_of_marks 3 Tryz.func134 rfl ?_
  simp only [Tryz.ntmps134, List.size_toArray, List.length_cons, List.length_nil, Nat.reduceAdd, Nat.reduceSub, Array.replicate_succ, Array.replicate_zero, List.push_toArray, List.append_toArray, List.nil_append, List.cons_append]
  have q := blk1 g1
  gi_wp2
  have hbs := below_alloc_self W (.cells #[.func (.yield l) #[] #[]] yieldE (0, 0))
  have gy : (W.alloc (.cells #[.func (.yield l) #[] #[]] yieldE (0, 0))).heap[W.heap.size]? = some (.cells #[.func (.yield l) #[] #[]] yieldE (0, 0)) := by (repeat (first | (with_reducible assumption) | (with_reducible exact Below.refl _ _) | (with_reducible refine heap_drew ?_) | (focus ((with_reducible refine heap_new ?_) ; simp ; done)) | (with_reducible apply heap_set_to) | (focus ((with_reducible refine heap_set_ne ?_ ?_ _) ; rotate_left ; (focus (first | omega | (simp ; done) | (simp ; omega))))) | (with_reducible refine heap_old ?_) | (with_reducible refine Below.drew ?_) | (with_reducible refine below_set ?_ _ _) | (focus ((with_reducible refine Below.setCell ?_ ?_ _) ; rotate_left ; (focus (first | omega | (simp ; done) | (simp ; omega))))) | (focus ((with_reducible refine Below.alloc ?_ ?_ _) ; rotate_left ; (focus (first | omega | (simp ; done) | (simp ; omega))))) | (with_reducible rfl) | (focus (simp ; done))))
  generalize hws : W.alloc (.cells #[.func (.yield l) #[] #[]] yieldE (0, 0)) = ws at *
  clear hws q
  have q := blk1 (blk_below g1 hbs)
  refine wpIn_scope (wpIn_seq (wpIn_label ?_))
  simp only [Exit.then]
  gi_wp2
  clear q
  have hzs := hbs.size
  have hlc : OwnFrom W.heap.size (fun k W' => J (lcR RR k) W') := fun s X Y row hs hg hr => hJ (lcR RR s) X Y row hs hg hr
  have hlx : OwnFrom W.heap.size (fun (_ : Nat) W' => ∃ m, m ≤ (liveR RR).length ∧ Jx m W') := fun s X Y row ⟨m, hm, hs⟩ hg hr => ⟨m, hm, hJx m X Y row hs hg hr⟩
  refine wpIn_range (gf := 85) (lb := #[.pointer (some ⟨b2, 0, none⟩)]) rfl (enters_of Tryz.func85 (by kernel_rfl) rfl)
    (hR ▸ all_seq b2 t i j p T hT ws (HS.out.1.below hbs) hi hj hs (fun k hk => HS.out.2 k (Nat.le_trans hzs hk)) : SeqN Tryz.prog 85 _ RR.length (entArgs RR) p T ws) (fun k hk => HS.out.2 k (Nat.le_trans hzs hk)) ?hps
    (fun k W' => J (lcR RR k) W' ∧ KeepT p T ws W' ∧ W'.heap[W.heap.size]? = some (.cells #[.func (.yield l) #[] #[]] yieldE (0, 0)))
    (fun c k W' => c = .ret ∧ ∃ m, m ≤ (liveR RR).length ∧ Jx m W')
    ((OwnFrom.mono hlc hzs).and ((ownFrom_keepT (Nat.le_refl _)).and (ownFrom_blk _ _ _ _ _))) (fun c => (OwnFrom.pure _ _).and (OwnFrom.mono hlx hzs)) ⟨OwnFrom.keepOf hlc (s := 0) (by rw [lcR_zero]; exact h0) hbs, KeepT.refl _ _ _, gy⟩
    (fun k a' W' => ∃ (h : k < RR.length) (bp : Nat), ws.heap.size ≤ bp ∧ W'.heap[bp]? = some (.cells #[.string RR[k].2.1.1, .int .i64 RR[k].2.1.2.1, .int .i64 RR[k].2.1.2.2.1, .string RR[k].2.1.2.2.2.1, .bool RR[k].2.1.2.2.2.2] 78 (0, 0)) ∧ a' = { tmps := #[.func (.yield l) #[] #[], .pointer (some ⟨bl, 0, none⟩), .pointer (some ⟨W.heap.size, 0, none⟩), .pointer (some ⟨bp, 0, none⟩), allV b2, evE RR[k].2.1, undef, undef, undef, undef, undef, undef, undef, undef], defers := [] })
    ?hA ?assign ?body ?done ?stop
  case hps => intro k args W' h; obtain ⟨_, rfl⟩ := h; rfl
  case hA =>
    intro a' k X Y row hs hg hr
    obtain ⟨h, bp, h1, h2, h3⟩ := hs
    exact ⟨h, bp, h1, ownFrom_blk (β := Unit) _ (fun _ => bp) (fun _ => #[.string RR[k].2.1.1, .int .i64 RR[k].2.1.2.1, .int .i64 RR[k].2.1.2.2.1, .string RR[k].2.1.2.2.2.1, .bool RR[k].2.1.2.2.2.2]) _ _ () X Y row h2 hg hr, h3⟩
  case assign =>
    rintro l2 k args W2 K hk ⟨hj, hkt, hy2⟩ ⟨hlt, rfl⟩ hK
    gi_wp2
    have hb2 := below_alloc_self W2 (.cells #[.string RR[k].2.1.1, .int .i64 RR[k].2.1.2.1, .int .i64 RR[k].2.1.2.2.1, .string RR[k].2.1.2.2.2.1, .bool RR[k].2.1.2.2.2.2] 78 (0, 0))
    exact hK _ _ (KeepsFrom.of_below _ hb2) (KeepT.of_below hb2) ⟨OwnFrom.keepOf hlc hj hb2, hkt.trans (KeepT.of_below hb2), blk_below hy2 hb2⟩ ⟨hlt, W2.heap.size, hkt.keep.size, heap_new rfl, rfl⟩
  case body =>
    rintro l2 k a' W2 hl ⟨r2, hr2⟩ hk ⟨hj, hkt, hy2⟩ ⟨hlt, bp, hbp, gp, rfl⟩
    have q := blk1 hy2
    have hsu := lcR_succ RR k hlt
    cases hd : RR[k].2.1.2.2.2.2 with
    | true =>
      rw [hd] at gp
      have qp := blk5 gp
      have hsu2 : lcR RR (k + 1) = lcR RR k := by rw [hsu, if_neg (by simp [liveB, hd])]; rfl
      have HJ := Lib.hid hj
      clear hj hY hsu
      gi_wp2
      exact ⟨KeepsFrom.refl _ _, KeepT.refl _ _ _, by rw [hsu2]; exact HJ.out, hkt, hy2⟩
    | false =>
      have hli : liveB RR[k] = true := by simp [liveB, hd]
      obtain ⟨hll, hge⟩ := lcR_get RR k hlt hli
      have hsu2 : lcR RR (k + 1) = lcR RR k + 1 := by rw [hsu, if_pos hli]
      rw [hd] at gp
      have qp := blk5 gp
      obtain ⟨fn, tmps, assign, body, hy, hR0⟩ := hY (lcR RR k) #[.agg #[.string RR[k].2.1.1, .int .i64 RR[k].2.1.2.1, .int .i64 RR[k].2.1.2.2.1, .string RR[k].2.1.2.2.2.1, .bool false]] W2 hll hj ⟨hll, by rw [hge, ← hd]⟩
      have hR1 := roundIn_any (m' := 3 - 1) rfl hR0
      clear hR0 hY hsu
      gi_wp2
      refine hR1.mono ?_
      rintro e w5 ⟨bb, rfl, hkf, hbb⟩
      have HF : Hid (KeepsFrom ws.heap.size W2 w5 ∧ if bb = true then J (lcR RR (k + 1)) w5 ∧ KeepT p T W2 w5 ∧ w5.heap[W.heap.size]? = some (.cells #[.func (.yield l) #[] #[]] yieldE (0, 0)) else Jx (lcR RR (k + 1)) w5) := by
        refine ⟨KeepsFrom.mono hkf hzs, ?_⟩
        rw [hsu2]
        cases bb with
        | true => exact ⟨hbb.1, hbb.2, hbb.2.typ _ _ _ _ hT.2 hy2⟩
        | false => exact hbb
      have hmm : lcR RR (k + 1) ≤ (liveR RR).length := by omega
      clear hkf hbb hR1 q qp hr2 hsu2
      cases bb with
      | true =>
        gi_wp2
        exact ⟨HF.out.1, HF.out.2.2.1, HF.out.2.1, hkt.trans HF.out.2.2.1, HF.out.2.2.2⟩
      | false =>
        gi_wp2
        exact ⟨HF.out.1, rfl, _, hmm, HF.out.2⟩
  case done =>
    rintro D W2 hD ⟨hj, _, _⟩ hdef
    rw [lcR_all] at hj
    gi_wp2
    refine ⟨by simp, .inl ⟨_, _, rfl, run_takeDeferred hdef, ?_⟩⟩
    exact ⟨_, results_none rfl _ _ _, ⟨_, rfl⟩, .inl (OwnFrom.putObj hJ _ hj (by omega) hdef rfl)⟩
  case stop =>
    rintro D c k W2 hD hk ⟨rfl, m, hm, hj⟩ hdef
    gi_wp2
    refine ⟨by simp, .inl ⟨_, _, rfl, run_takeDeferred hdef, ?_⟩⟩
    exact ⟨_, results_none rfl _ _ _, ⟨_, rfl⟩, .inr ⟨m, hm, OwnFrom.putObj hJx _ hj (by omega) hdef rfl⟩⟩
set_option maxRecDepth 100000 in
set_option maxHeartbeats 8000000 in
theorem scan_bad (sb tb mb : Nat) (node clock : Int) (M : Nat) (t : Tr) (lo hi : ByteArray) (op : Bool) (w : World) (c : Int) (hc0 : c ≠ 0)
    (hc : ∀ w : World, Calls Tryz.prog 82 #[rgV lo hi op] w fun e w' => e = .returned (.int .i64 c) ∧ Below w.heap.size w w') :
    Calls Tryz.prog 99 #[.pointer (some ⟨sb, 0, none⟩), rgV lo hi op] w fun e w' => e = .returned (.tuple #[.nilFunc, .int .i64 c]) ∧ Below w.heap.size w w' := by
  have HB0 := Lib.hid (below_alloc_self w (.cells #[.string lo, .string hi, .bool op] 36 (0, 0)))
  go_enter Tryz.func99, Tryz.ntmps99
  go_wp2_with fail
  refine (all_bad sb tb mb node clock M t lo hi op _ c hc0 hc).mono ?_
  rintro e w2 ⟨rfl, hb2⟩
  have HB := Lib.hid ((HB0.out.trans (hb2.mono HB0.out.size)).alloc (HB0.out.trans (hb2.mono HB0.out.size)).size (.cells #[.nilFunc] 137 (0, 0)))
  clear hb2 hc
  go_wp2_with fail
  go_ret2
  exact ⟨rfl, HB.out⟩
set_option maxRecDepth 100000 in
set_option maxHeartbeats 8000000 in
theorem scan_any (sb tb mb : Nat) (node clock : Int) (M : Nat) (t : Tr) (lo hi : ByteArray) (op : Bool) (w : World) (h : StAt w sb tb mb node clock M t) (hs : t.size ≤ 1099511627000)
    (hc : ∀ w : World, Calls Tryz.prog 82 #[rgV lo hi op] w fun e w' => e = .returned (.int .i64 0) ∧ Below w.heap.size w w') :
    Calls Tryz.prog 99 #[.pointer (some ⟨sb, 0, none⟩), rgV lo hi op] w fun e w' => ∃ bl, e = .returned (.tuple #[scanV bl, .int .i64 0]) ∧ ScanAt w' bl t (rankT lo t : Int) (endT hi op t : Int) ∧ Below w.heap.size w w' := by
  have hb0 := below_alloc_self w (.cells #[.string lo, .string hi, .bool op] 36 (0, 0))
  have H1 := Lib.hid (h.below hb0)
  have HB0 := Lib.hid hb0
  clear hb0 h
  go_enter Tryz.func99, Tryz.ntmps99
  go_wp2_with fail
  refine (all_any sb tb mb node clock M t lo hi op _ H1.out hs hc).mono ?_
  rintro e w2 ⟨b2, rfl, ha, hb2⟩
  have hba := below_alloc_self w2 (.cells #[allV b2] 137 (0, 0))
  have HB := Lib.hid (HB0.out.trans (hb2.mono HB0.out.size))
  have HZ := Lib.hid (And.intro (ha.below hba) (HB.out.trans (hba.mono HB.out.size)))
  clear hb2 hc ha hba
  go_wp2_with fail
  go_ret2
  exact ⟨w2.heap.size, rfl, ⟨b2, heap_new rfl, HZ.out.1⟩, HZ.out.2⟩
end Go.Proofs.YtdflmplmpjghdaaGreatDoor
