/-
  slices.Collect of entries: any iterator of which the number of rounds is known.
-/
import Derived.Test.YtdflmplmpjghdaaGreatDoorScan
namespace Go.Proofs.YtdflmplmpjghdaaGreatDoor
open Go.ChangeShapes Go.WideShapes Go.ChangeAt Go.RowKit Go.Deep Go.Shelf
set_option linter.unusedVariables false
set_option linter.unusedSimpArgs false
set_option maxRecDepth 100000
attribute [local go_sem] Oper.semAt_some

abbrev entT : TypeId := 78
def ecl (e : Ent) : List Value := [.string e.1, .int .i64 e.2.1, .int .i64 e.2.2.1, .string e.2.2.2.1, .bool e.2.2.2.2]
def eflat (L : List Ent) : List Value := L.flatMap ecl
theorem eflat_succ (L : List Ent) (k : Nat) (h : k < L.length) : eflat (L.take (k + 1)) = eflat (L.take k) ++ ecl L[k] := by
  rw [List.take_succ_eq_append_getElem h]; simp only [eflat, List.flatMap_append, List.flatMap_cons, List.flatMap_nil, List.append_nil]
def entA (L : List Ent) (k : Nat) (args : Array Value) (_ : World) : Prop := ∃ h : k < L.length, args = #[evE L[k]]
def collT (t : TypeId) : Prop := t = nodeT ∨ t = yieldE
theorem elit_news (w : World) (e : Ent) : ∀ ad, some (⟨w.heap.size, 0, none⟩ : Addr) = some ad → ∀ j u, (ecl e)[j]? = some u → (w.alloc (.cells #[.string e.1, .int .i64 e.2.1, .int .i64 e.2.2.1, .string e.2.2.2.1, .bool e.2.2.2.2] entT (0, 0))).cell? (ad.add j) = some u := by
  intro ad h j u hu
  injection h with h
  subst h
  rw [add_none, blk_cell (heap_new rfl), Nat.zero_add]
  simpa [ecl] using hu
theorem ecl_one (e : Ent) : ∀ u ∈ ecl e, u.oneCell' = true := by
  intro u hu
  simp only [ecl, List.mem_cons, List.not_mem_nil, or_false] at hu
  rcases hu with rfl | rfl | rfl | rfl | rfl <;> rfl
theorem Keep.toBelow {w W : World} (h : Keep (fun k => w.heap.size ≤ k) w W) : Below w.heap.size w W := ⟨h.os, h.tape, h.output, h.size, fun k hk => h.block k hk (by omega)⟩
theorem KeepsFrom.of_keep {B : Nat} {q : Nat → Prop} {W W' : World} (hk : Keep q W W') (hq : ∀ k, q k → ∃ cs t fr, W.heap[k]? = some (.cells cs t fr)) : KeepsFrom B W W' := ⟨hk.size, fun k o _ hh ho => by
  by_cases hqk : q k
  · obtain ⟨cs, t, fr, h⟩ := hq k hqk
    rw [hh] at h; cases h; cases ho
  · exact (hk.block k (by obtain ⟨h, _⟩ := Array.getElem?_eq_some_iff.1 hh; exact h) hqk).trans hh⟩
theorem KeepT.of_keep {p q : Nat → Prop} {T : TypeId → Prop} {W W' : World} (hk : Keep q W W') (hq : ∀ k, k < W.heap.size → q k → p k) (ht : ∀ k cs t fr, T t → W.heap[k]? = some (.cells cs t fr) → ¬ q k) : KeepT p T W W' :=
  ⟨hk.mono hq, fun k cs t fr h1 h2 => hk.blk h2 (ht k cs t fr h1 h2)⟩
/-- What stands between two rounds. -/
def CollAt (w : World) (B bb : Nat) (L : List Ent) (k : Nat) (W : World) : Prop := ∃ v, W.heap[bb]? = some (.cells #[v] 32 (0, 0)) ∧ W.ownsRow B entT 5 v k (eflat (L.take k)) ∧ Keep (fun k => w.heap.size ≤ k) w W
theorem own_of (w : World) (B bb : Nat) (L : List Ent) (C : Nat) (hC : w.heap.size ≤ C) : OwnFrom C (fun k W => CollAt w B bb L k W) := by
  rintro k X Y row ⟨v, h1, h2, h3⟩ hg hr
  refine ⟨v, ownFrom_blk (β := Unit) C (fun _ => bb) (fun _ => #[v]) _ _ () X Y row h1 hg hr, own_keep h2 (Keep.grown hg) (fun g hv e => ?_), h3.trans ((Keep.grown hg).mono fun k _ e => by have := (hr k e).1; omega)⟩
  obtain ⟨_, o, ho, hc⟩ := hr g e
  rcases h2.2 with ⟨rfl, _⟩ | ⟨g', cap, cur, rfl, _, hh, _⟩
  · cases hv
  · simp only [Value.ownBlock, Option.some.injEq] at hv
    subst hv
    rw [hh] at ho
    cases ho
    cases hc
theorem info_ent : (Tryz.prog.info? entT).map (fun i => (i.zero, i.size, i.bytes)) = some (some (.agg #[.string ⟨#[]⟩, .int .i64 0, .int .i64 0, .string ⟨#[]⟩, .bool false]), 5, 56) := by kernel_rfl
set_option maxRecDepth 100000 in
set_option maxHeartbeats 8000000 in
theorem aseq_any (gf : Nat) (lb : Array Value) (L : List Ent) (w : World) (eg : ∀ args w, (callFunc gf args).run Tryz.prog w = .ok (.enter gf args) w) (hL : L.length ≤ 1000000)
    (hsq : ∀ w1, Below w.heap.size w w1 → SeqN Tryz.prog gf lb L.length (entA L) (fun k => w.heap.size ≤ k) collT w1) :
    Calls Tryz.prog 86 #[.slice none 0 0, .func (.func gf) #[] lb] w fun e w' => ∃ v, e = .returned v ∧ w'.ownsRow w.heap.size entT 5 v L.length (eflat L) ∧ Below w.heap.size w w' := by
  obtain ⟨i0, hi, hz0, hz1, hz2⟩ : ∃ i, Tryz.prog.info? entT = some i ∧ i.zero = some (.agg #[.string ⟨#[]⟩, .int .i64 0, .int .i64 0, .string ⟨#[]⟩, .bool false]) ∧ i.size = 5 ∧ i.bytes = 56 := by
    have := info_ent
    cases h : Tryz.prog.info? entT with
    | none => rw [h] at this; cases this
    | some i => rw [h] at this; simp at this; exact ⟨i, rfl, this.1, this.2.1, this.2.2⟩
  have HI : Hid (_ ∧ _ ∧ _ ∧ _) := ⟨hi, hz0, hz1, hz2⟩
  clear hi hz0 hz1 hz2
  refine calls_of_marks 3 Tryz.func86 rfl ?_
  simp only [Tryz.ntmps86, List.size_toArray, List.length_cons, List.length_nil, Nat.reduceAdd, Nat.reduceSub, Array.replicate_succ, Array.replicate_zero, List.push_toArray, List.append_toArray, List.nil_append, List.cons_append]
  gi_wp2
  have hbs := below_alloc_self w (.cells #[.slice none 0 0] 32 (0, 0))
  have gy : (w.alloc (.cells #[.slice none 0 0] 32 (0, 0))).heap[w.heap.size]? = some (.cells #[.slice none 0 0] 32 (0, 0)) := by (repeat (first | (with_reducible assumption) | (with_reducible exact Below.refl _ _) | (with_reducible refine heap_drew ?_) | (focus ((with_reducible refine heap_new ?_) ; simp ; done)) | (with_reducible apply heap_set_to) | (focus ((with_reducible refine heap_set_ne ?_ ?_ _) ; rotate_left ; (focus (first | omega | (simp ; done) | (simp ; omega))))) | (with_reducible refine heap_old ?_) | (with_reducible refine Below.drew ?_) | (with_reducible refine below_set ?_ _ _) | (focus ((with_reducible refine Below.setCell ?_ ?_ _) ; rotate_left ; (focus (first | omega | (simp ; done) | (simp ; omega))))) | (focus ((with_reducible refine Below.alloc ?_ ?_ _) ; rotate_left ; (focus (first | omega | (simp ; done) | (simp ; omega))))) | (with_reducible rfl) | (focus (simp ; done))))
  generalize hws : w.alloc (.cells #[.slice none 0 0] 32 (0, 0)) = ws at *
  clear hws
  have hzs := hbs.size
  refine wpIn_range (gf := gf) (lb := lb) rfl eg (hsq ws hbs) (fun k hk => Nat.le_trans hzs hk) ?hps
    (fun k W' => CollAt w w.heap.size w.heap.size L k W' ∧ ws.heap.size ≤ W'.heap.size) (fun c k W' => False)
    ((own_of w _ _ L _ hzs).and (ownFrom_size _ _)) (fun c => fun _ _ _ _ h => h.elim) ⟨⟨_, gy, ⟨by simp [eflat], Or.inl ⟨rfl, rfl⟩⟩, Keep.of_below hbs⟩, Nat.le_refl _⟩
    (fun k a' W' => ∃ (h : k < L.length) (bp : Nat), ws.heap.size ≤ bp ∧ W'.heap[bp]? = some (.cells #[.string L[k].1, .int .i64 L[k].2.1, .int .i64 L[k].2.2.1, .string L[k].2.2.2.1, .bool L[k].2.2.2.2] entT (0, 0)) ∧ a' = { tmps := #[.slice none 0 0, .func (.func gf) #[] lb, .pointer (some ⟨w.heap.size, 0, none⟩), undef, .slice none 0 0, .pointer (some ⟨bp, 0, none⟩), .func (.func gf) #[] lb, evE L[k], undef, undef, undef, undef, undef], defers := [] })
    ?hA ?assign ?body ?done ?stop
  case hps => intro k args W' h; obtain ⟨_, rfl⟩ := h; rfl
  case hA =>
    intro a' k X Y row hs hg hr
    obtain ⟨h, bp, h1, h2, h3⟩ := hs
    exact ⟨h, bp, h1, ownFrom_blk (β := Unit) _ (fun _ => bp) (fun _ => #[.string L[k].1, .int .i64 L[k].2.1, .int .i64 L[k].2.2.1, .string L[k].2.2.2.1, .bool L[k].2.2.2.2]) _ _ () X Y row h2 hg hr, h3⟩
  case assign =>
    rintro l2 k args W2 K hk hI ⟨hlt, rfl⟩ hK
    gi_wp2
    have hb2 := below_alloc_self W2 (.cells #[.string L[k].1, .int .i64 L[k].2.1, .int .i64 L[k].2.2.1, .string L[k].2.2.2.1, .bool L[k].2.2.2.2] entT (0, 0))
    have hge : ws.heap.size ≤ W2.heap.size := hI.2
    exact hK _ _ (KeepsFrom.of_below _ hb2) (KeepT.of_below hb2) ⟨OwnFrom.keepOf (own_of w _ _ L _ hzs) hI.1 hb2, Nat.le_trans hI.2 hb2.size⟩ ⟨hlt, W2.heap.size, hge, heap_new rfl, rfl⟩
  case body =>
    rintro l2 k a' W2 hl ⟨r2, hr2⟩ hk ⟨⟨v, hbx, hown, hkp⟩, hsw⟩ ⟨hlt, bp, hbp, gp, rfl⟩
    have q := blk1 hbx
    have qp := blk5 gp
    have hba := below_alloc_self W2 (.cells #[.string L[k].1, .int .i64 L[k].2.1, .int .i64 L[k].2.2.1, .string L[k].2.2.2.1, .bool L[k].2.2.2.2] entT (0, 0))
    have HO := Lib.hid (own_below hown hba)
    have hsz2 := hkp.size
    have HB := Lib.hid (And.intro hbx (And.intro hown (And.intro hkp hba)))
    clear hown hkp hba
    gi_wp2_with (first
      | (gi_at_builtin; (refine wpListIn_plain rfl fun K hK => ?_); (refine wpIn_of_wp (r := some l2) (by intro c h; cases h) ?_); (refine wp_append_any _ (.tmp 8) (.tmp 10) 32 rfl w.heap.size entT i0 _ 5 56 Tryz.underlying32 HI.out.1 HI.out.2.1 HI.out.2.2.1 HI.out.2.2.2 rfl (by decide) v k (eflat (L.take k)) rfl HO.out (some ⟨W2.heap.size, 0, none⟩) 1 1 (ecl L[k]) rfl rfl (fun h => nomatch h) (elit_news W2 L[k]) (ecl_one _) ?c3 ?c4 ?c5 ?_))
      | fail)
    case c3 => unfold maxLen; omega
    case c4 => omega
    case c5 => simp; omega
    intro v' w' ho hg hb
    obtain ⟨oa, n', cap, rfl⟩ : ∃ oa n' cap, v' = .slice oa n' cap := by
      rcases ho.2 with ⟨h, _⟩ | ⟨g, cap, cur, h, _⟩
      · exact ⟨_, _, _, h⟩
      · exact ⟨_, _, _, h⟩
    have hbxa := blk_below HB.out.1 HB.out.2.2.2
    have hbxg := (Keep.grown hg).blk hbxa (own_ne HO.out hbxa (by decide))
    have q2 := blk1 hbxg
    have HF := Lib.hid (And.intro ho (And.intro hg hbxg))
    clear ho hg hb hbxa hbxg q qp hbx gp
    refine hK _ _ ?_
    gi_wp2
    have hkq : Keep (fun i => v.ownBlock = some i ∨ i = w.heap.size) W2 (w'.setCell ⟨w.heap.size, 0, none⟩ (.slice oa n' cap)) :=
      ((Keep.of_below HB.out.2.2.2).trans ((Keep.grown HF.out.2.1).mono fun _ _ h => Or.inl h)).trans ((Keep.set w' ⟨w.heap.size, 0, none⟩ (.slice oa n' cap)).mono fun _ _ h => Or.inr h)
    have hownb : ∀ g, v.ownBlock = some g → w.heap.size ≤ g ∧ ∃ cs fr, W2.heap[g]? = some (.cells cs entT fr) := by
      intro g hv
      rcases HB.out.2.1.2 with ⟨rfl, _⟩ | ⟨g', cap, cur, rfl, hb', hh, _⟩
      · cases hv
      · simp only [Value.ownBlock, Option.some.injEq] at hv
        subst hv
        exact ⟨hb', _, _, hh⟩
    refine ⟨KeepsFrom.of_keep hkq ?_, KeepT.of_keep hkq ?_ ?_, ⟨.slice oa n' cap, heap_set_to HF.out.2.2 (by simp), ?_, HB.out.2.2.1.trans (hkq.mono ?_)⟩, Nat.le_trans hsw hkq.size⟩
    · rintro i (h | rfl)
      · obtain ⟨_, cs, fr, h2⟩ := hownb i h
        exact ⟨cs, _, fr, h2⟩
      · exact ⟨_, _, _, HB.out.1⟩
    · rintro i _ (h | rfl)
      · exact (hownb i h).1
      · exact Nat.le_refl _
    · rintro i cs t fr ht hh (h | rfl)
      · obtain ⟨_, cs2, fr2, h2⟩ := hownb i h
        rw [hh] at h2
        simp only [Option.some.injEq, Obj.cells.injEq] at h2
        rcases ht with ht | ht <;> rw [ht] at h2 <;> exact absurd h2.2.1 (by decide)
      · have h2 := HB.out.1
        rw [hh] at h2
        simp only [Option.some.injEq, Obj.cells.injEq] at h2
        rcases ht with ht | ht <;> rw [ht] at h2 <;> exact absurd h2.2.1 (by decide)
    · rw [eflat_succ L k hlt]
      exact own_keep HF.out.1 (Keep.set w' ⟨w.heap.size, 0, none⟩ (.slice oa n' cap)) (fun g hv e => own_ne HF.out.1 HF.out.2.2 (by decide) (by rw [hv, show g = w.heap.size from e]))
    · rintro i _ (h | rfl)
      · exact (hownb i h).1
      · exact Nat.le_refl _
  case done =>
    rintro D W2 hD ⟨⟨v, hbx, hown, hkp⟩, hsw⟩ hdef
    have q := blk1 hbx
    have HB := Lib.hid (And.intro hown hkp)
    clear hown hkp
    gi_wp2
    refine ⟨by simp, .inl ⟨_, _, rfl, run_takeDeferred hdef, ?_⟩⟩
    have hkd : Keep (fun k => k = D) W2 (W2.putObj D (.deferred none)) := Keep.putObj _ _ _ _ rfl
    refine ⟨v, by simp [results, go_sem], v, rfl, ?_, ?_⟩
    · have h2 := HB.out.1
      rw [List.take_length] at h2
      refine own_keep h2 hkd (fun g hv e => ?_)
      rcases h2.2 with ⟨rfl, _⟩ | ⟨g', cap, cur, rfl, _, hh, _⟩
      · cases hv
      · simp only [Value.ownBlock, Option.some.injEq] at hv
        subst hv
        rw [show g' = D from e, hdef] at hh
        cases hh
    · exact (HB.out.2.trans (hkd.mono fun k _ e => by rw [e]; omega)).toBelow
  case stop => intro D c k W2 hD hk h; exact h.elim
set_option maxHeartbeats 4000000 in
theorem coll_any (gf : Nat) (lb : Array Value) (L : List Ent) (w : World) (eg : ∀ args w, (callFunc gf args).run Tryz.prog w = .ok (.enter gf args) w) (hL : L.length ≤ 1000000)
    (hsq : ∀ w1, Below w.heap.size w w1 → SeqN Tryz.prog gf lb L.length (entA L) (fun k => w.heap.size ≤ k) collT w1) :
    Calls Tryz.prog 54 #[.func (.func gf) #[] lb] w fun e w' => ∃ v, e = .returned v ∧ w'.ownsRow w.heap.size entT 5 v L.length (eflat L) ∧ Below w.heap.size w w' := by
  go_enter Tryz.func54, Tryz.ntmps54
  go_wp2_with fail
  refine (aseq_any gf lb L w eg hL hsq).mono ?_
  rintro e w' ⟨v, rfl, h1, h2⟩
  go_wp2_with fail
  go_ret
  exact ⟨v, rfl, h1, h2⟩
end Go.Proofs.YtdflmplmpjghdaaGreatDoor
