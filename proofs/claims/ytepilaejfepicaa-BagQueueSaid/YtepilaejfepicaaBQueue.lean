/-
  BagQueue: taken out at the front alone, frames come in the order in which they were sent, all that found room; two bags know nothing of one another.
-/
import Derived.Test.YtepilaejfepicaaBNew
import Derived.Test.YtepilaejfepicaaBRow
import Derived.Test.YtepilaejfepicaaBOps
namespace Go.Proofs.Ytepilaejfepicaa
open Go.ChangeShapes Go.WideShapes Go.ChangeAt Go.RowKit Go.Deep
set_option linter.unusedVariables false
set_option linter.unusedSimpArgs false

theorem info_op : (Try.prog.info? 32).map (fun i => (i.zero, i.size, i.bytes)) = some (some (.agg #[.int .i64 0, .int .i64 0, .int .i64 0, .int .i64 0, .slice none 0 0]), 5, 56) := by kernel_rfl
def oflat : List OpE → List Value
  | [] => []
  | e :: r => e.cells ++ oflat r
theorem oflat_length : ∀ l : List OpE, (oflat l).length = l.length * 5
  | [] => rfl
  | e :: r => by rw [oflat, List.length_append, oflat_length r, List.length_cons]; simp [OpE.cells]; omega
theorem oflat_append : ∀ l m : List OpE, oflat (l ++ m) = oflat l ++ oflat m
  | [], m => rfl
  | e :: r, m => by rw [List.cons_append, oflat, oflat, oflat_append r m, List.append_assoc]
theorem oflat_one (l : List OpE) : ∀ u ∈ oflat l, u.oneCell' = true := by
  induction l with
  | nil => intro u h; cases h
  | cons e r ih =>
    intro u h
    rw [oflat] at h
    rcases List.mem_append.1 h with h | h
    · simp only [OpE.cells, List.mem_cons, List.not_mem_nil, or_false] at h
      rcases h with rfl | rfl | rfl | rfl | rfl <;> rfl
    · exact ih u h
def Pk.key (p : Pk) : Int × Int × ByteArray := (p.frm, p.to, p.s)
def OpE.key (p : OpE) : Int × Int × ByteArray := (p.frm, p.to, p.s)
/-- An own slice as a slice. -/
theorem at_form {w : World} {B : Nat} {e : TypeId} {size : Nat} {v : Value} {n : Nat} {xs : List Value} (h : OwnsAt w B e size v n xs) : ∃ oa cap, v = .slice oa n cap ∧ n ≤ cap ∧ cap ≤ maxLen := by
  rcases h.2 with ⟨rfl, h0⟩ | ⟨g, o, cap, cur, rfl, hb, hg, hnc, hcm, hcs, ht⟩
  · exact ⟨none, 0, by rw [h0], by omega, Nat.zero_le _⟩
  · exact ⟨some ⟨g, o, none⟩, cap, rfl, hnc, hcm⟩

/-- A bag, while another one is at work. -/
theorem BagAt.other {w w' : World} {B b c : Nat} {vb vc : Value} {rb nb lb rc nc lc : Int} {L Lc : List Pk} (hB : BagAt w B b vb rb nb lb L) (hC : BagAt w B c vc rc nc lc Lc) (hk : Keep (mine c vc) w w') (hbc : b ≠ c)
    (hdis : ∀ g, vb.ownBlock = some g → vc.ownBlock ≠ some g) : BagAt w' B b vb rb nb lb L :=
  hB.keep hk (fun hm => hm.elim hbc fun h => own_ne hC.2.2.1 hB.2.1 (by decide) h) (fun g hg hm => hm.elim (fun h => own_ne hB.2.2.1 hC.2.1 (by decide) (by rw [hg, h])) fun h => hdis g hg h) hC.apart
/-- Another slice lies in no block that is the bag's to turn. -/
theorem OwnsAt.apart {w : World} {B c n size : Nat} {e : TypeId} {v vc : Value} {xs : List Value} {rc nc lc : Int} {Lc : List Pk} (h : OwnsAt w B e size v n xs) (hC : BagAt w B c vc rc nc lc Lc) (h1 : e ≠ 60) (h2 : e ≠ 39) : ∀ g, v.ownBlock = some g → ¬ mine c vc g := fun g hg hm => by
  rcases hm with rfl | hm
  · exact h.ne hC.2.1 h1 hg
  · rcases hC.2.2.1.2 with ⟨rfl, _⟩ | ⟨g', cap, cur, rfl, _, hh, _⟩
    · cases hm
    · simp only [Value.ownBlock, Option.some.injEq] at hm
      subst hm
      exact h.ne hh h2 hg
/-- Two bags and a slice of steps, apart. -/
def Trio (w : World) (B b c : Nat) (vb vc vw : Value) (room num lost numc lostc : Int) (L Lc : List Pk) (W : List OpE) : Prop :=
  BagAt w B b vb room num lost L ∧ BagAt w B c vc room numc lostc Lc ∧ OwnsAt w B 32 5 vw W.length (oflat W) ∧ (∀ g, vb.ownBlock = some g → vc.ownBlock ≠ some g) ∧ b ≠ c
theorem Trio.below {w w' : World} {B b c : Nat} {vb vc vw : Value} {room num lost numc lostc : Int} {L Lc : List Pk} {W : List OpE} (h : Trio w B b c vb vc vw room num lost numc lostc L Lc W) (hb : Below w.heap.size w w') : Trio w' B b c vb vc vw room num lost numc lostc L Lc W :=
  ⟨h.1.below hb, h.2.1.below hb, h.2.2.1.below hb, h.2.2.2⟩
theorem Trio.stepB {w w' : World} {B b c : Nat} {vb vb' vc vw : Value} {room num lost numc lostc num' lost' : Int} {L L' Lc : List Pk} {W : List OpE} (h : Trio w B b c vb vc vw room num lost numc lostc L Lc W) (hB : BagAt w' B b vb' room num' lost' L') (hk : Keep (mine b vb) w w')
    (hat : vb'.ownBlock = vb.ownBlock ∨ ∀ g, vb'.ownBlock = some g → w.heap.size ≤ g) : Trio w' B b c vb' vc vw room num' lost' numc lostc L' Lc W :=
  ⟨hB, h.2.1.other h.1 hk h.2.2.2.2.symm (fun g hg hb => h.2.2.2.1 g hb hg), h.2.2.1.keep hk (h.2.2.1.apart h.1 (by decide) (by decide)), fun g hg hc => by
    rcases hat with e | hat
    · rw [e] at hg
      exact h.2.2.2.1 g hg hc
    · have := (h.2.1.2.2.1.lt g hc).2
      have := hat g hg
      omega, h.2.2.2.2⟩
theorem Trio.stepC {w w' : World} {B b c : Nat} {vb vc vc' vw : Value} {room num lost numc lostc num' lost' : Int} {L Lc Lc' : List Pk} {W : List OpE} (h : Trio w B b c vb vc vw room num lost numc lostc L Lc W) (hC : BagAt w' B c vc' room num' lost' Lc') (hk : Keep (mine c vc) w w')
    (hat : vc'.ownBlock = vc.ownBlock ∨ ∀ g, vc'.ownBlock = some g → w.heap.size ≤ g) : Trio w' B b c vb vc' vw room num lost num' lost' L Lc' W :=
  ⟨h.1.other h.2.1 hk h.2.2.2.2 h.2.2.2.1, hC, h.2.2.1.keep hk (h.2.2.1.apart h.2.1 (by decide) (by decide)), fun g hg hc => by
    rcases hat with e | hat
    · rw [e] at hc
      exact h.2.2.2.1 g hg hc
    · have := (h.1.2.2.1.lt g hg).2
      have := hat g hc
      omega, h.2.2.2.2⟩
/-- A block of another kind is not the bag's to turn. -/
theorem BagAt.not_of {w : World} {B b : Nat} {vs : Value} {room num lost : Int} {L : List Pk} (h : BagAt w B b vs room num lost L) {g : Nat} {cs : Array Value} {t : TypeId} {fr : Nat × Nat} (hg : w.heap[g]? = some (.cells cs t fr)) (h1 : t ≠ 60) (h2 : 39 ≠ t) : ¬ mine b vs g := fun hm => by
  rcases hm with rfl | hm
  · rw [h.2.1] at hg
    simp only [Option.some.injEq, Obj.cells.injEq] at hg
    exact h1 hg.2.1.symm
  · exact own_ne h.2.2.1 hg h2 hm
theorem Trio.stepW {w w' : World} {B b c : Nat} {vb vc vw vw' : Value} {room num lost numc lostc : Int} {L Lc : List Pk} {W W' : List OpE} (h : Trio w B b c vb vc vw room num lost numc lostc L Lc W) (hW : OwnsAt w' B 32 5 vw' W'.length (oflat W')) (hg : w.grownBy w' vw.ownBlock) : Trio w' B b c vb vc vw' room num lost numc lostc L Lc W' := by
  have K := Keep.grown hg
  have hu : ∀ g cs, w.heap[g]? = some (.cells cs 5 (0, 0)) → ¬ vw.ownBlock = some g := fun g cs hg => h.2.2.1.ne hg (by decide)
  exact ⟨h.1.keep K (fun e => h.2.2.1.apart h.1 (by decide) (by decide) b e (Or.inl rfl)) (fun g hg e => h.2.2.1.apart h.1 (by decide) (by decide) g e (Or.inr hg)) hu,
    h.2.1.keep K (fun e => h.2.2.1.apart h.2.1 (by decide) (by decide) c e (Or.inl rfl)) (fun g hg e => h.2.2.1.apart h.2.1 (by decide) (by decide) g e (Or.inr hg)) hu, hW, h.2.2.2⟩
theorem op_news {w : World} {g : Nat} {e : OpE} (h : w.heap[g]? = some (.cells #[.int .i64 e.kind, .int .i64 e.frm, .int .i64 e.to, .int .i64 e.i, .slice e.ad e.s.size e.cap] 32 (0, 0))) :
    ∀ j u, (oflat [e])[j]? = some u → w.cell? ((⟨g, 0, none⟩ : Addr).add j) = some u := fun j u hj => by
  rw [add_none, blk_cell h, Nat.zero_add]
  have e2 : oflat [e] = [.int .i64 e.kind, .int .i64 e.frm, .int .i64 e.to, .int .i64 e.i, .slice e.ad e.s.size e.cap] := rfl
  rw [e2] at hj
  rw [← hj]
  simp

theorem fresh_all {w : World} {v : Value} {v0 : Option Nat} (h : v.ownBlock = v0 ∨ ∃ g, v.ownBlock = some g ∧ w.heap.size ≤ g) : v.ownBlock = v0 ∨ ∀ g, v.ownBlock = some g → w.heap.size ≤ g :=
  h.imp id fun ⟨g, e, hg⟩ g' e' => by
    rw [e] at e'
    have : g = g' := Option.some.inj e'
    omega

/-- What the loop keeps: bag b holds what way tells, bag c nothing. -/
def QRel (w wr : World) (B b c : Nat) (room : Int) (m : Nat) (vb vc vw : Value) (num lost numc lostc : Int) (L : List Pk) (W : List OpE) : Prop :=
  Trio wr B b c vb vc vw room num lost numc lostc L [] W ∧ L.map Pk.key = W.map OpE.key ∧ (∀ p ∈ L, p.Ok) ∧ (∀ o ∈ W, o.Ok w) ∧
    (L.length : Int) ≤ room ∧ (0 ≤ num ∧ num ≤ m) ∧ (0 ≤ lost ∧ lost ≤ m) ∧ (0 ≤ numc ∧ numc ≤ m) ∧ (0 ≤ lostc ∧ lostc ≤ m) ∧ W.length ≤ m

theorem oflat_get0 (W : List OpE) (h : 0 < W.length) (r : Nat) (hr : r < 5) : (oflat W)[r]? = (W[0].cells)[r]? := by
  match W, h with
  | e :: W', _ =>
    rw [oflat, List.getElem?_append_left (by simp [OpE.cells]; omega)]
    rfl
theorem oflat_drop1 (W : List OpE) : oflat (W.drop 1) = (oflat W).drop 5 := by
  cases W with
  | nil => rfl
  | cons e W =>
    have hl : e.cells.length = 5 := rfl
    rw [oflat, ← hl, List.drop_left]
    rfl
/-- The slice without its first. -/
theorem OwnsAt.tail {w : World} {B g o n cap : Nat} {W : List OpE} (h : OwnsAt w B 32 5 (.slice (some ⟨g, o, none⟩) n cap) n (oflat W)) (hn : 0 < n) : OwnsAt w B 32 5 (.slice (some ⟨g, o + 5, none⟩) (n - 1) (cap - 1)) (n - 1) (oflat (W.drop 1)) := by
  have hl := h.1
  rw [oflat_length] at hl
  rcases h.2 with ⟨h0, _⟩ | ⟨g', o', c', cur, hv, hb, hg, hnc, hcm, hcs, ht⟩
  · cases h0
  · simp only [Value.slice.injEq, Option.some.injEq, Addr.mk.injEq, and_true, true_and] at hv
    obtain ⟨⟨rfl, rfl⟩, rfl⟩ := hv
    refine ⟨by rw [oflat_length, List.length_drop]; omega, .inr ⟨g, o + 5, cap - 1, cur, rfl, hb, hg, by omega, by omega, by omega, ?_⟩⟩
    rw [oflat_drop1, ← ht, List.drop_take, List.drop_drop]
    congr 1
    omega
theorem OwnsAt.tail0 {w : World} {B g o : Nat} {W : List OpE} (h : OwnsAt w B 32 5 (.slice (some ⟨g, o, none⟩) 1 1) 1 (oflat W)) : OwnsAt w B 32 5 (.slice (some ⟨g, o, none⟩) 0 0) 0 (oflat (W.drop 1)) := by
  have hl := h.1
  rw [oflat_length] at hl
  have e0 : oflat (W.drop 1) = [] := List.eq_nil_of_length_eq_zero (by rw [oflat_length, List.length_drop]; omega)
  rw [e0]
  rcases h.2 with ⟨h0, _⟩ | ⟨g', o', c', cur, hv, hb, hg, hnc, hcm, hcs, ht⟩
  · cases h0
  · simp only [Value.slice.injEq, Option.some.injEq, Addr.mk.injEq, and_true, true_and] at hv
    obtain ⟨⟨rfl, rfl⟩, rfl⟩ := hv
    exact ⟨rfl, .inr ⟨g, o, 0, cur, rfl, hb, hg, Nat.le_refl _, Nat.zero_le _, by omega, by simp⟩⟩

theorem badWay_comm {f t : Int} (h : badWay f t) : badWay t f := by unfold badWay at *; omega

set_option maxRecDepth 100000 in
set_option maxHeartbeats 16000000 in
theorem queue_walk (room0 : Int) (hr0 : -9223372036854775808 ≤ room0 ∧ room0 ≤ 9223372036854775807) (oa : Option Addr) (ca : Nat) (l : List OpE) (w : World) (hl : l.length * 56 ≤ 140737488351232) (hO : OpsAt w oa l) :
    Calls Try.prog 5 #[.int .i64 room0, .slice oa l.length ca] w fun e w' => e = .returned (.bool true) ∧ Below w.heap.size w w' := by
  have HO : Hid (OpsAt w oa l) := hO
  clear hO
  obtain ⟨i0, hi, hz0, hz1, hz2⟩ := info_parts info_op
  have HI : Hid (_ ∧ _ ∧ _ ∧ _) := ⟨hi, hz0, hz1, hz2⟩
  clear hi hz0 hz1 hz2
  go_enter Try.func5, Try.ntmps5
  go_wp2_with fail
  refine (shown_any w).mono ?_
  rintro e w1 ⟨rfl, hb1⟩
  have hz1 := hb1.size
  go_wp2_with fail
  refine (among_any room0 512 hr0 (by omega) (by omega) w1).mono ?_
  rintro e w1' ⟨rfl, rfl⟩
  have hm1 : 0 ≤ room0 % 512 := Int.emod_nonneg _ (by omega)
  have hm2 : room0 % 512 < 512 := Int.emod_lt_of_pos _ (by omega)
  obtain ⟨room, hroom⟩ : ∃ r, r = 1 + room0 % 512 := ⟨_, rfl⟩
  have HR : Hid (1 + room0 % 512 = room) := hroom.symm
  have hr1 : 1 ≤ room := by omega
  have hr2 : room ≤ 512 := by omega
  generalize hq : room0 % 512 = q at *
  go_wp2_with fail
  have hq1 : q ≤ 511 := by omega
  rw [HR.out]
  refine (new_ok room w.heap.size w1' ⟨hr1, hr2⟩ hz1).mono ?_
  rintro e w2 ⟨b, rfl, hbw, hB2, hb2⟩
  have hb2w := below_back hb1 hz1 hb2
  have hz2 := hb2w.size
  clear HR hm1 hm2 hq1 hroom hq
  go_wp2_with fail
  refine (new_ok room w.heap.size w2 ⟨hr1, hr2⟩ hz2).mono ?_
  rintro e w3 ⟨c, rfl, hcw, hC3, hb3⟩
  have hb3w := below_back hb2w hz2 hb3
  have hbc : b ≠ c := by have := blk_lt hB2.2.1; omega
  have HQ : Hid (QRel w w3 w.heap.size b c room 0 (.slice none 0 0) (.slice none 0 0) (.slice none 0 0) 0 0 0 0 [] []) :=
    ⟨⟨hB2.below hb3, hC3, OwnsAt.nil _ _ _ _, (fun g hg => by cases hg), hbc⟩, rfl, (fun p hp => by cases hp), (fun p hp => by cases hp), by simp; omega, by omega, by omega, by omega, by omega, by simp⟩
  clear hB2 hC3 hbw hcw hb1 hb2 hb3 hb2w hz1 hz2 hbc
  go_wp2_with fail
  go_loopw [9, 47] (fun vw iv wr => ∃ (i : Nat) (vb vc : Value) (num lost numc lostc : Int) (L : List Pk) (W : List OpE), i ≤ l.length ∧ iv = .int .i64 i ∧ Hid (QRel w wr w.heap.size b c room i vb vc vw num lost numc lostc L W) ∧ Below w.heap.size w wr) (fun _ iv _ => l.length - (intOf iv).toNat)
  case atStart => exact ⟨0, .slice none 0 0, .slice none 0 0, 0, 0, 0, 0, [], [], Nat.zero_le _, rfl, HQ.out, hb3w⟩
  case round =>
    clear HQ hb3w
    obtain ⟨i, vb, vc, num, lost, numc, lostc, L, W, hi, rfl, HQ, hbr⟩ := hrel
    have hzr := hbr.size
    by_cases h1 : i < l.length
    · obtain ⟨hokl, ab, ao, rfl, hab, y0, y1, y2, y3, y4⟩ := HO.out i h1
      obtain ⟨⟨kind, frm, to, ii, ad, cap, st⟩, hee⟩ : ∃ e, e = l[i] := ⟨_, rfl⟩
      rw [← hee] at hokl y0 y1 y2 y3 y4
      simp only at y0 y1 y2 y3 y4
      replace y0 := (hbr.cell (p := ⟨ab, ao + i * 5, none⟩) hab).trans y0
      replace y1 := (hbr.cell (p := ⟨ab, ao + i * 5 + 1, none⟩) hab).trans y1
      replace y2 := (hbr.cell (p := ⟨ab, ao + i * 5 + 2, none⟩) hab).trans y2
      replace y3 := (hbr.cell (p := ⟨ab, ao + i * 5 + 3, none⟩) hab).trans y3
      replace y4 := (hbr.cell (p := ⟨ab, ao + i * 5 + 4, none⟩) hab).trans y4
      have HE : Hid (l[i] = ⟨kind, frm, to, ii, ad, cap, st⟩) := hee.symm
      have HK : Hid (OpE.Ok w ⟨kind, frm, to, ii, ad, cap, st⟩) := hokl
      have hkr := (show Inr .i64 kind from hokl.1).i64
      obtain ⟨ow, cw, rfl, hcw1, hcw2⟩ := at_form HQ.out.1.2.2.1
      clear hee hokl
      go_wp2_with fail
      refine (among_any kind 3 hkr (by omega) (by omega) _).mono ?_
      rintro e wx ⟨he, hwx⟩
      clear y0 y1 y2 y3 y4
      have gk : (wr.alloc (.cells #[.int .i64 kind, .int .i64 frm, .int .i64 to, .int .i64 ii, .slice ad st.size cap] 32 (0, 0))).heap[wr.heap.size]? = some (.cells #[.int .i64 kind, .int .i64 frm, .int .i64 to, .int .i64 ii, .slice ad st.size cap] 32 (0, 0)) := by (repeat (first | (with_reducible assumption) | (with_reducible exact Below.refl _ _) | (with_reducible refine heap_drew ?_) | (focus ((with_reducible refine heap_new ?_) ; simp ; done)) | (with_reducible apply heap_set_to) | (focus ((with_reducible refine heap_set_ne ?_ ?_ _) ; rotate_left ; (focus (first | omega | (simp ; done) | (simp ; omega))))) | (with_reducible refine heap_old ?_) | (with_reducible refine Below.drew ?_) | (with_reducible refine below_set ?_ _ _) | (focus ((with_reducible refine Below.setCell ?_ ?_ _) ; rotate_left ; (focus (first | omega | (simp ; done) | (simp ; omega))))) | (focus ((with_reducible refine Below.alloc ?_ ?_ _) ; rotate_left ; (focus (first | omega | (simp ; done) | (simp ; omega))))) | (with_reducible rfl) | (focus (simp ; done))))
      have hba := hbr.alloc hzr (.cells #[.int .i64 kind, .int .i64 frm, .int .i64 to, .int .i64 ii, .slice ad st.size cap] 32 (0, 0))
      have hT := HQ.out.1.below (below_alloc_self wr (.cells #[.int .i64 kind, .int .i64 frm, .int .i64 to, .int .i64 ii, .slice ad st.size cap] 32 (0, 0)))
      obtain ⟨kb, hkb⟩ : ∃ g, g = wr.heap.size := ⟨_, rfl⟩
      rw [← hkb] at gk ⊢
      clear hkb
      generalize hwa : wr.alloc (.cells #[.int .i64 kind, .int .i64 frm, .int .i64 to, .int .i64 ii, .slice ad st.size cap] 32 (0, 0)) = wa at *
      subst he
      subst hwx
      have HT : Hid (Trio wx w.heap.size b c vb vc (.slice ow W.length cw) room num lost numc lostc L [] W) := hT
      clear hwa hT
      have qa := blk5 gk
      have hza := hba.size
      by_cases hk0 : kind % 3 = 0
      · by_cases hW0 : 0 < W.length
        · have hLW : L.length = W.length := by simpa using congrArg List.length HQ.out.2.1
          have hL0 : 0 < L.length := by omega
          have hL5 : L.length ≤ 512 := by have := HQ.out.2.2.2.2.1; omega
          have hkey : L[0].key = W[0].key := by
            have h := congrArg (fun x => x[0]?) HQ.out.2.1
            simp only [List.getElem?_map, List.getElem?_eq_getElem hL0, List.getElem?_eq_getElem hW0, Option.map_some, Option.some.injEq] at h
            exact h
          have hkf : W[0].frm = L[0].frm := (congrArg Prod.fst hkey).symm
          have hkt : W[0].to = L[0].to := (congrArg (fun x => x.2.1) hkey).symm
          have hks : W[0].s = L[0].s := (congrArg (fun x => x.2.2) hkey).symm
          obtain ⟨gw, ofw, rfl, hcw⟩ := HT.out.2.2.1.cell hW0
          have hgw := (HT.out.2.2.1.lt gw rfl).2
          have z1 := (hcw 1 (by omega)).trans (oflat_get0 W hW0 1 (by omega))
          have z2 := (hcw 2 (by omega)).trans (oflat_get0 W hW0 2 (by omega))
          have z4 := (hcw 4 (by omega)).trans (oflat_get0 W hW0 4 (by omega))
          replace z1 : wx.cell? ⟨gw, ofw + 1, none⟩ = some (.int .i64 L[0].frm) := by rw [z1, ← hkf]; rfl
          replace z2 : wx.cell? ⟨gw, ofw + 2, none⟩ = some (.int .i64 L[0].to) := by rw [z2, ← hkt]; rfl
          replace z4 : wx.cell? ⟨gw, ofw + 4, none⟩ = some (.slice W[0].ad L[0].s.size W[0].cap) := by rw [z4, ← hks]; rfl
          have hRW : Reads w W[0].ad L[0].s := by rw [← hks]; exact (HQ.out.2.2.2.1 _ (List.getElem_mem hW0)).2.2.2.2.1
          have HZ : Hid (wx.cell? ⟨gw, ofw + 1, none⟩ = some (.int .i64 L[0].frm) ∧ wx.cell? ⟨gw, ofw + 2, none⟩ = some (.int .i64 L[0].to) ∧ wx.cell? ⟨gw, ofw + 4, none⟩ = some (.slice W[0].ad L[0].s.size W[0].cap)) := ⟨z1, z2, z4⟩
          have HRW : Hid (Reads w W[0].ad L[0].s) := hRW
          have HLW : Hid (L.length = W.length) := hLW
          clear hkey hkf hkt hks hcw z1 z2 z4 hRW hLW
          go_wp2_with fail
          refine (take_ok w.heap.size b vb room num lost L 0 hL0 wx HT.out.1 hza hL5 HQ.out.2.2.1).mono ?_
          rintro e w5 ⟨vb', adp, capp, rfl, hB5, hK5, hnp, hdp, hfr⟩
          have hT5 := HT.out.stepB hB5 hK5 (Or.inr hfr)
          have hb5 := hba.trans (hK5.below hza HT.out.1.mine_ge)
          have hz5 := hb5.size
          have T5 : Hid (Trio w5 w.heap.size b c vb' vc (.slice (some ⟨gw, ofw, none⟩) W.length cw) room num lost numc lostc (L.drop 1) [] W) := hT5
          have hnm := HT.out.2.2.1.apart HT.out.1 (by decide) (by decide) gw rfl
          have hcell : ∀ j, w5.cell? ⟨gw, j, none⟩ = wx.cell? ⟨gw, j, none⟩ := fun j => World.cell?_of_block (a := ⟨gw, j, none⟩) (hK5.block gw hgw hnm)
          have HZ5 : Hid (w5.cell? ⟨gw, ofw + 1, none⟩ = some (.int .i64 L[0].frm) ∧ w5.cell? ⟨gw, ofw + 2, none⟩ = some (.int .i64 L[0].to) ∧ w5.cell? ⟨gw, ofw + 4, none⟩ = some (.slice W[0].ad L[0].s.size W[0].cap)) := by
            unfold Hid
            rw [hcell, hcell, hcell]
            exact HZ.out
          have HDP : Hid (Reads w5 adp L[0].s) := hdp.reads
          have hgw5 : gw < w5.heap.size := Nat.lt_of_lt_of_le hgw hK5.size
          clear hB5 hK5 hnp hdp hfr hT5 hnm hcell HZ qa gk
          go_wp2_with fail
          have gp : (w5.alloc (.cells #[.int .i64 L[0].num, .int .i64 L[0].frm, .int .i64 L[0].to, .slice adp L[0].s.size capp] 39 (0, 0))).heap[w5.heap.size]? = some (.cells #[.int .i64 L[0].num, .int .i64 L[0].frm, .int .i64 L[0].to, .slice adp L[0].s.size capp] 39 (0, 0)) := by (repeat (first | (with_reducible assumption) | (with_reducible exact Below.refl _ _) | (with_reducible refine heap_drew ?_) | (focus ((with_reducible refine heap_new ?_) ; simp ; done)) | (with_reducible apply heap_set_to) | (focus ((with_reducible refine heap_set_ne ?_ ?_ _) ; rotate_left ; (focus (first | omega | (simp ; done) | (simp ; omega))))) | (with_reducible refine heap_old ?_) | (with_reducible refine Below.drew ?_) | (with_reducible refine below_set ?_ _ _) | (focus ((with_reducible refine Below.setCell ?_ ?_ _) ; rotate_left ; (focus (first | omega | (simp ; done) | (simp ; omega))))) | (focus ((with_reducible refine Below.alloc ?_ ?_ _) ; rotate_left ; (focus (first | omega | (simp ; done) | (simp ; omega))))) | (with_reducible rfl) | (focus (simp ; done))))
          have hb5a := hb5.alloc hz5 (.cells #[.int .i64 L[0].num, .int .i64 L[0].frm, .int .i64 L[0].to, .slice adp L[0].s.size capp] 39 (0, 0))
          have hT5a := T5.out.below (below_alloc_self w5 (.cells #[.int .i64 L[0].num, .int .i64 L[0].frm, .int .i64 L[0].to, .slice adp L[0].s.size capp] 39 (0, 0)))
          have HZa : Hid ((w5.alloc (.cells #[.int .i64 L[0].num, .int .i64 L[0].frm, .int .i64 L[0].to, .slice adp L[0].s.size capp] 39 (0, 0))).cell? ⟨gw, ofw + 1, none⟩ = some (.int .i64 L[0].frm) ∧ (w5.alloc (.cells #[.int .i64 L[0].num, .int .i64 L[0].frm, .int .i64 L[0].to, .slice adp L[0].s.size capp] 39 (0, 0))).cell? ⟨gw, ofw + 2, none⟩ = some (.int .i64 L[0].to) ∧ (w5.alloc (.cells #[.int .i64 L[0].num, .int .i64 L[0].frm, .int .i64 L[0].to, .slice adp L[0].s.size capp] 39 (0, 0))).cell? ⟨gw, ofw + 4, none⟩ = some (.slice W[0].ad L[0].s.size W[0].cap)) := by
            have hbl := below_alloc_self w5 (.cells #[.int .i64 L[0].num, .int .i64 L[0].frm, .int .i64 L[0].to, .slice adp L[0].s.size capp] 39 (0, 0))
            exact ⟨(hbl.cell (p := ⟨gw, ofw + 1, none⟩) hgw5).trans HZ5.out.1, (hbl.cell (p := ⟨gw, ofw + 2, none⟩) hgw5).trans HZ5.out.2.1, (hbl.cell (p := ⟨gw, ofw + 4, none⟩) hgw5).trans HZ5.out.2.2⟩
          have HDa : Hid (Reads (w5.alloc (.cells #[.int .i64 L[0].num, .int .i64 L[0].frm, .int .i64 L[0].to, .slice adp L[0].s.size capp] 39 (0, 0))) adp L[0].s) := HDP.out.below (below_alloc_self w5 (.cells #[.int .i64 L[0].num, .int .i64 L[0].frm, .int .i64 L[0].to, .slice adp L[0].s.size capp] 39 (0, 0)))
          obtain ⟨kp, hkp⟩ : ∃ g, g = w5.heap.size := ⟨_, rfl⟩
          rw [← hkp] at gp ⊢
          have hgka : gw < (w5.alloc (.cells #[.int .i64 L[0].num, .int .i64 L[0].frm, .int .i64 L[0].to, .slice adp L[0].s.size capp] 39 (0, 0))).heap.size := by simp; omega
          clear hkp
          generalize hwa : w5.alloc (.cells #[.int .i64 L[0].num, .int .i64 L[0].frm, .int .i64 L[0].to, .slice adp L[0].s.size capp] 39 (0, 0)) = wa at *
          have T5a : Hid (Trio wa w.heap.size b c vb' vc (.slice (some ⟨gw, ofw, none⟩) W.length cw) room num lost numc lostc (L.drop 1) [] W) := hT5a
          clear hwa hT5a T5 HZ5 HDP hgw5
          have HC : Hid (∀ w', Below wa.heap.size wa w' → w'.cell? ⟨gw, ofw + 1, none⟩ = some (.int .i64 L[0].frm) ∧ w'.cell? ⟨gw, ofw + 2, none⟩ = some (.int .i64 L[0].to) ∧ w'.cell? ⟨gw, ofw + 4, none⟩ = some (.slice W[0].ad L[0].s.size W[0].cap)) := fun w' hc =>
            ⟨(hc.cell (p := ⟨gw, ofw + 1, none⟩) hgka).trans HZa.out.1, (hc.cell (p := ⟨gw, ofw + 2, none⟩) hgka).trans HZa.out.2.1, (hc.cell (p := ⟨gw, ofw + 4, none⟩) hgka).trans HZa.out.2.2⟩
          have HV : Hid (∀ w', Below wa.heap.size wa w' → (convert 30 9 (.slice adp L[0].s.size capp)).run Try.prog w' = .ok (.string L[0].s) w' ∧ (convert 30 9 (.slice W[0].ad L[0].s.size W[0].cap)).run Try.prog w' = .ok (.string L[0].s) w') := fun w' hc =>
            ⟨conv_reads (HDa.out.below hc), conv_reads (HRW.out.below (below_back hb5a hb5a.size hc))⟩
          have hSt : Stable (fun w6 : World => (Below wa.heap.size wa w6)) := by repeat (first | exact stable_ext _ | exact stable_blk _ _ | exact stable_true | (refine stable_bel ?_ ; (focus (first | (simp [World.size_setCell] ; done) | (simp [World.setCell] ; done)))) | refine Stable.and ?_ ?_)
          refine wp_region_x [0, 1, 2, 3, 4, 5, 6, 7, 8, 9, 10, 11, 12, 13, 14, 15, 16, 17, 18, 19, 20, 21, 22, 23, 24, 25, 26, 27, 28, 29, 30] [0, 0, 0, 0, 1, 0, 0, 0, 1, 0, 0, 0, 0, 1, 0, 0, 0, 1, 0, 0, 0, 0, 1, 1, 0, 0, 0, 1, 1, 0, 0] (fun w6 => (Below wa.heap.size wa w6)) (by kernel_rfl) (by kernel_rfl) ?_ ?_
          · (first | trivial | (repeat (first | (with_reducible assumption) | (with_reducible exact Below.refl _ _) | (with_reducible refine heap_drew ?_) | (focus ((with_reducible refine heap_new ?_) ; simp ; done)) | (with_reducible apply heap_set_to) | (focus ((with_reducible refine heap_set_ne ?_ ?_ _) ; rotate_left ; (focus (first | omega | (simp ; done) | (simp ; omega))))) | (with_reducible refine heap_old ?_) | (with_reducible refine Below.drew ?_) | (with_reducible refine below_set ?_ _ _) | (focus ((with_reducible refine Below.setCell ?_ ?_ _) ; rotate_left ; (focus (first | omega | (simp ; done) | (simp ; omega))))) | (focus ((with_reducible refine Below.alloc ?_ ?_ _) ; rotate_left ; (focus (first | omega | (simp ; done) | (simp ; omega))))) | (with_reducible rfl) | (focus (simp ; done)))))
          simp only [List.map_cons, List.map_nil, List.getD_cons_zero, List.getD_cons_succ]
          (refine x_pure rfl _ ?_ rfl (by simp) ?_ ?_ ; rotate_left ; · (intro w6 K hK ; go_wp2_with fail ; exact rfl))
          simp only [Act.put, List.setIfInBounds_toArray, List.set_cons_succ, List.set_cons_zero]
          (refine x_pure rfl _ ?_ rfl (by simp) ?_ ?_ ; rotate_left ; · (intro w6 K hK ; go_wp2_with fail ; exact rfl))
          simp only [Act.put, List.setIfInBounds_toArray, List.set_cons_succ, List.set_cons_zero]
          (refine x_pure rfl _ ?_ rfl (by simp) ?_ ?_ ; rotate_left ; · (intro w6 K hK ; go_wp2_with fail ; exact rfl))
          simp only [Act.put, List.setIfInBounds_toArray, List.set_cons_succ, List.set_cons_zero]
          first | (refine x_skip rfl ?_) | (refine x_pure rfl _ ?_ rfl (by simp) ?_ ?_ ; rotate_left ; · (intro w6 K hK ; go_wp2_with fail ; exact rfl))
          simp only [Act.put, List.setIfInBounds_toArray, List.set_cons_succ, List.set_cons_zero]
          first | (refine x_skip rfl ?_) | (refine x_quiet rfl hSt (fun _ h => h) _ ?_ rfl (by simp) ?_ ?_ ; rotate_left ; · (intro w6 hC K hK ; have hc := hC ; have qp := blk4 (blk_below gp hc) ; have qw := HC.out _ hc ; have qv := HV.out _ hc ; go_wp2_with fail ; refine ⟨?_, Below.refl _ _⟩ ; exact rfl))
          simp only [Act.put, List.setIfInBounds_toArray, List.set_cons_succ, List.set_cons_zero]
          first | (refine x_skip rfl ?_) | (refine x_pure rfl _ ?_ rfl (by simp) ?_ ?_ ; rotate_left ; · (intro w6 K hK ; go_wp2_with fail ; exact rfl))
          simp only [Act.put, List.setIfInBounds_toArray, List.set_cons_succ, List.set_cons_zero]
          first | (refine x_skip rfl ?_) | (refine x_pure rfl _ ?_ rfl (by simp) ?_ ?_ ; rotate_left ; · (intro w6 K hK ; go_wp2_with fail ; exact rfl))
          simp only [Act.put, List.setIfInBounds_toArray, List.set_cons_succ, List.set_cons_zero]
          first | (refine x_skip rfl ?_) | (refine x_pure rfl _ ?_ rfl (by simp) ?_ ?_ ; rotate_left ; · (intro w6 K hK ; go_wp2_with fail ; exact rfl))
          simp only [Act.put, List.setIfInBounds_toArray, List.set_cons_succ, List.set_cons_zero]
          first | (refine x_skip rfl ?_) | (refine x_quiet rfl hSt (fun _ h => h) _ ?_ rfl (by simp) ?_ ?_ ; rotate_left ; · (intro w6 hC K hK ; have hc := hC ; have qp := blk4 (blk_below gp hc) ; have qw := HC.out _ hc ; have qv := HV.out _ hc ; go_wp2_with fail ; refine ⟨?_, Below.refl _ _⟩ ; exact rfl))
          simp only [Act.put, List.setIfInBounds_toArray, List.set_cons_succ, List.set_cons_zero]
          first | (refine x_skip rfl ?_) | (refine x_pure rfl _ ?_ rfl (by simp) ?_ ?_ ; rotate_left ; · (intro w6 K hK ; go_wp2_with fail ; exact rfl))
          simp only [Act.put, List.setIfInBounds_toArray, List.set_cons_succ, List.set_cons_zero]
          (refine x_pure rfl _ ?_ rfl (by simp) ?_ ?_ ; rotate_left ; · (intro w6 K hK ; go_wp2_with fail ; exact rfl))
          simp only [Act.put, List.setIfInBounds_toArray, List.set_cons_succ, List.set_cons_zero]
          (refine x_pure rfl _ ?_ rfl (by simp) ?_ ?_ ; rotate_left ; · (intro w6 K hK ; go_wp2_with fail ; exact rfl))
          simp only [Act.put, List.setIfInBounds_toArray, List.set_cons_succ, List.set_cons_zero]
          first | (refine x_skip rfl ?_) | (refine x_pure rfl _ ?_ rfl (by simp) ?_ ?_ ; rotate_left ; · (intro w6 K hK ; go_wp2_with fail ; exact rfl))
          simp only [Act.put, List.setIfInBounds_toArray, List.set_cons_succ, List.set_cons_zero]
          first | (refine x_skip rfl ?_) | (refine x_quiet rfl hSt (fun _ h => h) _ ?_ rfl (by simp) ?_ ?_ ; rotate_left ; · (intro w6 hC K hK ; have hc := hC ; have qp := blk4 (blk_below gp hc) ; have qw := HC.out _ hc ; have qv := HV.out _ hc ; go_wp2_with fail ; refine ⟨?_, Below.refl _ _⟩ ; exact rfl))
          simp only [Act.put, List.setIfInBounds_toArray, List.set_cons_succ, List.set_cons_zero]
          first | (refine x_skip rfl ?_) | (refine x_pure rfl _ ?_ rfl (by simp) ?_ ?_ ; rotate_left ; · (intro w6 K hK ; go_wp2_with fail ; exact rfl))
          simp only [Act.put, List.setIfInBounds_toArray, List.set_cons_succ, List.set_cons_zero]
          first | (refine x_skip rfl ?_) | (refine x_pure rfl _ ?_ rfl (by simp) ?_ ?_ ; rotate_left ; · (intro w6 K hK ; go_wp2_with fail ; exact rfl))
          simp only [Act.put, List.setIfInBounds_toArray, List.set_cons_succ, List.set_cons_zero]
          first | (refine x_skip rfl ?_) | (refine x_pure rfl _ ?_ rfl (by simp) ?_ ?_ ; rotate_left ; · (intro w6 K hK ; go_wp2_with fail ; exact rfl))
          simp only [Act.put, List.setIfInBounds_toArray, List.set_cons_succ, List.set_cons_zero]
          first | (refine x_skip rfl ?_) | (refine x_quiet rfl hSt (fun _ h => h) _ ?_ rfl (by simp) ?_ ?_ ; rotate_left ; · (intro w6 hC K hK ; have hc := hC ; have qp := blk4 (blk_below gp hc) ; have qw := HC.out _ hc ; have qv := HV.out _ hc ; go_wp2_with fail ; refine ⟨?_, Below.refl _ _⟩ ; exact rfl))
          simp only [Act.put, List.setIfInBounds_toArray, List.set_cons_succ, List.set_cons_zero]
          first | (refine x_skip rfl ?_) | (refine x_pure rfl _ ?_ rfl (by simp) ?_ ?_ ; rotate_left ; · (intro w6 K hK ; go_wp2_with fail ; exact rfl))
          simp only [Act.put, List.setIfInBounds_toArray, List.set_cons_succ, List.set_cons_zero]
          (refine x_pure rfl _ ?_ rfl (by simp) ?_ ?_ ; rotate_left ; · (intro w6 K hK ; go_wp2_with fail ; exact rfl))
          simp only [Act.put, List.setIfInBounds_toArray, List.set_cons_succ, List.set_cons_zero]
          (refine x_pure rfl _ ?_ rfl (by simp) ?_ ?_ ; rotate_left ; · (intro w6 K hK ; go_wp2_with fail ; exact rfl))
          simp only [Act.put, List.setIfInBounds_toArray, List.set_cons_succ, List.set_cons_zero]
          first | (refine x_skip rfl ?_) | (refine x_pure rfl _ ?_ rfl (by simp) ?_ ?_ ; rotate_left ; · (intro w6 K hK ; go_wp2_with fail ; exact rfl))
          simp only [Act.put, List.setIfInBounds_toArray, List.set_cons_succ, List.set_cons_zero]
          first | (refine x_skip rfl ?_) | (refine x_quiet rfl hSt (fun _ h => h) _ ?_ rfl (by simp) ?_ ?_ ; rotate_left ; · (intro w6 hC K hK ; have hc := hC ; have qp := blk4 (blk_below gp hc) ; have qw := HC.out _ hc ; have qv := HV.out _ hc ; go_wp2_with fail ; refine ⟨?_, Below.refl _ _⟩ ; exact rfl))
          simp only [Act.put, List.setIfInBounds_toArray, List.set_cons_succ, List.set_cons_zero]
          first | (refine x_skip rfl ?_) | (refine x_quiet rfl hSt (fun _ h => h) _ ?_ rfl (by simp) ?_ ?_ ; rotate_left ; · (intro w6 hC K hK ; have hc := hC ; have qp := blk4 (blk_below gp hc) ; have qw := HC.out _ hc ; have qv := HV.out _ hc ; go_wp2_with fail ; refine ⟨?_, Below.refl _ _⟩ ; exact rfl))
          simp only [Act.put, List.setIfInBounds_toArray, List.set_cons_succ, List.set_cons_zero]
          first | (refine x_skip rfl ?_) | (refine x_pure rfl _ ?_ rfl (by simp) ?_ ?_ ; rotate_left ; · (intro w6 K hK ; go_wp2_with fail ; exact rfl))
          simp only [Act.put, List.setIfInBounds_toArray, List.set_cons_succ, List.set_cons_zero]
          first | (refine x_skip rfl ?_) | (refine x_pure rfl _ ?_ rfl (by simp) ?_ ?_ ; rotate_left ; · (intro w6 K hK ; go_wp2_with fail ; exact rfl))
          simp only [Act.put, List.setIfInBounds_toArray, List.set_cons_succ, List.set_cons_zero]
          first | (refine x_skip rfl ?_) | (refine x_pure rfl _ ?_ rfl (by simp) ?_ ?_ ; rotate_left ; · (intro w6 K hK ; go_wp2_with fail ; exact rfl))
          simp only [Act.put, List.setIfInBounds_toArray, List.set_cons_succ, List.set_cons_zero]
          first | (refine x_skip rfl ?_) | (refine x_quiet rfl hSt (fun _ h => h) _ ?_ rfl (by simp) ?_ ?_ ; rotate_left ; · (intro w6 hC K hK ; have hc := hC ; have qp := blk4 (blk_below gp hc) ; have qw := HC.out _ hc ; have qv := HV.out _ hc ; go_wp2_with fail ; refine ⟨?_, Below.refl _ _⟩ ; exact rfl))
          simp only [Act.put, List.setIfInBounds_toArray, List.set_cons_succ, List.set_cons_zero]
          first | (refine x_skip rfl ?_) | (refine x_quiet rfl hSt (fun _ h => h) _ ?_ rfl (by simp) ?_ ?_ ; rotate_left ; · (intro w6 hC K hK ; have hc := hC ; have qp := blk4 (blk_below gp hc) ; have qw := HC.out _ hc ; have qv := HV.out _ hc ; go_wp2_with fail ; refine ⟨?_, Below.refl _ _⟩ ; exact rfl))
          simp only [Act.put, List.setIfInBounds_toArray, List.set_cons_succ, List.set_cons_zero]
          first | (refine x_skip rfl ?_) | (refine x_pure rfl _ ?_ rfl (by simp) ?_ ?_ ; rotate_left ; · (intro w6 K hK ; go_wp2_with fail ; exact rfl))
          simp only [Act.put, List.setIfInBounds_toArray, List.set_cons_succ, List.set_cons_zero]
          (refine x_pure rfl _ ?_ rfl (by simp) ?_ ?_ ; rotate_left ; · (intro w6 K hK ; go_wp2_with fail ; exact rfl))
          simp only [Act.put, List.setIfInBounds_toArray, List.set_cons_succ, List.set_cons_zero]
          refine x_nil ?_
          rintro w6 hc
          have T6 : Hid (Trio w6 w.heap.size b c vb' vc (.slice (some ⟨gw, ofw, none⟩) W.length cw) room num lost numc lostc (L.drop 1) [] W) := T5a.out.below hc
          have hb6 := below_back hb5a hb5a.size hc
          clear hc HC HV HZa HDa gp T5a hb5a
          by_cases hcw1 : cw = 1
          · subst hcw1
            have hW1 : W.length = 1 := by omega
            have HT0 : Hid (OwnsAt w6 w.heap.size 32 5 (.slice (some ⟨gw, ofw, none⟩) 0 0) 0 (oflat (W.drop 1))) := OwnsAt.tail0 (by have h := T6.out.2.2.1; rw [hW1] at h; exact h)
            go_wp2_with fail
            go_roundw
            case rel =>
              obtain ⟨_, r2, r3, r4, r5, r6, r7, r8, r9, r10⟩ := HQ.out
              have hdl : (W.drop 1).length = 0 := by rw [List.length_drop]; omega
              refine ⟨i + 1, vb', vc, num, lost, numc, lostc, L.drop 1, W.drop 1, by omega, by go_num, ⟨⟨T6.out.1, T6.out.2.1, ?_, T6.out.2.2.2⟩, ?_, fun p hp => r3 p (List.mem_of_mem_drop hp), fun o ho => r4 o (List.mem_of_mem_drop ho), ?_, by omega, by omega, by omega, by omega, by omega⟩, hb6⟩
              · rw [hdl]
                exact HT0.out
              · rw [List.map_drop, List.map_drop, r2]
              · rw [List.length_drop]; omega
            case measure => simp [intOf]; omega
          · have HT0 : Hid (OwnsAt w6 w.heap.size 32 5 (.slice (some ⟨gw, ofw + 5, none⟩) (W.length - 1) (cw - 1)) (W.length - 1) (oflat (W.drop 1))) := T6.out.2.2.1.tail hW0
            go_wp2_with fail
            go_roundw
            case rel =>
              obtain ⟨_, r2, r3, r4, r5, r6, r7, r8, r9, r10⟩ := HQ.out
              have hdl : (W.drop 1).length = W.length - 1 := List.length_drop
              refine ⟨i + 1, vb', vc, num, lost, numc, lostc, L.drop 1, W.drop 1, by omega, by go_num, ⟨⟨T6.out.1, T6.out.2.1, ?_, T6.out.2.2.2⟩, ?_, fun p hp => r3 p (List.mem_of_mem_drop hp), fun o ho => r4 o (List.mem_of_mem_drop ho), ?_, by omega, by omega, by omega, by omega, by omega⟩, hb6⟩
              · rw [hdl]
                exact HT0.out
              · rw [List.map_drop, List.map_drop, r2]
              · rw [List.length_drop]; omega
            case measure => simp [intOf]; omega
        · by_cases hbad : badWay frm to
          · go_wp2_with fail
            refine (send_bad _ frm to ad cap st.size wx hbad).mono ?_
            rintro e w5 ⟨rfl, rfl⟩
            go_wp2_with fail
            refine (send_bad _ to frm ad cap st.size w5 (badWay_comm hbad)).mono ?_
            rintro e w6 ⟨rfl, rfl⟩
            go_wp2_with fail
            refine (drop_none w.heap.size c vc room numc lostc [] 0 w6 HT.out.2.1 (Or.inr (by simp))).mono ?_
            rintro e w7 ⟨rfl, hb7⟩
            clear qa
            go_wp2_with fail
            go_roundw
            case rel =>
              obtain ⟨_, r2, r3, r4, r5, r6, r7, r8, r9, r10⟩ := HQ.out
              exact ⟨i + 1, vb, vc, num, lost, numc, lostc, L, W, by omega, by go_num, ⟨HT.out.below hb7, r2, r3, r4, r5, by omega, by omega, by omega, by omega, by omega⟩, below_back hba hba.size hb7⟩
            case measure => simp [intOf]; omega
          by_cases hlong : 65536 < st.size
          · go_wp2_with fail
            refine (send_long _ frm to ad cap st.size wx hbad hlong).mono ?_
            rintro e w5 ⟨rfl, rfl⟩
            go_wp2_with fail
            refine (send_long _ to frm ad cap st.size w5 (fun h => hbad (badWay_comm h)) hlong).mono ?_
            rintro e w6 ⟨rfl, rfl⟩
            go_wp2_with fail
            refine (drop_none w.heap.size c vc room numc lostc [] 0 w6 HT.out.2.1 (Or.inr (by simp))).mono ?_
            rintro e w7 ⟨rfl, hb7⟩
            clear qa
            go_wp2_with fail
            go_roundw
            case rel =>
              obtain ⟨_, r2, r3, r4, r5, r6, r7, r8, r9, r10⟩ := HQ.out
              exact ⟨i + 1, vb, vc, num, lost, numc, lostc, L, W, by omega, by go_num, ⟨HT.out.below hb7, r2, r3, r4, r5, by omega, by omega, by omega, by omega, by omega⟩, below_back hba hba.size hb7⟩
            case measure => simp [intOf]; omega
          have hs : st.size ≤ 65536 := by omega
          have HN : Hid (ad = none → st.size = 0 ∧ cap = 0) := HK.out.2.2.2.2.2.1
          have HR : Hid (Reads wx ad st) := HK.out.2.2.2.2.1.below hba
          obtain ⟨_, _, r3, _, r5, r6, r7, r8, r9, r10⟩ := HQ.out
          have hL5 : L.length ≤ 512 := by omega
          have hcb : 0 ≤ numc ∧ numc ≤ 4611686018427387904 := by omega
          have hcl : 0 ≤ lostc ∧ lostc ≤ 4611686018427387904 := by omega
          have hbn : 0 ≤ num ∧ num ≤ 4611686018427387904 := by omega
          have hbl : 0 ≤ lost ∧ lost ≤ 4611686018427387904 := by omega
          have hLW : L.length = W.length := by simpa using congrArg List.length HQ.out.2.1
          have HLW : Hid (L.length = W.length) := hLW
          clear hlong hLW r3
          by_cases hfull : room ≤ (L.length : Int)
          · exact absurd (show 0 < W.length by have := HLW.out; omega) hW0
          · have hroomL : (L.length : Int) < room := by omega
            have hWf : (W.length : Int) < room := by have := HLW.out; omega
            have hnp : 0 < num + 1 := by omega
            go_wp2_with fail
            refine (send_room w.heap.size b vb room num lost L frm to ad cap st wx HT.out.1 HR.out HN.out hza hL5 hbn hbad hs hroomL).mono ?_
            rintro e w5 ⟨vb', adb, capb, rfl, hB5, hK5, hnb, hat5⟩
            have hT5 := HT.out.stepB hB5 hK5 (fresh_all hat5)
            have gk5 := hK5.blk gk (HT.out.1.not_of gk (by decide) (by decide))
            have hb5 := hba.trans (hK5.below hza HT.out.1.mine_ge)
            have hz5 := hb5.size
            have T5 : Hid (Trio w5 w.heap.size b c vb' vc (.slice ow W.length cw) room (num + 1) lost numc lostc (L ++ [⟨num + 1, frm, to, adb, capb, st⟩]) [] W) := hT5
            have HR5 : Hid (Reads w5 ad st) := HK.out.2.2.2.2.1.below hb5
            have HNB : Hid (adb = none → st.size = 0 ∧ capb = 0) := hnb
            clear hB5 hK5 hT5 hnb hat5
            have qa5 := blk5 gk5
            clear qa
            go_wp2_with fail
            refine (send_room w.heap.size c vc room numc lostc [] to frm ad cap st w5 T5.out.2.1 HR5.out HN.out hz5 (by simp) hcb (fun h => hbad (badWay_comm h)) hs (by simp; omega)).mono ?_
            rintro e w6 ⟨vc1, ad1, cap1, rfl, hC6, hK6, hn6, hat6⟩
            have hT6 := T5.out.stepC hC6 hK6 (fresh_all hat6)
            have gk6 := hK6.blk gk5 (T5.out.2.1.not_of gk5 (by decide) (by decide))
            have hb6 := hb5.trans (hK6.below hz5 T5.out.2.1.mine_ge)
            have hz6 := hb6.size
            have T6 : Hid (Trio w6 w.heap.size b c vb' vc1 (.slice ow W.length cw) room (num + 1) lost (numc + 1) lostc (L ++ [⟨num + 1, frm, to, adb, capb, st⟩]) [⟨numc + 1, to, frm, ad1, cap1, st⟩] W) := hT6
            have HN6 : Hid (ad1 = none → st.size = 0 ∧ cap1 = 0) := hn6
            clear hC6 hK6 hn6 hat6 hT6 gk5 qa5 HR5 T5 hz5 hb5
            have qa6 := blk5 gk6
            go_wp2_with fail
            refine (drop_ok w.heap.size c vc1 room (numc + 1) lostc [⟨numc + 1, to, frm, ad1, cap1, st⟩] 0 (by simp) w6 T6.out.2.1 hz6 (by simp) (fun p hp => by
              obtain rfl : p = ⟨numc + 1, to, frm, ad1, cap1, st⟩ := by simpa using hp
              exact ⟨HN6.out, hs⟩) hcl).mono ?_
            rintro e w7 ⟨vc2, rfl, hC7, hK7, hfr7⟩
            have hT7 := T6.out.stepC hC7 hK7 (Or.inr hfr7)
            have gk7 := hK7.blk gk6 (T6.out.2.1.not_of gk6 (by decide) (by decide))
            have hb7 := hb6.trans (hK7.below hz6 T6.out.2.1.mine_ge)
            have hz7 := hb7.size
            have T7 : Hid (Trio w7 w.heap.size b c vb' vc2 (.slice ow W.length cw) room (num + 1) lost (numc + 1) (lostc + 1) (L ++ [⟨num + 1, frm, to, adb, capb, st⟩]) [] W) := hT7
            clear hC7 hK7 hfr7 hT7 gk6 qa6 T6 HN6 hz6 hb6
            have qa7 := blk5 gk7
            have gx : (w7.alloc (.cells #[.int .i64 kind, .int .i64 frm, .int .i64 to, .int .i64 ii, .slice ad st.size cap] 32 (0, 0))).heap[w7.heap.size]? = some (.cells #[.int .i64 kind, .int .i64 frm, .int .i64 to, .int .i64 ii, .slice ad st.size cap] 32 (0, 0)) := by (repeat (first | (with_reducible assumption) | (with_reducible exact Below.refl _ _) | (with_reducible refine heap_drew ?_) | (focus ((with_reducible refine heap_new ?_) ; simp ; done)) | (with_reducible apply heap_set_to) | (focus ((with_reducible refine heap_set_ne ?_ ?_ _) ; rotate_left ; (focus (first | omega | (simp ; done) | (simp ; omega))))) | (with_reducible refine heap_old ?_) | (with_reducible refine Below.drew ?_) | (with_reducible refine below_set ?_ _ _) | (focus ((with_reducible refine Below.setCell ?_ ?_ _) ; rotate_left ; (focus (first | omega | (simp ; done) | (simp ; omega))))) | (focus ((with_reducible refine Below.alloc ?_ ?_ _) ; rotate_left ; (focus (first | omega | (simp ; done) | (simp ; omega))))) | (with_reducible rfl) | (focus (simp ; done))))
            have hT7a := T7.out.below (below_alloc_self w7 (.cells #[.int .i64 kind, .int .i64 frm, .int .i64 to, .int .i64 ii, .slice ad st.size cap] 32 (0, 0)))
            obtain ⟨vw', w8, hrun, hW8, hg8, _⟩ := run_append_at (P := Try.prog) (w7.alloc (.cells #[.int .i64 kind, .int .i64 frm, .int .i64 to, .int .i64 ii, .slice ad st.size cap] 32 (0, 0))) w.heap.size 22 22 32 i0 _ 5 56 Try.underlying22 HI.out.1 HI.out.2.1 HI.out.2.2.1 HI.out.2.2.2 rfl (by decide) (.slice ow W.length cw) W.length (oflat W) hT7a.2.2.1
              ⟨w7.heap.size, 0, none⟩ 1 1 (oflat [⟨kind, frm, to, ii, ad, cap, st⟩]) (by omega) rfl (op_news (e := ⟨kind, frm, to, ii, ad, cap, st⟩) gx) (oflat_one _) (by unfold maxLen; omega) (by omega) (by simp; omega)
            have HRUN : Hid ((Builtin.append_ #[22, 22] 22 #[.slice ow W.length cw, .slice (some ⟨w7.heap.size, 0, none⟩) 1 1]).run Try.prog (w7.alloc (.cells #[.int .i64 kind, .int .i64 frm, .int .i64 to, .int .i64 ii, .slice ad st.size cap] 32 (0, 0))) = .ok vw' w8) := hrun
            have hT8 := hT7a.stepW (W' := W ++ [⟨kind, frm, to, ii, ad, cap, st⟩]) (by rw [List.length_append, oflat_append]; exact hW8) hg8
            have hb8 := (hb7.alloc hz7 (.cells #[.int .i64 kind, .int .i64 frm, .int .i64 to, .int .i64 ii, .slice ad st.size cap] 32 (0, 0))).grown hg8 (by simp; omega) (fun y hy => (hT7a.2.2.1.lt y hy).1)
            obtain ⟨ow', cw', rfl, _, _⟩ := at_form hW8
            have T8 : Hid (Trio w8 w.heap.size b c vb' vc2 (.slice ow' (W.length + 1) cw') room (num + 1) lost (numc + 1) (lostc + 1) (L ++ [⟨num + 1, frm, to, adb, capb, st⟩]) [] (W ++ [⟨kind, frm, to, ii, ad, cap, st⟩])) := hT8
            clear hT7a hrun hW8 hg8 hT8 gx
            go_wp2_with (first
              | (at_builtin; (refine Lib.wpList_append_run _ rfl (.tmp 132) (.tmp 134) 22 22 rfl _ _ rfl rfl _ _ HRUN.out ?_))
              | fail)
            go_roundw
            case rel =>
              obtain ⟨_, r2, r3, r4, r5, r6, r7, r8, r9, r10⟩ := HQ.out
              refine ⟨i + 1, vb', vc2, num + 1, lost, numc + 1, lostc + 1, L ++ [⟨num + 1, frm, to, adb, capb, st⟩], W ++ [⟨kind, frm, to, ii, ad, cap, st⟩], by omega, by go_num, ⟨T8.out, ?_, ?_, ?_, ?_, by omega, by omega, by omega, by omega, ?_⟩, hb8⟩
              · rw [List.map_append, List.map_append, r2]; rfl
              · intro p hp
                rcases List.mem_append.1 hp with hp | hp
                · exact r3 p hp
                · obtain rfl : p = ⟨num + 1, frm, to, adb, capb, st⟩ := by simpa using hp
                  exact ⟨HNB.out, hs⟩
              · intro o ho
                rcases List.mem_append.1 ho with ho | ho
                · exact r4 o ho
                · obtain rfl : o = ⟨kind, frm, to, ii, ad, cap, st⟩ := by simpa using ho
                  exact HK.out
              · rw [List.length_append, List.length_singleton]; omega
              · rw [List.length_append, List.length_singleton]; omega
            case measure => simp [intOf]; omega
      · by_cases hbad : badWay frm to
        · go_wp2_with fail
          refine (send_bad _ frm to ad cap st.size wx hbad).mono ?_
          rintro e w5 ⟨rfl, rfl⟩
          go_wp2_with fail
          refine (send_bad _ to frm ad cap st.size w5 (badWay_comm hbad)).mono ?_
          rintro e w6 ⟨rfl, rfl⟩
          go_wp2_with fail
          refine (drop_none w.heap.size c vc room numc lostc [] 0 w6 HT.out.2.1 (Or.inr (by simp))).mono ?_
          rintro e w7 ⟨rfl, hb7⟩
          clear qa
          go_wp2_with fail
          go_roundw
          case rel =>
            obtain ⟨_, r2, r3, r4, r5, r6, r7, r8, r9, r10⟩ := HQ.out
            exact ⟨i + 1, vb, vc, num, lost, numc, lostc, L, W, by omega, by go_num, ⟨HT.out.below hb7, r2, r3, r4, r5, by omega, by omega, by omega, by omega, by omega⟩, below_back hba hba.size hb7⟩
          case measure => simp [intOf]; omega
        by_cases hlong : 65536 < st.size
        · go_wp2_with fail
          refine (send_long _ frm to ad cap st.size wx hbad hlong).mono ?_
          rintro e w5 ⟨rfl, rfl⟩
          go_wp2_with fail
          refine (send_long _ to frm ad cap st.size w5 (fun h => hbad (badWay_comm h)) hlong).mono ?_
          rintro e w6 ⟨rfl, rfl⟩
          go_wp2_with fail
          refine (drop_none w.heap.size c vc room numc lostc [] 0 w6 HT.out.2.1 (Or.inr (by simp))).mono ?_
          rintro e w7 ⟨rfl, hb7⟩
          clear qa
          go_wp2_with fail
          go_roundw
          case rel =>
            obtain ⟨_, r2, r3, r4, r5, r6, r7, r8, r9, r10⟩ := HQ.out
            exact ⟨i + 1, vb, vc, num, lost, numc, lostc, L, W, by omega, by go_num, ⟨HT.out.below hb7, r2, r3, r4, r5, by omega, by omega, by omega, by omega, by omega⟩, below_back hba hba.size hb7⟩
          case measure => simp [intOf]; omega
        have hs : st.size ≤ 65536 := by omega
        have HN : Hid (ad = none → st.size = 0 ∧ cap = 0) := HK.out.2.2.2.2.2.1
        have HR : Hid (Reads wx ad st) := HK.out.2.2.2.2.1.below hba
        obtain ⟨_, _, r3, _, r5, r6, r7, r8, r9, r10⟩ := HQ.out
        have hL5 : L.length ≤ 512 := by omega
        have hcb : 0 ≤ numc ∧ numc ≤ 4611686018427387904 := by omega
        have hcl : 0 ≤ lostc ∧ lostc ≤ 4611686018427387904 := by omega
        have hbn : 0 ≤ num ∧ num ≤ 4611686018427387904 := by omega
        have hbl : 0 ≤ lost ∧ lost ≤ 4611686018427387904 := by omega
        have hLW : L.length = W.length := by simpa using congrArg List.length HQ.out.2.1
        have HLW : Hid (L.length = W.length) := hLW
        clear hlong hLW r3
        by_cases hfull : room ≤ (L.length : Int)
        · have hWz : 0 < W.length := by have := HLW.out; omega
          have hWf : ¬ (W.length : Int) < room := by have := HLW.out; omega
          go_wp2_with fail
          refine (send_full w.heap.size b vb room num lost L frm to ad cap st wx HT.out.1 HR.out HN.out hza hL5 hbl hbad hs hfull).mono ?_
          rintro e w5 ⟨rfl, hB5, hK5⟩
          have hT5 := HT.out.stepB hB5 hK5 (Or.inl rfl)
          have gk5 := hK5.blk gk (HT.out.1.not_of gk (by decide) (by decide))
          have hb5 := hba.trans (hK5.below hza HT.out.1.mine_ge)
          have hz5 := hb5.size
          have T5 : Hid (Trio w5 w.heap.size b c vb vc (.slice ow W.length cw) room num (lost + 1) numc lostc L [] W) := hT5
          have HR5 : Hid (Reads w5 ad st) := HK.out.2.2.2.2.1.below hb5
          clear hB5 hK5 hT5
          have qa5 := blk5 gk5
          clear qa
          go_wp2_with fail
          refine (send_room w.heap.size c vc room numc lostc [] to frm ad cap st w5 T5.out.2.1 HR5.out HN.out hz5 (by simp) hcb (fun h => hbad (badWay_comm h)) hs (by simp; omega)).mono ?_
          rintro e w6 ⟨vc1, ad1, cap1, rfl, hC6, hK6, hn6, hat6⟩
          have hT6 := T5.out.stepC hC6 hK6 (fresh_all hat6)
          have gk6 := hK6.blk gk5 (T5.out.2.1.not_of gk5 (by decide) (by decide))
          have hb6 := hb5.trans (hK6.below hz5 T5.out.2.1.mine_ge)
          have hz6 := hb6.size
          have T6 : Hid (Trio w6 w.heap.size b c vb vc1 (.slice ow W.length cw) room num (lost + 1) (numc + 1) lostc L [⟨numc + 1, to, frm, ad1, cap1, st⟩] W) := hT6
          have HN6 : Hid (ad1 = none → st.size = 0 ∧ cap1 = 0) := hn6
          clear hC6 hK6 hn6 hat6 hT6 gk5 qa5 HR5 T5 hz5 hb5
          have qa6 := blk5 gk6
          go_wp2_with fail
          refine (drop_ok w.heap.size c vc1 room (numc + 1) lostc [⟨numc + 1, to, frm, ad1, cap1, st⟩] 0 (by simp) w6 T6.out.2.1 hz6 (by simp) (fun p hp => by
            obtain rfl : p = ⟨numc + 1, to, frm, ad1, cap1, st⟩ := by simpa using hp
            exact ⟨HN6.out, hs⟩) hcl).mono ?_
          rintro e w7 ⟨vc2, rfl, hC7, hK7, hfr7⟩
          have hT7 := T6.out.stepC hC7 hK7 (Or.inr hfr7)
          have gk7 := hK7.blk gk6 (T6.out.2.1.not_of gk6 (by decide) (by decide))
          have hb7 := hb6.trans (hK7.below hz6 T6.out.2.1.mine_ge)
          have hz7 := hb7.size
          have T7 : Hid (Trio w7 w.heap.size b c vb vc2 (.slice ow W.length cw) room num (lost + 1) (numc + 1) (lostc + 1) L [] W) := hT7
          clear hC7 hK7 hfr7 hT7 gk6 qa6 T6 HN6 hz6 hb6
          have qa7 := blk5 gk7
          go_wp2_with fail
          go_roundw
          case rel =>
            obtain ⟨_, r2, r3, r4, r5, r6, r7, r8, r9, r10⟩ := HQ.out
            exact ⟨i + 1, vb, vc2, num, lost + 1, numc + 1, lostc + 1, L, W, by omega, by go_num, ⟨T7.out, r2, r3, r4, r5, by omega, by omega, by omega, by omega, by omega⟩, hb7⟩
          case measure => simp [intOf]; omega
        · have hroomL : (L.length : Int) < room := by omega
          have hWf : (W.length : Int) < room := by have := HLW.out; omega
          have hnp : 0 < num + 1 := by omega
          go_wp2_with fail
          refine (send_room w.heap.size b vb room num lost L frm to ad cap st wx HT.out.1 HR.out HN.out hza hL5 hbn hbad hs hroomL).mono ?_
          rintro e w5 ⟨vb', adb, capb, rfl, hB5, hK5, hnb, hat5⟩
          have hT5 := HT.out.stepB hB5 hK5 (fresh_all hat5)
          have gk5 := hK5.blk gk (HT.out.1.not_of gk (by decide) (by decide))
          have hb5 := hba.trans (hK5.below hza HT.out.1.mine_ge)
          have hz5 := hb5.size
          have T5 : Hid (Trio w5 w.heap.size b c vb' vc (.slice ow W.length cw) room (num + 1) lost numc lostc (L ++ [⟨num + 1, frm, to, adb, capb, st⟩]) [] W) := hT5
          have HR5 : Hid (Reads w5 ad st) := HK.out.2.2.2.2.1.below hb5
          have HNB : Hid (adb = none → st.size = 0 ∧ capb = 0) := hnb
          clear hB5 hK5 hT5 hnb hat5
          have qa5 := blk5 gk5
          clear qa
          go_wp2_with fail
          refine (send_room w.heap.size c vc room numc lostc [] to frm ad cap st w5 T5.out.2.1 HR5.out HN.out hz5 (by simp) hcb (fun h => hbad (badWay_comm h)) hs (by simp; omega)).mono ?_
          rintro e w6 ⟨vc1, ad1, cap1, rfl, hC6, hK6, hn6, hat6⟩
          have hT6 := T5.out.stepC hC6 hK6 (fresh_all hat6)
          have gk6 := hK6.blk gk5 (T5.out.2.1.not_of gk5 (by decide) (by decide))
          have hb6 := hb5.trans (hK6.below hz5 T5.out.2.1.mine_ge)
          have hz6 := hb6.size
          have T6 : Hid (Trio w6 w.heap.size b c vb' vc1 (.slice ow W.length cw) room (num + 1) lost (numc + 1) lostc (L ++ [⟨num + 1, frm, to, adb, capb, st⟩]) [⟨numc + 1, to, frm, ad1, cap1, st⟩] W) := hT6
          have HN6 : Hid (ad1 = none → st.size = 0 ∧ cap1 = 0) := hn6
          clear hC6 hK6 hn6 hat6 hT6 gk5 qa5 HR5 T5 hz5 hb5
          have qa6 := blk5 gk6
          go_wp2_with fail
          refine (drop_ok w.heap.size c vc1 room (numc + 1) lostc [⟨numc + 1, to, frm, ad1, cap1, st⟩] 0 (by simp) w6 T6.out.2.1 hz6 (by simp) (fun p hp => by
            obtain rfl : p = ⟨numc + 1, to, frm, ad1, cap1, st⟩ := by simpa using hp
            exact ⟨HN6.out, hs⟩) hcl).mono ?_
          rintro e w7 ⟨vc2, rfl, hC7, hK7, hfr7⟩
          have hT7 := T6.out.stepC hC7 hK7 (Or.inr hfr7)
          have gk7 := hK7.blk gk6 (T6.out.2.1.not_of gk6 (by decide) (by decide))
          have hb7 := hb6.trans (hK7.below hz6 T6.out.2.1.mine_ge)
          have hz7 := hb7.size
          have T7 : Hid (Trio w7 w.heap.size b c vb' vc2 (.slice ow W.length cw) room (num + 1) lost (numc + 1) (lostc + 1) (L ++ [⟨num + 1, frm, to, adb, capb, st⟩]) [] W) := hT7
          clear hC7 hK7 hfr7 hT7 gk6 qa6 T6 HN6 hz6 hb6
          have qa7 := blk5 gk7
          have gx : (w7.alloc (.cells #[.int .i64 kind, .int .i64 frm, .int .i64 to, .int .i64 ii, .slice ad st.size cap] 32 (0, 0))).heap[w7.heap.size]? = some (.cells #[.int .i64 kind, .int .i64 frm, .int .i64 to, .int .i64 ii, .slice ad st.size cap] 32 (0, 0)) := by (repeat (first | (with_reducible assumption) | (with_reducible exact Below.refl _ _) | (with_reducible refine heap_drew ?_) | (focus ((with_reducible refine heap_new ?_) ; simp ; done)) | (with_reducible apply heap_set_to) | (focus ((with_reducible refine heap_set_ne ?_ ?_ _) ; rotate_left ; (focus (first | omega | (simp ; done) | (simp ; omega))))) | (with_reducible refine heap_old ?_) | (with_reducible refine Below.drew ?_) | (with_reducible refine below_set ?_ _ _) | (focus ((with_reducible refine Below.setCell ?_ ?_ _) ; rotate_left ; (focus (first | omega | (simp ; done) | (simp ; omega))))) | (focus ((with_reducible refine Below.alloc ?_ ?_ _) ; rotate_left ; (focus (first | omega | (simp ; done) | (simp ; omega))))) | (with_reducible rfl) | (focus (simp ; done))))
          have hT7a := T7.out.below (below_alloc_self w7 (.cells #[.int .i64 kind, .int .i64 frm, .int .i64 to, .int .i64 ii, .slice ad st.size cap] 32 (0, 0)))
          obtain ⟨vw', w8, hrun, hW8, hg8, _⟩ := run_append_at (P := Try.prog) (w7.alloc (.cells #[.int .i64 kind, .int .i64 frm, .int .i64 to, .int .i64 ii, .slice ad st.size cap] 32 (0, 0))) w.heap.size 22 22 32 i0 _ 5 56 Try.underlying22 HI.out.1 HI.out.2.1 HI.out.2.2.1 HI.out.2.2.2 rfl (by decide) (.slice ow W.length cw) W.length (oflat W) hT7a.2.2.1
            ⟨w7.heap.size, 0, none⟩ 1 1 (oflat [⟨kind, frm, to, ii, ad, cap, st⟩]) (by omega) rfl (op_news (e := ⟨kind, frm, to, ii, ad, cap, st⟩) gx) (oflat_one _) (by unfold maxLen; omega) (by omega) (by simp; omega)
          have HRUN : Hid ((Builtin.append_ #[22, 22] 22 #[.slice ow W.length cw, .slice (some ⟨w7.heap.size, 0, none⟩) 1 1]).run Try.prog (w7.alloc (.cells #[.int .i64 kind, .int .i64 frm, .int .i64 to, .int .i64 ii, .slice ad st.size cap] 32 (0, 0))) = .ok vw' w8) := hrun
          have hT8 := hT7a.stepW (W' := W ++ [⟨kind, frm, to, ii, ad, cap, st⟩]) (by rw [List.length_append, oflat_append]; exact hW8) hg8
          have hb8 := (hb7.alloc hz7 (.cells #[.int .i64 kind, .int .i64 frm, .int .i64 to, .int .i64 ii, .slice ad st.size cap] 32 (0, 0))).grown hg8 (by simp; omega) (fun y hy => (hT7a.2.2.1.lt y hy).1)
          obtain ⟨ow', cw', rfl, _, _⟩ := at_form hW8
          have T8 : Hid (Trio w8 w.heap.size b c vb' vc2 (.slice ow' (W.length + 1) cw') room (num + 1) lost (numc + 1) (lostc + 1) (L ++ [⟨num + 1, frm, to, adb, capb, st⟩]) [] (W ++ [⟨kind, frm, to, ii, ad, cap, st⟩])) := hT8
          clear hT7a hrun hW8 hg8 hT8 gx
          go_wp2_with (first
            | (at_builtin; (refine Lib.wpList_append_run _ rfl (.tmp 132) (.tmp 134) 22 22 rfl _ _ rfl rfl _ _ HRUN.out ?_))
            | fail)
          go_roundw
          case rel =>
            obtain ⟨_, r2, r3, r4, r5, r6, r7, r8, r9, r10⟩ := HQ.out
            refine ⟨i + 1, vb', vc2, num + 1, lost, numc + 1, lostc + 1, L ++ [⟨num + 1, frm, to, adb, capb, st⟩], W ++ [⟨kind, frm, to, ii, ad, cap, st⟩], by omega, by go_num, ⟨T8.out, ?_, ?_, ?_, ?_, by omega, by omega, by omega, by omega, ?_⟩, hb8⟩
            · rw [List.map_append, List.map_append, r2]; rfl
            · intro p hp
              rcases List.mem_append.1 hp with hp | hp
              · exact r3 p hp
              · obtain rfl : p = ⟨num + 1, frm, to, adb, capb, st⟩ := by simpa using hp
                exact ⟨HNB.out, hs⟩
            · intro o ho
              rcases List.mem_append.1 ho with ho | ho
              · exact r4 o ho
              · obtain rfl : o = ⟨kind, frm, to, ii, ad, cap, st⟩ := by simpa using ho
                exact HK.out
            · rw [List.length_append, List.length_singleton]; omega
            · rw [List.length_append, List.length_singleton]; omega
          case measure => simp [intOf]; omega
    · obtain rfl : i = l.length := by omega
      obtain ⟨ow, cw, rfl, _, _⟩ := at_form HQ.out.1.2.2.1
      have hlen : L.length = W.length := by simpa using congrArg List.length HQ.out.2.1
      have HLen : Hid (L.length = W.length) := hlen
      clear hlen
      go_wp2_with fail
      refine (len_any w.heap.size b vb room num lost L wr HQ.out.1.1).mono ?_
      rintro e w5 ⟨rfl, rfl⟩
      rw [HLen.out]
      go_wp2_with fail
      refine (len_any w.heap.size c vc room numc lostc [] w5 HQ.out.1.2.1).mono ?_
      rintro e w6 ⟨rfl, rfl⟩
      go_wp2_with fail
      go_ret
      exact ⟨rfl, hbr⟩

theorem bagqueue_lifted (os : Os) (started : os.Started) (H : Type) (enc : TypeId × Value → H) :
    ReturnsInHanded {} Try.checked os 5 .any (Rows.bagQueueSpec.pre6 enc Try.prog Try.f5 Rows.bagQueueRow.domain false) (Rows.bagQueueSpec.post enc Try.prog Try.f5 false true false false) := by
  refine returnsInHanded_of_change_sized (C := Try.checked) own started (by kernel_rfl) Try.func5
    (ChangeSpec.witness6 (enc := enc) (C := Try.checked) false ⟨#[], #[.int .i64 0, .slice none 0 0], []⟩ 8 (by kernel_rfl) (by kernel_rfl) (by kernel_rfl) (by kernel_rfl)) ?_
  intro W base args ds gs before hval0 hW hcnd hsz0 _
  have hval : ∀ (j : Nat) t v, Try.f5.params[j]? = some t → args[j]? = some v → Value.okWide Try.prog W .any base t v := hval0
  have hsz : (DataW.weightsEach Try.prog (Try.f5.params.toList ++ Rows.bagQueueSpec.plain.varTypes Try.prog) (ds ++ gs)).all (· ≤ reachBytes) = true := hsz0
  have hW' := hW
  obtain ⟨p, q, hA0, hV, rfl, hfz, hnd⟩ := hW
  have hA : DataW.TrodAll enc Try.prog W 0 (fun _ => true) true Try.f5.params.toList args.toList ds p := hA0
  rw [Try.params5] at hA hval hsz
  obtain ⟨v0, vs0, d0, ds0, p0, q0, hargs, rfl, rfl, h0, r0⟩ := trodAll_cons hA
  obtain ⟨v1, vs1, d1, ds1, p1, q1, rfl, rfl, rfl, h1, r1⟩ := trodAll_cons r0
  obtain ⟨rfl, rfl, rfl⟩ := trodAll_nil r1
  obtain rfl : args = #[v0, v1] := by apply Array.toList_inj.1; exact hargs
  obtain ⟨room, rfl, rfl, rfl, wn⟩ := open_int Try.underlying3 (hval 0 _ v0 rfl rfl) h0
  have w1 : ∀ n ∈ d1.weights Try.prog 22, n ≤ reachBytes := fun n hn => by
    have := List.all_eq_true.1 hsz n (DataW.weights_mem_each (j := 1) (t := 22) (d := d1) rfl rfl n hn)
    simpa using this
  obtain ⟨oa, ca, l, rfl, na, hl, hO⟩ := open_ops (hval 1 _ v1 rfl rfl) h1 w1
  refine (queue_walk room (show Inr .i64 room from wn).i64 oa ca l W hl hO).mono fun e W' ⟨he, hg⟩ => ?_
  exact ⟨_, he, law_post laidOut (by kernel_rfl) (by kernel_rfl) Try.underlying4 rfl hW' rfl hg⟩

theorem bagqueue_holds : Rows.BagQueueSaid :=
  OpenClaim.holds_of_wide 5 Try.f5 rfl rfl rfl rfl rfl rfl rfl ⟨rfl, rfl, rfl, rfl, rfl⟩ rfl rfl rfl rfl rfl (by kernel_rfl) Try.func5 (by kernel_rfl)
    (of_decide_eq_true (by kernel_rfl)) (by unfold Func.isWrapper; first | (rw [if_pos (by decide +kernel)]; kernel_rfl) | (rw [if_neg (by decide +kernel)]; exact ⟨rfl, rfl⟩))
    (fun os started H enc _ => bagqueue_lifted os started H enc)
#print axioms bagqueue_holds
end Go.Proofs.Ytepilaejfepicaa
