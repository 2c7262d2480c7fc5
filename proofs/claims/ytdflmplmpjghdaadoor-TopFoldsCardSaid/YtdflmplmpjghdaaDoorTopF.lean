/-
  TopFolds, walked: for every list of commands and every list of texts.
-/
import Derived.Test.YtdflmplmpjghdaaDoorSok
namespace Go.Proofs.YtdflmplmpjghdaaDoor
open Go.ChangeShapes Go.WideShapes Go.ChangeAt Go.RowKit Go.Deep
set_option linter.unusedVariables false
set_option linter.unusedSimpArgs false

theorem sjoinsb (sb tb mb : Nat) (node clock : Int) (M : Nat) (t : Tr) (w : World) (h : StAt w sb tb mb node clock M t) : Calls Tryd.prog 6 #[.pointer (some ⟨sb, 0, none⟩)] w fun e w' => e = .returned (.int .i64 (M : Int)) ∧ Below w.heap.size w w' :=
  (sjoins_any sb tb mb node clock M t w h).mono (by rintro e w' ⟨rfl, rfl⟩; exact ⟨rfl, Below.refl _ _⟩)
theorem slenb (sb tb mb : Nat) (node clock : Int) (M : Nat) (t : Tr) (w : World) (h : StAt w sb tb mb node clock M t) : Calls Tryd.prog 10 #[.pointer (some ⟨sb, 0, none⟩)] w fun e w' => e = .returned (.int .i64 (t.size : Int)) ∧ Below w.heap.size w w' :=
  (slen_any sb tb mb node clock M t w h).mono (by rintro e w' ⟨rfl, rfl⟩; exact ⟨rfl, Below.refl _ _⟩)
theorem boundb (n : Int) (h : Inr .i64 n) (w : World) : Calls Tryd.prog 9 #[.int .i64 n] w fun e w' => e = .returned (.int .i64 (16 * (1 + (lg n : Int)))) ∧ Below w.heap.size w w' :=
  (bound_any n h w).mono (by rintro e w' ⟨rfl, rfl⟩; exact ⟨rfl, Below.refl _ _⟩)
theorem inr_small {n : Nat} (h : n ≤ 1000000) : Inr .i64 (n : Int) := by
  simp only [Inr, Lit.wf, IntKind.min, IntKind.max, IntKind.signed, IntKind.bits, Bool.and_eq_true, decide_eq_true_eq]
  omega
/-- What all three blocks are: new. -/
def New3 (w : World) (sb tb mb : Nat) : Prop := w.heap.size ≤ sb ∧ w.heap.size ≤ tb ∧ w.heap.size ≤ mb
theorem New3.keep {w a b : World} {sb tb mb : Nat} (h : New3 w sb tb mb) (ha : Below w.heap.size w a) (hk : Keep (fun k => k = mb ∨ k = tb ∨ k = sb) a b) : Below w.heap.size w b :=
  ha.trans (hk.below ha.size fun k hk => by obtain ⟨h1, h2, h3⟩ := h; rcases hk with rfl | rfl | rfl <;> assumption)
/-- Where the law stands. -/
structure TfAt (w wr : World) (sb tb mb : Nat) (c : Int) (M : Nat) (t : Tr) : Prop where
  st : StAt wr sb tb mb 3 c M t
  ok : Sok t
  bel : Below w.heap.size w wr
theorem OpAt.old {w wr : World} {b o : Nat} {x : OpV} (h : OpAt w b o x) (hb : Below w.heap.size w wr) : OpAt wr b o x := h.below hb
theorem tsum_count : ∀ l : List T3, (∀ s ∈ l, s.1 = 1) → l.length ≤ 1000000 → (tsum l).1 = l.length
  | [], _, _ => rfl
  | x :: l, h, hl => by
    have ih := tsum_count l (fun s hs => h s (List.mem_cons_of_mem _ hs)) (by simp at hl; omega)
    have hx := h x (List.mem_cons_self ..)
    show wrap64 (x.1 + (tsum l).1) = _
    rw [ih, hx]
    simp only [List.length_cons] at hl ⊢
    unfold wrap64; omega
theorem rgOk_open (lo : ByteArray) : rgOk lo ⟨#[]⟩ true = true := by
  unfold rgOk
  rw [if_pos rfl, Lib.toList_data]
  rfl
theorem size_empty : (⟨#[]⟩ : ByteArray).size ≤ 16 := Nat.zero_le _
theorem join_of {X Y Z : T3} (h : tadd X Y = Z) (w1 : World) : Calls Tryd.prog 12 #[tv X.1 X.2.1 X.2.2, tv Y.1 Y.2.1 Y.2.2] w1 fun e w' => e = .returned (tv Z.1 Z.2.1 Z.2.2) ∧ Below w1.heap.size w1 w' := by
  subst h
  exact join_any X.1 X.2.1 X.2.2 Y.1 Y.2.1 Y.2.2 w1
set_option maxRecDepth 100000 in
set_option maxHeartbeats 16000000 in
theorem topf_walk (oa ob : Option Addr) (ca cb : Nat) (l : List OpV) (m : List ByteArray) (w : World) (hL : Lanes w) (hA : Ops w oa l) (hB : Txts w ob m) (hl : l.length * 104 ≤ 140737488351232) (hm : m.length * 16 ≤ 140737488351232) :
    Calls Tryd.prog 3 #[.slice oa l.length ca, .slice ob m.length cb] w fun e w' => e = .returned (.bool true) ∧ Below w.heap.size w w' := by
  have HL := Lib.hid hL
  have HA := Lib.hid hA
  have HB := Lib.hid hB
  clear hL hA hB
  go_enter Tryd.func3, Tryd.ntmps3
  go_wp2_with fail
  refine (bulk_any oa ca l w HA.out hl).mono ?_
  rintro e w1 ⟨t1, rfl, ht1, hb1⟩
  cases t1 with
  | true =>
    clear ht1
    go_wp2_with fail
    go_ret
    exact ⟨rfl, hb1⟩
  | false =>
    have hl4 := ht1 rfl
    clear ht1
    by_cases hm64 : 64 < m.length
    · have d : (64 : Int) < (m.length : Int) := by omega
      go_wp2_with fail
      go_ret
      exact ⟨rfl, hb1⟩
    · have d : (m.length : Int) ≤ 64 := by omega
      go_wp2_with fail
      refine (snew_any 3 (by omega) (by omega) _ (HL.out.below hb1 HL.out.lt)).mono ?_
      rintro e w2 ⟨sb, tb, mb, rfl, n1, n2, n3, hst, hb2⟩
      have hN : New3 w sb tb mb := ⟨Nat.le_trans hb1.size n1, Nat.le_trans hb1.size n2, Nat.le_trans hb1.size n3⟩
      have HN := Lib.hid hN
      have H0 : Hid (TfAt w w2 sb tb mb 0 0 .nil) := ⟨hst, Sok.nil, hb1.trans (hb2.mono hb1.size)⟩
      clear hst hb1 hb2 n1 n2 n3 hN
      go_wp2_with fail
      go_loopw [7] (fun s wr => ∃ (k : Nat) (t : Tr) (c : Int) (M : Nat), k ≤ l.length ∧ s = .int .i64 k ∧ Hid (TfAt w wr sb tb mb c M t) ∧ 0 ≤ c ∧ c ≤ k ∧ M ≤ 160 * k) (fun s _ => l.length - (intOf s).toNat)
      case atStart => exact ⟨0, .nil, 0, 0, Nat.zero_le _, rfl, H0, by omega, by omega, by omega⟩
      case round =>
        clear H0
        obtain ⟨k, t, c, M, hk, rfl, HT, hc0, hck, hM⟩ := hrel
        by_cases hlt : k < l.length
        · obtain ⟨b, o, rfl, he, hs⟩ := HA.out k hlt
          obtain ⟨⟨x1, x2, x3, x4, x5, x6, x7, x8, x9⟩, hen⟩ : ∃ e, e = l[k] := ⟨_, rfl⟩
          rw [← hen] at he hs
          have HE := Lib.hid (And.intro he hs)
          clear he hen hs
          go_wp2_with fail
          refine (sjoins_any sb tb mb 3 c M t _ HT.out.st).mono ?_
          rintro e wr ⟨rfl, rfl⟩
          have q := HE.out.1.old HT.out.bel
          unfold OpAt at q
          simp only at q
          by_cases hx1 : x1 = 2
          · have HX := Lib.hid hx1
            rw [hx1] at q
            clear hx1
            go_wp2_with fail
            refine (del_step sb tb mb c M t x5 _ HT.out.st HT.out.ok HE.out.2.1 (by omega) hc0 (by omega)).mono ?_
            rintro e w3 ⟨v, t2, c2, M2, rfl, hst, hok, y1, y2, y3, y4, y5, hkp⟩
            have HT2 : Hid (TfAt w w3 sb tb mb c2 M2 t2) := ⟨hst, hok, HN.out.keep HT.out.bel hkp⟩
            clear hst hok hkp q
            go_wp2_with fail
            refine (sjoins_any sb tb mb 3 c2 M2 t2 _ HT2.out.st).mono ?_
            rintro e w3 ⟨rfl, rfl⟩
            have d1 : (M : Int) ≤ (M2 : Int) := by omega
            have hsz2 := HT2.out.ok.size
            go_wp2_with fail
            refine (sjoins_any sb tb mb 3 c2 M2 t2 _ HT2.out.st).mono ?_
            rintro e w3 ⟨rfl, rfl⟩
            go_wp2_with fail
            refine (slen_any sb tb mb 3 c2 M2 t2 _ HT2.out.st).mono ?_
            rintro e w3 ⟨rfl, rfl⟩
            go_wp2_with fail
            refine (bound_any (t2.size : Int) (inr_small (by omega)) _).mono ?_
            rintro e w3 ⟨rfl, rfl⟩
            have d2 : (M2 : Int) - (M : Int) ≤ 16 * (1 + (lg (t2.size : Int) : Int)) := by omega
            go_wp2_with fail
            go_roundw
            case rel => exact ⟨k + 1, t2, c2, M2, by omega, by go_num, HT2.out, by omega, by omega, by omega⟩
            case measure => simp [intOf]; omega
          · go_wp2_with fail
            clear q
            have hSt : Stable (fun w4 : World => (Below wr.heap.size wr w4)) := by repeat (first | exact stable_ext _ | exact stable_blk _ _ | exact stable_true | (refine stable_bel ?_ ; (focus (first | (simp [World.size_setCell] ; done) | (simp [World.setCell] ; done)))) | refine Stable.and ?_ ?_)
            refine wp_region_x [0, 1, 2, 3, 4, 5, 6, 7, 8, 9, 10, 11] [0, 0, 0, 0, 0, 1, 0, 0, 0, 0, 1, 3] (fun w4 => (Below wr.heap.size wr w4)) (by kernel_rfl) (by kernel_rfl) ?_ ?_
            · (first | trivial | (repeat (first | (with_reducible assumption) | (with_reducible exact Below.refl _ _) | (with_reducible refine heap_drew ?_) | (focus ((with_reducible refine heap_new ?_) ; simp ; done)) | (with_reducible apply heap_set_to) | (focus ((with_reducible refine heap_set_ne ?_ ?_ _) ; rotate_left ; (focus (first | omega | (simp ; done) | (simp ; omega))))) | (with_reducible refine heap_old ?_) | (with_reducible refine Below.drew ?_) | (with_reducible refine below_set ?_ _ _) | (focus ((with_reducible refine Below.setCell ?_ ?_ _) ; rotate_left ; (focus (first | omega | (simp ; done) | (simp ; omega))))) | (focus ((with_reducible refine Below.alloc ?_ ?_ _) ; rotate_left ; (focus (first | omega | (simp ; done) | (simp ; omega))))) | (with_reducible rfl) | (focus (simp ; done)))))
            simp only [List.map_cons, List.map_nil, List.getD_cons_zero, List.getD_cons_succ]
            (refine x_pure rfl _ ?_ rfl (by simp) ?_ ?_ ; rotate_left ; · (intro w4 K hK ; go_wp2_with fail ; exact rfl))
            simp only [Act.put, List.setIfInBounds_toArray, List.set_cons_succ, List.set_cons_zero]
            (refine x_pure rfl _ ?_ rfl (by simp) ?_ ?_ ; rotate_left ; · (intro w4 K hK ; go_wp2_with fail ; exact rfl))
            simp only [Act.put, List.setIfInBounds_toArray, List.set_cons_succ, List.set_cons_zero]
            (refine x_pure rfl _ ?_ rfl (by simp) ?_ ?_ ; rotate_left ; · (intro w4 K hK ; go_wp2_with fail ; exact rfl))
            simp only [Act.put, List.setIfInBounds_toArray, List.set_cons_succ, List.set_cons_zero]
            (refine x_pure rfl _ ?_ rfl (by simp) ?_ ?_ ; rotate_left ; · (intro w4 K hK ; go_wp2_with fail ; exact rfl))
            simp only [Act.put, List.setIfInBounds_toArray, List.set_cons_succ, List.set_cons_zero]
            (refine x_pure rfl _ ?_ rfl (by simp) ?_ ?_ ; rotate_left ; · (intro w4 K hK ; go_wp2_with fail ; exact rfl))
            simp only [Act.put, List.setIfInBounds_toArray, List.set_cons_succ, List.set_cons_zero]
            (refine x_quiet rfl hSt (fun _ h => h) _ ?_ rfl (by simp) ?_ ?_ ; rotate_left ; · (intro w4 hC K hK ; have hc := hC ; have q := HE.out.1.old (HT.out.bel.trans (hc.mono HT.out.bel.size)) ; unfold OpAt at q ; simp only at q ; go_wp2_with fail ; refine ⟨?_, Below.refl _ _⟩ ; exact rfl))
            simp only [Act.put, List.setIfInBounds_toArray, List.set_cons_succ, List.set_cons_zero]
            (refine x_pure rfl _ ?_ rfl (by simp) ?_ ?_ ; rotate_left ; · (intro w4 K hK ; go_wp2_with fail ; exact rfl))
            simp only [Act.put, List.setIfInBounds_toArray, List.set_cons_succ, List.set_cons_zero]
            (refine x_pure rfl _ ?_ rfl (by simp) ?_ ?_ ; rotate_left ; · (intro w4 K hK ; go_wp2_with fail ; exact rfl))
            simp only [Act.put, List.setIfInBounds_toArray, List.set_cons_succ, List.set_cons_zero]
            (refine x_pure rfl _ ?_ rfl (by simp) ?_ ?_ ; rotate_left ; · (intro w4 K hK ; go_wp2_with fail ; exact rfl))
            simp only [Act.put, List.setIfInBounds_toArray, List.set_cons_succ, List.set_cons_zero]
            (refine x_pure rfl _ ?_ rfl (by simp) ?_ ?_ ; rotate_left ; · (intro w4 K hK ; go_wp2_with fail ; exact rfl))
            simp only [Act.put, List.setIfInBounds_toArray, List.set_cons_succ, List.set_cons_zero]
            (refine x_quiet rfl hSt (fun _ h => h) _ ?_ rfl (by simp) ?_ ?_ ; rotate_left ; · (intro w4 hC K hK ; have hc := hC ; have q := HE.out.1.old (HT.out.bel.trans (hc.mono HT.out.bel.size)) ; unfold OpAt at q ; simp only at q ; go_wp2_with fail ; refine ⟨?_, Below.refl _ _⟩ ; exact rfl))
            simp only [Act.put, List.setIfInBounds_toArray, List.set_cons_succ, List.set_cons_zero]
            refine x_write rfl ?_
            intro w4 hD K hK ; have hc := hD ; have q := HE.out.1.old (HT.out.bel.trans (hc.mono HT.out.bel.size)) ; unfold OpAt at q ; simp only at q
            go_wp2_with fail
            refine (put_step sb tb mb c M t x5 x6 _ (HT.out.st.below hc) HT.out.ok HE.out.2.1 HE.out.2.2.1 (by omega) hc0 (by omega)).mono ?_
            rintro e w3 ⟨v, t2, c2, M2, rfl, hst, hok, y1, y2, y3, y4, y5, hkp⟩
            have HT2 : Hid (TfAt w w3 sb tb mb c2 M2 t2) := ⟨hst, hok, HN.out.keep (HT.out.bel.trans (hc.mono HT.out.bel.size)) hkp⟩
            clear hst hok hkp q hc hSt
            refine hK _ _ ?_
            try simp only [Act.put, List.setIfInBounds_toArray, List.set_cons_succ, List.set_cons_zero]
            first | refine x_nil ?_ | refine x_end ?_
            rintro w3 rfl
            go_wp2_with fail
            refine (sjoins_any sb tb mb 3 c2 M2 t2 _ HT2.out.st).mono ?_
            rintro e w3 ⟨rfl, rfl⟩
            have d1 : (M : Int) ≤ (M2 : Int) := by omega
            have hsz2 := HT2.out.ok.size
            go_wp2_with fail
            refine (sjoins_any sb tb mb 3 c2 M2 t2 _ HT2.out.st).mono ?_
            rintro e w3 ⟨rfl, rfl⟩
            go_wp2_with fail
            refine (slen_any sb tb mb 3 c2 M2 t2 _ HT2.out.st).mono ?_
            rintro e w3 ⟨rfl, rfl⟩
            go_wp2_with fail
            refine (bound_any (t2.size : Int) (inr_small (by omega)) _).mono ?_
            rintro e w3 ⟨rfl, rfl⟩
            have d2 : (M2 : Int) - (M : Int) ≤ 16 * (1 + (lg (t2.size : Int) : Int)) := by omega
            go_wp2_with fail
            go_roundw
            case rel => exact ⟨k + 1, t2, c2, M2, by omega, by go_num, HT2.out, by omega, by omega, by omega⟩
            case measure => simp [intOf]; omega
        · obtain rfl : k = l.length := by omega
          have hM0 : M ≤ 655360 := by omega
          have HK : Hid (Oks t.talls ∧ t.high ≤ 19) := ⟨HT.out.ok.oks, by have := HT.out.ok.high; have := HT.out.ok.lg9; omega⟩
          have hsz := HT.out.ok.size
          have HC := Lib.hid HT.out.ok
          obtain ⟨M0, hMM⟩ : ∃ x, x = M := ⟨_, rfl⟩
          have hM0' : M0 ≤ 655360 := by omega
          have HT0 : Hid (StAt wr sb tb mb 3 c M0 t ∧ Below w.heap.size w wr) := by rw [hMM]; exact ⟨HT.out.st, HT.out.bel⟩
          clear HT hM hck hc0 hM0 hMM hlt hk
          go_wp2_with fail
          go_loopw [9] (fun s wr2 => ∃ (i M : Nat), i ≤ m.length ∧ s = .int .i64 i ∧ Hid (StAt wr2 sb tb mb 3 c M t ∧ Below w.heap.size w wr2) ∧ M ≤ 655360 + 14592 * i) (fun s _ => m.length - (intOf s).toNat)
          case atStart => exact ⟨0, M0, Nat.zero_le _, rfl, HT0, by omega⟩
          case round =>
            clear HT0 hM0'
            obtain ⟨i, M1, hi, rfl, HT1, hM1⟩ := hrel
            by_cases hli : i < m.length
            · go_wp2_with fail
              go_loopw [10] (fun s wr3 => ∃ (j M : Nat), j ≤ m.length ∧ s = .int .i64 j ∧ Hid (StAt wr3 sb tb mb 3 c M t ∧ Below w.heap.size w wr3) ∧ M ≤ 655360 + 14592 * i + 228 * j) (fun s _ => m.length - (intOf s).toNat)
              case atStart => exact ⟨0, M1, Nat.zero_le _, rfl, HT1, by omega⟩
              case round =>
                clear HT1 hM1
                obtain ⟨j, M2, hj, rfl, HT2, hM2⟩ := hrel
                by_cases hlj : j < m.length
                · obtain ⟨ba, oo, rfl, ta1, ta2, ta3⟩ := HB.out i hli
                  obtain ⟨ba', oo', hbb, tb1, tb2, tb3⟩ := HB.out j hlj
                  obtain ⟨rfl, rfl⟩ : ba' = ba ∧ oo' = oo := by simp at hbb; exact ⟨hbb.1.symm, hbb.2.symm⟩
                  obtain ⟨a, hae⟩ : ∃ a, a = m[i] := ⟨_, rfl⟩
                  obtain ⟨b, hbe⟩ : ∃ b, b = m[j] := ⟨_, rfl⟩
                  rw [← hae] at ta2 ta3
                  rw [← hbe] at tb2 tb3
                  have HQ : Hid (∀ wx, Below w.heap.size w wx → wx.cell? ⟨ba', oo' + i, none⟩ = some (.string a) ∧ wx.cell? ⟨ba', oo' + j, none⟩ = some (.string b)) := fun wx h => ⟨(h.cell (p := ⟨ba', oo' + i, none⟩) ta1).trans ta2, (h.cell (p := ⟨ba', oo' + j, none⟩) ta1).trans tb2⟩
                  clear ta1 ta2 tb1 tb2 hbb hae hbe
                  go_wp2_with fail
                  have hSt : Stable (fun w5 : World => (Below wr.heap.size wr w5)) := by repeat (first | exact stable_ext _ | exact stable_blk _ _ | exact stable_true | (refine stable_bel ?_ ; (focus (first | (simp [World.size_setCell] ; done) | (simp [World.setCell] ; done)))) | refine Stable.and ?_ ?_)
                  refine wp_region_x [0, 1, 2, 3, 4, 5, 6, 7, 8, 9] [0, 0, 0, 1, 0, 0, 0, 1, 0, 0] (fun w5 => (Below wr.heap.size wr w5)) (by kernel_rfl) (by kernel_rfl) ?_ ?_
                  · (first | trivial | (repeat (first | (with_reducible assumption) | (with_reducible exact Below.refl _ _) | (with_reducible refine heap_drew ?_) | (focus ((with_reducible refine heap_new ?_) ; simp ; done)) | (with_reducible apply heap_set_to) | (focus ((with_reducible refine heap_set_ne ?_ ?_ _) ; rotate_left ; (focus (first | omega | (simp ; done) | (simp ; omega))))) | (with_reducible refine heap_old ?_) | (with_reducible refine Below.drew ?_) | (with_reducible refine below_set ?_ _ _) | (focus ((with_reducible refine Below.setCell ?_ ?_ _) ; rotate_left ; (focus (first | omega | (simp ; done) | (simp ; omega))))) | (focus ((with_reducible refine Below.alloc ?_ ?_ _) ; rotate_left ; (focus (first | omega | (simp ; done) | (simp ; omega))))) | (with_reducible rfl) | (focus (simp ; done)))))
                  simp only [List.map_cons, List.map_nil, List.getD_cons_zero, List.getD_cons_succ]
                  (refine x_pure rfl _ ?_ rfl (by simp) ?_ ?_ ; rotate_left ; · (intro w5 K hK ; go_wp2_with fail ; exact rfl))
                  simp only [Act.put, List.setIfInBounds_toArray, List.set_cons_succ, List.set_cons_zero]
                  (refine x_pure rfl _ ?_ rfl (by simp) ?_ ?_ ; rotate_left ; · (intro w5 K hK ; go_wp2_with fail ; exact rfl))
                  simp only [Act.put, List.setIfInBounds_toArray, List.set_cons_succ, List.set_cons_zero]
                  (refine x_pure rfl _ ?_ rfl (by simp) ?_ ?_ ; rotate_left ; · (intro w5 K hK ; go_wp2_with fail ; exact rfl))
                  simp only [Act.put, List.setIfInBounds_toArray, List.set_cons_succ, List.set_cons_zero]
                  (refine x_quiet rfl hSt (fun _ h => h) _ ?_ rfl (by simp) ?_ ?_ ; rotate_left ; · (intro w5 hC K hK ; have hc := hC ; have q := HQ.out _ (HT2.out.2.trans (hc.mono HT2.out.2.size)) ; go_wp2_with fail ; refine ⟨?_, Below.refl _ _⟩ ; exact rfl))
                  simp only [Act.put, List.setIfInBounds_toArray, List.set_cons_succ, List.set_cons_zero]
                  (refine x_pure rfl _ ?_ rfl (by simp) ?_ ?_ ; rotate_left ; · (intro w5 K hK ; go_wp2_with fail ; exact rfl))
                  simp only [Act.put, List.setIfInBounds_toArray, List.set_cons_succ, List.set_cons_zero]
                  (refine x_pure rfl _ ?_ rfl (by simp) ?_ ?_ ; rotate_left ; · (intro w5 K hK ; go_wp2_with fail ; exact rfl))
                  simp only [Act.put, List.setIfInBounds_toArray, List.set_cons_succ, List.set_cons_zero]
                  (refine x_pure rfl _ ?_ rfl (by simp) ?_ ?_ ; rotate_left ; · (intro w5 K hK ; go_wp2_with fail ; exact rfl))
                  simp only [Act.put, List.setIfInBounds_toArray, List.set_cons_succ, List.set_cons_zero]
                  (refine x_quiet rfl hSt (fun _ h => h) _ ?_ rfl (by simp) ?_ ?_ ; rotate_left ; · (intro w5 hC K hK ; have hc := hC ; have q := HQ.out _ (HT2.out.2.trans (hc.mono HT2.out.2.size)) ; go_wp2_with fail ; refine ⟨?_, Below.refl _ _⟩ ; exact rfl))
                  simp only [Act.put, List.setIfInBounds_toArray, List.set_cons_succ, List.set_cons_zero]
                  (refine x_pure rfl _ ?_ rfl (by simp) ?_ ?_ ; rotate_left ; · (intro w5 K hK ; go_wp2_with fail ; exact rfl))
                  simp only [Act.put, List.setIfInBounds_toArray, List.set_cons_succ, List.set_cons_zero]
                  (refine x_pure rfl _ ?_ rfl (by simp) ?_ ?_ ; rotate_left ; · (intro w5 K hK ; go_wp2_with fail ; exact rfl))
                  simp only [Act.put, List.setIfInBounds_toArray, List.set_cons_succ, List.set_cons_zero]
                  first | refine x_nil ?_ | refine x_end ?_
                  rintro w5 hc
                  have HT3 : Hid (StAt w5 sb tb mb 3 c M2 t ∧ Below w.heap.size w w5) := ⟨HT2.out.1.below hc, HT2.out.2.trans (hc.mono HT2.out.2.size)⟩
                  clear hc hSt HT2 HQ
                  by_cases c1 : 16 < a.size
                  · have d1 : (16 : Int) < (a.size : Int) := by omega
                    go_wp2_with fail
                    go_roundw
                    case rel => exact ⟨j + 1, M2, by omega, by go_num, HT3.out, by omega⟩
                    case measure => simp [intOf]; omega
                  · by_cases c2 : 16 < b.size
                    · have d1 : (a.size : Int) ≤ 16 := by omega
                      have d2 : (16 : Int) < (b.size : Int) := by omega
                      clear c1
                      go_wp2_with fail
                      go_roundw
                      case rel => exact ⟨j + 1, M2, by omega, by go_num, HT3.out, by omega⟩
                      case measure => simp [intOf]; omega
                    · have d1 : (a.size : Int) ≤ 16 := by omega
                      have d2 : (b.size : Int) ≤ 16 := by omega
                      have hca : a.size ≤ 16 := by omega
                      have hcb : b.size ≤ 16 := by omega
                      clear c1 c2
                      cases hkl : klb b a with
                      | true =>
                        have d3 : Op.bytesLess a.toList b.toList = false := klb_asymm hkl
                        have d4 : (a.toList == b.toList) = false := by rw [beq_eq_false_iff_ne]; intro hh; rw [toList_inj hh, klb_irrefl] at hkl; cases hkl
                        clear hkl hca hcb
                        go_wp2_with fail
                        go_roundw
                        case rel => exact ⟨j + 1, M2, by omega, by go_num, HT3.out, by omega⟩
                        case measure => simp [intOf]; omega
                      | false =>
                        have d3 : (Op.bytesLess a.toList b.toList || a.toList == b.toList) = true := by
                          cases hk2 : klb a b
                          · rw [klb_total hk2 hkl]; simp
                          · rw [show Op.bytesLess a.toList b.toList = true from hk2]; rfl
                        have r1 := rankT_mono hkl t HC.out.ris
                        have r2 := rankT_le b t
                        obtain ⟨⟨X1, X2, X3⟩, hX⟩ : ∃ X, X = tsum (piecesT (rankT a t) (rankT b t) t) := ⟨_, rfl⟩
                        obtain ⟨⟨Y1, Y2, Y3⟩, hY⟩ : ∃ X, X = tsum (piecesT (rankT b t) t.size t) := ⟨_, rfl⟩
                        obtain ⟨⟨Z1, Z2, Z3⟩, hZ⟩ : ∃ X, X = tsum (piecesT (rankT a t) t.size t) := ⟨_, rfl⟩
                        have hXYZ : tadd (X1, X2, X3) (Y1, Y2, Y3) = (Z1, Z2, Z3) := by
                          rw [hX, hY, hZ]; exact cut_two HC.out.oks (by omega) (by omega) (by omega)
                        have HJ : Hid (∀ w1 : World, Calls Tryd.prog 12 #[tv X1 X2 X3, tv Y1 Y2 Y3] w1 fun e w' => e = .returned (tv Z1 Z2 Z3) ∧ Below w1.heap.size w1 w') := fun w1 => join_of hXYZ w1
                        have C1 : Hid (∀ (M : Nat) (w : World), StAt w sb tb mb 3 c M t → M ≤ 4611686018427360000 → Calls Tryd.prog 11 #[.pointer (some ⟨sb, 0, none⟩), rgV a b false] w (SFoldOf w sb tb mb 3 c M t (X1, X2, X3))) := fun M w h hM => by
                          rw [hX]
                          exact sfold_any sb tb mb 3 c M t a b false w h (by omega) HK.out.1 (by have := HK.out.2; omega) (by have := HK.out.2; omega) hca hcb (by unfold rgOk; rw [hkl]; rfl)
                        have C2 : Hid (∀ (M : Nat) (w : World), StAt w sb tb mb 3 c M t → M ≤ 4611686018427360000 → Calls Tryd.prog 11 #[.pointer (some ⟨sb, 0, none⟩), rgV b ⟨#[]⟩ true] w (SFoldOf w sb tb mb 3 c M t (Y1, Y2, Y3))) := fun M w h hM => by
                          rw [hY]
                          exact sfold_any sb tb mb 3 c M t b ⟨#[]⟩ true w h (by omega) HK.out.1 (by have := HK.out.2; omega) (by have := HK.out.2; omega) hcb size_empty (rgOk_open b)
                        have C3 : Hid (∀ (M : Nat) (w : World), StAt w sb tb mb 3 c M t → M ≤ 4611686018427360000 → Calls Tryd.prog 11 #[.pointer (some ⟨sb, 0, none⟩), rgV a ⟨#[]⟩ true] w (SFoldOf w sb tb mb 3 c M t (Z1, Z2, Z3))) := fun M w h hM => by
                          rw [hZ]
                          exact sfold_any sb tb mb 3 c M t a ⟨#[]⟩ true w h (by omega) HK.out.1 (by have := HK.out.2; omega) (by have := HK.out.2; omega) hca size_empty (rgOk_open a)
                        clear hX hY hZ hXYZ hkl hca hcb r1 r2
                        go_wp2_with fail
                        refine (sjoins_any sb tb mb 3 c M2 t _ HT3.out.1).mono ?_
                        rintro e w5 ⟨rfl, rfl⟩
                        clear d1 d2 d3
                        go_wp2_with fail
                        refine (C1.out M2 _ HT3.out.1 (by omega)).mono ?_
                        rintro e w6 ⟨rfl, m1, hm1, hst6, hk6⟩
                        have HT6 : Hid (StAt w6 sb tb mb 3 c (M2 + m1) t ∧ Below w.heap.size w w6) := ⟨hst6, HT3.out.2.trans (hk6.below HT3.out.2.size fun k e => by rw [e]; exact HN.out.2.2)⟩
                        clear hst6 hk6 HT3 C1
                        go_wp2_with fail
                        have hx6 := below_alloc_self w6 (.cells #[.int .i64 X1, .int .u64 X2, .int .u64 X3] 44 (0, 0))
                        have hlt6 := blk_lt HT6.out.1.mt
                        have g14 : (w6.alloc (.cells #[.int .i64 X1, .int .u64 X2, .int .u64 X3] 44 (0, 0))).heap[w6.heap.size]? = some (.cells #[.int .i64 X1, .int .u64 X2, .int .u64 X3] 44 (0, 0)) := by (repeat (first | (with_reducible assumption) | (with_reducible exact Below.refl _ _) | (with_reducible refine heap_drew ?_) | (focus ((with_reducible refine heap_new ?_) ; simp ; done)) | (with_reducible apply heap_set_to) | (focus ((with_reducible refine heap_set_ne ?_ ?_ _) ; rotate_left ; (focus (first | omega | (simp ; done) | (simp ; omega))))) | (with_reducible refine heap_old ?_) | (with_reducible refine Below.drew ?_) | (with_reducible refine below_set ?_ _ _) | (focus ((with_reducible refine Below.setCell ?_ ?_ _) ; rotate_left ; (focus (first | omega | (simp ; done) | (simp ; omega))))) | (focus ((with_reducible refine Below.alloc ?_ ?_ _) ; rotate_left ; (focus (first | omega | (simp ; done) | (simp ; omega))))) | (with_reducible rfl) | (focus (simp ; done))))
                        refine (C2.out (M2 + m1) _ (HT6.out.1.below hx6) (by have := HK.out.2; omega)).mono ?_
                        rintro e w7 ⟨rfl, m2, hm2, hst7, hk7⟩
                        have hb7 : Below w.heap.size w w7 := (HT6.out.2.trans (hx6.mono HT6.out.2.size)).trans (hk7.below (Nat.le_trans HT6.out.2.size hx6.size) fun k e => by rw [e]; exact HN.out.2.2)
                        have k14 := hk7.blk g14 (Nat.ne_of_gt hlt6)
                        obtain ⟨b14, e14⟩ : ∃ x, x = w6.heap.size := ⟨_, rfl⟩
                        rw [← e14] at k14 ⊢
                        have HT7 := Lib.hid (And.intro hst7 hb7)
                        have H14 := Lib.hid k14
                        have n14 : b14 ≠ mb := by omega
                        clear hst7 hk7 hb7 HT6 C2 g14 k14 e14 hx6 hlt6
                        go_wp2_with fail
                        have hx7 := below_alloc_self w7 (.cells #[.int .i64 Y1, .int .u64 Y2, .int .u64 Y3] 44 (0, 0))
                        have hlt7 := blk_lt HT7.out.1.mt
                        have g16 : (w7.alloc (.cells #[.int .i64 Y1, .int .u64 Y2, .int .u64 Y3] 44 (0, 0))).heap[w7.heap.size]? = some (.cells #[.int .i64 Y1, .int .u64 Y2, .int .u64 Y3] 44 (0, 0)) := by (repeat (first | (with_reducible assumption) | (with_reducible exact Below.refl _ _) | (with_reducible refine heap_drew ?_) | (focus ((with_reducible refine heap_new ?_) ; simp ; done)) | (with_reducible apply heap_set_to) | (focus ((with_reducible refine heap_set_ne ?_ ?_ _) ; rotate_left ; (focus (first | omega | (simp ; done) | (simp ; omega))))) | (with_reducible refine heap_old ?_) | (with_reducible refine Below.drew ?_) | (with_reducible refine below_set ?_ _ _) | (focus ((with_reducible refine Below.setCell ?_ ?_ _) ; rotate_left ; (focus (first | omega | (simp ; done) | (simp ; omega))))) | (focus ((with_reducible refine Below.alloc ?_ ?_ _) ; rotate_left ; (focus (first | omega | (simp ; done) | (simp ; omega))))) | (with_reducible rfl) | (focus (simp ; done))))
                        refine (C3.out (M2 + m1 + m2) _ (HT7.out.1.below hx7) (by have := HK.out.2; omega)).mono ?_
                        rintro e w8 ⟨rfl, m3, hm3, hst8, hk8⟩
                        have hb8 : Below w.heap.size w w8 := (HT7.out.2.trans (hx7.mono HT7.out.2.size)).trans (hk8.below (Nat.le_trans HT7.out.2.size hx7.size) fun k e => by rw [e]; exact HN.out.2.2)
                        have k14 := hk8.blk (blk_below H14.out hx7) n14
                        have k16 := hk8.blk g16 (Nat.ne_of_gt hlt7)
                        obtain ⟨b16, e16⟩ : ∃ x, x = w7.heap.size := ⟨_, rfl⟩
                        rw [← e16] at k16 ⊢
                        have HT8 := Lib.hid (And.intro hst8 hb8)
                        have HG8 := Lib.hid (And.intro k14 k16)
                        clear hst8 hk8 hb8 HT7 C3 g16 k14 k16 e16 hx7 hlt7 H14
                        go_wp2_with fail
                        have hx8 := below_alloc_self w8 (.cells #[.int .i64 Z1, .int .u64 Z2, .int .u64 Z3] 44 (0, 0))
                        have g18 : (w8.alloc (.cells #[.int .i64 Z1, .int .u64 Z2, .int .u64 Z3] 44 (0, 0))).heap[w8.heap.size]? = some (.cells #[.int .i64 Z1, .int .u64 Z2, .int .u64 Z3] 44 (0, 0)) := by (repeat (first | (with_reducible assumption) | (with_reducible exact Below.refl _ _) | (with_reducible refine heap_drew ?_) | (focus ((with_reducible refine heap_new ?_) ; simp ; done)) | (with_reducible apply heap_set_to) | (focus ((with_reducible refine heap_set_ne ?_ ?_ _) ; rotate_left ; (focus (first | omega | (simp ; done) | (simp ; omega))))) | (with_reducible refine heap_old ?_) | (with_reducible refine Below.drew ?_) | (with_reducible refine below_set ?_ _ _) | (focus ((with_reducible refine Below.setCell ?_ ?_ _) ; rotate_left ; (focus (first | omega | (simp ; done) | (simp ; omega))))) | (focus ((with_reducible refine Below.alloc ?_ ?_ _) ; rotate_left ; (focus (first | omega | (simp ; done) | (simp ; omega))))) | (with_reducible rfl) | (focus (simp ; done))))
                        obtain ⟨b18, e18⟩ : ∃ x, x = w8.heap.size := ⟨_, rfl⟩
                        rw [← e18] at g18 ⊢
                        obtain ⟨M3, hM3⟩ : ∃ x, x = M2 + m1 + m2 + m3 := ⟨_, rfl⟩
                        have hs8 := HT8.out.1.below hx8
                        rw [← hM3] at hs8
                        have HT9 := Lib.hid (And.intro hs8 (HT8.out.2.trans (hx8.mono HT8.out.2.size)))
                        have HG9 := Lib.hid (And.intro (blk_below HG8.out.1 hx8) (And.intro (blk_below HG8.out.2 hx8) g18))
                        have hhg := HC.out.high
                        have hlg9 := HC.out.lg9
                        have HD := Lib.hid (show (M3 : Int) - (M2 : Int) ≤ 3 * (16 * (1 + (lg (t.size : Int) : Int))) by omega)
                        have hM3' : M3 ≤ M2 + 228 := by have := HK.out.2; omega
                        have hM23 : M2 ≤ M3 := by omega
                        clear hs8 e18 g18 hx8 HT8 HG8 hM3 hm1 hm2 hm3
                        generalize w8.alloc (.cells #[.int .i64 Z1, .int .u64 Z2, .int .u64 Z3] 44 (0, 0)) = w9 at *
                        have hSt : Stable (fun w10 : World => (Below w9.heap.size w9 w10)) := by repeat (first | exact stable_ext _ | exact stable_blk _ _ | exact stable_true | (refine stable_bel ?_ ; (focus (first | (simp [World.size_setCell] ; done) | (simp [World.setCell] ; done)))) | refine Stable.and ?_ ?_)
                        refine wp_region_x [0, 1, 2, 3, 4, 5, 6, 7, 8, 9, 10, 11, 12, 13, 14, 15, 16, 17, 18, 19, 20, 21, 22, 23, 24, 25, 26, 27] [0, 0, 0, 0, 0, 0, 0, 0, 0, 0, 0, 1, 1, 1, 1, 0, 0, 0, 0, 1, 0, 0, 0, 1, 1, 0, 0, 0] (fun w10 => (Below w9.heap.size w9 w10)) (by kernel_rfl) (by kernel_rfl) ?_ ?_
                        · (first | trivial | (repeat (first | (with_reducible assumption) | (with_reducible exact Below.refl _ _) | (with_reducible refine heap_drew ?_) | (focus ((with_reducible refine heap_new ?_) ; simp ; done)) | (with_reducible apply heap_set_to) | (focus ((with_reducible refine heap_set_ne ?_ ?_ _) ; rotate_left ; (focus (first | omega | (simp ; done) | (simp ; omega))))) | (with_reducible refine heap_old ?_) | (with_reducible refine Below.drew ?_) | (with_reducible refine below_set ?_ _ _) | (focus ((with_reducible refine Below.setCell ?_ ?_ _) ; rotate_left ; (focus (first | omega | (simp ; done) | (simp ; omega))))) | (focus ((with_reducible refine Below.alloc ?_ ?_ _) ; rotate_left ; (focus (first | omega | (simp ; done) | (simp ; omega))))) | (with_reducible rfl) | (focus (simp ; done)))))
                        simp only [List.map_cons, List.map_nil, List.getD_cons_zero, List.getD_cons_succ]
                        (refine x_pure rfl _ ?_ rfl (by simp) ?_ ?_ ; rotate_left ; · (intro w10 K hK ; go_wp2_with fail ; exact rfl))
                        simp only [Act.put, List.setIfInBounds_toArray, List.set_cons_succ, List.set_cons_zero]
                        (refine x_pure rfl _ ?_ rfl (by simp) ?_ ?_ ; rotate_left ; · (intro w10 K hK ; go_wp2_with fail ; exact rfl))
                        simp only [Act.put, List.setIfInBounds_toArray, List.set_cons_succ, List.set_cons_zero]
                        (refine x_pure rfl _ ?_ rfl (by simp) ?_ ?_ ; rotate_left ; · (intro w10 K hK ; go_wp2_with fail ; exact rfl))
                        simp only [Act.put, List.setIfInBounds_toArray, List.set_cons_succ, List.set_cons_zero]
                        first | ((with_reducible refine x_skip ?_ ?_) ; (focus rfl)) | (refine x_pure rfl _ ?_ rfl (by simp) ?_ ?_ ; rotate_left ; · (intro w10 K hK ; go_wp2_with fail ; exact rfl))
                        simp only [Act.put, List.setIfInBounds_toArray, List.set_cons_succ, List.set_cons_zero]
                        first | ((with_reducible refine x_skip ?_ ?_) ; (focus rfl)) | (refine x_pure rfl _ ?_ rfl (by simp) ?_ ?_ ; rotate_left ; · (intro w10 K hK ; go_wp2_with fail ; exact rfl))
                        simp only [Act.put, List.setIfInBounds_toArray, List.set_cons_succ, List.set_cons_zero]
                        (refine x_pure rfl _ ?_ rfl (by simp) ?_ ?_ ; rotate_left ; · (intro w10 K hK ; go_wp2_with fail ; exact rfl))
                        simp only [Act.put, List.setIfInBounds_toArray, List.set_cons_succ, List.set_cons_zero]
                        (refine x_pure rfl _ ?_ rfl (by simp) ?_ ?_ ; rotate_left ; · (intro w10 K hK ; go_wp2_with fail ; exact rfl))
                        simp only [Act.put, List.setIfInBounds_toArray, List.set_cons_succ, List.set_cons_zero]
                        first | ((with_reducible refine x_skip ?_ ?_) ; (focus rfl)) | (refine x_pure rfl _ ?_ rfl (by simp) ?_ ?_ ; rotate_left ; · (intro w10 K hK ; go_wp2_with fail ; exact rfl))
                        simp only [Act.put, List.setIfInBounds_toArray, List.set_cons_succ, List.set_cons_zero]
                        first | ((with_reducible refine x_skip ?_ ?_) ; (focus rfl)) | (refine x_pure rfl _ ?_ rfl (by simp) ?_ ?_ ; rotate_left ; · (intro w10 K hK ; go_wp2_with fail ; exact rfl))
                        simp only [Act.put, List.setIfInBounds_toArray, List.set_cons_succ, List.set_cons_zero]
                        (refine x_pure rfl _ ?_ rfl (by simp) ?_ ?_ ; rotate_left ; · (intro w10 K hK ; go_wp2_with fail ; exact rfl))
                        simp only [Act.put, List.setIfInBounds_toArray, List.set_cons_succ, List.set_cons_zero]
                        (refine x_pure rfl _ ?_ rfl (by simp) ?_ ?_ ; rotate_left ; · (intro w10 K hK ; go_wp2_with fail ; exact rfl))
                        simp only [Act.put, List.setIfInBounds_toArray, List.set_cons_succ, List.set_cons_zero]
                        first | ((with_reducible refine x_skip ?_ ?_) ; (focus rfl)) | (refine x_quiet rfl hSt (fun _ h => h) _ ?_ rfl (by simp) ?_ ?_ ; rotate_left ; · (intro w10 hC K hK ; have hc := hC ; have q14 := blk3 (blk_below HG9.out.1 hc) ; have q16 := blk3 (blk_below HG9.out.2.1 hc) ; have q18 := blk3 (blk_below HG9.out.2.2 hc) ; go_wp2_with fail ; refine ⟨?_, Below.refl _ _⟩ ; exact rfl))
                        simp only [Act.put, List.setIfInBounds_toArray, List.set_cons_succ, List.set_cons_zero]
                        first | ((with_reducible refine x_skip ?_ ?_) ; (focus rfl)) | (refine x_quiet rfl hSt (fun _ h => h) _ ?_ rfl (by simp) ?_ ?_ ; rotate_left ; · (intro w10 hC K hK ; have hc := hC ; have q14 := blk3 (blk_below HG9.out.1 hc) ; have q16 := blk3 (blk_below HG9.out.2.1 hc) ; have q18 := blk3 (blk_below HG9.out.2.2 hc) ; go_wp2_with fail ; refine ⟨?_, Below.refl _ _⟩ ; exact rfl))
                        simp only [Act.put, List.setIfInBounds_toArray, List.set_cons_succ, List.set_cons_zero]
                        first | ((with_reducible refine x_skip ?_ ?_) ; (focus rfl)) | (refine x_quiet rfl hSt (fun _ h => h) _ ?_ rfl (by simp) ?_ ?_ ; rotate_left ; · (intro w10 hC K hK ; have hc := hC ; have q14 := blk3 (blk_below HG9.out.1 hc) ; have q16 := blk3 (blk_below HG9.out.2.1 hc) ; have q18 := blk3 (blk_below HG9.out.2.2 hc) ; go_wp2_with fail ; refine (HJ.out w10).mono ?_ ; rintro e w2 ⟨rfl, hb2⟩ ; refine hK _ _ ⟨?_, rfl, hb2⟩ ; (try simp only [List.getElem?_toArray, List.getElem?_cons_succ, List.getElem?_cons_zero]) ; exact rfl))
                        simp only [Act.put, List.setIfInBounds_toArray, List.set_cons_succ, List.set_cons_zero]
                        first | ((with_reducible refine x_skip ?_ ?_) ; (focus rfl)) | (refine x_quiet rfl hSt (fun _ h => h) _ ?_ rfl (by simp) ?_ ?_ ; rotate_left ; · (intro w10 hC K hK ; have hc := hC ; have q14 := blk3 (blk_below HG9.out.1 hc) ; have q16 := blk3 (blk_below HG9.out.2.1 hc) ; have q18 := blk3 (blk_below HG9.out.2.2 hc) ; go_wp2_with fail ; refine ⟨?_, Below.refl _ _⟩ ; exact rfl))
                        simp only [Act.put, List.setIfInBounds_toArray, List.set_cons_succ, List.set_cons_zero]
                        first | ((with_reducible refine x_skip ?_ ?_) ; (focus rfl)) | (refine x_pure rfl _ ?_ rfl (by simp) ?_ ?_ ; rotate_left ; · (intro w10 K hK ; go_wp2_with fail ; exact rfl))
                        simp only [Act.put, List.setIfInBounds_toArray, List.set_cons_succ, List.set_cons_zero]
                        (refine x_pure rfl _ ?_ rfl (by simp) ?_ ?_ ; rotate_left ; · (intro w10 K hK ; go_wp2_with fail ; exact rfl))
                        simp only [Act.put, List.setIfInBounds_toArray, List.set_cons_succ, List.set_cons_zero]
                        (refine x_pure rfl _ ?_ rfl (by simp) ?_ ?_ ; rotate_left ; · (intro w10 K hK ; go_wp2_with fail ; exact rfl))
                        simp only [Act.put, List.setIfInBounds_toArray, List.set_cons_succ, List.set_cons_zero]
                        first | ((with_reducible refine x_skip ?_ ?_) ; (focus rfl)) | (refine x_pure rfl _ ?_ rfl (by simp) ?_ ?_ ; rotate_left ; · (intro w10 K hK ; go_wp2_with fail ; exact rfl))
                        simp only [Act.put, List.setIfInBounds_toArray, List.set_cons_succ, List.set_cons_zero]
                        first | ((with_reducible refine x_skip ?_ ?_) ; (focus rfl)) | (refine x_quiet rfl hSt (fun _ h => h) _ ?_ rfl (by simp) ?_ ?_ ; rotate_left ; · (intro w10 hC K hK ; have hc := hC ; have q14 := blk3 (blk_below HG9.out.1 hc) ; have q16 := blk3 (blk_below HG9.out.2.1 hc) ; have q18 := blk3 (blk_below HG9.out.2.2 hc) ; go_wp2_with fail ; refine (sjoinsb sb tb mb 3 c M3 t w10 (HT9.out.1.below hc)).mono ?_ ; rintro e w2 ⟨rfl, hb2⟩ ; refine hK _ _ ⟨?_, rfl, hb2⟩ ; (try simp only [List.getElem?_toArray, List.getElem?_cons_succ, List.getElem?_cons_zero]) ; exact rfl))
                        simp only [Act.put, List.setIfInBounds_toArray, List.set_cons_succ, List.set_cons_zero]
                        first | ((with_reducible refine x_skip ?_ ?_) ; (focus rfl)) | (refine x_pure rfl _ ?_ rfl (by simp) ?_ ?_ ; rotate_left ; · (intro w10 K hK ; go_wp2_with fail ; exact rfl))
                        simp only [Act.put, List.setIfInBounds_toArray, List.set_cons_succ, List.set_cons_zero]
                        first | ((with_reducible refine x_skip ?_ ?_) ; (focus rfl)) | (refine x_pure rfl _ ?_ rfl (by simp) ?_ ?_ ; rotate_left ; · (intro w10 K hK ; go_wp2_with fail ; exact rfl))
                        simp only [Act.put, List.setIfInBounds_toArray, List.set_cons_succ, List.set_cons_zero]
                        first | ((with_reducible refine x_skip ?_ ?_) ; (focus rfl)) | (refine x_pure rfl _ ?_ rfl (by simp) ?_ ?_ ; rotate_left ; · (intro w10 K hK ; go_wp2_with fail ; exact rfl))
                        simp only [Act.put, List.setIfInBounds_toArray, List.set_cons_succ, List.set_cons_zero]
                        first | ((with_reducible refine x_skip ?_ ?_) ; (focus rfl)) | (refine x_quiet rfl hSt (fun _ h => h) _ ?_ rfl (by simp) ?_ ?_ ; rotate_left ; · (intro w10 hC K hK ; have hc := hC ; have q14 := blk3 (blk_below HG9.out.1 hc) ; have q16 := blk3 (blk_below HG9.out.2.1 hc) ; have q18 := blk3 (blk_below HG9.out.2.2 hc) ; go_wp2_with fail ; refine (slenb sb tb mb 3 c M3 t w10 (HT9.out.1.below hc)).mono ?_ ; rintro e w2 ⟨rfl, hb2⟩ ; refine hK _ _ ⟨?_, rfl, hb2⟩ ; (try simp only [List.getElem?_toArray, List.getElem?_cons_succ, List.getElem?_cons_zero]) ; exact rfl))
                        simp only [Act.put, List.setIfInBounds_toArray, List.set_cons_succ, List.set_cons_zero]
                        first | ((with_reducible refine x_skip ?_ ?_) ; (focus rfl)) | (refine x_quiet rfl hSt (fun _ h => h) _ ?_ rfl (by simp) ?_ ?_ ; rotate_left ; · (intro w10 hC K hK ; have hc := hC ; have q14 := blk3 (blk_below HG9.out.1 hc) ; have q16 := blk3 (blk_below HG9.out.2.1 hc) ; have q18 := blk3 (blk_below HG9.out.2.2 hc) ; go_wp2_with fail ; refine (boundb (t.size : Int) (inr_small (by omega)) w10).mono ?_ ; rintro e w2 ⟨rfl, hb2⟩ ; refine hK _ _ ⟨?_, rfl, hb2⟩ ; (try simp only [List.getElem?_toArray, List.getElem?_cons_succ, List.getElem?_cons_zero]) ; exact rfl))
                        simp only [Act.put, List.setIfInBounds_toArray, List.set_cons_succ, List.set_cons_zero]
                        first | ((with_reducible refine x_skip ?_ ?_) ; (focus rfl)) | (refine x_pure rfl _ ?_ rfl (by simp) ?_ ?_ ; rotate_left ; · (intro w10 K hK ; go_wp2_with fail ; exact rfl))
                        simp only [Act.put, List.setIfInBounds_toArray, List.set_cons_succ, List.set_cons_zero]
                        first | ((with_reducible refine x_skip ?_ ?_) ; (focus rfl)) | (refine x_pure rfl _ ?_ rfl (by simp) ?_ ?_ ; rotate_left ; · (intro w10 K hK ; go_wp2_with fail ; exact rfl))
                        simp only [Act.put, List.setIfInBounds_toArray, List.set_cons_succ, List.set_cons_zero]
                        (refine x_pure rfl _ ?_ rfl (by simp) ?_ ?_ ; rotate_left ; · (intro w10 K hK ; go_wp2_with fail ; exact rfl))
                        simp only [Act.put, List.setIfInBounds_toArray, List.set_cons_succ, List.set_cons_zero]
                        first | refine x_nil ?_ | refine x_end ?_
                        rintro w10 hc
                        have HT10 : Hid (StAt w10 sb tb mb 3 c M3 t ∧ Below w.heap.size w w10) := ⟨HT9.out.1.below hc, HT9.out.2.trans (hc.mono HT9.out.2.size)⟩
                        clear hc hSt HT9 HG9
                        have d := HD.out
                        clear HD
                        go_wp2_with fail
                        go_roundw
                        case rel => exact ⟨j + 1, M3, by omega, by go_num, HT10.out, by omega⟩
                        case measure => simp [intOf]; omega
                · obtain rfl : j = m.length := by omega
                  clear hlj hj
                  go_wp2_with fail
                  go_roundw
                  case rel => exact ⟨i + 1, M2, by omega, by go_num, HT2.out, by omega⟩
                  case measure => simp [intOf]; omega
            · obtain rfl : i = m.length := by omega
              have hsum : (tsum (piecesT (rankT ⟨#[]⟩ t) t.size t)).1 = (t.size : Int) := by
                rw [rankT_empty, pieces_sum t _ _ (by omega) HC.out.oks, cutL_all (by simp) (by simp [Tr.talls, Tr.rows_length]), tsum_count]
                · simp [Tr.talls, Tr.rows_length]
                · intro s hs
                  obtain ⟨x, hx, rfl⟩ := List.mem_map.1 hs
                  exact HC.out.one x hx
                · simp [Tr.talls, Tr.rows_length]; omega
              obtain ⟨⟨S1, S2, S3⟩, hS⟩ : ∃ X, X = tsum (piecesT (rankT ⟨#[]⟩ t) t.size t) := ⟨_, rfl⟩
              have C4 : Hid (∀ (M : Nat) (w : World), StAt w sb tb mb 3 c M t → M ≤ 4611686018427360000 → Calls Tryd.prog 11 #[.pointer (some ⟨sb, 0, none⟩), rgV ⟨#[]⟩ ⟨#[]⟩ true] w (SFoldOf w sb tb mb 3 c M t (S1, S2, S3))) := fun M w h hM => by
                rw [hS]
                exact sfold_any sb tb mb 3 c M t ⟨#[]⟩ ⟨#[]⟩ true w h (by omega) HK.out.1 (by have := HK.out.2; omega) (by have := HK.out.2; omega) size_empty size_empty (rgOk_open _)
              rw [← hS] at hsum
              obtain rfl : S1 = (t.size : Int) := hsum
              clear hS hi hli
              go_wp2_with fail
              refine (C4.out M1 _ HT1.out.1 (by omega)).mono ?_
              rintro e w6 ⟨rfl, m1, hm1, hst6, hk6⟩
              have HT6 : Hid (StAt w6 sb tb mb 3 c (M1 + m1) t ∧ Below w.heap.size w w6) := ⟨hst6, HT1.out.2.trans (hk6.below HT1.out.2.size fun k e => by rw [e]; exact HN.out.2.2)⟩
              clear hst6 hk6 HT1 C4
              go_wp2_with fail
              have hx6 := below_alloc_self w6 (.cells #[.int .i64 (t.size : Int), .int .u64 S2, .int .u64 S3] 44 (0, 0))
              have g20 : (w6.alloc (.cells #[.int .i64 (t.size : Int), .int .u64 S2, .int .u64 S3] 44 (0, 0))).heap[w6.heap.size]? = some (.cells #[.int .i64 (t.size : Int), .int .u64 S2, .int .u64 S3] 44 (0, 0)) := by (repeat (first | (with_reducible assumption) | (with_reducible exact Below.refl _ _) | (with_reducible refine heap_drew ?_) | (focus ((with_reducible refine heap_new ?_) ; simp ; done)) | (with_reducible apply heap_set_to) | (focus ((with_reducible refine heap_set_ne ?_ ?_ _) ; rotate_left ; (focus (first | omega | (simp ; done) | (simp ; omega))))) | (with_reducible refine heap_old ?_) | (with_reducible refine Below.drew ?_) | (with_reducible refine below_set ?_ _ _) | (focus ((with_reducible refine Below.setCell ?_ ?_ _) ; rotate_left ; (focus (first | omega | (simp ; done) | (simp ; omega))))) | (focus ((with_reducible refine Below.alloc ?_ ?_ _) ; rotate_left ; (focus (first | omega | (simp ; done) | (simp ; omega))))) | (with_reducible rfl) | (focus (simp ; done))))
              obtain ⟨b20, e20⟩ : ∃ x, x = w6.heap.size := ⟨_, rfl⟩
              rw [← e20] at g20 ⊢
              have HT9 := Lib.hid (And.intro (HT6.out.1.below hx6) (HT6.out.2.trans (hx6.mono HT6.out.2.size)))
              have HG9 := Lib.hid g20
              clear HT6 hx6 g20 e20
              generalize w6.alloc (.cells #[.int .i64 (t.size : Int), .int .u64 S2, .int .u64 S3] 44 (0, 0)) = w9 at *
              have hSt : Stable (fun w10 : World => (Below w9.heap.size w9 w10)) := by repeat (first | exact stable_ext _ | exact stable_blk _ _ | exact stable_true | (refine stable_bel ?_ ; (focus (first | (simp [World.size_setCell] ; done) | (simp [World.setCell] ; done)))) | refine Stable.and ?_ ?_)
              refine wp_region_x [0, 1, 2, 3, 4, 5, 6, 7, 8, 9] [0, 0, 0, 0, 1, 0, 1, 0, 0, 0] (fun w10 => (Below w9.heap.size w9 w10)) (by kernel_rfl) (by kernel_rfl) ?_ ?_
              · (first | trivial | (repeat (first | (with_reducible assumption) | (with_reducible exact Below.refl _ _) | (with_reducible refine heap_drew ?_) | (focus ((with_reducible refine heap_new ?_) ; simp ; done)) | (with_reducible apply heap_set_to) | (focus ((with_reducible refine heap_set_ne ?_ ?_ _) ; rotate_left ; (focus (first | omega | (simp ; done) | (simp ; omega))))) | (with_reducible refine heap_old ?_) | (with_reducible refine Below.drew ?_) | (with_reducible refine below_set ?_ _ _) | (focus ((with_reducible refine Below.setCell ?_ ?_ _) ; rotate_left ; (focus (first | omega | (simp ; done) | (simp ; omega))))) | (focus ((with_reducible refine Below.alloc ?_ ?_ _) ; rotate_left ; (focus (first | omega | (simp ; done) | (simp ; omega))))) | (with_reducible rfl) | (focus (simp ; done)))))
              simp only [List.map_cons, List.map_nil, List.getD_cons_zero, List.getD_cons_succ]
              (refine x_pure rfl _ ?_ rfl (by simp) ?_ ?_ ; rotate_left ; · (intro w10 K hK ; go_wp2_with fail ; exact rfl))
              simp only [Act.put, List.setIfInBounds_toArray, List.set_cons_succ, List.set_cons_zero]
              (refine x_pure rfl _ ?_ rfl (by simp) ?_ ?_ ; rotate_left ; · (intro w10 K hK ; go_wp2_with fail ; exact rfl))
              simp only [Act.put, List.setIfInBounds_toArray, List.set_cons_succ, List.set_cons_zero]
              (refine x_pure rfl _ ?_ rfl (by simp) ?_ ?_ ; rotate_left ; · (intro w10 K hK ; go_wp2_with fail ; exact rfl))
              simp only [Act.put, List.setIfInBounds_toArray, List.set_cons_succ, List.set_cons_zero]
              first | ((with_reducible refine x_skip ?_ ?_) ; (focus rfl)) | (refine x_pure rfl _ ?_ rfl (by simp) ?_ ?_ ; rotate_left ; · (intro w10 K hK ; go_wp2_with fail ; exact rfl))
              simp only [Act.put, List.setIfInBounds_toArray, List.set_cons_succ, List.set_cons_zero]
              first | ((with_reducible refine x_skip ?_ ?_) ; (focus rfl)) | (refine x_quiet rfl hSt (fun _ h => h) _ ?_ rfl (by simp) ?_ ?_ ; rotate_left ; · (intro w10 hC K hK ; have hc := hC ; have q20 := blk3 (blk_below HG9.out hc) ; go_wp2_with fail ; refine ⟨?_, Below.refl _ _⟩ ; exact rfl))
              simp only [Act.put, List.setIfInBounds_toArray, List.set_cons_succ, List.set_cons_zero]
              first | ((with_reducible refine x_skip ?_ ?_) ; (focus rfl)) | (refine x_pure rfl _ ?_ rfl (by simp) ?_ ?_ ; rotate_left ; · (intro w10 K hK ; go_wp2_with fail ; exact rfl))
              simp only [Act.put, List.setIfInBounds_toArray, List.set_cons_succ, List.set_cons_zero]
              first | ((with_reducible refine x_skip ?_ ?_) ; (focus rfl)) | (refine x_quiet rfl hSt (fun _ h => h) _ ?_ rfl (by simp) ?_ ?_ ; rotate_left ; · (intro w10 hC K hK ; have hc := hC ; have q20 := blk3 (blk_below HG9.out hc) ; go_wp2_with fail ; refine (slenb sb tb mb 3 c (M1 + m1) t w10 (HT9.out.1.below hc)).mono ?_ ; rintro e w2 ⟨rfl, hb2⟩ ; refine hK _ _ ⟨?_, rfl, hb2⟩ ; (try simp only [List.getElem?_toArray, List.getElem?_cons_succ, List.getElem?_cons_zero]) ; exact rfl))
              simp only [Act.put, List.setIfInBounds_toArray, List.set_cons_succ, List.set_cons_zero]
              first | ((with_reducible refine x_skip ?_ ?_) ; (focus rfl)) | (refine x_pure rfl _ ?_ rfl (by simp) ?_ ?_ ; rotate_left ; · (intro w10 K hK ; go_wp2_with fail ; exact rfl))
              simp only [Act.put, List.setIfInBounds_toArray, List.set_cons_succ, List.set_cons_zero]
              (refine x_pure rfl _ ?_ rfl (by simp) ?_ ?_ ; rotate_left ; · (intro w10 K hK ; go_wp2_with fail ; exact rfl))
              simp only [Act.put, List.setIfInBounds_toArray, List.set_cons_succ, List.set_cons_zero]
              (refine x_pure rfl _ ?_ rfl (by simp) ?_ ?_ ; rotate_left ; · (intro w10 K hK ; go_wp2_with fail ; exact rfl))
              simp only [Act.put, List.setIfInBounds_toArray, List.set_cons_succ, List.set_cons_zero]
              first | refine x_nil ?_ | refine x_end ?_
              rintro w10 hc
              have HZ : Hid (Below w.heap.size w w10) := HT9.out.2.trans (hc.mono HT9.out.2.size)
              clear hc hSt HT9 HG9
              go_wp2_with fail
              go_ret
              exact ⟨rfl, HZ.out⟩
end Go.Proofs.YtdflmplmpjghdaaDoor
