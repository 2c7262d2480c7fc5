/-
  BagScript: every answer is the document's; data that were handed in, and packets that came out, are nobody else's; an iterator tells what was there when it was asked for.
-/
import Derived.Test.YtepilaejfepicaaBRel
import Derived.Test.YtepilaejfepicaaBNew
import Derived.Test.YtepilaejfepicaaBOps
import Derived.Lib.Hide
namespace Go.Proofs.Ytepilaejfepicaa
open Go.ChangeShapes Go.WideShapes Go.ChangeAt Go.RowKit Go.Deep
set_option linter.unusedVariables false
set_option linter.unusedSimpArgs false

/-- What the loop keeps. -/
def SRel (wr : World) (B ba bb : Nat) (room : Int) (i : Nat) (va vb vw : Value) (S : St) (E : List Wk) : Prop :=
  Rel wr B ba bb va vb vw S S E (fun g => g < wr.heap.size) ∧ S.Ok i ∧ E.length ≤ i ∧ S.room = room

theorem neq_func_nil (f : Fn) (a b : Array Value) (w : World) : (binOp .neq 52 (.func f a b) .nilFunc).run Try.prog w = .ok (.bool true) w := by
  have h : ∀ d : Nat, (Op.equalIn (d + 1) 52 (.func f a b) .nilFunc).run Try.prog w = .ok false w := fun d => by
    simp [Op.equalIn, run_underlying Try.underlying52]
  simp only [binOp]
  simp [Op.equal, Op.maxDepth, h 9999]
attribute [go_sem] neq_func_nil
theorem row_shape {w : World} {B : Nat} {e : TypeId} {size : Nat} {v : Value} {n : Nat} {xs : List Value} (h : w.ownsRow B e size v n xs) : ∃ oa cap, v = .slice oa n cap ∧ n ≤ cap ∧ cap ≤ maxLen := by
  rcases h.2 with ⟨rfl, h0⟩ | ⟨g, cap, cur, rfl, hb, hg, hnc, hcm, hcs, ht⟩
  · exact ⟨none, 0, by rw [h0], by omega, Nat.zero_le _⟩
  · exact ⟨some ⟨g, 0, none⟩, cap, rfl, hnc, hcm⟩
theorem len_uni {w : World} {B b : Nat} {vs : Value} {S : St} {D : Nat → Prop} (h : BagI w B b vs S D) : Calls Try.prog 14 #[.pointer (some ⟨b, 0, none⟩)] w fun e w' => e = .returned (.int .i64 S.K.length) ∧ w' = w := by
  obtain ⟨L, h1, h2, _⟩ := h
  rw [keys_len h2]
  exact len_any B b vs _ _ _ L w h1
theorem lost_uni {w : World} {B b : Nat} {vs : Value} {S : St} {D : Nat → Prop} (h : BagI w B b vs S D) : Calls Try.prog 15 #[.pointer (some ⟨b, 0, none⟩)] w fun e w' => e = .returned (.int .i64 S.lost) ∧ w' = w := by
  obtain ⟨L, h1, h2, _⟩ := h
  exact lost_any B b vs _ _ _ L w h1
theorem rlen_uni {w : World} {B b : Nat} {vs : Value} {S : St} {D : Nat → Prop} (h : RBagI w B b vs S D) : Calls Try.prog 25 #[.pointer (some ⟨b, 0, none⟩)] w fun e w' => e = .returned (.int .i64 S.K.length) ∧ w' = w := by
  obtain ⟨L, h1, h2, _⟩ := h
  rw [keys_len h2]
  exact rlen_any B b vs _ _ _ L w h1
theorem rlost_uni {w : World} {B b : Nat} {vs : Value} {S : St} {D : Nat → Prop} (h : RBagI w B b vs S D) : Calls Try.prog 26 #[.pointer (some ⟨b, 0, none⟩)] w fun e w' => e = .returned (.int .i64 S.lost) ∧ w' = w := by
  obtain ⟨L, h1, h2, _⟩ := h
  exact rlost_any B b vs _ _ _ L w h1
theorem strCells_push (s : ByteArray) (b : UInt8) : Lib.strCells (s ++ ⟨#[b]⟩) = Lib.strCells s ++ [.int .u8 (b.toNat : Int)] := by
  unfold Lib.strCells
  simp
theorem size_push (s : ByteArray) (b : UInt8) : (s ++ ⟨#[b]⟩).size = s.size + 1 := by
  rw [ByteArray.size_append]
  rfl
/-- The first bytes of a row of bytes. -/
theorem reads_front {w : World} {g : Nat} {cs : Array Value} {s : ByteArray} {b : UInt8} (hg : w.heap[g]? = some (.cells cs 5 (0, 0))) (h : Lib.Bytes w g 0 (s ++ ⟨#[b]⟩)) : Reads w (some ⟨g, 0, none⟩) s := by
  refine Or.inr ⟨g, 0, rfl, blk_lt hg, fun i hi => ?_⟩
  have h2 : i < (s ++ ⟨#[b]⟩).size := by rw [size_push]; omega
  rw [h i h2]
  congr 2
  congr 1
  exact congrArg UInt8.toNat (ByteArray.getElem_append_left (h := h2) hi)
/-- walks = append(walks, walk{a.All(), b.All()}) : from the relation {R} in world {W}. -/
theorem takeS_size {S : St} {m : Nat} (h : S.Ok m) (i : Int) : (takeS S i).1.2.2.2.size ≤ 65536 := by
  unfold takeS
  split
  · show ByteArray.empty.size ≤ 65536
    decide
  · rename_i hi
    have hlt : i.toNat < S.K.length := by omega
    show (S.K.getD i.toNat noKey).2.2.2.size ≤ 65536
    rw [getD_mem _ hlt]
    exact h.size _ (List.getElem_mem hlt)
set_option maxRecDepth 100000 in
set_option maxHeartbeats 16000000 in
theorem script_walk (room : Int) (hr0 : -9223372036854775808 ≤ room ∧ room ≤ 9223372036854775807) (oa : Option Addr) (ca : Nat) (l : List OpE) (w : World) (hl : l.length * 56 ≤ 140737488351232) (hO : OpsAt w oa l) :
    Calls Try.prog 6 #[.int .i64 room, .slice oa l.length ca] w fun e w' => e = .returned (.bool true) ∧ Below w.heap.size w w' := by
  have HO : Hid (OpsAt w oa l) := hO
  clear hO
  obtain ⟨i0, hi, hz0, hz1, hz2⟩ := info_parts info_wk
  have HI : Hid (_ ∧ _ ∧ _ ∧ _) := ⟨hi, hz0, hz1, hz2⟩
  obtain ⟨i1, hj, hy0, hy1, hy2⟩ := info_parts info_byte
  have HU : Hid (_ ∧ _ ∧ _ ∧ _) := ⟨hj, hy0, hy1, hy2⟩
  clear hi hz0 hz1 hz2 hj hy0 hy1 hy2
  go_enter Try.func6, Try.ntmps6
  go_wp2_with fail
  refine (shown_any w).mono ?_
  rintro e w1 ⟨rfl, hb1⟩
  have hz1 := hb1.size
  go_wp2_with fail
  by_cases hbad : room < 1 ∨ 512 < room
  · refine (new_bad room w1 hbad).mono ?_
    rintro e w2 ⟨rfl, rfl⟩
    go_wp2_with fail
    refine (rnew_bad room w2 hbad).mono ?_
    rintro e w3 ⟨rfl, rfl⟩
    clear hbad
    go_wp2_with fail
    go_ret
    exact ⟨rfl, hb1⟩
  have hroom : 1 ≤ room ∧ room ≤ 512 := by omega
  refine (new_ok room w.heap.size w1 hroom hz1).mono ?_
  rintro e w2 ⟨ba, rfl, hba, hA2, hb2⟩
  have hb2w := below_back hb1 hz1 hb2
  have HA : Hid (BagAt w2 w.heap.size ba (.slice none 0 0) room 0 0 []) := hA2
  clear hA2 hb2 hbad
  go_wp2_with fail
  refine (rnew_ok room w.heap.size w2 hroom hb2w.size).mono ?_
  rintro e w3 ⟨bb, rfl, hbb, hA3, hb3⟩
  have hb3w := below_back hb2w hb2w.size hb3
  have HQ : Hid (SRel w3 w.heap.size ba bb room 0 (.slice none 0 0) (.slice none 0 0) (.slice none 0 0) ⟨room, 0, 0, []⟩ []) :=
    ⟨⟨⟨[], HA.out.below hb3, rfl, by simp, (fun p hp => by cases hp)⟩, ⟨[], hA3, rfl, (fun p hp => by cases hp)⟩, World.ownsRow_nil _ _ _ _, (fun e he => by cases he), (fun g hg => by cases hg), (fun e he => by cases he), (fun e he => by cases he), (fun e he => by cases he)⟩,
      ⟨by simp, hroom.2, by simp, by simp, by simp⟩, by simp, rfl⟩
  clear hA3 hb3 HA hba hbb hb1 hz1 hb2w
  go_wp2_with fail
  go_loopw [9, 57] (fun vw iv wr => ∃ (i : Nat) (va vb : Value) (S : St) (E : List Wk), i ≤ l.length ∧ iv = .int .i64 i ∧ Hid (SRel wr w.heap.size ba bb room i va vb vw S E) ∧ Below w.heap.size w wr) (fun _ iv _ => l.length - (intOf iv).toNat)
  case atStart => exact ⟨0, _, _, _, _, Nat.zero_le _, rfl, HQ.out, hb3w⟩
  case round =>
    clear HQ hb3w
    obtain ⟨i, va, vb, S, E, hi, rfl, HQ, hbr⟩ := hrel
    have hzr := hbr.size
    by_cases h1 : i < l.length
    · obtain ⟨hokl, ab, ao, rfl, hab, y0, y1, y2, y3, y4⟩ := HO.out i h1
      obtain ⟨⟨kind, frm, to, ii, ad, cap, st⟩, hee⟩ : ∃ e, e = l[i] := ⟨_, rfl⟩
      rw [← hee] at hokl y0 y1 y2 y3 y4
      simp only at y0 y1 y2 y3 y4
      replace y0 := (hbr.cell (p := ⟨ab, ao + i * 5, none⟩) hab).trans y0
      replace y1 := (hbr.cell (p := ⟨ab, ao + i * 5 + 1, none⟩) hab).trans y1
      replace y2 := (hbr.cell (p := ⟨ab, ao + i * 5 + 2, none⟩) hab).trans y2
      replace y3 := (hbr.cell (p := ⟨ab, ao + i * 5 + 3, none⟩) hab).trans y3
      replace y4 := (hbr.cell (p := ⟨ab, ao + i * 5 + 4, none⟩) hab).trans y4
      have HK : Hid (OpE.Ok w ⟨kind, frm, to, ii, ad, cap, st⟩) := hokl
      have hkr := (show Inr .i64 kind from hokl.1).i64
      have hfr := (show Inr .i64 frm from hokl.2.1).i64
      have htr := (show Inr .i64 to from hokl.2.2.1).i64
      have hir := (show Inr .i64 ii from hokl.2.2.2.1).i64
      have hsz : st.size ≤ 140737488351232 := hokl.2.2.2.2.2.2
      obtain ⟨ow, cw, rfl, hcw1, hcw2⟩ := row_shape HQ.out.1.ow
      unfold maxLen at hcw2
      have hEl := HQ.out.2.2.1
      clear hee hokl
      go_wp2_with fail
      refine (among_any kind 7 hkr (by omega) (by omega) _).mono ?_
      rintro e wx ⟨he, hwx⟩
      clear y0 y1 y2 y3 y4
      have gk : (wr.alloc (.cells #[.int .i64 kind, .int .i64 frm, .int .i64 to, .int .i64 ii, .slice ad st.size cap] 32 (0, 0))).heap[wr.heap.size]? = some (.cells #[.int .i64 kind, .int .i64 frm, .int .i64 to, .int .i64 ii, .slice ad st.size cap] 32 (0, 0)) := by (repeat (first | (with_reducible assumption) | (with_reducible exact Below.refl _ _) | (with_reducible refine heap_drew ?_) | (focus ((with_reducible refine heap_new ?_) ; simp ; done)) | (with_reducible apply heap_set_to) | (focus ((with_reducible refine heap_set_ne ?_ ?_ _) ; rotate_left ; (focus (first | omega | (simp ; done) | (simp ; omega))))) | (with_reducible refine heap_old ?_) | (with_reducible refine Below.drew ?_) | (with_reducible refine below_set ?_ _ _) | (focus ((with_reducible refine Below.setCell ?_ ?_ _) ; rotate_left ; (focus (first | omega | (simp ; done) | (simp ; omega))))) | (focus ((with_reducible refine Below.alloc ?_ ?_ _) ; rotate_left ; (focus (first | omega | (simp ; done) | (simp ; omega))))) | (with_reducible rfl) | (focus (simp ; done))))
      have hba := hbr.alloc hzr (.cells #[.int .i64 kind, .int .i64 frm, .int .i64 to, .int .i64 ii, .slice ad st.size cap] 32 (0, 0))
      have hT := HQ.out.1.below (below_alloc_self wr (.cells #[.int .i64 kind, .int .i64 frm, .int .i64 to, .int .i64 ii, .slice ad st.size cap] 32 (0, 0)))
      obtain ⟨n0, hn0⟩ : ∃ g, g = wr.heap.size := ⟨_, rfl⟩
      have hn0w : n0 < (wr.alloc (.cells #[.int .i64 kind, .int .i64 frm, .int .i64 to, .int .i64 ii, .slice ad st.size cap] 32 (0, 0))).heap.size := by rw [hn0]; simp
      have HSo : Hid (S.Ok i ∧ S.room = room) := ⟨HQ.out.2.1, HQ.out.2.2.2⟩
      rw [← hn0] at gk hT hzr ⊢
      clear hn0
      generalize hwa : wr.alloc (.cells #[.int .i64 kind, .int .i64 frm, .int .i64 to, .int .i64 ii, .slice ad st.size cap] 32 (0, 0)) = wa at *
      subst he
      subst hwx
      have HD : Hid (Rel wx w.heap.size ba bb va vb (.slice ow E.length cw) S S E (fun g => g < n0)) := hT
      clear hwa hT HQ hbr
      have qa := blk5 gk
      have hza := hba.size
      have HN : Hid (ad = none → st.size = 0 ∧ cap = 0) := HK.out.2.2.2.2.2.1
      have HR : Hid (∀ w', Below w.heap.size w w' → Reads w' ad st) := fun w' hb => HK.out.2.2.2.2.1.below hb
      by_cases hk0 : kind % 7 = 0
      · as_aux_lemma =>
          obtain ⟨sn, er, S', hts⟩ : ∃ a b c, sendS S frm to st = (a, b, c) := ⟨_, _, _, rfl⟩
          have hS' := sendS_ok HSo.out.1 frm to st
          have CA := fun w8 g c (h : BagI w8 w.heap.size ba va S (fun g => g < n0)) (hb : w.heap.size ≤ w8.heap.size) (hr : Reads w8 (some ⟨g, 0, none⟩) st) => send_uni HSo.out.1 (by omega) h hb frm to (some ⟨g, 0, none⟩) c st hr (fun h => by cases h)
          have CB := fun w8 (D : Nat → Prop) (h : RBagI w8 w.heap.size bb vb S D) (hb : w.heap.size ≤ w8.heap.size) (hr : Reads w8 ad st) => rsend_uni HSo.out.1 (by omega) h hb frm to ad cap st hr
          simp only [hts] at CA hS' CB
          have HCA := Lib.hid CA
          have HCB := Lib.hid CB
          clear CA CB hts
          go_wp2_with (first
            | (at_builtin; (refine wpList_append_any _ rfl (.const (.slice none 0 0)) (.tmp 92) 30 rfl wx.heap.size 5 i1 _ 1 1 Try.underlying30 HU.out.1 HU.out.2.1 HU.out.2.2.1 HU.out.2.2.2 rfl (by decide) (.slice none 0 0) 0 [] rfl (World.ownsRow_nil _ _ _ _) ad st.size cap (Lib.strCells st) rfl (by rw [Lib.strCells_length]; omega) HN.out (reads_news (HR.out _ hba)) (Lib.strCells_oneCell st) ?_ ?_ ?_ ?_))
            | fail)
          · unfold maxLen; omega
          · omega
          · exact Nat.le_refl _
          intro v1 w1 hown1 hgrow1 _
          have hb1 : Below wx.heap.size wx w1 := (Below.refl _ _).grown hgrow1 (Nat.le_refl _) (fun y hy => by cases hy)
          have hown1a : (w1.alloc (.cells #[.int .u8 115] 5 (0, 0))).ownsRow wx.heap.size 5 1 v1 st.size (Lib.strCells st) := by simpa using own_below hown1 (below_alloc_self w1 (.cells #[.int .u8 115] 5 (0, 0)))
          have hb1a : Below wx.heap.size wx (w1.alloc (.cells #[.int .u8 115] 5 (0, 0))) := below_back hb1 hb1.size (below_alloc_self _ _)
          have HO1 : Hid ((w1.alloc (.cells #[.int .u8 115] 5 (0, 0))).ownsRow wx.heap.size 5 1 v1 st.size (Lib.strCells st) ∧ Below wx.heap.size wx (w1.alloc (.cells #[.int .u8 115] 5 (0, 0)))) := ⟨hown1a, hb1a⟩
          have hbz1 := hb1.size
          clear hown1 hgrow1 hown1a hb1a hb1
          go_wp2_with (first
            | (at_builtin; (refine wpList_append_any _ rfl (.tmp 93) (.tmp 94) 30 rfl wx.heap.size 5 i1 _ 1 1 Try.underlying30 HU.out.1 HU.out.2.1 HU.out.2.2.1 HU.out.2.2.2 rfl (by decide) v1 st.size (Lib.strCells st) rfl HO1.out.1 (some ⟨w1.heap.size, 0, none⟩) 1 1 [.int .u8 115] rfl rfl (fun h => by cases h) ?_ (by simp [Value.oneCell']) ?_ ?_ ?_ ?_))
            | fail)
          · intro a ha j u hj
            obtain rfl := Option.some.inj ha
            rw [add_none, blk_cell (heap_new rfl), Nat.zero_add]
            rw [← hj]
            simp
          · unfold maxLen; omega
          · omega
          · exact HO1.out.2.size
          intro v2 w2 hown2 hgrow2 _
          have hbx2 : Below wx.heap.size wx w2 := HO1.out.2.grown hgrow2 HO1.out.2.size (fun y hy => (HO1.out.1.lt y hy).1)
          have hown2a : w2.ownsRow wx.heap.size 5 1 v2 (st ++ ⟨#[115]⟩).size (Lib.strCells (st ++ ⟨#[115]⟩)) := by rw [strCells_push, size_push]; exact hown2
          obtain ⟨ad2, cap2, rfl, _, hd2⟩ := dat_of_own hown2a
          have h115 := size_push st 115
          obtain ⟨g2, cs, hg2, rfl, gb2, hby2⟩ : ∃ g cs, wx.heap.size ≤ g ∧ ad2 = some ⟨g, 0, none⟩ ∧ w2.heap[g]? = some (.cells cs 5 (0, 0)) ∧ Lib.Bytes w2 g 0 (st ++ ⟨#[115]⟩) := hd2.elim (fun h => by omega) id
          obtain ⟨oa9, cap9, he9, hca1, hca2⟩ := row_shape hown2a
          simp only [Value.slice.injEq] at he9
          obtain ⟨rfl, _, rfl⟩ := he9
          rw [size_push] at hca1
          unfold maxLen at hca2
          rw [h115]
          have hcs : st.size + 1 ≤ cs.size := by
            have h := hby2 st.size (by omega)
            rw [blk_cell gb2] at h
            have := (Array.getElem?_eq_some_iff.1 h).1
            omega
          have hR2 := HD.out.below hbx2
          have hbw2 := below_back hba hza hbx2
          have gk2 := blk_below gk hbx2
          have HM : Hid (Rel w2 w.heap.size ba bb va vb (.slice ow E.length cw) S S E (fun g => g < n0) ∧ Below w.heap.size w w2 ∧ Reads w2 (some ⟨g2, 0, none⟩) (st ++ ⟨#[115]⟩) ∧ Reads w2 (some ⟨g2, 0, none⟩) st) := ⟨hR2, hbw2, Or.inr ⟨g2, 0, rfl, blk_lt gb2, hby2⟩, reads_front gb2 hby2⟩
          have hg2w := blk_lt gb2
          clear hown2 hgrow2 hown2a hd2 hby2 hR2 hbw2 HO1 qa gk hbx2 hbz1
          go_wp2_with fail
          have hSt : Stable (fun w8 : World => (Below w2.heap.size w2 w8)) := by repeat (first | exact stable_ext _ | exact stable_blk _ _ | exact stable_true | (refine stable_bel ?_ ; (focus (first | (simp [World.size_setCell] ; done) | (simp [World.setCell] ; done)))) | refine Stable.and ?_ ?_)
          refine wp_region_x [0, 1, 2, 3, 4, 5, 6, 7, 8, 9, 10, 11, 12, 13, 14, 15] [0, 0, 1, 0, 1, 0, 0, 1, 0, 0, 3, 0, 0, 0, 0, 0] (fun w8 => (Below w2.heap.size w2 w8)) (by kernel_rfl) (by kernel_rfl) ?_ ?_
          · (first | trivial | (repeat (first | (with_reducible assumption) | (with_reducible exact Below.refl _ _) | (with_reducible refine heap_drew ?_) | (focus ((with_reducible refine heap_new ?_) ; simp ; done)) | (with_reducible apply heap_set_to) | (focus ((with_reducible refine heap_set_ne ?_ ?_ _) ; rotate_left ; (focus (first | omega | (simp ; done) | (simp ; omega))))) | (with_reducible refine heap_old ?_) | (with_reducible refine Below.drew ?_) | (with_reducible refine below_set ?_ _ _) | (focus ((with_reducible refine Below.setCell ?_ ?_ _) ; rotate_left ; (focus (first | omega | (simp ; done) | (simp ; omega))))) | (focus ((with_reducible refine Below.alloc ?_ ?_ _) ; rotate_left ; (focus (first | omega | (simp ; done) | (simp ; omega))))) | (with_reducible rfl) | (focus (simp ; done)))))
          simp only [List.map_cons, List.map_nil, List.getD_cons_zero, List.getD_cons_succ]
          (refine x_pure rfl _ ?_ rfl (by simp) ?_ ?_ ; rotate_left ; · (intro w8 K hK ; go_wp2_with fail ; exact rfl))
          simp only [Act.put, List.setIfInBounds_toArray, List.set_cons_succ, List.set_cons_zero]
          (refine x_pure rfl _ ?_ rfl (by simp) ?_ ?_ ; rotate_left ; · (intro w8 K hK ; go_wp2_with fail ; exact rfl))
          simp only [Act.put, List.setIfInBounds_toArray, List.set_cons_succ, List.set_cons_zero]
          (refine x_quiet rfl hSt (fun _ h => h) _ ?_ rfl (by simp) ?_ ?_ ; rotate_left ; · (intro w8 hC K hK ; have hc := hC ; have q := blk5 (blk_below gk2 hc) ; go_wp2_with fail ; refine ⟨?_, Below.refl _ _⟩ ; exact rfl))
          simp only [Act.put, List.setIfInBounds_toArray, List.set_cons_succ, List.set_cons_zero]
          (refine x_pure rfl _ ?_ rfl (by simp) ?_ ?_ ; rotate_left ; · (intro w8 K hK ; go_wp2_with fail ; exact rfl))
          simp only [Act.put, List.setIfInBounds_toArray, List.set_cons_succ, List.set_cons_zero]
          (refine x_quiet rfl hSt (fun _ h => h) _ ?_ rfl (by simp) ?_ ?_ ; rotate_left ; · (intro w8 hC K hK ; have hc := hC ; have q := blk5 (blk_below gk2 hc) ; go_wp2_with fail ; refine ⟨?_, Below.refl _ _⟩ ; exact rfl))
          simp only [Act.put, List.setIfInBounds_toArray, List.set_cons_succ, List.set_cons_zero]
          (refine x_pure rfl _ ?_ rfl (by simp) ?_ ?_ ; rotate_left ; · (intro w8 K hK ; go_wp2_with fail ; exact rfl))
          simp only [Act.put, List.setIfInBounds_toArray, List.set_cons_succ, List.set_cons_zero]
          (refine x_pure rfl _ ?_ rfl (by simp) ?_ ?_ ; rotate_left ; · (intro w8 K hK ; go_wp2_with fail ; exact rfl))
          simp only [Act.put, List.setIfInBounds_toArray, List.set_cons_succ, List.set_cons_zero]
          (refine x_quiet rfl hSt (fun _ h => h) _ ?_ rfl (by simp) ?_ ?_ ; rotate_left ; · (intro w8 hC K hK ; have hc := hC ; have q := blk5 (blk_below gk2 hc) ; go_wp2_with fail ; refine ⟨?_, Below.refl _ _⟩ ; exact rfl))
          simp only [Act.put, List.setIfInBounds_toArray, List.set_cons_succ, List.set_cons_zero]
          (refine x_pure rfl _ ?_ rfl (by simp) ?_ ?_ ; rotate_left ; · (intro w8 K hK ; go_wp2_with fail ; exact rfl))
          simp only [Act.put, List.setIfInBounds_toArray, List.set_cons_succ, List.set_cons_zero]
          (refine x_pure rfl _ ?_ rfl (by simp) ?_ ?_ ; rotate_left ; · (intro w8 K hK ; go_wp2_with fail ; exact rfl))
          simp only [Act.put, List.setIfInBounds_toArray, List.set_cons_succ, List.set_cons_zero]
          refine x_write rfl ?_
          intro w8 hD K hK ; have hc := hD ; have q := blk5 (blk_below gk2 hc)
          go_wp2_with fail
          refine (HCA.out w8 g2 cap2 (HM.out.1.a.below hc) (Nat.le_trans HM.out.2.1.size hc.size) (HM.out.2.2.2.below hc)).mono ?_
          rintro e w3 ⟨va', rfl, hB3, hs3⟩
          have hR3 := (HM.out.1.below hc).stepA (hB3.mono (D' := fun g => g < n0 ∨ w2.heap.size ≤ g) (fun g h => h.imp id (Nat.le_trans hc.size))) (fun _ h => Or.inl h) hs3
          have hb8 := below_back HM.out.2.1 HM.out.2.1.size hc
          have hb3 : Below w.heap.size w w3 := hb8.trans (hs3.keep.below hb8.size (by obtain ⟨L, hL, _⟩ := (HM.out.1.below hc).a; exact hL.mine_ge))
          have gk3 := hs3.keep.blk (blk_below gk2 hc) (by obtain ⟨L, hL, _⟩ := (HM.out.1.below hc).a; exact hs3.not hL.2.1 (blk_below gk2 hc) (by decide) (by decide))
          have gb3 := hs3.keep.blk (blk_below gb2 hc) (by obtain ⟨L, hL, _⟩ := (HM.out.1.below hc).a; exact hs3.not hL.2.1 (blk_below gb2 hc) (by decide) (by decide))
          have hr3 : Reads w3 (some ⟨g2, 0, none⟩) (st ++ ⟨#[115]⟩) := (HM.out.2.2.1.below hc).keep hs3.keep (fun a ha => by obtain rfl := Option.some.inj ha; obtain ⟨L, hL, _⟩ := (HM.out.1.below hc).a; exact hs3.not hL.2.1 (blk_below gb2 hc) (by decide) (by decide))
          have hz3 : w2.heap.size ≤ w3.heap.size := Nat.le_trans hc.size hs3.keep.size
          have HM3 : Hid (Rel w3 w.heap.size ba bb va' vb (.slice ow E.length cw) S' S E (fun g => g < n0 ∨ w2.heap.size ≤ g) ∧ Below w.heap.size w w3 ∧ Reads w3 (some ⟨g2, 0, none⟩) (st ++ ⟨#[115]⟩)) := ⟨hR3, hb3, hr3⟩
          clear hB3 hs3 hR3 hb8 hb3 hr3 hc
          refine hK _ _ ?_
          try simp only [Act.put, List.setIfInBounds_toArray, List.set_cons_succ, List.set_cons_zero]
          (refine x_pure rfl _ ?_ rfl (by simp) ?_ ?_ ; rotate_left ; · (intro w8 K hK ; go_wp2_with fail ; exact rfl))
          simp only [Act.put, List.setIfInBounds_toArray, List.set_cons_succ, List.set_cons_zero]
          (refine x_pure rfl _ ?_ rfl (by simp) ?_ ?_ ; rotate_left ; · (intro w8 K hK ; go_wp2_with fail ; exact rfl))
          simp only [Act.put, List.setIfInBounds_toArray, List.set_cons_succ, List.set_cons_zero]
          (refine x_pure rfl _ ?_ rfl (by simp) ?_ ?_ ; rotate_left ; · (intro w8 K hK ; go_wp2_with fail ; exact rfl))
          simp only [Act.put, List.setIfInBounds_toArray, List.set_cons_succ, List.set_cons_zero]
          (refine x_pure rfl _ ?_ rfl (by simp) ?_ ?_ ; rotate_left ; · (intro w8 K hK ; go_wp2_with fail ; exact rfl))
          simp only [Act.put, List.setIfInBounds_toArray, List.set_cons_succ, List.set_cons_zero]
          (refine x_pure rfl _ ?_ rfl (by simp) ?_ ?_ ; rotate_left ; · (intro w8 K hK ; go_wp2_with fail ; exact rfl))
          simp only [Act.put, List.setIfInBounds_toArray, List.set_cons_succ, List.set_cons_zero]
          first | refine x_nil ?_ | refine x_end ?_
          rintro w3 rfl
          have q3 := blk5 gk3
          clear gk2 gb2 HCA HM HD q
          go_wp2_with fail
          refine (HCB.out w3 _ HM3.out.1.b HM3.out.2.1.size (HR.out _ HM3.out.2.1)).mono ?_
          rintro e w4 ⟨vb', rfl, hB4, hs4⟩
          have hR4 := HM3.out.1.stepB (hB4.mono (D' := fun g => g < n0 ∨ w2.heap.size ≤ g) (fun g h => h.elim id (fun h => Or.inr (Nat.le_trans hz3 h)))) (fun _ h => h) hs4
          have hb4 : Below w.heap.size w w4 := HM3.out.2.1.trans (hs4.keep.below HM3.out.2.1.size (by obtain ⟨L, hL, _⟩ := HM3.out.1.b; exact fun k hm => hm.elim (fun e => by rw [e]; exact hL.1) (fun e => (hL.2.2.1.lt k e).1)))
          have gk4 := hs4.keep.blk gk3 (by obtain ⟨L, hL, _⟩ := HM3.out.1.b; exact hs4.not hL.2.1 gk3 (by decide) (by decide))
          have gb4 := hs4.keep.blk gb3 (by obtain ⟨L, hL, _⟩ := HM3.out.1.b; exact hs4.not hL.2.1 gb3 (by decide) (by decide))
          have hr4 : Reads w4 (some ⟨g2, 0, none⟩) (st ++ ⟨#[115]⟩) := HM3.out.2.2.keep hs4.keep (fun a ha => by obtain rfl := Option.some.inj ha; obtain ⟨L, hL, _⟩ := HM3.out.1.b; exact hs4.not hL.2.1 gb3 (by decide) (by decide))
          have cva : (convert 30 9 (.slice (some ⟨g2, 0, none⟩) (st.size + 1) cap2)).run Try.prog w4 = .ok (.string (st ++ ⟨#[115]⟩)) w4 := by rw [← h115]; exact conv_reads hr4
          have cvb : (convert 30 9 (.slice ad st.size cap)).run Try.prog w4 = .ok (.string st) w4 := conv_reads (HR.out _ hb4)
          have q4 := blk5 gk4
          have HL : Hid (Rel w4 w.heap.size ba bb va' vb' (.slice ow E.length cw) S' S' E (fun g => g < n0 ∨ w2.heap.size ≤ g) ∧ Below w.heap.size w w4 ∧ w4.heap[g2]? = some (.cells cs 5 (0, 0))) := ⟨hR4, hb4, gb4⟩
          clear hB4 hs4 hR4 hb4 gk4 gb4 hr4 q3 gk3 gb3 HM3 HCB hz3
          go_wp2_with fail
          clear cva cvb q4
          go_loopw [140] (fun v wr => ∃ j : Nat, j ≤ st.size + 1 ∧ v = .int .i64 j ∧ Hid (Rel wr w.heap.size ba bb va' vb' (.slice ow E.length cw) S' S' E (fun g => g < n0 ∨ w2.heap.size ≤ g) ∧ Below w.heap.size w wr ∧ ∃ cs : Array Value, st.size + 1 ≤ cs.size ∧ wr.heap[g2]? = some (.cells cs 5 (0, 0)))) (fun v _ => st.size + 1 - (intOf v).toNat)
          case atStart => exact ⟨0, Nat.zero_le _, rfl, HL.out.1, HL.out.2.1, cs, hcs, HL.out.2.2⟩
          case round =>
            clear HL hcs
            obtain ⟨j, hj, rfl, HL⟩ := hrel
            by_cases hjl : j < st.size + 1
            · obtain ⟨cs, hcs, hgc⟩ := HL.out.2.2
              have hx : wr.cell? ⟨g2, j, none⟩ = some (cs[j]'(by omega)) := by rw [blk_cell hgc]; exact Array.getElem?_eq_getElem _
              have hf := blk_free hgc
              have hgl := blk_lt hgc
              go_wp2_with fail
              go_roundw
              case rel => exact ⟨j + 1, by omega, by go_num, HL.out.1.setByte hgc (by omega) j _, HL.out.2.1.setCell (p := ⟨g2, j, none⟩) (by show _ ≤ g2; omega) _, _, by simpa using hcs, heap_set hgc j _⟩
              case measure => simp [intOf]; omega
            · have HZ : Hid (SRel wr w.heap.size ba bb room (i + 1) va' vb' (.slice ow E.length cw) S' E) := ⟨HL.out.1.any, hS'.1, by omega, hS'.2.trans HSo.out.2⟩
              have hbz := HL.out.2.1
              clear HL
              have HZa := HZ.out.1.a
              have HZb := HZ.out.1.b
              have HL1 := Lib.hid (len_uni HZa)
              have HL2 := Lib.hid (rlen_uni HZb)
              have HL3 := Lib.hid (lost_uni HZa)
              have HL4 := Lib.hid (rlost_uni HZb)
              clear HZa HZb
              go_wp2_with fail
              refine HL1.out.mono ?_
              rintro e wq1 ⟨rfl, rfl⟩
              go_wp2_with fail
              refine HL2.out.mono ?_
              rintro e wq2 ⟨rfl, rfl⟩
              go_wp2_with fail
              refine HL3.out.mono ?_
              rintro e wq3 ⟨rfl, rfl⟩
              go_wp2_with fail
              refine HL4.out.mono ?_
              rintro e wq4 ⟨rfl, rfl⟩
              clear HL1 HL2 HL3 HL4
              go_wp2_with fail
              go_roundw
              case rel => exact ⟨i + 1, _, _, _, _, by omega, by go_num, HZ.out, hbz⟩
              case measure => simp [intOf]; omega
      by_cases hk1 : kind % 7 = 1
      · as_aux_lemma =>
          obtain ⟨sn, er, S', hts⟩ : ∃ a b c, sendS S frm to st = (a, b, c) := ⟨_, _, _, rfl⟩
          have hS' := sendS_ok HSo.out.1 frm to st
          have CA := fun w8 g c (h : BagI w8 w.heap.size ba va S (fun g => g < n0)) (hb : w.heap.size ≤ w8.heap.size) (hr : Reads w8 (some ⟨g, 0, none⟩) st) => send_uni HSo.out.1 (by omega) h hb frm to (some ⟨g, 0, none⟩) c st hr (fun h => by cases h)
          have CB := fun w8 (D : Nat → Prop) (h : RBagI w8 w.heap.size bb vb S D) (hb : w.heap.size ≤ w8.heap.size) (hr : Reads w8 ad st) => rsend_uni HSo.out.1 (by omega) h hb frm to ad cap st hr
          simp only [hts] at CA hS' CB
          have HCA := Lib.hid CA
          have HCB := Lib.hid CB
          clear CA CB hts
          go_wp2_with (first
            | (at_builtin; (refine wpList_append_any _ rfl (.const (.slice none 0 0)) (.tmp 92) 30 rfl wx.heap.size 5 i1 _ 1 1 Try.underlying30 HU.out.1 HU.out.2.1 HU.out.2.2.1 HU.out.2.2.2 rfl (by decide) (.slice none 0 0) 0 [] rfl (World.ownsRow_nil _ _ _ _) ad st.size cap (Lib.strCells st) rfl (by rw [Lib.strCells_length]; omega) HN.out (reads_news (HR.out _ hba)) (Lib.strCells_oneCell st) ?_ ?_ ?_ ?_))
            | fail)
          · unfold maxLen; omega
          · omega
          · exact Nat.le_refl _
          intro v1 w1 hown1 hgrow1 _
          have hb1 : Below wx.heap.size wx w1 := (Below.refl _ _).grown hgrow1 (Nat.le_refl _) (fun y hy => by cases hy)
          have hown1a : (w1.alloc (.cells #[.int .u8 115] 5 (0, 0))).ownsRow wx.heap.size 5 1 v1 st.size (Lib.strCells st) := by simpa using own_below hown1 (below_alloc_self w1 (.cells #[.int .u8 115] 5 (0, 0)))
          have hb1a : Below wx.heap.size wx (w1.alloc (.cells #[.int .u8 115] 5 (0, 0))) := below_back hb1 hb1.size (below_alloc_self _ _)
          have HO1 : Hid ((w1.alloc (.cells #[.int .u8 115] 5 (0, 0))).ownsRow wx.heap.size 5 1 v1 st.size (Lib.strCells st) ∧ Below wx.heap.size wx (w1.alloc (.cells #[.int .u8 115] 5 (0, 0)))) := ⟨hown1a, hb1a⟩
          have hbz1 := hb1.size
          clear hown1 hgrow1 hown1a hb1a hb1
          go_wp2_with (first
            | (at_builtin; (refine wpList_append_any _ rfl (.tmp 93) (.tmp 94) 30 rfl wx.heap.size 5 i1 _ 1 1 Try.underlying30 HU.out.1 HU.out.2.1 HU.out.2.2.1 HU.out.2.2.2 rfl (by decide) v1 st.size (Lib.strCells st) rfl HO1.out.1 (some ⟨w1.heap.size, 0, none⟩) 1 1 [.int .u8 115] rfl rfl (fun h => by cases h) ?_ (by simp [Value.oneCell']) ?_ ?_ ?_ ?_))
            | fail)
          · intro a ha j u hj
            obtain rfl := Option.some.inj ha
            rw [add_none, blk_cell (heap_new rfl), Nat.zero_add]
            rw [← hj]
            simp
          · unfold maxLen; omega
          · omega
          · exact HO1.out.2.size
          intro v2 w2 hown2 hgrow2 _
          have hbx2 : Below wx.heap.size wx w2 := HO1.out.2.grown hgrow2 HO1.out.2.size (fun y hy => (HO1.out.1.lt y hy).1)
          have hown2a : w2.ownsRow wx.heap.size 5 1 v2 (st ++ ⟨#[115]⟩).size (Lib.strCells (st ++ ⟨#[115]⟩)) := by rw [strCells_push, size_push]; exact hown2
          obtain ⟨ad2, cap2, rfl, _, hd2⟩ := dat_of_own hown2a
          have h115 := size_push st 115
          obtain ⟨g2, cs, hg2, rfl, gb2, hby2⟩ : ∃ g cs, wx.heap.size ≤ g ∧ ad2 = some ⟨g, 0, none⟩ ∧ w2.heap[g]? = some (.cells cs 5 (0, 0)) ∧ Lib.Bytes w2 g 0 (st ++ ⟨#[115]⟩) := hd2.elim (fun h => by omega) id
          obtain ⟨oa9, cap9, he9, hca1, hca2⟩ := row_shape hown2a
          simp only [Value.slice.injEq] at he9
          obtain ⟨rfl, _, rfl⟩ := he9
          rw [size_push] at hca1
          unfold maxLen at hca2
          rw [h115]
          have hcs : st.size + 1 ≤ cs.size := by
            have h := hby2 st.size (by omega)
            rw [blk_cell gb2] at h
            have := (Array.getElem?_eq_some_iff.1 h).1
            omega
          have hR2 := HD.out.below hbx2
          have hbw2 := below_back hba hza hbx2
          have gk2 := blk_below gk hbx2
          have HM : Hid (Rel w2 w.heap.size ba bb va vb (.slice ow E.length cw) S S E (fun g => g < n0) ∧ Below w.heap.size w w2 ∧ Reads w2 (some ⟨g2, 0, none⟩) (st ++ ⟨#[115]⟩) ∧ Reads w2 (some ⟨g2, 0, none⟩) st) := ⟨hR2, hbw2, Or.inr ⟨g2, 0, rfl, blk_lt gb2, hby2⟩, reads_front gb2 hby2⟩
          have hg2w := blk_lt gb2
          clear hown2 hgrow2 hown2a hd2 hby2 hR2 hbw2 HO1 qa gk hbx2 hbz1
          go_wp2_with fail
          have hSt : Stable (fun w8 : World => (Below w2.heap.size w2 w8)) := by repeat (first | exact stable_ext _ | exact stable_blk _ _ | exact stable_true | (refine stable_bel ?_ ; (focus (first | (simp [World.size_setCell] ; done) | (simp [World.setCell] ; done)))) | refine Stable.and ?_ ?_)
          refine wp_region_x [0, 1, 2, 3, 4, 5, 6, 7, 8, 9, 10, 11, 12, 13, 14, 15] [0, 0, 1, 0, 1, 0, 0, 1, 0, 0, 3, 0, 0, 0, 0, 0] (fun w8 => (Below w2.heap.size w2 w8)) (by kernel_rfl) (by kernel_rfl) ?_ ?_
          · (first | trivial | (repeat (first | (with_reducible assumption) | (with_reducible exact Below.refl _ _) | (with_reducible refine heap_drew ?_) | (focus ((with_reducible refine heap_new ?_) ; simp ; done)) | (with_reducible apply heap_set_to) | (focus ((with_reducible refine heap_set_ne ?_ ?_ _) ; rotate_left ; (focus (first | omega | (simp ; done) | (simp ; omega))))) | (with_reducible refine heap_old ?_) | (with_reducible refine Below.drew ?_) | (with_reducible refine below_set ?_ _ _) | (focus ((with_reducible refine Below.setCell ?_ ?_ _) ; rotate_left ; (focus (first | omega | (simp ; done) | (simp ; omega))))) | (focus ((with_reducible refine Below.alloc ?_ ?_ _) ; rotate_left ; (focus (first | omega | (simp ; done) | (simp ; omega))))) | (with_reducible rfl) | (focus (simp ; done)))))
          simp only [List.map_cons, List.map_nil, List.getD_cons_zero, List.getD_cons_succ]
          (refine x_pure rfl _ ?_ rfl (by simp) ?_ ?_ ; rotate_left ; · (intro w8 K hK ; go_wp2_with fail ; exact rfl))
          simp only [Act.put, List.setIfInBounds_toArray, List.set_cons_succ, List.set_cons_zero]
          (refine x_pure rfl _ ?_ rfl (by simp) ?_ ?_ ; rotate_left ; · (intro w8 K hK ; go_wp2_with fail ; exact rfl))
          simp only [Act.put, List.setIfInBounds_toArray, List.set_cons_succ, List.set_cons_zero]
          (refine x_quiet rfl hSt (fun _ h => h) _ ?_ rfl (by simp) ?_ ?_ ; rotate_left ; · (intro w8 hC K hK ; have hc := hC ; have q := blk5 (blk_below gk2 hc) ; go_wp2_with fail ; refine ⟨?_, Below.refl _ _⟩ ; exact rfl))
          simp only [Act.put, List.setIfInBounds_toArray, List.set_cons_succ, List.set_cons_zero]
          (refine x_pure rfl _ ?_ rfl (by simp) ?_ ?_ ; rotate_left ; · (intro w8 K hK ; go_wp2_with fail ; exact rfl))
          simp only [Act.put, List.setIfInBounds_toArray, List.set_cons_succ, List.set_cons_zero]
          (refine x_quiet rfl hSt (fun _ h => h) _ ?_ rfl (by simp) ?_ ?_ ; rotate_left ; · (intro w8 hC K hK ; have hc := hC ; have q := blk5 (blk_below gk2 hc) ; go_wp2_with fail ; refine ⟨?_, Below.refl _ _⟩ ; exact rfl))
          simp only [Act.put, List.setIfInBounds_toArray, List.set_cons_succ, List.set_cons_zero]
          (refine x_pure rfl _ ?_ rfl (by simp) ?_ ?_ ; rotate_left ; · (intro w8 K hK ; go_wp2_with fail ; exact rfl))
          simp only [Act.put, List.setIfInBounds_toArray, List.set_cons_succ, List.set_cons_zero]
          (refine x_pure rfl _ ?_ rfl (by simp) ?_ ?_ ; rotate_left ; · (intro w8 K hK ; go_wp2_with fail ; exact rfl))
          simp only [Act.put, List.setIfInBounds_toArray, List.set_cons_succ, List.set_cons_zero]
          (refine x_quiet rfl hSt (fun _ h => h) _ ?_ rfl (by simp) ?_ ?_ ; rotate_left ; · (intro w8 hC K hK ; have hc := hC ; have q := blk5 (blk_below gk2 hc) ; go_wp2_with fail ; refine ⟨?_, Below.refl _ _⟩ ; exact rfl))
          simp only [Act.put, List.setIfInBounds_toArray, List.set_cons_succ, List.set_cons_zero]
          (refine x_pure rfl _ ?_ rfl (by simp) ?_ ?_ ; rotate_left ; · (intro w8 K hK ; go_wp2_with fail ; exact rfl))
          simp only [Act.put, List.setIfInBounds_toArray, List.set_cons_succ, List.set_cons_zero]
          (refine x_pure rfl _ ?_ rfl (by simp) ?_ ?_ ; rotate_left ; · (intro w8 K hK ; go_wp2_with fail ; exact rfl))
          simp only [Act.put, List.setIfInBounds_toArray, List.set_cons_succ, List.set_cons_zero]
          refine x_write rfl ?_
          intro w8 hD K hK ; have hc := hD ; have q := blk5 (blk_below gk2 hc)
          go_wp2_with fail
          refine (HCA.out w8 g2 cap2 (HM.out.1.a.below hc) (Nat.le_trans HM.out.2.1.size hc.size) (HM.out.2.2.2.below hc)).mono ?_
          rintro e w3 ⟨va', rfl, hB3, hs3⟩
          have hR3 := (HM.out.1.below hc).stepA (hB3.mono (D' := fun g => g < n0 ∨ w2.heap.size ≤ g) (fun g h => h.imp id (Nat.le_trans hc.size))) (fun _ h => Or.inl h) hs3
          have hb8 := below_back HM.out.2.1 HM.out.2.1.size hc
          have hb3 : Below w.heap.size w w3 := hb8.trans (hs3.keep.below hb8.size (by obtain ⟨L, hL, _⟩ := (HM.out.1.below hc).a; exact hL.mine_ge))
          have gk3 := hs3.keep.blk (blk_below gk2 hc) (by obtain ⟨L, hL, _⟩ := (HM.out.1.below hc).a; exact hs3.not hL.2.1 (blk_below gk2 hc) (by decide) (by decide))
          have gb3 := hs3.keep.blk (blk_below gb2 hc) (by obtain ⟨L, hL, _⟩ := (HM.out.1.below hc).a; exact hs3.not hL.2.1 (blk_below gb2 hc) (by decide) (by decide))
          have hr3 : Reads w3 (some ⟨g2, 0, none⟩) (st ++ ⟨#[115]⟩) := (HM.out.2.2.1.below hc).keep hs3.keep (fun a ha => by obtain rfl := Option.some.inj ha; obtain ⟨L, hL, _⟩ := (HM.out.1.below hc).a; exact hs3.not hL.2.1 (blk_below gb2 hc) (by decide) (by decide))
          have hz3 : w2.heap.size ≤ w3.heap.size := Nat.le_trans hc.size hs3.keep.size
          have HM3 : Hid (Rel w3 w.heap.size ba bb va' vb (.slice ow E.length cw) S' S E (fun g => g < n0 ∨ w2.heap.size ≤ g) ∧ Below w.heap.size w w3 ∧ Reads w3 (some ⟨g2, 0, none⟩) (st ++ ⟨#[115]⟩)) := ⟨hR3, hb3, hr3⟩
          clear hB3 hs3 hR3 hb8 hb3 hr3 hc
          refine hK _ _ ?_
          try simp only [Act.put, List.setIfInBounds_toArray, List.set_cons_succ, List.set_cons_zero]
          (refine x_pure rfl _ ?_ rfl (by simp) ?_ ?_ ; rotate_left ; · (intro w8 K hK ; go_wp2_with fail ; exact rfl))
          simp only [Act.put, List.setIfInBounds_toArray, List.set_cons_succ, List.set_cons_zero]
          (refine x_pure rfl _ ?_ rfl (by simp) ?_ ?_ ; rotate_left ; · (intro w8 K hK ; go_wp2_with fail ; exact rfl))
          simp only [Act.put, List.setIfInBounds_toArray, List.set_cons_succ, List.set_cons_zero]
          (refine x_pure rfl _ ?_ rfl (by simp) ?_ ?_ ; rotate_left ; · (intro w8 K hK ; go_wp2_with fail ; exact rfl))
          simp only [Act.put, List.setIfInBounds_toArray, List.set_cons_succ, List.set_cons_zero]
          (refine x_pure rfl _ ?_ rfl (by simp) ?_ ?_ ; rotate_left ; · (intro w8 K hK ; go_wp2_with fail ; exact rfl))
          simp only [Act.put, List.setIfInBounds_toArray, List.set_cons_succ, List.set_cons_zero]
          (refine x_pure rfl _ ?_ rfl (by simp) ?_ ?_ ; rotate_left ; · (intro w8 K hK ; go_wp2_with fail ; exact rfl))
          simp only [Act.put, List.setIfInBounds_toArray, List.set_cons_succ, List.set_cons_zero]
          first | refine x_nil ?_ | refine x_end ?_
          rintro w3 rfl
          have q3 := blk5 gk3
          clear gk2 gb2 HCA HM HD q
          go_wp2_with fail
          refine (HCB.out w3 _ HM3.out.1.b HM3.out.2.1.size (HR.out _ HM3.out.2.1)).mono ?_
          rintro e w4 ⟨vb', rfl, hB4, hs4⟩
          have hR4 := HM3.out.1.stepB (hB4.mono (D' := fun g => g < n0 ∨ w2.heap.size ≤ g) (fun g h => h.elim id (fun h => Or.inr (Nat.le_trans hz3 h)))) (fun _ h => h) hs4
          have hb4 : Below w.heap.size w w4 := HM3.out.2.1.trans (hs4.keep.below HM3.out.2.1.size (by obtain ⟨L, hL, _⟩ := HM3.out.1.b; exact fun k hm => hm.elim (fun e => by rw [e]; exact hL.1) (fun e => (hL.2.2.1.lt k e).1)))
          have gk4 := hs4.keep.blk gk3 (by obtain ⟨L, hL, _⟩ := HM3.out.1.b; exact hs4.not hL.2.1 gk3 (by decide) (by decide))
          have gb4 := hs4.keep.blk gb3 (by obtain ⟨L, hL, _⟩ := HM3.out.1.b; exact hs4.not hL.2.1 gb3 (by decide) (by decide))
          have hr4 : Reads w4 (some ⟨g2, 0, none⟩) (st ++ ⟨#[115]⟩) := HM3.out.2.2.keep hs4.keep (fun a ha => by obtain rfl := Option.some.inj ha; obtain ⟨L, hL, _⟩ := HM3.out.1.b; exact hs4.not hL.2.1 gb3 (by decide) (by decide))
          have cva : (convert 30 9 (.slice (some ⟨g2, 0, none⟩) (st.size + 1) cap2)).run Try.prog w4 = .ok (.string (st ++ ⟨#[115]⟩)) w4 := by rw [← h115]; exact conv_reads hr4
          have cvb : (convert 30 9 (.slice ad st.size cap)).run Try.prog w4 = .ok (.string st) w4 := conv_reads (HR.out _ hb4)
          have q4 := blk5 gk4
          have HL : Hid (Rel w4 w.heap.size ba bb va' vb' (.slice ow E.length cw) S' S' E (fun g => g < n0 ∨ w2.heap.size ≤ g) ∧ Below w.heap.size w w4 ∧ w4.heap[g2]? = some (.cells cs 5 (0, 0))) := ⟨hR4, hb4, gb4⟩
          clear hB4 hs4 hR4 hb4 gk4 gb4 hr4 q3 gk3 gb3 HM3 HCB hz3
          go_wp2_with fail
          clear cva cvb q4
          go_loopw [140] (fun v wr => ∃ j : Nat, j ≤ st.size + 1 ∧ v = .int .i64 j ∧ Hid (Rel wr w.heap.size ba bb va' vb' (.slice ow E.length cw) S' S' E (fun g => g < n0 ∨ w2.heap.size ≤ g) ∧ Below w.heap.size w wr ∧ ∃ cs : Array Value, st.size + 1 ≤ cs.size ∧ wr.heap[g2]? = some (.cells cs 5 (0, 0)))) (fun v _ => st.size + 1 - (intOf v).toNat)
          case atStart => exact ⟨0, Nat.zero_le _, rfl, HL.out.1, HL.out.2.1, cs, hcs, HL.out.2.2⟩
          case round =>
            clear HL hcs
            obtain ⟨j, hj, rfl, HL⟩ := hrel
            by_cases hjl : j < st.size + 1
            · obtain ⟨cs, hcs, hgc⟩ := HL.out.2.2
              have hx : wr.cell? ⟨g2, j, none⟩ = some (cs[j]'(by omega)) := by rw [blk_cell hgc]; exact Array.getElem?_eq_getElem _
              have hf := blk_free hgc
              have hgl := blk_lt hgc
              go_wp2_with fail
              go_roundw
              case rel => exact ⟨j + 1, by omega, by go_num, HL.out.1.setByte hgc (by omega) j _, HL.out.2.1.setCell (p := ⟨g2, j, none⟩) (by show _ ≤ g2; omega) _, _, by simpa using hcs, heap_set hgc j _⟩
              case measure => simp [intOf]; omega
            · have HZ : Hid (SRel wr w.heap.size ba bb room (i + 1) va' vb' (.slice ow E.length cw) S' E) := ⟨HL.out.1.any, hS'.1, by omega, hS'.2.trans HSo.out.2⟩
              have hbz := HL.out.2.1
              clear HL
              have HZa := HZ.out.1.a
              have HZb := HZ.out.1.b
              have HL1 := Lib.hid (len_uni HZa)
              have HL2 := Lib.hid (rlen_uni HZb)
              have HL3 := Lib.hid (lost_uni HZa)
              have HL4 := Lib.hid (rlost_uni HZb)
              clear HZa HZb
              go_wp2_with fail
              refine HL1.out.mono ?_
              rintro e wq1 ⟨rfl, rfl⟩
              go_wp2_with fail
              refine HL2.out.mono ?_
              rintro e wq2 ⟨rfl, rfl⟩
              go_wp2_with fail
              refine HL3.out.mono ?_
              rintro e wq3 ⟨rfl, rfl⟩
              go_wp2_with fail
              refine HL4.out.mono ?_
              rintro e wq4 ⟨rfl, rfl⟩
              clear HL1 HL2 HL3 HL4
              go_wp2_with fail
              go_roundw
              case rel => exact ⟨i + 1, _, _, _, _, by omega, by go_num, HZ.out, hbz⟩
              case measure => simp [intOf]; omega
      by_cases hk2 : kind % 7 = 2
      · as_aux_lemma =>
          obtain ⟨⟨kn, kf, kt, ks⟩, er, S', hts⟩ : ∃ a b c, takeS S ii = (a, b, c) := ⟨_, _, _, rfl⟩
          have hS' := takeS_ok HSo.out.1 ii
          have hks := takeS_size HSo.out.1 ii
          have CA := take_uni HSo.out.1 HD.out.a hza ii
          have CB := fun w2 va' (hr : Rel w2 w.heap.size ba bb va' vb (.slice ow E.length cw) S' S E (fun g => g < n0)) (hb : Below w.heap.size w w2) => rtake_uni HSo.out.1 hr.b hb.size ii
          simp only [hts] at CA hS' CB hks
          have HCA := Lib.hid CA
          have HCB := Lib.hid CB
          clear CA CB hts
          go_wp2_with fail
          refine HCA.out.mono ?_
          rintro e w2 ⟨va', ad1, cap1, rfl, hB2, hs2, hn2, hd2⟩
          have hR2 := HD.out.stepA hB2 (fun _ h => h) hs2
          have hb2 : Below w.heap.size w w2 := hba.trans (hs2.keep.below hza (by obtain ⟨L, hL, _⟩ := HD.out.a; exact hL.mine_ge))
          have gk2 := hs2.keep.blk gk (by obtain ⟨L, hL, _⟩ := HD.out.a; exact hs2.not hL.2.1 gk (by decide) (by decide))
          have hd2' : Dat w2 n0 ad1 ks := hd2.mono (by omega)
          have gp : (w2.alloc (.cells #[.int .i64 kn, .int .i64 kf, .int .i64 kt, .slice ad1 ks.size cap1] 39 (0, 0))).heap[w2.heap.size]? = some (.cells #[.int .i64 kn, .int .i64 kf, .int .i64 kt, .slice ad1 ks.size cap1] 39 (0, 0)) := by (repeat (first | (with_reducible assumption) | (with_reducible exact Below.refl _ _) | (with_reducible refine heap_drew ?_) | (focus ((with_reducible refine heap_new ?_) ; simp ; done)) | (with_reducible apply heap_set_to) | (focus ((with_reducible refine heap_set_ne ?_ ?_ _) ; rotate_left ; (focus (first | omega | (simp ; done) | (simp ; omega))))) | (with_reducible refine heap_old ?_) | (with_reducible refine Below.drew ?_) | (with_reducible refine below_set ?_ _ _) | (focus ((with_reducible refine Below.setCell ?_ ?_ _) ; rotate_left ; (focus (first | omega | (simp ; done) | (simp ; omega))))) | (focus ((with_reducible refine Below.alloc ?_ ?_ _) ; rotate_left ; (focus (first | omega | (simp ; done) | (simp ; omega))))) | (with_reducible rfl) | (focus (simp ; done))))
          have hbx := below_alloc_self w2 (.cells #[.int .i64 kn, .int .i64 kf, .int .i64 kt, .slice ad1 ks.size cap1] 39 (0, 0))
          have hrow := hR2.row_b
          obtain ⟨kp, hkp⟩ : ∃ x, x = w2.heap.size := ⟨_, rfl⟩
          have hM : Rel (w2.alloc (.cells #[.int .i64 kn, .int .i64 kf, .int .i64 kt, .slice ad1 ks.size cap1] 39 (0, 0))) w.heap.size ba bb va' vb (.slice ow E.length cw) S' S E (fun g => g < n0) ∧ Below w.heap.size w (w2.alloc (.cells #[.int .i64 kn, .int .i64 kf, .int .i64 kt, .slice ad1 ks.size cap1] 39 (0, 0))) ∧
            Dat (w2.alloc (.cells #[.int .i64 kn, .int .i64 kf, .int .i64 kt, .slice ad1 ks.size cap1] 39 (0, 0))) n0 ad1 ks ∧ (∀ g, vb.ownBlock = some g → g ≠ kp) := ⟨hR2.below hbx, below_back hb2 hb2.size hbx, hd2'.keep (p := fun _ => False) (Keep.of_below hbx) (fun _ _ _ h => h), fun g hg => by have := (hrow g hg).1; omega⟩
          have gk3 := blk_below gk2 hbx
          have HKp := Lib.hid hkp
          have HM := Lib.hid hM
          have q2 := blk5 gk3
          clear hkp hM hB2 hs2 hR2 hb2 gk2 hd2 hd2' hbx hrow qa hn2
          go_wp2_with fail
          rw [← HKp.out] at gp ⊢
          clear HKp
          generalize hwq : w2.alloc (.cells #[.int .i64 kn, .int .i64 kf, .int .i64 kt, .slice ad1 ks.size cap1] 39 (0, 0)) = wq at *
          clear hwq q2
          refine (HCB.out wq va' HM.out.1 HM.out.2.1).mono ?_
          rintro e w3 ⟨vb', ad2, cap2, rfl, hB3, hs3, hr3⟩
          have hR3 := HM.out.1.stepB hB3 (fun _ h => h) hs3
          have hb3 : Below w.heap.size w w3 := HM.out.2.1.trans (hs3.keep.below HM.out.2.1.size (by obtain ⟨L, hL, _⟩ := HM.out.1.b; exact fun k hm => hm.elim (fun e => by rw [e]; exact hL.1) (fun e => (hL.2.2.1.lt k e).1)))
          have hd3 : Dat w3 n0 ad1 ks := HM.out.2.2.1.keep hs3.keep (fun g cs hg => by obtain ⟨L, hL, _⟩ := HM.out.1.b; exact hs3.not hL.2.1 hg (by decide) (by decide))
          have gp3 : w3.heap[kp]? = some (.cells #[.int .i64 kn, .int .i64 kf, .int .i64 kt, .slice ad1 ks.size cap1] 39 (0, 0)) := hs3.keep.blk gp (fun hm => by
            obtain ⟨L, hL, _⟩ := HM.out.1.b
            rcases hm with e | hm
            · rw [e, hL.2.1] at gp
              simp at gp
            · exact HM.out.2.2.2 kp hm rfl)
          have hbx := below_alloc_self w3 (.cells #[.int .i64 kn, .int .i64 kf, .int .i64 kt, .slice ad2 ks.size cap2] 39 (0, 0))
          have hM : Rel (w3.alloc (.cells #[.int .i64 kn, .int .i64 kf, .int .i64 kt, .slice ad2 ks.size cap2] 39 (0, 0))) w.heap.size ba bb va' vb' (.slice ow E.length cw) S' S' E (fun g => g < n0) ∧ Below w.heap.size w (w3.alloc (.cells #[.int .i64 kn, .int .i64 kf, .int .i64 kt, .slice ad2 ks.size cap2] 39 (0, 0))) ∧
            Dat (w3.alloc (.cells #[.int .i64 kn, .int .i64 kf, .int .i64 kt, .slice ad2 ks.size cap2] 39 (0, 0))) n0 ad1 ks ∧ Reads (w3.alloc (.cells #[.int .i64 kn, .int .i64 kf, .int .i64 kt, .slice ad2 ks.size cap2] 39 (0, 0))) ad2 ks := ⟨hR3.below hbx, below_back hb3 hb3.size hbx, hd3.keep (p := fun _ => False) (Keep.of_below hbx) (fun _ _ _ h => h), hr3.below hbx⟩
          have gp4 := blk_below gp3 hbx
          have gq : (w3.alloc (.cells #[.int .i64 kn, .int .i64 kf, .int .i64 kt, .slice ad2 ks.size cap2] 39 (0, 0))).heap[w3.heap.size]? = some (.cells #[.int .i64 kn, .int .i64 kf, .int .i64 kt, .slice ad2 ks.size cap2] 39 (0, 0)) := by (repeat (first | (with_reducible assumption) | (with_reducible exact Below.refl _ _) | (with_reducible refine heap_drew ?_) | (focus ((with_reducible refine heap_new ?_) ; simp ; done)) | (with_reducible apply heap_set_to) | (focus ((with_reducible refine heap_set_ne ?_ ?_ _) ; rotate_left ; (focus (first | omega | (simp ; done) | (simp ; omega))))) | (with_reducible refine heap_old ?_) | (with_reducible refine Below.drew ?_) | (with_reducible refine below_set ?_ _ _) | (focus ((with_reducible refine Below.setCell ?_ ?_ _) ; rotate_left ; (focus (first | omega | (simp ; done) | (simp ; omega))))) | (focus ((with_reducible refine Below.alloc ?_ ?_ _) ; rotate_left ; (focus (first | omega | (simp ; done) | (simp ; omega))))) | (with_reducible rfl) | (focus (simp ; done))))
          have HM2 := Lib.hid hM
          have qp := blk4 gp4
          have qq := blk4 gq
          clear hM hB3 hs3 hr3 hR3 hb3 hd3 gp3 hbx gk3 gp HM HCB HCA HD
          go_wp2_with fail
          generalize hwq : w3.alloc (.cells #[.int .i64 kn, .int .i64 kf, .int .i64 kt, .slice ad2 ks.size cap2] 39 (0, 0)) = wq2 at *
          generalize hkq : w3.heap.size = kq at *
          clear hwq hkq
          refine (same_eq kn kf kt ad1 ad2 cap1 cap2 ks wq2 HM2.out.2.2.1.reads HM2.out.2.2.2).mono ?_
          rintro e w4 ⟨rfl, hb4⟩
          have HL : Hid (Rel w4 w.heap.size ba bb va' vb' (.slice ow E.length cw) S' S' E (fun g => g < n0) ∧ Below w.heap.size w w4 ∧ w4.heap[kp]? = some (.cells #[.int .i64 kn, .int .i64 kf, .int .i64 kt, .slice ad1 ks.size cap1] 39 (0, 0)) ∧ Buf w4 n0 ad1 ks.size) :=
            ⟨HM2.out.1.below hb4, below_back HM2.out.2.1 HM2.out.2.1.size hb4, blk_below gp4 hb4, HM2.out.2.2.1.buf.below hb4⟩
          have qz := blk4 HL.out.2.2.1
          clear qp qq gp4 gq HM2 hb4
          go_wp2_with fail
          clear qz
          go_loopw [174] (fun v wr5 => ∃ j : Nat, j ≤ ks.size ∧ v = .int .i64 j ∧ Hid (Rel wr5 w.heap.size ba bb va' vb' (.slice ow E.length cw) S' S' E (fun g => g < n0) ∧ Below w.heap.size w wr5 ∧ wr5.heap[kp]? = some (.cells #[.int .i64 kn, .int .i64 kf, .int .i64 kt, .slice ad1 ks.size cap1] 39 (0, 0)) ∧ Buf wr5 n0 ad1 ks.size)) (fun v _ => ks.size - (intOf v).toNat)
          case atStart => exact ⟨0, Nat.zero_le _, rfl, HL.out⟩
          case round =>
            clear HL
            obtain ⟨j, hj, rfl, HL⟩ := hrel
            by_cases hjl : j < ks.size
            · have q := blk4 HL.out.2.2.1
              rcases HL.out.2.2.2 with h0 | ⟨g, cs, hg1, rfl, hg2, hg3⟩
              · omega
              · have hx : wr.cell? ⟨g, j, none⟩ = some (cs[j]'(by omega)) := by rw [blk_cell hg2]; exact Array.getElem?_eq_getElem _
                have hf := blk_free hg2
                have hgl := blk_lt hg2
                go_wp2_with fail
                go_roundw
                case rel =>
                  have hgb : g ≠ kp := fun e => by
                    subst e
                    rw [HL.out.2.2.1] at hg2
                    simp at hg2
                  exact ⟨j + 1, by omega, by go_num, HL.out.1.setByte hg2 (by show ¬ g < n0; omega) j _, HL.out.2.1.setCell (p := ⟨g, j, none⟩) (by show _ ≤ g; omega) _, heap_set_ne HL.out.2.2.1 (fun e => hgb e.symm) _, Or.inr ⟨g, _, hg1, rfl, heap_set hg2 j _, by simpa using hg3⟩⟩
                case measure => simp [intOf]; omega
            · have HZ : Hid (SRel wr w.heap.size ba bb room (i + 1) va' vb' (.slice ow E.length cw) S' E) := ⟨HL.out.1.any, hS'.1, by omega, hS'.2.trans HSo.out.2⟩
              have hbz := HL.out.2.1
              clear HL
              have HZa := HZ.out.1.a
              have HZb := HZ.out.1.b
              have HL1 := Lib.hid (len_uni HZa)
              have HL2 := Lib.hid (rlen_uni HZb)
              have HL3 := Lib.hid (lost_uni HZa)
              have HL4 := Lib.hid (rlost_uni HZb)
              clear HZa HZb
              go_wp2_with fail
              refine HL1.out.mono ?_
              rintro e wq1 ⟨rfl, rfl⟩
              go_wp2_with fail
              refine HL2.out.mono ?_
              rintro e wq2 ⟨rfl, rfl⟩
              go_wp2_with fail
              refine HL3.out.mono ?_
              rintro e wq3 ⟨rfl, rfl⟩
              go_wp2_with fail
              refine HL4.out.mono ?_
              rintro e wq4 ⟨rfl, rfl⟩
              clear HL1 HL2 HL3 HL4
              go_wp2_with fail
              go_roundw
              case rel => exact ⟨i + 1, _, _, _, _, by omega, by go_num, HZ.out, hbz⟩
              case measure => simp [intOf]; omega
      by_cases hk3 : kind % 7 = 3
      · as_aux_lemma =>
          obtain ⟨er, S', hts⟩ : ∃ a b, dropS S ii = (a, b) := ⟨_, _, rfl⟩
          have hS' := dropS_ok HSo.out.1 ii
          have CA := fun w8 (hc : Below wx.heap.size wx w8) => drop_uni HSo.out.1 (by omega) (HD.out.a.below hc) (Nat.le_trans hza hc.size) ii
          have CB := fun w2 va' (hr : Rel w2 w.heap.size ba bb va' vb (.slice ow E.length cw) S' S E (fun g => g < n0)) (hb : Below w.heap.size w w2) => rdrop_uni HSo.out.1 (by omega) hr.b hb.size ii
          simp only [hts] at CA hS' CB
          have HCA := Lib.hid CA
          have HCB := Lib.hid CB
          clear CA CB hts
          go_wp2_with fail
          refine wp_region_p [0, 1, 4, 5] [0, 0, 3, 3, 0, 0, 3, 3, 0, 0] 6 #[true, true, false, false, true, true, false, false, false, false] (fun w8 => Below wx.heap.size wx w8) (by kernel_rfl) (by kernel_rfl) ?_ ?_
          · exact (Below.refl _ _).drew
          simp only [List.map_cons, List.map_nil, List.getD_cons_zero, List.getD_cons_succ]
          (refine x_pure rfl _ ?_ rfl (by simp) ?_ ?_ ; rotate_left ; · (intro w8 K hK ; go_wp2_with fail ; exact rfl))
          simp only [Act.put, List.setIfInBounds_toArray, List.set_cons_succ, List.set_cons_zero]
          (refine x_pure rfl _ ?_ rfl (by simp) ?_ ?_ ; rotate_left ; · (intro w8 K hK ; go_wp2_with fail ; exact rfl))
          simp only [Act.put, List.setIfInBounds_toArray, List.set_cons_succ, List.set_cons_zero]
          (refine x_pure rfl _ ?_ rfl (by simp) ?_ ?_ ; rotate_left ; · (intro w8 K hK ; go_wp2_with fail ; exact rfl))
          simp only [Act.put, List.setIfInBounds_toArray, List.set_cons_succ, List.set_cons_zero]
          (refine x_pure rfl _ ?_ rfl (by simp) ?_ ?_ ; rotate_left ; · (intro w8 K hK ; go_wp2_with fail ; exact rfl))
          simp only [Act.put, List.setIfInBounds_toArray, List.set_cons_succ, List.set_cons_zero]
          refine x_end ?_
          refine wpX_fork2 (i := 2) (j := 6) (by kernel_rfl) (by kernel_rfl) ?_ ?_
          · simp only [List.getD_cons_zero, List.getD_cons_succ]
            refine x_write rfl ?_
            (intro w8 hc K hK ; have q := blk5 (blk_below gk hc))
            go_wp2_with fail
            refine x_end ?_
            clear q
            refine wpX_fork2 (i := 3) (j := 6) (by kernel_rfl) (by kernel_rfl) ?_ ?_
            · simp only [List.getD_cons_zero, List.getD_cons_succ]
              refine x_write rfl ?_
              rintro w8 rfl K hK
              go_wp2_with fail
              refine (HCA.out w8 hc).mono ?_
              rintro e w2 ⟨va', rfl, hB2, hs2⟩
              have hR8 := HD.out.below hc
              have hb8 : Below w.heap.size w w8 := below_back hba hza hc
              have hR2 := hR8.stepA hB2 (fun _ h => h) hs2
              have hb2 : Below w.heap.size w w2 := hb8.trans (hs2.keep.below hb8.size (by obtain ⟨L, hL, _⟩ := HD.out.a; exact hL.mine_ge))
              have gk2 := hs2.keep.blk (blk_below gk hc) (by obtain ⟨L, hL, _⟩ := hR8.a; exact hs2.not hL.2.1 (blk_below gk hc) (by decide) (by decide))
              have HM : Hid (Rel w2 w.heap.size ba bb va' vb (.slice ow E.length cw) S' S E (fun g => g < n0) ∧ Below w.heap.size w w2 ∧ w2.heap[n0]? = some (.cells #[.int .i64 kind, .int .i64 frm, .int .i64 to, .int .i64 ii, .slice ad st.size cap] 32 (0, 0))) := ⟨hR2, hb2, gk2⟩
              clear hB2 hs2 hR8 hb8 hR2 hb2 gk2 hc
              refine hK _ _ ?_
              try simp only [Act.put, List.setIfInBounds_toArray, List.set_cons_succ, List.set_cons_zero]
              refine x_end ?_
              refine wpX_tail [6, 7, 8, 9] 4 (by kernel_rfl) ?_
              simp only [List.map_cons, List.map_nil, List.getD_cons_zero, List.getD_cons_succ]
              refine x_write rfl ?_
              (rintro _ rfl K hK ; have q := blk5 HM.out.2.2)
              go_wp2_with fail
              clear q
              refine x_write rfl ?_
              rintro w2 rfl K hK
              go_wp2_with fail
              refine (HCB.out w2 va' HM.out.1 HM.out.2.1).mono ?_
              rintro e w3 ⟨vb', rfl, hB3, hs3⟩
              have hR3 := HM.out.1.stepB hB3 (fun _ h => h) hs3
              have hb3 : Below w.heap.size w w3 := HM.out.2.1.trans (hs3.keep.below HM.out.2.1.size (by obtain ⟨L, hL, _⟩ := HM.out.1.b; exact fun k hm => hm.elim (fun e => by rw [e]; exact hL.1) (fun e => (hL.2.2.1.lt k e).1)))
              have HZ : Hid (SRel w3 w.heap.size ba bb room (i + 1) va' vb' (.slice ow E.length cw) S' E) := ⟨hR3.any, hS'.1, by omega, hS'.2.trans HSo.out.2⟩
              clear hB3 hs3 hR3 HM
              refine hK _ _ ?_
              try simp only [Act.put, List.setIfInBounds_toArray, List.set_cons_succ, List.set_cons_zero]
              (refine x_pure rfl _ ?_ rfl (by simp) ?_ ?_ ; rotate_left ; · (intro w8 K hK ; go_wp2_with fail ; exact rfl))
              simp only [Act.put, List.setIfInBounds_toArray, List.set_cons_succ, List.set_cons_zero]
              (refine x_pure rfl _ ?_ rfl (by simp) ?_ ?_ ; rotate_left ; · (intro w8 K hK ; go_wp2_with fail ; exact rfl))
              simp only [Act.put, List.setIfInBounds_toArray, List.set_cons_succ, List.set_cons_zero]
              refine x_nil ?_
              rintro _ rfl
              clear qa HCA HCB HD
              have HZa := HZ.out.1.a
              have HZb := HZ.out.1.b
              have HL1 := Lib.hid (len_uni HZa)
              have HL2 := Lib.hid (rlen_uni HZb)
              have HL3 := Lib.hid (lost_uni HZa)
              have HL4 := Lib.hid (rlost_uni HZb)
              clear HZa HZb
              go_wp2_with fail
              refine HL1.out.mono ?_
              rintro e wq1 ⟨rfl, rfl⟩
              go_wp2_with fail
              refine HL2.out.mono ?_
              rintro e wq2 ⟨rfl, rfl⟩
              go_wp2_with fail
              refine HL3.out.mono ?_
              rintro e wq3 ⟨rfl, rfl⟩
              go_wp2_with fail
              refine HL4.out.mono ?_
              rintro e wq4 ⟨rfl, rfl⟩
              clear HL1 HL2 HL3 HL4
              go_wp2_with fail
              go_roundw
              case rel => exact ⟨i + 1, _, _, _, _, by omega, by go_num, HZ.out, hb3⟩
              case measure => simp [intOf]; omega
            · simp only [List.getD_cons_zero, List.getD_cons_succ]
              refine x_write rfl ?_
              (rintro _ rfl K hK ; have q := blk5 (blk_below gk hc))
              go_wp2_with fail
              clear q
              refine x_end ?_
              refine wpX_tail [3, 7, 8, 9] 4 (by kernel_rfl) ?_
              simp only [List.map_cons, List.map_nil, List.getD_cons_zero, List.getD_cons_succ]
              refine x_write rfl ?_
              rintro w8 rfl K hK
              go_wp2_with fail
              refine (HCA.out w8 hc).mono ?_
              rintro e w2 ⟨va', rfl, hB2, hs2⟩
              have hR8 := HD.out.below hc
              have hb8 : Below w.heap.size w w8 := below_back hba hza hc
              have hR2 := hR8.stepA hB2 (fun _ h => h) hs2
              have hb2 : Below w.heap.size w w2 := hb8.trans (hs2.keep.below hb8.size (by obtain ⟨L, hL, _⟩ := HD.out.a; exact hL.mine_ge))
              have gk2 := hs2.keep.blk (blk_below gk hc) (by obtain ⟨L, hL, _⟩ := hR8.a; exact hs2.not hL.2.1 (blk_below gk hc) (by decide) (by decide))
              have HM : Hid (Rel w2 w.heap.size ba bb va' vb (.slice ow E.length cw) S' S E (fun g => g < n0) ∧ Below w.heap.size w w2 ∧ w2.heap[n0]? = some (.cells #[.int .i64 kind, .int .i64 frm, .int .i64 to, .int .i64 ii, .slice ad st.size cap] 32 (0, 0))) := ⟨hR2, hb2, gk2⟩
              clear hB2 hs2 hR8 hb8 hR2 hb2 gk2 hc
              refine hK _ _ ?_
              try simp only [Act.put, List.setIfInBounds_toArray, List.set_cons_succ, List.set_cons_zero]
              refine x_write rfl ?_
              rintro w2 rfl K hK
              go_wp2_with fail
              refine (HCB.out w2 va' HM.out.1 HM.out.2.1).mono ?_
              rintro e w3 ⟨vb', rfl, hB3, hs3⟩
              have hR3 := HM.out.1.stepB hB3 (fun _ h => h) hs3
              have hb3 : Below w.heap.size w w3 := HM.out.2.1.trans (hs3.keep.below HM.out.2.1.size (by obtain ⟨L, hL, _⟩ := HM.out.1.b; exact fun k hm => hm.elim (fun e => by rw [e]; exact hL.1) (fun e => (hL.2.2.1.lt k e).1)))
              have HZ : Hid (SRel w3 w.heap.size ba bb room (i + 1) va' vb' (.slice ow E.length cw) S' E) := ⟨hR3.any, hS'.1, by omega, hS'.2.trans HSo.out.2⟩
              clear hB3 hs3 hR3 HM
              refine hK _ _ ?_
              try simp only [Act.put, List.setIfInBounds_toArray, List.set_cons_succ, List.set_cons_zero]
              (refine x_pure rfl _ ?_ rfl (by simp) ?_ ?_ ; rotate_left ; · (intro w8 K hK ; go_wp2_with fail ; exact rfl))
              simp only [Act.put, List.setIfInBounds_toArray, List.set_cons_succ, List.set_cons_zero]
              (refine x_pure rfl _ ?_ rfl (by simp) ?_ ?_ ; rotate_left ; · (intro w8 K hK ; go_wp2_with fail ; exact rfl))
              simp only [Act.put, List.setIfInBounds_toArray, List.set_cons_succ, List.set_cons_zero]
              refine x_nil ?_
              rintro _ rfl
              clear qa HCA HCB HD
              have HZa := HZ.out.1.a
              have HZb := HZ.out.1.b
              have HL1 := Lib.hid (len_uni HZa)
              have HL2 := Lib.hid (rlen_uni HZb)
              have HL3 := Lib.hid (lost_uni HZa)
              have HL4 := Lib.hid (rlost_uni HZb)
              clear HZa HZb
              go_wp2_with fail
              refine HL1.out.mono ?_
              rintro e wq1 ⟨rfl, rfl⟩
              go_wp2_with fail
              refine HL2.out.mono ?_
              rintro e wq2 ⟨rfl, rfl⟩
              go_wp2_with fail
              refine HL3.out.mono ?_
              rintro e wq3 ⟨rfl, rfl⟩
              go_wp2_with fail
              refine HL4.out.mono ?_
              rintro e wq4 ⟨rfl, rfl⟩
              clear HL1 HL2 HL3 HL4
              go_wp2_with fail
              go_roundw
              case rel => exact ⟨i + 1, _, _, _, _, by omega, by go_num, HZ.out, hb3⟩
              case measure => simp [intOf]; omega
          · simp only [List.getD_cons_zero, List.getD_cons_succ]
            refine x_write rfl ?_
            (intro w8 hc K hK ; have q := blk5 (blk_below gk hc))
            go_wp2_with fail
            refine x_end ?_
            clear q
            refine wpX_tail [2, 3, 7, 8, 9] 5 (by kernel_rfl) ?_
            simp only [List.map_cons, List.map_nil, List.getD_cons_zero, List.getD_cons_succ]
            refine x_write rfl ?_
            (rintro _ rfl K hK ; have q := blk5 (blk_below gk hc))
            go_wp2_with fail
            clear q
            refine x_write rfl ?_
            rintro w8 rfl K hK
            go_wp2_with fail
            refine (HCA.out w8 hc).mono ?_
            rintro e w2 ⟨va', rfl, hB2, hs2⟩
            have hR8 := HD.out.below hc
            have hb8 : Below w.heap.size w w8 := below_back hba hza hc
            have hR2 := hR8.stepA hB2 (fun _ h => h) hs2
            have hb2 : Below w.heap.size w w2 := hb8.trans (hs2.keep.below hb8.size (by obtain ⟨L, hL, _⟩ := HD.out.a; exact hL.mine_ge))
            have gk2 := hs2.keep.blk (blk_below gk hc) (by obtain ⟨L, hL, _⟩ := hR8.a; exact hs2.not hL.2.1 (blk_below gk hc) (by decide) (by decide))
            have HM : Hid (Rel w2 w.heap.size ba bb va' vb (.slice ow E.length cw) S' S E (fun g => g < n0) ∧ Below w.heap.size w w2 ∧ w2.heap[n0]? = some (.cells #[.int .i64 kind, .int .i64 frm, .int .i64 to, .int .i64 ii, .slice ad st.size cap] 32 (0, 0))) := ⟨hR2, hb2, gk2⟩
            clear hB2 hs2 hR8 hb8 hR2 hb2 gk2 hc
            refine hK _ _ ?_
            try simp only [Act.put, List.setIfInBounds_toArray, List.set_cons_succ, List.set_cons_zero]
            refine x_write rfl ?_
            rintro w2 rfl K hK
            go_wp2_with fail
            refine (HCB.out w2 va' HM.out.1 HM.out.2.1).mono ?_
            rintro e w3 ⟨vb', rfl, hB3, hs3⟩
            have hR3 := HM.out.1.stepB hB3 (fun _ h => h) hs3
            have hb3 : Below w.heap.size w w3 := HM.out.2.1.trans (hs3.keep.below HM.out.2.1.size (by obtain ⟨L, hL, _⟩ := HM.out.1.b; exact fun k hm => hm.elim (fun e => by rw [e]; exact hL.1) (fun e => (hL.2.2.1.lt k e).1)))
            have HZ : Hid (SRel w3 w.heap.size ba bb room (i + 1) va' vb' (.slice ow E.length cw) S' E) := ⟨hR3.any, hS'.1, by omega, hS'.2.trans HSo.out.2⟩
            clear hB3 hs3 hR3 HM
            refine hK _ _ ?_
            try simp only [Act.put, List.setIfInBounds_toArray, List.set_cons_succ, List.set_cons_zero]
            (refine x_pure rfl _ ?_ rfl (by simp) ?_ ?_ ; rotate_left ; · (intro w8 K hK ; go_wp2_with fail ; exact rfl))
            simp only [Act.put, List.setIfInBounds_toArray, List.set_cons_succ, List.set_cons_zero]
            (refine x_pure rfl _ ?_ rfl (by simp) ?_ ?_ ; rotate_left ; · (intro w8 K hK ; go_wp2_with fail ; exact rfl))
            simp only [Act.put, List.setIfInBounds_toArray, List.set_cons_succ, List.set_cons_zero]
            refine x_nil ?_
            rintro _ rfl
            clear qa HCA HCB HD
            have HZa := HZ.out.1.a
            have HZb := HZ.out.1.b
            have HL1 := Lib.hid (len_uni HZa)
            have HL2 := Lib.hid (rlen_uni HZb)
            have HL3 := Lib.hid (lost_uni HZa)
            have HL4 := Lib.hid (rlost_uni HZb)
            clear HZa HZb
            go_wp2_with fail
            refine HL1.out.mono ?_
            rintro e wq1 ⟨rfl, rfl⟩
            go_wp2_with fail
            refine HL2.out.mono ?_
            rintro e wq2 ⟨rfl, rfl⟩
            go_wp2_with fail
            refine HL3.out.mono ?_
            rintro e wq3 ⟨rfl, rfl⟩
            go_wp2_with fail
            refine HL4.out.mono ?_
            rintro e wq4 ⟨rfl, rfl⟩
            clear HL1 HL2 HL3 HL4
            go_wp2_with fail
            go_roundw
            case rel => exact ⟨i + 1, _, _, _, _, by omega, by go_num, HZ.out, hb3⟩
            case measure => simp [intOf]; omega
      by_cases hk4 : kind % 7 = 4
      · as_aux_lemma =>
          obtain ⟨er, en, S', hts⟩ : ∃ a b c, doubleS S ii = (a, b, c) := ⟨_, _, _, rfl⟩
          have hS' := doubleS_ok HSo.out.1 ii
          have CA := double_uni HSo.out.1 (by omega) HD.out.a hza ii
          rw [hts] at CA hS'
          simp only at CA hS'
          have HCA := Lib.hid (CA)
          clear CA
          go_wp2_with fail
          refine HCA.out.mono ?_
          rintro e w2 ⟨va', rfl, hB2, hs2⟩
          have hR2 := HD.out.stepA hB2 (fun _ h => h) hs2
          have hb2 : Below w.heap.size w w2 := hba.trans (hs2.keep.below hza (by obtain ⟨L, hL, _⟩ := HD.out.a; exact hL.mine_ge))
          have gk2 := hs2.keep.blk gk (by obtain ⟨L, hL, _⟩ := HD.out.a; exact hs2.not hL.2.1 gk (by decide) (by decide))
          have q2 := blk5 gk2
          have CB := rdouble_uni HSo.out.1 (by omega) hR2.b hb2.size ii
          rw [hts] at CB
          simp only at CB
          have HCB := Lib.hid (CB)
          have HR2 : Hid (Rel w2 w.heap.size ba bb va' vb (.slice ow E.length cw) S' S E (fun g => g < n0)) := hR2
          clear CB HCA hB2 hs2 hR2 gk2 qa
          go_wp2_with fail
          refine HCB.out.mono ?_
          rintro e w3 ⟨vb', rfl, hB3, hs3⟩
          have hR3 := HR2.out.stepB hB3 (fun _ => Or.inl) hs3
          have hb3 : Below w.heap.size w w3 := hb2.trans (hs3.keep.below hb2.size (by obtain ⟨L, hL, _⟩ := HR2.out.b; exact fun k hm => hm.elim (fun e => by rw [e]; exact hL.1) (fun e => (hL.2.2.1.lt k e).1)))
          have HZ : Hid (SRel w3 w.heap.size ba bb room (i + 1) va' vb' (.slice ow E.length cw) S' E) := ⟨hR3.any, hS'.1, by omega, hS'.2.trans HSo.out.2⟩
          clear hB3 hs3 hR3 q2 HCB
          have HZa := HZ.out.1.a
          have HZb := HZ.out.1.b
          have HL1 := Lib.hid (len_uni HZa)
          have HL2 := Lib.hid (rlen_uni HZb)
          have HL3 := Lib.hid (lost_uni HZa)
          have HL4 := Lib.hid (rlost_uni HZb)
          clear HZa HZb
          go_wp2_with fail
          refine HL1.out.mono ?_
          rintro e wq1 ⟨rfl, rfl⟩
          go_wp2_with fail
          refine HL2.out.mono ?_
          rintro e wq2 ⟨rfl, rfl⟩
          go_wp2_with fail
          refine HL3.out.mono ?_
          rintro e wq3 ⟨rfl, rfl⟩
          go_wp2_with fail
          refine HL4.out.mono ?_
          rintro e wq4 ⟨rfl, rfl⟩
          clear HL1 HL2 HL3 HL4
          go_wp2_with fail
          go_roundw
          case rel => exact ⟨i + 1, _, _, _, _, by omega, by go_num, HZ.out, hb3⟩
          case measure => simp [intOf]; omega
      by_cases hk5 : kind % 7 = 5
      · as_aux_lemma =>
          obtain ⟨La, hAa, hAk, hAok, hAD⟩ := HD.out.a
          obtain ⟨oa, ca, rfl, _⟩ := row_form hAa.2.2.1
          have HBB := Lib.hid (And.intro hAa (And.intro hAk (And.intro hAok hAD)))
          have hlen5 := keys_len hAk
          have hfw5 := HSo.out.1.few
          have hfw6 := HSo.out.1.room
          clear hAa hAk hAok hAD
          go_wp2_with fail
          refine (ball_any _ _ _ _ _ _ _ _ _ HBB.out.1).mono ?_
          rintro e w1 ⟨bl, rfl, hbl1, hbl2, hbb1⟩
          have hR1 := HD.out.below hbb1
          obtain ⟨L2, hB2, hk2, _⟩ := hR1.b
          have hl2 := keys_len hk2
          have hz1 : w.heap.size ≤ w1.heap.size := Nat.le_trans hza hbb1.size
          have HB2 := Lib.hid (And.intro hB2 hk2)
          have HP1 := Lib.hid (And.intro hbl2 hbb1)
          clear hB2 hk2 hR1 hbl2 hbl1 hbb1
          go_wp2_with fail
          refine (rall_any _ _ _ _ _ _ _ _ HB2.out.1 hz1 (by omega)).mono ?_
          rintro e w2 ⟨v, Lb, rfl, hv, hkey, hd, hbb2⟩
          obtain ⟨ol, cl, rfl, hWk, hWT, hwa, hwb, hR2, hDa, hDb⟩ := new_wk HD.out HBB.out.1 HBB.out.2.1 HBB.out.2.2.1 HBB.out.2.2.2 (by omega) HP1.out.2 HP1.out.1 hv (hkey.trans HB2.out.2) hd hbb2
          have hbw2 : Below w.heap.size w w2 := below_back (below_back hba hza HP1.out.2) hz1 hbb2
          have hba2 := below_alloc_self w2 (.cells #[.func (.func 32) #[] #[.pointer (some ⟨bl, 0, none⟩)], .slice ol Lb.length cl] 57 (0, 0))
          have HW2 := Lib.hid (And.intro (hWk.below hba2) (And.intro (hWT.below hba2) (And.intro hwa (And.intro hwb (And.intro (hR2.below hba2) (And.intro (And.intro hDa hDb) (below_back hbw2 hbw2.size hba2)))))))
          have hz2 := hbw2.size
          clear hv hkey hd hbb2 hWk hWT hwa hwb hR2 hDa hDb hbw2 hba2 HBB HB2 HP1 hl2 hlen5
          go_wp2_with (first
            | (at_builtin; (refine wpList_append_any _ rfl (.tmp 219) (.tmp 225) 49 rfl w.heap.size 57 i0 _ 2 32 Try.underlying49 HI.out.1 HI.out.2.1 HI.out.2.2.1 HI.out.2.2.2 rfl (by decide) (.slice ow E.length cw) E.length (wkflat E) rfl HW2.out.2.2.2.2.1.ow (some ⟨w2.heap.size, 0, none⟩) 1 1 (wkflat [⟨bl, oa, La, ol, cl, Lb⟩]) rfl rfl (fun h => by cases h) (wk_news (heap_new rfl)) (wkflat_one _) ?_ ?_ ?_ ?_))
            | fail)
          · unfold maxLen; omega
          · omega
          · exact HW2.out.2.2.2.2.2.2.size
          intro vw3 w3 hown3 hgrow3 _
          have hown3a : w3.ownsRow w.heap.size 57 2 vw3 (E ++ [(⟨bl, oa, La, ol, cl, Lb⟩ : Wk)]).length (wkflat (E ++ [(⟨bl, oa, La, ol, cl, Lb⟩ : Wk)])) := by rw [wkflat_append, List.length_append]; exact hown3
          have hR3 := HW2.out.2.2.2.2.1.stepW hgrow3 hown3a HW2.out.1 HW2.out.2.1 HW2.out.2.2.1 HW2.out.2.2.2.1 HW2.out.2.2.2.2.2.1
          have hb3 : Below w.heap.size w w3 := HW2.out.2.2.2.2.2.2.grown hgrow3 HW2.out.2.2.2.2.2.2.size (fun y hy => (HW2.out.2.2.2.2.1.ow.lt y hy).1)
          obtain ⟨ow3, cw3, rfl, hcw5, hcw6⟩ := row_shape hown3a
          obtain ⟨E3, hE3⟩ : ∃ x, x = E ++ [(⟨bl, oa, La, ol, cl, Lb⟩ : Wk)] := ⟨_, rfl⟩
          have hE3l : E3.length = E.length + 1 := by rw [hE3]; simp
          rw [← hE3] at hR3 hcw5 ⊢
          have HE3 := Lib.hid hR3
          unfold maxLen at hcw6
          clear hown3 hgrow3 hown3a hR3 hE3 HW2
          obtain ⟨g9, rfl, hg9l, hx, _⟩ := own_wk HE3.out.ow E.length (by omega)
          rw [hE3l] at hcw5 ⊢
          clear qa gk
          go_wp2_with fail
          have HZ : Hid (SRel w3 w.heap.size ba bb room (i + 1) (.slice oa La.length ca) vb (.slice (some ⟨g9, 0, none⟩) (E.length + 1) cw3) S E3) := ⟨by rw [← hE3l]; exact HE3.out.any, HSo.out.1.mono, by omega, HSo.out.2⟩
          clear HE3 hx
          have HZa := HZ.out.1.a
          have HZb := HZ.out.1.b
          have HL1 := Lib.hid (len_uni HZa)
          have HL2 := Lib.hid (rlen_uni HZb)
          have HL3 := Lib.hid (lost_uni HZa)
          have HL4 := Lib.hid (rlost_uni HZb)
          clear HZa HZb
          go_wp2_with fail
          refine HL1.out.mono ?_
          rintro e wq1 ⟨rfl, rfl⟩
          go_wp2_with fail
          refine HL2.out.mono ?_
          rintro e wq2 ⟨rfl, rfl⟩
          go_wp2_with fail
          refine HL3.out.mono ?_
          rintro e wq3 ⟨rfl, rfl⟩
          go_wp2_with fail
          refine HL4.out.mono ?_
          rintro e wq4 ⟨rfl, rfl⟩
          clear HL1 HL2 HL3 HL4
          go_wp2_with fail
          go_roundw
          case rel => exact ⟨i + 1, _, _, _, _, by omega, by go_num, HZ.out, hb3⟩
          case measure => simp [intOf]; omega
      · as_aux_lemma =>
          by_cases hE0 : E.length = 0
          · obtain rfl : E = [] := List.eq_nil_of_length_eq_zero hE0
            clear hE0
            simp only [List.length_nil] at hcw1 ⊢
            go_wp2_with fail
            have HZ : Hid (SRel wx w.heap.size ba bb room (i + 1) va vb (.slice ow 0 cw) S []) := ⟨HD.out.any, HSo.out.1.mono, by omega, HSo.out.2⟩
            clear qa gk
            have HZa := HZ.out.1.a
            have HZb := HZ.out.1.b
            have HL1 := Lib.hid (len_uni HZa)
            have HL2 := Lib.hid (rlen_uni HZb)
            have HL3 := Lib.hid (lost_uni HZa)
            have HL4 := Lib.hid (rlost_uni HZb)
            clear HZa HZb
            go_wp2_with fail
            refine HL1.out.mono ?_
            rintro e wq1 ⟨rfl, rfl⟩
            go_wp2_with fail
            refine HL2.out.mono ?_
            rintro e wq2 ⟨rfl, rfl⟩
            go_wp2_with fail
            refine HL3.out.mono ?_
            rintro e wq3 ⟨rfl, rfl⟩
            go_wp2_with fail
            refine HL4.out.mono ?_
            rintro e wq4 ⟨rfl, rfl⟩
            clear HL1 HL2 HL3 HL4
            go_wp2_with fail
            go_roundw
            case rel => exact ⟨i + 1, _, _, _, _, by omega, by go_num, HZ.out, hba⟩
            case measure => simp [intOf]; omega
          · obtain ⟨k, hk⟩ : ∃ k : Nat, ii % (E.length : Int) = k := ⟨(ii % (E.length : Int)).toNat, by have := Int.emod_nonneg ii (b := (E.length : Int)) (by omega); omega⟩
            have hkl : k < E.length := by have := Int.emod_lt_of_pos ii (b := (E.length : Int)) (by omega); omega
            obtain ⟨gw, rfl, hgw, y0, y1⟩ := own_wk HD.out.ow k hkl
            have hek := (HD.out.ok E[k] (List.getElem_mem hkl)).1
            obtain ⟨⟨bl, oa, La, ol, cl, Lb⟩, hee⟩ : ∃ e, e = E[k] := ⟨_, rfl⟩
            rw [← hee] at y0 y1 hek
            simp only at y0 y1
            have hlen5 : Lb.length = La.length := hek.len
            have hfew5 : La.length ≤ 512 := hek.few
            obtain ⟨m, hm⟩ : ∃ m : Nat, frm % ((Lb.length : Int) + 1) = m := ⟨(frm % ((Lb.length : Int) + 1)).toNat, by have := Int.emod_nonneg frm (b := ((Lb.length : Int) + 1)) (by omega); omega⟩
            have hml : m ≤ La.length := by have := Int.emod_lt_of_pos frm (b := ((Lb.length : Int) + 1)) (by omega); omega
            have HK5 := Lib.hid (And.intro hek hml)
            have HAm : Hid (∀ w, Calls Try.prog 9 #[.int .i64 frm, .int .i64 ((Lb.length : Int) + 1)] w fun e w' => e = .returned (.int .i64 m) ∧ Below w.heap.size w w') := fun w => (among_any frm ((Lb.length : Int) + 1) hfr (by omega) (by omega) w).mono (by rintro e w' ⟨rfl, rfl⟩; rw [hm]; exact ⟨rfl, Below.refl _ _⟩)
            have hfl5 : Lb.length ≤ 512 := by omega
            clear hek hee hml hm hlen5 hfew5
            go_wp2_with fail
            refine (among_any ii (E.length : Int) hir (by omega) (by omega) _).mono ?_
            rintro e w' ⟨rfl, rfl⟩
            rw [hk]
            go_wp2_with fail
            clear y0 y1 qa
            have hbx := below_alloc_self w' (.cells #[.func (.func 32) #[] #[.pointer (some ⟨bl, 0, none⟩)], .slice ol Lb.length cl] 57 (0, 0))
            have gk2 := blk_below gk hbx
            have gw2 : (w'.alloc (.cells #[.func (.func 32) #[] #[.pointer (some ⟨bl, 0, none⟩)], .slice ol Lb.length cl] 57 (0, 0))).heap[w'.heap.size]? = some (.cells #[.func (.func 32) #[] #[.pointer (some ⟨bl, 0, none⟩)], .slice ol Lb.length cl] 57 (0, 0)) := by (repeat (first | (with_reducible assumption) | (with_reducible exact Below.refl _ _) | (with_reducible refine heap_drew ?_) | (focus ((with_reducible refine heap_new ?_) ; simp ; done)) | (with_reducible apply heap_set_to) | (focus ((with_reducible refine heap_set_ne ?_ ?_ _) ; rotate_left ; (focus (first | omega | (simp ; done) | (simp ; omega))))) | (with_reducible refine heap_old ?_) | (with_reducible refine Below.drew ?_) | (with_reducible refine below_set ?_ _ _) | (focus ((with_reducible refine Below.setCell ?_ ?_ _) ; rotate_left ; (focus (first | omega | (simp ; done) | (simp ; omega))))) | (focus ((with_reducible refine Below.alloc ?_ ?_ _) ; rotate_left ; (focus (first | omega | (simp ; done) | (simp ; omega))))) | (with_reducible rfl) | (focus (simp ; done))))
            have HM := Lib.hid (And.intro (HD.out.below hbx) (And.intro (below_back hba hza hbx) (HK5.out.1.below hbx)))
            clear hbx gk
            generalize hwq : w'.alloc (.cells #[.func (.func 32) #[] #[.pointer (some ⟨bl, 0, none⟩)], .slice ol Lb.length cl] 57 (0, 0)) = wq at *
            generalize hkq : w'.heap.size = kq at *
            clear hwq hkq
            have hSt : Stable (fun w8 : World => (Below wq.heap.size wq w8)) := by repeat (first | exact stable_ext _ | exact stable_blk _ _ | exact stable_true | (refine stable_bel ?_ ; (focus (first | (simp [World.size_setCell] ; done) | (simp [World.setCell] ; done)))) | refine Stable.and ?_ ?_)
            refine wp_region_x [0, 1, 2, 3, 4, 5, 6, 7, 8, 9, 10, 11, 12, 13] [1, 0, 1, 0, 1, 0, 0, 1, 0, 1, 0, 0, 4, 0] (fun w8 => (Below wq.heap.size wq w8)) (by kernel_rfl) (by kernel_rfl) ?_ ?_
            · (first | trivial | (repeat (first | (with_reducible assumption) | (with_reducible exact Below.refl _ _) | (with_reducible refine heap_drew ?_) | (focus ((with_reducible refine heap_new ?_) ; simp ; done)) | (with_reducible apply heap_set_to) | (focus ((with_reducible refine heap_set_ne ?_ ?_ _) ; rotate_left ; (focus (first | omega | (simp ; done) | (simp ; omega))))) | (with_reducible refine heap_old ?_) | (with_reducible refine Below.drew ?_) | (with_reducible refine below_set ?_ _ _) | (focus ((with_reducible refine Below.setCell ?_ ?_ _) ; rotate_left ; (focus (first | omega | (simp ; done) | (simp ; omega))))) | (focus ((with_reducible refine Below.alloc ?_ ?_ _) ; rotate_left ; (focus (first | omega | (simp ; done) | (simp ; omega))))) | (with_reducible rfl) | (focus (simp ; done)))))
            simp only [List.map_cons, List.map_nil, List.getD_cons_zero, List.getD_cons_succ]
            (refine x_quiet rfl hSt (fun _ h => h) _ ?_ rfl (by simp) ?_ ?_ ; rotate_left ; · (intro w8 hC K hK ; have hc := hC ; have q := blk5 (blk_below gk2 hc) ; have q2 := blk2 (blk_below gw2 hc) ; go_wp2_with fail ; refine ⟨?_, Below.refl _ _⟩ ; exact rfl))
            simp only [Act.put, List.setIfInBounds_toArray, List.set_cons_succ, List.set_cons_zero]
            (refine x_pure rfl _ ?_ rfl (by simp) ?_ ?_ ; rotate_left ; · (intro w8 K hK ; go_wp2_with fail ; exact rfl))
            simp only [Act.put, List.setIfInBounds_toArray, List.set_cons_succ, List.set_cons_zero]
            (refine x_quiet rfl hSt (fun _ h => h) _ ?_ rfl (by simp) ?_ ?_ ; rotate_left ; · (intro w8 hC K hK ; have hc := hC ; have q := blk5 (blk_below gk2 hc) ; have q2 := blk2 (blk_below gw2 hc) ; go_wp2_with fail ; refine ⟨?_, Below.refl _ _⟩ ; exact rfl))
            simp only [Act.put, List.setIfInBounds_toArray, List.set_cons_succ, List.set_cons_zero]
            (refine x_pure rfl _ ?_ rfl (by simp) ?_ ?_ ; rotate_left ; · (intro w8 K hK ; go_wp2_with fail ; exact rfl))
            simp only [Act.put, List.setIfInBounds_toArray, List.set_cons_succ, List.set_cons_zero]
            (refine x_quiet rfl hSt (fun _ h => h) _ ?_ rfl (by simp) ?_ ?_ ; rotate_left ; · (intro w8 hC K hK ; have hc := hC ; have q := blk5 (blk_below gk2 hc) ; have q2 := blk2 (blk_below gw2 hc) ; go_wp2_with fail ; refine ⟨?_, Below.refl _ _⟩ ; exact rfl))
            simp only [Act.put, List.setIfInBounds_toArray, List.set_cons_succ, List.set_cons_zero]
            (refine x_pure rfl _ ?_ rfl (by simp) ?_ ?_ ; rotate_left ; · (intro w8 K hK ; go_wp2_with fail ; exact rfl))
            simp only [Act.put, List.setIfInBounds_toArray, List.set_cons_succ, List.set_cons_zero]
            (refine x_pure rfl _ ?_ rfl (by simp) ?_ ?_ ; rotate_left ; · (intro w8 K hK ; go_wp2_with fail ; exact rfl))
            simp only [Act.put, List.setIfInBounds_toArray, List.set_cons_succ, List.set_cons_zero]
            (refine x_quiet rfl hSt (fun _ h => h) _ ?_ rfl (by simp) ?_ ?_ ; rotate_left ; · (intro w8 hC K hK ; have hc := hC ; have q := blk5 (blk_below gk2 hc) ; have q2 := blk2 (blk_below gw2 hc) ; go_wp2_with fail ; refine (HAm.out _).mono ?_ ; rintro e w2 ⟨rfl, hb2⟩ ; refine hK _ _ ⟨?_, rfl, hb2⟩ ; exact rfl))
            simp only [Act.put, List.setIfInBounds_toArray, List.set_cons_succ, List.set_cons_zero]
            (refine x_pure rfl _ ?_ rfl (by simp) ?_ ?_ ; rotate_left ; · (intro w8 K hK ; go_wp2_with fail ; exact rfl))
            simp only [Act.put, List.setIfInBounds_toArray, List.set_cons_succ, List.set_cons_zero]
            (refine x_quiet rfl hSt (fun _ h => h) _ ?_ rfl (by simp) ?_ ?_ ; rotate_left ; · (intro w8 hC K hK ; have hc := hC ; have q := blk5 (blk_below gk2 hc) ; have q2 := blk2 (blk_below gw2 hc) ; go_wp2_with fail ; refine ⟨?_, Below.refl _ _⟩ ; exact rfl))
            simp only [Act.put, List.setIfInBounds_toArray, List.set_cons_succ, List.set_cons_zero]
            (refine x_pure rfl _ ?_ rfl (by simp) ?_ ?_ ; rotate_left ; · (intro w8 K hK ; go_wp2_with fail ; exact rfl))
            simp only [Act.put, List.setIfInBounds_toArray, List.set_cons_succ, List.set_cons_zero]
            (refine x_pure rfl _ ?_ rfl (by simp) ?_ ?_ ; rotate_left ; · (intro w8 K hK ; go_wp2_with fail ; exact rfl))
            simp only [Act.put, List.setIfInBounds_toArray, List.set_cons_succ, List.set_cons_zero]
            refine x_make rfl ?_
            intro w8 hD K hK ; have hc := hD ; have q := blk5 (blk_below gk2 hc) ; have q2 := blk2 (blk_below gw2 hc)
            go_wp2_with fail
            refine (goes_both ⟨bl, oa, La, ol, cl, Lb⟩ m _ w8 (HM.out.2.2.below hc) HK5.out.2).mono ?_
            rintro e w9 ⟨rfl, hb9⟩
            refine hK _ _ hb9 ?_
            try simp only [Act.put, List.setIfInBounds_toArray, List.set_cons_succ, List.set_cons_zero]
            (refine x_pure rfl _ ?_ rfl (by simp) ?_ ?_ ; rotate_left ; · (intro w8 K hK ; go_wp2_with fail ; exact rfl))
            simp only [Act.put, List.setIfInBounds_toArray, List.set_cons_succ, List.set_cons_zero]
            first | refine x_nil ?_ | refine x_end ?_
            rintro wy hyb
            have hY : Below wq.heap.size wq wy := below_back (below_back hc hc.size hb9) (Nat.le_trans hc.size hb9.size) hyb
            have HZ : Hid (SRel wy w.heap.size ba bb room (i + 1) va vb (.slice (some ⟨gw, 0, none⟩) E.length cw) S E) := ⟨(HM.out.1.below hY).any, HSo.out.1.mono, by omega, HSo.out.2⟩
            have hbz := below_back HM.out.2.1 HM.out.2.1.size hY
            clear HM HK5 HAm HD hc hb9 hyb hY gk2 gw2 q q2
            have HZa := HZ.out.1.a
            have HZb := HZ.out.1.b
            have HL1 := Lib.hid (len_uni HZa)
            have HL2 := Lib.hid (rlen_uni HZb)
            have HL3 := Lib.hid (lost_uni HZa)
            have HL4 := Lib.hid (rlost_uni HZb)
            clear HZa HZb
            go_wp2_with fail
            refine HL1.out.mono ?_
            rintro e wq1 ⟨rfl, rfl⟩
            go_wp2_with fail
            refine HL2.out.mono ?_
            rintro e wq2 ⟨rfl, rfl⟩
            go_wp2_with fail
            refine HL3.out.mono ?_
            rintro e wq3 ⟨rfl, rfl⟩
            go_wp2_with fail
            refine HL4.out.mono ?_
            rintro e wq4 ⟨rfl, rfl⟩
            clear HL1 HL2 HL3 HL4
            go_wp2_with fail
            go_roundw
            case rel => exact ⟨i + 1, _, _, _, _, by omega, by go_num, HZ.out, hbz⟩
            case measure => simp [intOf]; omega
    · obtain rfl : i = l.length := by omega
      obtain ⟨ow, cw, rfl, hcw1, hcw2⟩ := row_shape HQ.out.1.ow
      unfold maxLen at hcw2
      have hEl := HQ.out.2.2.1
      have HSo : Hid (S.Ok l.length ∧ S.room = room) := ⟨HQ.out.2.1, HQ.out.2.2.2⟩
      have HD : Hid (Rel wr w.heap.size ba bb va vb (.slice ow E.length cw) S S E (fun g => g < wr.heap.size)) := HQ.out.1.any
      clear HQ
      obtain ⟨La, hAa, hAk, hAok, hAD⟩ := HD.out.a
      obtain ⟨oa, ca, rfl, _⟩ := row_form hAa.2.2.1
      have HBB := Lib.hid (And.intro hAa (And.intro hAk (And.intro hAok hAD)))
      have hlen5 := keys_len hAk
      have hfw5 := HSo.out.1.few
      have hfw6 := HSo.out.1.room
      clear hAa hAk hAok hAD
      go_wp2_with fail
      refine (ball_any _ _ _ _ _ _ _ _ _ HBB.out.1).mono ?_
      rintro e w1 ⟨bl, rfl, hbl1, hbl2, hbb1⟩
      have hR1 := HD.out.below hbb1
      obtain ⟨L2, hB2, hk2, _⟩ := hR1.b
      have hl2 := keys_len hk2
      have hz1 : w.heap.size ≤ w1.heap.size := Nat.le_trans hzr hbb1.size
      have HB2 := Lib.hid (And.intro hB2 hk2)
      have HP1 := Lib.hid (And.intro hbl2 hbb1)
      clear hB2 hk2 hR1 hbl2 hbl1 hbb1
      go_wp2_with fail
      refine (rall_any _ _ _ _ _ _ _ _ HB2.out.1 hz1 (by omega)).mono ?_
      rintro e w2 ⟨v, Lb, rfl, hv, hkey, hd, hbb2⟩
      obtain ⟨ol, cl, rfl, hWk, hWT, hwa, hwb, hR2, hDa, hDb⟩ := new_wk HD.out HBB.out.1 HBB.out.2.1 HBB.out.2.2.1 HBB.out.2.2.2 (by omega) HP1.out.2 HP1.out.1 hv (hkey.trans HB2.out.2) hd hbb2
      have hbw2 : Below w.heap.size w w2 := below_back (below_back hbr hzr HP1.out.2) hz1 hbb2
      have hba2 := below_alloc_self w2 (.cells #[.func (.func 32) #[] #[.pointer (some ⟨bl, 0, none⟩)], .slice ol Lb.length cl] 57 (0, 0))
      have HW2 := Lib.hid (And.intro (hWk.below hba2) (And.intro (hWT.below hba2) (And.intro hwa (And.intro hwb (And.intro (hR2.below hba2) (And.intro (And.intro hDa hDb) (below_back hbw2 hbw2.size hba2)))))))
      have hz2 := hbw2.size
      clear hv hkey hd hbb2 hWk hWT hwa hwb hR2 hDa hDb hbw2 hba2 HBB HB2 HP1 hl2 hlen5
      go_wp2_with (first
        | (at_builtin; (refine wpList_append_any _ rfl (.tmp 252) (.tmp 258) 49 rfl w.heap.size 57 i0 _ 2 32 Try.underlying49 HI.out.1 HI.out.2.1 HI.out.2.2.1 HI.out.2.2.2 rfl (by decide) (.slice ow E.length cw) E.length (wkflat E) rfl HW2.out.2.2.2.2.1.ow (some ⟨w2.heap.size, 0, none⟩) 1 1 (wkflat [⟨bl, oa, La, ol, cl, Lb⟩]) rfl rfl (fun h => by cases h) (wk_news (heap_new rfl)) (wkflat_one _) ?_ ?_ ?_ ?_))
        | fail)
      · unfold maxLen; omega
      · omega
      · exact HW2.out.2.2.2.2.2.2.size
      intro vw3 w3 hown3 hgrow3 _
      have hown3a : w3.ownsRow w.heap.size 57 2 vw3 (E ++ [(⟨bl, oa, La, ol, cl, Lb⟩ : Wk)]).length (wkflat (E ++ [(⟨bl, oa, La, ol, cl, Lb⟩ : Wk)])) := by rw [wkflat_append, List.length_append]; exact hown3
      have hR3 := HW2.out.2.2.2.2.1.stepW hgrow3 hown3a HW2.out.1 HW2.out.2.1 HW2.out.2.2.1 HW2.out.2.2.2.1 HW2.out.2.2.2.2.2.1
      have hb3 : Below w.heap.size w w3 := HW2.out.2.2.2.2.2.2.grown hgrow3 HW2.out.2.2.2.2.2.2.size (fun y hy => (HW2.out.2.2.2.2.1.ow.lt y hy).1)
      obtain ⟨ow3, cw3, rfl, hcw5, hcw6⟩ := row_shape hown3a
      obtain ⟨E3, hE3⟩ : ∃ x, x = E ++ [(⟨bl, oa, La, ol, cl, Lb⟩ : Wk)] := ⟨_, rfl⟩
      have hE3l : E3.length = E.length + 1 := by rw [hE3]; simp
      rw [← hE3] at hR3 hcw5 ⊢
      have HE3 := Lib.hid hR3
      unfold maxLen at hcw6
      clear hown3 hgrow3 hown3a hR3 hE3 HW2
      rw [hE3l] at hcw5 ⊢
      go_wp2_with fail
      have HE4 : Hid (Rel w3 w.heap.size ba bb (.slice oa La.length ca) vb (.slice ow3 E3.length cw3) S S E3 (fun g => g < w3.heap.size)) := HE3.out.any
      have hE3m : E3.length = E.length + 1 := hE3l
      clear HE3 hE3l HD HSo
      have HLen := Lib.hid hE3m
      clear hE3m
      go_loopw [262] (fun v wr => ∃ j : Nat, j ≤ E.length + 1 ∧ v = .int .i64 j ∧ Below w3.heap.size w3 wr) (fun v _ => E.length + 1 - (intOf v).toNat)
      case atStart => exact ⟨0, Nat.zero_le _, rfl, Below.refl _ _⟩
      case round =>
        obtain ⟨j, hj, rfl, hbj⟩ := hrel
        by_cases hjl : j < E.length + 1
        · have hjE : j < E3.length := by have := HLen.out; omega
          obtain ⟨gw, rfl, hgw, y0, y1⟩ := own_wk (HE4.out.below hbj).ow j hjE
          have hek := ((HE4.out.below hbj).ok E3[j] (List.getElem_mem hjE)).1
          obtain ⟨⟨bl2, oa2, La2, ol2, cl2, Lb2⟩, hee⟩ : ∃ e, e = E3[j] := ⟨_, rfl⟩
          rw [← hee] at y0 y1 hek
          simp only at y0 y1
          have hlen5 : Lb2.length = La2.length := hek.len
          have hfew5 : La2.length ≤ 512 := hek.few
          have hfl5 : Lb2.length ≤ 512 := by omega
          have hbx := below_alloc_self wr (.cells #[.func (.func 32) #[] #[.pointer (some ⟨bl2, 0, none⟩)], .slice ol2 Lb2.length cl2] 57 (0, 0))
          have HK5 := Lib.hid (And.intro (hek.below hbx) (And.intro hlen5 (below_back hbj hbj.size hbx)))
          clear hek hee hlen5 hfew5 hbx
          go_wp2_with fail
          refine (goes_one ⟨bl2, oa2, La2, ol2, cl2, Lb2⟩ Lb2.length _ HK5.out.1 (Nat.le_of_eq HK5.out.2.1)).mono ?_
          rintro e w9 ⟨rfl, hb9⟩
          have hb10 := below_back HK5.out.2.2 HK5.out.2.2.size hb9
          clear HK5 y0 y1 hb9 hbj hgw
          go_wp2_with fail
          go_roundw
          case rel => exact ⟨j + 1, by omega, by go_num, hb10⟩
          case measure => simp [intOf]; omega
        · go_wp2_with fail
          go_ret
          exact ⟨rfl, below_back hb3 hb3.size hbj⟩
end Go.Proofs.Ytepilaejfepicaa
