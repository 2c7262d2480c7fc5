/-
  The reference's All: its packets, each with bytes of its own.
-/
import Derived.Test.YtepilaejfepicaaBRroom
namespace Go.Proofs.Ytepilaejfepicaa
open Go.ChangeShapes Go.WideShapes Go.ChangeAt Go.RowKit Go.Deep
set_option linter.unusedVariables false
set_option linter.unusedSimpArgs false

def Pk.key4 (p : Pk) : Int × Int × Int × ByteArray := (p.num, p.frm, p.to, p.s)
set_option maxHeartbeats 8000000 in
theorem rall_any (B b : Nat) (vs : Value) (room num lost : Int) (L : List Pk) (w : World) (h : RBagAt w B b vs room num lost L) (hBw : B ≤ w.heap.size) (hL : L.length ≤ 512) :
    Calls Try.prog 23 #[.pointer (some ⟨b, 0, none⟩)] w fun e w' => ∃ v Lb, e = .returned v ∧ w'.ownsRow w.heap.size 39 4 v Lb.length (pflat Lb) ∧ Lb.map Pk.key4 = L.map Pk.key4 ∧
      (∀ p ∈ Lb, RDat w' w.heap.size p.ad p.s) ∧ Below w.heap.size w w' := by
  obtain ⟨i0, hi0, hz0, hz1, hz2⟩ := info_parts info_pk
  have HI : Hid (_ ∧ _ ∧ _ ∧ _) := ⟨hi0, hz0, hz1, hz2⟩
  clear hi0 hz0 hz1 hz2
  have HB : Hid (RBagAt w B b vs room num lost L) := h
  obtain ⟨_, hblk, hown, _⟩ := h
  obtain ⟨oa, ca, rfl, hca1, hca2, _, _⟩ := row_form hown
  have q := blk4 hblk
  unfold maxLen at hca2
  clear hown hblk
  go_enter Try.func23, Try.ntmps23
  go_wp2_with fail
  clear q
  go_loopw [3, 11] (fun v i wr => ∃ (k : Nat) (Lb : List Pk), k ≤ L.length ∧ Lb.length = k ∧ i = .int .i64 k ∧ Hid (wr.ownsRow w.heap.size 39 4 v k (pflat Lb) ∧ Lb.map Pk.key4 = (L.take k).map Pk.key4 ∧ ∀ p ∈ Lb, RDat wr w.heap.size p.ad p.s) ∧ Below w.heap.size w wr ∧ w.heap.size ≤ wr.heap.size) (fun _ i _ => L.length - (intOf i).toNat)
  case atStart => exact ⟨0, [], Nat.zero_le _, rfl, rfl, ⟨World.ownsRow_nil _ _ _ _, rfl, by simp⟩, Below.refl _ _, Nat.le_refl _⟩
  case round =>
    obtain ⟨k, Lb, hk, hlb, rfl, HO, hbr, hzr⟩ := hrel
    by_cases hlt : k < L.length
    · obtain ⟨g, rfl, x0, x1, x2, x3⟩ := own_pk (HB.out.below hbr).2.2.1 k hlt
      have hrd := ((HB.out.below hbr).2.2.2 L[k] (List.getElem_mem hlt)).reads
      obtain ⟨⟨n, f, t, ad, cap, s⟩, hpk⟩ : ∃ p, p = L[k] := ⟨_, rfl⟩
      rw [← hpk] at x0 x1 x2 x3 hrd
      simp only at x0 x1 x2 x3 hrd
      have HPk : Hid (L[k] = ⟨n, f, t, ad, cap, s⟩) := hpk.symm
      have hb1 : Below w.heap.size w (wr.alloc (.cells #[.int .i64 n, .int .i64 f, .int .i64 t, .slice ad s.size cap] 39 (0, 0))) := hbr.alloc hzr _
      have cv := conv_reads (cap := cap) (hrd.below (below_alloc_self wr (.cells #[.int .i64 n, .int .i64 f, .int .i64 t, .slice ad s.size cap] 39 (0, 0))))
      have cv2 := conv_str s (wr.alloc (.cells #[.int .i64 n, .int .i64 f, .int .i64 t, .slice ad s.size cap] 39 (0, 0)))
      obtain ⟨cp, hcp⟩ : ∃ c, c = grownCap (wr.alloc (.cells #[.int .i64 n, .int .i64 f, .int .i64 t, .slice ad s.size cap] 39 (0, 0))) s.size 0 5 := ⟨_, rfl⟩
      rw [← hcp] at cv2
      obtain ⟨br, hbre⟩ : ∃ x, x = Obj.cells (bytesRow s cp) 5 ((bytesRow s cp).size, (bytesRow s cp).size + 1) := ⟨_, rfl⟩
      rw [← hbre] at cv2
      have gP : (((wr.alloc (.cells #[.int .i64 n, .int .i64 f, .int .i64 t, .slice (some ⟨wr.heap.size + 1, 0, none⟩) s.size cp] 39 (0, 0))).alloc br).alloc (.cells #[.int .i64 n, .int .i64 f, .int .i64 t, .slice (some ⟨wr.heap.size + 1, 0, none⟩) s.size cp] 39 (0, 0))).drew.heap[wr.heap.size + 1 + 1]? = some (.cells #[.int .i64 n, .int .i64 f, .int .i64 t, .slice (some ⟨wr.heap.size + 1, 0, none⟩) s.size cp] 39 (0, 0)) := by (repeat (first | (with_reducible assumption) | (with_reducible exact Below.refl _ _) | (with_reducible refine heap_drew ?_) | (focus ((with_reducible refine heap_new ?_) ; simp ; done)) | (with_reducible apply heap_set_to) | (focus ((with_reducible refine heap_set_ne ?_ ?_ _) ; rotate_left ; (focus (first | omega | (simp ; done) | (simp ; omega))))) | (with_reducible refine heap_old ?_) | (with_reducible refine Below.drew ?_) | (with_reducible refine below_set ?_ _ _) | (focus ((with_reducible refine Below.setCell ?_ ?_ _) ; rotate_left ; (focus (first | omega | (simp ; done) | (simp ; omega))))) | (focus ((with_reducible refine Below.alloc ?_ ?_ _) ; rotate_left ; (focus (first | omega | (simp ; done) | (simp ; omega))))) | (with_reducible rfl) | (focus (simp ; done))))
      have gB : (((wr.alloc (.cells #[.int .i64 n, .int .i64 f, .int .i64 t, .slice (some ⟨wr.heap.size + 1, 0, none⟩) s.size cp] 39 (0, 0))).alloc br).alloc (.cells #[.int .i64 n, .int .i64 f, .int .i64 t, .slice (some ⟨wr.heap.size + 1, 0, none⟩) s.size cp] 39 (0, 0))).drew.heap[wr.heap.size + 1]? = some br := by (repeat (first | (with_reducible assumption) | (with_reducible exact Below.refl _ _) | (with_reducible refine heap_drew ?_) | (focus ((with_reducible refine heap_new ?_) ; simp ; done)) | (with_reducible apply heap_set_to) | (focus ((with_reducible refine heap_set_ne ?_ ?_ _) ; rotate_left ; (focus (first | omega | (simp ; done) | (simp ; omega))))) | (with_reducible refine heap_old ?_) | (with_reducible refine Below.drew ?_) | (with_reducible refine below_set ?_ _ _) | (focus ((with_reducible refine Below.setCell ?_ ?_ _) ; rotate_left ; (focus (first | omega | (simp ; done) | (simp ; omega))))) | (focus ((with_reducible refine Below.alloc ?_ ?_ _) ; rotate_left ; (focus (first | omega | (simp ; done) | (simp ; omega))))) | (with_reducible rfl) | (focus (simp ; done))))
      have hb3 : Below wr.heap.size wr (((wr.alloc (.cells #[.int .i64 n, .int .i64 f, .int .i64 t, .slice (some ⟨wr.heap.size + 1, 0, none⟩) s.size cp] 39 (0, 0))).alloc br).alloc (.cells #[.int .i64 n, .int .i64 f, .int .i64 t, .slice (some ⟨wr.heap.size + 1, 0, none⟩) s.size cp] 39 (0, 0))).drew := by (repeat (first | (with_reducible assumption) | (with_reducible exact Below.refl _ _) | (with_reducible refine heap_drew ?_) | (focus ((with_reducible refine heap_new ?_) ; simp ; done)) | (with_reducible apply heap_set_to) | (focus ((with_reducible refine heap_set_ne ?_ ?_ _) ; rotate_left ; (focus (first | omega | (simp ; done) | (simp ; omega))))) | (with_reducible refine heap_old ?_) | (with_reducible refine Below.drew ?_) | (with_reducible refine below_set ?_ _ _) | (focus ((with_reducible refine Below.setCell ?_ ?_ _) ; rotate_left ; (focus (first | omega | (simp ; done) | (simp ; omega))))) | (focus ((with_reducible refine Below.alloc ?_ ?_ _) ; rotate_left ; (focus (first | omega | (simp ; done) | (simp ; omega))))) | (with_reducible rfl) | (focus (simp ; done))))
      have hown3 := own_below HO.out.1 hb3
      have hds3 := fun p hp => (HO.out.2.2 p hp).keep (p := fun _ => False) (Keep.of_below hb3) (fun _ _ _ _ h => h)
      have hz3 := hb3.size
      have hbw3 := below_back hbr hzr hb3
      have hBR : br = Obj.cells (bytesRow s cp) 5 ((bytesRow s cp).size, (bytesRow s cp).size + 1) := hbre
      clear hpk hrd hcp hbre
      obtain ⟨ov, cvv, rfl, _, _, _, _⟩ := row_form HO.out.1
      have HLB : Hid (Lb.length = k) := hlb
      clear hlb
      have HO3 : Hid ((((wr.alloc (.cells #[.int .i64 n, .int .i64 f, .int .i64 t, .slice (some ⟨wr.heap.size + 1, 0, none⟩) s.size cp] 39 (0, 0))).alloc br).alloc (.cells #[.int .i64 n, .int .i64 f, .int .i64 t, .slice (some ⟨wr.heap.size + 1, 0, none⟩) s.size cp] 39 (0, 0))).drew.ownsRow w.heap.size 39 4 (.slice ov k cvv) k (pflat Lb)) := hown3
      have HG : Hid ((((wr.alloc (.cells #[.int .i64 n, .int .i64 f, .int .i64 t, .slice (some ⟨wr.heap.size + 1, 0, none⟩) s.size cp] 39 (0, 0))).alloc br).alloc (.cells #[.int .i64 n, .int .i64 f, .int .i64 t, .slice (some ⟨wr.heap.size + 1, 0, none⟩) s.size cp] 39 (0, 0))).drew.heap[wr.heap.size + 1 + 1]? = some (.cells #[.int .i64 n, .int .i64 f, .int .i64 t, .slice (some ⟨wr.heap.size + 1, 0, none⟩) s.size cp] 39 (0, 0))) := gP
      have HGB : Hid ((((wr.alloc (.cells #[.int .i64 n, .int .i64 f, .int .i64 t, .slice (some ⟨wr.heap.size + 1, 0, none⟩) s.size cp] 39 (0, 0))).alloc br).alloc (.cells #[.int .i64 n, .int .i64 f, .int .i64 t, .slice (some ⟨wr.heap.size + 1, 0, none⟩) s.size cp] 39 (0, 0))).drew.heap[wr.heap.size + 1]? = some br ∧ br = Obj.cells (bytesRow s cp) 5 ((bytesRow s cp).size, (bytesRow s cp).size + 1)) := ⟨gB, hBR⟩
      have HDS : Hid (∀ p ∈ Lb, RDat (((wr.alloc (.cells #[.int .i64 n, .int .i64 f, .int .i64 t, .slice (some ⟨wr.heap.size + 1, 0, none⟩) s.size cp] 39 (0, 0))).alloc br).alloc (.cells #[.int .i64 n, .int .i64 f, .int .i64 t, .slice (some ⟨wr.heap.size + 1, 0, none⟩) s.size cp] 39 (0, 0))).drew w.heap.size p.ad p.s) := hds3
      clear hown3 gP gB hBR hds3 hb3 hb1
      go_wp2_with (first
        | (at_builtin; (refine wpList_append_any _ rfl (.tmp 20) (.tmp 22) 54 rfl w.heap.size 39 i0 _ 4 48 Try.underlying54 HI.out.1 HI.out.2.1 HI.out.2.2.1 HI.out.2.2.2 rfl (by decide) (.slice ov k cvv) k (pflat Lb) rfl HO3.out (some ⟨wr.heap.size + 1 + 1, 0, none⟩) 1 1 (pflat [⟨n, f, t, some ⟨wr.heap.size + 1, 0, none⟩, cp, s⟩]) rfl rfl (fun h => by cases h) (pk_news HG.out) (pflat_one _) ?_ ?_ ?_ ?_))
        | fail)
      · unfold maxLen; omega
      · omega
      · exact Nat.le_trans hzr hz3
      intro v' w4 hown4 hgrow4 _
      have hlb := HLB.out
      have KG := Keep.grown hgrow4
      have hn : ∀ g cs fr, (((wr.alloc (.cells #[.int .i64 n, .int .i64 f, .int .i64 t, .slice (some ⟨wr.heap.size + 1, 0, none⟩) s.size cp] 39 (0, 0))).alloc br).alloc (.cells #[.int .i64 n, .int .i64 f, .int .i64 t, .slice (some ⟨wr.heap.size + 1, 0, none⟩) s.size cp] 39 (0, 0))).drew.heap[g]? = some (.cells cs 5 fr) → ¬ (Value.slice ov k cvv).ownBlock = some g := fun g cs fr hg => own_ne HO3.out hg (by decide)
      have hdn : RDat (((wr.alloc (.cells #[.int .i64 n, .int .i64 f, .int .i64 t, .slice (some ⟨wr.heap.size + 1, 0, none⟩) s.size cp] 39 (0, 0))).alloc br).alloc (.cells #[.int .i64 n, .int .i64 f, .int .i64 t, .slice (some ⟨wr.heap.size + 1, 0, none⟩) s.size cp] 39 (0, 0))).drew w.heap.size (some ⟨wr.heap.size + 1, 0, none⟩) s := by
        have hg := HGB.out.1
        rw [HGB.out.2] at hg
        refine Or.inr ⟨wr.heap.size + 1, _, _, by omega, rfl, by rw [HGB.out.2]; exact hg, fun j hj => ?_⟩
        rw [HGB.out.2, blk_cell hg, Nat.zero_add, bytesRow_at s cp j hj]
        rfl
      have hNew : w4.ownsRow w.heap.size 39 4 v' (k + 1) (pflat (Lb ++ [⟨n, f, t, some ⟨wr.heap.size + 1, 0, none⟩, cp, s⟩])) ∧ (Lb ++ [(⟨n, f, t, some ⟨wr.heap.size + 1, 0, none⟩, cp, s⟩ : Pk)]).map Pk.key4 = (L.take (k + 1)).map Pk.key4 ∧ ∀ p ∈ Lb ++ [(⟨n, f, t, some ⟨wr.heap.size + 1, 0, none⟩, cp, s⟩ : Pk)], RDat w4 w.heap.size p.ad p.s := by
        refine ⟨by rw [pflat_append]; exact hown4, ?_, fun p hp => ?_⟩
        · rw [List.map_append, HO.out.2.1, List.take_succ_eq_append_getElem hlt, List.map_append, HPk.out]
          rfl
        · rcases List.mem_append.1 hp with hp | hp
          · exact (HDS.out p hp).keep KG hn
          · obtain rfl : p = ⟨n, f, t, some ⟨wr.heap.size + 1, 0, none⟩, cp, s⟩ := by simpa using hp
            exact hdn.keep KG hn
      have hl4 : (Lb ++ [(⟨n, f, t, some ⟨wr.heap.size + 1, 0, none⟩, cp, s⟩ : Pk)]).length = k + 1 := by rw [List.length_append, hlb]; rfl
      have hb4 : Below w.heap.size w w4 := hbw3.grown hgrow4 (Nat.le_trans hzr hz3) (fun y hy => (HO3.out.lt y hy).1)
      obtain ⟨ov', cv', rfl, _, _, _, _⟩ := row_form hown4
      have HN : Hid _ := hNew
      have HL4 : Hid _ := hl4
      clear hown4 hgrow4 KG hn hdn hNew hl4 HG HGB HDS HO HO3 cv cv2 x0 x1 x2 x3 hz3 hbw3 hlb
      go_wp2_with fail
      go_roundw
      case rel => exact ⟨k + 1, _, by omega, HL4.out, by go_num, HN.out, hb4, hb4.size⟩
      case measure => simp [intOf]; omega
    · obtain rfl : k = L.length := by omega
      go_wp2_with fail
      go_ret
      obtain ⟨h1, h2, h3⟩ := HO.out
      refine ⟨_, Lb, rfl, by rw [hlb]; exact h1, by rw [h2, List.take_length], h3, hbr⟩
end Go.Proofs.Ytepilaejfepicaa
