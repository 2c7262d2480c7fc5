/-
  slices.Grow of nothing, slices.Concat of two rows of packets; the bag's Take and Drop.
-/
import Derived.Test.YtepilaejfepicaaBSend
namespace Go.Proofs.Ytepilaejfepicaa
open Go.ChangeShapes Go.WideShapes Go.ChangeAt Go.RowKit Go.Deep
set_option linter.unusedVariables false
set_option linter.unusedSimpArgs false

set_option maxHeartbeats 2000000 in
theorem grow_nil (n : Nat) (hn : n ≤ 1024) (w : World) : Calls Try.prog 35 #[.slice none 0 0, .int .i64 n] w fun e w' =>
    ∃ v, e = .returned v ∧ w'.ownsRow w.heap.size 39 4 v 0 [] ∧ Below w.heap.size w w' := by
  obtain ⟨i0, hi, hz0, hz1, hz2⟩ := info_parts info_pk
  by_cases h0 : n = 0
  · subst h0
    clear hi hz0 hz1 hz2
    go_enter Try.func35, Try.ntmps35
    go_wp2_with fail
    go_ret
    exact ⟨.slice none 0 0, rfl, World.ownsRow_nil _ _ _ _, Below.refl _ _⟩
  · have hp : 0 < n := by omega
    have hr := fun ty => Lib.run_append_nil_zeros (P := Try.prog) w 54 3 ty 39 i0 _ .i64 .i64 Try.underlying54 Try.underlying3 hi hz0 n hp (by rw [hz1]; omega) (by omega) (by rw [hz2]; omega)
    have hge := grownCap_ge w n 0 39
    have hmx := grownCap_le_maxLen w n 0 39 (by unfold maxLen; omega)
    obtain ⟨G, hG⟩ : ∃ G, G = grownCap w n 0 39 := ⟨_, rfl⟩
    rw [← hG] at hr hge hmx
    have hown : (w.alloc (.cells (Builtin.zeroCells (Value.agg #[.int .i64 0, .int .i64 0, .int .i64 0, .slice none 0 0]).cells n ++ Builtin.zeroCells (Value.agg #[.int .i64 0, .int .i64 0, .int .i64 0, .slice none 0 0]).cells (G - n)) 39 (0, 0))).ownsRow w.heap.size 39 4 (.slice (some ⟨w.heap.size, 0, none⟩) 0 G) 0 [] := by
      refine ⟨by simp, .inr ⟨w.heap.size, G, _, rfl, Nat.le_refl _, heap_new rfl, by omega, hmx, ?_, by simp⟩⟩
      rw [Array.size_append, size_zeroCells, size_zeroCells]
      have : (Value.agg #[.int .i64 0, .int .i64 0, .int .i64 0, .slice none 0 0]).cells.size = 4 := rfl
      rw [this]
      omega
    have HO := hown.drew
    have HR : Hid _ := hr
    unfold maxLen at hmx
    clear hi hz0 hz1 hz2 hG hown hr
    go_enter Try.func35, Try.ntmps35
    go_wp2_with (first
      | (at_builtin; (refine Lib.wpList_append_run _ rfl (.tmp 20) (.tmp 21) 54 3 rfl (.slice none 0 0) (.int .i64 n) rfl rfl _ _ (HR.out _) ?_))
      | fail)
    go_ret
    exact ⟨_, rfl, HO, (below_alloc_self w _).drew⟩

theorem add_block (a : Addr) (n : Nat) : (a.add n).block = a.block := by
  unfold Addr.add
  split <;> rfl
def sz2 (n0 n1 : Nat) : Nat → Nat
  | 0 => 0
  | 1 => n0
  | _ => n0 + n1
def xs2 (x0 x1 : List Value) : Nat → List Value
  | 0 => []
  | 1 => x0
  | _ => x0 ++ x1

set_option maxHeartbeats 8000000 in
theorem concat_two (h n0 c0 n1 c1 : Nat) (oa0 oa1 : Option Addr) (x0 x1 : List Value) (w : World) (hh : w.heap[h]? = some (.cells #[.slice oa0 n0 c0, .slice oa1 n1 c1] 54 (0, 0)))
    (hl0 : x0.length = n0 * 4) (hn0 : oa0 = none → n0 = 0 ∧ c0 = 0) (hc0 : ∀ ad, oa0 = some ad → ad.block < w.heap.size ∧ ∀ j u, x0[j]? = some u → w.cell? (ad.add j) = some u) (hk0 : ∀ u ∈ x0, u.oneCell' = true)
    (hl1 : x1.length = n1 * 4) (hn1 : oa1 = none → n1 = 0 ∧ c1 = 0) (hc1 : ∀ ad, oa1 = some ad → ad.block < w.heap.size ∧ ∀ j u, x1[j]? = some u → w.cell? (ad.add j) = some u) (hk1 : ∀ u ∈ x1, u.oneCell' = true) (hb : n0 + n1 ≤ 512) :
    Calls Try.prog 30 #[.slice (some ⟨h, 0, none⟩) 2 2] w fun e w' => ∃ v, e = .returned v ∧ w'.ownsRow w.heap.size 39 4 v (n0 + n1) (x0 ++ x1) ∧ Below w.heap.size w w' := by
  have H0 : Hid (x0.length = n0 * 4 ∧ (oa0 = none → n0 = 0 ∧ c0 = 0) ∧ (∀ ad, oa0 = some ad → ad.block < w.heap.size ∧ ∀ j u, x0[j]? = some u → w.cell? (ad.add j) = some u) ∧ (∀ u ∈ x0, u.oneCell' = true)) := ⟨hl0, hn0, hc0, hk0⟩
  have H1 : Hid (x1.length = n1 * 4 ∧ (oa1 = none → n1 = 0 ∧ c1 = 0) ∧ (∀ ad, oa1 = some ad → ad.block < w.heap.size ∧ ∀ j u, x1[j]? = some u → w.cell? (ad.add j) = some u) ∧ (∀ u ∈ x1, u.oneCell' = true)) := ⟨hl1, hn1, hc1, hk1⟩
  have q := blk2 hh
  clear hl0 hn0 hc0 hk0 hl1 hn1 hc1 hk1
  go_enter Try.func30, Try.ntmps30
  go_wp2_with fail
  go_loop [3, 11] (fun s i => ∃ k : Nat, k ≤ 2 ∧ i = .int .i64 k ∧ s = .int .i64 (sz2 n0 n1 k)) (fun _ i => 2 - (intOf i).toNat)
  case atStart => exact ⟨0, by omega, rfl, rfl⟩
  case round =>
    obtain ⟨k, hk, rfl, rfl⟩ := hrel
    obtain rfl | rfl | rfl : k = 0 ∨ k = 1 ∨ k = 2 := by omega
    · simp only [sz2]
      go_wp2_with fail
      go_round
      case rel => exact ⟨1, by omega, by go_num, by go_num⟩
      case measure => simp [intOf]
    · simp only [sz2]
      go_wp2_with fail
      go_round
      case rel => exact ⟨2, by omega, by go_num, by go_num⟩
      case measure => simp [intOf]
    · simp only [sz2]
      go_wp2_with fail
      have C := grow_nil (n0 + n1) (by omega) w
      rw [Int.natCast_add] at C
      refine C.mono ?_
      rintro e wg ⟨vg, rfl, hog, hbg⟩
      have HG : Hid (wg.ownsRow w.heap.size 39 4 vg 0 []) := hog
      have hzg := hbg.size
      obtain ⟨i0, hi, hz0, hz1, hz2⟩ := info_parts info_pk
      have HI : Hid (_ ∧ _ ∧ _ ∧ _) := ⟨hi, hz0, hz1, hz2⟩
      clear C hog hi hz0 hz1 hz2
      have qg := blk2 (blk_below hh hbg)
      go_wp2_with fail
      clear qg
      go_loopw [6, 27] (fun v i wr => ∃ k : Nat, k ≤ 2 ∧ i = .int .i64 k ∧ Hid (wr.ownsRow w.heap.size 39 4 v (sz2 n0 n1 k) (xs2 x0 x1 k)) ∧ Below w.heap.size w wr ∧ w.heap.size ≤ wr.heap.size) (fun _ i _ => 2 - (intOf i).toNat)
      case atStart => exact ⟨0, by omega, rfl, HG.out, hbg, hzg⟩
      case round =>
        clear HG hbg hzg
        obtain ⟨k, hk, rfl, HO, hbr, hzr⟩ := hrel
        obtain rfl | rfl | rfl : k = 0 ∨ k = 1 ∨ k = 2 := by omega
        · simp only [sz2, xs2] at HO
          have qr := blk2 (blk_below hh hbr)
          have N0 : Hid (∀ ad, oa0 = some ad → ∀ j u, x0[j]? = some u → wr.cell? (ad.add j) = some u) := fun ad ha j u hj => (hbr.cell (p := ad.add j) (by rw [add_block]; exact (H0.out.2.2.1 ad ha).1)).trans ((H0.out.2.2.1 ad ha).2 j u hj)
          go_wp2_with (first
            | (at_builtin; (refine wpList_append_any _ rfl (.tmp 31) (.tmp 32) 54 rfl w.heap.size 39 i0 _ 4 48 Try.underlying54 HI.out.1 HI.out.2.1 HI.out.2.2.1 HI.out.2.2.2 rfl (by decide) _ 0 [] rfl HO.out oa0 n0 c0 x0 rfl H0.out.1 H0.out.2.1 N0.out H0.out.2.2.2 ?_ ?_ ?_ ?_))
            | fail)
          · unfold maxLen; omega
          · omega
          · exact hzr
          intro v' w' hown hgrow _
          have hb' : Below w.heap.size w w' := hbr.grown hgrow hzr (fun y hy => (HO.out.lt y hy).1)
          have HO' : Hid (w'.ownsRow w.heap.size 39 4 v' n0 x0) := by unfold Hid; simpa using hown
          clear hown hgrow hbr HO qr
          go_wp2_with fail
          go_roundw
          case rel => exact ⟨1, by omega, by go_num, HO', hb', hb'.size⟩
          case measure => simp [intOf]
        · simp only [sz2, xs2] at HO
          have qr := blk2 (blk_below hh hbr)
          have N1 : Hid (∀ ad, oa1 = some ad → ∀ j u, x1[j]? = some u → wr.cell? (ad.add j) = some u) := fun ad ha j u hj => (hbr.cell (p := ad.add j) (by rw [add_block]; exact (H1.out.2.2.1 ad ha).1)).trans ((H1.out.2.2.1 ad ha).2 j u hj)
          go_wp2_with (first
            | (at_builtin; (refine wpList_append_any _ rfl (.tmp 31) (.tmp 32) 54 rfl w.heap.size 39 i0 _ 4 48 Try.underlying54 HI.out.1 HI.out.2.1 HI.out.2.2.1 HI.out.2.2.2 rfl (by decide) _ n0 x0 rfl HO.out oa1 n1 c1 x1 rfl H1.out.1 H1.out.2.1 N1.out H1.out.2.2.2 ?_ ?_ ?_ ?_))
            | fail)
          · unfold maxLen; omega
          · omega
          · exact hzr
          intro v' w' hown hgrow _
          have hb' : Below w.heap.size w w' := hbr.grown hgrow hzr (fun y hy => (HO.out.lt y hy).1)
          have HO' : Hid (w'.ownsRow w.heap.size 39 4 v' (n0 + n1) (x0 ++ x1)) := hown
          clear hown hgrow hbr HO qr
          go_wp2_with fail
          go_roundw
          case rel => exact ⟨2, by omega, by go_num, HO', hb', hb'.size⟩
          case measure => simp [intOf]
        · simp only [sz2, xs2] at HO
          go_wp2_with fail
          go_ret
          exact ⟨_, rfl, HO.out, hbr⟩
end Go.Proofs.Ytepilaejfepicaa
