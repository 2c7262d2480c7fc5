/-
  TallyLog: Log tells the least k from 0 on such that 2 to the power k is at least 1 + n, as the reference does, and Bound is made of it; for every n.
-/
import Derived.Test.YtjeaobknojmbpaaLaw
import Derived.Test.YtjeaobknojmbpaaShelf
import Derived.Laws.ShiftsVarLaws
namespace Go.Proofs.Ytjeaobknojmbpaa
open Go.ChangeShapes Go.WideShapes Go.ChangeAt Go.RowKit
set_option linter.unusedVariables false
set_option linter.unusedSimpArgs false

def lg (n : Int) : Nat := Lib.bitLen n.toNat
theorem lg_neg {n : Int} (h : n ≤ 0) : lg n = 0 := by
  have : n.toNat = 0 := by omega
  unfold lg; rw [this]; decide
theorem lg_half {n : Int} (h : 0 < n) (h' : n ≤ 9223372036854775807) : lg n = 1 + lg (n / 2) := by
  unfold lg
  have e : (n / 2).toNat = n.toNat / 2 := by omega
  rw [e]
  exact Lib.bitLen_half _ (by omega) (by omega)
theorem lg_pow : ∀ (k : Nat) (n : Int), 0 < n → n < 2 ^ k → k ≤ 63 → 1 ≤ lg n ∧ lg n ≤ k ∧ (2 : Int) ^ (lg n - 1) ≤ n ∧ n < 2 ^ lg n
  | 0, n, h0, h1, _ => by simp at h1; omega
  | k + 1, n, h0, h1, h2 => by
    have hb : n ≤ 9223372036854775807 := by
      have : (2 : Int) ^ (k + 1) ≤ 2 ^ 63 := by exact_mod_cast Nat.pow_le_pow_right (by omega) h2
      omega
    rw [lg_half h0 hb]
    by_cases h : n / 2 ≤ 0
    · rw [lg_neg h]; simp; omega
    · have h1' : n / 2 < 2 ^ k := by
        have : (2 : Int) ^ (k + 1) = 2 * 2 ^ k := by rw [Int.pow_succ]; omega
        omega
      obtain ⟨a, b, c, d⟩ := lg_pow k (n / 2) (by omega) h1' (by omega)
      have e1 : (2 : Int) ^ (1 + lg (n / 2)) = 2 * 2 ^ lg (n / 2) := by rw [Nat.add_comm, Int.pow_succ]; omega
      have e2 : (2 : Int) ^ (1 + lg (n / 2) - 1) = 2 * 2 ^ (lg (n / 2) - 1) := by
        obtain ⟨m, hm⟩ : ∃ m, lg (n / 2) = m + 1 := ⟨lg (n / 2) - 1, by omega⟩
        rw [hm]
        have : 1 + (m + 1) - 1 = m + 1 := by omega
        rw [this, Int.pow_succ]
        simp; omega
      refine ⟨by omega, by omega, ?_, ?_⟩
      · rw [e2]; omega
      · rw [e1]; omega
theorem lg_all {n : Int} (h : 0 < n) (h' : n ≤ 9223372036854775807) : 1 ≤ lg n ∧ lg n ≤ 63 ∧ (2 : Int) ^ (lg n - 1) ≤ n ∧ n < 2 ^ lg n := lg_pow 63 n h (by omega) (by omega)
theorem lg_le {n : Int} (h' : n ≤ 9223372036854775807) : lg n ≤ 63 := by
  by_cases h : 0 < n
  · exact (lg_all h h').2.1
  · rw [lg_neg (by omega)]; omega

theorem u64_eq (x : Int) : u64 x = x % 18446744073709551616 := by simp [u64, IntKind.wrap, IntKind.signed, IntKind.bits]
theorem ret_int {k : IntKind} {a b : Int} (h : a = b) : Ending.returned (.int k a) = .returned (.int k b) := by rw [h]

theorem log_any (n : Int) (h : Inr .i64 n) (w : World) : Calls Try.prog 14 #[.int .i64 n] w fun e w' => e = .returned (.int .i64 (lg n)) ∧ w = w' := by
  have hi := h.i64
  clear h
  have hl : Hid (Lib.bitLen (max n 0).toNat = lg n) := by
    unfold lg Hid
    rw [show (max n 0).toNat = n.toNat from by omega]
  go_enter Try.func14, Try.ntmps14
  go_wp2_with fail
  refine (Try.bits_Len (max n 0) _ (by omega) (by omega)).mono ?_
  rintro e w' ⟨rfl, rfl⟩
  go_wp2_with fail
  go_ret
  exact ⟨ret_int (by rw [hl.out]), rfl⟩

theorem rlog_any (n : Int) (h : Inr .i64 n) (w : World) : Calls Try.prog 15 #[.int .i64 n] w fun e w' => e = .returned (.int .i64 (lg n)) ∧ w = w' := by
  have hi := h.i64
  clear h
  go_enter Try.func15, Try.ntmps15
  go_wp2_with fail
  go_loop [0, 3] (fun x k => ∃ (m : Int) (j : Nat), -9223372036854775808 ≤ m ∧ m ≤ 9223372036854775807 ∧ j ≤ 64 ∧ Hid (j + lg m = lg n) ∧ x = .int .i64 m ∧ k = .int .i64 j) (fun x _ => (intOf x).toNat)
  case atStart => exact ⟨n, 0, by omega, by omega, by omega, by unfold Hid; omega, rfl, rfl⟩
  case round =>
    obtain ⟨m, j, hm1, hm2, hj, hl, rfl, rfl⟩ := hrel
    by_cases h0 : 0 < m
    · have hh : Hid (j + 1 + lg (m / 2) = lg n) := by have := hl.out; rw [lg_half h0 hm2] at this; unfold Hid; omega
      have hj2 : j + 1 ≤ 64 := by have := hh.out; have := lg_le (n := n) hi.2; omega
      have : m / 2 < m := by omega
      have : 0 ≤ m / 2 := by omega
      go_wp2_with fail
      go_round
      case rel => exact ⟨m / 2, j + 1, by omega, by omega, hj2, hh, rfl, by go_num⟩
      case measure => simp [intOf]; omega
    · go_wp2_with fail
      go_ret
      exact ⟨ret_int (by have := hl.out; rw [lg_neg (by omega)] at this; rw [← this]; simp), rfl⟩

theorem bound_any (n : Int) (h : Inr .i64 n) (w : World) : Calls Try.prog 16 #[.int .i64 n] w fun e w' => e = .returned (.int .i64 (16 * (1 + (lg n : Int)))) ∧ w = w' := by
  have hl := lg_le (n := n) h.i64.2
  have H : Hid (Inr .i64 n) := h
  clear h
  go_enter Try.func16, Try.ntmps16
  go_wp2_with fail
  refine (log_any n H.out _).mono ?_
  rintro e w' ⟨rfl, rfl⟩
  go_wp2_with fail
  go_ret
  exact ⟨rfl, rfl⟩

theorem rbound_any (n : Int) (h : Inr .i64 n) (w : World) : Calls Try.prog 17 #[.int .i64 n] w fun e w' => e = .returned (.int .i64 (16 * (1 + (lg n : Int)))) ∧ w = w' := by
  have hl := lg_le (n := n) h.i64.2
  have H : Hid (Inr .i64 n) := h
  clear h
  go_enter Try.func17, Try.ntmps17
  go_wp2_with fail
  refine (rlog_any n H.out _).mono ?_
  rintro e w' ⟨rfl, rfl⟩
  go_wp2_with fail
  go_ret
  exact ⟨rfl, rfl⟩

theorem pow_wrap (b : Nat) (hb : b ≤ 63) : IntKind.u64.wrap ((2 : Int) ^ b) = (2 : Int) ^ b := by
  have h1 : (2 : Int) ^ b < 18446744073709551616 := by
    have : (2 : Int) ^ b ≤ 2 ^ 63 := by exact_mod_cast Nat.pow_le_pow_right (by omega) hb
    omega
  have h2 : (0 : Int) < 2 ^ b := by exact_mod_cast Nat.two_pow_pos b
  have := u64_eq ((2 : Int) ^ b)
  simp only [u64] at this
  rw [this]
  omega

set_option maxHeartbeats 1000000 in
theorem tlog_walk (n : Int) (h : Inr .i64 n) (w : World) : Calls Try.prog 6 #[.int .i64 n] w fun e w' => e = .returned (.bool true) ∧ Below w.heap.size w w' := by
  have hi := h.i64
  have hl := lg_le (n := n) hi.2
  have H : Hid (Inr .i64 n) := h
  clear h
  by_cases h0 : 0 < n
  · obtain ⟨a1, a2, a3, a4⟩ := lg_all h0 hi.2
    have s1 := pow_wrap (lg n) a2
    have s2 := pow_wrap (lg n - 1) (by omega)
    generalize hk : lg n = k at *
    obtain ⟨p, hp⟩ : ∃ p, p = (2 : Int) ^ k := ⟨_, rfl⟩
    obtain ⟨q, hq⟩ : ∃ q, q = (2 : Int) ^ (k - 1) := ⟨_, rfl⟩
    rw [← hp] at a4
    rw [← hq] at a3
    have s1' : IntKind.u64.wrap ((2 : Int) ^ k) = p := by rw [s1, hp]
    have s2' : IntKind.u64.wrap ((2 : Int) ^ (k - 1)) = q := by rw [s2, hq]
    clear s1 s2 hp hq
    have HK : Hid (lg n = k) := hk
    clear hk
    go_enter Try.func6, Try.ntmps6
    go_wp2_with fail
    refine (log_any n H.out _).mono ?_
    rintro e w' ⟨rfl, rfl⟩
    rw [HK.out]
    go_wp2_with fail
    refine (rlog_any n H.out _).mono ?_
    rintro e w' ⟨rfl, rfl⟩
    rw [HK.out]
    go_wp2_with fail
    refine (bound_any n H.out _).mono ?_
    rintro e w' ⟨rfl, rfl⟩
    rw [HK.out]
    go_wp2_with fail
    refine (rbound_any n H.out _).mono ?_
    rintro e w' ⟨rfl, rfl⟩
    rw [HK.out]
    go_wp2_with fail
    go_ret
    refine ⟨?_, Below.refl _ _⟩
    show Ending.returned (.bool (decide (q < 1 + n))) = _
    rw [decide_eq_true (by omega)]
  · have a1 := lg_neg (n := n) (by omega)
    have HK : Hid (lg n = 0) := a1
    clear a1
    clear hl
    have hl : (n ≤ 0) := by omega
    go_enter Try.func6, Try.ntmps6
    go_wp2_with fail
    refine (log_any n H.out _).mono ?_
    rintro e w' ⟨rfl, rfl⟩
    rw [HK.out]
    go_wp2_with fail
    refine (rlog_any n H.out _).mono ?_
    rintro e w' ⟨rfl, rfl⟩
    rw [HK.out]
    go_wp2_with fail
    refine (bound_any n H.out _).mono ?_
    rintro e w' ⟨rfl, rfl⟩
    rw [HK.out]
    go_wp2_with fail
    refine (rbound_any n H.out _).mono ?_
    rintro e w' ⟨rfl, rfl⟩
    rw [HK.out]
    go_wp2_with fail
    go_ret
    exact ⟨rfl, Below.refl _ _⟩

set_option maxRecDepth 100000 in
theorem tlog_lifted (os : Os) (started : os.Started) (H : Type) (enc : TypeId × Value → H) :
    ReturnsInHanded {} Try.checked os 6 .any (Rows.tallyLogSpec.pre6 enc Try.prog Try.f6 Rows.tallyLogRow.domain false) (Rows.tallyLogSpec.post enc Try.prog Try.f6 false true false false) := by
  refine returnsInHanded_of_change (C := Try.checked) own started (by kernel_rfl) Try.func6
    (ChangeSpec.witness6 (enc := enc) (C := Try.checked) false ⟨#[], #[.int .i64 0], []⟩ 8 (by kernel_rfl) (by kernel_rfl) (by kernel_rfl) (by kernel_rfl)) ?_
  intro W base args ds gs before hval0 hW hcnd _
  have hval : ∀ (j : Nat) t v, Try.f6.params[j]? = some t → args[j]? = some v → Value.okWide Try.prog W .any base t v := hval0
  have hW' := hW
  obtain ⟨p, q, hA0, hV, rfl, hfz, hnd⟩ := hW
  have hA : DataW.TrodAll enc Try.prog W 0 (fun _ => true) true Try.f6.params.toList args.toList ds p := hA0
  rw [Try.params6] at hA hval
  obtain ⟨v0, vs0, d0, ds0, p0, q0, hargs, rfl, rfl, h0, r0⟩ := trodAll_cons hA
  obtain ⟨rfl, rfl, rfl⟩ := trodAll_nil r0
  obtain rfl : args = #[v0] := by apply Array.toList_inj.1; exact hargs
  obtain ⟨n, rfl, rfl, rfl, wn⟩ := open_int Try.underlying3 (hval 0 _ v0 rfl rfl) h0
  refine (tlog_walk n wn W).mono fun e W' ⟨he, hg⟩ => ?_
  exact ⟨_, he, law_post laidOut (by kernel_rfl) (by kernel_rfl) Try.underlying4 rfl hW' rfl hg⟩

theorem tlog_holds : Rows.TallyLogSaid :=
  OpenClaim.holds_of_wide 6 Try.f6 rfl rfl rfl rfl rfl rfl rfl ⟨rfl, rfl, rfl, rfl, rfl⟩ rfl rfl rfl rfl rfl (by kernel_rfl) Try.func6 (by kernel_rfl)
    (of_decide_eq_true (by kernel_rfl)) (by unfold Func.isWrapper; first | (rw [if_pos (by decide +kernel)]; kernel_rfl) | (rw [if_neg (by decide +kernel)]; exact ⟨rfl, rfl⟩))
    (fun os started H enc _ => tlog_lifted os started H enc)
#print axioms tlog_holds
end Go.Proofs.Ytjeaobknojmbpaa
