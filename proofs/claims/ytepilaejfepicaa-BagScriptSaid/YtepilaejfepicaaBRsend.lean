/-
  The reference's Send, where it refuses or has no room.
-/
import Derived.Test.YtepilaejfepicaaBRlay
namespace Go.Proofs.Ytepilaejfepicaa
open Go.ChangeShapes Go.WideShapes Go.ChangeAt Go.RowKit Go.Deep
set_option linter.unusedVariables false
set_option linter.unusedSimpArgs false

theorem rsend_bad (p : Value) (f t : Int) (ad : Option Addr) (cap n : Nat) (w : World) (h : badWay f t) :
    Calls Try.prog 17 #[p, .int .i64 f, .int .i64 t, .slice ad n cap] w fun e w' => e = .returned (.tuple #[.int .i64 0, .int .i64 1]) ∧ w' = w := by
  have H : Hid (badWay f t) := h
  clear h
  go_enter Try.func17, Try.ntmps17
  by_cases h1 : f < 0
  · go_wp2_with fail
    exact bodyPost_ret (v := .tuple #[.int .i64 0, .int .i64 1]) (by simp [results, Try.results17, go_sem]) rfl ⟨rfl, rfl⟩
  by_cases h2 : 8 ≤ f
  · go_wp2_with fail
    exact bodyPost_ret (v := .tuple #[.int .i64 0, .int .i64 1]) (by simp [results, Try.results17, go_sem]) rfl ⟨rfl, rfl⟩
  by_cases h3 : t < 0
  · go_wp2_with fail
    exact bodyPost_ret (v := .tuple #[.int .i64 0, .int .i64 1]) (by simp [results, Try.results17, go_sem]) rfl ⟨rfl, rfl⟩
  by_cases h4 : 8 ≤ t
  · go_wp2_with fail
    exact bodyPost_ret (v := .tuple #[.int .i64 0, .int .i64 1]) (by simp [results, Try.results17, go_sem]) rfl ⟨rfl, rfl⟩
  by_cases h5 : f = t
  · subst h5
    go_wp2_with fail
    exact bodyPost_ret (v := .tuple #[.int .i64 0, .int .i64 1]) (by simp [results, Try.results17, go_sem]) rfl ⟨rfl, rfl⟩
  · exfalso
    rcases H.out with h | h | h | h | h
    · exact h1 h
    · exact h2 h
    · exact h3 h
    · exact h4 h
    · exact h5 h
theorem rsend_long (p : Value) (f t : Int) (ad : Option Addr) (cap n : Nat) (w : World) (h : ¬ badWay f t) (hn : 65536 < n) :
    Calls Try.prog 17 #[p, .int .i64 f, .int .i64 t, .slice ad n cap] w fun e w' => e = .returned (.tuple #[.int .i64 0, .int .i64 120]) ∧ w' = w := by
  unfold badWay at h
  obtain ⟨h1, h2, h3, h4, h5⟩ : ¬ f < 0 ∧ ¬ 8 ≤ f ∧ ¬ t < 0 ∧ ¬ 8 ≤ t ∧ ¬ f = t := by omega
  clear h
  go_enter Try.func17, Try.ntmps17
  go_wp2_with fail
  exact bodyPost_ret (v := .tuple #[.int .i64 0, .int .i64 120]) (by simp [results, Try.results17, go_sem]) rfl ⟨rfl, rfl⟩
theorem rsend_full (B b : Nat) (vs : Value) (room num lost : Int) (L : List Pk) (f t : Int) (ad : Option Addr) (cap : Nat) (s : ByteArray) (w : World) (h : RBagAt w B b vs room num lost L) (hr : Reads w ad s)
    (hL : L.length ≤ 512) (hl : 0 ≤ lost ∧ lost ≤ 4611686018427387904) (hw : ¬ badWay f t) (hs : s.size ≤ 65536) (hfull : room ≤ (L.length : Int)) :
    Calls Try.prog 17 #[.pointer (some ⟨b, 0, none⟩), .int .i64 f, .int .i64 t, .slice ad s.size cap] w fun e w' => e = .returned (.tuple #[.int .i64 0, .int .i64 0]) ∧ RBagAt w' B b vs room num (lost + 1) L ∧ Keep (mine b vs) w w' := by
  unfold badWay at hw
  obtain ⟨h1, h2, h3, h4, h5⟩ : ¬ f < 0 ∧ ¬ 8 ≤ f ∧ ¬ t < 0 ∧ ¬ 8 ≤ t ∧ ¬ f = t := by omega
  clear hw
  have cv := conv_reads (cap := cap) hr
  have C := rlay_full B b vs room num lost L f t s w h hL hl hfull
  clear h hr
  go_enter Try.func17, Try.ntmps17
  go_wp2_with fail
  refine C.mono ?_
  rintro e w2 ⟨rfl, hB2, hK2⟩
  have HF : Hid (RBagAt w2 B b vs room num (lost + 1) L ∧ Keep (mine b vs) w w2) := ⟨hB2, hK2⟩
  clear hB2 hK2 C cv
  go_wp2_with fail
  exact bodyPost_ret (v := .tuple #[.int .i64 0, .int .i64 0]) (by simp [results, Try.results17, go_sem]) rfl ⟨rfl, HF.out⟩
end Go.Proofs.Ytepilaejfepicaa
