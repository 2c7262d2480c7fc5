/-
  What a store's tree keeps through writes; a write of the law, whatever comes of it.
-/
import Derived.Test.YtdflmplmpjghdaaGreatDoorBulk
namespace Go.Proofs.YtdflmplmpjghdaaGreatDoor
open Go.ChangeShapes Go.WideShapes Go.ChangeAt Go.RowKit Go.Deep
set_option linter.unusedVariables false
set_option linter.unusedSimpArgs false
set_option maxRecDepth 100000

theorem u64_idem (a : Int) : u64 (u64 a) = u64 a := by simp only [u64, IntKind.wrap, IntKind.signed, IntKind.bits]; simp
theorem stp0_u (x y : Int) : u64 (stp0 x y) = stp0 x y := by unfold stp0 bits; exact u64_idem _
theorem stp1_u (x y : Int) : u64 (stp1 x y) = stp1 x y := by unfold stp1 bits; exact u64_idem _
theorem mix0_u (s : ByteArray) (c n : Int) : u64 (mix0 s c n) = mix0 s c n := by
  unfold mix0 wordsOf
  rw [List.foldl_cons, List.foldl_append]
  exact stp0_u _ _
theorem mix1_u (s : ByteArray) (c n : Int) : u64 (mix1 s c n) = mix1 s c n := by
  unfold mix1 wordsOf
  rw [List.foldl_cons, List.foldl_append]
  exact stp1_u _ _
theorem tallyE_ok (k : ByteArray) (c n : Int) : T3.ok (tallyE k c n) := by
  have h0 := mix0_u k c n
  have h1 := mix1_u k c n
  rw [u64_eq] at h0 h1
  simp only [T3.ok]
  refine ⟨⟨?_, ?_⟩, ⟨?_, ?_⟩, ?_, ?_⟩ <;> omega
/-- What the tree keeps. -/
structure Sok (t : Tr) : Prop where
  ris : Rising t.rows
  bal : Bal t
  oks : Oks t.talls
  one : ∀ x ∈ t.rows, x.2.2.1 = 1
  size : t.size ≤ 256
theorem Sok.nil : Sok .nil := ⟨List.Pairwise.nil, trivial, (fun _ h => by cases h), (fun _ h => by cases h), Nat.zero_le _⟩
theorem lg_mono {a b : Int} (h : a ≤ b) (hb : b ≤ 9223372036854775807) : lg a ≤ lg b := by
  by_cases ha : 0 < a
  · obtain ⟨h1, _, h3, _⟩ := lg_all ha (by omega)
    obtain ⟨_, _, _, h8⟩ := lg_all (show 0 < b by omega) hb
    have h9 : (2 : Int) ^ (lg a - 1) < 2 ^ lg b := by omega
    have h10 : (2 : Nat) ^ (lg a - 1) < 2 ^ lg b := by exact_mod_cast h9
    have := (Nat.pow_lt_pow_iff_right (by omega)).1 h10
    omega
  · rw [lg_neg (by omega)]; omega
theorem Sok.high {t : Tr} (h : Sok t) : t.high ≤ 2 * lg (t.size : Int) + 1 := high_lg h.bal (by have := h.size; omega)
theorem Sok.lg9 {t : Tr} (h : Sok t) : lg (t.size : Int) ≤ 9 := by
  have h1 := lg_mono (a := (t.size : Int)) (b := 256) (by have := h.size; omega) (by omega)
  have h2 : lg 256 = 9 := by
    obtain ⟨a, b, c, d⟩ := lg_all (n := 256) (by omega) (by omega)
    have e : lg 256 = 1 + (1 + (1 + (1 + (1 + (1 + (1 + (1 + (1 + lg 0)))))))) := by
      rw [lg_half (n := 256) (by omega) (by omega), lg_half (n := 256 / 2) (by omega) (by omega), lg_half (n := 256 / 2 / 2) (by omega) (by omega), lg_half (n := 256 / 2 / 2 / 2) (by omega) (by omega), lg_half (n := 256 / 2 / 2 / 2 / 2) (by omega) (by omega), lg_half (n := 256 / 2 / 2 / 2 / 2 / 2) (by omega) (by omega), lg_half (n := 256 / 2 / 2 / 2 / 2 / 2 / 2) (by omega) (by omega), lg_half (n := 256 / 2 / 2 / 2 / 2 / 2 / 2 / 2) (by omega) (by omega), lg_half (n := 256 / 2 / 2 / 2 / 2 / 2 / 2 / 2 / 2) (by omega) (by omega)]
      rfl
    rw [e, lg_neg (by omega)]
  omega
theorem Sok.put {t : Tr} (h : Sok t) {k : ByteArray} (hf : fullT k t = false) (e : Ent) (c n : Int) : Sok (putT k e (tallyE k c n) t) ∧ t.size ≤ (putT k e (tallyE k c n) t).size := by
  have hr := putT_rows (k := k) (e := e) (s := tallyE k c n) t h.ris
  have hl := putL_length (k := k) (e := e) (s := tallyE k c n) h.ris
  have hsz := (putT k e (tallyE k c n) t).rows_length
  have hsz0 := t.rows_length
  rw [hr, hl] at hsz
  have hmem : ∀ x ∈ (putT k e (tallyE k c n) t).rows, x = (k, e, tallyE k c n) ∨ x ∈ t.rows := fun x hx => by rw [hr] at hx; exact putL_mem hx
  refine ⟨⟨by rw [hr]; exact putL_rising h.ris, (putT_bal t h.bal).1, ?_, ?_, ?_⟩, ?_⟩
  · intro s hs
    obtain ⟨x, hx, rfl⟩ := List.mem_map.1 hs
    rcases hmem x hx with rfl | hx
    · exact tallyE_ok k c n
    · exact h.oks _ (List.mem_map.2 ⟨x, hx, rfl⟩)
  · intro x hx
    rcases hmem x hx with rfl | hx
    · rfl
    · exact h.one x hx
  · rw [← hsz]
    have := h.size
    split
    · omega
    · rename_i hn
      have hg : (getT k t).isSome = false := by rw [getT_any t h.ris]; exact Bool.eq_false_iff.2 hn
      unfold fullT at hf
      rw [hg] at hf
      simp at hf
      omega
  · rw [← hsz]
    split <;> omega
/-- What a write of the law leaves, whatever comes of it. -/
def StepOf (w : World) (sb tb mb : Nat) (clock : Int) (M : Nat) (t : Tr) (x : Ending) (w' : World) : Prop :=
  ∃ v t' c' M', x = .returned v ∧ StAt w' sb tb mb 3 c' M' t' ∧ Sok t' ∧ clock ≤ c' ∧ c' ≤ clock + 1 ∧ M ≤ M' ∧ M' ≤ M + 16 * (1 + lg (t'.size : Int)) ∧ M' ≤ M + 160 ∧ Keep (fun k => k = mb ∨ k = tb ∨ k = sb) w w'
theorem step_bad {w : World} {sb tb mb : Nat} {clock : Int} {M : Nat} {t : Tr} {e : Int} (h : StAt w sb tb mb 3 clock M t) (hs : Sok t) : ∀ x w', WBad w sb tb mb 3 clock M t e x w' → StepOf w sb tb mb clock M t x w' := fun x w' ⟨hx, hb⟩ =>
  ⟨_, t, clock, M, hx, h.below hb, hs, by omega, by omega, by omega, by omega, by omega, Keep.of_below hb⟩
theorem step_ok {w : World} {sb tb mb : Nat} {clock : Int} {M : Nat} {t : Tr} {k v : ByteArray} {d : Bool} (hs : Sok t) (hf : fullT k t = false) : ∀ x w', WOk w sb tb mb 3 clock M t k v d x w' → StepOf w sb tb mb clock M t x w' := fun x w' ⟨hx, m, hm, hst, hk⟩ => by
  obtain ⟨a, b⟩ := hs.put hf (k, clock + 1, 3, v, d) (clock + 1) 3
  have h1 := hs.high
  have h2 := hs.lg9
  have h3 := lg_mono (a := (t.size : Int)) (b := ((putT k (k, clock + 1, 3, v, d) (tallyE k (clock + 1) 3) t).size : Int)) (by omega) (by have := a.size; omega)
  exact ⟨_, _, _, _, hx, hst, a, by omega, by omega, by omega, by omega, by omega, hk⟩
theorem errW_full {t : Tr} {k v : ByteArray} (h : errW t k v = 0) : fullT k t = false := by
  unfold errW at h
  split at h
  · cases h
  · split at h
    · cases h
    · split at h
      · cases h
      · rename_i hx; exact Bool.eq_false_iff.2 hx
theorem put_step (sb tb mb : Nat) (clock : Int) (M : Nat) (t : Tr) (k v : ByteArray) (w : World) (h : StAt w sb tb mb 3 clock M t) (hs : Sok t) (hk : k.size ≤ 140737488351232) (hv : v.size ≤ 140737488351232) (hM : M ≤ 4611686018427360000) (hc1 : 0 ≤ clock) (hc2 : clock < 1099511627776) :
    Calls Tryz.prog 93 #[.pointer (some ⟨sb, 0, none⟩), .string k, .string v] w (StepOf w sb tb mb clock M t) := by
  have hsz := hs.size
  have hh := t.high_le
  by_cases he : errW t k v = 0
  · exact (sput_ok sb tb mb 3 clock M t k v w h (by omega) hk hv (by omega) hc1 hc2 (by omega) (by omega) he).mono (step_ok hs (errW_full he))
  · exact (sput_bad sb tb mb 3 clock M t k v w h (by omega) hk hv he).mono (step_bad h hs)
theorem del_step (sb tb mb : Nat) (clock : Int) (M : Nat) (t : Tr) (k : ByteArray) (w : World) (h : StAt w sb tb mb 3 clock M t) (hs : Sok t) (hk : k.size ≤ 140737488351232) (hM : M ≤ 4611686018427360000) (hc1 : 0 ≤ clock) (hc2 : clock < 1099511627776) :
    Calls Tryz.prog 95 #[.pointer (some ⟨sb, 0, none⟩), .string k] w (StepOf w sb tb mb clock M t) := by
  have hsz := hs.size
  have hh := t.high_le
  by_cases he : errW t k ⟨#[]⟩ = 0
  · exact (sdel_ok sb tb mb 3 clock M t k w h (by omega) hk (by omega) hc1 hc2 (by omega) (by omega) he).mono (step_ok hs (errW_full he))
  · exact (sdel_bad sb tb mb 3 clock M t k w h (by omega) hk he).mono (step_bad h hs)
end Go.Proofs.YtdflmplmpjghdaaGreatDoor
