/-
  The reference's bag: what it is in memory; New, Len, Lost, Same.
-/
import Derived.Test.YtepilaejfepicaaBNew
namespace Go.Proofs.Ytepilaejfepicaa
open Go.ChangeShapes Go.WideShapes Go.ChangeAt Go.RowKit Go.Deep
set_option linter.unusedVariables false
set_option linter.unusedSimpArgs false

/-- Bytes in a block of bytes, marked as a text's or not. -/
def RDat (w : World) (B : Nat) (ad : Option Addr) (s : ByteArray) : Prop := s.size = 0 ∨ ∃ g cs fr, B ≤ g ∧ ad = some ⟨g, 0, none⟩ ∧ w.heap[g]? = some (.cells cs 5 fr) ∧ Lib.Bytes w g 0 s
theorem RDat.reads {w : World} {B : Nat} {ad : Option Addr} {s : ByteArray} (h : RDat w B ad s) : Reads w ad s := by
  rcases h with h | ⟨g, cs, fr, _, h1, h2, h3⟩
  · exact Or.inl h
  · exact Or.inr ⟨g, 0, h1, blk_lt h2, h3⟩
theorem RDat.keep {p : Nat → Prop} {w w' : World} {B : Nat} (h : Keep p w w') {ad : Option Addr} {s : ByteArray} (hd : RDat w B ad s) (hn : ∀ g cs fr, w.heap[g]? = some (.cells cs 5 fr) → ¬ p g) : RDat w' B ad s := by
  rcases hd with hd | ⟨g, cs, fr, hB, h1, h2, h3⟩
  · exact Or.inl hd
  · exact Or.inr ⟨g, cs, fr, hB, h1, h.blk h2 (hn g cs fr h2), fun i hi => (World.cell?_of_block (w := w) (a := ⟨g, 0 + i, none⟩) (h.block g (blk_lt h2) (hn g cs fr h2))).trans (h3 i hi)⟩
/-- The reference's bag in block b. -/
def RBagAt (w : World) (B b : Nat) (vs : Value) (room num lost : Int) (L : List Pk) : Prop :=
  B ≤ b ∧ w.heap[b]? = some (.cells #[.int .i64 room, .int .i64 num, .int .i64 lost, vs] 65 (0, 0)) ∧ w.ownsRow B 39 4 vs L.length (pflat L) ∧ ∀ p ∈ L, RDat w B p.ad p.s

theorem rnew_ok (room : Int) (B : Nat) (w : World) (h : 1 ≤ room ∧ room ≤ 512) (hB : B ≤ w.heap.size) :
    Calls Try.prog 16 #[.int .i64 room] w fun e w' => ∃ b, e = .returned (.tuple #[.pointer (some ⟨b, 0, none⟩), .int .i64 0]) ∧ w.heap.size ≤ b ∧ RBagAt w' B b (.slice none 0 0) room 0 0 [] ∧ Below w.heap.size w w' := by
  go_enter Try.func16, Try.ntmps16
  have h1 : ¬ room < 1 := by omega
  have h2 : ¬ room > 512 := by omega
  go_wp2_with fail
  exact bodyPost_ret (v := .tuple #[.pointer (some ⟨w.heap.size, 0, none⟩), .int .i64 0]) (by simp [results, Try.results16, go_sem]) rfl ⟨w.heap.size, rfl, Nat.le_refl _, ⟨hB, heap_new rfl, World.ownsRow_nil _ _ _ _, by simp⟩, below_alloc_self w _⟩
theorem rnew_bad (room : Int) (w : World) (h : room < 1 ∨ 512 < room) :
    Calls Try.prog 16 #[.int .i64 room] w fun e w' => e = .returned (.tuple #[.pointer none, .int .i64 1]) ∧ w' = w := by
  go_enter Try.func16, Try.ntmps16
  by_cases h1 : room < 1
  · go_wp2_with fail
    refine bodyPost_ret (v := .tuple #[.pointer none, .int .i64 1]) (by simp [results, Try.results16, go_sem]) rfl ⟨rfl, rfl⟩
  · have h2 : 512 < room := by omega
    go_wp2_with fail
    refine bodyPost_ret (v := .tuple #[.pointer none, .int .i64 1]) (by simp [results, Try.results16, go_sem]) rfl ⟨rfl, rfl⟩
theorem rlen_any (B b : Nat) (vs : Value) (room num lost : Int) (L : List Pk) (w : World) (h : RBagAt w B b vs room num lost L) :
    Calls Try.prog 25 #[.pointer (some ⟨b, 0, none⟩)] w fun e w' => e = .returned (.int .i64 L.length) ∧ w' = w := by
  obtain ⟨_, hblk, hown, _⟩ := h
  obtain ⟨oa, ca, rfl, _, _, _, _⟩ := row_form hown
  have q := blk4 hblk
  clear hown hblk
  go_enter Try.func25, Try.ntmps25
  go_wp2_with fail
  go_ret
  exact ⟨rfl, rfl⟩
theorem rlost_any (B b : Nat) (vs : Value) (room num lost : Int) (L : List Pk) (w : World) (h : RBagAt w B b vs room num lost L) :
    Calls Try.prog 26 #[.pointer (some ⟨b, 0, none⟩)] w fun e w' => e = .returned (.int .i64 lost) ∧ w' = w := by
  obtain ⟨_, hblk, hown, _⟩ := h
  have q := blk4 hblk
  clear hown hblk
  go_enter Try.func26, Try.ntmps26
  go_wp2_with fail
  go_ret
  exact ⟨rfl, rfl⟩

/-- Two packets that tell the same. -/
theorem same_eq (n f t : Int) (a1 a2 : Option Addr) (c1 c2 : Nat) (s : ByteArray) (w : World) (h1 : Reads w a1 s) (h2 : Reads w a2 s) :
    Calls Try.prog 19 #[pv n f t a1 s.size c1, pv n f t a2 s.size c2] w fun e w' => e = .returned (.bool true) ∧ Below w.heap.size w w' := by
  have hb : Below w.heap.size w ((w.alloc (.cells #[.int .i64 n, .int .i64 f, .int .i64 t, .slice a1 s.size c1] 39 (0, 0))).alloc (.cells #[.int .i64 n, .int .i64 f, .int .i64 t, .slice a2 s.size c2] 39 (0, 0))) := by (repeat (first | (with_reducible assumption) | (with_reducible exact Below.refl _ _) | (with_reducible refine heap_drew ?_) | (focus ((with_reducible refine heap_new ?_) ; simp ; done)) | (with_reducible apply heap_set_to) | (focus ((with_reducible refine heap_set_ne ?_ ?_ _) ; rotate_left ; (focus (first | omega | (simp ; done) | (simp ; omega))))) | (with_reducible refine heap_old ?_) | (with_reducible refine Below.drew ?_) | (with_reducible refine below_set ?_ _ _) | (focus ((with_reducible refine Below.setCell ?_ ?_ _) ; rotate_left ; (focus (first | omega | (simp ; done) | (simp ; omega))))) | (focus ((with_reducible refine Below.alloc ?_ ?_ _) ; rotate_left ; (focus (first | omega | (simp ; done) | (simp ; omega))))) | (with_reducible rfl) | (focus (simp ; done))))
  have cva : (convert 30 9 (.slice a1 s.size c1)).run Try.prog ((w.alloc (.cells #[.int .i64 n, .int .i64 f, .int .i64 t, .slice a1 s.size c1] 39 (0, 0))).alloc (.cells #[.int .i64 n, .int .i64 f, .int .i64 t, .slice a2 s.size c2] 39 (0, 0))) = .ok (.string s) ((w.alloc (.cells #[.int .i64 n, .int .i64 f, .int .i64 t, .slice a1 s.size c1] 39 (0, 0))).alloc (.cells #[.int .i64 n, .int .i64 f, .int .i64 t, .slice a2 s.size c2] 39 (0, 0))) := conv_reads (h1.below hb)
  have cvb : (convert 30 9 (.slice a2 s.size c2)).run Try.prog ((w.alloc (.cells #[.int .i64 n, .int .i64 f, .int .i64 t, .slice a1 s.size c1] 39 (0, 0))).alloc (.cells #[.int .i64 n, .int .i64 f, .int .i64 t, .slice a2 s.size c2] 39 (0, 0))) = .ok (.string s) ((w.alloc (.cells #[.int .i64 n, .int .i64 f, .int .i64 t, .slice a1 s.size c1] 39 (0, 0))).alloc (.cells #[.int .i64 n, .int .i64 f, .int .i64 t, .slice a2 s.size c2] 39 (0, 0))) := conv_reads (h2.below hb)
  clear h1 h2
  go_enter Try.func19, Try.ntmps19
  go_wp2_with fail
  go_ret
  exact ⟨rfl, hb⟩
end Go.Proofs.Ytepilaejfepicaa
