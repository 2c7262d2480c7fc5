/-
  The words of a key and a version, and what they come to; in plain Lean.
-/
import Derived.Test.YtdflmplmpjghdaaGreatDoorStir
import Derived.Lib.EndianBits
namespace Go.Proofs.YtdflmplmpjghdaaGreatDoor
open Go.ChangeShapes Go.WideShapes Go.ChangeAt Go.RowKit Go.Deep
set_option linter.unusedVariables false
set_option linter.unusedSimpArgs false
set_option maxRecDepth 100000

/-- The number whose bytes these are, the least first. -/
def le : List UInt8 → Nat
  | [] => 0
  | b :: r => b.toNat + 256 * le r
theorem le_lt : ∀ l : List UInt8, le l < 256 ^ l.length
  | [] => by simp [le]
  | b :: r => by
    have ih := le_lt r
    have hb : b.toNat < 256 := b.toNat_lt
    have : le r + 1 ≤ 256 ^ r.length := ih
    rw [le, List.length_cons, Nat.pow_succ]
    omega
theorem le_lt8 {l : List UInt8} (h : l.length ≤ 8) : le l < 18446744073709551616 := by
  have h1 := le_lt l
  have h2 : 256 ^ l.length ≤ 256 ^ 8 := Nat.pow_le_pow_right (by omega) h
  have : (256 : Nat) ^ 8 = 18446744073709551616 := by decide
  omega
theorem le_lt7 {l : List UInt8} (h : l.length ≤ 7) : le l < 72057594037927936 := by
  have h1 := le_lt l
  have h2 : 256 ^ l.length ≤ 256 ^ 7 := Nat.pow_le_pow_right (by omega) h
  have : (256 : Nat) ^ 7 = 72057594037927936 := by decide
  omega

/-- The text in words of eight bytes. -/
def chunksF : Nat → List UInt8 → List Int
  | 0, _ => []
  | n + 1, l => if l = [] then [] else (le (l.take 8) : Int) :: chunksF n (l.drop 8)
def chunks (l : List UInt8) : List Int := chunksF l.length l
theorem chunksF_more : ∀ (n m : Nat) (l : List UInt8), l.length ≤ n → l.length ≤ m → chunksF n l = chunksF m l
  | 0, 0, l, _, _ => rfl
  | 0, m + 1, l, h, _ => by
    have : l = [] := List.eq_nil_of_length_eq_zero (by omega)
    subst this; simp [chunksF]
  | n + 1, 0, l, _, h => by
    have : l = [] := List.eq_nil_of_length_eq_zero (by omega)
    subst this; simp [chunksF]
  | n + 1, m + 1, l, h1, h2 => by
    by_cases he : l = []
    · subst he; simp [chunksF]
    · have hl : 0 < l.length := List.length_pos_iff.2 he
      have : (l.drop 8).length ≤ l.length - 1 := by rw [List.length_drop]; omega
      rw [chunksF, chunksF, if_neg he, if_neg he, chunksF_more n m _ (by omega) (by omega)]
theorem chunks_nil : chunks [] = [] := rfl
theorem chunks_step {l : List UInt8} (h : l ≠ []) : chunks l = (le (l.take 8) : Int) :: chunks (l.drop 8) := by
  have hl : 0 < l.length := List.length_pos_iff.2 h
  unfold chunks
  obtain ⟨n, hn⟩ : ∃ n, l.length = n + 1 := ⟨l.length - 1, by omega⟩
  have : (l.drop 8).length ≤ n := by rw [List.length_drop]; omega
  rw [hn, chunksF, if_neg h, chunksF_more n (l.drop 8).length _ this (Nat.le_refl _)]

def wordsOf (s : ByteArray) (c n : Int) : List Int := (s.size : Int) :: (chunks s.data.toList ++ [u64 c, u64 n])
def mix0 (s : ByteArray) (c n : Int) : Int := (wordsOf s c n).foldl stp0 2611923443488327891
def mix1 (s : ByteArray) (c n : Int) : Int := (wordsOf s c n).foldl stp1 1376283091369227076

theorem toList_extract (s : ByteArray) (i : Nat) : (s.extract i s.size).data.toList = s.data.toList.drop i := by
  simp only [ByteArray.data_extract, Array.toList_extract, List.extract_eq_take_drop, ByteArray.size]
  rw [List.take_of_length_le]
  simp

theorem len_list (r : ByteArray) : r.data.toList.length = r.size := rfl
theorem get_list (r : ByteArray) (i : Nat) (h : i < r.size) : r.data.toList[i]'h = r[i]'h := rfl

/-- One byte more at the front. -/
theorem le_drop {l : List UInt8} {i : Nat} (h : i < l.length) : le (l.drop i) = (l[i]'h).toNat + 256 * le (l.drop (i + 1)) := by
  rw [List.drop_eq_getElem_cons h, le]

/-- .. as the code does it. -/
theorem le_step {r : ByteArray} {l : List UInt8} (hl : r.data.toList = l) {i : Nat} (h0 : 0 < i) (hi : i ≤ (l.take 8).length) (hp : i - 1 < r.size) :
    bits BinOp.or IntKind.u64 (IntKind.u64.wrap ((le ((l.take 8).drop i) : Int) * 256)) (IntKind.u64.wrap ((r[i - 1]'hp).toNat : Int)) = (le ((l.take 8).drop (i - 1)) : Int) := by
  subst hl
  obtain ⟨j, rfl⟩ : ∃ j, i = j + 1 := ⟨i - 1, by omega⟩
  simp only [Nat.add_sub_cancel] at hp ⊢
  have hj : j < (r.data.toList.take 8).length := by omega
  rw [le_drop hj]
  have hg : (r.data.toList.take 8)[j]'hj = r[j]'hp := by rw [List.getElem_take, get_list]
  rw [hg]
  have h7 : le ((r.data.toList.take 8).drop (j + 1)) < 72057594037927936 := le_lt7 (by rw [List.length_drop, List.length_take]; omega)
  have hb : (r[j]'hp).toNat < 256 := UInt8.toNat_lt _
  generalize le ((r.data.toList.take 8).drop (j + 1)) = q at *
  generalize (r[j]'hp).toNat = b at *
  rw [u64_wrap_id _ (by omega) (by omega), u64_wrap_id _ (by omega) (by omega)]
  rw [bits_join .u64 64 (by decide) wraps_u64 8 _ _ (by omega) (by omega) (by omega) (by omega) (by omega) (by omega)]
  omega
end Go.Proofs.YtdflmplmpjghdaaGreatDoor
