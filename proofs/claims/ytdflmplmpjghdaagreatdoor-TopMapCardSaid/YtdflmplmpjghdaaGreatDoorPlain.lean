/-
  The plain sorted map, no program in sight: where a key stands, a write, a range, what entries come to; and what a store's tree holds is such a map.
-/
import Derived.Test.YtdflmplmpjghdaaGreatDoorSok
import Derived.Test.YtdflmplmpjghdaaGreatDoorScan
namespace Go.Proofs.YtdflmplmpjghdaaGreatDoor
open Go.ChangeShapes Go.WideShapes Go.ChangeAt Go.RowKit Go.Deep
set_option linter.unusedVariables false
set_option linter.unusedSimpArgs false
set_option maxRecDepth 100000

/-- An entry's row. -/
def rowOf (e : Ent) : Row := (e.1, e, tallyE e.1 e.2.1 e.2.2.1)
/-- Where a key stands, or would. -/
def placeE (k : ByteArray) : List Ent → Nat
  | [] => 0
  | e :: l => if klb e.1 k then placeE k l + 1 else 0
def isE (k : ByteArray) (L : List Ent) : Bool := match L[placeE k L]? with | none => false | some e => decide (e.1 = k)
def writeE (e : Ent) (L : List Ent) : List Ent := L.take (placeE e.1 L) ++ e :: L.drop (placeE e.1 L + if isE e.1 L = true then 1 else 0)
theorem placeE_cons (k : ByteArray) (e : Ent) (l : List Ent) : placeE k (e :: l) = if klb e.1 k then placeE k l + 1 else 0 := rfl
theorem placeE_le (k : ByteArray) : ∀ L : List Ent, placeE k L ≤ L.length
  | [] => Nat.le_refl _
  | e :: l => by
    have := placeE_le k l
    unfold placeE
    split <;> simp <;> omega
theorem placeE_lt (k : ByteArray) : ∀ (L : List Ent) (i : Nat) (h : i < L.length), i < placeE k L → klb L[i].1 k = true
  | [], i, h, _ => absurd h (by simp)
  | e :: l, i, h, hi => by
    unfold placeE at hi
    split at hi
    · rename_i hk
      cases i with
      | zero => exact hk
      | succ i => exact placeE_lt k l i (by simpa using h) (by omega)
    · omega
theorem placeE_at (k : ByteArray) : ∀ (L : List Ent) (h : placeE k L < L.length), klb L[placeE k L].1 k = false
  | [], h => absurd h (by simp)
  | e :: l, h => by
    by_cases hk : klb e.1 k = true
    · have hp : placeE k (e :: l) = placeE k l + 1 := by rw [placeE_cons, if_pos hk]
      have := placeE_at k l (by rw [hp] at h; simpa using h)
      simpa [hp] using this
    · have hp : placeE k (e :: l) = 0 := by rw [placeE_cons, if_neg hk]
      simpa [hp] using hk
/-- The loop of place: all below i are below the key, the one at i is not. -/
theorem placeE_of (k : ByteArray) : ∀ (L : List Ent) (i : Nat), i ≤ L.length → (∀ j (h : j < L.length), j < i → klb L[j].1 k = true) → (∀ h : i < L.length, klb L[i].1 k = false) → i = placeE k L
  | [], i, hi, _, _ => by simpa [placeE] using hi
  | e :: l, 0, hi, _, h2 => by
    have := h2 (by simp)
    rw [placeE_cons, if_neg (by simpa using this)]
  | e :: l, i + 1, hi, h1, h2 => by
    have h0 := h1 0 (by simp) (by omega)
    rw [placeE_cons, if_pos (show klb e.1 k = true from h0)]
    have := placeE_of k l i (by simpa using hi) (fun j h hj => h1 (j + 1) (by simpa using h) (by omega)) (fun h => h2 (by simpa using h))
    omega
theorem isE_lt {k : ByteArray} {x : Ent} {l : List Ent} (h : klb x.1 k = true) : isE k (x :: l) = isE k l := by
  unfold isE
  rw [show placeE k (x :: l) = placeE k l + 1 by rw [placeE_cons, if_pos h]]
  simp
theorem isE_ge {k : ByteArray} {x : Ent} {l : List Ent} (h : klb x.1 k = false) : isE k (x :: l) = decide (x.1 = k) := by
  unfold isE
  rw [show placeE k (x :: l) = 0 by unfold placeE; rw [if_neg (by simp [h])]]
  simp
theorem putL_plain (e : Ent) : ∀ L : List Ent, putL e.1 e (tallyE e.1 e.2.1 e.2.2.1) (L.map rowOf) = (writeE e L).map rowOf
  | [] => rfl
  | x :: l => by
    have ih := putL_plain e l
    simp only [List.map_cons]
    unfold putL
    by_cases h1 : klb e.1 x.1 = true
    · have h2 := klb_asymm h1
      have hp : placeE e.1 (x :: l) = 0 := by unfold placeE; rw [if_neg (by simp [h2])]
      have hi : isE e.1 (x :: l) = false := by rw [isE_ge h2]; rw [decide_eq_false_iff_not]; intro hh; rw [hh, klb_irrefl] at h1; cases h1
      rw [if_pos (by exact h1)]
      unfold writeE
      rw [hp, hi]
      simp [rowOf]
    · by_cases h2 : klb x.1 e.1 = true
      · have hp : placeE e.1 (x :: l) = placeE e.1 l + 1 := by rw [placeE_cons, if_pos h2]
        rw [if_neg (by exact h1), if_pos (by exact h2), ih]
        unfold writeE
        rw [hp, isE_lt h2]
        simp only [List.take_succ_cons, List.cons_append, List.map_cons]
        rw [show placeE e.1 l + 1 + (if isE e.1 l = true then 1 else 0) = (placeE e.1 l + if isE e.1 l = true then 1 else 0) + 1 by omega, List.drop_succ_cons]
      · have hk : e.1 = x.1 := klb_total (by simpa using h1) (by simpa using h2)
        have h2' : klb x.1 e.1 = false := by simpa using h2
        have hp : placeE e.1 (x :: l) = 0 := by unfold placeE; rw [if_neg h2]
        rw [if_neg (by exact h1), if_neg (by exact h2)]
        unfold writeE
        rw [hp, isE_ge h2', decide_eq_true hk.symm]
        simp [rowOf]
/-- The tree holds the plain map. -/
def Holds (t : Tr) (L : List Ent) : Prop := t.rows = L.map rowOf
theorem Holds.size {t : Tr} {L : List Ent} (h : Holds t L) : t.size = L.length := by rw [← Tr.rows_length, h, List.length_map]
theorem Holds.put {t : Tr} {L : List Ent} (h : Holds t L) (hr : Rising t.rows) (e : Ent) : Holds (putT e.1 e (tallyE e.1 e.2.1 e.2.2.1) t) (writeE e L) := by
  unfold Holds
  rw [putT_rows t hr, h, putL_plain]
theorem entsT_holds {t : Tr} {L : List Ent} (h : Holds t L) : t.rows.map (fun r => r.2.1) = L := by
  rw [h, List.map_map]
  have : ((fun r : Row => r.2.1) ∘ rowOf) = id := by funext e; rfl
  rw [this, List.map_id]
theorem find_plain (k : ByteArray) : ∀ L : List Ent, Rising (L.map rowOf) → ((L.map rowOf).find? fun x => keq x.1 k).map (fun x => x.2.1) = if isE k L = true then L[placeE k L]? else none
  | [], _ => rfl
  | x :: l, h => by
    have hc := List.pairwise_cons.1 h
    simp only [List.map_cons, List.find?_cons]
    show Option.map _ (match keq x.1 k with | true => some (rowOf x) | false => _) = _
    by_cases h1 : klb x.1 k = true
    · rw [keq_lt h1, isE_lt h1, find_plain k l hc.2]
      rw [show placeE k (x :: l) = placeE k l + 1 by rw [placeE_cons, if_pos h1]]
      simp
    · have h1' : klb x.1 k = false := by simpa using h1
      have hp : placeE k (x :: l) = 0 := by unfold placeE; rw [if_neg h1]
      rw [isE_ge h1', hp]
      by_cases h2 : klb k x.1 = true
      · have hne : ¬ x.1 = k := fun hh => by rw [hh, klb_irrefl] at h2; cases h2
        rw [keq_gt h2, decide_eq_false hne, if_neg (by simp)]
        rw [Option.map_eq_none_iff, List.find?_eq_none]
        intro y hy
        have := hc.1 y hy
        simp [keq_gt (klb_trans h2 this)]
      · have hk : x.1 = k := klb_total h1' (by simpa using h2)
        rw [hk, keq_self, decide_eq_true rfl]
        simp [rowOf]
theorem get_plain {t : Tr} {L : List Ent} (h : Holds t L) (hr : Rising t.rows) (k : ByteArray) : getT k t = if isE k L = true then L[placeE k L]? else none := by
  rw [getT_rows t hr, h]
  exact find_plain k L (h ▸ hr)
theorem isE_some {k : ByteArray} {L : List Ent} (h : isE k L = true) : ∃ hl : placeE k L < L.length, L[placeE k L].1 = k := by
  unfold isE at h
  split at h
  · cases h
  · rename_i e he
    obtain ⟨hl, he'⟩ := List.getElem?_eq_some_iff.1 he
    exact ⟨hl, by rw [he']; exact of_decide_eq_true h⟩
theorem get_isSome {t : Tr} {L : List Ent} (h : Holds t L) (hr : Rising t.rows) (k : ByteArray) : (getT k t).isSome = isE k L := by
  rw [get_plain h hr]
  by_cases hi : isE k L = true
  · obtain ⟨hl, _⟩ := isE_some hi
    rw [if_pos hi, hi, List.getElem?_eq_getElem hl]; rfl
  · rw [if_neg hi]; simpa using hi
theorem writeE_length (e : Ent) (L : List Ent) : (writeE e L).length = if isE e.1 L = true then L.length else L.length + 1 := by
  have hp := placeE_le e.1 L
  unfold writeE
  by_cases hi : isE e.1 L = true
  · obtain ⟨hl, _⟩ := isE_some hi
    rw [if_pos hi, if_pos hi]; simp; omega
  · rw [if_neg hi, if_neg hi]; simp; omega

/-- The entries of a range. -/
def rngB (lo hi : ByteArray) (op : Bool) (e : Ent) : Bool := !klb e.1 lo && (op || klb e.1 hi)
def inE (lo hi : ByteArray) (op dead : Bool) (L : List Ent) : List Ent := L.filter fun e => rngB lo hi op e && (dead || !e.2.2.2.2)
theorem drop_low (k : ByteArray) : ∀ l : List Row, Rising l → l.drop (l.filter fun x => klb x.1 k).length = l.filter fun x => !klb x.1 k
  | [], _ => rfl
  | x :: l, h => by
    have hc := List.pairwise_cons.1 h
    by_cases hx : klb x.1 k = true
    · rw [List.filter_cons_of_pos (p := fun x : Row => klb x.1 k) hx, List.filter_cons_of_neg (by simp [hx])]
      simp only [List.length_cons, List.drop_succ_cons]
      exact drop_low k l hc.2
    · have hall : ∀ y ∈ l, klb y.1 k = false := fun y hy => by
        cases hy' : klb y.1 k
        · rfl
        · exact absurd (klb_trans (hc.1 y hy) hy') hx
      rw [List.filter_cons_of_neg (p := fun x : Row => klb x.1 k) hx, List.filter_cons_of_pos (by simp [hx])]
      rw [List.filter_eq_nil_iff.2 (fun y hy => by simp [hall y hy]), List.filter_eq_self.2 (fun y hy => by simp [hall y hy])]
      rfl
theorem cut_plain {t : Tr} (hr : Rising t.rows) {lo hi : ByteArray} {op : Bool} (hok : rgOk lo hi op = true) :
    cutR (rankT lo t : Int) (endT hi op t : Int) t.rows = t.rows.filter fun x => !klb x.1 lo && (op || klb x.1 hi) := by
  unfold cutR
  simp only [Int.toNat_natCast]
  cases op with
  | true =>
    unfold endT
    rw [if_pos rfl, ← Tr.rows_length, List.take_length, (rankT_rows lo t hr).2]
    simp
  | false =>
    have hle : klb hi lo = false := by unfold rgOk at hok; simpa using hok
    unfold endT
    rw [if_neg (by simp), (rankT_rows hi t hr).1, rankT_count lo t hr]
    have hf : (t.rows.filter fun x => klb x.1 hi).filter (fun x => klb x.1 lo) = t.rows.filter fun x => klb x.1 lo := by
      rw [List.filter_filter]
      refine List.filter_congr fun x _ => ?_
      cases hx : klb x.1 lo
      · simp
      · simp [klb_of_le' hx hle]
    rw [← hf, drop_low lo _ (List.Pairwise.filter _ hr), List.filter_filter]
    refine List.filter_congr fun x _ => ?_
    simp
theorem filter_map_row (p : Row → Bool) (L : List Ent) : (L.map rowOf).filter p = (L.filter fun e => p (rowOf e)).map rowOf := by
  rw [List.filter_map]; rfl
/-- The rows of a range are the range's entries, dead ones too. -/
theorem cut_holds {t : Tr} {L : List Ent} (h : Holds t L) (hr : Rising t.rows) {lo hi : ByteArray} {op : Bool} (hok : rgOk lo hi op = true) :
    cutR (rankT lo t : Int) (endT hi op t : Int) t.rows = (inE lo hi op true L).map rowOf := by
  rw [cut_plain hr hok, h, filter_map_row]
  unfold inE
  congr 1
  refine List.filter_congr fun e _ => ?_
  simp [rngB, rowOf]
/-- Those alive. -/
theorem live_holds {t : Tr} {L : List Ent} (h : Holds t L) (hr : Rising t.rows) {lo hi : ByteArray} {op : Bool} (hok : rgOk lo hi op = true) :
    liveR (cutR (rankT lo t : Int) (endT hi op t : Int) t.rows) = (inE lo hi op false L).map rowOf := by
  rw [cut_holds h hr hok]
  unfold liveR
  rw [filter_map_row]
  unfold inE
  rw [List.filter_filter]
  congr 1
  refine List.filter_congr fun e _ => ?_
  simp [liveB, rowOf, Bool.and_comm]
def sumE (L : List Ent) : T3 := tsum (L.map fun e => tallyE e.1 e.2.1 e.2.2.1)
theorem fold_holds {t : Tr} {L : List Ent} (h : Holds t L) (hr : Rising t.rows) (hok2 : Oks t.talls) {lo hi : ByteArray} {op : Bool} (hok : rgOk lo hi op = true) :
    tsum (piecesT (rankT lo t) (endT hi op t) t) = sumE (inE lo hi op true L) := by
  rw [pieces_sum t _ _ (by omega) hok2]
  have e : cutL (rankT lo t : Int) (endT hi op t : Int) t.talls = (cutR (rankT lo t : Int) (endT hi op t : Int) t.rows).map fun x => x.2.2 := by
    unfold cutL cutR Tr.talls
    rw [List.map_drop, List.map_take]
  rw [e, cut_holds h hr hok, List.map_map]
  rfl
theorem tsum_cnt : ∀ l : List T3, (∀ s ∈ l, s.1 = 1) → l.length ≤ 1000000 → (tsum l).1 = l.length
  | [], _, _ => rfl
  | x :: l, h, hl => by
    have ih := tsum_cnt l (fun s hs => h s (List.mem_cons_of_mem _ hs)) (by simp at hl; omega)
    have hx := h x (List.mem_cons_self ..)
    show wrap64 (x.1 + (tsum l).1) = _
    rw [ih, hx]
    simp only [List.length_cons] at hl ⊢
    unfold wrap64; omega
theorem sumE_count (L : List Ent) (h : L.length ≤ 1000000) : (sumE L).1 = L.length := by
  have := tsum_cnt (L.map fun e => tallyE e.1 e.2.1 e.2.2.1) (fun s hs => by obtain ⟨e, _, rfl⟩ := List.mem_map.1 hs; rfl) (by simpa using h)
  simpa [sumE] using this
/-- The sums behind one more entry. -/
theorem sumE_snoc (L : List Ent) (e : Ent) : sumE (L ++ [e]) = tadd (sumE L) (tallyE e.1 e.2.1 e.2.2.1) := by
  unfold sumE
  rw [List.map_append, tsum_append]
  congr 1
  exact tsum_one (tallyE_ok _ _ _)
end Go.Proofs.YtdflmplmpjghdaaGreatDoor
