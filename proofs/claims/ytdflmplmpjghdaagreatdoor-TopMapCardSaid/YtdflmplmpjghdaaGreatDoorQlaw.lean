/-
  The law's folds.
-/
import Derived.Test.YtdflmplmpjghdaaGreatDoorQpla
import Derived.Test.YtdflmplmpjghdaaGreatDoorAct
import Derived.Laws.Cover1
namespace Go.Proofs.YtdflmplmpjghdaaGreatDoor
open Go.ChangeShapes Go.WideShapes Go.ChangeAt Go.RowKit Go.Deep Go.Shelf
set_option linter.unusedVariables false
set_option linter.unusedSimpArgs false
set_option maxRecDepth 100000

/-- Why the plain map refuses a write; 0: it does not. -/
def errL (L : List Ent) (k v : ByteArray) : Int := if 16 < k.size then 20 else if 32 < v.size then 31 else if (!isE k L && decide (256 ≤ L.length)) = true then 80 else 0
set_option maxRecDepth 100000 in
set_option maxHeartbeats 8000000 in
theorem pwrite_bad (pb : Nat) (pv : Value) (n : Int) (L : List Ent) (k v : ByteArray) (d : Bool) (w : World) (h : PAt w pb pv n L) (hL : L.length ≤ 1000000) (hk : k.size ≤ 140737488351232) (hv : v.size ≤ 140737488351232) (he : errL L k v ≠ 0) :
    Calls Tryz.prog 26 #[.pointer (some ⟨pb, 0, none⟩), .string k, .string v, .bool d] w fun e w' => e = .returned (.tuple #[vV 0 0, .int .i64 (errL L k v)]) ∧ Below w.heap.size w w' := by
  have hb0 := below_alloc_self w (.cells #[.int .i64 0, .int .i64 0] 44 (0, 0))
  have gv : (w.alloc (.cells #[.int .i64 0, .int .i64 0] 44 (0, 0))).heap[w.heap.size]? = some (.cells #[.int .i64 0, .int .i64 0] 44 (0, 0)) := heap_new rfl
  have HB := Lib.hid (And.intro (h.below hb0) (And.intro hb0 gv))
  clear h hb0 gv
  by_cases h1 : 16 < k.size
  · rw [show errL L k v = 20 by unfold errL; rw [if_pos h1]]
    have d1 : (16 : Int) < (k.size : Int) := by omega
    clear he h1
    go_enter Tryz.func26, Tryz.ntmps26
    go_wp2_with fail
    refine (place_any pb pv n L k _ HB.out.1 hL).mono ?_
    rintro e w2 ⟨rfl, hb2⟩
    have HC := Lib.hid (HB.out.2.1.trans (hb2.mono HB.out.2.1.size))
    have q4 := blk2 (blk_below HB.out.2.2 hb2)
    clear hb2
    go_wp2_with fail
    refine bodyPost_ret (v := .tuple #[vV 0 0, .int .i64 20]) (by simp [results, Tryz.results26, go_sem, q4]) rfl ⟨rfl, ?_⟩
    exact (HC.out.setCell (p := ⟨w.heap.size, 0, none⟩) (Nat.le_refl _) _).setCell (p := ⟨w.heap.size, 1, none⟩) (Nat.le_refl _) _
  · have d1 : (k.size : Int) ≤ 16 := by omega
    by_cases h2 : 32 < v.size
    · rw [show errL L k v = 31 by unfold errL; rw [if_neg h1, if_pos h2]]
      have d2 : (32 : Int) < (v.size : Int) := by omega
      clear he h1 h2
      go_enter Tryz.func26, Tryz.ntmps26
      go_wp2_with fail
      refine (place_any pb pv n L k _ HB.out.1 hL).mono ?_
      rintro e w2 ⟨rfl, hb2⟩
      have HC := Lib.hid (HB.out.2.1.trans (hb2.mono HB.out.2.1.size))
      have q4 := blk2 (blk_below HB.out.2.2 hb2)
      clear hb2
      go_wp2_with fail
      refine bodyPost_ret (v := .tuple #[vV 0 0, .int .i64 31]) (by simp [results, Tryz.results26, go_sem, q4]) rfl ⟨rfl, ?_⟩
      exact (HC.out.setCell (p := ⟨w.heap.size, 0, none⟩) (Nat.le_refl _) _).setCell (p := ⟨w.heap.size, 1, none⟩) (Nat.le_refl _) _
    · have d2 : (v.size : Int) ≤ 32 := by omega
      have h3 : isE k L = false ∧ 256 ≤ L.length := by
        unfold errL at he
        rw [if_neg h1, if_neg h2] at he
        cases hi : isE k L
        · refine ⟨rfl, ?_⟩
          rw [hi] at he
          simp only [Bool.not_false, Bool.true_and, decide_eq_true_eq] at he
          by_cases hh : 256 ≤ L.length
          · exact hh
          · rw [if_neg hh] at he; exact absurd rfl he
        · rw [hi] at he; simp at he
      rw [show errL L k v = 80 by unfold errL; rw [if_neg h1, if_neg h2, h3.1, decide_eq_true h3.2]; rfl]
      have d3 : (256 : Int) ≤ (L.length : Int) := by omega
      have H3 := Lib.hid h3.1
      clear he h1 h2 h3
      obtain ⟨oa, cap, rfl, _⟩ := es_form HB.out.1.row
      go_enter Tryz.func26, Tryz.ntmps26
      go_wp2_with fail
      refine (place_any pb _ n L k _ HB.out.1 hL).mono ?_
      rintro e w2 ⟨rfl, hb2⟩
      rw [H3.out]
      have HC := Lib.hid (HB.out.2.1.trans (hb2.mono HB.out.2.1.size))
      have q4 := blk2 (blk_below HB.out.2.2 hb2)
      have qp := blk2 (blk_below HB.out.1.blk hb2)
      clear hb2
      go_wp2_with fail
      refine bodyPost_ret (v := .tuple #[vV 0 0, .int .i64 80]) (by simp [results, Tryz.results26, go_sem, q4]) rfl ⟨rfl, ?_⟩
      exact (HC.out.setCell (p := ⟨w.heap.size, 0, none⟩) (Nat.le_refl _) _).setCell (p := ⟨w.heap.size, 1, none⟩) (Nat.le_refl _) _
theorem eflat_append (a b : List Ent) : eflat (a ++ b) = eflat a ++ eflat b := by simp [eflat]
theorem eflat_length : ∀ L : List Ent, (eflat L).length = L.length * 5
  | [] => rfl
  | e :: L => by
    show (ecl e ++ eflat L).length = _
    rw [List.length_append, eflat_length L]
    simp [ecl]; omega
theorem eflat_one' (L : List Ent) : ∀ u ∈ eflat L, u.oneCell' = true := by
  intro u hu
  simp only [eflat, List.mem_flatMap] at hu
  obtain ⟨e, _, hu⟩ := hu
  exact ecl_one e u hu
/-- Between two appends. -/
structure PW (w : World) (pb bE bv B : Nat) (pv : Value) (n1 : Int) (L : List Ent) (e : Ent) (v : Value) (M : List Ent) (W : World) : Prop where
  pblk : W.heap[pb]? = some (.cells #[pv, .int .i64 n1] plainT (0, 0))
  row : Es W 1 pv L
  old : ∀ g, pv.ownBlock = some g → g < w.heap.size
  ent : W.heap[bE]? = some (entO e)
  ver : W.heap[bv]? = some (.cells #[.int .i64 0, .int .i64 0] 44 (0, 0))
  out : Es W B v M
  keep : Keep (fun k => k = pb) w W
  lts : pb < w.heap.size ∧ w.heap.size ≤ bE ∧ w.heap.size ≤ bv ∧ bE < B ∧ bv < B ∧ w.heap.size ≤ B
theorem PW.grow {w : World} {pb bE bv B : Nat} {pv : Value} {n1 : Int} {L : List Ent} {e : Ent} {v v' : Value} {M M' : List Ent} {W W' : World} (h : PW w pb bE bv B pv n1 L e v M W) {q : Nat → Prop} (hk : Keep q W W') (hq : ∀ k, q k → B ≤ k) (ho : Es W' B v' M') : PW w pb bE bv B pv n1 L e v' M' W' := by
  obtain ⟨l1, l2, l3, l4, l5, l6⟩ := h.lts
  exact ⟨hk.blk h.pblk (fun hh => by have := hq _ hh; omega), own_keep h.row hk (fun g hg hh => by have := hq _ hh; have := h.old g hg; omega), h.old, hk.blk h.ent (fun hh => by have := hq _ hh; omega), hk.blk h.ver (fun hh => by have := hq _ hh; omega), ho, h.keep.transNew hk (fun k hh => by have := hq _ hh; omega), h.lts⟩
theorem es_take {W : World} {B : Nat} {v : Value} {L : List Ent} {P : Nat} (h : W.ownsRow B entT 5 v P (eflat (L.take P))) (hP : P ≤ L.length) : Es W B v (L.take P) := by
  show W.ownsRow B entT 5 v (L.take P).length (eflat (L.take P))
  rw [List.length_take, Nat.min_eq_left hP]
  exact h
theorem PAt.side {w w' : World} {pb : Nat} {v : Value} {n : Int} {L : List Ent} (h : PAt w pb v n L) {b : Nat} {cs : Array Value} {ty : TypeId} {fr : Nat × Nat} (hb : w.heap[b]? = some (.cells cs ty fr)) (h1 : ty ≠ plainT) (h2 : entT ≠ ty) (hk : Keep (fun k => k = b) w w') : PAt w' pb v n L :=
  ⟨hk.blk h.blk (ne_type hb h1 _ _ _ h.blk), own_keep h.row hk (fun g hg e => own_ne h.row hb h2 (by rw [hg, show g = b from e]))⟩
theorem es_snoc {W : World} {B : Nat} {v : Value} {M : List Ent} {e : Ent} {m : Nat} (h : W.ownsRow B entT 5 v m (eflat M ++ ecl e)) (hm : m = M.length + 1) : Es W B v (M ++ [e]) := by
  subst hm
  show W.ownsRow B entT 5 v (M ++ [e]).length (eflat (M ++ [e]))
  rw [eflat_append, List.length_append]
  simpa [eflat] using h
theorem es_app {W : World} {B : Nat} {v : Value} {M N : List Ent} {m : Nat} (h : W.ownsRow B entT 5 v m (eflat M ++ eflat N)) (hm : m = M.length + N.length) : Es W B v (M ++ N) := by
  subst hm
  show W.ownsRow B entT 5 v (M ++ N).length (eflat (M ++ N))
  rw [eflat_append, List.length_append]
  exact h
theorem PW.app {w : World} {pb bE bv B : Nat} {pv : Value} {n1 : Int} {L : List Ent} {e : Ent} {v v' : Value} {M M' : List Ent} {W W' : World} (h : PW w pb bE bv B pv n1 L e v M W) (hg : W.grownBy W' v.ownBlock) (ho : Es W' B v' M') : PW w pb bE bv B pv n1 L e v' M' W' :=
  h.grow (Keep.grown hg) (fun k hk => by
    rcases h.out.2 with ⟨rfl, _⟩ | ⟨g, cap, cur, rfl, hg0, _⟩
    · cases hk
    · simp only [Value.ownBlock, Option.some.injEq] at hk; omega) ho
theorem PW.below {w : World} {pb bE bv B : Nat} {pv : Value} {n1 : Int} {L : List Ent} {e : Ent} {v : Value} {M : List Ent} {W W' : World} (h : PW w pb bE bv B pv n1 L e v M W) (hb : Below W.heap.size W W') : PW w pb bE bv B pv n1 L e v M W' :=
  h.grow (q := fun _ => False) (Keep.of_below hb) (fun _ hk => hk.elim) (own_below h.out hb)
theorem pw_start {w w0 w2 : World} {pb : Nat} {pv : Value} {n : Int} {L : List Ent} {e : Ent} (h : PAt w pb pv n L) (hb0 : Below w.heap.size w w0) (hs0 : w0.heap.size = w.heap.size + 1) (gv : w0.heap[w.heap.size]? = some (.cells #[.int .i64 0, .int .i64 0] 44 (0, 0))) (hb2 : Below w0.heap.size w0 w2) :
    PW w pb w2.heap.size w.heap.size (w2.heap.size + 1) pv (n + 1) L e (.slice (some ⟨w2.heap.size + 1, 0, none⟩) 0 0) [] (((w2.setCell ⟨pb, 1, none⟩ (.int .i64 (n + 1))).alloc (entO e)).alloc (.cells #[] entT (0, 0))) := by
  have hz := hb2.size
  have hp := blk_lt h.blk
  have hb := hb0.trans (hb2.mono hb0.size)
  have hks := Keep.set w2 ⟨pb, 1, none⟩ (.int .i64 (n + 1))
  have hba : Below (w2.setCell ⟨pb, 1, none⟩ (.int .i64 (n + 1))).heap.size (w2.setCell ⟨pb, 1, none⟩ (.int .i64 (n + 1))) (((w2.setCell ⟨pb, 1, none⟩ (.int .i64 (n + 1))).alloc (entO e)).alloc (.cells #[] entT (0, 0))) := (alloc2 _ _ _).1
  have hrow := own_below h.row hb
  refine ⟨blk_below (heap_set_to (blk_below h.blk hb) (by simp)) hba, own_below (own_keep hrow hks (fun g hg e => own_ne hrow (blk_below h.blk hb) (by decide) (by rw [hg, show g = pb from e]))) hba, ?_, heap_old (heap_new (by simp)), blk_below (heap_set_ne (blk_below gv hb2) (by show w.heap.size ≠ pb; omega) _) hba, ?_, ((Keep.of_below hb).trans hks).trans (Keep.of_below hba), ⟨hp, by omega, by omega, by omega, by omega, by omega⟩⟩
  · intro g hg
    rcases h.row.2 with ⟨rfl, _⟩ | ⟨g', cap, cur, rfl, hb', hh, _⟩
    · cases hg
    · simp only [Value.ownBlock, Option.some.injEq] at hg
      subst hg
      exact blk_lt hh
  · exact ⟨rfl, Or.inr ⟨w2.heap.size + 1, 0, #[], rfl, Nat.le_refl _, heap_new (by simp), Nat.le_refl _, by unfold maxLen; omega, rfl, rfl⟩⟩
/-- The new row is laid into the map. -/
theorem PW.fin {w : World} {pb bE bv B : Nat} {pv : Value} {n1 : Int} {L : List Ent} {e : Ent} {v : Value} {M : List Ent} {W : World} (h : PW w pb bE bv B pv n1 L e v M W) (hB : 1 ≤ B) :
    PAt (W.setCell ⟨pb, 0, none⟩ v) pb v n1 M ∧ (W.setCell ⟨pb, 0, none⟩ v).heap[bE]? = some (entO e) ∧ (W.setCell ⟨pb, 0, none⟩ v).heap[bv]? = some (.cells #[.int .i64 0, .int .i64 0] 44 (0, 0)) ∧ Keep (fun k => k = pb) w (W.setCell ⟨pb, 0, none⟩ v) ∧ pb < w.heap.size ∧ w.heap.size ≤ bv := by
  obtain ⟨l1, l2, l3, l4, l5, l6⟩ := h.lts
  have hks := Keep.set W ⟨pb, 0, none⟩ v
  exact ⟨⟨heap_set_to h.pblk (by simp), own_mono (own_keep h.out hks (fun g hg e => own_ne h.out h.pblk (by decide) (by rw [hg, show g = pb from e]))) hB⟩, heap_set_ne h.ent (by show bE ≠ pb; omega) _, heap_set_ne h.ver (by show bv ≠ pb; omega) _, h.keep.trans hks, l1, l3⟩
theorem row_take {W : World} {B g cap : Nat} {L : List Ent} (h : Es W B (.slice (some ⟨g, 0, none⟩) L.length cap) L) (P : Nat) : ∀ ad, some (⟨g, 0, none⟩ : Addr) = some ad → ∀ j u, (eflat (L.take P))[j]? = some u → W.cell? (ad.add j) = some u := by
  intro ad ha j u hu
  injection ha with ha
  subst ha
  refine h.cells (g := g) rfl j u ?_
  obtain ⟨hj, _⟩ := List.getElem?_eq_some_iff.1 hu
  rw [← hu]
  conv => lhs; rw [← List.take_append_drop P L, eflat_append]
  rw [List.getElem?_append_left hj]
theorem row_drop {W : World} {B g cap : Nat} {L : List Ent} (h : Es W B (.slice (some ⟨g, 0, none⟩) L.length cap) L) (P : Nat) (hP : P ≤ L.length) : ∀ ad, some (⟨g, P * 5, none⟩ : Addr) = some ad → ∀ j u, (eflat (L.drop P))[j]? = some u → W.cell? (ad.add j) = some u := by
  intro ad ha j u hu
  injection ha with ha
  subst ha
  have := h.cells (g := g) rfl (P * 5 + j) u (by
    rw [← hu]
    conv => lhs; rw [← List.take_append_drop P L, eflat_append]
    rw [List.getElem?_append_right (by rw [eflat_length, List.length_take]; omega), eflat_length, List.length_take, Nat.min_eq_left hP]
    congr 1; omega)
  rw [add_none] at this ⊢
  rwa [Nat.zero_add] at this
theorem if_none {p : Prop} [Decidable p] {a b : Addr} {m c : Nat} (h : (if p then some a else some b) = none) : m = 0 ∧ c = 0 := by split at h <;> cases h
theorem row_drop_if {W : World} {B g cap : Nat} {L : List Ent} (h : Es W B (.slice (some ⟨g, 0, none⟩) L.length cap) L) (P : Nat) (hP : P ≤ L.length) (hc : L.length ≤ cap) : ∀ ad, (if cap = P then some (⟨g, 0, none⟩ : Addr) else some ⟨g, P * 5, none⟩) = some ad → ∀ j u, (eflat (L.drop P))[j]? = some u → W.cell? (ad.add j) = some u := by
  intro ad ha j u hu
  by_cases e : cap = P
  · rw [List.drop_of_length_le (by omega)] at hu
    simp [eflat] at hu
  · rw [if_neg e] at ha
    exact row_drop h P hP ad ha j u hu
/-- What a write leaves. -/
def PWrOf (w : World) (pb : Nat) (n : Int) (L : List Ent) (k v : ByteArray) (d : Bool) (x : Ending) (w' : World) : Prop :=
  x = .returned (.tuple #[vV (n + 1) 0, .int .i64 0]) ∧ ∃ pv, PAt w' pb pv (n + 1) (writeE (k, n + 1, 0, v, d) L) ∧ Keep (fun k => k = pb) w w'
set_option maxRecDepth 100000 in
set_option maxHeartbeats 8000000 in
theorem pwrite_ok (pb : Nat) (pv : Value) (n : Int) (L : List Ent) (k v : ByteArray) (d : Bool) (w : World) (h : PAt w pb pv n L) (hL : L.length ≤ 1000) (hk : k.size ≤ 140737488351232) (hv : v.size ≤ 140737488351232) (hn : 0 ≤ n ∧ n ≤ 1000000) (he : errL L k v = 0) :
    Calls Tryz.prog 26 #[.pointer (some ⟨pb, 0, none⟩), .string k, .string v, .bool d] w (PWrOf w pb n L k v d) := by
  have hb0 := below_alloc_self w (.cells #[.int .i64 0, .int .i64 0] 44 (0, 0))
  have gv : (w.alloc (.cells #[.int .i64 0, .int .i64 0] 44 (0, 0))).heap[w.heap.size]? = some (.cells #[.int .i64 0, .int .i64 0] 44 (0, 0)) := heap_new rfl
  have HB := Lib.hid (And.intro (h.below hb0) (And.intro hb0 (And.intro gv h)))
  clear h hb0 gv
  have h1 : ¬ 16 < k.size := fun hh => by unfold errL at he; rw [if_pos hh] at he; cases he
  have h2 : ¬ 32 < v.size := fun hh => by unfold errL at he; rw [if_neg h1, if_pos hh] at he; cases he
  have h3 : isE k L = true ∨ L.length < 256 := by
    unfold errL at he
    rw [if_neg h1, if_neg h2] at he
    cases hi : isE k L
    · refine Or.inr ?_
      rw [hi] at he
      simp only [Bool.not_false, Bool.true_and, decide_eq_true_eq] at he
      by_cases hh : 256 ≤ L.length
      · rw [if_pos hh] at he; cases he
      · omega
    · exact Or.inl rfl
  have d1 : (k.size : Int) ≤ 16 := by omega
  have d2 : (v.size : Int) ≤ 32 := by omega
  have hpl := placeE_le k L
  clear he h1 h2
  obtain ⟨i0, hi0, hz0, hz1, hz2⟩ : ∃ i, Tryz.prog.info? entT = some i ∧ i.zero = some (.agg #[.string ⟨#[]⟩, .int .i64 0, .int .i64 0, .string ⟨#[]⟩, .bool false]) ∧ i.size = 5 ∧ i.bytes = 56 := by
    have := info_ent
    cases h : Tryz.prog.info? entT with
    | none => rw [h] at this; cases this
    | some i => rw [h] at this; simp at this; exact ⟨i, rfl, this.1, this.2.1, this.2.2⟩
  have HI0 : Hid (_ ∧ _ ∧ _ ∧ _) := ⟨hi0, hz0, hz1, hz2⟩
  clear hi0 hz0 hz1 hz2
  obtain ⟨P, hP⟩ : ∃ P, P = placeE k L := ⟨_, rfl⟩
  rw [← hP] at hpl
  have HP := Lib.hid hP
  clear hP
  have hrow := HB.out.2.2.2.row
  rcases hrow.2 with ⟨rfl, h0⟩ | ⟨g, cap, cur, rfl, hg, hh, hc1, hc2, hc3, hc4⟩
  · obtain rfl : L = [] := List.eq_nil_of_length_eq_zero h0
    obtain rfl : P = 0 := by simpa using hpl
    have HI : Hid (isE k ([] : List Ent) = false) := by show _ = _; rfl
    clear hrow h0 h3
    go_enter Tryz.func26, Tryz.ntmps26
    go_wp2_with fail
    refine (place_any pb _ n [] k _ HB.out.1 (by simp)).mono ?_
    rintro e w2 ⟨rfl, hb2⟩
    rw [HI.out, ← HP.out]
    have HW := Lib.hid (pw_start (e := (k, n + 1, 0, v, d)) HB.out.2.2.2 HB.out.2.1 (by simp) HB.out.2.2.1 hb2)
    have hz2 := (HB.out.2.1.trans (hb2.mono HB.out.2.1.size)).size
    have qp := blk2 (blk_below HB.out.1.blk hb2)
    clear hb2
    go_wp2_with (first
      | (at_builtin; (refine wpList_append_any _ rfl (.tmp 59) (.tmp 65) 32 rfl (w2.heap.size + 1) entT i0 _ 5 56 Tryz.underlying32 HI0.out.1 HI0.out.2.1 HI0.out.2.2.1 HI0.out.2.2.2 rfl (by decide) _ 0 [] rfl HW.out.out none 0 0 [] rfl ?len1_0 (fun _ => ⟨rfl, rfl⟩) (fun _ h => nomatch h) ?one1_0 ?c3_0 ?c4_0 ?c5_0 ?_))
      | fail)
    try case len1_0 => simp [eflat_length]
    try case one1_0 => first | exact eflat_one' _ | (intro u hu ; cases hu)
    try case c3_0 => first | (unfold maxLen ; omega) | (unfold maxLen ; simp ; done) | (unfold maxLen ; simp ; omega)
    try case c4_0 => first | omega | (simp ; done) | (simp ; omega)
    try case c5_0 => first | omega | (simp ; done) | (simp ; omega)
    intro v1 W4 ho1 hg1 _
    have H4 := Lib.hid (HW.out.app (M' := []) hg1 (by first | exact ho1 | exact es_take ho1 hpl))
    clear ho1 hg1
    have qe := blk5 H4.out.ent
    have hba := below_alloc_self W4 (entO (k, n + 1, 0, v, d))
    have H5 := Lib.hid (H4.out.below hba)
    clear hba
    have hz4 : w2.heap.size + 1 ≤ W4.heap.size := by have := H4.out.lts; have := blk_lt H4.out.ent; omega
    go_wp2_with (first
      | (at_builtin; (refine wpList_append_any _ rfl (.tmp 67) (.tmp 69) 32 rfl (w2.heap.size + 1) entT i0 _ 5 56 Tryz.underlying32 HI0.out.1 HI0.out.2.1 HI0.out.2.2.1 HI0.out.2.2.2 rfl (by decide) v1 _ _ rfl H5.out.out (some ⟨W4.heap.size, 0, none⟩) 1 1 (ecl (k, n + 1, 0, v, d)) rfl rfl (fun h => nomatch h) (elit_news W4 (k, n + 1, 0, v, d)) (ecl_one _) ?c3_1 ?c4_1 ?c5_1 ?_))
      | fail)
    try case c3_1 => first | (unfold maxLen ; omega) | (unfold maxLen ; simp ; done) | (unfold maxLen ; simp ; omega)
    try case c4_1 => first | omega | (simp ; done) | (simp ; omega)
    try case c5_1 => first | omega | (simp ; done) | (simp ; omega)
    intro v2 W6 ho2 hg2 _
    have H6 := Lib.hid (H5.out.app (M' := [] ++ [(k, n + 1, 0, v, d)]) hg2 (es_snoc ho2 (by first | rfl | (simp ; done) | (simp ; omega))))
    clear ho2 hg2 H5 H4 qe
    have qp := blk2 H6.out.pblk
    have hz6 : w2.heap.size + 1 ≤ W6.heap.size := by have := H6.out.lts; have := blk_lt H6.out.ent; omega
    go_wp2_with (first
      | (at_builtin; (refine wpList_append_any _ rfl (.tmp 75) (.tmp 81) 32 rfl (w2.heap.size + 1) entT i0 _ 5 56 Tryz.underlying32 HI0.out.1 HI0.out.2.1 HI0.out.2.2.1 HI0.out.2.2.2 rfl (by decide) v2 _ _ rfl H6.out.out none 0 0 [] rfl ?len1_2 (fun _ => ⟨rfl, rfl⟩) (fun _ h => nomatch h) ?one1_2 ?c3_2 ?c4_2 ?c5_2 ?_))
      | fail)
    try case len1_2 => simp [eflat_length]
    try case one1_2 => first | exact eflat_one' _ | (intro u hu ; cases hu)
    try case c3_2 => first | (unfold maxLen ; omega) | (unfold maxLen ; simp ; done) | (unfold maxLen ; simp ; omega)
    try case c4_2 => first | omega | (simp ; done) | (simp ; omega)
    try case c5_2 => exact hz6
    all_goals
      intro v3 W7 ho3 hg3 _
      obtain ⟨oa3, n3, cap3, rfl⟩ : ∃ oa n cap, v3 = .slice oa n cap := by
        rcases ho3.2 with ⟨h, _⟩ | ⟨g, cap, cur, h, _⟩
        · exact ⟨_, _, _, h⟩
        · exact ⟨_, _, _, h⟩
      have h7 := (H6.out.app (M' := ([] ++ [(k, n + 1, 0, v, d)]) ++ ([] : List Ent)) hg3 (by first | exact ho3 | exact es_app ho3 (by first | rfl | (simp ; done) | (simp ; omega))))
      have hf := h7.fin (by omega)
      have qp := blk2 h7.pblk
      have qe := blk5 hf.2.1
      have qv := blk2 hf.2.2.1
      have HF := Lib.hid hf
      clear ho3 hg3 h7 hf H6
      go_wp2_with fail
      refine bodyPost_ret (v := .tuple #[vV (n + 1) 0, .int .i64 0]) (by simp [results, Tryz.results26, go_sem, qv]) rfl ⟨rfl, .slice oa3 n3 cap3, ?_, ?_⟩
      · rw [show writeE (k, n + 1, 0, v, d) [] = ([] ++ [(k, n + 1, 0, v, d)]) ++ ([] : List Ent) by rfl]
        exact HF.out.1.side HF.out.2.2.1 (by decide) (by decide) ((Keep.set _ ⟨w.heap.size, 0, none⟩ _).trans (Keep.set _ ⟨w.heap.size, 1, none⟩ _))
      · exact HF.out.2.2.2.1.transNew ((Keep.set _ ⟨w.heap.size, 0, none⟩ _).trans (Keep.set _ ⟨w.heap.size, 1, none⟩ _)) (fun k e => by rw [show k = w.heap.size from e]; exact Nat.le_refl _)
  · have HR := Lib.hid hrow
    clear hrow hh hc2 hc3 hc4
    cases hi : isE k L with
    | true =>
      have HI := Lib.hid hi
      have hPl : P < L.length := by obtain ⟨hl, _⟩ := isE_some hi; rw [HP.out]; exact hl
      clear hi h3
      go_enter Tryz.func26, Tryz.ntmps26
      go_wp2_with fail
      refine (place_any pb _ n L k _ HB.out.1 (by omega)).mono ?_
      rintro e w2 ⟨rfl, hb2⟩
      rw [HI.out, ← HP.out]
      have HW := Lib.hid (pw_start (e := (k, n + 1, 0, v, d)) HB.out.2.2.2 HB.out.2.1 (by simp) HB.out.2.2.1 hb2)
      have hz2 := (HB.out.2.1.trans (hb2.mono HB.out.2.1.size)).size
      have qp := blk2 (blk_below HB.out.1.blk hb2)
      clear hb2
      go_wp2_with (first
        | (at_builtin; (refine wpList_append_any _ rfl (.tmp 59) (.tmp 65) 32 rfl (w2.heap.size + 1) entT i0 _ 5 56 Tryz.underlying32 HI0.out.1 HI0.out.2.1 HI0.out.2.2.1 HI0.out.2.2.2 rfl (by decide) _ 0 [] rfl HW.out.out (some ⟨g, 0, none⟩) P cap (eflat (L.take P)) rfl ?len1_3 (fun h => nomatch h) (row_take HW.out.row P) ?one1_3 ?c3_3 ?c4_3 ?c5_3 ?_))
        | fail)
      try case len1_3 => simp [eflat_length]; omega
      try case one1_3 => first | exact eflat_one' _ | (intro u hu ; cases hu)
      try case c3_3 => first | (unfold maxLen ; omega) | (unfold maxLen ; simp ; done) | (unfold maxLen ; simp ; omega)
      try case c4_3 => first | omega | (simp ; done) | (simp ; omega)
      try case c5_3 => first | omega | (simp ; done) | (simp ; omega)
      intro v1 W4 ho1 hg1 _
      have H4 := Lib.hid (HW.out.app (M' := L.take P) hg1 (by first | exact ho1 | exact es_take ho1 hpl))
      clear ho1 hg1
      have qe := blk5 H4.out.ent
      have hba := below_alloc_self W4 (entO (k, n + 1, 0, v, d))
      have H5 := Lib.hid (H4.out.below hba)
      clear hba
      have hz4 : w2.heap.size + 1 ≤ W4.heap.size := by have := H4.out.lts; have := blk_lt H4.out.ent; omega
      go_wp2_with (first
        | (at_builtin; (refine wpList_append_any _ rfl (.tmp 67) (.tmp 69) 32 rfl (w2.heap.size + 1) entT i0 _ 5 56 Tryz.underlying32 HI0.out.1 HI0.out.2.1 HI0.out.2.2.1 HI0.out.2.2.2 rfl (by decide) v1 _ _ rfl H5.out.out (some ⟨W4.heap.size, 0, none⟩) 1 1 (ecl (k, n + 1, 0, v, d)) rfl rfl (fun h => nomatch h) (elit_news W4 (k, n + 1, 0, v, d)) (ecl_one _) ?c3_4 ?c4_4 ?c5_4 ?_))
        | fail)
      try case c3_4 => first | (unfold maxLen ; omega) | (unfold maxLen ; simp ; done) | (unfold maxLen ; simp ; omega)
      try case c4_4 => first | omega | (simp ; done) | (simp ; omega)
      try case c5_4 => first | omega | (simp ; done) | (simp ; omega)
      intro v2 W6 ho2 hg2 _
      have H6 := Lib.hid (H5.out.app (M' := L.take P ++ [(k, n + 1, 0, v, d)]) hg2 (es_snoc ho2 (by first | rfl | (simp ; done) | (simp ; omega))))
      clear ho2 hg2 H5 H4 qe
      have qp := blk2 H6.out.pblk
      have hz6 : w2.heap.size + 1 ≤ W6.heap.size := by have := H6.out.lts; have := blk_lt H6.out.ent; omega
      go_wp2_with (first
        | (at_builtin; (refine wpList_append_any _ rfl (.tmp 75) (.tmp 81) 32 rfl (w2.heap.size + 1) entT i0 _ 5 56 Tryz.underlying32 HI0.out.1 HI0.out.2.1 HI0.out.2.2.1 HI0.out.2.2.2 rfl (by decide) v2 _ _ rfl H6.out.out (if cap = P + 1 then some ⟨g, 0, none⟩ else some ⟨g, (P + 1) * 5, none⟩) (L.length - (P + 1)) (cap - (P + 1)) (eflat (L.drop (P + 1))) rfl ?len1_5 if_none (row_drop_if H6.out.row (P + 1) (by omega) (by omega)) ?one1_5 ?c3_5 ?c4_5 ?c5_5 ?_))
        | fail)
      try case len1_5 => simp [eflat_length]
      try case one1_5 => first | exact eflat_one' _ | (intro u hu ; cases hu)
      try case c3_5 => first | (unfold maxLen ; omega) | (unfold maxLen ; simp ; done) | (unfold maxLen ; simp ; omega)
      try case c4_5 => first | omega | (simp ; done) | (simp ; omega)
      try case c5_5 => exact hz6
      all_goals
        intro v3 W7 ho3 hg3 _
        obtain ⟨oa3, n3, cap3, rfl⟩ : ∃ oa n cap, v3 = .slice oa n cap := by
          rcases ho3.2 with ⟨h, _⟩ | ⟨g, cap, cur, h, _⟩
          · exact ⟨_, _, _, h⟩
          · exact ⟨_, _, _, h⟩
        have h7 := (H6.out.app (M' := (L.take P ++ [(k, n + 1, 0, v, d)]) ++ L.drop (P + 1)) hg3 (by first | exact ho3 | exact es_app ho3 (by first | rfl | (simp ; done) | (simp ; omega))))
        have hf := h7.fin (by omega)
        have qp := blk2 h7.pblk
        have qe := blk5 hf.2.1
        have qv := blk2 hf.2.2.1
        have HF := Lib.hid hf
        clear ho3 hg3 h7 hf H6
        go_wp2_with fail
        refine bodyPost_ret (v := .tuple #[vV (n + 1) 0, .int .i64 0]) (by simp [results, Tryz.results26, go_sem, qv]) rfl ⟨rfl, .slice oa3 n3 cap3, ?_, ?_⟩
        · rw [show writeE (k, n + 1, 0, v, d) L = (L.take P ++ [(k, n + 1, 0, v, d)]) ++ L.drop (P + 1) by (unfold writeE ; rw [HI.out, ← HP.out] ; simp)]
          exact HF.out.1.side HF.out.2.2.1 (by decide) (by decide) ((Keep.set _ ⟨w.heap.size, 0, none⟩ _).trans (Keep.set _ ⟨w.heap.size, 1, none⟩ _))
        · exact HF.out.2.2.2.1.transNew ((Keep.set _ ⟨w.heap.size, 0, none⟩ _).trans (Keep.set _ ⟨w.heap.size, 1, none⟩ _)) (fun k e => by rw [show k = w.heap.size from e]; exact Nat.le_refl _)
    | false =>
      have HI := Lib.hid hi
      have d3 : (L.length : Int) < 256 := by rcases h3 with h3 | h3; exact absurd h3 (by rw [hi]; simp); omega
      clear hi h3
      go_enter Tryz.func26, Tryz.ntmps26
      go_wp2_with fail
      refine (place_any pb _ n L k _ HB.out.1 (by omega)).mono ?_
      rintro e w2 ⟨rfl, hb2⟩
      rw [HI.out, ← HP.out]
      have HW := Lib.hid (pw_start (e := (k, n + 1, 0, v, d)) HB.out.2.2.2 HB.out.2.1 (by simp) HB.out.2.2.1 hb2)
      have hz2 := (HB.out.2.1.trans (hb2.mono HB.out.2.1.size)).size
      have qp := blk2 (blk_below HB.out.1.blk hb2)
      clear hb2
      go_wp2_with (first
        | (at_builtin; (refine wpList_append_any _ rfl (.tmp 59) (.tmp 65) 32 rfl (w2.heap.size + 1) entT i0 _ 5 56 Tryz.underlying32 HI0.out.1 HI0.out.2.1 HI0.out.2.2.1 HI0.out.2.2.2 rfl (by decide) _ 0 [] rfl HW.out.out (some ⟨g, 0, none⟩) P cap (eflat (L.take P)) rfl ?len1_6 (fun h => nomatch h) (row_take HW.out.row P) ?one1_6 ?c3_6 ?c4_6 ?c5_6 ?_))
        | fail)
      try case len1_6 => simp [eflat_length]; omega
      try case one1_6 => first | exact eflat_one' _ | (intro u hu ; cases hu)
      try case c3_6 => first | (unfold maxLen ; omega) | (unfold maxLen ; simp ; done) | (unfold maxLen ; simp ; omega)
      try case c4_6 => first | omega | (simp ; done) | (simp ; omega)
      try case c5_6 => first | omega | (simp ; done) | (simp ; omega)
      intro v1 W4 ho1 hg1 _
      have H4 := Lib.hid (HW.out.app (M' := L.take P) hg1 (by first | exact ho1 | exact es_take ho1 hpl))
      clear ho1 hg1
      have qe := blk5 H4.out.ent
      have hba := below_alloc_self W4 (entO (k, n + 1, 0, v, d))
      have H5 := Lib.hid (H4.out.below hba)
      clear hba
      have hz4 : w2.heap.size + 1 ≤ W4.heap.size := by have := H4.out.lts; have := blk_lt H4.out.ent; omega
      go_wp2_with (first
        | (at_builtin; (refine wpList_append_any _ rfl (.tmp 67) (.tmp 69) 32 rfl (w2.heap.size + 1) entT i0 _ 5 56 Tryz.underlying32 HI0.out.1 HI0.out.2.1 HI0.out.2.2.1 HI0.out.2.2.2 rfl (by decide) v1 _ _ rfl H5.out.out (some ⟨W4.heap.size, 0, none⟩) 1 1 (ecl (k, n + 1, 0, v, d)) rfl rfl (fun h => nomatch h) (elit_news W4 (k, n + 1, 0, v, d)) (ecl_one _) ?c3_7 ?c4_7 ?c5_7 ?_))
        | fail)
      try case c3_7 => first | (unfold maxLen ; omega) | (unfold maxLen ; simp ; done) | (unfold maxLen ; simp ; omega)
      try case c4_7 => first | omega | (simp ; done) | (simp ; omega)
      try case c5_7 => first | omega | (simp ; done) | (simp ; omega)
      intro v2 W6 ho2 hg2 _
      have H6 := Lib.hid (H5.out.app (M' := L.take P ++ [(k, n + 1, 0, v, d)]) hg2 (es_snoc ho2 (by first | rfl | (simp ; done) | (simp ; omega))))
      clear ho2 hg2 H5 H4 qe
      have qp := blk2 H6.out.pblk
      have hz6 : w2.heap.size + 1 ≤ W6.heap.size := by have := H6.out.lts; have := blk_lt H6.out.ent; omega
      go_wp2_with (first
        | (at_builtin; (refine wpList_append_any _ rfl (.tmp 75) (.tmp 81) 32 rfl (w2.heap.size + 1) entT i0 _ 5 56 Tryz.underlying32 HI0.out.1 HI0.out.2.1 HI0.out.2.2.1 HI0.out.2.2.2 rfl (by decide) v2 _ _ rfl H6.out.out (if cap = P then some ⟨g, 0, none⟩ else some ⟨g, P * 5, none⟩) (L.length - P) (cap - P) (eflat (L.drop P)) rfl ?len1_8 if_none (row_drop_if H6.out.row P (by omega) (by omega)) ?one1_8 ?c3_8 ?c4_8 ?c5_8 ?_))
        | fail)
      try case len1_8 => simp [eflat_length]
      try case one1_8 => first | exact eflat_one' _ | (intro u hu ; cases hu)
      try case c3_8 => first | (unfold maxLen ; omega) | (unfold maxLen ; simp ; done) | (unfold maxLen ; simp ; omega)
      try case c4_8 => first | omega | (simp ; done) | (simp ; omega)
      try case c5_8 => exact hz6
      all_goals
        intro v3 W7 ho3 hg3 _
        obtain ⟨oa3, n3, cap3, rfl⟩ : ∃ oa n cap, v3 = .slice oa n cap := by
          rcases ho3.2 with ⟨h, _⟩ | ⟨g, cap, cur, h, _⟩
          · exact ⟨_, _, _, h⟩
          · exact ⟨_, _, _, h⟩
        have h7 := (H6.out.app (M' := (L.take P ++ [(k, n + 1, 0, v, d)]) ++ L.drop P) hg3 (by first | exact ho3 | exact es_app ho3 (by first | rfl | (simp ; done) | (simp ; omega))))
        have hf := h7.fin (by omega)
        have qp := blk2 h7.pblk
        have qe := blk5 hf.2.1
        have qv := blk2 hf.2.2.1
        have HF := Lib.hid hf
        clear ho3 hg3 h7 hf H6
        go_wp2_with fail
        refine bodyPost_ret (v := .tuple #[vV (n + 1) 0, .int .i64 0]) (by simp [results, Tryz.results26, go_sem, qv]) rfl ⟨rfl, .slice oa3 n3 cap3, ?_, ?_⟩
        · rw [show writeE (k, n + 1, 0, v, d) L = (L.take P ++ [(k, n + 1, 0, v, d)]) ++ L.drop P by (unfold writeE ; rw [HI.out, ← HP.out] ; simp)]
          exact HF.out.1.side HF.out.2.2.1 (by decide) (by decide) ((Keep.set _ ⟨w.heap.size, 0, none⟩ _).trans (Keep.set _ ⟨w.heap.size, 1, none⟩ _))
        · exact HF.out.2.2.2.1.transNew ((Keep.set _ ⟨w.heap.size, 0, none⟩ _).trans (Keep.set _ ⟨w.heap.size, 1, none⟩ _)) (fun k e => by rw [show k = w.heap.size from e]; exact Nat.le_refl _)
end Go.Proofs.YtdflmplmpjghdaaGreatDoor
namespace Go.Proofs.YtdflmplmpjghdaaGreatDoor
open Go.ChangeShapes Go.WideShapes Go.ChangeAt Go.RowKit Go.Deep Go.Shelf
set_option linter.unusedVariables false
set_option linter.unusedSimpArgs false
set_option maxRecDepth 100000

theorem inE_succ (lo hi : ByteArray) (op dead : Bool) (L : List Ent) (k : Nat) (h : k < L.length) : inE lo hi op dead (L.take (k + 1)) = inE lo hi op dead (L.take k) ++ if (rngB lo hi op L[k] && (dead || !L[k].2.2.2.2)) = true then [L[k]] else [] := by
  unfold inE
  rw [List.take_succ_eq_append_getElem h, List.filter_append]
  simp only [List.filter_cons, List.filter_nil]
theorem inE_len (lo hi : ByteArray) (op dead : Bool) (L : List Ent) : (inE lo hi op dead L).length ≤ L.length := List.length_filter_le _ _
set_option maxRecDepth 100000 in
set_option maxHeartbeats 8000000 in
theorem pin_bad (pb : Nat) (lo hi : ByteArray) (op dead : Bool) (w : World) (h1 : lo.size ≤ 140737488351232) (h2 : hi.size ≤ 140737488351232) (hb : ¬ (lo.size ≤ 16 ∧ hi.size ≤ 16 ∧ rgOk lo hi op = true)) :
    Calls Tryz.prog 28 #[.pointer (some ⟨pb, 0, none⟩), rgV lo hi op, .bool dead] w fun e w' => e = .returned (.tuple #[.slice none 0 0, .int .i64 (if lo.size > 16 ∨ hi.size > 16 then 20 else 21)]) ∧ Below w.heap.size w w' := by
  have hbx : Below w.heap.size w (w.alloc (.cells #[.string lo, .string hi, .bool op] 36 (0, 0))) := below_alloc_self w _
  by_cases a1 : 16 < lo.size
  · rw [if_pos (Or.inl a1)]
    have d : (16 : Int) < (lo.size : Int) := by omega
    clear hb a1
    go_enter Tryz.func28, Tryz.ntmps28
    go_wp2_with fail
    go_ret2
    exact ⟨rfl, hbx⟩
  · by_cases a2 : 16 < hi.size
    · rw [if_pos (Or.inr a2)]
      have d : (lo.size : Int) ≤ 16 := by omega
      have d2 : (16 : Int) < (hi.size : Int) := by omega
      clear hb a1 a2
      go_enter Tryz.func28, Tryz.ntmps28
      go_wp2_with fail
      go_ret2
      exact ⟨rfl, hbx⟩
    · rw [if_neg (by omega)]
      have d : (lo.size : Int) ≤ 16 := by omega
      have d2 : (hi.size : Int) ≤ 16 := by omega
      have hr : rgOk lo hi op = false := by
        cases hr : rgOk lo hi op
        · rfl
        · exact absurd ⟨by omega, by omega, hr⟩ hb
      clear a1 a2 hb
      cases op with
      | true =>
        have d3 : (!hi.toList.isEmpty) = true := by unfold rgOk at hr; simp at hr; simp [hr]
        have d4 : hi.toList ≠ [] := by unfold rgOk at hr; simpa using hr
        clear hr
        go_enter Tryz.func28, Tryz.ntmps28
        go_wp2_with fail
        go_ret2
        exact ⟨rfl, hbx⟩
      | false =>
        have hk : klb hi lo = true := by unfold rgOk at hr; simpa using hr
        have d3 : Op.bytesLess lo.toList hi.toList = false := klb_asymm hk
        have d4 : (lo.toList == hi.toList) = false := by rw [beq_eq_false_iff_ne]; intro hh; rw [toList_inj hh, klb_irrefl] at hk; cases hk
        clear hr hk
        go_enter Tryz.func28, Tryz.ntmps28
        go_wp2_with fail
        go_ret2
        exact ⟨rfl, hbx⟩
theorem kle_true {a b : ByteArray} (h : klb a b = false) : (Op.bytesLess b.toList a.toList || b.toList == a.toList) = true := by
  cases hk : klb b a
  · rw [klb_total hk h]; simp
  · rw [show Op.bytesLess b.toList a.toList = true from hk]; rfl
theorem kle_false {a b : ByteArray} (h : klb a b = true) : (Op.bytesLess b.toList a.toList || b.toList == a.toList) = false := by
  have h2 : Op.bytesLess b.toList a.toList = false := klb_asymm h
  have h3 : (b.toList == a.toList) = false := by rw [beq_eq_false_iff_ne]; intro hh; rw [toList_inj hh, klb_irrefl] at h; cases h
  rw [h2, h3]; rfl
theorem lit2_news (w : World) (e : Ent) : ∀ ad, some (⟨w.heap.size + 1, 0, none⟩ : Addr) = some ad → ∀ j u, (ecl e)[j]? = some u → ((w.alloc (entO e)).alloc (entO e)).cell? (ad.add j) = some u := by
  have := elit_news (w.alloc (entO e)) e
  simpa using this
set_option maxRecDepth 100000 in
set_option maxHeartbeats 16000000 in
theorem pin_ok (pb : Nat) (pv : Value) (n : Int) (L : List Ent) (lo hi : ByteArray) (op dead : Bool) (w : World) (h : PAt w pb pv n L) (hL : L.length ≤ 1000) (h1 : lo.size ≤ 16) (h2 : hi.size ≤ 16) (hr : rgOk lo hi op = true) :
    Calls Tryz.prog 28 #[.pointer (some ⟨pb, 0, none⟩), rgV lo hi op, .bool dead] w fun e w' => ∃ v, e = .returned (.tuple #[v, .int .i64 0]) ∧ Es w' w.heap.size v (inE lo hi op dead L) ∧ Below w.heap.size w w' := by
  obtain ⟨i0, hi0, hz0, hz1, hz2⟩ : ∃ i, Tryz.prog.info? entT = some i ∧ i.zero = some (.agg #[.string ⟨#[]⟩, .int .i64 0, .int .i64 0, .string ⟨#[]⟩, .bool false]) ∧ i.size = 5 ∧ i.bytes = 56 := by
    have := info_ent
    cases h : Tryz.prog.info? entT with
    | none => rw [h] at this; cases this
    | some i => rw [h] at this; simp at this; exact ⟨i, rfl, this.1, this.2.1, this.2.2⟩
  have HI0 : Hid (_ ∧ _ ∧ _ ∧ _) := ⟨hi0, hz0, hz1, hz2⟩
  clear hi0 hz0 hz1 hz2
  obtain ⟨oa, cap, rfl, hA⟩ := es_form h.row
  have k0 := below_alloc_self w (.cells #[.string lo, .string hi, .bool op] 36 (0, 0))
  have k1 : (w.alloc (.cells #[.string lo, .string hi, .bool op] 36 (0, 0))).heap[w.heap.size]? = some (.cells #[.string lo, .string hi, .bool op] 36 (0, 0)) := heap_new rfl
  have HA := Lib.hid (And.intro hA (And.intro h.blk (And.intro k0 (And.intro k1 (show (w.alloc (.cells #[.string lo, .string hi, .bool op] 36 (0, 0))).heap.size = w.heap.size + 1 by simp)))))
  have d1 : (lo.size : Int) ≤ 16 := by omega
  have d2 : (hi.size : Int) ≤ 16 := by omega
  clear hA h k0 k1
  cases op with
  | true =>
    have d3 : (!hi.toList.isEmpty) = false := by unfold rgOk at hr; simp at hr; simp [hr]
    have d4 : hi.toList = [] := by unfold rgOk at hr; simpa using hr
    clear hr
    go_enter Tryz.func28, Tryz.ntmps28
    go_wp2_with fail
    clear d3 d4
    generalize w.alloc (.cells #[.string lo, .string hi, .bool true] 36 (0, 0)) = w1 at *
    have HE0 : Hid (Es (w1.alloc (.cells #[] entT (0, 0))) (w.heap.size + 1) (.slice (some ⟨w.heap.size + 1, 0, none⟩) 0 0) (inE lo hi true dead (L.take 0))) := ⟨rfl, Or.inr ⟨w.heap.size + 1, 0, #[], rfl, Nat.le_refl _, heap_new HA.out.2.2.2.2.symm, Nat.le_refl _, by unfold maxLen; omega, rfl, rfl⟩⟩
    go_loopw [8, 9] (fun o s wr => ∃ k : Nat, k ≤ L.length ∧ s = .int .i64 (k : Int) ∧ Hid (Es wr (w.heap.size + 1) o (inE lo hi true dead (L.take k))) ∧ Hid (Below w1.heap.size w1 wr)) (fun _ s _ => L.length - (intOf s).toNat)
    case atStart => exact ⟨0, Nat.zero_le _, rfl, HE0, below_alloc_self _ _⟩
    case round =>
      clear HE0
      obtain ⟨k, hk, rfl, HO, HB2⟩ := hrel
      have hbw := HA.out.2.2.1.trans (HB2.out.mono HA.out.2.2.1.size)
      have HBW := Lib.hid hbw
      have qp := blk2 (blk_below HA.out.2.1 hbw)
      have hs1 : w.heap.size + 1 ≤ wr.heap.size := by have := HB2.out.size; have := HA.out.2.2.2.2; omega
      clear hbw
      by_cases hlt : k < L.length
      · obtain ⟨ga, rfl, ha⟩ := HA.out.1 k hlt
        obtain ⟨⟨x1, x2, x3, x4, x5⟩, hx⟩ : ∃ x, x = L[k] := ⟨_, rfl⟩
        rw [← hx] at ha
        have HX := Lib.hid hx
        have qa := ha.below HBW.out
        unfold EAt at qa
        simp only at qa
        have qr := blk3 (blk_below HA.out.2.2.2.1 HB2.out)
        clear ha hx
        have hbe : Hid (Below w1.heap.size w1 (wr.alloc (entO (x1, x2, x3, x4, x5)))) := HB2.out.alloc HB2.out.size _
        cases c1 : klb x1 lo with
        | true =>
          have e1 : Op.bytesLess x1.toList lo.toList = true := c1
          have e2 : (Op.bytesLess lo.toList x1.toList || lo.toList == x1.toList) = false := kle_false c1
          have HT : ¬ ((rngB lo hi true (x1, x2, x3, x4, x5) && (dead || !(x1, x2, x3, x4, x5).2.2.2.2)) = true) := by simp [rngB, c1]
          have HN : Hid (Es (wr.alloc (entO (x1, x2, x3, x4, x5))) (w.heap.size + 1) u8 (inE lo hi true dead (L.take (k + 1)))) := by
            show Es _ _ _ _
            rw [inE_succ lo hi true dead L k hlt, ← HX.out, if_neg HT, List.append_nil]
            exact own_below HO.out (below_alloc_self _ _)
          clear HO HT
          go_wp2_with fail
          go_roundw
          case rel => exact ⟨k + 1, by omega, by go_num, HN, hbe⟩
          case measure => simp [intOf]; omega
        | false =>
          have e1 : Op.bytesLess x1.toList lo.toList = false := c1
          have e2 : (Op.bytesLess lo.toList x1.toList || lo.toList == x1.toList) = true := kle_true c1
          cases dead with
          | true =>
            have HT : ((rngB lo hi true (x1, x2, x3, x4, x5) && (true || !(x1, x2, x3, x4, x5).2.2.2.2)) = true) := by simp [rngB, c1]
            have HO2 := Lib.hid (own_below (own_below HO.out (below_alloc_self wr (entO (x1, x2, x3, x4, x5)))) (below_alloc_self (wr.alloc (entO (x1, x2, x3, x4, x5))) (entO (x1, x2, x3, x4, x5))))
            have hNl := inE_len lo hi true true (L.take k)
            have hNl2 : (L.take k).length ≤ 1000 := by rw [List.length_take]; omega
            clear HO
            go_wp2_with (first
              | (at_builtin; (refine wpList_append_any _ rfl (.tmp 81) (.tmp 83) 32 rfl (w.heap.size + 1) entT i0 _ 5 56 Tryz.underlying32 HI0.out.1 HI0.out.2.1 HI0.out.2.2.1 HI0.out.2.2.2 rfl (by decide) u8 _ _ rfl HO2.out (some ⟨wr.heap.size + 1, 0, none⟩) 1 1 (ecl (x1, x2, x3, x4, x5)) rfl rfl (fun h => nomatch h) (lit2_news wr (x1, x2, x3, x4, x5)) (ecl_one _) ?c3a1 ?c4a1 ?c5a1 ?_))
              | fail)
            case c3a1 => unfold maxLen; omega
            case c4a1 => omega
            case c5a1 => first | omega | (simp ; done) | (simp ; omega)
            intro o2 w6 ho2 hg2 _
            have HN : Hid (Es w6 (w.heap.size + 1) o2 (inE lo hi true true (L.take (k + 1)))) := by
              show Es _ _ _ _
              rw [inE_succ lo hi true true L k hlt, ← HX.out, if_pos HT]
              exact es_snoc ho2 (by first | rfl | (simp ; done) | (simp ; omega))
            have hb5 : Below w1.heap.size w1 ((wr.alloc (entO (x1, x2, x3, x4, x5))).alloc (entO (x1, x2, x3, x4, x5))) := hbe.out.alloc hbe.out.size _
            have hb6 : Below w1.heap.size w1 w6 := hb5.grown hg2 hb5.size (fun y hy => by have := (HO2.out.lt y hy).1; have := HA.out.2.2.2.2; omega)
            have HB6 := Lib.hid hb6
            clear ho2 hg2 hb5 hb6 HT hNl hNl2 HO2
            go_wp2_with fail
            go_roundw
            case rel => exact ⟨k + 1, by omega, by go_num, HN, HB6⟩
            case measure => simp [intOf]; omega
          | false =>
            cases x5 with
            | true =>
              have HT : ¬ ((rngB lo hi true (x1, x2, x3, x4, true) && (false || !(x1, x2, x3, x4, true).2.2.2.2)) = true) := by simp [rngB, c1]
              have HN : Hid (Es (wr.alloc (entO (x1, x2, x3, x4, true))) (w.heap.size + 1) u8 (inE lo hi true false (L.take (k + 1)))) := by
                show Es _ _ _ _
                rw [inE_succ lo hi true false L k hlt, ← HX.out, if_neg HT, List.append_nil]
                exact own_below HO.out (below_alloc_self _ _)
              clear HO HT
              go_wp2_with fail
              go_roundw
              case rel => exact ⟨k + 1, by omega, by go_num, HN, hbe⟩
              case measure => simp [intOf]; omega
            | false =>
              have HT : ((rngB lo hi true (x1, x2, x3, x4, false) && (false || !(x1, x2, x3, x4, false).2.2.2.2)) = true) := by simp [rngB, c1]
              have HO2 := Lib.hid (own_below (own_below HO.out (below_alloc_self wr (entO (x1, x2, x3, x4, false)))) (below_alloc_self (wr.alloc (entO (x1, x2, x3, x4, false))) (entO (x1, x2, x3, x4, false))))
              have hNl := inE_len lo hi true false (L.take k)
              have hNl2 : (L.take k).length ≤ 1000 := by rw [List.length_take]; omega
              clear HO
              go_wp2_with (first
                | (at_builtin; (refine wpList_append_any _ rfl (.tmp 81) (.tmp 83) 32 rfl (w.heap.size + 1) entT i0 _ 5 56 Tryz.underlying32 HI0.out.1 HI0.out.2.1 HI0.out.2.2.1 HI0.out.2.2.2 rfl (by decide) u8 _ _ rfl HO2.out (some ⟨wr.heap.size + 1, 0, none⟩) 1 1 (ecl (x1, x2, x3, x4, false)) rfl rfl (fun h => nomatch h) (lit2_news wr (x1, x2, x3, x4, false)) (ecl_one _) ?c3b1 ?c4b1 ?c5b1 ?_))
                | fail)
              case c3b1 => unfold maxLen; omega
              case c4b1 => omega
              case c5b1 => first | omega | (simp ; done) | (simp ; omega)
              intro o2 w6 ho2 hg2 _
              have HN : Hid (Es w6 (w.heap.size + 1) o2 (inE lo hi true false (L.take (k + 1)))) := by
                show Es _ _ _ _
                rw [inE_succ lo hi true false L k hlt, ← HX.out, if_pos HT]
                exact es_snoc ho2 (by first | rfl | (simp ; done) | (simp ; omega))
              have hb5 : Below w1.heap.size w1 ((wr.alloc (entO (x1, x2, x3, x4, false))).alloc (entO (x1, x2, x3, x4, false))) := hbe.out.alloc hbe.out.size _
              have hb6 : Below w1.heap.size w1 w6 := hb5.grown hg2 hb5.size (fun y hy => by have := (HO2.out.lt y hy).1; have := HA.out.2.2.2.2; omega)
              have HB6 := Lib.hid hb6
              clear ho2 hg2 hb5 hb6 HT hNl hNl2 HO2
              go_wp2_with fail
              go_roundw
              case rel => exact ⟨k + 1, by omega, by go_num, HN, HB6⟩
              case measure => simp [intOf]; omega
      · obtain rfl : k = L.length := by omega
        go_wp2_with fail
        go_ret2
        have ho := HO.out
        rw [List.take_length] at ho
        exact ⟨_, rfl, own_mono ho (by omega), HBW.out⟩
  | false =>
    have hk : klb hi lo = false := by unfold rgOk at hr; simpa using hr
    have d3 : (Op.bytesLess lo.toList hi.toList || lo.toList == hi.toList) = true := by
      cases hk2 : klb lo hi
      · rw [klb_total hk2 hk]; simp
      · rw [show Op.bytesLess lo.toList hi.toList = true from hk2]; rfl
    clear hr hk
    go_enter Tryz.func28, Tryz.ntmps28
    go_wp2_with fail
    clear d3
    generalize w.alloc (.cells #[.string lo, .string hi, .bool false] 36 (0, 0)) = w1 at *
    have HE0 : Hid (Es (w1.alloc (.cells #[] entT (0, 0))) (w.heap.size + 1) (.slice (some ⟨w.heap.size + 1, 0, none⟩) 0 0) (inE lo hi false dead (L.take 0))) := ⟨rfl, Or.inr ⟨w.heap.size + 1, 0, #[], rfl, Nat.le_refl _, heap_new HA.out.2.2.2.2.symm, Nat.le_refl _, by unfold maxLen; omega, rfl, rfl⟩⟩
    go_loopw [8, 9] (fun o s wr => ∃ k : Nat, k ≤ L.length ∧ s = .int .i64 (k : Int) ∧ Hid (Es wr (w.heap.size + 1) o (inE lo hi false dead (L.take k))) ∧ Hid (Below w1.heap.size w1 wr)) (fun _ s _ => L.length - (intOf s).toNat)
    case atStart => exact ⟨0, Nat.zero_le _, rfl, HE0, below_alloc_self _ _⟩
    case round =>
      clear HE0
      obtain ⟨k, hk, rfl, HO, HB2⟩ := hrel
      have hbw := HA.out.2.2.1.trans (HB2.out.mono HA.out.2.2.1.size)
      have HBW := Lib.hid hbw
      have qp := blk2 (blk_below HA.out.2.1 hbw)
      have hs1 : w.heap.size + 1 ≤ wr.heap.size := by have := HB2.out.size; have := HA.out.2.2.2.2; omega
      clear hbw
      by_cases hlt : k < L.length
      · obtain ⟨ga, rfl, ha⟩ := HA.out.1 k hlt
        obtain ⟨⟨x1, x2, x3, x4, x5⟩, hx⟩ : ∃ x, x = L[k] := ⟨_, rfl⟩
        rw [← hx] at ha
        have HX := Lib.hid hx
        have qa := ha.below HBW.out
        unfold EAt at qa
        simp only at qa
        have qr := blk3 (blk_below HA.out.2.2.2.1 HB2.out)
        clear ha hx
        have hbe : Hid (Below w1.heap.size w1 (wr.alloc (entO (x1, x2, x3, x4, x5)))) := HB2.out.alloc HB2.out.size _
        cases c1 : klb x1 lo with
        | true =>
          have e1 : Op.bytesLess x1.toList lo.toList = true := c1
          have e2 : (Op.bytesLess lo.toList x1.toList || lo.toList == x1.toList) = false := kle_false c1
          have HT : ¬ ((rngB lo hi false (x1, x2, x3, x4, x5) && (dead || !(x1, x2, x3, x4, x5).2.2.2.2)) = true) := by simp [rngB, c1]
          have HN : Hid (Es (wr.alloc (entO (x1, x2, x3, x4, x5))) (w.heap.size + 1) u8 (inE lo hi false dead (L.take (k + 1)))) := by
            show Es _ _ _ _
            rw [inE_succ lo hi false dead L k hlt, ← HX.out, if_neg HT, List.append_nil]
            exact own_below HO.out (below_alloc_self _ _)
          clear HO HT
          go_wp2_with fail
          go_roundw
          case rel => exact ⟨k + 1, by omega, by go_num, HN, hbe⟩
          case measure => simp [intOf]; omega
        | false =>
          have e1 : Op.bytesLess x1.toList lo.toList = false := c1
          have e2 : (Op.bytesLess lo.toList x1.toList || lo.toList == x1.toList) = true := kle_true c1
          cases c2 : klb x1 hi with
          | false =>
            have e3 : Op.bytesLess x1.toList hi.toList = false := c2
            have HT : ¬ ((rngB lo hi false (x1, x2, x3, x4, x5) && (dead || !(x1, x2, x3, x4, x5).2.2.2.2)) = true) := by simp [rngB, c1, c2]
            have HN : Hid (Es (wr.alloc (entO (x1, x2, x3, x4, x5))) (w.heap.size + 1) u8 (inE lo hi false dead (L.take (k + 1)))) := by
              show Es _ _ _ _
              rw [inE_succ lo hi false dead L k hlt, ← HX.out, if_neg HT, List.append_nil]
              exact own_below HO.out (below_alloc_self _ _)
            clear HO HT
            go_wp2_with fail
            go_roundw
            case rel => exact ⟨k + 1, by omega, by go_num, HN, hbe⟩
            case measure => simp [intOf]; omega
          | true =>
            have e3 : Op.bytesLess x1.toList hi.toList = true := c2
            cases dead with
            | true =>
              have HT : ((rngB lo hi false (x1, x2, x3, x4, x5) && (true || !(x1, x2, x3, x4, x5).2.2.2.2)) = true) := by simp [rngB, c1, c2]
              have HO2 := Lib.hid (own_below (own_below HO.out (below_alloc_self wr (entO (x1, x2, x3, x4, x5)))) (below_alloc_self (wr.alloc (entO (x1, x2, x3, x4, x5))) (entO (x1, x2, x3, x4, x5))))
              have hNl := inE_len lo hi false true (L.take k)
              have hNl2 : (L.take k).length ≤ 1000 := by rw [List.length_take]; omega
              clear HO
              go_wp2_with (first
                | (at_builtin; (refine wpList_append_any _ rfl (.tmp 81) (.tmp 83) 32 rfl (w.heap.size + 1) entT i0 _ 5 56 Tryz.underlying32 HI0.out.1 HI0.out.2.1 HI0.out.2.2.1 HI0.out.2.2.2 rfl (by decide) u8 _ _ rfl HO2.out (some ⟨wr.heap.size + 1, 0, none⟩) 1 1 (ecl (x1, x2, x3, x4, x5)) rfl rfl (fun h => nomatch h) (lit2_news wr (x1, x2, x3, x4, x5)) (ecl_one _) ?c3a2 ?c4a2 ?c5a2 ?_))
                | fail)
              case c3a2 => unfold maxLen; omega
              case c4a2 => omega
              case c5a2 => first | omega | (simp ; done) | (simp ; omega)
              intro o2 w6 ho2 hg2 _
              have HN : Hid (Es w6 (w.heap.size + 1) o2 (inE lo hi false true (L.take (k + 1)))) := by
                show Es _ _ _ _
                rw [inE_succ lo hi false true L k hlt, ← HX.out, if_pos HT]
                exact es_snoc ho2 (by first | rfl | (simp ; done) | (simp ; omega))
              have hb5 : Below w1.heap.size w1 ((wr.alloc (entO (x1, x2, x3, x4, x5))).alloc (entO (x1, x2, x3, x4, x5))) := hbe.out.alloc hbe.out.size _
              have hb6 : Below w1.heap.size w1 w6 := hb5.grown hg2 hb5.size (fun y hy => by have := (HO2.out.lt y hy).1; have := HA.out.2.2.2.2; omega)
              have HB6 := Lib.hid hb6
              clear ho2 hg2 hb5 hb6 HT hNl hNl2 HO2
              go_wp2_with fail
              go_roundw
              case rel => exact ⟨k + 1, by omega, by go_num, HN, HB6⟩
              case measure => simp [intOf]; omega
            | false =>
              cases x5 with
              | true =>
                have HT : ¬ ((rngB lo hi false (x1, x2, x3, x4, true) && (false || !(x1, x2, x3, x4, true).2.2.2.2)) = true) := by simp [rngB, c1, c2]
                have HN : Hid (Es (wr.alloc (entO (x1, x2, x3, x4, true))) (w.heap.size + 1) u8 (inE lo hi false false (L.take (k + 1)))) := by
                  show Es _ _ _ _
                  rw [inE_succ lo hi false false L k hlt, ← HX.out, if_neg HT, List.append_nil]
                  exact own_below HO.out (below_alloc_self _ _)
                clear HO HT
                go_wp2_with fail
                go_roundw
                case rel => exact ⟨k + 1, by omega, by go_num, HN, hbe⟩
                case measure => simp [intOf]; omega
              | false =>
                have HT : ((rngB lo hi false (x1, x2, x3, x4, false) && (false || !(x1, x2, x3, x4, false).2.2.2.2)) = true) := by simp [rngB, c1, c2]
                have HO2 := Lib.hid (own_below (own_below HO.out (below_alloc_self wr (entO (x1, x2, x3, x4, false)))) (below_alloc_self (wr.alloc (entO (x1, x2, x3, x4, false))) (entO (x1, x2, x3, x4, false))))
                have hNl := inE_len lo hi false false (L.take k)
                have hNl2 : (L.take k).length ≤ 1000 := by rw [List.length_take]; omega
                clear HO
                go_wp2_with (first
                  | (at_builtin; (refine wpList_append_any _ rfl (.tmp 81) (.tmp 83) 32 rfl (w.heap.size + 1) entT i0 _ 5 56 Tryz.underlying32 HI0.out.1 HI0.out.2.1 HI0.out.2.2.1 HI0.out.2.2.2 rfl (by decide) u8 _ _ rfl HO2.out (some ⟨wr.heap.size + 1, 0, none⟩) 1 1 (ecl (x1, x2, x3, x4, false)) rfl rfl (fun h => nomatch h) (lit2_news wr (x1, x2, x3, x4, false)) (ecl_one _) ?c3b2 ?c4b2 ?c5b2 ?_))
                  | fail)
                case c3b2 => unfold maxLen; omega
                case c4b2 => omega
                case c5b2 => first | omega | (simp ; done) | (simp ; omega)
                intro o2 w6 ho2 hg2 _
                have HN : Hid (Es w6 (w.heap.size + 1) o2 (inE lo hi false false (L.take (k + 1)))) := by
                  show Es _ _ _ _
                  rw [inE_succ lo hi false false L k hlt, ← HX.out, if_pos HT]
                  exact es_snoc ho2 (by first | rfl | (simp ; done) | (simp ; omega))
                have hb5 : Below w1.heap.size w1 ((wr.alloc (entO (x1, x2, x3, x4, false))).alloc (entO (x1, x2, x3, x4, false))) := hbe.out.alloc hbe.out.size _
                have hb6 : Below w1.heap.size w1 w6 := hb5.grown hg2 hb5.size (fun y hy => by have := (HO2.out.lt y hy).1; have := HA.out.2.2.2.2; omega)
                have HB6 := Lib.hid hb6
                clear ho2 hg2 hb5 hb6 HT hNl hNl2 HO2
                go_wp2_with fail
                go_roundw
                case rel => exact ⟨k + 1, by omega, by go_num, HN, HB6⟩
                case measure => simp [intOf]; omega
      · obtain rfl : k = L.length := by omega
        go_wp2_with fail
        go_ret2
        have ho := HO.out
        rw [List.take_length] at ho
        exact ⟨_, rfl, own_mono ho (by omega), HBW.out⟩
end Go.Proofs.YtdflmplmpjghdaaGreatDoor
namespace Go.Proofs.YtdflmplmpjghdaaGreatDoor
open Go.ChangeShapes Go.WideShapes Go.ChangeAt Go.RowKit Go.Deep Go.Shelf
set_option linter.unusedVariables false
set_option linter.unusedSimpArgs false
set_option maxRecDepth 100000

abbrev tallyT : TypeId := 49
theorem sumE_ok (L : List Ent) : T3.ok (sumE L) := tsum_ok _
set_option maxRecDepth 100000 in
set_option maxHeartbeats 8000000 in
theorem folds_any (B : Nat) (v : Value) (L : List Ent) (w : World) (h : Es w B v L) (hl : Lanes w) (hL : L.length ≤ 1000) (hk : ∀ e ∈ L, e.1.size ≤ 16) :
    Calls Tryz.prog 29 #[v] w fun e w' => e = .returned (tv (sumE L).1 (sumE L).2.1 (sumE L).2.2) ∧ Below w.heap.size w w' := by
  obtain ⟨oa, cap, rfl, hA⟩ := es_form h
  obtain ⟨k0, k1, k2⟩ := alloc2 w (.cells #[.int .i64 0, .int .u64 0, .int .u64 0] tallyT (0, 0)) (.cells #[.int .i64 (L.length : Int), .int .u64 0, .int .u64 0] tallyT (0, 0))
  have HA := Lib.hid (And.intro hA (And.intro hl (And.intro k0 (And.intro k1 k2))))
  have HK := Lib.hid hk
  have HS : Hid (sumE L = sumE (L.take L.length)) := by show _ = _; rw [List.take_length]
  have hc := sumE_count L (by omega)
  rw [hc]
  have hlt0 := hl.lt
  clear hA k0 k1 k2 h hk hl hc
  go_enter Tryz.func29, Tryz.ntmps29
  go_wp2_with fail
  generalize (w.alloc (.cells #[.int .i64 0, .int .u64 0, .int .u64 0] tallyT (0, 0))).alloc (.cells #[.int .i64 (L.length : Int), .int .u64 0, .int .u64 0] tallyT (0, 0)) = W1 at *
  obtain ⟨rb, hrb⟩ : ∃ x, x = w.heap.size := ⟨_, rfl⟩
  obtain ⟨tb, htb⟩ : ∃ x, x = w.heap.size + 1 := ⟨_, rfl⟩
  rw [← htb, ← hrb] at HA
  rw [← htb, ← hrb]
  have HE : Hid (w.heap.size = rb ∧ tb = rb + 1 ∧ 0 < rb) := by refine ⟨?_, ?_, ?_⟩ <;> omega
  clear htb hrb hlt0
  go_loopw [4] (fun s wr => ∃ k : Nat, k ≤ L.length ∧ s = .int .i64 (k : Int) ∧ Hid (wr.heap[tb]? = some (.cells #[.int .i64 (L.length : Int), .int .u64 (sumE (L.take k)).2.1, .int .u64 (sumE (L.take k)).2.2] tallyT (0, 0)) ∧ wr.heap[rb]? = some (.cells #[.int .i64 0, .int .u64 0, .int .u64 0] tallyT (0, 0)) ∧ Below rb w wr)) (fun s _ => L.length - (intOf s).toNat)
  case atStart => exact ⟨0, Nat.zero_le _, rfl, HA.out.2.2.2.2, HA.out.2.2.2.1, HA.out.2.2.1⟩
  case round =>
    obtain ⟨k, hk, rfl, HR⟩ := hrel
    by_cases hlt : k < L.length
    · obtain ⟨ga, rfl, ha⟩ := HA.out.1 k hlt
      obtain ⟨⟨x1, x2, x3, x4, x5⟩, hx⟩ : ∃ x, x = L[k] := ⟨_, rfl⟩
      have hks : x1.size ≤ 16 := by have := HK.out L[k] (List.getElem_mem hlt); rw [← hx] at this; exact this
      rw [← hx] at ha
      have hbw : Below w.heap.size w wr := by rw [HE.out.1]; exact HR.out.2.2
      have HQ := Lib.hid (And.intro (ha.below hbw) (HA.out.2.1.below hbw HA.out.2.1.lt))
      have hsn : sumE (L.take (k + 1)) = tadd (sumE (L.take k)) (tallyE x1 x2 x3) := by
        rw [List.take_succ_eq_append_getElem hlt, sumE_snoc, ← hx]
      have HSn := Lib.hid hsn
      clear ha hx hbw hsn
      go_wp2_with fail
      have hSt : Stable (fun w3 : World => (Below wr.heap.size wr w3)) := by repeat (first | exact stable_ext _ | exact stable_blk _ _ | exact stable_true | (refine stable_bel ?_ ; (focus (first | (simp [World.size_setCell] ; done) | (simp [World.setCell] ; done)))) | refine Stable.and ?_ ?_)
      refine wp_region_x [0, 1, 2, 3, 4, 5, 6, 7, 8, 9, 10, 11, 12] [0, 0, 0, 0, 1, 0, 0, 0, 0, 1, 1, 2, 3] (fun w3 => (Below wr.heap.size wr w3)) (by kernel_rfl) (by kernel_rfl) ?_ ?_
      · (first | trivial | (repeat (first | (with_reducible assumption) | (with_reducible exact Below.refl _ _) | (with_reducible refine heap_drew ?_) | (focus ((with_reducible refine heap_new ?_) ; simp ; done)) | (with_reducible apply heap_set_to) | (focus ((with_reducible refine heap_set_ne ?_ ?_ _) ; rotate_left ; (focus (first | omega | (simp ; done) | (simp ; omega))))) | (with_reducible refine heap_old ?_) | (with_reducible refine Below.drew ?_) | (with_reducible refine below_set ?_ _ _) | (focus ((with_reducible refine Below.setCell ?_ ?_ _) ; rotate_left ; (focus (first | omega | (simp ; done) | (simp ; omega))))) | (focus ((with_reducible refine Below.alloc ?_ ?_ _) ; rotate_left ; (focus (first | omega | (simp ; done) | (simp ; omega))))) | (with_reducible rfl) | (focus (simp ; done)))))
      simp only [List.map_cons, List.map_nil, List.getD_cons_zero, List.getD_cons_succ]
      (refine x_pure rfl _ ?_ rfl (by simp) ?_ ?_ ; rotate_left ; · (intro w3 K hK ; go_wp2_with fail ; exact rfl))
      simp only [Act.put, List.setIfInBounds_toArray, List.set_cons_succ, List.set_cons_zero]
      (refine x_pure rfl _ ?_ rfl (by simp) ?_ ?_ ; rotate_left ; · (intro w3 K hK ; go_wp2_with fail ; exact rfl))
      simp only [Act.put, List.setIfInBounds_toArray, List.set_cons_succ, List.set_cons_zero]
      (refine x_pure rfl _ ?_ rfl (by simp) ?_ ?_ ; rotate_left ; · (intro w3 K hK ; go_wp2_with fail ; exact rfl))
      simp only [Act.put, List.setIfInBounds_toArray, List.set_cons_succ, List.set_cons_zero]
      (refine x_pure rfl _ ?_ rfl (by simp) ?_ ?_ ; rotate_left ; · (intro w3 K hK ; go_wp2_with fail ; exact rfl))
      simp only [Act.put, List.setIfInBounds_toArray, List.set_cons_succ, List.set_cons_zero]
      (refine x_quiet rfl hSt (fun _ h => h) _ ?_ rfl (by simp) ?_ ?_ ; rotate_left ; · (intro w3 hC K hK ; have hb := hC ; have qa := HQ.out.1.below hb ; unfold EAt at qa ; simp only at qa ; go_wp2_with fail ; refine ⟨?_, Below.refl _ _⟩ ; exact rfl))
      simp only [Act.put, List.setIfInBounds_toArray, List.set_cons_succ, List.set_cons_zero]
      (refine x_pure rfl _ ?_ rfl (by simp) ?_ ?_ ; rotate_left ; · (intro w3 K hK ; go_wp2_with fail ; exact rfl))
      simp only [Act.put, List.setIfInBounds_toArray, List.set_cons_succ, List.set_cons_zero]
      (refine x_pure rfl _ ?_ rfl (by simp) ?_ ?_ ; rotate_left ; · (intro w3 K hK ; go_wp2_with fail ; exact rfl))
      simp only [Act.put, List.setIfInBounds_toArray, List.set_cons_succ, List.set_cons_zero]
      (refine x_pure rfl _ ?_ rfl (by simp) ?_ ?_ ; rotate_left ; · (intro w3 K hK ; go_wp2_with fail ; exact rfl))
      simp only [Act.put, List.setIfInBounds_toArray, List.set_cons_succ, List.set_cons_zero]
      (refine x_pure rfl _ ?_ rfl (by simp) ?_ ?_ ; rotate_left ; · (intro w3 K hK ; go_wp2_with fail ; exact rfl))
      simp only [Act.put, List.setIfInBounds_toArray, List.set_cons_succ, List.set_cons_zero]
      (refine x_quiet rfl hSt (fun _ h => h) _ ?_ rfl (by simp) ?_ ?_ ; rotate_left ; · (intro w3 hC K hK ; have hb := hC ; have qa := HQ.out.1.below hb ; unfold EAt at qa ; simp only at qa ; go_wp2_with fail ; refine ⟨?_, Below.refl _ _⟩ ; exact rfl))
      simp only [Act.put, List.setIfInBounds_toArray, List.set_cons_succ, List.set_cons_zero]
      (refine x_quiet rfl hSt (fun _ h => h) _ ?_ rfl (by simp) ?_ ?_ ; rotate_left ; · (intro w3 hC K hK ; have hb := hC ; have qa := HQ.out.1.below hb ; unfold EAt at qa ; simp only at qa ; go_wp2_with fail ; refine (of_any x1 x2 x3 w3 (HQ.out.2.below hb HQ.out.2.lt) (by omega)).mono ?_ ; rintro e w2 ⟨rfl, hb2⟩ ; refine hK _ _ ⟨?_, rfl, hb2⟩ ; (try simp only [List.getElem?_toArray, List.getElem?_cons_succ, List.getElem?_cons_zero]) ; exact rfl))
      simp only [Act.put, List.setIfInBounds_toArray, List.set_cons_succ, List.set_cons_zero]
      (refine x_new rfl hSt ?_ ?_ ?_ ; rotate_left ; (focus (intro w9 ; go_simp ; try exact rfl)) ; rintro gn0 ⟨w3n, hgn0, hgs0⟩)
      simp only [Act.put, List.setIfInBounds_toArray, List.set_cons_succ, List.set_cons_zero]
      refine x_write rfl ?_
      intro w3 hD K hK ; obtain ⟨hb, hn0⟩ := hD ; have qa := HQ.out.1.below hb ; unfold EAt at qa ; simp only at qa
      have q5 := blk2 hn0
      have HZ := Lib.hid (And.intro hn0 hb)
      have hne1 : gn0 ≠ tb := fun e => by have h5 := blk_below HR.out.1 hb; rw [e, h5] at hn0; simp at hn0
      have hge : wr.heap.size ≤ gn0 := by have := hgn0.size; omega
      clear qa hn0 hb
      go_wp2_with fail
      try simp only [Act.put, List.setIfInBounds_toArray, List.set_cons_succ, List.set_cons_zero]
      first | refine x_nil ?_ | refine x_end ?_
      rintro _ rfl
      have k5 : Keep (fun g => g = gn0) w3 ((w3.setCell ⟨gn0, 0, none⟩ (.int .u64 (mix0 x1 x2 x3))).setCell ⟨gn0, 1, none⟩ (.int .u64 (mix1 x1 x2 x3))) := (Keep.set w3 ⟨gn0, 0, none⟩ _).trans (Keep.set _ ⟨gn0, 1, none⟩ _)
      have g5 : ((w3.setCell ⟨gn0, 0, none⟩ (.int .u64 (mix0 x1 x2 x3))).setCell ⟨gn0, 1, none⟩ (.int .u64 (mix1 x1 x2 x3))).heap[gn0]? = some (.cells #[.int .u64 (mix0 x1 x2 x3), .int .u64 (mix1 x1 x2 x3)] 47 (0, 0)) := heap_set_to (heap_set_to HZ.out.1 rfl) (by simp)
      have gt := k5.blk (blk_below HR.out.1 HZ.out.2) (fun e => hne1 e.symm)
      have hne2 : rb ≠ gn0 := by have := blk_lt HR.out.2.1; omega
      have gr := k5.blk (blk_below HR.out.2.1 HZ.out.2) hne2
      have hrw : rb ≤ wr.heap.size := by rw [← HE.out.1]; exact HR.out.2.2.size
      have hb5 : Below rb w ((w3.setCell ⟨gn0, 0, none⟩ (.int .u64 (mix0 x1 x2 x3))).setCell ⟨gn0, 1, none⟩ (.int .u64 (mix1 x1 x2 x3))) := (HR.out.2.2.trans (HZ.out.2.mono hrw)).trans (k5.below (Nat.le_trans hrw HZ.out.2.size) (fun g e => by rw [e]; omega))
      have q5 := blk2 g5
      have qt := blk3 gt
      have HT := Lib.hid (And.intro gt (And.intro gr hb5))
      clear k5 g5 gt gr hb5 hSt hgs0 hgn0 hge
      have hne3 : ¬ tb = gn0 := fun e => hne1 e.symm
      generalize (w3.setCell ⟨gn0, 0, none⟩ (.int .u64 (mix0 x1 x2 x3))).setCell ⟨gn0, 1, none⟩ (.int .u64 (mix1 x1 x2 x3)) = w4 at *
      generalize hSk : sumE (L.take k) = Sk at *
      obtain ⟨s1, s2, s3⟩ := Sk
      have HSk := Lib.hid hSk
      clear hSk
      go_wp2_with fail
      go_roundw
      case rel =>
        refine ⟨k + 1, by omega, by go_num, ?_, ?_, ?_⟩
        · rw [HSn.out]
          exact heap_set_to (heap_set_to HT.out.1 rfl) (by simp [tadd])
        · exact heap_set_ne (heap_set_ne HT.out.2.1 (by show rb ≠ tb; have := HE.out; omega) _) (by show rb ≠ tb; have := HE.out; omega) _
        · exact (HT.out.2.2.setCell (p := ⟨tb, 1, none⟩) (by show rb ≤ tb; have := HE.out; omega) _).setCell (p := ⟨tb, 2, none⟩) (by show rb ≤ tb; have := HE.out; omega) _
      case measure => simp [intOf]; omega
    · obtain rfl : k = L.length := by omega
      have qt := blk3 HR.out.1
      have qr := blk3 HR.out.2.1
      generalize hSk : sumE (L.take L.length) = Sk at *
      obtain ⟨s1, s2, s3⟩ := Sk
      have HSk := Lib.hid hSk
      clear hSk
      have g1 : (((wr.setCell ⟨rb, 0, none⟩ (.int .i64 (L.length : Int))).setCell ⟨rb, 1, none⟩ (.int .u64 s2)).setCell ⟨rb, 2, none⟩ (.int .u64 s3)).heap[rb]? = some (.cells #[.int .i64 (L.length : Int), .int .u64 s2, .int .u64 s3] tallyT (0, 0)) := heap_set_to (heap_set_to (heap_set_to HR.out.2.1 rfl) rfl) (by simp)
      have hb1 : Below rb w (((wr.setCell ⟨rb, 0, none⟩ (.int .i64 (L.length : Int))).setCell ⟨rb, 1, none⟩ (.int .u64 s2)).setCell ⟨rb, 2, none⟩ (.int .u64 s3)) := ((HR.out.2.2.setCell (p := ⟨rb, 0, none⟩) (Nat.le_refl _) _).setCell (p := ⟨rb, 1, none⟩) (Nat.le_refl _) _).setCell (p := ⟨rb, 2, none⟩) (Nat.le_refl _) _
      have HF := Lib.hid hb1
      have qf := blk3 g1
      clear g1 hb1
      go_wp2_with fail
      refine bodyPost_ret (v := tv (L.length : Int) s2 s3) (by simp [results, Tryz.results29, go_sem, qf]) rfl ⟨by rw [HS.out], by rw [HE.out.1]; exact HF.out⟩
end Go.Proofs.YtdflmplmpjghdaaGreatDoor
