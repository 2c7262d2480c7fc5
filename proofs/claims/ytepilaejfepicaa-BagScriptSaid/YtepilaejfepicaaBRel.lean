/-
  What the script keeps: the two bags, the iterators that were handed out, and what a step of either bag leaves of them.
-/
import Derived.Test.YtepilaejfepicaaBUni
namespace Go.Proofs.Ytepilaejfepicaa
open Go.ChangeShapes Go.WideShapes Go.ChangeAt Go.RowKit Go.Deep
set_option linter.unusedVariables false
set_option linter.unusedSimpArgs false

/-- The row of packets L begins in block g. -/
def rb (oa : Option Addr) (L : List Pk) (g : Nat) : Prop := L ≠ [] ∧ oa = some ⟨g, 0, none⟩
/-- The rows of an iterator are rows of packets. -/
def WkT (w : World) (e : Wk) : Prop := (∀ g, rb e.oa e.La g → ∃ cs fr, w.heap[g]? = some (.cells cs 39 fr)) ∧ ∀ g, rb e.ol e.Lb g → ∃ cs fr, w.heap[g]? = some (.cells cs 39 fr)
theorem WkT.below {w w' : World} {e : Wk} (h : WkT w e) (hb : Below w.heap.size w w') : WkT w' e :=
  ⟨fun g hg => by obtain ⟨cs, fr, h1⟩ := h.1 g hg; exact ⟨cs, fr, blk_below h1 hb⟩, fun g hg => by obtain ⟨cs, fr, h1⟩ := h.2 g hg; exact ⟨cs, fr, blk_below h1 hb⟩⟩

/-- A block of another kind is not a bag's to turn. -/
theorem Stp.not {w w' : World} {b n n' : Nat} {vs vs' : Value} (h : Stp w w' b vs vs' n n') {cb : Array Value} {tb : TypeId} {fb : Nat × Nat} (hb : w.heap[b]? = some (.cells cb tb fb)) {g : Nat} {cs : Array Value} {t : TypeId} {fr : Nat × Nat} (hg : w.heap[g]? = some (.cells cs t fr)) (h1 : tb ≠ t) (h2 : t ≠ 39) : ¬ mine b vs g := fun hm => by
  rcases hm with rfl | hm
  · rw [hb] at hg
    simp only [Option.some.injEq, Obj.cells.injEq] at hg
    exact h1 hg.2.1
  · obtain ⟨c1, _, h3, _⟩ := h.same g hm
    rw [h3] at hg
    simp only [Option.some.injEq, Obj.cells.injEq] at hg
    exact h2 hg.2.1.symm
theorem RowAt.step {w w' : World} {b n n' : Nat} {vs vs' : Value} (h : Stp w w' b vs vs' n n') {cb : Array Value} {tb : TypeId} {fb : Nat × Nat} (hb : w.heap[b]? = some (.cells cb tb fb)) (htb : tb ≠ 39) {oa : Option Addr} {L : List Pk} (hr : RowAt w (fun _ => False) oa L)
    (ht : ∀ g, rb oa L g → ∃ cs fr, w.heap[g]? = some (.cells cs 39 fr)) (hn : ∀ g, vs.ownBlock = some g → rb oa L g → L.length ≤ n) : RowAt w' (fun _ => False) oa L ∧ ∀ g, rb oa L g → ∃ cs fr, w'.heap[g]? = some (.cells cs 39 fr) := by
  have key : ∀ g, rb oa L g → (∀ j, j < L.length * 4 → w'.cell? ⟨g, j, none⟩ = w.cell? ⟨g, j, none⟩) ∧ ∃ cs fr, w'.heap[g]? = some (.cells cs 39 fr) := fun g hg => by
    obtain ⟨cs, fr, h1⟩ := ht g hg
    by_cases hv : vs.ownBlock = some g
    · obtain ⟨c1, c2, h2, h3, h4⟩ := h.same g hv
      have := hn g hv hg
      exact ⟨fun j hj => by rw [blk_cell h2, blk_cell h3, h4 j (by omega)], c2, (0, 0), h3⟩
    · have hnm : ¬ mine b vs g := fun hm => by
        rcases hm with rfl | hm
        · rw [hb] at h1
          simp only [Option.some.injEq, Obj.cells.injEq] at h1
          exact htb h1.2.1
        · exact hv hm
      exact ⟨fun j hj => h.keep.cell (a := ⟨g, j, none⟩) (blk_lt h1) hnm, cs, fr, h.keep.blk h1 hnm⟩
  refine ⟨?_, fun g hg => (key g hg).2⟩
  rcases hr with hr | ⟨g, h1, h2, _, h4⟩
  · exact Or.inl hr
  · by_cases h0 : L = []
    · exact Or.inl h0
    · refine Or.inr ⟨g, h1, Nat.lt_of_lt_of_le h2 h.keep.size, fun h => h, fun j hj => ((key g ⟨h0, h1⟩).1 j hj).trans (h4 j hj)⟩
theorem Wk.step {w w' : World} {b n n' : Nat} {vs vs' : Value} (h : Stp w w' b vs vs' n n') {cb : Array Value} {tb : TypeId} {fb : Nat × Nat} (hb : w.heap[b]? = some (.cells cb tb fb)) (h1 : tb ≠ 39) (h2 : tb ≠ 54) (h3 : tb ≠ 5)
    {e : Wk} (he : e.Ok w) (ht : WkT w e) (hn : ∀ g, vs.ownBlock = some g → (rb e.oa e.La g → e.La.length ≤ n) ∧ (rb e.ol e.Lb g → e.Lb.length ≤ n)) : e.Ok w' ∧ WkT w' e := by
  have ra := RowAt.step h hb h1 he.rowa ht.1 (fun g hg hr => (hn g hg).1 hr)
  have rb' := RowAt.step h hb h1 he.rowb ht.2 (fun g hg hr => (hn g hg).2 hr)
  exact ⟨⟨h.keep.blk he.box (h.not hb he.box h2 (by decide)), he.few, he.key, ra.1, rb'.1,
    fun q hq => ⟨(he.data q hq).1, by obtain ⟨B, hd⟩ := (he.data q hq).2; exact ⟨B, hd.keep h.keep (fun g cs hg => h.not hb hg h3 (by decide))⟩⟩,
    fun q hq => by obtain ⟨B, hd⟩ := he.datb q hq; exact ⟨B, hd.keep h.keep (fun g cs fr hg => h.not hb hg h3 (by decide))⟩⟩, ra.2, rb'.2⟩

theorem info_wk : (Try.prog.info? 57).map (fun i => (i.zero, i.size, i.bytes)) = some (some (.agg #[.nilFunc, .slice none 0 0]), 2, 32) := by kernel_rfl
def Wk.cells (e : Wk) : List Value := [.func (.func 32) #[] #[.pointer (some ⟨e.bl, 0, none⟩)], .slice e.ol e.Lb.length e.cl]
def wkflat : List Wk → List Value
  | [] => []
  | e :: r => e.cells ++ wkflat r
theorem wkflat_length : ∀ l : List Wk, (wkflat l).length = l.length * 2
  | [] => rfl
  | e :: r => by rw [wkflat, List.length_append, wkflat_length r, List.length_cons]; simp [Wk.cells]; omega
theorem wkflat_append : ∀ l m : List Wk, wkflat (l ++ m) = wkflat l ++ wkflat m
  | [], m => rfl
  | e :: r, m => by rw [List.cons_append, wkflat, wkflat, wkflat_append r m, List.append_assoc]
theorem wkflat_get : ∀ (l : List Wk) (k : Nat) (h : k < l.length) (r : Nat), r < 2 → (wkflat l)[k * 2 + r]? = (l[k].cells)[r]?
  | e :: l, 0, _, r, hr => by
    rw [wkflat, List.getElem?_append_left (by simp [Wk.cells]; omega)]
    simp
  | e :: l, k + 1, h, r, hr => by
    have hl : e.cells.length = 2 := rfl
    rw [wkflat, List.getElem?_append_right (by omega), hl, show (k + 1) * 2 + r - 2 = k * 2 + r by omega, wkflat_get l k (by simpa using h) r hr]
    rfl
theorem wkflat_one (l : List Wk) : ∀ u ∈ wkflat l, u.oneCell' = true := by
  induction l with
  | nil => intro u h; cases h
  | cons e r ih =>
    intro u h
    rw [wkflat] at h
    rcases List.mem_append.1 h with h | h
    · simp only [Wk.cells, List.mem_cons, List.not_mem_nil, or_false] at h
      rcases h with rfl | rfl <;> rfl
    · exact ih u h

structure Rel (w : World) (B ba bb : Nat) (va vb vw : Value) (Sa Sb : St) (E : List Wk) (D : Nat → Prop) : Prop where
  a : BagI w B ba va Sa D
  b : RBagI w B bb vb Sb D
  ow : w.ownsRow B 57 2 vw E.length (wkflat E)
  ok : ∀ e ∈ E, e.Ok w ∧ WkT w e
  ab : ∀ g, va.ownBlock = some g → vb.ownBlock ≠ some g
  wa : ∀ e ∈ E, ∀ g, va.ownBlock = some g → (rb e.oa e.La g → e.La.length ≤ Sa.K.length) ∧ ¬ rb e.ol e.Lb g
  wb : ∀ e ∈ E, ∀ g, vb.ownBlock = some g → ¬ rb e.oa e.La g ∧ ¬ rb e.ol e.Lb g
  we : ∀ e ∈ E, InD D e.La ∧ InD D e.Lb
theorem Rel.below {w w' : World} {B ba bb : Nat} {va vb vw : Value} {Sa Sb : St} {E : List Wk} {D : Nat → Prop} (h : Rel w B ba bb va vb vw Sa Sb E D) (hb : Below w.heap.size w w') : Rel w' B ba bb va vb vw Sa Sb E D :=
  ⟨h.a.below hb, h.b.below hb, own_below h.ow hb, fun e he => ⟨(h.ok e he).1.below hb, (h.ok e he).2.below hb⟩, h.ab, h.wa, h.wb, h.we⟩
theorem Rel.row_a {w : World} {B ba bb : Nat} {va vb vw : Value} {Sa Sb : St} {E : List Wk} {D : Nat → Prop} (h : Rel w B ba bb va vb vw Sa Sb E D) : ∀ g, va.ownBlock = some g → g < w.heap.size ∧ ∃ cs, w.heap[g]? = some (.cells cs 39 (0, 0)) := fun g hg => by
  obtain ⟨L, h1, _⟩ := h.a
  obtain ⟨cs, h2, _⟩ := own_blk h1.2.2.1 hg
  exact ⟨blk_lt h2, cs, h2⟩
theorem Rel.row_b {w : World} {B ba bb : Nat} {va vb vw : Value} {Sa Sb : St} {E : List Wk} {D : Nat → Prop} (h : Rel w B ba bb va vb vw Sa Sb E D) : ∀ g, vb.ownBlock = some g → g < w.heap.size ∧ ∃ cs, w.heap[g]? = some (.cells cs 39 (0, 0)) := fun g hg => by
  obtain ⟨L, h1, _⟩ := h.b
  obtain ⟨cs, h2, _⟩ := own_blk h1.2.2.1 hg
  exact ⟨blk_lt h2, cs, h2⟩
theorem WkT.lt {w : World} {e : Wk} (h : WkT w e) : (∀ g, rb e.oa e.La g → g < w.heap.size) ∧ ∀ g, rb e.ol e.Lb g → g < w.heap.size :=
  ⟨fun g hg => by obtain ⟨_, _, h1⟩ := h.1 g hg; exact blk_lt h1, fun g hg => by obtain ⟨_, _, h1⟩ := h.2 g hg; exact blk_lt h1⟩

/-- A step of the bag. -/
theorem Rel.stepA {w w' : World} {B ba bb : Nat} {va va' vb vw : Value} {Sa Sa' Sb : St} {E : List Wk} {D D' : Nat → Prop} (h : Rel w B ba bb va vb vw Sa Sb E D) (hB : BagI w' B ba va' Sa' D') (hDD : ∀ g, D g → D' g) (hs : Stp w w' ba va va' Sa.K.length Sa'.K.length) : Rel w' B ba bb va' vb vw Sa' Sb E D' := by
  obtain ⟨L, hA, hK, hok, _⟩ := h.a
  have hba := hA.2.1
  refine ⟨hB, ?_, ?_, ?_, ?_, ?_, h.wb, fun e he => ⟨(h.we e he).1.mono hDD, (h.we e he).2.mono hDD⟩⟩
  · obtain ⟨L2, hR, hK2, hD2⟩ := h.b
    refine ⟨L2, ⟨hR.1, hs.keep.blk hR.2.1 (hs.not hba hR.2.1 (by decide) (by decide)), own_keep hR.2.2.1 hs.keep (fun g hg hm => ?_), fun p hp => (hR.2.2.2 p hp).keep hs.keep (fun g cs fr hg => hs.not hba hg (by decide) (by decide))⟩, hK2, hD2.mono hDD⟩
    rcases hm with e | hm
    · obtain ⟨_, cs, h1⟩ := h.row_b g hg
      rw [e, hba] at h1
      simp at h1
    · exact h.ab g hm hg
  · exact own_keep h.ow hs.keep (fun g hg hm => by
      rcases hm with e | hm
      · subst e
        exact own_ne h.ow hba (by decide) hg
      · obtain ⟨cs, _, h1, _⟩ := hs.same g hm
        exact own_ne h.ow h1 (by decide) hg)
  · exact fun e he => Wk.step hs hba (by decide) (by decide) (by decide) (h.ok e he).1 (h.ok e he).2 (fun g hg => ⟨((h.wa e he) g hg).1, fun hr => absurd hr ((h.wa e he) g hg).2⟩)
  · intro g hg
    rcases hs.row g hg with ⟨e, _⟩ | e
    · exact h.ab g e
    · exact fun hv => by have := (h.row_b g hv).1; omega
  · intro e he g hg
    rcases hs.row g hg with ⟨e1, e2⟩ | e1
    · exact ⟨fun hr => Nat.le_trans ((h.wa e he g e1).1 hr) e2, (h.wa e he g e1).2⟩
    · exact ⟨fun hr => by have := (h.ok e he).2.lt.1 g hr; omega, fun hr => by have := (h.ok e he).2.lt.2 g hr; omega⟩
/-- A step of the reference's. -/
theorem Rel.stepB {w w' : World} {B ba bb : Nat} {va vb vb' vw : Value} {Sa Sb Sb' : St} {E : List Wk} {D D' : Nat → Prop} (h : Rel w B ba bb va vb vw Sa Sb E D) (hB : RBagI w' B bb vb' Sb' D') (hDD : ∀ g, D g → D' g) (hs : Stp w w' bb vb vb' Sb.K.length Sb'.K.length) : Rel w' B ba bb va vb' vw Sa Sb' E D' := by
  obtain ⟨L, hA, hK, _⟩ := h.b
  have hba := hA.2.1
  refine ⟨?_, hB, ?_, ?_, ?_, h.wa, ?_, fun e he => ⟨(h.we e he).1.mono hDD, (h.we e he).2.mono hDD⟩⟩
  · obtain ⟨L2, hR, hK2, hok, hD2⟩ := h.a
    refine ⟨L2, ⟨hR.1, hs.keep.blk hR.2.1 (hs.not hba hR.2.1 (by decide) (by decide)), own_keep hR.2.2.1 hs.keep (fun g hg hm => ?_), fun p hp => (hR.2.2.2 p hp).keep hs.keep (fun g cs hg => hs.not hba hg (by decide) (by decide))⟩, hK2, hok, hD2.mono hDD⟩
    rcases hm with e | hm
    · obtain ⟨_, cs, h1⟩ := h.row_a g hg
      rw [e, hba] at h1
      simp at h1
    · exact h.ab g hg hm
  · exact own_keep h.ow hs.keep (fun g hg hm => by
      rcases hm with e | hm
      · subst e
        exact own_ne h.ow hba (by decide) hg
      · obtain ⟨cs, _, h1, _⟩ := hs.same g hm
        exact own_ne h.ow h1 (by decide) hg)
  · exact fun e he => Wk.step hs hba (by decide) (by decide) (by decide) (h.ok e he).1 (h.ok e he).2 (fun g hg => ⟨fun hr => absurd hr ((h.wb e he) g hg).1, fun hr => absurd hr ((h.wb e he) g hg).2⟩)
  · intro g hg hg'
    rcases hs.row g hg' with ⟨e, _⟩ | e
    · exact h.ab g hg e
    · have := (h.row_a g hg).1; omega
  · intro e he g hg
    rcases hs.row g hg with ⟨e1, _⟩ | e1
    · exact h.wb e he g e1
    · exact ⟨fun hr => by have := (h.ok e he).2.lt.1 g hr; omega, fun hr => by have := (h.ok e he).2.lt.2 g hr; omega⟩
/-- An iterator more. -/
theorem Rel.stepW {w w' : World} {B ba bb : Nat} {va vb vw vw' : Value} {Sa Sb : St} {E : List Wk} {D : Nat → Prop} {e : Wk} (h : Rel w B ba bb va vb vw Sa Sb E D) (hg : w.grownBy w' vw.ownBlock) (ho : w'.ownsRow B 57 2 vw' (E ++ [e]).length (wkflat (E ++ [e])))
    (he : e.Ok w) (ht : WkT w e) (hea : ∀ g, va.ownBlock = some g → (rb e.oa e.La g → e.La.length ≤ Sa.K.length) ∧ ¬ rb e.ol e.Lb g) (heb : ∀ g, vb.ownBlock = some g → ¬ rb e.oa e.La g ∧ ¬ rb e.ol e.Lb g) (hew : InD D e.La ∧ InD D e.Lb) : Rel w' B ba bb va vb vw' Sa Sb (E ++ [e]) D := by
  have K := Keep.grown hg
  have ne : ∀ g cs t fr, w.heap[g]? = some (.cells cs t fr) → 57 ≠ t → ¬ vw.ownBlock = some g := fun g cs t fr hh ht => own_ne h.ow hh ht
  have rowk : ∀ oa L, RowAt w (fun _ => False) oa L → (∀ g, rb oa L g → ∃ cs fr, w.heap[g]? = some (.cells cs 39 fr)) → RowAt w' (fun _ => False) oa L ∧ ∀ g, rb oa L g → ∃ cs fr, w'.heap[g]? = some (.cells cs 39 fr) := fun oa L hr ht => by
    refine ⟨?_, fun g hg => by obtain ⟨cs, fr, h1⟩ := ht g hg; exact ⟨cs, fr, K.blk h1 (ne _ _ _ _ h1 (by decide))⟩⟩
    rcases hr with hr | ⟨g, h1, h2, _, h4⟩
    · exact Or.inl hr
    · by_cases h0 : L = []
      · exact Or.inl h0
      · obtain ⟨cs, fr, h5⟩ := ht g ⟨h0, h1⟩
        exact Or.inr ⟨g, h1, Nat.lt_of_lt_of_le h2 K.size, fun h => h, fun j hj => (K.cell (a := ⟨g, j, none⟩) h2 (ne _ _ _ _ h5 (by decide))).trans (h4 j hj)⟩
  have wk : ∀ x : Wk, x.Ok w → WkT w x → x.Ok w' ∧ WkT w' x := fun x hx hxt => by
    have r1 := rowk _ _ hx.rowa hxt.1
    have r2 := rowk _ _ hx.rowb hxt.2
    exact ⟨⟨K.blk hx.box (ne _ _ _ _ hx.box (by decide)), hx.few, hx.key, r1.1, r2.1,
      fun q hq => ⟨(hx.data q hq).1, by obtain ⟨B, hd⟩ := (hx.data q hq).2; exact ⟨B, hd.keep K (fun g cs hh => ne _ _ _ _ hh (by decide))⟩⟩,
      fun q hq => by obtain ⟨B, hd⟩ := hx.datb q hq; exact ⟨B, hd.keep K (fun g cs fr hh => ne _ _ _ _ hh (by decide))⟩⟩, r1.2, r2.2⟩
  refine ⟨?_, ?_, ho, fun x hx => ?_, h.ab, fun x hx => ?_, fun x hx => ?_, fun x hx => ?_⟩
  · obtain ⟨L, hA, h2, h2d⟩ := h.a
    exact ⟨L, hA.keep K (ne _ _ _ _ hA.2.1 (by decide)) (fun g hg => by obtain ⟨_, cs, h1⟩ := h.row_a g hg; exact ne _ _ _ _ h1 (by decide)) (fun g cs hh => ne _ _ _ _ hh (by decide)), h2, h2d⟩
  · obtain ⟨L, hA, h2⟩ := h.b
    exact ⟨L, ⟨hA.1, K.blk hA.2.1 (ne _ _ _ _ hA.2.1 (by decide)), own_keep hA.2.2.1 K (fun g hg => by obtain ⟨_, cs, h1⟩ := h.row_b g hg; exact ne _ _ _ _ h1 (by decide)), fun p hp => (hA.2.2.2 p hp).keep K (fun g cs fr hh => ne _ _ _ _ hh (by decide))⟩, h2⟩
  · rcases List.mem_append.1 hx with hx | hx
    · exact wk x (h.ok x hx).1 (h.ok x hx).2
    · obtain rfl : x = e := by simpa using hx
      exact wk x he ht
  · rcases List.mem_append.1 hx with hx | hx
    · exact h.wa x hx
    · obtain rfl : x = e := by simpa using hx
      exact hea
  · rcases List.mem_append.1 hx with hx | hx
    · exact h.wb x hx
    · obtain rfl : x = e := by simpa using hx
      exact heb
  · rcases List.mem_append.1 hx with hx | hx
    · exact h.we x hx
    · obtain rfl : x = e := by simpa using hx
      exact hew
/-- D may be widened; at any time it may be 'what is there'. -/
theorem Rel.any {w : World} {B ba bb : Nat} {va vb vw : Value} {Sa Sb : St} {E : List Wk} {D : Nat → Prop} (h : Rel w B ba bb va vb vw Sa Sb E D) : Rel w B ba bb va vb vw Sa Sb E (fun g => g < w.heap.size) :=
  ⟨h.a.any, h.b.any, h.ow, h.ok, h.ab, h.wa, h.wb, fun e he => ⟨fun q hq => by
    obtain ⟨_, B, hd⟩ := (h.ok e he).1.data q hq
    exact hd.imp id fun ⟨g, cs, _, e, hg, _⟩ => ⟨g, e, blk_lt hg⟩, fun q hq => by
    obtain ⟨B, hd⟩ := (h.ok e he).1.datb q hq
    exact hd.imp id fun ⟨g, cs, fr, _, e, hg, _⟩ => ⟨g, e, blk_lt hg⟩⟩⟩
theorem Dat.out {w : World} {B : Nat} {ad : Option Addr} {s : ByteArray} {D : Nat → Prop} (h : Dat w B ad s) (hd : s.size = 0 ∨ ∃ g, ad = some ⟨g, 0, none⟩ ∧ D g) {g0 : Nat} (hg : ¬ D g0) (o : Nat) (v : Value) : Dat (w.setCell ⟨g0, o, none⟩ v) B ad s := by
  rcases h with h | ⟨g, cs, h1, h2, h3, h4⟩
  · exact Or.inl h
  · rcases hd with h0 | ⟨g', e, hD⟩
    · exact Or.inl h0
    · rw [h2] at e
      cases e
      have hne : g ≠ g0 := fun e => hg (by rw [← e]; exact hD)
      exact Or.inr ⟨g, cs, h1, h2, heap_set_ne h3 hne v, fun i hi => by rw [← h4 i hi]; exact World.cell?_of_block (a := ⟨g, 0 + i, none⟩) (Below.heap_setCell w ⟨g0, o, none⟩ v g hne)⟩
theorem RDat.out {w : World} {B : Nat} {ad : Option Addr} {s : ByteArray} {D : Nat → Prop} (h : RDat w B ad s) (hd : s.size = 0 ∨ ∃ g, ad = some ⟨g, 0, none⟩ ∧ D g) {g0 : Nat} (hg : ¬ D g0) (o : Nat) (v : Value) : RDat (w.setCell ⟨g0, o, none⟩ v) B ad s := by
  rcases h with h | ⟨g, cs, fr, h1, h2, h3, h4⟩
  · exact Or.inl h
  · rcases hd with h0 | ⟨g', e, hD⟩
    · exact Or.inl h0
    · rw [h2] at e
      cases e
      have hne : g ≠ g0 := fun e => hg (by rw [← e]; exact hD)
      exact Or.inr ⟨g, cs, fr, h1, h2, heap_set_ne h3 hne v, fun i hi => by rw [← h4 i hi]; exact World.cell?_of_block (a := ⟨g, 0 + i, none⟩) (Below.heap_setCell w ⟨g0, o, none⟩ v g hne)⟩
/-- A byte of the law's own is written: nobody else's. -/
theorem Rel.setByte {w : World} {B ba bb : Nat} {va vb vw : Value} {Sa Sb : St} {E : List Wk} {D : Nat → Prop} (h : Rel w B ba bb va vb vw Sa Sb E D) {g : Nat} {cs : Array Value} (hg : w.heap[g]? = some (.cells cs 5 (0, 0))) (hD : ¬ D g) (o : Nat) (v : Value) : Rel (w.setCell ⟨g, o, none⟩ v) B ba bb va vb vw Sa Sb E D := by
  have K := Keep.set w ⟨g, o, none⟩ v
  have ne : ∀ k ck t fr, w.heap[k]? = some (.cells ck t fr) → 5 ≠ t → ¬ k = g := fun k ck t fr hk ht e => by
    subst e
    rw [hg] at hk
    simp only [Option.some.injEq, Obj.cells.injEq] at hk
    exact ht hk.2.1
  have rowk : ∀ oa L, RowAt w (fun _ => False) oa L → (∀ k, rb oa L k → ∃ ck fr, w.heap[k]? = some (.cells ck 39 fr)) → RowAt (w.setCell ⟨g, o, none⟩ v) (fun _ => False) oa L ∧ ∀ k, rb oa L k → ∃ ck fr, (w.setCell ⟨g, o, none⟩ v).heap[k]? = some (.cells ck 39 fr) := fun oa L hr ht => by
    refine ⟨?_, fun k hk => by obtain ⟨ck, fr, h1⟩ := ht k hk; exact ⟨ck, fr, K.blk h1 (ne _ _ _ _ h1 (by decide))⟩⟩
    rcases hr with hr | ⟨k, h1, h2, _, h4⟩
    · exact Or.inl hr
    · by_cases h0 : L = []
      · exact Or.inl h0
      · obtain ⟨ck, fr, h5⟩ := ht k ⟨h0, h1⟩
        exact Or.inr ⟨k, h1, Nat.lt_of_lt_of_le h2 K.size, fun h => h, fun j hj => (K.cell (a := ⟨k, j, none⟩) h2 (ne _ _ _ _ h5 (by decide))).trans (h4 j hj)⟩
  refine ⟨?_, ?_, own_keep h.ow K (fun k hk e => own_ne h.ow hg (by decide) (by rw [hk, e])), fun x hx => ?_, h.ab, h.wa, h.wb, h.we⟩
  · obtain ⟨L, hA, h2, h3, h4⟩ := h.a
    exact ⟨L, ⟨hA.1, K.blk hA.2.1 (ne _ _ _ _ hA.2.1 (by decide)), own_keep hA.2.2.1 K (fun k hk e => own_ne hA.2.2.1 hg (by decide) (by rw [hk, e])), fun p hp => (hA.2.2.2 p hp).out (h4 p hp) hD o v⟩, h2, h3, h4⟩
  · obtain ⟨L, hA, h2, h4⟩ := h.b
    exact ⟨L, ⟨hA.1, K.blk hA.2.1 (ne _ _ _ _ hA.2.1 (by decide)), own_keep hA.2.2.1 K (fun k hk e => own_ne hA.2.2.1 hg (by decide) (by rw [hk, e])), fun p hp => (hA.2.2.2 p hp).out (h4 p hp) hD o v⟩, h2, h4⟩
  · obtain ⟨hx1, hx2⟩ := h.ok x hx
    have r1 := rowk _ _ hx1.rowa hx2.1
    have r2 := rowk _ _ hx1.rowb hx2.2
    exact ⟨⟨K.blk hx1.box (ne _ _ _ _ hx1.box (by decide)), hx1.few, hx1.key, r1.1, r2.1,
      fun q hq => ⟨(hx1.data q hq).1, by obtain ⟨B, hd⟩ := (hx1.data q hq).2; exact ⟨B, hd.out ((h.we x hx).1 q hq) hD o v⟩⟩,
      fun q hq => by obtain ⟨B, hd⟩ := hx1.datb q hq; exact ⟨B, hd.out ((h.we x hx).2 q hq) hD o v⟩⟩, r1.2, r2.2⟩
/-- A new iterator of the two bags. -/
theorem new_wk {w w1 w2 : World} {B ba bb bl ca : Nat} {oa : Option Addr} {vb vw v : Value} {S : St} {E : List Wk} {D : Nat → Prop} {La Lb : List Pk} (h : Rel w B ba bb (.slice oa La.length ca) vb vw S S E D) (hA : BagAt w B ba (.slice oa La.length ca) S.room S.num S.lost La) (hK : La.map Pk.key4 = S.K) (hok : ∀ p ∈ La, p.Ok) (hDL : InD D La) (hS : S.K.length ≤ 512)
    (hb1 : Below w.heap.size w w1) (hbl : w1.heap[bl]? = some (.cells #[.slice oa La.length La.length] 54 (0, 0))) (hv : w2.ownsRow w1.heap.size 39 4 v Lb.length (pflat Lb)) (hkey : Lb.map Pk.key4 = S.K) (hd : ∀ p ∈ Lb, RDat w2 w1.heap.size p.ad p.s) (hb2 : Below w1.heap.size w1 w2) :
    ∃ ol cl, v = .slice ol Lb.length cl ∧ Wk.Ok w2 ⟨bl, oa, La, ol, cl, Lb⟩ ∧ WkT w2 ⟨bl, oa, La, ol, cl, Lb⟩ ∧ (∀ g, (Value.slice oa La.length ca).ownBlock = some g → (rb oa La g → La.length ≤ S.K.length) ∧ ¬ rb ol Lb g) ∧ (∀ g, vb.ownBlock = some g → ¬ rb oa La g ∧ ¬ rb ol Lb g) ∧
      Rel w2 B ba bb (.slice oa La.length ca) vb vw S S E (fun g => g < w2.heap.size) ∧ InD (fun g => g < w2.heap.size) La ∧ InD (fun g => g < w2.heap.size) Lb := by
  have hb12 : Below w.heap.size w w2 := below_back hb1 hb1.size hb2
  have hl := keys_len hK
  obtain ⟨ol, cl, rfl, _, _, _, _⟩ := row_form hv
  have hA2 := hA.below hb12
  have row : ∀ {W : World} {B n cap : Nat} {o : Option Addr} {L : List Pk}, W.ownsRow B 39 4 (.slice o n cap) n (pflat L) → L.length = n → RowAt W (fun _ => False) o L ∧ ∀ g, rb o L g → (∃ cs fr, W.heap[g]? = some (.cells cs 39 fr)) ∧ (Value.slice o n cap).ownBlock = some g := fun {W B n cap o L} hr hn => by
    refine ⟨?_, fun g hg => ?_⟩
    · rcases hr.2 with ⟨_, h0⟩ | ⟨g, c, cur, he, _, hh, _⟩
      · exact Or.inl (List.eq_nil_of_length_eq_zero (by omega))
      · simp only [Value.slice.injEq] at he
        obtain ⟨rfl, _, rfl⟩ := he
        exact Or.inr ⟨g, rfl, blk_lt hh, fun h => h, fun j hj => hr.cellAt j (by omega)⟩
    · rw [hg.2] at hr ⊢
      obtain ⟨cs, h1, _⟩ := own_blk hr (g := g) rfl
      exact ⟨⟨cs, _, h1⟩, rfl⟩
  have ra := row hA2.2.2.1 rfl
  have rbb := row hv rfl
  have old : ∀ g, rb oa La g → g < w1.heap.size := fun g hg => by
    have := (ra.2 g hg).2
    have := (hA.2.2.1.lt g this).2
    exact Nat.lt_of_lt_of_le this hb1.size
  have new : ∀ g, rb ol Lb g → w1.heap.size ≤ g := fun g hg => (hv.lt g (rbb.2 g hg).2).1
  refine ⟨ol, cl, rfl, ⟨blk_below hbl hb2, by show La.length ≤ 512; omega, by show Lb.map _ = La.map _; rw [hkey, hK], ra.1, rbb.1, fun q hq => ⟨hok q hq, B, hA2.2.2.2 q hq⟩, fun q hq => ⟨w1.heap.size, hd q hq⟩⟩, ⟨fun g hg => (ra.2 g hg).1, fun g hg => (rbb.2 g hg).1⟩, fun g hg => ⟨fun _ => by omega, fun hr => ?_⟩, fun g hg => ⟨fun hr => h.ab g (ra.2 g hr).2 hg, fun hr => ?_⟩, (h.below hb12).any, ?_, ?_⟩
  · have h1 := (h.row_a g hg).1
    have h2 := new g hr
    have h3 := hb1.size
    omega
  · have h1 := (h.row_b g hg).1
    have h2 := new g hr
    have h3 := hb1.size
    omega
  · exact fun q hq => (hA2.2.2.2 q hq).imp id fun ⟨g, cs, _, e, hg, _⟩ => ⟨g, e, blk_lt hg⟩
  · exact fun q hq => (hd q hq).imp id fun ⟨g, cs, fr, _, e, hg, _⟩ => ⟨g, e, blk_lt hg⟩
theorem wk_news {w : World} {g : Nat} {e : Wk} (h : w.heap[g]? = some (.cells #[.func (.func 32) #[] #[.pointer (some ⟨e.bl, 0, none⟩)], .slice e.ol e.Lb.length e.cl] 57 (0, 0))) : ∀ a, (some ⟨g, 0, none⟩ : Option Addr) = some a → ∀ j u, (wkflat [e])[j]? = some u → w.cell? (a.add j) = some u := fun a ha j u hj => by
  obtain rfl : (⟨g, 0, none⟩ : Addr) = a := Option.some.inj ha
  rw [add_none, blk_cell h, Nat.zero_add]
  have e2 : wkflat [e] = [.func (.func 32) #[] #[.pointer (some ⟨e.bl, 0, none⟩)], .slice e.ol e.Lb.length e.cl] := rfl
  rw [e2] at hj
  rw [← hj]
  simp
theorem own_wk {w : World} {B : Nat} {oi : Option Addr} {n cap : Nat} {E : List Wk} (h : w.ownsRow B 57 2 (.slice oi n cap) n (wkflat E)) (k : Nat) (hk : k < E.length) : ∃ g, oi = some ⟨g, 0, none⟩ ∧ g < w.heap.size ∧
    w.cell? ⟨g, k * 2, none⟩ = some (.func (.func 32) #[] #[.pointer (some ⟨E[k].bl, 0, none⟩)]) ∧ w.cell? ⟨g, k * 2 + 1, none⟩ = some (.slice E[k].ol E[k].Lb.length E[k].cl) := by
  have hn : E.length = n := by have := h.1; rw [wkflat_length] at this; omega
  have hlt := h.lt
  rcases h.2 with ⟨_, h0⟩ | ⟨g, c, cur, hv, _, _⟩
  · omega
  · simp only [Value.slice.injEq] at hv
    obtain ⟨rfl, _, rfl⟩ := hv
    have e0 := wkflat_get E k hk 0 (by omega)
    have e1 := wkflat_get E k hk 1 (by omega)
    exact ⟨g, rfl, (hlt g rfl).2, by rw [h.cellAt (k * 2) (by omega)]; exact e0, by rw [h.cellAt (k * 2 + 1) (by omega)]; exact e1⟩
end Go.Proofs.Ytepilaejfepicaa
