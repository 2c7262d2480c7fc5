/-
  A region that draws its order and holds calls of yield, or stands in a round: as in the text XRy, but behind an operation that writes the prover says what is kept in mind of the world.
-/
import Derived.Test.YtdflmplmpjghdaaGreatDoorRy
namespace Go.Proofs.YtdflmplmpjghdaaGreatDoor.H
set_option linter.unusedVariables false
set_option linter.unusedSimpArgs false
set_option maxRecDepth 100000
set_option linter.unusedSectionVars false
open Go Go.RowKit Go.Proofs.YtdflmplmpjghdaaGreatDoor

/-- As in XRx, but what is listed already is of no matter. -/
def tagOkL (md : Region.Mode) (ops : Array Oper) (tag : List Nat) (listed : Array Bool) (i : Nat) : Bool :=
  closedB md ops listed && (List.range ops.size).all fun j => listed.getD j true || tag.getD j 3 == 0 || tag.getD j 3 == 1 || tag.getD j 3 == 2 || tag.getD j 3 == 4 || waitsT md ops 4 j i
def pathH (md : Region.Mode) (ops : Array Oper) (tag : List Nat) : List Nat → Array Bool → Bool
  | [], listed => (Region.ready md ops listed).isEmpty
  | i :: p, listed =>
    ((decide (Region.ready md ops listed = [i])) ||
     ((Region.ready md ops listed).contains i && Region.free md ops listed i && (tag.getD i 3 == 0 || (tag.getD i 3 == 1 && tagOkL md ops tag listed i)))) && pathH md ops tag p (listed.setIfInBounds i true)

section
variable {P : Program} {ops : Array Oper} {md : Region.Mode} {C D : World → Prop} {r : Option Nat} {n : Nat}

/-- Operation i comes up. -/
def stepY (r : Option Nat) (n : Nat) (P : Program) (ops : Array Oper) (C : World → Prop) (tag : List Nat) (i : Nat) (K : Act → (World → Prop) → Prop) (a : Act) (D : World → Prop) : Prop :=
  match ops[i]? with
  | none => K a D
  | some o =>
    if Region.wanted o (yielded ops a.tmps) then
      match tag.getD i 3 with
      | 0 => ∃ v, GPure P o a v ∧ K (a.put o.dst v) D
      | 1 => ∃ v, GQuiet P C o a v ∧ Stable D ∧ (∀ w, D w → C w) ∧ K (a.put o.dst v) D
      | 2 => ∃ ob, GNew P o a ob ∧ Stable D ∧ ∀ g, (∃ w, D w ∧ w.heap.size = g) → K (a.put o.dst (.pointer (some ⟨g, 0, none⟩))) (fun w => D w ∧ w.heap[g]? = some ob)
      | 4 => ∀ w, D w → o.wpIn (fenceOf r) n P a w (fun a' w' => Below w.heap.size w w' ∧ K a' (fun x => Below w'.heap.size w' x)) (fun _ _ _ => False)
      | _ => ∀ w, D w → o.wpIn (fenceOf r) n P a w (fun a' w' => ∃ D' : World → Prop, D' w' ∧ K a' D') (fun _ _ _ => False)
    else K (a.put o.dst undef) D

theorem stepY_mono {tag : List Nat} {i : Nat} {a : Act} {D : World → Prop} {K K' : Act → (World → Prop) → Prop} (h : ∀ a D, K a D → K' a D) (hh : stepY r n P ops C tag i K a D) : stepY r n P ops C tag i K' a D := by
  unfold stepY at *
  split
  · rename_i ho; simp only [ho] at hh; exact h _ _ hh
  · rename_i o ho
    simp only [ho] at hh
    split
    · rename_i hw
      simp only [hw, if_true] at hh
      split
      · rename_i ht; simp only [ht] at hh; obtain ⟨v, h1, h2⟩ := hh; exact ⟨v, h1, h _ _ h2⟩
      · rename_i ht; simp only [ht] at hh; obtain ⟨v, h1, h3, h4, h2⟩ := hh; exact ⟨v, h1, h3, h4, h _ _ h2⟩
      · rename_i ht; simp only [ht] at hh; obtain ⟨v, h1, h3, h2⟩ := hh; exact ⟨v, h1, h3, fun g hg => h _ _ (h2 g hg)⟩
      · rename_i ht; simp only [ht] at hh; exact fun w hw => wpInFalse_mono (fun _ _ hk => ⟨hk.1, h _ _ hk.2⟩) (hh w hw)
      · rename_i h0 h1 h2 h4
        split at hh <;> first | exact absurd ‹_› h0 | exact absurd ‹_› h1 | exact absurd ‹_› h2 | exact absurd ‹_› h4 | exact fun w hw => wpInFalse_mono (fun _ _ hk => ⟨hk.choose, hk.choose_spec.1, h _ _ hk.choose_spec.2⟩) (hh w hw)
    · rename_i hw; simp only [hw] at hh; exact h _ _ hh

theorem wpOpIn_of_stepY {tag : List Nat} {i : Nat} {a : Act} {w : World} {K : Act → (World → Prop) → Prop} {K' : Act → World → Prop} {Q' : Exit → Act → World → Prop} (hnd : noDefer ops = true) (hD : D w) (h : ∀ a D w, D w → K a D → K' a w)
    (hh : stepY r n P ops C tag i K a D) : wpOpIn (fenceOf r) n P ops Q' i K' a w := by
  unfold stepY at hh
  unfold wpOpIn
  split
  · rename_i ho; simp only [ho] at hh; exact h _ _ _ hD hh
  · rename_i o ho
    simp only [ho] at hh
    split
    · rename_i hw
      simp only [hw, if_true] at hh
      have hsem : o.semAt (fenceOf r).round a.eval = execOp a.eval o := Oper.semAt_eq _ _ _ (noDefer_spec hnd ho)
      have hd1 : (fenceOf r).depth.isSome = true → 1 ≤ n := fun h => by rw [fenceOf_depth] at h; cases h
      have fin : ∀ (E : World → Prop) (v : Value), GivesR P E v ((execOp a.eval o).run P w) → (∀ w', E w' → K' (a.put o.dst v) w') → o.wpIn (fenceOf r) n P a w K' Q' := fun E v hg hk => by
        unfold Oper.wpIn
        rw [hsem]
        refine ⟨fun f _ => fenceOf_fn r f, ?_⟩
        generalize (execOp a.eval o).run P w = x at *
        cases x with
        | ok x w' =>
          cases x <;> simp only [GivesR] at hg <;> simp only [Oper.uponIn]
          case value u => obtain ⟨rfl, e2⟩ := hg; exact hk _ e2
          case skip => obtain ⟨rfl, e2⟩ := hg; exact hk _ e2
          case enter f args => exact ⟨hd1, callsIn_of_calls (hg.mono fun e w'' ⟨he, hw''⟩ => by subst he; exact hk _ hw'')⟩
          case row f args => exact ⟨hd1, rowsIn_of_rows (hg.mono fun u w'' ⟨he, hw''⟩ => by subst he; exact hk _ hw'')⟩
        | halt x w' => simp only [GivesR] at hg
      split at hh
      · obtain ⟨v, h1, h2⟩ := hh
        exact fin _ v (h1 w) fun w' e => by subst e; exact h _ _ _ hD h2
      · obtain ⟨v, h1, h3, h4, h2⟩ := hh
        exact fin _ v (h1 w (h4 w hD)) fun w' e => h _ _ _ (h3 _ _ hD e) h2
      · obtain ⟨ob, h1, h3, h2⟩ := hh
        unfold Oper.wpIn
        rw [hsem, h1 w]
        exact ⟨fun f _ => fenceOf_fn r f, h _ _ _ ⟨h3 _ _ hD (below_alloc_self w ob), by show (w.heap.push ob)[_]? = _; simp⟩ (h2 w.heap.size ⟨w, hD, rfl⟩)⟩
      · exact wpInFalse_mono (fun a' w' hk => h _ (fun x => Below w'.heap.size w' x) w' (Below.refl _ _) hk.2) (hh w hD)
      · exact wpInFalse_mono (fun a' w' hk => h _ hk.choose w' hk.choose_spec.1 hk.choose_spec.2) (hh w hD)
    · rename_i hw; simp only [hw] at hh; exact ⟨fun f _ => fenceOf_fn r f, h _ _ _ hD hh⟩

/-- Whatever order is picked from here on. -/
def wpY (r : Option Nat) (n : Nat) (P : Program) (md : Region.Mode) (ops : Array Oper) (C : World → Prop) (tag : List Nat) (Q : Exit → Act → World → Prop) : Nat → Array Bool → Act → (World → Prop) → Prop
  | 0, listed, a, D => Region.ready md ops listed = [] ∧ ∀ w, D w → Q .normal a w
  | f + 1, listed, a, D => Region.ready md ops listed ≠ [] ∧ ∀ i ∈ Region.ready md ops listed, stepY r n P ops C tag i (fun a' D' => wpY r n P md ops C tag Q f (listed.setIfInBounds i true) a' D') a D

theorem wpAnyIn_of_wpY {tag : List Nat} {Q : Exit → Act → World → Prop} (hnd : noDefer ops = true) : ∀ (f : Nat) (listed : Array Bool) (a : Act) (D : World → Prop) (w : World), D w → wpY r n P md ops C tag Q f listed a D → wpAnyIn (fenceOf r) n P md ops Q f listed a w
  | 0, _, _, _, w, hD, h => ⟨h.1, h.2 w hD⟩
  | f + 1, _, _, _, w, hD, h => ⟨fun h0 => absurd h0 h.1, fun i hi => wpOpIn_of_stepY hnd hD (fun a' D' w' hD' h' => wpAnyIn_of_wpY hnd f _ a' D' w' hD' h') (h.2 i hi)⟩

theorem LvY.step {tag : List Nat} {i : Nat} {o : Oper} {v : Value} {a : Act} {D : World → Prop} (hi : ops[i]? = some o) (hy : LvX P ops C o (tag.getD i 3) v a D) {K : Act → (World → Prop) → Prop} (h : K (a.put o.dst v) D) :
    stepY r n P ops C tag i K a D := by
  unfold stepY
  simp only [hi]
  rcases hy with ⟨hw, ⟨ht, hv⟩ | ⟨ht, hv, h1, h2⟩⟩ | ⟨hw, rfl⟩
  · simp only [hw, if_true, ht]; exact ⟨v, hv, h⟩
  · simp only [hw, if_true, ht]; exact ⟨v, hv, h1, h2, h⟩
  · simp only [hw, Bool.false_eq_true, if_false]; exact h

theorem wpIn_put {oi oj : Oper} {v : Value} {a : Act} {w : World} (hsj : ∀ cs b, oj.op ≠ .select cs b) (hnd : ∀ c, oj.op ≠ .defer c) (h1 : ∀ d, oi.dst = some d → d ∉ oj.looksAt ops) (h2 : ∀ d, oi.dst = some d → oj.dst ≠ some d)
    {K : Act → World → Prop} {K' : Act → World → Prop} (hK : ∀ (a' : Act) (w' : World) (u : Value) (df : List Deferred), a' = ({ a with defers := df } : Act).put oj.dst u → K (a'.put oi.dst v) w' → K' a' w')
    (h : oj.wpIn (fenceOf r) n P (a.put oi.dst v) w K (fun _ _ _ => False)) : oj.wpIn (fenceOf r) n P a w K' (fun _ _ _ => False) := by
  unfold Oper.wpIn at *
  rw [Oper.semAt_eq _ _ _ hnd] at *
  rw [execOp_put oj hsj a oi.dst v h1] at h
  refine ⟨fun f _ => fenceOf_fn r f, ?_⟩
  replace h := h.2
  generalize (execOp a.eval oj).run P w = x at *
  have key : ∀ (u : Value) (w' : World), K ((a.put oi.dst v).put oj.dst u) w' → K' (a.put oj.dst u) w' := fun u w' hk =>
    hK _ w' u a.defers rfl (by rw [← Act.put_comm a v u h2]; exact hk)
  cases x with
  | ok x w' =>
    cases x <;> simp only [Oper.uponIn] at h ⊢
    case value u => exact key u _ h
    case skip => exact key undef _ h
    case defer d =>
      refine hK _ w' undef (d :: a.defers) rfl ?_
      have e : ({ a.put oi.dst v with defers := d :: (a.put oi.dst v).defers } : Act) = ({ a with defers := d :: a.defers } : Act).put oi.dst v := by cases oi.dst <;> rfl
      rw [e] at h
      rw [← Act.put_comm _ v undef h2]
      exact h
    case enter f args =>
      refine ⟨h.1, CallsIn.mono h.2 fun e w'' he => ?_⟩
      cases e with
      | returned u => exact key u _ he
      | panicked c => exact he
      | outgrown => exact he
    case row row args => exact ⟨h.1, RowsIn.mono h.2 fun u w'' he => key u _ he⟩
    case round l f tmps assign body =>
      refine ⟨h.1, RoundIn.mono h.2 fun e w'' he => ?_⟩
      cases e with
      | returned u => exact key u _ he
      | panicked c => exact he
      | outgrown => exact he
  | halt x w' => cases x <;> simp only [Oper.uponIn] at h

theorem stepY_put {tag : List Nat} {t j : Nat} {oi oj : Oper} {v : Value} (hnd : noDefer ops = true) (hj : ops[j]? = some oj) (hap : oi.apart ops oj = true)
    (hsi : ∀ cs b, oi.op ≠ .select cs b) (hsj : ∀ cs b, oj.op ≠ .select cs b) (htj : t = 1 → tag.getD j 3 = 0 ∨ tag.getD j 3 = 1 ∨ tag.getD j 3 = 2 ∨ tag.getD j 3 = 4)
    {K : Act → (World → Prop) → Prop} {a : Act} {D : World → Prop}
    (hy : LvX P ops C oi t v a D) (h : stepY r n P ops C tag j K (a.put oi.dst v) D) :
    stepY r n P ops C tag j (fun a' D' => LvX P ops C oi t v a' D' ∧ K (a'.put oi.dst v) D') a D := by
  obtain ⟨h1, h2, h3⟩ := Oper.apart_spec hap
  have keep : ∀ (a : Act) (D D' : World → Prop), LvX P ops C oi t v a D → (t = 1 → Stable D → (∀ w, D w → C w) → Stable D' ∧ ∀ w, D' w → C w) → ∀ u, LvX P ops C oi t v (a.put oj.dst u) D' := fun a D D' hy hD u =>
    hy.of_same (execOp_put oi hsi a oj.dst u h3) (wanted_put oi a oj.dst u h3) hD
  have hjj := hj
  unfold stepY at *
  simp only [hj] at h ⊢
  rw [wanted_put oj a oi.dst v h1] at h
  split
  · rename_i hw
    simp only [hw, if_true] at h
    have ex : execOp (a.put oi.dst v).eval oj = execOp a.eval oj := execOp_put oj hsj a oi.dst v h1
    split
    · rename_i ht
      simp only [ht] at h
      obtain ⟨u, hu, hn⟩ := h
      unfold GPure at hu
      rw [ex] at hu
      exact ⟨u, hu, keep a D D hy (fun _ a b => ⟨a, b⟩) u, by rw [← Act.put_comm a v u h2]; exact hn⟩
    · rename_i ht
      simp only [ht] at h
      obtain ⟨u, hu, s1, s2, hn⟩ := h
      unfold GQuiet at hu
      rw [ex] at hu
      exact ⟨u, hu, s1, s2, keep a D D hy (fun _ a b => ⟨a, b⟩) u, by rw [← Act.put_comm a v u h2]; exact hn⟩
    · rename_i ht
      simp only [ht] at h
      obtain ⟨ob, hu, s1, hn⟩ := h
      unfold GNew at hu
      rw [ex] at hu
      exact ⟨ob, hu, s1, fun g hg => ⟨keep a D _ hy (fun _ a b => ⟨a.and (stable_blk g ob), fun w hw => b w hw.1⟩) _, by rw [← Act.put_comm a v _ h2]; exact hn g hg⟩⟩
    · rename_i ht
      simp only [ht] at h
      intro w hD
      refine wpIn_put hsj (noDefer_spec hnd hjj) h1 h2 (fun a' w' u df ea hk => ⟨hk.1, ?_, hk.2⟩) (h w hD)
      subst ea
      refine hy.of_same ?_ ?_ (fun _ s1 s2 => ⟨fun x y hx hb => hx.trans (hb.mono hx.size), fun x hx => s2 _ (s1 _ _ hD (hk.1.trans (hx.mono hk.1.size)))⟩)
      · have e1 : execOp (({ a with defers := df } : Act).put oj.dst u).eval oi = execOp ({ a with defers := df } : Act).eval oi := execOp_put oi hsi _ oj.dst u h3
        rw [e1]
        have e2 : ({ a with defers := df } : Act).eval = a.eval := by funext x; cases x <;> rfl
        rw [e2]
      · have e1 := wanted_put oi ({ a with defers := df } : Act) oj.dst u h3
        rw [e1]
    · rename_i t0 t1 t2 t4
      have ht : t ≠ 1 := fun e => by rcases htj e with h | h | h | h <;> first | exact t0 h | exact t1 h | exact t2 h | exact t4 h
      split at h
      · exact absurd ‹_› t0
      · exact absurd ‹_› t1
      · exact absurd ‹_› t2
      · exact absurd ‹_› t4
      · intro w hD
        refine wpIn_put hsj (noDefer_spec hnd hjj) h1 h2 (fun a' w' u df ea hk => ⟨hk.choose, hk.choose_spec.1, ?_, hk.choose_spec.2⟩) (h w hD)
        subst ea
        refine hy.of_same ?_ ?_ (fun e => absurd e ht)
        · have e1 : execOp (({ a with defers := df } : Act).put oj.dst u).eval oi = execOp ({ a with defers := df } : Act).eval oi := execOp_put oi hsi _ oj.dst u h3
          rw [e1]
          have e2 : ({ a with defers := df } : Act).eval = a.eval := by funext x; cases x <;> rfl
          rw [e2]
        · have e1 := wanted_put oi ({ a with defers := df } : Act) oj.dst u h3
          rw [e1]
  · rename_i hw
    simp only [hw] at h
    exact ⟨keep a D D hy (fun _ a b => ⟨a, b⟩) _, by rw [← Act.put_comm a v undef h2]; exact h⟩

/-- An operation of kind 0 or 1 that may come up now may be taken first. -/
theorem wpY_first {tag : List Nat} {i : Nat} {oi : Oper} {v : Value} {Q : Exit → Act → World → Prop} (hnd : noDefer ops = true) (hi : ops[i]? = some oi) (hsel : ∀ (j : Nat) (o : Oper) cs b, ops[j]? = some o → o.op ≠ .select cs b) :
    ∀ (f : Nat) (listed : Array Bool) (a : Act) (D : World → Prop),
      (∀ j oj, ops[j]? = some oj → j ≠ i → listed.getD j true = false → (∀ e ∈ oj.after, Region.binds md e = true → e.on ≠ i) →
        oi.apart ops oj = true ∧ (tag.getD i 3 = 1 → (tag.getD j 3 = 0 ∨ tag.getD j 3 = 1 ∨ tag.getD j 3 = 2 ∨ tag.getD j 3 = 4) ∨ waitsT md ops 4 j i = true)) →
      (tag.getD i 3 = 1 → Cl md ops listed) →
      i ∈ Region.ready md ops listed → LvX P ops C oi (tag.getD i 3) v a D →
      wpY r n P md ops C tag Q f (listed.setIfInBounds i true) (a.put oi.dst v) D → wpY r n P md ops C tag Q (f + 1) listed a D := by
  intro f
  induction f with
  | zero =>
    intro listed a D _ hcl hr hy H
    refine ⟨fun h => (by rw [h] at hr; cases hr), fun j hj => ?_⟩
    by_cases hji : j = i
    · subst hji; exact LvY.step hi hy H
    · have := ready_mono hj hji
      rw [H.1] at this
      cases this
  | succ f ih =>
    intro listed a D hfree hcl hr hy H
    have hun := (mem_ready.1 hr).1
    refine ⟨fun h => (by rw [h] at hr; cases hr), fun j hj => ?_⟩
    by_cases hji : j = i
    · subst hji; exact LvY.step hi hy H
    · have h1 := H.2 j (ready_mono hj hji)
      obtain ⟨hjun, oj, hoj, hall⟩ := mem_ready.1 hj
      have hnot : ∀ e ∈ oj.after, Region.binds md e = true → e.on ≠ i := fun e he hb heq => by
        have h1 := hall e he hb
        rw [heq, getD_both hun] at h1
        cases h1
      have hf := hfree j oj hoj hji hjun hnot
      have h2 := stepY_put hnd hoj hf.1 (fun cs b => hsel i oi cs b hi) (fun cs b => hsel j oj cs b hoj) (fun h1 => (hf.2 h1).resolve_right fun hw => by
        have := (hcl h1).ready hj 4 i (Array.getElem?_eq_some_iff.1 hi).1 hw
        rw [hun] at this
        cases this) hy h1
      have hfree' : ∀ k ok, ops[k]? = some ok → k ≠ i → (listed.setIfInBounds j true).getD k true = false →
          (∀ e ∈ ok.after, Region.binds md e = true → e.on ≠ i) → oi.apart ops ok = true ∧ (tag.getD i 3 = 1 → (tag.getD k 3 = 0 ∨ tag.getD k 3 = 1 ∨ tag.getD k 3 = 2 ∨ tag.getD k 3 = 4) ∨ waitsT md ops 4 k i = true) := fun k ok hk hki hun hno => by
        refine hfree k ok hk hki ?_ hno
        by_cases hjk : j = k
        · subst hjk; exact hjun
        · rw [getD_set_ne true hjk] at hun; exact hun
      refine stepY_mono (fun a' D' h3 => ih (listed.setIfInBounds j true) a' D' hfree' (fun h1 => (hcl h1).set hj) (ready_mono hr (Ne.symm hji)) h3.1 ?_) h2
      rw [Array.setIfInBounds_comm _ _ hji]
      exact h3.2

/-- The walk along the path. -/
def walkY (r : Option Nat) (n : Nat) (P : Program) (ops : Array Oper) (C : World → Prop) (tag : List Nat) (Q : Exit → Act → World → Prop) : List Nat → Act → (World → Prop) → Prop
  | [], a, D => ∀ w, D w → Q .normal a w
  | i :: p, a, D => stepY r n P ops C tag i (fun a' D' => walkY r n P ops C tag Q p a' D') a D

theorem wpY_of_walkY {tag : List Nat} {Q : Exit → Act → World → Prop} (hnd : noDefer ops = true) (hs : Region.noSelect ops = true) : ∀ (p : List Nat) (listed : Array Bool) (a : Act) (D : World → Prop),
    pathH md ops tag p listed = true → walkY r n P ops C tag Q p a D → wpY r n P md ops C tag Q p.length listed a D
  | [], listed, a, D, hB, h => ⟨by simpa [pathH] using hB, h⟩
  | i :: p, listed, a, D, hB, h => by
    simp only [pathH, Bool.and_eq_true, Bool.or_eq_true, decide_eq_true_eq] at hB
    obtain ⟨hB, hB'⟩ := hB
    have h' : stepY r n P ops C tag i (fun a' D' => wpY r n P md ops C tag Q p.length (listed.setIfInBounds i true) a' D') a D := stepY_mono (fun a' D' hk => wpY_of_walkY hnd hs p _ a' D' hB' hk) h
    rcases hB with hB | ⟨⟨hr, hf⟩, ht⟩
    · exact ⟨by rw [hB]; simp, fun j hj => by rw [hB] at hj; have : j = i := by simpa using hj
                                              subst this; exact h'⟩
    · have hr' : i ∈ Region.ready md ops listed := by simpa using hr
      obtain ⟨hun, oi, hoi, hall⟩ := mem_ready.1 hr'
      have hfs := Region.free_spec hoi hf
      have fin : ∀ v, LvX P ops C oi (tag.getD i 3) v a D → wpY r n P md ops C tag Q p.length (listed.setIfInBounds i true) (a.put oi.dst v) D → wpY r n P md ops C tag Q (p.length + 1) listed a D := fun v hy hk =>
        wpY_first hnd hoi (Region.noSelect_spec hs) p.length listed a D (fun j oj hoj hji hjun hno => ⟨hfs j oj hoj hji hjun hno, fun h1 => by
          rcases ht with ht | ⟨_, ht⟩
          · rw [h1] at ht; cases ht
          · unfold tagOkL at ht
            rw [Bool.and_eq_true] at ht
            have hjs : j < ops.size := (Array.getElem?_eq_some_iff.1 hoj).1
            have h2 := List.all_eq_true.1 ht.2 j (List.mem_range.2 hjs)
            simp only [Bool.or_eq_true, beq_iff_eq] at h2
            rcases h2 with ((((h2 | h2) | h2) | h2) | h2) | h2
            · rw [hjun] at h2; cases h2
            · exact .inl (.inl h2)
            · exact .inl (.inr (.inl h2))
            · exact .inl (.inr (.inr (.inl h2)))
            · exact .inl (.inr (.inr (.inr h2)))
            · exact .inr h2⟩) (fun h1 => by
          rcases ht with ht | ⟨_, ht⟩
          · rw [h1] at ht; cases ht
          · unfold tagOkL at ht
            rw [Bool.and_eq_true] at ht
            exact cl_of_closedB ht.1) hr' hy hk
      unfold stepY at h'
      simp only [hoi] at h'
      by_cases hw : Region.wanted oi (yielded ops a.tmps) = true
      · simp only [hw, if_true] at h'
        rcases ht with ht | ⟨ht, _⟩ <;> simp only [beq_iff_eq] at ht <;> rw [ht] at h'
        · obtain ⟨v, h1, h2⟩ := h'
          exact fin v (.inl ⟨hw, .inl ⟨ht, h1⟩⟩) h2
        · obtain ⟨v, h1, h3, h4, h2⟩ := h'
          exact fin v (.inl ⟨hw, .inr ⟨ht, h1, h3, h4⟩⟩) h2
      · simp only [hw] at h'
        exact fin undef (.inr ⟨by simpa using hw, rfl⟩) h'

/-- One operation, written out. -/
def stepP (r : Option Nat) (n : Nat) (P : Program) (ops : Array Oper) (C : World → Prop) (t : Nat) (o : Oper) (K : Act → (World → Prop) → Prop) (a : Act) (D : World → Prop) : Prop :=
  if Region.wanted o (yielded ops a.tmps) then
    match t with
    | 0 => ∃ v, GPure P o a v ∧ K (a.put o.dst v) D
    | 1 => ∃ v, GQuiet P C o a v ∧ Stable D ∧ (∀ w, D w → C w) ∧ K (a.put o.dst v) D
    | 2 => ∃ ob, GNew P o a ob ∧ Stable D ∧ ∀ g, (∃ w, D w ∧ w.heap.size = g) → K (a.put o.dst (.pointer (some ⟨g, 0, none⟩))) (fun w => D w ∧ w.heap[g]? = some ob)
    | 4 => ∀ w, D w → o.wpIn (fenceOf r) n P a w (fun a' w' => Below w.heap.size w w' ∧ K a' (fun x => Below w'.heap.size w' x)) (fun _ _ _ => False)
    | _ => ∀ w, D w → o.wpIn (fenceOf r) n P a w (fun a' w' => ∃ D' : World → Prop, D' w' ∧ K a' D') (fun _ _ _ => False)
  else K (a.put o.dst undef) D

/-- The walk along the path, its operations written out, up to a continuation. -/
def walkMK (r : Option Nat) (n : Nat) (P : Program) (ops : Array Oper) (C : World → Prop) (Z : Act → (World → Prop) → Prop) : List (Nat × Oper) → Act → (World → Prop) → Prop
  | [], a, D => Z a D
  | x :: p, a, D => stepP r n P ops C x.1 x.2 (fun a' D' => walkMK r n P ops C Z p a' D') a D
/-- .. to the region's end. -/
abbrev walkM (r : Option Nat) (n : Nat) (P : Program) (ops : Array Oper) (C : World → Prop) (Q : Exit → Act → World → Prop) (p : List (Nat × Oper)) (a : Act) (D : World → Prop) : Prop :=
  walkMK r n P ops C (fun a D => ∀ w, D w → Q .normal a w) p a D
def walkYK (r : Option Nat) (n : Nat) (P : Program) (ops : Array Oper) (C : World → Prop) (tag : List Nat) (Z : Act → (World → Prop) → Prop) : List Nat → Act → (World → Prop) → Prop
  | [], a, D => Z a D
  | i :: p, a, D => stepY r n P ops C tag i (fun a' D' => walkYK r n P ops C tag Z p a' D') a D
theorem walkY_of_walkYK {tag : List Nat} {Q : Exit → Act → World → Prop} : ∀ (p : List Nat) (a : Act) (D : World → Prop), walkYK r n P ops C tag (fun a D => ∀ w, D w → Q .normal a w) p a D → walkY r n P ops C tag Q p a D
  | [], _, _, h => h
  | i :: p, a, D, h => stepY_mono (fun a' D' hk => walkY_of_walkYK p a' D' hk) h

theorem walkYK_of_walkMK {tag : List Nat} {Z Z' : Act → (World → Prop) → Prop} (hZ : ∀ a D, Z a D → Z' a D) {l : List Oper} : ∀ (p : List Nat) (a : Act) (D : World → Prop), (p.all fun i => decide (i < l.length)) = true →
    walkMK r n P l.toArray C Z (p.map fun i => (tag.getD i 3, l.getD i default)) a D → walkYK r n P l.toArray C tag Z' p a D
  | [], _, _, _, h => hZ _ _ h
  | i :: p, a, D, hp, h => by
    simp only [List.all_cons, Bool.and_eq_true, decide_eq_true_eq] at hp
    have ih := fun a' D' => walkYK_of_walkMK (tag := tag) hZ p a' D' hp.2
    unfold walkYK
    unfold stepY
    have hi : l.toArray[i]? = some (l.getD i default) := by
      simp [hp.1]
    simp only [hi]
    simp only [List.map_cons, walkMK, stepP] at h
    split
    · rename_i hw
      rw [if_pos hw] at h
      split
      · rename_i ht; simp only [ht] at h; obtain ⟨v, h1, h2⟩ := h; exact ⟨v, h1, ih _ _ h2⟩
      · rename_i ht; simp only [ht] at h; obtain ⟨v, h1, h3, h4, h2⟩ := h; exact ⟨v, h1, h3, h4, ih _ _ h2⟩
      · rename_i ht; simp only [ht] at h; obtain ⟨v, h1, h3, h2⟩ := h; exact ⟨v, h1, h3, fun g hg => ih _ _ (h2 g hg)⟩
      · rename_i ht; simp only [ht] at h; exact fun w hw => wpInFalse_mono (fun _ _ hk => ⟨hk.1, ih _ _ hk.2⟩) (h w hw)
      · rename_i h0 h1 h2 h4
        split at h <;> first | exact absurd ‹_› h0 | exact absurd ‹_› h1 | exact absurd ‹_› h2 | exact absurd ‹_› h4 | exact fun w hw => wpInFalse_mono (fun _ _ hk => ⟨hk.choose, hk.choose_spec.1, ih _ _ hk.choose_spec.2⟩) (h w hw)
    · rename_i hw
      rw [if_neg hw] at h
      exact ih _ _ h
theorem walkY_of_walkM {tag : List Nat} {Q : Exit → Act → World → Prop} {l : List Oper} (p : List Nat) (a : Act) (D : World → Prop) (hp : (p.all fun i => decide (i < l.length)) = true)
    (h : walkM r n P l.toArray C Q (p.map fun i => (tag.getD i 3, l.getD i default)) a D) : walkY r n P l.toArray C tag Q p a D := walkY_of_walkYK p a D (walkYK_of_walkMK (fun _ _ h => h) p a D hp h)

/-- **One walk along one path serves every order**, in a round. -/
theorem wpIn_region_y {id : Nat} {Q : Exit → Act → World → Prop} {a : Act} {w : World} {l : List Oper} (r : Option Nat) (p tag : List Nat) (C D0 : World → Prop) (hm : P.follows .mixedOrders = true)
    (hB : (noDefer l.toArray && Region.noSelect l.toArray && decide (p.length = l.length) && pathH .any l.toArray tag p (Array.replicate l.length false) && p.all fun i => decide (i < l.length)) = true)
    (hC : D0 w.drew) (h : walkM r n P l.toArray C Q (p.map fun i => (tag.getD i 3, l.getD i default)) a D0) : (Code.region id l.toArray true).wpIn (fenceOf r) n P Q a w := by
  simp only [Bool.and_eq_true, decide_eq_true_eq] at hB
  obtain ⟨⟨⟨⟨hnd, hs⟩, hl⟩, hp⟩, hall⟩ := hB
  refine wpIn_region_any hm ?_
  have := wpAnyIn_of_wpY (md := .any) (C := C) (tag := tag) hnd _ _ _ D0 w.drew hC (wpY_of_walkY (md := .any) hnd hs p _ a D0 hp (walkY_of_walkM p a D0 hall h))
  rw [hl] at this
  simpa using this

/-! ### The steps -/
variable {Q : Exit → Act → World → Prop} {Z : Act → (World → Prop) → Prop} {a : Act} {o : Oper} {p : List (Nat × Oper)}
theorem y_nil (h : ∀ w, D w → Q .normal a w) : walkM r n P ops C Q [] a D := h
theorem y_end (h : Z a D) : walkMK r n P ops C Z [] a D := h
theorem y_skip {t : Nat} (hw : Region.wanted o (yielded ops a.tmps) = false) (h : walkMK r n P ops C Z p (a.put o.dst undef) D) : walkMK r n P ops C Z ((t, o) :: p) a D := by
  unfold walkMK stepP; rw [if_neg (by rw [hw]; exact Bool.false_ne_true)]; exact h
theorem y_pure (hw : Region.wanted o (yielded ops a.tmps) = true) (d : Nat) (v : Value) (hd : o.dst = some d) (hlt : d < a.tmps.size)
    (hv : ∀ (w : World) (K : Act → World → Prop), (∀ a' w', (a'.tmps[d]? = some v ∧ a'.defers = a.defers ∧ w' = w) → K a' w') → o.wp P a w K (fun _ _ _ => False))
    (h : walkMK r n P ops C Z p (a.put o.dst v) D) : walkMK r n P ops C Z ((0, o) :: p) a D := by
  unfold walkMK stepP; rw [if_pos hw]
  exact ⟨v, fun w => gives_of_wp (C := fun w' => w' = w) hd hlt (hv w _ fun _ _ h => h), h⟩
theorem y_quiet (hw : Region.wanted o (yielded ops a.tmps) = true) (hS : Stable D) (hDC : ∀ w, D w → C w) (d : Nat) (v : Value) (hd : o.dst = some d) (hlt : d < a.tmps.size)
    (hv : ∀ (w : World), C w → ∀ (K : Act → World → Prop), (∀ a' w', (a'.tmps[d]? = some v ∧ a'.defers = a.defers ∧ Below w.heap.size w w') → K a' w') → o.wp P a w K (fun _ _ _ => False))
    (h : walkMK r n P ops C Z p (a.put o.dst v) D) : walkMK r n P ops C Z ((1, o) :: p) a D := by
  unfold walkMK stepP; rw [if_pos hw]
  exact ⟨v, fun w hC => gives_of_wp (C := fun w' => Below w.heap.size w w') hd hlt (hv w hC _ fun _ _ h => h), hS, hDC, h⟩
theorem y_new (hw : Region.wanted o (yielded ops a.tmps) = true) (hS : Stable D) (ob : Obj)
    (hv : ∀ w, (execOp a.eval o).run P w = .ok (.value (.pointer (some ⟨w.heap.size, 0, none⟩))) (w.alloc ob))
    (h : ∀ g, (∃ w, D w ∧ w.heap.size = g) → walkMK r n P ops C Z p (a.put o.dst (.pointer (some ⟨g, 0, none⟩))) (fun w => D w ∧ w.heap[g]? = some ob)) : walkMK r n P ops C Z ((2, o) :: p) a D := by
  unfold walkMK stepP; rw [if_pos hw]
  exact ⟨ob, hv, hS, h⟩
theorem y_any (hw : Region.wanted o (yielded ops a.tmps) = true)
    (hv : ∀ (w : World), D w → ∀ (K : Act → World → Prop), (∀ a' w' (D' : World → Prop), D' w' → walkMK r n P ops C Z p a' D' → K a' w') → o.wpIn (fenceOf r) n P a w K (fun _ _ _ => False)) : walkMK r n P ops C Z ((3, o) :: p) a D := by
  unfold walkMK stepP; rw [if_pos hw]
  exact fun w hD => hv w hD _ fun _ _ D' h1 h2 => ⟨D', h1, h2⟩
theorem y_write (hw : Region.wanted o (yielded ops a.tmps) = true)
    (hv : ∀ (w : World), D w → ∀ (K : Act → World → Prop), (∀ a' w', walkMK r n P ops C Z p a' (fun x => x = w') → K a' w') → o.wpIn (fenceOf r) n P a w K (fun _ _ _ => False)) : walkMK r n P ops C Z ((3, o) :: p) a D := by
  unfold walkMK stepP; rw [if_pos hw]
  exact fun w hD => hv w hD _ fun _ w' h => ⟨fun x => x = w', rfl, h⟩
/-- An operation that makes memory. -/
theorem y_make (hw : Region.wanted o (yielded ops a.tmps) = true)
    (hv : ∀ (w : World), D w → ∀ (K : Act → World → Prop), (∀ a' w', Below w.heap.size w w' → walkMK r n P ops C Z p a' (fun x => Below w'.heap.size w' x) → K a' w') → o.wpIn (fenceOf r) n P a w K (fun _ _ _ => False)) : walkMK r n P ops C Z ((4, o) :: p) a D := by
  unfold walkMK stepP; rw [if_pos hw]
  exact fun w hD => hv w hD _ fun _ _ hb h => ⟨hb, h⟩
end
end Go.Proofs.YtdflmplmpjghdaaGreatDoor.H
