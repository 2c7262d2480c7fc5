/-
  A region that draws its order: one walk along a path that the prover names serves every order. Each operation is of one of four kinds: 0: it yields one value in every world and leaves the world; 1: it yields one value in every world of the class, and the world at most grows;
  2: it lays a new block, whatever its number; 3: it does whatever it does, and must stand alone when it comes up.
-/
import Derived.StillTail
import Derived.WalkKit
namespace Go.Proofs.YtdflmplmpjghdaaGreatDoor
set_option linter.unusedVariables false
set_option linter.unusedSimpArgs false
set_option maxRecDepth 100000
open Go Go.RowKit

section
variable {P : Program} {ops : Array Oper} {md : Region.Mode} {C D : World → Prop}

/-- What the operation comes to is the value v, and a world of the class. -/
def GivesR (P : Program) (C : World → Prop) (v : Value) : Result Next → Prop
  | .ok (.value u) w' => u = v ∧ C w'
  | .ok .skip w' => undef = v ∧ C w'
  | .ok (.enter f args) w' => Calls P f args w' (fun e w'' => e = .returned v ∧ C w'')
  | .ok (.row row args) w' => Rows P row args w' (fun u w'' => u = v ∧ C w'')
  | _ => False

theorem gives_of_wp {o : Oper} {a : Act} {w : World} {v : Value} {d : Nat} (hd : o.dst = some d) (hlt : d < a.tmps.size)
    (h : o.wp P a w (fun a' w' => a'.tmps[d]? = some v ∧ a'.defers = a.defers ∧ C w') (fun _ _ _ => False)) : GivesR P C v ((execOp a.eval o).run P w) := by
  have hput : ∀ u, (a.put o.dst u).tmps[d]? = some u := fun u => by
    rw [hd]; simp [Act.put, hlt]
  unfold Oper.wp at h
  generalize (execOp a.eval o).run P w = r at *
  cases r with
  | ok n w' =>
    cases n <;> simp only [Oper.upon, GivesR] at h ⊢
    case value u => rw [hput] at h; exact ⟨Option.some.inj h.1, h.2.2⟩
    case skip => rw [hput] at h; exact ⟨Option.some.inj h.1, h.2.2⟩
    case enter f args =>
      refine h.mono fun e w'' he => ?_
      cases e with
      | returned u => simp only at he; rw [hput] at he; exact ⟨by rw [Option.some.inj he.1], he.2.2⟩
      | panicked c => exact he.elim
      | outgrown => obtain ⟨_, _, h⟩ := he; exact h.elim
    case row row args => refine h.mono fun u w'' he => ?_; rw [hput] at he; exact ⟨Option.some.inj he.1, he.2.2⟩
    case defer x =>
      obtain ⟨_, h2, _⟩ := h
      have h3 : (({ a with defers := x :: a.defers } : Act).put o.dst undef).defers = x :: a.defers := by cases o.dst <;> rfl
      rw [h3] at h2
      have := congrArg List.length h2
      simp at this
  | halt x w' => cases x <;> simp only [Oper.upon] at h

def Stable (D : World → Prop) : Prop := ∀ w w', D w → Below w.heap.size w w' → D w'
theorem Stable.and {D E : World → Prop} (h : Stable D) (k : Stable E) : Stable (fun w => D w ∧ E w) := fun _ _ hd hb => ⟨h _ _ hd.1 hb, k _ _ hd.2 hb⟩
theorem stable_blk (g : Nat) (ob : Obj) : Stable (fun w => w.heap[g]? = some ob) := fun _ _ hd hb => (hb.block g (Array.getElem?_eq_some_iff.1 hd).1).trans hd
theorem stable_below (B : Nat) (w0 : World) : Stable (fun w => Below B w0 w ∧ B ≤ w.heap.size) := fun _ _ hd hb => ⟨hd.1.trans (hb.mono hd.2), Nat.le_trans hd.2 hb.size⟩
theorem stable_true : Stable (fun _ => True) := fun _ _ _ _ => trivial

def GPure (P : Program) (o : Oper) (a : Act) (v : Value) : Prop := ∀ w, GivesR P (fun w' => w' = w) v ((execOp a.eval o).run P w)
def GQuiet (P : Program) (C : World → Prop) (o : Oper) (a : Act) (v : Value) : Prop := ∀ w, C w → GivesR P (fun w' => Below w.heap.size w w') v ((execOp a.eval o).run P w)
def GNew (P : Program) (o : Oper) (a : Act) (ob : Obj) : Prop := ∀ w, (execOp a.eval o).run P w = .ok (.value (.pointer (some ⟨w.heap.size, 0, none⟩))) (w.alloc ob)

/-- Operation i comes up. -/
def stepX (P : Program) (ops : Array Oper) (C : World → Prop) (tag : List Nat) (i : Nat) (K : Act → (World → Prop) → Prop) (a : Act) (D : World → Prop) : Prop :=
  match ops[i]? with
  | none => K a D
  | some o =>
    if Region.wanted o (yielded ops a.tmps) then
      match tag.getD i 3 with
      | 0 => ∃ v, GPure P o a v ∧ K (a.put o.dst v) D
      | 1 => ∃ v, GQuiet P C o a v ∧ Stable D ∧ (∀ w, D w → C w) ∧ K (a.put o.dst v) D
      | 2 => ∃ ob, GNew P o a ob ∧ Stable D ∧ ∀ g, (∃ w, D w ∧ w.heap.size = g) → K (a.put o.dst (.pointer (some ⟨g, 0, none⟩))) (fun w => D w ∧ w.heap[g]? = some ob)
      | 4 => ∀ w, D w → o.wp P a w (fun a' w' => Below w.heap.size w w' ∧ K a' (fun x => Below w'.heap.size w' x)) (fun _ _ _ => False)
      | _ => ∀ w, D w → o.wp P a w (fun a' w' => K a' (fun x => x = w')) (fun _ _ _ => False)
    else K (a.put o.dst undef) D

theorem wpFalse_mono {o : Oper} {a : Act} {w : World} {K K' : Act → World → Prop} {Q : Exit → Act → World → Prop} (h : ∀ a w, K a w → K' a w) (hh : o.wp P a w K (fun _ _ _ => False)) : o.wp P a w K' Q := by
  unfold Oper.wp at *
  generalize (execOp a.eval o).run P w = r at *
  cases r with
  | ok n w' =>
    cases n <;> simp only [Oper.upon] at hh ⊢
    case value u => exact h _ _ hh
    case skip => exact h _ _ hh
    case defer x => exact h _ _ hh
    case enter f args =>
      refine hh.mono fun e w'' he => ?_
      cases e with
      | returned u => exact h _ _ he
      | panicked c => exact he.elim
      | outgrown => obtain ⟨_, _, h⟩ := he; exact h.elim
    case row row args => exact hh.mono fun u w'' he => h _ _ he
  | halt x w' => cases x <;> simp only [Oper.upon] at hh

theorem stepX_mono {tag : List Nat} {i : Nat} {a : Act} {D : World → Prop} {K K' : Act → (World → Prop) → Prop} (h : ∀ a D, K a D → K' a D) (hh : stepX P ops C tag i K a D) : stepX P ops C tag i K' a D := by
  unfold stepX at *
  split
  · rename_i ho; simp only [ho] at hh; exact h _ _ hh
  · rename_i o ho
    simp only [ho] at hh
    split
    · rename_i hw
      simp only [hw, if_true] at hh
      split
      · rename_i ht; simp only [ht] at hh; obtain ⟨v, h1, h2⟩ := hh; exact ⟨v, h1, h _ _ h2⟩
      · rename_i ht; simp only [ht] at hh; obtain ⟨v, h1, h3, h4, h2⟩ := hh; exact ⟨v, h1, h3, h4, h _ _ h2⟩
      · rename_i ht; simp only [ht] at hh; obtain ⟨v, h1, h3, h2⟩ := hh; exact ⟨v, h1, h3, fun g hg => h _ _ (h2 g hg)⟩
      · rename_i ht; simp only [ht] at hh; exact fun w hw => wpFalse_mono (fun _ _ hk => ⟨hk.1, h _ _ hk.2⟩) (hh w hw)
      · rename_i h0 h1 h2 h4
        split at hh <;> first | exact absurd ‹_› h0 | exact absurd ‹_› h1 | exact absurd ‹_› h2 | exact absurd ‹_› h4 | exact fun w hw => wpFalse_mono (fun _ _ hk => h _ _ hk) (hh w hw)
    · rename_i hw; simp only [hw] at hh; exact h _ _ hh

theorem below_alloc_self (w : World) (ob : Obj) : Below w.heap.size w (w.alloc ob) := (Below.refl _ _).alloc (Nat.le_refl _) _

theorem wpOp_of_stepX {tag : List Nat} {i : Nat} {a : Act} {w : World} {K : Act → (World → Prop) → Prop} {K' : Act → World → Prop} {Q' : Exit → Act → World → Prop} (hD : D w) (h : ∀ a D w, D w → K a D → K' a w)
    (hh : stepX P ops C tag i K a D) : wpOp P ops Q' i K' a w := by
  unfold stepX at hh
  unfold wpOp
  split
  · rename_i ho; simp only [ho] at hh; exact h _ _ _ hD hh
  · rename_i o ho
    simp only [ho] at hh
    split
    · rename_i hw
      simp only [hw, if_true] at hh
      have fin : ∀ (E : World → Prop) (v : Value), GivesR P E v ((execOp a.eval o).run P w) → (∀ w', E w' → K' (a.put o.dst v) w') → o.wp P a w K' Q' := fun E v hg hk => by
        unfold Oper.wp
        generalize (execOp a.eval o).run P w = r at *
        cases r with
        | ok n w' =>
          cases n <;> simp only [GivesR] at hg <;> simp only [Oper.upon]
          case value u => obtain ⟨rfl, e2⟩ := hg; exact hk _ e2
          case skip => obtain ⟨rfl, e2⟩ := hg; exact hk _ e2
          case enter f args => exact hg.mono fun e w'' ⟨he, hw''⟩ => by subst he; exact hk _ hw''
          case row f args => exact hg.mono fun u w'' ⟨he, hw''⟩ => by subst he; exact hk _ hw''
        | halt x w' => simp only [GivesR] at hg
      left
      split at hh
      · obtain ⟨v, h1, h2⟩ := hh
        exact fin _ v (h1 w) fun w' e => by subst e; exact h _ _ _ hD h2
      · obtain ⟨v, h1, h3, h4, h2⟩ := hh
        exact fin _ v (h1 w (h4 w hD)) fun w' e => h _ _ _ (h3 _ _ hD e) h2
      · obtain ⟨ob, h1, h3, h2⟩ := hh
        unfold Oper.wp
        rw [h1 w]
        exact h _ _ _ ⟨h3 _ _ hD (below_alloc_self w ob), by show (w.heap.push ob)[_]? = _; simp⟩ (h2 w.heap.size ⟨w, hD, rfl⟩)
      · exact wpFalse_mono (fun a' w' hk => h _ (fun x => Below w'.heap.size w' x) w' (Below.refl _ _) hk.2) (hh w hD)
      · exact wpFalse_mono (fun a' w' hk => h _ (fun x => x = w') w' rfl hk) (hh w hD)
    · rename_i hw; simp only [hw] at hh; exact h _ _ _ hD hh

/-- Whatever order is picked from here on. -/
def wpX (P : Program) (md : Region.Mode) (ops : Array Oper) (C : World → Prop) (tag : List Nat) (Q : Exit → Act → World → Prop) : Nat → Array Bool → Act → (World → Prop) → Prop
  | 0, listed, a, D => Region.ready md ops listed = [] ∧ ∀ w, D w → Q .normal a w
  | f + 1, listed, a, D => Region.ready md ops listed ≠ [] ∧ ∀ i ∈ Region.ready md ops listed, stepX P ops C tag i (fun a' D' => wpX P md ops C tag Q f (listed.setIfInBounds i true) a' D') a D

theorem wpAny_of_wpX {tag : List Nat} {Q : Exit → Act → World → Prop} : ∀ (f : Nat) (listed : Array Bool) (a : Act) (D : World → Prop) (w : World), D w → wpX P md ops C tag Q f listed a D → wpAny P md ops Q f listed a w
  | 0, _, _, _, w, hD, h => ⟨h.1, h.2 w hD⟩
  | f + 1, _, _, _, w, hD, h => ⟨fun h0 => absurd h0 h.1, fun i hi => wpOp_of_stepX hD (fun a' D' w' hD' h' => wpAny_of_wpX f _ a' D' w' hD' h') (h.2 i hi)⟩

/-- The operation leaves v behind. -/
def LvX (P : Program) (ops : Array Oper) (C : World → Prop) (o : Oper) (t : Nat) (v : Value) (a : Act) (D : World → Prop) : Prop :=
  (Region.wanted o (yielded ops a.tmps) = true ∧ ((t = 0 ∧ GPure P o a v) ∨ (t = 1 ∧ GQuiet P C o a v ∧ Stable D ∧ ∀ w, D w → C w))) ∨ (Region.wanted o (yielded ops a.tmps) = false ∧ v = undef)

theorem LvX.step {tag : List Nat} {i : Nat} {o : Oper} {v : Value} {a : Act} {D : World → Prop} (hi : ops[i]? = some o) (hy : LvX P ops C o (tag.getD i 3) v a D) {K : Act → (World → Prop) → Prop} (h : K (a.put o.dst v) D) :
    stepX P ops C tag i K a D := by
  unfold stepX
  simp only [hi]
  rcases hy with ⟨hw, ⟨ht, hv⟩ | ⟨ht, hv, h1, h2⟩⟩ | ⟨hw, rfl⟩
  · simp only [hw, if_true, ht]; exact ⟨v, hv, h⟩
  · simp only [hw, if_true, ht]; exact ⟨v, hv, h1, h2, h⟩
  · simp only [hw, Bool.false_eq_true, if_false]; exact h

theorem LvX.of_same {o : Oper} {t : Nat} {v : Value} {a a' : Act} {D D' : World → Prop} (hy : LvX P ops C o t v a D) (he : execOp a'.eval o = execOp a.eval o)
    (hw : Region.wanted o (yielded ops a'.tmps) = Region.wanted o (yielded ops a.tmps)) (hD : t = 1 → Stable D → (∀ w, D w → C w) → Stable D' ∧ ∀ w, D' w → C w) : LvX P ops C o t v a' D' := by
  unfold LvX GPure GQuiet at *
  rw [he, hw]
  rcases hy with ⟨hw, ⟨ht, hv⟩ | ⟨ht, hv, h1, h2⟩⟩ | h
  · exact .inl ⟨hw, .inl ⟨ht, hv⟩⟩
  · exact .inl ⟨hw, .inr ⟨ht, hv, hD ht h1 h2⟩⟩
  · exact .inr h

theorem wp_put {oi oj : Oper} {v : Value} {a : Act} {w : World} (hsj : ∀ cs b, oj.op ≠ .select cs b) (h1 : ∀ d, oi.dst = some d → d ∉ oj.looksAt ops) (h2 : ∀ d, oi.dst = some d → oj.dst ≠ some d)
    {K : Act → World → Prop} {K' : Act → World → Prop} (hK : ∀ (a' : Act) (w' : World) (u : Value) (df : List Deferred), a' = ({ a with defers := df } : Act).put oj.dst u → K (a'.put oi.dst v) w' → K' a' w')
    (h : oj.wp P (a.put oi.dst v) w K (fun _ _ _ => False)) : oj.wp P a w K' (fun _ _ _ => False) := by
  unfold Oper.wp at *
  rw [execOp_put oj hsj a oi.dst v h1] at h
  generalize (execOp a.eval oj).run P w = r at *
  have key : ∀ (u : Value) (w' : World), K ((a.put oi.dst v).put oj.dst u) w' → K' (a.put oj.dst u) w' := fun u w' hk =>
    hK _ w' u a.defers rfl (by rw [← Act.put_comm a v u h2]; exact hk)
  cases r with
  | ok n w' =>
    cases n <;> simp only [Oper.upon] at h ⊢
    case value u => exact key u _ h
    case skip => exact key undef _ h
    case defer x =>
      refine hK _ w' undef (x :: a.defers) rfl ?_
      have e : ({ a.put oi.dst v with defers := x :: (a.put oi.dst v).defers } : Act) = ({ a with defers := x :: a.defers } : Act).put oi.dst v := by cases oi.dst <;> rfl
      rw [e] at h
      rw [← Act.put_comm _ v undef h2]
      exact h
    case enter f args =>
      refine h.mono fun e w'' he => ?_
      cases e with
      | returned u => exact key u _ he
      | panicked c => exact he
      | outgrown => exact he
    case row row args => exact h.mono fun u w'' he => key u _ he
  | halt x w' => cases x <;> simp only [Oper.upon] at h

theorem yielded_defers (a : Act) (df : List Deferred) : ({ a with defers := df } : Act).tmps = a.tmps := rfl

theorem stepX_put {tag : List Nat} {t j : Nat} {oi oj : Oper} {v : Value} (hj : ops[j]? = some oj) (hap : oi.apart ops oj = true)
    (hsi : ∀ cs b, oi.op ≠ .select cs b) (hsj : ∀ cs b, oj.op ≠ .select cs b) (htj : t = 1 → tag.getD j 3 = 0 ∨ tag.getD j 3 = 1 ∨ tag.getD j 3 = 2 ∨ tag.getD j 3 = 4)
    {K : Act → (World → Prop) → Prop} {a : Act} {D : World → Prop}
    (hy : LvX P ops C oi t v a D) (h : stepX P ops C tag j K (a.put oi.dst v) D) :
    stepX P ops C tag j (fun a' D' => LvX P ops C oi t v a' D' ∧ K (a'.put oi.dst v) D') a D := by
  obtain ⟨h1, h2, h3⟩ := Oper.apart_spec hap
  have keep : ∀ (a : Act) (D D' : World → Prop), LvX P ops C oi t v a D → (t = 1 → Stable D → (∀ w, D w → C w) → Stable D' ∧ ∀ w, D' w → C w) → ∀ u, LvX P ops C oi t v (a.put oj.dst u) D' := fun a D D' hy hD u =>
    hy.of_same (execOp_put oi hsi a oj.dst u h3) (wanted_put oi a oj.dst u h3) hD
  unfold stepX at *
  simp only [hj] at *
  rw [wanted_put oj a oi.dst v h1] at h
  split
  · rename_i hw
    simp only [hw, if_true] at h
    have ex : execOp (a.put oi.dst v).eval oj = execOp a.eval oj := execOp_put oj hsj a oi.dst v h1
    split
    · rename_i ht
      simp only [ht] at h
      obtain ⟨u, hu, hn⟩ := h
      unfold GPure at hu
      rw [ex] at hu
      exact ⟨u, hu, keep a D D hy (fun _ a b => ⟨a, b⟩) u, by rw [← Act.put_comm a v u h2]; exact hn⟩
    · rename_i ht
      simp only [ht] at h
      obtain ⟨u, hu, s1, s2, hn⟩ := h
      unfold GQuiet at hu
      rw [ex] at hu
      exact ⟨u, hu, s1, s2, keep a D D hy (fun _ a b => ⟨a, b⟩) u, by rw [← Act.put_comm a v u h2]; exact hn⟩
    · rename_i ht
      simp only [ht] at h
      obtain ⟨ob, hu, s1, hn⟩ := h
      unfold GNew at hu
      rw [ex] at hu
      exact ⟨ob, hu, s1, fun g hg => ⟨keep a D _ hy (fun _ a b => ⟨a.and (stable_blk g ob), fun w hw => b w hw.1⟩) _, by rw [← Act.put_comm a v _ h2]; exact hn g hg⟩⟩
    · rename_i ht
      simp only [ht] at h
      intro w hD
      refine wp_put hsj h1 h2 (fun a' w' u df ea hk => ⟨hk.1, ?_, hk.2⟩) (h w hD)
      subst ea
      refine hy.of_same ?_ ?_ (fun _ s1 s2 => ⟨fun x y hx hb => hx.trans (hb.mono hx.size), fun x hx => s2 _ (s1 _ _ hD (hk.1.trans (hx.mono hk.1.size)))⟩)
      · have e1 : execOp (({ a with defers := df } : Act).put oj.dst u).eval oi = execOp ({ a with defers := df } : Act).eval oi := execOp_put oi hsi _ oj.dst u h3
        rw [e1]
        have e2 : ({ a with defers := df } : Act).eval = a.eval := by funext x; cases x <;> rfl
        rw [e2]
      · have e1 := wanted_put oi ({ a with defers := df } : Act) oj.dst u h3
        rw [e1]
    · rename_i t0 t1 t2 t4
      have ht : t ≠ 1 := fun e => by rcases htj e with h | h | h | h <;> first | exact t0 h | exact t1 h | exact t2 h | exact t4 h
      split at h
      · exact absurd ‹_› t0
      · exact absurd ‹_› t1
      · exact absurd ‹_› t2
      · exact absurd ‹_› t4
      · intro w hD
        refine wp_put hsj h1 h2 (fun a' w' u df ea hk => ⟨?_, hk⟩) (h w hD)
        subst ea
        refine hy.of_same ?_ ?_ (fun e => absurd e ht)
        · have e1 : execOp (({ a with defers := df } : Act).put oj.dst u).eval oi = execOp ({ a with defers := df } : Act).eval oi := execOp_put oi hsi _ oj.dst u h3
          rw [e1]
          have e2 : ({ a with defers := df } : Act).eval = a.eval := by funext x; cases x <;> rfl
          rw [e2]
        · have e1 := wanted_put oi ({ a with defers := df } : Act) oj.dst u h3
          rw [e1]
  · rename_i hw
    simp only [hw] at h
    exact ⟨keep a D D hy (fun _ a b => ⟨a, b⟩) _, by rw [← Act.put_comm a v undef h2]; exact h⟩

/-- Operation j waits on i, through others too. -/
def waitsT (md : Region.Mode) (ops : Array Oper) : Nat → Nat → Nat → Bool
  | 0, j, i => Region.waitsFor md ops j i
  | f + 1, j, i => Region.waitsFor md ops j i || (List.range ops.size).any fun k => Region.waitsFor md ops j k && waitsT md ops f k i
/-- What is listed has all on which it waits listed. -/
def closedB (md : Region.Mode) (ops : Array Oper) (listed : Array Bool) : Bool :=
  (List.range ops.size).all fun j => !listed.getD j true || (List.range ops.size).all fun k => !Region.waitsFor md ops j k || listed.getD k true
def Cl (md : Region.Mode) (ops : Array Oper) (listed : Array Bool) : Prop := ∀ j k, j < ops.size → k < ops.size → listed.getD j true = true → Region.waitsFor md ops j k = true → listed.getD k true = true
theorem cl_of_closedB {listed : Array Bool} (h : closedB md ops listed = true) : Cl md ops listed := fun j k hj hk h1 h2 => by
  have h3 := List.all_eq_true.1 h j (List.mem_range.2 hj)
  rw [h1, Bool.not_true, Bool.false_or] at h3
  have h4 := List.all_eq_true.1 h3 k (List.mem_range.2 hk)
  rw [h2, Bool.not_true, Bool.false_or] at h4
  exact h4
theorem getD_up {listed : Array Bool} {k : Nat} (h : listed.getD k false = true) : listed.getD k true = true := by
  by_cases hk : k < listed.size
  · simp [hk] at h ⊢; exact h
  · simp [hk]
theorem Cl.trans {listed : Array Bool} (h : Cl md ops listed) : ∀ (f j i : Nat), j < ops.size → i < ops.size → listed.getD j true = true → waitsT md ops f j i = true → listed.getD i true = true
  | 0, j, i, hj, hi, hl, hw => h j i hj hi hl hw
  | f + 1, j, i, hj, hi, hl, hw => by
    unfold waitsT at hw
    simp only [Bool.or_eq_true, List.any_eq_true, Bool.and_eq_true, List.mem_range] at hw
    rcases hw with hw | ⟨k, hk, h1, h2⟩
    · exact h j i hj hi hl hw
    · exact h.trans f k i hk hi (h j k hj hk hl h1) h2
theorem Cl.ready {listed : Array Bool} (h : Cl md ops listed) {j : Nat} (hr : j ∈ Region.ready md ops listed) : ∀ (f i : Nat), i < ops.size → waitsT md ops f j i = true → listed.getD i true = true := by
  obtain ⟨_, oj, hoj, hall⟩ := mem_ready.1 hr
  have key : ∀ k, Region.waitsFor md ops j k = true → listed.getD k true = true := fun k hk => by
    obtain ⟨o', ho', e, he, hb, rfl⟩ := Region.waitsFor_spec hk
    obtain rfl : o' = oj := Option.some.inj (ho'.symm.trans hoj)
    exact getD_up (hall e he hb)
  intro f i hi hw
  cases f with
  | zero => exact key i hw
  | succ f =>
    unfold waitsT at hw
    simp only [Bool.or_eq_true, List.any_eq_true, Bool.and_eq_true, List.mem_range] at hw
    rcases hw with hw | ⟨k, hk, h1, h2⟩
    · exact key i hw
    · exact h.trans f k i hk hi (key k h1) h2
theorem Cl.set {listed : Array Bool} (h : Cl md ops listed) {j : Nat} (hr : j ∈ Region.ready md ops listed) : Cl md ops (listed.setIfInBounds j true) := fun a k ha hk h1 h2 => by
  have up : listed.getD k true = true → (listed.setIfInBounds j true).getD k true = true := fun hl => by
    by_cases e : j = k
    · subst e
      by_cases hs : j < listed.size <;> simp [hs]
    · rw [getD_set_ne true e]; exact hl
  by_cases e : j = a
  · subst e
    exact up (h.ready hr 0 k hk h2)
  · rw [getD_set_ne true e] at h1
    exact up (h a k ha hk h1 h2)

/-- An operation of kind 0 or 1 that may come up now may be taken first. -/
theorem wpX_first {tag : List Nat} {i : Nat} {oi : Oper} {v : Value} {Q : Exit → Act → World → Prop} (hi : ops[i]? = some oi) (hsel : ∀ (j : Nat) (o : Oper) cs b, ops[j]? = some o → o.op ≠ .select cs b) :
    ∀ (f : Nat) (listed : Array Bool) (a : Act) (D : World → Prop),
      (∀ j oj, ops[j]? = some oj → j ≠ i → listed.getD j true = false → (∀ e ∈ oj.after, Region.binds md e = true → e.on ≠ i) →
        oi.apart ops oj = true ∧ (tag.getD i 3 = 1 → (tag.getD j 3 = 0 ∨ tag.getD j 3 = 1 ∨ tag.getD j 3 = 2 ∨ tag.getD j 3 = 4) ∨ waitsT md ops 4 j i = true)) →
      (tag.getD i 3 = 1 → Cl md ops listed) →
      i ∈ Region.ready md ops listed → LvX P ops C oi (tag.getD i 3) v a D →
      wpX P md ops C tag Q f (listed.setIfInBounds i true) (a.put oi.dst v) D → wpX P md ops C tag Q (f + 1) listed a D := by
  intro f
  induction f with
  | zero =>
    intro listed a D _ hcl hr hy H
    refine ⟨fun h => (by rw [h] at hr; cases hr), fun j hj => ?_⟩
    by_cases hji : j = i
    · subst hji; exact hy.step hi H
    · have := ready_mono hj hji
      rw [H.1] at this
      cases this
  | succ f ih =>
    intro listed a D hfree hcl hr hy H
    have hun := (mem_ready.1 hr).1
    refine ⟨fun h => (by rw [h] at hr; cases hr), fun j hj => ?_⟩
    by_cases hji : j = i
    · subst hji; exact hy.step hi H
    · have h1 := H.2 j (ready_mono hj hji)
      obtain ⟨hjun, oj, hoj, hall⟩ := mem_ready.1 hj
      have hnot : ∀ e ∈ oj.after, Region.binds md e = true → e.on ≠ i := fun e he hb heq => by
        have h1 := hall e he hb
        rw [heq, getD_both hun] at h1
        cases h1
      have hf := hfree j oj hoj hji hjun hnot
      have h2 := stepX_put hoj hf.1 (fun cs b => hsel i oi cs b hi) (fun cs b => hsel j oj cs b hoj) (fun h1 => (hf.2 h1).resolve_right fun hw => by
        have := (hcl h1).ready hj 4 i (Array.getElem?_eq_some_iff.1 hi).1 hw
        rw [hun] at this
        cases this) hy h1
      have hfree' : ∀ k ok, ops[k]? = some ok → k ≠ i → (listed.setIfInBounds j true).getD k true = false →
          (∀ e ∈ ok.after, Region.binds md e = true → e.on ≠ i) → oi.apart ops ok = true ∧ (tag.getD i 3 = 1 → (tag.getD k 3 = 0 ∨ tag.getD k 3 = 1 ∨ tag.getD k 3 = 2 ∨ tag.getD k 3 = 4) ∨ waitsT md ops 4 k i = true) := fun k ok hk hki hun hno => by
        refine hfree k ok hk hki ?_ hno
        by_cases hjk : j = k
        · subst hjk; exact hjun
        · rw [getD_set_ne true hjk] at hun; exact hun
      refine stepX_mono (fun a' D' h3 => ih (listed.setIfInBounds j true) a' D' hfree' (fun h1 => (hcl h1).set hj) (ready_mono hr (Ne.symm hji)) h3.1 ?_) h2
      rw [Array.setIfInBounds_comm _ _ hji]
      exact h3.2

/-- The walk along the path. -/
def walkX (P : Program) (ops : Array Oper) (C : World → Prop) (tag : List Nat) (Q : Exit → Act → World → Prop) : List Nat → Act → (World → Prop) → Prop
  | [], a, D => ∀ w, D w → Q .normal a w
  | i :: p, a, D => stepX P ops C tag i (fun a' D' => walkX P ops C tag Q p a' D') a D

def tagOk (md : Region.Mode) (ops : Array Oper) (tag : List Nat) (listed : Array Bool) (i : Nat) : Bool :=
  closedB md ops listed && (List.range ops.size).all fun j => tag.getD j 3 == 0 || tag.getD j 3 == 1 || tag.getD j 3 == 2 || tag.getD j 3 == 4 || waitsT md ops 4 j i

/-- May the path be gone? -/
def pathX (md : Region.Mode) (ops : Array Oper) (tag : List Nat) : List Nat → Array Bool → Bool
  | [], listed => (Region.ready md ops listed).isEmpty
  | i :: p, listed =>
    ((decide (Region.ready md ops listed = [i])) ||
     ((Region.ready md ops listed).contains i && Region.free md ops listed i && (tag.getD i 3 == 0 || (tag.getD i 3 == 1 && tagOk md ops tag listed i)))) && pathX md ops tag p (listed.setIfInBounds i true)

theorem wpX_of_walkX {tag : List Nat} {Q : Exit → Act → World → Prop} (hs : Region.noSelect ops = true) : ∀ (p : List Nat) (listed : Array Bool) (a : Act) (D : World → Prop),
    pathX md ops tag p listed = true → walkX P ops C tag Q p a D → wpX P md ops C tag Q p.length listed a D
  | [], listed, a, D, hB, h => ⟨by simpa [pathX] using hB, h⟩
  | i :: p, listed, a, D, hB, h => by
    simp only [pathX, Bool.and_eq_true, Bool.or_eq_true, decide_eq_true_eq] at hB
    obtain ⟨hB, hB'⟩ := hB
    have h' : stepX P ops C tag i (fun a' D' => wpX P md ops C tag Q p.length (listed.setIfInBounds i true) a' D') a D := stepX_mono (fun a' D' hk => wpX_of_walkX hs p _ a' D' hB' hk) h
    rcases hB with hB | ⟨⟨hr, hf⟩, ht⟩
    · exact ⟨by rw [hB]; simp, fun j hj => by rw [hB] at hj; have : j = i := by simpa using hj
                                              subst this; exact h'⟩
    · have hr' : i ∈ Region.ready md ops listed := by simpa using hr
      obtain ⟨hun, oi, hoi, hall⟩ := mem_ready.1 hr'
      have hfs := Region.free_spec hoi hf
      have fin : ∀ v, LvX P ops C oi (tag.getD i 3) v a D → wpX P md ops C tag Q p.length (listed.setIfInBounds i true) (a.put oi.dst v) D → wpX P md ops C tag Q (p.length + 1) listed a D := fun v hy hk =>
        wpX_first hoi (Region.noSelect_spec hs) p.length listed a D (fun j oj hoj hji hjun hno => ⟨hfs j oj hoj hji hjun hno, fun h1 => by
          rcases ht with ht | ⟨_, ht⟩
          · rw [h1] at ht; cases ht
          · unfold tagOk at ht
            rw [Bool.and_eq_true] at ht
            have hjs : j < ops.size := (Array.getElem?_eq_some_iff.1 hoj).1
            have h2 := List.all_eq_true.1 ht.2 j (List.mem_range.2 hjs)
            simp only [Bool.or_eq_true, beq_iff_eq] at h2
            rcases h2 with (((h2 | h2) | h2) | h2) | h2
            · exact .inl (.inl h2)
            · exact .inl (.inr (.inl h2))
            · exact .inl (.inr (.inr (.inl h2)))
            · exact .inl (.inr (.inr (.inr h2)))
            · exact .inr h2⟩) (fun h1 => by
          rcases ht with ht | ⟨_, ht⟩
          · rw [h1] at ht; cases ht
          · unfold tagOk at ht
            rw [Bool.and_eq_true] at ht
            exact cl_of_closedB ht.1) hr' hy hk
      unfold stepX at h'
      simp only [hoi] at h'
      by_cases hw : Region.wanted oi (yielded ops a.tmps) = true
      · simp only [hw, if_true] at h'
        rcases ht with ht | ⟨ht, _⟩ <;> simp only [beq_iff_eq] at ht <;> rw [ht] at h'
        · obtain ⟨v, h1, h2⟩ := h'
          exact fin v (.inl ⟨hw, .inl ⟨ht, h1⟩⟩) h2
        · obtain ⟨v, h1, h3, h4, h2⟩ := h'
          exact fin v (.inl ⟨hw, .inr ⟨ht, h1, h3, h4⟩⟩) h2
      · simp only [hw] at h'
        exact fin undef (.inr ⟨by simpa using hw, rfl⟩) h'

/-- One operation, written out. -/
def stepO (P : Program) (ops : Array Oper) (C : World → Prop) (t : Nat) (o : Oper) (K : Act → (World → Prop) → Prop) (a : Act) (D : World → Prop) : Prop :=
  if Region.wanted o (yielded ops a.tmps) then
    match t with
    | 0 => ∃ v, GPure P o a v ∧ K (a.put o.dst v) D
    | 1 => ∃ v, GQuiet P C o a v ∧ Stable D ∧ (∀ w, D w → C w) ∧ K (a.put o.dst v) D
    | 2 => ∃ ob, GNew P o a ob ∧ Stable D ∧ ∀ g, (∃ w, D w ∧ w.heap.size = g) → K (a.put o.dst (.pointer (some ⟨g, 0, none⟩))) (fun w => D w ∧ w.heap[g]? = some ob)
    | 4 => ∀ w, D w → o.wp P a w (fun a' w' => Below w.heap.size w w' ∧ K a' (fun x => Below w'.heap.size w' x)) (fun _ _ _ => False)
    | _ => ∀ w, D w → o.wp P a w (fun a' w' => K a' (fun x => x = w')) (fun _ _ _ => False)
  else K (a.put o.dst undef) D

/-- The walk along the path, its operations written out, up to a continuation. -/
def walkLK (P : Program) (ops : Array Oper) (C : World → Prop) (Z : Act → (World → Prop) → Prop) : List (Nat × Oper) → Act → (World → Prop) → Prop
  | [], a, D => Z a D
  | x :: p, a, D => stepO P ops C x.1 x.2 (fun a' D' => walkLK P ops C Z p a' D') a D
/-- .. to the region's end. -/
abbrev walkL (P : Program) (ops : Array Oper) (C : World → Prop) (Q : Exit → Act → World → Prop) (p : List (Nat × Oper)) (a : Act) (D : World → Prop) : Prop :=
  walkLK P ops C (fun a D => ∀ w, D w → Q .normal a w) p a D
def walkXK (P : Program) (ops : Array Oper) (C : World → Prop) (tag : List Nat) (Z : Act → (World → Prop) → Prop) : List Nat → Act → (World → Prop) → Prop
  | [], a, D => Z a D
  | i :: p, a, D => stepX P ops C tag i (fun a' D' => walkXK P ops C tag Z p a' D') a D
theorem walkX_of_walkXK {tag : List Nat} {Q : Exit → Act → World → Prop} : ∀ (p : List Nat) (a : Act) (D : World → Prop), walkXK P ops C tag (fun a D => ∀ w, D w → Q .normal a w) p a D → walkX P ops C tag Q p a D
  | [], _, _, h => h
  | i :: p, a, D, h => stepX_mono (fun a' D' hk => walkX_of_walkXK p a' D' hk) h

theorem walkXK_of_walkLK {tag : List Nat} {Z Z' : Act → (World → Prop) → Prop} (hZ : ∀ a D, Z a D → Z' a D) {l : List Oper} : ∀ (p : List Nat) (a : Act) (D : World → Prop), (p.all fun i => decide (i < l.length)) = true →
    walkLK P l.toArray C Z (p.map fun i => (tag.getD i 3, l.getD i default)) a D → walkXK P l.toArray C tag Z' p a D
  | [], _, _, _, h => hZ _ _ h
  | i :: p, a, D, hp, h => by
    simp only [List.all_cons, Bool.and_eq_true, decide_eq_true_eq] at hp
    have ih := fun a' D' => walkXK_of_walkLK (tag := tag) hZ p a' D' hp.2
    unfold walkXK
    unfold stepX
    have hi : l.toArray[i]? = some (l.getD i default) := by
      simp [hp.1]
    simp only [hi]
    simp only [List.map_cons, walkLK, stepO] at h
    split
    · rename_i hw
      rw [if_pos hw] at h
      split
      · rename_i ht; simp only [ht] at h; obtain ⟨v, h1, h2⟩ := h; exact ⟨v, h1, ih _ _ h2⟩
      · rename_i ht; simp only [ht] at h; obtain ⟨v, h1, h3, h4, h2⟩ := h; exact ⟨v, h1, h3, h4, ih _ _ h2⟩
      · rename_i ht; simp only [ht] at h; obtain ⟨v, h1, h3, h2⟩ := h; exact ⟨v, h1, h3, fun g hg => ih _ _ (h2 g hg)⟩
      · rename_i ht; simp only [ht] at h; exact fun w hw => wpFalse_mono (fun _ _ hk => ⟨hk.1, ih _ _ hk.2⟩) (h w hw)
      · rename_i h0 h1 h2 h4
        split at h <;> first | exact absurd ‹_› h0 | exact absurd ‹_› h1 | exact absurd ‹_› h2 | exact absurd ‹_› h4 | exact fun w hw => wpFalse_mono (fun _ _ hk => ih _ _ hk) (h w hw)
    · rename_i hw
      rw [if_neg hw] at h
      exact ih _ _ h
theorem walkX_of_walkL {tag : List Nat} {Q : Exit → Act → World → Prop} {l : List Oper} (p : List Nat) (a : Act) (D : World → Prop) (hp : (p.all fun i => decide (i < l.length)) = true)
    (h : walkL P l.toArray C Q (p.map fun i => (tag.getD i 3, l.getD i default)) a D) : walkX P l.toArray C tag Q p a D := walkX_of_walkXK p a D (walkXK_of_walkLK (fun _ _ h => h) p a D hp h)

/-- **ONE WALK ALONG ONE PATH SERVES EVERY ORDER.** C: the class in which the operations of kind 1 yield their values; it is also what is known of the world as the region begins. -/
theorem wp_region_x {id : Nat} {Q : Exit → Act → World → Prop} {a : Act} {w : World} {l : List Oper} (p tag : List Nat) (C : World → Prop) (hm : P.follows .mixedOrders = true)
    (hB : (Region.noSelect l.toArray && decide (p.length = l.length) && pathX .any l.toArray tag p (Array.replicate l.length false) && p.all fun i => decide (i < l.length)) = true)
    (hC : C w.drew) (h : walkL P l.toArray C Q (p.map fun i => (tag.getD i 3, l.getD i default)) a C) : (Code.region id l.toArray true).wp P Q a w := by
  simp only [Bool.and_eq_true, decide_eq_true_eq] at hB
  obtain ⟨⟨⟨hs, hl⟩, hp⟩, hall⟩ := hB
  refine wp_region_any hm ?_
  have := wpAny_of_wpX (md := .any) (C := C) (tag := tag) _ _ _ C w.drew hC (wpX_of_walkX (md := .any) hs p _ a C hp (walkX_of_walkL p a C hall h))
  rw [hl] at this
  simpa using this

/-! ### A fork: where several operations that are not free come up together, each order is walked -/

/-- The path may be gone; what is listed behind it. -/
def stepsX (md : Region.Mode) (ops : Array Oper) (tag : List Nat) : List Nat → Array Bool → Option (Array Bool)
  | [], listed => some listed
  | i :: p, listed =>
    if ((decide (Region.ready md ops listed = [i])) ||
     ((Region.ready md ops listed).contains i && Region.free md ops listed i && (tag.getD i 3 == 0 || (tag.getD i 3 == 1 && tagOk md ops tag listed i)))) = true then stepsX md ops tag p (listed.setIfInBounds i true) else none

theorem wpX_of_pre {tag : List Nat} {Q : Exit → Act → World → Prop} (hs : Region.noSelect ops = true) {Z : Act → (World → Prop) → Prop} {f : Nat} {l1 : Array Bool} (hZ : ∀ a D, Z a D → wpX P md ops C tag Q f l1 a D) :
    ∀ (p : List Nat) (listed : Array Bool) (a : Act) (D : World → Prop), stepsX md ops tag p listed = some l1 → walkXK P ops C tag Z p a D → wpX P md ops C tag Q (p.length + f) listed a D
  | [], listed, a, D, hB, h => by
    simp only [stepsX, Option.some.injEq] at hB
    subst hB
    simpa using hZ a D h
  | i :: p, listed, a, D, hB, h => by
    unfold stepsX at hB
    split at hB
    · rename_i hc
      simp only [Bool.and_eq_true, Bool.or_eq_true, decide_eq_true_eq] at hc
      have h' : stepX P ops C tag i (fun a' D' => wpX P md ops C tag Q (p.length + f) (listed.setIfInBounds i true) a' D') a D := stepX_mono (fun a' D' hk => wpX_of_pre hs hZ p _ a' D' hB hk) h
      rw [show (i :: p).length + f = (p.length + f) + 1 by simp; omega]
      rcases hc with hc | ⟨⟨hr, hf⟩, ht⟩
      · exact ⟨by rw [hc]; simp, fun j hj => by rw [hc] at hj; have : j = i := by simpa using hj
                                                subst this; exact h'⟩
      · have hr' : i ∈ Region.ready md ops listed := by simpa using hr
        obtain ⟨hun, oi, hoi, hall⟩ := mem_ready.1 hr'
        have hfs := Region.free_spec hoi hf
        have fin : ∀ v, LvX P ops C oi (tag.getD i 3) v a D → wpX P md ops C tag Q (p.length + f) (listed.setIfInBounds i true) (a.put oi.dst v) D → wpX P md ops C tag Q (p.length + f + 1) listed a D := fun v hy hk =>
          wpX_first hoi (Region.noSelect_spec hs) (p.length + f) listed a D (fun j oj hoj hji hjun hno => ⟨hfs j oj hoj hji hjun hno, fun h1 => by
            rcases ht with ht | ⟨_, ht⟩
            · rw [h1] at ht; cases ht
            · unfold tagOk at ht
              rw [Bool.and_eq_true] at ht
              have hjs : j < ops.size := (Array.getElem?_eq_some_iff.1 hoj).1
              have h2 := List.all_eq_true.1 ht.2 j (List.mem_range.2 hjs)
              simp only [Bool.or_eq_true, beq_iff_eq] at h2
              rcases h2 with (((h2 | h2) | h2) | h2) | h2
              · exact .inl (.inl h2)
              · exact .inl (.inr (.inl h2))
              · exact .inl (.inr (.inr (.inl h2)))
              · exact .inl (.inr (.inr (.inr h2)))
              · exact .inr h2⟩) (fun h1 => by
            rcases ht with ht | ⟨_, ht⟩
            · rw [h1] at ht; cases ht
            · unfold tagOk at ht
              rw [Bool.and_eq_true] at ht
              exact cl_of_closedB ht.1) hr' hy hk
        unfold stepX at h'
        simp only [hoi] at h'
        by_cases hw : Region.wanted oi (yielded ops a.tmps) = true
        · simp only [hw, if_true] at h'
          rcases ht with ht | ⟨ht, _⟩ <;> simp only [beq_iff_eq] at ht <;> rw [ht] at h'
          · obtain ⟨v, h1, h2⟩ := h'
            exact fin v (.inl ⟨hw, .inl ⟨ht, h1⟩⟩) h2
          · obtain ⟨v, h1, h3, h4, h2⟩ := h'
            exact fin v (.inl ⟨hw, .inr ⟨ht, h1, h3, h4⟩⟩) h2
        · simp only [hw] at h'
          exact fin undef (.inr ⟨by simpa using hw, rfl⟩) h'
    · cases hB

def forkOk (md : Region.Mode) (ops : Array Oper) (tag p : List Nat) (qs : List (List Nat)) (n : Nat) (listed : Array Bool) : Bool :=
  match stepsX md ops tag p listed with
  | none => false
  | some l1 => decide (Region.ready md ops l1 = qs.map (·.headD 0)) && !qs.isEmpty && qs.all fun q => q.length == n + 1 && pathX md ops tag q.tail (l1.setIfInBounds (q.headD 0) true)

theorem wp_region_f {id : Nat} {Q : Exit → Act → World → Prop} {a : Act} {w : World} {l : List Oper} (p tag : List Nat) (qs : List (List Nat)) (n : Nat) (C : World → Prop) (hm : P.follows .mixedOrders = true)
    (hB : (Region.noSelect l.toArray && decide (p.length + (n + 1) = l.length) && forkOk .any l.toArray tag p qs n (Array.replicate l.length false) && p.all (fun i => decide (i < l.length)) && qs.all fun q => q.all fun i => decide (i < l.length)) = true)
    (hC : C w.drew) (h : walkLK P l.toArray C (fun a D => ∀ q ∈ qs, walkL P l.toArray C Q (q.map fun i => (tag.getD i 3, l.getD i default)) a D) (p.map fun i => (tag.getD i 3, l.getD i default)) a C) : (Code.region id l.toArray true).wp P Q a w := by
  simp only [Bool.and_eq_true, decide_eq_true_eq] at hB
  obtain ⟨⟨⟨⟨hs, hl⟩, hf⟩, hp⟩, hq⟩ := hB
  refine wp_region_any hm ?_
  unfold forkOk at hf
  split at hf
  · cases hf
  · rename_i l1 hl1
    simp only [Bool.and_eq_true, decide_eq_true_eq] at hf
    obtain ⟨⟨hr, hne⟩, hall⟩ := hf
    have key : ∀ a D, (∀ q ∈ qs, walkX P l.toArray C tag Q q a D) → wpX P .any l.toArray C tag Q (n + 1) l1 a D := fun a D hk => by
      refine ⟨?_, fun i hi => ?_⟩
      · rw [hr]
        intro h0
        rw [List.map_eq_nil_iff] at h0
        rw [h0] at hne
        simp at hne
      · rw [hr] at hi
        obtain ⟨q, hqm, hqi⟩ := List.mem_map.1 hi
        have h1 := hk q hqm
        have h2 := List.all_eq_true.1 hall q hqm
        simp only [Bool.and_eq_true, beq_iff_eq] at h2
        match q, h2, hqi, h1 with
        | j :: q', ⟨h3, h4⟩, hqi, h1 =>
          simp only [List.headD_cons] at hqi
          subst hqi
          have h5 : q'.length = n := by simpa using h3
          refine stepX_mono (fun a' D' hk' => ?_) h1
          have := wpX_of_walkX (md := .any) hs q' _ a' D' (by simpa using h4) hk'
          rw [h5] at this
          exact this
    have := wpAny_of_wpX (md := .any) (C := C) (tag := tag) _ _ _ C w.drew hC (wpX_of_pre (md := .any) hs key p _ a C hl1 (walkXK_of_walkLK (fun a D hk q hqm => walkX_of_walkL q a D (List.all_eq_true.1 hq q hqm) (hk q hqm)) p a C hp h))
    rw [hl] at this
    simpa using this

/-- Two operations come up together: each order is walked. -/
theorem wpX_fork2 {tag : List Nat} {l : List Oper} {f i j : Nat} {listed : Array Bool} {a : Act} {D : World → Prop} {Q : Exit → Act → World → Prop} (hr : Region.ready md l.toArray listed = [i, j]) (hi : (decide (i < l.length) && decide (j < l.length)) = true)
    (h1 : walkLK P l.toArray C (fun a' D' => wpX P md l.toArray C tag Q f (listed.setIfInBounds i true) a' D') [(tag.getD i 3, l.getD i default)] a D)
    (h2 : walkLK P l.toArray C (fun a' D' => wpX P md l.toArray C tag Q f (listed.setIfInBounds j true) a' D') [(tag.getD j 3, l.getD j default)] a D) : wpX P md l.toArray C tag Q (f + 1) listed a D := by
  simp only [Bool.and_eq_true, decide_eq_true_eq] at hi
  have k1 := walkXK_of_walkLK (tag := tag) (fun _ _ h => h) [i] a D (by simp [hi.1]) h1
  have k2 := walkXK_of_walkLK (tag := tag) (fun _ _ h => h) [j] a D (by simp [hi.2]) h2
  refine ⟨by rw [hr]; simp, fun k hk => ?_⟩
  rw [hr] at hk
  simp only [List.mem_cons, List.not_mem_nil, or_false] at hk
  rcases hk with rfl | rfl
  · exact k1
  · exact k2

/-- From there on one path serves. -/
theorem wpX_tail {tag : List Nat} {l : List Oper} {listed : Array Bool} {a : Act} {D : World → Prop} {Q : Exit → Act → World → Prop} (p : List Nat) (n : Nat) (hB : (Region.noSelect l.toArray && decide (p.length = n) && pathX md l.toArray tag p listed && p.all fun i => decide (i < l.length)) = true)
    (h : walkL P l.toArray C Q (p.map fun i => (tag.getD i 3, l.getD i default)) a D) : wpX P md l.toArray C tag Q n listed a D := by
  simp only [Bool.and_eq_true, decide_eq_true_eq] at hB
  obtain ⟨⟨⟨hs, rfl⟩, hp⟩, hall⟩ := hB
  exact wpX_of_walkX hs p listed a D hp (walkX_of_walkL p a D hall h)

/-- A path first, then what comes up is told by the prover (wpX_fork2, wpX_tail). -/
theorem wp_region_p {id : Nat} {Q : Exit → Act → World → Prop} {a : Act} {w : World} {l : List Oper} (p tag : List Nat) (f : Nat) (l1 : Array Bool) (C : World → Prop) (hm : P.follows .mixedOrders = true)
    (hB : (Region.noSelect l.toArray && decide (p.length + f = l.length) && decide (stepsX .any l.toArray tag p (Array.replicate l.length false) = some l1) && p.all fun i => decide (i < l.length)) = true)
    (hC : C w.drew) (h : walkLK P l.toArray C (fun a D => wpX P .any l.toArray C tag Q f l1 a D) (p.map fun i => (tag.getD i 3, l.getD i default)) a C) : (Code.region id l.toArray true).wp P Q a w := by
  simp only [Bool.and_eq_true, decide_eq_true_eq] at hB
  obtain ⟨⟨⟨hs, hl⟩, hst⟩, hp⟩ := hB
  refine wp_region_any hm ?_
  have := wpAny_of_wpX (md := .any) (C := C) (tag := tag) _ _ _ C w.drew hC (wpX_of_pre (md := .any) hs (fun a D h => h) p _ a C hst (walkXK_of_walkLK (fun a D hk => hk) p a C hp h))
  rw [hl] at this
  simpa using this

/-! ### The steps -/
variable {Q : Exit → Act → World → Prop} {Z : Act → (World → Prop) → Prop} {a : Act} {o : Oper} {p : List (Nat × Oper)}
theorem x_nil (h : ∀ w, D w → Q .normal a w) : walkL P ops C Q [] a D := h
theorem x_end (h : Z a D) : walkLK P ops C Z [] a D := h
theorem x_skip {t : Nat} (hw : Region.wanted o (yielded ops a.tmps) = false) (h : walkLK P ops C Z p (a.put o.dst undef) D) : walkLK P ops C Z ((t, o) :: p) a D := by
  unfold walkLK stepO; rw [if_neg (by rw [hw]; exact Bool.false_ne_true)]; exact h
theorem x_pure (hw : Region.wanted o (yielded ops a.tmps) = true) (d : Nat) (v : Value) (hd : o.dst = some d) (hlt : d < a.tmps.size)
    (hv : ∀ (w : World) (K : Act → World → Prop), (∀ a' w', (a'.tmps[d]? = some v ∧ a'.defers = a.defers ∧ w' = w) → K a' w') → o.wp P a w K (fun _ _ _ => False))
    (h : walkLK P ops C Z p (a.put o.dst v) D) : walkLK P ops C Z ((0, o) :: p) a D := by
  unfold walkLK stepO; rw [if_pos hw]
  exact ⟨v, fun w => gives_of_wp (C := fun w' => w' = w) hd hlt (hv w _ fun _ _ h => h), h⟩
theorem x_quiet (hw : Region.wanted o (yielded ops a.tmps) = true) (hS : Stable D) (hDC : ∀ w, D w → C w) (d : Nat) (v : Value) (hd : o.dst = some d) (hlt : d < a.tmps.size)
    (hv : ∀ (w : World), C w → ∀ (K : Act → World → Prop), (∀ a' w', (a'.tmps[d]? = some v ∧ a'.defers = a.defers ∧ Below w.heap.size w w') → K a' w') → o.wp P a w K (fun _ _ _ => False))
    (h : walkLK P ops C Z p (a.put o.dst v) D) : walkLK P ops C Z ((1, o) :: p) a D := by
  unfold walkLK stepO; rw [if_pos hw]
  exact ⟨v, fun w hC => gives_of_wp (C := fun w' => Below w.heap.size w w') hd hlt (hv w hC _ fun _ _ h => h), hS, hDC, h⟩
theorem x_new (hw : Region.wanted o (yielded ops a.tmps) = true) (hS : Stable D) (ob : Obj)
    (hv : ∀ w, (execOp a.eval o).run P w = .ok (.value (.pointer (some ⟨w.heap.size, 0, none⟩))) (w.alloc ob))
    (h : ∀ g, (∃ w, D w ∧ w.heap.size = g) → walkLK P ops C Z p (a.put o.dst (.pointer (some ⟨g, 0, none⟩))) (fun w => D w ∧ w.heap[g]? = some ob)) : walkLK P ops C Z ((2, o) :: p) a D := by
  unfold walkLK stepO; rw [if_pos hw]
  exact ⟨ob, hv, hS, h⟩
theorem x_write (hw : Region.wanted o (yielded ops a.tmps) = true)
    (hv : ∀ (w : World), D w → ∀ (K : Act → World → Prop), (∀ a' w', walkLK P ops C Z p a' (fun x => x = w') → K a' w') → o.wp P a w K (fun _ _ _ => False)) : walkLK P ops C Z ((3, o) :: p) a D := by
  unfold walkLK stepO; rw [if_pos hw]
  exact fun w hD => hv w hD _ fun _ _ h => h
/-- An operation that makes memory. -/
theorem x_make (hw : Region.wanted o (yielded ops a.tmps) = true)
    (hv : ∀ (w : World), D w → ∀ (K : Act → World → Prop), (∀ a' w', Below w.heap.size w w' → walkLK P ops C Z p a' (fun x => Below w'.heap.size w' x) → K a' w') → o.wp P a w K (fun _ _ _ => False)) : walkLK P ops C Z ((4, o) :: p) a D := by
  unfold walkLK stepO; rw [if_pos hw]
  exact fun w hD => hv w hD _ fun _ _ hb h => ⟨hb, h⟩
end
end Go.Proofs.YtdflmplmpjghdaaGreatDoor
