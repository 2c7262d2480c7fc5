/-
  A range over a function, the iterator told by the number of the round: what an iterator promises ('SeqN'), and the law for the statement that ranges over it.
-/
import Derived.Test.YtdflmplmpjghdaaGreatDoorKeep
import Derived.RangeFuncNested
import Derived.RangeFuncBound
import Derived.RangeFuncCalls
import Derived.RangeFuncLeaves
import Derived.OwnWalkIn
import Derived.TacticsInMore
import Derived.LoopNIn
import Derived.LoopIn
namespace Go.Proofs.YtdflmplmpjghdaaGreatDoor
open Go Go.RowKit
set_option linter.unusedVariables false
set_option linter.unusedSimpArgs false
set_option maxRecDepth 100000

/-! ### What a round leaves -/
theorem Keep.putObj (p : Nat → Prop) (w : World) (l : Nat) (o : Obj) (hl : p l) : Keep p w (w.putObj l o) := ⟨rfl, rfl, rfl, by simp, fun k _ hn => World.putObj_heap_other (fun e => hn (by rw [e]; exact hl))⟩
/-- .. and no cells of the types T have turned. -/
structure KeepT (p : Nat → Prop) (T : TypeId → Prop) (w w' : World) : Prop where
  keep : Keep p w w'
  typ : ∀ (k : Nat) (cs : Array Value) (t : TypeId) (fr : Nat × Nat), T t → w.heap[k]? = some (.cells cs t fr) → w'.heap[k]? = some (.cells cs t fr)
theorem KeepT.refl (p : Nat → Prop) (T : TypeId → Prop) (w : World) : KeepT p T w w := ⟨Keep.refl _ _, fun _ _ _ _ _ h => h⟩
theorem KeepT.trans {p : Nat → Prop} {T : TypeId → Prop} {a b c : World} (h : KeepT p T a b) (k : KeepT p T b c) : KeepT p T a c := ⟨h.keep.trans k.keep, fun i cs t fr ht hi => k.typ i cs t fr ht (h.typ i cs t fr ht hi)⟩
theorem KeepT.of_below {p : Nat → Prop} {T : TypeId → Prop} {w w' : World} (h : Below w.heap.size w w') : KeepT p T w w' := ⟨Keep.of_below h, fun _ _ _ _ _ hi => blk_below hi h⟩
theorem KeepT.putObj {p : Nat → Prop} {T : TypeId → Prop} {w : World} {l : Nat} {o : Obj} (o' : Obj) (hl : p l) (ho : w.heap[l]? = some o) (hc : o.isCells = false) : KeepT p T w (w.putObj l o') :=
  ⟨Keep.putObj p w l o' hl, fun k cs t fr _ hk => by
    by_cases e : k = l
    · subst e; rw [ho] at hk; cases hk; cases hc
    · exact (World.putObj_heap_other e).trans hk⟩
theorem KeepT.set {p : Nat → Prop} {T : TypeId → Prop} {w : World} {g : Nat} {cs : Array Value} {t : TypeId} {fr : Nat × Nat} (hg : w.heap[g]? = some (.cells cs t fr)) (ht : ¬ T t) (hp : p g) (o : Nat) (v : Value) : KeepT p T w (w.setCell ⟨g, o, none⟩ v) :=
  ⟨(Keep.set w ⟨g, o, none⟩ v).mono (fun k _ e => by rw [e]; exact hp), fun k cs' t' fr' ht' hk => by
    by_cases e : k = g
    · subst e
      rw [hg] at hk
      simp only [Option.some.injEq, Obj.cells.injEq] at hk
      rw [hk.2.1] at ht
      exact absurd ht' ht
    · exact heap_set_ne hk e v⟩
theorem KeepT.mono {p q : Nat → Prop} {T : TypeId → Prop} {w w' : World} (h : KeepT p T w w') (hp : ∀ k, k < w.heap.size → p k → q k) : KeepT q T w w' := ⟨h.keep.mono hp, h.typ⟩
theorem ownFrom_keepT {β : Type} {B : Nat} {p : Nat → Prop} {T : TypeId → Prop} {w0 : World} (hB : w0.heap.size ≤ B) : OwnFrom B (fun (_ : β) W => KeepT p T w0 W) := fun _ X Y row hs hg hr => by
  have key : ∀ k, k < w0.heap.size → Y.heap[k]? = X.heap[k]? := fun k hk => hg.block k (Nat.lt_of_lt_of_le hk hs.keep.size) (fun e => by have := (hr k e.symm).1; omega)
  exact ⟨⟨hg.os.trans hs.keep.os, hg.tape.trans hs.keep.tape, hg.output.trans hs.keep.output, Nat.le_trans hs.keep.size hg.size, fun k hk hn => (key k hk).trans (hs.keep.block k hk hn)⟩,
    fun k cs t fr ht hk => (key k (blk_lt hk)).trans (hs.typ k cs t fr ht hk)⟩
theorem ownFrom_keep {β : Type} {B : Nat} {p : Nat → Prop} {w0 : World} (hB : w0.heap.size ≤ B) : OwnFrom B (fun (_ : β) W => Keep p w0 W) := fun _ X Y row hs hg hr =>
  ⟨hg.os.trans hs.os, hg.tape.trans hs.tape, hg.output.trans hs.output, Nat.le_trans hs.size hg.size, fun k hk hn => by
    refine (hg.block k (Nat.lt_of_lt_of_le hk hs.size) (fun e => ?_)).trans (hs.block k hk hn)
    have := (hr k e.symm).1
    omega⟩
theorem ownFrom_blk {β : Type} (B : Nat) (g : β → Nat) (cs : β → Array Value) (t : TypeId) (fr : Nat × Nat) : OwnFrom B (fun (s : β) W => W.heap[g s]? = some (.cells (cs s) t fr)) := fun s X Y row hs hg hr => by
  refine (hg.block _ (blk_lt hs) (fun e => ?_)).trans hs
  obtain ⟨_, o, ho, hc⟩ := hr _ e.symm
  rw [hs] at ho
  cases ho
  cases hc
theorem OwnFrom.keepOf {β : Type} {B : Nat} {I : β → World → Prop} (h : OwnFrom B I) {s : β} {X Y : World} (hs : I s X) (hb : Below X.heap.size X Y) : I s Y :=
  h s X Y none hs ⟨hb.os, hb.tape, hb.output, hb.size, fun k hk _ => hb.block k hk⟩ (fun _ e => by cases e)
theorem OwnFrom.ex {β γ : Type} {B : Nat} {I : γ → β → World → Prop} (h : ∀ c, OwnFrom B (I c)) : OwnFrom B (fun s W => ∃ c, I c s W) := fun s X Y row ⟨c, hs⟩ hg hr => ⟨c, h c s X Y row hs hg hr⟩
theorem OwnFrom.pure {β : Type} (B : Nat) (p : β → Prop) : OwnFrom B (fun s (_ : World) => p s) := fun _ _ _ _ hs _ _ => hs
theorem ownFrom_size {β : Type} (B n : Nat) : OwnFrom B (fun (_ : β) W => n ≤ W.heap.size) := fun _ X Y row hs hg _ => Nat.le_trans hs hg.size
theorem OwnFrom.mono {β : Type} {B B' : Nat} {I : β → World → Prop} (h : OwnFrom B I) (hB : B ≤ B') : OwnFrom B' I := fun s X Y row hs hg hr => h s X Y row hs hg (fun r e => ⟨Nat.le_trans hB (hr r e).1, (hr r e).2⟩)

variable {P : Program}

theorem room_none {F : Fence} (hd : F.depth = none) (k : Nat) : F.room k := fun d h => by rw [hd] at h; cases h
theorem roundIn_any {F : Fence} (hd : F.depth = none) {m m' : Nat} {l : Nat} {f : FuncId} {tmps : Array Value} {assign body : Code} {w : World} {R : Ending → World → Prop}
    (h : RoundIn F m P l f tmps assign body w R) : RoundIn F m' P l f tmps assign body w R := ⟨h.1, fun c cs _ => h.2 c cs (room_none hd _)⟩

/-- A call of yield in round k, with these arguments: it goes on (true), or has left (false). -/
def YieldN (P : Program) (l : Nat) (args : Array Value) (W : World) (R : Bool → World → Prop) : Prop := YieldAt Fence.wide 0 P l args W fun e W' => ∃ b, e = .returned (.bool b) ∧ R b W'
theorem YieldN.mono {l : Nat} {args : Array Value} {W : World} {R R' : Bool → World → Prop} (h : YieldN P l args W R) (hr : ∀ b w, R b w → R' b w) : YieldN P l args W R' :=
  YieldAt.mono h fun e w ⟨b, he, hb⟩ => ⟨b, he, hr b w hb⟩

/-- What an iterator of N rounds promises: in round k it hands over arguments of which Args k tells; it keeps going till a round has left; between two rounds it leans on what lies outside p. -/
def SeqN (P : Program) (g : Nat) (lb : Array Value) (N : Nat) (Args : Nat → Array Value → World → Prop) (p : Nat → Prop) (T : TypeId → Prop) (w : World) : Prop :=
  ∀ (l : Nat) (J Jx : Nat → World → Prop) (W : World), Below w.heap.size w W → OwnFrom W.heap.size J → OwnFrom W.heap.size Jx →
    (∀ k args W1, k < N → J k W1 → Args k args W1 → YieldN P l args W1 fun b W' => KeepsFrom W.heap.size W1 W' ∧ if b = true then J (k + 1) W' ∧ KeepT p T W1 W' else Jx (k + 1) W') →
    J 0 W →
    Calls P g (#[.func (.yield l) #[] #[]] ++ lb) W fun e W' => (∃ v, e = .returned v) ∧ (J N W' ∨ ∃ k, k ≤ N ∧ Jx k W')

/-- How the body of round k may be left. -/
def roundN (B : Nat) (p : Nat → Prop) (T : TypeId → Prop) (I : Nat → World → Prop) (Ix : Code → Nat → World → Prop) (k : Nat) (W : World) : Exit → Act → World → Prop
  | .normal, _, W' => KeepsFrom B W W' ∧ KeepT p T W W' ∧ I (k + 1) W'
  | .ret, _, W' => KeepsFrom B W W' ∧ Ix .ret (k + 1) W'
  | .exit id, _, W' => KeepsFrom B W W' ∧ Ix (.exit id) (k + 1) W'
  | .goto t, _, W' => KeepsFrom B W W' ∧ Ix (.goto t) (k + 1) W'
  | .panic _, _, _ => False
  | .outgrown, _, _ => False

/-- **'for .. := range g { .. }'.** I k: between two rounds; A k args a': the loop's left sides have been given round k's arguments; Ix c k: a round has left by the jump c. -/
theorem wpIn_range {g : Operand} {ps : Array Tmp} {assign body : Code} {Q : Exit → Act → World → Prop} {a : Act} {w : World} {n : Nat}
    {gf : Nat} {lb : Array Value} (hg : a.eval g = .func (.func gf) #[] lb) (eg : ∀ args w, (callFunc gf args).run P w = .ok (.enter gf args) w)
    {N : Nat} {Args : Nat → Array Value → World → Prop} {p : Nat → Prop} {T : TypeId → Prop} (hseq : SeqN P gf lb N Args p T w) (hp : ∀ k, w.heap.size ≤ k → p k)
    (hps : ∀ k args W, Args k args W → args.size = ps.size)
    (I : Nat → World → Prop) (Ix : Code → Nat → World → Prop) (hI : OwnFrom w.heap.size I) (hIx : ∀ c, OwnFrom w.heap.size (Ix c)) (h0 : I 0 w)
    (A : Nat → Act → World → Prop) (hA : ∀ a', OwnFrom w.heap.size (fun k W => A k a' W))
    (hassign : ∀ (l k : Nat) (args : Array Value) (W : World) (K : Act → World → Prop), k < N → I k W → Args k args W → (∀ a' W', KeepsFrom w.heap.size W W' → KeepT p T W W' → I k W' → A k a' W' → K a' W') →
      assign.wpIn (Fence.wide.inRound l) n P (Exit.then K (fun _ _ _ => False)) { tmps := (ps.zip args).foldl (fun t (p, v) => t.setIfInBounds p v) a.tmps, defers := [] } W)
    (hbody : ∀ (l k : Nat) (a' : Act) (W : World), w.heap.size ≤ l → (∃ r, W.heap[l]? = some (.loop r)) → k < N → I k W → A k a' W → body.wpIn (Fence.wide.inRound l) n P (roundN w.heap.size p T I Ix k W) a' W)
    (hdone : ∀ (D : Nat) (W : World), w.heap.size ≤ D → I N W → W.heap[D]? = some (.deferred (some [])) → Q .normal { a with defers := { target := .collected D, args := #[] } :: a.defers } W)
    (hstop : ∀ (D : Nat) (c : Code) (k : Nat) (W : World), w.heap.size ≤ D → k ≤ N → Ix c k W → W.heap[D]? = some (.deferred (some [])) → c.wpIn Fence.wide n P Q { a with defers := { target := .collected D, args := #[] } :: a.defers } W) :
    (Code.rangeFunc g ps assign body).wpIn Fence.wide n P Q a w := by
  refine wpIn_rangeFunc ?_
  intro fn hfn
  obtain ⟨rec, hrec⟩ : ∃ rec : LoopState → Option Code → Loop, rec = fun st pe => { state := st, pending := pe, fn, tmps := a.tmps, params := ps, assign, body, defers := w.heap.size } := ⟨_, rfl⟩
  obtain ⟨W1, hW1⟩ : ∃ W1, (w.alloc (.deferred (some []))).alloc (.loop (rec .ready none)) = W1 := ⟨_, rfl⟩
  have hL1 : W1.heap[w.heap.size + 1]? = some (.loop (rec .ready none)) := by
    rw [← hW1]
    exact heap_new (by simp)
  have hK1 : W1.heap[w.heap.size]? = some (.deferred (some [])) := by
    rw [← hW1]
    exact heap_old (heap_new rfl)
  have hI1 : I 0 W1 := by rw [← hW1]; exact hI.alloc _ (hI.alloc _ h0)
  have hb1 : Below w.heap.size w W1 := by
    rw [← hW1]; exact ((Below.refl _ w).alloc (Nat.le_refl _) _).alloc (by simp) _
  have hz1 : W1.heap.size = w.heap.size + 2 := by rw [← hW1]; simp
  refine ⟨w.heap.size + 1, [{ target := .collected w.heap.size, args := #[] }], W1, { target := .fn (.func gf) lb, args := #[.func (.yield (w.heap.size + 1)) #[] #[]] }, W1, gf,
    #[.func (.yield (w.heap.size + 1)) #[] #[]] ++ lb, W1, ?_, ?_, ?_, ?_, (fun h => by cases h), ?_⟩
  · rw [← hW1, hrec]; exact run_enterLoop_outer _ _ _ _ _
  · simp only [resolve, hg]
    simp [go_sem]
  · intro f' hf'; exact trivial
  · simp [invoke, go_sem, eg]
  · rw [callsIn_wide]
    have turn : ∀ {X Y : World} {row : Option Nat} {k : Nat} {o : Obj}, X.grownBy Y row → (∀ r, row = some r → W1.heap.size ≤ r ∧ ∃ o : Obj, X.heap[r]? = some o ∧ o.isCells = false) → k < W1.heap.size → X.heap[k]? = some o → Y.heap[k]? = some o := fun {X Y row k o} hg hr hk ho =>
      (hg.block k (blk_lt ho) (fun e => by have := (hr k e.symm).1; omega)).trans ho
    have lift : ∀ {X : World} {row : Option Nat}, (∀ r, row = some r → W1.heap.size ≤ r ∧ ∃ o : Obj, X.heap[r]? = some o ∧ o.isCells = false) → (∀ r, row = some r → w.heap.size ≤ r ∧ ∃ o : Obj, X.heap[r]? = some o ∧ o.isCells = false) :=
      fun hr r e => ⟨by have := (hr r e).1; omega, (hr r e).2⟩
    refine (hseq (w.heap.size + 1)
      (fun k W => I k W ∧ W.heap[w.heap.size + 1]? = some (.loop (rec .ready none)) ∧ W.heap[w.heap.size]? = some (.deferred (some [])))
      (fun k W => ∃ c, Ix c k W ∧ W.heap[w.heap.size + 1]? = some (.loop (rec .done (some c))) ∧ W.heap[w.heap.size]? = some (.deferred (some [])))
      W1 hb1
      (fun s X Y row hs hg' hr => ⟨hI s X Y row hs.1 hg' (lift hr), turn hg' hr (by omega) hs.2.1, turn hg' hr (by omega) hs.2.2⟩)
      (fun s X Y row hs hg' hr => by
        obtain ⟨c, hc, hl, hk⟩ := hs
        exact ⟨c, hIx c s X Y row hc hg' (lift hr), turn hg' hr (by omega) hl, turn hg' hr (by omega) hk⟩)
      ?_ ⟨hI1, hL1, hK1⟩).mono ?_
    · -- one round
      rintro k args W hkN ⟨hi, hl, hk⟩ hargs
      have hy := run_yield (P := P) (args := args) hl (by rw [hrec]; exact hps k args W hargs)
      rw [hrec] at hy
      refine ⟨fn, _, assign, body, hy, roundIn_any rfl (m := n) (roundIn_of_wpIn trivial (hassign _ k args W _ hkN hi hargs ?_))⟩
      clear hy
      intro a' Wa hkfa hkpa hia hax
      have hla := hkfa.same _ _ (by omega) hl rfl
      have hka := hkfa.same _ _ (Nat.le_refl _) hk rfl
      refine ⟨_, run_beginRound hla (by rw [hrec]), ?_⟩
      have hl2 : (Wa.putObj (w.heap.size + 1) (.loop { rec .ready none with state := .busy })).heap[w.heap.size + 1]? = some (.loop { rec .ready none with state := .busy }) := World.putObj_heap_same (blk_lt hla)
      have hk2 : (Wa.putObj (w.heap.size + 1) (.loop { rec .ready none with state := .busy })).heap[w.heap.size]? = some (.deferred (some [])) := (World.putObj_heap_other (by omega)).trans hka
      refine wpIn_mono (hbody _ k a' _ (by omega) ⟨_, hl2⟩ hkN (hI.putObj _ hia (by omega) hla rfl) ((hA a').putObj _ hax (by omega) hla rfl)) ?_
      have fin : ∀ (jump : Option Code) (W3 : World), KeepsFrom w.heap.size (Wa.putObj (w.heap.size + 1) (.loop { rec .ready none with state := .busy })) W3 →
          (Instr.endRound (w.heap.size + 1) jump).run P W3 = .ok (.bool jump.isNone) (W3.putObj (w.heap.size + 1) (.loop (rec (if jump.isNone then .ready else .done) jump))) ∧
          W3.heap[w.heap.size + 1]? = some (.loop { rec .ready none with state := .busy }) ∧
          (W3.putObj (w.heap.size + 1) (.loop (rec (if jump.isNone then .ready else .done) jump))).heap[w.heap.size + 1]? = some (.loop (rec (if jump.isNone then .ready else .done) jump)) ∧
          (W3.putObj (w.heap.size + 1) (.loop (rec (if jump.isNone then .ready else .done) jump))).heap[w.heap.size]? = some (.deferred (some [])) := fun jump W3 hk3 => by
        have hl3 := hk3.same _ _ (by omega) hl2 rfl
        have := run_endRound (P := P) jump hl3
        rw [hrec] at this ⊢
        exact ⟨this, by rw [hrec] at hl3; exact hl3, World.putObj_heap_same (blk_lt hl3), (World.putObj_heap_other (by omega)).trans (hk3.same _ _ (Nat.le_refl _) hk2 rfl)⟩
      have out : ∀ (o' : Obj) (W3 : World), KeepsFrom w.heap.size (Wa.putObj (w.heap.size + 1) (.loop { rec .ready none with state := .busy })) W3 → KeepsFrom W1.heap.size W (W3.putObj (w.heap.size + 1) o') := fun o' W3 hk3 =>
        ⟨by have h1 := hkfa.size; have h2 := hk3.size; simp at h2 ⊢; omega, fun k o hk1 hh ho => by
          have h1 := hkfa.same k o (by omega) hh ho
          have h2 : (Wa.putObj (w.heap.size + 1) (.loop { rec .ready none with state := .busy })).heap[k]? = some o := (World.putObj_heap_other (by omega)).trans h1
          exact (World.putObj_heap_other (by omega)).trans (hk3.same k o (by omega) h2 ho)⟩
      rintro e a3 W3 hq
      cases e with
      | normal =>
        obtain ⟨hk3, hkp3, hi3⟩ := hq
        obtain ⟨hr, hl3, hl4, hk4⟩ := fin none W3 hk3
        refine ⟨_, _, hr, true, rfl, out _ _ hk3, ?_⟩
        show (_ ∧ _) ∧ _
        exact ⟨⟨hI.putObj _ hi3 (by omega) hl3 rfl, hl4, hk4⟩, (hkpa.trans ((KeepT.putObj _ (hp _ (by omega)) hla rfl).trans hkp3)).trans (KeepT.putObj _ (hp _ (by omega)) hl3 rfl)⟩
      | ret =>
        obtain ⟨hk3, hi3⟩ := hq
        obtain ⟨hr, hl3, hl4, hk4⟩ := fin (some .ret) W3 hk3
        exact ⟨_, _, hr, false, rfl, out _ _ hk3, .ret, (hIx _).putObj _ hi3 (by omega) hl3 rfl, hl4, hk4⟩
      | exit id =>
        obtain ⟨hk3, hi3⟩ := hq
        obtain ⟨hr, hl3, hl4, hk4⟩ := fin (some (.exit id)) W3 hk3
        exact ⟨_, _, hr, false, rfl, out _ _ hk3, .exit id, (hIx _).putObj _ hi3 (by omega) hl3 rfl, hl4, hk4⟩
      | goto t =>
        obtain ⟨hk3, hi3⟩ := hq
        obtain ⟨hr, hl3, hl4, hk4⟩ := fin (some (.goto t)) W3 hk3
        exact ⟨_, _, hr, false, rfl, out _ _ hk3, .goto t, (hIx _).putObj _ hi3 (by omega) hl3 rfl, hl4, hk4⟩
      | panic ch => exact hq.elim
      | outgrown => exact hq.elim
    · -- behind the iterator
      rintro e W2 ⟨⟨v, rfl⟩, (⟨hi, hl, hk⟩ | ⟨k, hkN, c, hi, hl, hk⟩)⟩
      · exact ⟨none, _, by have := run_endLoop (P := P) hl (by rw [hrec]; simp); rw [hrec] at this; exact this, hdone _ _ (Nat.le_refl _) (hI.putObj _ hi (by omega) hl rfl) ((World.putObj_heap_other (by omega)).trans hk)⟩
      · exact ⟨some c, _, by have := run_endLoop (P := P) hl (by rw [hrec]; simp); rw [hrec] at this; exact this, hstop _ c k _ (Nat.le_refl _) hkN ((hIx c).putObj _ hi (by omega) hl rfl) ((World.putObj_heap_other (by omega)).trans hk)⟩

theorem KeepsFrom.mono {B B' : Nat} {W W' : World} (h : KeepsFrom B W W') (hB : B ≤ B') : KeepsFrom B' W W' := ⟨h.size, fun k o hk hh ho => h.same k o (Nat.le_trans hB hk) hh ho⟩
theorem KeepsFrom.of_below (B : Nat) {W W' : World} (h : Below W.heap.size W W') : KeepsFrom B W W' := ⟨h.size, fun k o _ hh _ => blk_below hh h⟩
/-- A function whose body holds a range over a function: its contract, from its body. -/
theorem calls_of_marks {f : FuncId} {fn : Func} {c : Code} {args : Array Value} {w : World} {R : Ending → World → Prop} (n : Nat)
    (hf : P.funcs[f]? = some fn) (hb : fn.body = some c)
    (h : c.wpIn Fence.wide n P (bodyPostM Fence.wide n P fn R) { tmps := args ++ Array.replicate (fn.ntmps - args.size) undef, defers := [] } w) : Calls P f args w R :=
  callsIn_wide.1 (callsIn_of_wp_marks (n := n) hf hb trivial h)
end Go.Proofs.YtdflmplmpjghdaaGreatDoor
