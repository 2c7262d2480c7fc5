/-
  What entries come to: mix.All, tally.Of, tally.All and the reference's.
-/
import Derived.Test.YtjeaobknojmbpaaDoorOf
import Derived.Test.YtjeaobknojmbpaaDoorRof
namespace Go.Proofs.YtjeaobknojmbpaaDoor
open Go.ChangeShapes Go.WideShapes Go.ChangeAt Go.RowKit Go.Deep
set_option linter.unusedVariables false
set_option linter.unusedSimpArgs false

/-- An entry: its key, counter, node, value, and whether it is dead. -/
abbrev Ent := ByteArray × Int × Int × ByteArray × Bool
abbrev ev (k : ByteArray) (c n : Int) (v : ByteArray) (d : Bool) : Value := .agg #[.string k, .int .i64 c, .int .i64 n, .string v, .bool d]
/-- The entry lies at that cell. -/
def EntAt (w : World) (b o : Nat) (e : Ent) : Prop :=
  w.cell? ⟨b, o, none⟩ = some (.string e.1) ∧ w.cell? ⟨b, o + 1, none⟩ = some (.int .i64 e.2.1) ∧ w.cell? ⟨b, o + 2, none⟩ = some (.int .i64 e.2.2.1) ∧ w.cell? ⟨b, o + 3, none⟩ = some (.string e.2.2.2.1) ∧ w.cell? ⟨b, o + 4, none⟩ = some (.bool e.2.2.2.2)
/-- The slice at that address reads as these entries; no key is longer than a text may be. -/
def Ents (w : World) (oa : Option Addr) (l : List Ent) : Prop := ∀ k (h : k < l.length), ∃ b o, oa = some ⟨b, o, none⟩ ∧ EntAt w b (o + k * 5) l[k] ∧ l[k].1.size ≤ 140737488351232
theorem EntAt.lt {w : World} {b o : Nat} {e : Ent} (h : EntAt w b o e) : b < w.heap.size := cell_lt h.1
theorem EntAt.below {w w' : World} {B b o : Nat} {e : Ent} (h : EntAt w b o e) (hb : Below B w w') (hB : b < B) : EntAt w' b o e :=
  ⟨(hb.cell hB).trans h.1, (hb.cell hB).trans h.2.1, (hb.cell hB).trans h.2.2.1, (hb.cell hB).trans h.2.2.2.1, (hb.cell hB).trans h.2.2.2.2⟩
theorem Ents.below {w w' : World} {oa : Option Addr} {l : List Ent} (h : Ents w oa l) (hb : Below w.heap.size w w') : Ents w' oa l := fun k hk => by
  obtain ⟨b, o, h1, h2, h3⟩ := h k hk
  exact ⟨b, o, h1, h2.below hb h2.lt, h3⟩

def m0 (e : Ent) : Int := mix0 e.1 e.2.1 e.2.2.1
def m1 (e : Ent) : Int := mix1 e.1 e.2.1 e.2.2.1
def tot0 (l : List Ent) : Int := (l.map m0).sum
def tot1 (l : List Ent) : Int := (l.map m1).sum
theorem u64_add (a b : Int) : u64 (u64 a + b) = u64 (a + b) := by simp only [u64, IntKind.wrap, IntKind.signed, IntKind.bits]; simp
theorem tot0_take {l : List Ent} {k : Nat} (h : k < l.length) : tot0 (l.take (k + 1)) = tot0 (l.take k) + m0 l[k] := by
  unfold tot0; rw [List.take_succ_eq_append_getElem h, List.map_append, List.sum_append]; simp
theorem tot1_take {l : List Ent} {k : Nat} (h : k < l.length) : tot1 (l.take (k + 1)) = tot1 (l.take k) + m1 l[k] := by
  unfold tot1; rw [List.take_succ_eq_append_getElem h, List.map_append, List.sum_append]; simp

set_option maxHeartbeats 2000000 in
theorem tof_any (k : ByteArray) (c n : Int) (v : ByteArray) (d : Bool) (w : World) (hL : Lanes w) (hs : k.size ≤ 140737488351232) :
    Calls Tryd.prog 12 #[ev k c n v d] w fun e w' => e = .returned (tv 1 (mix0 k c n) (mix1 k c n)) ∧ Below w.heap.size w w' := by
  have hL0 := hL.lt
  have HL : Hid (Lanes w) := hL
  clear hL
  go_enter Tryd.func12, Tryd.ntmps12
  go_wp2_with fail
  have hb : Below w.heap.size w ((w.alloc (.cells #[.string k, .int .i64 c, .int .i64 n, .string v, .bool d] 32 (0, 0))).alloc (.cells #[.int .i64 0, .int .u64 0, .int .u64 0] 28 (0, 0))) := by (repeat (first | (with_reducible assumption) | (with_reducible exact Below.refl _ _) | (with_reducible refine heap_drew ?_) | (focus ((with_reducible refine heap_new ?_) ; simp ; done)) | (with_reducible apply heap_set_to) | (focus ((with_reducible refine heap_set_ne ?_ ?_ _) ; rotate_left ; (focus (first | omega | (simp ; done) | (simp ; omega))))) | (with_reducible refine heap_old ?_) | (with_reducible refine Below.drew ?_) | (with_reducible refine below_set ?_ _ _) | (focus ((with_reducible refine Below.setCell ?_ ?_ _) ; rotate_left ; (focus (first | omega | (simp ; done) | (simp ; omega))))) | (focus ((with_reducible refine Below.alloc ?_ ?_ _) ; rotate_left ; (focus (first | omega | (simp ; done) | (simp ; omega))))) | (with_reducible rfl) | (focus (simp ; done))))
  refine (of_any k c n _ (HL.out.below hb hL0) (by omega)).mono ?_
  rintro e w1 ⟨rfl, hb1⟩
  clear hb
  have g1 : w1.heap[w.heap.size + 1]? = some (.cells #[.int .i64 0, .int .u64 0, .int .u64 0] 28 (0, 0)) := blk_below (by (repeat (first | (with_reducible assumption) | (with_reducible exact Below.refl _ _) | (with_reducible refine heap_drew ?_) | (focus ((with_reducible refine heap_new ?_) ; simp ; done)) | (with_reducible apply heap_set_to) | (focus ((with_reducible refine heap_set_ne ?_ ?_ _) ; rotate_left ; (focus (first | omega | (simp ; done) | (simp ; omega))))) | (with_reducible refine heap_old ?_) | (with_reducible refine Below.drew ?_) | (with_reducible refine below_set ?_ _ _) | (focus ((with_reducible refine Below.setCell ?_ ?_ _) ; rotate_left ; (focus (first | omega | (simp ; done) | (simp ; omega))))) | (focus ((with_reducible refine Below.alloc ?_ ?_ _) ; rotate_left ; (focus (first | omega | (simp ; done) | (simp ; omega))))) | (with_reducible rfl) | (focus (simp ; done))))) hb1
  have hb : Below w.heap.size w w1 := below_back (by (repeat (first | (with_reducible assumption) | (with_reducible exact Below.refl _ _) | (with_reducible refine heap_drew ?_) | (focus ((with_reducible refine heap_new ?_) ; simp ; done)) | (with_reducible apply heap_set_to) | (focus ((with_reducible refine heap_set_ne ?_ ?_ _) ; rotate_left ; (focus (first | omega | (simp ; done) | (simp ; omega))))) | (with_reducible refine heap_old ?_) | (with_reducible refine Below.drew ?_) | (with_reducible refine below_set ?_ _ _) | (focus ((with_reducible refine Below.setCell ?_ ?_ _) ; rotate_left ; (focus (first | omega | (simp ; done) | (simp ; omega))))) | (focus ((with_reducible refine Below.alloc ?_ ?_ _) ; rotate_left ; (focus (first | omega | (simp ; done) | (simp ; omega))))) | (with_reducible rfl) | (focus (simp ; done))))) (by first | omega | (simp ; done) | (simp ; omega)) hb1
  clear hb1
  have hz := hb.size
  have q1 := blk3 g1
  go_wp2_with fail
  refine bodyPost_ret (v := tv 1 (mix0 k c n) (mix1 k c n)) (by simp [results, Tryd.results12, go_sem, q1]) rfl ⟨rfl, ?_⟩
  (repeat (first | (with_reducible assumption) | (with_reducible exact Below.refl _ _) | (with_reducible refine heap_drew ?_) | (focus ((with_reducible refine heap_new ?_) ; simp ; done)) | (with_reducible apply heap_set_to) | (focus ((with_reducible refine heap_set_ne ?_ ?_ _) ; rotate_left ; (focus (first | omega | (simp ; done) | (simp ; omega))))) | (with_reducible refine heap_old ?_) | (with_reducible refine Below.drew ?_) | (with_reducible refine below_set ?_ _ _) | (focus ((with_reducible refine Below.setCell ?_ ?_ _) ; rotate_left ; (focus (first | omega | (simp ; done) | (simp ; omega))))) | (focus ((with_reducible refine Below.alloc ?_ ?_ _) ; rotate_left ; (focus (first | omega | (simp ; done) | (simp ; omega))))) | (with_reducible rfl) | (focus (simp ; done))))

set_option maxHeartbeats 2000000 in
theorem rtof_any (k : ByteArray) (c n : Int) (v : ByteArray) (d : Bool) (w : World) (hs : k.size ≤ 140737488351232) :
    Calls Tryd.prog 13 #[ev k c n v d] w fun e w' => e = .returned (tv 1 (mix0 k c n) (mix1 k c n)) ∧ Below w.heap.size w w' := by
  go_enter Tryd.func13, Tryd.ntmps13
  go_wp2_with fail
  refine (rof_any k c n _ hs).mono ?_
  rintro e w1 ⟨rfl, hb1⟩
  have g1 : w1.heap[w.heap.size + 1]? = some (.cells #[.int .i64 0, .int .u64 0, .int .u64 0] 28 (0, 0)) := blk_below (by (repeat (first | (with_reducible assumption) | (with_reducible exact Below.refl _ _) | (with_reducible refine heap_drew ?_) | (focus ((with_reducible refine heap_new ?_) ; simp ; done)) | (with_reducible apply heap_set_to) | (focus ((with_reducible refine heap_set_ne ?_ ?_ _) ; rotate_left ; (focus (first | omega | (simp ; done) | (simp ; omega))))) | (with_reducible refine heap_old ?_) | (with_reducible refine Below.drew ?_) | (with_reducible refine below_set ?_ _ _) | (focus ((with_reducible refine Below.setCell ?_ ?_ _) ; rotate_left ; (focus (first | omega | (simp ; done) | (simp ; omega))))) | (focus ((with_reducible refine Below.alloc ?_ ?_ _) ; rotate_left ; (focus (first | omega | (simp ; done) | (simp ; omega))))) | (with_reducible rfl) | (focus (simp ; done))))) hb1
  have hb : Below w.heap.size w w1 := below_back (by (repeat (first | (with_reducible assumption) | (with_reducible exact Below.refl _ _) | (with_reducible refine heap_drew ?_) | (focus ((with_reducible refine heap_new ?_) ; simp ; done)) | (with_reducible apply heap_set_to) | (focus ((with_reducible refine heap_set_ne ?_ ?_ _) ; rotate_left ; (focus (first | omega | (simp ; done) | (simp ; omega))))) | (with_reducible refine heap_old ?_) | (with_reducible refine Below.drew ?_) | (with_reducible refine below_set ?_ _ _) | (focus ((with_reducible refine Below.setCell ?_ ?_ _) ; rotate_left ; (focus (first | omega | (simp ; done) | (simp ; omega))))) | (focus ((with_reducible refine Below.alloc ?_ ?_ _) ; rotate_left ; (focus (first | omega | (simp ; done) | (simp ; omega))))) | (with_reducible rfl) | (focus (simp ; done))))) (by first | omega | (simp ; done) | (simp ; omega)) hb1
  clear hb1
  have hz := hb.size
  have q1 := blk3 g1
  go_wp2_with fail
  refine bodyPost_ret (v := tv 1 (mix0 k c n) (mix1 k c n)) (by simp [results, Tryd.results13, go_sem, q1]) rfl ⟨rfl, ?_⟩
  (repeat (first | (with_reducible assumption) | (with_reducible exact Below.refl _ _) | (with_reducible refine heap_drew ?_) | (focus ((with_reducible refine heap_new ?_) ; simp ; done)) | (with_reducible apply heap_set_to) | (focus ((with_reducible refine heap_set_ne ?_ ?_ _) ; rotate_left ; (focus (first | omega | (simp ; done) | (simp ; omega))))) | (with_reducible refine heap_old ?_) | (with_reducible refine Below.drew ?_) | (with_reducible refine below_set ?_ _ _) | (focus ((with_reducible refine Below.setCell ?_ ?_ _) ; rotate_left ; (focus (first | omega | (simp ; done) | (simp ; omega))))) | (focus ((with_reducible refine Below.alloc ?_ ?_ _) ; rotate_left ; (focus (first | omega | (simp ; done) | (simp ; omega))))) | (with_reducible rfl) | (focus (simp ; done))))

set_option maxHeartbeats 4000000 in
theorem all_any (oa : Option Addr) (cap : Nat) (l : List Ent) (w : World) (hL : Lanes w) (h : Ents w oa l) (hl : l.length ≤ 9223372036854775807) :
    Calls Tryd.prog 29 #[.slice oa l.length cap] w fun e w' => e = .returned (sv (u64 (tot0 l)) (u64 (tot1 l))) ∧ Below w.heap.size w w' := by
  have hL0 := hL.lt
  have HL : Hid (Lanes w) := hL
  have HE : Hid (Ents w oa l) := h
  clear hL h
  go_enter Tryd.func29, Tryd.ntmps29
  go_wp2_with fail
  go_loopw [9] (fun i wr => ∃ (k : Nat) (A B : Int), k ≤ l.length ∧ i = .int .i64 k ∧ Hid (A = u64 (tot0 (l.take k)) ∧ B = u64 (tot1 (l.take k))) ∧
      wr.heap[w.heap.size]? = some (.cells #[.int .u64 0, .int .u64 0] 26 (0, 0)) ∧ wr.heap[w.heap.size + 1]? = some (.cells #[.int .u64 A, .int .u64 B] 26 (0, 0)) ∧ Below w.heap.size w wr)
    (fun i _ => l.length - (intOf i).toNat)
  case atStart =>
    refine ⟨0, 0, 0, Nat.zero_le _, rfl, ⟨rfl, rfl⟩, ?_, ?_, ?_⟩
    all_goals (repeat (first | (with_reducible assumption) | (with_reducible exact Below.refl _ _) | (with_reducible refine heap_drew ?_) | (focus ((with_reducible refine heap_new ?_) ; simp ; done)) | (with_reducible apply heap_set_to) | (focus ((with_reducible refine heap_set_ne ?_ ?_ _) ; rotate_left ; (focus (first | omega | (simp ; done) | (simp ; omega))))) | (with_reducible refine heap_old ?_) | (with_reducible refine Below.drew ?_) | (with_reducible refine below_set ?_ _ _) | (focus ((with_reducible refine Below.setCell ?_ ?_ _) ; rotate_left ; (focus (first | omega | (simp ; done) | (simp ; omega))))) | (focus ((with_reducible refine Below.alloc ?_ ?_ _) ; rotate_left ; (focus (first | omega | (simp ; done) | (simp ; omega))))) | (with_reducible rfl) | (focus (simp ; done))))
  case round =>
    obtain ⟨k, A, B, hk, rfl, HF, g0, g1, hb⟩ := hrel
    have hz := hb.size
    by_cases hlt : k < l.length
    · obtain ⟨b, o, rfl, he, hs⟩ := HE.out k hlt
      have hE2 := he.below hb he.lt
      obtain ⟨⟨ek, ec, en, evv, ed⟩, hen⟩ : ∃ e, e = l[k] := ⟨_, rfl⟩
      rw [← hen] at hE2 hs
      have HN : Hid (l[k] = (ek, ec, en, evv, ed)) := hen.symm
      obtain ⟨e0, e1, e2, e3, e4⟩ := hE2
      simp only at e0 e1 e2 e3 e4 hs
      clear he hen
      go_wp2_with fail
      clear e0 e1 e2 e3 e4
      obtain ⟨eb, heb⟩ : ∃ g, g = wr.heap.size := ⟨_, rfl⟩
      have g5 : (wr.alloc (.cells #[.string ek, .int .i64 ec, .int .i64 en, .string evv, .bool ed] 32 (0, 0))).heap[wr.heap.size]? = some (.cells #[.string ek, .int .i64 ec, .int .i64 en, .string evv, .bool ed] 32 (0, 0)) := by (repeat (first | (with_reducible assumption) | (with_reducible exact Below.refl _ _) | (with_reducible refine heap_drew ?_) | (focus ((with_reducible refine heap_new ?_) ; simp ; done)) | (with_reducible apply heap_set_to) | (focus ((with_reducible refine heap_set_ne ?_ ?_ _) ; rotate_left ; (focus (first | omega | (simp ; done) | (simp ; omega))))) | (with_reducible refine heap_old ?_) | (with_reducible refine Below.drew ?_) | (with_reducible refine below_set ?_ _ _) | (focus ((with_reducible refine Below.setCell ?_ ?_ _) ; rotate_left ; (focus (first | omega | (simp ; done) | (simp ; omega))))) | (focus ((with_reducible refine Below.alloc ?_ ?_ _) ; rotate_left ; (focus (first | omega | (simp ; done) | (simp ; omega))))) | (with_reducible rfl) | (focus (simp ; done))))
      rw [← heb] at g5 ⊢
      have hl1 : w.heap.size ≤ eb := by omega
      have hl2 : w.heap.size + 1 < eb := by have := blk_lt g1; omega
      clear heb
      have hSt : Stable (fun w3 : World => (Below w.heap.size w w3) ∧ (w3.heap[w.heap.size]? = some (.cells #[.int .u64 0, .int .u64 0] 26 (0, 0))) ∧ (w3.heap[w.heap.size + 1]? = some (.cells #[.int .u64 A, .int .u64 B] 26 (0, 0))) ∧ (w3.heap[eb]? = some (.cells #[.string ek, .int .i64 ec, .int .i64 en, .string evv, .bool ed] 32 (0, 0)))) := by repeat (first | exact stable_ext _ | exact stable_blk _ _ | exact stable_true | (refine stable_bel ?_ ; (focus (first | (simp [World.size_setCell] ; done) | (simp [World.setCell] ; done)))) | refine Stable.and ?_ ?_)
      refine wp_region_x [0, 1, 2, 3, 4, 5, 6, 7] [1, 0, 1, 0, 1, 1, 1, 3] (fun w3 => (Below w.heap.size w w3) ∧ (w3.heap[w.heap.size]? = some (.cells #[.int .u64 0, .int .u64 0] 26 (0, 0))) ∧ (w3.heap[w.heap.size + 1]? = some (.cells #[.int .u64 A, .int .u64 B] 26 (0, 0))) ∧ (w3.heap[eb]? = some (.cells #[.string ek, .int .i64 ec, .int .i64 en, .string evv, .bool ed] 32 (0, 0)))) (by kernel_rfl) (by kernel_rfl) ?_ ?_
      · (refine ⟨?_, ?_, ?_, ?_⟩ <;> (repeat (first | (with_reducible assumption) | (with_reducible exact Below.refl _ _) | (with_reducible refine heap_drew ?_) | (focus ((with_reducible refine heap_new ?_) ; simp ; done)) | (with_reducible apply heap_set_to) | (focus ((with_reducible refine heap_set_ne ?_ ?_ _) ; rotate_left ; (focus (first | omega | (simp ; done) | (simp ; omega))))) | (with_reducible refine heap_old ?_) | (with_reducible refine Below.drew ?_) | (with_reducible refine below_set ?_ _ _) | (focus ((with_reducible refine Below.setCell ?_ ?_ _) ; rotate_left ; (focus (first | omega | (simp ; done) | (simp ; omega))))) | (focus ((with_reducible refine Below.alloc ?_ ?_ _) ; rotate_left ; (focus (first | omega | (simp ; done) | (simp ; omega))))) | (with_reducible rfl) | (focus (simp ; done)))))
      simp only [List.map_cons, List.map_nil, List.getD_cons_zero, List.getD_cons_succ]
      (refine x_quiet rfl hSt (fun _ h => h) _ ?_ rfl (by simp) ?_ ?_ ; rotate_left ; · (intro w3 hC K hK ; obtain ⟨hb, g0, g1, g5⟩ := hC ; have q1 := blk2 g1 ; have q5 := blk5 g5 ; go_wp2_with fail ; refine ⟨?_, Below.refl _ _⟩ ; exact rfl))
      simp only [Act.put, List.setIfInBounds_toArray, List.set_cons_succ, List.set_cons_zero]
      (refine x_pure rfl _ ?_ rfl (by simp) ?_ ?_ ; rotate_left ; · (intro w3 K hK ; go_wp2_with fail ; exact rfl))
      simp only [Act.put, List.setIfInBounds_toArray, List.set_cons_succ, List.set_cons_zero]
      (refine x_quiet rfl hSt (fun _ h => h) _ ?_ rfl (by simp) ?_ ?_ ; rotate_left ; · (intro w3 hC K hK ; obtain ⟨hb, g0, g1, g5⟩ := hC ; have q1 := blk2 g1 ; have q5 := blk5 g5 ; go_wp2_with fail ; refine ⟨?_, Below.refl _ _⟩ ; exact rfl))
      simp only [Act.put, List.setIfInBounds_toArray, List.set_cons_succ, List.set_cons_zero]
      (refine x_pure rfl _ ?_ rfl (by simp) ?_ ?_ ; rotate_left ; · (intro w3 K hK ; go_wp2_with fail ; exact rfl))
      simp only [Act.put, List.setIfInBounds_toArray, List.set_cons_succ, List.set_cons_zero]
      (refine x_quiet rfl hSt (fun _ h => h) _ ?_ rfl (by simp) ?_ ?_ ; rotate_left ; · (intro w3 hC K hK ; obtain ⟨hb, g0, g1, g5⟩ := hC ; have q1 := blk2 g1 ; have q5 := blk5 g5 ; go_wp2_with fail ; refine ⟨?_, Below.refl _ _⟩ ; exact rfl))
      simp only [Act.put, List.setIfInBounds_toArray, List.set_cons_succ, List.set_cons_zero]
      (refine x_quiet rfl hSt (fun _ h => h) _ ?_ rfl (by simp) ?_ ?_ ; rotate_left ; · (intro w3 hC K hK ; obtain ⟨hb, g0, g1, g5⟩ := hC ; have q1 := blk2 g1 ; have q5 := blk5 g5 ; go_wp2_with fail ; refine ((of_any ek ec en _ (HL.out.below hb hL0) (by omega))).mono ?_ ; rintro e w2 ⟨rfl, hb2⟩ ; refine hK _ _ ⟨?_, rfl, hb2⟩ ; exact rfl))
      simp only [Act.put, List.setIfInBounds_toArray, List.set_cons_succ, List.set_cons_zero]
      (refine x_quiet rfl hSt (fun _ h => h) _ ?_ rfl (by simp) ?_ ?_ ; rotate_left ; · (intro w3 hC K hK ; obtain ⟨hb, g0, g1, g5⟩ := hC ; have q1 := blk2 g1 ; have q5 := blk5 g5 ; go_wp2_with fail ; refine (add_any _ _ _ _ _).mono ?_ ; rintro e w2 ⟨rfl, hb2⟩ ; refine hK _ _ ⟨?_, rfl, hb2⟩ ; exact rfl))
      simp only [Act.put, List.setIfInBounds_toArray, List.set_cons_succ, List.set_cons_zero]
      refine x_write rfl ?_
      intro w3 hD K hK ; obtain ⟨hb, g0, g1, g5⟩ := hD ; have q1 := blk2 g1 ; have q5 := blk5 g5
      go_wp2_with fail
      refine x_nil ?_
      rintro w5 hwe
      have f0 : w5.heap[w.heap.size]? = some (.cells #[.int .u64 0, .int .u64 0] 26 (0, 0)) := by rw [hwe] ; (repeat (first | (with_reducible assumption) | (with_reducible exact Below.refl _ _) | (with_reducible refine heap_drew ?_) | (focus ((with_reducible refine heap_new ?_) ; simp ; done)) | (with_reducible apply heap_set_to) | (focus ((with_reducible refine heap_set_ne ?_ ?_ _) ; rotate_left ; (focus (first | omega | (simp ; done) | (simp ; omega))))) | (with_reducible refine heap_old ?_) | (with_reducible refine Below.drew ?_) | (with_reducible refine below_set ?_ _ _) | (focus ((with_reducible refine Below.setCell ?_ ?_ _) ; rotate_left ; (focus (first | omega | (simp ; done) | (simp ; omega))))) | (focus ((with_reducible refine Below.alloc ?_ ?_ _) ; rotate_left ; (focus (first | omega | (simp ; done) | (simp ; omega))))) | (with_reducible rfl) | (focus (simp ; done))))
      have f1 : w5.heap[w.heap.size + 1]? = some (.cells #[.int .u64 (Go.Proofs.YtjeaobknojmbpaaDoor.u64 (A + mix0 ek ec en)), .int .u64 (Go.Proofs.YtjeaobknojmbpaaDoor.u64 (B + mix1 ek ec en))] 26 (0, 0)) := by rw [hwe] ; (repeat (first | (with_reducible assumption) | (with_reducible exact Below.refl _ _) | (with_reducible refine heap_drew ?_) | (focus ((with_reducible refine heap_new ?_) ; simp ; done)) | (with_reducible apply heap_set_to) | (focus ((with_reducible refine heap_set_ne ?_ ?_ _) ; rotate_left ; (focus (first | omega | (simp ; done) | (simp ; omega))))) | (with_reducible refine heap_old ?_) | (with_reducible refine Below.drew ?_) | (with_reducible refine below_set ?_ _ _) | (focus ((with_reducible refine Below.setCell ?_ ?_ _) ; rotate_left ; (focus (first | omega | (simp ; done) | (simp ; omega))))) | (focus ((with_reducible refine Below.alloc ?_ ?_ _) ; rotate_left ; (focus (first | omega | (simp ; done) | (simp ; omega))))) | (with_reducible rfl) | (focus (simp ; done))))
      have fb : Below w.heap.size w w5 := by rw [hwe] ; (repeat (first | (with_reducible assumption) | (with_reducible exact Below.refl _ _) | (with_reducible refine heap_drew ?_) | (focus ((with_reducible refine heap_new ?_) ; simp ; done)) | (with_reducible apply heap_set_to) | (focus ((with_reducible refine heap_set_ne ?_ ?_ _) ; rotate_left ; (focus (first | omega | (simp ; done) | (simp ; omega))))) | (with_reducible refine heap_old ?_) | (with_reducible refine Below.drew ?_) | (with_reducible refine below_set ?_ _ _) | (focus ((with_reducible refine Below.setCell ?_ ?_ _) ; rotate_left ; (focus (first | omega | (simp ; done) | (simp ; omega))))) | (focus ((with_reducible refine Below.alloc ?_ ?_ _) ; rotate_left ; (focus (first | omega | (simp ; done) | (simp ; omega))))) | (with_reducible rfl) | (focus (simp ; done))))
      clear hwe
      clear g0 g1 g5 hb hSt
      go_wp2_with fail
      go_roundw
      case rel =>
        obtain ⟨a1, a2⟩ := HF.out
        refine ⟨k + 1, _, _, by omega, by go_num, ⟨?_, ?_⟩, f0, f1, fb⟩
        · rw [tot0_take hlt, HN.out, a1, u64_add]; rfl
        · rw [tot1_take hlt, HN.out, a2, u64_add]; rfl
      case measure => simp [intOf]; omega
    · obtain rfl : k = l.length := by omega
      obtain ⟨a1, a2⟩ := HF.out
      rw [List.take_length] at a1 a2
      have HA : Hid (A = u64 (tot0 l) ∧ B = u64 (tot1 l)) := ⟨a1, a2⟩
      clear a1 a2 HF
      have q0 := blk2 g0
      have q1 := blk2 g1
      go_wp2_with fail
      rw [← HA.out.1, ← HA.out.2]
      refine bodyPost_ret (v := sv A B) (by simp [results, Tryd.results29, go_sem, q0]) rfl ⟨rfl, ?_⟩
      (repeat (first | (with_reducible assumption) | (with_reducible exact Below.refl _ _) | (with_reducible refine heap_drew ?_) | (focus ((with_reducible refine heap_new ?_) ; simp ; done)) | (with_reducible apply heap_set_to) | (focus ((with_reducible refine heap_set_ne ?_ ?_ _) ; rotate_left ; (focus (first | omega | (simp ; done) | (simp ; omega))))) | (with_reducible refine heap_old ?_) | (with_reducible refine Below.drew ?_) | (with_reducible refine below_set ?_ _ _) | (focus ((with_reducible refine Below.setCell ?_ ?_ _) ; rotate_left ; (focus (first | omega | (simp ; done) | (simp ; omega))))) | (focus ((with_reducible refine Below.alloc ?_ ?_ _) ; rotate_left ; (focus (first | omega | (simp ; done) | (simp ; omega))))) | (with_reducible rfl) | (focus (simp ; done))))
set_option maxHeartbeats 4000000 in
theorem rall_any (oa : Option Addr) (cap : Nat) (l : List Ent) (w : World) (hL : Lanes w) (h : Ents w oa l) (hl : l.length ≤ 9223372036854775807) :
    Calls Tryd.prog 30 #[.slice oa l.length cap] w fun e w' => e = .returned (sv (u64 (tot0 l)) (u64 (tot1 l))) ∧ Below w.heap.size w w' := by
  have hL0 := hL.lt
  have HL : Hid (Lanes w) := hL
  have HE : Hid (Ents w oa l) := h
  clear hL h
  go_enter Tryd.func30, Tryd.ntmps30
  go_wp2_with fail
  go_loopw [9] (fun i wr => ∃ (k : Nat) (A B : Int), k ≤ l.length ∧ i = .int .i64 k ∧ Hid (A = u64 (tot0 (l.take k)) ∧ B = u64 (tot1 (l.take k))) ∧
      wr.heap[w.heap.size]? = some (.cells #[.int .u64 0, .int .u64 0] 26 (0, 0)) ∧ wr.heap[w.heap.size + 1]? = some (.cells #[.int .u64 A, .int .u64 B] 26 (0, 0)) ∧ Below w.heap.size w wr)
    (fun i _ => l.length - (intOf i).toNat)
  case atStart =>
    refine ⟨0, 0, 0, Nat.zero_le _, rfl, ⟨rfl, rfl⟩, ?_, ?_, ?_⟩
    all_goals (repeat (first | (with_reducible assumption) | (with_reducible exact Below.refl _ _) | (with_reducible refine heap_drew ?_) | (focus ((with_reducible refine heap_new ?_) ; simp ; done)) | (with_reducible apply heap_set_to) | (focus ((with_reducible refine heap_set_ne ?_ ?_ _) ; rotate_left ; (focus (first | omega | (simp ; done) | (simp ; omega))))) | (with_reducible refine heap_old ?_) | (with_reducible refine Below.drew ?_) | (with_reducible refine below_set ?_ _ _) | (focus ((with_reducible refine Below.setCell ?_ ?_ _) ; rotate_left ; (focus (first | omega | (simp ; done) | (simp ; omega))))) | (focus ((with_reducible refine Below.alloc ?_ ?_ _) ; rotate_left ; (focus (first | omega | (simp ; done) | (simp ; omega))))) | (with_reducible rfl) | (focus (simp ; done))))
  case round =>
    obtain ⟨k, A, B, hk, rfl, HF, g0, g1, hb⟩ := hrel
    have hz := hb.size
    by_cases hlt : k < l.length
    · obtain ⟨b, o, rfl, he, hs⟩ := HE.out k hlt
      have hE2 := he.below hb he.lt
      obtain ⟨⟨ek, ec, en, evv, ed⟩, hen⟩ : ∃ e, e = l[k] := ⟨_, rfl⟩
      rw [← hen] at hE2 hs
      have HN : Hid (l[k] = (ek, ec, en, evv, ed)) := hen.symm
      obtain ⟨e0, e1, e2, e3, e4⟩ := hE2
      simp only at e0 e1 e2 e3 e4 hs
      clear he hen
      go_wp2_with fail
      clear e0 e1 e2 e3 e4
      obtain ⟨eb, heb⟩ : ∃ g, g = wr.heap.size := ⟨_, rfl⟩
      have g5 : (wr.alloc (.cells #[.string ek, .int .i64 ec, .int .i64 en, .string evv, .bool ed] 32 (0, 0))).heap[wr.heap.size]? = some (.cells #[.string ek, .int .i64 ec, .int .i64 en, .string evv, .bool ed] 32 (0, 0)) := by (repeat (first | (with_reducible assumption) | (with_reducible exact Below.refl _ _) | (with_reducible refine heap_drew ?_) | (focus ((with_reducible refine heap_new ?_) ; simp ; done)) | (with_reducible apply heap_set_to) | (focus ((with_reducible refine heap_set_ne ?_ ?_ _) ; rotate_left ; (focus (first | omega | (simp ; done) | (simp ; omega))))) | (with_reducible refine heap_old ?_) | (with_reducible refine Below.drew ?_) | (with_reducible refine below_set ?_ _ _) | (focus ((with_reducible refine Below.setCell ?_ ?_ _) ; rotate_left ; (focus (first | omega | (simp ; done) | (simp ; omega))))) | (focus ((with_reducible refine Below.alloc ?_ ?_ _) ; rotate_left ; (focus (first | omega | (simp ; done) | (simp ; omega))))) | (with_reducible rfl) | (focus (simp ; done))))
      rw [← heb] at g5 ⊢
      have hl1 : w.heap.size ≤ eb := by omega
      have hl2 : w.heap.size + 1 < eb := by have := blk_lt g1; omega
      clear heb
      have hSt : Stable (fun w3 : World => (Below w.heap.size w w3) ∧ (w3.heap[w.heap.size]? = some (.cells #[.int .u64 0, .int .u64 0] 26 (0, 0))) ∧ (w3.heap[w.heap.size + 1]? = some (.cells #[.int .u64 A, .int .u64 B] 26 (0, 0))) ∧ (w3.heap[eb]? = some (.cells #[.string ek, .int .i64 ec, .int .i64 en, .string evv, .bool ed] 32 (0, 0)))) := by repeat (first | exact stable_ext _ | exact stable_blk _ _ | exact stable_true | (refine stable_bel ?_ ; (focus (first | (simp [World.size_setCell] ; done) | (simp [World.setCell] ; done)))) | refine Stable.and ?_ ?_)
      refine wp_region_x [0, 1, 2, 3, 4, 5, 6, 7] [1, 0, 1, 0, 1, 1, 1, 3] (fun w3 => (Below w.heap.size w w3) ∧ (w3.heap[w.heap.size]? = some (.cells #[.int .u64 0, .int .u64 0] 26 (0, 0))) ∧ (w3.heap[w.heap.size + 1]? = some (.cells #[.int .u64 A, .int .u64 B] 26 (0, 0))) ∧ (w3.heap[eb]? = some (.cells #[.string ek, .int .i64 ec, .int .i64 en, .string evv, .bool ed] 32 (0, 0)))) (by kernel_rfl) (by kernel_rfl) ?_ ?_
      · (refine ⟨?_, ?_, ?_, ?_⟩ <;> (repeat (first | (with_reducible assumption) | (with_reducible exact Below.refl _ _) | (with_reducible refine heap_drew ?_) | (focus ((with_reducible refine heap_new ?_) ; simp ; done)) | (with_reducible apply heap_set_to) | (focus ((with_reducible refine heap_set_ne ?_ ?_ _) ; rotate_left ; (focus (first | omega | (simp ; done) | (simp ; omega))))) | (with_reducible refine heap_old ?_) | (with_reducible refine Below.drew ?_) | (with_reducible refine below_set ?_ _ _) | (focus ((with_reducible refine Below.setCell ?_ ?_ _) ; rotate_left ; (focus (first | omega | (simp ; done) | (simp ; omega))))) | (focus ((with_reducible refine Below.alloc ?_ ?_ _) ; rotate_left ; (focus (first | omega | (simp ; done) | (simp ; omega))))) | (with_reducible rfl) | (focus (simp ; done)))))
      simp only [List.map_cons, List.map_nil, List.getD_cons_zero, List.getD_cons_succ]
      (refine x_quiet rfl hSt (fun _ h => h) _ ?_ rfl (by simp) ?_ ?_ ; rotate_left ; · (intro w3 hC K hK ; obtain ⟨hb, g0, g1, g5⟩ := hC ; have q1 := blk2 g1 ; have q5 := blk5 g5 ; go_wp2_with fail ; refine ⟨?_, Below.refl _ _⟩ ; exact rfl))
      simp only [Act.put, List.setIfInBounds_toArray, List.set_cons_succ, List.set_cons_zero]
      (refine x_pure rfl _ ?_ rfl (by simp) ?_ ?_ ; rotate_left ; · (intro w3 K hK ; go_wp2_with fail ; exact rfl))
      simp only [Act.put, List.setIfInBounds_toArray, List.set_cons_succ, List.set_cons_zero]
      (refine x_quiet rfl hSt (fun _ h => h) _ ?_ rfl (by simp) ?_ ?_ ; rotate_left ; · (intro w3 hC K hK ; obtain ⟨hb, g0, g1, g5⟩ := hC ; have q1 := blk2 g1 ; have q5 := blk5 g5 ; go_wp2_with fail ; refine ⟨?_, Below.refl _ _⟩ ; exact rfl))
      simp only [Act.put, List.setIfInBounds_toArray, List.set_cons_succ, List.set_cons_zero]
      (refine x_pure rfl _ ?_ rfl (by simp) ?_ ?_ ; rotate_left ; · (intro w3 K hK ; go_wp2_with fail ; exact rfl))
      simp only [Act.put, List.setIfInBounds_toArray, List.set_cons_succ, List.set_cons_zero]
      (refine x_quiet rfl hSt (fun _ h => h) _ ?_ rfl (by simp) ?_ ?_ ; rotate_left ; · (intro w3 hC K hK ; obtain ⟨hb, g0, g1, g5⟩ := hC ; have q1 := blk2 g1 ; have q5 := blk5 g5 ; go_wp2_with fail ; refine ⟨?_, Below.refl _ _⟩ ; exact rfl))
      simp only [Act.put, List.setIfInBounds_toArray, List.set_cons_succ, List.set_cons_zero]
      (refine x_quiet rfl hSt (fun _ h => h) _ ?_ rfl (by simp) ?_ ?_ ; rotate_left ; · (intro w3 hC K hK ; obtain ⟨hb, g0, g1, g5⟩ := hC ; have q1 := blk2 g1 ; have q5 := blk5 g5 ; go_wp2_with fail ; refine ((rof_any ek ec en _ hs)).mono ?_ ; rintro e w2 ⟨rfl, hb2⟩ ; refine hK _ _ ⟨?_, rfl, hb2⟩ ; exact rfl))
      simp only [Act.put, List.setIfInBounds_toArray, List.set_cons_succ, List.set_cons_zero]
      (refine x_quiet rfl hSt (fun _ h => h) _ ?_ rfl (by simp) ?_ ?_ ; rotate_left ; · (intro w3 hC K hK ; obtain ⟨hb, g0, g1, g5⟩ := hC ; have q1 := blk2 g1 ; have q5 := blk5 g5 ; go_wp2_with fail ; refine (radd_any _ _ _ _ _).mono ?_ ; rintro e w2 ⟨rfl, hb2⟩ ; refine hK _ _ ⟨?_, rfl, hb2⟩ ; exact rfl))
      simp only [Act.put, List.setIfInBounds_toArray, List.set_cons_succ, List.set_cons_zero]
      refine x_write rfl ?_
      intro w3 hD K hK ; obtain ⟨hb, g0, g1, g5⟩ := hD ; have q1 := blk2 g1 ; have q5 := blk5 g5
      go_wp2_with fail
      refine x_nil ?_
      rintro w5 hwe
      have f0 : w5.heap[w.heap.size]? = some (.cells #[.int .u64 0, .int .u64 0] 26 (0, 0)) := by rw [hwe] ; (repeat (first | (with_reducible assumption) | (with_reducible exact Below.refl _ _) | (with_reducible refine heap_drew ?_) | (focus ((with_reducible refine heap_new ?_) ; simp ; done)) | (with_reducible apply heap_set_to) | (focus ((with_reducible refine heap_set_ne ?_ ?_ _) ; rotate_left ; (focus (first | omega | (simp ; done) | (simp ; omega))))) | (with_reducible refine heap_old ?_) | (with_reducible refine Below.drew ?_) | (with_reducible refine below_set ?_ _ _) | (focus ((with_reducible refine Below.setCell ?_ ?_ _) ; rotate_left ; (focus (first | omega | (simp ; done) | (simp ; omega))))) | (focus ((with_reducible refine Below.alloc ?_ ?_ _) ; rotate_left ; (focus (first | omega | (simp ; done) | (simp ; omega))))) | (with_reducible rfl) | (focus (simp ; done))))
      have f1 : w5.heap[w.heap.size + 1]? = some (.cells #[.int .u64 (Go.Proofs.YtjeaobknojmbpaaDoor.u64 (A + mix0 ek ec en)), .int .u64 (Go.Proofs.YtjeaobknojmbpaaDoor.u64 (B + mix1 ek ec en))] 26 (0, 0)) := by rw [hwe] ; (repeat (first | (with_reducible assumption) | (with_reducible exact Below.refl _ _) | (with_reducible refine heap_drew ?_) | (focus ((with_reducible refine heap_new ?_) ; simp ; done)) | (with_reducible apply heap_set_to) | (focus ((with_reducible refine heap_set_ne ?_ ?_ _) ; rotate_left ; (focus (first | omega | (simp ; done) | (simp ; omega))))) | (with_reducible refine heap_old ?_) | (with_reducible refine Below.drew ?_) | (with_reducible refine below_set ?_ _ _) | (focus ((with_reducible refine Below.setCell ?_ ?_ _) ; rotate_left ; (focus (first | omega | (simp ; done) | (simp ; omega))))) | (focus ((with_reducible refine Below.alloc ?_ ?_ _) ; rotate_left ; (focus (first | omega | (simp ; done) | (simp ; omega))))) | (with_reducible rfl) | (focus (simp ; done))))
      have fb : Below w.heap.size w w5 := by rw [hwe] ; (repeat (first | (with_reducible assumption) | (with_reducible exact Below.refl _ _) | (with_reducible refine heap_drew ?_) | (focus ((with_reducible refine heap_new ?_) ; simp ; done)) | (with_reducible apply heap_set_to) | (focus ((with_reducible refine heap_set_ne ?_ ?_ _) ; rotate_left ; (focus (first | omega | (simp ; done) | (simp ; omega))))) | (with_reducible refine heap_old ?_) | (with_reducible refine Below.drew ?_) | (with_reducible refine below_set ?_ _ _) | (focus ((with_reducible refine Below.setCell ?_ ?_ _) ; rotate_left ; (focus (first | omega | (simp ; done) | (simp ; omega))))) | (focus ((with_reducible refine Below.alloc ?_ ?_ _) ; rotate_left ; (focus (first | omega | (simp ; done) | (simp ; omega))))) | (with_reducible rfl) | (focus (simp ; done))))
      clear hwe
      clear g0 g1 g5 hb hSt
      go_wp2_with fail
      go_roundw
      case rel =>
        obtain ⟨a1, a2⟩ := HF.out
        refine ⟨k + 1, _, _, by omega, by go_num, ⟨?_, ?_⟩, f0, f1, fb⟩
        · rw [tot0_take hlt, HN.out, a1, u64_add]; rfl
        · rw [tot1_take hlt, HN.out, a2, u64_add]; rfl
      case measure => simp [intOf]; omega
    · obtain rfl : k = l.length := by omega
      obtain ⟨a1, a2⟩ := HF.out
      rw [List.take_length] at a1 a2
      have HA : Hid (A = u64 (tot0 l) ∧ B = u64 (tot1 l)) := ⟨a1, a2⟩
      clear a1 a2 HF
      have q0 := blk2 g0
      have q1 := blk2 g1
      go_wp2_with fail
      rw [← HA.out.1, ← HA.out.2]
      refine bodyPost_ret (v := sv A B) (by simp [results, Tryd.results30, go_sem, q0]) rfl ⟨rfl, ?_⟩
      (repeat (first | (with_reducible assumption) | (with_reducible exact Below.refl _ _) | (with_reducible refine heap_drew ?_) | (focus ((with_reducible refine heap_new ?_) ; simp ; done)) | (with_reducible apply heap_set_to) | (focus ((with_reducible refine heap_set_ne ?_ ?_ _) ; rotate_left ; (focus (first | omega | (simp ; done) | (simp ; omega))))) | (with_reducible refine heap_old ?_) | (with_reducible refine Below.drew ?_) | (with_reducible refine below_set ?_ _ _) | (focus ((with_reducible refine Below.setCell ?_ ?_ _) ; rotate_left ; (focus (first | omega | (simp ; done) | (simp ; omega))))) | (focus ((with_reducible refine Below.alloc ?_ ?_ _) ; rotate_left ; (focus (first | omega | (simp ; done) | (simp ; omega))))) | (with_reducible rfl) | (focus (simp ; done))))

set_option maxHeartbeats 2000000 in
theorem tall_any (oa : Option Addr) (cap : Nat) (l : List Ent) (w : World) (hL : Lanes w) (h : Ents w oa l) (hl : l.length ≤ 9223372036854775807) :
    Calls Tryd.prog 16 #[.slice oa l.length cap] w fun e w' => e = .returned (tv l.length (u64 (tot0 l)) (u64 (tot1 l))) ∧ Below w.heap.size w w' := by
  have hL0 := hL.lt
  have HL : Hid (Lanes w) := hL
  have HE : Hid (Ents w oa l) := h
  clear hL h
  go_enter Tryd.func16, Tryd.ntmps16
  go_wp2_with fail
  have hb : Below w.heap.size w (w.alloc (.cells #[.int .i64 0, .int .u64 0, .int .u64 0] 28 (0, 0))) := by (repeat (first | (with_reducible assumption) | (with_reducible exact Below.refl _ _) | (with_reducible refine heap_drew ?_) | (focus ((with_reducible refine heap_new ?_) ; simp ; done)) | (with_reducible apply heap_set_to) | (focus ((with_reducible refine heap_set_ne ?_ ?_ _) ; rotate_left ; (focus (first | omega | (simp ; done) | (simp ; omega))))) | (with_reducible refine heap_old ?_) | (with_reducible refine Below.drew ?_) | (with_reducible refine below_set ?_ _ _) | (focus ((with_reducible refine Below.setCell ?_ ?_ _) ; rotate_left ; (focus (first | omega | (simp ; done) | (simp ; omega))))) | (focus ((with_reducible refine Below.alloc ?_ ?_ _) ; rotate_left ; (focus (first | omega | (simp ; done) | (simp ; omega))))) | (with_reducible rfl) | (focus (simp ; done))))
  refine (all_any oa cap l _ (HL.out.below hb hL0) (HE.out.below hb) hl).mono ?_
  rintro e w1 ⟨rfl, hb1⟩
  clear hb
  have g1 : w1.heap[w.heap.size]? = some (.cells #[.int .i64 0, .int .u64 0, .int .u64 0] 28 (0, 0)) := blk_below (by (repeat (first | (with_reducible assumption) | (with_reducible exact Below.refl _ _) | (with_reducible refine heap_drew ?_) | (focus ((with_reducible refine heap_new ?_) ; simp ; done)) | (with_reducible apply heap_set_to) | (focus ((with_reducible refine heap_set_ne ?_ ?_ _) ; rotate_left ; (focus (first | omega | (simp ; done) | (simp ; omega))))) | (with_reducible refine heap_old ?_) | (with_reducible refine Below.drew ?_) | (with_reducible refine below_set ?_ _ _) | (focus ((with_reducible refine Below.setCell ?_ ?_ _) ; rotate_left ; (focus (first | omega | (simp ; done) | (simp ; omega))))) | (focus ((with_reducible refine Below.alloc ?_ ?_ _) ; rotate_left ; (focus (first | omega | (simp ; done) | (simp ; omega))))) | (with_reducible rfl) | (focus (simp ; done))))) hb1
  have hb : Below w.heap.size w w1 := below_back (by (repeat (first | (with_reducible assumption) | (with_reducible exact Below.refl _ _) | (with_reducible refine heap_drew ?_) | (focus ((with_reducible refine heap_new ?_) ; simp ; done)) | (with_reducible apply heap_set_to) | (focus ((with_reducible refine heap_set_ne ?_ ?_ _) ; rotate_left ; (focus (first | omega | (simp ; done) | (simp ; omega))))) | (with_reducible refine heap_old ?_) | (with_reducible refine Below.drew ?_) | (with_reducible refine below_set ?_ _ _) | (focus ((with_reducible refine Below.setCell ?_ ?_ _) ; rotate_left ; (focus (first | omega | (simp ; done) | (simp ; omega))))) | (focus ((with_reducible refine Below.alloc ?_ ?_ _) ; rotate_left ; (focus (first | omega | (simp ; done) | (simp ; omega))))) | (with_reducible rfl) | (focus (simp ; done))))) (by first | omega | (simp ; done) | (simp ; omega)) hb1
  clear hb1
  have hz := hb.size
  have q1 := blk3 g1
  go_wp2_with fail
  refine bodyPost_ret (v := tv l.length (u64 (tot0 l)) (u64 (tot1 l))) (by simp [results, Tryd.results16, go_sem, q1]) rfl ⟨rfl, ?_⟩
  (repeat (first | (with_reducible assumption) | (with_reducible exact Below.refl _ _) | (with_reducible refine heap_drew ?_) | (focus ((with_reducible refine heap_new ?_) ; simp ; done)) | (with_reducible apply heap_set_to) | (focus ((with_reducible refine heap_set_ne ?_ ?_ _) ; rotate_left ; (focus (first | omega | (simp ; done) | (simp ; omega))))) | (with_reducible refine heap_old ?_) | (with_reducible refine Below.drew ?_) | (with_reducible refine below_set ?_ _ _) | (focus ((with_reducible refine Below.setCell ?_ ?_ _) ; rotate_left ; (focus (first | omega | (simp ; done) | (simp ; omega))))) | (focus ((with_reducible refine Below.alloc ?_ ?_ _) ; rotate_left ; (focus (first | omega | (simp ; done) | (simp ; omega))))) | (with_reducible rfl) | (focus (simp ; done))))

set_option maxHeartbeats 4000000 in
theorem rtall_any (oa : Option Addr) (cap : Nat) (l : List Ent) (w : World) (h : Ents w oa l) (hl : l.length ≤ 9223372036854775806) :
    Calls Tryd.prog 17 #[.slice oa l.length cap] w fun e w' => e = .returned (tv l.length (u64 (tot0 l)) (u64 (tot1 l))) ∧ Below w.heap.size w w' := by
  have HE : Hid (Ents w oa l) := h
  clear h
  go_enter Tryd.func17, Tryd.ntmps17
  go_wp2_with fail
  go_loopw [4] (fun i wr => ∃ (k : Nat) (A B : Int), k ≤ l.length ∧ i = .int .i64 k ∧ Hid (A = u64 (tot0 (l.take k)) ∧ B = u64 (tot1 (l.take k))) ∧
      wr.heap[w.heap.size]? = some (.cells #[.int .i64 0, .int .u64 0, .int .u64 0] 28 (0, 0)) ∧ wr.heap[w.heap.size + 1]? = some (.cells #[.int .i64 k, .int .u64 A, .int .u64 B] 28 (0, 0)) ∧ Below w.heap.size w wr)
    (fun i _ => l.length - (intOf i).toNat)
  case atStart =>
    refine ⟨0, 0, 0, Nat.zero_le _, rfl, ⟨rfl, rfl⟩, ?_, ?_, ?_⟩
    all_goals (try rw [show ((0 : Nat) : Int) = 0 from rfl])
    all_goals (repeat (first | (with_reducible assumption) | (with_reducible exact Below.refl _ _) | (with_reducible refine heap_drew ?_) | (focus ((with_reducible refine heap_new ?_) ; simp ; done)) | (with_reducible apply heap_set_to) | (focus ((with_reducible refine heap_set_ne ?_ ?_ _) ; rotate_left ; (focus (first | omega | (simp ; done) | (simp ; omega))))) | (with_reducible refine heap_old ?_) | (with_reducible refine Below.drew ?_) | (with_reducible refine below_set ?_ _ _) | (focus ((with_reducible refine Below.setCell ?_ ?_ _) ; rotate_left ; (focus (first | omega | (simp ; done) | (simp ; omega))))) | (focus ((with_reducible refine Below.alloc ?_ ?_ _) ; rotate_left ; (focus (first | omega | (simp ; done) | (simp ; omega))))) | (with_reducible rfl) | (focus (simp ; done))))
  case round =>
    obtain ⟨k, A, B, hk, rfl, HF, g0, g1, hb⟩ := hrel
    have hz := hb.size
    by_cases hlt : k < l.length
    · obtain ⟨b, o, rfl, he, hs⟩ := HE.out k hlt
      obtain ⟨⟨ek, ec, en, evv, ed⟩, hen⟩ : ∃ e, e = l[k] := ⟨_, rfl⟩
      rw [← hen] at he hs
      have HN : Hid (l[k] = (ek, ec, en, evv, ed)) := hen.symm
      have HE2 : Hid (∀ w1 : World, Below w.heap.size w w1 → w1.cell? ⟨b, o + k * 5, none⟩ = some (.string ek) ∧ w1.cell? ⟨b, o + k * 5 + 1, none⟩ = some (.int .i64 ec) ∧ w1.cell? ⟨b, o + k * 5 + 2, none⟩ = some (.int .i64 en) ∧
          w1.cell? ⟨b, o + k * 5 + 3, none⟩ = some (.string evv) ∧ w1.cell? ⟨b, o + k * 5 + 4, none⟩ = some (.bool ed)) := fun w1 h => he.below h he.lt
      have hs' : ek.size ≤ 140737488351232 := hs
      have ew : wrap64 ((k : Int) + 1) = (k : Int) + 1 := by unfold wrap64; omega
      clear he hen hs
      go_wp2_with fail
      clear ew
      have hSt : Stable (fun w3 : World => (Below w.heap.size w w3) ∧ (w3.heap[w.heap.size]? = some (.cells #[.int .i64 0, .int .u64 0, .int .u64 0] 28 (0, 0))) ∧ (w3.heap[w.heap.size + 1]? = some (.cells #[.int .i64 k, .int .u64 A, .int .u64 B] 28 (0, 0)))) := by repeat (first | exact stable_ext _ | exact stable_blk _ _ | exact stable_true | (refine stable_bel ?_ ; (focus (first | (simp [World.size_setCell] ; done) | (simp [World.setCell] ; done)))) | refine Stable.and ?_ ?_)
      refine wp_region_x [0, 1, 2, 3, 4, 5, 6, 7] [1, 0, 0, 0, 1, 1, 1, 3] (fun w3 => (Below w.heap.size w w3) ∧ (w3.heap[w.heap.size]? = some (.cells #[.int .i64 0, .int .u64 0, .int .u64 0] 28 (0, 0))) ∧ (w3.heap[w.heap.size + 1]? = some (.cells #[.int .i64 k, .int .u64 A, .int .u64 B] 28 (0, 0)))) (by kernel_rfl) (by kernel_rfl) ?_ ?_
      · (refine ⟨?_, ?_, ?_⟩ <;> (repeat (first | (with_reducible assumption) | (with_reducible exact Below.refl _ _) | (with_reducible refine heap_drew ?_) | (focus ((with_reducible refine heap_new ?_) ; simp ; done)) | (with_reducible apply heap_set_to) | (focus ((with_reducible refine heap_set_ne ?_ ?_ _) ; rotate_left ; (focus (first | omega | (simp ; done) | (simp ; omega))))) | (with_reducible refine heap_old ?_) | (with_reducible refine Below.drew ?_) | (with_reducible refine below_set ?_ _ _) | (focus ((with_reducible refine Below.setCell ?_ ?_ _) ; rotate_left ; (focus (first | omega | (simp ; done) | (simp ; omega))))) | (focus ((with_reducible refine Below.alloc ?_ ?_ _) ; rotate_left ; (focus (first | omega | (simp ; done) | (simp ; omega))))) | (with_reducible rfl) | (focus (simp ; done)))))
      simp only [List.map_cons, List.map_nil, List.getD_cons_zero, List.getD_cons_succ]
      (refine x_quiet rfl hSt (fun _ h => h) _ ?_ rfl (by simp) ?_ ?_ ; rotate_left ; · (intro w3 hC K hK ; obtain ⟨hb, g0, g1⟩ := hC ; have q1 := blk3 g1 ; have q5 := HE2.out _ hb ; go_wp2_with fail ; refine ⟨?_, Below.refl _ _⟩ ; exact rfl))
      simp only [Act.put, List.setIfInBounds_toArray, List.set_cons_succ, List.set_cons_zero]
      (refine x_pure rfl _ ?_ rfl (by simp) ?_ ?_ ; rotate_left ; · (intro w3 K hK ; go_wp2_with fail ; exact rfl))
      simp only [Act.put, List.setIfInBounds_toArray, List.set_cons_succ, List.set_cons_zero]
      (refine x_pure rfl _ ?_ rfl (by simp) ?_ ?_ ; rotate_left ; · (intro w3 K hK ; go_wp2_with fail ; exact rfl))
      simp only [Act.put, List.setIfInBounds_toArray, List.set_cons_succ, List.set_cons_zero]
      (refine x_pure rfl _ ?_ rfl (by simp) ?_ ?_ ; rotate_left ; · (intro w3 K hK ; go_wp2_with fail ; exact rfl))
      simp only [Act.put, List.setIfInBounds_toArray, List.set_cons_succ, List.set_cons_zero]
      (refine x_quiet rfl hSt (fun _ h => h) _ ?_ rfl (by simp) ?_ ?_ ; rotate_left ; · (intro w3 hC K hK ; obtain ⟨hb, g0, g1⟩ := hC ; have q1 := blk3 g1 ; have q5 := HE2.out _ hb ; go_wp2_with fail ; refine ⟨?_, Below.refl _ _⟩ ; exact rfl))
      simp only [Act.put, List.setIfInBounds_toArray, List.set_cons_succ, List.set_cons_zero]
      (refine x_quiet rfl hSt (fun _ h => h) _ ?_ rfl (by simp) ?_ ?_ ; rotate_left ; · (intro w3 hC K hK ; obtain ⟨hb, g0, g1⟩ := hC ; have q1 := blk3 g1 ; have q5 := HE2.out _ hb ; go_wp2_with fail ; refine (rtof_any ek ec en evv ed _ hs').mono ?_ ; rintro e w2 ⟨rfl, hb2⟩ ; refine hK _ _ ⟨?_, rfl, hb2⟩ ; exact rfl))
      simp only [Act.put, List.setIfInBounds_toArray, List.set_cons_succ, List.set_cons_zero]
      (refine x_quiet rfl hSt (fun _ h => h) _ ?_ rfl (by simp) ?_ ?_ ; rotate_left ; · (intro w3 hC K hK ; obtain ⟨hb, g0, g1⟩ := hC ; have q1 := blk3 g1 ; have q5 := HE2.out _ hb ; go_wp2_with fail ; refine (rjoin_any _ _ _ _ _ _ _).mono ?_ ; rintro e w2 ⟨rfl, hb2⟩ ; refine hK _ _ ⟨?_, rfl, hb2⟩ ; exact rfl))
      simp only [Act.put, List.setIfInBounds_toArray, List.set_cons_succ, List.set_cons_zero]
      refine x_write rfl ?_
      intro w3 hD K hK ; obtain ⟨hb, g0, g1⟩ := hD ; have q1 := blk3 g1 ; have q5 := HE2.out _ hb
      go_wp2_with fail
      refine x_nil ?_
      rintro w5 hwe
      have f0 : w5.heap[w.heap.size]? = some (.cells #[.int .i64 0, .int .u64 0, .int .u64 0] 28 (0, 0)) := by rw [hwe] ; (repeat (first | (with_reducible assumption) | (with_reducible exact Below.refl _ _) | (with_reducible refine heap_drew ?_) | (focus ((with_reducible refine heap_new ?_) ; simp ; done)) | (with_reducible apply heap_set_to) | (focus ((with_reducible refine heap_set_ne ?_ ?_ _) ; rotate_left ; (focus (first | omega | (simp ; done) | (simp ; omega))))) | (with_reducible refine heap_old ?_) | (with_reducible refine Below.drew ?_) | (with_reducible refine below_set ?_ _ _) | (focus ((with_reducible refine Below.setCell ?_ ?_ _) ; rotate_left ; (focus (first | omega | (simp ; done) | (simp ; omega))))) | (focus ((with_reducible refine Below.alloc ?_ ?_ _) ; rotate_left ; (focus (first | omega | (simp ; done) | (simp ; omega))))) | (with_reducible rfl) | (focus (simp ; done))))
      have f1 : w5.heap[w.heap.size + 1]? = some (.cells #[.int .i64 (wrap64 (k + 1)), .int .u64 (Go.Proofs.YtjeaobknojmbpaaDoor.u64 (A + mix0 ek ec en)), .int .u64 (Go.Proofs.YtjeaobknojmbpaaDoor.u64 (B + mix1 ek ec en))] 28 (0, 0)) := by rw [hwe] ; (repeat (first | (with_reducible assumption) | (with_reducible exact Below.refl _ _) | (with_reducible refine heap_drew ?_) | (focus ((with_reducible refine heap_new ?_) ; simp ; done)) | (with_reducible apply heap_set_to) | (focus ((with_reducible refine heap_set_ne ?_ ?_ _) ; rotate_left ; (focus (first | omega | (simp ; done) | (simp ; omega))))) | (with_reducible refine heap_old ?_) | (with_reducible refine Below.drew ?_) | (with_reducible refine below_set ?_ _ _) | (focus ((with_reducible refine Below.setCell ?_ ?_ _) ; rotate_left ; (focus (first | omega | (simp ; done) | (simp ; omega))))) | (focus ((with_reducible refine Below.alloc ?_ ?_ _) ; rotate_left ; (focus (first | omega | (simp ; done) | (simp ; omega))))) | (with_reducible rfl) | (focus (simp ; done))))
      have fb : Below w.heap.size w w5 := by rw [hwe] ; (repeat (first | (with_reducible assumption) | (with_reducible exact Below.refl _ _) | (with_reducible refine heap_drew ?_) | (focus ((with_reducible refine heap_new ?_) ; simp ; done)) | (with_reducible apply heap_set_to) | (focus ((with_reducible refine heap_set_ne ?_ ?_ _) ; rotate_left ; (focus (first | omega | (simp ; done) | (simp ; omega))))) | (with_reducible refine heap_old ?_) | (with_reducible refine Below.drew ?_) | (with_reducible refine below_set ?_ _ _) | (focus ((with_reducible refine Below.setCell ?_ ?_ _) ; rotate_left ; (focus (first | omega | (simp ; done) | (simp ; omega))))) | (focus ((with_reducible refine Below.alloc ?_ ?_ _) ; rotate_left ; (focus (first | omega | (simp ; done) | (simp ; omega))))) | (with_reducible rfl) | (focus (simp ; done))))
      clear hwe
      have ew : wrap64 ((k : Int) + 1) = (k : Int) + 1 := by unfold wrap64; omega
      rw [ew] at f1
      clear g0 g1 hb hSt ew
      go_wp2_with fail
      go_roundw
      case rel =>
        obtain ⟨a1, a2⟩ := HF.out
        refine ⟨k + 1, _, _, by omega, by go_num, ⟨?_, ?_⟩, f0, by simpa using f1, fb⟩
        · rw [tot0_take hlt, HN.out, a1, u64_add]; rfl
        · rw [tot1_take hlt, HN.out, a2, u64_add]; rfl
      case measure => simp [intOf]; omega
    · obtain rfl : k = l.length := by omega
      obtain ⟨a1, a2⟩ := HF.out
      rw [List.take_length] at a1 a2
      have HA : Hid (A = u64 (tot0 l) ∧ B = u64 (tot1 l)) := ⟨a1, a2⟩
      clear a1 a2 HF
      have q0 := blk3 g0
      have q1 := blk3 g1
      go_wp2_with fail
      rw [← HA.out.1, ← HA.out.2]
      refine bodyPost_ret (v := tv l.length A B) (by simp [results, Tryd.results17, go_sem, q0]) rfl ⟨rfl, ?_⟩
      (repeat (first | (with_reducible assumption) | (with_reducible exact Below.refl _ _) | (with_reducible refine heap_drew ?_) | (focus ((with_reducible refine heap_new ?_) ; simp ; done)) | (with_reducible apply heap_set_to) | (focus ((with_reducible refine heap_set_ne ?_ ?_ _) ; rotate_left ; (focus (first | omega | (simp ; done) | (simp ; omega))))) | (with_reducible refine heap_old ?_) | (with_reducible refine Below.drew ?_) | (with_reducible refine below_set ?_ _ _) | (focus ((with_reducible refine Below.setCell ?_ ?_ _) ; rotate_left ; (focus (first | omega | (simp ; done) | (simp ; omega))))) | (focus ((with_reducible refine Below.alloc ?_ ?_ _) ; rotate_left ; (focus (first | omega | (simp ; done) | (simp ; omega))))) | (with_reducible rfl) | (focus (simp ; done))))
end Go.Proofs.YtjeaobknojmbpaaDoor
