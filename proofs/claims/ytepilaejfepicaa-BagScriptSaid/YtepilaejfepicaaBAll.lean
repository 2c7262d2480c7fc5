/-
  slices.All of a row of packets, and the bag's All: what the iterators promise.
-/
import Derived.Test.YtepilaejfepicaaBRall
import Derived.Test.YtepilaejfepicaaSeq
import Derived.Test.YtepilaejfepicaaRy
import Derived.Shelf.Abstract
import Derived.Shelf.RegionOpen
namespace Go.Proofs.Ytepilaejfepicaa
open Go.ChangeShapes Go.WideShapes Go.ChangeAt Go.RowKit Go.Deep Go.Shelf
set_option linter.unusedVariables false
set_option linter.unusedSimpArgs false
attribute [local go_sem] Oper.semAt_some

/-- The row at that address reads as these packets; p does not turn it. -/
def RowAt (w : World) (p : Nat → Prop) (oa : Option Addr) (L : List Pk) : Prop := L = [] ∨ ∃ g, oa = some ⟨g, 0, none⟩ ∧ g < w.heap.size ∧ ¬ p g ∧ ∀ j, j < L.length * 4 → w.cell? ⟨g, j, none⟩ = (pflat L)[j]?
theorem RowAt.keep {w w' : World} {p : Nat → Prop} {oa : Option Addr} {L : List Pk} (h : RowAt w p oa L) (hk : Keep p w w') : RowAt w' p oa L := by
  rcases h with h | ⟨g, h1, h2, h3, h4⟩
  · exact Or.inl h
  · exact Or.inr ⟨g, h1, Nat.lt_of_lt_of_le h2 hk.size, h3, fun j hj => (hk.cell (a := ⟨g, j, none⟩) h2 h3).trans (h4 j hj)⟩
theorem RowAt.at {w : World} {p : Nat → Prop} {oa : Option Addr} {L : List Pk} (h : RowAt w p oa L) (i : Nat) (hi : i < L.length) : ∃ g, oa = some ⟨g, 0, none⟩ ∧
    w.cell? ⟨g, i * 4, none⟩ = some (.int .i64 L[i].num) ∧ w.cell? ⟨g, i * 4 + 1, none⟩ = some (.int .i64 L[i].frm) ∧ w.cell? ⟨g, i * 4 + 2, none⟩ = some (.int .i64 L[i].to) ∧ w.cell? ⟨g, i * 4 + 3, none⟩ = some (.slice L[i].ad L[i].s.size L[i].cap) := by
  rcases h with h | ⟨g, h1, h2, h3, h4⟩
  · rw [h] at hi; cases hi
  · have key : ∀ r, r < 4 → w.cell? ⟨g, i * 4 + r, none⟩ = (L[i].cells)[r]? := fun r hr => by rw [h4 (i * 4 + r) (by omega), pflat_get L i hi r hr]
    exact ⟨g, h1, key 0 (by omega), key 1 (by omega), key 2 (by omega), key 3 (by omega)⟩

def pkArgs (L : List Pk) (k : Nat) (args : Array Value) (_ : World) : Prop := ∃ h : k < L.length, args = #[.int .i64 (k : Int), pv L[k].num L[k].frm L[k].to L[k].ad L[k].s.size L[k].cap]

set_option maxRecDepth 100000 in
set_option maxHeartbeats 4000000 in
theorem sall_seq (bl : Nat) (oa : Option Addr) (cap : Nat) (L : List Pk) (p : Nat → Prop) (T : TypeId → Prop) (w : World) (hL : L.length ≤ 512) (hcap : L.length ≤ cap) (hbl : w.heap[bl]? = some (.cells #[.slice oa L.length cap] 54 (0, 0))) (hrow : RowAt w p oa L) :
    SeqN Try.prog 36 #[.pointer (some ⟨bl, 0, none⟩)] L.length (pkArgs L) p T w := by
  intro l J Jx W hW hJ hJx hY h0
  have hblW := blk_below hbl hW
  have hrowW : RowAt W p oa L := hrow.keep (Keep.of_below hW)
  have HP : Hid (RowAt W p oa L) := hrowW
  clear hrow hrowW hbl hW
  have q := blk1 hblW
  refine (callsIn_wide (n := 3)).1 (callsIn_of_wp Try.func36 rfl trivial ?_ rfl)
  simp only [Try.ntmps36, List.size_toArray, List.length_cons, List.length_nil, Nat.reduceAdd, Nat.reduceSub, Array.replicate_succ, Array.replicate_zero, List.push_toArray, List.append_toArray, List.nil_append, List.cons_append]
  gi_wp2
  clear q
  gi_loopw [7] (fun i wr => ∃ k : Nat, k ≤ L.length ∧ i = .int .i64 k ∧ J k wr ∧ Keep p W wr) (fun i _ => L.length - (intOf i).toNat)
  case atStart => exact ⟨0, Nat.zero_le _, rfl, h0, Keep.refl _ _⟩
  case round =>
    obtain ⟨k, hk, rfl, hJs, hkp⟩ := hrel
    by_cases hlt : k < L.length
    · obtain ⟨g, rfl, x0, x1, x2, x3⟩ := (HP.out.keep hkp).at k hlt
      have hb1 := below_alloc_self wr (.cells #[.int .i64 L[k].num, .int .i64 L[k].frm, .int .i64 L[k].to, .slice L[k].ad L[k].s.size L[k].cap] 39 (0, 0))
      obtain ⟨fn, tmps, assign, body, hy, hR0⟩ := hY k _ (wr.alloc (.cells #[.int .i64 L[k].num, .int .i64 L[k].frm, .int .i64 L[k].to, .slice L[k].ad L[k].s.size L[k].cap] 39 (0, 0))) hlt (OwnFrom.keepOf hJ hJs hb1) ⟨hlt, rfl⟩
      have hR := roundIn_any (m' := 3 - 1) rfl hR0
      have hkp1 := hkp.trans (Keep.of_below hb1)
      clear hR0 hY
      gi_wp2
      refine hR.mono ?_
      rintro e W3 ⟨bb, rfl, _, hb⟩
      cases bb with
      | true =>
        rw [if_pos rfl] at hb
        obtain ⟨hJ3, hk3⟩ := hb
        have hkz := hkp1.trans hk3.keep
        clear hkp1 hk3 hb1 hJs x0 x1 x2 x3
        gi_wp2
        go_roundw
        case rel => exact ⟨k + 1, by omega, by go_num, hJ3, hkz⟩
        case measure => simp [intOf]; omega
      | false =>
        have hb' : Jx (k + 1) W3 := hb
        clear hb hb1 hJs x0 x1 x2 x3 hkp1
        gi_wp2
        refine bodyPost_ret (results_none rfl _ _ _) rfl ?_
        exact ⟨⟨_, rfl⟩, .inr ⟨k + 1, by omega, hb'⟩⟩
    · obtain rfl : k = L.length := by omega
      gi_wp2
      go_end0
      exact ⟨⟨_, rfl⟩, .inl hJs⟩

theorem sall_any (oa : Option Addr) (n cap : Nat) (w : World) : Calls Try.prog 33 #[.slice oa n cap] w fun e w' =>
    e = .returned (.func (.func 36) #[] #[.pointer (some ⟨w.heap.size, 0, none⟩)]) ∧ w' = w.alloc (.cells #[.slice oa n cap] 54 (0, 0)) := by
  go_enter Try.func33, Try.ntmps33
  go_wp2_with fail
  go_ret
  exact ⟨rfl, rfl⟩

set_option maxHeartbeats 2000000 in
theorem ball_any (B b : Nat) (oa : Option Addr) (ca : Nat) (room num lost : Int) (L : List Pk) (w : World) (h : BagAt w B b (.slice oa L.length ca) room num lost L) :
    Calls Try.prog 22 #[.pointer (some ⟨b, 0, none⟩)] w fun e w' => ∃ bl, e = .returned (.func (.func 32) #[] #[.pointer (some ⟨bl, 0, none⟩)]) ∧ w.heap.size ≤ bl ∧
      w'.heap[bl]? = some (.cells #[.slice oa L.length L.length] 54 (0, 0)) ∧ Below w.heap.size w w' := by
  obtain ⟨_, g0, hown, _⟩ := h
  obtain ⟨oa', ca', he, hca1, hca2, hnil, ha0⟩ := row_form hown
  simp only [Value.slice.injEq] at he
  obtain ⟨rfl, _, rfl⟩ := he
  unfold maxLen at hca2
  clear hown
  cases oa with
  | none =>
    obtain ⟨h1, h2⟩ := hnil rfl
    obtain rfl : L = [] := List.eq_nil_of_length_eq_zero h1
    subst h2
    simp only [List.length_nil] at g0 ⊢
    clear hca1 hca2 hnil ha0 h1
    go_enter Try.func22, Try.ntmps22
    go_wp2_with fail
    have hSt : Stable (fun w8 : World => (Below w.heap.size w w8)) := by repeat (first | exact stable_ext _ | exact stable_blk _ _ | exact stable_true | (refine stable_bel ?_ ; (focus (first | (simp [World.size_setCell] ; done) | (simp [World.setCell] ; done)))) | refine Stable.and ?_ ?_)
    refine wp_region_x [0, 1, 2, 3, 4, 5, 6, 7, 8, 9, 10, 11, 12, 13, 14, 15, 16] [0, 0, 0, 1, 0, 0, 0, 1, 0, 0, 0, 0, 1, 0, 0, 2, 3] (fun w8 => (Below w.heap.size w w8)) (by kernel_rfl) (by kernel_rfl) ?_ ?_
    · (first | trivial | (repeat (first | (with_reducible assumption) | (with_reducible exact Below.refl _ _) | (with_reducible refine heap_drew ?_) | (focus ((with_reducible refine heap_new ?_) ; simp ; done)) | (with_reducible apply heap_set_to) | (focus ((with_reducible refine heap_set_ne ?_ ?_ _) ; rotate_left ; (focus (first | omega | (simp ; done) | (simp ; omega))))) | (with_reducible refine heap_old ?_) | (with_reducible refine Below.drew ?_) | (with_reducible refine below_set ?_ _ _) | (focus ((with_reducible refine Below.setCell ?_ ?_ _) ; rotate_left ; (focus (first | omega | (simp ; done) | (simp ; omega))))) | (focus ((with_reducible refine Below.alloc ?_ ?_ _) ; rotate_left ; (focus (first | omega | (simp ; done) | (simp ; omega))))) | (with_reducible rfl) | (focus (simp ; done)))))
    simp only [List.map_cons, List.map_nil, List.getD_cons_zero, List.getD_cons_succ]
    (refine x_pure rfl _ ?_ rfl (by simp) ?_ ?_ ; rotate_left ; · (intro w8 K hK ; go_wp2_with fail ; exact rfl))
    simp only [Act.put, List.setIfInBounds_toArray, List.set_cons_succ, List.set_cons_zero]
    (refine x_pure rfl _ ?_ rfl (by simp) ?_ ?_ ; rotate_left ; · (intro w8 K hK ; go_wp2_with fail ; exact rfl))
    simp only [Act.put, List.setIfInBounds_toArray, List.set_cons_succ, List.set_cons_zero]
    (refine x_pure rfl _ ?_ rfl (by simp) ?_ ?_ ; rotate_left ; · (intro w8 K hK ; go_wp2_with fail ; exact rfl))
    simp only [Act.put, List.setIfInBounds_toArray, List.set_cons_succ, List.set_cons_zero]
    (refine x_quiet rfl hSt (fun _ h => h) _ ?_ rfl (by simp) ?_ ?_ ; rotate_left ; · (intro w8 hC K hK ; have hc := hC ; have q := blk4 (blk_below g0 hc) ; go_wp2_with fail ; refine ⟨?_, Below.refl _ _⟩ ; exact rfl))
    simp only [Act.put, List.setIfInBounds_toArray, List.set_cons_succ, List.set_cons_zero]
    (refine x_pure rfl _ ?_ rfl (by simp) ?_ ?_ ; rotate_left ; · (intro w8 K hK ; go_wp2_with fail ; exact rfl))
    simp only [Act.put, List.setIfInBounds_toArray, List.set_cons_succ, List.set_cons_zero]
    (refine x_pure rfl _ ?_ rfl (by simp) ?_ ?_ ; rotate_left ; · (intro w8 K hK ; go_wp2_with fail ; exact rfl))
    simp only [Act.put, List.setIfInBounds_toArray, List.set_cons_succ, List.set_cons_zero]
    (refine x_pure rfl _ ?_ rfl (by simp) ?_ ?_ ; rotate_left ; · (intro w8 K hK ; go_wp2_with fail ; exact rfl))
    simp only [Act.put, List.setIfInBounds_toArray, List.set_cons_succ, List.set_cons_zero]
    (refine x_quiet rfl hSt (fun _ h => h) _ ?_ rfl (by simp) ?_ ?_ ; rotate_left ; · (intro w8 hC K hK ; have hc := hC ; have q := blk4 (blk_below g0 hc) ; go_wp2_with fail ; refine ⟨?_, Below.refl _ _⟩ ; exact rfl))
    simp only [Act.put, List.setIfInBounds_toArray, List.set_cons_succ, List.set_cons_zero]
    (refine x_pure rfl _ ?_ rfl (by simp) ?_ ?_ ; rotate_left ; · (intro w8 K hK ; go_wp2_with fail ; exact rfl))
    simp only [Act.put, List.setIfInBounds_toArray, List.set_cons_succ, List.set_cons_zero]
    (refine x_pure rfl _ ?_ rfl (by simp) ?_ ?_ ; rotate_left ; · (intro w8 K hK ; go_wp2_with fail ; exact rfl))
    simp only [Act.put, List.setIfInBounds_toArray, List.set_cons_succ, List.set_cons_zero]
    (refine x_pure rfl _ ?_ rfl (by simp) ?_ ?_ ; rotate_left ; · (intro w8 K hK ; go_wp2_with fail ; exact rfl))
    simp only [Act.put, List.setIfInBounds_toArray, List.set_cons_succ, List.set_cons_zero]
    (refine x_pure rfl _ ?_ rfl (by simp) ?_ ?_ ; rotate_left ; · (intro w8 K hK ; go_wp2_with fail ; exact rfl))
    simp only [Act.put, List.setIfInBounds_toArray, List.set_cons_succ, List.set_cons_zero]
    (refine x_quiet rfl hSt (fun _ h => h) _ ?_ rfl (by simp) ?_ ?_ ; rotate_left ; · (intro w8 hC K hK ; have hc := hC ; have q := blk4 (blk_below g0 hc) ; go_wp2_with fail ; refine ⟨?_, Below.refl _ _⟩ ; exact rfl))
    simp only [Act.put, List.setIfInBounds_toArray, List.set_cons_succ, List.set_cons_zero]
    (refine x_pure rfl _ ?_ rfl (by simp) ?_ ?_ ; rotate_left ; · (intro w8 K hK ; go_wp2_with fail ; exact rfl))
    simp only [Act.put, List.setIfInBounds_toArray, List.set_cons_succ, List.set_cons_zero]
    (refine x_pure rfl _ ?_ rfl (by simp) ?_ ?_ ; rotate_left ; · (intro w8 K hK ; go_wp2_with fail ; exact rfl))
    simp only [Act.put, List.setIfInBounds_toArray, List.set_cons_succ, List.set_cons_zero]
    (refine x_new rfl hSt ?_ ?_ ?_ ; rotate_left ; (focus (intro w9 ; go_simp ; try exact rfl)) ; rintro gn0 ⟨w8n, hgn0, hgs0⟩)
    simp only [Act.put, List.setIfInBounds_toArray, List.set_cons_succ, List.set_cons_zero]
    refine x_write rfl ?_
    intro w8 hD K hK ; obtain ⟨hc, hn0⟩ := hD ; have q := blk4 (blk_below g0 hc) ; have qn := blk1 hn0
    go_wp2_with fail
    first | refine x_nil ?_ | refine x_end ?_
    rintro _ rfl
    go_wp2_with fail
    go_ret
    have hge : w.heap.size ≤ gn0 := by have := hgn0.size; omega
    exact ⟨gn0, rfl, hge, heap_set_to hn0 (by simp), hc.setCell hge _⟩
  | some a =>
    clear hnil ha0
    go_enter Try.func22, Try.ntmps22
    go_wp2_with fail
    have hSt : Stable (fun w8 : World => (Below w.heap.size w w8)) := by repeat (first | exact stable_ext _ | exact stable_blk _ _ | exact stable_true | (refine stable_bel ?_ ; (focus (first | (simp [World.size_setCell] ; done) | (simp [World.setCell] ; done)))) | refine Stable.and ?_ ?_)
    refine wp_region_x [0, 1, 2, 3, 4, 5, 6, 7, 8, 9, 10, 11, 12, 13, 14, 15, 16] [0, 0, 0, 1, 0, 0, 0, 1, 0, 0, 0, 0, 1, 0, 0, 2, 3] (fun w8 => (Below w.heap.size w w8)) (by kernel_rfl) (by kernel_rfl) ?_ ?_
    · (first | trivial | (repeat (first | (with_reducible assumption) | (with_reducible exact Below.refl _ _) | (with_reducible refine heap_drew ?_) | (focus ((with_reducible refine heap_new ?_) ; simp ; done)) | (with_reducible apply heap_set_to) | (focus ((with_reducible refine heap_set_ne ?_ ?_ _) ; rotate_left ; (focus (first | omega | (simp ; done) | (simp ; omega))))) | (with_reducible refine heap_old ?_) | (with_reducible refine Below.drew ?_) | (with_reducible refine below_set ?_ _ _) | (focus ((with_reducible refine Below.setCell ?_ ?_ _) ; rotate_left ; (focus (first | omega | (simp ; done) | (simp ; omega))))) | (focus ((with_reducible refine Below.alloc ?_ ?_ _) ; rotate_left ; (focus (first | omega | (simp ; done) | (simp ; omega))))) | (with_reducible rfl) | (focus (simp ; done)))))
    simp only [List.map_cons, List.map_nil, List.getD_cons_zero, List.getD_cons_succ]
    (refine x_pure rfl _ ?_ rfl (by simp) ?_ ?_ ; rotate_left ; · (intro w8 K hK ; go_wp2_with fail ; exact rfl))
    simp only [Act.put, List.setIfInBounds_toArray, List.set_cons_succ, List.set_cons_zero]
    (refine x_pure rfl _ ?_ rfl (by simp) ?_ ?_ ; rotate_left ; · (intro w8 K hK ; go_wp2_with fail ; exact rfl))
    simp only [Act.put, List.setIfInBounds_toArray, List.set_cons_succ, List.set_cons_zero]
    (refine x_pure rfl _ ?_ rfl (by simp) ?_ ?_ ; rotate_left ; · (intro w8 K hK ; go_wp2_with fail ; exact rfl))
    simp only [Act.put, List.setIfInBounds_toArray, List.set_cons_succ, List.set_cons_zero]
    (refine x_quiet rfl hSt (fun _ h => h) _ ?_ rfl (by simp) ?_ ?_ ; rotate_left ; · (intro w8 hC K hK ; have hc := hC ; have q := blk4 (blk_below g0 hc) ; go_wp2_with fail ; refine ⟨?_, Below.refl _ _⟩ ; exact rfl))
    simp only [Act.put, List.setIfInBounds_toArray, List.set_cons_succ, List.set_cons_zero]
    (refine x_pure rfl _ ?_ rfl (by simp) ?_ ?_ ; rotate_left ; · (intro w8 K hK ; go_wp2_with fail ; exact rfl))
    simp only [Act.put, List.setIfInBounds_toArray, List.set_cons_succ, List.set_cons_zero]
    (refine x_pure rfl _ ?_ rfl (by simp) ?_ ?_ ; rotate_left ; · (intro w8 K hK ; go_wp2_with fail ; exact rfl))
    simp only [Act.put, List.setIfInBounds_toArray, List.set_cons_succ, List.set_cons_zero]
    (refine x_pure rfl _ ?_ rfl (by simp) ?_ ?_ ; rotate_left ; · (intro w8 K hK ; go_wp2_with fail ; exact rfl))
    simp only [Act.put, List.setIfInBounds_toArray, List.set_cons_succ, List.set_cons_zero]
    (refine x_quiet rfl hSt (fun _ h => h) _ ?_ rfl (by simp) ?_ ?_ ; rotate_left ; · (intro w8 hC K hK ; have hc := hC ; have q := blk4 (blk_below g0 hc) ; go_wp2_with fail ; refine ⟨?_, Below.refl _ _⟩ ; exact rfl))
    simp only [Act.put, List.setIfInBounds_toArray, List.set_cons_succ, List.set_cons_zero]
    (refine x_pure rfl _ ?_ rfl (by simp) ?_ ?_ ; rotate_left ; · (intro w8 K hK ; go_wp2_with fail ; exact rfl))
    simp only [Act.put, List.setIfInBounds_toArray, List.set_cons_succ, List.set_cons_zero]
    (refine x_pure rfl _ ?_ rfl (by simp) ?_ ?_ ; rotate_left ; · (intro w8 K hK ; go_wp2_with fail ; exact rfl))
    simp only [Act.put, List.setIfInBounds_toArray, List.set_cons_succ, List.set_cons_zero]
    (refine x_pure rfl _ ?_ rfl (by simp) ?_ ?_ ; rotate_left ; · (intro w8 K hK ; go_wp2_with fail ; exact rfl))
    simp only [Act.put, List.setIfInBounds_toArray, List.set_cons_succ, List.set_cons_zero]
    (refine x_pure rfl _ ?_ rfl (by simp) ?_ ?_ ; rotate_left ; · (intro w8 K hK ; go_wp2_with fail ; exact rfl))
    simp only [Act.put, List.setIfInBounds_toArray, List.set_cons_succ, List.set_cons_zero]
    (refine x_quiet rfl hSt (fun _ h => h) _ ?_ rfl (by simp) ?_ ?_ ; rotate_left ; · (intro w8 hC K hK ; have hc := hC ; have q := blk4 (blk_below g0 hc) ; go_wp2_with fail ; refine ⟨?_, Below.refl _ _⟩ ; exact rfl))
    simp only [Act.put, List.setIfInBounds_toArray, List.set_cons_succ, List.set_cons_zero]
    (refine x_pure rfl _ ?_ rfl (by simp) ?_ ?_ ; rotate_left ; · (intro w8 K hK ; go_wp2_with fail ; exact rfl))
    simp only [Act.put, List.setIfInBounds_toArray, List.set_cons_succ, List.set_cons_zero]
    (refine x_pure rfl _ ?_ rfl (by simp) ?_ ?_ ; rotate_left ; · (intro w8 K hK ; go_wp2_with fail ; exact rfl))
    simp only [Act.put, List.setIfInBounds_toArray, List.set_cons_succ, List.set_cons_zero]
    (refine x_new rfl hSt ?_ ?_ ?_ ; rotate_left ; (focus (intro w9 ; go_simp ; try exact rfl)) ; rintro gn0 ⟨w8n, hgn0, hgs0⟩)
    simp only [Act.put, List.setIfInBounds_toArray, List.set_cons_succ, List.set_cons_zero]
    refine x_write rfl ?_
    intro w8 hD K hK ; obtain ⟨hc, hn0⟩ := hD ; have q := blk4 (blk_below g0 hc) ; have qn := blk1 hn0
    go_wp2_with fail
    first | refine x_nil ?_ | refine x_end ?_
    rintro _ rfl
    go_wp2_with fail
    go_ret
    have hge : w.heap.size ≤ gn0 := by have := hgn0.size; omega
    exact ⟨gn0, rfl, hge, heap_set_to hn0 (by simp), hc.setCell hge _⟩

/-- What the bag's iterator hands over in round k: the packet, its bytes in new memory. -/
def bagArgs (L : List Pk) (n0 : Nat) (k : Nat) (args : Array Value) (w : World) : Prop := ∃ (h : k < L.length) (ad : Option Addr) (cap : Nat), args = #[.int .i64 (k : Int), pv L[k].num L[k].frm L[k].to ad L[k].s.size cap] ∧ (ad = none → L[k].s.size = 0 ∧ cap = 0) ∧ Dat w n0 ad L[k].s

theorem ownFrom_dat {β : Type} (B n0 : Nat) (ad : β → Option Addr) (s : β → ByteArray) : OwnFrom B (fun (x : β) W => Dat W n0 (ad x) (s x)) := fun x X Y row hs hg hr =>
  hs.keep (Keep.grown hg) (fun g cs hh e => by
    obtain ⟨_, o, ho, hc⟩ := hr g e
    rw [hh] at ho
    cases ho
    cases hc)

set_option maxRecDepth 100000 in
set_option maxHeartbeats 8000000 in
theorem bag_seq (bl : Nat) (oa : Option Addr) (L : List Pk) (p : Nat → Prop) (T : TypeId → Prop) (hT : T 67) (w : World) (hL : L.length ≤ 512) (hbl : w.heap[bl]? = some (.cells #[.slice oa L.length L.length] 54 (0, 0))) (hp : ∀ k, w.heap.size ≤ k → p k) (hrow : RowAt w p oa L)
    (hd : ∀ q ∈ L, q.Ok ∧ ∃ B, Dat w B q.ad q.s ∧ (q.s.size = 0 ∨ ∀ a, q.ad = some a → ¬ p a.block)) :
    SeqN Try.prog 32 #[.pointer (some ⟨bl, 0, none⟩)] L.length (bagArgs L w.heap.size) p T w := by
  intro l J Jx W hW hJ hJx hY h0
  have hblW := blk_below hbl hW
  have hrowW : RowAt W p oa L := hrow.keep (Keep.of_below hW)
  have hsW := hW.size
  have hpW : ∀ k, W.heap.size ≤ k → p k := fun k hk => hp k (Nat.le_trans hsW hk)
  have hrd : ∀ q ∈ L, q.Ok ∧ ∀ W', Keep p W W' → Reads W' q.ad q.s := fun q hq => by
    obtain ⟨h1, B, h2, h3⟩ := hd q hq
    exact ⟨h1, fun W' hk => h3.elim Or.inl fun h3 => (h2.reads.below hW).keep hk h3⟩
  have HP : Hid (RowAt W p oa L ∧ (∀ k, W.heap.size ≤ k → p k) ∧ (∀ q ∈ L, q.Ok ∧ ∀ W', Keep p W W' → Reads W' q.ad q.s)) := ⟨hrowW, hpW, hrd⟩
  clear hrow hrowW hpW hp hbl hW hd hrd
  refine calls_of_marks 3 Try.func32 rfl ?_
  simp only [Try.ntmps32, List.size_toArray, List.length_cons, List.length_nil, Nat.reduceAdd, Nat.reduceSub, Array.replicate_succ, Array.replicate_zero, List.push_toArray, List.append_toArray, List.nil_append, List.cons_append]
  have q := blk1 hblW
  gi_wp2_with (refine ⟨trivial, ?_⟩; gi_at_call 33; refine (callsIn_wide.2 (sall_any _ _ _ _)).mono ?_; rintro e w' ⟨rfl, rfl⟩)
  have gy : ((W.alloc (.cells #[.func (.yield l) #[] #[]] 67 (0, 0))).alloc (.cells #[.slice oa L.length L.length] 54 (0, 0))).heap[W.heap.size]? = some (.cells #[.func (.yield l) #[] #[]] 67 (0, 0)) := by (repeat (first | (with_reducible assumption) | (with_reducible exact Below.refl _ _) | (with_reducible refine heap_drew ?_) | (focus ((with_reducible refine heap_new ?_) ; simp ; done)) | (with_reducible apply heap_set_to) | (focus ((with_reducible refine heap_set_ne ?_ ?_ _) ; rotate_left ; (focus (first | omega | (simp ; done) | (simp ; omega))))) | (with_reducible refine heap_old ?_) | (with_reducible refine Below.drew ?_) | (with_reducible refine below_set ?_ _ _) | (focus ((with_reducible refine Below.setCell ?_ ?_ _) ; rotate_left ; (focus (first | omega | (simp ; done) | (simp ; omega))))) | (focus ((with_reducible refine Below.alloc ?_ ?_ _) ; rotate_left ; (focus (first | omega | (simp ; done) | (simp ; omega))))) | (with_reducible rfl) | (focus (simp ; done))))
  have gl : ((W.alloc (.cells #[.func (.yield l) #[] #[]] 67 (0, 0))).alloc (.cells #[.slice oa L.length L.length] 54 (0, 0))).heap[W.heap.size + 1]? = some (.cells #[.slice oa L.length L.length] 54 (0, 0)) := by (repeat (first | (with_reducible assumption) | (with_reducible exact Below.refl _ _) | (with_reducible refine heap_drew ?_) | (focus ((with_reducible refine heap_new ?_) ; simp ; done)) | (with_reducible apply heap_set_to) | (focus ((with_reducible refine heap_set_ne ?_ ?_ _) ; rotate_left ; (focus (first | omega | (simp ; done) | (simp ; omega))))) | (with_reducible refine heap_old ?_) | (with_reducible refine Below.drew ?_) | (with_reducible refine below_set ?_ _ _) | (focus ((with_reducible refine Below.setCell ?_ ?_ _) ; rotate_left ; (focus (first | omega | (simp ; done) | (simp ; omega))))) | (focus ((with_reducible refine Below.alloc ?_ ?_ _) ; rotate_left ; (focus (first | omega | (simp ; done) | (simp ; omega))))) | (with_reducible rfl) | (focus (simp ; done))))
  have hbs : Below W.heap.size W ((W.alloc (.cells #[.func (.yield l) #[] #[]] 67 (0, 0))).alloc (.cells #[.slice oa L.length L.length] 54 (0, 0))) := by (repeat (first | (with_reducible assumption) | (with_reducible exact Below.refl _ _) | (with_reducible refine heap_drew ?_) | (focus ((with_reducible refine heap_new ?_) ; simp ; done)) | (with_reducible apply heap_set_to) | (focus ((with_reducible refine heap_set_ne ?_ ?_ _) ; rotate_left ; (focus (first | omega | (simp ; done) | (simp ; omega))))) | (with_reducible refine heap_old ?_) | (with_reducible refine Below.drew ?_) | (with_reducible refine below_set ?_ _ _) | (focus ((with_reducible refine Below.setCell ?_ ?_ _) ; rotate_left ; (focus (first | omega | (simp ; done) | (simp ; omega))))) | (focus ((with_reducible refine Below.alloc ?_ ?_ _) ; rotate_left ; (focus (first | omega | (simp ; done) | (simp ; omega))))) | (with_reducible rfl) | (focus (simp ; done))))
  generalize hws : (W.alloc (.cells #[.func (.yield l) #[] #[]] 67 (0, 0))).alloc (.cells #[.slice oa L.length L.length] 54 (0, 0)) = ws at *
  clear hws q
  have hzs := hbs.size
  refine wpIn_range (gf := 36) (lb := #[.pointer (some ⟨W.heap.size + 1, 0, none⟩)]) rfl (enters_of Try.func36 (by kernel_rfl) rfl)
    (sall_seq (W.heap.size + 1) oa L.length L p T ws hL (Nat.le_refl _) gl (HP.out.1.keep (Keep.of_below hbs))) (fun k hk => HP.out.2.1 k (Nat.le_trans hzs hk)) ?hps
    (fun k W' => J k W' ∧ KeepT p T ws W' ∧ W'.heap[W.heap.size]? = some (.cells #[.func (.yield l) #[] #[]] 67 (0, 0)))
    (fun c k W' => c = .ret ∧ Jx k W')
    ((OwnFrom.mono hJ hzs).and ((ownFrom_keepT (Nat.le_refl _)).and (ownFrom_blk _ _ _ _ _))) (fun c => (OwnFrom.pure _ _).and (OwnFrom.mono hJx hzs)) ⟨OwnFrom.keepOf hJ h0 hbs, KeepT.refl _ _ _, gy⟩
    (fun k a' W' => ∃ (h : k < L.length) (bp : Nat), ws.heap.size ≤ bp ∧ W'.heap[bp]? = some (.cells #[.int .i64 L[k].num, .int .i64 L[k].frm, .int .i64 L[k].to, .slice L[k].ad L[k].s.size L[k].cap] 39 (0, 0)) ∧ a' = { tmps := #[.func (.yield l) #[] #[], .pointer (some ⟨bl, 0, none⟩), .pointer (some ⟨W.heap.size, 0, none⟩), .int .i64 (k : Int), .pointer (some ⟨bp, 0, none⟩), .slice oa L.length L.length, .func (.func 36) #[] #[.pointer (some ⟨W.heap.size + 1, 0, none⟩)], .int .i64 (k : Int), pv L[k].num L[k].frm L[k].to L[k].ad L[k].s.size L[k].cap, undef, undef, undef, undef, undef, undef], defers := [] })
    ?hA ?assign ?body ?done ?stop
  case hps => intro k args W' h; obtain ⟨_, rfl⟩ := h; rfl
  case hA =>
    intro a' k X Y row hs hg hr
    obtain ⟨h, bp, h1, h2, h3⟩ := hs
    exact ⟨h, bp, h1, ownFrom_blk (β := Unit) _ (fun _ => bp) (fun _ => #[.int .i64 L[k].num, .int .i64 L[k].frm, .int .i64 L[k].to, .slice L[k].ad L[k].s.size L[k].cap]) _ _ () X Y row h2 hg hr, h3⟩
  case assign =>
    rintro l2 k args W2 K hk ⟨hj, hkt, hy2⟩ ⟨hlt, rfl⟩ hK
    gi_wp2
    have hb2 := below_alloc_self W2 (.cells #[.int .i64 L[k].num, .int .i64 L[k].frm, .int .i64 L[k].to, .slice L[k].ad L[k].s.size L[k].cap] 39 (0, 0))
    exact hK _ _ (KeepsFrom.of_below _ hb2) (KeepT.of_below hb2) ⟨OwnFrom.keepOf hJ hj hb2, hkt.trans (KeepT.of_below hb2), blk_below hy2 hb2⟩ ⟨hlt, W2.heap.size, hkt.keep.size, heap_new rfl, rfl⟩
  case body =>
    rintro l2 k a' W2 hl ⟨r2, hr2⟩ hk ⟨hj, hkt, hy2⟩ ⟨hlt, bp, hbp, gp, rfl⟩
    have hkz := hkt.keep.size
    have HR : Hid (L[k].Ok ∧ Reads W2 L[k].ad L[k].s) := ⟨(HP.out.2.2 _ (List.getElem_mem hlt)).1, (HP.out.2.2 _ (List.getElem_mem hlt)).2 W2 ((Keep.of_below hbs).trans hkt.keep)⟩
    gi_wp2
    have hSt : Stable (fun w8 : World => (Below W2.heap.size W2 w8)) := by repeat (first | exact stable_ext _ | exact stable_blk _ _ | exact stable_true | (refine stable_bel ?_ ; (focus (first | (simp [World.size_setCell] ; done) | (simp [World.setCell] ; done)))) | refine Stable.and ?_ ?_)
    refine wpIn_region_y (some l2) [0, 1, 2, 3, 4, 5] [1, 0, 1, 4, 3, 0] (fun w8 => (Below W2.heap.size W2 w8)) (by kernel_rfl) (by kernel_rfl) ?_ ?_
    · (first | trivial | (repeat (first | (with_reducible assumption) | (with_reducible exact Below.refl _ _) | (with_reducible refine heap_drew ?_) | (focus ((with_reducible refine heap_new ?_) ; simp ; done)) | (with_reducible apply heap_set_to) | (focus ((with_reducible refine heap_set_ne ?_ ?_ _) ; rotate_left ; (focus (first | omega | (simp ; done) | (simp ; omega))))) | (with_reducible refine heap_old ?_) | (with_reducible refine Below.drew ?_) | (with_reducible refine below_set ?_ _ _) | (focus ((with_reducible refine Below.setCell ?_ ?_ _) ; rotate_left ; (focus (first | omega | (simp ; done) | (simp ; omega))))) | (focus ((with_reducible refine Below.alloc ?_ ?_ _) ; rotate_left ; (focus (first | omega | (simp ; done) | (simp ; omega))))) | (with_reducible rfl) | (focus (simp ; done)))))
    simp only [List.map_cons, List.map_nil, List.getD_cons_zero, List.getD_cons_succ]
    (refine y_quiet rfl hSt (fun _ h => h) _ ?_ rfl (by simp) ?_ ?_ ; rotate_left ; · (intro w8 hC K hK ; have hc := hC ; have q := blk1 (blk_below hy2 hc) ; have qp := blk4 (blk_below gp hc) ; go_wp2_with fail ; refine ⟨?_, Below.refl _ _⟩ ; exact rfl))
    simp only [Act.put, List.setIfInBounds_toArray, List.set_cons_succ, List.set_cons_zero]
    (refine y_pure rfl _ ?_ rfl (by simp) ?_ ?_ ; rotate_left ; · (intro w8 K hK ; go_wp2_with fail ; exact rfl))
    simp only [Act.put, List.setIfInBounds_toArray, List.set_cons_succ, List.set_cons_zero]
    (refine y_quiet rfl hSt (fun _ h => h) _ ?_ rfl (by simp) ?_ ?_ ; rotate_left ; · (intro w8 hC K hK ; have hc := hC ; have q := blk1 (blk_below hy2 hc) ; have qp := blk4 (blk_below gp hc) ; go_wp2_with fail ; refine ⟨?_, Below.refl _ _⟩ ; exact rfl))
    simp only [Act.put, List.setIfInBounds_toArray, List.set_cons_succ, List.set_cons_zero]
    refine y_make rfl ?_
    intro w8 hD K hK ; have hc := hD ; have q := blk1 (blk_below hy2 hc) ; have qp := blk4 (blk_below gp hc)
    refine wpIn_of_wp (by intro c h; cases h) ?_
    go_wp2_with fail
    refine (own_any L[k].num L[k].frm L[k].to L[k].ad L[k].cap L[k].s w8 (HR.out.2.below hc) HR.out.1.1 (by have := HR.out.1.2; omega)).mono ?_
    rintro e w9 ⟨ad', cap', rfl, hn', hd', hb9⟩
    refine hK _ _ hb9 ?_
    try simp only [Act.put, List.setIfInBounds_toArray, List.set_cons_succ, List.set_cons_zero]
    refine y_write rfl ?_
    intro wy hyb K hK
    have hWy : Below W2.heap.size W2 wy := below_back (below_back hc hc.size hb9) (Nat.le_trans hc.size hb9.size) hyb
    have hdy := (hd'.mono (show w.heap.size ≤ w8.heap.size by have := hc.size; omega)).keep (p := fun _ => False) (Keep.of_below hyb) (fun _ _ _ h => h)
    obtain ⟨fn, tmps, assign, body, hy, hR0⟩ := hY k _ wy hk (OwnFrom.keepOf hJ hj hWy) ⟨hlt, ad', cap', rfl, hn', hdy⟩
    have hR := roundIn_any (m' := 3 - 1) rfl hR0
    clear hR0 hY hdy hn' hd' hD q qp
    simp only [fenceOf]
    gi_wp2
    refine hR.mono ?_
    rintro e w5 ⟨bb, rfl, hkf, hbb⟩
    have HF : Hid (KeepsFrom ws.heap.size W2 w5 ∧ if bb = true then J (k + 1) w5 ∧ KeepT p T W2 w5 ∧ w5.heap[W.heap.size]? = some (.cells #[.func (.yield l) #[] #[]] 67 (0, 0)) else Jx (k + 1) w5) := by
      refine ⟨(KeepsFrom.of_below _ hWy).trans (KeepsFrom.mono hkf hzs), ?_⟩
      cases bb with
      | true => exact ⟨hbb.1, (KeepT.of_below hWy).trans hbb.2, hbb.2.typ _ _ _ _ hT (blk_below hy2 hWy)⟩
      | false => exact hbb
    clear hkf hbb hR hWy hyb hb9 hc
    refine hK _ _ ?_
    try simp only [Act.put, List.setIfInBounds_toArray, List.set_cons_succ, List.set_cons_zero]
    (refine y_pure rfl _ ?_ rfl (by simp) ?_ ?_ ; rotate_left ; · (intro w8 K hK ; go_wp2_with fail ; exact rfl))
    simp only [Act.put, List.setIfInBounds_toArray, List.set_cons_succ, List.set_cons_zero]
    first | refine y_nil ?_ | refine y_end ?_
    rintro w5 rfl
    cases bb with
    | true =>
      have HF2 := HF
      clear HF
      gi_wp2
      exact ⟨HF2.out.1, HF2.out.2.2.1, HF2.out.2.1, hkt.trans HF2.out.2.2.1, HF2.out.2.2.2⟩
    | false =>
      have HF2 := HF
      clear HF
      gi_wp2
      exact ⟨HF2.out.1, rfl, HF2.out.2⟩
  case done =>
    rintro D W2 hD ⟨hj, _, _⟩ hdef
    gi_wp2
    refine ⟨by simp, .inl ⟨_, _, rfl, run_takeDeferred hdef, ?_⟩⟩
    exact ⟨_, results_none rfl _ _ _, ⟨_, rfl⟩, .inl (OwnFrom.putObj hJ _ hj (by omega) hdef rfl)⟩
  case stop =>
    rintro D c k W2 hD hk ⟨rfl, hj⟩ hdef
    gi_wp2
    refine ⟨by simp, .inl ⟨_, _, rfl, run_takeDeferred hdef, ?_⟩⟩
    exact ⟨_, results_none rfl _ _ _, ⟨_, rfl⟩, .inr ⟨k, hk, OwnFrom.putObj hJx _ hj (by omega) hdef rfl⟩⟩
end Go.Proofs.Ytepilaejfepicaa
