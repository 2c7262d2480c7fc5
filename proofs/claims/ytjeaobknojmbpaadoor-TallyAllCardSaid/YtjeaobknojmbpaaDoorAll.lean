/-
  TallyAll: what entries come to, one or all, hangs on their keys and versions alone, and on no order; for every two lists of entries.
-/
import Derived.Test.YtjeaobknojmbpaaDoorBey
import Derived.Test.YtjeaobknojmbpaaDoorEq
import Derived.Test.YtjeaobknojmbpaaDoorLaid
import Derived.Test.YtjeaobknojmbpaaDoorCards
import Derived.Test.YtjeaobknojmbpaaDoorTie
import Derived.SevenTiedAt
namespace Go.Proofs.YtjeaobknojmbpaaDoor
open Go.ChangeShapes Go.WideShapes Go.ChangeAt Go.RowKit Go.Deep
set_option linter.unusedVariables false
set_option linter.unusedSimpArgs false

theorem tot0_append (l m : List Ent) : tot0 (l ++ m) = tot0 l + tot0 m := by simp [tot0]
theorem tot1_append (l m : List Ent) : tot1 (l ++ m) = tot1 l + tot1 m := by simp [tot1]
theorem tot0_snoc (l : List Ent) (k : ByteArray) (c n : Int) (v : ByteArray) (d : Bool) : u64 (u64 (tot0 l) + mix0 k c n) = u64 (tot0 (l ++ [(k, c, n, v, d)])) := by
  rw [u64_add, tot0_append]; congr 1; congr 1; show _ = (List.map m0 [(k, c, n, v, d)]).sum; simp [m0]
theorem tot1_snoc (l : List Ent) (k : ByteArray) (c n : Int) (v : ByteArray) (d : Bool) : u64 (u64 (tot1 l) + mix1 k c n) = u64 (tot1 (l ++ [(k, c, n, v, d)])) := by
  rw [u64_add, tot1_append]; congr 1; congr 1; show _ = (List.map m1 [(k, c, n, v, d)]).sum; simp [m1]
theorem tot0_reverse (l : List Ent) : tot0 l.reverse = tot0 l := by simp [tot0, List.map_reverse, List.sum_reverse]
theorem tot1_reverse (l : List Ent) : tot1 l.reverse = tot1 l := by simp [tot1, List.map_reverse, List.sum_reverse]
theorem own_below {w w' : World} {base n size : Nat} {e : TypeId} {v : Value} {xs : List Value} (h : w.ownsRow base e size v n xs) (hb : Below w.heap.size w w') : w'.ownsRow base e size v n xs := by
  refine ⟨h.1, ?_⟩
  rcases h.2 with h2 | ⟨g, cap, cur, hv, hg, hh, r⟩
  · exact Or.inl h2
  · exact Or.inr ⟨g, cap, cur, hv, hg, blk_below hh hb, r⟩
theorem own_set {w : World} {base n size : Nat} {e : TypeId} {v : Value} {xs : List Value} (h : w.ownsRow base e size v n xs) {p : Addr} (hne : ∀ g, v.ownBlock = some g → g ≠ p.block) (u : Value) : (w.setCell p u).ownsRow base e size v n xs := by
  refine ⟨h.1, ?_⟩
  rcases h.2 with h2 | ⟨g, cap, cur, hv, hg, hh, r⟩
  · exact Or.inl h2
  · exact Or.inr ⟨g, cap, cur, hv, hg, heap_set_ne hh (hne g (by rw [hv]; rfl)) u, r⟩
/-- A row's block and another block of another type are two. -/
theorem own_ne {w : World} {base n size : Nat} {e t : TypeId} {v : Value} {xs : List Value} (h : w.ownsRow base e size v n xs) {g : Nat} {cs : Array Value} {fr : Nat × Nat} (hg : w.heap[g]? = some (.cells cs t fr)) (ht : e ≠ t) : ∀ g', v.ownBlock = some g' → g' ≠ g := by
  intro g' hv he
  subst he
  rcases h.2 with ⟨rfl, _⟩ | ⟨g2, cap, cur, rfl, _, hh, _⟩
  · simp [Value.ownBlock] at hv
  · simp [Value.ownBlock] at hv
    subst hv
    rw [hg] at hh
    simp at hh
    exact ht hh.2.1.symm

abbrev anotherS : ByteArray := ⟨#[97, 110, 111, 116, 104, 101, 114]⟩
def turnE (e : Ent) : Ent := (e.1, e.2.1, e.2.2.1, anotherS, !e.2.2.2.2)
theorem tot0_turn (l : List Ent) : tot0 (l.map turnE) = tot0 l := by simp [tot0]; rfl
theorem tot1_turn (l : List Ent) : tot1 (l.map turnE) = tot1 l := by simp [tot1]; rfl
def turnL (l : List Ent) : List Ent := l.map turnE
theorem turnL_snoc (l : List Ent) (e : Ent) : turnL (l ++ [e]) = turnL l ++ [turnE e] := by simp [turnL]
theorem turnL_length (l : List Ent) : (turnL l).length = l.length := by simp [turnL]
theorem KeysOk.turn {l : List Ent} (h : KeysOk l) : KeysOk (l.reverse.map turnE) := fun k hk => by
  simp only [List.length_map, List.length_reverse] at hk
  rw [List.getElem_map, List.getElem_reverse]
  exact h _ _

set_option maxHeartbeats 8000000 in
theorem tallyall_walk (oa ob : Option Addr) (ca cb : Nat) (l m : List Ent) (w : World) (hL : Lanes w) (hA : Ents w oa l) (hB : Ents w ob m)
    (na : oa = none → l.length = 0 ∧ ca = 0) (nb : ob = none → m.length = 0 ∧ cb = 0) (hl : l.length * 56 ≤ 140737488351232) (hm : m.length * 56 ≤ 140737488351232) :
    Calls Tryd.prog 3 #[.slice oa l.length ca, .slice ob m.length cb] w fun r w' => r = .returned (.bool true) ∧ Below w.heap.size w w' := by
  have hL0 := hL.lt
  have HH : Hid (Lanes w ∧ Ents w oa l ∧ Ents w ob m ∧ (oa = none → l.length = 0 ∧ ca = 0) ∧ (ob = none → m.length = 0 ∧ cb = 0)) := ⟨hL, hA, hB, na, nb⟩
  clear hL hA hB na nb
  go_enter Tryd.func3, Tryd.ntmps3
  go_wp2_with fail
  refine (bey_any oa ca l _ HH.out.2.1 hl).mono ?_
  rintro e w1 ⟨t1, rfl, ht1, hb⟩
  have hz := hb.size
  cases t1 with
  | true =>
    clear ht1
    go_wp2_with fail
    go_ret
    exact ⟨rfl, hb⟩
  | false =>
    have hl30 := ht1 rfl
    clear ht1
    go_wp2_with fail
    refine (bey_any ob cb m _ (HH.out.2.2.1.below hb) hm).mono ?_
    rintro e w2 ⟨t2, rfl, ht2, hb2⟩
    replace hb := below_back hb hz hb2
    clear hb2 hz
    have hz := hb.size
    cases t2 with
    | true =>
      clear ht2
      go_wp2_with fail
      go_ret
      exact ⟨rfl, hb⟩
    | false =>
      have hm30 := ht2 rfl
      clear ht2
      obtain ⟨i0, hi, hz0, hz1, hz2⟩ := info_parts info_entry
      have HI : Hid (_ ∧ _ ∧ _ ∧ _) := ⟨hi, hz0, hz1, hz2⟩
      clear hi hz0 hz1 hz2
      have hb0 : Below w.heap.size w (w2.alloc (.cells #[] 32 (0, 0))) := hb.alloc hz _
      have HA : Hid (Ents (w2.alloc (.cells #[] 32 (0, 0))) oa l) := HH.out.2.1.below hb0
      obtain ⟨B, hB⟩ : ∃ g, g = w2.heap.size := ⟨_, rfl⟩
      have HO : Hid ((w2.alloc (.cells #[] 32 (0, 0))).ownsRow B 32 5 (.slice (some ⟨w2.heap.size, 0, none⟩) 0 0) 0 []) := World.ownsRow_lit w2 #[] 0 (by omega) (by unfold maxLen; omega) rfl
      have hB1 : w.heap.size ≤ B := by omega
      have HBsz : Hid (B = w2.heap.size) := hB
      clear hB
      go_wp2_with (first
        | (at_builtin; (refine wpList_append_any _ rfl (.tmp 19) (.tmp 20) 22 rfl B 32 i0 _ 5 56 Tryd.underlying22 HI.out.1 HI.out.2.1 HI.out.2.2.1 HI.out.2.2.2 rfl (by decide) _ 0 [] rfl HO.out oa l.length ca (flat l) rfl (flat_length l) HH.out.2.2.2.1 HA.out.cells' (flat_one l) ?c3 ?c4 ?c5 ?_))
        | fail)
      case c3 => unfold maxLen; omega
      case c4 => omega
      case c5 => rw [HBsz.out]; simp
      intro v1 w3 hown1 hgrow1
      have hb3 : Below w.heap.size w w3 := hb0.grown hgrow1 (by simp; omega) (by intro y hy; simp [Value.ownBlock] at hy; omega)
      have hs3 := hgrow1.size
      have hBs : B ≤ w3.heap.size := by rw [HBsz.out]; simp at hs3; omega
      have HO1 : Hid (w3.ownsRow B 32 5 v1 l.length (flat l)) := hown1
      have HB : Hid (Ents w3 ob m) := HH.out.2.2.1.below hb3
      clear hb hz hb0 HO HA hown1 hgrow1 hs3 HBsz
      go_wp2_with (first
        | (at_builtin; (refine wpList_append_any _ rfl (.tmp 22) (.tmp 23) 22 rfl B 32 i0 _ 5 56 Tryd.underlying22 HI.out.1 HI.out.2.1 HI.out.2.2.1 HI.out.2.2.2 rfl (by decide) _ _ _ rfl HO1.out ob m.length cb (flat m) rfl (flat_length m) HH.out.2.2.2.2 HB.out.cells' (flat_one m) ?c3 ?c4 ?c5 ?_))
        | fail)
      case c3 => unfold maxLen; omega
      case c4 => omega
      case c5 => exact hBs
      intro v2 w4 hown2 hgrow2
      have hb : Below w.heap.size w w4 := hb3.grown hgrow2 hb3.size (by intro y hy; have := (HO1.out.lt y hy).1; omega)
      rw [← flat_append, show l.length + m.length = (l ++ m).length by simp] at hown2
      have hbs : B ≤ w4.heap.size := Nat.le_trans hBs hgrow2.size
      obtain ⟨oc, cc, rfl, nc, hE⟩ := ents_of_own rfl hown2 (HH.out.2.1.keys.append HH.out.2.2.1.keys)
      clear hown2 hgrow2 hb3 HO1 HB hBs
      have hz := hb.size
      have hlen : (l ++ m).length ≤ 2147483648 := by simp; omega
      have HLM : Hid (((l ++ m).length : Int) = l.length + m.length) := by unfold Hid; simp
      have HT : Hid (tot0 (l ++ m) = tot0 l + tot0 m ∧ tot1 (l ++ m) = tot1 l + tot1 m) := ⟨tot0_append l m, tot1_append l m⟩
      generalize hlm : l ++ m = lm at *
      have HC : Hid (Ents w4 oc lm) := hE
      have HLL : Hid (l ++ m = lm) := hlm
      clear hE hlm nc
      have HK : Hid (KeysOk lm) := HC.out.keys
      clear hbs hB1
      go_wp2_with fail
      obtain ⟨R, hR⟩ : ∃ R, R = lm.reverse := ⟨_, rfl⟩
      have HRV : Hid (R = lm.reverse ∧ R.length = lm.length) := ⟨hR, by rw [hR, List.length_reverse]⟩
      clear hR
      obtain ⟨T, hT⟩ : ∃ g, g = w4.heap.size := ⟨_, rfl⟩
      rw [← hT]
      have hwT : w.heap.size ≤ T := by omega
      have HTs : Hid (T = w4.heap.size) := hT
      clear hT
      go_loopw [6, 8] (fun v i wr => ∃ k : Nat, k ≤ lm.length ∧ i = .int .i64 k ∧ Hid (wr.ownsRow T 32 5 v k (flat (turnL (R.take k))) ∧ (∀ g, v.ownBlock = some g → g ≠ T + 1)) ∧
          wr.heap[T + 1]? = some (.cells #[.int .i64 k, .int .u64 (u64 (tot0 (R.take k))), .int .u64 (u64 (tot1 (R.take k)))] 28 (0, 0)) ∧ Below T w4 wr)
        (fun _ i _ => lm.length - (intOf i).toNat)
      case atStart =>
        have ht := HTs.out
        subst ht
        refine ⟨0, Nat.zero_le _, rfl, ⟨?_, ?_⟩, ?_, ?_⟩
        · exact (World.ownsRow_lit (size := 5) w4 #[] 0 (Nat.le_refl _) (by unfold maxLen; omega) (by simp)).alloc _
        · intro g hg; simp [Value.ownBlock] at hg; subst hg; simp
        all_goals (try rw [show ((0 : Nat) : Int) = 0 from rfl])
        all_goals (try rw [show u64 (tot0 (List.take 0 R)) = 0 from rfl, show u64 (tot1 (List.take 0 R)) = 0 from rfl])
        all_goals (repeat (first | (with_reducible assumption) | (with_reducible exact Below.refl _ _) | (with_reducible refine heap_drew ?_) | (focus ((with_reducible refine heap_new ?_) ; simp ; done)) | (with_reducible apply heap_set_to) | (focus ((with_reducible refine heap_set_ne ?_ ?_ _) ; rotate_left ; (focus (first | omega | (simp ; done) | (simp ; omega))))) | (with_reducible refine heap_old ?_) | (with_reducible refine Below.drew ?_) | (with_reducible refine below_set ?_ _ _) | (focus ((with_reducible refine Below.setCell ?_ ?_ _) ; rotate_left ; (focus (first | omega | (simp ; done) | (simp ; omega))))) | (focus ((with_reducible refine Below.alloc ?_ ?_ _) ; rotate_left ; (focus (first | omega | (simp ; done) | (simp ; omega))))) | (with_reducible rfl) | (focus (simp ; done))))
      case round =>
        obtain ⟨k, hk, rfl, HO, g1, hb4⟩ := hrel
        have hz4 := hb4.size
        have hzT : T ≤ w4.heap.size := by have := HTs.out; omega
        by_cases hlt : k < lm.length
        · obtain ⟨j, hj⟩ : ∃ j, j = lm.length - 1 - k := ⟨_, rfl⟩
          have hjl : j < lm.length := by omega
          have hj2 : ((lm.length : Int) - 1 - k).toNat = j := by omega
          have hj3 : (0 : Int) ≤ (lm.length : Int) - 1 - k := by omega
          obtain ⟨b, o, rfl, he, hs⟩ := HC.out j hjl
          obtain ⟨⟨ek, ec, en, evv, ed⟩, hen⟩ : ∃ e, e = lm[j] := ⟨_, rfl⟩
          rw [← hen] at he hs
          have hrev : R.take (k + 1) = R.take k ++ [(ek, ec, en, evv, ed)] := by
            have := HRV.out.1
            subst this
            rw [List.take_succ_eq_append_getElem (by rw [List.length_reverse]; exact hlt), List.getElem_reverse]
            congr 2
            rw [hen]
            congr 1
            omega
          have HR : Hid (R.take (k + 1) = _) := hrev
          have hbT : b < T := by have := HTs.out; have := he.lt; omega
          have he2 := he.below hb4 hbT
          have hs' : ek.size ≤ 140737488351232 := hs
          obtain ⟨e0, e1, e2, e3, e4⟩ := he2
          simp only at e0 e1 e2 e3 e4
          clear he hen hs hrev hj
          have hwr : T + 1 < wr.heap.size := blk_lt g1
          have HO1 : Hid ((wr.alloc (.cells #[.string ek, .int .i64 ec, .int .i64 en, .string evv, .bool ed] 32 (0, 0))).alloc (.cells #[.string ek, .int .i64 ec, .int .i64 en, .string anotherS, .bool (!ed)] 32 (0, 0)) |>.ownsRow T 32 5 _ k (flat (turnL (R.take k)))) := (HO.out.1.alloc _).alloc _
          go_wp2_with (first
            | (at_builtin; (refine wpList_append_any _ rfl (.tmp 41) (.tmp 50) 22 rfl T 32 i0 _ 5 56 Tryd.underlying22 HI.out.1 HI.out.2.1 HI.out.2.2.1 HI.out.2.2.2 rfl (by decide) _ k _ rfl HO1.out (some ⟨wr.heap.size + 1, 0, none⟩) 1 1 (flat [(ek, ec, en, anotherS, !ed)]) rfl rfl (fun h => by cases h) ?c1 (flat_one _) ?c3 ?c4 ?c5 ?_))
            | fail)
          case c1 =>
            refine Ents.cells' (l := [(ek, ec, en, anotherS, !ed)]) ?_
            intro j2 hj2
            obtain rfl : j2 = 0 := by simp at hj2; exact hj2
            have gx : ((wr.alloc (.cells #[.string ek, .int .i64 ec, .int .i64 en, .string evv, .bool ed] 32 (0, 0))).alloc (.cells #[.string ek, .int .i64 ec, .int .i64 en, .string anotherS, .bool (!ed)] 32 (0, 0))).heap[wr.heap.size + 1]? = some (.cells #[.string ek, .int .i64 ec, .int .i64 en, .string anotherS, .bool (!ed)] 32 (0, 0)) := by (repeat (first | (with_reducible assumption) | (with_reducible exact Below.refl _ _) | (with_reducible refine heap_drew ?_) | (focus ((with_reducible refine heap_new ?_) ; simp ; done)) | (with_reducible apply heap_set_to) | (focus ((with_reducible refine heap_set_ne ?_ ?_ _) ; rotate_left ; (focus (first | omega | (simp ; done) | (simp ; omega))))) | (with_reducible refine heap_old ?_) | (with_reducible refine Below.drew ?_) | (with_reducible refine below_set ?_ _ _) | (focus ((with_reducible refine Below.setCell ?_ ?_ _) ; rotate_left ; (focus (first | omega | (simp ; done) | (simp ; omega))))) | (focus ((with_reducible refine Below.alloc ?_ ?_ _) ; rotate_left ; (focus (first | omega | (simp ; done) | (simp ; omega))))) | (with_reducible rfl) | (focus (simp ; done))))
            have qx := blk5 gx
            exact ⟨_, 0, rfl, ⟨qx.1, qx.2.1, qx.2.2.1, qx.2.2.2.1, qx.2.2.2.2.1⟩, hs'⟩
          case c3 => unfold maxLen; omega
          case c4 => omega
          case c5 => simp; omega
          intro v' w5 hown' hgrow
          have hsz5 := hgrow.size
          have g5 : w5.heap[wr.heap.size]? = some (.cells #[.string ek, .int .i64 ec, .int .i64 en, .string evv, .bool ed] 32 (0, 0)) :=
            (hgrow.block _ (by simp; omega) (fun h => by have := (HO.out.1.lt _ h.symm).2; omega)).trans (heap_old (heap_new rfl))
          have g1' := (hgrow.block (T + 1) (by simp; omega) (fun h => (HO.out.2 _ h.symm) rfl)).trans (heap_old (heap_old g1))
          have hb5 : Below T w4 w5 := ((hb4.alloc (by omega) _).alloc (by simp; omega) _).grown hgrow (by simp; omega) (fun y hy => (HO.out.1.lt y hy).1)
          have HO5 : Hid (w5.ownsRow T 32 5 v' (k + 1) (flat (turnL (R.take (k + 1)))) ∧ (∀ g, v'.ownBlock = some g → g ≠ T + 1)) := ⟨by
            rw [HR.out, turnL_snoc, flat_append]; exact hown', own_ne hown' g1' (by decide)⟩
          obtain ⟨eb, heb⟩ : ∃ g, g = wr.heap.size := ⟨_, rfl⟩
          rw [← heb] at g5 ⊢
          have heb1 : T + 1 < eb := by omega
          clear hown' hgrow HO1 HO g1 hb4 hz4 hwr heb e0 e1 e2 e3 e4 hsz5
          have g1 := g1'
          clear g1'
          have hbw : Below w.heap.size w w5 := hb.trans (hb5.mono hwT)
          have q5 := blk5 g5
          have hz5 := hbw.size
          go_wp2_with fail
          refine (tof_any ek ec en evv ed _ (HH.out.1.below hbw hL0) hs').mono ?_
          rintro e w6 ⟨rfl, hb6⟩
          replace g5 := blk_below g5 hb6
          replace g1 := blk_below g1 hb6
          have hb7 : Below T w4 w6 := below_back hb5 (by have := blk_lt g1; have := hb5.size; have := HTs.out; omega) hb6
          have HO7 : Hid (w6.ownsRow T 32 5 v' (k + 1) (flat (turnL (R.take (k + 1)))) ∧ (∀ g, v'.ownBlock = some g → g ≠ T + 1)) := ⟨own_below HO5.out.1 hb6, HO5.out.2⟩
          replace hbw := below_back hbw hz5 hb6
          have hT6 : T + 1 < w6.heap.size := blk_lt g1
          have heb2 : eb < w6.heap.size := blk_lt g5
          clear hb5 HO5 hb6 q5 hz5
          go_wp2_with fail
          obtain ⟨tb, htb⟩ : ∃ g, g = w6.heap.size := ⟨_, rfl⟩
          have gt : (w6.alloc (.cells #[.int .i64 1, .int .u64 (mix0 ek ec en), .int .u64 (mix1 ek ec en)] 28 (0, 0))).heap[w6.heap.size]? = some (.cells #[.int .i64 1, .int .u64 (mix0 ek ec en), .int .u64 (mix1 ek ec en)] 28 (0, 0)) := by (repeat (first | (with_reducible assumption) | (with_reducible exact Below.refl _ _) | (with_reducible refine heap_drew ?_) | (focus ((with_reducible refine heap_new ?_) ; simp ; done)) | (with_reducible apply heap_set_to) | (focus ((with_reducible refine heap_set_ne ?_ ?_ _) ; rotate_left ; (focus (first | omega | (simp ; done) | (simp ; omega))))) | (with_reducible refine heap_old ?_) | (with_reducible refine Below.drew ?_) | (with_reducible refine below_set ?_ _ _) | (focus ((with_reducible refine Below.setCell ?_ ?_ _) ; rotate_left ; (focus (first | omega | (simp ; done) | (simp ; omega))))) | (focus ((with_reducible refine Below.alloc ?_ ?_ _) ; rotate_left ; (focus (first | omega | (simp ; done) | (simp ; omega))))) | (with_reducible rfl) | (focus (simp ; done))))
          replace g5 := heap_old (o := .cells #[.int .i64 1, .int .u64 (mix0 ek ec en), .int .u64 (mix1 ek ec en)] 28 (0, 0)) g5
          replace g1 := heap_old (o := .cells #[.int .i64 1, .int .u64 (mix0 ek ec en), .int .u64 (mix1 ek ec en)] 28 (0, 0)) g1
          have HO8 := HO7.out.1.alloc (.cells #[.int .i64 1, .int .u64 (mix0 ek ec en), .int .u64 (mix1 ek ec en)] 28 (0, 0))
          have hb8 := hb7.alloc (by omega) (.cells #[.int .i64 1, .int .u64 (mix0 ek ec en), .int .u64 (mix1 ek ec en)] 28 (0, 0))
          have hbw8 := hbw.alloc (by omega) (.cells #[.int .i64 1, .int .u64 (mix0 ek ec en), .int .u64 (mix1 ek ec en)] 28 (0, 0))
          have HP : Hid (∀ g, v'.ownBlock = some g → g ≠ T + 1) := HO7.out.2
          clear HO7 hb7 hbw
          generalize hws : w6.alloc (.cells #[.int .i64 1, .int .u64 (mix0 ek ec en), .int .u64 (mix1 ek ec en)] 28 (0, 0)) = ws at *
          rw [← htb] at gt ⊢
          have htb1 : T + 1 < tb := by omega
          have HO9 : Hid (ws.ownsRow T 32 5 v' (k + 1) (flat (turnL (R.take (k + 1))))) := HO8
          have HL : Hid (Lanes ws) := HH.out.1.below hbw8 hL0
          have hws0 : 0 < ws.heap.size := HL.out.lt
          clear hws HO8 htb hT6 heb2
          have hSt : Stable (fun w8 : World => (Below ws.heap.size ws w8)) := by repeat (first | exact stable_ext _ | exact stable_blk _ _ | exact stable_true | (refine stable_bel ?_ ; (focus (first | (simp [World.size_setCell] ; done) | (simp [World.setCell] ; done)))) | refine Stable.and ?_ ?_)
          refine wp_region_x [0, 1, 2, 3, 4, 5, 6, 7, 8, 9, 10, 11, 12, 13] [1, 1, 1, 0, 0, 0, 1, 0, 1, 0, 1, 1, 0, 0] (fun w8 => (Below ws.heap.size ws w8)) (by kernel_rfl) (by kernel_rfl) ?_ ?_
          · (first | trivial | (repeat (first | (with_reducible assumption) | (with_reducible exact Below.refl _ _) | (with_reducible refine heap_drew ?_) | (focus ((with_reducible refine heap_new ?_) ; simp ; done)) | (with_reducible apply heap_set_to) | (focus ((with_reducible refine heap_set_ne ?_ ?_ _) ; rotate_left ; (focus (first | omega | (simp ; done) | (simp ; omega))))) | (with_reducible refine heap_old ?_) | (with_reducible refine Below.drew ?_) | (with_reducible refine below_set ?_ _ _) | (focus ((with_reducible refine Below.setCell ?_ ?_ _) ; rotate_left ; (focus (first | omega | (simp ; done) | (simp ; omega))))) | (focus ((with_reducible refine Below.alloc ?_ ?_ _) ; rotate_left ; (focus (first | omega | (simp ; done) | (simp ; omega))))) | (with_reducible rfl) | (focus (simp ; done)))))
          simp only [List.map_cons, List.map_nil, List.getD_cons_zero, List.getD_cons_succ]
          (refine x_quiet rfl hSt (fun _ h => h) _ ?_ rfl (by simp) ?_ ?_ ; rotate_left ; · (intro w8 hC K hK ; have hc := hC ; have q5 := blk5 (blk_below g5 hc) ; have qt := blk3 (blk_below gt hc) ; go_wp2_with fail ; refine ⟨?_, Below.refl _ _⟩ ; exact rfl))
          simp only [Act.put, List.setIfInBounds_toArray, List.set_cons_succ, List.set_cons_zero]
          (refine x_quiet rfl hSt (fun _ h => h) _ ?_ rfl (by simp) ?_ ?_ ; rotate_left ; · (intro w8 hC K hK ; have hc := hC ; have q5 := blk5 (blk_below g5 hc) ; have qt := blk3 (blk_below gt hc) ; go_wp2_with fail ; refine ⟨?_, Below.refl _ _⟩ ; exact rfl))
          simp only [Act.put, List.setIfInBounds_toArray, List.set_cons_succ, List.set_cons_zero]
          (refine x_quiet rfl hSt (fun _ h => h) _ ?_ rfl (by simp) ?_ ?_ ; rotate_left ; · (intro w8 hC K hK ; have hc := hC ; have q5 := blk5 (blk_below g5 hc) ; have qt := blk3 (blk_below gt hc) ; go_wp2_with fail ; refine (rtof_any ek ec en evv ed _ hs').mono ?_ ; rintro e w2 ⟨rfl, hb2⟩ ; refine hK _ _ ⟨?_, rfl, hb2⟩ ; exact rfl))
          simp only [Act.put, List.setIfInBounds_toArray, List.set_cons_succ, List.set_cons_zero]
          (refine x_pure rfl _ ?_ rfl (by simp) ?_ ?_ ; rotate_left ; · (intro w8 K hK ; go_wp2_with fail ; exact rfl))
          simp only [Act.put, List.setIfInBounds_toArray, List.set_cons_succ, List.set_cons_zero]
          (refine x_pure rfl _ ?_ rfl (by simp) ?_ ?_ ; rotate_left ; · (intro w8 K hK ; go_wp2_with fail ; exact rfl))
          simp only [Act.put, List.setIfInBounds_toArray, List.set_cons_succ, List.set_cons_zero]
          first | (refine x_skip rfl ?_) | (refine x_pure rfl _ ?_ rfl (by simp) ?_ ?_ ; rotate_left ; · (intro w8 K hK ; go_wp2_with fail ; exact rfl))
          simp only [Act.put, List.setIfInBounds_toArray, List.set_cons_succ, List.set_cons_zero]
          first | (refine x_skip rfl ?_) | (refine x_quiet rfl hSt (fun _ h => h) _ ?_ rfl (by simp) ?_ ?_ ; rotate_left ; · (intro w8 hC K hK ; have hc := hC ; have q5 := blk5 (blk_below g5 hc) ; have qt := blk3 (blk_below gt hc) ; go_wp2_with fail ; refine ⟨?_, Below.refl _ _⟩ ; exact rfl))
          simp only [Act.put, List.setIfInBounds_toArray, List.set_cons_succ, List.set_cons_zero]
          first | (refine x_skip rfl ?_) | (refine x_pure rfl _ ?_ rfl (by simp) ?_ ?_ ; rotate_left ; · (intro w8 K hK ; go_wp2_with fail ; exact rfl))
          simp only [Act.put, List.setIfInBounds_toArray, List.set_cons_succ, List.set_cons_zero]
          first | (refine x_skip rfl ?_) | (refine x_quiet rfl hSt (fun _ h => h) _ ?_ rfl (by simp) ?_ ?_ ; rotate_left ; · (intro w8 hC K hK ; have hc := hC ; have q5 := blk5 (blk_below g5 hc) ; have qt := blk3 (blk_below gt hc) ; go_wp2_with fail ; refine ⟨?_, Below.refl _ _⟩ ; exact rfl))
          simp only [Act.put, List.setIfInBounds_toArray, List.set_cons_succ, List.set_cons_zero]
          first | (refine x_skip rfl ?_) | (refine x_pure rfl _ ?_ rfl (by simp) ?_ ?_ ; rotate_left ; · (intro w8 K hK ; go_wp2_with fail ; exact rfl))
          simp only [Act.put, List.setIfInBounds_toArray, List.set_cons_succ, List.set_cons_zero]
          first | (refine x_skip rfl ?_) | (refine x_quiet rfl hSt (fun _ h => h) _ ?_ rfl (by simp) ?_ ?_ ; rotate_left ; · (intro w8 hC K hK ; have hc := hC ; have q5 := blk5 (blk_below g5 hc) ; have qt := blk3 (blk_below gt hc) ; go_wp2_with fail ; refine ⟨?_, Below.refl _ _⟩ ; exact rfl))
          simp only [Act.put, List.setIfInBounds_toArray, List.set_cons_succ, List.set_cons_zero]
          first | (refine x_skip rfl ?_) | (refine x_quiet rfl hSt (fun _ h => h) _ ?_ rfl (by simp) ?_ ?_ ; rotate_left ; · (intro w8 hC K hK ; have hc := hC ; have q5 := blk5 (blk_below g5 hc) ; have qt := blk3 (blk_below gt hc) ; go_wp2_with fail ; refine (of_any ek ec en _ (HL.out.below hc hws0) (by omega)).mono ?_ ; rintro e w2 ⟨rfl, hb2⟩ ; refine hK _ _ ⟨?_, rfl, hb2⟩ ; exact rfl))
          simp only [Act.put, List.setIfInBounds_toArray, List.set_cons_succ, List.set_cons_zero]
          first | (refine x_skip rfl ?_) | (refine x_pure rfl _ ?_ rfl (by simp) ?_ ?_ ; rotate_left ; · (intro w8 K hK ; go_wp2_with fail ; exact rfl))
          simp only [Act.put, List.setIfInBounds_toArray, List.set_cons_succ, List.set_cons_zero]
          (refine x_pure rfl _ ?_ rfl (by simp) ?_ ?_ ; rotate_left ; · (intro w8 K hK ; go_wp2_with fail ; exact rfl))
          simp only [Act.put, List.setIfInBounds_toArray, List.set_cons_succ, List.set_cons_zero]
          refine x_nil ?_
          rintro w8 hc
          have gt := blk_below gt hc
          have g1 := blk_below g1 hc
          have HO8 : Hid (w8.ownsRow T 32 5 v' (k + 1) (flat (turnL (R.take (k + 1))))) := own_below HO9.out hc
          have hb9 : Below T w4 w8 := below_back hb8 (by have := hb8.size; have := HTs.out; omega) hc
          have hTw : T + 1 < w8.heap.size := blk_lt g1
          clear hb8 hbw8 HO9 HL hws0 g5 hc hSt
          have q1 := blk3 g1
          have qt := blk3 gt
          go_wp2_with fail
          refine (join_any k _ _ 1 (mix0 ek ec en) (mix1 ek ec en) _).mono ?_
          rintro e w9 ⟨rfl, hbj⟩
          replace g1 := blk_below g1 hbj
          have HO9 : Hid (w9.ownsRow T 32 5 v' (k + 1) (flat (turnL (R.take (k + 1))))) := own_below HO8.out hbj
          have hb10 : Below T w4 w9 := below_back hb9 (by omega) hbj
          have e1 : Go.Proofs.YtjeaobknojmbpaaDoor.u64 (Go.Proofs.YtjeaobknojmbpaaDoor.u64 (tot0 (R.take k)) + mix0 ek ec en) = Go.Proofs.YtjeaobknojmbpaaDoor.u64 (tot0 (R.take (k + 1))) := by rw [HR.out]; exact tot0_snoc _ _ _ _ _ _
          have e2 : Go.Proofs.YtjeaobknojmbpaaDoor.u64 (Go.Proofs.YtjeaobknojmbpaaDoor.u64 (tot1 (R.take k)) + mix1 ek ec en) = Go.Proofs.YtjeaobknojmbpaaDoor.u64 (tot1 (R.take (k + 1))) := by rw [HR.out]; exact tot1_snoc _ _ _ _ _ _
          have e3 : wrap64 ((k : Int) + 1) = (k : Int) + 1 := by unfold wrap64; omega
          rw [e1, e2, e3]
          clear e1 e2 e3 hb9 HO8 hbj q1 qt gt hTw
          have q1 := blk3 g1
          go_wp2_with fail
          go_roundw
          case rel =>
            refine ⟨k + 1, by omega, by go_num, ⟨own_set (own_set (own_set HO9.out HP.out _) HP.out _) HP.out _, HP.out⟩, ?_, ?_⟩
            · rw [show (((k + 1 : Nat)) : Int) = (k : Int) + 1 by simp]
              (repeat (first | (with_reducible assumption) | (with_reducible exact Below.refl _ _) | (with_reducible refine heap_drew ?_) | (focus ((with_reducible refine heap_new ?_) ; simp ; done)) | (with_reducible apply heap_set_to) | (focus ((with_reducible refine heap_set_ne ?_ ?_ _) ; rotate_left ; (focus (first | omega | (simp ; done) | (simp ; omega))))) | (with_reducible refine heap_old ?_) | (with_reducible refine Below.drew ?_) | (with_reducible refine below_set ?_ _ _) | (focus ((with_reducible refine Below.setCell ?_ ?_ _) ; rotate_left ; (focus (first | omega | (simp ; done) | (simp ; omega))))) | (focus ((with_reducible refine Below.alloc ?_ ?_ _) ; rotate_left ; (focus (first | omega | (simp ; done) | (simp ; omega))))) | (with_reducible rfl) | (focus (simp ; done))))
            · (repeat (first | (with_reducible assumption) | (with_reducible exact Below.refl _ _) | (with_reducible refine heap_drew ?_) | (focus ((with_reducible refine heap_new ?_) ; simp ; done)) | (with_reducible apply heap_set_to) | (focus ((with_reducible refine heap_set_ne ?_ ?_ _) ; rotate_left ; (focus (first | omega | (simp ; done) | (simp ; omega))))) | (with_reducible refine heap_old ?_) | (with_reducible refine Below.drew ?_) | (with_reducible refine below_set ?_ _ _) | (focus ((with_reducible refine Below.setCell ?_ ?_ _) ; rotate_left ; (focus (first | omega | (simp ; done) | (simp ; omega))))) | (focus ((with_reducible refine Below.alloc ?_ ?_ _) ; rotate_left ; (focus (first | omega | (simp ; done) | (simp ; omega))))) | (with_reducible rfl) | (focus (simp ; done))))
          case measure => simp [intOf]; omega
        · obtain rfl : k = lm.length := by omega
          have hR2 : R.take lm.length = R := List.take_of_length_le (by have := HRV.out.2; omega)
          rw [hR2] at g1 HO
          have ht0 : tot0 R = tot0 lm := by have := HRV.out.1; subst this; exact tot0_reverse lm
          have ht1 : tot1 R = tot1 lm := by have := HRV.out.1; subst this; exact tot1_reverse lm
          rw [ht0, ht1] at g1
          have hbw : Below w.heap.size w wr := hb.trans (hb4.mono hwT)
          have hCr : Ents wr oc lm := fun k hk => by
            obtain ⟨b, o, h1, h2, h3⟩ := HC.out k hk
            exact ⟨b, o, h1, h2.below hb4 (by have := HTs.out; have := h2.lt; omega), h3⟩
          have hown := HO.out.1
          have hnR : lm.length = (turnL R).length := by rw [turnL_length]; exact HRV.out.2.symm
          have hkt : KeysOk (turnL R) := by have := HRV.out.1; subst this; exact HK.out.turn
          obtain ⟨ov, cv, rfl, _, hEv⟩ := ents_of_own hnR hown hkt
          have CT : Hid (∀ w1 : World, Below wr.heap.size wr w1 → Calls Tryd.prog 16 #[.slice ov lm.length cv] w1 fun e w' => e = .returned (tv lm.length (Go.Proofs.YtjeaobknojmbpaaDoor.u64 (tot0 lm)) (Go.Proofs.YtjeaobknojmbpaaDoor.u64 (tot1 lm))) ∧ Below w1.heap.size w1 w') := fun w1 h1 => by
            have := tall_any ov cv (turnL R) w1 ((HH.out.1.below hbw hL0).below h1 (Nat.lt_of_lt_of_le hL0 hbw.size)) (hEv.below h1) (by omega)
            rw [← hnR, turnL, tot0_turn, tot1_turn, ht0, ht1] at this
            exact this
          have hJ0 : Go.Proofs.YtjeaobknojmbpaaDoor.u64 (Go.Proofs.YtjeaobknojmbpaaDoor.u64 (tot0 l) + Go.Proofs.YtjeaobknojmbpaaDoor.u64 (tot0 m)) = Go.Proofs.YtjeaobknojmbpaaDoor.u64 (tot0 lm) := by rw [HT.out.1, u64_add, Int.add_comm, u64_add, Int.add_comm]
          have hJ1 : Go.Proofs.YtjeaobknojmbpaaDoor.u64 (Go.Proofs.YtjeaobknojmbpaaDoor.u64 (tot1 l) + Go.Proofs.YtjeaobknojmbpaaDoor.u64 (tot1 m)) = Go.Proofs.YtjeaobknojmbpaaDoor.u64 (tot1 lm) := by rw [HT.out.2, u64_add, Int.add_comm, u64_add, Int.add_comm]
          have CJ : Hid (∀ w1 : World, Calls Tryd.prog 15 #[tv l.length (Go.Proofs.YtjeaobknojmbpaaDoor.u64 (tot0 l)) (Go.Proofs.YtjeaobknojmbpaaDoor.u64 (tot1 l)), tv m.length (Go.Proofs.YtjeaobknojmbpaaDoor.u64 (tot0 m)) (Go.Proofs.YtjeaobknojmbpaaDoor.u64 (tot1 m))] w1 fun e w' => e = .returned (tv lm.length (Go.Proofs.YtjeaobknojmbpaaDoor.u64 (tot0 lm)) (Go.Proofs.YtjeaobknojmbpaaDoor.u64 (tot1 lm))) ∧ Below w1.heap.size w1 w') := fun w1 => by
            have := join_any l.length (Go.Proofs.YtjeaobknojmbpaaDoor.u64 (tot0 l)) (Go.Proofs.YtjeaobknojmbpaaDoor.u64 (tot1 l)) m.length (Go.Proofs.YtjeaobknojmbpaaDoor.u64 (tot0 m)) (Go.Proofs.YtjeaobknojmbpaaDoor.u64 (tot1 m)) w1
            rw [hJ0, hJ1, show wrap64 ((l.length : Int) + m.length) = lm.length by have := HLM.out; unfold wrap64; omega] at this
            exact this
          have hTw : T + 1 < wr.heap.size := blk_lt g1
          clear hJ0 hJ1 hkt hnR hown ht0 ht1 hR2 HO HK HT HLM HLL HI HC HRV hb4 hEv
          have hzw := hbw.size
          go_wp2_with fail
          refine (tall_any oc cc lm _ (HH.out.1.below hbw hL0) hCr (by omega)).mono ?_
          rintro e w6 ⟨rfl, hb6⟩
          replace hCr := hCr.below hb6
          replace g1 := blk_below g1 hb6
          replace hbw := below_back hbw hzw hb6
          have hz6 := hb6.size
          go_wp2_with fail
          obtain ⟨xb, hxb⟩ : ∃ g, g = w6.heap.size := ⟨_, rfl⟩
          have gx : (w6.alloc (.cells #[.int .i64 lm.length, .int .u64 (Go.Proofs.YtjeaobknojmbpaaDoor.u64 (tot0 lm)), .int .u64 (Go.Proofs.YtjeaobknojmbpaaDoor.u64 (tot1 lm))] 28 (0, 0))).heap[w6.heap.size]? = some (.cells #[.int .i64 lm.length, .int .u64 (Go.Proofs.YtjeaobknojmbpaaDoor.u64 (tot0 lm)), .int .u64 (Go.Proofs.YtjeaobknojmbpaaDoor.u64 (tot1 lm))] 28 (0, 0)) := by (repeat (first | (with_reducible assumption) | (with_reducible exact Below.refl _ _) | (with_reducible refine heap_drew ?_) | (focus ((with_reducible refine heap_new ?_) ; simp ; done)) | (with_reducible apply heap_set_to) | (focus ((with_reducible refine heap_set_ne ?_ ?_ _) ; rotate_left ; (focus (first | omega | (simp ; done) | (simp ; omega))))) | (with_reducible refine heap_old ?_) | (with_reducible refine Below.drew ?_) | (with_reducible refine below_set ?_ _ _) | (focus ((with_reducible refine Below.setCell ?_ ?_ _) ; rotate_left ; (focus (first | omega | (simp ; done) | (simp ; omega))))) | (focus ((with_reducible refine Below.alloc ?_ ?_ _) ; rotate_left ; (focus (first | omega | (simp ; done) | (simp ; omega))))) | (with_reducible rfl) | (focus (simp ; done))))
          replace g1 := heap_old (o := .cells #[.int .i64 lm.length, .int .u64 (Go.Proofs.YtjeaobknojmbpaaDoor.u64 (tot0 lm)), .int .u64 (Go.Proofs.YtjeaobknojmbpaaDoor.u64 (tot1 lm))] 28 (0, 0)) g1
          have hbx := (Below.refl w6.heap.size w6).alloc (Nat.le_refl _) (.cells #[.int .i64 lm.length, .int .u64 (Go.Proofs.YtjeaobknojmbpaaDoor.u64 (tot0 lm)), .int .u64 (Go.Proofs.YtjeaobknojmbpaaDoor.u64 (tot1 lm))] 28 (0, 0))
          have hC2 : Hid (Ents _ oc lm) := hCr.below hbx
          have hbw2 := hbw.alloc (by omega) (.cells #[.int .i64 lm.length, .int .u64 (Go.Proofs.YtjeaobknojmbpaaDoor.u64 (tot0 lm)), .int .u64 (Go.Proofs.YtjeaobknojmbpaaDoor.u64 (tot1 lm))] 28 (0, 0))
          have hr2 := hb6.trans (hbx.mono hz6)
          generalize hws : w6.alloc (.cells #[.int .i64 lm.length, .int .u64 (Go.Proofs.YtjeaobknojmbpaaDoor.u64 (tot0 lm)), .int .u64 (Go.Proofs.YtjeaobknojmbpaaDoor.u64 (tot1 lm))] 28 (0, 0)) = ws at *
          rw [← hxb] at gx ⊢
          have HL : Hid (Lanes ws ∧ Ents ws oa l ∧ Ents ws ob m) := ⟨HH.out.1.below hbw2 hL0, HH.out.2.1.below hbw2, HH.out.2.2.1.below hbw2⟩
          have hws0 : 0 < ws.heap.size := HL.out.1.lt
          have HRW : Hid (Below wr.heap.size wr ws) := hr2
          have hrs : wr.heap.size ≤ ws.heap.size := hr2.size
          have hzws : w.heap.size ≤ ws.heap.size := hbw2.size
          clear hws hxb hCr hb6 hbx hbw hr2
          have hSt : Stable (fun w8 : World => (Below ws.heap.size ws w8)) := by repeat (first | exact stable_ext _ | exact stable_blk _ _ | exact stable_true | (refine stable_bel ?_ ; (focus (first | (simp [World.size_setCell] ; done) | (simp [World.setCell] ; done)))) | refine Stable.and ?_ ?_)
          refine wp_region_x [0, 1, 2, 3, 4, 5, 6, 7, 8, 9, 10, 11, 12, 13, 14, 15, 16, 17, 18, 19, 20, 21, 22, 23, 24] [1, 0, 1, 0, 0, 1, 1, 0, 0, 0, 0, 1, 1, 0, 0, 0, 0, 1, 0, 1, 1, 1, 0, 0, 0] (fun w8 => (Below ws.heap.size ws w8)) (by kernel_rfl) (by kernel_rfl) ?_ ?_
          · (first | trivial | (repeat (first | (with_reducible assumption) | (with_reducible exact Below.refl _ _) | (with_reducible refine heap_drew ?_) | (focus ((with_reducible refine heap_new ?_) ; simp ; done)) | (with_reducible apply heap_set_to) | (focus ((with_reducible refine heap_set_ne ?_ ?_ _) ; rotate_left ; (focus (first | omega | (simp ; done) | (simp ; omega))))) | (with_reducible refine heap_old ?_) | (with_reducible refine Below.drew ?_) | (with_reducible refine below_set ?_ _ _) | (focus ((with_reducible refine Below.setCell ?_ ?_ _) ; rotate_left ; (focus (first | omega | (simp ; done) | (simp ; omega))))) | (focus ((with_reducible refine Below.alloc ?_ ?_ _) ; rotate_left ; (focus (first | omega | (simp ; done) | (simp ; omega))))) | (with_reducible rfl) | (focus (simp ; done)))))
          simp only [List.map_cons, List.map_nil, List.getD_cons_zero, List.getD_cons_succ]
          (refine x_quiet rfl hSt (fun _ h => h) _ ?_ rfl (by simp) ?_ ?_ ; rotate_left ; · (intro w8 hC K hK ; have hc := hC ; have qx := blk3 (blk_below gx hc) ; have q1 := blk3 (blk_below g1 hc) ; go_wp2_with fail ; refine ⟨?_, Below.refl _ _⟩ ; exact rfl))
          simp only [Act.put, List.setIfInBounds_toArray, List.set_cons_succ, List.set_cons_zero]
          (refine x_pure rfl _ ?_ rfl (by simp) ?_ ?_ ; rotate_left ; · (intro w8 K hK ; go_wp2_with fail ; exact rfl))
          simp only [Act.put, List.setIfInBounds_toArray, List.set_cons_succ, List.set_cons_zero]
          (refine x_quiet rfl hSt (fun _ h => h) _ ?_ rfl (by simp) ?_ ?_ ; rotate_left ; · (intro w8 hC K hK ; have hc := hC ; have qx := blk3 (blk_below gx hc) ; have q1 := blk3 (blk_below g1 hc) ; go_wp2_with fail ; refine (rtall_any oc cc lm _ (hC2.out.below hc) (by omega)).mono ?_ ; rintro e w2 ⟨rfl, hb2⟩ ; refine hK _ _ ⟨?_, rfl, hb2⟩ ; exact rfl))
          simp only [Act.put, List.setIfInBounds_toArray, List.set_cons_succ, List.set_cons_zero]
          (refine x_pure rfl _ ?_ rfl (by simp) ?_ ?_ ; rotate_left ; · (intro w8 K hK ; go_wp2_with fail ; exact rfl))
          simp only [Act.put, List.setIfInBounds_toArray, List.set_cons_succ, List.set_cons_zero]
          (refine x_pure rfl _ ?_ rfl (by simp) ?_ ?_ ; rotate_left ; · (intro w8 K hK ; go_wp2_with fail ; exact rfl))
          simp only [Act.put, List.setIfInBounds_toArray, List.set_cons_succ, List.set_cons_zero]
          first | (refine x_skip rfl ?_) | (refine x_quiet rfl hSt (fun _ h => h) _ ?_ rfl (by simp) ?_ ?_ ; rotate_left ; · (intro w8 hC K hK ; have hc := hC ; have qx := blk3 (blk_below gx hc) ; have q1 := blk3 (blk_below g1 hc) ; go_wp2_with fail ; refine ⟨?_, Below.refl _ _⟩ ; exact rfl))
          simp only [Act.put, List.setIfInBounds_toArray, List.set_cons_succ, List.set_cons_zero]
          first | (refine x_skip rfl ?_) | (refine x_quiet rfl hSt (fun _ h => h) _ ?_ rfl (by simp) ?_ ?_ ; rotate_left ; · (intro w8 hC K hK ; have hc := hC ; have qx := blk3 (blk_below gx hc) ; have q1 := blk3 (blk_below g1 hc) ; go_wp2_with fail ; refine ⟨?_, Below.refl _ _⟩ ; exact rfl))
          simp only [Act.put, List.setIfInBounds_toArray, List.set_cons_succ, List.set_cons_zero]
          first | (refine x_skip rfl ?_) | (refine x_pure rfl _ ?_ rfl (by simp) ?_ ?_ ; rotate_left ; · (intro w8 K hK ; go_wp2_with fail ; exact rfl))
          simp only [Act.put, List.setIfInBounds_toArray, List.set_cons_succ, List.set_cons_zero]
          (refine x_pure rfl _ ?_ rfl (by simp) ?_ ?_ ; rotate_left ; · (intro w8 K hK ; go_wp2_with fail ; exact rfl))
          simp only [Act.put, List.setIfInBounds_toArray, List.set_cons_succ, List.set_cons_zero]
          (refine x_pure rfl _ ?_ rfl (by simp) ?_ ?_ ; rotate_left ; · (intro w8 K hK ; go_wp2_with fail ; exact rfl))
          simp only [Act.put, List.setIfInBounds_toArray, List.set_cons_succ, List.set_cons_zero]
          first | (refine x_skip rfl ?_) | (refine x_pure rfl _ ?_ rfl (by simp) ?_ ?_ ; rotate_left ; · (intro w8 K hK ; go_wp2_with fail ; exact rfl))
          simp only [Act.put, List.setIfInBounds_toArray, List.set_cons_succ, List.set_cons_zero]
          first | (refine x_skip rfl ?_) | (refine x_quiet rfl hSt (fun _ h => h) _ ?_ rfl (by simp) ?_ ?_ ; rotate_left ; · (intro w8 hC K hK ; have hc := hC ; have qx := blk3 (blk_below gx hc) ; have q1 := blk3 (blk_below g1 hc) ; go_wp2_with fail ; first | (refine (CT.out _ (HRW.out.trans (hc.mono hrs))).mono ?_ ; rintro e w2 ⟨rfl, hb2⟩ ; refine hK _ _ ⟨?_, rfl, hb2⟩ ; exact rfl) | (refine (tall_any oa ca l _ (HL.out.1.below hc hws0) (HL.out.2.1.below hc) (by omega)).mono ?_ ; rintro e w2 ⟨rfl, hb2⟩ ; refine hK _ _ ⟨?_, rfl, hb2⟩ ; exact rfl) | (refine (tall_any ob cb m _ (HL.out.1.below hc hws0) (HL.out.2.2.below hc) (by omega)).mono ?_ ; rintro e w2 ⟨rfl, hb2⟩ ; refine hK _ _ ⟨?_, rfl, hb2⟩ ; exact rfl)))
          simp only [Act.put, List.setIfInBounds_toArray, List.set_cons_succ, List.set_cons_zero]
          first | (refine x_skip rfl ?_) | (refine x_quiet rfl hSt (fun _ h => h) _ ?_ rfl (by simp) ?_ ?_ ; rotate_left ; · (intro w8 hC K hK ; have hc := hC ; have qx := blk3 (blk_below gx hc) ; have q1 := blk3 (blk_below g1 hc) ; go_wp2_with fail ; refine ⟨?_, Below.refl _ _⟩ ; exact rfl))
          simp only [Act.put, List.setIfInBounds_toArray, List.set_cons_succ, List.set_cons_zero]
          first | (refine x_skip rfl ?_) | (refine x_pure rfl _ ?_ rfl (by simp) ?_ ?_ ; rotate_left ; · (intro w8 K hK ; go_wp2_with fail ; exact rfl))
          simp only [Act.put, List.setIfInBounds_toArray, List.set_cons_succ, List.set_cons_zero]
          (refine x_pure rfl _ ?_ rfl (by simp) ?_ ?_ ; rotate_left ; · (intro w8 K hK ; go_wp2_with fail ; exact rfl))
          simp only [Act.put, List.setIfInBounds_toArray, List.set_cons_succ, List.set_cons_zero]
          (refine x_pure rfl _ ?_ rfl (by simp) ?_ ?_ ; rotate_left ; · (intro w8 K hK ; go_wp2_with fail ; exact rfl))
          simp only [Act.put, List.setIfInBounds_toArray, List.set_cons_succ, List.set_cons_zero]
          first | (refine x_skip rfl ?_) | (refine x_pure rfl _ ?_ rfl (by simp) ?_ ?_ ; rotate_left ; · (intro w8 K hK ; go_wp2_with fail ; exact rfl))
          simp only [Act.put, List.setIfInBounds_toArray, List.set_cons_succ, List.set_cons_zero]
          first | (refine x_skip rfl ?_) | (refine x_quiet rfl hSt (fun _ h => h) _ ?_ rfl (by simp) ?_ ?_ ; rotate_left ; · (intro w8 hC K hK ; have hc := hC ; have qx := blk3 (blk_below gx hc) ; have q1 := blk3 (blk_below g1 hc) ; go_wp2_with fail ; first | (refine (CT.out _ (HRW.out.trans (hc.mono hrs))).mono ?_ ; rintro e w2 ⟨rfl, hb2⟩ ; refine hK _ _ ⟨?_, rfl, hb2⟩ ; exact rfl) | (refine (tall_any oa ca l _ (HL.out.1.below hc hws0) (HL.out.2.1.below hc) (by omega)).mono ?_ ; rintro e w2 ⟨rfl, hb2⟩ ; refine hK _ _ ⟨?_, rfl, hb2⟩ ; exact rfl) | (refine (tall_any ob cb m _ (HL.out.1.below hc hws0) (HL.out.2.2.below hc) (by omega)).mono ?_ ; rintro e w2 ⟨rfl, hb2⟩ ; refine hK _ _ ⟨?_, rfl, hb2⟩ ; exact rfl)))
          simp only [Act.put, List.setIfInBounds_toArray, List.set_cons_succ, List.set_cons_zero]
          first | (refine x_skip rfl ?_) | (refine x_pure rfl _ ?_ rfl (by simp) ?_ ?_ ; rotate_left ; · (intro w8 K hK ; go_wp2_with fail ; exact rfl))
          simp only [Act.put, List.setIfInBounds_toArray, List.set_cons_succ, List.set_cons_zero]
          first | (refine x_skip rfl ?_) | (refine x_quiet rfl hSt (fun _ h => h) _ ?_ rfl (by simp) ?_ ?_ ; rotate_left ; · (intro w8 hC K hK ; have hc := hC ; have qx := blk3 (blk_below gx hc) ; have q1 := blk3 (blk_below g1 hc) ; go_wp2_with fail ; first | (refine (CT.out _ (HRW.out.trans (hc.mono hrs))).mono ?_ ; rintro e w2 ⟨rfl, hb2⟩ ; refine hK _ _ ⟨?_, rfl, hb2⟩ ; exact rfl) | (refine (tall_any oa ca l _ (HL.out.1.below hc hws0) (HL.out.2.1.below hc) (by omega)).mono ?_ ; rintro e w2 ⟨rfl, hb2⟩ ; refine hK _ _ ⟨?_, rfl, hb2⟩ ; exact rfl) | (refine (tall_any ob cb m _ (HL.out.1.below hc hws0) (HL.out.2.2.below hc) (by omega)).mono ?_ ; rintro e w2 ⟨rfl, hb2⟩ ; refine hK _ _ ⟨?_, rfl, hb2⟩ ; exact rfl)))
          simp only [Act.put, List.setIfInBounds_toArray, List.set_cons_succ, List.set_cons_zero]
          first | (refine x_skip rfl ?_) | (refine x_quiet rfl hSt (fun _ h => h) _ ?_ rfl (by simp) ?_ ?_ ; rotate_left ; · (intro w8 hC K hK ; have hc := hC ; have qx := blk3 (blk_below gx hc) ; have q1 := blk3 (blk_below g1 hc) ; go_wp2_with fail ; refine (CJ.out _).mono ?_ ; rintro e w2 ⟨rfl, hb2⟩ ; refine hK _ _ ⟨?_, rfl, hb2⟩ ; exact rfl))
          simp only [Act.put, List.setIfInBounds_toArray, List.set_cons_succ, List.set_cons_zero]
          first | (refine x_skip rfl ?_) | (refine x_quiet rfl hSt (fun _ h => h) _ ?_ rfl (by simp) ?_ ?_ ; rotate_left ; · (intro w8 hC K hK ; have hc := hC ; have qx := blk3 (blk_below gx hc) ; have q1 := blk3 (blk_below g1 hc) ; go_wp2_with fail ; refine ⟨?_, Below.refl _ _⟩ ; exact rfl))
          simp only [Act.put, List.setIfInBounds_toArray, List.set_cons_succ, List.set_cons_zero]
          first | (refine x_skip rfl ?_) | (refine x_pure rfl _ ?_ rfl (by simp) ?_ ?_ ; rotate_left ; · (intro w8 K hK ; go_wp2_with fail ; exact rfl))
          simp only [Act.put, List.setIfInBounds_toArray, List.set_cons_succ, List.set_cons_zero]
          (refine x_pure rfl _ ?_ rfl (by simp) ?_ ?_ ; rotate_left ; · (intro w8 K hK ; go_wp2_with fail ; exact rfl))
          simp only [Act.put, List.setIfInBounds_toArray, List.set_cons_succ, List.set_cons_zero]
          (refine x_pure rfl _ ?_ rfl (by simp) ?_ ?_ ; rotate_left ; · (intro w8 K hK ; go_wp2_with fail ; exact rfl))
          simp only [Act.put, List.setIfInBounds_toArray, List.set_cons_succ, List.set_cons_zero]
          refine x_nil ?_
          rintro w8 hc
          go_wp2_with fail
          go_ret
          exact ⟨rfl, hbw2.trans (hc.mono hzws)⟩

set_option maxRecDepth 100000 in
theorem tallyall_lifted (os : Os) (started : os.Started) (H : Type) (enc : TypeId × Value → H) :
    ReturnsInHanded {} Tryd.checked os 3 .any (fun w args => (Rows.tallyAllSpec.pre enc Tryd.prog Tryd.f3 Rows.tallyAllRow.domain false w args ∧ laidMetH Tryd.prog laidL w) ∧ sizedMet enc Tryd.prog Tryd.f3 (OpenSpec.ofChange Rows.tallyAllSpec) false w args)
      (Rows.tallyAllSpec.post enc Tryd.prog Tryd.f3 false true false false) := by
  refine returnsInHanded_of_change_and (C := Tryd.checked) (X := fun w _ => laidMetH Tryd.prog laidL w) (fun _ _ _ hh h => h.of_heap hh) own started (by kernel_rfl) Tryd.func3
    (ChangeSpec.witness_shaped (enc := enc) (C := Tryd.checked) (os := os) (X := fun w _ => laidMetH Tryd.prog laidL w) false (World.doorLaid Tryd.prog 400 os) #[.slice none 0 0, .slice none 0 0] 8 rfl (World.shaped_of_RefB (by kernel_rfl) (by kernel_rfl)) (by kernel_rfl) (by kernel_rfl) (by kernel_rfl) (door_met os _)) ?_
  intro W base args ds gs before hval0 hW hcnd hsz0 hL _
  have hval : ∀ (j : Nat) t v, Tryd.f3.params[j]? = some t → args[j]? = some v → Value.okWide Tryd.prog W .any base t v := hval0
  have hsz : (DataW.weightsEach Tryd.prog (Tryd.f3.params.toList ++ Rows.tallyAllSpec.plain.varTypes Tryd.prog) (ds ++ gs)).all (· ≤ reachBytes) = true := hsz0
  have hW' := hW
  obtain ⟨p, q, hA0, hV, rfl, hfz, hnd⟩ := hW
  have hA : DataW.TrodAll enc Tryd.prog W 0 (fun _ => true) true Tryd.f3.params.toList args.toList ds p := hA0
  rw [Tryd.params3] at hA hval hsz
  obtain ⟨v0, vs0, d0, ds0, p0, q0, hargs, rfl, rfl, h0, r0⟩ := trodAll_cons hA
  obtain ⟨v1, vs1, d1, ds1, p1, q1, rfl, rfl, rfl, h1, r1⟩ := trodAll_cons r0
  obtain ⟨rfl, rfl, rfl⟩ := trodAll_nil r1
  obtain rfl : args = #[v0, v1] := by apply Array.toList_inj.1; exact hargs
  have w0 : ∀ n ∈ d0.weights Tryd.prog 22, n ≤ reachBytes := fun n hn => by
    have := List.all_eq_true.1 hsz n (DataW.weights_mem_each (j := 0) (t := 22) (d := d0) rfl rfl n hn)
    simpa using this
  have w1 : ∀ n ∈ d1.weights Tryd.prog 22, n ≤ reachBytes := fun n hn => by
    have := List.all_eq_true.1 hsz n (DataW.weights_mem_each (j := 1) (t := 22) (d := d1) rfl rfl n hn)
    simpa using this
  obtain ⟨oa, ca, l, rfl, na, hl, hA1⟩ := open_entries (hval 0 _ v0 rfl rfl) h0 w0
  obtain ⟨ob, cb, m, rfl, nb, hm, hB1⟩ := open_entries (hval 1 _ v1 rfl rfl) h1 w1
  refine (tallyall_walk oa ob ca cb l m W (lanes_of_laid hL) hA1 hB1 na nb hl hm).mono fun e W' ⟨he, hg⟩ => ?_
  exact ⟨_, he, law_post laidOut (by kernel_rfl) (by kernel_rfl) Tryd.underlying4 rfl hW' rfl hg⟩

theorem tallyall_holds : Rows.TallyAllSaid :=
  OpenClaim.holds_of_wide 3 Tryd.f3 rfl rfl rfl rfl rfl rfl rfl ⟨rfl, rfl, rfl, rfl, rfl⟩ rfl rfl rfl rfl rfl (by kernel_rfl) Tryd.func3 (by kernel_rfl)
    (of_decide_eq_true (by kernel_rfl)) (by unfold Func.isWrapper; first | (rw [if_pos (by decide +kernel)]; kernel_rfl) | (rw [if_neg (by decide +kernel)]; exact ⟨rfl, rfl⟩))
    (fun os started H enc _ => tallyall_lifted os started H enc)

theorem tallyall_card : Rows.TallyAllCardSaid :=
  Claim7.holds_tied_plain_at .later [] [.data] true (true, "67654b4c692b679d4de46bb3538cc166f90241f666e4c76ce4329fa71c89c3d9") false
    tallyall_holds (fun _ h => by cases h) (by kernel_rfl) (fun _ h => by cases h) tallyAll_row_tie rfl ⟨rfl, rfl⟩ (by kernel_rfl) rfl
    (fun f fn hf hfn => by
      obtain rfl : f = 3 := Option.some.inj ((show Tryd.prog.funcNamed "tideline/tidelinelaw05.TallyAll" = some 3 by kernel_rfl).symm.trans hf) |>.symm
      obtain rfl : fn = Tryd.f3 := (Option.some.inj (Tryd.func3.symm.trans hfn)).symm
      exact ⟨by kernel_rfl, fun j t ht => by
        rw [Tryd.params3] at ht
        have hm : t ∈ [22] := by
          rcases j with _ | _ | j
          · simpa using ht.symm
          · simpa using ht.symm
          · simp at ht
        have hall : ([22].all fun u => !Tryd.prog.wantsStandIn u) = true := by kernel_rfl
        exact (show Tryd.prog.wantsStandIn t = false by simpa using List.all_eq_true.1 hall t hm)⟩)
    (by kernel_rfl)
#print axioms tallyall_card
end Go.Proofs.YtjeaobknojmbpaaDoor
