/-
  TallyParts: of two lists of entries the second one's tally, taken from both's, is the first one's; for every two lists of entries.
-/
import Derived.Test.YtjeaobknojmbpaaDoorBey
import Derived.Test.YtjeaobknojmbpaaDoorLessA
import Derived.Test.YtjeaobknojmbpaaDoorEq
import Derived.Test.YtjeaobknojmbpaaDoorLaid
import Derived.Test.YtjeaobknojmbpaaDoorCards
import Derived.Test.YtjeaobknojmbpaaDoorTie
import Derived.SevenTiedAt
namespace Go.Proofs.YtjeaobknojmbpaaDoor
open Go.ChangeShapes Go.WideShapes Go.ChangeAt Go.RowKit Go.Deep
set_option linter.unusedVariables false
set_option linter.unusedSimpArgs false

theorem tot0_append (l m : List Ent) : tot0 (l ++ m) = tot0 l + tot0 m := by simp [tot0]
theorem tot1_append (l m : List Ent) : tot1 (l ++ m) = tot1 l + tot1 m := by simp [tot1]
theorem u64_sub_left (a b : Int) : u64 (u64 (a + b) - u64 b) = u64 a := by
  simp only [u64, IntKind.wrap, IntKind.signed, IntKind.bits]
  simp

theorem less_parts (l m : List Ent) (hl : l.length ≤ 1073741824) (hm : m.length ≤ 1073741824) (w : World) :
    Calls Tryd.prog 18 #[tv (l ++ m).length (u64 (tot0 (l ++ m))) (u64 (tot1 (l ++ m))), tv m.length (u64 (tot0 m)) (u64 (tot1 m))] w fun e w' => e = .returned (.tuple #[tv l.length (u64 (tot0 l)) (u64 (tot1 l)), .int .i64 0]) ∧ Below w.heap.size w w' := by
  have e : ((l ++ m).length : Int) = l.length + m.length := by simp
  rw [e]
  by_cases h0 : l.length = 0
  · have hn : l = [] := List.eq_nil_of_length_eq_zero h0
    subst hn
    have := less_same (0 + m.length) (u64 (tot0 m)) (u64 (tot1 m)) m.length (u64 (tot0 m)) (u64 (tot1 m)) (by omega) (by omega) rfl rfl (by omega) w
    exact this
  · have := less_less (l.length + m.length) (u64 (tot0 (l ++ m))) (u64 (tot1 (l ++ m))) m.length (u64 (tot0 m)) (u64 (tot1 m)) (by omega) (by omega) (by omega) w
    rw [show ((l.length : Int) + m.length - m.length) = l.length by omega, tot0_append, tot1_append, u64_sub_left, u64_sub_left] at this
    rw [tot0_append, tot1_append]
    exact this

set_option maxHeartbeats 4000000 in
theorem parts_walk (oa ob : Option Addr) (ca cb : Nat) (l m : List Ent) (w : World) (hL : Lanes w) (hA : Ents w oa l) (hB : Ents w ob m)
    (na : oa = none → l.length = 0 ∧ ca = 0) (nb : ob = none → m.length = 0 ∧ cb = 0) (hl : l.length * 56 ≤ 140737488351232) (hm : m.length * 56 ≤ 140737488351232) :
    Calls Tryd.prog 4 #[.slice oa l.length ca, .slice ob m.length cb] w fun r w' => r = .returned (.bool true) ∧ Below w.heap.size w w' := by
  have hL0 := hL.lt
  have HH : Hid (Lanes w ∧ Ents w oa l ∧ Ents w ob m ∧ (oa = none → l.length = 0 ∧ ca = 0) ∧ (ob = none → m.length = 0 ∧ cb = 0)) := ⟨hL, hA, hB, na, nb⟩
  clear hL hA hB na nb
  go_enter Tryd.func4, Tryd.ntmps4
  go_wp2_with fail
  refine (bey_any oa ca l _ HH.out.2.1 hl).mono ?_
  rintro e w1 ⟨t1, rfl, ht1, hb⟩
  have hz := hb.size
  cases t1 with
  | true =>
    clear ht1
    go_wp2_with fail
    go_ret
    exact ⟨rfl, hb⟩
  | false =>
    have hl30 := ht1 rfl
    clear ht1
    go_wp2_with fail
    refine (bey_any ob cb m _ (HH.out.2.2.1.below hb) hm).mono ?_
    rintro e w2 ⟨t2, rfl, ht2, hb2⟩
    replace hb := below_back hb hz hb2
    clear hb2 hz
    have hz := hb.size
    cases t2 with
    | true =>
      clear ht2
      go_wp2_with fail
      go_ret
      exact ⟨rfl, hb⟩
    | false =>
      have hm30 := ht2 rfl
      clear ht2
      obtain ⟨i0, hi, hz0, hz1, hz2⟩ := info_parts info_entry
      have HI : Hid (_ ∧ _ ∧ _ ∧ _) := ⟨hi, hz0, hz1, hz2⟩
      clear hi hz0 hz1 hz2
      have hb0 : Below w.heap.size w (w2.alloc (.cells #[] 32 (0, 0))) := hb.alloc hz _
      have HA : Hid (Ents (w2.alloc (.cells #[] 32 (0, 0))) oa l) := HH.out.2.1.below hb0
      obtain ⟨B, hB⟩ : ∃ g, g = w2.heap.size := ⟨_, rfl⟩
      have HO : Hid ((w2.alloc (.cells #[] 32 (0, 0))).ownsRow B 32 5 (.slice (some ⟨w2.heap.size, 0, none⟩) 0 0) 0 []) := World.ownsRow_lit w2 #[] 0 (by omega) (by unfold maxLen; omega) rfl
      have hB1 : w.heap.size ≤ B := by omega
      have HBsz : Hid (B = w2.heap.size) := hB
      clear hB
      go_wp2_with (first
        | (at_builtin; (refine wpList_append_any _ rfl (.tmp 15) (.tmp 16) 22 rfl B 32 i0 _ 5 56 Tryd.underlying22 HI.out.1 HI.out.2.1 HI.out.2.2.1 HI.out.2.2.2 rfl (by decide) _ 0 [] rfl HO.out oa l.length ca (flat l) rfl (flat_length l) HH.out.2.2.2.1 HA.out.cells' (flat_one l) ?c3 ?c4 ?c5 ?_))
        | fail)
      case c3 => unfold maxLen; omega
      case c4 => omega
      case c5 => rw [HBsz.out]; simp
      intro v1 w3 hown1 hgrow1
      have hb3 : Below w.heap.size w w3 := hb0.grown hgrow1 (by simp; omega) (by intro y hy; simp [Value.ownBlock] at hy; omega)
      have hs3 := hgrow1.size
      have hBs : B ≤ w3.heap.size := by rw [HBsz.out]; simp at hs3; omega
      have HO1 : Hid (w3.ownsRow B 32 5 v1 l.length (flat l)) := hown1
      have HB : Hid (Ents w3 ob m) := HH.out.2.2.1.below hb3
      clear hb hz hb0 HO HA hown1 hgrow1 hs3 HBsz
      go_wp2_with (first
        | (at_builtin; (refine wpList_append_any _ rfl (.tmp 18) (.tmp 19) 22 rfl B 32 i0 _ 5 56 Tryd.underlying22 HI.out.1 HI.out.2.1 HI.out.2.2.1 HI.out.2.2.2 rfl (by decide) _ _ _ rfl HO1.out ob m.length cb (flat m) rfl (flat_length m) HH.out.2.2.2.2 HB.out.cells' (flat_one m) ?c3 ?c4 ?c5 ?_))
        | fail)
      case c3 => unfold maxLen; omega
      case c4 => omega
      case c5 => exact hBs
      intro v2 w4 hown2 hgrow2
      have hb : Below w.heap.size w w4 := hb3.grown hgrow2 hb3.size (by intro y hy; have := (HO1.out.lt y hy).1; omega)
      rw [← flat_append, show l.length + m.length = (l ++ m).length by simp] at hown2
      have hbs : B ≤ w4.heap.size := Nat.le_trans hBs hgrow2.size
      obtain ⟨oc, cc, rfl, nc, hE⟩ := ents_of_own rfl hown2 (HH.out.2.1.keys.append HH.out.2.2.1.keys)
      clear hown2 hgrow2 hb3 HO1 HB hBs
      have hz := hb.size
      have hlen : (l ++ m).length ≤ 2147483648 := by simp; omega
      have HLM : Hid (((l ++ m).length : Int) = l.length + m.length) := by unfold Hid; simp
      have HCL : Hid (∀ w, _) := less_parts l m hl30 hm30
      have HT : Hid (tot0 (l ++ m) = tot0 l + tot0 m ∧ tot1 (l ++ m) = tot1 l + tot1 m) := ⟨tot0_append l m, tot1_append l m⟩
      generalize hlm : l ++ m = lm at *
      have HC : Hid (Ents w4 oc lm) := hE
      have HLL : Hid (l ++ m = lm) := hlm
      clear hE hlm nc
      have CL : Hid (∀ w : World, Calls Tryd.prog 18 #[tv lm.length (u64 (tot0 lm)) (u64 (tot1 lm)), tv m.length (u64 (tot0 m)) (u64 (tot1 m))] w fun e w' => e = .returned (.tuple #[tv l.length (u64 (tot0 l)) (u64 (tot1 l)), .int .i64 0]) ∧ Below w.heap.size w w') := HCL.out
      clear HCL HLL HLM HT
      go_wp2_with fail
      refine (tall_any oc cc lm _ (HH.out.1.below hb hL0) HC.out (by omega)).mono ?_
      rintro e w5 ⟨rfl, hb5⟩
      replace hb := below_back hb hz hb5
      clear hb5 hz HC
      have hz := hb.size
      go_wp2_with fail
      refine (tall_any ob cb m _ (HH.out.1.below hb hL0) (HH.out.2.2.1.below hb) (by omega)).mono ?_
      rintro e w6 ⟨rfl, hb6⟩
      replace hb := below_back hb hz hb6
      clear hb6 hz
      have hz := hb.size
      go_wp2_with fail
      refine (CL.out _).mono ?_
      rintro e w7 ⟨rfl, hb7⟩
      replace hb := below_back hb hz hb7
      clear hb7 hz
      have hz := hb.size
      go_wp2_with fail
      obtain ⟨xb, hxb⟩ : ∃ g, g = w7.heap.size := ⟨_, rfl⟩
      have g6 : (w7.alloc (.cells #[.int .i64 l.length, .int .u64 (u64 (tot0 l)), .int .u64 (u64 (tot1 l))] 28 (0, 0))).heap[w7.heap.size]? = some (.cells #[.int .i64 l.length, .int .u64 (u64 (tot0 l)), .int .u64 (u64 (tot1 l))] 28 (0, 0)) := by (repeat (first | (with_reducible assumption) | (with_reducible exact Below.refl _ _) | (with_reducible refine heap_drew ?_) | (focus ((with_reducible refine heap_new ?_) ; simp ; done)) | (with_reducible apply heap_set_to) | (focus ((with_reducible refine heap_set_ne ?_ ?_ _) ; rotate_left ; (focus (first | omega | (simp ; done) | (simp ; omega))))) | (with_reducible refine heap_old ?_) | (with_reducible refine Below.drew ?_) | (with_reducible refine below_set ?_ _ _) | (focus ((with_reducible refine Below.setCell ?_ ?_ _) ; rotate_left ; (focus (first | omega | (simp ; done) | (simp ; omega))))) | (focus ((with_reducible refine Below.alloc ?_ ?_ _) ; rotate_left ; (focus (first | omega | (simp ; done) | (simp ; omega))))) | (with_reducible rfl) | (focus (simp ; done))))
      rw [← hxb] at g6 ⊢
      have hl1 : w.heap.size ≤ xb := by omega
      clear hxb
      have hSt : Stable (fun w8 : World => (Below w.heap.size w w8) ∧ (w8.heap[xb]? = some (.cells #[.int .i64 l.length, .int .u64 (u64 (tot0 l)), .int .u64 (u64 (tot1 l))] 28 (0, 0)))) := by repeat (first | exact stable_ext _ | exact stable_blk _ _ | exact stable_true | (refine stable_bel ?_ ; (focus (first | (simp [World.size_setCell] ; done) | (simp [World.setCell] ; done)))) | refine Stable.and ?_ ?_)
      refine wp_region_x [0, 1, 2, 3, 4, 5, 6, 7, 8, 9, 10, 11, 12, 13, 14, 15] [0, 0, 0, 1, 0, 1, 0, 0, 0, 0, 1, 0, 0, 0, 0, 0] (fun w8 => (Below w.heap.size w w8) ∧ (w8.heap[xb]? = some (.cells #[.int .i64 l.length, .int .u64 (u64 (tot0 l)), .int .u64 (u64 (tot1 l))] 28 (0, 0)))) (by kernel_rfl) (by kernel_rfl) ?_ ?_
      · (refine ⟨?_, ?_⟩ <;> (repeat (first | (with_reducible assumption) | (with_reducible exact Below.refl _ _) | (with_reducible refine heap_drew ?_) | (focus ((with_reducible refine heap_new ?_) ; simp ; done)) | (with_reducible apply heap_set_to) | (focus ((with_reducible refine heap_set_ne ?_ ?_ _) ; rotate_left ; (focus (first | omega | (simp ; done) | (simp ; omega))))) | (with_reducible refine heap_old ?_) | (with_reducible refine Below.drew ?_) | (with_reducible refine below_set ?_ _ _) | (focus ((with_reducible refine Below.setCell ?_ ?_ _) ; rotate_left ; (focus (first | omega | (simp ; done) | (simp ; omega))))) | (focus ((with_reducible refine Below.alloc ?_ ?_ _) ; rotate_left ; (focus (first | omega | (simp ; done) | (simp ; omega))))) | (with_reducible rfl) | (focus (simp ; done)))))
      simp only [List.map_cons, List.map_nil, List.getD_cons_zero, List.getD_cons_succ]
      (refine x_pure rfl _ ?_ rfl (by simp) ?_ ?_ ; rotate_left ; · (intro w8 K hK ; go_wp2_with fail ; exact rfl))
      simp only [Act.put, List.setIfInBounds_toArray, List.set_cons_succ, List.set_cons_zero]
      (refine x_pure rfl _ ?_ rfl (by simp) ?_ ?_ ; rotate_left ; · (intro w8 K hK ; go_wp2_with fail ; exact rfl))
      simp only [Act.put, List.setIfInBounds_toArray, List.set_cons_succ, List.set_cons_zero]
      (refine x_pure rfl _ ?_ rfl (by simp) ?_ ?_ ; rotate_left ; · (intro w8 K hK ; go_wp2_with fail ; exact rfl))
      simp only [Act.put, List.setIfInBounds_toArray, List.set_cons_succ, List.set_cons_zero]
      first | (refine x_skip rfl ?_) | (refine x_quiet rfl hSt (fun _ h => h) _ ?_ rfl (by simp) ?_ ?_ ; rotate_left ; · (intro w8 hC K hK ; obtain ⟨hb, g6⟩ := hC ; have q6 := blk3 g6 ; go_wp2_with fail ; refine ⟨?_, Below.refl _ _⟩ ; exact rfl))
      simp only [Act.put, List.setIfInBounds_toArray, List.set_cons_succ, List.set_cons_zero]
      first | (refine x_skip rfl ?_) | (refine x_pure rfl _ ?_ rfl (by simp) ?_ ?_ ; rotate_left ; · (intro w8 K hK ; go_wp2_with fail ; exact rfl))
      simp only [Act.put, List.setIfInBounds_toArray, List.set_cons_succ, List.set_cons_zero]
      first | (refine x_skip rfl ?_) | (refine x_quiet rfl hSt (fun _ h => h) _ ?_ rfl (by simp) ?_ ?_ ; rotate_left ; · (intro w8 hC K hK ; obtain ⟨hb, g6⟩ := hC ; have q6 := blk3 g6 ; go_wp2_with fail ; refine (tall_any oa ca l _ (HH.out.1.below hb hL0) (HH.out.2.1.below hb) (by omega)).mono ?_ ; rintro e w2 ⟨rfl, hb2⟩ ; refine hK _ _ ⟨?_, rfl, hb2⟩ ; exact rfl))
      simp only [Act.put, List.setIfInBounds_toArray, List.set_cons_succ, List.set_cons_zero]
      first | (refine x_skip rfl ?_) | (refine x_pure rfl _ ?_ rfl (by simp) ?_ ?_ ; rotate_left ; · (intro w8 K hK ; go_wp2_with fail ; exact rfl))
      simp only [Act.put, List.setIfInBounds_toArray, List.set_cons_succ, List.set_cons_zero]
      (refine x_pure rfl _ ?_ rfl (by simp) ?_ ?_ ; rotate_left ; · (intro w8 K hK ; go_wp2_with fail ; exact rfl))
      simp only [Act.put, List.setIfInBounds_toArray, List.set_cons_succ, List.set_cons_zero]
      (refine x_pure rfl _ ?_ rfl (by simp) ?_ ?_ ; rotate_left ; · (intro w8 K hK ; go_wp2_with fail ; exact rfl))
      simp only [Act.put, List.setIfInBounds_toArray, List.set_cons_succ, List.set_cons_zero]
      first | (refine x_skip rfl ?_) | (refine x_pure rfl _ ?_ rfl (by simp) ?_ ?_ ; rotate_left ; · (intro w8 K hK ; go_wp2_with fail ; exact rfl))
      simp only [Act.put, List.setIfInBounds_toArray, List.set_cons_succ, List.set_cons_zero]
      first | (refine x_skip rfl ?_) | (refine x_quiet rfl hSt (fun _ h => h) _ ?_ rfl (by simp) ?_ ?_ ; rotate_left ; · (intro w8 hC K hK ; obtain ⟨hb, g6⟩ := hC ; have q6 := blk3 g6 ; go_wp2_with fail ; refine ⟨?_, Below.refl _ _⟩ ; exact rfl))
      simp only [Act.put, List.setIfInBounds_toArray, List.set_cons_succ, List.set_cons_zero]
      first | (refine x_skip rfl ?_) | (refine x_pure rfl _ ?_ rfl (by simp) ?_ ?_ ; rotate_left ; · (intro w8 K hK ; go_wp2_with fail ; exact rfl))
      simp only [Act.put, List.setIfInBounds_toArray, List.set_cons_succ, List.set_cons_zero]
      first | (refine x_skip rfl ?_) | (refine x_pure rfl _ ?_ rfl (by simp) ?_ ?_ ; rotate_left ; · (intro w8 K hK ; go_wp2_with fail ; exact rfl))
      simp only [Act.put, List.setIfInBounds_toArray, List.set_cons_succ, List.set_cons_zero]
      first | (refine x_skip rfl ?_) | (refine x_pure rfl _ ?_ rfl (by simp) ?_ ?_ ; rotate_left ; · (intro w8 K hK ; go_wp2_with fail ; exact rfl))
      simp only [Act.put, List.setIfInBounds_toArray, List.set_cons_succ, List.set_cons_zero]
      (refine x_pure rfl _ ?_ rfl (by simp) ?_ ?_ ; rotate_left ; · (intro w8 K hK ; go_wp2_with fail ; exact rfl))
      simp only [Act.put, List.setIfInBounds_toArray, List.set_cons_succ, List.set_cons_zero]
      (refine x_pure rfl _ ?_ rfl (by simp) ?_ ?_ ; rotate_left ; · (intro w8 K hK ; go_wp2_with fail ; exact rfl))
      simp only [Act.put, List.setIfInBounds_toArray, List.set_cons_succ, List.set_cons_zero]
      refine x_nil ?_
      rintro w8 ⟨hb, g6⟩
      go_wp2_with fail
      go_ret
      exact ⟨rfl, hb⟩

set_option maxRecDepth 100000 in
theorem parts_lifted (os : Os) (started : os.Started) (H : Type) (enc : TypeId × Value → H) :
    ReturnsInHanded {} Tryd.checked os 4 .any (fun w args => (Rows.tallyPartsSpec.pre enc Tryd.prog Tryd.f4 Rows.tallyPartsRow.domain false w args ∧ laidMetH Tryd.prog laidL w) ∧ sizedMet enc Tryd.prog Tryd.f4 (OpenSpec.ofChange Rows.tallyPartsSpec) false w args)
      (Rows.tallyPartsSpec.post enc Tryd.prog Tryd.f4 false true false false) := by
  refine returnsInHanded_of_change_and (C := Tryd.checked) (X := fun w _ => laidMetH Tryd.prog laidL w) (fun _ _ _ hh h => h.of_heap hh) own started (by kernel_rfl) Tryd.func4
    (ChangeSpec.witness_shaped (enc := enc) (C := Tryd.checked) (os := os) (X := fun w _ => laidMetH Tryd.prog laidL w) false (World.doorLaid Tryd.prog 400 os) #[.slice none 0 0, .slice none 0 0] 8 rfl (World.shaped_of_RefB (by kernel_rfl) (by kernel_rfl)) (by kernel_rfl) (by kernel_rfl) (by kernel_rfl) (door_met os _)) ?_
  intro W base args ds gs before hval0 hW hcnd hsz0 hL _
  have hval : ∀ (j : Nat) t v, Tryd.f4.params[j]? = some t → args[j]? = some v → Value.okWide Tryd.prog W .any base t v := hval0
  have hsz : (DataW.weightsEach Tryd.prog (Tryd.f4.params.toList ++ Rows.tallyPartsSpec.plain.varTypes Tryd.prog) (ds ++ gs)).all (· ≤ reachBytes) = true := hsz0
  have hW' := hW
  obtain ⟨p, q, hA0, hV, rfl, hfz, hnd⟩ := hW
  have hA : DataW.TrodAll enc Tryd.prog W 0 (fun _ => true) true Tryd.f4.params.toList args.toList ds p := hA0
  rw [Tryd.params4] at hA hval hsz
  obtain ⟨v0, vs0, d0, ds0, p0, q0, hargs, rfl, rfl, h0, r0⟩ := trodAll_cons hA
  obtain ⟨v1, vs1, d1, ds1, p1, q1, rfl, rfl, rfl, h1, r1⟩ := trodAll_cons r0
  obtain ⟨rfl, rfl, rfl⟩ := trodAll_nil r1
  obtain rfl : args = #[v0, v1] := by apply Array.toList_inj.1; exact hargs
  have w0 : ∀ n ∈ d0.weights Tryd.prog 22, n ≤ reachBytes := fun n hn => by
    have := List.all_eq_true.1 hsz n (DataW.weights_mem_each (j := 0) (t := 22) (d := d0) rfl rfl n hn)
    simpa using this
  have w1 : ∀ n ∈ d1.weights Tryd.prog 22, n ≤ reachBytes := fun n hn => by
    have := List.all_eq_true.1 hsz n (DataW.weights_mem_each (j := 1) (t := 22) (d := d1) rfl rfl n hn)
    simpa using this
  obtain ⟨oa, ca, l, rfl, na, hl, hA1⟩ := open_entries (hval 0 _ v0 rfl rfl) h0 w0
  obtain ⟨ob, cb, m, rfl, nb, hm, hB1⟩ := open_entries (hval 1 _ v1 rfl rfl) h1 w1
  refine (parts_walk oa ob ca cb l m W (lanes_of_laid hL) hA1 hB1 na nb hl hm).mono fun e W' ⟨he, hg⟩ => ?_
  exact ⟨_, he, law_post laidOut (by kernel_rfl) (by kernel_rfl) Tryd.underlying4 rfl hW' rfl hg⟩

theorem parts_holds : Rows.TallyPartsSaid :=
  OpenClaim.holds_of_wide 4 Tryd.f4 rfl rfl rfl rfl rfl rfl rfl ⟨rfl, rfl, rfl, rfl, rfl⟩ rfl rfl rfl rfl rfl (by kernel_rfl) Tryd.func4 (by kernel_rfl)
    (of_decide_eq_true (by kernel_rfl)) (by unfold Func.isWrapper; first | (rw [if_pos (by decide +kernel)]; kernel_rfl) | (rw [if_neg (by decide +kernel)]; exact ⟨rfl, rfl⟩))
    (fun os started H enc _ => parts_lifted os started H enc)

theorem parts_card : Rows.TallyPartsCardSaid :=
  Claim7.holds_tied_plain_at .later [] [.data] true (true, "67654b4c692b679d4de46bb3538cc166f90241f666e4c76ce4329fa71c89c3d9") false
    parts_holds (fun _ h => by cases h) (by kernel_rfl) (fun _ h => by cases h) tallyParts_row_tie rfl ⟨rfl, rfl⟩ (by kernel_rfl) rfl
    (fun f fn hf hfn => by
      obtain rfl : f = 4 := Option.some.inj ((show Tryd.prog.funcNamed "tideline/tidelinelaw05.TallyParts" = some 4 by kernel_rfl).symm.trans hf) |>.symm
      obtain rfl : fn = Tryd.f4 := (Option.some.inj (Tryd.func4.symm.trans hfn)).symm
      exact ⟨by kernel_rfl, fun j t ht => by
        rw [Tryd.params4] at ht
        have hm : t ∈ [22] := by
          rcases j with _ | _ | j
          · simpa using ht.symm
          · simpa using ht.symm
          · simp at ht
        have hall : ([22].all fun u => !Tryd.prog.wantsStandIn u) = true := by kernel_rfl
        exact (show Tryd.prog.wantsStandIn t = false by simpa using List.all_eq_true.1 hall t hm)⟩)
    (by kernel_rfl)
#print axioms parts_card
end Go.Proofs.YtjeaobknojmbpaaDoor
