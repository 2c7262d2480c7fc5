/-
  MixOf: what any text and any numbers come to is what the reference tells.
-/
import Derived.Test.YtjeaobknojmbpaaDoorShown
import Derived.Test.YtjeaobknojmbpaaDoorRof
import Derived.Test.YtjeaobknojmbpaaDoorEnt
import Derived.Test.YtjeaobknojmbpaaDoorLaid
import Derived.Test.YtjeaobknojmbpaaDoorCards
import Derived.Test.YtjeaobknojmbpaaDoorTie
import Derived.SevenTiedAt
import Derived.ChangeMaps5
namespace Go.Proofs.YtjeaobknojmbpaaDoor
open Go.ChangeShapes Go.WideShapes Go.ChangeAt Go.RowKit Go.Deep
set_option linter.unusedVariables false
set_option linter.unusedSimpArgs false

set_option maxHeartbeats 4000000 in
theorem mixof_walk (s : ByteArray) (c n : Int) (w : World) (hL : Lanes w) (hs : s.size ≤ 140737488351232) :
    Calls Tryd.prog 5 #[.string s, .agg #[.int .i64 c, .int .i64 n]] w fun r w' => r = .returned (.bool true) ∧ Below w.heap.size w w' := by
  have hL0 := hL.lt
  have HL : Hid (Lanes w) := hL
  clear hL
  go_enter Tryd.func5, Tryd.ntmps5
  go_wp2_with fail
  have hSt : Stable (fun w1 : World => (Below w.heap.size w w1) ∧ (w1.heap[w.heap.size]? = some (.cells #[.int .i64 c, .int .i64 n] 30 (0, 0)))) := by repeat (first | exact stable_ext _ | exact stable_blk _ _ | exact stable_true | (refine stable_bel ?_ ; (focus (first | (simp [World.size_setCell] ; done) | (simp [World.setCell] ; done)))) | refine Stable.and ?_ ?_)
  refine wp_region_x [0, 1, 2, 3, 4, 5, 6, 7, 8, 9, 10] [1, 0, 0, 1, 1, 0, 1, 1, 0, 0, 0] (fun w1 => (Below w.heap.size w w1) ∧ (w1.heap[w.heap.size]? = some (.cells #[.int .i64 c, .int .i64 n] 30 (0, 0)))) (by kernel_rfl) (by kernel_rfl) ?_ ?_
  · (refine ⟨?_, ?_⟩ <;> (repeat (first | (with_reducible assumption) | (with_reducible exact Below.refl _ _) | (with_reducible refine heap_drew ?_) | (focus ((with_reducible refine heap_new ?_) ; simp ; done)) | (with_reducible apply heap_set_to) | (focus ((with_reducible refine heap_set_ne ?_ ?_ _) ; rotate_left ; (focus (first | omega | (simp ; done) | (simp ; omega))))) | (with_reducible refine heap_old ?_) | (with_reducible refine Below.drew ?_) | (with_reducible refine below_set ?_ _ _) | (focus ((with_reducible refine Below.setCell ?_ ?_ _) ; rotate_left ; (focus (first | omega | (simp ; done) | (simp ; omega))))) | (focus ((with_reducible refine Below.alloc ?_ ?_ _) ; rotate_left ; (focus (first | omega | (simp ; done) | (simp ; omega))))) | (with_reducible rfl) | (focus (simp ; done)))))
  simp only [List.map_cons, List.map_nil, List.getD_cons_zero, List.getD_cons_succ]
  (refine x_quiet rfl hSt (fun _ h => h) _ ?_ rfl (by simp) ?_ ?_ ; rotate_left ; · (intro w1 hC K hK ; obtain ⟨hb, g0⟩ := hC ; have q0 := blk2 g0 ; go_wp2_with fail ; refine (shown_any _ (HL.out.below hb hL0)).mono ?_ ; rintro e w2 ⟨rfl, hb2⟩ ; refine hK _ _ ⟨?_, rfl, hb2⟩ ; exact rfl))
  simp only [Act.put, List.setIfInBounds_toArray, List.set_cons_succ, List.set_cons_zero]
  (refine x_pure rfl _ ?_ rfl (by simp) ?_ ?_ ; rotate_left ; · (intro w1 K hK ; go_wp2_with fail ; exact rfl))
  simp only [Act.put, List.setIfInBounds_toArray, List.set_cons_succ, List.set_cons_zero]
  first | (refine x_skip rfl ?_) | (refine x_pure rfl _ ?_ rfl (by simp) ?_ ?_ ; rotate_left ; · (intro w1 K hK ; go_wp2_with fail ; exact rfl))
  simp only [Act.put, List.setIfInBounds_toArray, List.set_cons_succ, List.set_cons_zero]
  first | (refine x_skip rfl ?_) | (refine x_quiet rfl hSt (fun _ h => h) _ ?_ rfl (by simp) ?_ ?_ ; rotate_left ; · (intro w1 hC K hK ; obtain ⟨hb, g0⟩ := hC ; have q0 := blk2 g0 ; go_wp2_with fail ; refine ⟨?_, Below.refl _ _⟩ ; exact rfl))
  simp only [Act.put, List.setIfInBounds_toArray, List.set_cons_succ, List.set_cons_zero]
  first | (refine x_skip rfl ?_) | (refine x_quiet rfl hSt (fun _ h => h) _ ?_ rfl (by simp) ?_ ?_ ; rotate_left ; · (intro w1 hC K hK ; obtain ⟨hb, g0⟩ := hC ; have q0 := blk2 g0 ; go_wp2_with fail ; refine (of_any s c n _ (HL.out.below hb hL0) (by omega)).mono ?_ ; rintro e w2 ⟨rfl, hb2⟩ ; refine hK _ _ ⟨?_, rfl, hb2⟩ ; exact rfl))
  simp only [Act.put, List.setIfInBounds_toArray, List.set_cons_succ, List.set_cons_zero]
  first | (refine x_skip rfl ?_) | (refine x_pure rfl _ ?_ rfl (by simp) ?_ ?_ ; rotate_left ; · (intro w1 K hK ; go_wp2_with fail ; exact rfl))
  simp only [Act.put, List.setIfInBounds_toArray, List.set_cons_succ, List.set_cons_zero]
  first | (refine x_skip rfl ?_) | (refine x_quiet rfl hSt (fun _ h => h) _ ?_ rfl (by simp) ?_ ?_ ; rotate_left ; · (intro w1 hC K hK ; obtain ⟨hb, g0⟩ := hC ; have q0 := blk2 g0 ; go_wp2_with fail ; refine ⟨?_, Below.refl _ _⟩ ; exact rfl))
  simp only [Act.put, List.setIfInBounds_toArray, List.set_cons_succ, List.set_cons_zero]
  first | (refine x_skip rfl ?_) | (refine x_quiet rfl hSt (fun _ h => h) _ ?_ rfl (by simp) ?_ ?_ ; rotate_left ; · (intro w1 hC K hK ; obtain ⟨hb, g0⟩ := hC ; have q0 := blk2 g0 ; go_wp2_with fail ; refine (rof_any s c n _ hs).mono ?_ ; rintro e w2 ⟨rfl, hb2⟩ ; refine hK _ _ ⟨?_, rfl, hb2⟩ ; exact rfl))
  simp only [Act.put, List.setIfInBounds_toArray, List.set_cons_succ, List.set_cons_zero]
  first | (refine x_skip rfl ?_) | (refine x_pure rfl _ ?_ rfl (by simp) ?_ ?_ ; rotate_left ; · (intro w1 K hK ; go_wp2_with fail ; exact rfl))
  simp only [Act.put, List.setIfInBounds_toArray, List.set_cons_succ, List.set_cons_zero]
  (refine x_pure rfl _ ?_ rfl (by simp) ?_ ?_ ; rotate_left ; · (intro w1 K hK ; go_wp2_with fail ; exact rfl))
  simp only [Act.put, List.setIfInBounds_toArray, List.set_cons_succ, List.set_cons_zero]
  (refine x_pure rfl _ ?_ rfl (by simp) ?_ ?_ ; rotate_left ; · (intro w1 K hK ; go_wp2_with fail ; exact rfl))
  simp only [Act.put, List.setIfInBounds_toArray, List.set_cons_succ, List.set_cons_zero]
  refine x_nil ?_
  rintro w1 ⟨hb, g0⟩
  go_wp2_with fail
  go_ret
  exact ⟨rfl, hb⟩

section
variable {H : Type} {enc : TypeId × Value → H} {w : World} {base : Nat} {held : Bool} {spare : Nat → Bool}
theorem open_version {v : Value} {d : DataW H} {p : List MemPlace} (hv : Value.okWide Tryd.prog w .any base 30 v) (h : DataW.Trod enc Tryd.prog w 0 spare held 30 v d p) :
    ∃ c n, v = .agg #[.int .i64 c, .int .i64 n] := by
  obtain ⟨cs, rfl, _⟩ := okWide_struct Tryd.underlying30 hv
  obtain ⟨fuel, hf⟩ := h
  obtain ⟨c, n, hc, _, _⟩ := trod_version hf
  refine ⟨c, n, ?_⟩
  have : cs = #[.int .i64 c, .int .i64 n] := by
    apply Array.toList_inj.1
    exact hc
  rw [this]
end

set_option maxRecDepth 100000 in
theorem mixof_lifted (os : Os) (started : os.Started) (H : Type) (enc : TypeId × Value → H) :
    ReturnsInHanded {} Tryd.checked os 5 .any (fun w args => (Rows.mixOfSpec.pre enc Tryd.prog Tryd.f5 Rows.mixOfRow.domain false w args ∧ laidMetH Tryd.prog laidL w) ∧ sizedMet enc Tryd.prog Tryd.f5 (OpenSpec.ofChange Rows.mixOfSpec) false w args)
      (Rows.mixOfSpec.post enc Tryd.prog Tryd.f5 false true false false) := by
  refine returnsInHanded_of_change_and (C := Tryd.checked) (X := fun w _ => laidMetH Tryd.prog laidL w) (fun _ _ _ hh h => h.of_heap hh) own started (by kernel_rfl) Tryd.func5
    (ChangeSpec.witness_shaped (enc := enc) (C := Tryd.checked) (os := os) (X := fun w _ => laidMetH Tryd.prog laidL w) false (World.doorLaid Tryd.prog 400 os) #[.string ⟨#[]⟩, .agg #[.int .i64 0, .int .i64 0]] 8 rfl (World.shaped_of_RefB (by kernel_rfl) (by kernel_rfl)) (by kernel_rfl) (by kernel_rfl) (by kernel_rfl) (door_met os _)) ?_
  intro W base args ds gs before hval0 hW hcnd hsz0 hL _
  have hval : ∀ (j : Nat) t v, Tryd.f5.params[j]? = some t → args[j]? = some v → Value.okWide Tryd.prog W .any base t v := hval0
  have hsz : (DataW.weightsEach Tryd.prog (Tryd.f5.params.toList ++ Rows.mixOfSpec.plain.varTypes Tryd.prog) (ds ++ gs)).all (· ≤ reachBytes) = true := hsz0
  have hW' := hW
  obtain ⟨p, q, hA0, hV, rfl, hfz, hnd⟩ := hW
  have hA : DataW.TrodAll enc Tryd.prog W 0 (fun _ => true) true Tryd.f5.params.toList args.toList ds p := hA0
  rw [Tryd.params5] at hA hval hsz
  obtain ⟨v0, vs0, d0, ds0, p0, q0, hargs, rfl, rfl, h0, r0⟩ := trodAll_cons hA
  obtain ⟨v1, vs1, d1, ds1, p1, q1, rfl, rfl, rfl, h1, r1⟩ := trodAll_cons r0
  obtain ⟨rfl, rfl, rfl⟩ := trodAll_nil r1
  obtain rfl : args = #[v0, v1] := by apply Array.toList_inj.1; exact hargs
  obtain ⟨s, rfl, rfl, _, _⟩ := Go.ChangeMaps.open_string Tryd.underlying9 (hval 0 _ v0 rfl rfl) h0
  obtain ⟨c, n, rfl⟩ := open_version (hval 1 _ v1 rfl rfl) h1
  have hs : s.size ≤ 140737488351232 := by
    have := sized_string hsz (j := 0) (t := 9) (bytes := s.data.toList) rfl rfl
    simpa [reachBytes, len_list] using this
  refine (mixof_walk s c n W (lanes_of_laid hL) hs).mono fun e W' ⟨he, hg⟩ => ?_
  exact ⟨_, he, law_post laidOut (by kernel_rfl) (by kernel_rfl) Tryd.underlying4 rfl hW' rfl hg⟩

theorem mixof_holds : Rows.MixOfSaid :=
  OpenClaim.holds_of_wide 5 Tryd.f5 rfl rfl rfl rfl rfl rfl rfl ⟨rfl, rfl, rfl, rfl, rfl⟩ rfl rfl rfl rfl rfl (by kernel_rfl) Tryd.func5 (by kernel_rfl)
    (of_decide_eq_true (by kernel_rfl)) (by unfold Func.isWrapper; first | (rw [if_pos (by decide +kernel)]; kernel_rfl) | (rw [if_neg (by decide +kernel)]; exact ⟨rfl, rfl⟩))
    (fun os started H enc _ => mixof_lifted os started H enc)

theorem mixof_card : Rows.MixOfCardSaid :=
  Claim7.holds_tied_plain_at .later [] [.data] true (true, "67654b4c692b679d4de46bb3538cc166f90241f666e4c76ce4329fa71c89c3d9") false
    mixof_holds (fun _ h => by cases h) (by kernel_rfl) (fun _ h => by cases h) mixOf_row_tie rfl ⟨rfl, rfl⟩ (by kernel_rfl) rfl
    (fun f fn hf hfn => by
      obtain rfl : f = 5 := Option.some.inj ((show Tryd.prog.funcNamed "tideline/tidelinelaw04.MixOf" = some 5 by kernel_rfl).symm.trans hf) |>.symm
      obtain rfl : fn = Tryd.f5 := (Option.some.inj (Tryd.func5.symm.trans hfn)).symm
      exact ⟨by kernel_rfl, fun j t ht => by
        rw [Tryd.params5] at ht
        have hm : t ∈ [9, 30] := by simpa using Array.mem_of_getElem? ht
        have hall : ([9, 30].all fun u => !Tryd.prog.wantsStandIn u) = true := by kernel_rfl
        exact (show Tryd.prog.wantsStandIn t = false by simpa using List.all_eq_true.1 hall t hm)⟩)
    (by kernel_rfl)
#print axioms mixof_card
end Go.Proofs.YtjeaobknojmbpaaDoor
