/-
  MixTurned: whatever order entries stand in, and however they are parted, they come to the same: the card.
-/
import Derived.Test.YtjeaobknojmbpaaDoorMixTurned
import Derived.Test.YtjeaobknojmbpaaDoorLaid
import Derived.Test.YtjeaobknojmbpaaDoorCards
import Derived.Test.YtjeaobknojmbpaaDoorTie
import Derived.SizedLaws
import Derived.SevenTiedAt
import Derived.Deep.Slices
namespace Go.Proofs.YtjeaobknojmbpaaDoor
open Go.ChangeShapes Go.WideShapes Go.ChangeAt Go.RowKit Go.Deep
set_option linter.unusedVariables false
set_option linter.unusedSimpArgs false

section
variable {H : Type} {enc : TypeId × Value → H} {w : World} {base : Nat} {held : Bool} {spare : Nat → Bool}
/-- A slice of numbers that came in. -/
theorem open_ints {v : Value} {d : DataW H} {p : List MemPlace} (hv : Value.okWide Tryd.prog w .any base 51 v) (h : DataW.Trod enc Tryd.prog w 0 (fun _ => true) held 51 v d p)
    (hsz : ∀ n ∈ d.weights Tryd.prog 51, n ≤ reachBytes) :
    ∃ (oa : Option Addr) (len cap : Nat) (el : Nat → Int), v = .slice oa len cap ∧ len ≤ 140737488351232 ∧ ∀ k, k < len → ∃ b o, oa = some ⟨b, o, none⟩ ∧ b < w.heap.size ∧ w.cell? ⟨b, o + k, none⟩ = some (.int .i64 (el k)) ∧ -9223372036854775808 ≤ el k ∧ el k ≤ 9223372036854775807 := by
  obtain ⟨oa, len, cap, rfl⟩ := okWide_slice Tryd.underlying51 hv
  obtain ⟨fuel, hf⟩ := h
  rcases open_slice1 Tryd.underlying51 (by kernel_rfl) hf with ⟨hc, _⟩ | ⟨a, len', cap', m, n, V, D, Pl, hc, hb, hl, hm, hmm, hxd, hx⟩
  · have hc' : Value.slice oa len cap = .slice none 0 0 := List.head_eq_of_cons_eq hc
    simp only [Value.slice.injEq] at hc'
    obtain ⟨rfl, rfl, rfl⟩ := hc'
    exact ⟨none, 0, 0, fun _ => 0, rfl, by omega, fun k hk => absurd hk (by omega)⟩
  · have hc' : Value.slice oa len cap = .slice (some a) len' cap' := List.head_eq_of_cons_eq hc
    simp only [Value.slice.injEq] at hc'
    obtain ⟨rfl, rfl, rfl⟩ := hc'
    simp only [if_true] at hmm
    subst hmm
    have hd : d = .slice ((List.range len).map D) ((List.range (m - len)).map fun j => D (len + j)) := congrArg Prod.fst hxd
    have hcap : len ≤ 140737488351232 := by
      have := hsz ((len + (m - len)) * Tryd.prog.bytesOf 3) (by rw [hd]; simp only [DataW.weights, Tryd.underlying51]; simp)
      have hby : Tryd.prog.bytesOf 3 = 8 := by kernel_rfl
      rw [hby] at this
      unfold reachBytes at this
      omega
    have key : ∀ i, i < len → ∃ q : Int, ∃ b o, (some a : Option Addr) = some ⟨b, o, none⟩ ∧ b < w.heap.size ∧ w.cell? ⟨b, o + i, none⟩ = some (.int .i64 q) ∧ -9223372036854775808 ≤ q ∧ q ≤ 9223372036854775807 := fun i hi => by
      obtain ⟨e0, h2⟩ := hx i (by omega)
      obtain ⟨q, h3, _, hw⟩ := DataW.trod_int Tryd.underlying3 h2
      have hw2 : Inr .i64 q := hw
      have hb2 := hw2.i64
      have hs : a.spot = none := by
        have := World.cell?_spot (hx 0 (by omega)).1
        simpa [Addr.add] using this
      obtain ⟨b, o, spot⟩ := a
      simp only at hs
      subst hs
      have h4 : V i = .int .i64 q := by simpa using h3
      rw [h4, add_none] at e0
      exact ⟨q, b, o, rfl, cell_lt e0, e0, by omega, by omega⟩
    obtain ⟨el, hel⟩ := choose_lt key
    exact ⟨some a, len, m, el, rfl, hcap, hel⟩
/-- An entry that came in. -/
theorem open_entry {v : Value} {d : DataW H} {p : List MemPlace} (hv : Value.okWide Tryd.prog w .any base 32 v) (h : DataW.Trod enc Tryd.prog w 0 spare held 32 v d p)
    (hsz : ∀ n ∈ d.weights Tryd.prog 32, n ≤ reachBytes) :
    ∃ k c n u d', v = ev k c n u d' ∧ k.size ≤ 140737488351232 ∧ Inr .i64 c ∧ Inr .i64 n := by
  have hv2 := hv
  simp only [Value.okWide, Tryd.underlying32] at hv2
  obtain ⟨cs, rfl, _, _⟩ := hv2
  obtain ⟨fuel, hf⟩ := h
  obtain ⟨⟨k, c, n, u, d'⟩, hc, hk, wa, wb⟩ := trod_entry hf
  refine ⟨k, c, n, u, d', ?_, hk hsz, wa, wb⟩
  have : cs = #[.string k, .int .i64 c, .int .i64 n, .string u, .bool d'] := by
    apply Array.toList_inj.1
    exact hc
  rw [this]
end

set_option maxRecDepth 100000 in
theorem turned_lifted (os : Os) (started : os.Started) (H : Type) (enc : TypeId × Value → H) :
    ReturnsInHanded {} Tryd.checked os 10 .any (fun w args => (Rows.mixTurnedSpec.pre enc Tryd.prog Tryd.f10 Rows.mixTurnedRow.domain false w args ∧ laidMetH Tryd.prog laidL w) ∧ sizedMet enc Tryd.prog Tryd.f10 (OpenSpec.ofChange Rows.mixTurnedSpec) false w args)
      (Rows.mixTurnedSpec.post enc Tryd.prog Tryd.f10 false true false false) := by
  refine returnsInHanded_of_change_and (C := Tryd.checked) (X := fun w _ => laidMetH Tryd.prog laidL w) (fun _ _ _ hh h => h.of_heap hh) own started (by kernel_rfl) Tryd.func10
    (ChangeSpec.witness_shaped (enc := enc) (C := Tryd.checked) (os := os) (X := fun w _ => laidMetH Tryd.prog laidL w) false (World.doorLaid Tryd.prog 400 os) #[.slice none 0 0, .slice none 0 0, ev ⟨#[]⟩ 0 0 ⟨#[]⟩ false] 8 rfl (World.shaped_of_RefB (by kernel_rfl) (by kernel_rfl)) (by kernel_rfl) (by kernel_rfl) (by kernel_rfl) (door_met os _)) ?_
  intro W base args ds gs before hval0 hW hcnd hsz0 hL _
  have hval : ∀ (j : Nat) t v, Tryd.f10.params[j]? = some t → args[j]? = some v → Value.okWide Tryd.prog W .any base t v := hval0
  have hsz : (DataW.weightsEach Tryd.prog (Tryd.f10.params.toList ++ Rows.mixTurnedSpec.plain.varTypes Tryd.prog) (ds ++ gs)).all (· ≤ reachBytes) = true := hsz0
  have hW' := hW
  obtain ⟨p, q, hA0, hV, rfl, hfz, hnd⟩ := hW
  have hA : DataW.TrodAll enc Tryd.prog W 0 (fun _ => true) true Tryd.f10.params.toList args.toList ds p := hA0
  rw [Tryd.params10] at hA hval hsz
  obtain ⟨v0, vs0, d0, ds0, p0, q0, hargs, rfl, rfl, h0, r0⟩ := trodAll_cons hA
  obtain ⟨v1, vs1, d1, ds1, p1, q1, rfl, rfl, rfl, h1, r1⟩ := trodAll_cons r0
  obtain ⟨v2, vs2, d2, ds2, p2, q2, rfl, rfl, rfl, h2, r2⟩ := trodAll_cons r1
  obtain ⟨rfl, rfl, rfl⟩ := trodAll_nil r2
  obtain rfl : args = #[v0, v1, v2] := by apply Array.toList_inj.1; exact hargs
  have w0 : ∀ n ∈ d0.weights Tryd.prog 22, n ≤ reachBytes := fun n hn => by
    have := List.all_eq_true.1 hsz n (DataW.weights_mem_each (j := 0) (t := 22) (d := d0) rfl rfl n hn)
    simpa using this
  have w1 : ∀ n ∈ d1.weights Tryd.prog 51, n ≤ reachBytes := fun n hn => by
    have := List.all_eq_true.1 hsz n (DataW.weights_mem_each (j := 1) (t := 51) (d := d1) rfl rfl n hn)
    simpa using this
  have w2 : ∀ n ∈ d2.weights Tryd.prog 32, n ≤ reachBytes := fun n hn => by
    have := List.all_eq_true.1 hsz n (DataW.weights_mem_each (j := 2) (t := 32) (d := d2) rfl rfl n hn)
    simpa using this
  obtain ⟨oa, ca, l, rfl, na, hl, hA1⟩ := open_entries (hval 0 _ v0 rfl rfl) h0 w0
  obtain ⟨ob, np, cb, pk, rfl, hnp, hp⟩ := open_ints (hval 1 _ v1 rfl rfl) h1 w1
  obtain ⟨ek, ec, en, evv, ed, rfl, hek, _, _⟩ := open_entry (hval 2 _ v2 rfl rfl) h2 w2
  refine (turned_walk oa ob ca np cb l pk ek ec en evv ed W (lanes_of_laid hL) hA1 na hl hnp hek hp).mono fun e W' ⟨he, hg⟩ => ?_
  exact ⟨_, he, law_post laidOut (by kernel_rfl) (by kernel_rfl) Tryd.underlying4 rfl hW' rfl hg⟩

theorem turned_holds : Rows.MixTurnedSaid :=
  OpenClaim.holds_of_wide 10 Tryd.f10 rfl rfl rfl rfl rfl rfl rfl ⟨rfl, rfl, rfl, rfl, rfl⟩ rfl rfl rfl rfl rfl (by kernel_rfl) Tryd.func10 (by kernel_rfl)
    (of_decide_eq_true (by kernel_rfl)) (by unfold Func.isWrapper; first | (rw [if_pos (by decide +kernel)]; kernel_rfl) | (rw [if_neg (by decide +kernel)]; exact ⟨rfl, rfl⟩))
    (fun os started H enc _ => turned_lifted os started H enc)

theorem turned_card : Rows.MixTurnedCardSaid :=
  Claim7.holds_tied_plain_at .later [] [.data] true (true, "67654b4c692b679d4de46bb3538cc166f90241f666e4c76ce4329fa71c89c3d9") false
    turned_holds (fun _ h => by cases h) (by kernel_rfl) (fun _ h => by cases h) mixTurned_row_tie rfl ⟨rfl, rfl⟩ (by kernel_rfl) rfl
    (fun f fn hf hfn => by
      obtain rfl : f = 10 := Option.some.inj ((show Tryd.prog.funcNamed "tideline/tidelinelaw04.MixTurned" = some 10 by kernel_rfl).symm.trans hf) |>.symm
      obtain rfl : fn = Tryd.f10 := (Option.some.inj (Tryd.func10.symm.trans hfn)).symm
      exact ⟨by kernel_rfl, fun j t ht => by
        rw [Tryd.params10] at ht
        have hm : t ∈ [22, 51, 32] := by simpa using Array.mem_of_getElem? ht
        have hall : ([22, 51, 32].all fun u => !Tryd.prog.wantsStandIn u) = true := by kernel_rfl
        exact (show Tryd.prog.wantsStandIn t = false by simpa using List.all_eq_true.1 hall t hm)⟩)
    (by kernel_rfl)
#print axioms turned_card
end Go.Proofs.YtjeaobknojmbpaaDoor
