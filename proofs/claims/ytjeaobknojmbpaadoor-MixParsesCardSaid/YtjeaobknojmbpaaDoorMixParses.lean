/-
  MixParses: of any text Parse tells what the reference tells; what it takes is written so.
-/
import Derived.Test.YtjeaobknojmbpaaDoorShown
import Derived.Test.YtjeaobknojmbpaaDoorRparse
import Derived.Test.YtjeaobknojmbpaaDoorLaid
import Derived.Test.YtjeaobknojmbpaaDoorCards
import Derived.Test.YtjeaobknojmbpaaDoorTie
import Derived.SizedLaws
import Derived.SevenTiedAt
import Derived.ChangeMaps5
namespace Go.Proofs.YtjeaobknojmbpaaDoor
open Go.ChangeShapes Go.WideShapes Go.ChangeAt Go.RowKit Go.Deep
set_option linter.unusedVariables false
set_option linter.unusedSimpArgs false

def pairs : List UInt8 → List UInt8
  | a :: b :: r => UInt8.ofNat (nibV a.toNat * 16 + nibV b.toNat) :: pairs r
  | _ => []
theorem pairs_length : ∀ l : List UInt8, (pairs l).length = l.length / 2
  | [] => rfl
  | [_] => by simp [pairs]
  | a :: b :: r => by rw [pairs, List.length_cons, pairs_length r, List.length_cons, List.length_cons]; omega
theorem unhex_some : ∀ l : List UInt8, l.length % 2 = 0 → allNib l = true → unhexL l = some (pairs l)
  | [], _, _ => rfl
  | [_], h, _ => by simp at h
  | a :: b :: r, h, hn => by
    simp only [allNib, List.all_cons, Bool.and_eq_true] at hn
    have := unhex_some r (by simp at h; omega) (by simpa [allNib] using hn.2.2)
    rw [unhexL, this, hn.1, hn.2.1]
    rfl
theorem unhex_none : ∀ l : List UInt8, allNib l = false → unhexL l = none
  | [], h => by simp [allNib] at h
  | [_], _ => rfl
  | a :: b :: r, hn => by
    rw [unhexL]
    by_cases h1 : (nibB a.toNat && nibB b.toNat) = true
    · rw [if_pos h1]
      have h2 := h1
      simp only [Bool.and_eq_true] at h2
      have : allNib r = false := by
        simp only [allNib, List.all_cons, h2.1, h2.2, Bool.true_and] at hn
        exact hn
      rw [unhex_none r this]; rfl
    · rw [if_neg h1]
theorem pairs_take : ∀ (k : Nat) (l : List UInt8), pairs (l.take (2 * k)) = (pairs l).take k
  | 0, l => by simp [pairs]
  | k + 1, [] => by simp [pairs]
  | k + 1, [a] => by rw [show 2 * (k + 1) = 2 * k + 1 + 1 by omega]; simp [pairs]
  | k + 1, a :: b :: r => by
    rw [show 2 * (k + 1) = 2 * k + 1 + 1 by omega, List.take_succ_cons, List.take_succ_cons, pairs, pairs, List.take_succ_cons, pairs_take k r]
theorem pairs_drop : ∀ (k : Nat) (l : List UInt8), pairs (l.drop (2 * k)) = (pairs l).drop k
  | 0, l => by simp
  | k + 1, [] => by simp [pairs]
  | k + 1, [a] => by rw [show 2 * (k + 1) = 2 * k + 1 + 1 by omega]; simp [pairs]
  | k + 1, a :: b :: r => by
    rw [show 2 * (k + 1) = 2 * k + 1 + 1 by omega, List.drop_succ_cons, List.drop_succ_cons, pairs, List.drop_succ_cons, pairs_drop k r]
theorem pairs_val : ∀ (l : List UInt8) (v : Nat), l.length % 2 = 0 → l.foldl (fun v c => v * 16 + nibV c.toNat) v = (pairs l).foldl (fun v b => v * 256 + b.toNat) v
  | [], v, _ => rfl
  | [_], _, h => by simp at h
  | a :: b :: r, v, h => by
    have ha := nibV_lt a.toNat
    have hb := nibV_lt b.toNat
    rw [List.foldl_cons, List.foldl_cons, pairs, List.foldl_cons, pairs_val r _ (by simp at h; omega)]
    congr 1
    have : (UInt8.ofNat (nibV a.toNat * 16 + nibV b.toNat)).toNat = nibV a.toNat * 16 + nibV b.toNat := by simp; omega
    rw [this]; omega
theorem hexV_pairs {l : List UInt8} (h : l.length % 2 = 0) : hexV l = beV (pairs l) := pairs_val l 0 h
theorem hd_nib' : ∀ n, n < 256 → nibB n = true → (hd (nibV n)).toNat = n := by decide +kernel
theorem hd_nib (c : UInt8) (h : nibB c.toNat = true) : hd (nibV c.toNat) = c := by
  have := hd_nib' c.toNat c.toNat_lt h
  exact UInt8.toNat_inj.1 this
theorem hex_pairs : ∀ l : List UInt8, l.length % 2 = 0 → allNib l = true → hexL (pairs l) = l
  | [], _, _ => rfl
  | [_], h, _ => by simp at h
  | a :: b :: r, h, hn => by
    simp only [allNib, List.all_cons, Bool.and_eq_true] at hn
    have ha := nibV_lt a.toNat
    have hb := nibV_lt b.toNat
    have e : (UInt8.ofNat (nibV a.toNat * 16 + nibV b.toNat)).toNat = nibV a.toNat * 16 + nibV b.toNat := by simp; omega
    rw [pairs, hexL, e, show (nibV a.toNat * 16 + nibV b.toNat) / 16 = nibV a.toNat by omega, show (nibV a.toNat * 16 + nibV b.toNat) % 16 = nibV b.toNat by omega, hd_nib a hn.1, hd_nib b hn.2.1,
      hex_pairs r (by simp at h; omega) (by simpa [allNib] using hn.2.2)]
theorem be_beV (l : List UInt8) (h : l.length = 8) : be (beV l : Int) 8 = l := by
  match l, h with
  | [b0, b1, b2, b3, b4, b5, b6, b7], _ =>
    have e1 : ∀ n : Nat, be (n : Int) 8 = [byteAt n 0, byteAt n 1, byteAt n 2, byteAt n 3, byteAt n 4, byteAt n 5, byteAt n 6, byteAt n 7] := fun _ => rfl
    rw [e1]
    have g0 := b0.toNat_lt; have g1 := b1.toNat_lt; have g2 := b2.toNat_lt; have g3 := b3.toNat_lt
    have g4 := b4.toNat_lt; have g5 := b5.toNat_lt; have g6 := b6.toNat_lt; have g7 := b7.toNat_lt
    have key : ∀ j (b : UInt8), beV [b0, b1, b2, b3, b4, b5, b6, b7] / 2 ^ (8 * (7 - j)) % 256 = b.toNat → byteAt (beV [b0, b1, b2, b3, b4, b5, b6, b7] : Int) j = b := fun j b h => UInt8.toNat_inj.1 (by rw [byteAt_nat]; exact h)
    have hv : beV [b0, b1, b2, b3, b4, b5, b6, b7] = ((((((b0.toNat * 256 + b1.toNat) * 256 + b2.toNat) * 256 + b3.toNat) * 256 + b4.toNat) * 256 + b5.toNat) * 256 + b6.toNat) * 256 + b7.toNat := by simp [beV]
    rw [key 0 b0, key 1 b1, key 2 b2, key 3 b3, key 4 b4, key 5 b5, key 6 b6, key 7 b7]
    all_goals (rw [hv]; simp only [Nat.reduceMul, Nat.reduceSub, Nat.reducePow, Nat.reduceAdd]; omega)

theorem par_cases (l : List UInt8) : (∃ A B : Nat, parV l = .tuple #[sv A B, .int .i64 0] ∧ rparV l = .tuple #[sv A B, .int .i64 0] ∧ printL (A : Int) (B : Int) = l) ∨
    (parV l = .tuple #[sv 0 0, .int .i64 23] ∧ rparV l = .tuple #[sv 0 0, .int .i64 23]) := by
  by_cases h32 : l.length = 32
  · cases hn : allNib l with
    | true =>
      left
      have hu := unhex_some l (by omega) hn
      have hpl : (pairs l).length = 16 := by rw [pairs_length]; omega
      have e1 : hexV (l.take 16) = beV ((pairs l).take 8) := by rw [hexV_pairs (by rw [List.length_take]; omega), show (16 : Nat) = 2 * 8 by rfl, pairs_take]
      have e2 : hexV (l.drop 16) = beV ((pairs l).drop 8) := by rw [hexV_pairs (by rw [List.length_drop]; omega), show (16 : Nat) = 2 * 8 by rfl, pairs_drop]
      refine ⟨beV ((pairs l).take 8), beV ((pairs l).drop 8), ?_, ?_, ?_⟩
      · unfold parV; rw [hu]; simp only; rw [if_pos hpl]
      · unfold rparV; rw [if_pos ⟨h32, hn⟩, e1, e2]
      · unfold printL
        rw [be_beV _ (by rw [List.length_take]; omega), be_beV _ (by rw [List.length_drop]; omega), List.take_append_drop, hex_pairs l (by omega) hn]
    | false =>
      right
      refine ⟨?_, ?_⟩
      · unfold parV; rw [unhex_none l hn]
      · unfold rparV; rw [if_neg (by rw [hn]; simp)]
  · right
    refine ⟨?_, ?_⟩
    · unfold parV
      cases hu : unhexL l with
      | none => rfl
      | some bs =>
        have hev : l.length % 2 = 0 := by
          by_cases ho : l.length % 2 = 1
          · rw [unhexL_odd l ho] at hu; cases hu
          · omega
        cases hn : allNib l with
        | true =>
          rw [unhex_some l hev hn] at hu
          have := congrArg List.length (Option.some.inj hu)
          rw [pairs_length] at this
          simp only
          rw [if_neg (by omega)]
        | false => rw [unhex_none l hn] at hu; cases hu
    · unfold rparV; rw [if_neg (by omega)]

set_option maxHeartbeats 4000000 in
theorem parses_walk (s : ByteArray) (w : World) (hL : Lanes w) (hs : s.size ≤ 140737488351232) :
    Calls Tryd.prog 7 #[.string s] w fun r w' => r = .returned (.bool true) ∧ Below w.heap.size w w' := by
  have hL0 := hL.lt
  have HL : Hid (Lanes w) := hL
  clear hL
  go_enter Tryd.func7, Tryd.ntmps7
  go_wp2_with fail
  refine (shown_any _ HL.out).mono ?_
  rintro e w1 ⟨rfl, hb⟩
  have hz := hb.size
  go_wp2_with fail
  refine (parse_any s _ hs).mono ?_
  rintro e w2 ⟨rfl, hb2⟩
  replace hb := below_back hb hz hb2
  clear hb2 hz
  have hz := hb.size
  rcases par_cases s.data.toList with ⟨A, B, h1, h2, h3⟩ | ⟨h1, h2⟩
  · rw [h1]
    have H2 : Hid (rparV s.data.toList = _) := h2
    have H3 : Hid ((⟨(printL (A : Int) (B : Int)).toArray⟩ : ByteArray) = s) := by unfold Hid; rw [h3]
    clear h1 h2 h3
    go_wp2_with fail
    have g0 : (w2.alloc (.cells #[.int .u64 A, .int .u64 B] 26 (0, 0))).heap[w2.heap.size]? = some (.cells #[.int .u64 A, .int .u64 B] 26 (0, 0)) := by (repeat (first | (with_reducible assumption) | (with_reducible exact Below.refl _ _) | (with_reducible refine heap_drew ?_) | (focus ((with_reducible refine heap_new ?_) ; simp ; done)) | (with_reducible apply heap_set_to) | (focus ((with_reducible refine heap_set_ne ?_ ?_ _) ; rotate_left ; (focus (first | omega | (simp ; done) | (simp ; omega))))) | (with_reducible refine heap_old ?_) | (with_reducible refine Below.drew ?_) | (with_reducible refine below_set ?_ _ _) | (focus ((with_reducible refine Below.setCell ?_ ?_ _) ; rotate_left ; (focus (first | omega | (simp ; done) | (simp ; omega))))) | (focus ((with_reducible refine Below.alloc ?_ ?_ _) ; rotate_left ; (focus (first | omega | (simp ; done) | (simp ; omega))))) | (with_reducible rfl) | (focus (simp ; done))))
    refine (rparse_any s _).mono ?_
    rintro e w3 ⟨rfl, hb3⟩
    rw [H2.out]
    replace g0 := blk_below g0 hb3
    replace hb := below_back (hb.alloc hz _) (by simp; omega) hb3
    clear hb3 hz
    have hz := hb.size
    have q0 := blk2 g0
    have hlt := blk_lt g0
    go_wp2_with fail
    refine (print_any A B _ (by omega) (by omega)).mono ?_
    rintro e w4 ⟨rfl, hb4⟩
    rw [H3.out]
    replace hb := below_back (hb.alloc hz _) (by simp; omega) hb4
    go_wp2_with fail
    go_ret
    exact ⟨rfl, hb⟩
  · rw [h1]
    have H2 : Hid (rparV s.data.toList = _) := h2
    clear h1 h2
    go_wp2_with fail
    have g0 : (w2.alloc (.cells #[.int .u64 0, .int .u64 0] 26 (0, 0))).heap[w2.heap.size]? = some (.cells #[.int .u64 0, .int .u64 0] 26 (0, 0)) := by (repeat (first | (with_reducible assumption) | (with_reducible exact Below.refl _ _) | (with_reducible refine heap_drew ?_) | (focus ((with_reducible refine heap_new ?_) ; simp ; done)) | (with_reducible apply heap_set_to) | (focus ((with_reducible refine heap_set_ne ?_ ?_ _) ; rotate_left ; (focus (first | omega | (simp ; done) | (simp ; omega))))) | (with_reducible refine heap_old ?_) | (with_reducible refine Below.drew ?_) | (with_reducible refine below_set ?_ _ _) | (focus ((with_reducible refine Below.setCell ?_ ?_ _) ; rotate_left ; (focus (first | omega | (simp ; done) | (simp ; omega))))) | (focus ((with_reducible refine Below.alloc ?_ ?_ _) ; rotate_left ; (focus (first | omega | (simp ; done) | (simp ; omega))))) | (with_reducible rfl) | (focus (simp ; done))))
    refine (rparse_any s _).mono ?_
    rintro e w3 ⟨rfl, hb3⟩
    rw [H2.out]
    replace g0 := blk_below g0 hb3
    replace hb := below_back (hb.alloc hz _) (by simp; omega) hb3
    clear hb3 hz
    have hz := hb.size
    have q0 := blk2 g0
    have hlt := blk_lt g0
    go_wp2_with fail
    go_ret
    exact ⟨rfl, hb.alloc hz _⟩

set_option maxRecDepth 100000 in
theorem parses_lifted (os : Os) (started : os.Started) (H : Type) (enc : TypeId × Value → H) :
    ReturnsInHanded {} Tryd.checked os 7 .any (fun w args => (Rows.mixParsesSpec.pre enc Tryd.prog Tryd.f7 Rows.mixParsesRow.domain false w args ∧ laidMetH Tryd.prog laidL w) ∧ sizedMet enc Tryd.prog Tryd.f7 (OpenSpec.ofChange Rows.mixParsesSpec) false w args)
      (Rows.mixParsesSpec.post enc Tryd.prog Tryd.f7 false true false false) := by
  refine returnsInHanded_of_change_and (C := Tryd.checked) (X := fun w _ => laidMetH Tryd.prog laidL w) (fun _ _ _ hh h => h.of_heap hh) own started (by kernel_rfl) Tryd.func7
    (ChangeSpec.witness_shaped (enc := enc) (C := Tryd.checked) (os := os) (X := fun w _ => laidMetH Tryd.prog laidL w) false (World.doorLaid Tryd.prog 400 os) #[.string ⟨#[]⟩] 8 rfl (World.shaped_of_RefB (by kernel_rfl) (by kernel_rfl)) (by kernel_rfl) (by kernel_rfl) (by kernel_rfl) (door_met os _)) ?_
  intro W base args ds gs before hval0 hW hcnd hsz0 hL _
  have hval : ∀ (j : Nat) t v, Tryd.f7.params[j]? = some t → args[j]? = some v → Value.okWide Tryd.prog W .any base t v := hval0
  have hsz : (DataW.weightsEach Tryd.prog (Tryd.f7.params.toList ++ Rows.mixParsesSpec.plain.varTypes Tryd.prog) (ds ++ gs)).all (· ≤ reachBytes) = true := hsz0
  have hW' := hW
  obtain ⟨p, q, hA0, hV, rfl, hfz, hnd⟩ := hW
  have hA : DataW.TrodAll enc Tryd.prog W 0 (fun _ => true) true Tryd.f7.params.toList args.toList ds p := hA0
  rw [Tryd.params7] at hA hval hsz
  obtain ⟨v0, vs0, d0, ds0, p0, q0, hargs, rfl, rfl, h0, r0⟩ := trodAll_cons hA
  obtain ⟨rfl, rfl, rfl⟩ := trodAll_nil r0
  obtain rfl : args = #[v0] := by apply Array.toList_inj.1; exact hargs
  obtain ⟨s, rfl, rfl, _, _⟩ := Go.ChangeMaps.open_string Tryd.underlying9 (hval 0 _ v0 rfl rfl) h0
  have hs : s.size ≤ 140737488351232 := by
    have := sized_string hsz (j := 0) (t := 9) (bytes := s.data.toList) rfl rfl
    simpa [reachBytes, len_list] using this
  refine (parses_walk s W (lanes_of_laid hL) hs).mono fun e W' ⟨he, hg⟩ => ?_
  exact ⟨_, he, law_post laidOut (by kernel_rfl) (by kernel_rfl) Tryd.underlying4 rfl hW' rfl hg⟩

theorem parses_holds : Rows.MixParsesSaid :=
  OpenClaim.holds_of_wide 7 Tryd.f7 rfl rfl rfl rfl rfl rfl rfl ⟨rfl, rfl, rfl, rfl, rfl⟩ rfl rfl rfl rfl rfl (by kernel_rfl) Tryd.func7 (by kernel_rfl)
    (of_decide_eq_true (by kernel_rfl)) (by unfold Func.isWrapper; first | (rw [if_pos (by decide +kernel)]; kernel_rfl) | (rw [if_neg (by decide +kernel)]; exact ⟨rfl, rfl⟩))
    (fun os started H enc _ => parses_lifted os started H enc)

theorem parses_card : Rows.MixParsesCardSaid :=
  Claim7.holds_tied_plain_at .later [] [.data] true (true, "67654b4c692b679d4de46bb3538cc166f90241f666e4c76ce4329fa71c89c3d9") false
    parses_holds (fun _ h => by cases h) (by kernel_rfl) (fun _ h => by cases h) mixParses_row_tie rfl ⟨rfl, rfl⟩ (by kernel_rfl) rfl
    (fun f fn hf hfn => by
      obtain rfl : f = 7 := Option.some.inj ((show Tryd.prog.funcNamed "tideline/tidelinelaw04.MixParses" = some 7 by kernel_rfl).symm.trans hf) |>.symm
      obtain rfl : fn = Tryd.f7 := (Option.some.inj (Tryd.func7.symm.trans hfn)).symm
      exact ⟨by kernel_rfl, fun j t ht => by
        rw [Tryd.params7] at ht
        have hm : t ∈ [9] := by simpa using Array.mem_of_getElem? ht
        have hall : ([9].all fun u => !Tryd.prog.wantsStandIn u) = true := by kernel_rfl
        exact (show Tryd.prog.wantsStandIn t = false by simpa using List.all_eq_true.1 hall t hm)⟩)
    (by kernel_rfl)
#print axioms parses_card
end Go.Proofs.YtjeaobknojmbpaaDoor
