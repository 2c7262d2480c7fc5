/-
  BagKeeps: nothing comes that was not sent, nothing comes twice, nothing is away but what was taken, dropped, or found no room; numbers rise.
-/
import Derived.Test.YtepilaejfepicaaBNew
import Derived.Test.YtepilaejfepicaaBOps
namespace Go.Proofs.Ytepilaejfepicaa
open Go.ChangeShapes Go.WideShapes Go.ChangeAt Go.RowKit Go.Deep
set_option linter.unusedVariables false
set_option linter.unusedSimpArgs false

theorem info_snt : (Try.prog.info? 37).map (fun i => (i.zero, i.size, i.bytes)) = some (some (.agg #[.int .i64 0, .int .i64 0]), 2, 16) := by kernel_rfl
/-- A frame that was sent: its number, and which step sent it. -/
abbrev Snt := Int × Nat
def sflat : List Snt → List Value
  | [] => []
  | e :: r => [.int .i64 e.1, .int .i64 (e.2 : Int)] ++ sflat r
theorem sflat_length : ∀ l : List Snt, (sflat l).length = l.length * 2
  | [] => rfl
  | e :: r => by rw [sflat, List.length_append, sflat_length r, List.length_cons]; simp; omega
theorem sflat_append : ∀ l m : List Snt, sflat (l ++ m) = sflat l ++ sflat m
  | [], m => rfl
  | e :: r, m => by rw [List.cons_append, sflat, sflat, sflat_append r m, List.append_assoc]
theorem sflat_get : ∀ (l : List Snt) (k : Nat) (h : k < l.length), (sflat l)[k * 2]? = some (.int .i64 l[k].1) ∧ (sflat l)[k * 2 + 1]? = some (.int .i64 (l[k].2 : Int))
  | e :: l, 0, _ => by simp [sflat]
  | e :: l, k + 1, h => by
    have ih := sflat_get l k (by simpa using h)
    have e1 : (k + 1) * 2 = k * 2 + 2 := by omega
    rw [sflat, e1]
    simpa using ih
theorem sflat_one (l : List Snt) : ∀ u ∈ sflat l, u.oneCell' = true := by
  induction l with
  | nil => intro u h; cases h
  | cons e r ih =>
    intro u h
    rw [sflat] at h
    rcases List.mem_append.1 h with h | h
    · simp only [List.mem_cons, List.not_mem_nil, or_false] at h
      rcases h with rfl | rfl <;> rfl
    · exact ih u h
theorem sflat_take : ∀ (l : List Snt) (n : Nat), (sflat l).take (n * 2) = sflat (l.take n)
  | [], n => by simp [sflat]
  | a :: l, 0 => by simp [sflat]
  | a :: l, n + 1 => by
    rw [List.take_succ_cons, sflat, sflat, ← sflat_take l n, show (n + 1) * 2 = n * 2 + 2 by omega]
    rfl
theorem sflat_drop : ∀ (l : List Snt) (n : Nat), (sflat l).drop (n * 2) = sflat (l.drop n)
  | [], n => by simp [sflat]
  | a :: l, 0 => by simp [sflat]
  | a :: l, n + 1 => by
    rw [List.drop_succ_cons, sflat, ← sflat_drop l n, show (n + 1) * 2 = n * 2 + 2 by omega]
    rfl
def Pk.key (p : Pk) : Int × Int × ByteArray := (p.frm, p.to, p.s)
def OpE.key (p : OpE) : Int × Int × ByteArray := (p.frm, p.to, p.s)
theorem row_any {w : World} {B : Nat} {e : TypeId} {size : Nat} {v : Value} {n : Nat} {xs : List Value} (h : w.ownsRow B e size v n xs) : ∃ oa cap, v = .slice oa n cap ∧ n ≤ cap ∧ cap ≤ maxLen := by
  rcases h.2 with ⟨rfl, h0⟩ | ⟨g, cap, cur, rfl, hb, hg, hnc, hcm, hcs, ht⟩
  · exact ⟨none, 0, by rw [h0], by omega, Nat.zero_le _⟩
  · exact ⟨some ⟨g, 0, none⟩, cap, rfl, hnc, hcm⟩
theorem row_apart {w : World} {B b n size : Nat} {e : TypeId} {v vb : Value} {xs : List Value} {r nb lb : Int} {L : List Pk} (h : w.ownsRow B e size v n xs) (hB : BagAt w B b vb r nb lb L) (h1 : e ≠ 60) (h2 : e ≠ 39) : ∀ g, v.ownBlock = some g → ¬ mine b vb g := fun g hg hm => by
  rcases hm with rfl | hm
  · exact own_ne h hB.2.1 h1 hg
  · rcases hB.2.2.1.2 with ⟨rfl, _⟩ | ⟨g', cap, cur, rfl, _, hh, _⟩
    · cases hm
    · simp only [Value.ownBlock, Option.some.injEq] at hm
      subst hm
      exact own_ne h hh h2 hg
theorem BagAt.not_of {w : World} {B b : Nat} {vs : Value} {room num lost : Int} {L : List Pk} (h : BagAt w B b vs room num lost L) {g : Nat} {cs : Array Value} {t : TypeId} {fr : Nat × Nat} (hg : w.heap[g]? = some (.cells cs t fr)) (h1 : t ≠ 60) (h2 : 39 ≠ t) : ¬ mine b vs g := fun hm => by
  rcases hm with rfl | hm
  · rw [h.2.1] at hg
    simp only [Option.some.injEq, Obj.cells.injEq] at hg
    exact h1 hg.2.1.symm
  · exact own_ne h.2.2.1 hg h2 hm

/-- The bag, and the row of what was sent. -/
def Duo (w : World) (B b : Nat) (vb vi : Value) (room num lost : Int) (L : List Pk) (S : List Snt) : Prop :=
  BagAt w B b vb room num lost L ∧ w.ownsRow B 37 2 vi S.length (sflat S)
theorem Duo.below {w w' : World} {B b : Nat} {vb vi : Value} {room num lost : Int} {L : List Pk} {S : List Snt} (h : Duo w B b vb vi room num lost L S) (hb : Below w.heap.size w w') : Duo w' B b vb vi room num lost L S := ⟨h.1.below hb, own_below h.2 hb⟩
theorem Duo.stepB {w w' : World} {B b : Nat} {vb vb' vi : Value} {room num lost num' lost' : Int} {L L' : List Pk} {S : List Snt} (h : Duo w B b vb vi room num lost L S) (hB : BagAt w' B b vb' room num' lost' L') (hk : Keep (mine b vb) w w') : Duo w' B b vb' vi room num' lost' L' S :=
  ⟨hB, own_keep h.2 hk (row_apart h.2 h.1 (by decide) (by decide))⟩
theorem Duo.stepS {w w' : World} {B b : Nat} {vb vi vi' : Value} {room num lost : Int} {L : List Pk} {S S' : List Snt} (h : Duo w B b vb vi room num lost L S) (hS : w'.ownsRow B 37 2 vi' S'.length (sflat S')) (hg : w.grownBy w' vi.ownBlock) : Duo w' B b vb vi' room num lost L S' := by
  have K := Keep.grown hg
  exact ⟨h.1.keep K (fun e => row_apart h.2 h.1 (by decide) (by decide) b e (Or.inl rfl)) (fun g hg e => row_apart h.2 h.1 (by decide) (by decide) g e (Or.inr hg)) (fun g cs hg => own_ne h.2 hg (by decide)), hS⟩

def Match (l : List OpE) (L : List Pk) (S : List Snt) : Prop := L.map (fun p => (p.num, p.key)) = S.map (fun s => (s.1, (l.getD s.2 default).key)) ∧ ∀ s ∈ S, s.2 < l.length
theorem Match.length {l : List OpE} {L : List Pk} {S : List Snt} (h : Match l L S) : L.length = S.length := by simpa using congrArg List.length h.1
theorem Match.push {l : List OpE} {L : List Pk} {S : List Snt} (h : Match l L S) (p : Pk) (n : Nat) (hn : n < l.length) (hk : p.key = l[n].key) : Match l (L ++ [p]) (S ++ [(p.num, n)]) := by
  refine ⟨?_, fun s hs => ?_⟩
  · rw [List.map_append, List.map_append, h.1]
    simp only [List.map_cons, List.map_nil, List.getD_eq_getElem?_getD, List.getElem?_eq_getElem hn, Option.getD_some, hk]
  · rcases List.mem_append.1 hs with hs | hs
    · exact h.2 s hs
    · obtain rfl : s = (p.num, n) := by simpa using hs
      exact hn
theorem Match.drop {l : List OpE} {L : List Pk} {S : List Snt} (h : Match l L S) (i : Nat) : Match l (L.take i ++ L.drop (i + 1)) (S.take i ++ S.drop (i + 1)) := by
  refine ⟨?_, fun s hs => ?_⟩
  · rw [List.map_append, List.map_append, List.map_take, List.map_drop, List.map_take, List.map_drop, h.1]
  · rcases List.mem_append.1 hs with hs | hs
    · exact h.2 s (List.mem_of_mem_take hs)
    · exact h.2 s (List.mem_of_mem_drop hs)
theorem Match.get {l : List OpE} {L : List Pk} {S : List Snt} (h : Match l L S) (i : Nat) (hi : i < L.length) (hi2 : i < S.length) : ∃ hn : S[i].2 < l.length, L[i].num = S[i].1 ∧ L[i].frm = l[S[i].2].frm ∧ L[i].to = l[S[i].2].to ∧ L[i].s = l[S[i].2].s := by
  have hn := h.2 S[i] (List.getElem_mem hi2)
  have e := congrArg (fun x => x[i]?) h.1
  simp only [List.getElem?_map, List.getElem?_eq_getElem hi, List.getElem?_eq_getElem hi2, Option.map_some, Option.some.injEq, List.getD_eq_getElem?_getD, List.getElem?_eq_getElem hn, Option.getD_some, Prod.mk.injEq] at e
  exact ⟨hn, e.1, congrArg Prod.fst e.2, congrArg (fun x => x.2.1) e.2, congrArg (fun x => x.2.2) e.2⟩

/-- What the loop keeps. -/
def KRel (l : List OpE) (wr : World) (B b : Nat) (room : Int) (m : Nat) (vb vi : Value) (num lost : Int) (L : List Pk) (S : List Snt) : Prop :=
  Duo wr B b vb vi room num lost L S ∧ Match l L S ∧ (∀ p ∈ L, p.Ok) ∧ (L.length : Int) ≤ room ∧ (0 ≤ num ∧ num ≤ m) ∧ (0 ≤ lost ∧ lost ≤ m)

theorem own_snt {w : World} {B : Nat} {oi : Option Addr} {n cap : Nat} {S : List Snt} (h : w.ownsRow B 37 2 (.slice oi n cap) n (sflat S)) (k : Nat) (hk : k < S.length) : ∃ g, oi = some ⟨g, 0, none⟩ ∧
    w.cell? ⟨g, k * 2, none⟩ = some (.int .i64 S[k].1) ∧ w.cell? ⟨g, k * 2 + 1, none⟩ = some (.int .i64 (S[k].2 : Int)) := by
  have hn : S.length = n := by have := h.1; rw [sflat_length] at this; omega
  rcases h.2 with ⟨_, h0⟩ | ⟨g, c, cur, hv, _, _⟩
  · omega
  · simp only [Value.slice.injEq] at hv
    obtain ⟨rfl, _, rfl⟩ := hv
    have e := sflat_get S k hk
    exact ⟨g, rfl, by rw [h.cellAt (k * 2) (by omega), e.1], by rw [h.cellAt (k * 2 + 1) (by omega), e.2]⟩
theorem snt_news {w : World} {g : Nat} {e : Snt} (h : w.heap[g]? = some (.cells #[.int .i64 e.1, .int .i64 (e.2 : Int)] 37 (0, 0))) : ∀ a, (some ⟨g, 0, none⟩ : Option Addr) = some a → ∀ j u, (sflat [e])[j]? = some u → w.cell? (a.add j) = some u := fun a ha j u hj => by
  obtain rfl : (⟨g, 0, none⟩ : Addr) = a := Option.some.inj ha
  rw [add_none, blk_cell h, Nat.zero_add]
  have e2 : sflat [e] = [.int .i64 e.1, .int .i64 (e.2 : Int)] := rfl
  rw [e2] at hj
  rw [← hj]
  simp

/-- A block of packets that is not the bag's is written. -/
theorem Duo.other {w w' : World} {B b kp : Nat} {vb vi : Value} {room num lost : Int} {L : List Pk} {S : List Snt} (h : Duo w B b vb vi room num lost L S) {cs : Array Value} {fr : Nat × Nat} (hg : w.heap[kp]? = some (.cells cs 39 fr)) (hb : b ≠ kp) (hr : ∀ g, vb.ownBlock = some g → g ≠ kp)
    (hk : Keep (fun k => k = kp) w w') : Duo w' B b vb vi room num lost L S :=
  ⟨h.1.keep hk hb hr (fun g cs hu e => by
    subst e
    rw [hg] at hu
    simp at hu), own_keep h.2 hk (fun g hv e => by
    subst e
    exact own_ne h.2 hg (by decide) hv)⟩
/-- The two parts of the row about the place that is left out. -/
theorem snt_take {w : World} {g : Nat} {S : List Snt} (h : ∀ j, j < S.length * 2 → w.cell? ⟨g, j, none⟩ = (sflat S)[j]?) (k : Nat) (hk : k < S.length) : ∀ a, (some ⟨g, 0, none⟩ : Option Addr) = some a → ∀ j u, (sflat (S.take k))[j]? = some u → w.cell? (a.add j) = some u := fun a ha j u hj => by
  obtain rfl : (⟨g, 0, none⟩ : Addr) = a := Option.some.inj ha
  have hjl := (List.getElem?_eq_some_iff.1 hj).1
  rw [sflat_length, List.length_take] at hjl
  rw [add_none, Nat.zero_add, h j (by omega), ← hj, ← sflat_take, List.getElem?_take, if_pos (by omega)]
theorem snt_drop {w : World} {g : Nat} {S : List Snt} (h : ∀ j, j < S.length * 2 → w.cell? ⟨g, j, none⟩ = (sflat S)[j]?) (k : Nat) : ∀ a, (some ⟨g, (k + 1) * 2, none⟩ : Option Addr) = some a → ∀ j u, (sflat (S.drop (k + 1)))[j]? = some u → w.cell? (a.add j) = some u := fun a ha j u hj => by
  obtain rfl : (⟨g, (k + 1) * 2, none⟩ : Addr) = a := Option.some.inj ha
  have hjl := (List.getElem?_eq_some_iff.1 hj).1
  rw [sflat_length, List.length_drop] at hjl
  rw [add_none, h _ (by omega), ← hj, ← sflat_drop, List.getElem?_drop]
theorem snt_drop0 {w : World} {S : List Snt} (k : Nat) (hk : S.length = k + 1) (x : Addr) : ∀ a, (some x : Option Addr) = some a → ∀ j u, (sflat (S.drop (k + 1)))[j]? = some u → w.cell? (a.add j) = some u := fun a ha j u hj => by
  have hjl := (List.getElem?_eq_some_iff.1 hj).1
  rw [sflat_length, List.length_drop] at hjl
  omega

set_option maxRecDepth 100000 in
set_option maxHeartbeats 16000000 in
theorem keeps_walk (room0 : Int) (hr0 : -9223372036854775808 ≤ room0 ∧ room0 ≤ 9223372036854775807) (oa : Option Addr) (ca : Nat) (l : List OpE) (w : World) (hl : l.length * 56 ≤ 140737488351232) (hO : OpsAt w oa l) :
    Calls Try.prog 3 #[.int .i64 room0, .slice oa l.length ca] w fun e w' => e = .returned (.bool true) ∧ Below w.heap.size w w' := by
  have HO : Hid (OpsAt w oa l) := hO
  clear hO
  obtain ⟨i0, hi, hz0, hz1, hz2⟩ := info_parts info_snt
  have HI : Hid (_ ∧ _ ∧ _ ∧ _) := ⟨hi, hz0, hz1, hz2⟩
  clear hi hz0 hz1 hz2
  have hm1 : 0 ≤ room0 % 512 := Int.emod_nonneg _ (by omega)
  have hm2 : room0 % 512 < 512 := Int.emod_lt_of_pos _ (by omega)
  have CM := fun w' => among_any room0 512 hr0 (by omega) (by omega) w'
  obtain ⟨q, hq⟩ : ∃ q, q = room0 % 512 := ⟨_, rfl⟩
  rw [← hq] at CM hm1 hm2
  have HM : Hid (∀ w', Calls Try.prog 9 #[.int .i64 room0, .int .i64 512] w' fun e w'' => e = .returned (.int .i64 q) ∧ w'' = w') := CM
  clear CM hq
  go_enter Try.func3, Try.ntmps3
  go_wp2_with fail
  refine (shown_any w).mono ?_
  rintro e w1 ⟨rfl, hb1⟩
  have hz1 := hb1.size
  go_wp2_with fail
  refine (HM.out w1).mono ?_
  rintro e w1' ⟨rfl, rfl⟩
  go_wp2_with fail
  refine (new_ok (1 + q) w.heap.size w1' ⟨by omega, by omega⟩ hz1).mono ?_
  rintro e w2 ⟨b, rfl, hbw, hB2, hb2⟩
  have hb2w := below_back hb1 hz1 hb2
  have HQ : Hid (KRel l w2 w.heap.size b (1 + q) 0 (.slice none 0 0) (.slice none 0 0) 0 0 [] []) := ⟨⟨hB2, World.ownsRow_nil _ _ _ _⟩, ⟨rfl, fun s hs => by cases hs⟩, (fun p hp => by cases hp), by simp; omega, by omega, by omega⟩
  clear hB2 hbw hb1 hb2 hz1
  go_wp2_with fail
  go_loopw [7, 8, 9, 40] (fun vi lv tv iv wr => ∃ (i : Nat) (vb : Value) (num lost : Int) (L : List Pk) (S : List Snt), i ≤ l.length ∧ iv = .int .i64 i ∧ lv = .int .i64 num ∧ tv = .int .i64 lost ∧ Hid (KRel l wr w.heap.size b (1 + q) i vb vi num lost L S) ∧ Below w.heap.size w wr) (fun _ _ _ iv _ => l.length - (intOf iv).toNat)
  case atStart => exact ⟨0, .slice none 0 0, 0, 0, [], [], Nat.zero_le _, rfl, rfl, rfl, HQ.out, hb2w⟩
  case round =>
    clear HQ hb2w
    obtain ⟨i, vb, num, lost, L, S, hi, rfl, rfl, rfl, HQ, hbr⟩ := hrel
    have hzr := hbr.size
    by_cases h1 : i < l.length
    · obtain ⟨hokl, ab, ao, rfl, hab, y0, y1, y2, y3, y4⟩ := HO.out i h1
      obtain ⟨⟨kind, frm, to, ii, ad, cap, st⟩, hee⟩ : ∃ e, e = l[i] := ⟨_, rfl⟩
      rw [← hee] at hokl y0 y1 y2 y3 y4
      simp only at y0 y1 y2 y3 y4
      replace y0 := (hbr.cell (p := ⟨ab, ao + i * 5, none⟩) hab).trans y0
      replace y1 := (hbr.cell (p := ⟨ab, ao + i * 5 + 1, none⟩) hab).trans y1
      replace y2 := (hbr.cell (p := ⟨ab, ao + i * 5 + 2, none⟩) hab).trans y2
      replace y3 := (hbr.cell (p := ⟨ab, ao + i * 5 + 3, none⟩) hab).trans y3
      replace y4 := (hbr.cell (p := ⟨ab, ao + i * 5 + 4, none⟩) hab).trans y4
      have HE : Hid (l[i] = ⟨kind, frm, to, ii, ad, cap, st⟩) := hee.symm
      have HK : Hid (OpE.Ok w ⟨kind, frm, to, ii, ad, cap, st⟩) := hokl
      have hkr := (show Inr .i64 kind from hokl.1).i64
      have hir := (show Inr .i64 ii from hokl.2.2.2.1).i64
      obtain ⟨oi, ci, rfl, hcw1, hcw2⟩ := row_any HQ.out.1.2
      unfold maxLen at hcw2
      obtain ⟨_, hmt0, _, hLr, hnum, hlost⟩ := HQ.out
      have hLS := hmt0.length
      have HLS : Hid (L.length = S.length) := hLS
      have hS5 : S.length ≤ 512 := by omega
      have hL5 : L.length ≤ 512 := by omega
      have hnum2 : 0 ≤ num ∧ num ≤ 4611686018427387904 := by omega
      have hlost2 : 0 ≤ lost ∧ lost ≤ 4611686018427387904 := by omega
      clear hee hokl hmt0 hLS
      go_wp2_with fail
      refine (among_any kind 4 hkr (by omega) (by omega) _).mono ?_
      rintro e wx ⟨he, hwx⟩
      clear y0 y1 y2 y3 y4
      have gk : (wr.alloc (.cells #[.int .i64 kind, .int .i64 frm, .int .i64 to, .int .i64 ii, .slice ad st.size cap] 32 (0, 0))).heap[wr.heap.size]? = some (.cells #[.int .i64 kind, .int .i64 frm, .int .i64 to, .int .i64 ii, .slice ad st.size cap] 32 (0, 0)) := by (repeat (first | (with_reducible assumption) | (with_reducible exact Below.refl _ _) | (with_reducible refine heap_drew ?_) | (focus ((with_reducible refine heap_new ?_) ; simp ; done)) | (with_reducible apply heap_set_to) | (focus ((with_reducible refine heap_set_ne ?_ ?_ _) ; rotate_left ; (focus (first | omega | (simp ; done) | (simp ; omega))))) | (with_reducible refine heap_old ?_) | (with_reducible refine Below.drew ?_) | (with_reducible refine below_set ?_ _ _) | (focus ((with_reducible refine Below.setCell ?_ ?_ _) ; rotate_left ; (focus (first | omega | (simp ; done) | (simp ; omega))))) | (focus ((with_reducible refine Below.alloc ?_ ?_ _) ; rotate_left ; (focus (first | omega | (simp ; done) | (simp ; omega))))) | (with_reducible rfl) | (focus (simp ; done))))
      have hba := hbr.alloc hzr (.cells #[.int .i64 kind, .int .i64 frm, .int .i64 to, .int .i64 ii, .slice ad st.size cap] 32 (0, 0))
      have hT := HQ.out.1.below (below_alloc_self wr (.cells #[.int .i64 kind, .int .i64 frm, .int .i64 to, .int .i64 ii, .slice ad st.size cap] 32 (0, 0)))
      obtain ⟨kb, hkb⟩ : ∃ g, g = wr.heap.size := ⟨_, rfl⟩
      rw [← hkb] at gk ⊢
      clear hkb
      generalize hwa : wr.alloc (.cells #[.int .i64 kind, .int .i64 frm, .int .i64 to, .int .i64 ii, .slice ad st.size cap] 32 (0, 0)) = wa at *
      subst he
      subst hwx
      have HD : Hid (Duo wx w.heap.size b vb (.slice oi S.length ci) (1 + q) num lost L S) := hT
      clear hwa hT
      have qa := blk5 gk
      have hza := hba.size
      by_cases hk0 : kind % 4 = 0
      · by_cases hbad : badWay frm to
        · as_aux_lemma =>
            go_wp2_with fail
            refine (send_bad _ frm to ad cap st.size wx hbad).mono ?_
            rintro e w5 ⟨rfl, rfl⟩
            clear qa
            have D8 := HD
            have hmt : Match l L S := HQ.out.2.1
            have HLn : Hid (Calls Try.prog 14 #[.pointer (some ⟨b, 0, none⟩)] w5 fun e w' => e = .returned (.int .i64 S.length) ∧ w' = w5) := by
              have h := len_any w.heap.size b _ (1 + q) num lost L w5 D8.out.1
              rw [show (L).length = S.length by rw [hmt.length]; skip] at h
              exact h
            clear hmt
            go_wp2_with fail
            refine HLn.out.mono ?_
            rintro e w9 ⟨rfl, rfl⟩
            clear HLn
            go_wp2_with fail
            refine (lost_any w.heap.size b _ (1 + q) num lost L w9 D8.out.1).mono ?_
            rintro e w10 ⟨rfl, rfl⟩
            go_wp2_with fail
            go_roundw
            case rel =>
              obtain ⟨_, r2, r3, r4, r5, r6⟩ := HQ.out
              exact ⟨i + 1, _, num, lost, L, S, by omega, by go_num, by go_num, by go_num, ⟨D8.out, HQ.out.2.1, HQ.out.2.2.1, HQ.out.2.2.2.1, by omega, by omega⟩, hba⟩
            case measure => simp [intOf]; omega
        by_cases hlong : 65536 < st.size
        · as_aux_lemma =>
            go_wp2_with fail
            refine (send_long _ frm to ad cap st.size wx hbad hlong).mono ?_
            rintro e w5 ⟨rfl, rfl⟩
            clear qa
            have D8 := HD
            have hmt : Match l L S := HQ.out.2.1
            have HLn : Hid (Calls Try.prog 14 #[.pointer (some ⟨b, 0, none⟩)] w5 fun e w' => e = .returned (.int .i64 S.length) ∧ w' = w5) := by
              have h := len_any w.heap.size b _ (1 + q) num lost L w5 D8.out.1
              rw [show (L).length = S.length by rw [hmt.length]; skip] at h
              exact h
            clear hmt
            go_wp2_with fail
            refine HLn.out.mono ?_
            rintro e w9 ⟨rfl, rfl⟩
            clear HLn
            go_wp2_with fail
            refine (lost_any w.heap.size b _ (1 + q) num lost L w9 D8.out.1).mono ?_
            rintro e w10 ⟨rfl, rfl⟩
            go_wp2_with fail
            go_roundw
            case rel =>
              obtain ⟨_, r2, r3, r4, r5, r6⟩ := HQ.out
              exact ⟨i + 1, _, num, lost, L, S, by omega, by go_num, by go_num, by go_num, ⟨D8.out, HQ.out.2.1, HQ.out.2.2.1, HQ.out.2.2.2.1, by omega, by omega⟩, hba⟩
            case measure => simp [intOf]; omega
        have hs : st.size ≤ 65536 := by omega
        have HN : Hid (ad = none → st.size = 0 ∧ cap = 0) := HK.out.2.2.2.2.2.1
        have HR : Hid (Reads wx ad st) := HK.out.2.2.2.2.1.below hba
        clear hlong
        by_cases hfull : 1 + q ≤ (L.length : Int)
        · as_aux_lemma =>
            have hfullS : ¬ (S.length : Int) < 1 + q := by have := HLS.out; omega
            go_wp2_with fail
            refine (send_full w.heap.size b vb (1 + q) num lost L frm to ad cap st wx HD.out.1 HR.out HN.out hza hL5 hlost2 hbad hs hfull).mono ?_
            rintro e w5 ⟨rfl, hB5, hK5⟩
            have hD5 := HD.out.stepB hB5 hK5
            have hb5 := hba.trans (hK5.below hza HD.out.1.mine_ge)
            have D8 : Hid (Duo w5 w.heap.size b vb (.slice oi S.length ci) (1 + q) num (lost + 1) L S) := hD5
            clear hB5 hK5 hD5 qa
            go_wp2_with fail
            refine (HM.out w5).mono ?_
            rintro e w6 ⟨rfl, rfl⟩
            have hmt : Match l L S := HQ.out.2.1
            have HLn : Hid (Calls Try.prog 14 #[.pointer (some ⟨b, 0, none⟩)] w6 fun e w' => e = .returned (.int .i64 S.length) ∧ w' = w6) := by
              have h := len_any w.heap.size b _ (1 + q) num (lost + 1) L w6 D8.out.1
              rw [show (L).length = S.length by rw [hmt.length]; skip] at h
              exact h
            clear hmt
            go_wp2_with fail
            refine HLn.out.mono ?_
            rintro e w9 ⟨rfl, rfl⟩
            clear HLn
            go_wp2_with fail
            refine (lost_any w.heap.size b _ (1 + q) num (lost + 1) L w9 D8.out.1).mono ?_
            rintro e w10 ⟨rfl, rfl⟩
            go_wp2_with fail
            go_roundw
            case rel =>
              obtain ⟨_, r2, r3, r4, r5, r6⟩ := HQ.out
              exact ⟨i + 1, _, num, (lost + 1), L, S, by omega, by go_num, by go_num, by go_num, ⟨D8.out, HQ.out.2.1, HQ.out.2.2.1, HQ.out.2.2.2.1, by omega, by omega⟩, hb5⟩
            case measure => simp [intOf]; omega
        · have hroomL : (L.length : Int) < 1 + q := by omega
          as_aux_lemma =>
            have hroomS : ¬ 1 + q ≤ (S.length : Int) := by have := HLS.out; omega
            have hnp : 0 < num + 1 := by omega
            have hnl : ¬ num + 1 ≤ num := by omega
            go_wp2_with fail
            refine (send_room w.heap.size b vb (1 + q) num lost L frm to ad cap st wx HD.out.1 HR.out HN.out hza hL5 hnum2 hbad hs hroomL).mono ?_
            rintro e w5 ⟨vb', adb, capb, rfl, hB5, hK5, hnb, _⟩
            have hD5 := HD.out.stepB hB5 hK5
            have hb5 := hba.trans (hK5.below hza HD.out.1.mine_ge)
            have hz5 := hb5.size
            have D5 : Hid (Duo w5 w.heap.size b vb' (.slice oi S.length ci) (1 + q) (num + 1) lost (L ++ [⟨num + 1, frm, to, adb, capb, st⟩]) S) := hD5
            have HNB : Hid (adb = none → st.size = 0 ∧ capb = 0) := hnb
            clear hB5 hK5 hD5 hnb qa
            go_wp2_with fail
            refine (HM.out w5).mono ?_
            rintro e w6 ⟨rfl, rfl⟩
            have gx : (w6.alloc (.cells #[.int .i64 (num + 1), .int .i64 (i : Int)] 37 (0, 0))).heap[w6.heap.size]? = some (.cells #[.int .i64 (num + 1), .int .i64 (i : Int)] 37 (0, 0)) := by (repeat (first | (with_reducible assumption) | (with_reducible exact Below.refl _ _) | (with_reducible refine heap_drew ?_) | (focus ((with_reducible refine heap_new ?_) ; simp ; done)) | (with_reducible apply heap_set_to) | (focus ((with_reducible refine heap_set_ne ?_ ?_ _) ; rotate_left ; (focus (first | omega | (simp ; done) | (simp ; omega))))) | (with_reducible refine heap_old ?_) | (with_reducible refine Below.drew ?_) | (with_reducible refine below_set ?_ _ _) | (focus ((with_reducible refine Below.setCell ?_ ?_ _) ; rotate_left ; (focus (first | omega | (simp ; done) | (simp ; omega))))) | (focus ((with_reducible refine Below.alloc ?_ ?_ _) ; rotate_left ; (focus (first | omega | (simp ; done) | (simp ; omega))))) | (with_reducible rfl) | (focus (simp ; done))))
            have hD5a := D5.out.below (below_alloc_self w6 (.cells #[.int .i64 (num + 1), .int .i64 (i : Int)] 37 (0, 0)))
            have D5a : Hid (Duo (w6.alloc (.cells #[.int .i64 (num + 1), .int .i64 (i : Int)] 37 (0, 0))) w.heap.size b vb' (.slice oi S.length ci) (1 + q) (num + 1) lost (L ++ [(⟨num + 1, frm, to, adb, capb, st⟩ : Pk)]) S) := hD5a
            have hb5a := hb5.alloc hz5 (.cells #[.int .i64 (num + 1), .int .i64 (i : Int)] 37 (0, 0))
            have gxh : Hid _ := gx
            have hz5a : w.heap.size ≤ (w6.alloc (.cells #[.int .i64 (num + 1), .int .i64 (i : Int)] 37 (0, 0))).heap.size := hb5a.size
            clear hD5a gx
            go_wp2_with (first
              | (at_builtin; (refine wpList_append_any _ rfl (.tmp 188) (.tmp 192) 29 rfl w.heap.size 37 i0 _ 2 16 Try.underlying29 HI.out.1 HI.out.2.1 HI.out.2.2.1 HI.out.2.2.2 rfl (by decide) (.slice oi S.length ci) S.length (sflat S) rfl D5a.out.2 (some ⟨w6.heap.size, 0, none⟩) 1 1 (sflat [(num + 1, i)]) rfl rfl (fun h => by cases h) (snt_news (e := (num + 1, i)) gxh.out) (sflat_one _) ?_ ?_ ?_ ?_))
              | fail)
            · unfold maxLen; omega
            · omega
            · exact hz5a
            intro vi' w8 hown hgrow _
            have hb8 := hb5a.grown hgrow hz5a (fun y hy => (D5a.out.2.lt y hy).1)
            have hD8 := D5a.out.stepS (S' := S ++ [(num + 1, i)]) (by rw [List.length_append, sflat_append]; exact hown) hgrow
            obtain ⟨oi', ci', rfl, _, _⟩ := row_any hown
            have D8 : Hid (Duo w8 w.heap.size b vb' (.slice oi' (S.length + 1) ci') (1 + q) (num + 1) lost (L ++ [(⟨num + 1, frm, to, adb, capb, st⟩ : Pk)]) (S ++ [(num + 1, i)])) := hD8
            clear hown hgrow hD8 D5a gxh D5 hb5a hz5a
            have HMt : Hid (Match l (L ++ [⟨num + 1, frm, to, adb, capb, st⟩]) (S ++ [(num + 1, i)])) := HQ.out.2.1.push ⟨num + 1, frm, to, adb, capb, st⟩ i h1 (by rw [HE.out]; rfl)
            have HOk : Hid (∀ p ∈ L ++ [(⟨num + 1, frm, to, adb, capb, st⟩ : Pk)], p.Ok) := fun p hp => by
              rcases List.mem_append.1 hp with hp | hp
              · exact HQ.out.2.2.1 p hp
              · obtain rfl : p = ⟨num + 1, frm, to, adb, capb, st⟩ := by simpa using hp
                exact ⟨HNB.out, hs⟩
            have hmt : Match l (L ++ [(⟨num + 1, frm, to, adb, capb, st⟩ : Pk)]) (S ++ [((num + 1, i) : Snt)]) := HMt.out
            have HLn : Hid (Calls Try.prog 14 #[.pointer (some ⟨b, 0, none⟩)] w8 fun e w' => e = .returned (.int .i64 (S.length + 1)) ∧ w' = w8) := by
              have h := len_any w.heap.size b _ (1 + q) (num + 1) lost (L ++ [(⟨num + 1, frm, to, adb, capb, st⟩ : Pk)]) w8 D8.out.1
              rw [show ((L ++ [(⟨num + 1, frm, to, adb, capb, st⟩ : Pk)])).length = (S.length + 1) by rw [hmt.length]; (rw [List.length_append]; rfl)] at h
              exact h
            clear hmt
            go_wp2_with fail
            refine HLn.out.mono ?_
            rintro e w9 ⟨rfl, rfl⟩
            clear HLn
            go_wp2_with fail
            refine (lost_any w.heap.size b _ (1 + q) (num + 1) lost (L ++ [(⟨num + 1, frm, to, adb, capb, st⟩ : Pk)]) w9 D8.out.1).mono ?_
            rintro e w10 ⟨rfl, rfl⟩
            go_wp2_with fail
            go_roundw
            case rel =>
              obtain ⟨_, r2, r3, r4, r5, r6⟩ := HQ.out
              exact ⟨i + 1, _, (num + 1), lost, (L ++ [(⟨num + 1, frm, to, adb, capb, st⟩ : Pk)]), (S ++ [((num + 1, i) : Snt)]), by omega, by go_num, by go_num, by go_num, ⟨D8.out, HMt.out, HOk.out, (by rw [List.length_append, List.length_singleton]; omega), by omega, by omega⟩, hb8⟩
            case measure => simp [intOf]; omega
      by_cases hk1 : kind % 4 = 1
      · by_cases hin : ii < 0 ∨ (L.length : Int) ≤ ii
        · as_aux_lemma =>
            go_wp2_with fail
            refine (double_none w.heap.size b vb (1 + q) num lost L ii wx HD.out.1 hin).mono ?_
            rintro e w5 ⟨rfl, rfl⟩
            clear qa hin
            have D8 := HD
            have hmt : Match l L S := HQ.out.2.1
            have HLn : Hid (Calls Try.prog 14 #[.pointer (some ⟨b, 0, none⟩)] w5 fun e w' => e = .returned (.int .i64 S.length) ∧ w' = w5) := by
              have h := len_any w.heap.size b _ (1 + q) num lost L w5 D8.out.1
              rw [show (L).length = S.length by rw [hmt.length]; skip] at h
              exact h
            clear hmt
            go_wp2_with fail
            refine HLn.out.mono ?_
            rintro e w9 ⟨rfl, rfl⟩
            clear HLn
            go_wp2_with fail
            refine (lost_any w.heap.size b _ (1 + q) num lost L w9 D8.out.1).mono ?_
            rintro e w10 ⟨rfl, rfl⟩
            go_wp2_with fail
            go_roundw
            case rel =>
              obtain ⟨_, r2, r3, r4, r5, r6⟩ := HQ.out
              exact ⟨i + 1, _, num, lost, L, S, by omega, by go_num, by go_num, by go_num, ⟨D8.out, HQ.out.2.1, HQ.out.2.2.1, HQ.out.2.2.2.1, by omega, by omega⟩, hba⟩
            case measure => simp [intOf]; omega
        obtain ⟨k, rfl⟩ : ∃ k : Nat, ii = k := Int.eq_ofNat_of_zero_le (by omega)
        have hkL : k < L.length := by omega
        have hkS : k < S.length := by have := HLS.out; omega
        obtain ⟨n, hn⟩ : ∃ n, n = S[k].2 := ⟨_, rfl⟩
        have HN2 : Hid (n = S[k].2) := hn
        clear hin hn
        by_cases hfull : 1 + q ≤ (L.length : Int)
        · as_aux_lemma =>
            have hfullS : ¬ (S.length : Int) < 1 + q := by have := HLS.out; omega
            go_wp2_with fail
            refine (double_full w.heap.size b vb (1 + q) num lost L k hkL wx HD.out.1 hza hL5 hlost2 hfull).mono ?_
            rintro e w5 ⟨rfl, hB5, hK5⟩
            have hD5 := HD.out.stepB hB5 hK5
            have hb5 := hba.trans (hK5.below hza HD.out.1.mine_ge)
            have gk5 := hK5.blk gk (HD.out.1.not_of gk (by decide) (by decide))
            have D5 : Hid (Duo w5 w.heap.size b vb (.slice oi S.length ci) (1 + q) num (lost + 1) L S) := hD5
            clear hB5 hK5 hD5 qa
            obtain ⟨gi, rfl, _, s1⟩ := own_snt D5.out.2 k hkS
            rw [← HN2.out] at s1
            have hgi := (D5.out.2.lt gi rfl).2
            have HCS : Hid (∀ w', Below w5.heap.size w5 w' → w'.cell? ⟨gi, k * 2 + 1, none⟩ = some (.int .i64 (n : Int))) := fun w' hc => (hc.cell (p := ⟨gi, k * 2 + 1, none⟩) hgi).trans s1
            clear s1
            have qa5 := blk5 gk5
            have qs5 := HCS.out _ (Below.refl _ _)
            go_wp2_with fail
            clear qa5 qs5
            have hSt : Stable (fun w6 : World => (Below w5.heap.size w5 w6)) := by repeat (first | exact stable_ext _ | exact stable_blk _ _ | exact stable_true | (refine stable_bel ?_ ; (focus (first | (simp [World.size_setCell] ; done) | (simp [World.setCell] ; done)))) | refine Stable.and ?_ ?_)
            refine wp_region_x [0, 1, 2, 3, 4, 5, 6, 7, 8] [0, 0, 0, 1, 0, 0, 1, 0, 0] (fun w6 => (Below w5.heap.size w5 w6)) (by kernel_rfl) (by kernel_rfl) ?_ ?_
            · (first | trivial | (repeat (first | (with_reducible assumption) | (with_reducible exact Below.refl _ _) | (with_reducible refine heap_drew ?_) | (focus ((with_reducible refine heap_new ?_) ; simp ; done)) | (with_reducible apply heap_set_to) | (focus ((with_reducible refine heap_set_ne ?_ ?_ _) ; rotate_left ; (focus (first | omega | (simp ; done) | (simp ; omega))))) | (with_reducible refine heap_old ?_) | (with_reducible refine Below.drew ?_) | (with_reducible refine below_set ?_ _ _) | (focus ((with_reducible refine Below.setCell ?_ ?_ _) ; rotate_left ; (focus (first | omega | (simp ; done) | (simp ; omega))))) | (focus ((with_reducible refine Below.alloc ?_ ?_ _) ; rotate_left ; (focus (first | omega | (simp ; done) | (simp ; omega))))) | (with_reducible rfl) | (focus (simp ; done)))))
            simp only [List.map_cons, List.map_nil, List.getD_cons_zero, List.getD_cons_succ]
            (refine x_pure rfl _ ?_ rfl (by simp) ?_ ?_ ; rotate_left ; · (intro w6 K hK ; go_wp2_with fail ; exact rfl))
            simp only [Act.put, List.setIfInBounds_toArray, List.set_cons_succ, List.set_cons_zero]
            (refine x_pure rfl _ ?_ rfl (by simp) ?_ ?_ ; rotate_left ; · (intro w6 K hK ; go_wp2_with fail ; exact rfl))
            simp only [Act.put, List.setIfInBounds_toArray, List.set_cons_succ, List.set_cons_zero]
            (refine x_pure rfl _ ?_ rfl (by simp) ?_ ?_ ; rotate_left ; · (intro w6 K hK ; go_wp2_with fail ; exact rfl))
            simp only [Act.put, List.setIfInBounds_toArray, List.set_cons_succ, List.set_cons_zero]
            (refine x_quiet rfl hSt (fun _ h => h) _ ?_ rfl (by simp) ?_ ?_ ; rotate_left ; · (intro w6 hC K hK ; have hc := hC ; have qa6 := blk5 (blk_below gk5 hc) ; have qs6 := HCS.out _ hc ; go_wp2_with fail ; refine ⟨?_, Below.refl _ _⟩ ; exact rfl))
            simp only [Act.put, List.setIfInBounds_toArray, List.set_cons_succ, List.set_cons_zero]
            (refine x_pure rfl _ ?_ rfl (by simp) ?_ ?_ ; rotate_left ; · (intro w6 K hK ; go_wp2_with fail ; exact rfl))
            simp only [Act.put, List.setIfInBounds_toArray, List.set_cons_succ, List.set_cons_zero]
            (refine x_pure rfl _ ?_ rfl (by simp) ?_ ?_ ; rotate_left ; · (intro w6 K hK ; go_wp2_with fail ; exact rfl))
            simp only [Act.put, List.setIfInBounds_toArray, List.set_cons_succ, List.set_cons_zero]
            (refine x_quiet rfl hSt (fun _ h => h) _ ?_ rfl (by simp) ?_ ?_ ; rotate_left ; · (intro w6 hC K hK ; have hc := hC ; have qa6 := blk5 (blk_below gk5 hc) ; have qs6 := HCS.out _ hc ; go_wp2_with fail ; refine ⟨?_, Below.refl _ _⟩ ; exact rfl))
            simp only [Act.put, List.setIfInBounds_toArray, List.set_cons_succ, List.set_cons_zero]
            (refine x_pure rfl _ ?_ rfl (by simp) ?_ ?_ ; rotate_left ; · (intro w6 K hK ; go_wp2_with fail ; exact rfl))
            simp only [Act.put, List.setIfInBounds_toArray, List.set_cons_succ, List.set_cons_zero]
            (refine x_pure rfl _ ?_ rfl (by simp) ?_ ?_ ; rotate_left ; · (intro w6 K hK ; go_wp2_with fail ; exact rfl))
            simp only [Act.put, List.setIfInBounds_toArray, List.set_cons_succ, List.set_cons_zero]
            first | refine x_nil ?_ | refine x_end ?_
            rintro w6 hc
            have hb6 := below_back hb5 hb5.size hc
            have hz6 := hb6.size
            have D6 := D5.out.below hc
            clear HCS gk5 hc
            have D8 : Hid (Duo w6 w.heap.size b vb (.slice (some ⟨gi, 0, none⟩) S.length ci) (1 + q) num (lost + 1) L S) := D6
            clear D6 D5
            go_wp2_with fail
            refine (HM.out w6).mono ?_
            rintro e w7 ⟨rfl, rfl⟩
            have hmt : Match l L S := HQ.out.2.1
            have HLn : Hid (Calls Try.prog 14 #[.pointer (some ⟨b, 0, none⟩)] w7 fun e w' => e = .returned (.int .i64 S.length) ∧ w' = w7) := by
              have h := len_any w.heap.size b _ (1 + q) num (lost + 1) L w7 D8.out.1
              rw [show (L).length = S.length by rw [hmt.length]; skip] at h
              exact h
            clear hmt
            go_wp2_with fail
            refine HLn.out.mono ?_
            rintro e w9 ⟨rfl, rfl⟩
            clear HLn
            go_wp2_with fail
            refine (lost_any w.heap.size b _ (1 + q) num (lost + 1) L w9 D8.out.1).mono ?_
            rintro e w10 ⟨rfl, rfl⟩
            go_wp2_with fail
            go_roundw
            case rel =>
              obtain ⟨_, r2, r3, r4, r5, r6⟩ := HQ.out
              exact ⟨i + 1, _, num, (lost + 1), L, S, by omega, by go_num, by go_num, by go_num, ⟨D8.out, HQ.out.2.1, HQ.out.2.2.1, HQ.out.2.2.2.1, by omega, by omega⟩, hb6⟩
            case measure => simp [intOf]; omega
        · have hroomL : (L.length : Int) < 1 + q := by omega
          as_aux_lemma =>
            have hroomS : ¬ 1 + q ≤ (S.length : Int) := by have := HLS.out; omega
            have hnp : 0 < num + 1 := by omega
            have hnl : ¬ num + 1 ≤ num := by omega
            go_wp2_with fail
            refine (double_room w.heap.size b vb (1 + q) num lost L k hkL wx HD.out.1 hza hL5 hnum2 hroomL).mono ?_
            rintro e w5 ⟨vb', rfl, hB5, hK5, _⟩
            have hD5 := HD.out.stepB hB5 hK5
            have hb5 := hba.trans (hK5.below hza HD.out.1.mine_ge)
            have gk5 := hK5.blk gk (HD.out.1.not_of gk (by decide) (by decide))
            obtain ⟨pk, hpk⟩ : ∃ p, p = (⟨num + 1, L[k].frm, L[k].to, L[k].ad, L[k].cap, L[k].s⟩ : Pk) := ⟨_, rfl⟩
            have hpn : pk.num = num + 1 := by rw [hpk]
            have hpo : pk.Ok := by rw [hpk]; exact (show L[k].Ok from HQ.out.2.2.1 _ (List.getElem_mem hkL))
            have hmk : Match l (L ++ [pk]) (S ++ [(num + 1, n)]) := by
              obtain ⟨hnl, _, e1, e2, e3⟩ := HQ.out.2.1.get k hkL hkS
              have hnl' : n < l.length := by rw [HN2.out]; exact hnl
              have h := HQ.out.2.1.push pk n hnl' (by
                rw [hpk]
                show (L[k].frm, L[k].to, L[k].s) = (l[n].frm, l[n].to, l[n].s)
                have h5 : n = S[k].2 := HN2.out
                subst h5
                rw [e1, e2, e3])
              rw [hpn] at h
              exact h
            rw [← hpk] at hD5
            have D5 : Hid (Duo w5 w.heap.size b vb' (.slice oi S.length ci) (1 + q) (num + 1) lost (L ++ [pk]) S) := hD5
            have HMt : Hid (Match l (L ++ [pk]) (S ++ [(num + 1, n)])) := hmk
            have HOk : Hid (∀ p ∈ L ++ [pk], p.Ok) := fun p hp => by
              rcases List.mem_append.1 hp with hp | hp
              · exact HQ.out.2.2.1 p hp
              · obtain rfl : p = pk := by simpa using hp
                exact hpo
            clear hB5 hK5 hD5 qa hmk hpn hpo hpk
            obtain ⟨gi, rfl, _, s1⟩ := own_snt D5.out.2 k hkS
            rw [← HN2.out] at s1
            have hgi := (D5.out.2.lt gi rfl).2
            have HCS : Hid (∀ w', Below w5.heap.size w5 w' → w'.cell? ⟨gi, k * 2 + 1, none⟩ = some (.int .i64 (n : Int))) := fun w' hc => (hc.cell (p := ⟨gi, k * 2 + 1, none⟩) hgi).trans s1
            clear s1
            have qa5 := blk5 gk5
            have qs5 := HCS.out _ (Below.refl _ _)
            go_wp2_with fail
            clear qa5 qs5
            have hSt : Stable (fun w6 : World => (Below w5.heap.size w5 w6)) := by repeat (first | exact stable_ext _ | exact stable_blk _ _ | exact stable_true | (refine stable_bel ?_ ; (focus (first | (simp [World.size_setCell] ; done) | (simp [World.setCell] ; done)))) | refine Stable.and ?_ ?_)
            refine wp_region_x [0, 1, 2, 3, 4, 5, 6, 7, 8] [0, 0, 0, 1, 0, 0, 1, 0, 0] (fun w6 => (Below w5.heap.size w5 w6)) (by kernel_rfl) (by kernel_rfl) ?_ ?_
            · (first | trivial | (repeat (first | (with_reducible assumption) | (with_reducible exact Below.refl _ _) | (with_reducible refine heap_drew ?_) | (focus ((with_reducible refine heap_new ?_) ; simp ; done)) | (with_reducible apply heap_set_to) | (focus ((with_reducible refine heap_set_ne ?_ ?_ _) ; rotate_left ; (focus (first | omega | (simp ; done) | (simp ; omega))))) | (with_reducible refine heap_old ?_) | (with_reducible refine Below.drew ?_) | (with_reducible refine below_set ?_ _ _) | (focus ((with_reducible refine Below.setCell ?_ ?_ _) ; rotate_left ; (focus (first | omega | (simp ; done) | (simp ; omega))))) | (focus ((with_reducible refine Below.alloc ?_ ?_ _) ; rotate_left ; (focus (first | omega | (simp ; done) | (simp ; omega))))) | (with_reducible rfl) | (focus (simp ; done)))))
            simp only [List.map_cons, List.map_nil, List.getD_cons_zero, List.getD_cons_succ]
            (refine x_pure rfl _ ?_ rfl (by simp) ?_ ?_ ; rotate_left ; · (intro w6 K hK ; go_wp2_with fail ; exact rfl))
            simp only [Act.put, List.setIfInBounds_toArray, List.set_cons_succ, List.set_cons_zero]
            (refine x_pure rfl _ ?_ rfl (by simp) ?_ ?_ ; rotate_left ; · (intro w6 K hK ; go_wp2_with fail ; exact rfl))
            simp only [Act.put, List.setIfInBounds_toArray, List.set_cons_succ, List.set_cons_zero]
            (refine x_pure rfl _ ?_ rfl (by simp) ?_ ?_ ; rotate_left ; · (intro w6 K hK ; go_wp2_with fail ; exact rfl))
            simp only [Act.put, List.setIfInBounds_toArray, List.set_cons_succ, List.set_cons_zero]
            (refine x_quiet rfl hSt (fun _ h => h) _ ?_ rfl (by simp) ?_ ?_ ; rotate_left ; · (intro w6 hC K hK ; have hc := hC ; have qa6 := blk5 (blk_below gk5 hc) ; have qs6 := HCS.out _ hc ; go_wp2_with fail ; refine ⟨?_, Below.refl _ _⟩ ; exact rfl))
            simp only [Act.put, List.setIfInBounds_toArray, List.set_cons_succ, List.set_cons_zero]
            (refine x_pure rfl _ ?_ rfl (by simp) ?_ ?_ ; rotate_left ; · (intro w6 K hK ; go_wp2_with fail ; exact rfl))
            simp only [Act.put, List.setIfInBounds_toArray, List.set_cons_succ, List.set_cons_zero]
            (refine x_pure rfl _ ?_ rfl (by simp) ?_ ?_ ; rotate_left ; · (intro w6 K hK ; go_wp2_with fail ; exact rfl))
            simp only [Act.put, List.setIfInBounds_toArray, List.set_cons_succ, List.set_cons_zero]
            (refine x_quiet rfl hSt (fun _ h => h) _ ?_ rfl (by simp) ?_ ?_ ; rotate_left ; · (intro w6 hC K hK ; have hc := hC ; have qa6 := blk5 (blk_below gk5 hc) ; have qs6 := HCS.out _ hc ; go_wp2_with fail ; refine ⟨?_, Below.refl _ _⟩ ; exact rfl))
            simp only [Act.put, List.setIfInBounds_toArray, List.set_cons_succ, List.set_cons_zero]
            (refine x_pure rfl _ ?_ rfl (by simp) ?_ ?_ ; rotate_left ; · (intro w6 K hK ; go_wp2_with fail ; exact rfl))
            simp only [Act.put, List.setIfInBounds_toArray, List.set_cons_succ, List.set_cons_zero]
            (refine x_pure rfl _ ?_ rfl (by simp) ?_ ?_ ; rotate_left ; · (intro w6 K hK ; go_wp2_with fail ; exact rfl))
            simp only [Act.put, List.setIfInBounds_toArray, List.set_cons_succ, List.set_cons_zero]
            first | refine x_nil ?_ | refine x_end ?_
            rintro w6 hc
            have hb6 := below_back hb5 hb5.size hc
            have hz6 := hb6.size
            have D6 := D5.out.below hc
            clear HCS gk5 hc
            clear D5 hb5
            have D5 : Hid (Duo w6 w.heap.size b vb' (.slice (some ⟨gi, 0, none⟩) S.length ci) (1 + q) (num + 1) lost (L ++ [pk]) S) := D6
            have hb5 := hb6
            have hz5 := hz6
            clear D6
            go_wp2_with fail
            refine (HM.out w6).mono ?_
            rintro e w7 ⟨rfl, rfl⟩
            have gx : (w7.alloc (.cells #[.int .i64 (num + 1), .int .i64 (n : Int)] 37 (0, 0))).heap[w7.heap.size]? = some (.cells #[.int .i64 (num + 1), .int .i64 (n : Int)] 37 (0, 0)) := by (repeat (first | (with_reducible assumption) | (with_reducible exact Below.refl _ _) | (with_reducible refine heap_drew ?_) | (focus ((with_reducible refine heap_new ?_) ; simp ; done)) | (with_reducible apply heap_set_to) | (focus ((with_reducible refine heap_set_ne ?_ ?_ _) ; rotate_left ; (focus (first | omega | (simp ; done) | (simp ; omega))))) | (with_reducible refine heap_old ?_) | (with_reducible refine Below.drew ?_) | (with_reducible refine below_set ?_ _ _) | (focus ((with_reducible refine Below.setCell ?_ ?_ _) ; rotate_left ; (focus (first | omega | (simp ; done) | (simp ; omega))))) | (focus ((with_reducible refine Below.alloc ?_ ?_ _) ; rotate_left ; (focus (first | omega | (simp ; done) | (simp ; omega))))) | (with_reducible rfl) | (focus (simp ; done))))
            have hD5a := D5.out.below (below_alloc_self w7 (.cells #[.int .i64 (num + 1), .int .i64 (n : Int)] 37 (0, 0)))
            have D5a : Hid (Duo (w7.alloc (.cells #[.int .i64 (num + 1), .int .i64 (n : Int)] 37 (0, 0))) w.heap.size b vb' (.slice (some ⟨gi, 0, none⟩) S.length ci) (1 + q) (num + 1) lost (L ++ [pk]) S) := hD5a
            have hb5a := hb5.alloc hz5 (.cells #[.int .i64 (num + 1), .int .i64 (n : Int)] 37 (0, 0))
            have gxh : Hid _ := gx
            have hz5a : w.heap.size ≤ (w7.alloc (.cells #[.int .i64 (num + 1), .int .i64 (n : Int)] 37 (0, 0))).heap.size := hb5a.size
            clear hD5a gx
            go_wp2_with (first
              | (at_builtin; (refine wpList_append_any _ rfl (.tmp 188) (.tmp 192) 29 rfl w.heap.size 37 i0 _ 2 16 Try.underlying29 HI.out.1 HI.out.2.1 HI.out.2.2.1 HI.out.2.2.2 rfl (by decide) (.slice (some ⟨gi, 0, none⟩) S.length ci) S.length (sflat S) rfl D5a.out.2 (some ⟨w7.heap.size, 0, none⟩) 1 1 (sflat [(num + 1, n)]) rfl rfl (fun h => by cases h) (snt_news (e := (num + 1, n)) gxh.out) (sflat_one _) ?_ ?_ ?_ ?_))
              | fail)
            · unfold maxLen; omega
            · omega
            · exact hz5a
            intro vi' w8 hown hgrow _
            have hb8 := hb5a.grown hgrow hz5a (fun y hy => (D5a.out.2.lt y hy).1)
            have hD8 := D5a.out.stepS (S' := S ++ [(num + 1, n)]) (by rw [List.length_append, sflat_append]; exact hown) hgrow
            obtain ⟨oi', ci', rfl, _, _⟩ := row_any hown
            have D8 : Hid (Duo w8 w.heap.size b vb' (.slice oi' (S.length + 1) ci') (1 + q) (num + 1) lost (L ++ [pk]) (S ++ [(num + 1, n)])) := hD8
            clear hown hgrow hD8 D5a gxh D5 hb5a hz5a
            have hmt : Match l (L ++ [pk]) (S ++ [((num + 1, n) : Snt)]) := HMt.out
            have HLn : Hid (Calls Try.prog 14 #[.pointer (some ⟨b, 0, none⟩)] w8 fun e w' => e = .returned (.int .i64 (S.length + 1)) ∧ w' = w8) := by
              have h := len_any w.heap.size b _ (1 + q) (num + 1) lost (L ++ [pk]) w8 D8.out.1
              rw [show ((L ++ [pk])).length = (S.length + 1) by rw [hmt.length]; (rw [List.length_append]; rfl)] at h
              exact h
            clear hmt
            go_wp2_with fail
            refine HLn.out.mono ?_
            rintro e w9 ⟨rfl, rfl⟩
            clear HLn
            go_wp2_with fail
            refine (lost_any w.heap.size b _ (1 + q) (num + 1) lost (L ++ [pk]) w9 D8.out.1).mono ?_
            rintro e w10 ⟨rfl, rfl⟩
            go_wp2_with fail
            go_roundw
            case rel =>
              obtain ⟨_, r2, r3, r4, r5, r6⟩ := HQ.out
              exact ⟨i + 1, _, (num + 1), lost, (L ++ [pk]), (S ++ [((num + 1, n) : Snt)]), by omega, by go_num, by go_num, by go_num, ⟨D8.out, HMt.out, HOk.out, (by rw [List.length_append, List.length_singleton]; omega), by omega, by omega⟩, hb8⟩
            case measure => simp [intOf]; omega
      by_cases hk2 : kind % 4 = 2
      · have hmod := Int.emod_nonneg ii (show ((S.length : Int) + 1) ≠ 0 by omega)
        have hmod2 := Int.emod_lt_of_pos ii (show (0 : Int) < (S.length : Int) + 1 by omega)
        obtain ⟨at_, hat⟩ : ∃ a : Nat, ii % ((S.length : Int) + 1) = a := Int.eq_ofNat_of_zero_le hmod
        have CAt := fun w' => among_any ii ((S.length : Int) + 1) hir (by omega) (by omega) w'
        rw [hat] at CAt hmod2
        have HAt : Hid (∀ w', Calls Try.prog 9 #[.int .i64 ii, .int .i64 ((S.length : Int) + 1)] w' fun e w'' => e = .returned (.int .i64 (at_ : Int)) ∧ w'' = w') := CAt
        have HKk : Hid (∀ w', Calls Try.prog 9 #[.int .i64 kind, .int .i64 4] w' fun e w'' => e = .returned (.int .i64 (kind % 4)) ∧ w'' = w') := fun w' => among_any kind 4 hkr (by omega) (by omega) w'
        have hatS : at_ ≤ S.length := by omega
        clear CAt hat hmod hmod2
        go_wp2_with fail
        refine (HAt.out wx).mono ?_
        rintro e w5 ⟨rfl, rfl⟩
        go_wp2_with fail
        have gp : (w5.alloc (.cells #[.int .i64 0, .int .i64 0, .int .i64 0, .slice none 0 0] 39 (0, 0))).heap[w5.heap.size]? = some (.cells #[.int .i64 0, .int .i64 0, .int .i64 0, .slice none 0 0] 39 (0, 0)) := by (repeat (first | (with_reducible assumption) | (with_reducible exact Below.refl _ _) | (with_reducible refine heap_drew ?_) | (focus ((with_reducible refine heap_new ?_) ; simp ; done)) | (with_reducible apply heap_set_to) | (focus ((with_reducible refine heap_set_ne ?_ ?_ _) ; rotate_left ; (focus (first | omega | (simp ; done) | (simp ; omega))))) | (with_reducible refine heap_old ?_) | (with_reducible refine Below.drew ?_) | (with_reducible refine below_set ?_ _ _) | (focus ((with_reducible refine Below.setCell ?_ ?_ _) ; rotate_left ; (focus (first | omega | (simp ; done) | (simp ; omega))))) | (focus ((with_reducible refine Below.alloc ?_ ?_ _) ; rotate_left ; (focus (first | omega | (simp ; done) | (simp ; omega))))) | (with_reducible rfl) | (focus (simp ; done))))
        have hb5 := hba.alloc hza (.cells #[.int .i64 0, .int .i64 0, .int .i64 0, .slice none 0 0] 39 (0, 0))
        have hD5 := HD.out.below (below_alloc_self w5 (.cells #[.int .i64 0, .int .i64 0, .int .i64 0, .slice none 0 0] 39 (0, 0)))
        have gk5 := heap_old (o := (.cells #[.int .i64 0, .int .i64 0, .int .i64 0, .slice none 0 0] 39 (0, 0))) gk
        have hpb : b ≠ w5.heap.size ∧ ∀ g, vb.ownBlock = some g → g ≠ w5.heap.size := ⟨by have := blk_lt HD.out.1.2.1; omega, fun g hg e => by have := (HD.out.1.2.2.1.lt g hg).2; omega⟩
        have hkw := hza
        obtain ⟨kp, hkp⟩ : ∃ g, g = w5.heap.size := ⟨_, rfl⟩
        rw [← hkp] at gp hpb hkw ⊢
        clear hkp
        generalize hwa : w5.alloc (.cells #[.int .i64 0, .int .i64 0, .int .i64 0, .slice none 0 0] 39 (0, 0)) = w6 at *
        have D6 : Hid (Duo w6 w.heap.size b vb (.slice oi S.length ci) (1 + q) num lost L S) := hD5
        have HPB : Hid (b ≠ kp ∧ ∀ g, vb.ownBlock = some g → g ≠ kp) := hpb
        clear hpb
        clear hwa hD5 qa HD gk hba hza
        have HKW : Hid (w.heap.size ≤ kp) := hkw
        clear hkw
        have hz6 := hb5.size
        have qa := blk5 gk5
        refine (HKk.out w6).mono ?_
        rintro e w7 ⟨rfl, rfl⟩
        go_wp2_with fail
        by_cases hal : at_ < S.length
        · as_aux_lemma =>
            have hatL : at_ < L.length := by have := HLS.out; omega
            refine (take_ok w.heap.size b vb (1 + q) num lost L at_ hatL w7 D6.out.1 hz6 hL5 HQ.out.2.2.1).mono ?_
            rintro e w8 ⟨vb', adp, capp, rfl, hB8, hK8, _, hdp, hfr⟩
            have hD8 := D6.out.stepB hB8 hK8
            have hb8 := hb5.trans (hK8.below hz6 D6.out.1.mine_ge)
            have hkp7 := blk_lt gp
            have gp8 := hK8.blk gp (fun hm => hm.elim (fun e => HPB.out.1 e.symm) (fun e => HPB.out.2 _ e rfl))
            have gk8 := hK8.blk gk5 (D6.out.1.not_of gk5 (by decide) (by decide))
            have hpr : ∀ g, vb'.ownBlock = some g → g ≠ kp := fun g hg e => by have := hfr g hg; omega
            have hkbp : kb ≠ kp := fun e => by
              subst e
              rw [gk8] at gp8
              simp at gp8
            obtain ⟨gi, rfl, s0, s1⟩ := own_snt hD8.2 at_ hal
            have hgi := (hD8.2.lt gi rfl).2
            have hgkp : gi ≠ kp := fun e => own_ne hD8.2 gp8 (by decide) (by subst e; rfl)
            obtain ⟨L', hL'⟩ : ∃ x, x = L.take at_ ++ L.drop (at_ + 1) := ⟨_, rfl⟩
            obtain ⟨S', hS'⟩ : ∃ x, x = S.take at_ ++ S.drop (at_ + 1) := ⟨_, rfl⟩
            have HMt : Hid (Match l L' S') := by rw [hL', hS']; exact HQ.out.2.1.drop at_
            have HOk : Hid (∀ p ∈ L', p.Ok) := fun p hp => by
              rw [hL'] at hp
              exact HQ.out.2.2.1 p ((List.mem_append.1 hp).elim List.mem_of_mem_take List.mem_of_mem_drop)
            have HLr : Hid ((L'.length : Int) ≤ 1 + q) := by rw [hL', List.length_append, List.length_take, List.length_drop]; show _ ≤ _; omega
            have HSe : Hid (S.take at_ ++ S.drop (at_ + 1) = S') := hS'.symm
            rw [← hL'] at hD8
            obtain ⟨hnlt, en, ef, et, es⟩ := HQ.out.2.1.get at_ hatL hal
            obtain ⟨hok2, ab2, ao2, hoa, hab2, z0, z1, z2, z3, z4⟩ := HO.out S[at_].2 hnlt
            simp only [Option.some.injEq, Addr.mk.injEq, and_true] at hoa
            obtain ⟨rfl, rfl⟩ := hoa
            have hrd2 := hok2.2.2.2.2.1
            rw [← en] at s0
            rw [← ef] at z1
            rw [← et] at z2
            rw [← es] at z4 hrd2
            obtain ⟨ko, hko⟩ : ∃ x, x = l[S[at_].2].kind := ⟨_, rfl⟩
            obtain ⟨io, hio⟩ : ∃ x, x = l[S[at_].2].i := ⟨_, rfl⟩
            obtain ⟨a2, ha2⟩ : ∃ x, x = l[S[at_].2].ad := ⟨_, rfl⟩
            obtain ⟨c2, hc2⟩ : ∃ x, x = l[S[at_].2].cap := ⟨_, rfl⟩
            rw [← hko] at z0
            rw [← hio] at z3
            rw [← ha2] at hrd2
            rw [← ha2, ← hc2] at z4
            obtain ⟨n, hn⟩ : ∃ n, n = S[at_].2 := ⟨_, rfl⟩
            rw [← hn] at s1 z0 z1 z2 z3 z4
            have hnl : n < l.length := by rw [hn]; exact hnlt
            have HY : Hid (∀ w', Below w.heap.size w w' → w'.cell? ⟨ab, ao + n * 5, none⟩ = some (.int .i64 ko) ∧ w'.cell? ⟨ab, ao + n * 5 + 1, none⟩ = some (.int .i64 L[at_].frm) ∧ w'.cell? ⟨ab, ao + n * 5 + 2, none⟩ = some (.int .i64 L[at_].to) ∧ w'.cell? ⟨ab, ao + n * 5 + 3, none⟩ = some (.int .i64 io) ∧ w'.cell? ⟨ab, ao + n * 5 + 4, none⟩ = some (.slice a2 L[at_].s.size c2)) := fun w' hc =>
              ⟨(hc.cell (p := ⟨ab, ao + n * 5, none⟩) hab2).trans z0, (hc.cell (p := ⟨ab, ao + n * 5 + 1, none⟩) hab2).trans z1, (hc.cell (p := ⟨ab, ao + n * 5 + 2, none⟩) hab2).trans z2, (hc.cell (p := ⟨ab, ao + n * 5 + 3, none⟩) hab2).trans z3, (hc.cell (p := ⟨ab, ao + n * 5 + 4, none⟩) hab2).trans z4⟩
            have HR2 : Hid (Reads w a2 L[at_].s) := hrd2
            have HDt : Hid (Dat w8 w7.heap.size adp L[at_].s) := hdp
            have D8x : Hid (Duo w8 w.heap.size b vb' (.slice (some ⟨gi, 0, none⟩) S.length ci) (1 + q) num lost L' S ∧ (∀ g, vb'.ownBlock = some g → g ≠ kp)) := ⟨hD8, hpr⟩
            have HG : Hid (w8.heap[kb]? = some (.cells #[.int .i64 kind, .int .i64 frm, .int .i64 to, .int .i64 ii, .slice ad st.size cap] 32 (0, 0)) ∧ w8.heap[kp]? = some (.cells #[.int .i64 0, .int .i64 0, .int .i64 0, .slice none 0 0] 39 (0, 0))) := ⟨gk8, gp8⟩
            have qp := blk4 gp8
            clear hB8 hK8 hD8 gp gk5 hb5 D6 hz6 hL' hS' hn qa hdp hfr hpr gp8 gk8 en ef et es z0 z1 z2 z3 z4 hok2 hrd2 hko hio ha2 hc2 hnlt hab2
            go_wp2_with fail
            clear qp s0 s1
            have KZ : Keep (fun k => k = kp) w8 ((((w8.setCell ⟨kp, 0, none⟩ (.int .i64 L[at_].num)).setCell ⟨kp, 1, none⟩ (.int .i64 L[at_].frm)).setCell ⟨kp, 2, none⟩ (.int .i64 L[at_].to)).setCell ⟨kp, 3, none⟩ (.slice adp L[at_].s.size capp)) :=
              (((Keep.set _ ⟨kp, 0, none⟩ _).trans (Keep.set _ ⟨kp, 1, none⟩ _)).trans (Keep.set _ ⟨kp, 2, none⟩ _)).trans (Keep.set _ ⟨kp, 3, none⟩ _)
            have Dz1 := D8x.out.1.other HG.out.2 HPB.out.1 D8x.out.2 KZ
            have gp8 := HG.out.2
            have gpz : ((((w8.setCell ⟨kp, 0, none⟩ (.int .i64 L[at_].num)).setCell ⟨kp, 1, none⟩ (.int .i64 L[at_].frm)).setCell ⟨kp, 2, none⟩ (.int .i64 L[at_].to)).setCell ⟨kp, 3, none⟩ (.slice adp L[at_].s.size capp)).heap[kp]? = some (.cells #[.int .i64 L[at_].num, .int .i64 L[at_].frm, .int .i64 L[at_].to, .slice adp L[at_].s.size capp] 39 (0, 0)) := by (repeat (first | (with_reducible assumption) | (with_reducible exact Below.refl _ _) | (with_reducible refine heap_drew ?_) | (focus ((with_reducible refine heap_new ?_) ; simp ; done)) | (with_reducible apply heap_set_to) | (focus ((with_reducible refine heap_set_ne ?_ ?_ _) ; rotate_left ; (focus (first | omega | (simp ; done) | (simp ; omega))))) | (with_reducible refine heap_old ?_) | (with_reducible refine Below.drew ?_) | (with_reducible refine below_set ?_ _ _) | (focus ((with_reducible refine Below.setCell ?_ ?_ _) ; rotate_left ; (focus (first | omega | (simp ; done) | (simp ; omega))))) | (focus ((with_reducible refine Below.alloc ?_ ?_ _) ; rotate_left ; (focus (first | omega | (simp ; done) | (simp ; omega))))) | (with_reducible rfl) | (focus (simp ; done))))
            have gkz := KZ.blk HG.out.1 hkbp
            have hbz1 := hb8.trans (KZ.below hb8.size (fun k e => by have := HKW.out; omega))
            have RD := ((((HDt.out.set (p := ⟨kp, 0, none⟩) hkp7 (.int .i64 L[at_].num)).set (p := ⟨kp, 1, none⟩) hkp7 (.int .i64 L[at_].frm)).set (p := ⟨kp, 2, none⟩) hkp7 (.int .i64 L[at_].to)).set (p := ⟨kp, 3, none⟩) hkp7 (.slice adp L[at_].s.size capp)).reads
            have gx : (((((w8.setCell ⟨kp, 0, none⟩ (.int .i64 L[at_].num)).setCell ⟨kp, 1, none⟩ (.int .i64 L[at_].frm)).setCell ⟨kp, 2, none⟩ (.int .i64 L[at_].to)).setCell ⟨kp, 3, none⟩ (.slice adp L[at_].s.size capp)).alloc (.cells #[.int .i64 L[at_].num, .int .i64 (n : Int)] 37 (0, 0))).heap[w8.heap.size]? = some (.cells #[.int .i64 L[at_].num, .int .i64 (n : Int)] 37 (0, 0)) := heap_new (by simp)
            have Dz0 := Dz1.below (below_alloc_self ((((w8.setCell ⟨kp, 0, none⟩ (.int .i64 L[at_].num)).setCell ⟨kp, 1, none⟩ (.int .i64 L[at_].frm)).setCell ⟨kp, 2, none⟩ (.int .i64 L[at_].to)).setCell ⟨kp, 3, none⟩ (.slice adp L[at_].s.size capp)) (.cells #[.int .i64 L[at_].num, .int .i64 (n : Int)] 37 (0, 0)))
            have hbz := hbz1.alloc hbz1.size (.cells #[.int .i64 L[at_].num, .int .i64 (n : Int)] 37 (0, 0))
            have gpz2 := heap_old (o := (.cells #[.int .i64 L[at_].num, .int .i64 (n : Int)] 37 (0, 0))) gpz
            have gkz2 := heap_old (o := (.cells #[.int .i64 L[at_].num, .int .i64 (n : Int)] 37 (0, 0))) gkz
            have RD2 := RD.below (below_alloc_self ((((w8.setCell ⟨kp, 0, none⟩ (.int .i64 L[at_].num)).setCell ⟨kp, 1, none⟩ (.int .i64 L[at_].frm)).setCell ⟨kp, 2, none⟩ (.int .i64 L[at_].to)).setCell ⟨kp, 3, none⟩ (.slice adp L[at_].s.size capp)) (.cells #[.int .i64 L[at_].num, .int .i64 (n : Int)] 37 (0, 0)))
            obtain ⟨kx, hkx⟩ : ∃ g, g = w8.heap.size := ⟨_, rfl⟩
            rw [← hkx] at gx ⊢
            clear hkx
            generalize hwz : ((((w8.setCell ⟨kp, 0, none⟩ (.int .i64 L[at_].num)).setCell ⟨kp, 1, none⟩ (.int .i64 L[at_].frm)).setCell ⟨kp, 2, none⟩ (.int .i64 L[at_].to)).setCell ⟨kp, 3, none⟩ (.slice adp L[at_].s.size capp)).alloc (.cells #[.int .i64 L[at_].num, .int .i64 (n : Int)] 37 (0, 0)) = wz at *
            have Dz : Hid (Duo wz w.heap.size b vb' (.slice (some ⟨gi, 0, none⟩) S.length ci) (1 + q) num lost L' S) := Dz0
            have HRD : Hid (Reads wz adp L[at_].s) := RD2
            have hzz := hbz.size
            clear hwz Dz0 Dz1 D8x HG KZ gpz gkz hbz1 RD RD2 gp8 hb8 HDt
            have HCI : Hid (∀ w', Below wz.heap.size wz w' → ∀ j, j < S.length * 2 → w'.cell? ⟨gi, j, none⟩ = (sflat S)[j]?) := fun w' hc j hj => (own_below Dz.out.2 hc).cellAt j hj
            refine cut (fun a a' w' => ∃ v81 v82 v83 v84 v85 v86 v87 v88 vi', a' = (((((((((a.put (some 81) v81).put (some 82) v82).put (some 83) v83).put (some 84) v84).put (some 85) v85).put (some 86) v86).put (some 87) v87).put (some 88) v88).put (some 89) vi').put (some 7) vi' ∧ (∃ oi' ci', vi' = .slice oi' S'.length ci') ∧
              Duo w' w.heap.size b vb' vi' (1 + q) num lost L' S' ∧ Below wz.heap.size wz w') ?_ ?_
            · by_cases hcm : at_ + 1 = ci
              · have hSl : S.length - (at_ + 1) = 0 := by omega
                have HSl : Hid (S.length = at_ + 1) := by show S.length = at_ + 1; omega
                subst hcm
                clear hSl
                have hSt : Stable (fun wq : World => (Below wz.heap.size wz wq)) := by repeat (first | exact stable_ext _ | exact stable_blk _ _ | exact stable_true | (refine stable_bel ?_ ; (focus (first | (simp [World.size_setCell] ; done) | (simp [World.setCell] ; done)))) | refine Stable.and ?_ ?_)
                refine wp_region_x [0, 1, 2, 4, 5, 6, 7, 3, 8, 9] [0, 0, 0, 3, 0, 0, 0, 0, 3, 0] (fun wq => (Below wz.heap.size wz wq)) (by kernel_rfl) (by kernel_rfl) ?_ ?_
                · (first | trivial | (repeat (first | (with_reducible assumption) | (with_reducible exact Below.refl _ _) | (with_reducible refine heap_drew ?_) | (focus ((with_reducible refine heap_new ?_) ; simp ; done)) | (with_reducible apply heap_set_to) | (focus ((with_reducible refine heap_set_ne ?_ ?_ _) ; rotate_left ; (focus (first | omega | (simp ; done) | (simp ; omega))))) | (with_reducible refine heap_old ?_) | (with_reducible refine Below.drew ?_) | (with_reducible refine below_set ?_ _ _) | (focus ((with_reducible refine Below.setCell ?_ ?_ _) ; rotate_left ; (focus (first | omega | (simp ; done) | (simp ; omega))))) | (focus ((with_reducible refine Below.alloc ?_ ?_ _) ; rotate_left ; (focus (first | omega | (simp ; done) | (simp ; omega))))) | (with_reducible rfl) | (focus (simp ; done)))))
                simp only [List.map_cons, List.map_nil, List.getD_cons_zero, List.getD_cons_succ]
                (refine x_pure rfl _ ?_ rfl (by simp) ?_ ?_ ; rotate_left ; · (intro wq K hK ; go_wp2_with fail ; exact rfl))
                simp only [Act.put, List.setIfInBounds_toArray, List.set_cons_succ, List.set_cons_zero]
                (refine x_pure rfl _ ?_ rfl (by simp) ?_ ?_ ; rotate_left ; · (intro wq K hK ; go_wp2_with fail ; exact rfl))
                simp only [Act.put, List.setIfInBounds_toArray, List.set_cons_succ, List.set_cons_zero]
                (refine x_pure rfl _ ?_ rfl (by simp) ?_ ?_ ; rotate_left ; · (intro wq K hK ; go_wp2_with fail ; exact rfl))
                simp only [Act.put, List.setIfInBounds_toArray, List.set_cons_succ, List.set_cons_zero]
                (refine x_pure rfl _ ?_ rfl (by simp) ?_ ?_ ; rotate_left ; · (intro wq K hK ; go_wp2_with fail ; exact rfl))
                simp only [Act.put, List.setIfInBounds_toArray, List.set_cons_succ, List.set_cons_zero]
                (refine x_pure rfl _ ?_ rfl (by simp) ?_ ?_ ; rotate_left ; · (intro wq K hK ; go_wp2_with fail ; exact rfl))
                simp only [Act.put, List.setIfInBounds_toArray, List.set_cons_succ, List.set_cons_zero]
                (refine x_pure rfl _ ?_ rfl (by simp) ?_ ?_ ; rotate_left ; · (intro wq K hK ; go_wp2_with fail ; exact rfl))
                simp only [Act.put, List.setIfInBounds_toArray, List.set_cons_succ, List.set_cons_zero]
                (refine x_pure rfl _ ?_ rfl (by simp) ?_ ?_ ; rotate_left ; · (intro wq K hK ; go_wp2_with fail ; exact rfl))
                simp only [Act.put, List.setIfInBounds_toArray, List.set_cons_succ, List.set_cons_zero]
                refine x_write rfl ?_
                intro wq hD K hK ; have hc := hD
                have hci := HCI.out _ hc
                refine wp_append_any _ (.const (.slice none 0 0)) (.tmp 83) 29 rfl wz.heap.size 37 i0 _ 2 16 Try.underlying29 HI.out.1 HI.out.2.1 HI.out.2.2.1 HI.out.2.2.2 rfl (by decide) (.slice none 0 0) 0 [] rfl (World.ownsRow_nil _ _ _ _) (some ⟨gi, 0, none⟩) at_ (at_+1) (sflat (S.take at_)) rfl (by rw [sflat_length, List.length_take]; omega) (fun h => by cases h) (snt_take hci at_ hal) (sflat_one _) ?_ ?_ ?_ ?_
                · unfold maxLen; omega
                · omega
                · exact hc.size
                intro v1 wq1 hown1 hgrow1 _
                have hc1 : Below wz.heap.size wz wq1 := hc.grown hgrow1 hc.size (fun y hy => by cases hy)
                have hO1 : wq1.ownsRow wz.heap.size 37 2 v1 at_ (sflat (S.take at_)) := by simpa using hown1
                have hfr1 : ∀ g, v1.ownBlock = some g → wz.heap.size ≤ g := fun g hg => (hO1.lt g hg).1
                have HO1 : Hid (wq1.ownsRow w.heap.size 37 2 v1 at_ (sflat (S.take at_))) := own_mono hO1 hzz
                clear hown1 hgrow1 hci hO1
                refine hK _ _ ?_
                try simp only [Act.put, List.setIfInBounds_toArray, List.set_cons_succ, List.set_cons_zero]
                refine x_write rfl ?_
                rintro wq1 rfl K hK
                have hci := HCI.out _ hc1
                refine wp_append_any _ (.tmp 84) (.tmp 88) 29 rfl w.heap.size 37 i0 _ 2 16 Try.underlying29 HI.out.1 HI.out.2.1 HI.out.2.2.1 HI.out.2.2.2 rfl (by decide) v1 at_ (sflat (S.take at_)) rfl HO1.out (some ⟨gi,0,none⟩) 0 0 (sflat (S.drop (at_ + 1))) rfl (by rw [sflat_length, List.length_drop]; try omega) (fun h => by cases h) ((snt_drop0 at_ HSl.out _)) (sflat_one _) ?_ ?_ ?_ ?_
                · unfold maxLen; omega
                · omega
                · exact Nat.le_trans hzz hc1.size
                intro v2 wq2 hown2 hgrow2 _
                have hc2 : Below wz.heap.size wz wq2 := hc1.grown hgrow2 hc1.size (fun y hy => hfr1 y hy)
                have hO2 : wq2.ownsRow w.heap.size 37 2 v2 S'.length (sflat S') := by rw [← HSe.out, sflat_append, List.length_append, List.length_take, List.length_drop, Nat.min_eq_left (by omega)]; (rw [show S.length - (at_ + 1) = 0 by omega]); exact hown2
                have HO2 : Hid (Duo wq2 w.heap.size b vb' v2 (1 + q) num lost L' S' ∧ Below wz.heap.size wz wq2) := ⟨⟨Dz.out.1.below hc2, hO2⟩, hc2⟩
                obtain ⟨oi', ci', rfl, _, _⟩ := row_any hO2
                clear hown2 hgrow2 hci hO2 hc2 hfr1 HO1 hc1
                refine hK _ _ ?_
                try simp only [Act.put, List.setIfInBounds_toArray, List.set_cons_succ, List.set_cons_zero]
                (refine x_pure rfl _ ?_ rfl (by simp) ?_ ?_ ; rotate_left ; · (intro wq K hK ; go_wp2_with fail ; exact rfl))
                simp only [Act.put, List.setIfInBounds_toArray, List.set_cons_succ, List.set_cons_zero]
                first | refine x_nil ?_ | refine x_end ?_
                rintro wq2 rfl
                first | exact ⟨trivial, _, _, _, _, _, _, _, _, _, rfl, ⟨_, _, rfl⟩, HO2.out⟩ | exact ⟨_, _, _, _, _, _, _, _, _, rfl, ⟨_, _, rfl⟩, HO2.out⟩
              · have hSt : Stable (fun wq : World => (Below wz.heap.size wz wq)) := by repeat (first | exact stable_ext _ | exact stable_blk _ _ | exact stable_true | (refine stable_bel ?_ ; (focus (first | (simp [World.size_setCell] ; done) | (simp [World.setCell] ; done)))) | refine Stable.and ?_ ?_)
                refine wp_region_x [0, 1, 2, 4, 5, 6, 7, 3, 8, 9] [0, 0, 0, 3, 0, 0, 0, 0, 3, 0] (fun wq => (Below wz.heap.size wz wq)) (by kernel_rfl) (by kernel_rfl) ?_ ?_
                · (first | trivial | (repeat (first | (with_reducible assumption) | (with_reducible exact Below.refl _ _) | (with_reducible refine heap_drew ?_) | (focus ((with_reducible refine heap_new ?_) ; simp ; done)) | (with_reducible apply heap_set_to) | (focus ((with_reducible refine heap_set_ne ?_ ?_ _) ; rotate_left ; (focus (first | omega | (simp ; done) | (simp ; omega))))) | (with_reducible refine heap_old ?_) | (with_reducible refine Below.drew ?_) | (with_reducible refine below_set ?_ _ _) | (focus ((with_reducible refine Below.setCell ?_ ?_ _) ; rotate_left ; (focus (first | omega | (simp ; done) | (simp ; omega))))) | (focus ((with_reducible refine Below.alloc ?_ ?_ _) ; rotate_left ; (focus (first | omega | (simp ; done) | (simp ; omega))))) | (with_reducible rfl) | (focus (simp ; done)))))
                simp only [List.map_cons, List.map_nil, List.getD_cons_zero, List.getD_cons_succ]
                (refine x_pure rfl _ ?_ rfl (by simp) ?_ ?_ ; rotate_left ; · (intro wq K hK ; go_wp2_with fail ; exact rfl))
                simp only [Act.put, List.setIfInBounds_toArray, List.set_cons_succ, List.set_cons_zero]
                (refine x_pure rfl _ ?_ rfl (by simp) ?_ ?_ ; rotate_left ; · (intro wq K hK ; go_wp2_with fail ; exact rfl))
                simp only [Act.put, List.setIfInBounds_toArray, List.set_cons_succ, List.set_cons_zero]
                (refine x_pure rfl _ ?_ rfl (by simp) ?_ ?_ ; rotate_left ; · (intro wq K hK ; go_wp2_with fail ; exact rfl))
                simp only [Act.put, List.setIfInBounds_toArray, List.set_cons_succ, List.set_cons_zero]
                (refine x_pure rfl _ ?_ rfl (by simp) ?_ ?_ ; rotate_left ; · (intro wq K hK ; go_wp2_with fail ; exact rfl))
                simp only [Act.put, List.setIfInBounds_toArray, List.set_cons_succ, List.set_cons_zero]
                (refine x_pure rfl _ ?_ rfl (by simp) ?_ ?_ ; rotate_left ; · (intro wq K hK ; go_wp2_with fail ; exact rfl))
                simp only [Act.put, List.setIfInBounds_toArray, List.set_cons_succ, List.set_cons_zero]
                (refine x_pure rfl _ ?_ rfl (by simp) ?_ ?_ ; rotate_left ; · (intro wq K hK ; go_wp2_with fail ; exact rfl))
                simp only [Act.put, List.setIfInBounds_toArray, List.set_cons_succ, List.set_cons_zero]
                (refine x_pure rfl _ ?_ rfl (by simp) ?_ ?_ ; rotate_left ; · (intro wq K hK ; go_wp2_with fail ; exact rfl))
                simp only [Act.put, List.setIfInBounds_toArray, List.set_cons_succ, List.set_cons_zero]
                refine x_write rfl ?_
                intro wq hD K hK ; have hc := hD
                have hci := HCI.out _ hc
                refine wp_append_any _ (.const (.slice none 0 0)) (.tmp 83) 29 rfl wz.heap.size 37 i0 _ 2 16 Try.underlying29 HI.out.1 HI.out.2.1 HI.out.2.2.1 HI.out.2.2.2 rfl (by decide) (.slice none 0 0) 0 [] rfl (World.ownsRow_nil _ _ _ _) (some ⟨gi, 0, none⟩) at_ ci (sflat (S.take at_)) rfl (by rw [sflat_length, List.length_take]; omega) (fun h => by cases h) (snt_take hci at_ hal) (sflat_one _) ?_ ?_ ?_ ?_
                · unfold maxLen; omega
                · omega
                · exact hc.size
                intro v1 wq1 hown1 hgrow1 _
                have hc1 : Below wz.heap.size wz wq1 := hc.grown hgrow1 hc.size (fun y hy => by cases hy)
                have hO1 : wq1.ownsRow wz.heap.size 37 2 v1 at_ (sflat (S.take at_)) := by simpa using hown1
                have hfr1 : ∀ g, v1.ownBlock = some g → wz.heap.size ≤ g := fun g hg => (hO1.lt g hg).1
                have HO1 : Hid (wq1.ownsRow w.heap.size 37 2 v1 at_ (sflat (S.take at_))) := own_mono hO1 hzz
                clear hown1 hgrow1 hci hO1
                refine hK _ _ ?_
                try simp only [Act.put, List.setIfInBounds_toArray, List.set_cons_succ, List.set_cons_zero]
                refine x_write rfl ?_
                rintro wq1 rfl K hK
                have hci := HCI.out _ hc1
                refine wp_append_any _ (.tmp 84) (.tmp 88) 29 rfl w.heap.size 37 i0 _ 2 16 Try.underlying29 HI.out.1 HI.out.2.1 HI.out.2.2.1 HI.out.2.2.2 rfl (by decide) v1 at_ (sflat (S.take at_)) rfl HO1.out (some ⟨gi,(at_+1)*2,none⟩) (S.length-(at_+1)) (ci-(at_+1)) (sflat (S.drop (at_ + 1))) rfl (by rw [sflat_length, List.length_drop]; try omega) (fun h => by cases h) ((snt_drop hci at_)) (sflat_one _) ?_ ?_ ?_ ?_
                · unfold maxLen; omega
                · omega
                · exact Nat.le_trans hzz hc1.size
                intro v2 wq2 hown2 hgrow2 _
                have hc2 : Below wz.heap.size wz wq2 := hc1.grown hgrow2 hc1.size (fun y hy => hfr1 y hy)
                have hO2 : wq2.ownsRow w.heap.size 37 2 v2 S'.length (sflat S') := by rw [← HSe.out, sflat_append, List.length_append, List.length_take, List.length_drop, Nat.min_eq_left (by omega)]; skip; exact hown2
                have HO2 : Hid (Duo wq2 w.heap.size b vb' v2 (1 + q) num lost L' S' ∧ Below wz.heap.size wz wq2) := ⟨⟨Dz.out.1.below hc2, hO2⟩, hc2⟩
                obtain ⟨oi', ci', rfl, _, _⟩ := row_any hO2
                clear hown2 hgrow2 hci hO2 hc2 hfr1 HO1 hc1
                refine hK _ _ ?_
                try simp only [Act.put, List.setIfInBounds_toArray, List.set_cons_succ, List.set_cons_zero]
                (refine x_pure rfl _ ?_ rfl (by simp) ?_ ?_ ; rotate_left ; · (intro wq K hK ; go_wp2_with fail ; exact rfl))
                simp only [Act.put, List.setIfInBounds_toArray, List.set_cons_succ, List.set_cons_zero]
                first | refine x_nil ?_ | refine x_end ?_
                rintro wq2 rfl
                first | exact ⟨trivial, _, _, _, _, _, _, _, _, _, rfl, ⟨_, _, rfl⟩, HO2.out⟩ | exact ⟨_, _, _, _, _, _, _, _, _, rfl, ⟨_, _, rfl⟩, HO2.out⟩
            rintro _ wr2 ⟨v81, v82, v83, v84, v85, v86, v87, v88, vi', rfl, ⟨oi', ci', rfl⟩, hDr, hbr2⟩
            simp only [Act.put, List.setIfInBounds_toArray, List.set_cons_succ, List.set_cons_zero]
            have D8 : Hid (Duo wr2 w.heap.size b vb' (.slice oi' S'.length ci') (1 + q) num lost L' S') := hDr
            clear hDr HCI
            have gkr := blk_below gkz2 hbr2
            have gpr := blk_below gpz2 hbr2
            have gxr := blk_below gx hbr2
            have hbr3 := below_back hbz hbz.size hbr2
            have HRr : Hid (Reads wr2 adp L[at_].s) := HRD.out.below hbr2
            have qk := blk5 gkr
            clear gkz2 gpz2 gx hbr2 Dz HRD
            go_wp2_with fail
            refine (HKk.out wr2).mono ?_
            rintro e wq3 ⟨rfl, rfl⟩
            have qx := blk2 gxr
            have qp := blk4 gpr
            have qy := HY.out wq3 hbr3
            have hz3 := hbr3.size
            have cva : (convert 30 9 (.slice adp L[at_].s.size capp)).run Try.prog (wq3.alloc (.cells #[.int .i64 ko, .int .i64 L[at_].frm, .int .i64 L[at_].to, .int .i64 io, .slice a2 L[at_].s.size c2] 32 (0, 0))) = .ok (.string L[at_].s) (wq3.alloc (.cells #[.int .i64 ko, .int .i64 L[at_].frm, .int .i64 L[at_].to, .int .i64 io, .slice a2 L[at_].s.size c2] 32 (0, 0))) := conv_reads (HRr.out.below (below_alloc_self wq3 (.cells #[.int .i64 ko, .int .i64 L[at_].frm, .int .i64 L[at_].to, .int .i64 io, .slice a2 L[at_].s.size c2] 32 (0, 0))))
            have cvb : (convert 30 9 (.slice a2 L[at_].s.size c2)).run Try.prog (wq3.alloc (.cells #[.int .i64 ko, .int .i64 L[at_].frm, .int .i64 L[at_].to, .int .i64 io, .slice a2 L[at_].s.size c2] 32 (0, 0))) = .ok (.string L[at_].s) (wq3.alloc (.cells #[.int .i64 ko, .int .i64 L[at_].frm, .int .i64 L[at_].to, .int .i64 io, .slice a2 L[at_].s.size c2] 32 (0, 0))) := conv_reads (HR2.out.below (below_back hbr3 hz3 (below_alloc_self wq3 (.cells #[.int .i64 ko, .int .i64 L[at_].frm, .int .i64 L[at_].to, .int .i64 io, .slice a2 L[at_].s.size c2] 32 (0, 0)))))
            have D9 := D8.out.below (below_alloc_self wq3 (.cells #[.int .i64 ko, .int .i64 L[at_].frm, .int .i64 L[at_].to, .int .i64 io, .slice a2 L[at_].s.size c2] 32 (0, 0)))
            have hb9 := hbr3.alloc hz3 (.cells #[.int .i64 ko, .int .i64 L[at_].frm, .int .i64 L[at_].to, .int .i64 io, .slice a2 L[at_].s.size c2] 32 (0, 0))
            clear qk gkr gpr gxr HRr
            go_wp2_with fail
            clear qx qp qy cva cvb
            generalize hwE : wq3.alloc (.cells #[.int .i64 ko, .int .i64 L[at_].frm, .int .i64 L[at_].to, .int .i64 io, .slice a2 L[at_].s.size c2] 32 (0, 0)) = wE at *
            clear hwE D8
            have D8 : Hid (Duo wE w.heap.size b vb' (.slice oi' S'.length ci') (1 + q) num lost L' S') := D9
            clear D9
            have hmt : Match l L' S' := HMt.out
            have HLn : Hid (Calls Try.prog 14 #[.pointer (some ⟨b, 0, none⟩)] wE fun e w' => e = .returned (.int .i64 S'.length) ∧ w' = wE) := by
              have h := len_any w.heap.size b _ (1 + q) num lost L' wE D8.out.1
              rw [show (L').length = S'.length by rw [hmt.length]; skip] at h
              exact h
            clear hmt
            go_wp2_with fail
            refine HLn.out.mono ?_
            rintro e w9 ⟨rfl, rfl⟩
            clear HLn
            go_wp2_with fail
            refine (lost_any w.heap.size b _ (1 + q) num lost L' w9 D8.out.1).mono ?_
            rintro e w10 ⟨rfl, rfl⟩
            go_wp2_with fail
            go_roundw
            case rel =>
              obtain ⟨_, r2, r3, r4, r5, r6⟩ := HQ.out
              exact ⟨i + 1, _, num, lost, L', S', by omega, by go_num, by go_num, by go_num, ⟨D8.out, HMt.out, HOk.out, HLr.out, by omega, by omega⟩, hb9⟩
            case measure => simp [intOf]; omega
        · as_aux_lemma =>
            refine (take_none w.heap.size b vb (1 + q) num lost L (at_ : Int) w7 D6.out.1 (by have := HLS.out; omega)).mono ?_
            rintro e w8 ⟨rfl, hb8⟩
            have D8a := D6.out.below hb8
            have hb8w := below_back hb5 hb5.size hb8
            have gp8 := blk_below gp hb8
            have qp := blk4 gp8
            have hkw : w.heap.size ≤ kp := HKW.out
            clear qa gk5 gp hb8 hb5 D6 hz6
            have HX : Hid (Duo w8 w.heap.size b vb (.slice oi S.length ci) (1 + q) num lost L S ∧ Below w.heap.size w w8 ∧ w8.heap[kp]? = some (.cells #[.int .i64 0, .int .i64 0, .int .i64 0, .slice none 0 0] 39 (0, 0))) := ⟨D8a, hb8w, gp8⟩
            clear D8a hb8w gp8
            go_wp2_with fail
            clear qp
            have KZ : Keep (fun k => k = kp) w8 ((((w8.setCell ⟨kp, 0, none⟩ (.int .i64 0)).setCell ⟨kp, 1, none⟩ (.int .i64 0)).setCell ⟨kp, 2, none⟩ (.int .i64 0)).setCell ⟨kp, 3, none⟩ (.slice none 0 0)) :=
              (((Keep.set _ ⟨kp, 0, none⟩ _).trans (Keep.set _ ⟨kp, 1, none⟩ _)).trans (Keep.set _ ⟨kp, 2, none⟩ _)).trans (Keep.set _ ⟨kp, 3, none⟩ _)
            have D8 := HX.out.1.other HX.out.2.2 HPB.out.1 HPB.out.2 KZ
            have hb8 := HX.out.2.1.trans (KZ.below HX.out.2.1.size (fun k e => by omega))
            generalize hwz : (((w8.setCell ⟨kp, 0, none⟩ (.int .i64 0)).setCell ⟨kp, 1, none⟩ (.int .i64 0)).setCell ⟨kp, 2, none⟩ (.int .i64 0)).setCell ⟨kp, 3, none⟩ (.slice none 0 0) = wz at *
            have D8h : Hid (Duo wz w.heap.size b vb (.slice oi S.length ci) (1 + q) num lost L S) := D8
            clear hwz KZ D8
            have D8 := D8h
            have hmt : Match l L S := HQ.out.2.1
            have HLn : Hid (Calls Try.prog 14 #[.pointer (some ⟨b, 0, none⟩)] wz fun e w' => e = .returned (.int .i64 S.length) ∧ w' = wz) := by
              have h := len_any w.heap.size b _ (1 + q) num lost L wz D8.out.1
              rw [show (L).length = S.length by rw [hmt.length]; skip] at h
              exact h
            clear hmt
            go_wp2_with fail
            refine HLn.out.mono ?_
            rintro e w9 ⟨rfl, rfl⟩
            clear HLn
            go_wp2_with fail
            refine (lost_any w.heap.size b _ (1 + q) num lost L w9 D8.out.1).mono ?_
            rintro e w10 ⟨rfl, rfl⟩
            go_wp2_with fail
            go_roundw
            case rel =>
              obtain ⟨_, r2, r3, r4, r5, r6⟩ := HQ.out
              exact ⟨i + 1, _, num, lost, L, S, by omega, by go_num, by go_num, by go_num, ⟨D8.out, HQ.out.2.1, HQ.out.2.2.1, HQ.out.2.2.2.1, by omega, by omega⟩, hb8⟩
            case measure => simp [intOf]; omega
      · have hmod := Int.emod_nonneg ii (show ((S.length : Int) + 1) ≠ 0 by omega)
        have hmod2 := Int.emod_lt_of_pos ii (show (0 : Int) < (S.length : Int) + 1 by omega)
        obtain ⟨at_, hat⟩ : ∃ a : Nat, ii % ((S.length : Int) + 1) = a := Int.eq_ofNat_of_zero_le hmod
        have CAt := fun w' => among_any ii ((S.length : Int) + 1) hir (by omega) (by omega) w'
        rw [hat] at CAt hmod2
        have HAt : Hid (∀ w', Calls Try.prog 9 #[.int .i64 ii, .int .i64 ((S.length : Int) + 1)] w' fun e w'' => e = .returned (.int .i64 (at_ : Int)) ∧ w'' = w') := CAt
        have HKk : Hid (∀ w', Calls Try.prog 9 #[.int .i64 kind, .int .i64 4] w' fun e w'' => e = .returned (.int .i64 (kind % 4)) ∧ w'' = w') := fun w' => among_any kind 4 hkr (by omega) (by omega) w'
        have hatS : at_ ≤ S.length := by omega
        clear CAt hat hmod hmod2
        go_wp2_with fail
        refine (HAt.out wx).mono ?_
        rintro e w5 ⟨rfl, rfl⟩
        go_wp2_with fail
        have gp : (w5.alloc (.cells #[.int .i64 0, .int .i64 0, .int .i64 0, .slice none 0 0] 39 (0, 0))).heap[w5.heap.size]? = some (.cells #[.int .i64 0, .int .i64 0, .int .i64 0, .slice none 0 0] 39 (0, 0)) := by (repeat (first | (with_reducible assumption) | (with_reducible exact Below.refl _ _) | (with_reducible refine heap_drew ?_) | (focus ((with_reducible refine heap_new ?_) ; simp ; done)) | (with_reducible apply heap_set_to) | (focus ((with_reducible refine heap_set_ne ?_ ?_ _) ; rotate_left ; (focus (first | omega | (simp ; done) | (simp ; omega))))) | (with_reducible refine heap_old ?_) | (with_reducible refine Below.drew ?_) | (with_reducible refine below_set ?_ _ _) | (focus ((with_reducible refine Below.setCell ?_ ?_ _) ; rotate_left ; (focus (first | omega | (simp ; done) | (simp ; omega))))) | (focus ((with_reducible refine Below.alloc ?_ ?_ _) ; rotate_left ; (focus (first | omega | (simp ; done) | (simp ; omega))))) | (with_reducible rfl) | (focus (simp ; done))))
        have hb5 := hba.alloc hza (.cells #[.int .i64 0, .int .i64 0, .int .i64 0, .slice none 0 0] 39 (0, 0))
        have hD5 := HD.out.below (below_alloc_self w5 (.cells #[.int .i64 0, .int .i64 0, .int .i64 0, .slice none 0 0] 39 (0, 0)))
        have gk5 := heap_old (o := (.cells #[.int .i64 0, .int .i64 0, .int .i64 0, .slice none 0 0] 39 (0, 0))) gk
        have hpb : b ≠ w5.heap.size ∧ ∀ g, vb.ownBlock = some g → g ≠ w5.heap.size := ⟨by have := blk_lt HD.out.1.2.1; omega, fun g hg e => by have := (HD.out.1.2.2.1.lt g hg).2; omega⟩
        have hkw := hza
        obtain ⟨kp, hkp⟩ : ∃ g, g = w5.heap.size := ⟨_, rfl⟩
        rw [← hkp] at gp hpb hkw ⊢
        clear hkp
        generalize hwa : w5.alloc (.cells #[.int .i64 0, .int .i64 0, .int .i64 0, .slice none 0 0] 39 (0, 0)) = w6 at *
        have D6 : Hid (Duo w6 w.heap.size b vb (.slice oi S.length ci) (1 + q) num lost L S) := hD5
        have HPB : Hid (b ≠ kp ∧ ∀ g, vb.ownBlock = some g → g ≠ kp) := hpb
        clear hpb
        clear hwa hD5 qa HD gk hba hza
        have HKW : Hid (w.heap.size ≤ kp) := hkw
        clear hkw
        have hz6 := hb5.size
        have qa := blk5 gk5
        refine (HKk.out w6).mono ?_
        rintro e w7 ⟨rfl, rfl⟩
        go_wp2_with fail
        by_cases hal : at_ < S.length
        · as_aux_lemma =>
            have hatL : at_ < L.length := by have := HLS.out; omega
            refine (drop_ok w.heap.size b vb (1 + q) num lost L at_ hatL w7 D6.out.1 hz6 hL5 HQ.out.2.2.1 hlost2).mono ?_
            rintro e w8 ⟨vb', rfl, hB8, hK8, _⟩
            have hD8 := D6.out.stepB hB8 hK8
            have hb8 := hb5.trans (hK8.below hz6 D6.out.1.mine_ge)
            have gk8 := hK8.blk gk5 (D6.out.1.not_of gk5 (by decide) (by decide))
            obtain ⟨gi, rfl, s0, s1⟩ := own_snt hD8.2 at_ hal
            have hgi := (hD8.2.lt gi rfl).2
            obtain ⟨L', hL'⟩ : ∃ x, x = L.take at_ ++ L.drop (at_ + 1) := ⟨_, rfl⟩
            obtain ⟨S', hS'⟩ : ∃ x, x = S.take at_ ++ S.drop (at_ + 1) := ⟨_, rfl⟩
            have HMt : Hid (Match l L' S') := by rw [hL', hS']; exact HQ.out.2.1.drop at_
            have HOk : Hid (∀ p ∈ L', p.Ok) := fun p hp => by
              rw [hL'] at hp
              exact HQ.out.2.2.1 p ((List.mem_append.1 hp).elim List.mem_of_mem_take List.mem_of_mem_drop)
            have HLr : Hid ((L'.length : Int) ≤ 1 + q) := by rw [hL', List.length_append, List.length_take, List.length_drop]; show _ ≤ _; omega
            have HSe : Hid (S.take at_ ++ S.drop (at_ + 1) = S') := hS'.symm
            rw [← hL'] at hD8
            have D8x : Hid (Duo w8 w.heap.size b vb' (.slice (some ⟨gi, 0, none⟩) S.length ci) (1 + q) num (lost + 1) L' S) := hD8
            obtain ⟨n, hn⟩ : ∃ n, n = S[at_].2 := ⟨_, rfl⟩
            rw [← hn] at s1
            clear hB8 hK8 hD8 gp gk5 hb5 D6 hz6 hL' hS' hn qa
            go_wp2_with fail
            have Dz0 := D8x.out.below (below_alloc_self w8 (.cells #[.int .i64 S[at_].1, .int .i64 (n : Int)] 37 (0, 0)))
            have hbz := hb8.alloc hb8.size (.cells #[.int .i64 S[at_].1, .int .i64 (n : Int)] 37 (0, 0))
            have gkz := heap_old (o := (.cells #[.int .i64 S[at_].1, .int .i64 (n : Int)] 37 (0, 0))) gk8
            generalize hwz : w8.alloc (.cells #[.int .i64 S[at_].1, .int .i64 (n : Int)] 37 (0, 0)) = wz at *
            have Dz : Hid (Duo wz w.heap.size b vb' (.slice (some ⟨gi, 0, none⟩) S.length ci) (1 + q) num (lost + 1) L' S) := Dz0
            have hzz := hbz.size
            clear hwz s0 s1 Dz0 D8x gk8 hb8 hgi
            have HCI : Hid (∀ w', Below wz.heap.size wz w' → ∀ j, j < S.length * 2 → w'.cell? ⟨gi, j, none⟩ = (sflat S)[j]?) := fun w' hc j hj => (own_below Dz.out.2 hc).cellAt j hj
            refine cut (fun a a' w' => ∃ v81 v82 v83 v84 v85 v86 v87 v88 vi', a' = (((((((((a.put (some 81) v81).put (some 82) v82).put (some 83) v83).put (some 84) v84).put (some 85) v85).put (some 86) v86).put (some 87) v87).put (some 88) v88).put (some 89) vi').put (some 7) vi' ∧ (∃ oi' ci', vi' = .slice oi' S'.length ci') ∧
              Duo w' w.heap.size b vb' vi' (1 + q) num (lost+1) L' S' ∧ Below wz.heap.size wz w') ?_ ?_
            · by_cases hcm : at_ + 1 = ci
              · have hSl : S.length - (at_ + 1) = 0 := by omega
                have HSl : Hid (S.length = at_ + 1) := by show S.length = at_ + 1; omega
                subst hcm
                clear hSl
                have hSt : Stable (fun wq : World => (Below wz.heap.size wz wq)) := by repeat (first | exact stable_ext _ | exact stable_blk _ _ | exact stable_true | (refine stable_bel ?_ ; (focus (first | (simp [World.size_setCell] ; done) | (simp [World.setCell] ; done)))) | refine Stable.and ?_ ?_)
                refine wp_region_x [0, 1, 2, 4, 5, 6, 7, 3, 8, 9] [0, 0, 0, 3, 0, 0, 0, 0, 3, 0] (fun wq => (Below wz.heap.size wz wq)) (by kernel_rfl) (by kernel_rfl) ?_ ?_
                · (first | trivial | (repeat (first | (with_reducible assumption) | (with_reducible exact Below.refl _ _) | (with_reducible refine heap_drew ?_) | (focus ((with_reducible refine heap_new ?_) ; simp ; done)) | (with_reducible apply heap_set_to) | (focus ((with_reducible refine heap_set_ne ?_ ?_ _) ; rotate_left ; (focus (first | omega | (simp ; done) | (simp ; omega))))) | (with_reducible refine heap_old ?_) | (with_reducible refine Below.drew ?_) | (with_reducible refine below_set ?_ _ _) | (focus ((with_reducible refine Below.setCell ?_ ?_ _) ; rotate_left ; (focus (first | omega | (simp ; done) | (simp ; omega))))) | (focus ((with_reducible refine Below.alloc ?_ ?_ _) ; rotate_left ; (focus (first | omega | (simp ; done) | (simp ; omega))))) | (with_reducible rfl) | (focus (simp ; done)))))
                simp only [List.map_cons, List.map_nil, List.getD_cons_zero, List.getD_cons_succ]
                (refine x_pure rfl _ ?_ rfl (by simp) ?_ ?_ ; rotate_left ; · (intro wq K hK ; go_wp2_with fail ; exact rfl))
                simp only [Act.put, List.setIfInBounds_toArray, List.set_cons_succ, List.set_cons_zero]
                (refine x_pure rfl _ ?_ rfl (by simp) ?_ ?_ ; rotate_left ; · (intro wq K hK ; go_wp2_with fail ; exact rfl))
                simp only [Act.put, List.setIfInBounds_toArray, List.set_cons_succ, List.set_cons_zero]
                (refine x_pure rfl _ ?_ rfl (by simp) ?_ ?_ ; rotate_left ; · (intro wq K hK ; go_wp2_with fail ; exact rfl))
                simp only [Act.put, List.setIfInBounds_toArray, List.set_cons_succ, List.set_cons_zero]
                (refine x_pure rfl _ ?_ rfl (by simp) ?_ ?_ ; rotate_left ; · (intro wq K hK ; go_wp2_with fail ; exact rfl))
                simp only [Act.put, List.setIfInBounds_toArray, List.set_cons_succ, List.set_cons_zero]
                (refine x_pure rfl _ ?_ rfl (by simp) ?_ ?_ ; rotate_left ; · (intro wq K hK ; go_wp2_with fail ; exact rfl))
                simp only [Act.put, List.setIfInBounds_toArray, List.set_cons_succ, List.set_cons_zero]
                (refine x_pure rfl _ ?_ rfl (by simp) ?_ ?_ ; rotate_left ; · (intro wq K hK ; go_wp2_with fail ; exact rfl))
                simp only [Act.put, List.setIfInBounds_toArray, List.set_cons_succ, List.set_cons_zero]
                (refine x_pure rfl _ ?_ rfl (by simp) ?_ ?_ ; rotate_left ; · (intro wq K hK ; go_wp2_with fail ; exact rfl))
                simp only [Act.put, List.setIfInBounds_toArray, List.set_cons_succ, List.set_cons_zero]
                refine x_write rfl ?_
                intro wq hD K hK ; have hc := hD
                have hci := HCI.out _ hc
                refine wp_append_any _ (.const (.slice none 0 0)) (.tmp 83) 29 rfl wz.heap.size 37 i0 _ 2 16 Try.underlying29 HI.out.1 HI.out.2.1 HI.out.2.2.1 HI.out.2.2.2 rfl (by decide) (.slice none 0 0) 0 [] rfl (World.ownsRow_nil _ _ _ _) (some ⟨gi, 0, none⟩) at_ (at_+1) (sflat (S.take at_)) rfl (by rw [sflat_length, List.length_take]; omega) (fun h => by cases h) (snt_take hci at_ hal) (sflat_one _) ?_ ?_ ?_ ?_
                · unfold maxLen; omega
                · omega
                · exact hc.size
                intro v1 wq1 hown1 hgrow1 _
                have hc1 : Below wz.heap.size wz wq1 := hc.grown hgrow1 hc.size (fun y hy => by cases hy)
                have hO1 : wq1.ownsRow wz.heap.size 37 2 v1 at_ (sflat (S.take at_)) := by simpa using hown1
                have hfr1 : ∀ g, v1.ownBlock = some g → wz.heap.size ≤ g := fun g hg => (hO1.lt g hg).1
                have HO1 : Hid (wq1.ownsRow w.heap.size 37 2 v1 at_ (sflat (S.take at_))) := own_mono hO1 hzz
                clear hown1 hgrow1 hci hO1
                refine hK _ _ ?_
                try simp only [Act.put, List.setIfInBounds_toArray, List.set_cons_succ, List.set_cons_zero]
                refine x_write rfl ?_
                rintro wq1 rfl K hK
                have hci := HCI.out _ hc1
                refine wp_append_any _ (.tmp 84) (.tmp 88) 29 rfl w.heap.size 37 i0 _ 2 16 Try.underlying29 HI.out.1 HI.out.2.1 HI.out.2.2.1 HI.out.2.2.2 rfl (by decide) v1 at_ (sflat (S.take at_)) rfl HO1.out (some ⟨gi,0,none⟩) 0 0 (sflat (S.drop (at_ + 1))) rfl (by rw [sflat_length, List.length_drop]; try omega) (fun h => by cases h) ((snt_drop0 at_ HSl.out _)) (sflat_one _) ?_ ?_ ?_ ?_
                · unfold maxLen; omega
                · omega
                · exact Nat.le_trans hzz hc1.size
                intro v2 wq2 hown2 hgrow2 _
                have hc2 : Below wz.heap.size wz wq2 := hc1.grown hgrow2 hc1.size (fun y hy => hfr1 y hy)
                have hO2 : wq2.ownsRow w.heap.size 37 2 v2 S'.length (sflat S') := by rw [← HSe.out, sflat_append, List.length_append, List.length_take, List.length_drop, Nat.min_eq_left (by omega)]; (rw [show S.length - (at_ + 1) = 0 by omega]); exact hown2
                have HO2 : Hid (Duo wq2 w.heap.size b vb' v2 (1 + q) num (lost+1) L' S' ∧ Below wz.heap.size wz wq2) := ⟨⟨Dz.out.1.below hc2, hO2⟩, hc2⟩
                obtain ⟨oi', ci', rfl, _, _⟩ := row_any hO2
                clear hown2 hgrow2 hci hO2 hc2 hfr1 HO1 hc1
                refine hK _ _ ?_
                try simp only [Act.put, List.setIfInBounds_toArray, List.set_cons_succ, List.set_cons_zero]
                (refine x_pure rfl _ ?_ rfl (by simp) ?_ ?_ ; rotate_left ; · (intro wq K hK ; go_wp2_with fail ; exact rfl))
                simp only [Act.put, List.setIfInBounds_toArray, List.set_cons_succ, List.set_cons_zero]
                first | refine x_nil ?_ | refine x_end ?_
                rintro wq2 rfl
                first | exact ⟨trivial, _, _, _, _, _, _, _, _, _, rfl, ⟨_, _, rfl⟩, HO2.out⟩ | exact ⟨_, _, _, _, _, _, _, _, _, rfl, ⟨_, _, rfl⟩, HO2.out⟩
              · have hSt : Stable (fun wq : World => (Below wz.heap.size wz wq)) := by repeat (first | exact stable_ext _ | exact stable_blk _ _ | exact stable_true | (refine stable_bel ?_ ; (focus (first | (simp [World.size_setCell] ; done) | (simp [World.setCell] ; done)))) | refine Stable.and ?_ ?_)
                refine wp_region_x [0, 1, 2, 4, 5, 6, 7, 3, 8, 9] [0, 0, 0, 3, 0, 0, 0, 0, 3, 0] (fun wq => (Below wz.heap.size wz wq)) (by kernel_rfl) (by kernel_rfl) ?_ ?_
                · (first | trivial | (repeat (first | (with_reducible assumption) | (with_reducible exact Below.refl _ _) | (with_reducible refine heap_drew ?_) | (focus ((with_reducible refine heap_new ?_) ; simp ; done)) | (with_reducible apply heap_set_to) | (focus ((with_reducible refine heap_set_ne ?_ ?_ _) ; rotate_left ; (focus (first | omega | (simp ; done) | (simp ; omega))))) | (with_reducible refine heap_old ?_) | (with_reducible refine Below.drew ?_) | (with_reducible refine below_set ?_ _ _) | (focus ((with_reducible refine Below.setCell ?_ ?_ _) ; rotate_left ; (focus (first | omega | (simp ; done) | (simp ; omega))))) | (focus ((with_reducible refine Below.alloc ?_ ?_ _) ; rotate_left ; (focus (first | omega | (simp ; done) | (simp ; omega))))) | (with_reducible rfl) | (focus (simp ; done)))))
                simp only [List.map_cons, List.map_nil, List.getD_cons_zero, List.getD_cons_succ]
                (refine x_pure rfl _ ?_ rfl (by simp) ?_ ?_ ; rotate_left ; · (intro wq K hK ; go_wp2_with fail ; exact rfl))
                simp only [Act.put, List.setIfInBounds_toArray, List.set_cons_succ, List.set_cons_zero]
                (refine x_pure rfl _ ?_ rfl (by simp) ?_ ?_ ; rotate_left ; · (intro wq K hK ; go_wp2_with fail ; exact rfl))
                simp only [Act.put, List.setIfInBounds_toArray, List.set_cons_succ, List.set_cons_zero]
                (refine x_pure rfl _ ?_ rfl (by simp) ?_ ?_ ; rotate_left ; · (intro wq K hK ; go_wp2_with fail ; exact rfl))
                simp only [Act.put, List.setIfInBounds_toArray, List.set_cons_succ, List.set_cons_zero]
                (refine x_pure rfl _ ?_ rfl (by simp) ?_ ?_ ; rotate_left ; · (intro wq K hK ; go_wp2_with fail ; exact rfl))
                simp only [Act.put, List.setIfInBounds_toArray, List.set_cons_succ, List.set_cons_zero]
                (refine x_pure rfl _ ?_ rfl (by simp) ?_ ?_ ; rotate_left ; · (intro wq K hK ; go_wp2_with fail ; exact rfl))
                simp only [Act.put, List.setIfInBounds_toArray, List.set_cons_succ, List.set_cons_zero]
                (refine x_pure rfl _ ?_ rfl (by simp) ?_ ?_ ; rotate_left ; · (intro wq K hK ; go_wp2_with fail ; exact rfl))
                simp only [Act.put, List.setIfInBounds_toArray, List.set_cons_succ, List.set_cons_zero]
                (refine x_pure rfl _ ?_ rfl (by simp) ?_ ?_ ; rotate_left ; · (intro wq K hK ; go_wp2_with fail ; exact rfl))
                simp only [Act.put, List.setIfInBounds_toArray, List.set_cons_succ, List.set_cons_zero]
                refine x_write rfl ?_
                intro wq hD K hK ; have hc := hD
                have hci := HCI.out _ hc
                refine wp_append_any _ (.const (.slice none 0 0)) (.tmp 83) 29 rfl wz.heap.size 37 i0 _ 2 16 Try.underlying29 HI.out.1 HI.out.2.1 HI.out.2.2.1 HI.out.2.2.2 rfl (by decide) (.slice none 0 0) 0 [] rfl (World.ownsRow_nil _ _ _ _) (some ⟨gi, 0, none⟩) at_ ci (sflat (S.take at_)) rfl (by rw [sflat_length, List.length_take]; omega) (fun h => by cases h) (snt_take hci at_ hal) (sflat_one _) ?_ ?_ ?_ ?_
                · unfold maxLen; omega
                · omega
                · exact hc.size
                intro v1 wq1 hown1 hgrow1 _
                have hc1 : Below wz.heap.size wz wq1 := hc.grown hgrow1 hc.size (fun y hy => by cases hy)
                have hO1 : wq1.ownsRow wz.heap.size 37 2 v1 at_ (sflat (S.take at_)) := by simpa using hown1
                have hfr1 : ∀ g, v1.ownBlock = some g → wz.heap.size ≤ g := fun g hg => (hO1.lt g hg).1
                have HO1 : Hid (wq1.ownsRow w.heap.size 37 2 v1 at_ (sflat (S.take at_))) := own_mono hO1 hzz
                clear hown1 hgrow1 hci hO1
                refine hK _ _ ?_
                try simp only [Act.put, List.setIfInBounds_toArray, List.set_cons_succ, List.set_cons_zero]
                refine x_write rfl ?_
                rintro wq1 rfl K hK
                have hci := HCI.out _ hc1
                refine wp_append_any _ (.tmp 84) (.tmp 88) 29 rfl w.heap.size 37 i0 _ 2 16 Try.underlying29 HI.out.1 HI.out.2.1 HI.out.2.2.1 HI.out.2.2.2 rfl (by decide) v1 at_ (sflat (S.take at_)) rfl HO1.out (some ⟨gi,(at_+1)*2,none⟩) (S.length-(at_+1)) (ci-(at_+1)) (sflat (S.drop (at_ + 1))) rfl (by rw [sflat_length, List.length_drop]; try omega) (fun h => by cases h) ((snt_drop hci at_)) (sflat_one _) ?_ ?_ ?_ ?_
                · unfold maxLen; omega
                · omega
                · exact Nat.le_trans hzz hc1.size
                intro v2 wq2 hown2 hgrow2 _
                have hc2 : Below wz.heap.size wz wq2 := hc1.grown hgrow2 hc1.size (fun y hy => hfr1 y hy)
                have hO2 : wq2.ownsRow w.heap.size 37 2 v2 S'.length (sflat S') := by rw [← HSe.out, sflat_append, List.length_append, List.length_take, List.length_drop, Nat.min_eq_left (by omega)]; skip; exact hown2
                have HO2 : Hid (Duo wq2 w.heap.size b vb' v2 (1 + q) num (lost+1) L' S' ∧ Below wz.heap.size wz wq2) := ⟨⟨Dz.out.1.below hc2, hO2⟩, hc2⟩
                obtain ⟨oi', ci', rfl, _, _⟩ := row_any hO2
                clear hown2 hgrow2 hci hO2 hc2 hfr1 HO1 hc1
                refine hK _ _ ?_
                try simp only [Act.put, List.setIfInBounds_toArray, List.set_cons_succ, List.set_cons_zero]
                (refine x_pure rfl _ ?_ rfl (by simp) ?_ ?_ ; rotate_left ; · (intro wq K hK ; go_wp2_with fail ; exact rfl))
                simp only [Act.put, List.setIfInBounds_toArray, List.set_cons_succ, List.set_cons_zero]
                first | refine x_nil ?_ | refine x_end ?_
                rintro wq2 rfl
                first | exact ⟨trivial, _, _, _, _, _, _, _, _, _, rfl, ⟨_, _, rfl⟩, HO2.out⟩ | exact ⟨_, _, _, _, _, _, _, _, _, rfl, ⟨_, _, rfl⟩, HO2.out⟩
            rintro _ wr2 ⟨v81, v82, v83, v84, v85, v86, v87, v88, vi', rfl, ⟨oi', ci', rfl⟩, hDr, hbr2⟩
            simp only [Act.put, List.setIfInBounds_toArray, List.set_cons_succ, List.set_cons_zero]
            have D8 : Hid (Duo wr2 w.heap.size b vb' (.slice oi' S'.length ci') (1 + q) num (lost+1) L' S') := hDr
            clear hDr HCI
            have gkr := blk_below gkz hbr2
            have hbr3 := below_back hbz hbz.size hbr2
            have qk := blk5 gkr
            clear gkz hbr2 Dz
            go_wp2_with fail
            refine (HKk.out wr2).mono ?_
            rintro e wq3 ⟨rfl, rfl⟩
            go_wp2_with fail
            have hmt : Match l L' S' := HMt.out
            have HLn : Hid (Calls Try.prog 14 #[.pointer (some ⟨b, 0, none⟩)] wq3 fun e w' => e = .returned (.int .i64 S'.length) ∧ w' = wq3) := by
              have h := len_any w.heap.size b _ (1 + q) num (lost + 1) L' wq3 D8.out.1
              rw [show (L').length = S'.length by rw [hmt.length]; skip] at h
              exact h
            clear hmt
            go_wp2_with fail
            refine HLn.out.mono ?_
            rintro e w9 ⟨rfl, rfl⟩
            clear HLn
            go_wp2_with fail
            refine (lost_any w.heap.size b _ (1 + q) num (lost + 1) L' w9 D8.out.1).mono ?_
            rintro e w10 ⟨rfl, rfl⟩
            go_wp2_with fail
            go_roundw
            case rel =>
              obtain ⟨_, r2, r3, r4, r5, r6⟩ := HQ.out
              exact ⟨i + 1, _, num, (lost + 1), L', S', by omega, by go_num, by go_num, by go_num, ⟨D8.out, HMt.out, HOk.out, HLr.out, by omega, by omega⟩, hbr3⟩
            case measure => simp [intOf]; omega
        · as_aux_lemma =>
            refine (drop_none w.heap.size b vb (1 + q) num lost L (at_ : Int) w7 D6.out.1 (by have := HLS.out; omega)).mono ?_
            rintro e w8 ⟨rfl, hb8⟩
            have D8a := D6.out.below hb8
            have hb8w := below_back hb5 hb5.size hb8
            have D8 : Hid (Duo w8 w.heap.size b vb (.slice oi S.length ci) (1 + q) num lost L S) := D8a
            clear qa gk5 gp hb8 hb5 D6 hz6 D8a
            go_wp2_with fail
            have hmt : Match l L S := HQ.out.2.1
            have HLn : Hid (Calls Try.prog 14 #[.pointer (some ⟨b, 0, none⟩)] w8 fun e w' => e = .returned (.int .i64 S.length) ∧ w' = w8) := by
              have h := len_any w.heap.size b _ (1 + q) num lost L w8 D8.out.1
              rw [show (L).length = S.length by rw [hmt.length]; skip] at h
              exact h
            clear hmt
            go_wp2_with fail
            refine HLn.out.mono ?_
            rintro e w9 ⟨rfl, rfl⟩
            clear HLn
            go_wp2_with fail
            refine (lost_any w.heap.size b _ (1 + q) num lost L w9 D8.out.1).mono ?_
            rintro e w10 ⟨rfl, rfl⟩
            go_wp2_with fail
            go_roundw
            case rel =>
              obtain ⟨_, r2, r3, r4, r5, r6⟩ := HQ.out
              exact ⟨i + 1, _, num, lost, L, S, by omega, by go_num, by go_num, by go_num, ⟨D8.out, HQ.out.2.1, HQ.out.2.2.1, HQ.out.2.2.2.1, by omega, by omega⟩, hb8w⟩
            case measure => simp [intOf]; omega
    · obtain rfl : i = l.length := by omega
      go_wp2_with fail
      go_ret
      exact ⟨rfl, hbr⟩
end Go.Proofs.Ytepilaejfepicaa
