/-
  MixTurned: whatever order entries stand in, and however they are parted, they come to the same; one that comes and goes leaves no trace.
-/
import Derived.Test.YtjeaobknojmbpaaDoorShown
import Derived.Test.YtjeaobknojmbpaaDoorEnt
import Derived.Test.YtjeaobknojmbpaaDoorLaid
namespace Go.Proofs.YtjeaobknojmbpaaDoor
open Go.ChangeShapes Go.WideShapes Go.ChangeAt Go.RowKit Go.Deep
set_option linter.unusedVariables false
set_option linter.unusedSimpArgs false

/-! ### The plain law -/
theorem tot0_append (l m : List Ent) : tot0 (l ++ m) = tot0 l + tot0 m := by simp [tot0]
theorem tot1_append (l m : List Ent) : tot1 (l ++ m) = tot1 l + tot1 m := by simp [tot1]
theorem sum_set (f : Ent → Int) : ∀ (A : List Ent) (k : Nat) (h : k < A.length) (z : Ent), ((A.set k z).map f).sum + f A[k] = (A.map f).sum + f z
  | a :: A, 0, _, z => by simp; omega
  | a :: A, k + 1, h, z => by
    have := sum_set f A k (by simpa using h) z
    simp only [List.set_cons_succ, List.map_cons, List.sum_cons, List.getElem_cons_succ]
    omega
/-- The last one in the place of the k-th, one less. -/
def shrink (R : List Ent) (k : Nat) (z : Ent) : List Ent := (R.set k z).take (R.length - 1)
theorem shrink_length (R : List Ent) (k : Nat) (z : Ent) : (shrink R k z).length = R.length - 1 := by simp [shrink]
theorem sum_shrink (f : Ent → Int) (R : List Ent) (k : Nat) (h : k < R.length) : ((shrink R k (R[R.length - 1]'(by omega))).map f).sum + f R[k] = (R.map f).sum := by
  obtain ⟨A, z, rfl⟩ : ∃ A z, R = A ++ [z] := by
    rcases List.eq_nil_or_concat R with h0 | ⟨A, z, h1⟩
    · subst h0; simp at h
    · exact ⟨A, z, by rw [h1]; simp⟩
  have hz : (A ++ [z])[(A ++ [z]).length - 1]'(by simp) = z := by simp
  rw [hz]
  by_cases hk : k < A.length
  · have e1 : shrink (A ++ [z]) k z = A.set k z := by
      unfold shrink
      rw [List.set_append_left _ _ hk]
      simp
    have e2 : (A ++ [z])[k] = A[k] := List.getElem_append_left hk
    rw [e1, e2, sum_set f A k hk z]
    simp
  · have hk2 : k = A.length := by simp at h; omega
    subst hk2
    have e1 : shrink (A ++ [z]) A.length z = A := by
      unfold shrink
      simp
    rw [e1]
    simp
theorem tot0_shrink (R : List Ent) (k : Nat) (h : k < R.length) : tot0 (shrink R k (R[R.length - 1]'(by omega))) + m0 R[k] = tot0 R := sum_shrink m0 R k h
theorem tot1_shrink (R : List Ent) (k : Nat) (h : k < R.length) : tot1 (shrink R k (R[R.length - 1]'(by omega))) + m1 R[k] = tot1 R := sum_shrink m1 R k h
theorem KeysOk.shrink {R : List Ent} (h : KeysOk R) (k : Nat) (z : Ent) (hz : z.1.size ≤ 140737488351232) : KeysOk (shrink R k z) := fun j hj => by
  unfold Go.Proofs.YtjeaobknojmbpaaDoor.shrink at hj ⊢
  rw [List.getElem_take, List.getElem_set]
  split
  · exact hz
  · exact h j _
theorem flat_set : ∀ (R : List Ent) (k : Nat), k < R.length → ∀ (z : Ent), flat (R.set k z) = (((((flat R).set (k * 5) (.string z.1)).set (k * 5 + 1) (.int .i64 z.2.1)).set (k * 5 + 2) (.int .i64 z.2.2.1)).set (k * 5 + 3) (.string z.2.2.2.1)).set (k * 5 + 4) (.bool z.2.2.2.2)
  | a :: R, 0, _, z => by simp [flat, ecells]
  | a :: R, k + 1, h, z => by
    have ih := flat_set R k (by simpa using h) z
    have hl : (ecells a).length = 5 := rfl
    rw [List.set_cons_succ, flat, flat, ih]
    have e : ∀ (X : List Value) (j : Nat) (u : Value), (ecells a ++ X).set ((k + 1) * 5 + j) u = ecells a ++ X.set (k * 5 + j) u := fun X j u => by
      rw [List.set_append_right _ _ (by omega), hl, show (k + 1) * 5 + j - 5 = k * 5 + j by omega]
    have e0 := e (flat R) 0 (.string z.1)
    simp only [Nat.add_zero] at e0
    rw [e0, e, e, e, e]
theorem flat_take : ∀ (R : List Ent) (n : Nat), (flat R).take (n * 5) = flat (R.take n)
  | [], n => by simp [flat]
  | a :: R, 0 => by simp [flat]
  | a :: R, n + 1 => by
    have hl : (ecells a).length = 5 := rfl
    rw [List.take_succ_cons, flat, flat, show (n + 1) * 5 = (ecells a).length + n * 5 by omega, List.take_length_add_append, flat_take R n]

theorem among_any (i n : Int) (hi : -9223372036854775808 ≤ i ∧ i ≤ 9223372036854775807) (hn : 1 ≤ n) (hn2 : n ≤ 9223372036854775807) (w : World) :
    Calls Tryd.prog 31 #[.int .i64 i, .int .i64 n] w fun e w' => ∃ r : Nat, e = .returned (.int .i64 r) ∧ (r : Int) < n ∧ w' = w := by
  have h1 : i.tmod n < n := Int.tmod_lt_of_pos i (by omega)
  have h2 : -n < i.tmod n := by
    have := Int.lt_tmod_of_pos i (b := n) (by omega)
    omega
  generalize hq : i.tmod n = q at *
  have hn0 : ¬ n = 0 := by omega
  by_cases hq0 : q < 0
  · go_enter Tryd.func31, Tryd.ntmps31
    go_wp2_with fail
    go_ret
    obtain ⟨r, hr⟩ := Int.eq_ofNat_of_zero_le (show 0 ≤ q + n by omega)
    exact ⟨r, by rw [← hr]; rfl, by omega, rfl⟩
  · go_enter Tryd.func31, Tryd.ntmps31
    go_wp2_with fail
    go_ret
    obtain ⟨r, rfl⟩ := Int.eq_ofNat_of_zero_le (show 0 ≤ q by omega)
    exact ⟨r, rfl, h1, rfl⟩

/-- An entry of a row. -/
theorem ent_of_row {w : World} {g n : Nat} {cur : Array Value} {fr : Nat × Nat} {R : List Ent} (hh : w.heap[g]? = some (.cells cur 32 fr)) (ht : cur.toList.take (n * 5) = flat R) (hn : R.length = n) (k : Nat) (hk : k < R.length) : EntAt w g (k * 5) R[k] := by
  have key : ∀ r, r < 5 → w.cell? ⟨g, k * 5 + r, none⟩ = (ecells R[k])[r]? := fun r hr => by
    rw [blk_cell hh, ← Array.getElem?_toList]
    have : cur.toList[k * 5 + r]? = (cur.toList.take (n * 5))[k * 5 + r]? := by rw [List.getElem?_take, if_pos (by omega)]
    rw [this, ht, flat_get R k hk r hr]
  exact ⟨key 0 (by omega), key 1 (by omega), key 2 (by omega), key 3 (by omega), key 4 (by omega)⟩
/-- The row behind the store, one entry less. -/
theorem row_shrink {cur : Array Value} {n : Nat} {R : List Ent} (ht : cur.toList.take (n * 5) = flat R) (hn : R.length = n) (k : Nat) (hk : k < R.length) (z : Ent) :
    (((((cur.setIfInBounds (k * 5) (.string z.1)).setIfInBounds (k * 5 + 1) (.int .i64 z.2.1)).setIfInBounds (k * 5 + 2) (.int .i64 z.2.2.1)).setIfInBounds (k * 5 + 3) (.string z.2.2.2.1)).setIfInBounds (k * 5 + 4) (.bool z.2.2.2.2)).toList.take ((n - 1) * 5) = flat (shrink R k z) := by
  simp only [Array.toList_setIfInBounds]
  unfold shrink
  rw [← flat_take, hn, flat_set R k hk z, ← ht]
  simp only [List.take_set, List.take_take]
  rw [Nat.min_eq_left (by omega)]
theorem own_set {w : World} {base n size : Nat} {e : TypeId} {v : Value} {xs : List Value} (h : w.ownsRow base e size v n xs) {p : Addr} (hne : ∀ g, v.ownBlock = some g → g ≠ p.block) (u : Value) : (w.setCell p u).ownsRow base e size v n xs := by
  refine ⟨h.1, ?_⟩
  rcases h.2 with h2 | ⟨g, cap, cur, hv, hg, hh, r⟩
  · exact Or.inl h2
  · exact Or.inr ⟨g, cap, cur, hv, hg, heap_set_ne hh (hne g (by rw [hv]; rfl)) u, r⟩

theorem own_le {w : World} {base n size m cap : Nat} {e : TypeId} {oa : Option Addr} {xs : List Value} (h : w.ownsRow base e size (.slice oa m cap) n xs) : n ≤ cap ∧ cap ≤ maxLen := by
  rcases h.2 with ⟨h1, h2⟩ | ⟨g, c, cur, hv, _, _, h1, h2, _⟩
  · simp only [Value.slice.injEq] at h1
    exact ⟨by omega, by rw [h1.2.2]; exact Nat.zero_le _⟩
  · simp only [Value.slice.injEq] at hv
    obtain ⟨_, _, rfl⟩ := hv
    exact ⟨h1, h2⟩
theorem ents_pre {w : World} {oa : Option Addr} {l m : List Ent} (h : Ents w oa (l ++ m)) : Ents w oa l := fun k hk => by
  obtain ⟨b, o, h1, h2, h3⟩ := h k (by simp; omega)
  rw [List.getElem_append_left hk] at h2 h3
  exact ⟨b, o, h1, h2, h3⟩

theorem u64_sum (a b : Int) : u64 (u64 a + u64 b) = u64 (a + b) := by simp only [u64, IntKind.wrap, IntKind.signed, IntKind.bits]; simp

theorem ents_suf {w : World} {oa : Option Addr} {l m : List Ent} (h : Ents w oa (l ++ m)) : Ents w (oa.map fun x => x.add (l.length * 5)) m := fun k hk => by
  obtain ⟨b, o, rfl, h2, h3⟩ := h (l.length + k) (by simp; omega)
  have e : (l ++ m)[l.length + k]'(by simp; omega) = m[k] := by rw [List.getElem_append_right (by omega)]; congr 1; omega
  rw [e] at h2 h3
  refine ⟨b, o + l.length * 5, by simp [Addr.add], ?_, h3⟩
  rw [show o + l.length * 5 + k * 5 = o + (l.length + k) * 5 by omega]
  exact h2

theorem u64_idem (a : Int) : u64 (u64 a) = u64 a := by simp only [u64, IntKind.wrap, IntKind.signed, IntKind.bits]; simp
theorem stp0_u (x y : Int) : u64 (stp0 x y) = stp0 x y := by unfold stp0 bits; exact u64_idem _
theorem stp1_u (x y : Int) : u64 (stp1 x y) = stp1 x y := by unfold stp1 bits; exact u64_idem _
theorem mix0_u (s : ByteArray) (c n : Int) : u64 (mix0 s c n) = mix0 s c n := by
  unfold mix0 wordsOf
  rw [List.foldl_cons, List.foldl_append]
  exact stp0_u _ _
theorem mix1_u (s : ByteArray) (c n : Int) : u64 (mix1 s c n) = mix1 s c n := by
  unfold mix1 wordsOf
  rw [List.foldl_cons, List.foldl_append]
  exact stp1_u _ _
theorem u64_take (a b : Int) : u64 (u64 (a + b) - b) = u64 a := by simp only [u64, IntKind.wrap, IntKind.signed, IntKind.bits]; simp
theorem u64_take' (a b : Int) : u64 (u64 (a + b) - u64 a) = u64 b := by
  have h : a + b - a = b := by omega
  simp only [u64, IntKind.wrap, IntKind.signed, IntKind.bits]; simp [h]
theorem ents_one {w : World} {g : Nat} {k : ByteArray} {c n : Int} {v : ByteArray} {d : Bool} (h : w.heap[g]? = some (.cells #[.string k, .int .i64 c, .int .i64 n, .string v, .bool d] 32 (0, 0))) (hk : k.size ≤ 140737488351232) :
    Ents w (some ⟨g, 0, none⟩) [(k, c, n, v, d)] := fun j hj => by
  obtain rfl : j = 0 := by simp at hj; exact hj
  have q := blk5 h
  exact ⟨g, 0, rfl, ⟨q.1, q.2.1, q.2.2.1, q.2.2.2.1, q.2.2.2.2.1⟩, hk⟩
/-- The sum of one entry. -/
theorem all_one {w : World} {g : Nat} {k : ByteArray} {c n : Int} {v : ByteArray} {d : Bool} (hL : Lanes w) (h : w.heap[g]? = some (.cells #[.string k, .int .i64 c, .int .i64 n, .string v, .bool d] 32 (0, 0))) (hk : k.size ≤ 140737488351232) :
    Calls Tryd.prog 29 #[.slice (some ⟨g, 0, none⟩) 1 1] w fun e w' => e = .returned (sv (mix0 k c n) (mix1 k c n)) ∧ Below w.heap.size w w' := by
  have := all_any (some ⟨g, 0, none⟩) 1 [(k, c, n, v, d)] w hL (ents_one h hk) (by simp)
  have e0 : u64 (tot0 [(k, c, n, v, d)]) = mix0 k c n := by
    have : tot0 [(k, c, n, v, d)] = mix0 k c n := by simp [tot0, m0]
    rw [this, mix0_u]
  have e1 : u64 (tot1 [(k, c, n, v, d)]) = mix1 k c n := by
    have : tot1 [(k, c, n, v, d)] = mix1 k c n := by simp [tot1, m1]
    rw [this, mix1_u]
  rw [e0, e1] at this
  exact this

set_option maxRecDepth 100000 in
set_option maxHeartbeats 16000000 in
theorem turned_walk (oa ob : Option Addr) (ca np cb : Nat) (l : List Ent) (pk : Nat → Int) (ek : ByteArray) (ec en : Int) (evv : ByteArray) (ed : Bool) (w : World) (hL : Lanes w) (hA : Ents w oa l)
    (na : oa = none → l.length = 0 ∧ ca = 0) (hl : l.length * 56 ≤ 140737488351232) (hnp : np ≤ 140737488351232) (hek : ek.size ≤ 140737488351232)
    (hp : ∀ k, k < np → ∃ b o, ob = some ⟨b, o, none⟩ ∧ b < w.heap.size ∧ w.cell? ⟨b, o + k, none⟩ = some (.int .i64 (pk k)) ∧ -9223372036854775808 ≤ pk k ∧ pk k ≤ 9223372036854775807) :
    Calls Tryd.prog 10 #[.slice oa l.length ca, .slice ob np cb, ev ek ec en evv ed] w fun r w' => r = .returned (.bool true) ∧ Below w.heap.size w w' := by
  have hL0 := hL.lt
  have HH : Hid (Lanes w ∧ Ents w oa l ∧ (oa = none → l.length = 0 ∧ ca = 0)) := ⟨hL, hA, na⟩
  have HP : Hid (∀ k, k < np → _) := hp
  have HKl : Hid (KeysOk l) := hA.keys
  clear hL hA na hp
  obtain ⟨i0, hi, hz0, hz1, hz2⟩ := info_parts info_entry
  have HI : Hid (_ ∧ _ ∧ _ ∧ _) := ⟨hi, hz0, hz1, hz2⟩
  clear hi hz0 hz1 hz2
  go_enter Tryd.func10, Tryd.ntmps10
  go_wp2_with fail
  have hb0 : Below w.heap.size w (w.alloc (.cells #[.string ek, .int .i64 ec, .int .i64 en, .string evv, .bool ed] 32 (0, 0))) := by (repeat (first | (with_reducible assumption) | (with_reducible exact Below.refl _ _) | (with_reducible refine heap_drew ?_) | (focus ((with_reducible refine heap_new ?_) ; simp ; done)) | (with_reducible apply heap_set_to) | (focus ((with_reducible refine heap_set_ne ?_ ?_ _) ; rotate_left ; (focus (first | omega | (simp ; done) | (simp ; omega))))) | (with_reducible refine heap_old ?_) | (with_reducible refine Below.drew ?_) | (with_reducible refine below_set ?_ _ _) | (focus ((with_reducible refine Below.setCell ?_ ?_ _) ; rotate_left ; (focus (first | omega | (simp ; done) | (simp ; omega))))) | (focus ((with_reducible refine Below.alloc ?_ ?_ _) ; rotate_left ; (focus (first | omega | (simp ; done) | (simp ; omega))))) | (with_reducible rfl) | (focus (simp ; done))))
  refine (shown_any _ (HH.out.1.below hb0 hL0)).mono ?_
  rintro e w1 ⟨rfl, hb1⟩
  clear hb0
  have g5 : w1.heap[w.heap.size]? = some (.cells #[.string ek, .int .i64 ec, .int .i64 en, .string evv, .bool ed] 32 (0, 0)) := blk_below (by (repeat (first | (with_reducible assumption) | (with_reducible exact Below.refl _ _) | (with_reducible refine heap_drew ?_) | (focus ((with_reducible refine heap_new ?_) ; simp ; done)) | (with_reducible apply heap_set_to) | (focus ((with_reducible refine heap_set_ne ?_ ?_ _) ; rotate_left ; (focus (first | omega | (simp ; done) | (simp ; omega))))) | (with_reducible refine heap_old ?_) | (with_reducible refine Below.drew ?_) | (with_reducible refine below_set ?_ _ _) | (focus ((with_reducible refine Below.setCell ?_ ?_ _) ; rotate_left ; (focus (first | omega | (simp ; done) | (simp ; omega))))) | (focus ((with_reducible refine Below.alloc ?_ ?_ _) ; rotate_left ; (focus (first | omega | (simp ; done) | (simp ; omega))))) | (with_reducible rfl) | (focus (simp ; done))))) hb1
  have hb : Below w.heap.size w w1 := below_back (by (repeat (first | (with_reducible assumption) | (with_reducible exact Below.refl _ _) | (with_reducible refine heap_drew ?_) | (focus ((with_reducible refine heap_new ?_) ; simp ; done)) | (with_reducible apply heap_set_to) | (focus ((with_reducible refine heap_set_ne ?_ ?_ _) ; rotate_left ; (focus (first | omega | (simp ; done) | (simp ; omega))))) | (with_reducible refine heap_old ?_) | (with_reducible refine Below.drew ?_) | (with_reducible refine below_set ?_ _ _) | (focus ((with_reducible refine Below.setCell ?_ ?_ _) ; rotate_left ; (focus (first | omega | (simp ; done) | (simp ; omega))))) | (focus ((with_reducible refine Below.alloc ?_ ?_ _) ; rotate_left ; (focus (first | omega | (simp ; done) | (simp ; omega))))) | (with_reducible rfl) | (focus (simp ; done))))) (by first | omega | (simp ; done) | (simp ; omega)) hb1
  clear hb1
  have hz := hb.size
  go_wp2_with fail
  refine (all_any oa ca l _ (HH.out.1.below hb hL0) (HH.out.2.1.below hb) (by omega)).mono ?_
  rintro e w2 ⟨rfl, hb2⟩
  replace g5 := blk_below g5 hb2
  replace hb := below_back hb hz hb2
  clear hb2 hz
  have hz := hb.size
  have hlt5 := blk_lt g5
  obtain ⟨sb, hsb⟩ : ∃ g, g = w2.heap.size := ⟨_, rfl⟩
  have g7 : (w2.alloc (.cells #[.int .u64 (u64 (tot0 l)), .int .u64 (u64 (tot1 l))] 26 (0, 0))).heap[w2.heap.size]? = some (.cells #[.int .u64 (u64 (tot0 l)), .int .u64 (u64 (tot1 l))] 26 (0, 0)) := by (repeat (first | (with_reducible assumption) | (with_reducible exact Below.refl _ _) | (with_reducible refine heap_drew ?_) | (focus ((with_reducible refine heap_new ?_) ; simp ; done)) | (with_reducible apply heap_set_to) | (focus ((with_reducible refine heap_set_ne ?_ ?_ _) ; rotate_left ; (focus (first | omega | (simp ; done) | (simp ; omega))))) | (with_reducible refine heap_old ?_) | (with_reducible refine Below.drew ?_) | (with_reducible refine below_set ?_ _ _) | (focus ((with_reducible refine Below.setCell ?_ ?_ _) ; rotate_left ; (focus (first | omega | (simp ; done) | (simp ; omega))))) | (focus ((with_reducible refine Below.alloc ?_ ?_ _) ; rotate_left ; (focus (first | omega | (simp ; done) | (simp ; omega))))) | (with_reducible rfl) | (focus (simp ; done))))
  have g5' := heap_old (o := .cells #[.int .u64 (u64 (tot0 l)), .int .u64 (u64 (tot1 l))] 26 (0, 0)) g5
  have hb' := hb.alloc hz (.cells #[.int .u64 (u64 (tot0 l)), .int .u64 (u64 (tot1 l))] 26 (0, 0))
  have HA1 : Hid (Ents (w2.alloc (.cells #[.int .u64 (u64 (tot0 l)), .int .u64 (u64 (tot1 l))] 26 (0, 0))) oa l) := HH.out.2.1.below hb'
  go_wp2_with (first
    | (at_builtin; (refine wpList_append_any _ rfl (.const (.slice none 0 0)) (.tmp 19) 22 rfl (w2.heap.size + 1) 32 i0 _ 5 56 Tryd.underlying22 HI.out.1 HI.out.2.1 HI.out.2.2.1 HI.out.2.2.2 rfl (by decide) _ 0 [] rfl (World.ownsRow_nil _ _ _ _) oa l.length ca (flat l) rfl (flat_length l) HH.out.2.2 HA1.out.cells' (flat_one l) ?c3 ?c4 ?c5 ?_))
    | fail)
  case c3 => unfold maxLen; omega
  case c4 => omega
  case c5 => simp
  intro vr w3 hownR hgrow
  have hb3 : Below (w2.heap.size + 1) (w2.alloc (.cells #[.int .u64 (u64 (tot0 l)), .int .u64 (u64 (tot1 l))] 26 (0, 0))) w3 := (Below.refl _ _).grown hgrow (by simp) (by intro y hy; simp [Value.ownBlock] at hy)
  generalize hws : w2.alloc (.cells #[.int .u64 (u64 (tot0 l)), .int .u64 (u64 (tot1 l))] 26 (0, 0)) = ws at *
  have hwsz : ws.heap.size = w2.heap.size + 1 := by rw [← hws]; simp
  rw [← hsb] at g7 hb3 hownR hwsz ⊢
  have hs3 := hb3.size
  have hR0 : w3.ownsRow (sb + 1) 32 5 vr l.length (flat l) := by simpa using hownR
  have HRE : Hid (w3.ownsRow (sb + 1) 32 5 vr l.length (flat l)) := hR0
  obtain ⟨B2, hB2⟩ : ∃ g, g = w3.heap.size := ⟨_, rfl⟩
  have HRB : Hid (∀ g, vr.ownBlock = some g → g < B2) := fun g hg => by rw [hB2]; exact (hR0.lt g hg).2
  have hB2a : sb + 1 ≤ B2 := by omega
  have hB2b : B2 ≤ w3.heap.size := by omega
  have hws0 : w.heap.size < sb := by omega
  clear hownR hR0 hgrow hws hB2 hsb hb g5 HA1 hz hlt5
  go_wp2_with fail
  go_loopw [8, 9, 10] (fun vt vr c wr => ∃ (i nR cr : Nat) (ao : Option Addr) (T R : List Ent), i ≤ np ∧ c = .int .i64 i ∧ vr = .slice ao nR cr ∧ nR ≤ l.length ∧
      Hid (wr.ownsRow (sb + 1) 32 5 vr nR (flat R) ∧ (∀ g, vr.ownBlock = some g → g < B2) ∧ wr.ownsRow B2 32 5 vt T.length (flat T) ∧ KeysOk T ∧ KeysOk R ∧ R.length = nR ∧ T.length + nR = l.length ∧ tot0 T + tot0 R = tot0 l ∧ tot1 T + tot1 R = tot1 l) ∧
      B2 ≤ wr.heap.size ∧ Below (sb + 1) ws wr) (fun _ _ c _ => np - (intOf c).toNat)
  case atStart =>
    obtain ⟨ao, cr, rfl, _, _⟩ := ents_of_own rfl HRE.out HKl.out
    exact ⟨0, l.length, cr, ao, [], l, Nat.zero_le _, rfl, rfl, Nat.le_refl _, ⟨HRE.out, HRB.out, World.ownsRow_nil _ _ _ _, fun k hk => absurd hk (by simp), HKl.out, rfl, by simp, by simp [tot0], by simp [tot1]⟩, hB2b, hb3⟩
  case round =>
    clear HRE HRB hB2b hb3 hs3
    obtain ⟨i, nR, cr, ao, T, R, hi, rfl, rfl, hnR, HR, hB, hbr⟩ := hrel
    by_cases h1 : i < np
    · by_cases h2 : 0 < nR
      · obtain ⟨pb, po, rfl, hpb, hpc, hp1, hp2⟩ := HP.out i h1
        have hpc2 : wr.cell? ⟨pb, po + i, none⟩ = some (.int .i64 (pk i)) := (hbr.cell (p := ⟨pb, po + i, none⟩) (by show pb < sb + 1; omega)).trans ((hb'.cell hpb).trans hpc)
        clear hpc
        obtain ⟨hor, hrb, hot, hkt, hkr, hRl, hTR, ht0, ht1⟩ := HR.out
        rcases hor.2 with ⟨_, h0⟩ | ⟨gR, cap, cur, hv, hg, hh, hnc, hcm, hcs, hct⟩
        · omega
        simp only [Value.slice.injEq] at hv
        obtain ⟨rfl, _, rfl⟩ := hv
        have hgB : gR < B2 := hrb gR rfl
        have HO : Hid (wr.heap[gR]? = some (.cells cur 32 (0, 0)) ∧ nR ≤ cr ∧ cr ≤ maxLen ∧ cur.size = cr * 5 ∧ cur.toList.take (nR * 5) = flat R ∧ sb + 1 ≤ gR) := ⟨hh, hnc, hcm, hcs, hct, hg⟩
        have HT : Hid (wr.ownsRow B2 32 5 _ T.length (flat T)) := hot
        have HQ : Hid (KeysOk T ∧ KeysOk R ∧ R.length = nR ∧ T.length + nR = l.length ∧ tot0 T + tot0 R = tot0 l ∧ tot1 T + tot1 R = tot1 l) := ⟨hkt, hkr, hRl, hTR, ht0, ht1⟩
        clear hor hrb hot hkt hkr hRl hTR ht0 ht1 hh hnc hcm hcs hct hg HR
        go_wp2_with fail
        refine (among_any (pk i) nR ⟨hp1, hp2⟩ (by omega) (by omega) _).mono ?_
        rintro e w5 ⟨r, rfl, hr, rfl⟩
        have hrn : r < nR := by omega
        have hrR : r < R.length := by have := HQ.out.2.2.1; omega
        have hzR : nR - 1 < R.length := by have := HQ.out.2.2.1; omega
        have qE := ent_of_row HO.out.1 HO.out.2.2.2.2.1 HQ.out.2.2.1 r hrR
        obtain ⟨⟨rk, rc, rn, rv, rd⟩, hre⟩ : ∃ e, e = R[r] := ⟨_, rfl⟩
        rw [← hre] at qE
        have HRE : Hid (R[r] = (rk, rc, rn, rv, rd)) := hre.symm
        have hrk : rk.size ≤ 140737488351232 := by have := HQ.out.2.1 r hrR; rw [HRE.out] at this; exact this
        obtain ⟨e0, e1, e2, e3, e4⟩ := qE
        simp only at e0 e1 e2 e3 e4
        clear hre hp1 hp2 hpc2 hr
        have hTl : T.length ≤ l.length := by have := HQ.out.2.2.2.1; omega
        have HT2 := HT.out.alloc (.cells #[.string rk, .int .i64 rc, .int .i64 rn, .string rv, .bool rd] 32 (0, 0))
        have HT3 : Hid _ := HT2
        clear HT2
        go_wp2_with (first
          | (at_builtin; (refine wpList_append_any _ rfl (.tmp 39) (.tmp 44) 22 rfl B2 32 i0 _ 5 56 Tryd.underlying22 HI.out.1 HI.out.2.1 HI.out.2.2.1 HI.out.2.2.2 rfl (by decide) _ _ _ rfl (HT.out.alloc _) (some ⟨w5.heap.size, 0, none⟩) 1 1 (flat [(rk, rc, rn, rv, rd)]) rfl rfl (fun h => by cases h) ?c1 (flat_one _) ?c3 ?c4 ?c5 ?_))
          | fail)
        case c1 =>
          refine Ents.cells' (l := [(rk, rc, rn, rv, rd)]) ?_
          intro j2 hj2
          obtain rfl : j2 = 0 := by simp at hj2; exact hj2
          have gx : (w5.alloc (.cells #[.string rk, .int .i64 rc, .int .i64 rn, .string rv, .bool rd] 32 (0, 0))).heap[w5.heap.size]? = some (.cells #[.string rk, .int .i64 rc, .int .i64 rn, .string rv, .bool rd] 32 (0, 0)) := by (repeat (first | (with_reducible assumption) | (with_reducible exact Below.refl _ _) | (with_reducible refine heap_drew ?_) | (focus ((with_reducible refine heap_new ?_) ; simp ; done)) | (with_reducible apply heap_set_to) | (focus ((with_reducible refine heap_set_ne ?_ ?_ _) ; rotate_left ; (focus (first | omega | (simp ; done) | (simp ; omega))))) | (with_reducible refine heap_old ?_) | (with_reducible refine Below.drew ?_) | (with_reducible refine below_set ?_ _ _) | (focus ((with_reducible refine Below.setCell ?_ ?_ _) ; rotate_left ; (focus (first | omega | (simp ; done) | (simp ; omega))))) | (focus ((with_reducible refine Below.alloc ?_ ?_ _) ; rotate_left ; (focus (first | omega | (simp ; done) | (simp ; omega))))) | (with_reducible rfl) | (focus (simp ; done))))
          have qx := blk5 gx
          exact ⟨_, 0, rfl, ⟨qx.1, qx.2.1, qx.2.2.1, qx.2.2.2.1, qx.2.2.2.2.1⟩, hrk⟩
        case c3 => unfold maxLen; omega
        case c4 => omega
        case c5 => simp; omega
        intro vt' w6 hown' hgrow
        clear e0 e1 e2 e3 e4 HT3
        have hs6 := hgrow.size
        have hg6 : w6.heap[gR]? = some (.cells cur 32 (0, 0)) := (hgrow.block gR (by simp; omega) (fun h => by have := (HT.out.lt _ h.symm).1; omega)).trans (heap_old HO.out.1)
        have hb6 : Below (sb + 1) ws w6 := (hbr.alloc (by omega) _).grown hgrow (by simp; omega) (fun y hy => by have := (HT.out.lt y hy).1; omega)
        have HT6 : Hid (w6.ownsRow B2 32 5 vt' (T.length + 1) (flat (T ++ [(rk, rc, rn, rv, rd)]))) := by unfold Hid; rw [flat_append]; exact hown'
        have hB6 : B2 ≤ w6.heap.size := by simp at hs6; omega
        have qZ := ent_of_row hg6 HO.out.2.2.2.2.1 HQ.out.2.2.1 (nR - 1) hzR
        obtain ⟨⟨zk, zc, zn, zv, zd⟩, hze⟩ : ∃ e, e = R[nR - 1] := ⟨_, rfl⟩
        rw [← hze] at qZ
        have HZE : Hid (R[nR - 1] = (zk, zc, zn, zv, zd)) := hze.symm
        have hqr : EntAt w6 gR (r * 5) R[r] := ent_of_row hg6 HO.out.2.2.2.2.1 HQ.out.2.2.1 r hrR
        obtain ⟨z0, z1, z2, z3, z4⟩ := qZ
        obtain ⟨y0, y1, y2, y3, y4⟩ := hqr
        rw [HRE.out] at y0 y1 y2 y3 y4
        simp only at z0 z1 z2 z3 z4 y0 y1 y2 y3 y4
        have hfz := blk_free hg6
        have hn1 : ((nR : Int) - 1).toNat = nR - 1 := by omega
        have hcr : nR ≤ cr := HO.out.2.1
        clear hown' hgrow hs6 hze HT hbr hB
        go_wp2_with fail
        have hz' : R[R.length - 1]'(by omega) = (zk, zc, zn, zv, zd) := by rw [← HZE.out]; congr 1; have := HQ.out.2.2.1; omega
        have t0 := tot0_shrink R r hrR
        have t1 := tot1_shrink R r hrR
        rw [hz', HRE.out] at t0 t1
        have hzk : zk.size ≤ 140737488351232 := by have := HQ.out.2.1 (nR - 1) hzR; rw [HZE.out] at this; exact this
        go_roundw
        case rel =>
          obtain ⟨qT, qR, qRl, qTR, q0, q1⟩ := HQ.out
          refine ⟨i + 1, nR - 1, cr, some ⟨gR, 0, none⟩, T ++ [(rk, rc, rn, rv, rd)], shrink R r (zk, zc, zn, zv, zd), by omega, by go_num, rfl, by omega, ⟨?_, ?_, ?_, ?_, ?_, ?_, ?_, ?_, ?_⟩, ?_, ?_⟩
          · refine ⟨by rw [flat_length, shrink_length, qRl], .inr ⟨gR, cr, _, rfl, HO.out.2.2.2.2.2, heap_set (heap_set (heap_set (heap_set (heap_set hg6 _ _) _ _) _ _) _ _) _ _, by omega, HO.out.2.2.1, ?_, ?_⟩⟩
            · simp only [Array.size_setIfInBounds]; exact HO.out.2.2.2.1
            · exact row_shrink HO.out.2.2.2.2.1 qRl r hrR (zk, zc, zn, zv, zd)
          · intro g hg; simp [Value.ownBlock] at hg; omega
          · rw [List.length_append, List.length_singleton]
            have hne : ∀ g, vt'.ownBlock = some g → g ≠ gR := fun g hg => by have := (HT6.out.lt g hg).1; omega
            exact own_set (own_set (own_set (own_set (own_set HT6.out hne _) hne _) hne _) hne _) hne _
          · exact qT.append (fun k hk => by
              obtain rfl : k = 0 := by simp at hk; exact hk
              exact hrk)
          · exact qR.shrink r _ hzk
          · rw [shrink_length, qRl]
          · rw [List.length_append, List.length_singleton]; omega
          · rw [tot0_append]
            have : tot0 [(rk, rc, rn, rv, rd)] = m0 (rk, rc, rn, rv, rd) := by simp [tot0]
            omega
          · rw [tot1_append]
            have : tot1 [(rk, rc, rn, rv, rd)] = m1 (rk, rc, rn, rv, rd) := by simp [tot1]
            omega
          · simp only [World.size_setCell]; exact hB6
          · have hge : sb + 1 ≤ gR := HO.out.2.2.2.2.2
            (repeat (first | (with_reducible assumption) | (with_reducible exact Below.refl _ _) | (with_reducible refine heap_drew ?_) | (focus ((with_reducible refine heap_new ?_) ; simp ; done)) | (with_reducible apply heap_set_to) | (focus ((with_reducible refine heap_set_ne ?_ ?_ _) ; rotate_left ; (focus (first | omega | (simp ; done) | (simp ; omega))))) | (with_reducible refine heap_old ?_) | (with_reducible refine Below.drew ?_) | (with_reducible refine below_set ?_ _ _) | (focus ((with_reducible refine Below.setCell ?_ ?_ _) ; rotate_left ; (focus (first | omega | (simp ; done) | (simp ; omega))))) | (focus ((with_reducible refine Below.alloc ?_ ?_ _) ; rotate_left ; (focus (first | omega | (simp ; done) | (simp ; omega))))) | (with_reducible rfl) | (focus (simp ; done))))
        case measure => simp [intOf]; omega
      · obtain ⟨hor, hrb, hot, hkt, hkr, hRl, hTR, ht0, ht1⟩ := HR.out
        subst hRl
        obtain ⟨ot, ct, rfl, nt, _⟩ := ents_of_own rfl hot hkt
        obtain ⟨aoR, cR2, hv, nR0, hER⟩ := ents_of_own rfl hor hkr
        simp only [Value.slice.injEq] at hv
        obtain ⟨rfl, _, rfl⟩ := hv
        have HER : Hid (Ents wr ao R ∧ (ao = none → R.length = 0 ∧ cr = 0)) := ⟨hER, nR0⟩
        have HT : Hid (wr.ownsRow B2 32 5 (.slice ot T.length ct) T.length (flat T)) := hot
        have HK : Hid (KeysOk (T ++ R)) := hkt.append hkr
        have g5r := (hbr.block w.heap.size (by omega)).trans g5'
        have g7r := (hbr.block sb (by omega)).trans g7
        have hbw : Below w.heap.size w wr := hb'.trans (hbr.mono (by omega))
        have HS : Hid (tot0 (T ++ R) = tot0 l ∧ tot1 (T ++ R) = tot1 l ∧ tot0 T + tot0 R = tot0 l ∧ tot1 T + tot1 R = tot1 l) := ⟨by rw [tot0_append, ht0], by rw [tot1_append, ht1], ht0, ht1⟩
        clear HR hor hrb hot hkt hkr hnR ht0 ht1 hER nR0 nt g5' g7 hb'
        go_wp2_with (first
          | (at_builtin; (refine wpList_append_any _ rfl (.tmp 62) (.tmp 63) 22 rfl B2 32 i0 _ 5 56 Tryd.underlying22 HI.out.1 HI.out.2.1 HI.out.2.2.1 HI.out.2.2.2 rfl (by decide) _ T.length (flat T) rfl HT.out ao R.length cr (flat R) rfl (flat_length R) HER.out.2 HER.out.1.cells' (flat_one R) ?_ ?_ ?_ ?_))
          | fail)
        · unfold maxLen; omega
        · omega
        · exact hB
        intro vM w7 hown hgrow
        have hb7 : Below (sb + 1) ws w7 := hbr.grown hgrow (by omega) (fun y hy => by have := (HT.out.lt y hy).1; omega)
        have hbw7 : Below w.heap.size w w7 := hbw.grown hgrow (by have := hbw.size; omega) (fun y hy => by have := (HT.out.lt y hy).1; omega)
        have hM : (T ++ R).length = l.length := by rw [List.length_append]; exact hTR
        rw [← flat_append] at hown
        obtain ⟨oM, cM, rfl, nM, hEM⟩ := ents_of_own hM.symm hown HK.out
        have hle := (own_le hown).1
        have hB7 : B2 ≤ w7.heap.size := Nat.le_trans hB hgrow.size
        have HLN : Hid ((T ++ R).length = l.length) := hM
        have hTM : T.length ≤ l.length := by omega
        have hL7 : Hid (Lanes w7) := HH.out.1.below hbw7 hL0
        have hw70 : 0 < w7.heap.size := hL7.out.lt
        have g5' := (hgrow.block w.heap.size (by omega) (fun h => by have := (HT.out.lt _ h.symm).1; omega)).trans g5r
        have g7' := (hgrow.block sb (by omega) (fun h => by have := (HT.out.lt _ h.symm).1; omega)).trans g7r
        have HRl : Hid (R.length = l.length - T.length) := by show R.length = _; omega
        have CM : Hid (∀ w', Below w7.heap.size w7 w' → Calls Tryd.prog 29 #[.slice oM l.length cM] w' fun e w'' => e = .returned (sv (Go.Proofs.YtjeaobknojmbpaaDoor.u64 (tot0 l)) (Go.Proofs.YtjeaobknojmbpaaDoor.u64 (tot1 l))) ∧ Below w'.heap.size w' w'') := fun w' hc => by
          have h := all_any oM cM (T ++ R) w' (hL7.out.below hc hw70) (hEM.below hc) (by omega)
          rw [HS.out.1, HS.out.2.1, hM] at h
          exact h
        have CT : Hid (∀ w', Below w7.heap.size w7 w' → Calls Tryd.prog 29 #[.slice oM T.length cM] w' fun e w'' => e = .returned (sv (Go.Proofs.YtjeaobknojmbpaaDoor.u64 (tot0 T)) (Go.Proofs.YtjeaobknojmbpaaDoor.u64 (tot1 T))) ∧ Below w'.heap.size w' w'') := fun w' hc => all_any oM cM T w' (hL7.out.below hc hw70) ((ents_pre hEM).below hc) (by omega)
        have CA : Hid (∀ w', Calls Tryd.prog 25 #[sv (Go.Proofs.YtjeaobknojmbpaaDoor.u64 (tot0 T)) (Go.Proofs.YtjeaobknojmbpaaDoor.u64 (tot1 T)), sv (Go.Proofs.YtjeaobknojmbpaaDoor.u64 (tot0 R)) (Go.Proofs.YtjeaobknojmbpaaDoor.u64 (tot1 R))] w' fun e w'' => e = .returned (sv (Go.Proofs.YtjeaobknojmbpaaDoor.u64 (tot0 l)) (Go.Proofs.YtjeaobknojmbpaaDoor.u64 (tot1 l))) ∧ Below w'.heap.size w' w'') := fun w' => by
          have h := add_any (Go.Proofs.YtjeaobknojmbpaaDoor.u64 (tot0 T)) (Go.Proofs.YtjeaobknojmbpaaDoor.u64 (tot1 T)) (Go.Proofs.YtjeaobknojmbpaaDoor.u64 (tot0 R)) (Go.Proofs.YtjeaobknojmbpaaDoor.u64 (tot1 R)) w'
          rw [u64_sum, u64_sum, HS.out.2.2.1, HS.out.2.2.2] at h
          exact h
        have HEM : Hid (Ents w7 oM (T ++ R)) := hEM
        have HOW : Hid (w7.ownsRow B2 32 5 (.slice oM l.length cM) l.length (flat (T ++ R))) := hown
        clear hown hgrow hEM g5r g7r HT HER hbr hbw nM hTR hM
        go_wp2_with fail
        by_cases hcm : T.length = cM
        · subst hcm
          have HR0 : Hid (R.length = 0) := by have := HRl.out; show R.length = 0; omega
          clear hle
          have hcm := True.intro
          have CR : Hid (∀ w', Below w7.heap.size w7 w' → Calls Tryd.prog 29 #[.slice oM (l.length - T.length) 0] w' fun e w'' => e = .returned (sv (Go.Proofs.YtjeaobknojmbpaaDoor.u64 (tot0 R)) (Go.Proofs.YtjeaobknojmbpaaDoor.u64 (tot1 R))) ∧ Below w'.heap.size w' w'') := fun w' hc => by
            have h := all_any oM 0 R w' (hL7.out.below hc hw70) (fun k hk => absurd hk (by have := HR0.out; omega)) (by have := HR0.out; omega)
            rw [HRl.out] at h
            exact h
          have hSt : Stable (fun w8 : World => (Below w7.heap.size w7 w8)) := by repeat (first | exact stable_ext _ | exact stable_blk _ _ | exact stable_true | (refine stable_bel ?_ ; (focus (first | (simp [World.size_setCell] ; done) | (simp [World.setCell] ; done)))) | refine Stable.and ?_ ?_)
          refine wp_region_x [0, 1, 2, 3, 4, 5, 6, 7, 8, 9, 10, 11, 12, 13, 14, 15, 16] [0, 1, 1, 0, 0, 0, 0, 0, 1, 0, 0, 0, 1, 1, 1, 0, 0] (fun w8 => (Below w7.heap.size w7 w8)) (by kernel_rfl) (by kernel_rfl) ?_ ?_
          · (first | trivial | (repeat (first | (with_reducible assumption) | (with_reducible exact Below.refl _ _) | (with_reducible refine heap_drew ?_) | (focus ((with_reducible refine heap_new ?_) ; simp ; done)) | (with_reducible apply heap_set_to) | (focus ((with_reducible refine heap_set_ne ?_ ?_ _) ; rotate_left ; (focus (first | omega | (simp ; done) | (simp ; omega))))) | (with_reducible refine heap_old ?_) | (with_reducible refine Below.drew ?_) | (with_reducible refine below_set ?_ _ _) | (focus ((with_reducible refine Below.setCell ?_ ?_ _) ; rotate_left ; (focus (first | omega | (simp ; done) | (simp ; omega))))) | (focus ((with_reducible refine Below.alloc ?_ ?_ _) ; rotate_left ; (focus (first | omega | (simp ; done) | (simp ; omega))))) | (with_reducible rfl) | (focus (simp ; done)))))
          simp only [List.map_cons, List.map_nil, List.getD_cons_zero, List.getD_cons_succ]
          (refine x_pure rfl _ ?_ rfl (by simp) ?_ ?_ ; rotate_left ; · (intro w8 K hK ; go_wp2_with fail ; exact rfl))
          simp only [Act.put, List.setIfInBounds_toArray, List.set_cons_succ, List.set_cons_zero]
          (refine x_quiet rfl hSt (fun _ h => h) _ ?_ rfl (by simp) ?_ ?_ ; rotate_left ; · (intro w8 hC K hK ; have hc := hC ; have q7 := blk2 (blk_below g7' hc) ; go_wp2_with fail ; refine (CM.out _ hc).mono ?_ ; rintro e w2 ⟨rfl, hb2⟩ ; refine hK _ _ ⟨?_, rfl, hb2⟩ ; exact rfl))
          simp only [Act.put, List.setIfInBounds_toArray, List.set_cons_succ, List.set_cons_zero]
          (refine x_quiet rfl hSt (fun _ h => h) _ ?_ rfl (by simp) ?_ ?_ ; rotate_left ; · (intro w8 hC K hK ; have hc := hC ; have q7 := blk2 (blk_below g7' hc) ; go_wp2_with fail ; refine ⟨?_, Below.refl _ _⟩ ; exact rfl))
          simp only [Act.put, List.setIfInBounds_toArray, List.set_cons_succ, List.set_cons_zero]
          (refine x_pure rfl _ ?_ rfl (by simp) ?_ ?_ ; rotate_left ; · (intro w8 K hK ; go_wp2_with fail ; exact rfl))
          simp only [Act.put, List.setIfInBounds_toArray, List.set_cons_succ, List.set_cons_zero]
          (refine x_pure rfl _ ?_ rfl (by simp) ?_ ?_ ; rotate_left ; · (intro w8 K hK ; go_wp2_with fail ; exact rfl))
          simp only [Act.put, List.setIfInBounds_toArray, List.set_cons_succ, List.set_cons_zero]
          first | (refine x_skip rfl ?_) | (refine x_pure rfl _ ?_ rfl (by simp) ?_ ?_ ; rotate_left ; · (intro w8 K hK ; go_wp2_with fail ; exact rfl))
          simp only [Act.put, List.setIfInBounds_toArray, List.set_cons_succ, List.set_cons_zero]
          first | (refine x_skip rfl ?_) | (refine x_pure rfl _ ?_ rfl (by simp) ?_ ?_ ; rotate_left ; · (intro w8 K hK ; go_wp2_with fail ; exact rfl))
          simp only [Act.put, List.setIfInBounds_toArray, List.set_cons_succ, List.set_cons_zero]
          first | (refine x_skip rfl ?_) | (refine x_pure rfl _ ?_ rfl (by simp) ?_ ?_ ; rotate_left ; · (intro w8 K hK ; go_wp2_with fail ; exact rfl))
          simp only [Act.put, List.setIfInBounds_toArray, List.set_cons_succ, List.set_cons_zero]
          first | (refine x_skip rfl ?_) | (refine x_quiet rfl hSt (fun _ h => h) _ ?_ rfl (by simp) ?_ ?_ ; rotate_left ; · (intro w8 hC K hK ; have hc := hC ; have q7 := blk2 (blk_below g7' hc) ; go_wp2_with fail ; refine (CT.out _ hc).mono ?_ ; rintro e w2 ⟨rfl, hb2⟩ ; refine hK _ _ ⟨?_, rfl, hb2⟩ ; exact rfl))
          simp only [Act.put, List.setIfInBounds_toArray, List.set_cons_succ, List.set_cons_zero]
          first | (refine x_skip rfl ?_) | (refine x_pure rfl _ ?_ rfl (by simp) ?_ ?_ ; rotate_left ; · (intro w8 K hK ; go_wp2_with fail ; exact rfl))
          simp only [Act.put, List.setIfInBounds_toArray, List.set_cons_succ, List.set_cons_zero]
          first | (refine x_skip rfl ?_) | (refine x_pure rfl _ ?_ rfl (by simp) ?_ ?_ ; rotate_left ; · (intro w8 K hK ; go_wp2_with fail ; exact rfl))
          simp only [Act.put, List.setIfInBounds_toArray, List.set_cons_succ, List.set_cons_zero]
          first | (refine x_skip rfl ?_) | (refine x_pure rfl _ ?_ rfl (by simp) ?_ ?_ ; rotate_left ; · (intro w8 K hK ; go_wp2_with fail ; exact rfl))
          simp only [Act.put, List.setIfInBounds_toArray, List.set_cons_succ, List.set_cons_zero]
          first | (refine x_skip rfl ?_) | (refine x_quiet rfl hSt (fun _ h => h) _ ?_ rfl (by simp) ?_ ?_ ; rotate_left ; · (intro w8 hC K hK ; have hc := hC ; have q7 := blk2 (blk_below g7' hc) ; go_wp2_with fail ; refine (CR.out _ hc).mono ?_ ; rintro e w2 ⟨rfl, hb2⟩ ; refine hK _ _ ⟨?_, rfl, hb2⟩ ; exact rfl))
          simp only [Act.put, List.setIfInBounds_toArray, List.set_cons_succ, List.set_cons_zero]
          first | (refine x_skip rfl ?_) | (refine x_quiet rfl hSt (fun _ h => h) _ ?_ rfl (by simp) ?_ ?_ ; rotate_left ; · (intro w8 hC K hK ; have hc := hC ; have q7 := blk2 (blk_below g7' hc) ; go_wp2_with fail ; refine (CA.out _).mono ?_ ; rintro e w2 ⟨rfl, hb2⟩ ; refine hK _ _ ⟨?_, rfl, hb2⟩ ; exact rfl))
          simp only [Act.put, List.setIfInBounds_toArray, List.set_cons_succ, List.set_cons_zero]
          first | (refine x_skip rfl ?_) | (refine x_quiet rfl hSt (fun _ h => h) _ ?_ rfl (by simp) ?_ ?_ ; rotate_left ; · (intro w8 hC K hK ; have hc := hC ; have q7 := blk2 (blk_below g7' hc) ; go_wp2_with fail ; refine ⟨?_, Below.refl _ _⟩ ; exact rfl))
          simp only [Act.put, List.setIfInBounds_toArray, List.set_cons_succ, List.set_cons_zero]
          first | (refine x_skip rfl ?_) | (refine x_pure rfl _ ?_ rfl (by simp) ?_ ?_ ; rotate_left ; · (intro w8 K hK ; go_wp2_with fail ; exact rfl))
          simp only [Act.put, List.setIfInBounds_toArray, List.set_cons_succ, List.set_cons_zero]
          (refine x_pure rfl _ ?_ rfl (by simp) ?_ ?_ ; rotate_left ; · (intro w8 K hK ; go_wp2_with fail ; exact rfl))
          simp only [Act.put, List.setIfInBounds_toArray, List.set_cons_succ, List.set_cons_zero]
          refine x_nil ?_
          rintro w8 hc
          have gE8 := blk_below g5' hc
          have gS8 := blk_below g7' hc
          have hbw8 : Below w.heap.size w w8 := below_back hbw7 hbw7.size hc
          have HO8 := own_below HOW.out hc
          have hz8 := hc.size
          obtain ⟨x0, x1, x2, x3, x4, xl, xf⟩ := blk5 gE8
          clear CM CT CA CR HRl HOW HEM hc hcm
          go_wp2_with fail
          have hbA : Below w8.heap.size w8 (w8.alloc (.cells #[.string ek, .int .i64 ec, .int .i64 en, .string evv, .bool ed] 32 (0, 0))) := by (repeat (first | (with_reducible assumption) | (with_reducible exact Below.refl _ _) | (with_reducible refine heap_drew ?_) | (focus ((with_reducible refine heap_new ?_) ; simp ; done)) | (with_reducible apply heap_set_to) | (focus ((with_reducible refine heap_set_ne ?_ ?_ _) ; rotate_left ; (focus (first | omega | (simp ; done) | (simp ; omega))))) | (with_reducible refine heap_old ?_) | (with_reducible refine Below.drew ?_) | (with_reducible refine below_set ?_ _ _) | (focus ((with_reducible refine Below.setCell ?_ ?_ _) ; rotate_left ; (focus (first | omega | (simp ; done) | (simp ; omega))))) | (focus ((with_reducible refine Below.alloc ?_ ?_ _) ; rotate_left ; (focus (first | omega | (simp ; done) | (simp ; omega))))) | (with_reducible rfl) | (focus (simp ; done))))
          have gx : (w8.alloc (.cells #[.string ek, .int .i64 ec, .int .i64 en, .string evv, .bool ed] 32 (0, 0))).heap[w8.heap.size]? = some (.cells #[.string ek, .int .i64 ec, .int .i64 en, .string evv, .bool ed] 32 (0, 0)) := by (repeat (first | (with_reducible assumption) | (with_reducible exact Below.refl _ _) | (with_reducible refine heap_drew ?_) | (focus ((with_reducible refine heap_new ?_) ; simp ; done)) | (with_reducible apply heap_set_to) | (focus ((with_reducible refine heap_set_ne ?_ ?_ _) ; rotate_left ; (focus (first | omega | (simp ; done) | (simp ; omega))))) | (with_reducible refine heap_old ?_) | (with_reducible refine Below.drew ?_) | (with_reducible refine below_set ?_ _ _) | (focus ((with_reducible refine Below.setCell ?_ ?_ _) ; rotate_left ; (focus (first | omega | (simp ; done) | (simp ; omega))))) | (focus ((with_reducible refine Below.alloc ?_ ?_ _) ; rotate_left ; (focus (first | omega | (simp ; done) | (simp ; omega))))) | (with_reducible rfl) | (focus (simp ; done))))
          have hbwA := below_back hbw8 hbw8.size hbA
          refine (all_one (HH.out.1.below hbwA hL0) gx hek).mono ?_
          rintro e w9 ⟨rfl, hb9⟩
          have gE9 := blk_below (heap_old (o := .cells #[.string ek, .int .i64 ec, .int .i64 en, .string evv, .bool ed] 32 (0, 0)) gE8) hb9
          have gS9 := blk_below (heap_old (o := .cells #[.string ek, .int .i64 ec, .int .i64 en, .string evv, .bool ed] 32 (0, 0)) gS8) hb9
          have hbw9 := below_back hbwA hbwA.size hb9
          have HO9 := own_below (HO8.alloc (.cells #[.string ek, .int .i64 ec, .int .i64 en, .string evv, .bool ed] 32 (0, 0))) hb9
          have hz9 := hb9.size
          have hB9 : B2 < w9.heap.size := by simp at hz9; omega
          clear x0 x1 x2 x3 x4 xl xf gE8 gS8 hbw8 HO8 hbA gx hbwA hb9 hz9 hz8 g5' g7' hbw7
          obtain ⟨x0, x1, x2, x3, x4, xl, xf⟩ := blk5 gE9
          have HO10 : Hid (((w9.alloc (.cells #[.int .u64 (mix0 ek ec en), .int .u64 (mix1 ek ec en)] 26 (0, 0))).alloc (.cells #[.string ek, .int .i64 ec, .int .i64 en, .string evv, .bool ed] 32 (0, 0))).ownsRow B2 32 5 (.slice oM l.length T.length) l.length (flat (T ++ R))) := (HO9.alloc _).alloc _
          have gx0 : ((w9.alloc (.cells #[.int .u64 (mix0 ek ec en), .int .u64 (mix1 ek ec en)] 26 (0, 0))).alloc (.cells #[.string ek, .int .i64 ec, .int .i64 en, .string evv, .bool ed] 32 (0, 0))).heap[w9.heap.size + 1]? = some (.cells #[.string ek, .int .i64 ec, .int .i64 en, .string evv, .bool ed] 32 (0, 0)) := by (repeat (first | (with_reducible assumption) | (with_reducible exact Below.refl _ _) | (with_reducible refine heap_drew ?_) | (focus ((with_reducible refine heap_new ?_) ; simp ; done)) | (with_reducible apply heap_set_to) | (focus ((with_reducible refine heap_set_ne ?_ ?_ _) ; rotate_left ; (focus (first | omega | (simp ; done) | (simp ; omega))))) | (with_reducible refine heap_old ?_) | (with_reducible refine Below.drew ?_) | (with_reducible refine below_set ?_ _ _) | (focus ((with_reducible refine Below.setCell ?_ ?_ _) ; rotate_left ; (focus (first | omega | (simp ; done) | (simp ; omega))))) | (focus ((with_reducible refine Below.alloc ?_ ?_ _) ; rotate_left ; (focus (first | omega | (simp ; done) | (simp ; omega))))) | (with_reducible rfl) | (focus (simp ; done))))
          have gx : Hid _ := gx0
          clear gx0
          have gA0 : ((w9.alloc (.cells #[.int .u64 (mix0 ek ec en), .int .u64 (mix1 ek ec en)] 26 (0, 0))).alloc (.cells #[.string ek, .int .i64 ec, .int .i64 en, .string evv, .bool ed] 32 (0, 0))).heap[w9.heap.size]? = some (.cells #[.int .u64 (mix0 ek ec en), .int .u64 (mix1 ek ec en)] 26 (0, 0)) := by (repeat (first | (with_reducible assumption) | (with_reducible exact Below.refl _ _) | (with_reducible refine heap_drew ?_) | (focus ((with_reducible refine heap_new ?_) ; simp ; done)) | (with_reducible apply heap_set_to) | (focus ((with_reducible refine heap_set_ne ?_ ?_ _) ; rotate_left ; (focus (first | omega | (simp ; done) | (simp ; omega))))) | (with_reducible refine heap_old ?_) | (with_reducible refine Below.drew ?_) | (with_reducible refine below_set ?_ _ _) | (focus ((with_reducible refine Below.setCell ?_ ?_ _) ; rotate_left ; (focus (first | omega | (simp ; done) | (simp ; omega))))) | (focus ((with_reducible refine Below.alloc ?_ ?_ _) ; rotate_left ; (focus (first | omega | (simp ; done) | (simp ; omega))))) | (with_reducible rfl) | (focus (simp ; done))))
          have gA9 : Hid _ := gA0
          have HO9' : Hid (w9.ownsRow B2 32 5 (.slice oM l.length T.length) l.length (flat (T ++ R))) := HO9
          clear HO9 gA0
          go_wp2_with (first
            | (at_builtin; (refine wpList_append_any _ rfl (.tmp 85) (.tmp 87) 22 rfl B2 32 i0 _ 5 56 Tryd.underlying22 HI.out.1 HI.out.2.1 HI.out.2.2.1 HI.out.2.2.2 rfl (by decide) _ l.length (flat (T ++ R)) rfl HO10.out (some ⟨w9.heap.size + 1, 0, none⟩) 1 1 (flat [(ek, ec, en, evv, ed)]) rfl rfl (fun h => by cases h) (ents_one gx.out hek).cells' (flat_one _) ?_ ?_ ?_ ?_))
            | fail)
          · unfold maxLen; omega
          · omega
          · simp; omega
          intro vN w10 hown hgrow
          have hlt0 : w.heap.size < w9.heap.size := by omega
          have hlt1 : sb < w9.heap.size := by omega
          have gE10 := (hgrow.block w.heap.size (by simp; omega) (fun h => by have := (HO10.out.lt _ h.symm).1; omega)).trans (heap_old (o := (.cells #[.string ek, .int .i64 ec, .int .i64 en, .string evv, .bool ed] 32 (0, 0))) (heap_old (o := (.cells #[.int .u64 (mix0 ek ec en), .int .u64 (mix1 ek ec en)] 26 (0, 0))) gE9))
          have gS10 := (hgrow.block sb (by simp; omega) (fun h => by have := (HO10.out.lt _ h.symm).1; omega)).trans (heap_old (o := (.cells #[.string ek, .int .i64 ec, .int .i64 en, .string evv, .bool ed] 32 (0, 0))) (heap_old (o := (.cells #[.int .u64 (mix0 ek ec en), .int .u64 (mix1 ek ec en)] 26 (0, 0))) gS9))
          have gA10 := (hgrow.block w9.heap.size (by simp; omega) (fun h => by have := (HO9'.out.lt _ h.symm).2; omega)).trans gA9.out
          have hbw10 : Below w.heap.size w w10 := ((hbw9.alloc hbw9.size (.cells #[.int .u64 (mix0 ek ec en), .int .u64 (mix1 ek ec en)] 26 (0, 0))).alloc (by simp; omega) (.cells #[.string ek, .int .i64 ec, .int .i64 en, .string evv, .bool ed] 32 (0, 0))).grown hgrow (by simp; omega) (fun y hy => by have := (HO10.out.lt y hy).1; omega)
          have hM2 : (T ++ R ++ [(ek, ec, en, evv, ed)]).length = l.length + 1 := by rw [List.length_append, HLN.out]; rfl
          rw [← flat_append] at hown
          obtain ⟨oN, cN, rfl, nN, hEN⟩ := ents_of_own hM2.symm hown (HK.out.append (fun k hk => by
            obtain rfl : k = 0 := by simp at hk; exact hk
            exact hek))
          have CN : Hid (Calls Tryd.prog 29 #[.slice oN (l.length + 1) cN] w10 fun e w'' => e = .returned (sv (Go.Proofs.YtjeaobknojmbpaaDoor.u64 (tot0 l + mix0 ek ec en)) (Go.Proofs.YtjeaobknojmbpaaDoor.u64 (tot1 l + mix1 ek ec en))) ∧ Below w10.heap.size w10 w'') := by
            have h := all_any oN cN (T ++ R ++ [(ek, ec, en, evv, ed)]) w10 (HH.out.1.below hbw10 hL0) hEN (by omega)
            rw [tot0_append (T ++ R), tot1_append (T ++ R), HS.out.1, HS.out.2.1, hM2, show tot0 [(ek, ec, en, evv, ed)] = mix0 ek ec en by simp [tot0, m0], show tot1 [(ek, ec, en, evv, ed)] = mix1 ek ec en by simp [tot1, m1]] at h
            exact h
          clear hM2 hEN nN hown hgrow HO10 HO9' gA9 gx gE9 gS9 x0 x1 x2 x3 x4 xl xf
          obtain ⟨ab, hab⟩ : ∃ g, g = w9.heap.size := ⟨_, rfl⟩
          rw [← hab] at gA10 ⊢
          clear hab hB9 hlt0 hlt1 hbw9
          go_wp2_with fail
          refine CN.out.mono ?_
          rintro e w11 ⟨rfl, hb11⟩
          have gE11 := blk_below gE10 hb11
          have gS11 := blk_below gS10 hb11
          have gA11 := blk_below gA10 hb11
          have hbw11 := below_back hbw10 hbw10.size hb11
          clear gE10 gS10 gA10 hbw10 hb11 CN
          go_wp2_with fail
          have gM12 : (w11.alloc (.cells #[.int .u64 (Go.Proofs.YtjeaobknojmbpaaDoor.u64 (tot0 l + mix0 ek ec en)), .int .u64 (Go.Proofs.YtjeaobknojmbpaaDoor.u64 (tot1 l + mix1 ek ec en))] 26 (0, 0))).heap[w11.heap.size]? = some (.cells #[.int .u64 (Go.Proofs.YtjeaobknojmbpaaDoor.u64 (tot0 l + mix0 ek ec en)), .int .u64 (Go.Proofs.YtjeaobknojmbpaaDoor.u64 (tot1 l + mix1 ek ec en))] 26 (0, 0)) := by (repeat (first | (with_reducible assumption) | (with_reducible exact Below.refl _ _) | (with_reducible refine heap_drew ?_) | (focus ((with_reducible refine heap_new ?_) ; simp ; done)) | (with_reducible apply heap_set_to) | (focus ((with_reducible refine heap_set_ne ?_ ?_ _) ; rotate_left ; (focus (first | omega | (simp ; done) | (simp ; omega))))) | (with_reducible refine heap_old ?_) | (with_reducible refine Below.drew ?_) | (with_reducible refine below_set ?_ _ _) | (focus ((with_reducible refine Below.setCell ?_ ?_ _) ; rotate_left ; (focus (first | omega | (simp ; done) | (simp ; omega))))) | (focus ((with_reducible refine Below.alloc ?_ ?_ _) ; rotate_left ; (focus (first | omega | (simp ; done) | (simp ; omega))))) | (with_reducible rfl) | (focus (simp ; done))))
          have gE12 := heap_old (o := (.cells #[.int .u64 (Go.Proofs.YtjeaobknojmbpaaDoor.u64 (tot0 l + mix0 ek ec en)), .int .u64 (Go.Proofs.YtjeaobknojmbpaaDoor.u64 (tot1 l + mix1 ek ec en))] 26 (0, 0))) gE11
          have gS12 := heap_old (o := (.cells #[.int .u64 (Go.Proofs.YtjeaobknojmbpaaDoor.u64 (tot0 l + mix0 ek ec en)), .int .u64 (Go.Proofs.YtjeaobknojmbpaaDoor.u64 (tot1 l + mix1 ek ec en))] 26 (0, 0))) gS11
          have gA12 := heap_old (o := (.cells #[.int .u64 (Go.Proofs.YtjeaobknojmbpaaDoor.u64 (tot0 l + mix0 ek ec en)), .int .u64 (Go.Proofs.YtjeaobknojmbpaaDoor.u64 (tot1 l + mix1 ek ec en))] 26 (0, 0))) gA11
          have hbw12 := hbw11.alloc hbw11.size (.cells #[.int .u64 (Go.Proofs.YtjeaobknojmbpaaDoor.u64 (tot0 l + mix0 ek ec en)), .int .u64 (Go.Proofs.YtjeaobknojmbpaaDoor.u64 (tot1 l + mix1 ek ec en))] 26 (0, 0))
          generalize hws : w11.alloc (.cells #[.int .u64 (Go.Proofs.YtjeaobknojmbpaaDoor.u64 (tot0 l + mix0 ek ec en)), .int .u64 (Go.Proofs.YtjeaobknojmbpaaDoor.u64 (tot1 l + mix1 ek ec en))] 26 (0, 0)) = wm at *
          obtain ⟨mb, hmb⟩ : ∃ g, g = w11.heap.size := ⟨_, rfl⟩
          rw [← hmb] at gM12 ⊢
          clear hws hmb gE11 gS11 gA11 hbw11
          have hLm : Hid (Lanes wm) := HH.out.1.below hbw12 hL0
          have hm0 : 0 < wm.heap.size := hLm.out.lt
          have CO : Hid (∀ w', Below wm.heap.size wm w' → Calls Tryd.prog 14 #[.string ek, .agg #[.int .i64 ec, .int .i64 en]] w' fun e w'' => e = .returned (sv (mix0 ek ec en) (mix1 ek ec en)) ∧ Below w'.heap.size w' w'') := fun w' hc => of_any ek ec en w' (hLm.out.below hc hm0) (by omega)
          have CD : Hid (∀ w', Calls Tryd.prog 25 #[sv (Go.Proofs.YtjeaobknojmbpaaDoor.u64 (tot0 l)) (Go.Proofs.YtjeaobknojmbpaaDoor.u64 (tot1 l)), sv (mix0 ek ec en) (mix1 ek ec en)] w' fun e w'' => e = .returned (sv (Go.Proofs.YtjeaobknojmbpaaDoor.u64 (tot0 l + mix0 ek ec en)) (Go.Proofs.YtjeaobknojmbpaaDoor.u64 (tot1 l + mix1 ek ec en))) ∧ Below w'.heap.size w' w'') := fun w' => by
            have h := add_any (Go.Proofs.YtjeaobknojmbpaaDoor.u64 (tot0 l)) (Go.Proofs.YtjeaobknojmbpaaDoor.u64 (tot1 l)) (mix0 ek ec en) (mix1 ek ec en) w'
            rw [u64_add, u64_add] at h
            exact h
          have CL : Hid (∀ w', Calls Tryd.prog 27 #[sv (Go.Proofs.YtjeaobknojmbpaaDoor.u64 (tot0 l + mix0 ek ec en)) (Go.Proofs.YtjeaobknojmbpaaDoor.u64 (tot1 l + mix1 ek ec en)), sv (mix0 ek ec en) (mix1 ek ec en)] w' fun e w'' => e = .returned (sv (Go.Proofs.YtjeaobknojmbpaaDoor.u64 (tot0 l)) (Go.Proofs.YtjeaobknojmbpaaDoor.u64 (tot1 l))) ∧ Below w'.heap.size w' w'') := fun w' => by
            have h := sub_any (Go.Proofs.YtjeaobknojmbpaaDoor.u64 (tot0 l + mix0 ek ec en)) (Go.Proofs.YtjeaobknojmbpaaDoor.u64 (tot1 l + mix1 ek ec en)) (mix0 ek ec en) (mix1 ek ec en) w'
            rw [u64_take, u64_take] at h
            exact h
          have CE : Hid (∀ w', Calls Tryd.prog 27 #[sv (Go.Proofs.YtjeaobknojmbpaaDoor.u64 (tot0 l + mix0 ek ec en)) (Go.Proofs.YtjeaobknojmbpaaDoor.u64 (tot1 l + mix1 ek ec en)), sv (Go.Proofs.YtjeaobknojmbpaaDoor.u64 (tot0 l)) (Go.Proofs.YtjeaobknojmbpaaDoor.u64 (tot1 l))] w' fun e w'' => e = .returned (sv (mix0 ek ec en) (mix1 ek ec en)) ∧ Below w'.heap.size w' w'') := fun w' => by
            have h := sub_any (Go.Proofs.YtjeaobknojmbpaaDoor.u64 (tot0 l + mix0 ek ec en)) (Go.Proofs.YtjeaobknojmbpaaDoor.u64 (tot1 l + mix1 ek ec en)) (Go.Proofs.YtjeaobknojmbpaaDoor.u64 (tot0 l)) (Go.Proofs.YtjeaobknojmbpaaDoor.u64 (tot1 l)) w'
            rw [u64_take', u64_take', mix0_u, mix1_u] at h
            exact h
          have hSt : Stable (fun wz : World => (Below wm.heap.size wm wz)) := by repeat (first | exact stable_ext _ | exact stable_blk _ _ | exact stable_true | (refine stable_bel ?_ ; (focus (first | (simp [World.size_setCell] ; done) | (simp [World.setCell] ; done)))) | refine Stable.and ?_ ?_)
          refine wp_region_x [0, 1, 2, 3, 4, 5, 6, 7, 8, 9, 10, 11, 12, 13, 14, 15, 16, 17, 18, 19, 20, 21, 22, 23, 24, 25, 26, 27, 28] [1, 0, 1, 0, 1, 1, 0, 0, 1, 1, 1, 1, 0, 0, 0, 1, 1, 1, 1, 0, 0, 0, 1, 1, 1, 1, 0, 0, 0] (fun wz => (Below wm.heap.size wm wz)) (by kernel_rfl) (by kernel_rfl) ?_ ?_
          · (first | trivial | (repeat (first | (with_reducible assumption) | (with_reducible exact Below.refl _ _) | (with_reducible refine heap_drew ?_) | (focus ((with_reducible refine heap_new ?_) ; simp ; done)) | (with_reducible apply heap_set_to) | (focus ((with_reducible refine heap_set_ne ?_ ?_ _) ; rotate_left ; (focus (first | omega | (simp ; done) | (simp ; omega))))) | (with_reducible refine heap_old ?_) | (with_reducible refine Below.drew ?_) | (with_reducible refine below_set ?_ _ _) | (focus ((with_reducible refine Below.setCell ?_ ?_ _) ; rotate_left ; (focus (first | omega | (simp ; done) | (simp ; omega))))) | (focus ((with_reducible refine Below.alloc ?_ ?_ _) ; rotate_left ; (focus (first | omega | (simp ; done) | (simp ; omega))))) | (with_reducible rfl) | (focus (simp ; done)))))
          simp only [List.map_cons, List.map_nil, List.getD_cons_zero, List.getD_cons_succ]
          (refine x_quiet rfl hSt (fun _ h => h) _ ?_ rfl (by simp) ?_ ?_ ; rotate_left ; · (intro wz hC K hK ; have hc := hC ; have pE := blk5 (blk_below gE12 hc) ; have pS := blk2 (blk_below gS12 hc) ; have pA := blk2 (blk_below gA12 hc) ; have pM := blk2 (blk_below gM12 hc) ; go_wp2_with fail ; refine ⟨?_, Below.refl _ _⟩ ; exact rfl))
          simp only [Act.put, List.setIfInBounds_toArray, List.set_cons_succ, List.set_cons_zero]
          (refine x_pure rfl _ ?_ rfl (by simp) ?_ ?_ ; rotate_left ; · (intro wz K hK ; go_wp2_with fail ; exact rfl))
          simp only [Act.put, List.setIfInBounds_toArray, List.set_cons_succ, List.set_cons_zero]
          (refine x_quiet rfl hSt (fun _ h => h) _ ?_ rfl (by simp) ?_ ?_ ; rotate_left ; · (intro wz hC K hK ; have hc := hC ; have pE := blk5 (blk_below gE12 hc) ; have pS := blk2 (blk_below gS12 hc) ; have pA := blk2 (blk_below gA12 hc) ; have pM := blk2 (blk_below gM12 hc) ; go_wp2_with fail ; refine ⟨?_, Below.refl _ _⟩ ; exact rfl))
          simp only [Act.put, List.setIfInBounds_toArray, List.set_cons_succ, List.set_cons_zero]
          (refine x_pure rfl _ ?_ rfl (by simp) ?_ ?_ ; rotate_left ; · (intro wz K hK ; go_wp2_with fail ; exact rfl))
          simp only [Act.put, List.setIfInBounds_toArray, List.set_cons_succ, List.set_cons_zero]
          (refine x_quiet rfl hSt (fun _ h => h) _ ?_ rfl (by simp) ?_ ?_ ; rotate_left ; · (intro wz hC K hK ; have hc := hC ; have pE := blk5 (blk_below gE12 hc) ; have pS := blk2 (blk_below gS12 hc) ; have pA := blk2 (blk_below gA12 hc) ; have pM := blk2 (blk_below gM12 hc) ; go_wp2_with fail ; refine ⟨?_, Below.refl _ _⟩ ; exact rfl))
          simp only [Act.put, List.setIfInBounds_toArray, List.set_cons_succ, List.set_cons_zero]
          (refine x_quiet rfl hSt (fun _ h => h) _ ?_ rfl (by simp) ?_ ?_ ; rotate_left ; · (intro wz hC K hK ; have hc := hC ; have pE := blk5 (blk_below gE12 hc) ; have pS := blk2 (blk_below gS12 hc) ; have pA := blk2 (blk_below gA12 hc) ; have pM := blk2 (blk_below gM12 hc) ; go_wp2_with fail ; refine (CO.out _ hc).mono ?_ ; rintro e w2 ⟨rfl, hb2⟩ ; refine hK _ _ ⟨?_, rfl, hb2⟩ ; exact rfl))
          simp only [Act.put, List.setIfInBounds_toArray, List.set_cons_succ, List.set_cons_zero]
          (refine x_pure rfl _ ?_ rfl (by simp) ?_ ?_ ; rotate_left ; · (intro wz K hK ; go_wp2_with fail ; exact rfl))
          simp only [Act.put, List.setIfInBounds_toArray, List.set_cons_succ, List.set_cons_zero]
          (refine x_pure rfl _ ?_ rfl (by simp) ?_ ?_ ; rotate_left ; · (intro wz K hK ; go_wp2_with fail ; exact rfl))
          simp only [Act.put, List.setIfInBounds_toArray, List.set_cons_succ, List.set_cons_zero]
          first | (refine x_skip rfl ?_) | (refine x_quiet rfl hSt (fun _ h => h) _ ?_ rfl (by simp) ?_ ?_ ; rotate_left ; · (intro wz hC K hK ; have hc := hC ; have pE := blk5 (blk_below gE12 hc) ; have pS := blk2 (blk_below gS12 hc) ; have pA := blk2 (blk_below gA12 hc) ; have pM := blk2 (blk_below gM12 hc) ; go_wp2_with fail ; refine ⟨?_, Below.refl _ _⟩ ; exact rfl))
          simp only [Act.put, List.setIfInBounds_toArray, List.set_cons_succ, List.set_cons_zero]
          first | (refine x_skip rfl ?_) | (refine x_quiet rfl hSt (fun _ h => h) _ ?_ rfl (by simp) ?_ ?_ ; rotate_left ; · (intro wz hC K hK ; have hc := hC ; have pE := blk5 (blk_below gE12 hc) ; have pS := blk2 (blk_below gS12 hc) ; have pA := blk2 (blk_below gA12 hc) ; have pM := blk2 (blk_below gM12 hc) ; go_wp2_with fail ; refine ⟨?_, Below.refl _ _⟩ ; exact rfl))
          simp only [Act.put, List.setIfInBounds_toArray, List.set_cons_succ, List.set_cons_zero]
          first | (refine x_skip rfl ?_) | (refine x_quiet rfl hSt (fun _ h => h) _ ?_ rfl (by simp) ?_ ?_ ; rotate_left ; · (intro wz hC K hK ; have hc := hC ; have pE := blk5 (blk_below gE12 hc) ; have pS := blk2 (blk_below gS12 hc) ; have pA := blk2 (blk_below gA12 hc) ; have pM := blk2 (blk_below gM12 hc) ; go_wp2_with fail ; refine ⟨?_, Below.refl _ _⟩ ; exact rfl))
          simp only [Act.put, List.setIfInBounds_toArray, List.set_cons_succ, List.set_cons_zero]
          first | (refine x_skip rfl ?_) | (refine x_quiet rfl hSt (fun _ h => h) _ ?_ rfl (by simp) ?_ ?_ ; rotate_left ; · (intro wz hC K hK ; have hc := hC ; have pE := blk5 (blk_below gE12 hc) ; have pS := blk2 (blk_below gS12 hc) ; have pA := blk2 (blk_below gA12 hc) ; have pM := blk2 (blk_below gM12 hc) ; go_wp2_with fail ; refine (CD.out _).mono ?_ ; rintro e w2 ⟨rfl, hb2⟩ ; refine hK _ _ ⟨?_, rfl, hb2⟩ ; exact rfl))
          simp only [Act.put, List.setIfInBounds_toArray, List.set_cons_succ, List.set_cons_zero]
          first | (refine x_skip rfl ?_) | (refine x_pure rfl _ ?_ rfl (by simp) ?_ ?_ ; rotate_left ; · (intro wz K hK ; go_wp2_with fail ; exact rfl))
          simp only [Act.put, List.setIfInBounds_toArray, List.set_cons_succ, List.set_cons_zero]
          (refine x_pure rfl _ ?_ rfl (by simp) ?_ ?_ ; rotate_left ; · (intro wz K hK ; go_wp2_with fail ; exact rfl))
          simp only [Act.put, List.setIfInBounds_toArray, List.set_cons_succ, List.set_cons_zero]
          (refine x_pure rfl _ ?_ rfl (by simp) ?_ ?_ ; rotate_left ; · (intro wz K hK ; go_wp2_with fail ; exact rfl))
          simp only [Act.put, List.setIfInBounds_toArray, List.set_cons_succ, List.set_cons_zero]
          first | (refine x_skip rfl ?_) | (refine x_quiet rfl hSt (fun _ h => h) _ ?_ rfl (by simp) ?_ ?_ ; rotate_left ; · (intro wz hC K hK ; have hc := hC ; have pE := blk5 (blk_below gE12 hc) ; have pS := blk2 (blk_below gS12 hc) ; have pA := blk2 (blk_below gA12 hc) ; have pM := blk2 (blk_below gM12 hc) ; go_wp2_with fail ; refine ⟨?_, Below.refl _ _⟩ ; exact rfl))
          simp only [Act.put, List.setIfInBounds_toArray, List.set_cons_succ, List.set_cons_zero]
          first | (refine x_skip rfl ?_) | (refine x_quiet rfl hSt (fun _ h => h) _ ?_ rfl (by simp) ?_ ?_ ; rotate_left ; · (intro wz hC K hK ; have hc := hC ; have pE := blk5 (blk_below gE12 hc) ; have pS := blk2 (blk_below gS12 hc) ; have pA := blk2 (blk_below gA12 hc) ; have pM := blk2 (blk_below gM12 hc) ; go_wp2_with fail ; refine ⟨?_, Below.refl _ _⟩ ; exact rfl))
          simp only [Act.put, List.setIfInBounds_toArray, List.set_cons_succ, List.set_cons_zero]
          first | (refine x_skip rfl ?_) | (refine x_quiet rfl hSt (fun _ h => h) _ ?_ rfl (by simp) ?_ ?_ ; rotate_left ; · (intro wz hC K hK ; have hc := hC ; have pE := blk5 (blk_below gE12 hc) ; have pS := blk2 (blk_below gS12 hc) ; have pA := blk2 (blk_below gA12 hc) ; have pM := blk2 (blk_below gM12 hc) ; go_wp2_with fail ; refine (CL.out _).mono ?_ ; rintro e w2 ⟨rfl, hb2⟩ ; refine hK _ _ ⟨?_, rfl, hb2⟩ ; exact rfl))
          simp only [Act.put, List.setIfInBounds_toArray, List.set_cons_succ, List.set_cons_zero]
          first | (refine x_skip rfl ?_) | (refine x_quiet rfl hSt (fun _ h => h) _ ?_ rfl (by simp) ?_ ?_ ; rotate_left ; · (intro wz hC K hK ; have hc := hC ; have pE := blk5 (blk_below gE12 hc) ; have pS := blk2 (blk_below gS12 hc) ; have pA := blk2 (blk_below gA12 hc) ; have pM := blk2 (blk_below gM12 hc) ; go_wp2_with fail ; refine ⟨?_, Below.refl _ _⟩ ; exact rfl))
          simp only [Act.put, List.setIfInBounds_toArray, List.set_cons_succ, List.set_cons_zero]
          first | (refine x_skip rfl ?_) | (refine x_pure rfl _ ?_ rfl (by simp) ?_ ?_ ; rotate_left ; · (intro wz K hK ; go_wp2_with fail ; exact rfl))
          simp only [Act.put, List.setIfInBounds_toArray, List.set_cons_succ, List.set_cons_zero]
          (refine x_pure rfl _ ?_ rfl (by simp) ?_ ?_ ; rotate_left ; · (intro wz K hK ; go_wp2_with fail ; exact rfl))
          simp only [Act.put, List.setIfInBounds_toArray, List.set_cons_succ, List.set_cons_zero]
          (refine x_pure rfl _ ?_ rfl (by simp) ?_ ?_ ; rotate_left ; · (intro wz K hK ; go_wp2_with fail ; exact rfl))
          simp only [Act.put, List.setIfInBounds_toArray, List.set_cons_succ, List.set_cons_zero]
          first | (refine x_skip rfl ?_) | (refine x_quiet rfl hSt (fun _ h => h) _ ?_ rfl (by simp) ?_ ?_ ; rotate_left ; · (intro wz hC K hK ; have hc := hC ; have pE := blk5 (blk_below gE12 hc) ; have pS := blk2 (blk_below gS12 hc) ; have pA := blk2 (blk_below gA12 hc) ; have pM := blk2 (blk_below gM12 hc) ; go_wp2_with fail ; refine ⟨?_, Below.refl _ _⟩ ; exact rfl))
          simp only [Act.put, List.setIfInBounds_toArray, List.set_cons_succ, List.set_cons_zero]
          first | (refine x_skip rfl ?_) | (refine x_quiet rfl hSt (fun _ h => h) _ ?_ rfl (by simp) ?_ ?_ ; rotate_left ; · (intro wz hC K hK ; have hc := hC ; have pE := blk5 (blk_below gE12 hc) ; have pS := blk2 (blk_below gS12 hc) ; have pA := blk2 (blk_below gA12 hc) ; have pM := blk2 (blk_below gM12 hc) ; go_wp2_with fail ; refine ⟨?_, Below.refl _ _⟩ ; exact rfl))
          simp only [Act.put, List.setIfInBounds_toArray, List.set_cons_succ, List.set_cons_zero]
          first | (refine x_skip rfl ?_) | (refine x_quiet rfl hSt (fun _ h => h) _ ?_ rfl (by simp) ?_ ?_ ; rotate_left ; · (intro wz hC K hK ; have hc := hC ; have pE := blk5 (blk_below gE12 hc) ; have pS := blk2 (blk_below gS12 hc) ; have pA := blk2 (blk_below gA12 hc) ; have pM := blk2 (blk_below gM12 hc) ; go_wp2_with fail ; refine (CE.out _).mono ?_ ; rintro e w2 ⟨rfl, hb2⟩ ; refine hK _ _ ⟨?_, rfl, hb2⟩ ; exact rfl))
          simp only [Act.put, List.setIfInBounds_toArray, List.set_cons_succ, List.set_cons_zero]
          first | (refine x_skip rfl ?_) | (refine x_quiet rfl hSt (fun _ h => h) _ ?_ rfl (by simp) ?_ ?_ ; rotate_left ; · (intro wz hC K hK ; have hc := hC ; have pE := blk5 (blk_below gE12 hc) ; have pS := blk2 (blk_below gS12 hc) ; have pA := blk2 (blk_below gA12 hc) ; have pM := blk2 (blk_below gM12 hc) ; go_wp2_with fail ; refine ⟨?_, Below.refl _ _⟩ ; exact rfl))
          simp only [Act.put, List.setIfInBounds_toArray, List.set_cons_succ, List.set_cons_zero]
          first | (refine x_skip rfl ?_) | (refine x_pure rfl _ ?_ rfl (by simp) ?_ ?_ ; rotate_left ; · (intro wz K hK ; go_wp2_with fail ; exact rfl))
          simp only [Act.put, List.setIfInBounds_toArray, List.set_cons_succ, List.set_cons_zero]
          (refine x_pure rfl _ ?_ rfl (by simp) ?_ ?_ ; rotate_left ; · (intro wz K hK ; go_wp2_with fail ; exact rfl))
          simp only [Act.put, List.setIfInBounds_toArray, List.set_cons_succ, List.set_cons_zero]
          (refine x_pure rfl _ ?_ rfl (by simp) ?_ ?_ ; rotate_left ; · (intro wz K hK ; go_wp2_with fail ; exact rfl))
          simp only [Act.put, List.setIfInBounds_toArray, List.set_cons_succ, List.set_cons_zero]
          refine x_nil ?_
          rintro wz hc
          go_wp2_with fail
          go_ret
          exact ⟨rfl, below_back hbw12 hbw12.size hc⟩
        · have CR : Hid (∀ w', Below w7.heap.size w7 w' → Calls Tryd.prog 29 #[.slice (Option.map (fun x => x.add (T.length * 5)) oM) (l.length - T.length) (cM - T.length)] w' fun e w'' => e = .returned (sv (Go.Proofs.YtjeaobknojmbpaaDoor.u64 (tot0 R)) (Go.Proofs.YtjeaobknojmbpaaDoor.u64 (tot1 R))) ∧ Below w'.heap.size w' w'') := fun w' hc => by
            have h := all_any (Option.map (fun x => x.add (T.length * 5)) oM) (cM - T.length) R w' (hL7.out.below hc hw70) ((ents_suf HEM.out).below hc) (by have := HRl.out; omega)
            rw [HRl.out] at h
            exact h
          have hSt : Stable (fun w8 : World => (Below w7.heap.size w7 w8)) := by repeat (first | exact stable_ext _ | exact stable_blk _ _ | exact stable_true | (refine stable_bel ?_ ; (focus (first | (simp [World.size_setCell] ; done) | (simp [World.setCell] ; done)))) | refine Stable.and ?_ ?_)
          refine wp_region_x [0, 1, 2, 3, 4, 5, 6, 7, 8, 9, 10, 11, 12, 13, 14, 15, 16] [0, 1, 1, 0, 0, 0, 0, 0, 1, 0, 0, 0, 1, 1, 1, 0, 0] (fun w8 => (Below w7.heap.size w7 w8)) (by kernel_rfl) (by kernel_rfl) ?_ ?_
          · (first | trivial | (repeat (first | (with_reducible assumption) | (with_reducible exact Below.refl _ _) | (with_reducible refine heap_drew ?_) | (focus ((with_reducible refine heap_new ?_) ; simp ; done)) | (with_reducible apply heap_set_to) | (focus ((with_reducible refine heap_set_ne ?_ ?_ _) ; rotate_left ; (focus (first | omega | (simp ; done) | (simp ; omega))))) | (with_reducible refine heap_old ?_) | (with_reducible refine Below.drew ?_) | (with_reducible refine below_set ?_ _ _) | (focus ((with_reducible refine Below.setCell ?_ ?_ _) ; rotate_left ; (focus (first | omega | (simp ; done) | (simp ; omega))))) | (focus ((with_reducible refine Below.alloc ?_ ?_ _) ; rotate_left ; (focus (first | omega | (simp ; done) | (simp ; omega))))) | (with_reducible rfl) | (focus (simp ; done)))))
          simp only [List.map_cons, List.map_nil, List.getD_cons_zero, List.getD_cons_succ]
          (refine x_pure rfl _ ?_ rfl (by simp) ?_ ?_ ; rotate_left ; · (intro w8 K hK ; go_wp2_with fail ; exact rfl))
          simp only [Act.put, List.setIfInBounds_toArray, List.set_cons_succ, List.set_cons_zero]
          (refine x_quiet rfl hSt (fun _ h => h) _ ?_ rfl (by simp) ?_ ?_ ; rotate_left ; · (intro w8 hC K hK ; have hc := hC ; have q7 := blk2 (blk_below g7' hc) ; go_wp2_with fail ; refine (CM.out _ hc).mono ?_ ; rintro e w2 ⟨rfl, hb2⟩ ; refine hK _ _ ⟨?_, rfl, hb2⟩ ; exact rfl))
          simp only [Act.put, List.setIfInBounds_toArray, List.set_cons_succ, List.set_cons_zero]
          (refine x_quiet rfl hSt (fun _ h => h) _ ?_ rfl (by simp) ?_ ?_ ; rotate_left ; · (intro w8 hC K hK ; have hc := hC ; have q7 := blk2 (blk_below g7' hc) ; go_wp2_with fail ; refine ⟨?_, Below.refl _ _⟩ ; exact rfl))
          simp only [Act.put, List.setIfInBounds_toArray, List.set_cons_succ, List.set_cons_zero]
          (refine x_pure rfl _ ?_ rfl (by simp) ?_ ?_ ; rotate_left ; · (intro w8 K hK ; go_wp2_with fail ; exact rfl))
          simp only [Act.put, List.setIfInBounds_toArray, List.set_cons_succ, List.set_cons_zero]
          (refine x_pure rfl _ ?_ rfl (by simp) ?_ ?_ ; rotate_left ; · (intro w8 K hK ; go_wp2_with fail ; exact rfl))
          simp only [Act.put, List.setIfInBounds_toArray, List.set_cons_succ, List.set_cons_zero]
          first | (refine x_skip rfl ?_) | (refine x_pure rfl _ ?_ rfl (by simp) ?_ ?_ ; rotate_left ; · (intro w8 K hK ; go_wp2_with fail ; exact rfl))
          simp only [Act.put, List.setIfInBounds_toArray, List.set_cons_succ, List.set_cons_zero]
          first | (refine x_skip rfl ?_) | (refine x_pure rfl _ ?_ rfl (by simp) ?_ ?_ ; rotate_left ; · (intro w8 K hK ; go_wp2_with fail ; exact rfl))
          simp only [Act.put, List.setIfInBounds_toArray, List.set_cons_succ, List.set_cons_zero]
          first | (refine x_skip rfl ?_) | (refine x_pure rfl _ ?_ rfl (by simp) ?_ ?_ ; rotate_left ; · (intro w8 K hK ; go_wp2_with fail ; exact rfl))
          simp only [Act.put, List.setIfInBounds_toArray, List.set_cons_succ, List.set_cons_zero]
          first | (refine x_skip rfl ?_) | (refine x_quiet rfl hSt (fun _ h => h) _ ?_ rfl (by simp) ?_ ?_ ; rotate_left ; · (intro w8 hC K hK ; have hc := hC ; have q7 := blk2 (blk_below g7' hc) ; go_wp2_with fail ; refine (CT.out _ hc).mono ?_ ; rintro e w2 ⟨rfl, hb2⟩ ; refine hK _ _ ⟨?_, rfl, hb2⟩ ; exact rfl))
          simp only [Act.put, List.setIfInBounds_toArray, List.set_cons_succ, List.set_cons_zero]
          first | (refine x_skip rfl ?_) | (refine x_pure rfl _ ?_ rfl (by simp) ?_ ?_ ; rotate_left ; · (intro w8 K hK ; go_wp2_with fail ; exact rfl))
          simp only [Act.put, List.setIfInBounds_toArray, List.set_cons_succ, List.set_cons_zero]
          first | (refine x_skip rfl ?_) | (refine x_pure rfl _ ?_ rfl (by simp) ?_ ?_ ; rotate_left ; · (intro w8 K hK ; go_wp2_with fail ; exact rfl))
          simp only [Act.put, List.setIfInBounds_toArray, List.set_cons_succ, List.set_cons_zero]
          first | (refine x_skip rfl ?_) | (refine x_pure rfl _ ?_ rfl (by simp) ?_ ?_ ; rotate_left ; · (intro w8 K hK ; go_wp2_with fail ; exact rfl))
          simp only [Act.put, List.setIfInBounds_toArray, List.set_cons_succ, List.set_cons_zero]
          first | (refine x_skip rfl ?_) | (refine x_quiet rfl hSt (fun _ h => h) _ ?_ rfl (by simp) ?_ ?_ ; rotate_left ; · (intro w8 hC K hK ; have hc := hC ; have q7 := blk2 (blk_below g7' hc) ; go_wp2_with fail ; refine (CR.out _ hc).mono ?_ ; rintro e w2 ⟨rfl, hb2⟩ ; refine hK _ _ ⟨?_, rfl, hb2⟩ ; exact rfl))
          simp only [Act.put, List.setIfInBounds_toArray, List.set_cons_succ, List.set_cons_zero]
          first | (refine x_skip rfl ?_) | (refine x_quiet rfl hSt (fun _ h => h) _ ?_ rfl (by simp) ?_ ?_ ; rotate_left ; · (intro w8 hC K hK ; have hc := hC ; have q7 := blk2 (blk_below g7' hc) ; go_wp2_with fail ; refine (CA.out _).mono ?_ ; rintro e w2 ⟨rfl, hb2⟩ ; refine hK _ _ ⟨?_, rfl, hb2⟩ ; exact rfl))
          simp only [Act.put, List.setIfInBounds_toArray, List.set_cons_succ, List.set_cons_zero]
          first | (refine x_skip rfl ?_) | (refine x_quiet rfl hSt (fun _ h => h) _ ?_ rfl (by simp) ?_ ?_ ; rotate_left ; · (intro w8 hC K hK ; have hc := hC ; have q7 := blk2 (blk_below g7' hc) ; go_wp2_with fail ; refine ⟨?_, Below.refl _ _⟩ ; exact rfl))
          simp only [Act.put, List.setIfInBounds_toArray, List.set_cons_succ, List.set_cons_zero]
          first | (refine x_skip rfl ?_) | (refine x_pure rfl _ ?_ rfl (by simp) ?_ ?_ ; rotate_left ; · (intro w8 K hK ; go_wp2_with fail ; exact rfl))
          simp only [Act.put, List.setIfInBounds_toArray, List.set_cons_succ, List.set_cons_zero]
          (refine x_pure rfl _ ?_ rfl (by simp) ?_ ?_ ; rotate_left ; · (intro w8 K hK ; go_wp2_with fail ; exact rfl))
          simp only [Act.put, List.setIfInBounds_toArray, List.set_cons_succ, List.set_cons_zero]
          refine x_nil ?_
          rintro w8 hc
          have gE8 := blk_below g5' hc
          have gS8 := blk_below g7' hc
          have hbw8 : Below w.heap.size w w8 := below_back hbw7 hbw7.size hc
          have HO8 := own_below HOW.out hc
          have hz8 := hc.size
          obtain ⟨x0, x1, x2, x3, x4, xl, xf⟩ := blk5 gE8
          clear CM CT CA CR HRl HOW HEM hc hcm
          go_wp2_with fail
          have hbA : Below w8.heap.size w8 (w8.alloc (.cells #[.string ek, .int .i64 ec, .int .i64 en, .string evv, .bool ed] 32 (0, 0))) := by (repeat (first | (with_reducible assumption) | (with_reducible exact Below.refl _ _) | (with_reducible refine heap_drew ?_) | (focus ((with_reducible refine heap_new ?_) ; simp ; done)) | (with_reducible apply heap_set_to) | (focus ((with_reducible refine heap_set_ne ?_ ?_ _) ; rotate_left ; (focus (first | omega | (simp ; done) | (simp ; omega))))) | (with_reducible refine heap_old ?_) | (with_reducible refine Below.drew ?_) | (with_reducible refine below_set ?_ _ _) | (focus ((with_reducible refine Below.setCell ?_ ?_ _) ; rotate_left ; (focus (first | omega | (simp ; done) | (simp ; omega))))) | (focus ((with_reducible refine Below.alloc ?_ ?_ _) ; rotate_left ; (focus (first | omega | (simp ; done) | (simp ; omega))))) | (with_reducible rfl) | (focus (simp ; done))))
          have gx : (w8.alloc (.cells #[.string ek, .int .i64 ec, .int .i64 en, .string evv, .bool ed] 32 (0, 0))).heap[w8.heap.size]? = some (.cells #[.string ek, .int .i64 ec, .int .i64 en, .string evv, .bool ed] 32 (0, 0)) := by (repeat (first | (with_reducible assumption) | (with_reducible exact Below.refl _ _) | (with_reducible refine heap_drew ?_) | (focus ((with_reducible refine heap_new ?_) ; simp ; done)) | (with_reducible apply heap_set_to) | (focus ((with_reducible refine heap_set_ne ?_ ?_ _) ; rotate_left ; (focus (first | omega | (simp ; done) | (simp ; omega))))) | (with_reducible refine heap_old ?_) | (with_reducible refine Below.drew ?_) | (with_reducible refine below_set ?_ _ _) | (focus ((with_reducible refine Below.setCell ?_ ?_ _) ; rotate_left ; (focus (first | omega | (simp ; done) | (simp ; omega))))) | (focus ((with_reducible refine Below.alloc ?_ ?_ _) ; rotate_left ; (focus (first | omega | (simp ; done) | (simp ; omega))))) | (with_reducible rfl) | (focus (simp ; done))))
          have hbwA := below_back hbw8 hbw8.size hbA
          refine (all_one (HH.out.1.below hbwA hL0) gx hek).mono ?_
          rintro e w9 ⟨rfl, hb9⟩
          have gE9 := blk_below (heap_old (o := .cells #[.string ek, .int .i64 ec, .int .i64 en, .string evv, .bool ed] 32 (0, 0)) gE8) hb9
          have gS9 := blk_below (heap_old (o := .cells #[.string ek, .int .i64 ec, .int .i64 en, .string evv, .bool ed] 32 (0, 0)) gS8) hb9
          have hbw9 := below_back hbwA hbwA.size hb9
          have HO9 := own_below (HO8.alloc (.cells #[.string ek, .int .i64 ec, .int .i64 en, .string evv, .bool ed] 32 (0, 0))) hb9
          have hz9 := hb9.size
          have hB9 : B2 < w9.heap.size := by simp at hz9; omega
          clear x0 x1 x2 x3 x4 xl xf gE8 gS8 hbw8 HO8 hbA gx hbwA hb9 hz9 hz8 g5' g7' hbw7
          obtain ⟨x0, x1, x2, x3, x4, xl, xf⟩ := blk5 gE9
          have HO10 : Hid (((w9.alloc (.cells #[.int .u64 (mix0 ek ec en), .int .u64 (mix1 ek ec en)] 26 (0, 0))).alloc (.cells #[.string ek, .int .i64 ec, .int .i64 en, .string evv, .bool ed] 32 (0, 0))).ownsRow B2 32 5 (.slice oM l.length cM) l.length (flat (T ++ R))) := (HO9.alloc _).alloc _
          have gx0 : ((w9.alloc (.cells #[.int .u64 (mix0 ek ec en), .int .u64 (mix1 ek ec en)] 26 (0, 0))).alloc (.cells #[.string ek, .int .i64 ec, .int .i64 en, .string evv, .bool ed] 32 (0, 0))).heap[w9.heap.size + 1]? = some (.cells #[.string ek, .int .i64 ec, .int .i64 en, .string evv, .bool ed] 32 (0, 0)) := by (repeat (first | (with_reducible assumption) | (with_reducible exact Below.refl _ _) | (with_reducible refine heap_drew ?_) | (focus ((with_reducible refine heap_new ?_) ; simp ; done)) | (with_reducible apply heap_set_to) | (focus ((with_reducible refine heap_set_ne ?_ ?_ _) ; rotate_left ; (focus (first | omega | (simp ; done) | (simp ; omega))))) | (with_reducible refine heap_old ?_) | (with_reducible refine Below.drew ?_) | (with_reducible refine below_set ?_ _ _) | (focus ((with_reducible refine Below.setCell ?_ ?_ _) ; rotate_left ; (focus (first | omega | (simp ; done) | (simp ; omega))))) | (focus ((with_reducible refine Below.alloc ?_ ?_ _) ; rotate_left ; (focus (first | omega | (simp ; done) | (simp ; omega))))) | (with_reducible rfl) | (focus (simp ; done))))
          have gx : Hid _ := gx0
          clear gx0
          have gA0 : ((w9.alloc (.cells #[.int .u64 (mix0 ek ec en), .int .u64 (mix1 ek ec en)] 26 (0, 0))).alloc (.cells #[.string ek, .int .i64 ec, .int .i64 en, .string evv, .bool ed] 32 (0, 0))).heap[w9.heap.size]? = some (.cells #[.int .u64 (mix0 ek ec en), .int .u64 (mix1 ek ec en)] 26 (0, 0)) := by (repeat (first | (with_reducible assumption) | (with_reducible exact Below.refl _ _) | (with_reducible refine heap_drew ?_) | (focus ((with_reducible refine heap_new ?_) ; simp ; done)) | (with_reducible apply heap_set_to) | (focus ((with_reducible refine heap_set_ne ?_ ?_ _) ; rotate_left ; (focus (first | omega | (simp ; done) | (simp ; omega))))) | (with_reducible refine heap_old ?_) | (with_reducible refine Below.drew ?_) | (with_reducible refine below_set ?_ _ _) | (focus ((with_reducible refine Below.setCell ?_ ?_ _) ; rotate_left ; (focus (first | omega | (simp ; done) | (simp ; omega))))) | (focus ((with_reducible refine Below.alloc ?_ ?_ _) ; rotate_left ; (focus (first | omega | (simp ; done) | (simp ; omega))))) | (with_reducible rfl) | (focus (simp ; done))))
          have gA9 : Hid _ := gA0
          have HO9' : Hid (w9.ownsRow B2 32 5 (.slice oM l.length cM) l.length (flat (T ++ R))) := HO9
          clear HO9 gA0
          go_wp2_with (first
            | (at_builtin; (refine wpList_append_any _ rfl (.tmp 85) (.tmp 87) 22 rfl B2 32 i0 _ 5 56 Tryd.underlying22 HI.out.1 HI.out.2.1 HI.out.2.2.1 HI.out.2.2.2 rfl (by decide) _ l.length (flat (T ++ R)) rfl HO10.out (some ⟨w9.heap.size + 1, 0, none⟩) 1 1 (flat [(ek, ec, en, evv, ed)]) rfl rfl (fun h => by cases h) (ents_one gx.out hek).cells' (flat_one _) ?_ ?_ ?_ ?_))
            | fail)
          · unfold maxLen; omega
          · omega
          · simp; omega
          intro vN w10 hown hgrow
          have hlt0 : w.heap.size < w9.heap.size := by omega
          have hlt1 : sb < w9.heap.size := by omega
          have gE10 := (hgrow.block w.heap.size (by simp; omega) (fun h => by have := (HO10.out.lt _ h.symm).1; omega)).trans (heap_old (o := (.cells #[.string ek, .int .i64 ec, .int .i64 en, .string evv, .bool ed] 32 (0, 0))) (heap_old (o := (.cells #[.int .u64 (mix0 ek ec en), .int .u64 (mix1 ek ec en)] 26 (0, 0))) gE9))
          have gS10 := (hgrow.block sb (by simp; omega) (fun h => by have := (HO10.out.lt _ h.symm).1; omega)).trans (heap_old (o := (.cells #[.string ek, .int .i64 ec, .int .i64 en, .string evv, .bool ed] 32 (0, 0))) (heap_old (o := (.cells #[.int .u64 (mix0 ek ec en), .int .u64 (mix1 ek ec en)] 26 (0, 0))) gS9))
          have gA10 := (hgrow.block w9.heap.size (by simp; omega) (fun h => by have := (HO9'.out.lt _ h.symm).2; omega)).trans gA9.out
          have hbw10 : Below w.heap.size w w10 := ((hbw9.alloc hbw9.size (.cells #[.int .u64 (mix0 ek ec en), .int .u64 (mix1 ek ec en)] 26 (0, 0))).alloc (by simp; omega) (.cells #[.string ek, .int .i64 ec, .int .i64 en, .string evv, .bool ed] 32 (0, 0))).grown hgrow (by simp; omega) (fun y hy => by have := (HO10.out.lt y hy).1; omega)
          have hM2 : (T ++ R ++ [(ek, ec, en, evv, ed)]).length = l.length + 1 := by rw [List.length_append, HLN.out]; rfl
          rw [← flat_append] at hown
          obtain ⟨oN, cN, rfl, nN, hEN⟩ := ents_of_own hM2.symm hown (HK.out.append (fun k hk => by
            obtain rfl : k = 0 := by simp at hk; exact hk
            exact hek))
          have CN : Hid (Calls Tryd.prog 29 #[.slice oN (l.length + 1) cN] w10 fun e w'' => e = .returned (sv (Go.Proofs.YtjeaobknojmbpaaDoor.u64 (tot0 l + mix0 ek ec en)) (Go.Proofs.YtjeaobknojmbpaaDoor.u64 (tot1 l + mix1 ek ec en))) ∧ Below w10.heap.size w10 w'') := by
            have h := all_any oN cN (T ++ R ++ [(ek, ec, en, evv, ed)]) w10 (HH.out.1.below hbw10 hL0) hEN (by omega)
            rw [tot0_append (T ++ R), tot1_append (T ++ R), HS.out.1, HS.out.2.1, hM2, show tot0 [(ek, ec, en, evv, ed)] = mix0 ek ec en by simp [tot0, m0], show tot1 [(ek, ec, en, evv, ed)] = mix1 ek ec en by simp [tot1, m1]] at h
            exact h
          clear hM2 hEN nN hown hgrow HO10 HO9' gA9 gx gE9 gS9 x0 x1 x2 x3 x4 xl xf
          obtain ⟨ab, hab⟩ : ∃ g, g = w9.heap.size := ⟨_, rfl⟩
          rw [← hab] at gA10 ⊢
          clear hab hB9 hlt0 hlt1 hbw9
          go_wp2_with fail
          refine CN.out.mono ?_
          rintro e w11 ⟨rfl, hb11⟩
          have gE11 := blk_below gE10 hb11
          have gS11 := blk_below gS10 hb11
          have gA11 := blk_below gA10 hb11
          have hbw11 := below_back hbw10 hbw10.size hb11
          clear gE10 gS10 gA10 hbw10 hb11 CN
          go_wp2_with fail
          have gM12 : (w11.alloc (.cells #[.int .u64 (Go.Proofs.YtjeaobknojmbpaaDoor.u64 (tot0 l + mix0 ek ec en)), .int .u64 (Go.Proofs.YtjeaobknojmbpaaDoor.u64 (tot1 l + mix1 ek ec en))] 26 (0, 0))).heap[w11.heap.size]? = some (.cells #[.int .u64 (Go.Proofs.YtjeaobknojmbpaaDoor.u64 (tot0 l + mix0 ek ec en)), .int .u64 (Go.Proofs.YtjeaobknojmbpaaDoor.u64 (tot1 l + mix1 ek ec en))] 26 (0, 0)) := by (repeat (first | (with_reducible assumption) | (with_reducible exact Below.refl _ _) | (with_reducible refine heap_drew ?_) | (focus ((with_reducible refine heap_new ?_) ; simp ; done)) | (with_reducible apply heap_set_to) | (focus ((with_reducible refine heap_set_ne ?_ ?_ _) ; rotate_left ; (focus (first | omega | (simp ; done) | (simp ; omega))))) | (with_reducible refine heap_old ?_) | (with_reducible refine Below.drew ?_) | (with_reducible refine below_set ?_ _ _) | (focus ((with_reducible refine Below.setCell ?_ ?_ _) ; rotate_left ; (focus (first | omega | (simp ; done) | (simp ; omega))))) | (focus ((with_reducible refine Below.alloc ?_ ?_ _) ; rotate_left ; (focus (first | omega | (simp ; done) | (simp ; omega))))) | (with_reducible rfl) | (focus (simp ; done))))
          have gE12 := heap_old (o := (.cells #[.int .u64 (Go.Proofs.YtjeaobknojmbpaaDoor.u64 (tot0 l + mix0 ek ec en)), .int .u64 (Go.Proofs.YtjeaobknojmbpaaDoor.u64 (tot1 l + mix1 ek ec en))] 26 (0, 0))) gE11
          have gS12 := heap_old (o := (.cells #[.int .u64 (Go.Proofs.YtjeaobknojmbpaaDoor.u64 (tot0 l + mix0 ek ec en)), .int .u64 (Go.Proofs.YtjeaobknojmbpaaDoor.u64 (tot1 l + mix1 ek ec en))] 26 (0, 0))) gS11
          have gA12 := heap_old (o := (.cells #[.int .u64 (Go.Proofs.YtjeaobknojmbpaaDoor.u64 (tot0 l + mix0 ek ec en)), .int .u64 (Go.Proofs.YtjeaobknojmbpaaDoor.u64 (tot1 l + mix1 ek ec en))] 26 (0, 0))) gA11
          have hbw12 := hbw11.alloc hbw11.size (.cells #[.int .u64 (Go.Proofs.YtjeaobknojmbpaaDoor.u64 (tot0 l + mix0 ek ec en)), .int .u64 (Go.Proofs.YtjeaobknojmbpaaDoor.u64 (tot1 l + mix1 ek ec en))] 26 (0, 0))
          generalize hws : w11.alloc (.cells #[.int .u64 (Go.Proofs.YtjeaobknojmbpaaDoor.u64 (tot0 l + mix0 ek ec en)), .int .u64 (Go.Proofs.YtjeaobknojmbpaaDoor.u64 (tot1 l + mix1 ek ec en))] 26 (0, 0)) = wm at *
          obtain ⟨mb, hmb⟩ : ∃ g, g = w11.heap.size := ⟨_, rfl⟩
          rw [← hmb] at gM12 ⊢
          clear hws hmb gE11 gS11 gA11 hbw11
          have hLm : Hid (Lanes wm) := HH.out.1.below hbw12 hL0
          have hm0 : 0 < wm.heap.size := hLm.out.lt
          have CO : Hid (∀ w', Below wm.heap.size wm w' → Calls Tryd.prog 14 #[.string ek, .agg #[.int .i64 ec, .int .i64 en]] w' fun e w'' => e = .returned (sv (mix0 ek ec en) (mix1 ek ec en)) ∧ Below w'.heap.size w' w'') := fun w' hc => of_any ek ec en w' (hLm.out.below hc hm0) (by omega)
          have CD : Hid (∀ w', Calls Tryd.prog 25 #[sv (Go.Proofs.YtjeaobknojmbpaaDoor.u64 (tot0 l)) (Go.Proofs.YtjeaobknojmbpaaDoor.u64 (tot1 l)), sv (mix0 ek ec en) (mix1 ek ec en)] w' fun e w'' => e = .returned (sv (Go.Proofs.YtjeaobknojmbpaaDoor.u64 (tot0 l + mix0 ek ec en)) (Go.Proofs.YtjeaobknojmbpaaDoor.u64 (tot1 l + mix1 ek ec en))) ∧ Below w'.heap.size w' w'') := fun w' => by
            have h := add_any (Go.Proofs.YtjeaobknojmbpaaDoor.u64 (tot0 l)) (Go.Proofs.YtjeaobknojmbpaaDoor.u64 (tot1 l)) (mix0 ek ec en) (mix1 ek ec en) w'
            rw [u64_add, u64_add] at h
            exact h
          have CL : Hid (∀ w', Calls Tryd.prog 27 #[sv (Go.Proofs.YtjeaobknojmbpaaDoor.u64 (tot0 l + mix0 ek ec en)) (Go.Proofs.YtjeaobknojmbpaaDoor.u64 (tot1 l + mix1 ek ec en)), sv (mix0 ek ec en) (mix1 ek ec en)] w' fun e w'' => e = .returned (sv (Go.Proofs.YtjeaobknojmbpaaDoor.u64 (tot0 l)) (Go.Proofs.YtjeaobknojmbpaaDoor.u64 (tot1 l))) ∧ Below w'.heap.size w' w'') := fun w' => by
            have h := sub_any (Go.Proofs.YtjeaobknojmbpaaDoor.u64 (tot0 l + mix0 ek ec en)) (Go.Proofs.YtjeaobknojmbpaaDoor.u64 (tot1 l + mix1 ek ec en)) (mix0 ek ec en) (mix1 ek ec en) w'
            rw [u64_take, u64_take] at h
            exact h
          have CE : Hid (∀ w', Calls Tryd.prog 27 #[sv (Go.Proofs.YtjeaobknojmbpaaDoor.u64 (tot0 l + mix0 ek ec en)) (Go.Proofs.YtjeaobknojmbpaaDoor.u64 (tot1 l + mix1 ek ec en)), sv (Go.Proofs.YtjeaobknojmbpaaDoor.u64 (tot0 l)) (Go.Proofs.YtjeaobknojmbpaaDoor.u64 (tot1 l))] w' fun e w'' => e = .returned (sv (mix0 ek ec en) (mix1 ek ec en)) ∧ Below w'.heap.size w' w'') := fun w' => by
            have h := sub_any (Go.Proofs.YtjeaobknojmbpaaDoor.u64 (tot0 l + mix0 ek ec en)) (Go.Proofs.YtjeaobknojmbpaaDoor.u64 (tot1 l + mix1 ek ec en)) (Go.Proofs.YtjeaobknojmbpaaDoor.u64 (tot0 l)) (Go.Proofs.YtjeaobknojmbpaaDoor.u64 (tot1 l)) w'
            rw [u64_take', u64_take', mix0_u, mix1_u] at h
            exact h
          have hSt : Stable (fun wz : World => (Below wm.heap.size wm wz)) := by repeat (first | exact stable_ext _ | exact stable_blk _ _ | exact stable_true | (refine stable_bel ?_ ; (focus (first | (simp [World.size_setCell] ; done) | (simp [World.setCell] ; done)))) | refine Stable.and ?_ ?_)
          refine wp_region_x [0, 1, 2, 3, 4, 5, 6, 7, 8, 9, 10, 11, 12, 13, 14, 15, 16, 17, 18, 19, 20, 21, 22, 23, 24, 25, 26, 27, 28] [1, 0, 1, 0, 1, 1, 0, 0, 1, 1, 1, 1, 0, 0, 0, 1, 1, 1, 1, 0, 0, 0, 1, 1, 1, 1, 0, 0, 0] (fun wz => (Below wm.heap.size wm wz)) (by kernel_rfl) (by kernel_rfl) ?_ ?_
          · (first | trivial | (repeat (first | (with_reducible assumption) | (with_reducible exact Below.refl _ _) | (with_reducible refine heap_drew ?_) | (focus ((with_reducible refine heap_new ?_) ; simp ; done)) | (with_reducible apply heap_set_to) | (focus ((with_reducible refine heap_set_ne ?_ ?_ _) ; rotate_left ; (focus (first | omega | (simp ; done) | (simp ; omega))))) | (with_reducible refine heap_old ?_) | (with_reducible refine Below.drew ?_) | (with_reducible refine below_set ?_ _ _) | (focus ((with_reducible refine Below.setCell ?_ ?_ _) ; rotate_left ; (focus (first | omega | (simp ; done) | (simp ; omega))))) | (focus ((with_reducible refine Below.alloc ?_ ?_ _) ; rotate_left ; (focus (first | omega | (simp ; done) | (simp ; omega))))) | (with_reducible rfl) | (focus (simp ; done)))))
          simp only [List.map_cons, List.map_nil, List.getD_cons_zero, List.getD_cons_succ]
          (refine x_quiet rfl hSt (fun _ h => h) _ ?_ rfl (by simp) ?_ ?_ ; rotate_left ; · (intro wz hC K hK ; have hc := hC ; have pE := blk5 (blk_below gE12 hc) ; have pS := blk2 (blk_below gS12 hc) ; have pA := blk2 (blk_below gA12 hc) ; have pM := blk2 (blk_below gM12 hc) ; go_wp2_with fail ; refine ⟨?_, Below.refl _ _⟩ ; exact rfl))
          simp only [Act.put, List.setIfInBounds_toArray, List.set_cons_succ, List.set_cons_zero]
          (refine x_pure rfl _ ?_ rfl (by simp) ?_ ?_ ; rotate_left ; · (intro wz K hK ; go_wp2_with fail ; exact rfl))
          simp only [Act.put, List.setIfInBounds_toArray, List.set_cons_succ, List.set_cons_zero]
          (refine x_quiet rfl hSt (fun _ h => h) _ ?_ rfl (by simp) ?_ ?_ ; rotate_left ; · (intro wz hC K hK ; have hc := hC ; have pE := blk5 (blk_below gE12 hc) ; have pS := blk2 (blk_below gS12 hc) ; have pA := blk2 (blk_below gA12 hc) ; have pM := blk2 (blk_below gM12 hc) ; go_wp2_with fail ; refine ⟨?_, Below.refl _ _⟩ ; exact rfl))
          simp only [Act.put, List.setIfInBounds_toArray, List.set_cons_succ, List.set_cons_zero]
          (refine x_pure rfl _ ?_ rfl (by simp) ?_ ?_ ; rotate_left ; · (intro wz K hK ; go_wp2_with fail ; exact rfl))
          simp only [Act.put, List.setIfInBounds_toArray, List.set_cons_succ, List.set_cons_zero]
          (refine x_quiet rfl hSt (fun _ h => h) _ ?_ rfl (by simp) ?_ ?_ ; rotate_left ; · (intro wz hC K hK ; have hc := hC ; have pE := blk5 (blk_below gE12 hc) ; have pS := blk2 (blk_below gS12 hc) ; have pA := blk2 (blk_below gA12 hc) ; have pM := blk2 (blk_below gM12 hc) ; go_wp2_with fail ; refine ⟨?_, Below.refl _ _⟩ ; exact rfl))
          simp only [Act.put, List.setIfInBounds_toArray, List.set_cons_succ, List.set_cons_zero]
          (refine x_quiet rfl hSt (fun _ h => h) _ ?_ rfl (by simp) ?_ ?_ ; rotate_left ; · (intro wz hC K hK ; have hc := hC ; have pE := blk5 (blk_below gE12 hc) ; have pS := blk2 (blk_below gS12 hc) ; have pA := blk2 (blk_below gA12 hc) ; have pM := blk2 (blk_below gM12 hc) ; go_wp2_with fail ; refine (CO.out _ hc).mono ?_ ; rintro e w2 ⟨rfl, hb2⟩ ; refine hK _ _ ⟨?_, rfl, hb2⟩ ; exact rfl))
          simp only [Act.put, List.setIfInBounds_toArray, List.set_cons_succ, List.set_cons_zero]
          (refine x_pure rfl _ ?_ rfl (by simp) ?_ ?_ ; rotate_left ; · (intro wz K hK ; go_wp2_with fail ; exact rfl))
          simp only [Act.put, List.setIfInBounds_toArray, List.set_cons_succ, List.set_cons_zero]
          (refine x_pure rfl _ ?_ rfl (by simp) ?_ ?_ ; rotate_left ; · (intro wz K hK ; go_wp2_with fail ; exact rfl))
          simp only [Act.put, List.setIfInBounds_toArray, List.set_cons_succ, List.set_cons_zero]
          first | (refine x_skip rfl ?_) | (refine x_quiet rfl hSt (fun _ h => h) _ ?_ rfl (by simp) ?_ ?_ ; rotate_left ; · (intro wz hC K hK ; have hc := hC ; have pE := blk5 (blk_below gE12 hc) ; have pS := blk2 (blk_below gS12 hc) ; have pA := blk2 (blk_below gA12 hc) ; have pM := blk2 (blk_below gM12 hc) ; go_wp2_with fail ; refine ⟨?_, Below.refl _ _⟩ ; exact rfl))
          simp only [Act.put, List.setIfInBounds_toArray, List.set_cons_succ, List.set_cons_zero]
          first | (refine x_skip rfl ?_) | (refine x_quiet rfl hSt (fun _ h => h) _ ?_ rfl (by simp) ?_ ?_ ; rotate_left ; · (intro wz hC K hK ; have hc := hC ; have pE := blk5 (blk_below gE12 hc) ; have pS := blk2 (blk_below gS12 hc) ; have pA := blk2 (blk_below gA12 hc) ; have pM := blk2 (blk_below gM12 hc) ; go_wp2_with fail ; refine ⟨?_, Below.refl _ _⟩ ; exact rfl))
          simp only [Act.put, List.setIfInBounds_toArray, List.set_cons_succ, List.set_cons_zero]
          first | (refine x_skip rfl ?_) | (refine x_quiet rfl hSt (fun _ h => h) _ ?_ rfl (by simp) ?_ ?_ ; rotate_left ; · (intro wz hC K hK ; have hc := hC ; have pE := blk5 (blk_below gE12 hc) ; have pS := blk2 (blk_below gS12 hc) ; have pA := blk2 (blk_below gA12 hc) ; have pM := blk2 (blk_below gM12 hc) ; go_wp2_with fail ; refine ⟨?_, Below.refl _ _⟩ ; exact rfl))
          simp only [Act.put, List.setIfInBounds_toArray, List.set_cons_succ, List.set_cons_zero]
          first | (refine x_skip rfl ?_) | (refine x_quiet rfl hSt (fun _ h => h) _ ?_ rfl (by simp) ?_ ?_ ; rotate_left ; · (intro wz hC K hK ; have hc := hC ; have pE := blk5 (blk_below gE12 hc) ; have pS := blk2 (blk_below gS12 hc) ; have pA := blk2 (blk_below gA12 hc) ; have pM := blk2 (blk_below gM12 hc) ; go_wp2_with fail ; refine (CD.out _).mono ?_ ; rintro e w2 ⟨rfl, hb2⟩ ; refine hK _ _ ⟨?_, rfl, hb2⟩ ; exact rfl))
          simp only [Act.put, List.setIfInBounds_toArray, List.set_cons_succ, List.set_cons_zero]
          first | (refine x_skip rfl ?_) | (refine x_pure rfl _ ?_ rfl (by simp) ?_ ?_ ; rotate_left ; · (intro wz K hK ; go_wp2_with fail ; exact rfl))
          simp only [Act.put, List.setIfInBounds_toArray, List.set_cons_succ, List.set_cons_zero]
          (refine x_pure rfl _ ?_ rfl (by simp) ?_ ?_ ; rotate_left ; · (intro wz K hK ; go_wp2_with fail ; exact rfl))
          simp only [Act.put, List.setIfInBounds_toArray, List.set_cons_succ, List.set_cons_zero]
          (refine x_pure rfl _ ?_ rfl (by simp) ?_ ?_ ; rotate_left ; · (intro wz K hK ; go_wp2_with fail ; exact rfl))
          simp only [Act.put, List.setIfInBounds_toArray, List.set_cons_succ, List.set_cons_zero]
          first | (refine x_skip rfl ?_) | (refine x_quiet rfl hSt (fun _ h => h) _ ?_ rfl (by simp) ?_ ?_ ; rotate_left ; · (intro wz hC K hK ; have hc := hC ; have pE := blk5 (blk_below gE12 hc) ; have pS := blk2 (blk_below gS12 hc) ; have pA := blk2 (blk_below gA12 hc) ; have pM := blk2 (blk_below gM12 hc) ; go_wp2_with fail ; refine ⟨?_, Below.refl _ _⟩ ; exact rfl))
          simp only [Act.put, List.setIfInBounds_toArray, List.set_cons_succ, List.set_cons_zero]
          first | (refine x_skip rfl ?_) | (refine x_quiet rfl hSt (fun _ h => h) _ ?_ rfl (by simp) ?_ ?_ ; rotate_left ; · (intro wz hC K hK ; have hc := hC ; have pE := blk5 (blk_below gE12 hc) ; have pS := blk2 (blk_below gS12 hc) ; have pA := blk2 (blk_below gA12 hc) ; have pM := blk2 (blk_below gM12 hc) ; go_wp2_with fail ; refine ⟨?_, Below.refl _ _⟩ ; exact rfl))
          simp only [Act.put, List.setIfInBounds_toArray, List.set_cons_succ, List.set_cons_zero]
          first | (refine x_skip rfl ?_) | (refine x_quiet rfl hSt (fun _ h => h) _ ?_ rfl (by simp) ?_ ?_ ; rotate_left ; · (intro wz hC K hK ; have hc := hC ; have pE := blk5 (blk_below gE12 hc) ; have pS := blk2 (blk_below gS12 hc) ; have pA := blk2 (blk_below gA12 hc) ; have pM := blk2 (blk_below gM12 hc) ; go_wp2_with fail ; refine (CL.out _).mono ?_ ; rintro e w2 ⟨rfl, hb2⟩ ; refine hK _ _ ⟨?_, rfl, hb2⟩ ; exact rfl))
          simp only [Act.put, List.setIfInBounds_toArray, List.set_cons_succ, List.set_cons_zero]
          first | (refine x_skip rfl ?_) | (refine x_quiet rfl hSt (fun _ h => h) _ ?_ rfl (by simp) ?_ ?_ ; rotate_left ; · (intro wz hC K hK ; have hc := hC ; have pE := blk5 (blk_below gE12 hc) ; have pS := blk2 (blk_below gS12 hc) ; have pA := blk2 (blk_below gA12 hc) ; have pM := blk2 (blk_below gM12 hc) ; go_wp2_with fail ; refine ⟨?_, Below.refl _ _⟩ ; exact rfl))
          simp only [Act.put, List.setIfInBounds_toArray, List.set_cons_succ, List.set_cons_zero]
          first | (refine x_skip rfl ?_) | (refine x_pure rfl _ ?_ rfl (by simp) ?_ ?_ ; rotate_left ; · (intro wz K hK ; go_wp2_with fail ; exact rfl))
          simp only [Act.put, List.setIfInBounds_toArray, List.set_cons_succ, List.set_cons_zero]
          (refine x_pure rfl _ ?_ rfl (by simp) ?_ ?_ ; rotate_left ; · (intro wz K hK ; go_wp2_with fail ; exact rfl))
          simp only [Act.put, List.setIfInBounds_toArray, List.set_cons_succ, List.set_cons_zero]
          (refine x_pure rfl _ ?_ rfl (by simp) ?_ ?_ ; rotate_left ; · (intro wz K hK ; go_wp2_with fail ; exact rfl))
          simp only [Act.put, List.setIfInBounds_toArray, List.set_cons_succ, List.set_cons_zero]
          first | (refine x_skip rfl ?_) | (refine x_quiet rfl hSt (fun _ h => h) _ ?_ rfl (by simp) ?_ ?_ ; rotate_left ; · (intro wz hC K hK ; have hc := hC ; have pE := blk5 (blk_below gE12 hc) ; have pS := blk2 (blk_below gS12 hc) ; have pA := blk2 (blk_below gA12 hc) ; have pM := blk2 (blk_below gM12 hc) ; go_wp2_with fail ; refine ⟨?_, Below.refl _ _⟩ ; exact rfl))
          simp only [Act.put, List.setIfInBounds_toArray, List.set_cons_succ, List.set_cons_zero]
          first | (refine x_skip rfl ?_) | (refine x_quiet rfl hSt (fun _ h => h) _ ?_ rfl (by simp) ?_ ?_ ; rotate_left ; · (intro wz hC K hK ; have hc := hC ; have pE := blk5 (blk_below gE12 hc) ; have pS := blk2 (blk_below gS12 hc) ; have pA := blk2 (blk_below gA12 hc) ; have pM := blk2 (blk_below gM12 hc) ; go_wp2_with fail ; refine ⟨?_, Below.refl _ _⟩ ; exact rfl))
          simp only [Act.put, List.setIfInBounds_toArray, List.set_cons_succ, List.set_cons_zero]
          first | (refine x_skip rfl ?_) | (refine x_quiet rfl hSt (fun _ h => h) _ ?_ rfl (by simp) ?_ ?_ ; rotate_left ; · (intro wz hC K hK ; have hc := hC ; have pE := blk5 (blk_below gE12 hc) ; have pS := blk2 (blk_below gS12 hc) ; have pA := blk2 (blk_below gA12 hc) ; have pM := blk2 (blk_below gM12 hc) ; go_wp2_with fail ; refine (CE.out _).mono ?_ ; rintro e w2 ⟨rfl, hb2⟩ ; refine hK _ _ ⟨?_, rfl, hb2⟩ ; exact rfl))
          simp only [Act.put, List.setIfInBounds_toArray, List.set_cons_succ, List.set_cons_zero]
          first | (refine x_skip rfl ?_) | (refine x_quiet rfl hSt (fun _ h => h) _ ?_ rfl (by simp) ?_ ?_ ; rotate_left ; · (intro wz hC K hK ; have hc := hC ; have pE := blk5 (blk_below gE12 hc) ; have pS := blk2 (blk_below gS12 hc) ; have pA := blk2 (blk_below gA12 hc) ; have pM := blk2 (blk_below gM12 hc) ; go_wp2_with fail ; refine ⟨?_, Below.refl _ _⟩ ; exact rfl))
          simp only [Act.put, List.setIfInBounds_toArray, List.set_cons_succ, List.set_cons_zero]
          first | (refine x_skip rfl ?_) | (refine x_pure rfl _ ?_ rfl (by simp) ?_ ?_ ; rotate_left ; · (intro wz K hK ; go_wp2_with fail ; exact rfl))
          simp only [Act.put, List.setIfInBounds_toArray, List.set_cons_succ, List.set_cons_zero]
          (refine x_pure rfl _ ?_ rfl (by simp) ?_ ?_ ; rotate_left ; · (intro wz K hK ; go_wp2_with fail ; exact rfl))
          simp only [Act.put, List.setIfInBounds_toArray, List.set_cons_succ, List.set_cons_zero]
          (refine x_pure rfl _ ?_ rfl (by simp) ?_ ?_ ; rotate_left ; · (intro wz K hK ; go_wp2_with fail ; exact rfl))
          simp only [Act.put, List.setIfInBounds_toArray, List.set_cons_succ, List.set_cons_zero]
          refine x_nil ?_
          rintro wz hc
          go_wp2_with fail
          go_ret
          exact ⟨rfl, below_back hbw12 hbw12.size hc⟩
    · obtain ⟨hor, hrb, hot, hkt, hkr, hRl, hTR, ht0, ht1⟩ := HR.out
      subst hRl
      obtain ⟨ot, ct, rfl, nt, _⟩ := ents_of_own rfl hot hkt
      obtain ⟨aoR, cR2, hv, nR0, hER⟩ := ents_of_own rfl hor hkr
      simp only [Value.slice.injEq] at hv
      obtain ⟨rfl, _, rfl⟩ := hv
      have HER : Hid (Ents wr ao R ∧ (ao = none → R.length = 0 ∧ cr = 0)) := ⟨hER, nR0⟩
      have HT : Hid (wr.ownsRow B2 32 5 (.slice ot T.length ct) T.length (flat T)) := hot
      have HK : Hid (KeysOk (T ++ R)) := hkt.append hkr
      have g5r := (hbr.block w.heap.size (by omega)).trans g5'
      have g7r := (hbr.block sb (by omega)).trans g7
      have hbw : Below w.heap.size w wr := hb'.trans (hbr.mono (by omega))
      have HS : Hid (tot0 (T ++ R) = tot0 l ∧ tot1 (T ++ R) = tot1 l ∧ tot0 T + tot0 R = tot0 l ∧ tot1 T + tot1 R = tot1 l) := ⟨by rw [tot0_append, ht0], by rw [tot1_append, ht1], ht0, ht1⟩
      clear HR hor hrb hot hkt hkr hnR ht0 ht1 hER nR0 nt g5' g7 hb'
      go_wp2_with (first
        | (at_builtin; (refine wpList_append_any _ rfl (.tmp 62) (.tmp 63) 22 rfl B2 32 i0 _ 5 56 Tryd.underlying22 HI.out.1 HI.out.2.1 HI.out.2.2.1 HI.out.2.2.2 rfl (by decide) _ T.length (flat T) rfl HT.out ao R.length cr (flat R) rfl (flat_length R) HER.out.2 HER.out.1.cells' (flat_one R) ?_ ?_ ?_ ?_))
        | fail)
      · unfold maxLen; omega
      · omega
      · exact hB
      intro vM w7 hown hgrow
      have hb7 : Below (sb + 1) ws w7 := hbr.grown hgrow (by omega) (fun y hy => by have := (HT.out.lt y hy).1; omega)
      have hbw7 : Below w.heap.size w w7 := hbw.grown hgrow (by have := hbw.size; omega) (fun y hy => by have := (HT.out.lt y hy).1; omega)
      have hM : (T ++ R).length = l.length := by rw [List.length_append]; exact hTR
      rw [← flat_append] at hown
      obtain ⟨oM, cM, rfl, nM, hEM⟩ := ents_of_own hM.symm hown HK.out
      have hle := (own_le hown).1
      have hB7 : B2 ≤ w7.heap.size := Nat.le_trans hB hgrow.size
      have HLN : Hid ((T ++ R).length = l.length) := hM
      have hTM : T.length ≤ l.length := by omega
      have hL7 : Hid (Lanes w7) := HH.out.1.below hbw7 hL0
      have hw70 : 0 < w7.heap.size := hL7.out.lt
      have g5' := (hgrow.block w.heap.size (by omega) (fun h => by have := (HT.out.lt _ h.symm).1; omega)).trans g5r
      have g7' := (hgrow.block sb (by omega) (fun h => by have := (HT.out.lt _ h.symm).1; omega)).trans g7r
      have HRl : Hid (R.length = l.length - T.length) := by show R.length = _; omega
      have CM : Hid (∀ w', Below w7.heap.size w7 w' → Calls Tryd.prog 29 #[.slice oM l.length cM] w' fun e w'' => e = .returned (sv (Go.Proofs.YtjeaobknojmbpaaDoor.u64 (tot0 l)) (Go.Proofs.YtjeaobknojmbpaaDoor.u64 (tot1 l))) ∧ Below w'.heap.size w' w'') := fun w' hc => by
        have h := all_any oM cM (T ++ R) w' (hL7.out.below hc hw70) (hEM.below hc) (by omega)
        rw [HS.out.1, HS.out.2.1, hM] at h
        exact h
      have CT : Hid (∀ w', Below w7.heap.size w7 w' → Calls Tryd.prog 29 #[.slice oM T.length cM] w' fun e w'' => e = .returned (sv (Go.Proofs.YtjeaobknojmbpaaDoor.u64 (tot0 T)) (Go.Proofs.YtjeaobknojmbpaaDoor.u64 (tot1 T))) ∧ Below w'.heap.size w' w'') := fun w' hc => all_any oM cM T w' (hL7.out.below hc hw70) ((ents_pre hEM).below hc) (by omega)
      have CA : Hid (∀ w', Calls Tryd.prog 25 #[sv (Go.Proofs.YtjeaobknojmbpaaDoor.u64 (tot0 T)) (Go.Proofs.YtjeaobknojmbpaaDoor.u64 (tot1 T)), sv (Go.Proofs.YtjeaobknojmbpaaDoor.u64 (tot0 R)) (Go.Proofs.YtjeaobknojmbpaaDoor.u64 (tot1 R))] w' fun e w'' => e = .returned (sv (Go.Proofs.YtjeaobknojmbpaaDoor.u64 (tot0 l)) (Go.Proofs.YtjeaobknojmbpaaDoor.u64 (tot1 l))) ∧ Below w'.heap.size w' w'') := fun w' => by
        have h := add_any (Go.Proofs.YtjeaobknojmbpaaDoor.u64 (tot0 T)) (Go.Proofs.YtjeaobknojmbpaaDoor.u64 (tot1 T)) (Go.Proofs.YtjeaobknojmbpaaDoor.u64 (tot0 R)) (Go.Proofs.YtjeaobknojmbpaaDoor.u64 (tot1 R)) w'
        rw [u64_sum, u64_sum, HS.out.2.2.1, HS.out.2.2.2] at h
        exact h
      have HEM : Hid (Ents w7 oM (T ++ R)) := hEM
      have HOW : Hid (w7.ownsRow B2 32 5 (.slice oM l.length cM) l.length (flat (T ++ R))) := hown
      clear hown hgrow hEM g5r g7r HT HER hbr hbw nM hTR hM
      go_wp2_with fail
      by_cases hcm : T.length = cM
      · subst hcm
        have HR0 : Hid (R.length = 0) := by have := HRl.out; show R.length = 0; omega
        clear hle
        have hcm := True.intro
        have CR : Hid (∀ w', Below w7.heap.size w7 w' → Calls Tryd.prog 29 #[.slice oM (l.length - T.length) 0] w' fun e w'' => e = .returned (sv (Go.Proofs.YtjeaobknojmbpaaDoor.u64 (tot0 R)) (Go.Proofs.YtjeaobknojmbpaaDoor.u64 (tot1 R))) ∧ Below w'.heap.size w' w'') := fun w' hc => by
          have h := all_any oM 0 R w' (hL7.out.below hc hw70) (fun k hk => absurd hk (by have := HR0.out; omega)) (by have := HR0.out; omega)
          rw [HRl.out] at h
          exact h
        have hSt : Stable (fun w8 : World => (Below w7.heap.size w7 w8)) := by repeat (first | exact stable_ext _ | exact stable_blk _ _ | exact stable_true | (refine stable_bel ?_ ; (focus (first | (simp [World.size_setCell] ; done) | (simp [World.setCell] ; done)))) | refine Stable.and ?_ ?_)
        refine wp_region_x [0, 1, 2, 3, 4, 5, 6, 7, 8, 9, 10, 11, 12, 13, 14, 15, 16] [0, 1, 1, 0, 0, 0, 0, 0, 1, 0, 0, 0, 1, 1, 1, 0, 0] (fun w8 => (Below w7.heap.size w7 w8)) (by kernel_rfl) (by kernel_rfl) ?_ ?_
        · (first | trivial | (repeat (first | (with_reducible assumption) | (with_reducible exact Below.refl _ _) | (with_reducible refine heap_drew ?_) | (focus ((with_reducible refine heap_new ?_) ; simp ; done)) | (with_reducible apply heap_set_to) | (focus ((with_reducible refine heap_set_ne ?_ ?_ _) ; rotate_left ; (focus (first | omega | (simp ; done) | (simp ; omega))))) | (with_reducible refine heap_old ?_) | (with_reducible refine Below.drew ?_) | (with_reducible refine below_set ?_ _ _) | (focus ((with_reducible refine Below.setCell ?_ ?_ _) ; rotate_left ; (focus (first | omega | (simp ; done) | (simp ; omega))))) | (focus ((with_reducible refine Below.alloc ?_ ?_ _) ; rotate_left ; (focus (first | omega | (simp ; done) | (simp ; omega))))) | (with_reducible rfl) | (focus (simp ; done)))))
        simp only [List.map_cons, List.map_nil, List.getD_cons_zero, List.getD_cons_succ]
        (refine x_pure rfl _ ?_ rfl (by simp) ?_ ?_ ; rotate_left ; · (intro w8 K hK ; go_wp2_with fail ; exact rfl))
        simp only [Act.put, List.setIfInBounds_toArray, List.set_cons_succ, List.set_cons_zero]
        (refine x_quiet rfl hSt (fun _ h => h) _ ?_ rfl (by simp) ?_ ?_ ; rotate_left ; · (intro w8 hC K hK ; have hc := hC ; have q7 := blk2 (blk_below g7' hc) ; go_wp2_with fail ; refine (CM.out _ hc).mono ?_ ; rintro e w2 ⟨rfl, hb2⟩ ; refine hK _ _ ⟨?_, rfl, hb2⟩ ; exact rfl))
        simp only [Act.put, List.setIfInBounds_toArray, List.set_cons_succ, List.set_cons_zero]
        (refine x_quiet rfl hSt (fun _ h => h) _ ?_ rfl (by simp) ?_ ?_ ; rotate_left ; · (intro w8 hC K hK ; have hc := hC ; have q7 := blk2 (blk_below g7' hc) ; go_wp2_with fail ; refine ⟨?_, Below.refl _ _⟩ ; exact rfl))
        simp only [Act.put, List.setIfInBounds_toArray, List.set_cons_succ, List.set_cons_zero]
        (refine x_pure rfl _ ?_ rfl (by simp) ?_ ?_ ; rotate_left ; · (intro w8 K hK ; go_wp2_with fail ; exact rfl))
        simp only [Act.put, List.setIfInBounds_toArray, List.set_cons_succ, List.set_cons_zero]
        (refine x_pure rfl _ ?_ rfl (by simp) ?_ ?_ ; rotate_left ; · (intro w8 K hK ; go_wp2_with fail ; exact rfl))
        simp only [Act.put, List.setIfInBounds_toArray, List.set_cons_succ, List.set_cons_zero]
        first | (refine x_skip rfl ?_) | (refine x_pure rfl _ ?_ rfl (by simp) ?_ ?_ ; rotate_left ; · (intro w8 K hK ; go_wp2_with fail ; exact rfl))
        simp only [Act.put, List.setIfInBounds_toArray, List.set_cons_succ, List.set_cons_zero]
        first | (refine x_skip rfl ?_) | (refine x_pure rfl _ ?_ rfl (by simp) ?_ ?_ ; rotate_left ; · (intro w8 K hK ; go_wp2_with fail ; exact rfl))
        simp only [Act.put, List.setIfInBounds_toArray, List.set_cons_succ, List.set_cons_zero]
        first | (refine x_skip rfl ?_) | (refine x_pure rfl _ ?_ rfl (by simp) ?_ ?_ ; rotate_left ; · (intro w8 K hK ; go_wp2_with fail ; exact rfl))
        simp only [Act.put, List.setIfInBounds_toArray, List.set_cons_succ, List.set_cons_zero]
        first | (refine x_skip rfl ?_) | (refine x_quiet rfl hSt (fun _ h => h) _ ?_ rfl (by simp) ?_ ?_ ; rotate_left ; · (intro w8 hC K hK ; have hc := hC ; have q7 := blk2 (blk_below g7' hc) ; go_wp2_with fail ; refine (CT.out _ hc).mono ?_ ; rintro e w2 ⟨rfl, hb2⟩ ; refine hK _ _ ⟨?_, rfl, hb2⟩ ; exact rfl))
        simp only [Act.put, List.setIfInBounds_toArray, List.set_cons_succ, List.set_cons_zero]
        first | (refine x_skip rfl ?_) | (refine x_pure rfl _ ?_ rfl (by simp) ?_ ?_ ; rotate_left ; · (intro w8 K hK ; go_wp2_with fail ; exact rfl))
        simp only [Act.put, List.setIfInBounds_toArray, List.set_cons_succ, List.set_cons_zero]
        first | (refine x_skip rfl ?_) | (refine x_pure rfl _ ?_ rfl (by simp) ?_ ?_ ; rotate_left ; · (intro w8 K hK ; go_wp2_with fail ; exact rfl))
        simp only [Act.put, List.setIfInBounds_toArray, List.set_cons_succ, List.set_cons_zero]
        first | (refine x_skip rfl ?_) | (refine x_pure rfl _ ?_ rfl (by simp) ?_ ?_ ; rotate_left ; · (intro w8 K hK ; go_wp2_with fail ; exact rfl))
        simp only [Act.put, List.setIfInBounds_toArray, List.set_cons_succ, List.set_cons_zero]
        first | (refine x_skip rfl ?_) | (refine x_quiet rfl hSt (fun _ h => h) _ ?_ rfl (by simp) ?_ ?_ ; rotate_left ; · (intro w8 hC K hK ; have hc := hC ; have q7 := blk2 (blk_below g7' hc) ; go_wp2_with fail ; refine (CR.out _ hc).mono ?_ ; rintro e w2 ⟨rfl, hb2⟩ ; refine hK _ _ ⟨?_, rfl, hb2⟩ ; exact rfl))
        simp only [Act.put, List.setIfInBounds_toArray, List.set_cons_succ, List.set_cons_zero]
        first | (refine x_skip rfl ?_) | (refine x_quiet rfl hSt (fun _ h => h) _ ?_ rfl (by simp) ?_ ?_ ; rotate_left ; · (intro w8 hC K hK ; have hc := hC ; have q7 := blk2 (blk_below g7' hc) ; go_wp2_with fail ; refine (CA.out _).mono ?_ ; rintro e w2 ⟨rfl, hb2⟩ ; refine hK _ _ ⟨?_, rfl, hb2⟩ ; exact rfl))
        simp only [Act.put, List.setIfInBounds_toArray, List.set_cons_succ, List.set_cons_zero]
        first | (refine x_skip rfl ?_) | (refine x_quiet rfl hSt (fun _ h => h) _ ?_ rfl (by simp) ?_ ?_ ; rotate_left ; · (intro w8 hC K hK ; have hc := hC ; have q7 := blk2 (blk_below g7' hc) ; go_wp2_with fail ; refine ⟨?_, Below.refl _ _⟩ ; exact rfl))
        simp only [Act.put, List.setIfInBounds_toArray, List.set_cons_succ, List.set_cons_zero]
        first | (refine x_skip rfl ?_) | (refine x_pure rfl _ ?_ rfl (by simp) ?_ ?_ ; rotate_left ; · (intro w8 K hK ; go_wp2_with fail ; exact rfl))
        simp only [Act.put, List.setIfInBounds_toArray, List.set_cons_succ, List.set_cons_zero]
        (refine x_pure rfl _ ?_ rfl (by simp) ?_ ?_ ; rotate_left ; · (intro w8 K hK ; go_wp2_with fail ; exact rfl))
        simp only [Act.put, List.setIfInBounds_toArray, List.set_cons_succ, List.set_cons_zero]
        refine x_nil ?_
        rintro w8 hc
        have gE8 := blk_below g5' hc
        have gS8 := blk_below g7' hc
        have hbw8 : Below w.heap.size w w8 := below_back hbw7 hbw7.size hc
        have HO8 := own_below HOW.out hc
        have hz8 := hc.size
        obtain ⟨x0, x1, x2, x3, x4, xl, xf⟩ := blk5 gE8
        clear CM CT CA CR HRl HOW HEM hc hcm
        go_wp2_with fail
        have hbA : Below w8.heap.size w8 (w8.alloc (.cells #[.string ek, .int .i64 ec, .int .i64 en, .string evv, .bool ed] 32 (0, 0))) := by (repeat (first | (with_reducible assumption) | (with_reducible exact Below.refl _ _) | (with_reducible refine heap_drew ?_) | (focus ((with_reducible refine heap_new ?_) ; simp ; done)) | (with_reducible apply heap_set_to) | (focus ((with_reducible refine heap_set_ne ?_ ?_ _) ; rotate_left ; (focus (first | omega | (simp ; done) | (simp ; omega))))) | (with_reducible refine heap_old ?_) | (with_reducible refine Below.drew ?_) | (with_reducible refine below_set ?_ _ _) | (focus ((with_reducible refine Below.setCell ?_ ?_ _) ; rotate_left ; (focus (first | omega | (simp ; done) | (simp ; omega))))) | (focus ((with_reducible refine Below.alloc ?_ ?_ _) ; rotate_left ; (focus (first | omega | (simp ; done) | (simp ; omega))))) | (with_reducible rfl) | (focus (simp ; done))))
        have gx : (w8.alloc (.cells #[.string ek, .int .i64 ec, .int .i64 en, .string evv, .bool ed] 32 (0, 0))).heap[w8.heap.size]? = some (.cells #[.string ek, .int .i64 ec, .int .i64 en, .string evv, .bool ed] 32 (0, 0)) := by (repeat (first | (with_reducible assumption) | (with_reducible exact Below.refl _ _) | (with_reducible refine heap_drew ?_) | (focus ((with_reducible refine heap_new ?_) ; simp ; done)) | (with_reducible apply heap_set_to) | (focus ((with_reducible refine heap_set_ne ?_ ?_ _) ; rotate_left ; (focus (first | omega | (simp ; done) | (simp ; omega))))) | (with_reducible refine heap_old ?_) | (with_reducible refine Below.drew ?_) | (with_reducible refine below_set ?_ _ _) | (focus ((with_reducible refine Below.setCell ?_ ?_ _) ; rotate_left ; (focus (first | omega | (simp ; done) | (simp ; omega))))) | (focus ((with_reducible refine Below.alloc ?_ ?_ _) ; rotate_left ; (focus (first | omega | (simp ; done) | (simp ; omega))))) | (with_reducible rfl) | (focus (simp ; done))))
        have hbwA := below_back hbw8 hbw8.size hbA
        refine (all_one (HH.out.1.below hbwA hL0) gx hek).mono ?_
        rintro e w9 ⟨rfl, hb9⟩
        have gE9 := blk_below (heap_old (o := .cells #[.string ek, .int .i64 ec, .int .i64 en, .string evv, .bool ed] 32 (0, 0)) gE8) hb9
        have gS9 := blk_below (heap_old (o := .cells #[.string ek, .int .i64 ec, .int .i64 en, .string evv, .bool ed] 32 (0, 0)) gS8) hb9
        have hbw9 := below_back hbwA hbwA.size hb9
        have HO9 := own_below (HO8.alloc (.cells #[.string ek, .int .i64 ec, .int .i64 en, .string evv, .bool ed] 32 (0, 0))) hb9
        have hz9 := hb9.size
        have hB9 : B2 < w9.heap.size := by simp at hz9; omega
        clear x0 x1 x2 x3 x4 xl xf gE8 gS8 hbw8 HO8 hbA gx hbwA hb9 hz9 hz8 g5' g7' hbw7
        obtain ⟨x0, x1, x2, x3, x4, xl, xf⟩ := blk5 gE9
        have HO10 : Hid (((w9.alloc (.cells #[.int .u64 (mix0 ek ec en), .int .u64 (mix1 ek ec en)] 26 (0, 0))).alloc (.cells #[.string ek, .int .i64 ec, .int .i64 en, .string evv, .bool ed] 32 (0, 0))).ownsRow B2 32 5 (.slice oM l.length T.length) l.length (flat (T ++ R))) := (HO9.alloc _).alloc _
        have gx0 : ((w9.alloc (.cells #[.int .u64 (mix0 ek ec en), .int .u64 (mix1 ek ec en)] 26 (0, 0))).alloc (.cells #[.string ek, .int .i64 ec, .int .i64 en, .string evv, .bool ed] 32 (0, 0))).heap[w9.heap.size + 1]? = some (.cells #[.string ek, .int .i64 ec, .int .i64 en, .string evv, .bool ed] 32 (0, 0)) := by (repeat (first | (with_reducible assumption) | (with_reducible exact Below.refl _ _) | (with_reducible refine heap_drew ?_) | (focus ((with_reducible refine heap_new ?_) ; simp ; done)) | (with_reducible apply heap_set_to) | (focus ((with_reducible refine heap_set_ne ?_ ?_ _) ; rotate_left ; (focus (first | omega | (simp ; done) | (simp ; omega))))) | (with_reducible refine heap_old ?_) | (with_reducible refine Below.drew ?_) | (with_reducible refine below_set ?_ _ _) | (focus ((with_reducible refine Below.setCell ?_ ?_ _) ; rotate_left ; (focus (first | omega | (simp ; done) | (simp ; omega))))) | (focus ((with_reducible refine Below.alloc ?_ ?_ _) ; rotate_left ; (focus (first | omega | (simp ; done) | (simp ; omega))))) | (with_reducible rfl) | (focus (simp ; done))))
        have gx : Hid _ := gx0
        clear gx0
        have gA0 : ((w9.alloc (.cells #[.int .u64 (mix0 ek ec en), .int .u64 (mix1 ek ec en)] 26 (0, 0))).alloc (.cells #[.string ek, .int .i64 ec, .int .i64 en, .string evv, .bool ed] 32 (0, 0))).heap[w9.heap.size]? = some (.cells #[.int .u64 (mix0 ek ec en), .int .u64 (mix1 ek ec en)] 26 (0, 0)) := by (repeat (first | (with_reducible assumption) | (with_reducible exact Below.refl _ _) | (with_reducible refine heap_drew ?_) | (focus ((with_reducible refine heap_new ?_) ; simp ; done)) | (with_reducible apply heap_set_to) | (focus ((with_reducible refine heap_set_ne ?_ ?_ _) ; rotate_left ; (focus (first | omega | (simp ; done) | (simp ; omega))))) | (with_reducible refine heap_old ?_) | (with_reducible refine Below.drew ?_) | (with_reducible refine below_set ?_ _ _) | (focus ((with_reducible refine Below.setCell ?_ ?_ _) ; rotate_left ; (focus (first | omega | (simp ; done) | (simp ; omega))))) | (focus ((with_reducible refine Below.alloc ?_ ?_ _) ; rotate_left ; (focus (first | omega | (simp ; done) | (simp ; omega))))) | (with_reducible rfl) | (focus (simp ; done))))
        have gA9 : Hid _ := gA0
        have HO9' : Hid (w9.ownsRow B2 32 5 (.slice oM l.length T.length) l.length (flat (T ++ R))) := HO9
        clear HO9 gA0
        go_wp2_with (first
          | (at_builtin; (refine wpList_append_any _ rfl (.tmp 85) (.tmp 87) 22 rfl B2 32 i0 _ 5 56 Tryd.underlying22 HI.out.1 HI.out.2.1 HI.out.2.2.1 HI.out.2.2.2 rfl (by decide) _ l.length (flat (T ++ R)) rfl HO10.out (some ⟨w9.heap.size + 1, 0, none⟩) 1 1 (flat [(ek, ec, en, evv, ed)]) rfl rfl (fun h => by cases h) (ents_one gx.out hek).cells' (flat_one _) ?_ ?_ ?_ ?_))
          | fail)
        · unfold maxLen; omega
        · omega
        · simp; omega
        intro vN w10 hown hgrow
        have hlt0 : w.heap.size < w9.heap.size := by omega
        have hlt1 : sb < w9.heap.size := by omega
        have gE10 := (hgrow.block w.heap.size (by simp; omega) (fun h => by have := (HO10.out.lt _ h.symm).1; omega)).trans (heap_old (o := (.cells #[.string ek, .int .i64 ec, .int .i64 en, .string evv, .bool ed] 32 (0, 0))) (heap_old (o := (.cells #[.int .u64 (mix0 ek ec en), .int .u64 (mix1 ek ec en)] 26 (0, 0))) gE9))
        have gS10 := (hgrow.block sb (by simp; omega) (fun h => by have := (HO10.out.lt _ h.symm).1; omega)).trans (heap_old (o := (.cells #[.string ek, .int .i64 ec, .int .i64 en, .string evv, .bool ed] 32 (0, 0))) (heap_old (o := (.cells #[.int .u64 (mix0 ek ec en), .int .u64 (mix1 ek ec en)] 26 (0, 0))) gS9))
        have gA10 := (hgrow.block w9.heap.size (by simp; omega) (fun h => by have := (HO9'.out.lt _ h.symm).2; omega)).trans gA9.out
        have hbw10 : Below w.heap.size w w10 := ((hbw9.alloc hbw9.size (.cells #[.int .u64 (mix0 ek ec en), .int .u64 (mix1 ek ec en)] 26 (0, 0))).alloc (by simp; omega) (.cells #[.string ek, .int .i64 ec, .int .i64 en, .string evv, .bool ed] 32 (0, 0))).grown hgrow (by simp; omega) (fun y hy => by have := (HO10.out.lt y hy).1; omega)
        have hM2 : (T ++ R ++ [(ek, ec, en, evv, ed)]).length = l.length + 1 := by rw [List.length_append, HLN.out]; rfl
        rw [← flat_append] at hown
        obtain ⟨oN, cN, rfl, nN, hEN⟩ := ents_of_own hM2.symm hown (HK.out.append (fun k hk => by
          obtain rfl : k = 0 := by simp at hk; exact hk
          exact hek))
        have CN : Hid (Calls Tryd.prog 29 #[.slice oN (l.length + 1) cN] w10 fun e w'' => e = .returned (sv (Go.Proofs.YtjeaobknojmbpaaDoor.u64 (tot0 l + mix0 ek ec en)) (Go.Proofs.YtjeaobknojmbpaaDoor.u64 (tot1 l + mix1 ek ec en))) ∧ Below w10.heap.size w10 w'') := by
          have h := all_any oN cN (T ++ R ++ [(ek, ec, en, evv, ed)]) w10 (HH.out.1.below hbw10 hL0) hEN (by omega)
          rw [tot0_append (T ++ R), tot1_append (T ++ R), HS.out.1, HS.out.2.1, hM2, show tot0 [(ek, ec, en, evv, ed)] = mix0 ek ec en by simp [tot0, m0], show tot1 [(ek, ec, en, evv, ed)] = mix1 ek ec en by simp [tot1, m1]] at h
          exact h
        clear hM2 hEN nN hown hgrow HO10 HO9' gA9 gx gE9 gS9 x0 x1 x2 x3 x4 xl xf
        obtain ⟨ab, hab⟩ : ∃ g, g = w9.heap.size := ⟨_, rfl⟩
        rw [← hab] at gA10 ⊢
        clear hab hB9 hlt0 hlt1 hbw9
        go_wp2_with fail
        refine CN.out.mono ?_
        rintro e w11 ⟨rfl, hb11⟩
        have gE11 := blk_below gE10 hb11
        have gS11 := blk_below gS10 hb11
        have gA11 := blk_below gA10 hb11
        have hbw11 := below_back hbw10 hbw10.size hb11
        clear gE10 gS10 gA10 hbw10 hb11 CN
        go_wp2_with fail
        have gM12 : (w11.alloc (.cells #[.int .u64 (Go.Proofs.YtjeaobknojmbpaaDoor.u64 (tot0 l + mix0 ek ec en)), .int .u64 (Go.Proofs.YtjeaobknojmbpaaDoor.u64 (tot1 l + mix1 ek ec en))] 26 (0, 0))).heap[w11.heap.size]? = some (.cells #[.int .u64 (Go.Proofs.YtjeaobknojmbpaaDoor.u64 (tot0 l + mix0 ek ec en)), .int .u64 (Go.Proofs.YtjeaobknojmbpaaDoor.u64 (tot1 l + mix1 ek ec en))] 26 (0, 0)) := by (repeat (first | (with_reducible assumption) | (with_reducible exact Below.refl _ _) | (with_reducible refine heap_drew ?_) | (focus ((with_reducible refine heap_new ?_) ; simp ; done)) | (with_reducible apply heap_set_to) | (focus ((with_reducible refine heap_set_ne ?_ ?_ _) ; rotate_left ; (focus (first | omega | (simp ; done) | (simp ; omega))))) | (with_reducible refine heap_old ?_) | (with_reducible refine Below.drew ?_) | (with_reducible refine below_set ?_ _ _) | (focus ((with_reducible refine Below.setCell ?_ ?_ _) ; rotate_left ; (focus (first | omega | (simp ; done) | (simp ; omega))))) | (focus ((with_reducible refine Below.alloc ?_ ?_ _) ; rotate_left ; (focus (first | omega | (simp ; done) | (simp ; omega))))) | (with_reducible rfl) | (focus (simp ; done))))
        have gE12 := heap_old (o := (.cells #[.int .u64 (Go.Proofs.YtjeaobknojmbpaaDoor.u64 (tot0 l + mix0 ek ec en)), .int .u64 (Go.Proofs.YtjeaobknojmbpaaDoor.u64 (tot1 l + mix1 ek ec en))] 26 (0, 0))) gE11
        have gS12 := heap_old (o := (.cells #[.int .u64 (Go.Proofs.YtjeaobknojmbpaaDoor.u64 (tot0 l + mix0 ek ec en)), .int .u64 (Go.Proofs.YtjeaobknojmbpaaDoor.u64 (tot1 l + mix1 ek ec en))] 26 (0, 0))) gS11
        have gA12 := heap_old (o := (.cells #[.int .u64 (Go.Proofs.YtjeaobknojmbpaaDoor.u64 (tot0 l + mix0 ek ec en)), .int .u64 (Go.Proofs.YtjeaobknojmbpaaDoor.u64 (tot1 l + mix1 ek ec en))] 26 (0, 0))) gA11
        have hbw12 := hbw11.alloc hbw11.size (.cells #[.int .u64 (Go.Proofs.YtjeaobknojmbpaaDoor.u64 (tot0 l + mix0 ek ec en)), .int .u64 (Go.Proofs.YtjeaobknojmbpaaDoor.u64 (tot1 l + mix1 ek ec en))] 26 (0, 0))
        generalize hws : w11.alloc (.cells #[.int .u64 (Go.Proofs.YtjeaobknojmbpaaDoor.u64 (tot0 l + mix0 ek ec en)), .int .u64 (Go.Proofs.YtjeaobknojmbpaaDoor.u64 (tot1 l + mix1 ek ec en))] 26 (0, 0)) = wm at *
        obtain ⟨mb, hmb⟩ : ∃ g, g = w11.heap.size := ⟨_, rfl⟩
        rw [← hmb] at gM12 ⊢
        clear hws hmb gE11 gS11 gA11 hbw11
        have hLm : Hid (Lanes wm) := HH.out.1.below hbw12 hL0
        have hm0 : 0 < wm.heap.size := hLm.out.lt
        have CO : Hid (∀ w', Below wm.heap.size wm w' → Calls Tryd.prog 14 #[.string ek, .agg #[.int .i64 ec, .int .i64 en]] w' fun e w'' => e = .returned (sv (mix0 ek ec en) (mix1 ek ec en)) ∧ Below w'.heap.size w' w'') := fun w' hc => of_any ek ec en w' (hLm.out.below hc hm0) (by omega)
        have CD : Hid (∀ w', Calls Tryd.prog 25 #[sv (Go.Proofs.YtjeaobknojmbpaaDoor.u64 (tot0 l)) (Go.Proofs.YtjeaobknojmbpaaDoor.u64 (tot1 l)), sv (mix0 ek ec en) (mix1 ek ec en)] w' fun e w'' => e = .returned (sv (Go.Proofs.YtjeaobknojmbpaaDoor.u64 (tot0 l + mix0 ek ec en)) (Go.Proofs.YtjeaobknojmbpaaDoor.u64 (tot1 l + mix1 ek ec en))) ∧ Below w'.heap.size w' w'') := fun w' => by
          have h := add_any (Go.Proofs.YtjeaobknojmbpaaDoor.u64 (tot0 l)) (Go.Proofs.YtjeaobknojmbpaaDoor.u64 (tot1 l)) (mix0 ek ec en) (mix1 ek ec en) w'
          rw [u64_add, u64_add] at h
          exact h
        have CL : Hid (∀ w', Calls Tryd.prog 27 #[sv (Go.Proofs.YtjeaobknojmbpaaDoor.u64 (tot0 l + mix0 ek ec en)) (Go.Proofs.YtjeaobknojmbpaaDoor.u64 (tot1 l + mix1 ek ec en)), sv (mix0 ek ec en) (mix1 ek ec en)] w' fun e w'' => e = .returned (sv (Go.Proofs.YtjeaobknojmbpaaDoor.u64 (tot0 l)) (Go.Proofs.YtjeaobknojmbpaaDoor.u64 (tot1 l))) ∧ Below w'.heap.size w' w'') := fun w' => by
          have h := sub_any (Go.Proofs.YtjeaobknojmbpaaDoor.u64 (tot0 l + mix0 ek ec en)) (Go.Proofs.YtjeaobknojmbpaaDoor.u64 (tot1 l + mix1 ek ec en)) (mix0 ek ec en) (mix1 ek ec en) w'
          rw [u64_take, u64_take] at h
          exact h
        have CE : Hid (∀ w', Calls Tryd.prog 27 #[sv (Go.Proofs.YtjeaobknojmbpaaDoor.u64 (tot0 l + mix0 ek ec en)) (Go.Proofs.YtjeaobknojmbpaaDoor.u64 (tot1 l + mix1 ek ec en)), sv (Go.Proofs.YtjeaobknojmbpaaDoor.u64 (tot0 l)) (Go.Proofs.YtjeaobknojmbpaaDoor.u64 (tot1 l))] w' fun e w'' => e = .returned (sv (mix0 ek ec en) (mix1 ek ec en)) ∧ Below w'.heap.size w' w'') := fun w' => by
          have h := sub_any (Go.Proofs.YtjeaobknojmbpaaDoor.u64 (tot0 l + mix0 ek ec en)) (Go.Proofs.YtjeaobknojmbpaaDoor.u64 (tot1 l + mix1 ek ec en)) (Go.Proofs.YtjeaobknojmbpaaDoor.u64 (tot0 l)) (Go.Proofs.YtjeaobknojmbpaaDoor.u64 (tot1 l)) w'
          rw [u64_take', u64_take', mix0_u, mix1_u] at h
          exact h
        have hSt : Stable (fun wz : World => (Below wm.heap.size wm wz)) := by repeat (first | exact stable_ext _ | exact stable_blk _ _ | exact stable_true | (refine stable_bel ?_ ; (focus (first | (simp [World.size_setCell] ; done) | (simp [World.setCell] ; done)))) | refine Stable.and ?_ ?_)
        refine wp_region_x [0, 1, 2, 3, 4, 5, 6, 7, 8, 9, 10, 11, 12, 13, 14, 15, 16, 17, 18, 19, 20, 21, 22, 23, 24, 25, 26, 27, 28] [1, 0, 1, 0, 1, 1, 0, 0, 1, 1, 1, 1, 0, 0, 0, 1, 1, 1, 1, 0, 0, 0, 1, 1, 1, 1, 0, 0, 0] (fun wz => (Below wm.heap.size wm wz)) (by kernel_rfl) (by kernel_rfl) ?_ ?_
        · (first | trivial | (repeat (first | (with_reducible assumption) | (with_reducible exact Below.refl _ _) | (with_reducible refine heap_drew ?_) | (focus ((with_reducible refine heap_new ?_) ; simp ; done)) | (with_reducible apply heap_set_to) | (focus ((with_reducible refine heap_set_ne ?_ ?_ _) ; rotate_left ; (focus (first | omega | (simp ; done) | (simp ; omega))))) | (with_reducible refine heap_old ?_) | (with_reducible refine Below.drew ?_) | (with_reducible refine below_set ?_ _ _) | (focus ((with_reducible refine Below.setCell ?_ ?_ _) ; rotate_left ; (focus (first | omega | (simp ; done) | (simp ; omega))))) | (focus ((with_reducible refine Below.alloc ?_ ?_ _) ; rotate_left ; (focus (first | omega | (simp ; done) | (simp ; omega))))) | (with_reducible rfl) | (focus (simp ; done)))))
        simp only [List.map_cons, List.map_nil, List.getD_cons_zero, List.getD_cons_succ]
        (refine x_quiet rfl hSt (fun _ h => h) _ ?_ rfl (by simp) ?_ ?_ ; rotate_left ; · (intro wz hC K hK ; have hc := hC ; have pE := blk5 (blk_below gE12 hc) ; have pS := blk2 (blk_below gS12 hc) ; have pA := blk2 (blk_below gA12 hc) ; have pM := blk2 (blk_below gM12 hc) ; go_wp2_with fail ; refine ⟨?_, Below.refl _ _⟩ ; exact rfl))
        simp only [Act.put, List.setIfInBounds_toArray, List.set_cons_succ, List.set_cons_zero]
        (refine x_pure rfl _ ?_ rfl (by simp) ?_ ?_ ; rotate_left ; · (intro wz K hK ; go_wp2_with fail ; exact rfl))
        simp only [Act.put, List.setIfInBounds_toArray, List.set_cons_succ, List.set_cons_zero]
        (refine x_quiet rfl hSt (fun _ h => h) _ ?_ rfl (by simp) ?_ ?_ ; rotate_left ; · (intro wz hC K hK ; have hc := hC ; have pE := blk5 (blk_below gE12 hc) ; have pS := blk2 (blk_below gS12 hc) ; have pA := blk2 (blk_below gA12 hc) ; have pM := blk2 (blk_below gM12 hc) ; go_wp2_with fail ; refine ⟨?_, Below.refl _ _⟩ ; exact rfl))
        simp only [Act.put, List.setIfInBounds_toArray, List.set_cons_succ, List.set_cons_zero]
        (refine x_pure rfl _ ?_ rfl (by simp) ?_ ?_ ; rotate_left ; · (intro wz K hK ; go_wp2_with fail ; exact rfl))
        simp only [Act.put, List.setIfInBounds_toArray, List.set_cons_succ, List.set_cons_zero]
        (refine x_quiet rfl hSt (fun _ h => h) _ ?_ rfl (by simp) ?_ ?_ ; rotate_left ; · (intro wz hC K hK ; have hc := hC ; have pE := blk5 (blk_below gE12 hc) ; have pS := blk2 (blk_below gS12 hc) ; have pA := blk2 (blk_below gA12 hc) ; have pM := blk2 (blk_below gM12 hc) ; go_wp2_with fail ; refine ⟨?_, Below.refl _ _⟩ ; exact rfl))
        simp only [Act.put, List.setIfInBounds_toArray, List.set_cons_succ, List.set_cons_zero]
        (refine x_quiet rfl hSt (fun _ h => h) _ ?_ rfl (by simp) ?_ ?_ ; rotate_left ; · (intro wz hC K hK ; have hc := hC ; have pE := blk5 (blk_below gE12 hc) ; have pS := blk2 (blk_below gS12 hc) ; have pA := blk2 (blk_below gA12 hc) ; have pM := blk2 (blk_below gM12 hc) ; go_wp2_with fail ; refine (CO.out _ hc).mono ?_ ; rintro e w2 ⟨rfl, hb2⟩ ; refine hK _ _ ⟨?_, rfl, hb2⟩ ; exact rfl))
        simp only [Act.put, List.setIfInBounds_toArray, List.set_cons_succ, List.set_cons_zero]
        (refine x_pure rfl _ ?_ rfl (by simp) ?_ ?_ ; rotate_left ; · (intro wz K hK ; go_wp2_with fail ; exact rfl))
        simp only [Act.put, List.setIfInBounds_toArray, List.set_cons_succ, List.set_cons_zero]
        (refine x_pure rfl _ ?_ rfl (by simp) ?_ ?_ ; rotate_left ; · (intro wz K hK ; go_wp2_with fail ; exact rfl))
        simp only [Act.put, List.setIfInBounds_toArray, List.set_cons_succ, List.set_cons_zero]
        first | (refine x_skip rfl ?_) | (refine x_quiet rfl hSt (fun _ h => h) _ ?_ rfl (by simp) ?_ ?_ ; rotate_left ; · (intro wz hC K hK ; have hc := hC ; have pE := blk5 (blk_below gE12 hc) ; have pS := blk2 (blk_below gS12 hc) ; have pA := blk2 (blk_below gA12 hc) ; have pM := blk2 (blk_below gM12 hc) ; go_wp2_with fail ; refine ⟨?_, Below.refl _ _⟩ ; exact rfl))
        simp only [Act.put, List.setIfInBounds_toArray, List.set_cons_succ, List.set_cons_zero]
        first | (refine x_skip rfl ?_) | (refine x_quiet rfl hSt (fun _ h => h) _ ?_ rfl (by simp) ?_ ?_ ; rotate_left ; · (intro wz hC K hK ; have hc := hC ; have pE := blk5 (blk_below gE12 hc) ; have pS := blk2 (blk_below gS12 hc) ; have pA := blk2 (blk_below gA12 hc) ; have pM := blk2 (blk_below gM12 hc) ; go_wp2_with fail ; refine ⟨?_, Below.refl _ _⟩ ; exact rfl))
        simp only [Act.put, List.setIfInBounds_toArray, List.set_cons_succ, List.set_cons_zero]
        first | (refine x_skip rfl ?_) | (refine x_quiet rfl hSt (fun _ h => h) _ ?_ rfl (by simp) ?_ ?_ ; rotate_left ; · (intro wz hC K hK ; have hc := hC ; have pE := blk5 (blk_below gE12 hc) ; have pS := blk2 (blk_below gS12 hc) ; have pA := blk2 (blk_below gA12 hc) ; have pM := blk2 (blk_below gM12 hc) ; go_wp2_with fail ; refine ⟨?_, Below.refl _ _⟩ ; exact rfl))
        simp only [Act.put, List.setIfInBounds_toArray, List.set_cons_succ, List.set_cons_zero]
        first | (refine x_skip rfl ?_) | (refine x_quiet rfl hSt (fun _ h => h) _ ?_ rfl (by simp) ?_ ?_ ; rotate_left ; · (intro wz hC K hK ; have hc := hC ; have pE := blk5 (blk_below gE12 hc) ; have pS := blk2 (blk_below gS12 hc) ; have pA := blk2 (blk_below gA12 hc) ; have pM := blk2 (blk_below gM12 hc) ; go_wp2_with fail ; refine (CD.out _).mono ?_ ; rintro e w2 ⟨rfl, hb2⟩ ; refine hK _ _ ⟨?_, rfl, hb2⟩ ; exact rfl))
        simp only [Act.put, List.setIfInBounds_toArray, List.set_cons_succ, List.set_cons_zero]
        first | (refine x_skip rfl ?_) | (refine x_pure rfl _ ?_ rfl (by simp) ?_ ?_ ; rotate_left ; · (intro wz K hK ; go_wp2_with fail ; exact rfl))
        simp only [Act.put, List.setIfInBounds_toArray, List.set_cons_succ, List.set_cons_zero]
        (refine x_pure rfl _ ?_ rfl (by simp) ?_ ?_ ; rotate_left ; · (intro wz K hK ; go_wp2_with fail ; exact rfl))
        simp only [Act.put, List.setIfInBounds_toArray, List.set_cons_succ, List.set_cons_zero]
        (refine x_pure rfl _ ?_ rfl (by simp) ?_ ?_ ; rotate_left ; · (intro wz K hK ; go_wp2_with fail ; exact rfl))
        simp only [Act.put, List.setIfInBounds_toArray, List.set_cons_succ, List.set_cons_zero]
        first | (refine x_skip rfl ?_) | (refine x_quiet rfl hSt (fun _ h => h) _ ?_ rfl (by simp) ?_ ?_ ; rotate_left ; · (intro wz hC K hK ; have hc := hC ; have pE := blk5 (blk_below gE12 hc) ; have pS := blk2 (blk_below gS12 hc) ; have pA := blk2 (blk_below gA12 hc) ; have pM := blk2 (blk_below gM12 hc) ; go_wp2_with fail ; refine ⟨?_, Below.refl _ _⟩ ; exact rfl))
        simp only [Act.put, List.setIfInBounds_toArray, List.set_cons_succ, List.set_cons_zero]
        first | (refine x_skip rfl ?_) | (refine x_quiet rfl hSt (fun _ h => h) _ ?_ rfl (by simp) ?_ ?_ ; rotate_left ; · (intro wz hC K hK ; have hc := hC ; have pE := blk5 (blk_below gE12 hc) ; have pS := blk2 (blk_below gS12 hc) ; have pA := blk2 (blk_below gA12 hc) ; have pM := blk2 (blk_below gM12 hc) ; go_wp2_with fail ; refine ⟨?_, Below.refl _ _⟩ ; exact rfl))
        simp only [Act.put, List.setIfInBounds_toArray, List.set_cons_succ, List.set_cons_zero]
        first | (refine x_skip rfl ?_) | (refine x_quiet rfl hSt (fun _ h => h) _ ?_ rfl (by simp) ?_ ?_ ; rotate_left ; · (intro wz hC K hK ; have hc := hC ; have pE := blk5 (blk_below gE12 hc) ; have pS := blk2 (blk_below gS12 hc) ; have pA := blk2 (blk_below gA12 hc) ; have pM := blk2 (blk_below gM12 hc) ; go_wp2_with fail ; refine (CL.out _).mono ?_ ; rintro e w2 ⟨rfl, hb2⟩ ; refine hK _ _ ⟨?_, rfl, hb2⟩ ; exact rfl))
        simp only [Act.put, List.setIfInBounds_toArray, List.set_cons_succ, List.set_cons_zero]
        first | (refine x_skip rfl ?_) | (refine x_quiet rfl hSt (fun _ h => h) _ ?_ rfl (by simp) ?_ ?_ ; rotate_left ; · (intro wz hC K hK ; have hc := hC ; have pE := blk5 (blk_below gE12 hc) ; have pS := blk2 (blk_below gS12 hc) ; have pA := blk2 (blk_below gA12 hc) ; have pM := blk2 (blk_below gM12 hc) ; go_wp2_with fail ; refine ⟨?_, Below.refl _ _⟩ ; exact rfl))
        simp only [Act.put, List.setIfInBounds_toArray, List.set_cons_succ, List.set_cons_zero]
        first | (refine x_skip rfl ?_) | (refine x_pure rfl _ ?_ rfl (by simp) ?_ ?_ ; rotate_left ; · (intro wz K hK ; go_wp2_with fail ; exact rfl))
        simp only [Act.put, List.setIfInBounds_toArray, List.set_cons_succ, List.set_cons_zero]
        (refine x_pure rfl _ ?_ rfl (by simp) ?_ ?_ ; rotate_left ; · (intro wz K hK ; go_wp2_with fail ; exact rfl))
        simp only [Act.put, List.setIfInBounds_toArray, List.set_cons_succ, List.set_cons_zero]
        (refine x_pure rfl _ ?_ rfl (by simp) ?_ ?_ ; rotate_left ; · (intro wz K hK ; go_wp2_with fail ; exact rfl))
        simp only [Act.put, List.setIfInBounds_toArray, List.set_cons_succ, List.set_cons_zero]
        first | (refine x_skip rfl ?_) | (refine x_quiet rfl hSt (fun _ h => h) _ ?_ rfl (by simp) ?_ ?_ ; rotate_left ; · (intro wz hC K hK ; have hc := hC ; have pE := blk5 (blk_below gE12 hc) ; have pS := blk2 (blk_below gS12 hc) ; have pA := blk2 (blk_below gA12 hc) ; have pM := blk2 (blk_below gM12 hc) ; go_wp2_with fail ; refine ⟨?_, Below.refl _ _⟩ ; exact rfl))
        simp only [Act.put, List.setIfInBounds_toArray, List.set_cons_succ, List.set_cons_zero]
        first | (refine x_skip rfl ?_) | (refine x_quiet rfl hSt (fun _ h => h) _ ?_ rfl (by simp) ?_ ?_ ; rotate_left ; · (intro wz hC K hK ; have hc := hC ; have pE := blk5 (blk_below gE12 hc) ; have pS := blk2 (blk_below gS12 hc) ; have pA := blk2 (blk_below gA12 hc) ; have pM := blk2 (blk_below gM12 hc) ; go_wp2_with fail ; refine ⟨?_, Below.refl _ _⟩ ; exact rfl))
        simp only [Act.put, List.setIfInBounds_toArray, List.set_cons_succ, List.set_cons_zero]
        first | (refine x_skip rfl ?_) | (refine x_quiet rfl hSt (fun _ h => h) _ ?_ rfl (by simp) ?_ ?_ ; rotate_left ; · (intro wz hC K hK ; have hc := hC ; have pE := blk5 (blk_below gE12 hc) ; have pS := blk2 (blk_below gS12 hc) ; have pA := blk2 (blk_below gA12 hc) ; have pM := blk2 (blk_below gM12 hc) ; go_wp2_with fail ; refine (CE.out _).mono ?_ ; rintro e w2 ⟨rfl, hb2⟩ ; refine hK _ _ ⟨?_, rfl, hb2⟩ ; exact rfl))
        simp only [Act.put, List.setIfInBounds_toArray, List.set_cons_succ, List.set_cons_zero]
        first | (refine x_skip rfl ?_) | (refine x_quiet rfl hSt (fun _ h => h) _ ?_ rfl (by simp) ?_ ?_ ; rotate_left ; · (intro wz hC K hK ; have hc := hC ; have pE := blk5 (blk_below gE12 hc) ; have pS := blk2 (blk_below gS12 hc) ; have pA := blk2 (blk_below gA12 hc) ; have pM := blk2 (blk_below gM12 hc) ; go_wp2_with fail ; refine ⟨?_, Below.refl _ _⟩ ; exact rfl))
        simp only [Act.put, List.setIfInBounds_toArray, List.set_cons_succ, List.set_cons_zero]
        first | (refine x_skip rfl ?_) | (refine x_pure rfl _ ?_ rfl (by simp) ?_ ?_ ; rotate_left ; · (intro wz K hK ; go_wp2_with fail ; exact rfl))
        simp only [Act.put, List.setIfInBounds_toArray, List.set_cons_succ, List.set_cons_zero]
        (refine x_pure rfl _ ?_ rfl (by simp) ?_ ?_ ; rotate_left ; · (intro wz K hK ; go_wp2_with fail ; exact rfl))
        simp only [Act.put, List.setIfInBounds_toArray, List.set_cons_succ, List.set_cons_zero]
        (refine x_pure rfl _ ?_ rfl (by simp) ?_ ?_ ; rotate_left ; · (intro wz K hK ; go_wp2_with fail ; exact rfl))
        simp only [Act.put, List.setIfInBounds_toArray, List.set_cons_succ, List.set_cons_zero]
        refine x_nil ?_
        rintro wz hc
        go_wp2_with fail
        go_ret
        exact ⟨rfl, below_back hbw12 hbw12.size hc⟩
      · have CR : Hid (∀ w', Below w7.heap.size w7 w' → Calls Tryd.prog 29 #[.slice (Option.map (fun x => x.add (T.length * 5)) oM) (l.length - T.length) (cM - T.length)] w' fun e w'' => e = .returned (sv (Go.Proofs.YtjeaobknojmbpaaDoor.u64 (tot0 R)) (Go.Proofs.YtjeaobknojmbpaaDoor.u64 (tot1 R))) ∧ Below w'.heap.size w' w'') := fun w' hc => by
          have h := all_any (Option.map (fun x => x.add (T.length * 5)) oM) (cM - T.length) R w' (hL7.out.below hc hw70) ((ents_suf HEM.out).below hc) (by have := HRl.out; omega)
          rw [HRl.out] at h
          exact h
        have hSt : Stable (fun w8 : World => (Below w7.heap.size w7 w8)) := by repeat (first | exact stable_ext _ | exact stable_blk _ _ | exact stable_true | (refine stable_bel ?_ ; (focus (first | (simp [World.size_setCell] ; done) | (simp [World.setCell] ; done)))) | refine Stable.and ?_ ?_)
        refine wp_region_x [0, 1, 2, 3, 4, 5, 6, 7, 8, 9, 10, 11, 12, 13, 14, 15, 16] [0, 1, 1, 0, 0, 0, 0, 0, 1, 0, 0, 0, 1, 1, 1, 0, 0] (fun w8 => (Below w7.heap.size w7 w8)) (by kernel_rfl) (by kernel_rfl) ?_ ?_
        · (first | trivial | (repeat (first | (with_reducible assumption) | (with_reducible exact Below.refl _ _) | (with_reducible refine heap_drew ?_) | (focus ((with_reducible refine heap_new ?_) ; simp ; done)) | (with_reducible apply heap_set_to) | (focus ((with_reducible refine heap_set_ne ?_ ?_ _) ; rotate_left ; (focus (first | omega | (simp ; done) | (simp ; omega))))) | (with_reducible refine heap_old ?_) | (with_reducible refine Below.drew ?_) | (with_reducible refine below_set ?_ _ _) | (focus ((with_reducible refine Below.setCell ?_ ?_ _) ; rotate_left ; (focus (first | omega | (simp ; done) | (simp ; omega))))) | (focus ((with_reducible refine Below.alloc ?_ ?_ _) ; rotate_left ; (focus (first | omega | (simp ; done) | (simp ; omega))))) | (with_reducible rfl) | (focus (simp ; done)))))
        simp only [List.map_cons, List.map_nil, List.getD_cons_zero, List.getD_cons_succ]
        (refine x_pure rfl _ ?_ rfl (by simp) ?_ ?_ ; rotate_left ; · (intro w8 K hK ; go_wp2_with fail ; exact rfl))
        simp only [Act.put, List.setIfInBounds_toArray, List.set_cons_succ, List.set_cons_zero]
        (refine x_quiet rfl hSt (fun _ h => h) _ ?_ rfl (by simp) ?_ ?_ ; rotate_left ; · (intro w8 hC K hK ; have hc := hC ; have q7 := blk2 (blk_below g7' hc) ; go_wp2_with fail ; refine (CM.out _ hc).mono ?_ ; rintro e w2 ⟨rfl, hb2⟩ ; refine hK _ _ ⟨?_, rfl, hb2⟩ ; exact rfl))
        simp only [Act.put, List.setIfInBounds_toArray, List.set_cons_succ, List.set_cons_zero]
        (refine x_quiet rfl hSt (fun _ h => h) _ ?_ rfl (by simp) ?_ ?_ ; rotate_left ; · (intro w8 hC K hK ; have hc := hC ; have q7 := blk2 (blk_below g7' hc) ; go_wp2_with fail ; refine ⟨?_, Below.refl _ _⟩ ; exact rfl))
        simp only [Act.put, List.setIfInBounds_toArray, List.set_cons_succ, List.set_cons_zero]
        (refine x_pure rfl _ ?_ rfl (by simp) ?_ ?_ ; rotate_left ; · (intro w8 K hK ; go_wp2_with fail ; exact rfl))
        simp only [Act.put, List.setIfInBounds_toArray, List.set_cons_succ, List.set_cons_zero]
        (refine x_pure rfl _ ?_ rfl (by simp) ?_ ?_ ; rotate_left ; · (intro w8 K hK ; go_wp2_with fail ; exact rfl))
        simp only [Act.put, List.setIfInBounds_toArray, List.set_cons_succ, List.set_cons_zero]
        first | (refine x_skip rfl ?_) | (refine x_pure rfl _ ?_ rfl (by simp) ?_ ?_ ; rotate_left ; · (intro w8 K hK ; go_wp2_with fail ; exact rfl))
        simp only [Act.put, List.setIfInBounds_toArray, List.set_cons_succ, List.set_cons_zero]
        first | (refine x_skip rfl ?_) | (refine x_pure rfl _ ?_ rfl (by simp) ?_ ?_ ; rotate_left ; · (intro w8 K hK ; go_wp2_with fail ; exact rfl))
        simp only [Act.put, List.setIfInBounds_toArray, List.set_cons_succ, List.set_cons_zero]
        first | (refine x_skip rfl ?_) | (refine x_pure rfl _ ?_ rfl (by simp) ?_ ?_ ; rotate_left ; · (intro w8 K hK ; go_wp2_with fail ; exact rfl))
        simp only [Act.put, List.setIfInBounds_toArray, List.set_cons_succ, List.set_cons_zero]
        first | (refine x_skip rfl ?_) | (refine x_quiet rfl hSt (fun _ h => h) _ ?_ rfl (by simp) ?_ ?_ ; rotate_left ; · (intro w8 hC K hK ; have hc := hC ; have q7 := blk2 (blk_below g7' hc) ; go_wp2_with fail ; refine (CT.out _ hc).mono ?_ ; rintro e w2 ⟨rfl, hb2⟩ ; refine hK _ _ ⟨?_, rfl, hb2⟩ ; exact rfl))
        simp only [Act.put, List.setIfInBounds_toArray, List.set_cons_succ, List.set_cons_zero]
        first | (refine x_skip rfl ?_) | (refine x_pure rfl _ ?_ rfl (by simp) ?_ ?_ ; rotate_left ; · (intro w8 K hK ; go_wp2_with fail ; exact rfl))
        simp only [Act.put, List.setIfInBounds_toArray, List.set_cons_succ, List.set_cons_zero]
        first | (refine x_skip rfl ?_) | (refine x_pure rfl _ ?_ rfl (by simp) ?_ ?_ ; rotate_left ; · (intro w8 K hK ; go_wp2_with fail ; exact rfl))
        simp only [Act.put, List.setIfInBounds_toArray, List.set_cons_succ, List.set_cons_zero]
        first | (refine x_skip rfl ?_) | (refine x_pure rfl _ ?_ rfl (by simp) ?_ ?_ ; rotate_left ; · (intro w8 K hK ; go_wp2_with fail ; exact rfl))
        simp only [Act.put, List.setIfInBounds_toArray, List.set_cons_succ, List.set_cons_zero]
        first | (refine x_skip rfl ?_) | (refine x_quiet rfl hSt (fun _ h => h) _ ?_ rfl (by simp) ?_ ?_ ; rotate_left ; · (intro w8 hC K hK ; have hc := hC ; have q7 := blk2 (blk_below g7' hc) ; go_wp2_with fail ; refine (CR.out _ hc).mono ?_ ; rintro e w2 ⟨rfl, hb2⟩ ; refine hK _ _ ⟨?_, rfl, hb2⟩ ; exact rfl))
        simp only [Act.put, List.setIfInBounds_toArray, List.set_cons_succ, List.set_cons_zero]
        first | (refine x_skip rfl ?_) | (refine x_quiet rfl hSt (fun _ h => h) _ ?_ rfl (by simp) ?_ ?_ ; rotate_left ; · (intro w8 hC K hK ; have hc := hC ; have q7 := blk2 (blk_below g7' hc) ; go_wp2_with fail ; refine (CA.out _).mono ?_ ; rintro e w2 ⟨rfl, hb2⟩ ; refine hK _ _ ⟨?_, rfl, hb2⟩ ; exact rfl))
        simp only [Act.put, List.setIfInBounds_toArray, List.set_cons_succ, List.set_cons_zero]
        first | (refine x_skip rfl ?_) | (refine x_quiet rfl hSt (fun _ h => h) _ ?_ rfl (by simp) ?_ ?_ ; rotate_left ; · (intro w8 hC K hK ; have hc := hC ; have q7 := blk2 (blk_below g7' hc) ; go_wp2_with fail ; refine ⟨?_, Below.refl _ _⟩ ; exact rfl))
        simp only [Act.put, List.setIfInBounds_toArray, List.set_cons_succ, List.set_cons_zero]
        first | (refine x_skip rfl ?_) | (refine x_pure rfl _ ?_ rfl (by simp) ?_ ?_ ; rotate_left ; · (intro w8 K hK ; go_wp2_with fail ; exact rfl))
        simp only [Act.put, List.setIfInBounds_toArray, List.set_cons_succ, List.set_cons_zero]
        (refine x_pure rfl _ ?_ rfl (by simp) ?_ ?_ ; rotate_left ; · (intro w8 K hK ; go_wp2_with fail ; exact rfl))
        simp only [Act.put, List.setIfInBounds_toArray, List.set_cons_succ, List.set_cons_zero]
        refine x_nil ?_
        rintro w8 hc
        have gE8 := blk_below g5' hc
        have gS8 := blk_below g7' hc
        have hbw8 : Below w.heap.size w w8 := below_back hbw7 hbw7.size hc
        have HO8 := own_below HOW.out hc
        have hz8 := hc.size
        obtain ⟨x0, x1, x2, x3, x4, xl, xf⟩ := blk5 gE8
        clear CM CT CA CR HRl HOW HEM hc hcm
        go_wp2_with fail
        have hbA : Below w8.heap.size w8 (w8.alloc (.cells #[.string ek, .int .i64 ec, .int .i64 en, .string evv, .bool ed] 32 (0, 0))) := by (repeat (first | (with_reducible assumption) | (with_reducible exact Below.refl _ _) | (with_reducible refine heap_drew ?_) | (focus ((with_reducible refine heap_new ?_) ; simp ; done)) | (with_reducible apply heap_set_to) | (focus ((with_reducible refine heap_set_ne ?_ ?_ _) ; rotate_left ; (focus (first | omega | (simp ; done) | (simp ; omega))))) | (with_reducible refine heap_old ?_) | (with_reducible refine Below.drew ?_) | (with_reducible refine below_set ?_ _ _) | (focus ((with_reducible refine Below.setCell ?_ ?_ _) ; rotate_left ; (focus (first | omega | (simp ; done) | (simp ; omega))))) | (focus ((with_reducible refine Below.alloc ?_ ?_ _) ; rotate_left ; (focus (first | omega | (simp ; done) | (simp ; omega))))) | (with_reducible rfl) | (focus (simp ; done))))
        have gx : (w8.alloc (.cells #[.string ek, .int .i64 ec, .int .i64 en, .string evv, .bool ed] 32 (0, 0))).heap[w8.heap.size]? = some (.cells #[.string ek, .int .i64 ec, .int .i64 en, .string evv, .bool ed] 32 (0, 0)) := by (repeat (first | (with_reducible assumption) | (with_reducible exact Below.refl _ _) | (with_reducible refine heap_drew ?_) | (focus ((with_reducible refine heap_new ?_) ; simp ; done)) | (with_reducible apply heap_set_to) | (focus ((with_reducible refine heap_set_ne ?_ ?_ _) ; rotate_left ; (focus (first | omega | (simp ; done) | (simp ; omega))))) | (with_reducible refine heap_old ?_) | (with_reducible refine Below.drew ?_) | (with_reducible refine below_set ?_ _ _) | (focus ((with_reducible refine Below.setCell ?_ ?_ _) ; rotate_left ; (focus (first | omega | (simp ; done) | (simp ; omega))))) | (focus ((with_reducible refine Below.alloc ?_ ?_ _) ; rotate_left ; (focus (first | omega | (simp ; done) | (simp ; omega))))) | (with_reducible rfl) | (focus (simp ; done))))
        have hbwA := below_back hbw8 hbw8.size hbA
        refine (all_one (HH.out.1.below hbwA hL0) gx hek).mono ?_
        rintro e w9 ⟨rfl, hb9⟩
        have gE9 := blk_below (heap_old (o := .cells #[.string ek, .int .i64 ec, .int .i64 en, .string evv, .bool ed] 32 (0, 0)) gE8) hb9
        have gS9 := blk_below (heap_old (o := .cells #[.string ek, .int .i64 ec, .int .i64 en, .string evv, .bool ed] 32 (0, 0)) gS8) hb9
        have hbw9 := below_back hbwA hbwA.size hb9
        have HO9 := own_below (HO8.alloc (.cells #[.string ek, .int .i64 ec, .int .i64 en, .string evv, .bool ed] 32 (0, 0))) hb9
        have hz9 := hb9.size
        have hB9 : B2 < w9.heap.size := by simp at hz9; omega
        clear x0 x1 x2 x3 x4 xl xf gE8 gS8 hbw8 HO8 hbA gx hbwA hb9 hz9 hz8 g5' g7' hbw7
        obtain ⟨x0, x1, x2, x3, x4, xl, xf⟩ := blk5 gE9
        have HO10 : Hid (((w9.alloc (.cells #[.int .u64 (mix0 ek ec en), .int .u64 (mix1 ek ec en)] 26 (0, 0))).alloc (.cells #[.string ek, .int .i64 ec, .int .i64 en, .string evv, .bool ed] 32 (0, 0))).ownsRow B2 32 5 (.slice oM l.length cM) l.length (flat (T ++ R))) := (HO9.alloc _).alloc _
        have gx0 : ((w9.alloc (.cells #[.int .u64 (mix0 ek ec en), .int .u64 (mix1 ek ec en)] 26 (0, 0))).alloc (.cells #[.string ek, .int .i64 ec, .int .i64 en, .string evv, .bool ed] 32 (0, 0))).heap[w9.heap.size + 1]? = some (.cells #[.string ek, .int .i64 ec, .int .i64 en, .string evv, .bool ed] 32 (0, 0)) := by (repeat (first | (with_reducible assumption) | (with_reducible exact Below.refl _ _) | (with_reducible refine heap_drew ?_) | (focus ((with_reducible refine heap_new ?_) ; simp ; done)) | (with_reducible apply heap_set_to) | (focus ((with_reducible refine heap_set_ne ?_ ?_ _) ; rotate_left ; (focus (first | omega | (simp ; done) | (simp ; omega))))) | (with_reducible refine heap_old ?_) | (with_reducible refine Below.drew ?_) | (with_reducible refine below_set ?_ _ _) | (focus ((with_reducible refine Below.setCell ?_ ?_ _) ; rotate_left ; (focus (first | omega | (simp ; done) | (simp ; omega))))) | (focus ((with_reducible refine Below.alloc ?_ ?_ _) ; rotate_left ; (focus (first | omega | (simp ; done) | (simp ; omega))))) | (with_reducible rfl) | (focus (simp ; done))))
        have gx : Hid _ := gx0
        clear gx0
        have gA0 : ((w9.alloc (.cells #[.int .u64 (mix0 ek ec en), .int .u64 (mix1 ek ec en)] 26 (0, 0))).alloc (.cells #[.string ek, .int .i64 ec, .int .i64 en, .string evv, .bool ed] 32 (0, 0))).heap[w9.heap.size]? = some (.cells #[.int .u64 (mix0 ek ec en), .int .u64 (mix1 ek ec en)] 26 (0, 0)) := by (repeat (first | (with_reducible assumption) | (with_reducible exact Below.refl _ _) | (with_reducible refine heap_drew ?_) | (focus ((with_reducible refine heap_new ?_) ; simp ; done)) | (with_reducible apply heap_set_to) | (focus ((with_reducible refine heap_set_ne ?_ ?_ _) ; rotate_left ; (focus (first | omega | (simp ; done) | (simp ; omega))))) | (with_reducible refine heap_old ?_) | (with_reducible refine Below.drew ?_) | (with_reducible refine below_set ?_ _ _) | (focus ((with_reducible refine Below.setCell ?_ ?_ _) ; rotate_left ; (focus (first | omega | (simp ; done) | (simp ; omega))))) | (focus ((with_reducible refine Below.alloc ?_ ?_ _) ; rotate_left ; (focus (first | omega | (simp ; done) | (simp ; omega))))) | (with_reducible rfl) | (focus (simp ; done))))
        have gA9 : Hid _ := gA0
        have HO9' : Hid (w9.ownsRow B2 32 5 (.slice oM l.length cM) l.length (flat (T ++ R))) := HO9
        clear HO9 gA0
        go_wp2_with (first
          | (at_builtin; (refine wpList_append_any _ rfl (.tmp 85) (.tmp 87) 22 rfl B2 32 i0 _ 5 56 Tryd.underlying22 HI.out.1 HI.out.2.1 HI.out.2.2.1 HI.out.2.2.2 rfl (by decide) _ l.length (flat (T ++ R)) rfl HO10.out (some ⟨w9.heap.size + 1, 0, none⟩) 1 1 (flat [(ek, ec, en, evv, ed)]) rfl rfl (fun h => by cases h) (ents_one gx.out hek).cells' (flat_one _) ?_ ?_ ?_ ?_))
          | fail)
        · unfold maxLen; omega
        · omega
        · simp; omega
        intro vN w10 hown hgrow
        have hlt0 : w.heap.size < w9.heap.size := by omega
        have hlt1 : sb < w9.heap.size := by omega
        have gE10 := (hgrow.block w.heap.size (by simp; omega) (fun h => by have := (HO10.out.lt _ h.symm).1; omega)).trans (heap_old (o := (.cells #[.string ek, .int .i64 ec, .int .i64 en, .string evv, .bool ed] 32 (0, 0))) (heap_old (o := (.cells #[.int .u64 (mix0 ek ec en), .int .u64 (mix1 ek ec en)] 26 (0, 0))) gE9))
        have gS10 := (hgrow.block sb (by simp; omega) (fun h => by have := (HO10.out.lt _ h.symm).1; omega)).trans (heap_old (o := (.cells #[.string ek, .int .i64 ec, .int .i64 en, .string evv, .bool ed] 32 (0, 0))) (heap_old (o := (.cells #[.int .u64 (mix0 ek ec en), .int .u64 (mix1 ek ec en)] 26 (0, 0))) gS9))
        have gA10 := (hgrow.block w9.heap.size (by simp; omega) (fun h => by have := (HO9'.out.lt _ h.symm).2; omega)).trans gA9.out
        have hbw10 : Below w.heap.size w w10 := ((hbw9.alloc hbw9.size (.cells #[.int .u64 (mix0 ek ec en), .int .u64 (mix1 ek ec en)] 26 (0, 0))).alloc (by simp; omega) (.cells #[.string ek, .int .i64 ec, .int .i64 en, .string evv, .bool ed] 32 (0, 0))).grown hgrow (by simp; omega) (fun y hy => by have := (HO10.out.lt y hy).1; omega)
        have hM2 : (T ++ R ++ [(ek, ec, en, evv, ed)]).length = l.length + 1 := by rw [List.length_append, HLN.out]; rfl
        rw [← flat_append] at hown
        obtain ⟨oN, cN, rfl, nN, hEN⟩ := ents_of_own hM2.symm hown (HK.out.append (fun k hk => by
          obtain rfl : k = 0 := by simp at hk; exact hk
          exact hek))
        have CN : Hid (Calls Tryd.prog 29 #[.slice oN (l.length + 1) cN] w10 fun e w'' => e = .returned (sv (Go.Proofs.YtjeaobknojmbpaaDoor.u64 (tot0 l + mix0 ek ec en)) (Go.Proofs.YtjeaobknojmbpaaDoor.u64 (tot1 l + mix1 ek ec en))) ∧ Below w10.heap.size w10 w'') := by
          have h := all_any oN cN (T ++ R ++ [(ek, ec, en, evv, ed)]) w10 (HH.out.1.below hbw10 hL0) hEN (by omega)
          rw [tot0_append (T ++ R), tot1_append (T ++ R), HS.out.1, HS.out.2.1, hM2, show tot0 [(ek, ec, en, evv, ed)] = mix0 ek ec en by simp [tot0, m0], show tot1 [(ek, ec, en, evv, ed)] = mix1 ek ec en by simp [tot1, m1]] at h
          exact h
        clear hM2 hEN nN hown hgrow HO10 HO9' gA9 gx gE9 gS9 x0 x1 x2 x3 x4 xl xf
        obtain ⟨ab, hab⟩ : ∃ g, g = w9.heap.size := ⟨_, rfl⟩
        rw [← hab] at gA10 ⊢
        clear hab hB9 hlt0 hlt1 hbw9
        go_wp2_with fail
        refine CN.out.mono ?_
        rintro e w11 ⟨rfl, hb11⟩
        have gE11 := blk_below gE10 hb11
        have gS11 := blk_below gS10 hb11
        have gA11 := blk_below gA10 hb11
        have hbw11 := below_back hbw10 hbw10.size hb11
        clear gE10 gS10 gA10 hbw10 hb11 CN
        go_wp2_with fail
        have gM12 : (w11.alloc (.cells #[.int .u64 (Go.Proofs.YtjeaobknojmbpaaDoor.u64 (tot0 l + mix0 ek ec en)), .int .u64 (Go.Proofs.YtjeaobknojmbpaaDoor.u64 (tot1 l + mix1 ek ec en))] 26 (0, 0))).heap[w11.heap.size]? = some (.cells #[.int .u64 (Go.Proofs.YtjeaobknojmbpaaDoor.u64 (tot0 l + mix0 ek ec en)), .int .u64 (Go.Proofs.YtjeaobknojmbpaaDoor.u64 (tot1 l + mix1 ek ec en))] 26 (0, 0)) := by (repeat (first | (with_reducible assumption) | (with_reducible exact Below.refl _ _) | (with_reducible refine heap_drew ?_) | (focus ((with_reducible refine heap_new ?_) ; simp ; done)) | (with_reducible apply heap_set_to) | (focus ((with_reducible refine heap_set_ne ?_ ?_ _) ; rotate_left ; (focus (first | omega | (simp ; done) | (simp ; omega))))) | (with_reducible refine heap_old ?_) | (with_reducible refine Below.drew ?_) | (with_reducible refine below_set ?_ _ _) | (focus ((with_reducible refine Below.setCell ?_ ?_ _) ; rotate_left ; (focus (first | omega | (simp ; done) | (simp ; omega))))) | (focus ((with_reducible refine Below.alloc ?_ ?_ _) ; rotate_left ; (focus (first | omega | (simp ; done) | (simp ; omega))))) | (with_reducible rfl) | (focus (simp ; done))))
        have gE12 := heap_old (o := (.cells #[.int .u64 (Go.Proofs.YtjeaobknojmbpaaDoor.u64 (tot0 l + mix0 ek ec en)), .int .u64 (Go.Proofs.YtjeaobknojmbpaaDoor.u64 (tot1 l + mix1 ek ec en))] 26 (0, 0))) gE11
        have gS12 := heap_old (o := (.cells #[.int .u64 (Go.Proofs.YtjeaobknojmbpaaDoor.u64 (tot0 l + mix0 ek ec en)), .int .u64 (Go.Proofs.YtjeaobknojmbpaaDoor.u64 (tot1 l + mix1 ek ec en))] 26 (0, 0))) gS11
        have gA12 := heap_old (o := (.cells #[.int .u64 (Go.Proofs.YtjeaobknojmbpaaDoor.u64 (tot0 l + mix0 ek ec en)), .int .u64 (Go.Proofs.YtjeaobknojmbpaaDoor.u64 (tot1 l + mix1 ek ec en))] 26 (0, 0))) gA11
        have hbw12 := hbw11.alloc hbw11.size (.cells #[.int .u64 (Go.Proofs.YtjeaobknojmbpaaDoor.u64 (tot0 l + mix0 ek ec en)), .int .u64 (Go.Proofs.YtjeaobknojmbpaaDoor.u64 (tot1 l + mix1 ek ec en))] 26 (0, 0))
        generalize hws : w11.alloc (.cells #[.int .u64 (Go.Proofs.YtjeaobknojmbpaaDoor.u64 (tot0 l + mix0 ek ec en)), .int .u64 (Go.Proofs.YtjeaobknojmbpaaDoor.u64 (tot1 l + mix1 ek ec en))] 26 (0, 0)) = wm at *
        obtain ⟨mb, hmb⟩ : ∃ g, g = w11.heap.size := ⟨_, rfl⟩
        rw [← hmb] at gM12 ⊢
        clear hws hmb gE11 gS11 gA11 hbw11
        have hLm : Hid (Lanes wm) := HH.out.1.below hbw12 hL0
        have hm0 : 0 < wm.heap.size := hLm.out.lt
        have CO : Hid (∀ w', Below wm.heap.size wm w' → Calls Tryd.prog 14 #[.string ek, .agg #[.int .i64 ec, .int .i64 en]] w' fun e w'' => e = .returned (sv (mix0 ek ec en) (mix1 ek ec en)) ∧ Below w'.heap.size w' w'') := fun w' hc => of_any ek ec en w' (hLm.out.below hc hm0) (by omega)
        have CD : Hid (∀ w', Calls Tryd.prog 25 #[sv (Go.Proofs.YtjeaobknojmbpaaDoor.u64 (tot0 l)) (Go.Proofs.YtjeaobknojmbpaaDoor.u64 (tot1 l)), sv (mix0 ek ec en) (mix1 ek ec en)] w' fun e w'' => e = .returned (sv (Go.Proofs.YtjeaobknojmbpaaDoor.u64 (tot0 l + mix0 ek ec en)) (Go.Proofs.YtjeaobknojmbpaaDoor.u64 (tot1 l + mix1 ek ec en))) ∧ Below w'.heap.size w' w'') := fun w' => by
          have h := add_any (Go.Proofs.YtjeaobknojmbpaaDoor.u64 (tot0 l)) (Go.Proofs.YtjeaobknojmbpaaDoor.u64 (tot1 l)) (mix0 ek ec en) (mix1 ek ec en) w'
          rw [u64_add, u64_add] at h
          exact h
        have CL : Hid (∀ w', Calls Tryd.prog 27 #[sv (Go.Proofs.YtjeaobknojmbpaaDoor.u64 (tot0 l + mix0 ek ec en)) (Go.Proofs.YtjeaobknojmbpaaDoor.u64 (tot1 l + mix1 ek ec en)), sv (mix0 ek ec en) (mix1 ek ec en)] w' fun e w'' => e = .returned (sv (Go.Proofs.YtjeaobknojmbpaaDoor.u64 (tot0 l)) (Go.Proofs.YtjeaobknojmbpaaDoor.u64 (tot1 l))) ∧ Below w'.heap.size w' w'') := fun w' => by
          have h := sub_any (Go.Proofs.YtjeaobknojmbpaaDoor.u64 (tot0 l + mix0 ek ec en)) (Go.Proofs.YtjeaobknojmbpaaDoor.u64 (tot1 l + mix1 ek ec en)) (mix0 ek ec en) (mix1 ek ec en) w'
          rw [u64_take, u64_take] at h
          exact h
        have CE : Hid (∀ w', Calls Tryd.prog 27 #[sv (Go.Proofs.YtjeaobknojmbpaaDoor.u64 (tot0 l + mix0 ek ec en)) (Go.Proofs.YtjeaobknojmbpaaDoor.u64 (tot1 l + mix1 ek ec en)), sv (Go.Proofs.YtjeaobknojmbpaaDoor.u64 (tot0 l)) (Go.Proofs.YtjeaobknojmbpaaDoor.u64 (tot1 l))] w' fun e w'' => e = .returned (sv (mix0 ek ec en) (mix1 ek ec en)) ∧ Below w'.heap.size w' w'') := fun w' => by
          have h := sub_any (Go.Proofs.YtjeaobknojmbpaaDoor.u64 (tot0 l + mix0 ek ec en)) (Go.Proofs.YtjeaobknojmbpaaDoor.u64 (tot1 l + mix1 ek ec en)) (Go.Proofs.YtjeaobknojmbpaaDoor.u64 (tot0 l)) (Go.Proofs.YtjeaobknojmbpaaDoor.u64 (tot1 l)) w'
          rw [u64_take', u64_take', mix0_u, mix1_u] at h
          exact h
        have hSt : Stable (fun wz : World => (Below wm.heap.size wm wz)) := by repeat (first | exact stable_ext _ | exact stable_blk _ _ | exact stable_true | (refine stable_bel ?_ ; (focus (first | (simp [World.size_setCell] ; done) | (simp [World.setCell] ; done)))) | refine Stable.and ?_ ?_)
        refine wp_region_x [0, 1, 2, 3, 4, 5, 6, 7, 8, 9, 10, 11, 12, 13, 14, 15, 16, 17, 18, 19, 20, 21, 22, 23, 24, 25, 26, 27, 28] [1, 0, 1, 0, 1, 1, 0, 0, 1, 1, 1, 1, 0, 0, 0, 1, 1, 1, 1, 0, 0, 0, 1, 1, 1, 1, 0, 0, 0] (fun wz => (Below wm.heap.size wm wz)) (by kernel_rfl) (by kernel_rfl) ?_ ?_
        · (first | trivial | (repeat (first | (with_reducible assumption) | (with_reducible exact Below.refl _ _) | (with_reducible refine heap_drew ?_) | (focus ((with_reducible refine heap_new ?_) ; simp ; done)) | (with_reducible apply heap_set_to) | (focus ((with_reducible refine heap_set_ne ?_ ?_ _) ; rotate_left ; (focus (first | omega | (simp ; done) | (simp ; omega))))) | (with_reducible refine heap_old ?_) | (with_reducible refine Below.drew ?_) | (with_reducible refine below_set ?_ _ _) | (focus ((with_reducible refine Below.setCell ?_ ?_ _) ; rotate_left ; (focus (first | omega | (simp ; done) | (simp ; omega))))) | (focus ((with_reducible refine Below.alloc ?_ ?_ _) ; rotate_left ; (focus (first | omega | (simp ; done) | (simp ; omega))))) | (with_reducible rfl) | (focus (simp ; done)))))
        simp only [List.map_cons, List.map_nil, List.getD_cons_zero, List.getD_cons_succ]
        (refine x_quiet rfl hSt (fun _ h => h) _ ?_ rfl (by simp) ?_ ?_ ; rotate_left ; · (intro wz hC K hK ; have hc := hC ; have pE := blk5 (blk_below gE12 hc) ; have pS := blk2 (blk_below gS12 hc) ; have pA := blk2 (blk_below gA12 hc) ; have pM := blk2 (blk_below gM12 hc) ; go_wp2_with fail ; refine ⟨?_, Below.refl _ _⟩ ; exact rfl))
        simp only [Act.put, List.setIfInBounds_toArray, List.set_cons_succ, List.set_cons_zero]
        (refine x_pure rfl _ ?_ rfl (by simp) ?_ ?_ ; rotate_left ; · (intro wz K hK ; go_wp2_with fail ; exact rfl))
        simp only [Act.put, List.setIfInBounds_toArray, List.set_cons_succ, List.set_cons_zero]
        (refine x_quiet rfl hSt (fun _ h => h) _ ?_ rfl (by simp) ?_ ?_ ; rotate_left ; · (intro wz hC K hK ; have hc := hC ; have pE := blk5 (blk_below gE12 hc) ; have pS := blk2 (blk_below gS12 hc) ; have pA := blk2 (blk_below gA12 hc) ; have pM := blk2 (blk_below gM12 hc) ; go_wp2_with fail ; refine ⟨?_, Below.refl _ _⟩ ; exact rfl))
        simp only [Act.put, List.setIfInBounds_toArray, List.set_cons_succ, List.set_cons_zero]
        (refine x_pure rfl _ ?_ rfl (by simp) ?_ ?_ ; rotate_left ; · (intro wz K hK ; go_wp2_with fail ; exact rfl))
        simp only [Act.put, List.setIfInBounds_toArray, List.set_cons_succ, List.set_cons_zero]
        (refine x_quiet rfl hSt (fun _ h => h) _ ?_ rfl (by simp) ?_ ?_ ; rotate_left ; · (intro wz hC K hK ; have hc := hC ; have pE := blk5 (blk_below gE12 hc) ; have pS := blk2 (blk_below gS12 hc) ; have pA := blk2 (blk_below gA12 hc) ; have pM := blk2 (blk_below gM12 hc) ; go_wp2_with fail ; refine ⟨?_, Below.refl _ _⟩ ; exact rfl))
        simp only [Act.put, List.setIfInBounds_toArray, List.set_cons_succ, List.set_cons_zero]
        (refine x_quiet rfl hSt (fun _ h => h) _ ?_ rfl (by simp) ?_ ?_ ; rotate_left ; · (intro wz hC K hK ; have hc := hC ; have pE := blk5 (blk_below gE12 hc) ; have pS := blk2 (blk_below gS12 hc) ; have pA := blk2 (blk_below gA12 hc) ; have pM := blk2 (blk_below gM12 hc) ; go_wp2_with fail ; refine (CO.out _ hc).mono ?_ ; rintro e w2 ⟨rfl, hb2⟩ ; refine hK _ _ ⟨?_, rfl, hb2⟩ ; exact rfl))
        simp only [Act.put, List.setIfInBounds_toArray, List.set_cons_succ, List.set_cons_zero]
        (refine x_pure rfl _ ?_ rfl (by simp) ?_ ?_ ; rotate_left ; · (intro wz K hK ; go_wp2_with fail ; exact rfl))
        simp only [Act.put, List.setIfInBounds_toArray, List.set_cons_succ, List.set_cons_zero]
        (refine x_pure rfl _ ?_ rfl (by simp) ?_ ?_ ; rotate_left ; · (intro wz K hK ; go_wp2_with fail ; exact rfl))
        simp only [Act.put, List.setIfInBounds_toArray, List.set_cons_succ, List.set_cons_zero]
        first | (refine x_skip rfl ?_) | (refine x_quiet rfl hSt (fun _ h => h) _ ?_ rfl (by simp) ?_ ?_ ; rotate_left ; · (intro wz hC K hK ; have hc := hC ; have pE := blk5 (blk_below gE12 hc) ; have pS := blk2 (blk_below gS12 hc) ; have pA := blk2 (blk_below gA12 hc) ; have pM := blk2 (blk_below gM12 hc) ; go_wp2_with fail ; refine ⟨?_, Below.refl _ _⟩ ; exact rfl))
        simp only [Act.put, List.setIfInBounds_toArray, List.set_cons_succ, List.set_cons_zero]
        first | (refine x_skip rfl ?_) | (refine x_quiet rfl hSt (fun _ h => h) _ ?_ rfl (by simp) ?_ ?_ ; rotate_left ; · (intro wz hC K hK ; have hc := hC ; have pE := blk5 (blk_below gE12 hc) ; have pS := blk2 (blk_below gS12 hc) ; have pA := blk2 (blk_below gA12 hc) ; have pM := blk2 (blk_below gM12 hc) ; go_wp2_with fail ; refine ⟨?_, Below.refl _ _⟩ ; exact rfl))
        simp only [Act.put, List.setIfInBounds_toArray, List.set_cons_succ, List.set_cons_zero]
        first | (refine x_skip rfl ?_) | (refine x_quiet rfl hSt (fun _ h => h) _ ?_ rfl (by simp) ?_ ?_ ; rotate_left ; · (intro wz hC K hK ; have hc := hC ; have pE := blk5 (blk_below gE12 hc) ; have pS := blk2 (blk_below gS12 hc) ; have pA := blk2 (blk_below gA12 hc) ; have pM := blk2 (blk_below gM12 hc) ; go_wp2_with fail ; refine ⟨?_, Below.refl _ _⟩ ; exact rfl))
        simp only [Act.put, List.setIfInBounds_toArray, List.set_cons_succ, List.set_cons_zero]
        first | (refine x_skip rfl ?_) | (refine x_quiet rfl hSt (fun _ h => h) _ ?_ rfl (by simp) ?_ ?_ ; rotate_left ; · (intro wz hC K hK ; have hc := hC ; have pE := blk5 (blk_below gE12 hc) ; have pS := blk2 (blk_below gS12 hc) ; have pA := blk2 (blk_below gA12 hc) ; have pM := blk2 (blk_below gM12 hc) ; go_wp2_with fail ; refine (CD.out _).mono ?_ ; rintro e w2 ⟨rfl, hb2⟩ ; refine hK _ _ ⟨?_, rfl, hb2⟩ ; exact rfl))
        simp only [Act.put, List.setIfInBounds_toArray, List.set_cons_succ, List.set_cons_zero]
        first | (refine x_skip rfl ?_) | (refine x_pure rfl _ ?_ rfl (by simp) ?_ ?_ ; rotate_left ; · (intro wz K hK ; go_wp2_with fail ; exact rfl))
        simp only [Act.put, List.setIfInBounds_toArray, List.set_cons_succ, List.set_cons_zero]
        (refine x_pure rfl _ ?_ rfl (by simp) ?_ ?_ ; rotate_left ; · (intro wz K hK ; go_wp2_with fail ; exact rfl))
        simp only [Act.put, List.setIfInBounds_toArray, List.set_cons_succ, List.set_cons_zero]
        (refine x_pure rfl _ ?_ rfl (by simp) ?_ ?_ ; rotate_left ; · (intro wz K hK ; go_wp2_with fail ; exact rfl))
        simp only [Act.put, List.setIfInBounds_toArray, List.set_cons_succ, List.set_cons_zero]
        first | (refine x_skip rfl ?_) | (refine x_quiet rfl hSt (fun _ h => h) _ ?_ rfl (by simp) ?_ ?_ ; rotate_left ; · (intro wz hC K hK ; have hc := hC ; have pE := blk5 (blk_below gE12 hc) ; have pS := blk2 (blk_below gS12 hc) ; have pA := blk2 (blk_below gA12 hc) ; have pM := blk2 (blk_below gM12 hc) ; go_wp2_with fail ; refine ⟨?_, Below.refl _ _⟩ ; exact rfl))
        simp only [Act.put, List.setIfInBounds_toArray, List.set_cons_succ, List.set_cons_zero]
        first | (refine x_skip rfl ?_) | (refine x_quiet rfl hSt (fun _ h => h) _ ?_ rfl (by simp) ?_ ?_ ; rotate_left ; · (intro wz hC K hK ; have hc := hC ; have pE := blk5 (blk_below gE12 hc) ; have pS := blk2 (blk_below gS12 hc) ; have pA := blk2 (blk_below gA12 hc) ; have pM := blk2 (blk_below gM12 hc) ; go_wp2_with fail ; refine ⟨?_, Below.refl _ _⟩ ; exact rfl))
        simp only [Act.put, List.setIfInBounds_toArray, List.set_cons_succ, List.set_cons_zero]
        first | (refine x_skip rfl ?_) | (refine x_quiet rfl hSt (fun _ h => h) _ ?_ rfl (by simp) ?_ ?_ ; rotate_left ; · (intro wz hC K hK ; have hc := hC ; have pE := blk5 (blk_below gE12 hc) ; have pS := blk2 (blk_below gS12 hc) ; have pA := blk2 (blk_below gA12 hc) ; have pM := blk2 (blk_below gM12 hc) ; go_wp2_with fail ; refine (CL.out _).mono ?_ ; rintro e w2 ⟨rfl, hb2⟩ ; refine hK _ _ ⟨?_, rfl, hb2⟩ ; exact rfl))
        simp only [Act.put, List.setIfInBounds_toArray, List.set_cons_succ, List.set_cons_zero]
        first | (refine x_skip rfl ?_) | (refine x_quiet rfl hSt (fun _ h => h) _ ?_ rfl (by simp) ?_ ?_ ; rotate_left ; · (intro wz hC K hK ; have hc := hC ; have pE := blk5 (blk_below gE12 hc) ; have pS := blk2 (blk_below gS12 hc) ; have pA := blk2 (blk_below gA12 hc) ; have pM := blk2 (blk_below gM12 hc) ; go_wp2_with fail ; refine ⟨?_, Below.refl _ _⟩ ; exact rfl))
        simp only [Act.put, List.setIfInBounds_toArray, List.set_cons_succ, List.set_cons_zero]
        first | (refine x_skip rfl ?_) | (refine x_pure rfl _ ?_ rfl (by simp) ?_ ?_ ; rotate_left ; · (intro wz K hK ; go_wp2_with fail ; exact rfl))
        simp only [Act.put, List.setIfInBounds_toArray, List.set_cons_succ, List.set_cons_zero]
        (refine x_pure rfl _ ?_ rfl (by simp) ?_ ?_ ; rotate_left ; · (intro wz K hK ; go_wp2_with fail ; exact rfl))
        simp only [Act.put, List.setIfInBounds_toArray, List.set_cons_succ, List.set_cons_zero]
        (refine x_pure rfl _ ?_ rfl (by simp) ?_ ?_ ; rotate_left ; · (intro wz K hK ; go_wp2_with fail ; exact rfl))
        simp only [Act.put, List.setIfInBounds_toArray, List.set_cons_succ, List.set_cons_zero]
        first | (refine x_skip rfl ?_) | (refine x_quiet rfl hSt (fun _ h => h) _ ?_ rfl (by simp) ?_ ?_ ; rotate_left ; · (intro wz hC K hK ; have hc := hC ; have pE := blk5 (blk_below gE12 hc) ; have pS := blk2 (blk_below gS12 hc) ; have pA := blk2 (blk_below gA12 hc) ; have pM := blk2 (blk_below gM12 hc) ; go_wp2_with fail ; refine ⟨?_, Below.refl _ _⟩ ; exact rfl))
        simp only [Act.put, List.setIfInBounds_toArray, List.set_cons_succ, List.set_cons_zero]
        first | (refine x_skip rfl ?_) | (refine x_quiet rfl hSt (fun _ h => h) _ ?_ rfl (by simp) ?_ ?_ ; rotate_left ; · (intro wz hC K hK ; have hc := hC ; have pE := blk5 (blk_below gE12 hc) ; have pS := blk2 (blk_below gS12 hc) ; have pA := blk2 (blk_below gA12 hc) ; have pM := blk2 (blk_below gM12 hc) ; go_wp2_with fail ; refine ⟨?_, Below.refl _ _⟩ ; exact rfl))
        simp only [Act.put, List.setIfInBounds_toArray, List.set_cons_succ, List.set_cons_zero]
        first | (refine x_skip rfl ?_) | (refine x_quiet rfl hSt (fun _ h => h) _ ?_ rfl (by simp) ?_ ?_ ; rotate_left ; · (intro wz hC K hK ; have hc := hC ; have pE := blk5 (blk_below gE12 hc) ; have pS := blk2 (blk_below gS12 hc) ; have pA := blk2 (blk_below gA12 hc) ; have pM := blk2 (blk_below gM12 hc) ; go_wp2_with fail ; refine (CE.out _).mono ?_ ; rintro e w2 ⟨rfl, hb2⟩ ; refine hK _ _ ⟨?_, rfl, hb2⟩ ; exact rfl))
        simp only [Act.put, List.setIfInBounds_toArray, List.set_cons_succ, List.set_cons_zero]
        first | (refine x_skip rfl ?_) | (refine x_quiet rfl hSt (fun _ h => h) _ ?_ rfl (by simp) ?_ ?_ ; rotate_left ; · (intro wz hC K hK ; have hc := hC ; have pE := blk5 (blk_below gE12 hc) ; have pS := blk2 (blk_below gS12 hc) ; have pA := blk2 (blk_below gA12 hc) ; have pM := blk2 (blk_below gM12 hc) ; go_wp2_with fail ; refine ⟨?_, Below.refl _ _⟩ ; exact rfl))
        simp only [Act.put, List.setIfInBounds_toArray, List.set_cons_succ, List.set_cons_zero]
        first | (refine x_skip rfl ?_) | (refine x_pure rfl _ ?_ rfl (by simp) ?_ ?_ ; rotate_left ; · (intro wz K hK ; go_wp2_with fail ; exact rfl))
        simp only [Act.put, List.setIfInBounds_toArray, List.set_cons_succ, List.set_cons_zero]
        (refine x_pure rfl _ ?_ rfl (by simp) ?_ ?_ ; rotate_left ; · (intro wz K hK ; go_wp2_with fail ; exact rfl))
        simp only [Act.put, List.setIfInBounds_toArray, List.set_cons_succ, List.set_cons_zero]
        (refine x_pure rfl _ ?_ rfl (by simp) ?_ ?_ ; rotate_left ; · (intro wz K hK ; go_wp2_with fail ; exact rfl))
        simp only [Act.put, List.setIfInBounds_toArray, List.set_cons_succ, List.set_cons_zero]
        refine x_nil ?_
        rintro wz hc
        go_wp2_with fail
        go_ret
        exact ⟨rfl, below_back hbw12 hbw12.size hc⟩
end Go.Proofs.YtjeaobknojmbpaaDoor
