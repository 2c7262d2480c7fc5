/-
  The reference's Of: the words of a key and a version, the lanes over them.
-/
import Derived.Test.YtjeaobknojmbpaaDoorWords
import Derived.OwnWalk
namespace Go.Proofs.YtjeaobknojmbpaaDoor
open Go.ChangeShapes Go.WideShapes Go.ChangeAt Go.RowKit Go.Deep
set_option linter.unusedVariables false
set_option linter.unusedSimpArgs false

theorem info_u64 : (Tryd.prog.info? 24).map (fun i => (i.zero, i.size, i.bytes)) = some (some (.int .u64 0), 1, 8) := by kernel_rfl

/-- A slice's cells, as numbers. -/
def U64s (w : World) (oa : Option Addr) (l : List Int) : Prop := ∀ k (h : k < l.length), ∃ b o, oa = some ⟨b, o, none⟩ ∧ w.cell? ⟨b, o + k, none⟩ = some (.int .u64 l[k])

set_option maxHeartbeats 2000000 in
theorem lane0_any (x : Int) (oa : Option Addr) (cap : Nat) (l : List Int) (w : World) (h : U64s w oa l) (hl : l.length ≤ 9223372036854775807) :
    Calls Tryd.prog 35 #[.int .u64 x, .int .u64 11400714819323198485, .int .i64 29, .slice oa l.length cap] w fun e w' => e = .returned (.int .u64 (l.foldl stp0 x)) ∧ Below w.heap.size w w' := by
  have HU : Hid (U64s w oa l) := h
  clear h
  go_enter Tryd.func35, Tryd.ntmps35
  go_wp2_with fail
  go_loop [0, 13] (fun v i => ∃ (k : Nat) (y : Int), k ≤ l.length ∧ i = .int .i64 k ∧ v = .int .u64 y ∧ Hid ((l.drop k).foldl stp0 y = l.foldl stp0 x)) (fun _ i => l.length - (intOf i).toNat)
  case atStart => exact ⟨0, x, by omega, rfl, rfl, rfl⟩
  case round =>
    obtain ⟨k, y, hk, rfl, rfl, HF⟩ := hrel
    by_cases hlt : k < l.length
    · obtain ⟨b, o, rfl, hc⟩ := HU.out k hlt
      obtain ⟨e, he⟩ : ∃ e, e = l[k] := ⟨_, rfl⟩
      rw [← he] at hc
      have HE : Hid (e = l[k]) := he
      clear he
      go_wp2_with fail
      go_round
      case rel => exact ⟨k + 1, _, by omega, by go_num, rfl, by have := HF.out; rw [List.drop_eq_getElem_cons hlt, List.foldl_cons] at this; unfold Hid; rw [HE.out]; exact this⟩
      case measure => simp [intOf]; omega
    · obtain rfl : k = l.length := by omega
      have := HF.out
      rw [List.drop_length, List.foldl_nil] at this
      have HF2 : Hid (y = l.foldl stp0 x) := this
      clear this HF
      go_wp2_with fail
      go_ret
      exact ⟨by rw [HF2.out]; rfl, Below.refl _ _⟩

set_option maxHeartbeats 2000000 in
theorem lane1_any (x : Int) (oa : Option Addr) (cap : Nat) (l : List Int) (w : World) (h : U64s w oa l) (hl : l.length ≤ 9223372036854775807) :
    Calls Tryd.prog 35 #[.int .u64 x, .int .u64 14029467366897019727, .int .i64 32, .slice oa l.length cap] w fun e w' => e = .returned (.int .u64 (l.foldl stp1 x)) ∧ Below w.heap.size w w' := by
  have HU : Hid (U64s w oa l) := h
  clear h
  go_enter Tryd.func35, Tryd.ntmps35
  go_wp2_with fail
  go_loop [0, 13] (fun v i => ∃ (k : Nat) (y : Int), k ≤ l.length ∧ i = .int .i64 k ∧ v = .int .u64 y ∧ Hid ((l.drop k).foldl stp1 y = l.foldl stp1 x)) (fun _ i => l.length - (intOf i).toNat)
  case atStart => exact ⟨0, x, by omega, rfl, rfl, rfl⟩
  case round =>
    obtain ⟨k, y, hk, rfl, rfl, HF⟩ := hrel
    by_cases hlt : k < l.length
    · obtain ⟨b, o, rfl, hc⟩ := HU.out k hlt
      obtain ⟨e, he⟩ : ∃ e, e = l[k] := ⟨_, rfl⟩
      rw [← he] at hc
      have HE : Hid (e = l[k]) := he
      clear he
      go_wp2_with fail
      go_round
      case rel => exact ⟨k + 1, _, by omega, by go_num, rfl, by have := HF.out; rw [List.drop_eq_getElem_cons hlt, List.foldl_cons] at this; unfold Hid; rw [HE.out]; exact this⟩
      case measure => simp [intOf]; omega
    · obtain rfl : k = l.length := by omega
      have := HF.out
      rw [List.drop_length, List.foldl_nil] at this
      have HF2 : Hid (y = l.foldl stp1 x) := this
      clear this HF
      go_wp2_with fail
      go_ret
      exact ⟨by rw [HF2.out]; rfl, Below.refl _ _⟩

/-! ### The words -/
theorem le_snoc : ∀ (p : List UInt8) (b : UInt8), le (p ++ [b]) = le p + b.toNat * 256 ^ p.length
  | [], b => by simp [le]
  | c :: r, b => by
    rw [List.cons_append, le, le, le_snoc r b, List.length_cons, Nat.pow_succ]
    have : 256 * (b.toNat * 256 ^ r.length) = b.toNat * (256 ^ r.length * 256) := by rw [Nat.mul_comm 256, Nat.mul_assoc]
    omega

/-- One byte more behind: a new word, or the last one grows. -/
theorem chunks_snoc (b : UInt8) : ∀ (m : Nat) (p : List UInt8), p.length ≤ m → ∃ (q : List Int) (x : Nat), x < 256 ^ (p.length % 8) ∧ chunks (p ++ [b]) = q ++ [((x + b.toNat * 256 ^ (p.length % 8) : Nat) : Int)] ∧
    (if p.length % 8 = 0 then chunks p = q ∧ x = 0 else chunks p = q ++ [(x : Int)])
  | m, p, hm => by
    by_cases h8 : p.length < 8
    · have hmod : p.length % 8 = p.length := Nat.mod_eq_of_lt h8
      have h1 : chunks (p ++ [b]) = [(le (p ++ [b]) : Int)] := by
        rw [chunks_step (by simp), List.take_of_length_le (by simp; omega), List.drop_of_length_le (by simp; omega), chunks_nil]
      refine ⟨[], le p, by rw [hmod]; exact le_lt p, by rw [h1, le_snoc, hmod]; rfl, ?_⟩
      rw [hmod]
      split
      · rename_i h0
        have : p = [] := List.eq_nil_of_length_eq_zero h0
        subst this
        exact ⟨rfl, rfl⟩
      · rename_i h0
        rw [chunks_step (by intro h; rw [h] at h0; exact h0 rfl), List.take_of_length_le (by omega), List.drop_of_length_le (by omega), chunks_nil]
        rfl
    · match m with
      | 0 => omega
      | m + 1 =>
        have hd : (p.drop 8).length = p.length - 8 := List.length_drop
        obtain ⟨q, x, hx, h1, h2⟩ := chunks_snoc b m (p.drop 8) (by omega)
        have hmod : (p.drop 8).length % 8 = p.length % 8 := by omega
        rw [hmod] at hx h1 h2
        have hp : p ≠ [] := fun h => by rw [h] at h8; simp at h8
        have e1 : chunks (p ++ [b]) = (le (p.take 8) : Int) :: chunks (p.drop 8 ++ [b]) := by
          rw [chunks_step (by simp), List.take_append_of_le_length (by omega), List.drop_append_of_le_length (by omega)]
        refine ⟨(le (p.take 8) : Int) :: q, x, hx, by rw [e1, h1]; rfl, ?_⟩
        rw [chunks_step hp]
        split
        · rename_i h0
          rw [if_pos h0] at h2
          exact ⟨by rw [h2.1], h2.2⟩
        · rename_i h0
          rw [if_neg h0] at h2
          rw [h2]; rfl

theorem chunksF_length : ∀ (n : Nat) (l : List UInt8), l.length ≤ n → (chunksF n l).length = (l.length + 7) / 8
  | 0, l, h => by
    have : l = [] := List.eq_nil_of_length_eq_zero (by omega)
    subst this; rfl
  | n + 1, l, h => by
    by_cases he : l = []
    · subst he; rfl
    · have hl : 0 < l.length := List.length_pos_iff.2 he
      have hd : (l.drop 8).length = l.length - 8 := List.length_drop
      rw [chunksF, if_neg he, List.length_cons, chunksF_length n _ (by omega)]
      omega
theorem chunks_length (l : List UInt8) : (chunks l).length = (l.length + 7) / 8 := chunksF_length _ _ (Nat.le_refl _)

theorem word_val (b : UInt8) (j : Nat) (hj : j < 8) {x : Nat} (hx : x < 256 ^ j) :
    IntKind.u64.wrap ((x : Int) + IntKind.u64.wrap (IntKind.u64.wrap (b.toNat : Int) * 2 ^ (8 * j))) = ((x + b.toNat * 256 ^ j : Nat) : Int) := by
  have hb : b.toNat < 256 := b.toNat_lt
  have hp : (256 : Nat) ^ j ≤ 72057594037927936 := by
    have : (256 : Nat) ^ j ≤ 256 ^ 7 := Nat.pow_le_pow_right (by omega) (by omega)
    have e : (256 : Nat) ^ 7 = 72057594037927936 := by decide
    omega
  have hq : (2 : Int) ^ (8 * j) = ((256 ^ j : Nat) : Int) := by
    rw [Int.pow_mul]; norm_cast
  rw [hq]
  generalize hP : (256 : Nat) ^ j = p at *
  generalize b.toNat = c at *
  have hcp : c * p ≤ 255 * 72057594037927936 := Nat.mul_le_mul (by omega) hp
  rw [u64_wrap_id (c : Int) (by omega) (by omega), ← Int.natCast_mul]
  generalize c * p = m at *
  rw [u64_wrap_id (m : Int) (by omega) (by omega), u64_wrap_id _ (by omega) (by omega)]
  omega

theorem own_of_blk {w : World} {g : Nat} {cur : Array Value} {e : TypeId} {n cap base : Nat} {xs : List Value} (hb : base ≤ g) (h : w.heap[g]? = some (.cells cur e (0, 0))) (hn : n ≤ cap) (hm : cap ≤ maxLen) (hs : cur.size = cap) (ht : cur.toList.take n = xs) :
    w.ownsRow base e 1 (.slice (some ⟨g, 0, none⟩) n cap) n xs :=
  ⟨by rw [← ht, List.length_take, Array.length_toList]; omega, .inr ⟨g, cap, cur, rfl, hb, h, hn, hm, by rw [hs, Nat.mul_one], by rw [Nat.mul_one]; exact ht⟩⟩

set_option maxHeartbeats 4000000 in
theorem words_any (s : ByteArray) (c n : Int) (w : World) (hs : s.size ≤ 140737488351232) :
    Calls Tryd.prog 34 #[.string s, .agg #[.int .i64 c, .int .i64 n]] w fun e w' => ∃ oa cap, e = .returned (.slice oa (wordsOf s c n).length cap) ∧ U64s w' oa (wordsOf s c n) ∧ Below w.heap.size w w' := by
  go_enter Tryd.func34, Tryd.ntmps34
  go_wp2_with fail
  obtain ⟨i0, hi, hz0, hz1, hz2⟩ := info_parts info_u64
  obtain ⟨lst, hlst⟩ : ∃ lst, lst = s.data.toList := ⟨_, rfl⟩
  have hlen : lst.length = s.size := by rw [hlst]; rfl
  have HX : Hid (s.data.toList = lst) := hlst.symm
  clear hlst
  have HI : Hid (_ ∧ _ ∧ _ ∧ _) := ⟨hi, hz0, hz1, hz2⟩
  clear hi hz0 hz1 hz2
  go_loopw [5, 6] (fun v i wr => ∃ (k g cap L : Nat) (cur : Array Value) (P : List Int), k ≤ s.size ∧ i = .int .i64 k ∧ v = .slice (some ⟨g, 0, none⟩) L cap ∧ w.heap.size + 1 ≤ g ∧ 1 ≤ L ∧ L ≤ 17592186044400 ∧
      Hid (P = (s.size : Int) :: chunks (lst.take k) ∧ L = P.length ∧ L ≤ cap ∧ cap ≤ maxLen ∧ cur.size = cap ∧ cur.toList.take L = P.map (.int .u64)) ∧
      wr.heap[g]? = some (.cells cur 24 (0, 0)) ∧ wr.heap[w.heap.size]? = some (.cells #[.int .i64 c, .int .i64 n] 30 (0, 0)) ∧ Below w.heap.size w wr)
    (fun _ i _ => s.size - (intOf i).toNat)
  case atStart =>
    refine ⟨0, w.heap.size + 1, 1, 1, #[.int .u64 s.size], [(s.size : Int)], Nat.zero_le _, rfl, rfl, Nat.le_refl _, Nat.le_refl _, by omega, ⟨rfl, rfl, Nat.le_refl _, by unfold maxLen; omega, rfl, rfl⟩, ?_, ?_, ?_⟩
    all_goals (repeat (first | (with_reducible assumption) | (with_reducible exact Below.refl _ _) | (with_reducible refine heap_drew ?_) | (focus ((with_reducible refine heap_new ?_) ; simp ; done)) | (with_reducible apply heap_set_to) | (focus ((with_reducible refine heap_set_ne ?_ ?_ _) ; rotate_left ; (focus (first | omega | (simp ; done) | (simp ; omega))))) | (with_reducible refine heap_old ?_) | (with_reducible refine Below.drew ?_) | (with_reducible refine below_set ?_ _ _) | (focus ((with_reducible refine Below.setCell ?_ ?_ _) ; rotate_left ; (focus (first | omega | (simp ; done) | (simp ; omega))))) | (focus ((with_reducible refine Below.alloc ?_ ?_ _) ; rotate_left ; (focus (first | omega | (simp ; done) | (simp ; omega))))) | (with_reducible rfl) | (focus (simp ; done))))
  case round =>
    obtain ⟨k, g, cap, L, cur, P, hk, rfl, rfl, hg, hL1, hL2, HP, g0, g1, hb⟩ := hrel
    have hz := hb.size
    by_cases hlt : k < s.size
    · have htl : (lst.take k).length = k := by rw [List.length_take, hlen]; omega
      obtain ⟨q, x, hx, e1, e2⟩ := chunks_snoc (s[k]'hlt) k (lst.take k) (by omega)
      rw [htl] at hx e1 e2
      have hnext : lst.take (k + 1) = lst.take k ++ [s[k]'hlt] := by
        have := HX.out
        subst this
        rw [List.take_succ_eq_append_getElem (by rw [len_list]; exact hlt), get_list]
      rw [← hnext] at e1
      have E1 : Hid (_ = _) := e1
      have E2 : Hid (if k % 8 = 0 then chunks (lst.take k) = q ∧ x = 0 else chunks (lst.take k) = q ++ [(x : Int)]) := e2
      have HXX : Hid (x < _) := hx
      clear e1 e2 hx hnext htl
      by_cases h8 : k % 8 = 0
      · have ht : ((k : Int) % 8 == 0) = true := by rw [beq_iff_eq]; omega
        obtain ⟨hP, hPL, hLc, hcm, hcs, hct⟩ := HP.out
        have HO : Hid (wr.ownsRow (w.heap.size + 1) 24 1 (.slice (some ⟨g, 0, none⟩) L cap) L (P.map (.int .u64))) := own_of_blk (base := w.heap.size + 1) hg g0 hLc hcm hcs hct
        clear hP hPL hLc hcm hcs hct
        obtain ⟨hi, hz0, hz1, hz2⟩ := HI.out
        go_wp2_with (first
          | (at_builtin; (refine wpList_append_own _ rfl (.tmp 20) (.tmp 21) 60 rfl (w.heap.size + 1) 24 i0 (.int .u64 0) 1 8 Tryd.underlying60 hi hz0 hz1 hz2 rfl (by decide) _ _ _ rfl (HO.out.alloc _) ⟨wr.heap.size, 0, none⟩ 1 1 [.int .u64 0] rfl rfl ?c1 ?c2 ?c3 ?c4 ?c5 ?_))
          | fail)
        case c1 =>
          intro j u hj
          match j, hj with
          | 0, hj => simp at hj; subst hj; simp [Addr.add]
        case c2 => intro u hu; simp at hu; subst hu; rfl
        case c3 => unfold maxLen; omega
        case c4 => omega
        case c5 => simp; omega
        intro v' w1 hown' hgrow _
        have g1' : w1.heap[w.heap.size]? = some (.cells #[.int .i64 c, .int .i64 n] 30 (0, 0)) :=
          (hgrow.block _ (by simp; omega) (by simp [Value.ownBlock]; omega)).trans (heap_old g1)
        have hb' : Below w.heap.size w w1 := (hb.alloc hz _).grown hgrow (by simp; omega) (by intro y hy; simp [Value.ownBlock] at hy; omega)
        obtain ⟨hP, hPL, _⟩ := HP.out
        have E2' := E2.out
        rw [if_pos h8] at E2'
        obtain ⟨eq, rfl⟩ := E2'
        clear hgrow g0 g1 hb hz HO HP hg hL1 HXX hi hz0 hz1 hz2 E2
        obtain ⟨_, hor⟩ := hown'
        rcases hor with ⟨_, h0⟩ | ⟨g, cap, cur, rfl, hg, g0, hLc, hcm, hcs, hct⟩
        · omega
        obtain ⟨wr, hwr⟩ : ∃ y, y = w1 := ⟨_, rfl⟩
        subst hwr
        have g1 := g1'
        have hb := hb'
        have hz := hb.size
        clear g1' hb'
        generalize hM : L + 1 = M at *
        obtain ⟨x, hx⟩ : ∃ x : Nat, x = 0 := ⟨0, rfl⟩
        have hM1 : 1 ≤ M := by omega
        have HR : Hid (M ≤ cap ∧ cap ≤ maxLen ∧ cur.size = cap ∧ ∃ Q : List Int, cur.toList.take M = (Q ++ [(x : Int)]).map (.int .u64) ∧ Q.length + 1 = M ∧ (s.size : Int) :: chunks (lst.take (k + 1)) = Q ++ [((x + (s[k]'hlt).toNat * 256 ^ (k % 8) : Nat) : Int)]) := by
          refine ⟨hLc, hcm, by rw [hcs, Nat.mul_one], P, ?_, by omega, ?_⟩
          · rw [Nat.mul_one] at hct
            rw [hct, hx, List.map_append]; rfl
          · rw [E1.out, hP, eq, hx]; rfl
        have HXX : Hid (x < 256 ^ (k % 8)) := by unfold Hid; rw [h8, hx]; decide
        have hM3 : M ≤ 17592186044401 := by omega
        clear hLc hcm hcs hct hM hx eq hP hPL
        have hcur : cur[M - 1]? = some (.int .u64 x) := by
          obtain ⟨h1, h2, h3, Q, h4, h5, _⟩ := HR.out
          have : cur.toList[M - 1]? = (cur.toList.take M)[M - 1]? := by rw [List.getElem?_take, if_pos (by omega)]
          rw [Array.getElem?_toList] at this
          rw [this, h4, ← h5]
          simp
        go_wp2_with fail
        clear h8 ht
        have hM2 : ((M : Int) - 1).toNat = M - 1 := by omega
        have HV : Hid (_ = _) := word_val (s[k]'hlt) (k % 8) (by omega) HXX.out
        have hSt : Stable (fun w3 : World => (Below w.heap.size w w3) ∧ (w3.heap[w.heap.size]? = some (.cells #[.int .i64 c, .int .i64 n] 30 (0, 0))) ∧ (w3.heap[g]? = some (.cells cur 24 (0, 0)))) := by repeat (first | exact stable_ext _ | exact stable_blk _ _ | exact stable_true | (refine stable_bel ?_ ; (focus (first | (simp [World.size_setCell] ; done) | (simp [World.setCell] ; done)))) | refine Stable.and ?_ ?_)
        refine wp_region_x [0, 1, 2, 3, 4, 5, 6, 7, 8, 9, 10, 11, 12, 13, 14, 15, 16] [0, 0, 0, 0, 0, 1, 0, 0, 0, 0, 0, 0, 0, 0, 0, 0, 3] (fun w3 => (Below w.heap.size w w3) ∧ (w3.heap[w.heap.size]? = some (.cells #[.int .i64 c, .int .i64 n] 30 (0, 0))) ∧ (w3.heap[g]? = some (.cells cur 24 (0, 0)))) (by kernel_rfl) (by kernel_rfl) ?_ ?_
        · (refine ⟨?_, ?_, ?_⟩ <;> (repeat (first | (with_reducible assumption) | (with_reducible exact Below.refl _ _) | (with_reducible refine heap_drew ?_) | (focus ((with_reducible refine heap_new ?_) ; simp ; done)) | (with_reducible apply heap_set_to) | (focus ((with_reducible refine heap_set_ne ?_ ?_ _) ; rotate_left ; (focus (first | omega | (simp ; done) | (simp ; omega))))) | (with_reducible refine heap_old ?_) | (with_reducible refine Below.drew ?_) | (with_reducible refine below_set ?_ _ _) | (focus ((with_reducible refine Below.setCell ?_ ?_ _) ; rotate_left ; (focus (first | omega | (simp ; done) | (simp ; omega))))) | (focus ((with_reducible refine Below.alloc ?_ ?_ _) ; rotate_left ; (focus (first | omega | (simp ; done) | (simp ; omega))))) | (with_reducible rfl) | (focus (simp ; done)))))
        simp only [List.map_cons, List.map_nil, List.getD_cons_zero, List.getD_cons_succ]
        (refine x_pure rfl _ ?_ rfl (by simp) ?_ ?_ ; rotate_left ; · (intro w3 K hK ; go_wp2_with fail ; exact rfl))
        simp only [Act.put, List.setIfInBounds_toArray, List.set_cons_succ, List.set_cons_zero]
        (refine x_pure rfl _ ?_ rfl (by simp) ?_ ?_ ; rotate_left ; · (intro w3 K hK ; go_wp2_with fail ; exact rfl))
        simp only [Act.put, List.setIfInBounds_toArray, List.set_cons_succ, List.set_cons_zero]
        (refine x_pure rfl _ ?_ rfl (by simp) ?_ ?_ ; rotate_left ; · (intro w3 K hK ; go_wp2_with fail ; exact rfl))
        simp only [Act.put, List.setIfInBounds_toArray, List.set_cons_succ, List.set_cons_zero]
        (refine x_pure rfl _ ?_ rfl (by simp) ?_ ?_ ; rotate_left ; · (intro w3 K hK ; go_wp2_with fail ; exact rfl))
        simp only [Act.put, List.setIfInBounds_toArray, List.set_cons_succ, List.set_cons_zero]
        (refine x_pure rfl _ ?_ rfl (by simp) ?_ ?_ ; rotate_left ; · (intro w3 K hK ; go_wp2_with fail ; exact rfl))
        simp only [Act.put, List.setIfInBounds_toArray, List.set_cons_succ, List.set_cons_zero]
        (refine x_quiet rfl hSt (fun _ h => h) _ ?_ rfl (by simp) ?_ ?_ ; rotate_left ; · (intro w3 hC K hK ; obtain ⟨hb, g1, g0⟩ := hC ; have qx : w3.cell? ⟨g, M - 1, none⟩ = some (.int .u64 x) := (blk_cell g0 _).trans hcur ; have qf := blk_free g0 ; go_wp2_with fail ; refine ⟨?_, Below.refl _ _⟩ ; exact rfl))
        simp only [Act.put, List.setIfInBounds_toArray, List.set_cons_succ, List.set_cons_zero]
        (refine x_pure rfl _ ?_ rfl (by simp) ?_ ?_ ; rotate_left ; · (intro w3 K hK ; go_wp2_with fail ; exact rfl))
        simp only [Act.put, List.setIfInBounds_toArray, List.set_cons_succ, List.set_cons_zero]
        (refine x_pure rfl _ ?_ rfl (by simp) ?_ ?_ ; rotate_left ; · (intro w3 K hK ; go_wp2_with fail ; exact rfl))
        simp only [Act.put, List.setIfInBounds_toArray, List.set_cons_succ, List.set_cons_zero]
        (refine x_pure rfl _ ?_ rfl (by simp) ?_ ?_ ; rotate_left ; · (intro w3 K hK ; go_wp2_with fail ; exact rfl))
        simp only [Act.put, List.setIfInBounds_toArray, List.set_cons_succ, List.set_cons_zero]
        (refine x_pure rfl _ ?_ rfl (by simp) ?_ ?_ ; rotate_left ; · (intro w3 K hK ; go_wp2_with fail ; exact rfl))
        simp only [Act.put, List.setIfInBounds_toArray, List.set_cons_succ, List.set_cons_zero]
        (refine x_pure rfl _ ?_ rfl (by simp) ?_ ?_ ; rotate_left ; · (intro w3 K hK ; go_wp2_with fail ; exact rfl))
        simp only [Act.put, List.setIfInBounds_toArray, List.set_cons_succ, List.set_cons_zero]
        (refine x_pure rfl _ ?_ rfl (by simp) ?_ ?_ ; rotate_left ; · (intro w3 K hK ; go_wp2_with fail ; exact rfl))
        simp only [Act.put, List.setIfInBounds_toArray, List.set_cons_succ, List.set_cons_zero]
        (refine x_pure rfl _ ?_ rfl (by simp) ?_ ?_ ; rotate_left ; · (intro w3 K hK ; go_wp2_with fail ; exact rfl))
        simp only [Act.put, List.setIfInBounds_toArray, List.set_cons_succ, List.set_cons_zero]
        (refine x_pure rfl _ ?_ rfl (by simp) ?_ ?_ ; rotate_left ; · (intro w3 K hK ; go_wp2_with fail ; exact rfl))
        simp only [Act.put, List.setIfInBounds_toArray, List.set_cons_succ, List.set_cons_zero]
        (refine x_pure rfl _ ?_ rfl (by simp) ?_ ?_ ; rotate_left ; · (intro w3 K hK ; go_wp2_with fail ; exact rfl))
        simp only [Act.put, List.setIfInBounds_toArray, List.set_cons_succ, List.set_cons_zero]
        (refine x_pure rfl _ ?_ rfl (by simp) ?_ ?_ ; rotate_left ; · (intro w3 K hK ; go_wp2_with fail ; exact rfl))
        simp only [Act.put, List.setIfInBounds_toArray, List.set_cons_succ, List.set_cons_zero]
        refine x_write rfl ?_
        intro w3 hD K hK ; obtain ⟨hb, g1, g0⟩ := hD ; have qx : w3.cell? ⟨g, M - 1, none⟩ = some (.int .u64 x) := (blk_cell g0 _).trans hcur ; have qf := blk_free g0
        go_wp2_with fail
        refine x_nil ?_
        rintro w5 hwe
        have f0 : w5.heap[g]? = some (.cells (cur.setIfInBounds (M - 1) (.int .u64 (IntKind.u64.wrap (x + IntKind.u64.wrap (IntKind.u64.wrap (s[k]'hlt).toNat * 2 ^ (8 * (k % 8))))))) 24 (0, 0)) := by rw [hwe] ; (repeat (first | (with_reducible assumption) | (with_reducible exact Below.refl _ _) | (with_reducible refine heap_drew ?_) | (focus ((with_reducible refine heap_new ?_) ; simp ; done)) | (with_reducible apply heap_set_to) | (focus ((with_reducible refine heap_set_ne ?_ ?_ _) ; rotate_left ; (focus (first | omega | (simp ; done) | (simp ; omega))))) | (with_reducible refine heap_old ?_) | (with_reducible refine Below.drew ?_) | (with_reducible refine below_set ?_ _ _) | (focus ((with_reducible refine Below.setCell ?_ ?_ _) ; rotate_left ; (focus (first | omega | (simp ; done) | (simp ; omega))))) | (focus ((with_reducible refine Below.alloc ?_ ?_ _) ; rotate_left ; (focus (first | omega | (simp ; done) | (simp ; omega))))) | (with_reducible rfl) | (focus (simp ; done))))
        have f1 : w5.heap[w.heap.size]? = some (.cells #[.int .i64 c, .int .i64 n] 30 (0, 0)) := by rw [hwe] ; (repeat (first | (with_reducible assumption) | (with_reducible exact Below.refl _ _) | (with_reducible refine heap_drew ?_) | (focus ((with_reducible refine heap_new ?_) ; simp ; done)) | (with_reducible apply heap_set_to) | (focus ((with_reducible refine heap_set_ne ?_ ?_ _) ; rotate_left ; (focus (first | omega | (simp ; done) | (simp ; omega))))) | (with_reducible refine heap_old ?_) | (with_reducible refine Below.drew ?_) | (with_reducible refine below_set ?_ _ _) | (focus ((with_reducible refine Below.setCell ?_ ?_ _) ; rotate_left ; (focus (first | omega | (simp ; done) | (simp ; omega))))) | (focus ((with_reducible refine Below.alloc ?_ ?_ _) ; rotate_left ; (focus (first | omega | (simp ; done) | (simp ; omega))))) | (with_reducible rfl) | (focus (simp ; done))))
        have fb : Below w.heap.size w w5 := by rw [hwe] ; (repeat (first | (with_reducible assumption) | (with_reducible exact Below.refl _ _) | (with_reducible refine heap_drew ?_) | (focus ((with_reducible refine heap_new ?_) ; simp ; done)) | (with_reducible apply heap_set_to) | (focus ((with_reducible refine heap_set_ne ?_ ?_ _) ; rotate_left ; (focus (first | omega | (simp ; done) | (simp ; omega))))) | (with_reducible refine heap_old ?_) | (with_reducible refine Below.drew ?_) | (with_reducible refine below_set ?_ _ _) | (focus ((with_reducible refine Below.setCell ?_ ?_ _) ; rotate_left ; (focus (first | omega | (simp ; done) | (simp ; omega))))) | (focus ((with_reducible refine Below.alloc ?_ ?_ _) ; rotate_left ; (focus (first | omega | (simp ; done) | (simp ; omega))))) | (with_reducible rfl) | (focus (simp ; done))))
        clear hwe
        rw [HV.out] at f0
        clear hSt
        go_wp2_with fail
        go_roundw
        case rel =>
          obtain ⟨h1, h2, h3, Q, h4, h5, h6⟩ := HR.out
          have hlenk : M = 1 + (k + 1 + 7) / 8 := by
            have := congrArg List.length h6
            rw [List.length_cons, chunks_length, List.length_append, List.length_take, hlen] at this
            simp at this
            omega
          refine ⟨k + 1, g, cap, M, _, _, by omega, by go_num, rfl, hg, by omega, by omega, ⟨rfl, ?_, h1, h2, ?_, ?_⟩, f0, f1, fb⟩
          · rw [h6, List.length_append, h5.symm]; rfl
          · rw [Array.size_setIfInBounds]; exact h3
          · rw [Array.toList_setIfInBounds, List.take_set, h4, h6, ← h5]
            simp
        case measure => simp [intOf]; omega
      · have ht : ((k : Int) % 8 == 0) = false := by rw [beq_eq_false_iff_ne]; omega
        obtain ⟨hP, hPL, hLc, hcm, hcs, hct⟩ := HP.out
        have E2' := E2.out
        rw [if_neg h8] at E2'
        obtain ⟨M, hM⟩ : ∃ M, M = L := ⟨_, rfl⟩
        subst hM
        have hM1 : 1 ≤ M := by omega
        have HR : Hid (M ≤ cap ∧ cap ≤ maxLen ∧ cur.size = cap ∧ ∃ Q : List Int, cur.toList.take M = (Q ++ [(x : Int)]).map (.int .u64) ∧ Q.length + 1 = M ∧ (s.size : Int) :: chunks (lst.take (k + 1)) = Q ++ [((x + (s[k]'hlt).toNat * 256 ^ (k % 8) : Nat) : Int)]) := by
          refine ⟨hLc, hcm, hcs, (s.size : Int) :: q, ?_, ?_, ?_⟩
          · rw [hct, hP, E2']; rfl
          · rw [hPL, hP, E2']; simp
          · rw [E1.out]; rfl
        have hM3 : M ≤ 17592186044401 := by omega
        clear hLc hcm hcs hct hP hPL HP E2 E2'
        have hcur : cur[M - 1]? = some (.int .u64 x) := by
          obtain ⟨h1, h2, h3, Q, h4, h5, _⟩ := HR.out
          have : cur.toList[M - 1]? = (cur.toList.take M)[M - 1]? := by rw [List.getElem?_take, if_pos (by omega)]
          rw [Array.getElem?_toList] at this
          rw [this, h4, ← h5]
          simp
        go_wp2_with fail
        clear h8 ht
        have hM2 : ((M : Int) - 1).toNat = M - 1 := by omega
        have HV : Hid (_ = _) := word_val (s[k]'hlt) (k % 8) (by omega) HXX.out
        have hSt : Stable (fun w3 : World => (Below w.heap.size w w3) ∧ (w3.heap[w.heap.size]? = some (.cells #[.int .i64 c, .int .i64 n] 30 (0, 0))) ∧ (w3.heap[g]? = some (.cells cur 24 (0, 0)))) := by repeat (first | exact stable_ext _ | exact stable_blk _ _ | exact stable_true | (refine stable_bel ?_ ; (focus (first | (simp [World.size_setCell] ; done) | (simp [World.setCell] ; done)))) | refine Stable.and ?_ ?_)
        refine wp_region_x [0, 1, 2, 3, 4, 5, 6, 7, 8, 9, 10, 11, 12, 13, 14, 15, 16] [0, 0, 0, 0, 0, 1, 0, 0, 0, 0, 0, 0, 0, 0, 0, 0, 3] (fun w3 => (Below w.heap.size w w3) ∧ (w3.heap[w.heap.size]? = some (.cells #[.int .i64 c, .int .i64 n] 30 (0, 0))) ∧ (w3.heap[g]? = some (.cells cur 24 (0, 0)))) (by kernel_rfl) (by kernel_rfl) ?_ ?_
        · (refine ⟨?_, ?_, ?_⟩ <;> (repeat (first | (with_reducible assumption) | (with_reducible exact Below.refl _ _) | (with_reducible refine heap_drew ?_) | (focus ((with_reducible refine heap_new ?_) ; simp ; done)) | (with_reducible apply heap_set_to) | (focus ((with_reducible refine heap_set_ne ?_ ?_ _) ; rotate_left ; (focus (first | omega | (simp ; done) | (simp ; omega))))) | (with_reducible refine heap_old ?_) | (with_reducible refine Below.drew ?_) | (with_reducible refine below_set ?_ _ _) | (focus ((with_reducible refine Below.setCell ?_ ?_ _) ; rotate_left ; (focus (first | omega | (simp ; done) | (simp ; omega))))) | (focus ((with_reducible refine Below.alloc ?_ ?_ _) ; rotate_left ; (focus (first | omega | (simp ; done) | (simp ; omega))))) | (with_reducible rfl) | (focus (simp ; done)))))
        simp only [List.map_cons, List.map_nil, List.getD_cons_zero, List.getD_cons_succ]
        (refine x_pure rfl _ ?_ rfl (by simp) ?_ ?_ ; rotate_left ; · (intro w3 K hK ; go_wp2_with fail ; exact rfl))
        simp only [Act.put, List.setIfInBounds_toArray, List.set_cons_succ, List.set_cons_zero]
        (refine x_pure rfl _ ?_ rfl (by simp) ?_ ?_ ; rotate_left ; · (intro w3 K hK ; go_wp2_with fail ; exact rfl))
        simp only [Act.put, List.setIfInBounds_toArray, List.set_cons_succ, List.set_cons_zero]
        (refine x_pure rfl _ ?_ rfl (by simp) ?_ ?_ ; rotate_left ; · (intro w3 K hK ; go_wp2_with fail ; exact rfl))
        simp only [Act.put, List.setIfInBounds_toArray, List.set_cons_succ, List.set_cons_zero]
        (refine x_pure rfl _ ?_ rfl (by simp) ?_ ?_ ; rotate_left ; · (intro w3 K hK ; go_wp2_with fail ; exact rfl))
        simp only [Act.put, List.setIfInBounds_toArray, List.set_cons_succ, List.set_cons_zero]
        (refine x_pure rfl _ ?_ rfl (by simp) ?_ ?_ ; rotate_left ; · (intro w3 K hK ; go_wp2_with fail ; exact rfl))
        simp only [Act.put, List.setIfInBounds_toArray, List.set_cons_succ, List.set_cons_zero]
        (refine x_quiet rfl hSt (fun _ h => h) _ ?_ rfl (by simp) ?_ ?_ ; rotate_left ; · (intro w3 hC K hK ; obtain ⟨hb, g1, g0⟩ := hC ; have qx : w3.cell? ⟨g, M - 1, none⟩ = some (.int .u64 x) := (blk_cell g0 _).trans hcur ; have qf := blk_free g0 ; go_wp2_with fail ; refine ⟨?_, Below.refl _ _⟩ ; exact rfl))
        simp only [Act.put, List.setIfInBounds_toArray, List.set_cons_succ, List.set_cons_zero]
        (refine x_pure rfl _ ?_ rfl (by simp) ?_ ?_ ; rotate_left ; · (intro w3 K hK ; go_wp2_with fail ; exact rfl))
        simp only [Act.put, List.setIfInBounds_toArray, List.set_cons_succ, List.set_cons_zero]
        (refine x_pure rfl _ ?_ rfl (by simp) ?_ ?_ ; rotate_left ; · (intro w3 K hK ; go_wp2_with fail ; exact rfl))
        simp only [Act.put, List.setIfInBounds_toArray, List.set_cons_succ, List.set_cons_zero]
        (refine x_pure rfl _ ?_ rfl (by simp) ?_ ?_ ; rotate_left ; · (intro w3 K hK ; go_wp2_with fail ; exact rfl))
        simp only [Act.put, List.setIfInBounds_toArray, List.set_cons_succ, List.set_cons_zero]
        (refine x_pure rfl _ ?_ rfl (by simp) ?_ ?_ ; rotate_left ; · (intro w3 K hK ; go_wp2_with fail ; exact rfl))
        simp only [Act.put, List.setIfInBounds_toArray, List.set_cons_succ, List.set_cons_zero]
        (refine x_pure rfl _ ?_ rfl (by simp) ?_ ?_ ; rotate_left ; · (intro w3 K hK ; go_wp2_with fail ; exact rfl))
        simp only [Act.put, List.setIfInBounds_toArray, List.set_cons_succ, List.set_cons_zero]
        (refine x_pure rfl _ ?_ rfl (by simp) ?_ ?_ ; rotate_left ; · (intro w3 K hK ; go_wp2_with fail ; exact rfl))
        simp only [Act.put, List.setIfInBounds_toArray, List.set_cons_succ, List.set_cons_zero]
        (refine x_pure rfl _ ?_ rfl (by simp) ?_ ?_ ; rotate_left ; · (intro w3 K hK ; go_wp2_with fail ; exact rfl))
        simp only [Act.put, List.setIfInBounds_toArray, List.set_cons_succ, List.set_cons_zero]
        (refine x_pure rfl _ ?_ rfl (by simp) ?_ ?_ ; rotate_left ; · (intro w3 K hK ; go_wp2_with fail ; exact rfl))
        simp only [Act.put, List.setIfInBounds_toArray, List.set_cons_succ, List.set_cons_zero]
        (refine x_pure rfl _ ?_ rfl (by simp) ?_ ?_ ; rotate_left ; · (intro w3 K hK ; go_wp2_with fail ; exact rfl))
        simp only [Act.put, List.setIfInBounds_toArray, List.set_cons_succ, List.set_cons_zero]
        (refine x_pure rfl _ ?_ rfl (by simp) ?_ ?_ ; rotate_left ; · (intro w3 K hK ; go_wp2_with fail ; exact rfl))
        simp only [Act.put, List.setIfInBounds_toArray, List.set_cons_succ, List.set_cons_zero]
        refine x_write rfl ?_
        intro w3 hD K hK ; obtain ⟨hb, g1, g0⟩ := hD ; have qx : w3.cell? ⟨g, M - 1, none⟩ = some (.int .u64 x) := (blk_cell g0 _).trans hcur ; have qf := blk_free g0
        go_wp2_with fail
        refine x_nil ?_
        rintro w5 hwe
        have f0 : w5.heap[g]? = some (.cells (cur.setIfInBounds (M - 1) (.int .u64 (IntKind.u64.wrap (x + IntKind.u64.wrap (IntKind.u64.wrap (s[k]'hlt).toNat * 2 ^ (8 * (k % 8))))))) 24 (0, 0)) := by rw [hwe] ; (repeat (first | (with_reducible assumption) | (with_reducible exact Below.refl _ _) | (with_reducible refine heap_drew ?_) | (focus ((with_reducible refine heap_new ?_) ; simp ; done)) | (with_reducible apply heap_set_to) | (focus ((with_reducible refine heap_set_ne ?_ ?_ _) ; rotate_left ; (focus (first | omega | (simp ; done) | (simp ; omega))))) | (with_reducible refine heap_old ?_) | (with_reducible refine Below.drew ?_) | (with_reducible refine below_set ?_ _ _) | (focus ((with_reducible refine Below.setCell ?_ ?_ _) ; rotate_left ; (focus (first | omega | (simp ; done) | (simp ; omega))))) | (focus ((with_reducible refine Below.alloc ?_ ?_ _) ; rotate_left ; (focus (first | omega | (simp ; done) | (simp ; omega))))) | (with_reducible rfl) | (focus (simp ; done))))
        have f1 : w5.heap[w.heap.size]? = some (.cells #[.int .i64 c, .int .i64 n] 30 (0, 0)) := by rw [hwe] ; (repeat (first | (with_reducible assumption) | (with_reducible exact Below.refl _ _) | (with_reducible refine heap_drew ?_) | (focus ((with_reducible refine heap_new ?_) ; simp ; done)) | (with_reducible apply heap_set_to) | (focus ((with_reducible refine heap_set_ne ?_ ?_ _) ; rotate_left ; (focus (first | omega | (simp ; done) | (simp ; omega))))) | (with_reducible refine heap_old ?_) | (with_reducible refine Below.drew ?_) | (with_reducible refine below_set ?_ _ _) | (focus ((with_reducible refine Below.setCell ?_ ?_ _) ; rotate_left ; (focus (first | omega | (simp ; done) | (simp ; omega))))) | (focus ((with_reducible refine Below.alloc ?_ ?_ _) ; rotate_left ; (focus (first | omega | (simp ; done) | (simp ; omega))))) | (with_reducible rfl) | (focus (simp ; done))))
        have fb : Below w.heap.size w w5 := by rw [hwe] ; (repeat (first | (with_reducible assumption) | (with_reducible exact Below.refl _ _) | (with_reducible refine heap_drew ?_) | (focus ((with_reducible refine heap_new ?_) ; simp ; done)) | (with_reducible apply heap_set_to) | (focus ((with_reducible refine heap_set_ne ?_ ?_ _) ; rotate_left ; (focus (first | omega | (simp ; done) | (simp ; omega))))) | (with_reducible refine heap_old ?_) | (with_reducible refine Below.drew ?_) | (with_reducible refine below_set ?_ _ _) | (focus ((with_reducible refine Below.setCell ?_ ?_ _) ; rotate_left ; (focus (first | omega | (simp ; done) | (simp ; omega))))) | (focus ((with_reducible refine Below.alloc ?_ ?_ _) ; rotate_left ; (focus (first | omega | (simp ; done) | (simp ; omega))))) | (with_reducible rfl) | (focus (simp ; done))))
        clear hwe
        rw [HV.out] at f0
        clear hSt
        go_wp2_with fail
        go_roundw
        case rel =>
          obtain ⟨h1, h2, h3, Q, h4, h5, h6⟩ := HR.out
          have hlenk : M = 1 + (k + 1 + 7) / 8 := by
            have := congrArg List.length h6
            rw [List.length_cons, chunks_length, List.length_append, List.length_take, hlen] at this
            simp at this
            omega
          refine ⟨k + 1, g, cap, M, _, _, by omega, by go_num, rfl, hg, by omega, by omega, ⟨rfl, ?_, h1, h2, ?_, ?_⟩, f0, f1, fb⟩
          · rw [h6, List.length_append, h5.symm]; rfl
          · rw [Array.size_setIfInBounds]; exact h3
          · rw [Array.toList_setIfInBounds, List.take_set, h4, h6, ← h5]
            simp
        case measure => simp [intOf]; omega
    · obtain rfl : k = s.size := by omega
      obtain ⟨hP, hPL, hLc, hcm, hcs, hct⟩ := HP.out
      rw [List.take_of_length_le (by omega)] at hP
      have HO : Hid (wr.ownsRow (w.heap.size + 1) 24 1 (.slice (some ⟨g, 0, none⟩) L cap) L (P.map (.int .u64))) := own_of_blk (base := w.heap.size + 1) hg g0 hLc hcm hcs hct
      have HP2 : Hid (wordsOf s c n = P ++ [u64 c, u64 n] ∧ P.length = L) := ⟨by unfold wordsOf; rw [hP, HX.out]; rfl, hPL.symm⟩
      clear hP hPL hLc hcm hcs hct HP
      obtain ⟨hi, hz0, hz1, hz2⟩ := HI.out
      have q1 := blk2 g1
      go_wp2_with (first
          | (at_builtin; (refine wpList_append_own _ rfl (.tmp 39) (.tmp 46) 60 rfl (w.heap.size + 1) 24 i0 (.int .u64 0) 1 8 Tryd.underlying60 hi hz0 hz1 hz2 rfl (by decide) _ _ _ rfl (HO.out.alloc _) ⟨wr.heap.size, 0, none⟩ 2 2 [.int .u64 (u64 c), .int .u64 (u64 n)] rfl rfl ?c1 ?c2 ?c3 ?c4 ?c5 ?_))
          | fail)
      case c1 =>
        intro j y hj
        match j, hj with
        | 0, hj => simp at hj; subst hj; simp [Addr.add, u64]
        | 1, hj => simp at hj; subst hj; simp [Addr.add, u64]
      case c2 => intro y hy; simp at hy; rcases hy with rfl | rfl <;> rfl
      case c3 => unfold maxLen; omega
      case c4 => omega
      case c5 => simp; omega
      intro v' w1 hown' hgrow _
      have hb' : Below w.heap.size w w1 := (hb.alloc hz _).grown hgrow (by simp; omega) (by intro y hy; simp [Value.ownBlock] at hy; omega)
      obtain ⟨_, hor⟩ := hown'
      rcases hor with ⟨_, h0⟩ | ⟨g', cap', cur', rfl, hg', g0', hLc, hcm, hcs, hct⟩
      · omega
      go_wp2_with fail
      go_ret
      obtain ⟨e1, e2⟩ := HP2.out
      refine ⟨some ⟨g', 0, none⟩, cap', ?_, ?_, hb'⟩
      · rw [e1, List.length_append, e2]; rfl
      · intro j hj
        refine ⟨g', 0, rfl, ?_⟩
        rw [Nat.zero_add, blk_cell g0' j, ← Array.getElem?_toList]
        have : cur'.toList[j]? = (cur'.toList.take ((L + 2) * 1))[j]? := by
          rw [List.getElem?_take, if_pos]
          rw [e1, List.length_append, e2] at hj
          simpa using hj
        have e3 : P.map (Value.int .u64) ++ [.int .u64 (u64 c), .int .u64 (u64 n)] = (wordsOf s c n).map (.int .u64) := by rw [e1]; simp
        rw [this, hct, e3, List.getElem?_map, List.getElem?_eq_getElem hj]; rfl

set_option maxHeartbeats 2000000 in
theorem rof_any (s : ByteArray) (c n : Int) (w : World) (hs : s.size ≤ 140737488351232) :
    Calls Tryd.prog 20 #[.string s, .agg #[.int .i64 c, .int .i64 n]] w fun e w' => e = .returned (sv (mix0 s c n) (mix1 s c n)) ∧ Below w.heap.size w w' := by
  have hwl : (wordsOf s c n).length ≤ 9223372036854775807 := by
    unfold wordsOf
    rw [List.length_cons, List.length_append, chunks_length, len_list]
    simp; omega
  go_enter Tryd.func20, Tryd.ntmps20
  go_wp2_with fail
  refine (words_any s c n _ hs).mono ?_
  rintro e w1 ⟨oa, cap, rfl, hU, hb1⟩
  have g1 : w1.heap[w.heap.size + 1]? = some (.cells #[.int .u64 0, .int .u64 0] 26 (0, 0)) := blk_below (by (repeat (first | (with_reducible assumption) | (with_reducible exact Below.refl _ _) | (with_reducible refine heap_drew ?_) | (focus ((with_reducible refine heap_new ?_) ; simp ; done)) | (with_reducible apply heap_set_to) | (focus ((with_reducible refine heap_set_ne ?_ ?_ _) ; rotate_left ; (focus (first | omega | (simp ; done) | (simp ; omega))))) | (with_reducible refine heap_old ?_) | (with_reducible refine Below.drew ?_) | (with_reducible refine below_set ?_ _ _) | (focus ((with_reducible refine Below.setCell ?_ ?_ _) ; rotate_left ; (focus (first | omega | (simp ; done) | (simp ; omega))))) | (focus ((with_reducible refine Below.alloc ?_ ?_ _) ; rotate_left ; (focus (first | omega | (simp ; done) | (simp ; omega))))) | (with_reducible rfl) | (focus (simp ; done))))) hb1
  have hb : Below w.heap.size w w1 := below_back (by (repeat (first | (with_reducible assumption) | (with_reducible exact Below.refl _ _) | (with_reducible refine heap_drew ?_) | (focus ((with_reducible refine heap_new ?_) ; simp ; done)) | (with_reducible apply heap_set_to) | (focus ((with_reducible refine heap_set_ne ?_ ?_ _) ; rotate_left ; (focus (first | omega | (simp ; done) | (simp ; omega))))) | (with_reducible refine heap_old ?_) | (with_reducible refine Below.drew ?_) | (with_reducible refine below_set ?_ _ _) | (focus ((with_reducible refine Below.setCell ?_ ?_ _) ; rotate_left ; (focus (first | omega | (simp ; done) | (simp ; omega))))) | (focus ((with_reducible refine Below.alloc ?_ ?_ _) ; rotate_left ; (focus (first | omega | (simp ; done) | (simp ; omega))))) | (with_reducible rfl) | (focus (simp ; done))))) (by first | omega | (simp ; done) | (simp ; omega)) hb1
  have hz := hb.size
  clear hb1
  have HM : Hid (mix0 s c n = (wordsOf s c n).foldl stp0 2611923443488327891 ∧ mix1 s c n = (wordsOf s c n).foldl stp1 1376283091369227076) := ⟨rfl, rfl⟩
  obtain ⟨ws, hws⟩ : ∃ ws, ws = wordsOf s c n := ⟨_, rfl⟩
  rw [← hws] at hU HM hwl ⊢
  have HU : Hid (U64s w1 oa ws) := hU
  clear hU hws
  go_wp2_with fail
  refine (lane0_any _ oa cap ws _ HU.out hwl).mono ?_
  rintro e w2 ⟨rfl, hb2⟩
  have HU2 : Hid (U64s w2 oa ws) := fun k h => by
    obtain ⟨b, o, h1, h2⟩ := HU.out k h
    exact ⟨b, o, h1, (hb2.cell (cell_lt h2)).trans h2⟩
  replace g1 := blk_below g1 hb2
  replace hb := below_back hb hz hb2
  clear hb2 HU hz
  have hz := hb.size
  go_wp2_with fail
  refine (lane1_any _ oa cap ws _ HU2.out hwl).mono ?_
  rintro e w3 ⟨rfl, hb3⟩
  replace g1 := blk_below g1 hb3
  replace hb := below_back hb hz hb3
  clear hb3 HU2 hz
  rw [← HM.out.1, ← HM.out.2]
  have hz := hb.size
  have q1 := blk2 g1
  go_wp2_with fail
  refine bodyPost_ret (v := sv (mix0 s c n) (mix1 s c n)) (by simp [results, Tryd.results20, go_sem, q1]) rfl ⟨rfl, ?_⟩
  (repeat (first | (with_reducible assumption) | (with_reducible exact Below.refl _ _) | (with_reducible refine heap_drew ?_) | (focus ((with_reducible refine heap_new ?_) ; simp ; done)) | (with_reducible apply heap_set_to) | (focus ((with_reducible refine heap_set_ne ?_ ?_ _) ; rotate_left ; (focus (first | omega | (simp ; done) | (simp ; omega))))) | (with_reducible refine heap_old ?_) | (with_reducible refine Below.drew ?_) | (with_reducible refine below_set ?_ _ _) | (focus ((with_reducible refine Below.setCell ?_ ?_ _) ; rotate_left ; (focus (first | omega | (simp ; done) | (simp ; omega))))) | (focus ((with_reducible refine Below.alloc ?_ ?_ _) ; rotate_left ; (focus (first | omega | (simp ; done) | (simp ; omega))))) | (with_reducible rfl) | (focus (simp ; done))))
end Go.Proofs.YtjeaobknojmbpaaDoor
