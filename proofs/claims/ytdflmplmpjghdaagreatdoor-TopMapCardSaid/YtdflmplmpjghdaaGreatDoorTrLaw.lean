/-
  Plain laws of the tree, no program in sight: what 'put' does to the rows, the order of keys, heights, ranks, pieces.
-/
import Derived.Test.YtdflmplmpjghdaaGreatDoorOver
namespace Go.Proofs.YtdflmplmpjghdaaGreatDoor
open Go.ChangeShapes Go.WideShapes Go.ChangeAt Go.RowKit Go.Deep
set_option linter.unusedVariables false
set_option linter.unusedSimpArgs false
set_option maxRecDepth 100000

/-- A row over two trees of which one may be too high by one. -/
def evenT (l : Tr) (k : ByteArray) (e : Ent) (s : T3) (r : Tr) : Tr :=
  if l.high > r.high + 1 then
    match l with
    | .nil => .node l k e s r
    | .node ll lk le ls lr =>
      if ll.high ≥ lr.high then .node ll lk le ls (.node lr k e s r)
      else match lr with
        | .nil => .node l k e s r
        | .node m1 mk me ms m2 => .node (.node ll lk le ls m1) mk me ms (.node m2 k e s r)
  else if r.high > l.high + 1 then
    match r with
    | .nil => .node l k e s r
    | .node rl rk re rs rr =>
      if rr.high ≥ rl.high then .node (.node l k e s rl) rk re rs rr
      else match rl with
        | .nil => .node l k e s r
        | .node m1 mk me ms m2 => .node (.node l k e s m1) mk me ms (.node m2 rk re rs rr)
  else .node l k e s r

/-! ### Keys -/
theorem bl_irrefl : ∀ x : List UInt8, Op.bytesLess x x = false
  | [] => rfl
  | a :: x => by rw [Op.bytesLess, bl_irrefl x]; simp
theorem bl_trans : ∀ x y z : List UInt8, Op.bytesLess x y = true → Op.bytesLess y z = true → Op.bytesLess x z = true
  | _, [], _, h, _ => by cases ‹List UInt8› <;> simp [Op.bytesLess] at h
  | _, _ :: _, [], _, h => by simp [Op.bytesLess] at h
  | [], _ :: _, _ :: _, _, _ => rfl
  | a :: x, b :: y, c :: z, h1, h2 => by
    simp only [Op.bytesLess, Bool.or_eq_true, Bool.and_eq_true, decide_eq_true_eq, beq_iff_eq] at *
    rcases h1 with h1 | ⟨rfl, h1⟩
    · rcases h2 with h2 | ⟨rfl, h2⟩
      · exact .inl (UInt8.lt_trans h1 h2)
      · exact .inl h1
    · rcases h2 with h2 | ⟨rfl, h2⟩
      · exact .inl h2
      · exact .inr ⟨rfl, bl_trans x y z h1 h2⟩
theorem bl_total : ∀ x y : List UInt8, Op.bytesLess x y = false → Op.bytesLess y x = false → x = y
  | [], [], _, _ => rfl
  | [], _ :: _, h, _ => by simp [Op.bytesLess] at h
  | _ :: _, [], _, h => by simp [Op.bytesLess] at h
  | a :: x, b :: y, h1, h2 => by
    simp only [Op.bytesLess, Bool.or_eq_false_iff, Bool.and_eq_false_iff, decide_eq_false_iff_not, beq_eq_false_iff_ne] at *
    have hab : a = b := by
      have h3 := h1.1
      have h4 := h2.1
      rw [UInt8.not_lt] at h3 h4
      exact UInt8.le_antisymm h4 h3
    subst hab
    have h5 : Op.bytesLess x y = false := by rcases h1.2 with h | h; exact absurd rfl h; exact h
    have h6 : Op.bytesLess y x = false := by rcases h2.2 with h | h; exact absurd rfl h; exact h
    rw [bl_total x y h5 h6]
/-- Is the key a below b? -/
def klb (a b : ByteArray) : Bool := Op.bytesLess a.toList b.toList
theorem klb_irrefl (a : ByteArray) : klb a a = false := bl_irrefl _
theorem klb_trans {a b c : ByteArray} (h : klb a b = true) (k : klb b c = true) : klb a c = true := bl_trans _ _ _ h k
theorem toList_inj {a b : ByteArray} (h : a.toList = b.toList) : a = b := by
  rw [Lib.toList_data, Lib.toList_data] at h
  cases a; cases b
  simp only [ByteArray.mk.injEq]
  exact Array.toList_inj.1 h
theorem klb_total {a b : ByteArray} (h : klb a b = false) (k : klb b a = false) : a = b := toList_inj (bl_total _ _ h k)
theorem klb_asymm {a b : ByteArray} (h : klb a b = true) : klb b a = false := by
  cases hb : klb b a
  · rfl
  · have := klb_trans h hb; rw [klb_irrefl] at this; cases this
/-- a is below b or b itself, b below c. -/
theorem klb_of_le {a b c : ByteArray} (h : klb b a = false) (k : klb b c = true) : klb a c = true := by
  cases hc : klb a c
  · cases hab : klb a b
    · rw [klb_total hab h] at hc; rw [k] at hc; cases hc
    · rw [klb_trans hab k] at hc; cases hc
  · rfl
theorem klb_of_le' {a b c : ByteArray} (h : klb a b = true) (k : klb c b = false) : klb a c = true := by
  cases hc : klb a c
  · cases hbc : klb b c
    · rw [klb_total hbc k] at h; rw [hc] at h; cases h
    · rw [klb_trans h hbc] at hc; cases hc
  · rfl

/-- Are they one key? -/
def keq (a b : ByteArray) : Bool := !klb a b && !klb b a
theorem keq_self (a : ByteArray) : keq a a = true := by simp [keq, klb_irrefl]
theorem keq_iff {a b : ByteArray} : keq a b = true ↔ a = b := by
  constructor
  · intro h
    simp only [keq, Bool.and_eq_true, Bool.not_eq_true'] at h
    exact klb_total h.1 h.2
  · rintro rfl; exact keq_self a
theorem keq_lt {a b : ByteArray} (h : klb a b = true) : keq a b = false := by simp [keq, h]
theorem keq_gt {a b : ByteArray} (h : klb a b = true) : keq b a = false := by simp [keq, h]

/-! ### Rows -/
abbrev Row := ByteArray × Ent × T3
def Tr.rows : Tr → List Row
  | .nil => []
  | .node l k e s r => l.rows ++ (k, e, s) :: r.rows
theorem Tr.rows_length : ∀ t : Tr, t.rows.length = t.size
  | .nil => rfl
  | .node l k e s r => by simp only [rows, size, List.length_append, List.length_cons, rows_length l, rows_length r]; omega
/-- Keys rise. -/
def Rising (l : List Row) : Prop := l.Pairwise fun x y => klb x.1 y.1 = true
theorem evenT_rows (l : Tr) (k : ByteArray) (e : Ent) (s : T3) (r : Tr) : (evenT l k e s r).rows = l.rows ++ (k, e, s) :: r.rows := by
  unfold evenT
  split
  · split
    · rfl
    · split
      · simp [Tr.rows]
      · split <;> simp [Tr.rows]
  · split
    · split
      · rfl
      · split
        · simp [Tr.rows]
        · split <;> simp [Tr.rows]
    · rfl
theorem evenT_size (l : Tr) (k : ByteArray) (e : Ent) (s : T3) (r : Tr) : (evenT l k e s r).size = l.size + 1 + r.size := by
  rw [← Tr.rows_length, evenT_rows]
  simp only [List.length_append, List.length_cons, Tr.rows_length]; omega
def putT (k : ByteArray) (e : Ent) (s : T3) : Tr → Tr
  | .nil => .node .nil k e s .nil
  | .node l k' e' s' r => if klb k k' then evenT (putT k e s l) k' e' s' r else if klb k' k then evenT l k' e' s' (putT k e s r) else .node l k e s r
def putL (k : ByteArray) (e : Ent) (s : T3) : List Row → List Row
  | [] => [(k, e, s)]
  | x :: l => if klb k x.1 then (k, e, s) :: x :: l else if klb x.1 k then x :: putL k e s l else (k, e, s) :: l
theorem putL_left {k : ByteArray} {e : Ent} {s : T3} {x : Row} (h : klb k x.1 = true) (b : List Row) : ∀ a : List Row, putL k e s (a ++ x :: b) = putL k e s a ++ x :: b
  | [] => by simp [putL, h]
  | y :: a => by
    simp only [List.cons_append, putL, putL_left h b a]
    split
    · rfl
    · split <;> rfl
theorem putL_right {k : ByteArray} {e : Ent} {s : T3} : ∀ (a b : List Row), (∀ x ∈ a, klb x.1 k = true) → putL k e s (a ++ b) = a ++ putL k e s b
  | [], b, _ => rfl
  | y :: a, b, h => by
    have hy := h y (List.mem_cons_self ..)
    simp only [List.cons_append, putL, klb_asymm hy, hy, if_true, Bool.false_eq_true, if_false]
    rw [putL_right a b fun x hx => h x (List.mem_cons_of_mem _ hx)]
theorem putT_rows {k : ByteArray} {e : Ent} {s : T3} : ∀ t : Tr, Rising t.rows → (putT k e s t).rows = putL k e s t.rows
  | .nil, _ => rfl
  | .node l k' e' s' r, h => by
    have hp := List.pairwise_append.1 h
    have hr := List.pairwise_cons.1 hp.2.1
    unfold putT
    split
    · rename_i h1
      rw [evenT_rows, putT_rows l hp.1]
      exact (putL_left h1 _ _).symm
    · rename_i h1
      split
      · rename_i h2
        rw [evenT_rows, putT_rows r hr.2]
        have : (Tr.node l k' e' s' r).rows = (l.rows ++ [(k', e', s')]) ++ r.rows := by simp [Tr.rows]
        rw [this, putL_right]
        · simp
        · intro x hx
          rcases List.mem_append.1 hx with hx | hx
          · exact klb_trans (hp.2.2 x hx _ (List.mem_cons_self ..)) h2
          · obtain rfl : x = (k', e', s') := by simpa using hx
            exact h2
      · rename_i h2
        have hk : k = k' := klb_total (by simpa using h1) (by simpa using h2)
        subst hk
        show l.rows ++ (k, e, s) :: r.rows = putL k e s (l.rows ++ (k, e', s') :: r.rows)
        rw [putL_right _ _ fun x hx => hp.2.2 x hx _ (List.mem_cons_self ..)]
        simp [putL, klb_irrefl]
theorem putT_size (k : ByteArray) (e : Ent) (s : T3) : ∀ t : Tr, (putT k e s t).size ≤ t.size + 1
  | .nil => Nat.le_refl _
  | .node l k' e' s' r => by
    have := putT_size k e s l
    have := putT_size k e s r
    unfold putT
    simp only [Tr.size]
    split
    · rw [evenT_size]; omega
    · split
      · rw [evenT_size]; omega
      · simp only [Tr.size]; omega
theorem putL_mem {k : ByteArray} {e : Ent} {s : T3} : ∀ {l : List Row} {x : Row}, x ∈ putL k e s l → x = (k, e, s) ∨ x ∈ l
  | [], x, h => by simp [putL] at h; exact .inl h
  | y :: l, x, h => by
    unfold putL at h
    split at h
    · rcases List.mem_cons.1 h with h | h
      · exact .inl h
      · exact .inr h
    · split at h
      · rcases List.mem_cons.1 h with h | h
        · exact .inr (h ▸ List.mem_cons_self ..)
        · rcases putL_mem h with h | h
          · exact .inl h
          · exact .inr (List.mem_cons_of_mem _ h)
      · rcases List.mem_cons.1 h with h | h
        · exact .inl h
        · exact .inr (List.mem_cons_of_mem _ h)
theorem putL_rising {k : ByteArray} {e : Ent} {s : T3} : ∀ {l : List Row}, Rising l → Rising (putL k e s l)
  | [], _ => by simp [putL, Rising]
  | y :: l, h => by
    have hc := List.pairwise_cons.1 h
    unfold putL
    split
    · rename_i h1
      exact List.pairwise_cons.2 ⟨fun x hx => by
        rcases List.mem_cons.1 hx with rfl | hx
        · exact h1
        · exact klb_trans h1 (hc.1 x hx), h⟩
    · rename_i h1
      split
      · rename_i h2
        exact List.pairwise_cons.2 ⟨fun x hx => by
          rcases putL_mem hx with rfl | hx
          · exact h2
          · exact hc.1 x hx, putL_rising hc.2⟩
      · rename_i h2
        have hk : k = y.1 := klb_total (by simpa using h1) (by simpa using h2)
        exact List.pairwise_cons.2 ⟨fun x hx => by rw [show ((k, e, s) : Row).1 = y.1 from hk]; exact hc.1 x hx, hc.2⟩
theorem putL_length {k : ByteArray} {e : Ent} {s : T3} : ∀ {l : List Row}, Rising l → (putL k e s l).length = if l.any fun x => keq x.1 k then l.length else l.length + 1
  | [], _ => rfl
  | y :: l, h => by
    have hc := List.pairwise_cons.1 h
    unfold putL
    split
    · rename_i h1
      have hn : ((y :: l).any fun x => keq x.1 k) = false := by
        rw [List.any_eq_false]
        intro x hx
        rcases List.mem_cons.1 hx with rfl | hx
        · simp [keq_gt h1]
        · simp [keq_gt (klb_trans h1 (hc.1 x hx))]
      rw [hn]; simp
    · rename_i h1
      split
      · rename_i h2
        have hy : keq y.1 k = false := by
          exact keq_lt h2
        simp only [List.length_cons, putL_length hc.2, List.any_cons, hy, Bool.false_or]
        split <;> rfl
      · rename_i h2
        have hk : k = y.1 := klb_total (by simpa using h1) (by simpa using h2)
        simp [hk, keq_self]

/-! ### Get -/
def getT (k : ByteArray) : Tr → Option Ent
  | .nil => none
  | .node l k' e' _ r => if klb k k' then getT k l else if klb k' k then getT k r else some e'
theorem getT_rows {k : ByteArray} : ∀ t : Tr, Rising t.rows → getT k t = (t.rows.find? fun x => keq x.1 k).map fun x => x.2.1
  | .nil, _ => rfl
  | .node l k' e' s' r, h => by
    have hp := List.pairwise_append.1 h
    have hr := List.pairwise_cons.1 hp.2.1
    unfold getT
    show _ = ((l.rows ++ (k', e', s') :: r.rows).find? fun x => keq x.1 k).map fun x => x.2.1
    rw [List.find?_append, List.find?_cons]
    split
    · rename_i h1
      have : (r.rows.find? fun x => keq x.1 k) = none := by
        rw [List.find?_eq_none]
        intro x hx
        simp [keq_gt (klb_trans h1 (hr.1 x hx))]
      rw [keq_gt h1, this, getT_rows l hp.1]
      cases (l.rows.find? fun x => keq x.1 k) <;> rfl
    · rename_i h1
      have hl : ∀ k'', klb k' k'' = true ∨ k' = k'' → (l.rows.find? fun x => keq x.1 k'') = none := fun k'' hk => by
        rw [List.find?_eq_none]
        intro x hx
        have h3 := hp.2.2 x hx _ (List.mem_cons_self ..)
        rcases hk with hk | rfl
        · simp [keq_lt (klb_trans h3 hk)]
        · simp [keq_lt h3]
      split
      · rename_i h2
        rw [hl k (.inl h2), keq_lt h2, getT_rows r hr.2]
        rfl
      · rename_i h2
        have hk : k = k' := klb_total (by simpa using h1) (by simpa using h2)
        subst hk
        rw [hl k (.inr rfl)]
        simp [keq_self]
theorem getT_any {k : ByteArray} (t : Tr) (h : Rising t.rows) : (getT k t).isSome = t.rows.any fun x => keq x.1 k := by
  rw [getT_rows t h, Option.isSome_map]
  rw [Bool.eq_iff_iff, List.find?_isSome, List.any_eq_true]

/-! ### Heights -/
def Bal : Tr → Prop
  | .nil => True
  | .node l _ _ _ r => Bal l ∧ Bal r ∧ l.high ≤ r.high + 1 ∧ r.high ≤ l.high + 1
theorem evenT_bal {l r : Tr} {k : ByteArray} {e : Ent} {s : T3} (hl : Bal l) (hr : Bal r) (h1 : l.high ≤ r.high + 2) (h2 : r.high ≤ l.high + 2) :
    Bal (evenT l k e s r) ∧ (evenT l k e s r).high ≤ 1 + max l.high r.high ∧ max l.high r.high ≤ (evenT l k e s r).high ∧ (l.high ≤ r.high + 1 → r.high ≤ l.high + 1 → (evenT l k e s r).high = 1 + max l.high r.high) := by
  unfold evenT
  split
  · rename_i h3
    split
    · simp [Tr.high] at h3
    · rename_i ll lk le ls lr
      obtain ⟨hll, hlr, h4, h5⟩ := hl
      simp only [Tr.high] at *
      split
      · simp only [Bal, Tr.high]
        refine ⟨⟨hll, ⟨hlr, hr, ?_, ?_⟩, ?_, ?_⟩, ?_, ?_, ?_⟩ <;> omega
      · split
        · simp only [Tr.high] at *; omega
        · rename_i m1 mk me ms m2
          obtain ⟨hm1, hm2, h6, h7⟩ := hlr
          simp only [Bal, Tr.high] at *
          refine ⟨⟨⟨hll, hm1, ?_, ?_⟩, ⟨hm2, hr, ?_, ?_⟩, ?_, ?_⟩, ?_, ?_, ?_⟩ <;> omega
  · rename_i h3
    split
    · rename_i h4
      split
      · simp [Tr.high] at h4
      · rename_i rl rk re rs rr
        obtain ⟨hrl, hrr, h5, h6⟩ := hr
        simp only [Tr.high] at *
        split
        · simp only [Bal, Tr.high]
          refine ⟨⟨⟨hl, hrl, ?_, ?_⟩, hrr, ?_, ?_⟩, ?_, ?_, ?_⟩ <;> omega
        · split
          · simp only [Tr.high] at *; omega
          · rename_i m1 mk me ms m2
            obtain ⟨hm1, hm2, h7, h8⟩ := hrl
            simp only [Bal, Tr.high] at *
            refine ⟨⟨⟨hl, hm1, ?_, ?_⟩, ⟨hm2, hrr, ?_, ?_⟩, ?_, ?_⟩, ?_, ?_, ?_⟩ <;> omega
    · rename_i h4
      exact ⟨⟨hl, hr, by omega, by omega⟩, Nat.le_refl _, by simp only [Tr.high]; omega, fun _ _ => rfl⟩
theorem putT_bal {k : ByteArray} {e : Ent} {s : T3} : ∀ t : Tr, Bal t → Bal (putT k e s t) ∧ t.high ≤ (putT k e s t).high ∧ (putT k e s t).high ≤ t.high + 1
  | .nil, _ => by simp [putT, Bal, Tr.high]
  | .node l k' e' s' r, h => by
    obtain ⟨hl, hr, h1, h2⟩ := h
    unfold putT
    split
    · obtain ⟨a, b, c⟩ := putT_bal (k := k) (e := e) (s := s) l hl
      obtain ⟨p, q, u, v⟩ := evenT_bal (k := k') (e := e') (s := s') a hr (by omega) (by omega)
      simp only [Tr.high]
      refine ⟨p, ?_, ?_⟩
      · by_cases h3 : (putT k e s l).high ≤ r.high + 1
        · rw [v h3 (by omega)]; omega
        · omega
      · by_cases h3 : (putT k e s l).high ≤ r.high + 1
        · rw [v h3 (by omega)]; omega
        · omega
    · split
      · obtain ⟨a, b, c⟩ := putT_bal (k := k) (e := e) (s := s) r hr
        obtain ⟨p, q, u, v⟩ := evenT_bal (k := k') (e := e') (s := s') hl a (by omega) (by omega)
        simp only [Tr.high]
        refine ⟨p, ?_, ?_⟩
        · by_cases h3 : (putT k e s r).high ≤ l.high + 1
          · rw [v (by omega) h3]; omega
          · omega
        · by_cases h3 : (putT k e s r).high ≤ l.high + 1
          · rw [v (by omega) h3]; omega
          · omega
      · exact ⟨⟨hl, hr, h1, h2⟩, Nat.le_refl _, Nat.le_succ _⟩
theorem bal_size : ∀ t : Tr, Bal t → 2 ^ (t.high / 2) ≤ t.size + 1
  | .nil, _ => by simp [Tr.high, Tr.size]
  | .node l k e s r, h => by
    obtain ⟨hl, hr, h1, h2⟩ := h
    have a := bal_size l hl
    have b := bal_size r hr
    simp only [Tr.high, Tr.size]
    have key : ∀ m x y : Nat, m ≤ x + 1 → m ≤ y + 1 → m = max x y → 2 ^ (x / 2) ≤ l.size + 1 → 2 ^ (y / 2) ≤ r.size + 1 → 2 ^ ((1 + m) / 2) ≤ l.size + 1 + r.size + 1 := fun m x y hx hy hm ha hb => by
      by_cases h0 : m = 0
      · subst h0; simp
      · have e1 : (1 + m) / 2 = (m - 1) / 2 + 1 := by omega
        have e2 : 2 ^ ((m - 1) / 2) ≤ 2 ^ (x / 2) := Nat.pow_le_pow_right (by omega) (by omega)
        have e3 : 2 ^ ((m - 1) / 2) ≤ 2 ^ (y / 2) := Nat.pow_le_pow_right (by omega) (by omega)
        rw [e1, Nat.pow_succ]
        omega
    exact key (max l.high r.high) l.high r.high (by omega) (by omega) rfl a b
theorem high_lg {t : Tr} (h : Bal t) (hs : t.size ≤ 1099511627776) : t.high ≤ 2 * lg (t.size : Int) + 1 := by
  have h1 := bal_size t h
  by_cases h0 : t.size = 0
  · have := t.high_le; omega
  · have h2 := (lg_all (n := (t.size : Int)) (by omega) (by omega)).2.2.2
    have h3 : t.size < 2 ^ lg (t.size : Int) := by exact_mod_cast h2
    have h4 : 2 ^ (t.high / 2) ≤ 2 ^ lg (t.size : Int) := by omega
    have h5 := (Nat.pow_le_pow_iff_right (by omega)).1 h4
    omega

/-! ### Ranks -/
def rankT (k : ByteArray) : Tr → Nat
  | .nil => 0
  | .node l k' _ _ r => if klb k' k then l.size + 1 + rankT k r else rankT k l
theorem rankT_le (k : ByteArray) : ∀ t : Tr, rankT k t ≤ t.size
  | .nil => Nat.le_refl _
  | .node l k' _ _ r => by
    have := rankT_le k l
    have := rankT_le k r
    unfold rankT
    simp only [Tr.size]
    split <;> omega
theorem rankT_rows (k : ByteArray) : ∀ t : Tr, Rising t.rows → t.rows.take (rankT k t) = t.rows.filter (fun x => klb x.1 k) ∧ t.rows.drop (rankT k t) = t.rows.filter (fun x => !klb x.1 k)
  | .nil, _ => ⟨rfl, rfl⟩
  | .node l k' e' s' r, h => by
    have hp := List.pairwise_append.1 h
    have hr := List.pairwise_cons.1 hp.2.1
    obtain ⟨a1, a2⟩ := rankT_rows k l hp.1
    obtain ⟨b1, b2⟩ := rankT_rows k r hr.2
    have hll := l.rows_length
    unfold rankT
    show (l.rows ++ (k', e', s') :: r.rows).take _ = (l.rows ++ (k', e', s') :: r.rows).filter _ ∧ (l.rows ++ (k', e', s') :: r.rows).drop _ = (l.rows ++ (k', e', s') :: r.rows).filter _
    split
    · rename_i h1
      have hl1 : l.rows.filter (fun x => klb x.1 k) = l.rows := List.filter_eq_self.2 fun x hx => klb_trans (hp.2.2 x hx _ (List.mem_cons_self ..)) h1
      have hl2 : l.rows.filter (fun x => !klb x.1 k) = [] := List.filter_eq_nil_iff.2 fun x hx => by simp [klb_trans (hp.2.2 x hx _ (List.mem_cons_self ..)) h1]
      have e : l.size + 1 + rankT k r = l.rows.length + (rankT k r + 1) := by omega
      rw [e, List.take_length_add_append, List.drop_length_add_append]
      simp only [List.take_succ_cons, List.drop_succ_cons, List.filter_append, List.filter_cons, h1, Bool.not_true, Bool.false_eq_true, if_true, if_false, hl1, hl2, b1, b2, List.nil_append, and_self]
    · rename_i h1
      have h1 : klb k' k = false := by simpa using h1
      have hr1 : r.rows.filter (fun x => klb x.1 k) = [] := List.filter_eq_nil_iff.2 fun x hx => by
        cases hx' : klb x.1 k
        · simp
        · have := klb_trans (hr.1 x hx) hx'; rw [h1] at this; cases this
      have hr2 : r.rows.filter (fun x => !klb x.1 k) = r.rows := List.filter_eq_self.2 fun x hx => by
        cases hx' : klb x.1 k
        · rfl
        · have := klb_trans (hr.1 x hx) hx'; rw [h1] at this; cases this
      have hle : rankT k l ≤ l.rows.length := by rw [hll]; exact rankT_le k l
      rw [List.take_append_of_le_length hle, List.drop_append_of_le_length hle]
      simp only [List.filter_append, List.filter_cons, h1, Bool.not_false, Bool.false_eq_true, if_true, if_false, hr1, hr2, a1, a2, List.append_nil, and_self]
theorem rankT_count (k : ByteArray) (t : Tr) (h : Rising t.rows) : rankT k t = (t.rows.filter fun x => klb x.1 k).length := by
  rw [← (rankT_rows k t h).1, List.length_take, Tr.rows_length]
  have := rankT_le k t
  omega
theorem rankT_mono {a b : ByteArray} (hab : klb b a = false) (t : Tr) (h : Rising t.rows) : rankT a t ≤ rankT b t := by
  rw [rankT_count a t h, rankT_count b t h]
  rw [← List.countP_eq_length_filter, ← List.countP_eq_length_filter]
  exact List.countP_mono_left fun x _ hx => klb_of_le' hx hab
theorem rankT_empty (t : Tr) : rankT ⟨#[]⟩ t = 0 := by
  have hb : ∀ k : ByteArray, klb k ⟨#[]⟩ = false := fun k => by
    unfold klb
    have : (⟨#[]⟩ : ByteArray).toList = [] := by rw [Lib.toList_data]
    rw [this]
    cases k.toList <;> rfl
  induction t with
  | nil => rfl
  | node l k' _ _ r ih1 ih2 => unfold rankT; rw [hb]; simpa using ih1

/-! ### Sums, pieces -/
/-- A tally as the program holds it. -/
def T3.ok (s : T3) : Prop := (-9223372036854775808 ≤ s.1 ∧ s.1 ≤ 9223372036854775807) ∧ (0 ≤ s.2.1 ∧ s.2.1 ≤ 18446744073709551615) ∧ (0 ≤ s.2.2 ∧ s.2.2 ≤ 18446744073709551615)
theorem tadd_ok (s t : T3) : (tadd s t).ok := by
  simp only [T3.ok, tadd, u64_eq, wrap64]
  refine ⟨⟨?_, ?_⟩, ⟨?_, ?_⟩, ?_, ?_⟩ <;> omega
theorem tadd_zero {s : T3} (h : s.ok) : tadd s (0, 0, 0) = s := by
  obtain ⟨a, b, c⟩ := s
  simp only [T3.ok] at h
  simp only [tadd, u64_eq, wrap64, Int.add_zero]
  refine Prod.ext ?_ (Prod.ext ?_ ?_) <;> simp only <;> omega
theorem zero_tadd {s : T3} (h : s.ok) : tadd (0, 0, 0) s = s := by rw [tadd_comm]; exact tadd_zero h
def tsum (l : List T3) : T3 := l.foldr tadd (0, 0, 0)
theorem tsum_ok : ∀ l : List T3, (tsum l).ok
  | [] => by simp [tsum, T3.ok]
  | x :: l => tadd_ok _ _
theorem tsum_append : ∀ a b : List T3, tsum (a ++ b) = tadd (tsum a) (tsum b)
  | [], b => (zero_tadd (tsum_ok b)).symm
  | x :: a, b => by
    show tadd x (tsum (a ++ b)) = tadd (tadd x (tsum a)) (tsum b)
    rw [tsum_append a b, tadd_assoc]
theorem tsum_one {s : T3} (h : s.ok) : tsum [s] = s := tadd_zero h
def Tr.talls (t : Tr) : List T3 := t.rows.map fun x => x.2.2
/-- Every row's tally is as the program holds it. -/
def Oks (l : List T3) : Prop := ∀ s ∈ l, T3.ok s
theorem Oks.left {a b : List T3} (h : Oks (a ++ b)) : Oks a := fun s hs => h s (List.mem_append_left _ hs)
theorem Oks.right {a b : List T3} (h : Oks (a ++ b)) : Oks b := fun s hs => h s (List.mem_append_right _ hs)
theorem Tr.talls_node (l : Tr) (k : ByteArray) (e : Ent) (s : T3) (r : Tr) : (Tr.node l k e s r).talls = l.talls ++ s :: r.talls := by simp [talls, rows]
theorem sum_tsum : ∀ t : Tr, Oks t.talls → t.sum = tsum t.talls
  | .nil, _ => rfl
  | .node l k e s r, h => by
    rw [Tr.talls_node] at h ⊢
    have h1 := sum_tsum l h.left
    have h2 := sum_tsum r (fun x hx => h.right x (List.mem_cons_of_mem _ hx))
    have hs : s.ok := h.right s (List.mem_cons_self ..)
    have e2 : tsum (l.talls ++ s :: r.talls) = tadd (tadd (tsum l.talls) s) (tsum r.talls) := by
      rw [tsum_append, tadd_assoc]; rfl
    rw [e2, ← h1, ← h2]
    cases l with
    | nil =>
      cases r with
      | nil => show s = tadd (tadd (0, 0, 0) s) (0, 0, 0); rw [zero_tadd hs, tadd_zero hs]
      | node a b c d f => show tadd s (Tr.node a b c d f).sum = tadd (tadd (0, 0, 0) s) (Tr.node a b c d f).sum; rw [zero_tadd hs]
    | node a b c d f =>
      cases r with
      | nil => show tadd (Tr.node a b c d f).sum s = tadd (tadd (Tr.node a b c d f).sum s) (0, 0, 0); rw [tadd_zero (tadd_ok _ _)]
      | node a b c d f => rfl
def piecesT (i j : Int) : Tr → List T3
  | .nil => []
  | .node l k e s r =>
    if i ≥ j then [] else if i ≤ 0 ∧ j ≥ (Tr.node l k e s r).size then [(Tr.node l k e s r).sum]
    else piecesT i (min j l.size) l ++ (if i ≤ l.size ∧ (l.size : Int) < j then [s] else []) ++ piecesT (max (i - l.size - 1) 0) (j - l.size - 1) r
/-- The rows from i on, below j. -/
def cutL (i j : Int) (l : List T3) : List T3 := (l.take j.toNat).drop i.toNat
theorem cutL_nil (i j : Int) : cutL i j [] = [] := by simp [cutL]
theorem cutL_ge {i j : Int} (h : i ≥ j) (l : List T3) : cutL i j l = [] := by
  unfold cutL
  rw [List.drop_eq_nil_iff, List.length_take]; omega
theorem cutL_all {i j : Int} {l : List T3} (h : i ≤ 0) (k : j ≥ l.length) : cutL i j l = l := by
  unfold cutL
  rw [List.take_of_length_le (by omega), show i.toNat = 0 by omega, List.drop_zero]
theorem cutL_append {i j : Int} (h0 : 0 ≤ i) (a : List T3) (s : T3) (b : List T3) :
    cutL i j (a ++ s :: b) = cutL i (min j a.length) a ++ (if i ≤ a.length ∧ (a.length : Int) < j then [s] else []) ++ cutL (max (i - a.length - 1) 0) (j - a.length - 1) b := by
  unfold cutL
  by_cases h1 : j ≤ a.length
  · have e1 : (if i ≤ a.length ∧ (a.length : Int) < j then [s] else []) = [] := if_neg (by omega)
    have e2 : (j - a.length - 1).toNat = 0 := by omega
    rw [e1, e2, List.take_zero, List.drop_nil, List.append_nil, List.append_nil, List.take_append_of_le_length (by omega)]
    rw [show (min j (a.length : Int)).toNat = j.toNat by omega]
  · have e3 : j.toNat = a.length + ((j - a.length - 1).toNat + 1) := by omega
    have e4 : (min j (a.length : Int)).toNat = a.length := by omega
    rw [e3, List.take_length_add_append, e4, List.take_length, List.take_succ_cons]
    by_cases h2 : i ≤ a.length
    · rw [if_pos ⟨h2, by omega⟩, List.drop_append_of_le_length (by omega)]
      rw [show (max (i - a.length - 1) 0).toNat = 0 by omega, List.drop_zero]
      simp
    · rw [if_neg (by omega), show i.toNat = a.length + ((max (i - a.length - 1) 0).toNat + 1) by omega, List.drop_length_add_append, List.drop_succ_cons]
      rw [show a.drop (a.length + ((max (i - a.length - 1) 0).toNat + 1)) = [] by rw [List.drop_eq_nil_iff]; omega]
      simp
theorem pieces_sum : ∀ (t : Tr) (i j : Int), 0 ≤ i → Oks t.talls → tsum (piecesT i j t) = tsum (cutL i j t.talls)
  | .nil, i, j, _, _ => by rw [show Tr.nil.talls = [] from rfl, cutL_nil]; rfl
  | .node l k e s r, i, j, h0, h => by
    have hlen : ∀ t : Tr, t.talls.length = t.size := fun t => by simp [Tr.talls, Tr.rows_length]
    unfold piecesT
    split
    · rename_i h1; rw [cutL_ge h1]
    · split
      · rename_i h1 h2
        rw [cutL_all h2.1 (by rw [hlen]; exact h2.2), sum_tsum _ h]
        exact tsum_one (tsum_ok _)
      · rw [Tr.talls_node] at h ⊢
        rw [cutL_append h0, tsum_append, tsum_append, tsum_append, tsum_append, hlen]
        rw [pieces_sum l _ _ h0 h.left, pieces_sum r _ _ (by omega) (fun x hx => h.right x (List.mem_cons_of_mem _ hx))]
theorem pieces_one {t : Tr} {i j : Int} (h : i ≤ 0) (k : j ≥ t.size) : (piecesT i j t).length ≤ 1 := by
  cases t with
  | nil => simp [piecesT]
  | node l k' e s r =>
    unfold piecesT
    split
    · simp
    · rw [if_pos ⟨h, k⟩]; simp
theorem pieces_none {t : Tr} {i j : Int} (h : i ≥ j) : piecesT i j t = [] := by
  cases t with
  | nil => rfl
  | node l k' e s r => unfold piecesT; rw [if_pos h]
theorem ite_len (p : Prop) [Decidable p] (s : T3) : (if p then [s] else ([] : List T3)).length ≤ 1 := by split <;> simp
theorem pieces_pre : ∀ (t : Tr) (i j : Int), i ≤ 0 → (piecesT i j t).length ≤ 2 * t.high
  | .nil, i, j, _ => by simp [piecesT]
  | .node l k e s r, i, j, h => by
    have h3 := ite_len (i ≤ (l.size : Int) ∧ (l.size : Int) < j) s
    by_cases h1 : j ≤ l.size
    · have hr : piecesT (max (i - l.size - 1) 0) (j - l.size - 1) r = [] := pieces_none (by omega)
      have hl := pieces_pre l i (min j l.size) h
      unfold piecesT
      simp only [Tr.high]
      split
      · simp
      · split
        · simp; omega
        · rw [hr, if_neg (by omega)]; simp; omega
    · have hr := pieces_pre r (max (i - l.size - 1) 0) (j - l.size - 1) (by omega)
      have hl := pieces_one (t := l) (i := i) (j := min j l.size) h (by omega)
      unfold piecesT
      simp only [Tr.high]
      split
      · simp
      · split
        · simp; omega
        · simp only [List.length_append]; omega
theorem pieces_suf : ∀ (t : Tr) (i j : Int), j ≥ t.size → (piecesT i j t).length ≤ 2 * t.high
  | .nil, i, j, _ => by simp [piecesT]
  | .node l k e s r, i, j, h => by
    have h3 := ite_len (i ≤ (l.size : Int) ∧ (l.size : Int) < j) s
    simp only [Tr.size] at h
    by_cases h1 : i ≤ l.size
    · have hl := pieces_suf l i (min j l.size) (by omega)
      have hr := pieces_one (t := r) (i := max (i - l.size - 1) 0) (j := j - l.size - 1) (by omega) (by omega)
      unfold piecesT
      simp only [Tr.high]
      split
      · simp
      · split
        · simp; omega
        · simp only [List.length_append]; omega
    · have hl : piecesT i (min j l.size) l = [] := pieces_none (by omega)
      have hr := pieces_suf r (max (i - l.size - 1) 0) (j - l.size - 1) (by omega)
      unfold piecesT
      simp only [Tr.high]
      split
      · simp
      · split
        · simp; omega
        · rw [hl, if_neg (by omega)]; simp; omega
theorem pieces_few : ∀ (t : Tr) (i j : Int), (piecesT i j t).length ≤ 4 * t.high
  | .nil, i, j => by simp [piecesT]
  | .node l k e s r, i, j => by
    have h3 := ite_len (i ≤ (l.size : Int) ∧ (l.size : Int) < j) s
    unfold piecesT
    simp only [Tr.high]
    split
    · simp
    · split
      · simp; omega
      · simp only [List.length_append]
        by_cases h1 : i ≤ l.size
        · by_cases h2 : (l.size : Int) < j
          · have hl := pieces_suf l i (min j l.size) (by omega)
            have hr := pieces_pre r (max (i - l.size - 1) 0) (j - l.size - 1) (by omega)
            omega
          · have hl := pieces_few l i (min j l.size)
            have hr : piecesT (max (i - l.size - 1) 0) (j - l.size - 1) r = [] := pieces_none (by omega)
            rw [hr]; simp; omega
        · have hl : piecesT i (min j l.size) l = [] := pieces_none (by omega)
          have hr := pieces_few r (max (i - l.size - 1) 0) (j - l.size - 1)
          rw [hl]; simp; omega
/-- Two parts of a row, cut anywhere. -/
theorem cut_two {t : Tr} {i j n : Int} (h : Oks t.talls) (h0 : 0 ≤ i) (h1 : i ≤ j) (h2 : j ≤ n) : tadd (tsum (piecesT i j t)) (tsum (piecesT j n t)) = tsum (piecesT i n t) := by
  rw [pieces_sum t i j h0 h, pieces_sum t j n (by omega) h, pieces_sum t i n h0 h, ← tsum_append]
  congr 1
  unfold cutL
  have e1 : (t.talls.take n.toNat) = t.talls.take j.toNat ++ (t.talls.take n.toNat).drop j.toNat := by
    have := (List.take_append_drop j.toNat (t.talls.take n.toNat)).symm
    rw [List.take_take, show min j.toNat n.toNat = j.toNat by omega] at this
    exact this
  by_cases h3 : j.toNat ≤ t.talls.length
  · conv => rhs; rw [e1]
    rw [List.drop_append_of_le_length (by rw [List.length_take]; omega)]
  · have e2 : (t.talls.take n.toNat).drop j.toNat = [] := by rw [List.drop_eq_nil_iff, List.length_take]; omega
    rw [e2, List.append_nil]
    conv => rhs; rw [e1, e2, List.append_nil]
end Go.Proofs.YtdflmplmpjghdaaGreatDoor
