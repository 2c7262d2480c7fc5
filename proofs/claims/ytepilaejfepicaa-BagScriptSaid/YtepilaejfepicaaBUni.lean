/-
  The bag and the reference's bag as one machine: what each method answers, and the state behind it.
-/
import Derived.Test.YtepilaejfepicaaBGoes
namespace Go.Proofs.Ytepilaejfepicaa
open Go.ChangeShapes Go.WideShapes Go.ChangeAt Go.RowKit Go.Deep
set_option linter.unusedVariables false
set_option linter.unusedSimpArgs false

abbrev Key := Int × Int × Int × ByteArray
/-- A bag: its room, its last number, how many were lost, its packets. -/
structure St where
  room : Int
  num : Int
  lost : Int
  K : List Key
open Classical in
noncomputable def sendS (S : St) (f t : Int) (s : ByteArray) : Int × Int × St :=
  if badWay f t then (0, 1, S) else if 65536 < s.size then (0, 120, S) else if S.room ≤ (S.K.length : Int) then (0, 0, { S with lost := S.lost + 1 }) else (S.num + 1, 0, { S with num := S.num + 1, K := S.K ++ [(S.num + 1, f, t, s)] })
def noKey : Key := (0, 0, 0, ByteArray.empty)
def takeS (S : St) (i : Int) : Key × Int × St :=
  if i < 0 ∨ (S.K.length : Int) ≤ i then (noKey, 161, S) else (S.K.getD i.toNat noKey, 0, { S with K := S.K.take i.toNat ++ S.K.drop (i.toNat + 1) })
def dropS (S : St) (i : Int) : Int × St :=
  if i < 0 ∨ (S.K.length : Int) ≤ i then (161, S) else (0, { S with lost := S.lost + 1, K := S.K.take i.toNat ++ S.K.drop (i.toNat + 1) })
def doubleS (S : St) (i : Int) : Int × Int × St :=
  if i < 0 ∨ (S.K.length : Int) ≤ i then (0, 161, S) else if S.room ≤ (S.K.length : Int) then (0, 0, { S with lost := S.lost + 1 }) else (S.num + 1, 0, { S with num := S.num + 1, K := S.K ++ [(S.num + 1, (S.K.getD i.toNat noKey).2)] })

/-- What a state may be behind m steps. -/
structure St.Ok (S : St) (m : Nat) : Prop where
  few : S.K.length ≤ 512
  room : S.room ≤ 512
  num : 0 ≤ S.num ∧ S.num ≤ m
  lost : 0 ≤ S.lost ∧ S.lost ≤ m
  size : ∀ k ∈ S.K, k.2.2.2.size ≤ 65536
theorem St.Ok.mono {S : St} {m : Nat} (h : S.Ok m) : S.Ok (m + 1) := ⟨h.few, h.room, ⟨h.num.1, by have := h.num.2; omega⟩, ⟨h.lost.1, by have := h.lost.2; omega⟩, h.size⟩
theorem St.Ok.cut {S : St} {m : Nat} (h : S.Ok m) (i : Nat) : ∀ k ∈ S.K.take i ++ S.K.drop (i + 1), k.2.2.2.size ≤ 65536 := fun k hk => h.size k ((List.mem_append.1 hk).elim List.mem_of_mem_take List.mem_of_mem_drop)
theorem cut_len {α : Type} (l : List α) (i : Nat) : (l.take i ++ l.drop (i + 1)).length ≤ l.length := by
  rw [List.length_append, List.length_take, List.length_drop]; omega
theorem sendS_ok {S : St} {m : Nat} (h : S.Ok m) (f t : Int) (s : ByteArray) : (sendS S f t s).2.2.Ok (m + 1) ∧ (sendS S f t s).2.2.room = S.room := by
  unfold sendS
  split
  · exact ⟨h.mono, rfl⟩
  split
  · exact ⟨h.mono, rfl⟩
  split
  · exact ⟨⟨h.few, h.room, h.mono.num, ⟨by have := h.lost; show 0 ≤ S.lost + 1; omega, by have := h.lost; show S.lost + 1 ≤ _; omega⟩, h.size⟩, rfl⟩
  · refine ⟨⟨?_, h.room, ⟨by have := h.num; show 0 ≤ S.num + 1; omega, by have := h.num; show S.num + 1 ≤ _; omega⟩, h.mono.lost, ?_⟩, rfl⟩
    · have := h.room
      show (S.K ++ [_]).length ≤ 512
      rw [List.length_append, List.length_singleton]
      omega
    · intro k hk
      rcases List.mem_append.1 hk with hk | hk
      · exact h.size k hk
      · obtain rfl : k = (S.num + 1, f, t, s) := by simpa using hk
        show s.size ≤ 65536
        omega
theorem takeS_ok {S : St} {m : Nat} (h : S.Ok m) (i : Int) : (takeS S i).2.2.Ok (m + 1) ∧ (takeS S i).2.2.room = S.room := by
  unfold takeS
  split
  · exact ⟨h.mono, rfl⟩
  · exact ⟨⟨Nat.le_trans (cut_len _ _) h.few, h.room, h.mono.num, h.mono.lost, h.cut _⟩, rfl⟩
theorem dropS_ok {S : St} {m : Nat} (h : S.Ok m) (i : Int) : (dropS S i).2.Ok (m + 1) ∧ (dropS S i).2.room = S.room := by
  unfold dropS
  split
  · exact ⟨h.mono, rfl⟩
  · exact ⟨⟨Nat.le_trans (cut_len _ _) h.few, h.room, h.mono.num, ⟨by have := h.lost; show 0 ≤ S.lost + 1; omega, by have := h.lost; show S.lost + 1 ≤ _; omega⟩, h.cut _⟩, rfl⟩
theorem getD_mem {S : St} (i : Nat) (h : i < S.K.length) : S.K.getD i noKey = S.K[i] := by simp [h]
theorem doubleS_ok {S : St} {m : Nat} (h : S.Ok m) (i : Int) : (doubleS S i).2.2.Ok (m + 1) ∧ (doubleS S i).2.2.room = S.room := by
  unfold doubleS
  split
  · exact ⟨h.mono, rfl⟩
  rename_i hi
  split
  · exact ⟨⟨h.few, h.room, h.mono.num, ⟨by have := h.lost; show 0 ≤ S.lost + 1; omega, by have := h.lost; show S.lost + 1 ≤ _; omega⟩, h.size⟩, rfl⟩
  · refine ⟨⟨?_, h.room, ⟨by have := h.num; show 0 ≤ S.num + 1; omega, by have := h.num; show S.num + 1 ≤ _; omega⟩, h.mono.lost, ?_⟩, rfl⟩
    · have := h.room
      show (S.K ++ [_]).length ≤ 512
      rw [List.length_append, List.length_singleton]
      omega
    · intro k hk
      rcases List.mem_append.1 hk with hk | hk
      · exact h.size k hk
      · obtain rfl : k = (S.num + 1, (S.K.getD i.toNat noKey).2) := by simpa using hk
        have hlt : i.toNat < S.K.length := by omega
        show (S.K.getD i.toNat noKey).2.2.2.size ≤ 65536
        rw [getD_mem _ hlt]
        exact h.size _ (List.getElem_mem hlt)

/-! ### The bag -/
/-- The packets' bytes lie in blocks of which D tells. -/
def InD (D : Nat → Prop) (L : List Pk) : Prop := ∀ p ∈ L, p.s.size = 0 ∨ ∃ g, p.ad = some ⟨g, 0, none⟩ ∧ D g
theorem InD.mono {D D' : Nat → Prop} {L : List Pk} (h : InD D L) (hd : ∀ g, D g → D' g) : InD D' L := fun p hp => (h p hp).imp id fun ⟨g, e, hg⟩ => ⟨g, e, hd g hg⟩
theorem InD.push {D : Nat → Prop} {L : List Pk} (h : InD D L) {q : Pk} (hq : q.s.size = 0 ∨ ∃ g, q.ad = some ⟨g, 0, none⟩ ∧ D g) : InD D (L ++ [q]) := fun p hp => by
  rcases List.mem_append.1 hp with hp | hp
  · exact h p hp
  · obtain rfl : p = q := by simpa using hp
    exact hq
theorem InD.cut {D : Nat → Prop} {L : List Pk} (h : InD D L) (i : Nat) : InD D (L.take i ++ L.drop (i + 1)) := fun p hp => h p ((List.mem_append.1 hp).elim List.mem_of_mem_take List.mem_of_mem_drop)
def BagI (w : World) (B b : Nat) (vs : Value) (S : St) (D : Nat → Prop) : Prop := ∃ L, BagAt w B b vs S.room S.num S.lost L ∧ L.map Pk.key4 = S.K ∧ (∀ p ∈ L, p.Ok) ∧ InD D L
def RBagI (w : World) (B b : Nat) (vs : Value) (S : St) (D : Nat → Prop) : Prop := ∃ L, RBagAt w B b vs S.room S.num S.lost L ∧ L.map Pk.key4 = S.K ∧ InD D L
theorem BagI.below {w w' : World} {B b : Nat} {vs : Value} {S : St} {D : Nat → Prop} (h : BagI w B b vs S D) (hb : Below w.heap.size w w') : BagI w' B b vs S D := by
  obtain ⟨L, h1, h2⟩ := h; exact ⟨L, h1.below hb, h2⟩
theorem RBagI.below {w w' : World} {B b : Nat} {vs : Value} {S : St} {D : Nat → Prop} (h : RBagI w B b vs S D) (hb : Below w.heap.size w w') : RBagI w' B b vs S D := by
  obtain ⟨L, h1, h2⟩ := h; exact ⟨L, h1.below hb, h2⟩
theorem BagI.any {w : World} {B b : Nat} {vs : Value} {S : St} {D : Nat → Prop} (h : BagI w B b vs S D) : BagI w B b vs S (fun g => g < w.heap.size) := by
  obtain ⟨L, h1, h2, h3, _⟩ := h
  exact ⟨L, h1, h2, h3, fun p hp => (h1.2.2.2 p hp).imp id fun ⟨g, cs, _, e, hg, _⟩ => ⟨g, e, blk_lt hg⟩⟩
theorem RBagI.any {w : World} {B b : Nat} {vs : Value} {S : St} {D : Nat → Prop} (h : RBagI w B b vs S D) : RBagI w B b vs S (fun g => g < w.heap.size) := by
  obtain ⟨L, h1, h2, _⟩ := h
  exact ⟨L, h1, h2, fun p hp => (h1.2.2.2 p hp).imp id fun ⟨g, cs, fr, _, e, hg, _⟩ => ⟨g, e, blk_lt hg⟩⟩
theorem BagI.mono {w : World} {B b : Nat} {vs : Value} {S : St} {D D' : Nat → Prop} (h : BagI w B b vs S D) (hd : ∀ g, D g → D' g) : BagI w B b vs S D' := by
  obtain ⟨L, h1, h2, h3, h4⟩ := h; exact ⟨L, h1, h2, h3, h4.mono hd⟩
theorem RBagI.mono {w : World} {B b : Nat} {vs : Value} {S : St} {D D' : Nat → Prop} (h : RBagI w B b vs S D) (hd : ∀ g, D g → D' g) : RBagI w B b vs S D' := by
  obtain ⟨L, h1, h2, h3⟩ := h; exact ⟨L, h1, h2, h3.mono hd⟩
theorem BagI.form {w : World} {B b : Nat} {vs : Value} {S : St} {D : Nat → Prop} (h : BagI w B b vs S D) : ∃ oa ca, vs = .slice oa S.K.length ca := by
  obtain ⟨L, h1, h2, _⟩ := h
  obtain ⟨oa, ca, h3, _⟩ := row_form h1.2.2.1
  exact ⟨oa, ca, by rw [h3, ← h2, List.length_map]⟩
/-- What a step does to the row: its first n packets stay, in their block; a new row is in a new block. -/
structure Stp (w w' : World) (b : Nat) (vs vs' : Value) (n n' : Nat) : Prop where
  keep : Keep (mine b vs) w w'
  row : ∀ g, vs'.ownBlock = some g → (vs.ownBlock = some g ∧ n ≤ n') ∨ w.heap.size ≤ g
  same : ∀ g, vs.ownBlock = some g → ∃ cs cs', w.heap[g]? = some (.cells cs 39 (0, 0)) ∧ w'.heap[g]? = some (.cells cs' 39 (0, 0)) ∧ ∀ j, j < n * 4 → cs'[j]? = cs[j]?
theorem own_blk {w : World} {B : Nat} {vs : Value} {n : Nat} {xs : List Value} (h : w.ownsRow B 39 4 vs n xs) {g : Nat} (hg : vs.ownBlock = some g) : ∃ cs, w.heap[g]? = some (.cells cs 39 (0, 0)) ∧ ∀ j, j < n * 4 → cs[j]? = xs[j]? := by
  rcases h.2 with ⟨rfl, _⟩ | ⟨g', cap, cur, rfl, _, hh, hn, _, hcs, ht⟩
  · cases hg
  · simp only [Value.ownBlock, Option.some.injEq] at hg
    subst hg
    exact ⟨cur, hh, fun j hj => by rw [← ht, List.getElem?_take, if_pos hj, Array.getElem?_toList]⟩
/-- The row is the same one, and begins as it did; or nothing but the bag's own block has turned. -/
theorem Stp.mk' {w w' : World} {B b : Nat} {vs vs' : Value} {n m : Nat} {xs ys : List Value} (hk : Keep (mine b vs) w w') (h : w.ownsRow B 39 4 vs n xs) (h' : w'.ownsRow B 39 4 vs' m (xs ++ ys)) (hb : vs.ownBlock ≠ some b)
    (hat : vs'.ownBlock = vs.ownBlock ∨ ((∀ g, vs'.ownBlock = some g → w.heap.size ≤ g) ∧ Keep (fun k => k = b) w w')) : Stp w w' b vs vs' n m := by
  have hx := h.1
  have hm := h'.1
  rw [List.length_append] at hm
  refine ⟨hk, fun g hg => ?_, fun g hg => ?_⟩
  · rcases hat with e | ⟨e, _⟩
    · exact Or.inl ⟨by rw [← e]; exact hg, by omega⟩
    · exact Or.inr (e g hg)
  · obtain ⟨cs, h1, h2⟩ := own_blk h hg
    rcases hat with e | ⟨_, hk1⟩
    · obtain ⟨cs', h3, h4⟩ := own_blk h' (by rw [e]; exact hg)
      exact ⟨cs, cs', h1, h3, fun j hj => by rw [h4 j (by omega), h2 j hj, List.getElem?_append_left (by omega)]⟩
    · exact ⟨cs, cs, h1, hk1.blk h1 (fun e => hb (by rw [hg, e])), fun _ _ => rfl⟩
theorem Stp.mk1 {w w' : World} {B b : Nat} {vs vs' : Value} {n m : Nat} {xs : List Value} (hk : Keep (fun k => k = b) w w') (h : w.ownsRow B 39 4 vs n xs) (hb : vs.ownBlock ≠ some b) (hf : ∀ g, vs'.ownBlock = some g → w.heap.size ≤ g) : Stp w w' b vs vs' n m :=
  ⟨hk.mono (fun k _ e => Or.inl e), fun g hg => Or.inr (hf g hg), fun g hg => by
    obtain ⟨cs, h1, h2⟩ := own_blk h hg
    exact ⟨cs, cs, h1, hk.blk h1 (fun e => hb (by rw [hg, e])), fun _ _ => rfl⟩⟩
theorem Stp.below {w w' : World} {B b : Nat} {vs : Value} {n : Nat} {xs : List Value} (hk : Below w.heap.size w w') (h : w.ownsRow B 39 4 vs n xs) : Stp w w' b vs vs n n :=
  ⟨Keep.of_below hk, fun g hg => Or.inl ⟨hg, Nat.le_refl _⟩, fun g hg => by
    obtain ⟨cs, h1, h2⟩ := own_blk h hg
    exact ⟨cs, cs, h1, blk_below h1 hk, fun _ _ => rfl⟩⟩
theorem BagAt.row_ne {w : World} {B b : Nat} {vs : Value} {room num lost : Int} {L : List Pk} (h : BagAt w B b vs room num lost L) : vs.ownBlock ≠ some b := own_ne h.2.2.1 h.2.1 (by decide)
theorem RBagAt.row_ne {w : World} {B b : Nat} {vs : Value} {room num lost : Int} {L : List Pk} (h : RBagAt w B b vs room num lost L) : vs.ownBlock ≠ some b := own_ne h.2.2.1 h.2.1 (by decide)
theorem keys_push (L : List Pk) (K : List Key) (p : Pk) (h : L.map Pk.key4 = K) : (L ++ [p]).map Pk.key4 = K ++ [p.key4] := by rw [List.map_append, h]; rfl
theorem keys_cut (L : List Pk) (K : List Key) (i : Nat) (h : L.map Pk.key4 = K) : (L.take i ++ L.drop (i + 1)).map Pk.key4 = K.take i ++ K.drop (i + 1) := by rw [List.map_append, List.map_take, List.map_drop, h]
theorem keys_len {L : List Pk} {K : List Key} (h : L.map Pk.key4 = K) : K.length = L.length := by rw [← h, List.length_map]
theorem keys_get {L : List Pk} {K : List Key} (h : L.map Pk.key4 = K) (i : Nat) (hi : i < L.length) : K.getD i noKey = L[i].key4 := by
  rw [← h]
  simp [hi]

theorem send_uni {w : World} {B b : Nat} {vs : Value} {S : St} {D : Nat → Prop} {m : Nat} (hS : S.Ok m) (hm : m ≤ 4611686018427387904) (h : BagI w B b vs S D) (hBw : B ≤ w.heap.size) (f t : Int) (ad : Option Addr) (cap : Nat) (s : ByteArray) (hr : Reads w ad s) (hnil : ad = none → s.size = 0 ∧ cap = 0) :
    Calls Try.prog 10 #[.pointer (some ⟨b, 0, none⟩), .int .i64 f, .int .i64 t, .slice ad s.size cap] w fun e w' => ∃ vs', e = .returned (.tuple #[.int .i64 (sendS S f t s).1, .int .i64 (sendS S f t s).2.1]) ∧ BagI w' B b vs' (sendS S f t s).2.2 (fun g => D g ∨ w.heap.size ≤ g) ∧ Stp w w' b vs vs' S.K.length (sendS S f t s).2.2.K.length := by
  obtain ⟨L, hB, hK, hok, hD⟩ := h
  have hl := keys_len hK
  have h5 := hS.few
  have hn := hS.num
  have ho := hS.lost
  unfold sendS
  by_cases h1 : badWay f t
  · simp only [if_pos h1]
    refine (send_bad _ f t ad cap s.size w h1).mono ?_
    rintro e w' ⟨rfl, rfl⟩
    exact ⟨vs, rfl, ⟨L, hB, hK, hok, (hD.mono fun _ => Or.inl)⟩, by rw [hl]; exact Stp.below (Below.refl _ _) hB.2.2.1⟩
  simp only [if_neg h1]
  by_cases h2 : 65536 < s.size
  · simp only [if_pos h2]
    refine (send_long _ f t ad cap s.size w h1 h2).mono ?_
    rintro e w' ⟨rfl, rfl⟩
    exact ⟨vs, rfl, ⟨L, hB, hK, hok, (hD.mono fun _ => Or.inl)⟩, by rw [hl]; exact Stp.below (Below.refl _ _) hB.2.2.1⟩
  simp only [if_neg h2]
  by_cases h3 : S.room ≤ (S.K.length : Int)
  · simp only [if_pos h3]
    refine (send_full B b vs S.room S.num S.lost L f t ad cap s w hB hr hnil hBw (by omega) (by omega) h1 (by omega) (by omega)).mono ?_
    rintro e w' ⟨rfl, hB', hk⟩
    refine ⟨vs, rfl, ⟨L, hB', hK, hok, (hD.mono fun _ => Or.inl)⟩, ?_⟩
    show Stp _ _ _ _ _ S.K.length S.K.length
    rw [hl]
    exact Stp.mk' (ys := []) hk hB.2.2.1 (by rw [List.append_nil]; exact hB'.2.2.1) hB.row_ne (Or.inl rfl)
  · simp only [if_neg h3]
    refine (send_room B b vs S.room S.num S.lost L f t ad cap s w hB hr hnil hBw (by omega) (by omega) h1 (by omega) (by omega)).mono ?_
    rintro e w' ⟨vs', ad', cap', rfl, hB', hk, hn', hat, hfr⟩
    refine ⟨vs', rfl, ⟨_, hB', keys_push L S.K _ hK, fun p hp => ?_, (hD.mono fun _ => Or.inl).push (hfr.imp id fun ⟨g, e1, e2⟩ => ⟨g, e1, Or.inr e2⟩)⟩, ?_⟩
    · rcases List.mem_append.1 hp with hp | hp
      · exact hok p hp
      · obtain rfl : p = ⟨S.num + 1, f, t, ad', cap', s⟩ := by simpa using hp
        exact ⟨hn', by show s.size ≤ 65536; omega⟩
    · have h9 := hB'.2.2.1
      rw [pflat_append] at h9
      show Stp _ _ _ _ _ S.K.length (S.K ++ [_]).length
      rw [List.length_append, hl]
      rw [List.length_append] at h9
      exact Stp.mk' hk hB.2.2.1 h9 hB.row_ne (hat.imp id fun ⟨⟨g, e1, e2⟩, hk1⟩ => ⟨fun g' hg' => by rw [e1] at hg'; cases hg'; exact e2, hk1⟩)

theorem double_uni {w : World} {B b : Nat} {vs : Value} {S : St} {D : Nat → Prop} {m : Nat} (hS : S.Ok m) (hm : m ≤ 4611686018427387904) (h : BagI w B b vs S D) (hBw : B ≤ w.heap.size) (i : Int) :
    Calls Try.prog 11 #[.pointer (some ⟨b, 0, none⟩), .int .i64 i] w fun e w' => ∃ vs', e = .returned (.tuple #[.int .i64 (doubleS S i).1, .int .i64 (doubleS S i).2.1]) ∧ BagI w' B b vs' (doubleS S i).2.2 D ∧ Stp w w' b vs vs' S.K.length (doubleS S i).2.2.K.length := by
  obtain ⟨L, hB, hK, hok, hD⟩ := h
  have hl := keys_len hK
  have h5 := hS.few
  have hn := hS.num
  have ho := hS.lost
  unfold doubleS
  by_cases h1 : i < 0 ∨ (S.K.length : Int) ≤ i
  · simp only [if_pos h1]
    refine (double_none B b vs S.room S.num S.lost L i w hB (by omega)).mono ?_
    rintro e w' ⟨rfl, rfl⟩
    exact ⟨vs, rfl, ⟨L, hB, hK, hok, hD⟩, by rw [hl]; exact Stp.below (Below.refl _ _) hB.2.2.1⟩
  simp only [if_neg h1]
  have hi : i.toNat < L.length := by omega
  obtain ⟨k, rfl⟩ : ∃ k : Nat, i = k := ⟨i.toNat, by omega⟩
  simp only [Int.toNat_natCast] at hi ⊢
  by_cases h3 : S.room ≤ (S.K.length : Int)
  · simp only [if_pos h3]
    refine (double_full B b vs S.room S.num S.lost L k hi w hB hBw (by omega) (by omega) (by omega)).mono ?_
    rintro e w' ⟨rfl, hB', hk⟩
    refine ⟨vs, rfl, ⟨L, hB', hK, hok, hD⟩, ?_⟩
    show Stp _ _ _ _ _ S.K.length S.K.length
    rw [hl]
    exact Stp.mk' (ys := []) hk hB.2.2.1 (by rw [List.append_nil]; exact hB'.2.2.1) hB.row_ne (Or.inl rfl)
  · simp only [if_neg h3]
    refine (double_room B b vs S.room S.num S.lost L k hi w hB hBw (by omega) (by omega) (by omega)).mono ?_
    rintro e w' ⟨vs', rfl, hB', hk, hat⟩
    refine ⟨vs', rfl, ⟨_, hB', ?_, fun p hp => ?_, hD.push (hD L[k] (List.getElem_mem hi))⟩, ?_⟩
    · rw [keys_get hK k hi]
      exact keys_push L S.K _ hK
    · rcases List.mem_append.1 hp with hp | hp
      · exact hok p hp
      · obtain rfl : p = ⟨S.num + 1, L[k].frm, L[k].to, L[k].ad, L[k].cap, L[k].s⟩ := by simpa using hp
        exact hok L[k] (List.getElem_mem hi)
    · have h9 := hB'.2.2.1
      rw [pflat_append] at h9
      show Stp _ _ _ _ _ S.K.length (S.K ++ [_]).length
      rw [List.length_append, hl]
      rw [List.length_append] at h9
      exact Stp.mk' hk hB.2.2.1 h9 hB.row_ne (hat.imp id fun ⟨⟨g, e1, e2⟩, hk1⟩ => ⟨fun g' hg' => by rw [e1] at hg'; cases hg'; exact e2, hk1⟩)

theorem take_uni {w : World} {B b : Nat} {vs : Value} {S : St} {D : Nat → Prop} {m : Nat} (hS : S.Ok m) (h : BagI w B b vs S D) (hBw : B ≤ w.heap.size) (i : Int) :
    Calls Try.prog 12 #[.pointer (some ⟨b, 0, none⟩), .int .i64 i] w fun e w' => ∃ vs' ad cap, e = .returned (.tuple #[pv (takeS S i).1.1 (takeS S i).1.2.1 (takeS S i).1.2.2.1 ad (takeS S i).1.2.2.2.size cap, .int .i64 (takeS S i).2.1]) ∧ BagI w' B b vs' (takeS S i).2.2 D ∧ Stp w w' b vs vs' S.K.length (takeS S i).2.2.K.length ∧
      (ad = none → (takeS S i).1.2.2.2.size = 0 ∧ cap = 0) ∧ Dat w' w.heap.size ad (takeS S i).1.2.2.2 := by
  obtain ⟨L, hB, hK, hok, hD⟩ := h
  have hl := keys_len hK
  have h5 := hS.few
  unfold takeS
  by_cases h1 : i < 0 ∨ (S.K.length : Int) ≤ i
  · simp only [if_pos h1]
    refine (take_none B b vs S.room S.num S.lost L i w hB (by omega)).mono ?_
    rintro e w' ⟨rfl, hb⟩
    exact ⟨vs, none, 0, rfl, ⟨L, hB.below hb, hK, hok, hD⟩, by rw [hl]; exact Stp.below hb hB.2.2.1, fun _ => ⟨rfl, rfl⟩, Or.inl rfl⟩
  simp only [if_neg h1]
  have hi : i.toNat < L.length := by omega
  obtain ⟨k, rfl⟩ : ∃ k : Nat, i = k := ⟨i.toNat, by omega⟩
  simp only [Int.toNat_natCast] at hi ⊢
  refine (take_ok1 B b vs S.room S.num S.lost L k hi w hB hBw (by omega) hok).mono ?_
  rintro e w' ⟨vs', ad, cap, rfl, hB', hk, hn, hd, hf⟩
  rw [keys_get hK k hi]
  exact ⟨vs', ad, cap, rfl, ⟨_, hB', keys_cut L S.K k hK, fun p hp => hok p ((List.mem_append.1 hp).elim List.mem_of_mem_take List.mem_of_mem_drop), hD.cut k⟩, by rw [hl]; exact Stp.mk1 hk hB.2.2.1 hB.row_ne hf, hn, hd⟩

theorem drop_uni {w : World} {B b : Nat} {vs : Value} {S : St} {D : Nat → Prop} {m : Nat} (hS : S.Ok m) (hm : m ≤ 4611686018427387904) (h : BagI w B b vs S D) (hBw : B ≤ w.heap.size) (i : Int) :
    Calls Try.prog 13 #[.pointer (some ⟨b, 0, none⟩), .int .i64 i] w fun e w' => ∃ vs', e = .returned (.int .i64 (dropS S i).1) ∧ BagI w' B b vs' (dropS S i).2 D ∧ Stp w w' b vs vs' S.K.length (dropS S i).2.K.length := by
  obtain ⟨L, hB, hK, hok, hD⟩ := h
  have hl := keys_len hK
  have h5 := hS.few
  have ho := hS.lost
  unfold dropS
  by_cases h1 : i < 0 ∨ (S.K.length : Int) ≤ i
  · simp only [if_pos h1]
    refine (drop_none B b vs S.room S.num S.lost L i w hB (by omega)).mono ?_
    rintro e w' ⟨rfl, hb⟩
    exact ⟨vs, rfl, ⟨L, hB.below hb, hK, hok, hD⟩, by rw [hl]; exact Stp.below hb hB.2.2.1⟩
  simp only [if_neg h1]
  have hi : i.toNat < L.length := by omega
  obtain ⟨k, rfl⟩ : ∃ k : Nat, i = k := ⟨i.toNat, by omega⟩
  simp only [Int.toNat_natCast] at hi ⊢
  refine (drop_ok1 B b vs S.room S.num S.lost L k hi w hB hBw (by omega) hok (by omega)).mono ?_
  rintro e w' ⟨vs', rfl, hB', hk, hf⟩
  exact ⟨vs', rfl, ⟨_, hB', keys_cut L S.K k hK, fun p hp => hok p ((List.mem_append.1 hp).elim List.mem_of_mem_take List.mem_of_mem_drop), hD.cut k⟩, by rw [hl]; exact Stp.mk1 hk hB.2.2.1 hB.row_ne hf⟩

/-! ### The reference's -/
theorem rsend_uni {w : World} {B b : Nat} {vs : Value} {S : St} {D : Nat → Prop} {m : Nat} (hS : S.Ok m) (hm : m ≤ 4611686018427387904) (h : RBagI w B b vs S D) (hBw : B ≤ w.heap.size) (f t : Int) (ad : Option Addr) (cap : Nat) (s : ByteArray) (hr : Reads w ad s) :
    Calls Try.prog 17 #[.pointer (some ⟨b, 0, none⟩), .int .i64 f, .int .i64 t, .slice ad s.size cap] w fun e w' => ∃ vs', e = .returned (.tuple #[.int .i64 (sendS S f t s).1, .int .i64 (sendS S f t s).2.1]) ∧ RBagI w' B b vs' (sendS S f t s).2.2 (fun g => D g ∨ w.heap.size ≤ g) ∧ Stp w w' b vs vs' S.K.length (sendS S f t s).2.2.K.length := by
  obtain ⟨L, hB, hK, hD⟩ := h
  have hl := keys_len hK
  have h5 := hS.few
  have hn := hS.num
  have ho := hS.lost
  unfold sendS
  by_cases h1 : badWay f t
  · simp only [if_pos h1]
    refine (rsend_bad _ f t ad cap s.size w h1).mono ?_
    rintro e w' ⟨rfl, rfl⟩
    exact ⟨vs, rfl, ⟨L, hB, hK, (hD.mono fun _ => Or.inl)⟩, by rw [hl]; exact Stp.below (Below.refl _ _) hB.2.2.1⟩
  simp only [if_neg h1]
  by_cases h2 : 65536 < s.size
  · simp only [if_pos h2]
    refine (rsend_long _ f t ad cap s.size w h1 h2).mono ?_
    rintro e w' ⟨rfl, rfl⟩
    exact ⟨vs, rfl, ⟨L, hB, hK, (hD.mono fun _ => Or.inl)⟩, by rw [hl]; exact Stp.below (Below.refl _ _) hB.2.2.1⟩
  simp only [if_neg h2]
  by_cases h3 : S.room ≤ (S.K.length : Int)
  · simp only [if_pos h3]
    refine (rsend_full B b vs S.room S.num S.lost L f t ad cap s w hB hr (by omega) (by omega) h1 (by omega) (by omega)).mono ?_
    rintro e w' ⟨rfl, hB', hk⟩
    refine ⟨vs, rfl, ⟨L, hB', hK, (hD.mono fun _ => Or.inl)⟩, ?_⟩
    show Stp _ _ _ _ _ S.K.length S.K.length
    rw [hl]
    exact Stp.mk' (ys := []) hk hB.2.2.1 (by rw [List.append_nil]; exact hB'.2.2.1) hB.row_ne (Or.inl rfl)
  · simp only [if_neg h3]
    refine (rsend_room B b vs S.room S.num S.lost L f t ad cap s w hB hr hBw (by omega) (by omega) h1 (by omega) (by omega)).mono ?_
    rintro e w' ⟨vs', ad', cap', rfl, hB', hk, hn', hat, hfr⟩
    refine ⟨vs', rfl, ⟨_, hB', keys_push L S.K _ hK, (hD.mono fun _ => Or.inl).push (hfr.imp id fun ⟨g, e1, e2⟩ => ⟨g, e1, Or.inr e2⟩)⟩, ?_⟩
    have h9 := hB'.2.2.1
    rw [pflat_append] at h9
    show Stp _ _ _ _ _ S.K.length (S.K ++ [_]).length
    rw [List.length_append, hl]
    rw [List.length_append] at h9
    exact Stp.mk' hk hB.2.2.1 h9 hB.row_ne (hat.imp id fun ⟨⟨g, e1, e2⟩, hk1⟩ => ⟨fun g' hg' => by rw [e1] at hg'; cases hg'; exact e2, hk1⟩)

theorem rdouble_uni {w : World} {B b : Nat} {vs : Value} {S : St} {D : Nat → Prop} {m : Nat} (hS : S.Ok m) (hm : m ≤ 4611686018427387904) (h : RBagI w B b vs S D) (hBw : B ≤ w.heap.size) (i : Int) :
    Calls Try.prog 21 #[.pointer (some ⟨b, 0, none⟩), .int .i64 i] w fun e w' => ∃ vs', e = .returned (.tuple #[.int .i64 (doubleS S i).1, .int .i64 (doubleS S i).2.1]) ∧ RBagI w' B b vs' (doubleS S i).2.2 (fun g => D g ∨ w.heap.size ≤ g) ∧ Stp w w' b vs vs' S.K.length (doubleS S i).2.2.K.length := by
  obtain ⟨L, hB, hK, hD⟩ := h
  have hl := keys_len hK
  have h5 := hS.few
  have hn := hS.num
  have ho := hS.lost
  unfold doubleS
  by_cases h1 : i < 0 ∨ (S.K.length : Int) ≤ i
  · simp only [if_pos h1]
    refine (rdouble_none B b vs S.room S.num S.lost L i w hB (by omega)).mono ?_
    rintro e w' ⟨rfl, rfl⟩
    exact ⟨vs, rfl, ⟨L, hB, hK, (hD.mono fun _ => Or.inl)⟩, by rw [hl]; exact Stp.below (Below.refl _ _) hB.2.2.1⟩
  simp only [if_neg h1]
  have hi : i.toNat < L.length := by omega
  obtain ⟨k, rfl⟩ : ∃ k : Nat, i = k := ⟨i.toNat, by omega⟩
  simp only [Int.toNat_natCast] at hi ⊢
  by_cases h3 : S.room ≤ (S.K.length : Int)
  · simp only [if_pos h3]
    refine (rdouble_full B b vs S.room S.num S.lost L k hi w hB (by omega) (by omega) (by omega)).mono ?_
    rintro e w' ⟨rfl, hB', hk⟩
    refine ⟨vs, rfl, ⟨L, hB', hK, (hD.mono fun _ => Or.inl)⟩, ?_⟩
    show Stp _ _ _ _ _ S.K.length S.K.length
    rw [hl]
    exact Stp.mk' (ys := []) hk hB.2.2.1 (by rw [List.append_nil]; exact hB'.2.2.1) hB.row_ne (Or.inl rfl)
  · simp only [if_neg h3]
    have hs : L[k].s.size ≤ 65536 := hS.size L[k].key4 (by rw [← hK]; exact List.mem_map.2 ⟨_, List.getElem_mem hi, rfl⟩)
    refine (rdouble_room B b vs S.room S.num S.lost L k hi w hB hBw hs (by omega) (by omega) (by omega)).mono ?_
    rintro e w' ⟨vs', ad', cap', rfl, hB', hk, hn', hat, hfr⟩
    refine ⟨vs', rfl, ⟨_, hB', ?_, (hD.mono fun _ => Or.inl).push (hfr.imp id fun ⟨g, e1, e2⟩ => ⟨g, e1, Or.inr e2⟩)⟩, ?_⟩
    · rw [keys_get hK k hi]
      exact keys_push L S.K _ hK
    · have h9 := hB'.2.2.1
      rw [pflat_append] at h9
      show Stp _ _ _ _ _ S.K.length (S.K ++ [_]).length
      rw [List.length_append, hl]
      rw [List.length_append] at h9
      exact Stp.mk' hk hB.2.2.1 h9 hB.row_ne (hat.imp id fun ⟨⟨g, e1, e2⟩, hk1⟩ => ⟨fun g' hg' => by rw [e1] at hg'; cases hg'; exact e2, hk1⟩)

theorem rtake_uni {w : World} {B b : Nat} {vs : Value} {S : St} {D : Nat → Prop} {m : Nat} (hS : S.Ok m) (h : RBagI w B b vs S D) (hBw : B ≤ w.heap.size) (i : Int) :
    Calls Try.prog 18 #[.pointer (some ⟨b, 0, none⟩), .int .i64 i] w fun e w' => ∃ vs' ad cap, e = .returned (.tuple #[pv (takeS S i).1.1 (takeS S i).1.2.1 (takeS S i).1.2.2.1 ad (takeS S i).1.2.2.2.size cap, .int .i64 (takeS S i).2.1]) ∧ RBagI w' B b vs' (takeS S i).2.2 D ∧ Stp w w' b vs vs' S.K.length (takeS S i).2.2.K.length ∧ Reads w' ad (takeS S i).1.2.2.2 := by
  obtain ⟨L, hB, hK, hD⟩ := h
  have hl := keys_len hK
  have h5 := hS.few
  unfold takeS
  by_cases h1 : i < 0 ∨ (S.K.length : Int) ≤ i
  · simp only [if_pos h1]
    refine (rtake_none B b vs S.room S.num S.lost L i w hB (by omega)).mono ?_
    rintro e w' ⟨rfl, hb⟩
    exact ⟨vs, none, 0, rfl, ⟨L, hB.below hb, hK, hD⟩, by rw [hl]; exact Stp.below hb hB.2.2.1, Or.inl rfl⟩
  simp only [if_neg h1]
  have hi : i.toNat < L.length := by omega
  obtain ⟨k, rfl⟩ : ∃ k : Nat, i = k := ⟨i.toNat, by omega⟩
  simp only [Int.toNat_natCast] at hi ⊢
  refine (rtake_ok B b vs S.room S.num S.lost L k hi w hB hBw (by omega)).mono ?_
  rintro e w' ⟨vs', rfl, hB', hk, hf⟩
  rw [keys_get hK k hi]
  have hd := hB.2.2.2 L[k] (List.getElem_mem hi)
  refine ⟨vs', L[k].ad, L[k].cap, rfl, ⟨_, hB', keys_cut L S.K k hK, hD.cut k⟩, by rw [hl]; exact Stp.mk1 hk hB.2.2.1 hB.row_ne hf, ?_⟩
  exact (hd.keep hk (fun g cs fr hg e => by
    subst e
    rw [hB.2.1] at hg
    simp at hg)).reads

theorem rdrop_uni {w : World} {B b : Nat} {vs : Value} {S : St} {D : Nat → Prop} {m : Nat} (hS : S.Ok m) (hm : m ≤ 4611686018427387904) (h : RBagI w B b vs S D) (hBw : B ≤ w.heap.size) (i : Int) :
    Calls Try.prog 20 #[.pointer (some ⟨b, 0, none⟩), .int .i64 i] w fun e w' => ∃ vs', e = .returned (.int .i64 (dropS S i).1) ∧ RBagI w' B b vs' (dropS S i).2 D ∧ Stp w w' b vs vs' S.K.length (dropS S i).2.K.length := by
  obtain ⟨L, hB, hK, hD⟩ := h
  have hl := keys_len hK
  have h5 := hS.few
  have ho := hS.lost
  unfold dropS
  by_cases h1 : i < 0 ∨ (S.K.length : Int) ≤ i
  · simp only [if_pos h1]
    refine (rdrop_none B b vs S.room S.num S.lost L i w hB (by omega)).mono ?_
    rintro e w' ⟨rfl, hb⟩
    exact ⟨vs, rfl, ⟨L, hB.below hb, hK, hD⟩, by rw [hl]; exact Stp.below hb hB.2.2.1⟩
  simp only [if_neg h1]
  have hi : i.toNat < L.length := by omega
  obtain ⟨k, rfl⟩ : ∃ k : Nat, i = k := ⟨i.toNat, by omega⟩
  simp only [Int.toNat_natCast] at hi ⊢
  refine (rdrop_ok B b vs S.room S.num S.lost L k hi w hB hBw (by omega) (by omega)).mono ?_
  rintro e w' ⟨vs', rfl, hB', hk, hf⟩
  exact ⟨vs', rfl, ⟨_, hB', keys_cut L S.K k hK, hD.cut k⟩, by rw [hl]; exact Stp.mk1 hk hB.2.2.1 hB.row_ne hf⟩
end Go.Proofs.Ytepilaejfepicaa
