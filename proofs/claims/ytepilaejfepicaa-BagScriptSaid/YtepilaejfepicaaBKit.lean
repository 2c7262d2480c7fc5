/-
  The bag's memory: packets, rows of packets, bytes that lie in blocks of their own; what a step leaves as it was.
-/
import Derived.Test.YtepilaejfepicaaKeep
import Derived.Deep.Slices
import Derived.Maps.AppendAt
import Derived.Lib.SlBytesRow
import Derived.Lib.AppendStr
import Derived.Lib.AppendZerosOnto
import Derived.SizedLaws
namespace Go.Proofs.Ytepilaejfepicaa
open Go.ChangeShapes Go.WideShapes Go.ChangeAt Go.RowKit Go.Deep
set_option linter.unusedVariables false
set_option linter.unusedSimpArgs false

theorem own : ownKnob Try.prog.godebug = none := by kernel_rfl
theorem laidOut : laidOutB Try.prog = true := by kernel_rfl

/-- A whole number in the range of its kind. -/
def Inr (k : IntKind) (x : Int) : Prop := (Lit.int k x).wf = true
theorem Inr.i64 {x : Int} (h : Inr .i64 x) : -9223372036854775808 ≤ x ∧ x ≤ 9223372036854775807 := by
  simpa [Inr, Lit.wf, IntKind.min, IntKind.max, IntKind.signed, IntKind.bits] using h

/-- The same cell written in both. -/
theorem below_set {B : Nat} {a w : World} (h : Below B a w) (p : Addr) (v : Value) : Below B (a.setCell p v) (w.setCell p v) :=
  ⟨h.os, h.tape, h.output, by simpa [World.setCell] using h.size, fun k hk => by
    have := h.block k hk
    simp only [World.setCell, Array.getElem?_modify, this]⟩
theorem stable_bel {B : Nat} {w0 : World} (h : B ≤ w0.heap.size) : Stable (fun w => Below B w0 w) := fun _ _ hd hb => hd.trans (hb.mono (Nat.le_trans h hd.size))
theorem cell_lt {w : World} {b o : Nat} {v : Value} (h : w.cell? ⟨b, o, none⟩ = some v) : b < w.heap.size := by
  unfold World.cell? at h
  by_cases hb : b < w.heap.size
  · exact hb
  · simp [hb] at h
theorem add_none (b o n : Nat) : (⟨b, o, none⟩ : Addr).add n = ⟨b, o + n, none⟩ := by
  unfold Addr.add
  split <;> simp_all
theorem own_below {w w' : World} {base n size : Nat} {e : TypeId} {v : Value} {xs : List Value} (h : w.ownsRow base e size v n xs) (hb : Below w.heap.size w w') : w'.ownsRow base e size v n xs := by
  refine ⟨h.1, ?_⟩
  rcases h.2 with h2 | ⟨g, cap, cur, hv, hg, hh, r⟩
  · exact Or.inl h2
  · exact Or.inr ⟨g, cap, cur, hv, hg, blk_below hh hb, r⟩

/-- 'append' to a row that the call owns: it stays where it lay, or the new row is new and the old one as it was. -/
theorem run_append_row {P : Program} (w : World) (base : Nat) (t ty e : TypeId) (i : TypeInfo) (z : Value) (size bytes : Nat) (ht : P.underlying t = some (.slice e)) (hi : P.info? e = some i) (hz : i.zero = some z)
    (hsize : i.size = size) (hby : i.bytes = bytes) (hzs : z.cells.size = size) (hsz : 0 < size)
    (v : Value) (n : Nat) (xs : List Value) (hown : w.ownsRow base e size v n xs)
    (a : Addr) (m c : Nat) (news : List Value) (hl : news.length = m * size) (hnews : ∀ j u, news[j]? = some u → w.cell? (a.add j) = some u) (h1 : ∀ u ∈ news, u.oneCell' = true)
    (h63 : n + m ≤ maxLen) (hbytes : (n + m) * bytes ≤ 140737488355328) (hbase : base ≤ w.heap.size) :
    ∃ v' w', (Builtin.append_ #[t, t] ty #[v, .slice (some a) m c]).run P w = .ok v' w' ∧ w'.ownsRow base e size v' (n + m) (xs ++ news) ∧ w.grownBy w' v.ownBlock ∧ (v'.ownBlock = v.ownBlock ∨ (v'.ownBlock = some w.heap.size ∧ w.grownBy w' none)) := by
  obtain ⟨v', w', hr, h2, h3, _, h5⟩ := run_append_own_at (P := P) w base t ty e i z size bytes ht hi hz hsize hby hzs hsz v n xs hown a m c news hl hnews h1 h63 hbytes hbase
  refine ⟨v', w', hr, h2, h3, ?_⟩
  rcases h5 with h5 | h5
  · exact Or.inl h5
  refine Or.inr ⟨h5, ?_⟩
  have new : ∀ ob, w' = w.drew.alloc ob → w.grownBy w' none := fun ob e => by subst e; exact ⟨rfl, rfl, rfl, by simp, fun k hk _ => Below.heap_alloc w.drew _ k hk⟩
  subst hsize
  subst hby
  have hsmall : n + m ≤ 9223372036854775807 := by simp only [maxLen] at h63; omega
  rcases hown.2 with ⟨rfl, rfl⟩ | ⟨g, cap, cur, rfl, hbg, hg, hnc, hcm, hcs, htake⟩
  · exact ⟨h3.os, h3.tape, h3.output, h3.size, fun k hk _ => h3.block k hk (fun e => by cases e)⟩
  · by_cases hroom : n + m ≤ cap
    · have hfit : n * i.size + news.length ≤ cur.size := by rw [hl, hcs, ← Nat.add_mul]; exact Nat.mul_le_mul_right _ hroom
      have hr2 := run_append_room (P := P) w t ty e i ht hi g n cap cur hg a m c news hl hnews h1 hroom hfit
      rw [hr2] at hr
      injection hr with e1 e2
      subst e1
      simp only [Value.ownBlock, Option.some.injEq] at h5
      have := blk_lt hg
      omega
    · have holds : ∀ j u, xs[j]? = some u → w.cell? ((⟨g, 0, none⟩ : Addr).add j) = some u := hown.cells (g := g) rfl
      have hr2 := run_append_grow (P := P) w t ty e i z ht hi hz ⟨g, 0, none⟩ n cap xs hown.1 holds a m c news hl hnews (by omega) (by omega) (growslice_fits (by omega) hbytes)
      rw [hr2] at hr
      injection hr with e1 e2
      exact new _ e2.symm

/-- 'append' to a row that the call owns, whatever is appended: nil, empty or not; the new row lies where the old one lay, or is new. -/
theorem wpList_append_any {P : Program} (w : World) {ops : Array Oper} {rest : List Oper} {o : Oper} {a : Act} {Q : Exit → Act → World → Prop} (hgd : o.guard = none) (s x : Operand) (t : TypeId)
    (ho : o.op = .call { callee := .builtin .append, args := #[s, x], argTypes := #[t, t] })
    (base : Nat) (e : TypeId) (i : TypeInfo) (z : Value) (size bytes : Nat) (ht : P.underlying t = some (.slice e)) (hi : P.info? e = some i) (hz : i.zero = some z)
    (hsize : i.size = size) (hby : i.bytes = bytes) (hzs : z.cells.size = size) (hsz : 0 < size)
    (v : Value) (n : Nat) (xs : List Value) (hs : a.eval s = v) (hown : w.ownsRow base e size v n xs)
    (ao : Option Addr) (m c : Nat) (news : List Value) (hx : a.eval x = .slice ao m c) (hl : news.length = m * size) (hnone : ao = none → m = 0 ∧ c = 0) (hnews : ∀ ad, ao = some ad → ∀ j u, news[j]? = some u → w.cell? (ad.add j) = some u) (h1 : ∀ u ∈ news, u.oneCell' = true)
    (h63 : n + m ≤ maxLen) (hbytes : (n + m) * bytes ≤ 140737488355328) (hbase : base ≤ w.heap.size)
    (h : ∀ v' w', w'.ownsRow base e size v' (n + m) (xs ++ news) → w.grownBy w' v.ownBlock → (v'.ownBlock = v.ownBlock ∨ (v'.ownBlock = some w.heap.size ∧ w.grownBy w' none)) → wpList P ops Q rest (a.put o.dst v') w') : wpList P ops Q (o :: rest) a w := by
  cases ao with
  | some ad =>
    refine wpList_plain hgd fun K hK' => ?_
    obtain ⟨v', w', hr, h2, h3, h5⟩ := run_append_row (P := P) w base t o.type e i z size bytes ht hi hz hsize hby hzs hsz v n xs hown ad m c news hl (hnews ad rfl) h1 h63 hbytes hbase
    unfold Oper.wp execOp
    simp only [ho, resolve, invoke, builtin, Sem.run_bind, Sem.run_pure, Result.andThen_ok, List.map_toArray, List.map_cons, List.map_nil, hs, hx, hr]
    exact hK' _ _ (h v' w' h2 h3 h5)
  | none =>
    obtain ⟨rfl, rfl⟩ := hnone rfl
    have hnews : news = [] := List.eq_nil_of_length_eq_zero (by simpa using hl)
    subst hnews
    refine wpList_plain hgd fun K hK' => ?_
    have hrun := run_append_owned_none (P := P) w base t o.type e i size ht hi v n xs hown
    unfold Oper.wp
    simp [execOp, ho, resolve, invoke, builtin, hs, hx, hrun, Result.andThen]
    exact hK' _ _ (by simpa using h v w (by simpa using hown) (World.grownBy.refl _ _) (Or.inl rfl))
/-- The same as an operation that stands alone. -/
theorem wp_append_any {P : Program} (w : World) {o : Oper} {a : Act} {K : Act → World → Prop} {Q : Exit → Act → World → Prop} (s x : Operand) (t : TypeId)
    (ho : o.op = .call { callee := .builtin .append, args := #[s, x], argTypes := #[t, t] })
    (base : Nat) (e : TypeId) (i : TypeInfo) (z : Value) (size bytes : Nat) (ht : P.underlying t = some (.slice e)) (hi : P.info? e = some i) (hz : i.zero = some z)
    (hsize : i.size = size) (hby : i.bytes = bytes) (hzs : z.cells.size = size) (hsz : 0 < size)
    (v : Value) (n : Nat) (xs : List Value) (hs : a.eval s = v) (hown : w.ownsRow base e size v n xs)
    (ao : Option Addr) (m c : Nat) (news : List Value) (hx : a.eval x = .slice ao m c) (hl : news.length = m * size) (hnone : ao = none → m = 0 ∧ c = 0) (hnews : ∀ ad, ao = some ad → ∀ j u, news[j]? = some u → w.cell? (ad.add j) = some u) (h1 : ∀ u ∈ news, u.oneCell' = true)
    (h63 : n + m ≤ maxLen) (hbytes : (n + m) * bytes ≤ 140737488355328) (hbase : base ≤ w.heap.size)
    (h : ∀ v' w', w'.ownsRow base e size v' (n + m) (xs ++ news) → w.grownBy w' v.ownBlock → (v'.ownBlock = v.ownBlock ∨ (v'.ownBlock = some w.heap.size ∧ w.grownBy w' none)) → K (a.put o.dst v') w') : o.wp P a w K Q := by
  cases ao with
  | some ad =>
    obtain ⟨v', w', hr, h2, h3, h5⟩ := run_append_row (P := P) w base t o.type e i z size bytes ht hi hz hsize hby hzs hsz v n xs hown ad m c news hl (hnews ad rfl) h1 h63 hbytes hbase
    unfold Oper.wp execOp
    simp only [ho, resolve, invoke, builtin, Sem.run_bind, Sem.run_pure, Result.andThen_ok, List.map_toArray, List.map_cons, List.map_nil, hs, hx, hr]
    exact h v' w' h2 h3 h5
  | none =>
    obtain ⟨rfl, rfl⟩ := hnone rfl
    have hnews : news = [] := List.eq_nil_of_length_eq_zero (by simpa using hl)
    subst hnews
    have hrun := run_append_owned_none (P := P) w base t o.type e i size ht hi v n xs hown
    unfold Oper.wp execOp
    simp only [ho, resolve, invoke, builtin, Sem.run_bind, Sem.run_pure, Result.andThen_ok, List.map_toArray, List.map_cons, List.map_nil, hs, hx, hrun]
    exact h v w (by simpa using hown) (World.grownBy.refl _ _) (Or.inl rfl)

theorem info_byte : (Try.prog.info? 5).map (fun i => (i.zero, i.size, i.bytes)) = some (some (.int .u8 0), 1, 1) := by kernel_rfl
theorem info_pk : (Try.prog.info? 39).map (fun i => (i.zero, i.size, i.bytes)) = some (some (.agg #[.int .i64 0, .int .i64 0, .int .i64 0, .slice none 0 0]), 4, 48) := by kernel_rfl

theorem blk4 {w : World} {b : Nat} {x0 x1 x2 x3 : Value} {t : TypeId} (h : w.heap[b]? = some (.cells #[x0, x1, x2, x3] t (0, 0))) :
    w.cell? ⟨b, 0, none⟩ = some x0 ∧ w.cell? ⟨b, 1, none⟩ = some x1 ∧ w.cell? ⟨b, 2, none⟩ = some x2 ∧ w.cell? ⟨b, 3, none⟩ = some x3 ∧ b < w.heap.size ∧ ∀ o, w.frozen? ⟨b, o, none⟩ = false :=
  ⟨blk_cell h 0, blk_cell h 1, blk_cell h 2, blk_cell h 3, blk_lt h, blk_free h⟩

/-! ### Packets -/
structure Pk where
  num : Int
  frm : Int
  to : Int
  ad : Option Addr
  cap : Nat
  s : ByteArray
abbrev pv (n f t : Int) (ad : Option Addr) (len cap : Nat) : Value := .agg #[.int .i64 n, .int .i64 f, .int .i64 t, .slice ad len cap]
def Pk.val (p : Pk) : Value := pv p.num p.frm p.to p.ad p.s.size p.cap
def Pk.cells (p : Pk) : List Value := [.int .i64 p.num, .int .i64 p.frm, .int .i64 p.to, .slice p.ad p.s.size p.cap]
def pflat : List Pk → List Value
  | [] => []
  | e :: r => e.cells ++ pflat r
theorem pflat_length : ∀ l : List Pk, (pflat l).length = l.length * 4
  | [] => rfl
  | e :: r => by rw [pflat, List.length_append, pflat_length r, List.length_cons]; simp [Pk.cells]; omega
theorem pflat_append : ∀ l m : List Pk, pflat (l ++ m) = pflat l ++ pflat m
  | [], m => rfl
  | e :: r, m => by rw [List.cons_append, pflat, pflat, pflat_append r m, List.append_assoc]
theorem pflat_get : ∀ (l : List Pk) (k : Nat) (h : k < l.length) (r : Nat), r < 4 → (pflat l)[k * 4 + r]? = (l[k].cells)[r]?
  | e :: l, 0, _, r, hr => by
    rw [pflat, List.getElem?_append_left (by simp [Pk.cells]; omega)]
    simp
  | e :: l, k + 1, h, r, hr => by
    have hl : e.cells.length = 4 := rfl
    rw [pflat, List.getElem?_append_right (by omega), hl, show (k + 1) * 4 + r - 4 = k * 4 + r by omega, pflat_get l k (by simpa using h) r hr]
    rfl
theorem pflat_one (l : List Pk) : ∀ u ∈ pflat l, u.oneCell' = true := by
  induction l with
  | nil => intro u h; cases h
  | cons e r ih =>
    intro u h
    rw [pflat] at h
    rcases List.mem_append.1 h with h | h
    · simp only [Pk.cells, List.mem_cons, List.not_mem_nil, or_false] at h
      rcases h with rfl | rfl | rfl | rfl <;> rfl
    · exact ih u h
theorem pflat_take : ∀ (l : List Pk) (n : Nat), (pflat l).take (n * 4) = pflat (l.take n)
  | [], n => by simp [pflat]
  | a :: l, 0 => by simp [pflat]
  | a :: l, n + 1 => by
    have hl : a.cells.length = 4 := rfl
    rw [List.take_succ_cons, pflat, pflat, show (n + 1) * 4 = a.cells.length + n * 4 by omega, List.take_length_add_append, pflat_take l n]
theorem pflat_drop : ∀ (l : List Pk) (n : Nat), (pflat l).drop (n * 4) = pflat (l.drop n)
  | [], n => by simp [pflat]
  | a :: l, 0 => by simp [pflat]
  | a :: l, n + 1 => by
    have hl : a.cells.length = 4 := rfl
    rw [List.drop_succ_cons, pflat, show (n + 1) * 4 = a.cells.length + n * 4 by omega, List.drop_length_add_append, pflat_drop l n]

/-- The bytes at that address read as that text: of an argument, say. -/
def Reads (w : World) (ad : Option Addr) (s : ByteArray) : Prop := s.size = 0 ∨ ∃ g o, ad = some ⟨g, o, none⟩ ∧ g < w.heap.size ∧ Lib.Bytes w g o s
/-- .. and lie in a block of bytes of their own. -/
def Dat (w : World) (B : Nat) (ad : Option Addr) (s : ByteArray) : Prop := s.size = 0 ∨ ∃ g cs, B ≤ g ∧ ad = some ⟨g, 0, none⟩ ∧ w.heap[g]? = some (.cells cs 5 (0, 0)) ∧ Lib.Bytes w g 0 s
theorem Dat.reads {w : World} {B : Nat} {ad : Option Addr} {s : ByteArray} (h : Dat w B ad s) : Reads w ad s := by
  rcases h with h | ⟨g, cs, _, h1, h2, h3⟩
  · exact Or.inl h
  · exact Or.inr ⟨g, 0, h1, blk_lt h2, h3⟩
theorem Reads.below {w w' : World} {ad : Option Addr} {s : ByteArray} (h : Reads w ad s) (hb : Below w.heap.size w w') : Reads w' ad s := by
  rcases h with h | ⟨g, o, h1, h2, h3⟩
  · exact Or.inl h
  · exact Or.inr ⟨g, o, h1, Nat.lt_of_lt_of_le h2 hb.size, fun i hi => (hb.cell (p := ⟨g, o + i, none⟩) h2).trans (h3 i hi)⟩

theorem Dat.set {w : World} {B : Nat} {ad : Option Addr} {s : ByteArray} (h : Dat w B ad s) {p : Addr} (hp : p.block < B) (v : Value) : Dat (w.setCell p v) B ad s := by
  rcases h with h | ⟨g, cs, hB, h1, h2, h3⟩
  · exact Or.inl h
  · exact Or.inr ⟨g, cs, hB, h1, heap_set_ne h2 (by omega) v, fun i hi => by rw [← h3 i hi]; exact World.cell?_of_block (a := ⟨g, 0 + i, none⟩) (Below.heap_setCell w p v g (by omega))⟩
theorem Dat.mono {w : World} {B B' : Nat} {ad : Option Addr} {s : ByteArray} (h : Dat w B ad s) (hB : B' ≤ B) : Dat w B' ad s := by
  rcases h with h | ⟨g, cs, h0, h1⟩
  · exact Or.inl h
  · exact Or.inr ⟨g, cs, Nat.le_trans hB h0, h1⟩

/-! ### What a step leaves as it was -/
theorem Reads.keep {p : Nat → Prop} {w w' : World} (h : Keep p w w') {ad : Option Addr} {s : ByteArray} (hr : Reads w ad s) (hn : ∀ a, ad = some a → ¬ p a.block) : Reads w' ad s := by
  rcases hr with hr | ⟨g, o, h1, h2, h3⟩
  · exact Or.inl hr
  · exact Or.inr ⟨g, o, h1, Nat.lt_of_lt_of_le h2 h.size, fun i hi => (World.cell?_of_block (w := w) (a := ⟨g, o + i, none⟩) (h.block g h2 (hn _ h1))).trans (h3 i hi)⟩
theorem Dat.keep {p : Nat → Prop} {w w' : World} {B : Nat} (h : Keep p w w') {ad : Option Addr} {s : ByteArray} (hd : Dat w B ad s) (hn : ∀ g cs, w.heap[g]? = some (.cells cs 5 (0, 0)) → ¬ p g) : Dat w' B ad s := by
  rcases hd with hd | ⟨g, cs, hB, h1, h2, h3⟩
  · exact Or.inl hd
  · exact Or.inr ⟨g, cs, hB, h1, h.blk h2 (hn g cs h2), fun i hi => (World.cell?_of_block (w := w) (a := ⟨g, 0 + i, none⟩) (h.block g (blk_lt h2) (hn g cs h2))).trans (h3 i hi)⟩
theorem own_keep {p : Nat → Prop} {w w' : World} {base n size : Nat} {e : TypeId} {v : Value} {xs : List Value} (h : w.ownsRow base e size v n xs) (hk : Keep p w w') (hn : ∀ g, v.ownBlock = some g → ¬ p g) : w'.ownsRow base e size v n xs := by
  refine ⟨h.1, ?_⟩
  rcases h.2 with h2 | ⟨g, cap, cur, hv, hg, hh, r⟩
  · exact Or.inl h2
  · exact Or.inr ⟨g, cap, cur, hv, hg, hk.blk hh (hn g (by rw [hv]; rfl)), r⟩
/-- An own row of that kind lies in no block of another kind. -/
theorem own_ne {w : World} {base n size : Nat} {e t : TypeId} {v : Value} {xs : List Value} (h : w.ownsRow base e size v n xs) {g : Nat} {cs : Array Value} {fr : Nat × Nat} (hg : w.heap[g]? = some (.cells cs t fr)) (ht : e ≠ t) : v.ownBlock ≠ some g := fun hv => by
  rcases h.2 with ⟨rfl, _⟩ | ⟨g', cap, cur, rfl, _, hh, _⟩
  · cases hv
  · simp only [Value.ownBlock, Option.some.injEq] at hv
    subst hv
    rw [hh] at hg
    simp only [Option.some.injEq, Obj.cells.injEq] at hg
    exact ht hg.2.1

/-! ### The bag -/
/-- The bag in block b: its room, its last number, how many were lost, its packets; vs is its list as a value. Its blocks lie from B on. -/
def BagAt (w : World) (B b : Nat) (vs : Value) (room num lost : Int) (L : List Pk) : Prop :=
  B ≤ b ∧ w.heap[b]? = some (.cells #[.int .i64 room, .int .i64 num, .int .i64 lost, vs] 60 (0, 0)) ∧ w.ownsRow B 39 4 vs L.length (pflat L) ∧ ∀ p ∈ L, Dat w B p.ad p.s
/-- What a method of the bag may turn. -/
def mine (b : Nat) (vs : Value) : Nat → Prop := fun k => k = b ∨ vs.ownBlock = some k
theorem BagAt.keep {p : Nat → Prop} {w w' : World} {B b : Nat} {vs : Value} {room num lost : Int} {L : List Pk} (h : BagAt w B b vs room num lost L) (hk : Keep p w w') (hb : ¬ p b) (hv : ∀ g, vs.ownBlock = some g → ¬ p g) (hd : ∀ g cs, w.heap[g]? = some (.cells cs 5 (0, 0)) → ¬ p g) : BagAt w' B b vs room num lost L :=
  ⟨h.1, hk.blk h.2.1 hb, own_keep h.2.2.1 hk hv, fun q hq => (h.2.2.2 q hq).keep hk hd⟩
theorem BagAt.below {w w' : World} {B b : Nat} {vs : Value} {room num lost : Int} {L : List Pk} (h : BagAt w B b vs room num lost L) (hk : Below w.heap.size w w') : BagAt w' B b vs room num lost L :=
  h.keep (p := fun _ => False) (Keep.of_below hk) (fun h => h) (fun _ _ h => h) (fun _ _ _ h => h)
/-- No block of bytes is the bag's to turn. -/
theorem BagAt.apart {w : World} {B b : Nat} {vs : Value} {room num lost : Int} {L : List Pk} (h : BagAt w B b vs room num lost L) : ∀ g cs, w.heap[g]? = some (.cells cs 5 (0, 0)) → ¬ mine b vs g := fun g cs hg hm => by
  rcases hm with rfl | hm
  · have := h.2.1
    rw [this] at hg
    simp at hg
  · exact own_ne h.2.2.1 hg (by decide) hm
theorem BagAt.mine_ge {w : World} {B b : Nat} {vs : Value} {room num lost : Int} {L : List Pk} (h : BagAt w B b vs room num lost L) : ∀ k, mine b vs k → B ≤ k := fun k hm => by
  rcases hm with rfl | hm
  · exact h.1
  · exact (h.2.2.1.lt k hm).1
end Go.Proofs.Ytepilaejfepicaa
