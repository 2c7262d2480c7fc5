/-
  nums.Hex: a text's bytes in hexadecimal digits.
-/
import Derived.Test.YtjeaobknojmbpaaDoorBld
import Derived.Test.YtjeaobknojmbpaaDoorWords
import Derived.Laws.IdiomStrings
namespace Go.Proofs.YtjeaobknojmbpaaDoor
open Go.ChangeShapes Go.WideShapes Go.ChangeAt Go.RowKit Go.Deep
set_option linter.unusedVariables false
set_option linter.unusedSimpArgs false

abbrev hexS : ByteArray := ⟨#[48, 49, 50, 51, 52, 53, 54, 55, 56, 57, 97, 98, 99, 100, 101, 102]⟩
/-- A digit. -/
def hd (n : Nat) : UInt8 := if n < 10 then UInt8.ofNat (48 + n) else UInt8.ofNat (87 + n)
def hexL : List UInt8 → List UInt8
  | [] => []
  | c :: r => hd (c.toNat / 16) :: hd (c.toNat % 16) :: hexL r
theorem hexL_snoc : ∀ (l : List UInt8) (c : UInt8), hexL (l ++ [c]) = hexL l ++ [hd (c.toNat / 16), hd (c.toNat % 16)]
  | [], c => rfl
  | b :: l, c => by rw [List.cons_append, hexL, hexL, hexL_snoc l c]; rfl
theorem hexL_length : ∀ l : List UInt8, (hexL l).length = 2 * l.length
  | [] => rfl
  | b :: l => by rw [hexL, List.length_cons, List.length_cons, hexL_length l, List.length_cons]; omega
/-- Bytes as values. -/
def bvs (l : List UInt8) : List Value := l.map fun b => .int .u8 b.toNat
theorem bvs_append (l m : List UInt8) : bvs (l ++ m) = bvs l ++ bvs m := by simp [bvs]
theorem bvs_length (l : List UInt8) : (bvs l).length = l.length := by simp [bvs]

theorem run_digit (k : IntKind) (j : Nat) (hj : j < 16) (w : World) : (Instr.index 9 (.string hexS) (.int k j)).run Tryd.prog w = .ok (.int .u8 (hd j).toNat) w := by
  rw [run_index_string w 9 hexS k j Tryd.underlying9, dif_pos ⟨by omega, by show (j : Int) < 16; omega⟩]
  match j, hj with
  | 0, _ => rfl
  | 1, _ => rfl
  | 2, _ => rfl
  | 3, _ => rfl
  | 4, _ => rfl
  | 5, _ => rfl
  | 6, _ => rfl
  | 7, _ => rfl
  | 8, _ => rfl
  | 9, _ => rfl
  | 10, _ => rfl
  | 11, _ => rfl
  | 12, _ => rfl
  | 13, _ => rfl
  | 14, _ => rfl
  | 15, _ => rfl
  | n + 16, h => omega

theorem own_below {w w' : World} {base n size : Nat} {e : TypeId} {v : Value} {xs : List Value} (h : w.ownsRow base e size v n xs) (hb : Below w.heap.size w w') : w'.ownsRow base e size v n xs := by
  refine ⟨h.1, ?_⟩
  rcases h.2 with h2 | ⟨g, cap, cur, hv, hg, hh, r⟩
  · exact Or.inl h2
  · exact Or.inr ⟨g, cap, cur, hv, hg, blk_below hh hb, r⟩

theorem and15 (c : UInt8) : bits BinOp.and IntKind.u8 (c.toNat : Int) 15 = ((c.toNat % 16 : Nat) : Int) := by
  have h := bits_mask .u8 8 (by decide) (fun n h0 h1 => by simp [IntKind.wrap, IntKind.bits, IntKind.signed]; omega) 4 (by omega) (c.toNat : Int) (by omega) (by have := c.toNat_lt; omega)
  simpa using h

theorem bvs_one (l : List UInt8) : ∀ u ∈ bvs l, u.oneCell' = true := by
  intro u h
  obtain ⟨b, _, rfl⟩ := List.mem_map.1 h
  rfl
theorem cells2 (w : World) (a b : UInt8) (e : TypeId) : ∀ j u, (bvs [a, b])[j]? = some u → (w.alloc (.cells #[.int .u8 a.toNat, .int .u8 b.toNat] e)).cell? ((⟨w.heap.size, 0, none⟩ : Addr).add j) = some u := by
  intro j u hj
  match j, hj with
  | 0, hj => simp [bvs] at hj; subst hj; simp [Addr.add]
  | 1, hj => simp [bvs] at hj; subst hj; simp [Addr.add]
  | j + 2, hj => simp [bvs] at hj
theorem cells1 (w : World) (a : UInt8) (e : TypeId) : ∀ j u, (bvs [a])[j]? = some u → (w.alloc (.cells #[.int .u8 a.toNat] e)).cell? ((⟨w.heap.size, 0, none⟩ : Addr).add j) = some u := by
  intro j u hj
  match j, hj with
  | 0, hj => simp [bvs] at hj; subst hj; simp [Addr.add]
  | j + 1, hj => simp [bvs] at hj

/-- 'append' within the capacity: as an operation that stands alone. -/
theorem wp_append_fits {P : Program} (w : World) {o : Oper} {a : Act} {K : Act → World → Prop} {Q : Exit → Act → World → Prop} (s x : Operand) (t : TypeId)
    (ho : o.op = .call { callee := .builtin .append, args := #[s, x], argTypes := #[t, t] })
    (base : Nat) (e : TypeId) (i : TypeInfo) (size : Nat) (ht : P.underlying t = some (.slice e)) (hi : P.info? e = some i) (hsize : i.size = size)
    (g k cap : Nat) (xs : List Value) (hs : a.eval s = .slice (some ⟨g, 0, none⟩) k cap) (hown : w.ownsRow base e size (.slice (some ⟨g, 0, none⟩) k cap) k xs)
    (ad : Addr) (m c : Nat) (news : List Value) (hx : a.eval x = .slice (some ad) m c) (hn : news.length = m * size) (hc : ∀ j u, news[j]? = some u → w.cell? (ad.add j) = some u) (h1 : ∀ u ∈ news, u.oneCell' = true) (hr : k + m ≤ cap)
    (h : ∀ w', w'.ownsRow base e size (.slice (some ⟨g, 0, none⟩) (k + m) cap) (k + m) (xs ++ news) → w.grownBy w' (some g) → K (a.put o.dst (.slice (some ⟨g, 0, none⟩) (k + m) cap)) w') : o.wp P a w K Q := by
  obtain ⟨w', hr', h2, h3⟩ := run_append_fits (P := P) w base t o.type e i size ht hi hsize g k cap xs hown ad m c news hn hc h1 hr
  unfold Oper.wp execOp
  simp only [ho, resolve, invoke, builtin, Sem.run_bind, Sem.run_pure, Result.andThen_ok, List.map_toArray, List.map_cons, List.map_nil, hs, hx, hr']
  exact h w' h2 h3

set_option maxHeartbeats 4000000 in
theorem hex_any (s : ByteArray) (w : World) (hs : s.size ≤ 70368744177664) :
    Calls Tryd.prog 37 #[.string s] w fun e w' => e = .returned (.string ⟨(hexL s.data.toList).toArray⟩) ∧ Below w.heap.size w w' := by
  obtain ⟨i0, hi, hz0, hz1, hz2⟩ := info_parts infoByte
  have HI : Hid (_ ∧ _ ∧ _ ∧ _) := ⟨hi, hz0, hz1, hz2⟩
  clear hi hz0 hz1 hz2
  have hconv := fun (w : World) => run_bytes_of_string (P := Tryd.prog) w 9 64 5 s Tryd.underlying9 Tryd.underlying64 Tryd.underlying5
  go_enter Tryd.func37, Tryd.ntmps37
  go_wp2_with (first
    | (at_make; (refine wpList_make_own _ rfl _ _ 64 rfl w.heap.size 5 i0 _ 1 Tryd.underlying64 HI.out.1 HI.out.2.1 HI.out.2.2.1 .i64 .i64 _ (2 * s.size) rfl rfl ?m1 ?m2 ?m3 ?m4 ?_))
    | fail)
  case m1 => omega
  case m2 => rw [HI.out.2.2.2]; omega
  case m3 => unfold maxLen; omega
  case m4 => exact Nat.le_refl _
  intro w1 hown hg1
  have hb1 : Below w.heap.size w w1 := (Below.refl _ _).grown hg1 (Nat.le_refl _) (fun k h => by cases h)
  have hlt1 : w.heap.size < w1.heap.size := (hown.lt _ rfl).2
  go_wp2_with fail
  obtain ⟨H1, hH1⟩ : ∃ g, g = w1.heap.size := ⟨_, rfl⟩
  rw [← hH1]
  obtain ⟨l, hl⟩ : ∃ l, l = s.data.toList := ⟨_, rfl⟩
  have hlen : l.length = s.size := by rw [hl]; rfl
  have HX : Hid (s.data.toList = l) := hl.symm
  have HH1 : Hid (H1 = w1.heap.size) := hH1
  have hlt2 : w.heap.size < H1 := by omega
  clear hl hH1
  go_loopw [3, 13] (fun v i wr => ∃ k : Nat, k ≤ s.size ∧ i = .int .i64 k ∧ v = .slice (some ⟨w.heap.size, 0, none⟩) (2 * k) (2 * s.size) ∧
      Hid (wr.ownsRow w.heap.size 5 1 (.slice (some ⟨w.heap.size, 0, none⟩) (2 * k) (2 * s.size)) (2 * k) (bvs (hexL (l.take k)))) ∧
      Hid (∀ j (hj : j < s.size), wr.cell? ⟨H1, j, none⟩ = some (.int .u8 (s[j]'hj).toNat)) ∧ Below w.heap.size w wr)
    (fun _ i _ => s.size - (intOf i).toNat)
  case atStart =>
    have ht := HH1.out
    subst ht
    refine ⟨0, Nat.zero_le _, rfl, rfl, ?_, ?_, ?_⟩
    · exact (hown.alloc _).drew
    · intro j hj
      show (w1.alloc _).cell? _ = _
      rw [blk_cell (heap_new rfl) j]
      unfold bytesRow
      rw [Array.getElem?_append_left (by simpa using hj), Array.getElem?_map]
      have : s.data[j]? = some (s[j]'hj) := Array.getElem?_eq_getElem hj
      rw [this]; rfl
    · exact (hb1.alloc (by omega) _).drew
  case round =>
    obtain ⟨k, hk, rfl, rfl, HO, HC, hb⟩ := hrel
    have hz := hb.size
    by_cases hlt : k < s.size
    · have hc0 := HC.out k hlt
      obtain ⟨c, hc⟩ : ∃ c : UInt8, c = s[k]'hlt := ⟨_, rfl⟩
      rw [← hc] at hc0
      have HCC : Hid (l.take (k + 1) = l.take k ++ [c]) := by
        have := HX.out
        subst this
        unfold Hid
        rw [List.take_succ_eq_append_getElem (by rw [len_list]; exact hlt), get_list, hc]
      clear hc
      have hc8 : c.toNat < 256 := c.toNat_lt
      have x1 : ∀ w : World, (Instr.index 9 (.string hexS) (.int .u8 ((c.toNat : Int) / 16))).run Tryd.prog w = .ok (.int .u8 (hd (c.toNat / 16)).toNat) w := fun w => run_digit .u8 (c.toNat / 16) (by omega) w
      have x2 : ∀ w : World, (Instr.index 9 (.string hexS) (.int .u8 (bits BinOp.and IntKind.u8 (c.toNat : Int) 15))).run Tryd.prog w = .ok (.int .u8 (hd (c.toNat % 16)).toNat) w := fun w => by rw [and15]; exact run_digit .u8 (c.toNat % 16) (by omega) w
      have x3 : ∀ w : World, (Instr.index 9 (.string hexS) (.int .u8 ((c.toNat : Int) % 16))).run Tryd.prog w = .ok (.int .u8 (hd (c.toNat % 16)).toNat) w := fun w => run_digit .u8 (c.toNat % 16) (by omega) w
      have x4 : ∀ w : World, (Instr.index 9 (.string hexS) (.int .u8 ((c.toNat % 16 : Nat) : Int))).run Tryd.prog w = .ok (.int .u8 (hd (c.toNat % 16)).toNat) w := fun w => run_digit .u8 (c.toNat % 16) (by omega) w
      go_wp2_with fail
      clear hc0
      have hSt : Stable (fun w3 : World => (Below wr.heap.size wr w3)) := by repeat (first | exact stable_ext _ | exact stable_blk _ _ | exact stable_true | (refine stable_bel ?_ ; (focus (first | (simp [World.size_setCell] ; done) | (simp [World.setCell] ; done)))) | refine Stable.and ?_ ?_)
      refine wp_region_x [0, 1, 2, 3, 4, 5, 6, 7, 8, 9] [0, 0, 0, 0, 0, 0, 0, 3, 3, 0] (fun w3 => (Below wr.heap.size wr w3)) (by kernel_rfl) (by kernel_rfl) ?_ ?_
      · (first | trivial | (repeat (first | (with_reducible assumption) | (with_reducible exact Below.refl _ _) | (with_reducible refine heap_drew ?_) | (focus ((with_reducible refine heap_new ?_) ; simp ; done)) | (with_reducible apply heap_set_to) | (focus ((with_reducible refine heap_set_ne ?_ ?_ _) ; rotate_left ; (focus (first | omega | (simp ; done) | (simp ; omega))))) | (with_reducible refine heap_old ?_) | (with_reducible refine Below.drew ?_) | (with_reducible refine below_set ?_ _ _) | (focus ((with_reducible refine Below.setCell ?_ ?_ _) ; rotate_left ; (focus (first | omega | (simp ; done) | (simp ; omega))))) | (focus ((with_reducible refine Below.alloc ?_ ?_ _) ; rotate_left ; (focus (first | omega | (simp ; done) | (simp ; omega))))) | (with_reducible rfl) | (focus (simp ; done)))))
      simp only [List.map_cons, List.map_nil, List.getD_cons_zero, List.getD_cons_succ]
      (refine x_pure rfl _ ?_ rfl (by simp) ?_ ?_ ; rotate_left ; · (intro w3 K hK ; go_wp2_with fail ; exact rfl))
      simp only [Act.put, List.setIfInBounds_toArray, List.set_cons_succ, List.set_cons_zero]
      (refine x_pure rfl _ ?_ rfl (by simp) ?_ ?_ ; rotate_left ; · (intro w3 K hK ; go_wp2_with fail ; exact rfl))
      simp only [Act.put, List.setIfInBounds_toArray, List.set_cons_succ, List.set_cons_zero]
      (refine x_pure rfl _ ?_ rfl (by simp) ?_ ?_ ; rotate_left ; · (intro w3 K hK ; go_wp2_with fail ; exact rfl))
      simp only [Act.put, List.setIfInBounds_toArray, List.set_cons_succ, List.set_cons_zero]
      (refine x_pure rfl _ ?_ rfl (by simp) ?_ ?_ ; rotate_left ; · (intro w3 K hK ; go_wp2_with fail ; exact rfl))
      simp only [Act.put, List.setIfInBounds_toArray, List.set_cons_succ, List.set_cons_zero]
      (refine x_pure rfl _ ?_ rfl (by simp) ?_ ?_ ; rotate_left ; · (intro w3 K hK ; go_wp2_with fail ; exact rfl))
      simp only [Act.put, List.setIfInBounds_toArray, List.set_cons_succ, List.set_cons_zero]
      (refine x_pure rfl _ ?_ rfl (by simp) ?_ ?_ ; rotate_left ; · (intro w3 K hK ; go_wp2_with fail ; exact rfl))
      simp only [Act.put, List.setIfInBounds_toArray, List.set_cons_succ, List.set_cons_zero]
      (refine x_pure rfl _ ?_ rfl (by simp) ?_ ?_ ; rotate_left ; · (intro w3 K hK ; go_wp2_with fail ; exact rfl))
      simp only [Act.put, List.setIfInBounds_toArray, List.set_cons_succ, List.set_cons_zero]
      refine x_write rfl ?_
      intro w3 hD K hK ; have hc := hD
      go_wp2_with fail
      refine x_write rfl ?_
      rintro _ rfl K hK
      refine wp_append_fits _ (.tmp 17) (.tmp 24) 64 rfl w.heap.size 5 i0 1 Tryd.underlying64 HI.out.1 HI.out.2.2.1 w.heap.size (2 * k) (2 * s.size) _ rfl ((own_below HO.out hc).alloc _) ⟨w3.heap.size, 0, none⟩ 2 2 (bvs [hd (c.toNat / 16), hd (c.toNat % 16)]) rfl rfl (cells2 _ _ _ _) (bvs_one _) (by omega) ?_
      intro w5 hown' hgrow
      refine hK _ _ ?_
      try simp only [Act.put, List.setIfInBounds_toArray, List.set_cons_succ, List.set_cons_zero]
      (refine x_pure rfl _ ?_ rfl (by simp) ?_ ?_ ; rotate_left ; · (intro w3 K hK ; go_wp2_with fail ; exact rfl))
      simp only [Act.put, List.setIfInBounds_toArray, List.set_cons_succ, List.set_cons_zero]
      refine x_nil ?_
      rintro w5 rfl
      have hb5 : Below w.heap.size w w5 := ((below_back hb hz hc).alloc (by have := hc.size; omega) _).grown hgrow (by have := hc.size; simp; omega) (by intro y hy; simp at hy; omega)
      have HC5 : Hid (∀ j (hj : j < s.size), w5.cell? ⟨H1, j, none⟩ = some (.int .u8 (s[j]'hj).toNat)) := fun j hj => by
        have h1 := HC.out j hj
        have h2 := (hc.cell (cell_lt h1)).trans h1
        have h3 : (w3.alloc _).cell? ⟨H1, j, none⟩ = _ := ((below_alloc_self w3 (.cells #[.int .u8 (hd (c.toNat / 16)).toNat, .int .u8 (hd (c.toNat % 16)).toNat] 5)).cell (cell_lt h2)).trans h2
        exact hgrow.cell h3 (by simp; omega)
      have HO5 : Hid (w5.ownsRow w.heap.size 5 1 (.slice (some ⟨w.heap.size, 0, none⟩) (2 * (k + 1)) (2 * s.size)) (2 * (k + 1)) (bvs (hexL (l.take (k + 1))))) := by
        unfold Hid
        rw [HCC.out, hexL_snoc, bvs_append, show 2 * (k + 1) = 2 * k + 2 by omega]
        exact hown'
      clear hown' hgrow HO HC hc hSt x1 x2 x3 x4
      go_wp2_with fail
      go_roundw
      case rel => exact ⟨k + 1, by omega, by go_num, by rw [show 2 * (k + 1) = 2 * k + 2 by omega], HO5, HC5, hb5⟩
      case measure => simp [intOf]; omega
    · obtain rfl : k = s.size := by omega
      have hown := HO.out
      rw [List.take_of_length_le (by omega)] at hown
      have hcell : ∀ j (hj : j < (hexL l).length), wr.cell? ((⟨w.heap.size, 0, none⟩ : Addr).add j) = some (.int .u8 ((hexL l)[j].toNat : Int)) := fun j hj => by
        rw [add_none, Nat.zero_add, hown.cellAt j (by rw [hexL_length] at hj; omega)]
        simp [bvs, List.getElem?_eq_getElem hj]
      have hstr := run_convert_bytes_back (P := Tryd.prog) wr 64 9 5 ⟨w.heap.size, 0, none⟩ (2 * s.size) (hexL l) Tryd.underlying64 Tryd.underlying5 Tryd.underlying9 hcell
      rw [hexL_length, hlen] at hstr
      clear hown hcell HO HC hconv
      go_wp2_with fail
      go_ret
      exact ⟨by rw [HX.out]; rfl, hb⟩
end Go.Proofs.YtjeaobknojmbpaaDoor
