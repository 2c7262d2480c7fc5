/-
  MixAll: what any entries come to is what the reference tells; values and Dead are not looked at; what lies behind the list's length stays.
-/
import Derived.Test.YtjeaobknojmbpaaDoorShown
import Derived.Test.YtjeaobknojmbpaaDoorEnt
import Derived.Test.YtjeaobknojmbpaaDoorLaid
import Derived.Test.YtjeaobknojmbpaaDoorCards
import Derived.Test.YtjeaobknojmbpaaDoorTie
import Derived.SizedLaws
import Derived.SevenTiedAt
namespace Go.Proofs.YtjeaobknojmbpaaDoor
open Go.ChangeShapes Go.WideShapes Go.ChangeAt Go.RowKit Go.Deep
set_option linter.unusedVariables false
set_option linter.unusedSimpArgs false

abbrev spareS : ByteArray := ⟨#[115, 112, 97, 114, 101]⟩
abbrev anotherS : ByteArray := ⟨#[97, 110, 111, 116, 104, 101, 114]⟩
def turnE (e : Ent) : Ent := (e.1, e.2.1, e.2.2.1, anotherS, !e.2.2.2.2)

/-- 'append' to a row that the call owns, whatever is appended: as an operation that stands alone. -/
theorem wp_append_any {P : Program} (w : World) {o : Oper} {a : Act} {K : Act → World → Prop} {Q : Exit → Act → World → Prop} (s x : Operand) (t : TypeId)
    (ho : o.op = .call { callee := .builtin .append, args := #[s, x], argTypes := #[t, t] })
    (base : Nat) (e : TypeId) (i : TypeInfo) (z : Value) (size bytes : Nat) (ht : P.underlying t = some (.slice e)) (hi : P.info? e = some i) (hz : i.zero = some z)
    (hsize : i.size = size) (hby : i.bytes = bytes) (hzs : z.cells.size = size) (hsz : 0 < size)
    (v : Value) (n : Nat) (xs : List Value) (hs : a.eval s = v) (hown : w.ownsRow base e size v n xs)
    (ao : Option Addr) (m c : Nat) (news : List Value) (hx : a.eval x = .slice ao m c) (hl : news.length = m * size) (hnone : ao = none → m = 0 ∧ c = 0) (hnews : ∀ ad, ao = some ad → ∀ j u, news[j]? = some u → w.cell? (ad.add j) = some u) (h1 : ∀ u ∈ news, u.oneCell' = true)
    (h63 : n + m ≤ maxLen) (hbytes : (n + m) * bytes ≤ 140737488355328) (hbase : base ≤ w.heap.size)
    (h : ∀ v' w', w'.ownsRow base e size v' (n + m) (xs ++ news) → w.grownBy w' v.ownBlock → K (a.put o.dst v') w') : o.wp P a w K Q := by
  cases ao with
  | some ad => exact wp_append_own w s x t ho base e i z size bytes ht hi hz hsize hby hzs hsz v n xs hs hown ad m c news hx hl (hnews ad rfl) h1 h63 hbytes hbase fun v' w' h2 h3 _ => h v' w' h2 h3
  | none =>
    obtain ⟨rfl, rfl⟩ := hnone rfl
    have hnews : news = [] := List.eq_nil_of_length_eq_zero (by simpa using hl)
    subst hnews
    have hrun := run_append_owned_none (P := P) w base t o.type e i size ht hi v n xs hown
    unfold Oper.wp execOp
    simp only [ho, resolve, invoke, builtin, Sem.run_bind, Sem.run_pure, Result.andThen_ok, List.map_toArray, List.map_cons, List.map_nil, hs, hx, hrun]
    exact h v w (by simpa using hown) (World.grownBy.refl _ _)

theorem ents_one {w : World} {g : Nat} {k : ByteArray} {c n : Int} {v : ByteArray} {d : Bool} (h : w.heap[g]? = some (.cells #[.string k, .int .i64 c, .int .i64 n, .string v, .bool d] 32 (0, 0))) (hk : k.size ≤ 140737488351232) :
    Ents w (some ⟨g, 0, none⟩) [(k, c, n, v, d)] := fun j hj => by
  obtain rfl : j = 0 := by simp at hj; exact hj
  have q := blk5 h
  exact ⟨g, 0, rfl, ⟨q.1, q.2.1, q.2.2.1, q.2.2.2.1, q.2.2.2.2.1⟩, hk⟩
abbrev spareE : Ent := (spareS, 9, 0, ⟨#[]⟩, false)
/-- What a piece of code ends with, told apart from what goes on. -/
theorem cut {P : Program} {c : Code} {Q : Exit → Act → World → Prop} {a : Act} {w : World} (R : Act → Act → World → Prop) (h : c.wp P (fun e a' w' => e = .normal ∧ R a a' w') a w) (hk : ∀ a' w', R a a' w' → Q .normal a' w') : c.wp P Q a w :=
  Code.wp_mono (fun e a' w' ⟨he, hr⟩ => by subst he; exact hk a' w' hr) h

theorem run_eqIn_ver (d : Nat) (c n : Int) (w : World) : (Op.equalIn (d + 1 + 1) 30 (.agg #[.int .i64 c, .int .i64 n]) (.agg #[.int .i64 c, .int .i64 n])).run Tryd.prog w = .ok true w := by
  have p0 : ∀ (u v : Value) (w : World), (part 3 #[u, v] 0).run Tryd.prog w = .ok u w := fun _ _ _ => by kernel_rfl
  have p1 : ∀ (u v : Value) (w : World), (part 3 #[u, v] 1).run Tryd.prog w = .ok v w := fun _ _ _ => by kernel_rfl
  have q := fun (x y : Int) (w : World) => run_equalIn_int (P := Tryd.prog) w d 3 .i64 .i64 x y Tryd.underlying3
  rw [run_equalIn_struct w (d + 1) 30 _ _ (by kernel_rfl) (by kernel_rfl)]
  have hf : (Tryd.prog.fieldsOf 30).toList = (match Tryd.prog.underlying 30 with | some (.struct fs) => fs | _ => #[]).toList := rfl
  rw [hf, Tryd.underlying30]
  simp [Op.eqFields, Sem.run_bind, p0, p1, q, Result.andThen_ok, Sem.run_pure]
theorem run_eqIn_entry (d : Nat) (k : ByteArray) (c n : Int) (v : ByteArray) (e : Bool) (w : World) : (Op.equalIn (d + 1 + 1 + 1) 32 (ev k c n v e) (ev k c n v e)).run Tryd.prog w = .ok true w := by
  have p0 : ∀ (a b c d e : Value) (w : World), (part 9 #[a, b, c, d, e] 0).run Tryd.prog w = .ok a w := fun _ _ _ _ _ _ => by kernel_rfl
  have p1 : ∀ (a b c d e : Value) (w : World), (part 30 #[a, b, c, d, e] 1).run Tryd.prog w = .ok (.agg #[b, c]) w := fun _ _ _ _ _ _ => by kernel_rfl
  have p2 : ∀ (a b c d e : Value) (w : World), (part 9 #[a, b, c, d, e] 3).run Tryd.prog w = .ok d w := fun _ _ _ _ _ _ => by kernel_rfl
  have p3 : ∀ (a b c d e : Value) (w : World), (part 4 #[a, b, c, d, e] 4).run Tryd.prog w = .ok e w := fun _ _ _ _ _ _ => by kernel_rfl
  have q := fun (x y : ByteArray) (w : World) => run_equalIn_string (P := Tryd.prog) (w := w) (d + 1) 9 x y Tryd.underlying9
  have r := fun (x y : Bool) (w : World) => run_equalIn_bool (P := Tryd.prog) (w := w) (d + 1) 4 x y Tryd.underlying4
  rw [run_equalIn_struct w (d + 2) 32 _ _ (by kernel_rfl) (by kernel_rfl)]
  have hf : (Tryd.prog.fieldsOf 32).toList = (match Tryd.prog.underlying 32 with | some (.struct fs) => fs | _ => #[]).toList := rfl
  rw [hf, Tryd.underlying32]
  simp [Op.eqFields, Sem.run_bind, p0, p1, p2, p3, q, r, run_eqIn_ver, Result.andThen_ok, Sem.run_pure]
theorem guard_entry (op : BinOp) (x y : Operand) (xs ys : Array Value) (w : World) : (eqGuard op 32 x y (.agg xs) (.agg ys)).run Tryd.prog w = .ok () w := run_eqGuard_agg w op _ x y xs ys (by kernel_rfl)
attribute [go_sem] run_eqIn_entry guard_entry
theorem own_ent {w : World} {base g n cap : Nat} {R : List Ent} (h : w.ownsRow base 32 5 (.slice (some ⟨g, 0, none⟩) n cap) n (flat R)) (hn : R.length = n) (k : Nat) (hk : k < R.length) : EntAt w g (k * 5) R[k] := by
  have key : ∀ r, r < 5 → w.cell? ⟨g, k * 5 + r, none⟩ = (ecells R[k])[r]? := fun r hr => by
    rw [h.cellAt (k * 5 + r) (by omega), flat_get R k hk r hr]
  exact ⟨key 0 (by omega), key 1 (by omega), key 2 (by omega), key 3 (by omega), key 4 (by omega)⟩
theorem flat_turn : ∀ (R : List Ent) (k : Nat) (h : k < R.length) (v : ByteArray) (d : Bool), flat (R.set k (R[k].1, R[k].2.1, R[k].2.2.1, v, d)) = ((flat R).set (k * 5 + 3) (.string v)).set (k * 5 + 4) (.bool d)
  | a :: R, 0, _, v, d => by simp [flat, ecells]
  | a :: R, k + 1, h, v, d => by
    have ih := flat_turn R k (by simpa using h) v d
    have hl : (ecells a).length = 5 := rfl
    rw [List.set_cons_succ, flat, flat]
    have e : ∀ (X : List Value) (j : Nat) (u : Value), (ecells a ++ X).set ((k + 1) * 5 + j) u = ecells a ++ X.set (k * 5 + j) u := fun X j u => by
      rw [List.set_append_right _ _ (by omega), hl, show (k + 1) * 5 + j - 5 = k * 5 + j by omega]
    rw [e, e, ← ih]
    rfl
/-- The first i turned, then the others, then what lies behind. -/
def mixed (l : List Ent) (i : Nat) : List Ent := (l.take i).map turnE ++ (l.drop i ++ [spareE])
theorem mixed_zero (l : List Ent) : mixed l 0 = l ++ [spareE] := by simp [mixed]
theorem mixed_length (l : List Ent) (i : Nat) (h : i ≤ l.length) : (mixed l i).length = l.length + 1 := by simp [mixed]; omega
theorem mixed_get (l : List Ent) (i : Nat) (h : i < l.length) (h2 : i < (mixed l i).length) : (mixed l i)[i] = l[i] := by
  have e : (mixed l i)[i]? = some l[i] := by
    unfold mixed
    rw [List.getElem?_append_right (by simp; omega), show i - ((l.take i).map turnE).length = 0 by simp; omega, List.drop_eq_getElem_cons h]
    rfl
  rw [List.getElem?_eq_getElem h2] at e
  exact Option.some.inj e
theorem mixed_set (l : List Ent) (i : Nat) (h : i < l.length) : (mixed l i).set i (turnE l[i]) = mixed l (i + 1) := by
  unfold mixed
  rw [List.set_append_right _ _ (by simp; omega)]
  have e : i - ((l.take i).map turnE).length = 0 := by simp; omega
  rw [e, List.drop_eq_getElem_cons h, List.cons_append, List.set_cons_zero, List.take_succ_eq_append_getElem h, List.map_append, List.append_assoc]
  rfl
theorem mixed_last (l : List Ent) : mixed l l.length = l.map turnE ++ [spareE] := by simp [mixed]
theorem tot0_turn (l : List Ent) : tot0 (l.map turnE) = tot0 l := by simp [tot0, List.map_map]; rfl
theorem tot1_turn (l : List Ent) : tot1 (l.map turnE) = tot1 l := by simp [tot1, List.map_map]; rfl
theorem ents_pre {w : World} {oa : Option Addr} {l m : List Ent} (h : Ents w oa (l ++ m)) : Ents w oa l := fun k hk => by
  obtain ⟨b, o, h1, h2, h3⟩ := h k (by simp; omega)
  rw [List.getElem_append_left hk] at h2 h3
  exact ⟨b, o, h1, h2, h3⟩
theorem own_ents {w : World} {base g n cap : Nat} {R : List Ent} (h : w.ownsRow base 32 5 (.slice (some ⟨g, 0, none⟩) n cap) n (flat R)) (hn : R.length = n) (hk : KeysOk R) : Ents w (some ⟨g, 0, none⟩) R := fun k hk' =>
  ⟨g, 0, rfl, by rw [Nat.zero_add]; exact own_ent h hn k hk', hk k hk'⟩
theorem keys_mixed {l : List Ent} (h : KeysOk l) : KeysOk (l.map turnE ++ [spareE]) := KeysOk.append (fun k hk => by
    have hk' : k < l.length := by simpa using hk
    rw [List.getElem_map]
    exact h k hk') (fun k hk => by
    obtain rfl : k = 0 := by simp at hk; exact hk
    show spareS.size ≤ _
    decide)

set_option maxHeartbeats 8000000 in
theorem mixall_walk (oa : Option Addr) (ca : Nat) (l : List Ent) (w : World) (hL : Lanes w) (hA : Ents w oa l)
    (na : oa = none → l.length = 0 ∧ ca = 0) (hl : l.length * 56 ≤ 140737488351232) :
    Calls Tryd.prog 9 #[.slice oa l.length ca] w fun r w' => r = .returned (.bool true) ∧ Below w.heap.size w w' := by
  have hL0 := hL.lt
  have HH : Hid (Lanes w ∧ Ents w oa l ∧ (oa = none → l.length = 0 ∧ ca = 0)) := ⟨hL, hA, na⟩
  clear hL hA na
  obtain ⟨i0, hi, hz0, hz1, hz2⟩ := info_parts info_entry
  have HI : Hid (_ ∧ _ ∧ _ ∧ _) := ⟨hi, hz0, hz1, hz2⟩
  clear hi hz0 hz1 hz2
  go_enter Tryd.func9, Tryd.ntmps9
  go_wp2_with fail
  refine (shown_any _ HH.out.1).mono ?_
  rintro e w1 ⟨rfl, hb⟩
  have hz := hb.size
  go_wp2_with fail
  obtain ⟨sb, hsb⟩ : ∃ g, g = w1.heap.size := ⟨_, rfl⟩
  have g0 : (w1.alloc (.cells #[.string spareS, .int .i64 9, .int .i64 0, .string ⟨#[]⟩, .bool false] 32 (0, 0))).heap[w1.heap.size]? = some (.cells #[.string spareS, .int .i64 9, .int .i64 0, .string ⟨#[]⟩, .bool false] 32 (0, 0)) := by (repeat (first | (with_reducible assumption) | (with_reducible exact Below.refl _ _) | (with_reducible refine heap_drew ?_) | (focus ((with_reducible refine heap_new ?_) ; simp ; done)) | (with_reducible apply heap_set_to) | (focus ((with_reducible refine heap_set_ne ?_ ?_ _) ; rotate_left ; (focus (first | omega | (simp ; done) | (simp ; omega))))) | (with_reducible refine heap_old ?_) | (with_reducible refine Below.drew ?_) | (with_reducible refine below_set ?_ _ _) | (focus ((with_reducible refine Below.setCell ?_ ?_ _) ; rotate_left ; (focus (first | omega | (simp ; done) | (simp ; omega))))) | (focus ((with_reducible refine Below.alloc ?_ ?_ _) ; rotate_left ; (focus (first | omega | (simp ; done) | (simp ; omega))))) | (with_reducible rfl) | (focus (simp ; done))))
  replace hb := hb.alloc hz (.cells #[.string spareS, .int .i64 9, .int .i64 0, .string ⟨#[]⟩, .bool false] 32 (0, 0))
  rw [← hsb] at g0 ⊢
  have hsw : w.heap.size ≤ sb := by omega
  generalize hws : w1.alloc (.cells #[.string spareS, .int .i64 9, .int .i64 0, .string ⟨#[]⟩, .bool false] 32 (0, 0)) = ws at *
  have hz := hb.size
  clear hws hsb
  refine cut (fun a a' w' => ∃ v10 v11 v12 v13 v14, a' = (((((a.put (some 10) v10).put (some 11) v11).put (some 12) v12).put (some 13) v13).put (some 14) v14).put (some 4) v14 ∧ w'.ownsRow ws.heap.size 32 5 v14 (l.length + 1) (flat l ++ flat [spareE]) ∧ Below ws.heap.size ws w') ?_ ?_
  · refine wp_region_p [0] [0, 3, 3, 3, 3, 0] 5 #[true, false, false, false, false, false] (fun w8 => Below ws.heap.size ws w8) (by kernel_rfl) (by kernel_rfl) ?_ ?_
    · exact (Below.refl _ _).drew
    simp only [List.map_cons, List.map_nil, List.getD_cons_zero, List.getD_cons_succ]
    (refine x_pure rfl _ ?_ rfl (by simp) ?_ ?_ ; rotate_left ; · (intro w8 K hK ; go_wp2_with fail ; exact rfl))
    simp only [Act.put, List.setIfInBounds_toArray, List.set_cons_succ, List.set_cons_zero]
    refine x_end ?_
    refine wpX_fork2 (i := 1) (j := 2) (by kernel_rfl) (by kernel_rfl) ?_ ?_
    · simp only [List.getD_cons_zero, List.getD_cons_succ]
      refine x_write rfl ?_
      intro w8 hD K hK
      refine wp_append_any _ (.const (.slice none 0 0)) (.tmp 10) 22 rfl ws.heap.size 32 i0 _ 5 56 Tryd.underlying22 HI.out.1 HI.out.2.1 HI.out.2.2.1 HI.out.2.2.2 rfl (by decide) (.slice none 0 0) 0 [] rfl (World.ownsRow_nil _ _ _ _) oa l.length ca (flat l) rfl (flat_length l) HH.out.2.2 (HH.out.2.1.below ((hb.trans (hD.mono hz)))).cells' (flat_one l) ?_ ?_ ?_ ?_
      · unfold maxLen; omega
      · omega
      · exact hD.size
      intro v1 w9 hown hgrow
      have HO1 : Hid (w9.ownsRow ws.heap.size 32 5 v1 l.length (flat l)) := by unfold Hid; simpa using hown
      have h9 : Below ws.heap.size ws w9 := hD.grown hgrow hD.size (by intro y hy; simp [Value.ownBlock] at hy)
      refine hK _ _ ?_
      try simp only [Act.put, List.setIfInBounds_toArray, List.set_cons_succ, List.set_cons_zero]
      refine x_end ?_
      refine wpX_tail [2, 3, 4, 5] 4 (by kernel_rfl) ?_
      simp only [List.map_cons, List.map_nil, List.getD_cons_zero, List.getD_cons_succ]
      refine x_write rfl ?_
      rintro w9 rfl K hK
      have q := blk5 (blk_below g0 h9)
      go_wp2_with fail
      refine x_write rfl ?_
      rintro w9 rfl K hK
      go_wp2_with fail
      refine x_write rfl ?_
      rintro _ rfl K hK
      have gx0 : (w9.alloc (.cells #[.string spareS, .int .i64 9, .int .i64 0, .string ⟨#[]⟩, .bool false] 32 (0, 0))).heap[w9.heap.size]? = some (.cells #[.string spareS, .int .i64 9, .int .i64 0, .string ⟨#[]⟩, .bool false] 32 (0, 0)) := by (repeat (first | (with_reducible assumption) | (with_reducible exact Below.refl _ _) | (with_reducible refine heap_drew ?_) | (focus ((with_reducible refine heap_new ?_) ; simp ; done)) | (with_reducible apply heap_set_to) | (focus ((with_reducible refine heap_set_ne ?_ ?_ _) ; rotate_left ; (focus (first | omega | (simp ; done) | (simp ; omega))))) | (with_reducible refine heap_old ?_) | (with_reducible refine Below.drew ?_) | (with_reducible refine below_set ?_ _ _) | (focus ((with_reducible refine Below.setCell ?_ ?_ _) ; rotate_left ; (focus (first | omega | (simp ; done) | (simp ; omega))))) | (focus ((with_reducible refine Below.alloc ?_ ?_ _) ; rotate_left ; (focus (first | omega | (simp ; done) | (simp ; omega))))) | (with_reducible rfl) | (focus (simp ; done))))
      have gx : Hid _ := gx0
      have HO2 : Hid ((w9.alloc (.cells #[.string spareS, .int .i64 9, .int .i64 0, .string ⟨#[]⟩, .bool false] 32 (0, 0))).ownsRow ws.heap.size 32 5 v1 l.length (flat l)) := HO1.out.alloc _
      have h10 := h9.alloc h9.size (.cells #[.string spareS, .int .i64 9, .int .i64 0, .string ⟨#[]⟩, .bool false] 32 (0, 0))
      have t1 := (ents_one (k := spareS) (c := 9) (n := 0) (v := ⟨#[]⟩) (d := false) gx.out (by decide)).cells'
      refine wp_append_any _ (.tmp 11) (.tmp 13) 22 rfl ws.heap.size 32 i0 _ 5 56 Tryd.underlying22 HI.out.1 HI.out.2.1 HI.out.2.2.1 HI.out.2.2.2 rfl (by decide) v1 l.length (flat l) rfl HO2.out (some ⟨w9.heap.size, 0, none⟩) 1 1 (flat [spareE]) rfl rfl (fun h => by cases h) t1 (flat_one _) ?_ ?_ ?_ ?_
      · unfold maxLen; omega
      · omega
      · exact h10.size
      intro v2 w11 hown2 hgrow2
      have h11 : Below ws.heap.size ws w11 := h10.grown hgrow2 h10.size (fun y hy => (HO2.out.lt y hy).1)
      refine hK _ _ ?_
      try simp only [Act.put, List.setIfInBounds_toArray, List.set_cons_succ, List.set_cons_zero]
      have HF : Hid (w11.ownsRow ws.heap.size 32 5 v2 (l.length + 1) (flat l ++ flat [spareE])) := hown2
      clear hown2 hgrow2 t1 gx
      refine x_pure rfl 4 v2 rfl (by simp) ?_ ?_
      · intro w8 K hK
        go_wp2_with fail
      simp only [Act.put, List.setIfInBounds_toArray, List.set_cons_succ, List.set_cons_zero]
      refine x_end ?_
      rintro _ rfl
      first | exact ⟨_, v1, _, _, v2, rfl, HF.out, h11⟩ | exact ⟨trivial, _, v1, _, _, v2, rfl, HF.out, h11⟩
    · simp only [List.getD_cons_zero, List.getD_cons_succ]
      refine x_write rfl ?_
      intro w8 hD K hK
      have q := blk5 (blk_below g0 hD)
      go_wp2_with fail
      refine x_end ?_
      refine wpX_fork2 (i := 1) (j := 3) (by kernel_rfl) (by kernel_rfl) ?_ ?_
      · simp only [List.getD_cons_zero, List.getD_cons_succ]
        refine x_write rfl ?_
        rintro w8 rfl K hK
        refine wp_append_any _ (.const (.slice none 0 0)) (.tmp 10) 22 rfl ws.heap.size 32 i0 _ 5 56 Tryd.underlying22 HI.out.1 HI.out.2.1 HI.out.2.2.1 HI.out.2.2.2 rfl (by decide) (.slice none 0 0) 0 [] rfl (World.ownsRow_nil _ _ _ _) oa l.length ca (flat l) rfl (flat_length l) HH.out.2.2 (HH.out.2.1.below ((hb.trans (hD.mono hz)))).cells' (flat_one l) ?_ ?_ ?_ ?_
        · unfold maxLen; omega
        · omega
        · exact hD.size
        intro v1 w9 hown hgrow
        have HO1 : Hid (w9.ownsRow ws.heap.size 32 5 v1 l.length (flat l)) := by unfold Hid; simpa using hown
        have h9 : Below ws.heap.size ws w9 := hD.grown hgrow hD.size (by intro y hy; simp [Value.ownBlock] at hy)
        refine hK _ _ ?_
        try simp only [Act.put, List.setIfInBounds_toArray, List.set_cons_succ, List.set_cons_zero]
        refine x_end ?_
        refine wpX_tail [3, 4, 5] 3 (by kernel_rfl) ?_
        simp only [List.map_cons, List.map_nil, List.getD_cons_zero, List.getD_cons_succ]
        refine x_write rfl ?_
        rintro w9 rfl K hK
        go_wp2_with fail
        refine x_write rfl ?_
        rintro _ rfl K hK
        have gx0 : (w9.alloc (.cells #[.string spareS, .int .i64 9, .int .i64 0, .string ⟨#[]⟩, .bool false] 32 (0, 0))).heap[w9.heap.size]? = some (.cells #[.string spareS, .int .i64 9, .int .i64 0, .string ⟨#[]⟩, .bool false] 32 (0, 0)) := by (repeat (first | (with_reducible assumption) | (with_reducible exact Below.refl _ _) | (with_reducible refine heap_drew ?_) | (focus ((with_reducible refine heap_new ?_) ; simp ; done)) | (with_reducible apply heap_set_to) | (focus ((with_reducible refine heap_set_ne ?_ ?_ _) ; rotate_left ; (focus (first | omega | (simp ; done) | (simp ; omega))))) | (with_reducible refine heap_old ?_) | (with_reducible refine Below.drew ?_) | (with_reducible refine below_set ?_ _ _) | (focus ((with_reducible refine Below.setCell ?_ ?_ _) ; rotate_left ; (focus (first | omega | (simp ; done) | (simp ; omega))))) | (focus ((with_reducible refine Below.alloc ?_ ?_ _) ; rotate_left ; (focus (first | omega | (simp ; done) | (simp ; omega))))) | (with_reducible rfl) | (focus (simp ; done))))
        have gx : Hid _ := gx0
        have HO2 : Hid ((w9.alloc (.cells #[.string spareS, .int .i64 9, .int .i64 0, .string ⟨#[]⟩, .bool false] 32 (0, 0))).ownsRow ws.heap.size 32 5 v1 l.length (flat l)) := HO1.out.alloc _
        have h10 := h9.alloc h9.size (.cells #[.string spareS, .int .i64 9, .int .i64 0, .string ⟨#[]⟩, .bool false] 32 (0, 0))
        have t1 := (ents_one (k := spareS) (c := 9) (n := 0) (v := ⟨#[]⟩) (d := false) gx.out (by decide)).cells'
        refine wp_append_any _ (.tmp 11) (.tmp 13) 22 rfl ws.heap.size 32 i0 _ 5 56 Tryd.underlying22 HI.out.1 HI.out.2.1 HI.out.2.2.1 HI.out.2.2.2 rfl (by decide) v1 l.length (flat l) rfl HO2.out (some ⟨w9.heap.size, 0, none⟩) 1 1 (flat [spareE]) rfl rfl (fun h => by cases h) t1 (flat_one _) ?_ ?_ ?_ ?_
        · unfold maxLen; omega
        · omega
        · exact h10.size
        intro v2 w11 hown2 hgrow2
        have h11 : Below ws.heap.size ws w11 := h10.grown hgrow2 h10.size (fun y hy => (HO2.out.lt y hy).1)
        refine hK _ _ ?_
        try simp only [Act.put, List.setIfInBounds_toArray, List.set_cons_succ, List.set_cons_zero]
        have HF : Hid (w11.ownsRow ws.heap.size 32 5 v2 (l.length + 1) (flat l ++ flat [spareE])) := hown2
        clear hown2 hgrow2 t1 gx
        refine x_pure rfl 4 v2 rfl (by simp) ?_ ?_
        · intro w8 K hK
          go_wp2_with fail
        simp only [Act.put, List.setIfInBounds_toArray, List.set_cons_succ, List.set_cons_zero]
        refine x_end ?_
        rintro _ rfl
        first | exact ⟨_, v1, _, _, v2, rfl, HF.out, h11⟩ | exact ⟨trivial, _, v1, _, _, v2, rfl, HF.out, h11⟩
      · simp only [List.getD_cons_zero, List.getD_cons_succ]
        refine x_write rfl ?_
        rintro w8 rfl K hK
        go_wp2_with fail
        refine x_end ?_
        refine wpX_tail [1, 4, 5] 3 (by kernel_rfl) ?_
        simp only [List.map_cons, List.map_nil, List.getD_cons_zero, List.getD_cons_succ]
        refine x_write rfl ?_
        rintro _ rfl K hK
        have gx0 : (w8.alloc (.cells #[.string spareS, .int .i64 9, .int .i64 0, .string ⟨#[]⟩, .bool false] 32 (0, 0))).heap[w8.heap.size]? = some (.cells #[.string spareS, .int .i64 9, .int .i64 0, .string ⟨#[]⟩, .bool false] 32 (0, 0)) := by (repeat (first | (with_reducible assumption) | (with_reducible exact Below.refl _ _) | (with_reducible refine heap_drew ?_) | (focus ((with_reducible refine heap_new ?_) ; simp ; done)) | (with_reducible apply heap_set_to) | (focus ((with_reducible refine heap_set_ne ?_ ?_ _) ; rotate_left ; (focus (first | omega | (simp ; done) | (simp ; omega))))) | (with_reducible refine heap_old ?_) | (with_reducible refine Below.drew ?_) | (with_reducible refine below_set ?_ _ _) | (focus ((with_reducible refine Below.setCell ?_ ?_ _) ; rotate_left ; (focus (first | omega | (simp ; done) | (simp ; omega))))) | (focus ((with_reducible refine Below.alloc ?_ ?_ _) ; rotate_left ; (focus (first | omega | (simp ; done) | (simp ; omega))))) | (with_reducible rfl) | (focus (simp ; done))))
        replace hD := hD.alloc hD.size (.cells #[.string spareS, .int .i64 9, .int .i64 0, .string ⟨#[]⟩, .bool false] 32 (0, 0))
        refine wp_append_any _ (.const (.slice none 0 0)) (.tmp 10) 22 rfl ws.heap.size 32 i0 _ 5 56 Tryd.underlying22 HI.out.1 HI.out.2.1 HI.out.2.2.1 HI.out.2.2.2 rfl (by decide) (.slice none 0 0) 0 [] rfl (World.ownsRow_nil _ _ _ _) oa l.length ca (flat l) rfl (flat_length l) HH.out.2.2 (HH.out.2.1.below ((hb.trans (hD.mono hz)))).cells' (flat_one l) ?_ ?_ ?_ ?_
        · unfold maxLen; omega
        · omega
        · exact hD.size
        intro v1 w9 hown hgrow
        have HO1 : Hid (w9.ownsRow ws.heap.size 32 5 v1 l.length (flat l)) := by unfold Hid; simpa using hown
        have h9 : Below ws.heap.size ws w9 := hD.grown hgrow hD.size (by intro y hy; simp [Value.ownBlock] at hy)
        refine hK _ _ ?_
        try simp only [Act.put, List.setIfInBounds_toArray, List.set_cons_succ, List.set_cons_zero]
        have gx : Hid _ := (hgrow.block w8.heap.size (by simp) (by simp [Value.ownBlock])).trans gx0
        have HO2 := HO1
        have h10 := h9
        clear gx0 hgrow hown hD
        refine x_write rfl ?_
        rintro w9 rfl K hK
        have t1 := (ents_one (k := spareS) (c := 9) (n := 0) (v := ⟨#[]⟩) (d := false) gx.out (by decide)).cells'
        refine wp_append_any _ (.tmp 11) (.tmp 13) 22 rfl ws.heap.size 32 i0 _ 5 56 Tryd.underlying22 HI.out.1 HI.out.2.1 HI.out.2.2.1 HI.out.2.2.2 rfl (by decide) v1 l.length (flat l) rfl HO2.out (some ⟨w8.heap.size, 0, none⟩) 1 1 (flat [spareE]) rfl rfl (fun h => by cases h) t1 (flat_one _) ?_ ?_ ?_ ?_
        · unfold maxLen; omega
        · omega
        · exact h10.size
        intro v2 w11 hown2 hgrow2
        have h11 : Below ws.heap.size ws w11 := h10.grown hgrow2 h10.size (fun y hy => (HO2.out.lt y hy).1)
        refine hK _ _ ?_
        try simp only [Act.put, List.setIfInBounds_toArray, List.set_cons_succ, List.set_cons_zero]
        have HF : Hid (w11.ownsRow ws.heap.size 32 5 v2 (l.length + 1) (flat l ++ flat [spareE])) := hown2
        clear hown2 hgrow2 t1 gx
        refine x_pure rfl 4 v2 rfl (by simp) ?_ ?_
        · intro w8 K hK
          go_wp2_with fail
        simp only [Act.put, List.setIfInBounds_toArray, List.set_cons_succ, List.set_cons_zero]
        refine x_end ?_
        rintro _ rfl
        first | exact ⟨_, v1, _, _, v2, rfl, HF.out, h11⟩ | exact ⟨trivial, _, v1, _, _, v2, rfl, HF.out, h11⟩
  · rintro _ w8 ⟨v10, v11, v12, v13, v14, rfl, hown, h8⟩
    simp only [Act.put, List.setIfInBounds_toArray, List.set_cons_succ, List.set_cons_zero]
    rw [← flat_append] at hown
    have hKl : KeysOk l := HH.out.2.1.keys
    have HK : Hid (KeysOk l) := hKl
    have hlen1 : (l ++ [spareE]).length = l.length + 1 := by simp
    have hksp : KeysOk [spareE] := fun k hk => by
      obtain rfl : k = 0 := by simp at hk; exact hk
      show spareS.size ≤ _
      decide
    rcases hown.2 with ⟨_, h0⟩ | ⟨g, cc, cur, rfl, hg, hh, hnc, hcm, hcs, hct⟩
    · omega
    clear hh hcm hcs hct cur
    have hO : w8.ownsRow ws.heap.size 32 5 (.slice (some ⟨g, 0, none⟩) (l.length + 1) cc) (l.length + 1) (flat (l ++ [spareE])) := hown
    have hgl : g < w8.heap.size := (hO.lt g rfl).2
    have hbw8 : Below w.heap.size w w8 := below_back hb hz h8
    have hL8 : Hid (Lanes w8) := HH.out.1.below hbw8 hL0
    have hL80 : 0 < w8.heap.size := hL8.out.lt
    have HA8 : Hid (Ents w8 oa l) := HH.out.2.1.below hbw8
    have HO8 : Hid (w8.ownsRow ws.heap.size 32 5 (.slice (some ⟨g, 0, none⟩) (l.length + 1) cc) (l.length + 1) (flat (l ++ [spareE]))) := hO
    have CA : Hid (∀ w', Below w8.heap.size w8 w' → Calls Tryd.prog 29 #[.slice (some ⟨g, 0, none⟩) l.length cc] w' fun e w'' => e = .returned (sv (Go.Proofs.YtjeaobknojmbpaaDoor.u64 (tot0 l)) (Go.Proofs.YtjeaobknojmbpaaDoor.u64 (tot1 l))) ∧ Below w'.heap.size w' w'') := fun w' hc => all_any _ cc l w' (hL8.out.below hc hL80) (ents_pre (own_ents (own_below HO8.out hc) hlen1 (hKl.append hksp))) (by omega)
    have CR : Hid (∀ w', Below w8.heap.size w8 w' → Calls Tryd.prog 30 #[.slice oa l.length ca] w' fun e w'' => e = .returned (sv (Go.Proofs.YtjeaobknojmbpaaDoor.u64 (tot0 l)) (Go.Proofs.YtjeaobknojmbpaaDoor.u64 (tot1 l))) ∧ Below w'.heap.size w' w'') := fun w' hc => rall_any oa ca l w' (hL8.out.below hc hL80) (HA8.out.below hc) (by omega)
    have CS : Hid (∀ w', Below w8.heap.size w8 w' → w'.cell? ⟨g, l.length * 5, none⟩ = some (.string spareS) ∧ w'.cell? ⟨g, l.length * 5 + 1, none⟩ = some (.int .i64 9) ∧ w'.cell? ⟨g, l.length * 5 + 2, none⟩ = some (.int .i64 0) ∧ w'.cell? ⟨g, l.length * 5 + 3, none⟩ = some (.string ⟨#[]⟩) ∧ w'.cell? ⟨g, l.length * 5 + 4, none⟩ = some (.bool false)) := fun w' hc => by
      have h := own_ent (own_below HO8.out hc) hlen1 l.length (by simp)
      rw [show (l ++ [spareE])[l.length]'(by simp) = spareE by simp] at h
      exact h
    have g8 := (h8.block sb (blk_lt g0)).trans g0
    clear hown hO hlen1 hksp hKl g0
    go_wp2_with fail
    have hSt : Stable (fun w9 : World => (Below w8.heap.size w8 w9)) := by repeat (first | exact stable_ext _ | exact stable_blk _ _ | exact stable_true | (refine stable_bel ?_ ; (focus (first | (simp [World.size_setCell] ; done) | (simp [World.setCell] ; done)))) | refine Stable.and ?_ ?_)
    refine wp_region_x [0, 1, 2, 3, 4, 5, 6, 7, 8, 9, 10, 11, 12, 13, 14, 15, 16] [0, 0, 0, 0, 1, 0, 1, 0, 0, 0, 0, 0, 0, 1, 1, 0, 0] (fun w9 => (Below w8.heap.size w8 w9)) (by kernel_rfl) (by kernel_rfl) ?_ ?_
    · (first | trivial | (repeat (first | (with_reducible assumption) | (with_reducible exact Below.refl _ _) | (with_reducible refine heap_drew ?_) | (focus ((with_reducible refine heap_new ?_) ; simp ; done)) | (with_reducible apply heap_set_to) | (focus ((with_reducible refine heap_set_ne ?_ ?_ _) ; rotate_left ; (focus (first | omega | (simp ; done) | (simp ; omega))))) | (with_reducible refine heap_old ?_) | (with_reducible refine Below.drew ?_) | (with_reducible refine below_set ?_ _ _) | (focus ((with_reducible refine Below.setCell ?_ ?_ _) ; rotate_left ; (focus (first | omega | (simp ; done) | (simp ; omega))))) | (focus ((with_reducible refine Below.alloc ?_ ?_ _) ; rotate_left ; (focus (first | omega | (simp ; done) | (simp ; omega))))) | (with_reducible rfl) | (focus (simp ; done)))))
    simp only [List.map_cons, List.map_nil, List.getD_cons_zero, List.getD_cons_succ]
    (refine x_pure rfl _ ?_ rfl (by simp) ?_ ?_ ; rotate_left ; · (intro w9 K hK ; go_wp2_with fail ; exact rfl))
    simp only [Act.put, List.setIfInBounds_toArray, List.set_cons_succ, List.set_cons_zero]
    (refine x_pure rfl _ ?_ rfl (by simp) ?_ ?_ ; rotate_left ; · (intro w9 K hK ; go_wp2_with fail ; exact rfl))
    simp only [Act.put, List.setIfInBounds_toArray, List.set_cons_succ, List.set_cons_zero]
    (refine x_pure rfl _ ?_ rfl (by simp) ?_ ?_ ; rotate_left ; · (intro w9 K hK ; go_wp2_with fail ; exact rfl))
    simp only [Act.put, List.setIfInBounds_toArray, List.set_cons_succ, List.set_cons_zero]
    (refine x_pure rfl _ ?_ rfl (by simp) ?_ ?_ ; rotate_left ; · (intro w9 K hK ; go_wp2_with fail ; exact rfl))
    simp only [Act.put, List.setIfInBounds_toArray, List.set_cons_succ, List.set_cons_zero]
    (refine x_quiet rfl hSt (fun _ h => h) _ ?_ rfl (by simp) ?_ ?_ ; rotate_left ; · (intro w9 hC K hK ; have hc := hC ; have q3 := blk5 (blk_below g8 hc) ; have q4 := CS.out _ hc ; go_wp2_with fail ; refine (CA.out _ hc).mono ?_ ; rintro e w2 ⟨rfl, hb2⟩ ; refine hK _ _ ⟨?_, rfl, hb2⟩ ; exact rfl))
    simp only [Act.put, List.setIfInBounds_toArray, List.set_cons_succ, List.set_cons_zero]
    (refine x_pure rfl _ ?_ rfl (by simp) ?_ ?_ ; rotate_left ; · (intro w9 K hK ; go_wp2_with fail ; exact rfl))
    simp only [Act.put, List.setIfInBounds_toArray, List.set_cons_succ, List.set_cons_zero]
    (refine x_quiet rfl hSt (fun _ h => h) _ ?_ rfl (by simp) ?_ ?_ ; rotate_left ; · (intro w9 hC K hK ; have hc := hC ; have q3 := blk5 (blk_below g8 hc) ; have q4 := CS.out _ hc ; go_wp2_with fail ; refine (CR.out _ hc).mono ?_ ; rintro e w2 ⟨rfl, hb2⟩ ; refine hK _ _ ⟨?_, rfl, hb2⟩ ; exact rfl))
    simp only [Act.put, List.setIfInBounds_toArray, List.set_cons_succ, List.set_cons_zero]
    (refine x_pure rfl _ ?_ rfl (by simp) ?_ ?_ ; rotate_left ; · (intro w9 K hK ; go_wp2_with fail ; exact rfl))
    simp only [Act.put, List.setIfInBounds_toArray, List.set_cons_succ, List.set_cons_zero]
    (refine x_pure rfl _ ?_ rfl (by simp) ?_ ?_ ; rotate_left ; · (intro w9 K hK ; go_wp2_with fail ; exact rfl))
    simp only [Act.put, List.setIfInBounds_toArray, List.set_cons_succ, List.set_cons_zero]
    first | (refine x_skip rfl ?_) | (refine x_pure rfl _ ?_ rfl (by simp) ?_ ?_ ; rotate_left ; · (intro w9 K hK ; go_wp2_with fail ; exact rfl))
    simp only [Act.put, List.setIfInBounds_toArray, List.set_cons_succ, List.set_cons_zero]
    first | (refine x_skip rfl ?_) | (refine x_pure rfl _ ?_ rfl (by simp) ?_ ?_ ; rotate_left ; · (intro w9 K hK ; go_wp2_with fail ; exact rfl))
    simp only [Act.put, List.setIfInBounds_toArray, List.set_cons_succ, List.set_cons_zero]
    first | (refine x_skip rfl ?_) | (refine x_pure rfl _ ?_ rfl (by simp) ?_ ?_ ; rotate_left ; · (intro w9 K hK ; go_wp2_with fail ; exact rfl))
    simp only [Act.put, List.setIfInBounds_toArray, List.set_cons_succ, List.set_cons_zero]
    first | (refine x_skip rfl ?_) | (refine x_pure rfl _ ?_ rfl (by simp) ?_ ?_ ; rotate_left ; · (intro w9 K hK ; go_wp2_with fail ; exact rfl))
    simp only [Act.put, List.setIfInBounds_toArray, List.set_cons_succ, List.set_cons_zero]
    first | (refine x_skip rfl ?_) | (refine x_quiet rfl hSt (fun _ h => h) _ ?_ rfl (by simp) ?_ ?_ ; rotate_left ; · (intro w9 hC K hK ; have hc := hC ; have q3 := blk5 (blk_below g8 hc) ; have q4 := CS.out _ hc ; go_wp2_with fail ; refine ⟨?_, Below.refl _ _⟩ ; exact rfl))
    simp only [Act.put, List.setIfInBounds_toArray, List.set_cons_succ, List.set_cons_zero]
    first | (refine x_skip rfl ?_) | (refine x_quiet rfl hSt (fun _ h => h) _ ?_ rfl (by simp) ?_ ?_ ; rotate_left ; · (intro w9 hC K hK ; have hc := hC ; have q3 := blk5 (blk_below g8 hc) ; have q4 := CS.out _ hc ; go_wp2_with fail ; refine ⟨?_, Below.refl _ _⟩ ; exact rfl))
    simp only [Act.put, List.setIfInBounds_toArray, List.set_cons_succ, List.set_cons_zero]
    first | (refine x_skip rfl ?_) | (refine x_pure rfl _ ?_ rfl (by simp) ?_ ?_ ; rotate_left ; · (intro w9 K hK ; go_wp2_with fail ; exact rfl))
    simp only [Act.put, List.setIfInBounds_toArray, List.set_cons_succ, List.set_cons_zero]
    (refine x_pure rfl _ ?_ rfl (by simp) ?_ ?_ ; rotate_left ; · (intro w9 K hK ; go_wp2_with fail ; exact rfl))
    simp only [Act.put, List.setIfInBounds_toArray, List.set_cons_succ, List.set_cons_zero]
    refine x_nil ?_
    rintro w9 hc
    go_wp2_with fail
    have HO9 := own_below HO8.out hc
    have hB9 := below_back h8 h8.size hc
    have hs9 := hc.size
    have HOm : Hid (w9.ownsRow ws.heap.size 32 5 (.slice (some ⟨g, 0, none⟩) (l.length + 1) cc) (l.length + 1) (flat (mixed l 0))) := by rw [mixed_zero]; exact HO9
    clear HO9 CA CR CS hc h8 hgl HO8 hL8 hL80 HA8 hbw8 g8
    go_loopw [34] (fun c wr => ∃ (i : Nat), i ≤ l.length ∧ c = .int .i64 i ∧ Hid (wr.ownsRow ws.heap.size 32 5 (.slice (some ⟨g, 0, none⟩) (l.length + 1) cc) (l.length + 1) (flat (mixed l i))) ∧ Below ws.heap.size ws wr) (fun c _ => l.length - (intOf c).toNat)
    case atStart => exact ⟨0, Nat.zero_le _, rfl, HOm, hB9⟩
    case round =>
      clear HOm hB9
      obtain ⟨i, hi, rfl, HO, hbr⟩ := hrel
      have hbwr : Below w.heap.size w wr := below_back hb hz hbr
      by_cases h1 : i < l.length
      · have hin : i < (mixed l i).length := by rw [mixed_length l i hi]; omega
        obtain ⟨⟨ek, ec, en, evv, ed⟩, hee⟩ : ∃ e, e = l[i] := ⟨_, rfl⟩
        have HE : Hid (l[i] = (ek, ec, en, evv, ed)) := hee.symm
        obtain ⟨ab, ao, rfl, hea, _⟩ := HH.out.2.1 i h1
        have hab : ab < w.heap.size := hea.lt
        rw [← hee] at hea
        have HEA : Hid (EntAt w ab (ao + i * 5) (ek, ec, en, evv, ed)) := hea
        have CE1 : Hid (∀ w', Below wr.heap.size wr w' → w'.cell? ⟨g, i * 5, none⟩ = some (.string ek) ∧ w'.cell? ⟨g, i * 5 + 1, none⟩ = some (.int .i64 ec) ∧ w'.cell? ⟨g, i * 5 + 2, none⟩ = some (.int .i64 en) ∧ w'.cell? ⟨g, i * 5 + 3, none⟩ = some (.string evv) ∧ w'.cell? ⟨g, i * 5 + 4, none⟩ = some (.bool ed)) := fun w' hc => by
          have h := own_ent (own_below HO.out hc) (mixed_length l i hi) i hin
          rw [mixed_get l i h1 hin, HE.out] at h
          exact h
        have CE2 : Hid (∀ w', Below wr.heap.size wr w' → w'.cell? ⟨ab, ao + i * 5, none⟩ = some (.string ek) ∧ w'.cell? ⟨ab, ao + i * 5 + 1, none⟩ = some (.int .i64 ec) ∧ w'.cell? ⟨ab, ao + i * 5 + 2, none⟩ = some (.int .i64 en) ∧ w'.cell? ⟨ab, ao + i * 5 + 3, none⟩ = some (.string evv) ∧ w'.cell? ⟨ab, ao + i * 5 + 4, none⟩ = some (.bool ed)) := fun w' hc => HEA.out.below (below_back hbwr hbwr.size hc) hab
        clear hee hea
        go_wp2_with fail
        have hSt : Stable (fun w10 : World => (Below wr.heap.size wr w10)) := by repeat (first | exact stable_ext _ | exact stable_blk _ _ | exact stable_true | (refine stable_bel ?_ ; (focus (first | (simp [World.size_setCell] ; done) | (simp [World.setCell] ; done)))) | refine Stable.and ?_ ?_)
        refine wp_region_x [0, 1, 2, 3, 4, 5, 6, 7, 8] [0, 0, 0, 1, 0, 0, 0, 1, 0] (fun w10 => (Below wr.heap.size wr w10)) (by kernel_rfl) (by kernel_rfl) ?_ ?_
        · (first | trivial | (repeat (first | (with_reducible assumption) | (with_reducible exact Below.refl _ _) | (with_reducible refine heap_drew ?_) | (focus ((with_reducible refine heap_new ?_) ; simp ; done)) | (with_reducible apply heap_set_to) | (focus ((with_reducible refine heap_set_ne ?_ ?_ _) ; rotate_left ; (focus (first | omega | (simp ; done) | (simp ; omega))))) | (with_reducible refine heap_old ?_) | (with_reducible refine Below.drew ?_) | (with_reducible refine below_set ?_ _ _) | (focus ((with_reducible refine Below.setCell ?_ ?_ _) ; rotate_left ; (focus (first | omega | (simp ; done) | (simp ; omega))))) | (focus ((with_reducible refine Below.alloc ?_ ?_ _) ; rotate_left ; (focus (first | omega | (simp ; done) | (simp ; omega))))) | (with_reducible rfl) | (focus (simp ; done)))))
        simp only [List.map_cons, List.map_nil, List.getD_cons_zero, List.getD_cons_succ]
        (refine x_pure rfl _ ?_ rfl (by simp) ?_ ?_ ; rotate_left ; · (intro w10 K hK ; go_wp2_with fail ; exact rfl))
        simp only [Act.put, List.setIfInBounds_toArray, List.set_cons_succ, List.set_cons_zero]
        (refine x_pure rfl _ ?_ rfl (by simp) ?_ ?_ ; rotate_left ; · (intro w10 K hK ; go_wp2_with fail ; exact rfl))
        simp only [Act.put, List.setIfInBounds_toArray, List.set_cons_succ, List.set_cons_zero]
        (refine x_pure rfl _ ?_ rfl (by simp) ?_ ?_ ; rotate_left ; · (intro w10 K hK ; go_wp2_with fail ; exact rfl))
        simp only [Act.put, List.setIfInBounds_toArray, List.set_cons_succ, List.set_cons_zero]
        (refine x_quiet rfl hSt (fun _ h => h) _ ?_ rfl (by simp) ?_ ?_ ; rotate_left ; · (intro w10 hC K hK ; have hc := hC ; have q1 := CE1.out _ hc ; have q2 := CE2.out _ hc ; go_wp2_with fail ; refine ⟨?_, Below.refl _ _⟩ ; exact rfl))
        simp only [Act.put, List.setIfInBounds_toArray, List.set_cons_succ, List.set_cons_zero]
        (refine x_pure rfl _ ?_ rfl (by simp) ?_ ?_ ; rotate_left ; · (intro w10 K hK ; go_wp2_with fail ; exact rfl))
        simp only [Act.put, List.setIfInBounds_toArray, List.set_cons_succ, List.set_cons_zero]
        (refine x_pure rfl _ ?_ rfl (by simp) ?_ ?_ ; rotate_left ; · (intro w10 K hK ; go_wp2_with fail ; exact rfl))
        simp only [Act.put, List.setIfInBounds_toArray, List.set_cons_succ, List.set_cons_zero]
        (refine x_pure rfl _ ?_ rfl (by simp) ?_ ?_ ; rotate_left ; · (intro w10 K hK ; go_wp2_with fail ; exact rfl))
        simp only [Act.put, List.setIfInBounds_toArray, List.set_cons_succ, List.set_cons_zero]
        (refine x_quiet rfl hSt (fun _ h => h) _ ?_ rfl (by simp) ?_ ?_ ; rotate_left ; · (intro w10 hC K hK ; have hc := hC ; have q1 := CE1.out _ hc ; have q2 := CE2.out _ hc ; go_wp2_with fail ; refine ⟨?_, Below.refl _ _⟩ ; exact rfl))
        simp only [Act.put, List.setIfInBounds_toArray, List.set_cons_succ, List.set_cons_zero]
        (refine x_pure rfl _ ?_ rfl (by simp) ?_ ?_ ; rotate_left ; · (intro w10 K hK ; go_wp2_with fail ; exact rfl))
        simp only [Act.put, List.setIfInBounds_toArray, List.set_cons_succ, List.set_cons_zero]
        refine x_nil ?_
        rintro w10 hc
        have q1 := CE1.out _ hc
        have HO10 := own_below HO.out hc
        have hf := HO10.frozenAt
        have hgl : g < w10.heap.size := (HO10.lt g rfl).2
        have HO11 : Hid (w10.ownsRow ws.heap.size 32 5 (.slice (some ⟨g, 0, none⟩) (l.length + 1) cc) (l.length + 1) (flat (mixed l i))) := HO10
        have hb10 := below_back hbr hbr.size hc
        clear HO10 hc CE1 CE2
        go_wp2_with fail
        go_roundw
        case rel =>
          have hse : flat (mixed l (i + 1)) = ((flat (mixed l i)).set (i * 5 + 3) (.string anotherS)).set (i * 5 + 4) (.bool (!ed)) := by
            have h := flat_turn (mixed l i) i hin anotherS (!ed)
            rw [mixed_get l i h1 hin, HE.out] at h
            rw [← mixed_set l i h1, HE.out]
            exact h
          have hst := ((HO11.out.stored (i * 5 + 3) (.string anotherS)).1.stored (i * 5 + 4) (.bool (!ed))).1
          rw [← hse] at hst
          refine ⟨i + 1, by omega, by go_num, hst, ?_⟩
          (repeat (first | (with_reducible assumption) | (with_reducible exact Below.refl _ _) | (with_reducible refine heap_drew ?_) | (focus ((with_reducible refine heap_new ?_) ; simp ; done)) | (with_reducible apply heap_set_to) | (focus ((with_reducible refine heap_set_ne ?_ ?_ _) ; rotate_left ; (focus (first | omega | (simp ; done) | (simp ; omega))))) | (with_reducible refine heap_old ?_) | (with_reducible refine Below.drew ?_) | (with_reducible refine below_set ?_ _ _) | (focus ((with_reducible refine Below.setCell ?_ ?_ _) ; rotate_left ; (focus (first | omega | (simp ; done) | (simp ; omega))))) | (focus ((with_reducible refine Below.alloc ?_ ?_ _) ; rotate_left ; (focus (first | omega | (simp ; done) | (simp ; omega))))) | (with_reducible rfl) | (focus (simp ; done))))
        case measure => simp [intOf]; omega
      · obtain rfl : i = l.length := by omega
        have HL : Hid (Lanes wr ∧ Ents wr oa l) := ⟨HH.out.1.below hbwr hL0, HH.out.2.1.below hbwr⟩
        have CA : Hid (Calls Tryd.prog 29 #[.slice (some ⟨g, 0, none⟩) l.length cc] wr fun e w'' => e = .returned (sv (Go.Proofs.YtjeaobknojmbpaaDoor.u64 (tot0 l)) (Go.Proofs.YtjeaobknojmbpaaDoor.u64 (tot1 l))) ∧ Below wr.heap.size wr w'') := by
          have hO := HO.out
          rw [mixed_last] at hO
          have h := all_any (some ⟨g, 0, none⟩) cc (l.map turnE) wr HL.out.1 (ents_pre (own_ents hO (by simp) (keys_mixed HK.out))) (by rw [List.length_map]; omega)
          rw [List.length_map, tot0_turn, tot1_turn] at h
          exact h
        clear HO
        have hcc : l.length + 1 ≤ cc := hnc
        go_wp2_with fail
        refine CA.out.mono ?_
        rintro e w11 ⟨rfl, hb11⟩
        have hbw11 := below_back hbwr hbwr.size hb11
        have HL11 : Hid (Lanes w11 ∧ Ents w11 oa l) := ⟨HH.out.1.below hbw11 hL0, HH.out.2.1.below hbw11⟩
        clear HL hb11 CA
        go_wp2_with fail
        refine (rall_any oa ca l _ HL11.out.1 HL11.out.2 (by omega)).mono ?_
        rintro e w12 ⟨rfl, hb12⟩
        have hbw12 := below_back hbw11 hbw11.size hb12
        clear hb12 HL11 hbw11 hbwr
        go_wp2_with fail
        go_ret
        exact ⟨rfl, hbw12⟩

set_option maxRecDepth 100000 in
theorem mixall_lifted (os : Os) (started : os.Started) (H : Type) (enc : TypeId × Value → H) :
    ReturnsInHanded {} Tryd.checked os 9 .any (fun w args => (Rows.mixAllSpec.pre enc Tryd.prog Tryd.f9 Rows.mixAllRow.domain false w args ∧ laidMetH Tryd.prog laidL w) ∧ sizedMet enc Tryd.prog Tryd.f9 (OpenSpec.ofChange Rows.mixAllSpec) false w args)
      (Rows.mixAllSpec.post enc Tryd.prog Tryd.f9 false true false false) := by
  refine returnsInHanded_of_change_and (C := Tryd.checked) (X := fun w _ => laidMetH Tryd.prog laidL w) (fun _ _ _ hh h => h.of_heap hh) own started (by kernel_rfl) Tryd.func9
    (ChangeSpec.witness_shaped (enc := enc) (C := Tryd.checked) (os := os) (X := fun w _ => laidMetH Tryd.prog laidL w) false (World.doorLaid Tryd.prog 400 os) #[.slice none 0 0] 8 rfl (World.shaped_of_RefB (by kernel_rfl) (by kernel_rfl)) (by kernel_rfl) (by kernel_rfl) (by kernel_rfl) (door_met os _)) ?_
  intro W base args ds gs before hval0 hW hcnd hsz0 hL _
  have hval : ∀ (j : Nat) t v, Tryd.f9.params[j]? = some t → args[j]? = some v → Value.okWide Tryd.prog W .any base t v := hval0
  have hsz : (DataW.weightsEach Tryd.prog (Tryd.f9.params.toList ++ Rows.mixAllSpec.plain.varTypes Tryd.prog) (ds ++ gs)).all (· ≤ reachBytes) = true := hsz0
  have hW' := hW
  obtain ⟨p, q, hA0, hV, rfl, hfz, hnd⟩ := hW
  have hA : DataW.TrodAll enc Tryd.prog W 0 (fun _ => true) true Tryd.f9.params.toList args.toList ds p := hA0
  rw [Tryd.params9] at hA hval hsz
  obtain ⟨v0, vs0, d0, ds0, p0, q0, hargs, rfl, rfl, h0, r0⟩ := trodAll_cons hA
  obtain ⟨rfl, rfl, rfl⟩ := trodAll_nil r0
  obtain rfl : args = #[v0] := by apply Array.toList_inj.1; exact hargs
  have w0 : ∀ n ∈ d0.weights Tryd.prog 22, n ≤ reachBytes := fun n hn => by
    have := List.all_eq_true.1 hsz n (DataW.weights_mem_each (j := 0) (t := 22) (d := d0) rfl rfl n hn)
    simpa using this
  obtain ⟨oa, ca, l, rfl, na, hl, hA1⟩ := open_entries (hval 0 _ v0 rfl rfl) h0 w0
  refine (mixall_walk oa ca l W (lanes_of_laid hL) hA1 na hl).mono fun e W' ⟨he, hg⟩ => ?_
  exact ⟨_, he, law_post laidOut (by kernel_rfl) (by kernel_rfl) Tryd.underlying4 rfl hW' rfl hg⟩

theorem mixall_holds : Rows.MixAllSaid :=
  OpenClaim.holds_of_wide 9 Tryd.f9 rfl rfl rfl rfl rfl rfl rfl ⟨rfl, rfl, rfl, rfl, rfl⟩ rfl rfl rfl rfl rfl (by kernel_rfl) Tryd.func9 (by kernel_rfl)
    (of_decide_eq_true (by kernel_rfl)) (by unfold Func.isWrapper; first | (rw [if_pos (by decide +kernel)]; kernel_rfl) | (rw [if_neg (by decide +kernel)]; exact ⟨rfl, rfl⟩))
    (fun os started H enc _ => mixall_lifted os started H enc)

theorem mixall_card : Rows.MixAllCardSaid :=
  Claim7.holds_tied_plain_at .later [] [.data] true (true, "67654b4c692b679d4de46bb3538cc166f90241f666e4c76ce4329fa71c89c3d9") false
    mixall_holds (fun _ h => by cases h) (by kernel_rfl) (fun _ h => by cases h) mixAll_row_tie rfl ⟨rfl, rfl⟩ (by kernel_rfl) rfl
    (fun f fn hf hfn => by
      obtain rfl : f = 9 := Option.some.inj ((show Tryd.prog.funcNamed "tideline/tidelinelaw04.MixAll" = some 9 by kernel_rfl).symm.trans hf) |>.symm
      obtain rfl : fn = Tryd.f9 := (Option.some.inj (Tryd.func9.symm.trans hfn)).symm
      exact ⟨by kernel_rfl, fun j t ht => by
        rw [Tryd.params9] at ht
        have hm : t ∈ [22] := by simpa using Array.mem_of_getElem? ht
        have hall : ([22].all fun u => !Tryd.prog.wantsStandIn u) = true := by kernel_rfl
        exact (show Tryd.prog.wantsStandIn t = false by simpa using List.all_eq_true.1 hall t hm)⟩)
    (by kernel_rfl)
#print axioms mixall_card
end Go.Proofs.YtjeaobknojmbpaaDoor
