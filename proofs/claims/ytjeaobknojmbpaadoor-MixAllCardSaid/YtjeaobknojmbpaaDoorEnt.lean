/-
  Slices of entries: an argument's cells; rows that the call has made, and 'append' to them.
-/
import Derived.Test.YtjeaobknojmbpaaDoorSum
import Derived.SizedLaws
namespace Go.Proofs.YtjeaobknojmbpaaDoor
open Go.ChangeShapes Go.WideShapes Go.ChangeAt Go.RowKit Go.Deep
set_option linter.unusedVariables false
set_option linter.unusedSimpArgs false

theorem info_entry : (Tryd.prog.info? 32).map (fun i => (i.zero, i.size, i.bytes)) = some (some (.agg #[.string ByteArray.empty, .int .i64 0, .int .i64 0, .string ByteArray.empty, .bool false]), 5, 56) := by kernel_rfl

/-- An entry's cells. -/
def ecells (e : Ent) : List Value := [.string e.1, .int .i64 e.2.1, .int .i64 e.2.2.1, .string e.2.2.2.1, .bool e.2.2.2.2]
def flat : List Ent → List Value
  | [] => []
  | e :: r => ecells e ++ flat r
theorem flat_length : ∀ l : List Ent, (flat l).length = l.length * 5
  | [] => rfl
  | e :: r => by rw [flat, List.length_append, flat_length r, List.length_cons]; simp [ecells]; omega
theorem flat_append : ∀ l m : List Ent, flat (l ++ m) = flat l ++ flat m
  | [], m => rfl
  | e :: r, m => by rw [List.cons_append, flat, flat, flat_append r m, List.append_assoc]
theorem flat_get : ∀ (l : List Ent) (k : Nat) (h : k < l.length) (r : Nat), r < 5 → (flat l)[k * 5 + r]? = (ecells l[k])[r]?
  | e :: l, 0, _, r, hr => by
    rw [flat, List.getElem?_append_left (by simp [ecells]; omega)]
    simp
  | e :: l, k + 1, h, r, hr => by
    have hl : (ecells e).length = 5 := rfl
    rw [flat, List.getElem?_append_right (by omega), hl, show (k + 1) * 5 + r - 5 = k * 5 + r by omega, flat_get l k (by simpa using h) r hr]
    rfl
theorem flat_one (l : List Ent) : ∀ u ∈ flat l, u.oneCell' = true := by
  induction l with
  | nil => intro u h; cases h
  | cons e r ih =>
    intro u h
    rw [flat] at h
    rcases List.mem_append.1 h with h | h
    · simp only [ecells, List.mem_cons, List.not_mem_nil, or_false] at h
      rcases h with rfl | rfl | rfl | rfl | rfl <;> rfl
    · exact ih u h

/-- No key is longer than a text may be. -/
def KeysOk (l : List Ent) : Prop := ∀ k (h : k < l.length), l[k].1.size ≤ 140737488351232
theorem KeysOk.append {l m : List Ent} (hl : KeysOk l) (hm : KeysOk m) : KeysOk (l ++ m) := fun k h => by
  rw [List.getElem_append]
  split
  · exact hl k _
  · exact hm _ _
theorem Ents.keys {w : World} {oa : Option Addr} {l : List Ent} (h : Ents w oa l) : KeysOk l := fun k hk => by
  obtain ⟨b, o, _, _, h3⟩ := h k hk
  exact h3

/-- What a slice of entries lays at its cells. -/
theorem Ents.cells {w : World} {ad : Addr} {l : List Ent} (h : Ents w (some ad) l) : ∀ j u, (flat l)[j]? = some u → w.cell? (ad.add j) = some u := fun j u hj => by
  have hlt : j < l.length * 5 := by
    have := (List.getElem?_eq_some_iff.1 hj).1
    rwa [flat_length] at this
  have hk : j / 5 < l.length := by omega
  obtain ⟨b, o, h1, ⟨e0, e1, e2, e3, e4⟩, _⟩ := h (j / 5) hk
  obtain rfl := Option.some.inj h1
  have hr : j % 5 < 5 := Nat.mod_lt _ (by omega)
  have hd : j / 5 * 5 + j % 5 = j := by omega
  rw [← hd, flat_get l (j / 5) hk (j % 5) hr] at hj
  rw [add_none, ← hd]
  generalize j / 5 = q at *
  generalize j % 5 = r at *
  match r, hr, hj with
  | 0, _, hj => simp [ecells] at hj; rw [← hj]; exact e0
  | 1, _, hj => simp [ecells] at hj; rw [← hj, ← Nat.add_assoc]; exact e1
  | 2, _, hj => simp [ecells] at hj; rw [← hj, ← Nat.add_assoc]; exact e2
  | 3, _, hj => simp [ecells] at hj; rw [← hj, ← Nat.add_assoc]; exact e3
  | 4, _, hj => simp [ecells] at hj; rw [← hj, ← Nat.add_assoc]; exact e4

theorem Ents.cells' {w : World} {oa : Option Addr} {l : List Ent} (h : Ents w oa l) : ∀ ad, oa = some ad → ∀ j u, (flat l)[j]? = some u → w.cell? (ad.add j) = some u := fun ad e => by
  subst e
  exact h.cells

/-- A row that the call owns, read as a slice of entries. -/
theorem ents_of_own {w : World} {base : Nat} {v : Value} {l : List Ent} {n : Nat} (hn : n = l.length) (h : w.ownsRow base 32 5 v n (flat l)) (hk : KeysOk l) :
    ∃ oa cap, v = .slice oa n cap ∧ (oa = none → n = 0 ∧ cap = 0) ∧ Ents w oa l := by
  subst hn
  rcases h.2 with ⟨rfl, h0⟩ | ⟨g, cap, cur, rfl, hb, hg, hnc, hcm, hcs, ht⟩
  · exact ⟨none, 0, by rw [h0], fun _ => ⟨h0, rfl⟩, fun k hk' => absurd hk' (by omega)⟩
  · refine ⟨some ⟨g, 0, none⟩, cap, rfl, fun h => (by cases h), fun k hk' => ⟨g, 0, rfl, ?_, hk k hk'⟩⟩
    have key : ∀ r, r < 5 → w.cell? ⟨g, 0 + k * 5 + r, none⟩ = (ecells l[k])[r]? := fun r hr => by
      rw [blk_cell hg, ← Array.getElem?_toList, Nat.zero_add]
      have : cur.toList[k * 5 + r]? = (cur.toList.take (l.length * 5))[k * 5 + r]? := by rw [List.getElem?_take, if_pos (by omega)]
      rw [this, ht, flat_get l k hk' r hr]
    exact ⟨key 0 (by omega), key 1 (by omega), key 2 (by omega), key 3 (by omega), key 4 (by omega)⟩

/-- 'append' to a row that the call owns, whatever is appended: nil, empty or not. -/
theorem wpList_append_any {P : Program} (w : World) {ops : Array Oper} {rest : List Oper} {o : Oper} {a : Act} {Q : Exit → Act → World → Prop} (hgd : o.guard = none) (s x : Operand) (t : TypeId)
    (ho : o.op = .call { callee := .builtin .append, args := #[s, x], argTypes := #[t, t] })
    (base : Nat) (e : TypeId) (i : TypeInfo) (z : Value) (size bytes : Nat) (ht : P.underlying t = some (.slice e)) (hi : P.info? e = some i) (hz : i.zero = some z)
    (hsize : i.size = size) (hby : i.bytes = bytes) (hzs : z.cells.size = size) (hsz : 0 < size)
    (v : Value) (n : Nat) (xs : List Value) (hs : a.eval s = v) (hown : w.ownsRow base e size v n xs)
    (ao : Option Addr) (m c : Nat) (news : List Value) (hx : a.eval x = .slice ao m c) (hl : news.length = m * size) (hnone : ao = none → m = 0 ∧ c = 0) (hnews : ∀ ad, ao = some ad → ∀ j u, news[j]? = some u → w.cell? (ad.add j) = some u) (h1 : ∀ u ∈ news, u.oneCell' = true)
    (h63 : n + m ≤ maxLen) (hbytes : (n + m) * bytes ≤ 140737488355328) (hbase : base ≤ w.heap.size)
    (h : ∀ v' w', w'.ownsRow base e size v' (n + m) (xs ++ news) → w.grownBy w' v.ownBlock → wpList P ops Q rest (a.put o.dst v') w') : wpList P ops Q (o :: rest) a w := by
  cases ao with
  | some ad => exact wpList_append_own w hgd s x t ho base e i z size bytes ht hi hz hsize hby hzs hsz v n xs hs hown ad m c news hx hl (hnews ad rfl) h1 h63 hbytes hbase fun v' w' h2 h3 _ => h v' w' h2 h3
  | none =>
    obtain ⟨rfl, rfl⟩ := hnone rfl
    have hnews : news = [] := List.eq_nil_of_length_eq_zero (by simpa using hl)
    subst hnews
    refine wpList_plain hgd fun K hK' => ?_
    have hrun := run_append_owned_none (P := P) w base t o.type e i size ht hi v n xs hown
    unfold Oper.wp
    simp [execOp, ho, resolve, invoke, builtin, hs, hx, hrun, Result.andThen]
    exact hK' _ _ (by simpa using h v w (by simpa using hown) (World.grownBy.refl _ _))

section
variable {H : Type} {enc : TypeId × Value → H} {w : World} {base : Nat} {held : Bool} {spare : Nat → Bool} {fuel : Nat}

theorem trod_version {cs : List Value} {x : DataW H × List MemPlace} (h : DataW.trod enc Tryd.prog w base spare held fuel 30 cs = some x) :
    ∃ c n, cs = [.int .i64 c, .int .i64 n] ∧ Inr .i64 c ∧ Inr .i64 n := by
  obtain ⟨xs, m, _, _, hl, hn, hi⟩ := DataW.trod_struct Tryd.underlying30 h
  have hc : Tryd.prog.cellsOf 30 = 2 := by kernel_rfl
  have he : Tryd.prog.cellsOf 3 = 1 := by kernel_rfl
  rw [hc] at hl
  match cs, hl with
  | [c0, c1], _ =>
    have hn2 : xs.length = 2 := hn
    have h0 : DataW.trod enc Tryd.prog w base spare held m 3 (([c0, c1].drop 0).take (Tryd.prog.cellsOf 3)) = xs[0]? := hi 0 _ rfl
    have h1 : DataW.trod enc Tryd.prog w base spare held m 3 (([c0, c1].drop 1).take (Tryd.prog.cellsOf 3)) = xs[1]? := hi 1 _ rfl
    rw [he] at h0 h1
    have e0 : xs[0]? = some (xs[0]'(by omega)) := List.getElem?_eq_getElem (by omega)
    have e1 : xs[1]? = some (xs[1]'(by omega)) := List.getElem?_eq_getElem (by omega)
    obtain ⟨a, ha, _, wa⟩ := DataW.trod_int Tryd.underlying3 (h0.trans e0)
    obtain ⟨b, hb, _, wb⟩ := DataW.trod_int Tryd.underlying3 (h1.trans e1)
    simp at ha hb
    exact ⟨a, b, by rw [ha, hb], wa, wb⟩

theorem trod_entry {cs : List Value} {x : DataW H × List MemPlace} (h : DataW.trod enc Tryd.prog w base spare held fuel 32 cs = some x) :
    ∃ e : Ent, cs = ecells e ∧ ((∀ n ∈ x.1.weights Tryd.prog 32, n ≤ reachBytes) → e.1.size ≤ 140737488351232) ∧ Inr .i64 e.2.1 ∧ Inr .i64 e.2.2.1 := by
  obtain ⟨xs, m, _, hxd, hl, hn, hi⟩ := DataW.trod_struct Tryd.underlying32 h
  have hc : Tryd.prog.cellsOf 32 = 5 := by kernel_rfl
  have hes : Tryd.prog.cellsOf 9 = 1 := by kernel_rfl
  have hev : Tryd.prog.cellsOf 30 = 2 := by kernel_rfl
  have heb : Tryd.prog.cellsOf 4 = 1 := by kernel_rfl
  rw [hc] at hl
  match cs, hl with
  | [c0, c1, c2, c3, c4], _ =>
    have hn2 : xs.length = 4 := hn
    have h0 : DataW.trod enc Tryd.prog w base spare held m 9 (([c0, c1, c2, c3, c4].drop 0).take (Tryd.prog.cellsOf 9)) = xs[0]? := hi 0 _ rfl
    have h1 : DataW.trod enc Tryd.prog w base spare held m 30 (([c0, c1, c2, c3, c4].drop 1).take (Tryd.prog.cellsOf 30)) = xs[1]? := hi 1 _ rfl
    have h2 : DataW.trod enc Tryd.prog w base spare held m 9 (([c0, c1, c2, c3, c4].drop 3).take (Tryd.prog.cellsOf 9)) = xs[2]? := hi 2 _ rfl
    have h3 : DataW.trod enc Tryd.prog w base spare held m 4 (([c0, c1, c2, c3, c4].drop 4).take (Tryd.prog.cellsOf 4)) = xs[3]? := hi 3 _ rfl
    rw [hes] at h0 h2
    rw [hev] at h1
    rw [heb] at h3
    have e0 : xs[0]? = some (xs[0]'(by omega)) := List.getElem?_eq_getElem (by omega)
    have e1 : xs[1]? = some (xs[1]'(by omega)) := List.getElem?_eq_getElem (by omega)
    have e2 : xs[2]? = some (xs[2]'(by omega)) := List.getElem?_eq_getElem (by omega)
    have e3 : xs[3]? = some (xs[3]'(by omega)) := List.getElem?_eq_getElem (by omega)
    obtain ⟨k, hk, k2, k3⟩ := DataW.trod_string Tryd.underlying9 (h0.trans e0)
    obtain ⟨a, b, hab, wa, wb⟩ := trod_version (h1.trans e1)
    obtain ⟨v, hv, v2, v3⟩ := DataW.trod_string Tryd.underlying9 (h2.trans e2)
    obtain ⟨d, hd, _⟩ := DataW.trod_bool Tryd.underlying4 (h3.trans e3)
    simp at hk hab hv hd
    refine ⟨(k, a, b, v, d), by rw [hk, hab.1, hab.2, hv, hd]; rfl, fun hw => ?_, wa, wb⟩
    have hmem : k.data.toList.length ∈ x.1.weights Tryd.prog 32 := by
      rw [hxd]
      simp only [DataW.weights, Tryd.underlying32]
      refine DataW.weights_mem_each (j := 0) (t := 9) (d := .lit (.string k.data.toList)) rfl ?_ _ (by simp [DataW.weights])
      rw [List.getElem?_map, e0, k2]; rfl
    have := hw _ hmem
    simpa [reachBytes, len_list] using this

theorem mem_weightsAll {P : Program} {e : TypeId} : ∀ {ds : List (DataW H)} {d : DataW H}, d ∈ ds → ∀ n ∈ d.weights P e, n ∈ DataW.weightsAll P e ds
  | d0 :: ds, d, h, n, hn => by
    rw [DataW.weightsAll]
    rcases List.mem_cons.1 h with rfl | h
    · exact List.mem_append.2 (Or.inl hn)
    · exact List.mem_append.2 (Or.inr (mem_weightsAll h n hn))

/-- A slice of entries that came in. -/
theorem open_entries {v : Value} {d : DataW H} {p : List MemPlace} (hv : Value.okWide Tryd.prog w .any base 22 v) (h : DataW.Trod enc Tryd.prog w 0 (fun _ => true) held 22 v d p)
    (hsz : ∀ n ∈ d.weights Tryd.prog 22, n ≤ reachBytes) :
    ∃ (oa : Option Addr) (cap : Nat) (l : List Ent), v = .slice oa l.length cap ∧ (oa = none → l.length = 0 ∧ cap = 0) ∧ l.length * 56 ≤ 140737488351232 ∧ Ents w oa l := by
  obtain ⟨oa, len, cap, rfl⟩ := okWide_slice Tryd.underlying22 hv
  obtain ⟨fuel, hf⟩ := h
  rcases open_slice Tryd.underlying22 hf with ⟨hc, _⟩ | ⟨a, len', cap', m, n, D, Pl, hc, hb, hl, hm, hmm, hxd, hx⟩
  · have hc' : Value.slice oa len cap = .slice none 0 0 := List.head_eq_of_cons_eq hc
    simp only [Value.slice.injEq] at hc'
    obtain ⟨rfl, rfl, rfl⟩ := hc'
    exact ⟨none, 0, [], rfl, fun _ => ⟨rfl, rfl⟩, by simp, fun k hk => absurd hk (by simp)⟩
  · have hc' : Value.slice oa len cap = .slice (some a) len' cap' := List.head_eq_of_cons_eq hc
    simp only [Value.slice.injEq] at hc'
    obtain ⟨rfl, rfl, rfl⟩ := hc'
    simp only [if_true] at hmm
    subst hmm
    have he : Tryd.prog.cellsOf 32 = 5 := by kernel_rfl
    rw [he] at hx
    have hd : d = .slice ((List.range len).map D) ((List.range (m - len)).map fun j => D (len + j)) := congrArg Prod.fst hxd
    have hw : ∀ i, i < len → ∀ n ∈ (D i).weights Tryd.prog 32, n ≤ reachBytes := fun i hi n hn => by
      refine hsz n ?_
      rw [hd]
      simp only [DataW.weights, Tryd.underlying22]
      refine List.mem_cons_of_mem _ (List.mem_append.2 (Or.inl (mem_weightsAll ?_ n hn)))
      exact List.mem_map.2 ⟨i, List.mem_range.2 hi, rfl⟩
    have hcap : m * 56 ≤ 140737488351232 := by
      have := hsz ((len + (m - len)) * Tryd.prog.bytesOf 32) (by rw [hd]; simp only [DataW.weights, Tryd.underlying22]; simp)
      have hby : Tryd.prog.bytesOf 32 = 56 := by kernel_rfl
      rw [hby] at this
      unfold reachBytes at this
      omega
    have key : ∀ i, i < len → ∃ q : Ent, ∃ b o, (some a : Option Addr) = some ⟨b, o, none⟩ ∧ EntAt w b (o + i * 5) q ∧ q.1.size ≤ 140737488351232 := fun i hi => by
      obtain ⟨cs', h1, h2⟩ := hx i (by omega)
      obtain ⟨_, hlen, hcell⟩ := World.cells?_some h1
      obtain ⟨q, rfl, hq, _⟩ := trod_entry h2
      have hq := hq (hw i hi)
      have hs : a.spot = none := by
        obtain ⟨cs0, g1, g2⟩ := hx 0 (by omega)
        obtain ⟨_, _, gcell⟩ := World.cells?_some g1
        obtain ⟨q0, rfl, _⟩ := trod_entry g2
        have := World.cell?_spot (gcell 0 (by omega))
        simpa [Addr.add] using this
      obtain ⟨b, o, spot⟩ := a
      simp only at hs
      subst hs
      have e0 := hcell 0 (by omega)
      have e1 := hcell 1 (by omega)
      have e2 := hcell 2 (by omega)
      have e3 := hcell 3 (by omega)
      have e4 := hcell 4 (by omega)
      simp only [add_none, Nat.add_zero] at e0 e1 e2 e3 e4
      exact ⟨q, b, o, rfl, ⟨e0, e1, e2, e3, e4⟩, hq⟩
    obtain ⟨el, hel⟩ := choose_lt key
    refine ⟨some a, m, (List.range len).map el, by simp, fun h => (by cases h), by simp; omega, fun k hk => ?_⟩
    have hk' : k < len := by simpa using hk
    have hg : ((List.range len).map el)[k] = el k := by simp
    rw [hg]
    exact hel k hk'
end
end Go.Proofs.YtjeaobknojmbpaaDoor
