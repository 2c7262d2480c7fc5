/-
  Commands and texts that came in; bulk.
-/
import Derived.Test.YtdflmplmpjghdaaGreatDoorSnew
import Derived.ProofKit
import Derived.OpenShut
import Derived.SliceStrings
namespace Go.Proofs.YtdflmplmpjghdaaGreatDoor
open Go.ChangeShapes Go.WideShapes Go.ChangeAt Go.WideMaps Go.WideElems Go.RowKit Go.Deep
set_option linter.unusedVariables false
set_option linter.unusedSimpArgs false
set_option maxRecDepth 100000

/-- A command. -/
structure OpV where
  kind : Int
  node : Int
  peer : Int
  n : Int
  key : ByteArray
  val : ByteArray
  lo : ByteArray
  hi : ByteArray
  op : Bool
instance : Inhabited OpV := ⟨⟨0, 0, 0, 0, ⟨#[]⟩, ⟨#[]⟩, ⟨#[]⟩, ⟨#[]⟩, false⟩⟩
def OpV.small (x : OpV) : Prop := x.key.size ≤ 140737488351232 ∧ x.val.size ≤ 140737488351232 ∧ x.lo.size ≤ 140737488351232 ∧ x.hi.size ≤ 140737488351232 ∧ Inr .i64 x.kind ∧ Inr .i64 x.node ∧ Inr .i64 x.peer ∧ Inr .i64 x.n
def OpAt (w : World) (b o : Nat) (x : OpV) : Prop :=
  w.cell? ⟨b, o, none⟩ = some (.int .i64 x.kind) ∧ w.cell? ⟨b, o + 1, none⟩ = some (.int .i64 x.node) ∧ w.cell? ⟨b, o + 2, none⟩ = some (.int .i64 x.peer) ∧ w.cell? ⟨b, o + 3, none⟩ = some (.int .i64 x.n) ∧ w.cell? ⟨b, o + 4, none⟩ = some (.string x.key) ∧
  w.cell? ⟨b, o + 5, none⟩ = some (.string x.val) ∧ w.cell? ⟨b, o + 6, none⟩ = some (.string x.lo) ∧ w.cell? ⟨b, o + 7, none⟩ = some (.string x.hi) ∧ w.cell? ⟨b, o + 8, none⟩ = some (.bool x.op)
theorem OpAt.lt {w : World} {b o : Nat} {x : OpV} (h : OpAt w b o x) : b < w.heap.size := cell_lt h.1
theorem OpAt.keep {p : Nat → Prop} {w w' : World} {b o : Nat} {x : OpV} (h : OpAt w b o x) (hk : Keep p w w') (hp : ¬ p b) : OpAt w' b o x := by
  have hl := h.lt
  have e : ∀ o, w'.cell? ⟨b, o, none⟩ = w.cell? ⟨b, o, none⟩ := fun o => hk.cell (a := ⟨b, o, none⟩) hl hp
  obtain ⟨h0, h1, h2, h3, h4, h5, h6, h7, h8⟩ := h
  exact ⟨(e _).trans h0, (e _).trans h1, (e _).trans h2, (e _).trans h3, (e _).trans h4, (e _).trans h5, (e _).trans h6, (e _).trans h7, (e _).trans h8⟩
theorem OpAt.below {w w' : World} {b o : Nat} {x : OpV} (h : OpAt w b o x) (hb : Below w.heap.size w w') : OpAt w' b o x := h.keep (p := fun _ => False) (Keep.of_below hb) (fun h => h)
def Ops (w : World) (oa : Option Addr) (l : List OpV) : Prop := ∀ k (h : k < l.length), ∃ b o, oa = some ⟨b, o, none⟩ ∧ OpAt w b (o + k * 9) l[k] ∧ l[k].small
def Txts (w : World) (oa : Option Addr) (l : List ByteArray) : Prop := ∀ k (h : k < l.length), ∃ b o, oa = some ⟨b, o, none⟩ ∧ b < w.heap.size ∧ w.cell? ⟨b, o + k, none⟩ = some (.string l[k]) ∧ l[k].size ≤ 140737488351232

section
variable {H : Type} {enc : TypeId × Value → H} {w : World} {base : Nat} {held : Bool} {spare : Nat → Bool} {fuel : Nat}

theorem trod_range {cs : List Value} {x : DataW H × List MemPlace} (h : DataW.trod enc Tryz.prog w base spare held fuel 36 cs = some x) :
    ∃ (lo hi : ByteArray) (op : Bool), cs = [.string lo, .string hi, .bool op] ∧ ((∀ n ∈ x.1.weights Tryz.prog 36, n ≤ reachBytes) → lo.size ≤ 140737488351232 ∧ hi.size ≤ 140737488351232) := by
  obtain ⟨xs, m, _, hxd, hl, hn, hi⟩ := DataW.trod_struct Tryz.underlying36 h
  have hc : Tryz.prog.cellsOf 36 = 3 := by kernel_rfl
  have hes : Tryz.prog.cellsOf 9 = 1 := by kernel_rfl
  have heb : Tryz.prog.cellsOf 4 = 1 := by kernel_rfl
  rw [hc] at hl
  match cs, hl with
  | [c0, c1, c2], _ =>
    have hn2 : xs.length = 3 := hn
    have h0 : DataW.trod enc Tryz.prog w base spare held m 9 (([c0, c1, c2].drop 0).take (Tryz.prog.cellsOf 9)) = xs[0]? := hi 0 _ rfl
    have h1 : DataW.trod enc Tryz.prog w base spare held m 9 (([c0, c1, c2].drop 1).take (Tryz.prog.cellsOf 9)) = xs[1]? := hi 1 _ rfl
    have h2 : DataW.trod enc Tryz.prog w base spare held m 4 (([c0, c1, c2].drop 2).take (Tryz.prog.cellsOf 4)) = xs[2]? := hi 2 _ rfl
    rw [hes] at h0 h1
    rw [heb] at h2
    have e0 : xs[0]? = some (xs[0]'(by omega)) := List.getElem?_eq_getElem (by omega)
    have e1 : xs[1]? = some (xs[1]'(by omega)) := List.getElem?_eq_getElem (by omega)
    have e2 : xs[2]? = some (xs[2]'(by omega)) := List.getElem?_eq_getElem (by omega)
    obtain ⟨lo, hk, k2, k3⟩ := DataW.trod_string Tryz.underlying9 (h0.trans e0)
    obtain ⟨hi', hv, v2, v3⟩ := DataW.trod_string Tryz.underlying9 (h1.trans e1)
    obtain ⟨d, hd, _⟩ := DataW.trod_bool Tryz.underlying4 (h2.trans e2)
    simp at hk hv hd
    refine ⟨lo, hi', d, by rw [hk, hv, hd], fun hw => ?_⟩
    have hm : ∀ (j : Nat) (s : ByteArray), j < 2 → (xs.map (·.1))[j]? = some (.lit (.string s.data.toList)) → s.size ≤ 140737488351232 := fun j s hj hs => by
      have hmem : s.data.toList.length ∈ x.1.weights Tryz.prog 36 := by
        rw [hxd]
        simp only [DataW.weights, Tryz.underlying36]
        refine DataW.weights_mem_each (j := j) (t := 9) (d := .lit (.string s.data.toList)) ?_ hs _ (by simp [DataW.weights])
        rcases j with _ | _ | j
        · rfl
        · rfl
        · omega
      have := hw _ hmem
      simpa [reachBytes, len_list] using this
    exact ⟨hm 0 lo (by omega) (by rw [List.getElem?_map, e0, k2]; rfl), hm 1 hi' (by omega) (by rw [List.getElem?_map, e1, v2]; rfl)⟩

theorem trod_op {cs : List Value} {x : DataW H × List MemPlace} (h : DataW.trod enc Tryz.prog w base spare held fuel 38 cs = some x) :
    ∃ q : OpV, cs = [.int .i64 q.kind, .int .i64 q.node, .int .i64 q.peer, .int .i64 q.n, .string q.key, .string q.val, .string q.lo, .string q.hi, .bool q.op] ∧ ((∀ n ∈ x.1.weights Tryz.prog 38, n ≤ reachBytes) → q.small) := by
  obtain ⟨xs, m, _, hxd, hl, hn, hi⟩ := DataW.trod_struct Tryz.underlying38 h
  have hc : Tryz.prog.cellsOf 38 = 9 := by kernel_rfl
  have hei : Tryz.prog.cellsOf 3 = 1 := by kernel_rfl
  have hes : Tryz.prog.cellsOf 9 = 1 := by kernel_rfl
  have her : Tryz.prog.cellsOf 36 = 3 := by kernel_rfl
  rw [hc] at hl
  match cs, hl with
  | [c0, c1, c2, c3, c4, c5, c6, c7, c8], _ =>
    have hn2 : xs.length = 7 := hn
    have h0 : DataW.trod enc Tryz.prog w base spare held m 3 (([c0, c1, c2, c3, c4, c5, c6, c7, c8].drop 0).take (Tryz.prog.cellsOf 3)) = xs[0]? := hi 0 _ rfl
    have h1 : DataW.trod enc Tryz.prog w base spare held m 3 (([c0, c1, c2, c3, c4, c5, c6, c7, c8].drop 1).take (Tryz.prog.cellsOf 3)) = xs[1]? := hi 1 _ rfl
    have h2 : DataW.trod enc Tryz.prog w base spare held m 3 (([c0, c1, c2, c3, c4, c5, c6, c7, c8].drop 2).take (Tryz.prog.cellsOf 3)) = xs[2]? := hi 2 _ rfl
    have h3 : DataW.trod enc Tryz.prog w base spare held m 3 (([c0, c1, c2, c3, c4, c5, c6, c7, c8].drop 3).take (Tryz.prog.cellsOf 3)) = xs[3]? := hi 3 _ rfl
    have h4 : DataW.trod enc Tryz.prog w base spare held m 9 (([c0, c1, c2, c3, c4, c5, c6, c7, c8].drop 4).take (Tryz.prog.cellsOf 9)) = xs[4]? := hi 4 _ rfl
    have h5 : DataW.trod enc Tryz.prog w base spare held m 9 (([c0, c1, c2, c3, c4, c5, c6, c7, c8].drop 5).take (Tryz.prog.cellsOf 9)) = xs[5]? := hi 5 _ rfl
    have h6 : DataW.trod enc Tryz.prog w base spare held m 36 (([c0, c1, c2, c3, c4, c5, c6, c7, c8].drop 6).take (Tryz.prog.cellsOf 36)) = xs[6]? := hi 6 _ rfl
    rw [hei] at h0 h1 h2 h3
    rw [hes] at h4 h5
    rw [her] at h6
    have e : ∀ j (hj : j < 7), xs[j]? = some (xs[j]'(by omega)) := fun j hj => List.getElem?_eq_getElem (by omega)
    obtain ⟨a0, i0, _, w0⟩ := DataW.trod_int Tryz.underlying3 (h0.trans (e 0 (by omega)))
    obtain ⟨a1, i1, _, w1⟩ := DataW.trod_int Tryz.underlying3 (h1.trans (e 1 (by omega)))
    obtain ⟨a2, i2, _, w2⟩ := DataW.trod_int Tryz.underlying3 (h2.trans (e 2 (by omega)))
    obtain ⟨a3, i3, _, w3⟩ := DataW.trod_int Tryz.underlying3 (h3.trans (e 3 (by omega)))
    obtain ⟨k, hk, k2, k3⟩ := DataW.trod_string Tryz.underlying9 (h4.trans (e 4 (by omega)))
    obtain ⟨v, hv, v2, v3⟩ := DataW.trod_string Tryz.underlying9 (h5.trans (e 5 (by omega)))
    obtain ⟨lo, hi', op, hr, hrs⟩ := trod_range (h6.trans (e 6 (by omega)))
    simp at i0 i1 i2 i3 hk hv hr
    refine ⟨⟨a0, a1, a2, a3, k, v, lo, hi', op⟩, by rw [i0, i1, i2, i3, hk, hv, hr.1, hr.2.1, hr.2.2], fun hw => ?_⟩
    have hx : x.1 = .agg (xs.map (·.1)) := congrArg Prod.fst hxd
    have hm : ∀ (j : Nat) (s : ByteArray), (j = 4 ∨ j = 5) → (xs.map (·.1))[j]? = some (.lit (.string s.data.toList)) → s.size ≤ 140737488351232 := fun j s hj hs => by
      have hmem : s.data.toList.length ∈ x.1.weights Tryz.prog 38 := by
        rw [hxd]
        simp only [DataW.weights, Tryz.underlying38]
        refine DataW.weights_mem_each (j := j) (t := 9) (d := .lit (.string s.data.toList)) ?_ hs _ (by simp [DataW.weights])
        rcases hj with rfl | rfl <;> rfl
      have := hw _ hmem
      simpa [reachBytes, len_list] using this
    have hrr := hrs fun n hn => hw n (by
      rw [hxd]
      simp only [DataW.weights, Tryz.underlying38]
      exact DataW.weights_mem_each (j := 6) (t := 36) rfl (by rw [List.getElem?_map, e 6 (by omega)]; rfl) _ hn)
    exact ⟨hm 4 k (.inl rfl) (by rw [List.getElem?_map, e 4 (by omega), k2]; rfl), hm 5 v (.inr rfl) (by rw [List.getElem?_map, e 5 (by omega), v2]; rfl), hrr.1, hrr.2, w0, w1, w2, w3⟩

theorem mem_weightsAll {P : Program} {e : TypeId} : ∀ {ds : List (DataW H)} {d : DataW H}, d ∈ ds → ∀ n ∈ d.weights P e, n ∈ DataW.weightsAll P e ds
  | d0 :: ds, d, h, n, hn => by
    rw [DataW.weightsAll]
    rcases List.mem_cons.1 h with rfl | h
    · exact List.mem_append.2 (Or.inl hn)
    · exact List.mem_append.2 (Or.inr (mem_weightsAll h n hn))

theorem open_ops {v : Value} {d : DataW H} {p : List MemPlace} (hv : Value.okWide Tryz.prog w .any base 24 v) (h : DataW.Trod enc Tryz.prog w 0 (fun _ => true) held 24 v d p)
    (hsz : ∀ n ∈ d.weights Tryz.prog 24, n ≤ reachBytes) :
    ∃ (oa : Option Addr) (cap : Nat) (l : List OpV), v = .slice oa l.length cap ∧ (oa = none → l.length = 0 ∧ cap = 0) ∧ l.length * 104 ≤ 140737488351232 ∧ Ops w oa l := by
  obtain ⟨oa, len, cap, rfl⟩ := okWide_slice Tryz.underlying24 hv
  obtain ⟨fuel, hf⟩ := h
  rcases open_slice Tryz.underlying24 hf with ⟨hc, _⟩ | ⟨a, len', cap', m, n, D, Pl, hc, hb, hl, hm, hmm, hxd, hx⟩
  · have hc' : Value.slice oa len cap = .slice none 0 0 := List.head_eq_of_cons_eq hc
    simp only [Value.slice.injEq] at hc'
    obtain ⟨rfl, rfl, rfl⟩ := hc'
    exact ⟨none, 0, [], rfl, fun _ => ⟨rfl, rfl⟩, by simp, fun k hk => absurd hk (by simp)⟩
  · have hc' : Value.slice oa len cap = .slice (some a) len' cap' := List.head_eq_of_cons_eq hc
    simp only [Value.slice.injEq] at hc'
    obtain ⟨rfl, rfl, rfl⟩ := hc'
    simp only [if_true] at hmm
    subst hmm
    have he : Tryz.prog.cellsOf 38 = 9 := by kernel_rfl
    rw [he] at hx
    have hd : d = .slice ((List.range len).map D) ((List.range (m - len)).map fun j => D (len + j)) := congrArg Prod.fst hxd
    have hw : ∀ i, i < len → ∀ n ∈ (D i).weights Tryz.prog 38, n ≤ reachBytes := fun i hi n hn => by
      refine hsz n ?_
      rw [hd]
      simp only [DataW.weights, Tryz.underlying24]
      refine List.mem_cons_of_mem _ (List.mem_append.2 (Or.inl (mem_weightsAll ?_ n hn)))
      exact List.mem_map.2 ⟨i, List.mem_range.2 hi, rfl⟩
    have hcap : m * 104 ≤ 140737488351232 := by
      have := hsz ((len + (m - len)) * Tryz.prog.bytesOf 38) (by rw [hd]; simp only [DataW.weights, Tryz.underlying24]; simp)
      have hby : Tryz.prog.bytesOf 38 = 104 := by kernel_rfl
      rw [hby] at this
      unfold reachBytes at this
      omega
    have key : ∀ i, i < len → ∃ q : OpV, ∃ b o, (some a : Option Addr) = some ⟨b, o, none⟩ ∧ OpAt w b (o + i * 9) q ∧ q.small := fun i hi => by
      obtain ⟨cs', h1, h2⟩ := hx i (by omega)
      obtain ⟨_, hlen, hcell⟩ := World.cells?_some h1
      obtain ⟨q, rfl, hq⟩ := trod_op h2
      have hq := hq (hw i hi)
      have hs : a.spot = none := by
        obtain ⟨cs0, g1, g2⟩ := hx 0 (by omega)
        obtain ⟨_, _, gcell⟩ := World.cells?_some g1
        obtain ⟨q0, rfl, _⟩ := trod_op g2
        have := World.cell?_spot (gcell 0 (by omega))
        simpa [Addr.add] using this
      obtain ⟨b, o, spot⟩ := a
      simp only at hs
      subst hs
      have e0 := hcell 0 (by omega)
      have e1 := hcell 1 (by omega)
      have e2 := hcell 2 (by omega)
      have e3 := hcell 3 (by omega)
      have e4 := hcell 4 (by omega)
      have e5 := hcell 5 (by omega)
      have e6 := hcell 6 (by omega)
      have e7 := hcell 7 (by omega)
      have e8 := hcell 8 (by omega)
      simp only [add_none, Nat.add_zero] at e0 e1 e2 e3 e4 e5 e6 e7 e8
      exact ⟨q, b, o, rfl, ⟨e0, e1, e2, e3, e4, e5, e6, e7, e8⟩, hq⟩
    obtain ⟨el, hel⟩ := choose_lt key
    refine ⟨some a, m, (List.range len).map el, by simp, fun h => (by cases h), by simp; omega, fun k hk => ?_⟩
    have hk' : k < len := by simpa using hk
    have hg : ((List.range len).map el)[k] = el k := by simp
    rw [hg]
    exact hel k hk'

theorem open_txts {v : Value} {d : DataW H} {p : List MemPlace} (hv : Value.okWide Tryz.prog w .any base 357 v) (h : DataW.Trod enc Tryz.prog w 0 (fun _ => true) held 357 v d p)
    (hsz : ∀ n ∈ d.weights Tryz.prog 357, n ≤ reachBytes) :
    ∃ (oa : Option Addr) (cap : Nat) (l : List ByteArray), v = .slice oa l.length cap ∧ (oa = none → l.length = 0 ∧ cap = 0) ∧ l.length * 16 ≤ 140737488351232 ∧ Txts w oa l := by
  obtain ⟨oa, len, cap, rfl⟩ := okWide_slice Tryz.underlying357 hv
  obtain ⟨fuel, hf⟩ := h
  rcases open_strings Tryz.underlying357 Tryz.underlying9 (by kernel_rfl) hf with ⟨hc, _⟩ | ⟨a, len', cap', ss, hc, hb, hl, hm, hz, hxd, hx, hms⟩
  · have hc' : Value.slice oa len cap = .slice none 0 0 := List.head_eq_of_cons_eq hc
    simp only [Value.slice.injEq] at hc'
    obtain ⟨rfl, rfl, rfl⟩ := hc'
    exact ⟨none, 0, [], rfl, fun _ => ⟨rfl, rfl⟩, by simp, fun k hk => absurd hk (by simp)⟩
  · have hc' : Value.slice oa len cap = .slice (some a) len' cap' := List.head_eq_of_cons_eq hc
    simp only [Value.slice.injEq] at hc'
    obtain ⟨rfl, rfl, rfl⟩ := hc'
    simp only [if_true] at hz
    have hd : d = .slice (strs (ss.take len)) (strs (ss.drop len)) := congrArg Prod.fst hxd
    have htl : (ss.take len).length = len := by rw [List.length_take]; omega
    have hcap : len * 16 ≤ 140737488351232 := by
      have := hsz ((len + (ss.length - len)) * Tryz.prog.bytesOf 9) (by rw [hd]; simp only [DataW.weights, Tryz.underlying357]; simp [strs]; exact Or.inl (by rw [Nat.min_eq_left (by omega)]))
      have hby : Tryz.prog.bytesOf 9 = 16 := by kernel_rfl
      rw [hby] at this
      unfold reachBytes at this
      omega
    refine ⟨some a, cap, ss.take len, by rw [htl], fun h => (by cases h), by rw [htl]; exact hcap, fun k hk => ?_⟩
    have hk' : k < len := by omega
    have hks : k < ss.length := by omega
    have hg : (ss.take len)[k] = ss[k] := by simp
    have hs : a.spot = none := by
      have := World.cell?_spot (hx 0 (by omega))
      simpa [Addr.add] using this
    obtain ⟨b, o, spot⟩ := a
    simp only at hs
    subst hs
    have hc0 := hx k hks
    rw [add_none] at hc0
    have hgd : ss.getD k ByteArray.empty = ss[k] := by simp [hks]
    rw [hgd] at hc0
    rw [hg]
    refine ⟨b, o, rfl, cell_lt hc0, hc0, ?_⟩
    have hmem : (ss[k]).data.toList.length ∈ d.weights Tryz.prog 357 := by
      rw [hd]
      simp only [DataW.weights, Tryz.underlying357]
      refine List.mem_cons_of_mem _ (List.mem_append.2 (Or.inl (mem_weightsAll (d := .lit (.string (ss[k]).data.toList)) ?_ _ (by simp [DataW.weights]))))
      exact List.mem_map.2 ⟨ss[k], by rw [List.mem_take_iff_getElem]; exact ⟨k, by omega, rfl⟩, rfl⟩
    have := hsz _ hmem
    simpa [reachBytes, len_list] using this
end
end Go.Proofs.YtdflmplmpjghdaaGreatDoor
