/-
  The steps that came in: a slice of structs, in each a slice of bytes.
-/
import Derived.Test.YtepilaejfepicaaBOwn
import Derived.Deep.Slices
namespace Go.Proofs.Ytepilaejfepicaa
open Go.ChangeShapes Go.WideShapes Go.ChangeAt Go.RowKit Go.Deep
set_option linter.unusedVariables false
set_option linter.unusedSimpArgs false

/-- A step: kind, from, to, i, and its bytes. -/
structure OpE where
  kind : Int
  frm : Int
  to : Int
  i : Int
  ad : Option Addr
  cap : Nat
  s : ByteArray
instance : Inhabited OpE := ⟨⟨0, 0, 0, 0, none, 0, ByteArray.empty⟩⟩
def OpE.cells (p : OpE) : List Value := [.int .i64 p.kind, .int .i64 p.frm, .int .i64 p.to, .int .i64 p.i, .slice p.ad p.s.size p.cap]
def OpE.Ok (w : World) (p : OpE) : Prop := Inr .i64 p.kind ∧ Inr .i64 p.frm ∧ Inr .i64 p.to ∧ Inr .i64 p.i ∧ Reads w p.ad p.s ∧ (p.ad = none → p.s.size = 0 ∧ p.cap = 0) ∧ p.s.size ≤ 140737488351232
/-- The slice at that address reads as these steps. -/
def OpsAt (w : World) (oa : Option Addr) (l : List OpE) : Prop := ∀ k (h : k < l.length), l[k].Ok w ∧ ∃ b o, oa = some ⟨b, o, none⟩ ∧ b < w.heap.size ∧
  w.cell? ⟨b, o + k * 5, none⟩ = some (.int .i64 l[k].kind) ∧ w.cell? ⟨b, o + k * 5 + 1, none⟩ = some (.int .i64 l[k].frm) ∧ w.cell? ⟨b, o + k * 5 + 2, none⟩ = some (.int .i64 l[k].to) ∧ w.cell? ⟨b, o + k * 5 + 3, none⟩ = some (.int .i64 l[k].i) ∧ w.cell? ⟨b, o + k * 5 + 4, none⟩ = some (.slice l[k].ad l[k].s.size l[k].cap)
theorem OpE.Ok.below {w w' : World} {p : OpE} (h : p.Ok w) (hb : Below w.heap.size w w') : p.Ok w' := ⟨h.1, h.2.1, h.2.2.1, h.2.2.2.1, h.2.2.2.2.1.below hb, h.2.2.2.2.2⟩

section
variable {H : Type} {enc : TypeId × Value → H} {w : World} {held : Bool} {fuel : Nat}
theorem mem_weightsAll {P : Program} {e : TypeId} : ∀ {ds : List (DataW H)} {d : DataW H}, d ∈ ds → ∀ n ∈ d.weights P e, n ∈ DataW.weightsAll P e ds
  | d0 :: ds, d, h, n, hn => by
    rw [DataW.weightsAll]
    rcases List.mem_cons.1 h with rfl | h
    · exact List.mem_append.2 (Or.inl hn)
    · exact List.mem_append.2 (Or.inr (mem_weightsAll h n hn))

/-- Bytes that came in. -/
theorem trod_bytes {cs : List Value} {x : DataW H × List MemPlace} (h : DataW.trod enc Try.prog w 0 (fun _ => true) held fuel 30 cs = some x) (hsz : ∀ n ∈ x.1.weights Try.prog 30, n ≤ reachBytes) :
    ∃ ad cap s, cs = [.slice ad (ByteArray.size s) cap] ∧ Reads w ad s ∧ (ad = none → s.size = 0 ∧ cap = 0) ∧ s.size ≤ 140737488351232 := by
  rcases open_slice1 Try.underlying30 (by kernel_rfl) h with ⟨hc, _⟩ | ⟨a, len, cap, m, n, V, D, Pl, hc, hb, hl, hm, hmm, hxd, hx⟩
  · exact ⟨none, 0, ByteArray.empty, hc, Or.inl rfl, fun _ => ⟨rfl, rfl⟩, by decide⟩
  · simp only [if_true] at hmm
    subst hmm
    have hd : x.1 = .slice ((List.range len).map D) ((List.range (m - len)).map fun j => D (len + j)) := congrArg Prod.fst hxd
    have hcap : len ≤ 140737488351232 := by
      have := hsz ((len + (m - len)) * Try.prog.bytesOf 5) (by rw [hd]; simp only [DataW.weights, Try.underlying30]; simp)
      have hby : Try.prog.bytesOf 5 = 1 := by kernel_rfl
      rw [hby] at this
      unfold reachBytes at this
      omega
    have key : ∀ i, i < len → ∃ q : UInt8, w.cell? (a.add i) = some (.int .u8 q.toNat) := fun i hi => by
      obtain ⟨e0, h2⟩ := hx i (by omega)
      obtain ⟨q, h3, _, hw⟩ := DataW.trod_int Try.underlying5 h2
      have hq : 0 ≤ q ∧ q ≤ 255 := by simpa [Lit.wf, IntKind.min, IntKind.max, IntKind.signed, IntKind.bits] using hw
      have h4 : V i = .int .u8 q := by simpa using h3
      refine ⟨UInt8.ofNat q.toNat, ?_⟩
      rw [e0, h4]
      have : ((UInt8.ofNat q.toNat).toNat : Int) = q := by
        rw [UInt8.toNat_ofNat']
        omega
      rw [this]
    obtain ⟨el, hel⟩ := choose_lt key
    have hsize : (⟨((List.range len).map el).toArray⟩ : ByteArray).size = len := by simp [ByteArray.size]
    refine ⟨some a, m, ⟨((List.range len).map el).toArray⟩, by rw [hsize]; exact hc, ?_, (fun h => by cases h), by rw [hsize]; exact hcap⟩
    by_cases h0 : len = 0
    · exact Or.inl (by rw [hsize]; exact h0)
    · have hs : a.spot = none := by
        have := World.cell?_spot (hel 0 (by omega))
        simpa [Addr.add] using this
      obtain ⟨b, o, spot⟩ := a
      simp only at hs
      subst hs
      refine Or.inr ⟨b, o, rfl, ?_, fun i hi => ?_⟩
      · have := hel 0 (by omega)
        rw [add_none] at this
        exact cell_lt this
      · rw [hsize] at hi
        have := hel i hi
        rw [add_none] at this
        rw [this]
        simp [ByteArray.getElem_eq_getElem_data]

theorem trod_op {cs : List Value} {x : DataW H × List MemPlace} (h : DataW.trod enc Try.prog w 0 (fun _ => true) held fuel 32 cs = some x) (hsz : ∀ n ∈ x.1.weights Try.prog 32, n ≤ reachBytes) :
    ∃ e : OpE, cs = e.cells ∧ e.Ok w := by
  obtain ⟨xs, m, _, hxd, hl, hn, hi⟩ := DataW.trod_struct Try.underlying32 h
  have hc : Try.prog.cellsOf 32 = 5 := by kernel_rfl
  have hei : Try.prog.cellsOf 3 = 1 := by kernel_rfl
  have heb : Try.prog.cellsOf 30 = 1 := by kernel_rfl
  rw [hc] at hl
  match cs, hl with
  | [c0, c1, c2, c3, c4], _ =>
    have hn2 : xs.length = 5 := hn
    have h0 : DataW.trod enc Try.prog w 0 (fun _ => true) held m 3 (([c0, c1, c2, c3, c4].drop 0).take (Try.prog.cellsOf 3)) = xs[0]? := hi 0 _ rfl
    have h1 : DataW.trod enc Try.prog w 0 (fun _ => true) held m 3 (([c0, c1, c2, c3, c4].drop 1).take (Try.prog.cellsOf 3)) = xs[1]? := hi 1 _ rfl
    have h2 : DataW.trod enc Try.prog w 0 (fun _ => true) held m 3 (([c0, c1, c2, c3, c4].drop 2).take (Try.prog.cellsOf 3)) = xs[2]? := hi 2 _ rfl
    have h3 : DataW.trod enc Try.prog w 0 (fun _ => true) held m 3 (([c0, c1, c2, c3, c4].drop 3).take (Try.prog.cellsOf 3)) = xs[3]? := hi 3 _ rfl
    have h4 : DataW.trod enc Try.prog w 0 (fun _ => true) held m 30 (([c0, c1, c2, c3, c4].drop 4).take (Try.prog.cellsOf 30)) = xs[4]? := hi 4 _ rfl
    rw [hei] at h0 h1 h2 h3
    rw [heb] at h4
    have e0 : xs[0]? = some (xs[0]'(by omega)) := List.getElem?_eq_getElem (by omega)
    have e1 : xs[1]? = some (xs[1]'(by omega)) := List.getElem?_eq_getElem (by omega)
    have e2 : xs[2]? = some (xs[2]'(by omega)) := List.getElem?_eq_getElem (by omega)
    have e3 : xs[3]? = some (xs[3]'(by omega)) := List.getElem?_eq_getElem (by omega)
    have e4 : xs[4]? = some (xs[4]'(by omega)) := List.getElem?_eq_getElem (by omega)
    obtain ⟨a, ha, _, wa⟩ := DataW.trod_int Try.underlying3 (h0.trans e0)
    obtain ⟨b, hb, _, wb⟩ := DataW.trod_int Try.underlying3 (h1.trans e1)
    obtain ⟨c, hcc, _, wc⟩ := DataW.trod_int Try.underlying3 (h2.trans e2)
    obtain ⟨d, hd, _, wd⟩ := DataW.trod_int Try.underlying3 (h3.trans e3)
    obtain ⟨ad, cap, s, hs, hr, hnil, hlen⟩ := trod_bytes (h4.trans e4) (fun n hn => hsz n (by
      rw [hxd]
      simp only [DataW.weights, Try.underlying32]
      refine DataW.weights_mem_each (j := 4) (t := 30) (d := (xs[4]'(by omega)).1) rfl ?_ n hn
      rw [List.getElem?_map, e4]; rfl))
    simp at ha hb hcc hd hs
    exact ⟨⟨a, b, c, d, ad, cap, s⟩, by rw [ha, hb, hcc, hd, hs]; rfl, wa, wb, wc, wd, hr, hnil, hlen⟩

variable {base : Nat}
/-- The steps that came in. -/
theorem open_ops {v : Value} {d : DataW H} {p : List MemPlace} (hv : Value.okWide Try.prog w .any base 22 v) (h : DataW.Trod enc Try.prog w 0 (fun _ => true) held 22 v d p)
    (hsz : ∀ n ∈ d.weights Try.prog 22, n ≤ reachBytes) :
    ∃ (oa : Option Addr) (cap : Nat) (l : List OpE), v = .slice oa l.length cap ∧ (oa = none → l.length = 0 ∧ cap = 0) ∧ l.length * 56 ≤ 140737488351232 ∧ OpsAt w oa l := by
  obtain ⟨oa, len, cap, rfl⟩ := okWide_slice Try.underlying22 hv
  obtain ⟨fuel, hf⟩ := h
  rcases open_slice Try.underlying22 hf with ⟨hc, _⟩ | ⟨a, len', cap', m, n, D, Pl, hc, hb, hl, hm, hmm, hxd, hx⟩
  · have hc' : Value.slice oa len cap = .slice none 0 0 := List.head_eq_of_cons_eq hc
    simp only [Value.slice.injEq] at hc'
    obtain ⟨rfl, rfl, rfl⟩ := hc'
    exact ⟨none, 0, [], rfl, fun _ => ⟨rfl, rfl⟩, by simp, fun k hk => absurd hk (by simp)⟩
  · have hc' : Value.slice oa len cap = .slice (some a) len' cap' := List.head_eq_of_cons_eq hc
    simp only [Value.slice.injEq] at hc'
    obtain ⟨rfl, rfl, rfl⟩ := hc'
    simp only [if_true] at hmm
    subst hmm
    have he : Try.prog.cellsOf 32 = 5 := by kernel_rfl
    rw [he] at hx
    have hd : d = .slice ((List.range len).map D) ((List.range (m - len)).map fun j => D (len + j)) := congrArg Prod.fst hxd
    have hw : ∀ i, i < len → ∀ n ∈ (D i).weights Try.prog 32, n ≤ reachBytes := fun i hi n hn => by
      refine hsz n ?_
      rw [hd]
      simp only [DataW.weights, Try.underlying22]
      refine List.mem_cons_of_mem _ (List.mem_append.2 (Or.inl (mem_weightsAll ?_ n hn)))
      exact List.mem_map.2 ⟨i, List.mem_range.2 hi, rfl⟩
    have hcap : m * 56 ≤ 140737488351232 := by
      have := hsz ((len + (m - len)) * Try.prog.bytesOf 32) (by rw [hd]; simp only [DataW.weights, Try.underlying22]; simp)
      have hby : Try.prog.bytesOf 32 = 56 := by kernel_rfl
      rw [hby] at this
      unfold reachBytes at this
      omega
    have key : ∀ i, i < len → ∃ q : OpE, q.Ok w ∧ ∃ b o, (some a : Option Addr) = some ⟨b, o, none⟩ ∧ b < w.heap.size ∧
        w.cell? ⟨b, o + i * 5, none⟩ = some (.int .i64 q.kind) ∧ w.cell? ⟨b, o + i * 5 + 1, none⟩ = some (.int .i64 q.frm) ∧ w.cell? ⟨b, o + i * 5 + 2, none⟩ = some (.int .i64 q.to) ∧ w.cell? ⟨b, o + i * 5 + 3, none⟩ = some (.int .i64 q.i) ∧ w.cell? ⟨b, o + i * 5 + 4, none⟩ = some (.slice q.ad q.s.size q.cap) := fun i hi => by
      obtain ⟨cs', h1, h2⟩ := hx i (by omega)
      obtain ⟨_, hlen, hcell⟩ := World.cells?_some h1
      obtain ⟨q, rfl, hq⟩ := trod_op h2 (hw i hi)
      have hs : a.spot = none := by
        obtain ⟨cs0, g1, g2⟩ := hx 0 (by omega)
        obtain ⟨_, hlen0, gcell⟩ := World.cells?_some g1
        obtain ⟨q0, rfl, _⟩ := trod_op g2 (hw 0 (by omega))
        have := World.cell?_spot (gcell 0 (by omega))
        simpa [Addr.add] using this
      obtain ⟨b, o, spot⟩ := a
      simp only at hs
      subst hs
      have c0 := hcell 0 (by omega)
      have c1 := hcell 1 (by omega)
      have c2 := hcell 2 (by omega)
      have c3 := hcell 3 (by omega)
      have c4 := hcell 4 (by omega)
      rw [add_none] at c0 c1 c2 c3 c4
      simp only [add_none] at c0 c1 c2 c3 c4
      exact ⟨q, hq, b, o, rfl, cell_lt c0, c0, c1, c2, c3, c4⟩
    obtain ⟨el, hel⟩ := choose_lt key
    refine ⟨some a, m, (List.range len).map el, by simp, fun h => (by cases h), by simp; omega, fun k hk => ?_⟩
    have hk' : k < len := by simpa using hk
    have hg : ((List.range len).map el)[k] = el k := by simp
    rw [hg]
    exact hel k hk'
end
end Go.Proofs.Ytepilaejfepicaa
