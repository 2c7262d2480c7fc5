/-
  An iterator that was handed out, ranged over: it tells what was there when it was asked for.
-/
import Derived.Test.YtepilaejfepicaaBAll
import Derived.Laws.EntriesVeiled
namespace Go.Proofs.Ytepilaejfepicaa
open Go.ChangeShapes Go.WideShapes Go.ChangeAt Go.RowKit Go.Deep Go.Shelf
set_option linter.unusedVariables false
set_option linter.unusedSimpArgs false
attribute [local go_sem] Oper.semAt_some

theorem eql_func_nil (f : Fn) (a b : Array Value) (w : World) : (binOp .eql 52 (.func f a b) .nilFunc).run Try.prog w = .ok (.bool false) w := by
  have h : ∀ d : Nat, (Op.equalIn (d + 1) 52 (.func f a b) .nilFunc).run Try.prog w = .ok false w := fun d => by
    simp [Op.equalIn, run_underlying Try.underlying52]
  simp only [binOp]
  simp [Op.equal, Op.maxDepth, h 9999]
attribute [go_sem] eql_func_nil

/-- What a step of a round leaves. -/
def Kept (B : Nat) (p : Nat → Prop) (T : TypeId → Prop) (W W' : World) : Prop := KeepsFrom B W W' ∧ KeepT p T W W'
theorem Kept.refl (B : Nat) (p : Nat → Prop) (T : TypeId → Prop) (W : World) : Kept B p T W W := ⟨KeepsFrom.refl _ _, KeepT.refl _ _ _⟩
theorem Kept.trans {B : Nat} {p : Nat → Prop} {T : TypeId → Prop} {X Y Z : World} (h : Kept B p T X Y) (k : Kept B p T Y Z) : Kept B p T X Z := ⟨h.1.trans k.1, h.2.trans k.2⟩
theorem Kept.of_below {B : Nat} {p : Nat → Prop} {T : TypeId → Prop} {W W' : World} (h : Below W.heap.size W W') : Kept B p T W W' := ⟨KeepsFrom.of_below _ h, KeepT.of_below h⟩
theorem Kept.set {B : Nat} {p : Nat → Prop} {T : TypeId → Prop} {w : World} {g : Nat} {cs : Array Value} {t : TypeId} {fr : Nat × Nat} (hg : w.heap[g]? = some (.cells cs t fr)) (ht : ¬ T t) (hp : p g) (o : Nat) (v : Value) : Kept B p T w (w.setCell ⟨g, o, none⟩ v) :=
  ⟨(KeepsOthers.setCell _ _ _).from _, KeepT.set hg ht hp o v⟩
theorem Kept.blk {B : Nat} {p : Nat → Prop} {T : TypeId → Prop} {W W' : World} (h : Kept B p T W W') {g : Nat} {o : Obj} (hg : W.heap[g]? = some o) (hn : ¬ p g) : W'.heap[g]? = some o := h.2.keep.blk hg hn

/-- An iterator of the bag's, and what it must tell. -/
structure Wk where
  bl : Nat
  oa : Option Addr
  La : List Pk
  ol : Option Addr
  cl : Nat
  Lb : List Pk
def Wk.val (e : Wk) : Value := .agg #[.func (.func 32) #[] #[.pointer (some ⟨e.bl, 0, none⟩)], .slice e.ol e.Lb.length e.cl]
structure Wk.Ok (w : World) (e : Wk) : Prop where
  box : w.heap[e.bl]? = some (.cells #[.slice e.oa e.La.length e.La.length] 54 (0, 0))
  few : e.La.length ≤ 512
  key : e.Lb.map Pk.key4 = e.La.map Pk.key4
  rowa : RowAt w (fun _ => False) e.oa e.La
  rowb : RowAt w (fun _ => False) e.ol e.Lb
  data : ∀ q ∈ e.La, q.Ok ∧ ∃ B, Dat w B q.ad q.s
  datb : ∀ q ∈ e.Lb, ∃ B, RDat w B q.ad q.s
theorem Wk.Ok.len {w : World} {e : Wk} (h : e.Ok w) : e.Lb.length = e.La.length := by simpa using congrArg List.length h.key
theorem RowAt.lift {w : World} {oa : Option Addr} {L : List Pk} (h : RowAt w (fun _ => False) oa L) : RowAt w (fun k => w.heap.size ≤ k) oa L := by
  rcases h with h | ⟨g, h1, h2, _, h4⟩
  · exact Or.inl h
  · exact Or.inr ⟨g, h1, h2, by omega, h4⟩
theorem Wk.Ok.below {w w' : World} {e : Wk} (h : e.Ok w) (hb : Below w.heap.size w w') : e.Ok w' :=
  ⟨blk_below h.box hb, h.few, h.key, h.rowa.keep (Keep.of_below hb), h.rowb.keep (Keep.of_below hb),
   fun q hq => ⟨(h.data q hq).1, by obtain ⟨B, hd⟩ := (h.data q hq).2; exact ⟨B, hd.keep (p := fun _ => False) (Keep.of_below hb) (fun _ _ _ h => h)⟩⟩,
   fun q hq => by obtain ⟨B, hd⟩ := h.datb q hq; exact ⟨B, hd.keep (p := fun _ => False) (Keep.of_below hb) (fun _ _ _ _ h => h)⟩⟩
theorem Wk.Ok.keys {w : World} {e : Wk} (h : e.Ok w) (k : Nat) (hk : k < e.La.length) (hk' : k < e.Lb.length) : e.Lb[k].num = e.La[k].num ∧ e.Lb[k].frm = e.La[k].frm ∧ e.Lb[k].to = e.La[k].to ∧ e.Lb[k].s = e.La[k].s := by
  have e1 := congrArg (fun x => x[k]?) h.key
  simp only [List.getElem?_map, List.getElem?_eq_getElem hk, List.getElem?_eq_getElem hk', Option.map_some, Option.some.injEq, Pk.key4, Prod.mk.injEq] at e1
  exact e1

/-- What goes has in its own boxes. -/
def Boxes (w : World) (bl : Nat) (ol : Option Addr) (n cl most : Nat) (tw : Bool) (at_ : Int) (W : World) : Prop :=
  W.heap[w.heap.size]? = some (.cells #[.func (.func 32) #[] #[.pointer (some ⟨bl, 0, none⟩)], .slice ol n cl] 57 (0, 0)) ∧ W.heap[w.heap.size + 1]? = some (.cells #[.int .i64 (most : Int)] 3 (0, 0)) ∧
    W.heap[w.heap.size + 2]? = some (.cells #[.bool tw] 4 (0, 0)) ∧ W.heap[w.heap.size + 3]? = some (.cells #[.bool false] 4 (0, 0)) ∧ W.heap[w.heap.size + 4]? = some (.cells #[.int .i64 at_] 3 (0, 0))
theorem Boxes.below {w : World} {bl : Nat} {ol : Option Addr} {n cl most : Nat} {tw : Bool} {at_ : Int} {W W' : World} (h : Boxes w bl ol n cl most tw at_ W) (hb : Below W.heap.size W W') : Boxes w bl ol n cl most tw at_ W' :=
  ⟨blk_below h.1 hb, blk_below h.2.1 hb, blk_below h.2.2.1 hb, blk_below h.2.2.2.1 hb, blk_below h.2.2.2.2 hb⟩
theorem boxes_own (B : Nat) (w : World) (bl : Nat) (ol : Option Addr) (n cl most : Nat) (tw : Bool) : OwnFrom B (fun (k : Nat) W => Boxes w bl ol n cl most tw (k : Int) W) :=
  (ownFrom_blk B (fun _ => w.heap.size) (fun _ => _) _ _).and ((ownFrom_blk B (fun _ => w.heap.size + 1) (fun _ => _) _ _).and ((ownFrom_blk B (fun _ => w.heap.size + 2) (fun _ => _) _ _).and ((ownFrom_blk B (fun _ => w.heap.size + 3) (fun _ => _) _ _).and (ownFrom_blk B (fun _ => w.heap.size + 4) (fun (k : Nat) => #[.int .i64 (k : Int)]) _ _))))

theorem Boxes.keep {w : World} {bl : Nat} {ol : Option Addr} {n cl most : Nat} {tw : Bool} {at_ : Int} {W W' : World} {p : Nat → Prop} (h : Boxes w bl ol n cl most tw at_ W) (hk : Keep p W W') (hp : ∀ k, w.heap.size ≤ k → k ≤ w.heap.size + 4 → ¬ p k) : Boxes w bl ol n cl most tw at_ W' :=
  ⟨hk.blk h.1 (hp _ (by omega) (by omega)), hk.blk h.2.1 (hp _ (by omega) (by omega)), hk.blk h.2.2.1 (hp _ (by omega) (by omega)), hk.blk h.2.2.2.1 (hp _ (by omega) (by omega)), hk.blk h.2.2.2.2 (hp _ (by omega) (by omega))⟩
theorem Boxes.setAt {w : World} {bl : Nat} {ol : Option Addr} {n cl most : Nat} {tw : Bool} {at_ : Int} {W : World} (h : Boxes w bl ol n cl most tw at_ W) (x : Int) : Boxes w bl ol n cl most tw x (W.setCell ⟨w.heap.size + 4, 0, none⟩ (.int .i64 x)) :=
  ⟨heap_set_ne h.1 (by show _ ≠ _; simp) _, heap_set_ne h.2.1 (by show _ ≠ _; simp) _, heap_set_ne h.2.2.1 (by show _ ≠ _; simp) _, heap_set_ne h.2.2.2.1 (by show _ ≠ _; simp) _, heap_set_to h.2.2.2.2 (by simp)⟩
/-- The bytes that came in the round, some of them written. -/
def Buf (W : World) (B : Nat) (ad : Option Addr) (n : Nat) : Prop := n = 0 ∨ ∃ g cs, B ≤ g ∧ ad = some ⟨g, 0, none⟩ ∧ W.heap[g]? = some (.cells cs 5 (0, 0)) ∧ n ≤ cs.size
theorem Dat.buf {W : World} {B : Nat} {ad : Option Addr} {s : ByteArray} (h : Dat W B ad s) : Buf W B ad s.size := by
  rcases h with h | ⟨g, cs, h1, h2, h3, h4⟩
  · exact Or.inl h
  · refine Or.inr ⟨g, cs, h1, h2, h3, ?_⟩
    by_cases h0 : s.size = 0
    · omega
    · have := h4 (s.size - 1) (by omega)
      rw [blk_cell h3, Nat.zero_add] at this
      have := (Array.getElem?_eq_some_iff.1 this).1
      omega

theorem Buf.below {W W' : World} {B : Nat} {ad : Option Addr} {n : Nat} (h : Buf W B ad n) (hb : Below W.heap.size W W') : Buf W' B ad n := by
  rcases h with h | ⟨g, cs, h1, h2, h3, h4⟩
  · exact Or.inl h
  · exact Or.inr ⟨g, cs, h1, h2, blk_below h3 hb, h4⟩
set_option maxRecDepth 100000 in
set_option maxHeartbeats 16000000 in
theorem goes_any (e : Wk) (most : Nat) (tw : Bool) (w : World) (h : e.Ok w) (hm : most ≤ e.La.length)
    (hin : tw = true → ∀ W, e.Ok W → Calls Try.prog 24 #[e.val, .int .i64 (e.Lb.length : Int), .bool false] W fun r w' => r = .returned (.bool true) ∧ Below W.heap.size W w') :
    Calls Try.prog 24 #[e.val, .int .i64 (most : Int), .bool tw] w fun r w' => r = .returned (.bool true) ∧ Below w.heap.size w w' := by
  have HW : Hid (e.Ok w) := h
  have hlen := h.len
  have HIN : Hid (tw = true → ∀ W, e.Ok W → Calls Try.prog 24 #[e.val, .int .i64 (e.Lb.length : Int), .bool false] W fun r w' => r = .returned (.bool true) ∧ Below W.heap.size W w') := hin
  obtain ⟨bl, oa, La, ol, cl, Lb⟩ := e
  simp only at hlen hm
  have HLen : Hid (Lb.length = La.length) := hlen
  clear hlen
  have hfew : La.length ≤ 512 := h.few
  clear h hin
  unfold Wk.val
  simp only
  refine calls_of_marks 3 Try.func24 rfl ?_
  simp only [Try.ntmps24, List.size_toArray, List.length_cons, List.length_nil, Nat.reduceAdd, Nat.reduceSub, Array.replicate_succ, Array.replicate_zero, List.push_toArray, List.append_toArray, List.nil_append, List.cons_append]
  gi_wp2
  have hB0 : Boxes w bl ol Lb.length cl most tw 0 (((((w.alloc (.cells #[.func (.func 32) #[] #[.pointer (some ⟨bl, 0, none⟩)], .slice ol Lb.length cl] 57 (0, 0))).alloc (.cells #[.int .i64 (most : Int)] 3 (0, 0))).alloc (.cells #[.bool tw] 4 (0, 0))).alloc (.cells #[.bool false] 4 (0, 0))).alloc (.cells #[.int .i64 0] 3 (0, 0))) := by
    refine ⟨?_, ?_, ?_, ?_, ?_⟩
    all_goals (repeat (first | (with_reducible assumption) | (with_reducible exact Below.refl _ _) | (with_reducible refine heap_drew ?_) | (focus ((with_reducible refine heap_new ?_) ; simp ; done)) | (with_reducible apply heap_set_to) | (focus ((with_reducible refine heap_set_ne ?_ ?_ _) ; rotate_left ; (focus (first | omega | (simp ; done) | (simp ; omega))))) | (with_reducible refine heap_old ?_) | (with_reducible refine Below.drew ?_) | (with_reducible refine below_set ?_ _ _) | (focus ((with_reducible refine Below.setCell ?_ ?_ _) ; rotate_left ; (focus (first | omega | (simp ; done) | (simp ; omega))))) | (focus ((with_reducible refine Below.alloc ?_ ?_ _) ; rotate_left ; (focus (first | omega | (simp ; done) | (simp ; omega))))) | (with_reducible rfl) | (focus (simp ; done))))
  have hbs : Below w.heap.size w (((((w.alloc (.cells #[.func (.func 32) #[] #[.pointer (some ⟨bl, 0, none⟩)], .slice ol Lb.length cl] 57 (0, 0))).alloc (.cells #[.int .i64 (most : Int)] 3 (0, 0))).alloc (.cells #[.bool tw] 4 (0, 0))).alloc (.cells #[.bool false] 4 (0, 0))).alloc (.cells #[.int .i64 0] 3 (0, 0))) := by (repeat (first | (with_reducible assumption) | (with_reducible exact Below.refl _ _) | (with_reducible refine heap_drew ?_) | (focus ((with_reducible refine heap_new ?_) ; simp ; done)) | (with_reducible apply heap_set_to) | (focus ((with_reducible refine heap_set_ne ?_ ?_ _) ; rotate_left ; (focus (first | omega | (simp ; done) | (simp ; omega))))) | (with_reducible refine heap_old ?_) | (with_reducible refine Below.drew ?_) | (with_reducible refine below_set ?_ _ _) | (focus ((with_reducible refine Below.setCell ?_ ?_ _) ; rotate_left ; (focus (first | omega | (simp ; done) | (simp ; omega))))) | (focus ((with_reducible refine Below.alloc ?_ ?_ _) ; rotate_left ; (focus (first | omega | (simp ; done) | (simp ; omega))))) | (with_reducible rfl) | (focus (simp ; done))))
  simp only [Nat.add_assoc, Nat.reduceAdd]
  generalize hws : ((((w.alloc (.cells #[.func (.func 32) #[] #[.pointer (some ⟨bl, 0, none⟩)], .slice ol Lb.length cl] 57 (0, 0))).alloc (.cells #[.int .i64 (most : Int)] 3 (0, 0))).alloc (.cells #[.bool tw] 4 (0, 0))).alloc (.cells #[.bool false] 4 (0, 0))).alloc (.cells #[.int .i64 0] 3 (0, 0)) = ws at *
  clear hws
  have hzs := hbs.size
  have hWs := HW.out.below hbs
  have H5 : Hid (w.heap.size + 5 ≤ ws.heap.size) := blk_lt hB0.2.2.2.2
  refine wpIn_range (gf := 32) (lb := #[.pointer (some ⟨bl, 0, none⟩)]) rfl (enters_of Try.func32 (by kernel_rfl) rfl)
    (bag_seq bl oa La (fun k => w.heap.size ≤ k) (fun t => t = 67) rfl ws hfew hWs.box (fun k hk => Nat.le_trans hzs hk) (HW.out.rowa.lift.keep (Keep.of_below hbs)) ?hdat) (fun k hk => Nat.le_trans hzs hk) ?hps
    (fun k W' => (Boxes w bl ol Lb.length cl most tw (k : Int) W' ∧ Below w.heap.size w W') ∧ ws.heap.size ≤ W'.heap.size)
    (fun c k W' => (c = .exit 0 ∧ tw = false ∧ most = k) ∧ Boxes w bl ol Lb.length cl most tw (k : Int) W' ∧ Below w.heap.size w W')
    (((boxes_own _ _ _ _ _ _ _ _).and (ownFrom_below (Nat.le_refl _) hzs)).and (ownFrom_size _ _)) (fun c => (OwnFrom.pure _ _).and ((boxes_own _ _ _ _ _ _ _ _).and (ownFrom_below (Nat.le_refl _) hzs))) ⟨⟨hB0, hbs⟩, Nat.le_refl _⟩
    (fun k a' W' => ∃ (h : k < La.length) (ad : Option Addr) (cap bp : Nat), ws.heap.size ≤ bp ∧ (W'.heap[bp]? = some (.cells #[.int .i64 La[k].num, .int .i64 La[k].frm, .int .i64 La[k].to, .slice ad La[k].s.size cap] 39 (0, 0)) ∧ Dat W' ws.heap.size ad La[k].s) ∧ (ad = none → La[k].s.size = 0 ∧ cap = 0) ∧ a' = { tmps := #[.agg #[.func (.func 32) #[] #[.pointer (some ⟨bl, 0, none⟩)], .slice ol Lb.length cl], .int .i64 (most : Int), .bool tw, .pointer (some ⟨w.heap.size, 0, none⟩), .pointer (some ⟨w.heap.size + 1, 0, none⟩), .pointer (some ⟨w.heap.size + 2, 0, none⟩), .pointer (some ⟨w.heap.size + 3, 0, none⟩), .pointer (some ⟨w.heap.size + 4, 0, none⟩), .int .i64 (k : Int), .pointer (some ⟨bp, 0, none⟩), undef, undef, .pointer (some ⟨w.heap.size, 0, none⟩), .func (.func 32) #[] #[.pointer (some ⟨bl, 0, none⟩)], .bool false, .pointer (some ⟨w.heap.size, 0, none⟩), .func (.func 32) #[] #[.pointer (some ⟨bl, 0, none⟩)], .int .i64 (k : Int), pv La[k].num La[k].frm La[k].to ad La[k].s.size cap, undef, undef, undef, undef, undef, undef, undef, undef, undef, undef, undef, undef, undef, undef, undef, undef, undef, undef, undef, undef, undef, undef, undef, undef, undef, undef, undef, undef, undef, undef, undef, undef, undef, undef, undef, undef, undef, undef, undef, undef, undef, undef, undef, undef, undef, undef, undef, undef, undef, undef, undef, undef, undef, undef, undef, undef, undef, undef, undef, undef, undef, undef, undef, undef, undef, undef, undef, undef, undef, undef, undef], defers := [] })
    ?hA ?assign ?body ?done ?stop
  case hps => intro k args W' h; obtain ⟨_, _, _, rfl, _⟩ := h; rfl
  case hdat =>
    intro q hq
    obtain ⟨h1, B, h2⟩ := HW.out.data q hq
    refine ⟨h1, B, h2.keep (p := fun _ => False) (Keep.of_below hbs) (fun _ _ _ h => h), ?_⟩
    rcases h2 with h0 | ⟨g, cs, _, h3, h4, _⟩
    · exact Or.inl h0
    · refine Or.inr fun a ha => ?_
      rw [h3] at ha
      cases ha
      have := blk_lt h4
      show ¬ w.heap.size ≤ g
      omega
  case hA =>
    intro a' k X Y row hs hg hr
    obtain ⟨h, ad, cap, bp, h1, ⟨h2, h3⟩, h4⟩ := hs
    exact ⟨h, ad, cap, bp, h1, ⟨ownFrom_blk (β := Unit) _ (fun _ => bp) (fun _ => _) _ _ () X Y row h2 hg hr, ownFrom_dat (β := Unit) _ _ (fun _ => ad) (fun _ => La[k].s) () X Y row h3 hg hr⟩, h4⟩
  case assign =>
    rintro l2 k args W2 K hk ⟨⟨hB2, hb2⟩, hsz2⟩ ⟨hlt, ad, cap, rfl, hn, hd⟩ hK
    gi_wp2
    have hbx := below_alloc_self W2 (.cells #[.int .i64 La[k].num, .int .i64 La[k].frm, .int .i64 La[k].to, .slice ad La[k].s.size cap] 39 (0, 0))
    exact hK _ _ (KeepsFrom.of_below _ hbx) (KeepT.of_below hbx) ⟨⟨hB2.below hbx, below_back hb2 hb2.size hbx⟩, Nat.le_trans hsz2 hbx.size⟩ ⟨hlt, ad, cap, W2.heap.size, hsz2, ⟨heap_new rfl, hd.keep (p := fun _ => False) (Keep.of_below hbx) (fun _ _ _ h => h)⟩, hn, rfl⟩
  case body =>
    rintro l2 k a' W2 hl ⟨r2, hr2⟩ hk ⟨⟨hB2, hb2⟩, hsz2⟩ ⟨hlt, ad, cap, bp, hbp, ⟨gp, hd⟩, hn, rfl⟩
    have hkb : k < Lb.length := by rw [HLen.out]; exact hlt
    obtain ⟨ek1, ek2, ek3, ek4⟩ := HW.out.keys k hlt hkb
    obtain ⟨gg, e0, e1, e2, e3, e4⟩ := HW.out.rowb.at k hkb
    have e0' : ol = some ⟨gg, 0, none⟩ := e0
    subst e0'
    obtain ⟨Bq, hq⟩ := HW.out.datb _ (List.getElem_mem hkb)
    have hgg : gg < w.heap.size := cell_lt e1
    have ek1' : Lb[k].num = La[k].num := ek1
    have ek2' : Lb[k].frm = La[k].frm := ek2
    have ek3' : Lb[k].to = La[k].to := ek3
    have ek4' : Lb[k].s = La[k].s := ek4
    have e1' : w.cell? ⟨gg, k * 4, none⟩ = some (.int .i64 La[k].num) := by rw [← ek1']; exact e1
    have e2' : w.cell? ⟨gg, k * 4 + 1, none⟩ = some (.int .i64 La[k].frm) := by rw [← ek2']; exact e2
    have e3' : w.cell? ⟨gg, k * 4 + 2, none⟩ = some (.int .i64 La[k].to) := by rw [← ek3']; exact e3
    have e4' : w.cell? ⟨gg, k * 4 + 3, none⟩ = some (.slice Lb[k].ad La[k].s.size Lb[k].cap) := by rw [← ek4']; exact e4
    have hq' : Reads w Lb[k].ad La[k].s := by rw [← ek4']; exact hq.reads
    obtain ⟨ax, hax⟩ : ∃ x, x = Lb[k].ad := ⟨_, rfl⟩
    obtain ⟨cx, hcx⟩ : ∃ x, x = Lb[k].cap := ⟨_, rfl⟩
    rw [← hax, ← hcx] at e4'
    rw [← hax] at hq'
    have HRow : Hid (∀ w8, Below W2.heap.size W2 w8 → Reads w8 ax La[k].s ∧ w8.cell? ⟨gg, k * 4, none⟩ = some (.int .i64 La[k].num) ∧ w8.cell? ⟨gg, k * 4 + 1, none⟩ = some (.int .i64 La[k].frm) ∧ w8.cell? ⟨gg, k * 4 + 2, none⟩ = some (.int .i64 La[k].to) ∧ w8.cell? ⟨gg, k * 4 + 3, none⟩ = some (.slice ax La[k].s.size cx)) := fun w8 h8 => by
      have hb := below_back hb2 hb2.size h8
      exact ⟨hq'.below hb, (hb.cell (p := ⟨gg, k * 4, none⟩) hgg).trans e1', (hb.cell (p := ⟨gg, k * 4 + 1, none⟩) hgg).trans e2', (hb.cell (p := ⟨gg, k * 4 + 2, none⟩) hgg).trans e3', (hb.cell (p := ⟨gg, k * 4 + 3, none⟩) hgg).trans e4'⟩
    clear e0 e1 e2 e3 e4 hq ek1' ek2' ek3' ek4' e1' e2' e3' e4' hq' hax hcx
    clear ek1 ek2 ek3 ek4
    have HD : Hid (Dat W2 ws.heap.size ad La[k].s) := hd
    clear hd hn
    have hd1 : decide (Lb.length ≤ k) = false := by simp; omega
    gi_wp2
    have hSt : Stable (fun w8 : World => (Below W2.heap.size W2 w8)) := by repeat (first | exact stable_ext _ | exact stable_blk _ _ | exact stable_true | (refine stable_bel ?_ ; (focus (first | (simp [World.size_setCell] ; done) | (simp [World.setCell] ; done)))) | refine Stable.and ?_ ?_)
    refine wpIn_region_y (some l2) [0, 1, 2, 3, 4, 5, 6, 7, 8, 9, 10, 11, 12, 13, 14, 15, 16, 17, 18, 19] [1, 0, 1, 0, 0, 0, 0, 1, 0, 0, 0, 1, 0, 1, 1, 0, 1, 1, 0, 0] (fun w8 => (Below W2.heap.size W2 w8)) (by kernel_rfl) (by kernel_rfl) ?_ ?_
    · (first | trivial | (repeat (first | (with_reducible assumption) | (with_reducible exact Below.refl _ _) | (with_reducible refine heap_drew ?_) | (focus ((with_reducible refine heap_new ?_) ; simp ; done)) | (with_reducible apply heap_set_to) | (focus ((with_reducible refine heap_set_ne ?_ ?_ _) ; rotate_left ; (focus (first | omega | (simp ; done) | (simp ; omega))))) | (with_reducible refine heap_old ?_) | (with_reducible refine Below.drew ?_) | (with_reducible refine below_set ?_ _ _) | (focus ((with_reducible refine Below.setCell ?_ ?_ _) ; rotate_left ; (focus (first | omega | (simp ; done) | (simp ; omega))))) | (focus ((with_reducible refine Below.alloc ?_ ?_ _) ; rotate_left ; (focus (first | omega | (simp ; done) | (simp ; omega))))) | (with_reducible rfl) | (focus (simp ; done)))))
    simp only [List.map_cons, List.map_nil, List.getD_cons_zero, List.getD_cons_succ]
    (refine y_quiet rfl hSt (fun _ h => h) _ ?_ rfl (by simp) ?_ ?_ ; rotate_left ; · (intro w8 hC K hK ; have hc := hC ; have q0 := blk2 (blk_below hB2.1 hc) ; have q4 := blk1 (blk_below hB2.2.2.2.2 hc) ; have qp := blk4 (blk_below gp hc) ; obtain ⟨hra, x0, x1, x2, x3⟩ := HRow.out _ hc ; go_wp2_with fail ; refine ⟨?_, Below.refl _ _⟩ ; exact rfl))
    simp only [Act.put, List.setIfInBounds_toArray, List.set_cons_succ, List.set_cons_zero]
    (refine y_pure rfl _ ?_ rfl (by simp) ?_ ?_ ; rotate_left ; · (intro w8 K hK ; go_wp2_with fail ; exact rfl))
    simp only [Act.put, List.setIfInBounds_toArray, List.set_cons_succ, List.set_cons_zero]
    (refine y_quiet rfl hSt (fun _ h => h) _ ?_ rfl (by simp) ?_ ?_ ; rotate_left ; · (intro w8 hC K hK ; have hc := hC ; have q0 := blk2 (blk_below hB2.1 hc) ; have q4 := blk1 (blk_below hB2.2.2.2.2 hc) ; have qp := blk4 (blk_below gp hc) ; obtain ⟨hra, x0, x1, x2, x3⟩ := HRow.out _ hc ; go_wp2_with fail ; refine ⟨?_, Below.refl _ _⟩ ; exact rfl))
    simp only [Act.put, List.setIfInBounds_toArray, List.set_cons_succ, List.set_cons_zero]
    (refine y_pure rfl _ ?_ rfl (by simp) ?_ ?_ ; rotate_left ; · (intro w8 K hK ; go_wp2_with fail ; exact rfl))
    simp only [Act.put, List.setIfInBounds_toArray, List.set_cons_succ, List.set_cons_zero]
    (refine y_pure rfl _ ?_ rfl (by simp) ?_ ?_ ; rotate_left ; · (intro w8 K hK ; go_wp2_with fail ; exact rfl))
    simp only [Act.put, List.setIfInBounds_toArray, List.set_cons_succ, List.set_cons_zero]
    (refine y_pure rfl _ ?_ rfl (by simp) ?_ ?_ ; rotate_left ; · (intro w8 K hK ; go_wp2_with fail ; exact rfl))
    simp only [Act.put, List.setIfInBounds_toArray, List.set_cons_succ, List.set_cons_zero]
    first | (refine y_skip rfl ?_) | (refine y_pure rfl _ ?_ rfl (by simp) ?_ ?_ ; rotate_left ; · (intro w8 K hK ; go_wp2_with fail ; exact rfl))
    simp only [Act.put, List.setIfInBounds_toArray, List.set_cons_succ, List.set_cons_zero]
    first | (refine y_skip rfl ?_) | (refine y_quiet rfl hSt (fun _ h => h) _ ?_ rfl (by simp) ?_ ?_ ; rotate_left ; · (intro w8 hC K hK ; have hc := hC ; have q0 := blk2 (blk_below hB2.1 hc) ; have q4 := blk1 (blk_below hB2.2.2.2.2 hc) ; have qp := blk4 (blk_below gp hc) ; obtain ⟨hra, x0, x1, x2, x3⟩ := HRow.out _ hc ; go_wp2_with fail ; refine ⟨?_, Below.refl _ _⟩ ; exact rfl))
    simp only [Act.put, List.setIfInBounds_toArray, List.set_cons_succ, List.set_cons_zero]
    first | (refine y_skip rfl ?_) | (refine y_pure rfl _ ?_ rfl (by simp) ?_ ?_ ; rotate_left ; · (intro w8 K hK ; go_wp2_with fail ; exact rfl))
    simp only [Act.put, List.setIfInBounds_toArray, List.set_cons_succ, List.set_cons_zero]
    (refine y_pure rfl _ ?_ rfl (by simp) ?_ ?_ ; rotate_left ; · (intro w8 K hK ; go_wp2_with fail ; exact rfl))
    simp only [Act.put, List.setIfInBounds_toArray, List.set_cons_succ, List.set_cons_zero]
    (refine y_pure rfl _ ?_ rfl (by simp) ?_ ?_ ; rotate_left ; · (intro w8 K hK ; go_wp2_with fail ; exact rfl))
    simp only [Act.put, List.setIfInBounds_toArray, List.set_cons_succ, List.set_cons_zero]
    first | (refine y_skip rfl ?_) | (refine y_quiet rfl hSt (fun _ h => h) _ ?_ rfl (by simp) ?_ ?_ ; rotate_left ; · (intro w8 hC K hK ; have hc := hC ; have q0 := blk2 (blk_below hB2.1 hc) ; have q4 := blk1 (blk_below hB2.2.2.2.2 hc) ; have qp := blk4 (blk_below gp hc) ; obtain ⟨hra, x0, x1, x2, x3⟩ := HRow.out _ hc ; go_wp2_with fail ; refine ⟨?_, Below.refl _ _⟩ ; exact rfl))
    simp only [Act.put, List.setIfInBounds_toArray, List.set_cons_succ, List.set_cons_zero]
    first | (refine y_skip rfl ?_) | (refine y_pure rfl _ ?_ rfl (by simp) ?_ ?_ ; rotate_left ; · (intro w8 K hK ; go_wp2_with fail ; exact rfl))
    simp only [Act.put, List.setIfInBounds_toArray, List.set_cons_succ, List.set_cons_zero]
    first | (refine y_skip rfl ?_) | (refine y_quiet rfl hSt (fun _ h => h) _ ?_ rfl (by simp) ?_ ?_ ; rotate_left ; · (intro w8 hC K hK ; have hc := hC ; have q0 := blk2 (blk_below hB2.1 hc) ; have q4 := blk1 (blk_below hB2.2.2.2.2 hc) ; have qp := blk4 (blk_below gp hc) ; obtain ⟨hra, x0, x1, x2, x3⟩ := HRow.out _ hc ; go_wp2_with fail ; refine ⟨?_, Below.refl _ _⟩ ; exact rfl))
    simp only [Act.put, List.setIfInBounds_toArray, List.set_cons_succ, List.set_cons_zero]
    first | (refine y_skip rfl ?_) | (refine y_quiet rfl hSt (fun _ h => h) _ ?_ rfl (by simp) ?_ ?_ ; rotate_left ; · (intro w8 hC K hK ; have hc := hC ; have q0 := blk2 (blk_below hB2.1 hc) ; have q4 := blk1 (blk_below hB2.2.2.2.2 hc) ; have qp := blk4 (blk_below gp hc) ; obtain ⟨hra, x0, x1, x2, x3⟩ := HRow.out _ hc ; go_wp2_with fail ; refine ⟨?_, Below.refl _ _⟩ ; exact rfl))
    simp only [Act.put, List.setIfInBounds_toArray, List.set_cons_succ, List.set_cons_zero]
    first | (refine y_skip rfl ?_) | (refine y_pure rfl _ ?_ rfl (by simp) ?_ ?_ ; rotate_left ; · (intro w8 K hK ; go_wp2_with fail ; exact rfl))
    simp only [Act.put, List.setIfInBounds_toArray, List.set_cons_succ, List.set_cons_zero]
    first | (refine y_skip rfl ?_) | (refine y_quiet rfl hSt (fun _ h => h) _ ?_ rfl (by simp) ?_ ?_ ; rotate_left ; · (intro w8 hC K hK ; have hc := hC ; have q0 := blk2 (blk_below hB2.1 hc) ; have q4 := blk1 (blk_below hB2.2.2.2.2 hc) ; have qp := blk4 (blk_below gp hc) ; obtain ⟨hra, x0, x1, x2, x3⟩ := HRow.out _ hc ; go_wp2_with fail ; refine ⟨?_, Below.refl _ _⟩ ; exact rfl))
    simp only [Act.put, List.setIfInBounds_toArray, List.set_cons_succ, List.set_cons_zero]
    first | (refine y_skip rfl ?_) | (refine y_quiet rfl hSt (fun _ h => h) _ ?_ rfl (by simp) ?_ ?_ ; rotate_left ; · (intro w8 hC K hK ; have hc := hC ; have q0 := blk2 (blk_below hB2.1 hc) ; have q4 := blk1 (blk_below hB2.2.2.2.2 hc) ; have qp := blk4 (blk_below gp hc) ; obtain ⟨hra, x0, x1, x2, x3⟩ := HRow.out _ hc ; go_wp2_with fail ; refine (same_eq La[k].num La[k].frm La[k].to ad ax cap cx La[k].s _ (HD.out.reads.below hc) hra).mono ?_ ; rintro e w2 ⟨rfl, hb2⟩ ; refine hK _ _ ⟨?_, rfl, hb2⟩ ; exact rfl))
    simp only [Act.put, List.setIfInBounds_toArray, List.set_cons_succ, List.set_cons_zero]
    first | (refine y_skip rfl ?_) | (refine y_pure rfl _ ?_ rfl (by simp) ?_ ?_ ; rotate_left ; · (intro w8 K hK ; go_wp2_with fail ; exact rfl))
    simp only [Act.put, List.setIfInBounds_toArray, List.set_cons_succ, List.set_cons_zero]
    (refine y_pure rfl _ ?_ rfl (by simp) ?_ ?_ ; rotate_left ; · (intro w8 K hK ; go_wp2_with fail ; exact rfl))
    simp only [Act.put, List.setIfInBounds_toArray, List.set_cons_succ, List.set_cons_zero]
    first | refine y_nil ?_ | refine y_end ?_
    rintro w8 hc
    clear hd1
    have hs65 : La[k].s.size ≤ 65536 := (HW.out.data _ (List.getElem_mem hlt)).1.2
    have hB8 := hB2.below hc
    have hb8 := below_back hb2 hb2.size hc
    have gp8 := blk_below gp hc
    have hd8 := (HD.out.keep (p := fun _ => False) (Keep.of_below hc) (fun _ _ _ h => h)).buf
    have q0 := blk2 hB8.1
    have q1 := blk1 hB8.2.1
    have q2 := blk1 hB8.2.2.1
    have q4 := blk1 hB8.2.2.2.2
    have qp := blk4 gp8
    cases tw with
    | false =>
      have HL : Hid ((Boxes w bl (some ⟨gg, 0, none⟩) Lb.length cl most false (k : Int) w8 ∧ Below w.heap.size w w8) ∧ w8.heap[bp]? = some (.cells #[.int .i64 La[k].num, .int .i64 La[k].frm, .int .i64 La[k].to, .slice ad La[k].s.size cap] 39 (0, 0)) ∧ Buf w8 ws.heap.size ad La[k].s.size ∧ Kept ws.heap.size (fun k => w.heap.size ≤ k) (fun t => t = 67) W2 w8) := ⟨⟨hB8,hb8⟩,gp8,hd8,Kept.of_below hc⟩
      clear hB8 hb8 gp8 hd8 hc hB2 hb2 gp
      gi_wp2
      clear q0 q1 q2 q4 qp
      gi_loopw [59] (fun v wr => ∃ j : Nat, j ≤ La[k].s.size ∧ v = .int .i64 j ∧ Hid ((Boxes w bl (some ⟨gg, 0, none⟩) Lb.length cl most false (k : Int) wr ∧ Below w.heap.size w wr) ∧ wr.heap[bp]? = some (.cells #[.int .i64 La[k].num, .int .i64 La[k].frm, .int .i64 La[k].to, .slice ad La[k].s.size cap] 39 (0, 0)) ∧ Buf wr ws.heap.size ad La[k].s.size ∧ Kept ws.heap.size (fun k => w.heap.size ≤ k) (fun t => t = 67) W2 wr)) (fun v _ => La[k].s.size - (intOf v).toNat)
      case atStart => exact ⟨0, Nat.zero_le _, rfl, HL.out⟩
      case round =>
        clear HL
        obtain ⟨j, hj, rfl, HL⟩ := hrel
        by_cases hjl : j < La[k].s.size
        · have q := blk4 HL.out.2.1
          rcases HL.out.2.2.1 with h0 | ⟨g, cs, hg1, rfl, hg2, hg3⟩
          · omega
          · have hx : wr.cell? ⟨g, j, none⟩ = some (cs[j]'(by omega)) := by rw [blk_cell hg2]; exact Array.getElem?_eq_getElem _
            have hf := blk_free hg2
            have hgl := blk_lt hg2
            gi_wp2
            go_roundw
            case rel =>
              have hgb : g ≠ bp := fun e => by
                subst e
                rw [HL.out.2.1] at hg2
                simp at hg2
              have K1 := Keep.set wr ⟨g, j, none⟩ (.int .u8 63)
              have hH5 := H5.out
              refine ⟨j + 1, by omega, by go_num, ⟨HL.out.1.1.keep K1 (fun k h1 h2 e => by have e : k = g := e; omega), HL.out.1.2.setCell (p := ⟨g, j, none⟩) (by show _ ≤ g; omega) _⟩, K1.blk HL.out.2.1 (fun e => hgb e.symm), Or.inr ⟨g, _, hg1, rfl, heap_set hg2 j _, by simpa using hg3⟩, HL.out.2.2.2.trans (Kept.set hg2 (by decide) (by omega) j _)⟩
            case measure => simp [intOf]; omega
        · have q1 := blk1 HL.out.1.1.2.1
          have q2 := blk1 HL.out.1.1.2.2.1
          have q4 := blk1 HL.out.1.1.2.2.2.2
          have hmb : most ≤ 512 := by omega
          by_cases hke : k + 1 = most
          · have hkt : ((k : Int) + 1 == (most : Int)) = true := by simp; omega
            gi_wp2
            have hBz := HL.out.1.1.setAt ((k : Int) + 1)
            have hbz := HL.out.1.2.setCell (p := ⟨w.heap.size + 4, 0, none⟩) (by show w.heap.size ≤ w.heap.size + 4; omega) (.int .i64 ((k : Int) + 1))
            have hKz := HL.out.2.2.2.trans (Kept.set (B := ws.heap.size) (p := fun k => w.heap.size ≤ k) (T := fun t => t = 67) HL.out.1.1.2.2.2.2 (by decide) (by omega) 0 (.int .i64 ((k : Int) + 1)))
            exact ⟨hKz.1, (by first | exact ⟨rfl, rfl, hke.symm⟩ | exact ⟨rfl, hke.symm⟩), hBz, hbz⟩
          · have hkt : ((k : Int) + 1 == (most : Int)) = false := by simp; omega
            gi_wp2
            have hBz := HL.out.1.1.setAt ((k : Int) + 1)
            have hbz := HL.out.1.2.setCell (p := ⟨w.heap.size + 4, 0, none⟩) (by show w.heap.size ≤ w.heap.size + 4; omega) (.int .i64 ((k : Int) + 1))
            have hKz := HL.out.2.2.2.trans (Kept.set (B := ws.heap.size) (p := fun k => w.heap.size ≤ k) (T := fun t => t = 67) HL.out.1.1.2.2.2.2 (by decide) (by omega) 0 (.int .i64 ((k : Int) + 1)))
            exact ⟨hKz.1, hKz.2, ⟨hBz, hbz⟩, Nat.le_trans hsz2 hKz.1.size⟩
    | true =>
      by_cases hkm : k = most
      · subst hkm
        have hOk := HW.out.below hb8
        have hz8 : w8.heap.size < w8.heap.size + 1 := by omega
        have C := HIN.out rfl _ (hOk.below (below_alloc_self w8 (.cells #[.func (.func 32) #[] #[.pointer (some ⟨bl, 0, none⟩)], .slice (some ⟨gg, 0, none⟩) Lb.length cl] 57 (0, 0))))
        unfold Wk.val at C
        simp only at C
        have HC : Hid _ := C
        have hbx := below_alloc_self w8 (.cells #[.func (.func 32) #[] #[.pointer (some ⟨bl, 0, none⟩)], .slice (some ⟨gg, 0, none⟩) Lb.length cl] 57 (0, 0))
        have HL : Hid ((Boxes w bl (some ⟨gg, 0, none⟩) Lb.length cl k true (k : Int) w8 ∧ Below w.heap.size w w8) ∧ w8.heap[bp]? = some (.cells #[.int .i64 La[k].num, .int .i64 La[k].frm, .int .i64 La[k].to, .slice ad La[k].s.size cap] 39 (0, 0)) ∧ Buf w8 ws.heap.size ad La[k].s.size ∧ Kept ws.heap.size (fun k => w.heap.size ≤ k) (fun t => t = 67) W2 w8) := ⟨⟨hB8,hb8⟩,gp8,hd8,Kept.of_below hc⟩
        clear C hOk hB8 hb8 gp8 hd8 hc hB2 hb2 gp
        gi_wp2_with (refine ⟨trivial, ?_⟩; gi_at_call 24; refine (CallsIn.inRound l2 (callsIn_wide.2 HC.out)).mono ?_; rintro e w9 ⟨rfl, hb9⟩; have hb89 := below_back hbx hbx.size hb9; have gp9 := blk_below HL.out.2.1 hb89; have qp9 := blk4 gp9)
        have HL9 := HL
        clear HL
        have HL : Hid ((Boxes w bl (some ⟨gg, 0, none⟩) Lb.length cl k true (k : Int) w9 ∧ Below w.heap.size w w9) ∧ w9.heap[bp]? = some (.cells #[.int .i64 La[k].num, .int .i64 La[k].frm, .int .i64 La[k].to, .slice ad La[k].s.size cap] 39 (0, 0)) ∧ Buf w9 ws.heap.size ad La[k].s.size ∧ Kept ws.heap.size (fun k => w.heap.size ≤ k) (fun t => t = 67) W2 w9) := ⟨⟨HL9.out.1.1.below hb89,below_back HL9.out.1.2 HL9.out.1.2.size hb89⟩,gp9,HL9.out.2.2.1.below hb89,HL9.out.2.2.2.trans (Kept.of_below hb89)⟩
        clear hb9 hb89 gp9 hbx HC HL9
        clear q0 q1 q2 q4 qp qp9
        gi_loopw [59] (fun v wr => ∃ j : Nat, j ≤ La[k].s.size ∧ v = .int .i64 j ∧ Hid ((Boxes w bl (some ⟨gg, 0, none⟩) Lb.length cl k true (k : Int) wr ∧ Below w.heap.size w wr) ∧ wr.heap[bp]? = some (.cells #[.int .i64 La[k].num, .int .i64 La[k].frm, .int .i64 La[k].to, .slice ad La[k].s.size cap] 39 (0, 0)) ∧ Buf wr ws.heap.size ad La[k].s.size ∧ Kept ws.heap.size (fun k => w.heap.size ≤ k) (fun t => t = 67) W2 wr)) (fun v _ => La[k].s.size - (intOf v).toNat)
        case atStart => exact ⟨0, Nat.zero_le _, rfl, HL.out⟩
        case round =>
          clear HL
          obtain ⟨j, hj, rfl, HL⟩ := hrel
          by_cases hjl : j < La[k].s.size
          · have q := blk4 HL.out.2.1
            rcases HL.out.2.2.1 with h0 | ⟨g, cs, hg1, rfl, hg2, hg3⟩
            · omega
            · have hx : wr.cell? ⟨g, j, none⟩ = some (cs[j]'(by omega)) := by rw [blk_cell hg2]; exact Array.getElem?_eq_getElem _
              have hf := blk_free hg2
              have hgl := blk_lt hg2
              gi_wp2
              go_roundw
              case rel =>
                have hgb : g ≠ bp := fun e => by
                  subst e
                  rw [HL.out.2.1] at hg2
                  simp at hg2
                have K1 := Keep.set wr ⟨g, j, none⟩ (.int .u8 63)
                have hH5 := H5.out
                refine ⟨j + 1, by omega, by go_num, ⟨HL.out.1.1.keep K1 (fun k h1 h2 e => by have e : k = g := e; omega), HL.out.1.2.setCell (p := ⟨g, j, none⟩) (by show _ ≤ g; omega) _⟩, K1.blk HL.out.2.1 (fun e => hgb e.symm), Or.inr ⟨g, _, hg1, rfl, heap_set hg2 j _, by simpa using hg3⟩, HL.out.2.2.2.trans (Kept.set hg2 (by decide) (by omega) j _)⟩
              case measure => simp [intOf]; omega
          · have q1 := blk1 HL.out.1.1.2.1
            have q2 := blk1 HL.out.1.1.2.2.1
            have q4 := blk1 HL.out.1.1.2.2.2.2
            have hmb : k ≤ 512 := by omega
            gi_wp2
            have hBz := HL.out.1.1.setAt ((k : Int) + 1)
            have hbz := HL.out.1.2.setCell (p := ⟨w.heap.size + 4, 0, none⟩) (by show w.heap.size ≤ w.heap.size + 4; omega) (.int .i64 ((k : Int) + 1))
            have hKz := HL.out.2.2.2.trans (Kept.set (B := ws.heap.size) (p := fun k => w.heap.size ≤ k) (T := fun t => t = 67) HL.out.1.1.2.2.2.2 (by decide) (by omega) 0 (.int .i64 ((k : Int) + 1)))
            exact ⟨hKz.1, hKz.2, ⟨hBz, hbz⟩, Nat.le_trans hsz2 hKz.1.size⟩
      · have hkf : ((k : Int) == (most : Int)) = false := by simp; omega
        have HL : Hid ((Boxes w bl (some ⟨gg, 0, none⟩) Lb.length cl most true (k : Int) w8 ∧ Below w.heap.size w w8) ∧ w8.heap[bp]? = some (.cells #[.int .i64 La[k].num, .int .i64 La[k].frm, .int .i64 La[k].to, .slice ad La[k].s.size cap] 39 (0, 0)) ∧ Buf w8 ws.heap.size ad La[k].s.size ∧ Kept ws.heap.size (fun k => w.heap.size ≤ k) (fun t => t = 67) W2 w8) := ⟨⟨hB8,hb8⟩,gp8,hd8,Kept.of_below hc⟩
        clear hB8 hb8 gp8 hd8 hc hB2 hb2 gp
        gi_wp2
        clear q0 q1 q2 q4 qp
        gi_loopw [59] (fun v wr => ∃ j : Nat, j ≤ La[k].s.size ∧ v = .int .i64 j ∧ Hid ((Boxes w bl (some ⟨gg, 0, none⟩) Lb.length cl most true (k : Int) wr ∧ Below w.heap.size w wr) ∧ wr.heap[bp]? = some (.cells #[.int .i64 La[k].num, .int .i64 La[k].frm, .int .i64 La[k].to, .slice ad La[k].s.size cap] 39 (0, 0)) ∧ Buf wr ws.heap.size ad La[k].s.size ∧ Kept ws.heap.size (fun k => w.heap.size ≤ k) (fun t => t = 67) W2 wr)) (fun v _ => La[k].s.size - (intOf v).toNat)
        case atStart => exact ⟨0, Nat.zero_le _, rfl, HL.out⟩
        case round =>
          clear HL
          obtain ⟨j, hj, rfl, HL⟩ := hrel
          by_cases hjl : j < La[k].s.size
          · have q := blk4 HL.out.2.1
            rcases HL.out.2.2.1 with h0 | ⟨g, cs, hg1, rfl, hg2, hg3⟩
            · omega
            · have hx : wr.cell? ⟨g, j, none⟩ = some (cs[j]'(by omega)) := by rw [blk_cell hg2]; exact Array.getElem?_eq_getElem _
              have hf := blk_free hg2
              have hgl := blk_lt hg2
              gi_wp2
              go_roundw
              case rel =>
                have hgb : g ≠ bp := fun e => by
                  subst e
                  rw [HL.out.2.1] at hg2
                  simp at hg2
                have K1 := Keep.set wr ⟨g, j, none⟩ (.int .u8 63)
                have hH5 := H5.out
                refine ⟨j + 1, by omega, by go_num, ⟨HL.out.1.1.keep K1 (fun k h1 h2 e => by have e : k = g := e; omega), HL.out.1.2.setCell (p := ⟨g, j, none⟩) (by show _ ≤ g; omega) _⟩, K1.blk HL.out.2.1 (fun e => hgb e.symm), Or.inr ⟨g, _, hg1, rfl, heap_set hg2 j _, by simpa using hg3⟩, HL.out.2.2.2.trans (Kept.set hg2 (by decide) (by omega) j _)⟩
              case measure => simp [intOf]; omega
          · have q1 := blk1 HL.out.1.1.2.1
            have q2 := blk1 HL.out.1.1.2.2.1
            have q4 := blk1 HL.out.1.1.2.2.2.2
            have hmb : most ≤ 512 := by omega
            gi_wp2
            have hBz := HL.out.1.1.setAt ((k : Int) + 1)
            have hbz := HL.out.1.2.setCell (p := ⟨w.heap.size + 4, 0, none⟩) (by show w.heap.size ≤ w.heap.size + 4; omega) (.int .i64 ((k : Int) + 1))
            have hKz := HL.out.2.2.2.trans (Kept.set (B := ws.heap.size) (p := fun k => w.heap.size ≤ k) (T := fun t => t = 67) HL.out.1.1.2.2.2.2 (by decide) (by omega) 0 (.int .i64 ((k : Int) + 1)))
            exact ⟨hKz.1, hKz.2, ⟨hBz, hbz⟩, Nat.le_trans hsz2 hKz.1.size⟩
  case done =>
    rintro D W2 hD ⟨⟨hB2, hb2⟩, _⟩ hdef
    rw [← HLen.out] at hB2
    have q0 := blk2 hB2.1
    have q1 := blk1 hB2.2.1
    have q2 := blk1 hB2.2.2.1
    have q3 := blk1 hB2.2.2.2.1
    have q4 := blk1 hB2.2.2.2.2
    gi_wp2
    have hH5 := H5.out
    have hdef' := (KeepsOthers.setCell W2 ⟨w.heap.size + 3, 0, none⟩ (.bool true)).same D _ hdef rfl
    refine ⟨by simp, .inl ⟨_, _, rfl, run_takeDeferred hdef', ?_⟩⟩
    have gz := heap_set_to hB2.2.2.2.1 (cs' := #[.bool true]) (o := 0) (v := .bool true) (by simp)
    have gz2 := blk1 ((World.putObj_heap_other (o := .deferred none) (show w.heap.size + 3 ≠ D by omega)).trans gz)
    refine ⟨.bool true, by simp [results, Try.f24, go_sem, gz2.1], rfl, (hb2.setCell (p := ⟨w.heap.size + 3, 0, none⟩) (by show w.heap.size ≤ w.heap.size + 3; omega) _).trans (belowK_b (w := w) (Nat.le_refl _) _ D _ _ (by omega) hdef' rfl rfl)⟩
  case stop =>
    rintro D c k W2 hD hk ⟨⟨rfl, rfl, rfl⟩, hB2, hb2⟩ hdef
    have q0 := blk2 hB2.1
    have q1 := blk1 hB2.2.1
    have q2 := blk1 hB2.2.2.1
    have q3 := blk1 hB2.2.2.2.1
    have q4 := blk1 hB2.2.2.2.2
    by_cases hkl : most = Lb.length
    · subst hkl
      gi_wp2
      have hH5 := H5.out
      have hdef' := (KeepsOthers.setCell W2 ⟨w.heap.size + 3, 0, none⟩ (.bool true)).same D _ hdef rfl
      refine ⟨by simp, .inl ⟨_, _, rfl, run_takeDeferred hdef', ?_⟩⟩
      have gz := heap_set_to hB2.2.2.2.1 (cs' := #[.bool true]) (o := 0) (v := .bool true) (by simp)
      have gz2 := blk1 ((World.putObj_heap_other (o := .deferred none) (show w.heap.size + 3 ≠ D by omega)).trans gz)
      refine ⟨.bool true, by simp [results, Try.f24, go_sem, gz2.1], rfl, (hb2.setCell (p := ⟨w.heap.size + 3, 0, none⟩) (by show w.heap.size ≤ w.heap.size + 3; omega) _).trans (belowK_b (w := w) (Nat.le_refl _) _ D _ _ (by omega) hdef' rfl rfl)⟩
    · have hkf : ((most : Int) == (Lb.length : Int)) = false := by simp; omega
      gi_wp2
      have hH5 := H5.out
      have hdef' := (KeepsOthers.setCell W2 ⟨w.heap.size + 3, 0, none⟩ (.bool true)).same D _ hdef rfl
      refine ⟨by simp, .inl ⟨_, _, rfl, run_takeDeferred hdef', ?_⟩⟩
      have gz := heap_set_to hB2.2.2.2.1 (cs' := #[.bool true]) (o := 0) (v := .bool true) (by simp)
      have gz2 := blk1 ((World.putObj_heap_other (o := .deferred none) (show w.heap.size + 3 ≠ D by omega)).trans gz)
      refine ⟨.bool true, by simp [results, Try.f24, go_sem, gz2.1], rfl, (hb2.setCell (p := ⟨w.heap.size + 3, 0, none⟩) (by show w.heap.size ≤ w.heap.size + 3; omega) _).trans (belowK_b (w := w) (Nat.le_refl _) _ D _ _ (by omega) hdef' rfl rfl)⟩

theorem goes_one (e : Wk) (most : Nat) (w : World) (h : e.Ok w) (hm : most ≤ e.La.length) :
    Calls Try.prog 24 #[e.val, .int .i64 (most : Int), .bool false] w fun r w' => r = .returned (.bool true) ∧ Below w.heap.size w w' :=
  goes_any e most false w h hm (fun h => by cases h)
theorem goes_both (e : Wk) (most : Nat) (tw : Bool) (w : World) (h : e.Ok w) (hm : most ≤ e.La.length) :
    Calls Try.prog 24 #[e.val, .int .i64 (most : Int), .bool tw] w fun r w' => r = .returned (.bool true) ∧ Below w.heap.size w w' :=
  goes_any e most tw w h hm (fun _ W hW => goes_one e e.Lb.length W hW (by rw [hW.len]; exact Nat.le_refl _))
end Go.Proofs.Ytepilaejfepicaa
