/-
  TopMap: every Put, Delete, Get, Scan and Fold at a node, whatever keys and ranges they have, answers what a plain sorted map of what was written answers; for every configuration and every list of commands.
-/
import Derived.Test.YtdflmplmpjghdaaGreatDoorQdo
import Derived.Test.YtdflmplmpjghdaaGreatDoorQpla
import Derived.Test.YtdflmplmpjghdaaGreatDoorQste
import Derived.Test.YtdflmplmpjghdaaGreatDoorBulk
import Derived.Test.YtdflmplmpjghdaaGreatDoorStir
import Derived.ProofKit
import Derived.LaidMore
import Derived.OpenShut
import Derived.Stop.Joined
import Derived.Test.YtdflmplmpjghdaaGreatDoorCards
import Derived.Test.YtdflmplmpjghdaaGreatDoorTie
import Derived.SevenTiedAt
namespace Go.Proofs.YtdflmplmpjghdaaGreatDoor
open Go.ChangeShapes Go.WideShapes Go.ChangeAt Go.RowKit Go.Deep Go.Shelf
set_option linter.unusedVariables false
set_option linter.unusedSimpArgs false
set_option maxRecDepth 100000

/-- What Map answers. -/
def WmOf (w : World) (L : List Ent) (x : Ending) (w' : World) : Prop := ∃ oa cap, x = .returned (.slice oa L.length cap) ∧ Es w' w.heap.size (.slice oa L.length cap) L ∧ Below w.heap.size w w'
set_option maxRecDepth 100000 in
set_option maxHeartbeats 4000000 in
theorem wmap_any (wb bb : Nat) (v : Value) (L : List NR) (k : Nat) (hk : k < L.length) (r : NR) (hr : L[k] = r) (c0 c1 c2 c3 node clk : Int) (M : Nat) (t : Tr) (w : World) (h : WAt w wb bb v L) (hn : NdAt w r.nb r.sb r.db c0 c1 c2 c3) (hs : StAt w r.sb r.tb r.mb node clk M t) (ht : t.size ≤ 1000000) :
    Calls Tryz.prog 11 #[.pointer (some ⟨wb, 0, none⟩), .int .i64 (k : Int)] w (WmOf w (entsT t)) := by
  obtain ⟨oa, cap, rfl, hrow⟩ := h.form
  obtain ⟨g, rfl, hg, hgl⟩ := hrow k hk
  rw [hr] at hg
  have q := blk2 h.blk
  have hkl : (k : Int) < (L.length : Int) := by omega
  have H := Lib.hid (And.intro h (And.intro hn hs))
  have hdec : Hid (decide ((0 : Int) ≤ (k : Int) ∧ (k : Int) < (L.length : Int)) = true) := by show _ = _; simp [hk]
  clear h hn hs hrow hr
  go_enter Tryz.func11, Tryz.ntmps11
  go_wp2_with fail
  refine (has_any wb bb _ L (k : Int) _ H.out.1).mono ?_
  rintro e wx ⟨rfl, rfl⟩
  rw [hdec.out]
  go_wp2_with fail
  refine (nmap_any r.nb r.db r.sb r.tb r.mb c0 c1 c2 c3 node clk M t _ H.out.2.1 H.out.2.2 ht).mono ?_
  rintro e w2 ⟨v2, rfl, ho, hb⟩
  have hlen : (entsT t).length = t.size := by simp [entsT, Tr.rows_length]
  rw [← hlen] at ho
  clear hlen
  obtain ⟨oa2, cap2, rfl, _⟩ := es_form ho
  have HO := Lib.hid (And.intro ho hb)
  clear ho hb
  go_wp2_with fail
  go_ret
  exact ⟨oa2, cap2, rfl, HO.out.1, HO.out.2⟩
end Go.Proofs.YtdflmplmpjghdaaGreatDoor
namespace Go.Proofs.YtdflmplmpjghdaaGreatDoor
open Go.ChangeShapes Go.WideShapes Go.ChangeAt Go.RowKit Go.Deep Go.Shelf
set_option linter.unusedVariables false
set_option linter.unusedSimpArgs false
set_option maxRecDepth 100000
attribute [local go_sem] Oper.semAt_some

theorem step_any (wb bb pb : Nat) (v : Value) (r0 r1 : NR) (c0 c1 c2 c3 clk : Int) (M : Nat) (t : Tr) (pv : Value) (n : Int) (E : List Ent) (k pr nn : Int) (key val lo hi : ByteArray) (op : Bool) (w : World) (h : LwAt wb bb pb v r0 r1 c0 c1 c2 c3 clk M t pv n E w) (hl : Link clk n t E) (hn : 0 ≤ n ∧ n ≤ 100000) (hM : M ≤ 1000000000) (hp0 : 0 < pb) (hk1 : 1 ≤ k) (hk2 : k ≤ 5) (hk : key.size ≤ 140737488351232) (hv : val.size ≤ 140737488351232) (h1 : lo.size ≤ 140737488351232) (h2 : hi.size ≤ 140737488351232) :
    Calls Tryz.prog 9 #[.pointer (some ⟨pb, 0, none⟩), .pointer (some ⟨wb, 0, none⟩), opA k (0 : Nat) pr nn key val lo hi op] w (StpOf w wb bb pb v r0 r1 c0 c1 c2 c3 clk M t pv n E) := by
  by_cases e1 : k = 1
  · subst e1; exact step_put wb bb pb v r0 r1 c0 c1 c2 c3 clk M t pv n E pr nn key val lo hi op w h hl hn hM hp0 hk hv
  by_cases e2 : k = 2
  · subst e2; exact step_del wb bb pb v r0 r1 c0 c1 c2 c3 clk M t pv n E pr nn key val lo hi op w h hl hn hM hp0 hk hv
  by_cases e3 : k = 3
  · subst e3; exact step_get wb bb pb v r0 r1 c0 c1 c2 c3 clk M t pv n E pr nn key val lo hi op w h hl hn hM hp0 hk
  by_cases e4 : k = 4
  · subst e4; exact step_scan wb bb pb v r0 r1 c0 c1 c2 c3 clk M t pv n E pr nn key val lo hi op w h hl hn hM hp0 h1 h2
  · obtain rfl : k = 5 := by omega
    exact step_fold wb bb pb v r0 r1 c0 c1 c2 c3 clk M t pv n E pr nn key val lo hi op w h hl hn hM hp0 h1 h2
/-- Between two commands. -/
structure TmAt (w : World) (wb bb pb : Nat) (v : Value) (r0 r1 : NR) (c0 c1 c2 c3 clk : Int) (M : Nat) (t : Tr) (pv : Value) (n : Int) (E : List Ent) (wr : World) : Prop where
  lw : LwAt wb bb pb v r0 r1 c0 c1 c2 c3 clk M t pv n E wr
  ln : Link clk n t E
  bel : Below w.heap.size w wr
theorem TmAt.below {w wr w' : World} {wb bb pb : Nat} {v : Value} {r0 r1 : NR} {c0 c1 c2 c3 clk : Int} {M : Nat} {t : Tr} {pv : Value} {n : Int} {E : List Ent} (h : TmAt w wb bb pb v r0 r1 c0 c1 c2 c3 clk M t pv n E wr) (hb : Below wr.heap.size wr w') : TmAt w wb bb pb v r0 r1 c0 c1 c2 c3 clk M t pv n E w' := ⟨h.lw.below hb, h.ln, h.bel.trans (hb.mono h.bel.size)⟩
set_option maxRecDepth 100000 in
set_option maxHeartbeats 16000000 in
theorem topm_walk (c0 c1 c2 c3 : Int) (oa : Option Addr) (cap : Nat) (l : List OpV) (w : World) (hL : Lanes w) (hA : Ops w oa l) (hl : l.length * 104 ≤ 140737488351232) :
    Calls Tryz.prog 3 #[cfV c0 c1 c2 c3, .slice oa l.length cap] w fun e w' => e = .returned (.bool true) ∧ Below w.heap.size w w' := by
  have hb0 := below_alloc_self w (.cells #[.int .i64 c0, .int .i64 c1, .int .i64 c2, .int .i64 c3] cfgT (0, 0))
  have g0 : (w.alloc (.cells #[.int .i64 c0, .int .i64 c1, .int .i64 c2, .int .i64 c3] cfgT (0, 0))).heap[w.heap.size]? = some (.cells #[.int .i64 c0, .int .i64 c1, .int .i64 c2, .int .i64 c3] cfgT (0, 0)) := heap_new rfl
  have hAa : Ops (w.alloc (.cells #[.int .i64 c0, .int .i64 c1, .int .i64 c2, .int .i64 c3] cfgT (0, 0))) oa l := fun k h => by
    obtain ⟨b, o, e1, e2, e3⟩ := hA k h
    exact ⟨b, o, e1, e2.below hb0, e3⟩
  have HL := Lib.hid (And.intro hL (And.intro hA (And.intro hb0 (And.intro g0 hAa))))
  have hpos := hL.lt
  clear hL hA hb0 g0 hAa
  go_enter Tryz.func3, Tryz.ntmps3
  go_wp2_with fail
  refine (bulk_any oa cap l _ HL.out.2.2.2.2 hl).mono ?_
  rintro e w1 ⟨t1, rfl, ht1, hb1⟩
  have hbw1 := HL.out.2.2.1.trans (hb1.mono HL.out.2.2.1.size)
  cases t1 with
  | true =>
    clear ht1
    go_wp2_with fail
    go_ret
    exact ⟨rfl, hbw1⟩
  | false =>
    have hl4 := ht1 rfl
    have g1 := blk_below HL.out.2.2.2.1 hb1
    have q := blk4 g1
    have H1 := Lib.hid (And.intro hbw1 g1)
    clear ht1 hb1 hbw1 g1
    go_wp2_with fail
    refine (right_any 2 c0 c1 c2 c3 (by omega) (by omega) _).mono ?_
    rintro e w2 ⟨b, rfl, hok, hb2⟩
    cases b with
    | false =>
      go_wp2_with fail
      go_ret
      exact ⟨rfl, H1.out.1.trans (hb2.mono H1.out.1.size)⟩
    | true =>
      have hC := hok rfl
      have g2 := blk_below H1.out.2 hb2
      have q := blk4 g2
      have H2 := Lib.hid (And.intro (H1.out.1.trans (hb2.mono H1.out.1.size)) hC)
      clear hok hb2 g2 hC H1
      go_wp2_with fail
      refine (wnew_any 2 c0 c1 c2 c3 H2.out.2 (by omega) (by omega) _ (HL.out.1.below H2.out.1 HL.out.1.lt)).mono ?_
      rintro e w3 ⟨wb, bb, v, L, rfl, hlen, hw, hbag, hall, hap, hnew, hwb, hbb, hrow, hb3⟩
      obtain ⟨r0, r1, rfl⟩ : ∃ r0 r1, L = [r0, r1] := by
        match L, hlen with
        | [a, b], _ => exact ⟨a, b, rfl⟩
      have hb3w := H2.out.1.trans (hb3.mono H2.out.1.size)
      have hba := below_alloc_self w3 (.cells #[.slice none 0 0, .int .i64 0] plainT (0, 0))
      obtain ⟨n0, s0, _⟩ := hall.below hba 0 (by simp)
      obtain ⟨n1, s1, _⟩ := hall.below hba 1 (by simp)
      have hap2 : NR.apart r0 r1 := (List.pairwise_cons.1 hap).1 r1 (by simp)
      have H4 : Hid (TmAt w wb bb w3.heap.size v r0 r1 c0 c1 c2 c3 0 0 .nil (.slice none 0 0) 0 [] (w3.alloc (.cells #[.slice none 0 0, .int .i64 0] plainT (0, 0)))) := ⟨⟨hw.below hba, n0, s0, n1, s1, hap2, ⟨heap_new rfl, own_nil _ _⟩⟩, ⟨rfl, rfl, Sok.nil, fun e he => by cases he⟩, hb3w.trans (hba.mono hb3w.size)⟩
      have hnr := hnew r0 (by simp)
      have hw2s := H2.out.1.size
      have hw3s := hb3w.size
      have HN : Hid (w.heap.size ≤ r0.sb ∧ w.heap.size ≤ r0.tb ∧ w.heap.size ≤ r0.mb ∧ w.heap.size ≤ w3.heap.size) := by refine ⟨?_, ?_, ?_, ?_⟩ <;> omega
      obtain ⟨pb, hpb⟩ : ∃ x, x = w3.heap.size := ⟨_, rfl⟩
      rw [← hpb] at H4 HN
      have hpb0 : 0 < pb := by omega
      clear hw hbag hall hap hnew hrow hb3 hb3w hba n0 s0 n1 s1 hap2 hnr hlen q
      go_wp2_with fail
      rw [← hpb]
      generalize w3.alloc (.cells #[.slice none 0 0, .int .i64 0] plainT (0, 0)) = W0 at *
      clear hpb
      go_loopw [8] (fun s wr => ∃ (k : Nat) (clk : Int) (M : Nat) (t : Tr) (pv : Value) (n : Int) (E : List Ent), k ≤ l.length ∧ s = .int .i64 (k : Int) ∧ Hid (TmAt w wb bb pb v r0 r1 c0 c1 c2 c3 clk M t pv n E wr) ∧ 0 ≤ n ∧ n ≤ k ∧ M ≤ 200 * k) (fun s _ => l.length - (intOf s).toNat)
      case atStart => exact ⟨0, 0, 0, .nil, _, 0, [], Nat.zero_le _, rfl, H4, by omega, by omega, by omega⟩
      case round =>
        clear H4
        obtain ⟨k, clk, M, t, pv, n, E, hk, rfl, HT, hn0, hn1, hM⟩ := hrel
        by_cases hlt : k < l.length
        · obtain ⟨b, o, rfl, he, hs⟩ := HL.out.2.1 k hlt
          obtain ⟨⟨x1, x2, x3, x4, x5, x6, x7, x8, x9⟩, hen⟩ : ∃ e, e = l[k] := ⟨_, rfl⟩
          rw [← hen] at he hs
          have HE := Lib.hid (And.intro he hs)
          have q := he.below HT.out.bel
          unfold OpAt at q
          simp only at q
          have hbo := below_alloc_self wr (opO x1 0 x3 x4 x5 x6 x7 x8 x9)
          have HT2 := Lib.hid (HT.out.below hbo)
          clear he hs hen hbo
          by_cases hr : 1 ≤ x1 ∧ x1 ≤ 5
          · obtain ⟨hr1, hr2⟩ := hr
            go_wp2_with fail
            obtain ⟨s1, s2, s3, s4, _⟩ := HE.out.2
            simp only at s1 s2 s3 s4
            refine (step_any wb bb pb v r0 r1 c0 c1 c2 c3 clk M t pv n E x1 x3 x4 x5 x6 x7 x8 x9 _ HT2.out.lw HT2.out.ln (by omega) (by omega) hpb0 hr1 hr2 s1 s2 s3 s4).mono ?_
            rintro x w5 ⟨rfl, clk', M', t', pv', n', E', hM', hn', hn'', hlw, hln, hkp⟩
            have HT3 : Hid (TmAt w wb bb pb v r0 r1 c0 c1 c2 c3 clk' M' t' pv' n' E' w5) := ⟨hlw, hln, HT2.out.bel.trans (hkp.below HT2.out.bel.size fun g hg => by
              have := HN.out
              rcases hg with (rfl | rfl | rfl) | rfl <;> omega)⟩
            clear hlw hln hkp q
            go_wp2_with fail
            go_roundw
            case rel => exact ⟨k + 1, clk', M', t', pv', n', E', by omega, by go_num, HT3, by omega, by omega, by omega⟩
            case measure => simp [intOf]; omega
          · by_cases hx1 : x1 < 1
            · go_wp2_with fail
              go_roundw
              case rel => exact ⟨k + 1, clk, M, t, pv, n, E, by omega, by go_num, HT2, by omega, by omega, by omega⟩
              case measure => simp [intOf]; omega
            · have hx2 : 1 ≤ x1 := by omega
              have hx3 : 5 < x1 := by omega
              go_wp2_with fail
              go_roundw
              case rel => exact ⟨k + 1, clk, M, t, pv, n, E, by omega, by go_num, HT2, by omega, by omega, by omega⟩
              case measure => simp [intOf]; omega
        · obtain ⟨oap, capp, rfl, _⟩ := es_form HT.out.lw.pat.row
          have hEe : entsT t = E := entsT_holds HT.out.ln.hol
          have hEn : E.length ≤ 256 := by rw [← HT.out.ln.hol.size]; exact HT.out.ln.sok.size
          have hts : t.size ≤ 256 := HT.out.ln.sok.size
          have HEe := Lib.hid hEe
          clear hEe
          go_wp2_with fail
          have hSt : Stable (fun w5 : World => (Below wr.heap.size wr w5)) := by repeat (first | exact stable_ext _ | exact stable_blk _ _ | exact stable_true | (refine stable_bel ?_ ; (focus (first | (simp [World.size_setCell] ; done) | (simp [World.setCell] ; done)))) | refine Stable.and ?_ ?_)
          refine wp_region_x [0, 2, 3, 4, 5, 1, 6, 7, 8, 9, 10, 11, 12, 13] [0, 4, 0, 0, 0, 1, 4, 0, 0, 4, 0, 0, 0, 0] (fun w5 => (Below wr.heap.size wr w5)) (by kernel_rfl) (by kernel_rfl) ?_ ?_
          · (first | trivial | (repeat (first | (with_reducible assumption) | (with_reducible exact Below.refl _ _) | (with_reducible refine heap_drew ?_) | (focus ((with_reducible refine heap_new ?_) ; simp ; done)) | (with_reducible apply heap_set_to) | (focus ((with_reducible refine heap_set_ne ?_ ?_ _) ; rotate_left ; (focus (first | omega | (simp ; done) | (simp ; omega))))) | (with_reducible refine heap_old ?_) | (with_reducible refine Below.drew ?_) | (with_reducible refine below_set ?_ _ _) | (focus ((with_reducible refine Below.setCell ?_ ?_ _) ; rotate_left ; (focus (first | omega | (simp ; done) | (simp ; omega))))) | (focus ((with_reducible refine Below.alloc ?_ ?_ _) ; rotate_left ; (focus (first | omega | (simp ; done) | (simp ; omega))))) | (with_reducible rfl) | (focus (simp ; done)))))
          simp only [List.map_cons, List.map_nil, List.getD_cons_zero, List.getD_cons_succ]
          (refine x_pure rfl _ ?_ rfl (by simp) ?_ ?_ ; rotate_left ; · (intro w5 K hK ; go_wp2_with fail ; exact rfl))
          simp only [Act.put, List.setIfInBounds_toArray, List.set_cons_succ, List.set_cons_zero]
          (refine x_pure rfl _ ?_ rfl (by simp) ?_ ?_ ; rotate_left ; · (intro w5 K hK ; go_wp2_with fail ; exact rfl))
          simp only [Act.put, List.setIfInBounds_toArray, List.set_cons_succ, List.set_cons_zero]
          (refine x_pure rfl _ ?_ rfl (by simp) ?_ ?_ ; rotate_left ; · (intro w5 K hK ; go_wp2_with fail ; exact rfl))
          simp only [Act.put, List.setIfInBounds_toArray, List.set_cons_succ, List.set_cons_zero]
          (refine x_pure rfl _ ?_ rfl (by simp) ?_ ?_ ; rotate_left ; · (intro w5 K hK ; go_wp2_with fail ; exact rfl))
          simp only [Act.put, List.setIfInBounds_toArray, List.set_cons_succ, List.set_cons_zero]
          (refine x_quiet rfl hSt (fun _ h => h) _ ?_ rfl (by simp) ?_ ?_ ; rotate_left ; · (intro w5 hC K hK ; have hb := hC ; have qp := blk2 (blk_below HT.out.lw.pat.blk hb) ; go_wp2_with fail ; refine ⟨?_, Below.refl _ _⟩ ; exact rfl))
          simp only [Act.put, List.setIfInBounds_toArray, List.set_cons_succ, List.set_cons_zero]
          refine x_make rfl ?_
          intro w5 hD K hK ; have hb := hD ; have qp := blk2 (blk_below HT.out.lw.pat.blk hb)
          go_wp2_with fail
          refine (wmap_any wb bb v [r0, r1] 0 (by simp) r0 rfl c0 c1 c2 c3 0 clk M t w5 (HT.out.lw.wat.below hb) (blk_below HT.out.lw.n0 hb) (HT.out.lw.s0.below hb) (by omega)).mono ?_
          rw [HEe.out]
          rintro x6 w6 ⟨oa6, cap6, rfl, ho6, hb6⟩
          refine hK _ _ hb6 ?_
          have H6 := Lib.hid (And.intro ho6 (hb.trans (hb6.mono hb.size)))
          clear ho6 hb6 hb qp hK hSt
          try simp only [Act.put, List.setIfInBounds_toArray, List.set_cons_succ, List.set_cons_zero]
          refine x_make rfl ?_
          intro wy hyb K hK
          go_wp2_with fail
          refine (same_any _ 1 _ _ E wy (own_below H6.out.1 hyb) (own_below HT.out.lw.pat.row (H6.out.2.trans (hyb.mono H6.out.2.size))) (by omega)).mono ?_
          rintro x7 w7 ⟨rfl, hb7⟩
          refine hK _ _ hb7 ?_
          have H7 := Lib.hid (H6.out.2.trans ((hyb.trans (hb7.mono hyb.size)).mono H6.out.2.size))
          clear hb7 hyb hK
          try simp only [Act.put, List.setIfInBounds_toArray, List.set_cons_succ, List.set_cons_zero]
          (refine x_pure rfl _ ?_ rfl (by simp) ?_ ?_ ; rotate_left ; · (intro w5 K hK ; go_wp2_with fail ; exact rfl))
          simp only [Act.put, List.setIfInBounds_toArray, List.set_cons_succ, List.set_cons_zero]
          first | ((with_reducible refine x_skip ?_ ?_) ; (focus rfl)) | (refine x_pure rfl _ ?_ rfl (by simp) ?_ ?_ ; rotate_left ; · (intro w5 K hK ; go_wp2_with fail ; exact rfl))
          simp only [Act.put, List.setIfInBounds_toArray, List.set_cons_succ, List.set_cons_zero]
          refine x_make rfl ?_
          intro wz hzb K hK
          have H8 := Lib.hid (H7.out.trans (hzb.mono H7.out.size))
          clear hzb
          go_wp2_with fail
          refine (wmap_any wb bb v [r0, r1] 1 (by simp) r1 rfl c0 c1 c2 c3 1 0 0 .nil wz (HT.out.lw.wat.below H8.out) (blk_below HT.out.lw.n1 H8.out) (HT.out.lw.s1.below H8.out) (Nat.zero_le _)).mono ?_
          rintro x9 w9 ⟨oa9, cap9, rfl, ho9, hb9⟩
          refine hK _ _ hb9 ?_
          have H9 := Lib.hid (H8.out.trans (hb9.mono H8.out.size))
          rw [show (entsT .nil) = [] from rfl]
          clear ho9 hb9 hK
          try simp only [Act.put, List.setIfInBounds_toArray, List.set_cons_succ, List.set_cons_zero]
          first | ((with_reducible refine x_skip ?_ ?_) ; (focus rfl)) | (refine x_pure rfl _ ?_ rfl (by simp) ?_ ?_ ; rotate_left ; · (intro w5 K hK ; go_wp2_with fail ; exact rfl))
          simp only [Act.put, List.setIfInBounds_toArray, List.set_cons_succ, List.set_cons_zero]
          first | ((with_reducible refine x_skip ?_ ?_) ; (focus rfl)) | (refine x_pure rfl _ ?_ rfl (by simp) ?_ ?_ ; rotate_left ; · (intro w5 K hK ; go_wp2_with fail ; exact rfl))
          simp only [Act.put, List.setIfInBounds_toArray, List.set_cons_succ, List.set_cons_zero]
          (refine x_pure rfl _ ?_ rfl (by simp) ?_ ?_ ; rotate_left ; · (intro w5 K hK ; go_wp2_with fail ; exact rfl))
          simp only [Act.put, List.setIfInBounds_toArray, List.set_cons_succ, List.set_cons_zero]
          (refine x_pure rfl _ ?_ rfl (by simp) ?_ ?_ ; rotate_left ; · (intro w5 K hK ; go_wp2_with fail ; exact rfl))
          simp only [Act.put, List.setIfInBounds_toArray, List.set_cons_succ, List.set_cons_zero]
          first | refine x_nil ?_ | refine x_end ?_
          rintro wu hub
          have HF := Lib.hid (HT.out.bel.trans ((H9.out.trans (hub.mono H9.out.size)).mono HT.out.bel.size))
          clear hub
          go_wp2_with fail
          go_ret
          exact ⟨rfl, HF.out⟩
end Go.Proofs.YtdflmplmpjghdaaGreatDoor
namespace Go.Proofs.YtdflmplmpjghdaaGreatDoor
open Go.ChangeShapes Go.WideShapes Go.ChangeAt Go.WideMaps Go.WideElems Go.RowKit
set_option linter.unusedVariables false
set_option linter.unusedSimpArgs false
set_option maxRecDepth 100000

theorem gLanes : Tryz.prog.globalNamed "tideline/mix.lanes" = some 0 := by kernel_rfl
theorem tLanes : (Tryz.prog.globals[0]?).map (·.type) = some 171 := by kernel_rfl

/-- The row's list. -/
abbrev laidL : List (String × DataW Unit) := [("tideline/mix.lanes", Rows.laid_tideline_mix_lanes)]

/-- The door's own heap meets the condition. -/
theorem door_met (os : Os) (args : Array Value) : laidMetH Tryz.prog laidL ((World.doorLaid Tryz.prog 400 os).forCall (fun _ _ => 0) ⟨#[], args, []⟩).memory :=
  laidMetH_of_parts3 (fuel := 8) (laidMet_of_run' 8 (by kernel_rfl) (by kernel_rfl)) (by kernel_rfl) (by kernel_rfl)

section
variable {H : Type} {enc : TypeId × Value → H} {w : World} {base : Nat} {spare : Nat → Bool} {held : Bool} {fuel : Nat}

theorem trod_lane {cs : List Value} {x : DataW H × List MemPlace} (h : DataW.trod enc Tryz.prog w base spare held fuel 170 cs = some x) :
    ∃ a b c, cs = [.int .u64 a, .int .u64 b, .int .i64 c] ∧ x.1 = .agg [.lit (.int .u64 a), .lit (.int .u64 b), .lit (.int .i64 c)] := by
  obtain ⟨xs, m, _, hx, hl, hn, hi⟩ := DataW.trod_struct Tryz.underlying170 h
  have hc : Tryz.prog.cellsOf 170 = 3 := by kernel_rfl
  have he : Tryz.prog.cellsOf 45 = 1 := by kernel_rfl
  have hf : Tryz.prog.cellsOf 3 = 1 := by kernel_rfl
  rw [hc] at hl
  match cs, hl with
  | [c0, c1, c2], _ =>
    have hn2 : xs.length = 3 := hn
    have h0 : DataW.trod enc Tryz.prog w base spare held m 45 (([c0, c1, c2].drop 0).take (Tryz.prog.cellsOf 45)) = xs[0]? := hi 0 _ rfl
    have h1 : DataW.trod enc Tryz.prog w base spare held m 45 (([c0, c1, c2].drop 1).take (Tryz.prog.cellsOf 45)) = xs[1]? := hi 1 _ rfl
    have h2 : DataW.trod enc Tryz.prog w base spare held m 3 (([c0, c1, c2].drop 2).take (Tryz.prog.cellsOf 3)) = xs[2]? := hi 2 _ rfl
    rw [he] at h0 h1
    rw [hf] at h2
    match xs, hn2, hx, h0, h1, h2 with
    | [x0, x1, x2], _, hx, h0, h1, h2 =>
      obtain ⟨a, ha, a2, _⟩ := DataW.trod_int Tryz.underlying45 (show _ = some x0 from h0)
      obtain ⟨b, hb, b2, _⟩ := DataW.trod_int Tryz.underlying45 (show _ = some x1 from h1)
      obtain ⟨c, hc, c2, _⟩ := DataW.trod_int Tryz.underlying3 (show _ = some x2 from h2)
      simp at ha hb hc
      refine ⟨a, b, c, by rw [ha, hb, hc], ?_⟩
      rw [hx, a2, b2, c2]; rfl
end

/-- What the condition gives the walks. -/
theorem lanes_of_laid {W : World} (h : laidMetH Tryz.prog laidL W) : Lanes W := by
  rw [MakeChecks.laidMetH_plain _ _ _ (by kernel_rfl)] at h
  obtain ⟨ps, ⟨g0, t0, cs0, f0, p0, q0, hg0, ht0, hv0, hd0, _, _⟩, _, _⟩ := h
  obtain rfl := Option.some.inj (gLanes.symm.trans hg0)
  obtain rfl := Option.some.inj (tLanes.symm.trans ht0)
  obtain ⟨xs, m1, _, hx1, hlen, hn2, hel⟩ := DataW.trod_array Tryz.underlying171 hd0
  have c3 : Tryz.prog.cellsOf 170 = 3 := by kernel_rfl
  have c6 : Tryz.prog.cellsOf 171 = 6 := by kernel_rfl
  rw [c6] at hlen
  have h0 := hel 0 (by decide)
  have h1 := hel 1 (by decide)
  rw [c3] at h0 h1
  obtain ⟨l⟩ := cs0
  match l, hlen with
  | [v0, v1, v2, v3, v4, v5], _ =>
    match xs, hn2, hx1, h0, h1 with
    | [x0, x1], _, hx1, h0, h1 =>
      obtain ⟨a, b, c, e1, e2⟩ := trod_lane (show _ = some x0 from h0)
      obtain ⟨a', b', c', e3, e4⟩ := trod_lane (show _ = some x1 from h1)
      simp at e1 e3
      have hx : Rows.laid_tideline_mix_lanes = DataW.agg [x0.1, x1.1] := congrArg Prod.fst hx1
      rw [e2, e4] at hx
      simp only [Rows.laid_tideline_mix_lanes, DataW.agg.injEq, List.cons.injEq, DataW.lit.injEq, Lit.int.injEq, true_and, and_true] at hx
      obtain ⟨⟨rfl, rfl, rfl⟩, rfl, rfl, rfl⟩ := hx
      obtain ⟨rfl, rfl, rfl⟩ := e1
      obtain ⟨rfl, rfl, rfl⟩ := e3
      have hv := fun j => World.var?_cell hg0 hv0 j
      exact ⟨by simpa using hv 0, by simpa using hv 1, by simpa using hv 2, by simpa using hv 3, by simpa using hv 4, by simpa using hv 5⟩
end Go.Proofs.YtdflmplmpjghdaaGreatDoor
namespace Go.Proofs.YtdflmplmpjghdaaGreatDoor
open Go.ChangeShapes Go.WideShapes Go.ChangeAt Go.WideMaps Go.WideElems Go.RowKit Go.Deep
set_option linter.unusedVariables false
set_option linter.unusedSimpArgs false
set_option maxRecDepth 100000

section
variable {H : Type} {enc : TypeId × Value → H} {w : World} {base : Nat} {spare : Nat → Bool} {held : Bool}
theorem open_cfg {v : Value} {d : DataW H} {p : List MemPlace} (hv : Value.okWide Tryz.prog w .any base 23 v) (h : DataW.Trod enc Tryz.prog w 0 spare held 23 v d p) :
    ∃ c0 c1 c2 c3, v = cfV c0 c1 c2 c3 := by
  obtain ⟨cs, rfl, hsz⟩ := okWide_struct Tryz.underlying23 hv
  obtain ⟨fuel, hf⟩ := h
  obtain ⟨xs, m, _, hxd, hl, hn, hi⟩ := DataW.trod_struct Tryz.underlying23 hf
  have hc : Tryz.prog.cellsOf 23 = 4 := by kernel_rfl
  have hei : Tryz.prog.cellsOf 3 = 1 := by kernel_rfl
  rw [hc] at hl
  obtain ⟨l⟩ := cs
  match l, hl with
  | [a0, a1, a2, a3], _ =>
    have hn2 : xs.length = 4 := hn
    have h0 : DataW.trod enc Tryz.prog w 0 spare held m 3 (([a0, a1, a2, a3].drop 0).take (Tryz.prog.cellsOf 3)) = xs[0]? := hi 0 _ rfl
    have h1 : DataW.trod enc Tryz.prog w 0 spare held m 3 (([a0, a1, a2, a3].drop 1).take (Tryz.prog.cellsOf 3)) = xs[1]? := hi 1 _ rfl
    have h2 : DataW.trod enc Tryz.prog w 0 spare held m 3 (([a0, a1, a2, a3].drop 2).take (Tryz.prog.cellsOf 3)) = xs[2]? := hi 2 _ rfl
    have h3 : DataW.trod enc Tryz.prog w 0 spare held m 3 (([a0, a1, a2, a3].drop 3).take (Tryz.prog.cellsOf 3)) = xs[3]? := hi 3 _ rfl
    rw [hei] at h0 h1 h2 h3
    have e : ∀ j (hj : j < 4), xs[j]? = some (xs[j]'(by omega)) := fun j hj => List.getElem?_eq_getElem (by omega)
    obtain ⟨b0, i0, _⟩ := DataW.trod_int Tryz.underlying3 (h0.trans (e 0 (by omega)))
    obtain ⟨b1, i1, _⟩ := DataW.trod_int Tryz.underlying3 (h1.trans (e 1 (by omega)))
    obtain ⟨b2, i2, _⟩ := DataW.trod_int Tryz.underlying3 (h2.trans (e 2 (by omega)))
    obtain ⟨b3, i3, _⟩ := DataW.trod_int Tryz.underlying3 (h3.trans (e 3 (by omega)))
    simp at i0 i1 i2 i3
    exact ⟨b0, b1, b2, b3, by rw [i0, i1, i2, i3]⟩
end
set_option maxRecDepth 100000 in
theorem topm_lifted (os : Os) (started : os.Started) (H : Type) (enc : TypeId × Value → H) :
    ReturnsInHanded {} Tryz.checked os 3 .any (fun w args => (Rows.topMapSpec.pre enc Tryz.prog Tryz.f3 Rows.topMapRow.domain false w args ∧ laidMetH Tryz.prog laidL w) ∧ sizedMet enc Tryz.prog Tryz.f3 (OpenSpec.ofChange Rows.topMapSpec) false w args)
      (Rows.topMapSpec.post enc Tryz.prog Tryz.f3 false true false false) := by
  refine returnsInHanded_of_change_and (C := Tryz.checked) (X := fun w _ => laidMetH Tryz.prog laidL w) (fun _ _ _ hh h => h.of_heap hh) own started (by kernel_rfl) Tryz.func3
    (ChangeSpec.witness_shaped (enc := enc) (C := Tryz.checked) (os := os) (X := fun w _ => laidMetH Tryz.prog laidL w) false (World.doorLaid Tryz.prog 400 os) #[.agg #[.int .i64 0, .int .i64 0, .int .i64 0, .int .i64 0], .slice none 0 0] 8 rfl (World.shaped_of_RefB (by kernel_rfl) (by kernel_rfl)) (by kernel_rfl) (by kernel_rfl) (by kernel_rfl) (door_met os _)) ?_
  intro W base args ds gs before hval0 hW hcnd hsz0 hL _
  have hval : ∀ (j : Nat) t v, Tryz.f3.params[j]? = some t → args[j]? = some v → Value.okWide Tryz.prog W .any base t v := hval0
  have hsz : (DataW.weightsEach Tryz.prog (Tryz.f3.params.toList ++ Rows.topMapSpec.plain.varTypes Tryz.prog) (ds ++ gs)).all (· ≤ reachBytes) = true := hsz0
  have hW' := hW
  obtain ⟨p, q, hA0, hV, rfl, hfz, hnd⟩ := hW
  have hA : DataW.TrodAll enc Tryz.prog W 0 (fun _ => true) true Tryz.f3.params.toList args.toList ds p := hA0
  rw [Tryz.params3] at hA hval hsz
  obtain ⟨v0, vs0, d0, ds0, p0, q0, hargs, rfl, rfl, h0, r0⟩ := trodAll_cons hA
  obtain ⟨v1, vs1, d1, ds1, p1, q1, rfl, rfl, rfl, h1, r1⟩ := trodAll_cons r0
  obtain ⟨rfl, rfl, rfl⟩ := trodAll_nil r1
  obtain rfl : args = #[v0, v1] := by apply Array.toList_inj.1; exact hargs
  have w1 : ∀ n ∈ d1.weights Tryz.prog 24, n ≤ reachBytes := fun n hn => by
    have := List.all_eq_true.1 hsz n (DataW.weights_mem_each (j := 1) (t := 24) (d := d1) rfl rfl n hn)
    simpa using this
  obtain ⟨c0, c1, c2, c3, rfl⟩ := open_cfg (hval 0 _ v0 rfl rfl) h0
  obtain ⟨oa, ca, l, rfl, na, hl, hA1⟩ := open_ops (hval 1 _ v1 rfl rfl) h1 w1
  refine (topm_walk c0 c1 c2 c3 oa ca l W (lanes_of_laid hL) hA1 hl).mono fun e W' ⟨he, hg⟩ => ?_
  exact ⟨_, he, law_post laidOut (by kernel_rfl) (by kernel_rfl) Tryz.underlying4 rfl hW' rfl hg⟩

theorem topm_holds : Rows.TopMapSaid :=
  OpenClaim.holds_of_wide 3 Tryz.f3 rfl rfl rfl rfl rfl rfl rfl ⟨rfl, rfl, rfl, rfl, rfl⟩ rfl rfl rfl rfl rfl (by kernel_rfl) Tryz.func3 (by kernel_rfl)
    (of_decide_eq_true (by kernel_rfl)) (by unfold Func.isWrapper; first | (rw [if_pos (by decide +kernel)]; kernel_rfl) | (rw [if_neg (by decide +kernel)]; exact ⟨rfl, rfl⟩))
    (fun os started H enc _ => topm_lifted os started H enc)

theorem topm_card : Rows.TopMapCardSaid :=
  Claim7.holds_tied_plain_at .later [] [.data] true (true, "bb1e71b1352aa1a71448801182ee631ed26259d9c1508489dd084bd0c5f829e2") true
    topm_holds (fun _ h => by cases h) (by kernel_rfl) (fun _ h => by cases h) topMap_row_tie rfl ⟨rfl, rfl⟩ (by kernel_rfl) rfl
    (fun f fn hf hfn => by
      obtain rfl : f = 3 := Option.some.inj ((show Tryz.prog.funcNamed "tideline/tidelinetop.TopMap" = some 3 by kernel_rfl).symm.trans hf) |>.symm
      obtain rfl : fn = Tryz.f3 := (Option.some.inj (Tryz.func3.symm.trans hfn)).symm
      exact ⟨by kernel_rfl, fun j t ht => by
        rw [Tryz.params3] at ht
        have hm : t ∈ [23, 24] := by simpa using Array.mem_of_getElem? ht
        have hall : ([23, 24].all fun u => !Tryz.prog.wantsStandIn u) = true := by kernel_rfl
        exact (show Tryz.prog.wantsStandIn t = false by simpa using List.all_eq_true.1 hall t hm)⟩)
    (by kernel_rfl)
#print axioms topm_card
end Go.Proofs.YtdflmplmpjghdaaGreatDoor
