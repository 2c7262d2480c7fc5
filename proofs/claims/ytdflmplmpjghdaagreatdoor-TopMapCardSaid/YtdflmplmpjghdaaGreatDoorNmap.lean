/-
  span.Whole; the node's block; node.Map.
-/
import Derived.Test.YtdflmplmpjghdaaGreatDoorColl
namespace Go.Proofs.YtdflmplmpjghdaaGreatDoor
open Go.ChangeShapes Go.WideShapes Go.ChangeAt Go.RowKit Go.Deep Go.Shelf
set_option linter.unusedVariables false
set_option linter.unusedSimpArgs false
set_option maxRecDepth 100000
attribute [local go_sem] Oper.semAt_some

theorem whole_any (w : World) : Calls Tryz.prog 53 #[] w fun e w' => e = .returned (rgV ⟨#[]⟩ ⟨#[]⟩ true) ∧ Below w.heap.size w w' := by
  go_enter Tryz.func53, Tryz.ntmps53
  go_wp2_with fail
  refine bodyPost_ret (v := rgV ⟨#[]⟩ ⟨#[]⟩ true) (by simp [results, Tryz.results53, go_sem]) rfl ⟨rfl, ?_⟩
  (repeat (first | (with_reducible assumption) | (with_reducible exact Below.refl _ _) | (with_reducible refine heap_drew ?_) | (focus ((with_reducible refine heap_new ?_) ; simp ; done)) | (with_reducible apply heap_set_to) | (focus ((with_reducible refine heap_set_ne ?_ ?_ _) ; rotate_left ; (focus (first | omega | (simp ; done) | (simp ; omega))))) | (with_reducible refine heap_old ?_) | (with_reducible refine Below.drew ?_) | (with_reducible refine below_set ?_ _ _) | (focus ((with_reducible refine Below.setCell ?_ ?_ _) ; rotate_left ; (focus (first | omega | (simp ; done) | (simp ; omega))))) | (focus ((with_reducible refine Below.alloc ?_ ?_ _) ; rotate_left ; (focus (first | omega | (simp ; done) | (simp ; omega))))) | (with_reducible rfl) | (focus (simp ; done))))
theorem own_mono {w : World} {base base' n size : Nat} {e : TypeId} {v : Value} {xs : List Value} (h : w.ownsRow base e size v n xs) (hb : base' ≤ base) : w.ownsRow base' e size v n xs := by
  refine ⟨h.1, ?_⟩
  rcases h.2 with h2 | ⟨g, cap, cur, hv, hg, r⟩
  · exact Or.inl h2
  · exact Or.inr ⟨g, cap, cur, hv, Nat.le_trans hb hg, r⟩
/-- The node's block: what it was made with, its store, its desk; nothing has been sent or heard. -/
abbrev nodeN : TypeId := 134
def NdAt (w : World) (nb sb db : Nat) (c0 c1 c2 c3 : Int) : Prop := w.heap[nb]? = some (.cells #[.int .i64 c0, .int .i64 c1, .int .i64 c2, .int .i64 c3, .pointer (some ⟨sb, 0, none⟩), .pointer (some ⟨db, 0, none⟩), .slice none 0 0, .int .i64 1, .int .i64 0, .int .i64 0, .int .i64 0, .int .i64 0, .int .i64 0, .int .i64 0, .int .i64 0, .int .i64 0, .int .i64 0, .int .i64 0] nodeN (0, 0))
theorem ndCells {w : World} {nb sb db : Nat} {c0 c1 c2 c3 : Int} (h : NdAt w nb sb db c0 c1 c2 c3) :
    w.cell? ⟨nb, 4, none⟩ = some (.pointer (some ⟨sb, 0, none⟩)) ∧ w.cell? ⟨nb, 5, none⟩ = some (.pointer (some ⟨db, 0, none⟩)) ∧ nb < w.heap.size ∧ ∀ o, w.frozen? ⟨nb, o, none⟩ = false :=
  ⟨blk_cell h 4, blk_cell h 5, blk_lt h, blk_free h⟩
def entsT (t : Tr) : List Ent := t.rows.map (fun r => r.2.1)
theorem cut_whole (t : Tr) : cutR (rankT ⟨#[]⟩ t : Int) (endT ⟨#[]⟩ true t : Int) t.rows = t.rows := by
  rw [rankT_empty]
  unfold cutR endT
  rw [if_pos rfl, ← Tr.rows_length]
  simp
theorem rgOk_whole : rgOk ⟨#[]⟩ ⟨#[]⟩ true = true := by unfold rgOk; rw [if_pos rfl, Lib.toList_data]; rfl
set_option maxRecDepth 100000 in
set_option maxHeartbeats 8000000 in
theorem nmap_any (nb db sb tb mb : Nat) (c0 c1 c2 c3 node clock : Int) (M : Nat) (t : Tr) (w : World) (hn : NdAt w nb sb db c0 c1 c2 c3) (h : StAt w sb tb mb node clock M t) (hs : t.size ≤ 1000000) :
    Calls Tryz.prog 31 #[.pointer (some ⟨nb, 0, none⟩)] w fun e w' => ∃ v, e = .returned v ∧ w'.ownsRow w.heap.size entT 5 v t.size (eflat (entsT t)) ∧ Below w.heap.size w w' := by
  have HC : Hid (∀ w : World, Calls Tryz.prog 82 #[rgV ⟨#[]⟩ ⟨#[]⟩ true] w fun e w' => e = .returned (.int .i64 0) ∧ Below w.heap.size w w') := fun w => by
    have := check_any ⟨#[]⟩ ⟨#[]⟩ true w (by decide) (by decide)
    rw [if_neg (by decide), if_pos rgOk_whole] at this
    exact this
  have HN := Lib.hid (And.intro hn h)
  clear hn h
  go_enter Tryz.func31, Tryz.ntmps31
  go_wp2_with fail
  have hSt : Stable (fun w3 : World => (Below w.heap.size w w3)) := by repeat (first | exact stable_ext _ | exact stable_blk _ _ | exact stable_true | (refine stable_bel ?_ ; (focus (first | (simp [World.size_setCell] ; done) | (simp [World.setCell] ; done)))) | refine Stable.and ?_ ?_)
  refine wp_region_x [0, 1, 2, 3, 4, 5, 6, 7, 8, 9, 10] [0, 0, 0, 1, 1, 4, 0, 0, 0, 0, 0] (fun w3 => (Below w.heap.size w w3)) (by kernel_rfl) (by kernel_rfl) ?_ ?_
  · (first | trivial | (repeat (first | (with_reducible assumption) | (with_reducible exact Below.refl _ _) | (with_reducible refine heap_drew ?_) | (focus ((with_reducible refine heap_new ?_) ; simp ; done)) | (with_reducible apply heap_set_to) | (focus ((with_reducible refine heap_set_ne ?_ ?_ _) ; rotate_left ; (focus (first | omega | (simp ; done) | (simp ; omega))))) | (with_reducible refine heap_old ?_) | (with_reducible refine Below.drew ?_) | (with_reducible refine below_set ?_ _ _) | (focus ((with_reducible refine Below.setCell ?_ ?_ _) ; rotate_left ; (focus (first | omega | (simp ; done) | (simp ; omega))))) | (focus ((with_reducible refine Below.alloc ?_ ?_ _) ; rotate_left ; (focus (first | omega | (simp ; done) | (simp ; omega))))) | (with_reducible rfl) | (focus (simp ; done)))))
  simp only [List.map_cons, List.map_nil, List.getD_cons_zero, List.getD_cons_succ]
  (refine x_pure rfl _ ?_ rfl (by simp) ?_ ?_ ; rotate_left ; · (intro w3 K hK ; go_wp2_with fail ; exact rfl))
  simp only [Act.put, List.setIfInBounds_toArray, List.set_cons_succ, List.set_cons_zero]
  (refine x_pure rfl _ ?_ rfl (by simp) ?_ ?_ ; rotate_left ; · (intro w3 K hK ; go_wp2_with fail ; exact rfl))
  simp only [Act.put, List.setIfInBounds_toArray, List.set_cons_succ, List.set_cons_zero]
  (refine x_pure rfl _ ?_ rfl (by simp) ?_ ?_ ; rotate_left ; · (intro w3 K hK ; go_wp2_with fail ; exact rfl))
  simp only [Act.put, List.setIfInBounds_toArray, List.set_cons_succ, List.set_cons_zero]
  (refine x_quiet rfl hSt (fun _ h => h) _ ?_ rfl (by simp) ?_ ?_ ; rotate_left ; · (intro w3 hC K hK ; have hc := hC ; have q := ndCells (blk_below HN.out.1 hc) ; go_wp2_with fail ; refine ⟨?_, Below.refl _ _⟩ ; exact rfl))
  simp only [Act.put, List.setIfInBounds_toArray, List.set_cons_succ, List.set_cons_zero]
  (refine x_quiet rfl hSt (fun _ h => h) _ ?_ rfl (by simp) ?_ ?_ ; rotate_left ; · (intro w3 hC K hK ; have hc := hC ; have q := ndCells (blk_below HN.out.1 hc) ; go_wp2_with fail ; refine (whole_any w3).mono ?_ ; rintro e w2 ⟨rfl, hb2⟩ ; refine hK _ _ ⟨?_, rfl, hb2⟩ ; (try simp only [List.getElem?_toArray, List.getElem?_cons_succ, List.getElem?_cons_zero]) ; exact rfl))
  simp only [Act.put, List.setIfInBounds_toArray, List.set_cons_succ, List.set_cons_zero]
  refine x_make rfl ?_
  intro w3 hD K hK ; have hc := hD ; have q := ndCells (blk_below HN.out.1 hc)
  go_wp2_with fail
  refine (all_any sb tb mb node clock M t ⟨#[]⟩ ⟨#[]⟩ true w3 (HN.out.2.below hc) (by omega) HC.out).mono ?_
  rintro x9 w9 ⟨bl, rfl, hs9, hb9⟩
  have HZ := Lib.hid (And.intro hs9 (hc.trans (hb9.mono hc.size)))
  clear q hs9 hc
  refine hK _ _ hb9 ?_
  try simp only [Act.put, List.setIfInBounds_toArray, List.set_cons_succ, List.set_cons_zero]
  (refine x_pure rfl _ ?_ rfl (by simp) ?_ ?_ ; rotate_left ; · (intro w3 K hK ; go_wp2_with fail ; exact rfl))
  simp only [Act.put, List.setIfInBounds_toArray, List.set_cons_succ, List.set_cons_zero]
  (refine x_pure rfl _ ?_ rfl (by simp) ?_ ?_ ; rotate_left ; · (intro w3 K hK ; go_wp2_with fail ; exact rfl))
  simp only [Act.put, List.setIfInBounds_toArray, List.set_cons_succ, List.set_cons_zero]
  (refine x_pure rfl _ ?_ rfl (by simp) ?_ ?_ ; rotate_left ; · (intro w3 K hK ; go_wp2_with fail ; exact rfl))
  simp only [Act.put, List.setIfInBounds_toArray, List.set_cons_succ, List.set_cons_zero]
  (refine x_pure rfl _ ?_ rfl (by simp) ?_ ?_ ; rotate_left ; · (intro w3 K hK ; go_wp2_with fail ; exact rfl))
  simp only [Act.put, List.setIfInBounds_toArray, List.set_cons_succ, List.set_cons_zero]
  (refine x_pure rfl _ ?_ rfl (by simp) ?_ ?_ ; rotate_left ; · (intro w3 K hK ; go_wp2_with fail ; exact rfl))
  simp only [Act.put, List.setIfInBounds_toArray, List.set_cons_succ, List.set_cons_zero]
  first | refine x_nil ?_ | refine x_end ?_
  rintro wy hyb
  have HY := Lib.hid (And.intro (HZ.out.1.below hyb) (HZ.out.2.trans (hyb.mono HZ.out.2.size)))
  clear hyb hb9 hSt
  have r1 := rankT_le ⟨#[]⟩ t
  have r2 := endT_le ⟨#[]⟩ true t
  have hq : ∀ w1, Below wy.heap.size wy w1 → SeqN Tryz.prog 85 #[.pointer (some ⟨bl, 0, none⟩)] (entsT t).length (entA (entsT t)) (fun k => wy.heap.size ≤ k) collT w1 := fun w1 hb => by
    have := all_seq bl t (rankT ⟨#[]⟩ t : Int) (endT ⟨#[]⟩ true t : Int) (fun k => wy.heap.size ≤ k) collT ⟨Or.inl rfl, Or.inr rfl⟩ w1 (HY.out.1.below hb) (by omega) (by omega) (by omega) (fun k hk => Nat.le_trans hb.size hk)
    rw [cut_whole] at this
    have e : entArgs t.rows = entA (entsT t) := by
      funext k args W
      simp only [entArgs, entA, entsT, List.length_map, List.getElem_map]
    rw [e] at this
    rwa [show (entsT t).length = t.rows.length by simp [entsT]]
  have hlen : (entsT t).length = t.size := by simp [entsT, Tr.rows_length]
  have HQ : Hid (∀ (e : Ending) (w' : World), True) := fun _ _ => trivial
  go_wp2_with fail
  refine (coll_any 85 #[.pointer (some ⟨bl, 0, none⟩)] (entsT t) wy (enters_of Tryz.func85 (by kernel_rfl) rfl) (by omega) hq).mono ?_
  rintro e w' ⟨v, rfl, ho, hb⟩
  rw [hlen] at ho
  go_wp2_with fail
  go_ret
  exact ⟨v, rfl, own_mono ho HY.out.2.size, HY.out.2.trans (hb.mono HY.out.2.size)⟩
end Go.Proofs.YtdflmplmpjghdaaGreatDoor
