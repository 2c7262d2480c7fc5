/-
  mix.Parse: thirty-two hexadecimal digits back to a sum.
-/
import Derived.Test.YtjeaobknojmbpaaDoorUnhex
namespace Go.Proofs.YtjeaobknojmbpaaDoor
open Go.ChangeShapes Go.WideShapes Go.ChangeAt Go.RowKit Go.Deep
set_option linter.unusedVariables false
set_option linter.unusedSimpArgs false

/-- The number whose bytes these are, the highest first. -/
def beV (l : List UInt8) : Nat := l.foldl (fun v b => v * 256 + b.toNat) 0
theorem beV_snoc (l : List UInt8) (b : UInt8) : beV (l ++ [b]) = beV l * 256 + b.toNat := by simp [beV]
theorem beV_lt' : ∀ (l : List UInt8) (v : Nat), l.foldl (fun v b => v * 256 + b.toNat) v + 1 ≤ (v + 1) * 256 ^ l.length
  | [], v => by simp
  | b :: r, v => by
    have ih := beV_lt' r (v * 256 + b.toNat)
    have hb : b.toNat < 256 := b.toNat_lt
    have h2 : (v * 256 + b.toNat + 1) * 256 ^ r.length ≤ ((v + 1) * 256) * 256 ^ r.length := Nat.mul_le_mul_right _ (by omega)
    rw [List.foldl_cons, List.length_cons, Nat.pow_succ, Nat.mul_comm (256 ^ r.length) 256, ← Nat.mul_assoc]
    omega
theorem beV_lt (l : List UInt8) : beV l < 256 ^ l.length := by
  have := beV_lt' l 0
  unfold beV
  omega
theorem or_byte {v : Nat} {l : List UInt8} (hv : v = beV l) (hl : l.length ≤ 7) (b : UInt8) :
    bits BinOp.or IntKind.u64 (IntKind.u64.wrap ((v : Int) * 256)) (IntKind.u64.wrap (b.toNat : Int)) = ((beV (l ++ [b]) : Nat) : Int) := by
  have h1 := beV_lt l
  have h2 : 256 ^ l.length ≤ 256 ^ 7 := Nat.pow_le_pow_right (by omega) hl
  have h3 : (256 : Nat) ^ 7 = 72057594037927936 := by decide
  have hb : b.toNat < 256 := b.toNat_lt
  rw [beV_snoc, ← hv]
  rw [← hv] at h1
  rw [u64_wrap_id _ (by omega) (by omega), u64_wrap_id _ (by omega) (by omega), bits_join .u64 64 (by decide) wraps_u64 8 _ _ (by omega) (by omega) (by omega) (by omega) (by omega) (by omega)]
  omega

def parV (l : List UInt8) : Value := match unhexL l with
  | some bs => if bs.length = 16 then .tuple #[sv (beV (bs.take 8)) (beV (bs.drop 8)), .int .i64 0] else .tuple #[sv 0 0, .int .i64 23]
  | none => .tuple #[sv 0 0, .int .i64 23]

set_option maxHeartbeats 4000000 in
theorem parse_any (s : ByteArray) (w : World) (hs : s.size ≤ 140737488351232) :
    Calls Tryd.prog 22 #[.string s] w fun e w' => e = .returned (parV s.data.toList) ∧ Below w.heap.size w w' := by
  go_enter Tryd.func22, Tryd.ntmps22
  go_wp2_with fail
  refine (unhex_any s _ hs).mono ?_
  rintro e w1 ⟨rfl, hb1⟩
  have g0 : w1.heap[w.heap.size]? = some (.cells #[.int .u64 0, .int .u64 0] 26 (0, 0)) := blk_below (by (repeat (first | (with_reducible assumption) | (with_reducible exact Below.refl _ _) | (with_reducible refine heap_drew ?_) | (focus ((with_reducible refine heap_new ?_) ; simp ; done)) | (with_reducible apply heap_set_to) | (focus ((with_reducible refine heap_set_ne ?_ ?_ _) ; rotate_left ; (focus (first | omega | (simp ; done) | (simp ; omega))))) | (with_reducible refine heap_old ?_) | (with_reducible refine Below.drew ?_) | (with_reducible refine below_set ?_ _ _) | (focus ((with_reducible refine Below.setCell ?_ ?_ _) ; rotate_left ; (focus (first | omega | (simp ; done) | (simp ; omega))))) | (focus ((with_reducible refine Below.alloc ?_ ?_ _) ; rotate_left ; (focus (first | omega | (simp ; done) | (simp ; omega))))) | (with_reducible rfl) | (focus (simp ; done))))) hb1
  have hb : Below w.heap.size w w1 := below_back (by (repeat (first | (with_reducible assumption) | (with_reducible exact Below.refl _ _) | (with_reducible refine heap_drew ?_) | (focus ((with_reducible refine heap_new ?_) ; simp ; done)) | (with_reducible apply heap_set_to) | (focus ((with_reducible refine heap_set_ne ?_ ?_ _) ; rotate_left ; (focus (first | omega | (simp ; done) | (simp ; omega))))) | (with_reducible refine heap_old ?_) | (with_reducible refine Below.drew ?_) | (with_reducible refine below_set ?_ _ _) | (focus ((with_reducible refine Below.setCell ?_ ?_ _) ; rotate_left ; (focus (first | omega | (simp ; done) | (simp ; omega))))) | (focus ((with_reducible refine Below.alloc ?_ ?_ _) ; rotate_left ; (focus (first | omega | (simp ; done) | (simp ; omega))))) | (with_reducible rfl) | (focus (simp ; done))))) (by first | omega | (simp ; done) | (simp ; omega)) hb1
  clear hb1
  have hz := hb.size
  have q0 := blk2 g0
  have hdec : unhexL s.data.toList = none ∨ ∃ bs, unhexL s.data.toList = some bs := by cases unhexL s.data.toList <;> simp
  rcases hdec with hn | ⟨bs, hbs⟩
  · have e1 : unV s.data.toList = .tuple #[.string ⟨#[]⟩, .int .i64 23] := by unfold unV; rw [hn]
    have e2 : parV s.data.toList = .tuple #[sv 0 0, .int .i64 23] := by unfold parV; rw [hn]
    rw [e1]
    have HE : Hid (parV s.data.toList = _) := e2
    clear e1 e2 hn
    go_wp2_with fail
    rw [HE.out]
    refine bodyPost_ret (v := .tuple #[sv 0 0, .int .i64 23]) (by simp [results, Tryd.results22, go_sem, q0]) rfl ⟨rfl, ?_⟩
    (repeat (first | (with_reducible assumption) | (with_reducible exact Below.refl _ _) | (with_reducible refine heap_drew ?_) | (focus ((with_reducible refine heap_new ?_) ; simp ; done)) | (with_reducible apply heap_set_to) | (focus ((with_reducible refine heap_set_ne ?_ ?_ _) ; rotate_left ; (focus (first | omega | (simp ; done) | (simp ; omega))))) | (with_reducible refine heap_old ?_) | (with_reducible refine Below.drew ?_) | (with_reducible refine below_set ?_ _ _) | (focus ((with_reducible refine Below.setCell ?_ ?_ _) ; rotate_left ; (focus (first | omega | (simp ; done) | (simp ; omega))))) | (focus ((with_reducible refine Below.alloc ?_ ?_ _) ; rotate_left ; (focus (first | omega | (simp ; done) | (simp ; omega))))) | (with_reducible rfl) | (focus (simp ; done))))
  · have e1 : unV s.data.toList = .tuple #[.string ⟨bs.toArray⟩, .int .i64 0] := by unfold unV; rw [hbs]
    rw [e1]
    obtain ⟨t, ht⟩ : ∃ t : ByteArray, t = ⟨bs.toArray⟩ := ⟨_, rfl⟩
    have htl : t.data.toList = bs := by rw [ht]
    have hts : t.size = bs.length := by rw [← len_list, htl]
    rw [← ht]
    have HT : Hid (t.data.toList = bs) := htl
    clear e1 ht htl
    by_cases h16 : t.size = 16
    · have e2 : parV s.data.toList = .tuple #[sv (beV (bs.take 8)) (beV (bs.drop 8)), .int .i64 0] := by unfold parV; rw [hbs]; simp only; rw [if_pos (by omega)]
      have HE : Hid (parV s.data.toList = _) := e2
      clear e2 hbs
      have hbl : bs.length = 16 := by omega
      clear hts
      go_wp2_with fail
      obtain ⟨ob, hob⟩ : ∃ g, g = w1.heap.size := ⟨_, rfl⟩
      have g1 : (w1.alloc (.cells #[.int .u64 0, .int .u64 0] 26 (0, 0))).heap[w1.heap.size]? = some (.cells #[.int .u64 0, .int .u64 0] 26 (0, 0)) := by (repeat (first | (with_reducible assumption) | (with_reducible exact Below.refl _ _) | (with_reducible refine heap_drew ?_) | (focus ((with_reducible refine heap_new ?_) ; simp ; done)) | (with_reducible apply heap_set_to) | (focus ((with_reducible refine heap_set_ne ?_ ?_ _) ; rotate_left ; (focus (first | omega | (simp ; done) | (simp ; omega))))) | (with_reducible refine heap_old ?_) | (with_reducible refine Below.drew ?_) | (with_reducible refine below_set ?_ _ _) | (focus ((with_reducible refine Below.setCell ?_ ?_ _) ; rotate_left ; (focus (first | omega | (simp ; done) | (simp ; omega))))) | (focus ((with_reducible refine Below.alloc ?_ ?_ _) ; rotate_left ; (focus (first | omega | (simp ; done) | (simp ; omega))))) | (with_reducible rfl) | (focus (simp ; done))))
      replace g0 := heap_old (o := .cells #[.int .u64 0, .int .u64 0] 26 (0, 0)) g0
      replace hb := hb.alloc hz (.cells #[.int .u64 0, .int .u64 0] 26 (0, 0))
      rw [← hob] at g1 ⊢
      have hol : w.heap.size < ob := by have := q0.2.2.1; omega
      clear q0 hz
      generalize hws : w1.alloc (.cells #[.int .u64 0, .int .u64 0] 26 (0, 0)) = ws at *
      clear hws hob
      go_loopw [22] (fun c wr => ∃ (i A B : Nat), i ≤ 16 ∧ c = .int .i64 i ∧ Hid (A = beV (bs.take (min i 8)) ∧ B = beV ((bs.drop 8).take (i - 8))) ∧
          wr.heap[w.heap.size]? = some (.cells #[.int .u64 0, .int .u64 0] 26 (0, 0)) ∧ wr.heap[ob]? = some (.cells #[.int .u64 A, .int .u64 B] 26 (0, 0)) ∧ Below w.heap.size w wr) (fun c _ => 16 - (intOf c).toNat)
      case atStart => exact ⟨0, 0, 0, by omega, rfl, ⟨rfl, rfl⟩, g0, g1, hb⟩
      case round =>
        clear g0 g1 hb
        obtain ⟨i, A, B, hi, rfl, HAB, g0, g1, hb⟩ := hrel
        by_cases hlt : i < 16
        · have hit : i < t.size := by omega
          obtain ⟨b, hbt⟩ : ∃ b : UInt8, t[i]'hit = b := ⟨_, rfl⟩
          have hbb : bs[i]'(by omega) = b := by
            have := HT.out
            subst this
            rw [get_list]; exact hbt
          have HBB : Hid (bs[i]'(by omega) = b) := hbb
          clear hbb
          by_cases h8 : i < 8
          · have hq : (i : Int) / 8 = 0 := by omega
            have HV : Hid (bits BinOp.or IntKind.u64 (IntKind.u64.wrap ((A : Int) * 256)) (IntKind.u64.wrap (b.toNat : Int)) = ((beV (bs.take (min (i + 1) 8)) : Nat) : Int)) := by
              have := or_byte (v := A) (l := bs.take i) (by rw [HAB.out.1, show min i 8 = i by omega]) (by rw [List.length_take]; omega) b
              rw [← HBB.out, ← List.take_succ_eq_append_getElem (by omega)] at this
              unfold Hid
              rw [show min (i + 1) 8 = i + 1 by omega, ← HBB.out]
              exact this
            go_wp2_with fail
            have hSt : Stable (fun w3 : World => (Below w.heap.size w w3) ∧ (w3.heap[w.heap.size]? = some (.cells #[.int .u64 0, .int .u64 0] 26 (0, 0))) ∧ (w3.heap[ob]? = some (.cells #[.int .u64 A, .int .u64 B] 26 (0, 0)))) := by repeat (first | exact stable_ext _ | exact stable_blk _ _ | exact stable_true | (refine stable_bel ?_ ; (focus (first | (simp [World.size_setCell] ; done) | (simp [World.setCell] ; done)))) | refine Stable.and ?_ ?_)
            refine wp_region_x [0, 1, 2, 3, 4, 5, 6, 7, 8, 9, 10, 11, 12, 13] [0, 0, 0, 0, 0, 1, 0, 0, 0, 0, 0, 0, 0, 3] (fun w3 => (Below w.heap.size w w3) ∧ (w3.heap[w.heap.size]? = some (.cells #[.int .u64 0, .int .u64 0] 26 (0, 0))) ∧ (w3.heap[ob]? = some (.cells #[.int .u64 A, .int .u64 B] 26 (0, 0)))) (by kernel_rfl) (by kernel_rfl) ?_ ?_
            · (refine ⟨?_, ?_, ?_⟩ <;> (repeat (first | (with_reducible assumption) | (with_reducible exact Below.refl _ _) | (with_reducible refine heap_drew ?_) | (focus ((with_reducible refine heap_new ?_) ; simp ; done)) | (with_reducible apply heap_set_to) | (focus ((with_reducible refine heap_set_ne ?_ ?_ _) ; rotate_left ; (focus (first | omega | (simp ; done) | (simp ; omega))))) | (with_reducible refine heap_old ?_) | (with_reducible refine Below.drew ?_) | (with_reducible refine below_set ?_ _ _) | (focus ((with_reducible refine Below.setCell ?_ ?_ _) ; rotate_left ; (focus (first | omega | (simp ; done) | (simp ; omega))))) | (focus ((with_reducible refine Below.alloc ?_ ?_ _) ; rotate_left ; (focus (first | omega | (simp ; done) | (simp ; omega))))) | (with_reducible rfl) | (focus (simp ; done)))))
            simp only [List.map_cons, List.map_nil, List.getD_cons_zero, List.getD_cons_succ]
            (refine x_pure rfl _ ?_ rfl (by simp) ?_ ?_ ; rotate_left ; · (intro w3 K hK ; go_wp2_with fail ; exact rfl))
            simp only [Act.put, List.setIfInBounds_toArray, List.set_cons_succ, List.set_cons_zero]
            (refine x_pure rfl _ ?_ rfl (by simp) ?_ ?_ ; rotate_left ; · (intro w3 K hK ; go_wp2_with fail ; exact rfl))
            simp only [Act.put, List.setIfInBounds_toArray, List.set_cons_succ, List.set_cons_zero]
            (refine x_pure rfl _ ?_ rfl (by simp) ?_ ?_ ; rotate_left ; · (intro w3 K hK ; go_wp2_with fail ; exact rfl))
            simp only [Act.put, List.setIfInBounds_toArray, List.set_cons_succ, List.set_cons_zero]
            (refine x_pure rfl _ ?_ rfl (by simp) ?_ ?_ ; rotate_left ; · (intro w3 K hK ; go_wp2_with fail ; exact rfl))
            simp only [Act.put, List.setIfInBounds_toArray, List.set_cons_succ, List.set_cons_zero]
            (refine x_pure rfl _ ?_ rfl (by simp) ?_ ?_ ; rotate_left ; · (intro w3 K hK ; go_wp2_with fail ; exact rfl))
            simp only [Act.put, List.setIfInBounds_toArray, List.set_cons_succ, List.set_cons_zero]
            (refine x_quiet rfl hSt (fun _ h => h) _ ?_ rfl (by simp) ?_ ?_ ; rotate_left ; · (intro w3 hC K hK ; obtain ⟨hb, g0, g1⟩ := hC ; have q1 := blk2 g1 ; go_wp2_with fail ; refine ⟨?_, Below.refl _ _⟩ ; exact rfl))
            simp only [Act.put, List.setIfInBounds_toArray, List.set_cons_succ, List.set_cons_zero]
            (refine x_pure rfl _ ?_ rfl (by simp) ?_ ?_ ; rotate_left ; · (intro w3 K hK ; go_wp2_with fail ; exact rfl))
            simp only [Act.put, List.setIfInBounds_toArray, List.set_cons_succ, List.set_cons_zero]
            (refine x_pure rfl _ ?_ rfl (by simp) ?_ ?_ ; rotate_left ; · (intro w3 K hK ; go_wp2_with fail ; exact rfl))
            simp only [Act.put, List.setIfInBounds_toArray, List.set_cons_succ, List.set_cons_zero]
            (refine x_pure rfl _ ?_ rfl (by simp) ?_ ?_ ; rotate_left ; · (intro w3 K hK ; go_wp2_with fail ; exact rfl))
            simp only [Act.put, List.setIfInBounds_toArray, List.set_cons_succ, List.set_cons_zero]
            (refine x_pure rfl _ ?_ rfl (by simp) ?_ ?_ ; rotate_left ; · (intro w3 K hK ; go_wp2_with fail ; exact rfl))
            simp only [Act.put, List.setIfInBounds_toArray, List.set_cons_succ, List.set_cons_zero]
            (refine x_pure rfl _ ?_ rfl (by simp) ?_ ?_ ; rotate_left ; · (intro w3 K hK ; go_wp2_with fail ; exact rfl))
            simp only [Act.put, List.setIfInBounds_toArray, List.set_cons_succ, List.set_cons_zero]
            (refine x_pure rfl _ ?_ rfl (by simp) ?_ ?_ ; rotate_left ; · (intro w3 K hK ; go_wp2_with fail ; exact rfl))
            simp only [Act.put, List.setIfInBounds_toArray, List.set_cons_succ, List.set_cons_zero]
            (refine x_pure rfl _ ?_ rfl (by simp) ?_ ?_ ; rotate_left ; · (intro w3 K hK ; go_wp2_with fail ; exact rfl))
            simp only [Act.put, List.setIfInBounds_toArray, List.set_cons_succ, List.set_cons_zero]
            refine x_write rfl ?_
            intro w3 hD K hK ; obtain ⟨hb, g0, g1⟩ := hD ; have q1 := blk2 g1
            go_wp2_with fail
            refine x_nil ?_
            rintro w5 hwe
            have f0 : w5.heap[w.heap.size]? = some (.cells #[.int .u64 0, .int .u64 0] 26 (0, 0)) := by rw [hwe] ; (repeat (first | (with_reducible assumption) | (with_reducible exact Below.refl _ _) | (with_reducible refine heap_drew ?_) | (focus ((with_reducible refine heap_new ?_) ; simp ; done)) | (with_reducible apply heap_set_to) | (focus ((with_reducible refine heap_set_ne ?_ ?_ _) ; rotate_left ; (focus (first | omega | (simp ; done) | (simp ; omega))))) | (with_reducible refine heap_old ?_) | (with_reducible refine Below.drew ?_) | (with_reducible refine below_set ?_ _ _) | (focus ((with_reducible refine Below.setCell ?_ ?_ _) ; rotate_left ; (focus (first | omega | (simp ; done) | (simp ; omega))))) | (focus ((with_reducible refine Below.alloc ?_ ?_ _) ; rotate_left ; (focus (first | omega | (simp ; done) | (simp ; omega))))) | (with_reducible rfl) | (focus (simp ; done))))
            have f1 : w5.heap[ob]? = some (.cells #[.int .u64 (bits BinOp.or IntKind.u64 (IntKind.u64.wrap ((A : Int) * 256)) (IntKind.u64.wrap (b.toNat : Int))), .int .u64 B] 26 (0, 0)) := by rw [hwe] ; (repeat (first | (with_reducible assumption) | (with_reducible exact Below.refl _ _) | (with_reducible refine heap_drew ?_) | (focus ((with_reducible refine heap_new ?_) ; simp ; done)) | (with_reducible apply heap_set_to) | (focus ((with_reducible refine heap_set_ne ?_ ?_ _) ; rotate_left ; (focus (first | omega | (simp ; done) | (simp ; omega))))) | (with_reducible refine heap_old ?_) | (with_reducible refine Below.drew ?_) | (with_reducible refine below_set ?_ _ _) | (focus ((with_reducible refine Below.setCell ?_ ?_ _) ; rotate_left ; (focus (first | omega | (simp ; done) | (simp ; omega))))) | (focus ((with_reducible refine Below.alloc ?_ ?_ _) ; rotate_left ; (focus (first | omega | (simp ; done) | (simp ; omega))))) | (with_reducible rfl) | (focus (simp ; done))))
            have fb : Below w.heap.size w w5 := by rw [hwe] ; (repeat (first | (with_reducible assumption) | (with_reducible exact Below.refl _ _) | (with_reducible refine heap_drew ?_) | (focus ((with_reducible refine heap_new ?_) ; simp ; done)) | (with_reducible apply heap_set_to) | (focus ((with_reducible refine heap_set_ne ?_ ?_ _) ; rotate_left ; (focus (first | omega | (simp ; done) | (simp ; omega))))) | (with_reducible refine heap_old ?_) | (with_reducible refine Below.drew ?_) | (with_reducible refine below_set ?_ _ _) | (focus ((with_reducible refine Below.setCell ?_ ?_ _) ; rotate_left ; (focus (first | omega | (simp ; done) | (simp ; omega))))) | (focus ((with_reducible refine Below.alloc ?_ ?_ _) ; rotate_left ; (focus (first | omega | (simp ; done) | (simp ; omega))))) | (with_reducible rfl) | (focus (simp ; done))))
            clear hwe
            rw [HV.out] at f1
            clear hq hSt hbt
            go_wp2_with fail
            go_roundw
            case rel => exact ⟨i + 1, _, B, by omega, by go_num, ⟨rfl, by rw [HAB.out.2, show i + 1 - 8 = i - 8 by omega]⟩, f0, f1, fb⟩
            case measure => simp [intOf]; omega
          · have hq : (i : Int) / 8 = 1 := by omega
            have HV : Hid (bits BinOp.or IntKind.u64 (IntKind.u64.wrap ((B : Int) * 256)) (IntKind.u64.wrap (b.toNat : Int)) = ((beV ((bs.drop 8).take (i + 1 - 8)) : Nat) : Int)) := by
              have := or_byte (v := B) (l := (bs.drop 8).take (i - 8)) HAB.out.2 (by rw [List.length_take]; omega) b
              have hg : (bs.drop 8)[i - 8]'(by rw [List.length_drop]; omega) = b := by rw [List.getElem_drop]; rw [← HBB.out]; congr 1; omega
              rw [← hg, ← List.take_succ_eq_append_getElem] at this
              unfold Hid
              rw [show i + 1 - 8 = i - 8 + 1 by omega, ← hg]
              exact this
            go_wp2_with fail
            have hSt : Stable (fun w3 : World => (Below w.heap.size w w3) ∧ (w3.heap[w.heap.size]? = some (.cells #[.int .u64 0, .int .u64 0] 26 (0, 0))) ∧ (w3.heap[ob]? = some (.cells #[.int .u64 A, .int .u64 B] 26 (0, 0)))) := by repeat (first | exact stable_ext _ | exact stable_blk _ _ | exact stable_true | (refine stable_bel ?_ ; (focus (first | (simp [World.size_setCell] ; done) | (simp [World.setCell] ; done)))) | refine Stable.and ?_ ?_)
            refine wp_region_x [0, 1, 2, 3, 4, 5, 6, 7, 8, 9, 10, 11, 12, 13] [0, 0, 0, 0, 0, 1, 0, 0, 0, 0, 0, 0, 0, 3] (fun w3 => (Below w.heap.size w w3) ∧ (w3.heap[w.heap.size]? = some (.cells #[.int .u64 0, .int .u64 0] 26 (0, 0))) ∧ (w3.heap[ob]? = some (.cells #[.int .u64 A, .int .u64 B] 26 (0, 0)))) (by kernel_rfl) (by kernel_rfl) ?_ ?_
            · (refine ⟨?_, ?_, ?_⟩ <;> (repeat (first | (with_reducible assumption) | (with_reducible exact Below.refl _ _) | (with_reducible refine heap_drew ?_) | (focus ((with_reducible refine heap_new ?_) ; simp ; done)) | (with_reducible apply heap_set_to) | (focus ((with_reducible refine heap_set_ne ?_ ?_ _) ; rotate_left ; (focus (first | omega | (simp ; done) | (simp ; omega))))) | (with_reducible refine heap_old ?_) | (with_reducible refine Below.drew ?_) | (with_reducible refine below_set ?_ _ _) | (focus ((with_reducible refine Below.setCell ?_ ?_ _) ; rotate_left ; (focus (first | omega | (simp ; done) | (simp ; omega))))) | (focus ((with_reducible refine Below.alloc ?_ ?_ _) ; rotate_left ; (focus (first | omega | (simp ; done) | (simp ; omega))))) | (with_reducible rfl) | (focus (simp ; done)))))
            simp only [List.map_cons, List.map_nil, List.getD_cons_zero, List.getD_cons_succ]
            (refine x_pure rfl _ ?_ rfl (by simp) ?_ ?_ ; rotate_left ; · (intro w3 K hK ; go_wp2_with fail ; exact rfl))
            simp only [Act.put, List.setIfInBounds_toArray, List.set_cons_succ, List.set_cons_zero]
            (refine x_pure rfl _ ?_ rfl (by simp) ?_ ?_ ; rotate_left ; · (intro w3 K hK ; go_wp2_with fail ; exact rfl))
            simp only [Act.put, List.setIfInBounds_toArray, List.set_cons_succ, List.set_cons_zero]
            (refine x_pure rfl _ ?_ rfl (by simp) ?_ ?_ ; rotate_left ; · (intro w3 K hK ; go_wp2_with fail ; exact rfl))
            simp only [Act.put, List.setIfInBounds_toArray, List.set_cons_succ, List.set_cons_zero]
            (refine x_pure rfl _ ?_ rfl (by simp) ?_ ?_ ; rotate_left ; · (intro w3 K hK ; go_wp2_with fail ; exact rfl))
            simp only [Act.put, List.setIfInBounds_toArray, List.set_cons_succ, List.set_cons_zero]
            (refine x_pure rfl _ ?_ rfl (by simp) ?_ ?_ ; rotate_left ; · (intro w3 K hK ; go_wp2_with fail ; exact rfl))
            simp only [Act.put, List.setIfInBounds_toArray, List.set_cons_succ, List.set_cons_zero]
            (refine x_quiet rfl hSt (fun _ h => h) _ ?_ rfl (by simp) ?_ ?_ ; rotate_left ; · (intro w3 hC K hK ; obtain ⟨hb, g0, g1⟩ := hC ; have q1 := blk2 g1 ; go_wp2_with fail ; refine ⟨?_, Below.refl _ _⟩ ; exact rfl))
            simp only [Act.put, List.setIfInBounds_toArray, List.set_cons_succ, List.set_cons_zero]
            (refine x_pure rfl _ ?_ rfl (by simp) ?_ ?_ ; rotate_left ; · (intro w3 K hK ; go_wp2_with fail ; exact rfl))
            simp only [Act.put, List.setIfInBounds_toArray, List.set_cons_succ, List.set_cons_zero]
            (refine x_pure rfl _ ?_ rfl (by simp) ?_ ?_ ; rotate_left ; · (intro w3 K hK ; go_wp2_with fail ; exact rfl))
            simp only [Act.put, List.setIfInBounds_toArray, List.set_cons_succ, List.set_cons_zero]
            (refine x_pure rfl _ ?_ rfl (by simp) ?_ ?_ ; rotate_left ; · (intro w3 K hK ; go_wp2_with fail ; exact rfl))
            simp only [Act.put, List.setIfInBounds_toArray, List.set_cons_succ, List.set_cons_zero]
            (refine x_pure rfl _ ?_ rfl (by simp) ?_ ?_ ; rotate_left ; · (intro w3 K hK ; go_wp2_with fail ; exact rfl))
            simp only [Act.put, List.setIfInBounds_toArray, List.set_cons_succ, List.set_cons_zero]
            (refine x_pure rfl _ ?_ rfl (by simp) ?_ ?_ ; rotate_left ; · (intro w3 K hK ; go_wp2_with fail ; exact rfl))
            simp only [Act.put, List.setIfInBounds_toArray, List.set_cons_succ, List.set_cons_zero]
            (refine x_pure rfl _ ?_ rfl (by simp) ?_ ?_ ; rotate_left ; · (intro w3 K hK ; go_wp2_with fail ; exact rfl))
            simp only [Act.put, List.setIfInBounds_toArray, List.set_cons_succ, List.set_cons_zero]
            (refine x_pure rfl _ ?_ rfl (by simp) ?_ ?_ ; rotate_left ; · (intro w3 K hK ; go_wp2_with fail ; exact rfl))
            simp only [Act.put, List.setIfInBounds_toArray, List.set_cons_succ, List.set_cons_zero]
            refine x_write rfl ?_
            intro w3 hD K hK ; obtain ⟨hb, g0, g1⟩ := hD ; have q1 := blk2 g1
            go_wp2_with fail
            refine x_nil ?_
            rintro w5 hwe
            have f0 : w5.heap[w.heap.size]? = some (.cells #[.int .u64 0, .int .u64 0] 26 (0, 0)) := by rw [hwe] ; (repeat (first | (with_reducible assumption) | (with_reducible exact Below.refl _ _) | (with_reducible refine heap_drew ?_) | (focus ((with_reducible refine heap_new ?_) ; simp ; done)) | (with_reducible apply heap_set_to) | (focus ((with_reducible refine heap_set_ne ?_ ?_ _) ; rotate_left ; (focus (first | omega | (simp ; done) | (simp ; omega))))) | (with_reducible refine heap_old ?_) | (with_reducible refine Below.drew ?_) | (with_reducible refine below_set ?_ _ _) | (focus ((with_reducible refine Below.setCell ?_ ?_ _) ; rotate_left ; (focus (first | omega | (simp ; done) | (simp ; omega))))) | (focus ((with_reducible refine Below.alloc ?_ ?_ _) ; rotate_left ; (focus (first | omega | (simp ; done) | (simp ; omega))))) | (with_reducible rfl) | (focus (simp ; done))))
            have f1 : w5.heap[ob]? = some (.cells #[.int .u64 A, .int .u64 (bits BinOp.or IntKind.u64 (IntKind.u64.wrap ((B : Int) * 256)) (IntKind.u64.wrap (b.toNat : Int)))] 26 (0, 0)) := by rw [hwe] ; (repeat (first | (with_reducible assumption) | (with_reducible exact Below.refl _ _) | (with_reducible refine heap_drew ?_) | (focus ((with_reducible refine heap_new ?_) ; simp ; done)) | (with_reducible apply heap_set_to) | (focus ((with_reducible refine heap_set_ne ?_ ?_ _) ; rotate_left ; (focus (first | omega | (simp ; done) | (simp ; omega))))) | (with_reducible refine heap_old ?_) | (with_reducible refine Below.drew ?_) | (with_reducible refine below_set ?_ _ _) | (focus ((with_reducible refine Below.setCell ?_ ?_ _) ; rotate_left ; (focus (first | omega | (simp ; done) | (simp ; omega))))) | (focus ((with_reducible refine Below.alloc ?_ ?_ _) ; rotate_left ; (focus (first | omega | (simp ; done) | (simp ; omega))))) | (with_reducible rfl) | (focus (simp ; done))))
            have fb : Below w.heap.size w w5 := by rw [hwe] ; (repeat (first | (with_reducible assumption) | (with_reducible exact Below.refl _ _) | (with_reducible refine heap_drew ?_) | (focus ((with_reducible refine heap_new ?_) ; simp ; done)) | (with_reducible apply heap_set_to) | (focus ((with_reducible refine heap_set_ne ?_ ?_ _) ; rotate_left ; (focus (first | omega | (simp ; done) | (simp ; omega))))) | (with_reducible refine heap_old ?_) | (with_reducible refine Below.drew ?_) | (with_reducible refine below_set ?_ _ _) | (focus ((with_reducible refine Below.setCell ?_ ?_ _) ; rotate_left ; (focus (first | omega | (simp ; done) | (simp ; omega))))) | (focus ((with_reducible refine Below.alloc ?_ ?_ _) ; rotate_left ; (focus (first | omega | (simp ; done) | (simp ; omega))))) | (with_reducible rfl) | (focus (simp ; done))))
            clear hwe
            rw [HV.out] at f1
            clear hq hSt hbt
            go_wp2_with fail
            go_roundw
            case rel => exact ⟨i + 1, A, _, by omega, by go_num, ⟨by rw [HAB.out.1, show min (i + 1) 8 = min i 8 by omega], rfl⟩, f0, f1, fb⟩
            case measure => simp [intOf]; omega
        · obtain rfl : i = 16 := by omega
          have HA2 : Hid (A = beV (bs.take 8) ∧ B = beV (bs.drop 8)) := ⟨HAB.out.1, by rw [HAB.out.2, List.take_of_length_le (by rw [List.length_drop]; omega)]⟩
          clear HAB
          have q0 := blk2 g0
          have q1 := blk2 g1
          go_wp2_with fail
          rw [HE.out, ← HA2.out.1, ← HA2.out.2]
          refine bodyPost_ret (v := .tuple #[sv A B, .int .i64 0]) (by simp [results, Tryd.results22, go_sem, q0]) rfl ⟨rfl, ?_⟩
          (repeat (first | (with_reducible assumption) | (with_reducible exact Below.refl _ _) | (with_reducible refine heap_drew ?_) | (focus ((with_reducible refine heap_new ?_) ; simp ; done)) | (with_reducible apply heap_set_to) | (focus ((with_reducible refine heap_set_ne ?_ ?_ _) ; rotate_left ; (focus (first | omega | (simp ; done) | (simp ; omega))))) | (with_reducible refine heap_old ?_) | (with_reducible refine Below.drew ?_) | (with_reducible refine below_set ?_ _ _) | (focus ((with_reducible refine Below.setCell ?_ ?_ _) ; rotate_left ; (focus (first | omega | (simp ; done) | (simp ; omega))))) | (focus ((with_reducible refine Below.alloc ?_ ?_ _) ; rotate_left ; (focus (first | omega | (simp ; done) | (simp ; omega))))) | (with_reducible rfl) | (focus (simp ; done))))
    · have e2 : parV s.data.toList = .tuple #[sv 0 0, .int .i64 23] := by unfold parV; rw [hbs]; simp only; rw [if_neg (by omega)]
      have HE : Hid (parV s.data.toList = _) := e2
      have h17 : ((t.size : Int) == 16) = false := by rw [beq_eq_false_iff_ne]; omega
      clear e2 hbs hts
      go_wp2_with fail
      rw [HE.out]
      refine bodyPost_ret (v := .tuple #[sv 0 0, .int .i64 23]) (by simp [results, Tryd.results22, go_sem, q0]) rfl ⟨rfl, ?_⟩
      (repeat (first | (with_reducible assumption) | (with_reducible exact Below.refl _ _) | (with_reducible refine heap_drew ?_) | (focus ((with_reducible refine heap_new ?_) ; simp ; done)) | (with_reducible apply heap_set_to) | (focus ((with_reducible refine heap_set_ne ?_ ?_ _) ; rotate_left ; (focus (first | omega | (simp ; done) | (simp ; omega))))) | (with_reducible refine heap_old ?_) | (with_reducible refine Below.drew ?_) | (with_reducible refine below_set ?_ _ _) | (focus ((with_reducible refine Below.setCell ?_ ?_ _) ; rotate_left ; (focus (first | omega | (simp ; done) | (simp ; omega))))) | (focus ((with_reducible refine Below.alloc ?_ ?_ _) ; rotate_left ; (focus (first | omega | (simp ; done) | (simp ; omega))))) | (with_reducible rfl) | (focus (simp ; done))))
end Go.Proofs.YtjeaobknojmbpaaDoor
