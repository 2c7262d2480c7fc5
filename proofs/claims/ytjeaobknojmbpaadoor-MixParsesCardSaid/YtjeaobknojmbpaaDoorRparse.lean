/-
  The reference's Parse.
-/
import Derived.Test.YtjeaobknojmbpaaDoorTexts
namespace Go.Proofs.YtjeaobknojmbpaaDoor
open Go.ChangeShapes Go.WideShapes Go.ChangeAt Go.RowKit Go.Deep
set_option linter.unusedVariables false
set_option linter.unusedSimpArgs false

/-- The number that digits tell. -/
def hexV (l : List UInt8) : Nat := l.foldl (fun v c => v * 16 + nibV c.toNat) 0
def allNib (l : List UInt8) : Bool := l.all fun c => nibB c.toNat
theorem hexV_snoc (l : List UInt8) (c : UInt8) : hexV (l ++ [c]) = hexV l * 16 + nibV c.toNat := by simp [hexV]
theorem hexV_lt' : ∀ (l : List UInt8) (v : Nat), l.foldl (fun v c => v * 16 + nibV c.toNat) v + 1 ≤ (v + 1) * 16 ^ l.length
  | [], v => by simp
  | b :: r, v => by
    have ih := hexV_lt' r (v * 16 + nibV b.toNat)
    have hb := nibV_lt b.toNat
    have h2 : (v * 16 + nibV b.toNat + 1) * 16 ^ r.length ≤ ((v + 1) * 16) * 16 ^ r.length := Nat.mul_le_mul_right _ (by omega)
    rw [List.foldl_cons, List.length_cons, Nat.pow_succ, Nat.mul_comm (16 ^ r.length) 16, ← Nat.mul_assoc]
    omega
theorem hexV_lt (l : List UInt8) : hexV l < 16 ^ l.length := by
  have := hexV_lt' l 0
  unfold hexV
  omega
theorem hexV_step {v : Nat} {l : List UInt8} (hv : v = hexV l) (hl : l.length ≤ 15) (c : UInt8) :
    IntKind.u64.wrap (IntKind.u64.wrap ((v : Int) * 16) + ((nibV c.toNat : Nat) : Int)) = ((hexV (l ++ [c]) : Nat) : Int) := by
  have h1 := hexV_lt l
  have h2 : 16 ^ l.length ≤ 16 ^ 15 := Nat.pow_le_pow_right (by omega) hl
  have h3 : (16 : Nat) ^ 15 = 1152921504606846976 := by decide
  have hb := nibV_lt c.toNat
  rw [hexV_snoc, ← hv]
  rw [← hv] at h1
  rw [u64_wrap_id ((v : Int) * 16) (by omega) (by omega), u64_wrap_id _ (by omega) (by omega)]
  omega

def rparV (l : List UInt8) : Value := if l.length = 32 ∧ allNib l = true then .tuple #[sv (hexV (l.take 16)) (hexV (l.drop 16)), .int .i64 0] else .tuple #[sv 0 0, .int .i64 23]

set_option maxHeartbeats 8000000 in
theorem rparse_any (s : ByteArray) (w : World) :
    Calls Tryd.prog 24 #[.string s] w fun e w' => e = .returned (rparV s.data.toList) ∧ Below w.heap.size w w' := by
  obtain ⟨l, hl⟩ : ∃ l, l = s.data.toList := ⟨_, rfl⟩
  have hlen : l.length = s.size := by rw [hl]; rfl
  have HX : Hid (s.data.toList = l) := hl.symm
  rw [← hl]
  clear hl
  by_cases h32 : s.size = 32
  · go_enter Tryd.func24, Tryd.ntmps24
    go_wp2_with fail
    have g0 : ((w.alloc (.cells #[.int .u64 0, .int .u64 0] 26 (0, 0))).alloc (.cells #[.int .u64 0, .int .u64 0] 26 (0, 0))).heap[w.heap.size]? = some (.cells #[.int .u64 0, .int .u64 0] 26 (0, 0)) := by (repeat (first | (with_reducible assumption) | (with_reducible exact Below.refl _ _) | (with_reducible refine heap_drew ?_) | (focus ((with_reducible refine heap_new ?_) ; simp ; done)) | (with_reducible apply heap_set_to) | (focus ((with_reducible refine heap_set_ne ?_ ?_ _) ; rotate_left ; (focus (first | omega | (simp ; done) | (simp ; omega))))) | (with_reducible refine heap_old ?_) | (with_reducible refine Below.drew ?_) | (with_reducible refine below_set ?_ _ _) | (focus ((with_reducible refine Below.setCell ?_ ?_ _) ; rotate_left ; (focus (first | omega | (simp ; done) | (simp ; omega))))) | (focus ((with_reducible refine Below.alloc ?_ ?_ _) ; rotate_left ; (focus (first | omega | (simp ; done) | (simp ; omega))))) | (with_reducible rfl) | (focus (simp ; done))))
    have g1 : ((w.alloc (.cells #[.int .u64 0, .int .u64 0] 26 (0, 0))).alloc (.cells #[.int .u64 0, .int .u64 0] 26 (0, 0))).heap[w.heap.size + 1]? = some (.cells #[.int .u64 0, .int .u64 0] 26 (0, 0)) := by (repeat (first | (with_reducible assumption) | (with_reducible exact Below.refl _ _) | (with_reducible refine heap_drew ?_) | (focus ((with_reducible refine heap_new ?_) ; simp ; done)) | (with_reducible apply heap_set_to) | (focus ((with_reducible refine heap_set_ne ?_ ?_ _) ; rotate_left ; (focus (first | omega | (simp ; done) | (simp ; omega))))) | (with_reducible refine heap_old ?_) | (with_reducible refine Below.drew ?_) | (with_reducible refine below_set ?_ _ _) | (focus ((with_reducible refine Below.setCell ?_ ?_ _) ; rotate_left ; (focus (first | omega | (simp ; done) | (simp ; omega))))) | (focus ((with_reducible refine Below.alloc ?_ ?_ _) ; rotate_left ; (focus (first | omega | (simp ; done) | (simp ; omega))))) | (with_reducible rfl) | (focus (simp ; done))))
    have hb : Below w.heap.size w ((w.alloc (.cells #[.int .u64 0, .int .u64 0] 26 (0, 0))).alloc (.cells #[.int .u64 0, .int .u64 0] 26 (0, 0))) := by (repeat (first | (with_reducible assumption) | (with_reducible exact Below.refl _ _) | (with_reducible refine heap_drew ?_) | (focus ((with_reducible refine heap_new ?_) ; simp ; done)) | (with_reducible apply heap_set_to) | (focus ((with_reducible refine heap_set_ne ?_ ?_ _) ; rotate_left ; (focus (first | omega | (simp ; done) | (simp ; omega))))) | (with_reducible refine heap_old ?_) | (with_reducible refine Below.drew ?_) | (with_reducible refine below_set ?_ _ _) | (focus ((with_reducible refine Below.setCell ?_ ?_ _) ; rotate_left ; (focus (first | omega | (simp ; done) | (simp ; omega))))) | (focus ((with_reducible refine Below.alloc ?_ ?_ _) ; rotate_left ; (focus (first | omega | (simp ; done) | (simp ; omega))))) | (with_reducible rfl) | (focus (simp ; done))))
    generalize hws : (w.alloc (.cells #[.int .u64 0, .int .u64 0] 26 (0, 0))).alloc (.cells #[.int .u64 0, .int .u64 0] 26 (0, 0)) = ws at *
    clear hws
    go_loopw [5] (fun c wr => ∃ (i A B : Nat), i ≤ 32 ∧ c = .int .i64 i ∧ Hid (A = hexV (l.take (min i 16)) ∧ B = hexV ((l.drop 16).take (i - 16)) ∧ allNib (l.take i) = true) ∧
        wr.heap[w.heap.size]? = some (.cells #[.int .u64 0, .int .u64 0] 26 (0, 0)) ∧ wr.heap[w.heap.size + 1]? = some (.cells #[.int .u64 A, .int .u64 B] 26 (0, 0)) ∧ Below w.heap.size w wr) (fun c _ => 32 - (intOf c).toNat)
    case atStart => exact ⟨0, 0, 0, by omega, rfl, ⟨rfl, rfl, rfl⟩, g0, g1, hb⟩
    case round =>
      clear g0 g1 hb
      obtain ⟨i, A, B, hi, rfl, HAB, g0, g1, hb⟩ := hrel
      have q0 := blk2 g0
      have q1 := blk2 g1
      by_cases hlt : i < 32
      · have hit : i < s.size := by omega
        obtain ⟨c, hct⟩ : ∃ c : UInt8, s[i]'hit = c := ⟨_, rfl⟩
        have hcc : l[i]'(by omega) = c := by
          have := HX.out
          subst this
          rw [get_list]; exact hct
        have HCC : Hid (l[i]'(by omega) = c) := hcc
        clear hcc
        have htk : l.take (i + 1) = l.take i ++ [c] := by rw [← HCC.out]; exact List.take_succ_eq_append_getElem (by omega)
        have HTK : Hid (l.take (i + 1) = l.take i ++ [c]) := htk
        clear htk
        have hc8 : c.toNat < 256 := c.toNat_lt
        have hh : (nibB c.toNat = false ∧ (c.toNat < 48 ∨ (48 ≤ c.toNat ∧ 57 < c.toNat ∧ c.toNat < 97) ∨ (48 ≤ c.toNat ∧ 57 < c.toNat ∧ 97 ≤ c.toNat ∧ 102 < c.toNat))) ∨
            (nibB c.toNat = true ∧ 48 ≤ c.toNat ∧ c.toNat ≤ 57 ∧ nibV c.toNat = c.toNat - 48) ∨ (nibB c.toNat = true ∧ 57 < c.toNat ∧ 97 ≤ c.toNat ∧ c.toNat ≤ 102 ∧ nibV c.toNat = c.toNat - 87) := by
          unfold nibB nibV
          by_cases h1 : 48 ≤ c.toNat ∧ c.toNat ≤ 57
          · right; left; simp [h1]
          · by_cases h2 : 97 ≤ c.toNat ∧ c.toNat ≤ 102
            · right; right; rw [if_neg h1, if_pos h2]; simp [h2]; omega
            · left; simp only [h1, h2, decide_false, Bool.or_self, true_and]; omega
        rcases hh with ⟨hf, hh⟩ | hh
        · have HF : Hid (rparV l = .tuple #[sv 0 0, .int .i64 23]) := by
            unfold Hid rparV
            rw [if_neg]
            intro h
            have := List.all_eq_true.1 h.2 _ (List.getElem_mem (l := l) (n := i) (by omega))
            rw [HCC.out, hf] at this
            cases this
          clear hf
          rcases hh with hh | ⟨hh, h2, h3⟩ | ⟨hh, h2, h3, h4⟩
          all_goals
            go_wp2_with fail
            rw [HF.out]
            refine bodyPost_ret (v := .tuple #[sv 0 0, .int .i64 23]) (by simp [results, Tryd.results24, go_sem, q0]) rfl ⟨rfl, ?_⟩
            (repeat (first | (with_reducible assumption) | (with_reducible exact Below.refl _ _) | (with_reducible refine heap_drew ?_) | (focus ((with_reducible refine heap_new ?_) ; simp ; done)) | (with_reducible apply heap_set_to) | (focus ((with_reducible refine heap_set_ne ?_ ?_ _) ; rotate_left ; (focus (first | omega | (simp ; done) | (simp ; omega))))) | (with_reducible refine heap_old ?_) | (with_reducible refine Below.drew ?_) | (with_reducible refine below_set ?_ _ _) | (focus ((with_reducible refine Below.setCell ?_ ?_ _) ; rotate_left ; (focus (first | omega | (simp ; done) | (simp ; omega))))) | (focus ((with_reducible refine Below.alloc ?_ ?_ _) ; rotate_left ; (focus (first | omega | (simp ; done) | (simp ; omega))))) | (with_reducible rfl) | (focus (simp ; done))))
        · have hd : nibB c.toNat = true ∧ ((48 ≤ c.toNat ∧ c.toNat ≤ 57 ∧ nibV c.toNat = c.toNat - 48) ∨ (57 < c.toNat ∧ 97 ≤ c.toNat ∧ c.toNat ≤ 102 ∧ nibV c.toNat = c.toNat - 87)) := by
            rcases hh with ⟨h1, h2⟩ | ⟨h1, h2⟩
            · exact ⟨h1, Or.inl h2⟩
            · exact ⟨h1, Or.inr h2⟩
          clear hh
          obtain ⟨hnb, hd⟩ := hd
          have HNB : Hid (nibB c.toNat = true) := hnb
          clear hnb
          have HAN : Hid (allNib (l.take (i + 1)) = true) := by
            unfold Hid allNib
            rw [HTK.out, List.all_append]
            have := HAB.out.2.2
            unfold allNib at this
            rw [this]
            simpa using HNB.out
          by_cases h16 : i < 16
          · have hq : (i : Int) / 16 = 0 := by omega
            have HV : Hid (_ = _) := hexV_step (v := A) (l := l.take i) (by rw [HAB.out.1, show min i 16 = i by omega]) (by rw [List.length_take]; omega) c
            have HE1 : Hid (hexV (l.take i ++ [c]) = hexV (l.take (min (i + 1) 16))) := by unfold Hid; rw [show min (i + 1) 16 = i + 1 by omega, HTK.out]
            have HE2 : Hid (B = hexV ((l.drop 16).take (i + 1 - 16))) := by unfold Hid; rw [HAB.out.2.1, show i + 1 - 16 = i - 16 by omega]
            rcases hd with ⟨h1, h2, h3⟩ | ⟨h0, h1, h2, h3⟩
            · have HN : Hid (((nibV c.toNat : Nat) : Int) = (c.toNat : Int) - 48) := by unfold Hid; omega
              clear h3
              go_wp2_with fail
              go_roundw
              case rel =>
                refine ⟨i + 1, hexV (l.take (min (i + 1) 16)), B, by omega, by go_num, ⟨rfl, HE2.out, HAN.out⟩, ?_, ?_, ?_⟩
                · (repeat (first | (with_reducible assumption) | (with_reducible exact Below.refl _ _) | (with_reducible refine heap_drew ?_) | (focus ((with_reducible refine heap_new ?_) ; simp ; done)) | (with_reducible apply heap_set_to) | (focus ((with_reducible refine heap_set_ne ?_ ?_ _) ; rotate_left ; (focus (first | omega | (simp ; done) | (simp ; omega))))) | (with_reducible refine heap_old ?_) | (with_reducible refine Below.drew ?_) | (with_reducible refine below_set ?_ _ _) | (focus ((with_reducible refine Below.setCell ?_ ?_ _) ; rotate_left ; (focus (first | omega | (simp ; done) | (simp ; omega))))) | (focus ((with_reducible refine Below.alloc ?_ ?_ _) ; rotate_left ; (focus (first | omega | (simp ; done) | (simp ; omega))))) | (with_reducible rfl) | (focus (simp ; done))))
                · rw [← HE1.out, ← HV.out, HN.out]
                  (repeat (first | (with_reducible assumption) | (with_reducible exact Below.refl _ _) | (with_reducible refine heap_drew ?_) | (focus ((with_reducible refine heap_new ?_) ; simp ; done)) | (with_reducible apply heap_set_to) | (focus ((with_reducible refine heap_set_ne ?_ ?_ _) ; rotate_left ; (focus (first | omega | (simp ; done) | (simp ; omega))))) | (with_reducible refine heap_old ?_) | (with_reducible refine Below.drew ?_) | (with_reducible refine below_set ?_ _ _) | (focus ((with_reducible refine Below.setCell ?_ ?_ _) ; rotate_left ; (focus (first | omega | (simp ; done) | (simp ; omega))))) | (focus ((with_reducible refine Below.alloc ?_ ?_ _) ; rotate_left ; (focus (first | omega | (simp ; done) | (simp ; omega))))) | (with_reducible rfl) | (focus (simp ; done))))
                · (repeat (first | (with_reducible assumption) | (with_reducible exact Below.refl _ _) | (with_reducible refine heap_drew ?_) | (focus ((with_reducible refine heap_new ?_) ; simp ; done)) | (with_reducible apply heap_set_to) | (focus ((with_reducible refine heap_set_ne ?_ ?_ _) ; rotate_left ; (focus (first | omega | (simp ; done) | (simp ; omega))))) | (with_reducible refine heap_old ?_) | (with_reducible refine Below.drew ?_) | (with_reducible refine below_set ?_ _ _) | (focus ((with_reducible refine Below.setCell ?_ ?_ _) ; rotate_left ; (focus (first | omega | (simp ; done) | (simp ; omega))))) | (focus ((with_reducible refine Below.alloc ?_ ?_ _) ; rotate_left ; (focus (first | omega | (simp ; done) | (simp ; omega))))) | (with_reducible rfl) | (focus (simp ; done))))
              case measure => simp [intOf]; omega
            · have HN : Hid (((nibV c.toNat : Nat) : Int) = (c.toNat : Int) - 97 + 10) := by unfold Hid; omega
              clear h3
              go_wp2_with fail
              go_roundw
              case rel =>
                refine ⟨i + 1, hexV (l.take (min (i + 1) 16)), B, by omega, by go_num, ⟨rfl, HE2.out, HAN.out⟩, ?_, ?_, ?_⟩
                · (repeat (first | (with_reducible assumption) | (with_reducible exact Below.refl _ _) | (with_reducible refine heap_drew ?_) | (focus ((with_reducible refine heap_new ?_) ; simp ; done)) | (with_reducible apply heap_set_to) | (focus ((with_reducible refine heap_set_ne ?_ ?_ _) ; rotate_left ; (focus (first | omega | (simp ; done) | (simp ; omega))))) | (with_reducible refine heap_old ?_) | (with_reducible refine Below.drew ?_) | (with_reducible refine below_set ?_ _ _) | (focus ((with_reducible refine Below.setCell ?_ ?_ _) ; rotate_left ; (focus (first | omega | (simp ; done) | (simp ; omega))))) | (focus ((with_reducible refine Below.alloc ?_ ?_ _) ; rotate_left ; (focus (first | omega | (simp ; done) | (simp ; omega))))) | (with_reducible rfl) | (focus (simp ; done))))
                · rw [← HE1.out, ← HV.out, HN.out]
                  (repeat (first | (with_reducible assumption) | (with_reducible exact Below.refl _ _) | (with_reducible refine heap_drew ?_) | (focus ((with_reducible refine heap_new ?_) ; simp ; done)) | (with_reducible apply heap_set_to) | (focus ((with_reducible refine heap_set_ne ?_ ?_ _) ; rotate_left ; (focus (first | omega | (simp ; done) | (simp ; omega))))) | (with_reducible refine heap_old ?_) | (with_reducible refine Below.drew ?_) | (with_reducible refine below_set ?_ _ _) | (focus ((with_reducible refine Below.setCell ?_ ?_ _) ; rotate_left ; (focus (first | omega | (simp ; done) | (simp ; omega))))) | (focus ((with_reducible refine Below.alloc ?_ ?_ _) ; rotate_left ; (focus (first | omega | (simp ; done) | (simp ; omega))))) | (with_reducible rfl) | (focus (simp ; done))))
                · (repeat (first | (with_reducible assumption) | (with_reducible exact Below.refl _ _) | (with_reducible refine heap_drew ?_) | (focus ((with_reducible refine heap_new ?_) ; simp ; done)) | (with_reducible apply heap_set_to) | (focus ((with_reducible refine heap_set_ne ?_ ?_ _) ; rotate_left ; (focus (first | omega | (simp ; done) | (simp ; omega))))) | (with_reducible refine heap_old ?_) | (with_reducible refine Below.drew ?_) | (with_reducible refine below_set ?_ _ _) | (focus ((with_reducible refine Below.setCell ?_ ?_ _) ; rotate_left ; (focus (first | omega | (simp ; done) | (simp ; omega))))) | (focus ((with_reducible refine Below.alloc ?_ ?_ _) ; rotate_left ; (focus (first | omega | (simp ; done) | (simp ; omega))))) | (with_reducible rfl) | (focus (simp ; done))))
              case measure => simp [intOf]; omega
          · have hq : (i : Int) / 16 = 1 := by omega
            have hg : (l.drop 16)[i - 16]'(by rw [List.length_drop]; omega) = c := by rw [List.getElem_drop]; rw [← HCC.out]; congr 1; omega
            have HV : Hid (_ = _) := hexV_step (v := B) (l := (l.drop 16).take (i - 16)) HAB.out.2.1 (by rw [List.length_take]; omega) c
            have HE1 : Hid (hexV ((l.drop 16).take (i - 16) ++ [c]) = hexV ((l.drop 16).take (i + 1 - 16))) := by
              unfold Hid
              rw [show i + 1 - 16 = i - 16 + 1 by omega, List.take_succ_eq_append_getElem (by rw [List.length_drop]; omega), hg]
            have HE2 : Hid (A = hexV (l.take (min (i + 1) 16))) := by unfold Hid; rw [HAB.out.1, show min (i + 1) 16 = min i 16 by omega]
            clear hg
            rcases hd with ⟨h1, h2, h3⟩ | ⟨h0, h1, h2, h3⟩
            · have HN : Hid (((nibV c.toNat : Nat) : Int) = (c.toNat : Int) - 48) := by unfold Hid; omega
              clear h3
              go_wp2_with fail
              go_roundw
              case rel =>
                refine ⟨i + 1, A, hexV ((l.drop 16).take (i + 1 - 16)), by omega, by go_num, ⟨HE2.out, rfl, HAN.out⟩, ?_, ?_, ?_⟩
                · (repeat (first | (with_reducible assumption) | (with_reducible exact Below.refl _ _) | (with_reducible refine heap_drew ?_) | (focus ((with_reducible refine heap_new ?_) ; simp ; done)) | (with_reducible apply heap_set_to) | (focus ((with_reducible refine heap_set_ne ?_ ?_ _) ; rotate_left ; (focus (first | omega | (simp ; done) | (simp ; omega))))) | (with_reducible refine heap_old ?_) | (with_reducible refine Below.drew ?_) | (with_reducible refine below_set ?_ _ _) | (focus ((with_reducible refine Below.setCell ?_ ?_ _) ; rotate_left ; (focus (first | omega | (simp ; done) | (simp ; omega))))) | (focus ((with_reducible refine Below.alloc ?_ ?_ _) ; rotate_left ; (focus (first | omega | (simp ; done) | (simp ; omega))))) | (with_reducible rfl) | (focus (simp ; done))))
                · rw [← HE1.out, ← HV.out, HN.out]
                  (repeat (first | (with_reducible assumption) | (with_reducible exact Below.refl _ _) | (with_reducible refine heap_drew ?_) | (focus ((with_reducible refine heap_new ?_) ; simp ; done)) | (with_reducible apply heap_set_to) | (focus ((with_reducible refine heap_set_ne ?_ ?_ _) ; rotate_left ; (focus (first | omega | (simp ; done) | (simp ; omega))))) | (with_reducible refine heap_old ?_) | (with_reducible refine Below.drew ?_) | (with_reducible refine below_set ?_ _ _) | (focus ((with_reducible refine Below.setCell ?_ ?_ _) ; rotate_left ; (focus (first | omega | (simp ; done) | (simp ; omega))))) | (focus ((with_reducible refine Below.alloc ?_ ?_ _) ; rotate_left ; (focus (first | omega | (simp ; done) | (simp ; omega))))) | (with_reducible rfl) | (focus (simp ; done))))
                · (repeat (first | (with_reducible assumption) | (with_reducible exact Below.refl _ _) | (with_reducible refine heap_drew ?_) | (focus ((with_reducible refine heap_new ?_) ; simp ; done)) | (with_reducible apply heap_set_to) | (focus ((with_reducible refine heap_set_ne ?_ ?_ _) ; rotate_left ; (focus (first | omega | (simp ; done) | (simp ; omega))))) | (with_reducible refine heap_old ?_) | (with_reducible refine Below.drew ?_) | (with_reducible refine below_set ?_ _ _) | (focus ((with_reducible refine Below.setCell ?_ ?_ _) ; rotate_left ; (focus (first | omega | (simp ; done) | (simp ; omega))))) | (focus ((with_reducible refine Below.alloc ?_ ?_ _) ; rotate_left ; (focus (first | omega | (simp ; done) | (simp ; omega))))) | (with_reducible rfl) | (focus (simp ; done))))
              case measure => simp [intOf]; omega
            · have HN : Hid (((nibV c.toNat : Nat) : Int) = (c.toNat : Int) - 97 + 10) := by unfold Hid; omega
              clear h3
              go_wp2_with fail
              go_roundw
              case rel =>
                refine ⟨i + 1, A, hexV ((l.drop 16).take (i + 1 - 16)), by omega, by go_num, ⟨HE2.out, rfl, HAN.out⟩, ?_, ?_, ?_⟩
                · (repeat (first | (with_reducible assumption) | (with_reducible exact Below.refl _ _) | (with_reducible refine heap_drew ?_) | (focus ((with_reducible refine heap_new ?_) ; simp ; done)) | (with_reducible apply heap_set_to) | (focus ((with_reducible refine heap_set_ne ?_ ?_ _) ; rotate_left ; (focus (first | omega | (simp ; done) | (simp ; omega))))) | (with_reducible refine heap_old ?_) | (with_reducible refine Below.drew ?_) | (with_reducible refine below_set ?_ _ _) | (focus ((with_reducible refine Below.setCell ?_ ?_ _) ; rotate_left ; (focus (first | omega | (simp ; done) | (simp ; omega))))) | (focus ((with_reducible refine Below.alloc ?_ ?_ _) ; rotate_left ; (focus (first | omega | (simp ; done) | (simp ; omega))))) | (with_reducible rfl) | (focus (simp ; done))))
                · rw [← HE1.out, ← HV.out, HN.out]
                  (repeat (first | (with_reducible assumption) | (with_reducible exact Below.refl _ _) | (with_reducible refine heap_drew ?_) | (focus ((with_reducible refine heap_new ?_) ; simp ; done)) | (with_reducible apply heap_set_to) | (focus ((with_reducible refine heap_set_ne ?_ ?_ _) ; rotate_left ; (focus (first | omega | (simp ; done) | (simp ; omega))))) | (with_reducible refine heap_old ?_) | (with_reducible refine Below.drew ?_) | (with_reducible refine below_set ?_ _ _) | (focus ((with_reducible refine Below.setCell ?_ ?_ _) ; rotate_left ; (focus (first | omega | (simp ; done) | (simp ; omega))))) | (focus ((with_reducible refine Below.alloc ?_ ?_ _) ; rotate_left ; (focus (first | omega | (simp ; done) | (simp ; omega))))) | (with_reducible rfl) | (focus (simp ; done))))
                · (repeat (first | (with_reducible assumption) | (with_reducible exact Below.refl _ _) | (with_reducible refine heap_drew ?_) | (focus ((with_reducible refine heap_new ?_) ; simp ; done)) | (with_reducible apply heap_set_to) | (focus ((with_reducible refine heap_set_ne ?_ ?_ _) ; rotate_left ; (focus (first | omega | (simp ; done) | (simp ; omega))))) | (with_reducible refine heap_old ?_) | (with_reducible refine Below.drew ?_) | (with_reducible refine below_set ?_ _ _) | (focus ((with_reducible refine Below.setCell ?_ ?_ _) ; rotate_left ; (focus (first | omega | (simp ; done) | (simp ; omega))))) | (focus ((with_reducible refine Below.alloc ?_ ?_ _) ; rotate_left ; (focus (first | omega | (simp ; done) | (simp ; omega))))) | (with_reducible rfl) | (focus (simp ; done))))
              case measure => simp [intOf]; omega
      · obtain rfl : i = 32 := by omega
        have HR : Hid (rparV l = .tuple #[sv A B, .int .i64 0]) := by
          obtain ⟨h1, h2, h3⟩ := HAB.out
          unfold Hid rparV
          rw [List.take_of_length_le (by omega)] at h3
          rw [if_pos ⟨by omega, h3⟩, h1, h2, List.take_of_length_le (l := l.drop 16) (by rw [List.length_drop]; omega)]
          rfl
        clear HAB
        go_wp2_with fail
        rw [HR.out]
        refine bodyPost_ret (v := .tuple #[sv A B, .int .i64 0]) (by simp [results, Tryd.results24, go_sem, q0]) rfl ⟨rfl, ?_⟩
        (repeat (first | (with_reducible assumption) | (with_reducible exact Below.refl _ _) | (with_reducible refine heap_drew ?_) | (focus ((with_reducible refine heap_new ?_) ; simp ; done)) | (with_reducible apply heap_set_to) | (focus ((with_reducible refine heap_set_ne ?_ ?_ _) ; rotate_left ; (focus (first | omega | (simp ; done) | (simp ; omega))))) | (with_reducible refine heap_old ?_) | (with_reducible refine Below.drew ?_) | (with_reducible refine below_set ?_ _ _) | (focus ((with_reducible refine Below.setCell ?_ ?_ _) ; rotate_left ; (focus (first | omega | (simp ; done) | (simp ; omega))))) | (focus ((with_reducible refine Below.alloc ?_ ?_ _) ; rotate_left ; (focus (first | omega | (simp ; done) | (simp ; omega))))) | (with_reducible rfl) | (focus (simp ; done))))
  · have h33 : ((s.size : Int) == 32) = false := by rw [beq_eq_false_iff_ne]; omega
    have HR : Hid (rparV l = .tuple #[sv 0 0, .int .i64 23]) := by unfold Hid rparV; rw [if_neg (by omega)]
    go_enter Tryd.func24, Tryd.ntmps24
    go_wp2_with fail
    rw [HR.out]
    refine bodyPost_ret (v := .tuple #[sv 0 0, .int .i64 23]) (by simp [results, Tryd.results24, go_sem]) rfl ⟨rfl, ?_⟩
    (repeat (first | (with_reducible assumption) | (with_reducible exact Below.refl _ _) | (with_reducible refine heap_drew ?_) | (focus ((with_reducible refine heap_new ?_) ; simp ; done)) | (with_reducible apply heap_set_to) | (focus ((with_reducible refine heap_set_ne ?_ ?_ _) ; rotate_left ; (focus (first | omega | (simp ; done) | (simp ; omega))))) | (with_reducible refine heap_old ?_) | (with_reducible refine Below.drew ?_) | (with_reducible refine below_set ?_ _ _) | (focus ((with_reducible refine Below.setCell ?_ ?_ _) ; rotate_left ; (focus (first | omega | (simp ; done) | (simp ; omega))))) | (focus ((with_reducible refine Below.alloc ?_ ?_ _) ; rotate_left ; (focus (first | omega | (simp ; done) | (simp ; omega))))) | (with_reducible rfl) | (focus (simp ; done))))
end Go.Proofs.YtjeaobknojmbpaaDoor
