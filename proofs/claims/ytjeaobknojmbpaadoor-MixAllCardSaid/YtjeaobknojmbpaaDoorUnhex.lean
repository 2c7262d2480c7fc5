/-
  nums.Unhex: hexadecimal digits back to bytes.
-/
import Derived.Test.YtjeaobknojmbpaaDoorHex
namespace Go.Proofs.YtjeaobknojmbpaaDoor
open Go.ChangeShapes Go.WideShapes Go.ChangeAt Go.RowKit Go.Deep
set_option linter.unusedVariables false
set_option linter.unusedSimpArgs false

def nibB (c : Nat) : Bool := decide (48 ≤ c ∧ c ≤ 57) || decide (97 ≤ c ∧ c ≤ 102)
def nibV (c : Nat) : Nat := if 48 ≤ c ∧ c ≤ 57 then c - 48 else if 97 ≤ c ∧ c ≤ 102 then c - 87 else 0
theorem nibV_lt (c : Nat) : nibV c < 16 := by unfold nibV; split <;> (try split) <;> omega
def unhexL : List UInt8 → Option (List UInt8)
  | [] => some []
  | [_] => none
  | a :: b :: r => if nibB a.toNat && nibB b.toNat then (unhexL r).map (UInt8.ofNat (nibV a.toNat * 16 + nibV b.toNat) :: ·) else none

theorem nib_any (c : Nat) (hc : c < 256) (w : World) :
    Calls Tryd.prog 41 #[.int .u8 c] w fun e w' => e = .returned (.tuple #[.int .u8 (nibV c), .bool (nibB c)]) ∧ w' = w := by
  by_cases h1 : 48 ≤ c ∧ c ≤ 57
  · obtain ⟨h2, h3⟩ := h1
    have e1 : nibV c = c - 48 := by unfold nibV; rw [if_pos ⟨h2, h3⟩]
    have e2 : nibB c = true := by simp [nibB, h2, h3]
    rw [e1, e2]
    have e3 : ((c - 48 : Nat) : Int) = (c : Int) - 48 := by omega
    rw [e3]
    clear e1 e2 e3
    go_enter Tryd.func41, Tryd.ntmps41
    go_wp2_with fail
    refine bodyPost_ret (v := .tuple #[.int .u8 ((c : Int) - 48), .bool true]) (by simp [results, Tryd.results41, go_sem]) rfl ⟨rfl, rfl⟩
  · by_cases h4 : 97 ≤ c ∧ c ≤ 102
    · obtain ⟨h2, h3⟩ := h4
      have e1 : nibV c = c - 87 := by unfold nibV; rw [if_neg h1, if_pos ⟨h2, h3⟩]
      have e2 : nibB c = true := by simp [nibB, h2, h3]
      rw [e1, e2]
      have e3 : ((c - 87 : Nat) : Int) = (c : Int) - 97 + 10 := by omega
      rw [e3]
      have h5 : 57 < c := by omega
      clear e1 e2 e3 h1
      go_enter Tryd.func41, Tryd.ntmps41
      go_wp2_with fail
      refine bodyPost_ret (v := .tuple #[.int .u8 ((c : Int) - 97 + 10), .bool true]) (by simp [results, Tryd.results41, go_sem]) rfl ⟨rfl, rfl⟩
    · have e1 : nibV c = 0 := by unfold nibV; rw [if_neg h1, if_neg h4]
      have e2 : nibB c = false := by simp only [nibB, Bool.or_eq_false_iff, decide_eq_false_iff_not]; exact ⟨h1, h4⟩
      rw [e1, e2]
      clear e1 e2
      have hh : c < 48 ∨ (48 ≤ c ∧ 57 < c ∧ c < 97) ∨ (48 ≤ c ∧ 57 < c ∧ 97 ≤ c ∧ 102 < c) := by omega
      clear h1 h4
      rcases hh with hh | ⟨hh, h2, h3⟩ | ⟨hh, h2, h3, h4⟩
      all_goals
        go_enter Tryd.func41, Tryd.ntmps41
        go_wp2_with fail
        refine bodyPost_ret (v := .tuple #[.int .u8 0, .bool false]) (by simp [results, Tryd.results41, go_sem]) rfl ⟨rfl, rfl⟩

def unV (l : List UInt8) : Value := match unhexL l with
  | some bs => .tuple #[.string ⟨bs.toArray⟩, .int .i64 0]
  | none => .tuple #[.string ⟨#[]⟩, .int .i64 23]

theorem unhexL_odd : ∀ (l : List UInt8), l.length % 2 = 1 → unhexL l = none
  | [], h => by simp at h
  | [_], _ => rfl
  | a :: b :: r, h => by
    have hr : r.length % 2 = 1 := by simp at h; omega
    rw [unhexL, unhexL_odd r hr]; simp

theorem two_list {r : ByteArray} (h : 2 ≤ r.size) : r.data.toList = r[0]'(by omega) :: r[1]'(by omega) :: (r.extract 2 r.size).data.toList := by
  rw [toList_extract]
  have h0 : 0 < r.data.toList.length := by rw [len_list]; omega
  have h1 : 1 < r.data.toList.length := by rw [len_list]; omega
  rw [← get_list r 0 (by omega), ← get_list r 1 (by omega)]
  have e0 : r.data.toList = r.data.toList.drop 0 := rfl
  conv => lhs; rw [e0, List.drop_eq_getElem_cons h0, List.drop_eq_getElem_cons h1]
theorem or_nib {x y : Nat} (hx : x < 16) (hy : y < 16) : bits BinOp.or IntKind.u8 ((x : Int) * 16) (y : Int) = ((UInt8.ofNat (x * 16 + y)).toNat : Int) := by
  have w8 : ∀ n : Int, 0 ≤ n → n < 2 ^ 8 → IntKind.u8.wrap n = n := fun n h0 h1 => by simp [IntKind.wrap, IntKind.bits, IntKind.signed]; omega
  rw [bits_join .u8 8 (by decide) w8 4 _ _ (by omega) (by omega) (by omega) (by omega) (by omega) (by omega)]
  simp
  omega

set_option maxHeartbeats 4000000 in
theorem unhex_any (s : ByteArray) (w : World) (hs : s.size ≤ 140737488351232) :
    Calls Tryd.prog 39 #[.string s] w fun e w' => e = .returned (unV s.data.toList) ∧ Below w.heap.size w w' := by
  obtain ⟨i0, hi, hz0, hz1, hz2⟩ := info_parts infoByte
  have HI : Hid (_ ∧ _ ∧ _ ∧ _) := ⟨hi, hz0, hz1, hz2⟩
  clear hi hz0 hz1 hz2
  by_cases hodd : s.size % 2 = 1
  · have e1 : unV s.data.toList = .tuple #[.string ⟨#[]⟩, .int .i64 23] := by unfold unV; rw [unhexL_odd _ hodd]
    rw [e1]
    clear e1
    go_enter Tryd.func39, Tryd.ntmps39
    go_wp2_with fail
    refine bodyPost_ret (v := .tuple #[.string ⟨#[]⟩, .int .i64 23]) (by simp [results, Tryd.results39, go_sem]) rfl ⟨rfl, Below.refl _ _⟩
  · have hev : s.size % 2 = 0 := by omega
    clear hodd
    go_enter Tryd.func39, Tryd.ntmps39
    go_wp2_with (first
      | (at_make; (refine wpList_make_own _ rfl _ _ 64 rfl w.heap.size 5 i0 _ 1 Tryd.underlying64 HI.out.1 HI.out.2.1 HI.out.2.2.1 .i64 .i64 _ (s.size / 2) rfl rfl ?m1 ?m2 ?m3 ?m4 ?_))
      | fail)
    case m1 => omega
    case m2 => rw [HI.out.2.2.2]; omega
    case m3 => unfold maxLen; omega
    case m4 => exact Nat.le_refl _
    intro w1 hown hg1
    have hb1 : Below w.heap.size w w1 := (Below.refl _ _).grown hg1 (Nat.le_refl _) (fun k h => by cases h)
    have hlt1 : w.heap.size < w1.heap.size := (hown.lt _ rfl).2
    obtain ⟨l, hl⟩ : ∃ l, l = s.data.toList := ⟨_, rfl⟩
    have hlen : l.length = s.size := by rw [hl]; rfl
    have HX : Hid (s.data.toList = l) := hl.symm
    clear hl
    have HO1 : Hid (w1.ownsRow w.heap.size 5 1 (.slice (some ⟨w.heap.size, 0, none⟩) 0 (s.size / 2)) 0 (bvs [])) := hown
    clear hown hg1
    go_wp2_with fail
    go_loopw [0, 4] (fun x v wr => ∃ (r : ByteArray) (k : Nat) (done : List UInt8), x = .string r ∧ v = .slice (some ⟨w.heap.size, 0, none⟩) k (s.size / 2) ∧ r.size % 2 = 0 ∧ k + r.size / 2 = s.size / 2 ∧
        Hid (wr.ownsRow w.heap.size 5 1 (.slice (some ⟨w.heap.size, 0, none⟩) k (s.size / 2)) k (bvs done) ∧ done.length = k ∧ unhexL l = (unhexL r.data.toList).map (done ++ ·)) ∧ w.heap.size < wr.heap.size ∧ Below w.heap.size w wr)
      (fun x _ _ => match x with | .string r => r.size | _ => 0)
    case atStart => exact ⟨s, 0, [], rfl, rfl, hev, by omega, ⟨HO1.out, rfl, by rw [HX.out]; cases unhexL l <;> rfl⟩, hlt1, hb1⟩
    case round =>
      clear HO1 hb1 hlt1
      obtain ⟨r, k, done, rfl, rfl, hre, hkr, HR, hwr, hb⟩ := hrel
      have hz := hb.size
      by_cases h0 : 2 ≤ r.size
      · obtain ⟨a, ha⟩ : ∃ a : UInt8, r[0]'(by omega) = a := ⟨_, rfl⟩
        obtain ⟨b, hb'⟩ : ∃ b : UInt8, r[1]'(by omega) = b := ⟨_, rfl⟩
        have h2l := two_list h0
        rw [ha, hb'] at h2l
        have H2 : Hid (r.data.toList = a :: b :: (r.extract 2 r.size).data.toList) := h2l
        clear h2l
        have ha8 : a.toNat < 256 := UInt8.toNat_lt _
        have hb8 : b.toNat < 256 := UInt8.toNat_lt _
        have hne : (r.toList == []) = false := by rw [ByteArray.toList_eq, H2.out]; rfl
        go_wp2_with fail
        refine (nib_any a.toNat ha8 _).mono ?_
        rintro e w2 ⟨rfl, rfl⟩
        obtain ⟨va, hva⟩ : ∃ v, v = nibV a.toNat := ⟨_, rfl⟩
        obtain ⟨ba, hba⟩ : ∃ v, v = nibB a.toNat := ⟨_, rfl⟩
        obtain ⟨vb, hvb⟩ : ∃ v, v = nibV b.toNat := ⟨_, rfl⟩
        obtain ⟨bb, hbb⟩ : ∃ v, v = nibB b.toNat := ⟨_, rfl⟩
        rw [← hva, ← hba]
        have HV : Hid (va = nibV a.toNat ∧ ba = nibB a.toNat ∧ vb = nibV b.toNat ∧ bb = nibB b.toNat) := ⟨hva, hba, hvb, hbb⟩
        have hva16 : va < 16 := by rw [hva]; exact nibV_lt _
        have hvb16 : vb < 16 := by rw [hvb]; exact nibV_lt _
        clear hva hba hvb hbb
        go_wp2_with fail
        refine (nib_any b.toNat hb8 _).mono ?_
        rintro e w2 ⟨rfl, rfl⟩
        rw [← HV.out.2.2.1, ← HV.out.2.2.2]
        obtain ⟨cc, hcc⟩ : ∃ cc : UInt8, cc = UInt8.ofNat (va * 16 + vb) := ⟨_, rfl⟩
        have hor : bits BinOp.or IntKind.u8 ((va : Int) * 16) (vb : Int) = (cc.toNat : Int) := by rw [hcc]; exact or_nib hva16 hvb16
        have HCC : Hid (cc = UInt8.ofNat (va * 16 + vb)) := hcc
        clear hcc
        cases ba with
        | false =>
          go_wp2_with fail
          have e1 : unV s.data.toList = .tuple #[.string ⟨#[]⟩, .int .i64 23] := by
            unfold unV
            rw [HX.out, HR.out.2.2, H2.out, unhexL, ← HV.out.2.1, ← HV.out.2.2.2]
            simp
          rw [e1]
          refine bodyPost_ret (v := .tuple #[.string ⟨#[]⟩, .int .i64 23]) (by simp [results, Tryd.results39, go_sem]) rfl ⟨rfl, hb⟩
        | true =>
          cases bb with
          | false =>
            go_wp2_with fail
            have e1 : unV s.data.toList = .tuple #[.string ⟨#[]⟩, .int .i64 23] := by
              unfold unV
              rw [HX.out, HR.out.2.2, H2.out, unhexL, ← HV.out.2.1, ← HV.out.2.2.2]
              simp
            rw [e1]
            refine bodyPost_ret (v := .tuple #[.string ⟨#[]⟩, .int .i64 23]) (by simp [results, Tryd.results39, go_sem]) rfl ⟨rfl, hb⟩
          | true =>
            go_wp2_with (first
              | (at_builtin; (refine wpList_append_fits _ rfl (.tmp 39) (.tmp 44) 64 rfl w.heap.size 5 i0 1 Tryd.underlying64 HI.out.1 HI.out.2.2.1 w.heap.size k (s.size / 2) _ rfl (HR.out.1.alloc _) ⟨w2.heap.size, 0, none⟩ 1 1 (bvs [cc]) rfl rfl (cells1 _ _ _) (bvs_one _) ?c1 ?_))
              | fail)
            case c1 => omega
            intro w5 hown' hgrow
            have hb5 : Below w.heap.size w w5 := (hb.alloc hz _).grown hgrow (by simp; omega) (by intro y hy; simp at hy; omega)
            have hw5 : w.heap.size < w5.heap.size := by have := hgrow.size; simp at this; omega
            have HR5 : Hid (w5.ownsRow w.heap.size 5 1 (.slice (some ⟨w.heap.size, 0, none⟩) (k + 1) (s.size / 2)) (k + 1) (bvs (done ++ [cc])) ∧ (done ++ [cc]).length = k + 1 ∧ unhexL l = (unhexL (r.extract 2 r.size).data.toList).map ((done ++ [cc]) ++ ·)) := by
              obtain ⟨h1, h2, h3⟩ := HR.out
              refine ⟨by rw [bvs_append]; exact hown', by simp [h2], ?_⟩
              rw [h3, H2.out, unhexL, ← HV.out.2.1, ← HV.out.2.2.2, ← HV.out.1, ← HV.out.2.2.1, ← HCC.out]
              cases unhexL (r.extract 2 r.size).data.toList <;> simp
            clear hown' hgrow HR hb HV HCC hor ha hb' hne H2
            go_wp2_with fail
            go_roundw
            case rel => exact ⟨_, k + 1, done ++ [cc], rfl, rfl, by rw [ByteArray.size_extract]; omega, by rw [ByteArray.size_extract]; omega, HR5, hw5, hb5⟩
            case measure => simp only [ByteArray.size_extract]; omega
      · have hr0 : r.size = 0 := by omega
        have hnil : r.data.toList = [] := List.eq_nil_of_length_eq_zero (by rw [len_list]; omega)
        obtain ⟨h1, h2, h3⟩ := HR.out
        rw [hnil] at h3
        have h4 : unhexL l = some done := by rw [h3]; simp [unhexL]
        have e1 : unV s.data.toList = .tuple #[.string ⟨done.toArray⟩, .int .i64 0] := by unfold unV; rw [HX.out, h4]
        have hne : (r.toList == []) = true := by rw [ByteArray.toList_eq, hnil]; rfl
        have hcell : ∀ j (hj : j < done.length), wr.cell? ((⟨w.heap.size, 0, none⟩ : Addr).add j) = some (.int .u8 (done[j].toNat : Int)) := fun j hj => by
          rw [add_none, Nat.zero_add, h1.cellAt j (by omega)]
          simp [bvs, List.getElem?_eq_getElem hj]
        have hstr := run_convert_bytes_back (P := Tryd.prog) wr 64 9 5 ⟨w.heap.size, 0, none⟩ (s.size / 2) done Tryd.underlying64 Tryd.underlying5 Tryd.underlying9 hcell
        rw [h2] at hstr
        clear h1 h2 h3 h4 hcell HR hnil
        go_wp2_with fail
        rw [e1]
        refine bodyPost_ret (v := .tuple #[.string ⟨done.toArray⟩, .int .i64 0]) (by simp [results, Tryd.results39, go_sem]) rfl ⟨rfl, hb⟩
end Go.Proofs.YtjeaobknojmbpaaDoor
