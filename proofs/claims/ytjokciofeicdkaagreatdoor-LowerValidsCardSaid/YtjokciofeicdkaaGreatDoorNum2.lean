/- Walks: strconv.ParseUint at base 16 and base 2 on rows of hexadecimal digits; based. -/
import Derived.Test.YtjokciofeicdkaaGreatDoorNum1
namespace Go.Proofs.YtjokciofeicdkaaGreatDoor
open Go.RowKit

theorem hexVal_lt (c : UInt8) (h : hexU c = true) : hexVal c.toNat < 16 := by
  simp only [hexU, digitU, digitN, Bool.or_eq_true, Bool.and_eq_true, decide_eq_true_eq] at h
  unfold hexVal; (repeat' split) <;> omega
theorem based_snoc (b : Nat) : ∀ (l : Bytes) (acc k : Nat) (v : Nat) (c : UInt8), basedFrom b acc (l.take k) = some v → l[k]? = some c → hexVal c.toNat < b →
    basedFrom b acc (l.take (k + 1)) = some (v * b + hexVal c.toNat)
  | [], _, _, _, _, _, h, _ => by simp at h
  | d :: l, acc, 0, v, c, h, hc, hb => by
    simp only [List.take_zero, basedFrom, Option.some.injEq] at h
    simp only [List.getElem?_cons_zero, Option.some.injEq] at hc
    subst h; subst hc
    simp [basedFrom, hb]
  | d :: l, acc, k + 1, v, c, h, hc, hb => by
    simp only [List.take_succ_cons, basedFrom] at h ⊢
    split at h
    · rename_i hd
      rw [if_pos hd]
      exact based_snoc b l _ k v c h (by simpa using hc) hb
    · cases h
theorem based_bad (b : Nat) : ∀ (l : Bytes) (acc k : Nat) (c : UInt8), l[k]? = some c → ¬ hexVal c.toNat < b → basedFrom b acc l = none
  | [], _, _, _, h, _ => by simp at h
  | d :: l, acc, 0, c, hc, hb => by
    simp only [List.getElem?_cons_zero, Option.some.injEq] at hc
    subst hc
    simp [basedFrom, hb]
  | d :: l, acc, k + 1, c, hc, hb => by
    simp only [basedFrom]
    split
    · exact based_bad b l _ k c (by simpa using hc) hb
    · rfl
theorem based_lt (b : Nat) (hb : 0 < b) : ∀ (l : Bytes) (acc v : Nat), basedFrom b acc l = some v → v < (acc + 1) * b ^ l.length
  | [], acc, v, h => by simp only [basedFrom, Option.some.injEq] at h; subst h; simp
  | c :: r, acc, v, h => by
    simp only [basedFrom] at h
    split at h
    · rename_i hd
      have := based_lt b hb r _ v h
      refine Nat.lt_of_lt_of_le this ?_
      rw [List.length_cons, Nat.pow_succ, Nat.mul_comm (b ^ r.length) b, ← Nat.mul_assoc]
      refine Nat.mul_le_mul_right _ ?_
      rw [Nat.add_mul]; omega
    · cases h
theorem based_bd {b most : Nat} (hb : 0 < b) (hm : b ^ most ≤ 4294967296) {l : Bytes} {v k : Nat} (h : basedFrom b 0 (l.take k) = some v) (hk : k ≤ most) : v < 4294967296 := by
  have := based_lt b hb _ _ _ h
  have h2 : (l.take k).length ≤ most := by rw [List.length_take]; omega
  have h3 := Nat.pow_le_pow_right hb h2
  omega

def uintT (o : Option Nat) : Value := match o with
  | some v => .tuple #[.int .u64 v, .nilIface]
  | none => .tuple #[.int .u64 0, .iface 250 (.int .i64 2)]

theorem or32_lo : ∀ n : Nat, 97 ≤ n → n ≤ 102 → bits .or .u8 (n : Int) 32 = (n : Int) := fun n h1 h2 => by
  have := u8_or_nat n 32 (by omega) (by decide)
  rw [show ((32 : Nat) : Int) = 32 from rfl] at this
  rw [this]
  have : n = 97 ∨ n = 98 ∨ n = 99 ∨ n = 100 ∨ n = 101 ∨ n = 102 := by omega
  rcases this with rfl | rfl | rfl | rfl | rfl | rfl <;> rfl
theorem or32_up : ∀ n : Nat, 65 ≤ n → n ≤ 70 → bits .or .u8 (n : Int) 32 = ((n + 32 : Nat) : Int) := fun n h1 h2 => by
  have := u8_or_nat n 32 (by omega) (by decide)
  rw [show ((32 : Nat) : Int) = 32 from rfl] at this
  rw [this]
  have : n = 65 ∨ n = 66 ∨ n = 67 ∨ n = 68 ∨ n = 69 ∨ n = 70 := by omega
  rcases this with rfl | rfl | rfl | rfl | rfl | rfl <;> rfl
theorem ret_uint {o : Option Nat} {v : Value} (h : uintT o = v) : Ending.returned v = .returned (uintT o) := by rw [h]

set_option maxHeartbeats 4000000 in
set_option maxRecDepth 100000 in
theorem pu_16 (s : ByteArray) (hne : s.size ≠ 0) (hmost : s.size ≤ 8) (hhex : (bs s).all hexU = true) (w : World) :
    Calls Tryz.prog 178 #[.string s, .int .i64 16, .int .i64 64] w fun e w' => e = .returned (uintT (basedFrom 16 0 (bs s))) ∧ Below w.heap.size w w' := by
  have hemp := emp_false s hne
  have hbd : Hid (∀ k v, basedFrom 16 0 ((bs s).take k) = some v → k ≤ 8 → v < 4294967296) := Lib.hid fun k v h hk => based_bd (by decide) (by decide) h hk
  have hcv := Lib.run_convert_string_bytes (P := Tryz.prog) w 9 144 5 s (u := .string) Tryz.underlying9 Tryz.underlying144 Tryz.underlying5
  have hB := Lib.hid (show ∀ j (hj : j < s.size), (Lib.bytesWorld w 5 s).cell? ⟨w.heap.size, j, none⟩ = some (.int .u8 s[j].toNat) from fun j hj => by
    rw [Lib.bytesWorld_cell w 5 s j hj]
    have e : s.data.toList.getD j 0 = s[j] := by
      have := bs_at s j hj
      unfold bs at this
      rw [List.getD_eq_getElem?_getD, this]; rfl
    rw [e])
  have hbel := Lib.hid (below_bytes w 5 s)
  have hall := Lib.hid (show ∀ j (hj : j < s.size), hexU s[j] = true from fun j hj => by
    rw [List.all_eq_true] at hhex
    exact hhex _ (List.mem_of_getElem? (bs_at s j hj)))
  clear hhex
  obtain ⟨W1, hW1⟩ : ∃ W1, W1 = Lib.bytesWorld w 5 s := ⟨_, rfl⟩
  rw [← hW1] at hcv hB hbel
  clear hW1
  have hmv : IntKind.u64.wrap (IntKind.u64.wrap 18446744073709551616 - 1) = 18446744073709551615 := by
    rw [IntKind.wrap_u64, IntKind.wrap_u64]; decide
  go_enter Tryz.func178, Tryz.ntmps178
  go_wp2
  go_loop [12, 13, 101] (fun vu vn vi => ∃ (k acc : Nat) (a : Int), vu = .bool false ∧ vn = .int .u64 a ∧ vi = .int .i64 k ∧ k ≤ s.size ∧ Hid (a = (acc : Int) ∧ basedFrom 16 0 ((bs s).take k) = some acc))
    (fun _ _ vi => s.size - (intOf vi).toNat)
  case atStart => exact ⟨0, 0, 0, rfl, rfl, rfl, by omega, rfl, rfl⟩
  case round =>
    obtain ⟨k, acc, a, rfl, rfl, rfl, hk, hh⟩ := hrel
    have a1 : a < 4294967296 := by have h1 := hh.out.1; have h2 := hbd.out k acc hh.out.2 (by omega); omega
    have a0 : 0 ≤ a := by have h1 := hh.out.1; omega
    by_cases hkn : k < s.size
    · have hc := hB.out k hkn
      have hx := hall.out k hkn
      have hat := Lib.hid (bs_at s k hkn)
      have hok := Lib.hid (show hexVal s[k].toNat < 16 → a * 16 + (hexVal s[k].toNat : Int) = ((acc * 16 + hexVal s[k].toNat : Nat) : Int) ∧ basedFrom 16 0 ((bs s).take (k + 1)) = some (acc * 16 + hexVal s[k].toNat) from fun h =>
        ⟨by have := hh.out.1; omega, based_snoc 16 _ 0 k acc _ hh.out.2 hat.out h⟩)
      have hno := Lib.hid (show ¬ hexVal s[k].toNat < 16 → basedFrom 16 0 (bs s) = none from fun h => based_bad 16 _ 0 k _ hat.out h)
      clear hh hat hB hall hcv
      simp only [hexU, digitU, digitN, Bool.or_eq_true, Bool.and_eq_true, decide_eq_true_eq] at hx
      generalize s[k].toNat = n at *
      rcases hx with (hx | hx) | hx
      · obtain ⟨x1, x2⟩ := hx
        have hv := Lib.hid (show hexVal n = n - 48 from by unfold hexVal; rw [if_pos ⟨x1, x2⟩])
        rw [hv.out] at hok hno
        clear hv
        by_cases hd : n - 48 < 16
        · have hN := Lib.hid (hok.out hd)
          clear hok hno
          go_wp2
          refine ⟨⟨k + 1, acc * 16 + (n - 48), a * 16 + ((n : Int) - 48), rfl, (by first | rfl | (congr 1; omega)), (by first | rfl | (congr 1; omega)), by omega, Lib.hid ⟨by have := hN.out.1; omega, hN.out.2⟩⟩, by simp [intOf]; omega⟩
        · have hN := Lib.hid (hno.out hd)
          clear hok hno
          first
            | (exfalso; omega)
            | (go_wp2
               go_ret2
               exact ⟨ret_uint (by rw [hN.out]; rfl), hbel.out⟩)
      · obtain ⟨x1, x2⟩ := hx
        have hv := Lib.hid (show hexVal n = n - 87 from by unfold hexVal; rw [if_neg (by omega), if_pos ⟨x1, x2⟩])
        rw [hv.out] at hok hno
        have hor := or32_lo n x1 x2
        clear hv
        by_cases hd : n - 87 < 16
        · have hN := Lib.hid (hok.out hd)
          clear hok hno
          first
            | (exfalso; omega)
            | (go_wp2_with (go_at_call 197; refine (Tryz.internal_strconv_lower _ _).mono ?_; rintro e w' ⟨rfl, rfl⟩)
               refine ⟨⟨k + 1, acc * 16 + (n - 87), a * 16 + ((n : Int) - 87), rfl, (by first | rfl | (congr 1; omega)), (by first | rfl | (congr 1; omega)), by omega, Lib.hid ⟨by have := hN.out.1; omega, hN.out.2⟩⟩, by simp [intOf]; omega⟩)
        · have hN := Lib.hid (hno.out hd)
          clear hok hno
          first
            | (exfalso; omega)
            | (go_wp2_with (go_at_call 197; refine (Tryz.internal_strconv_lower _ _).mono ?_; rintro e w' ⟨rfl, rfl⟩)
               go_ret2
               exact ⟨ret_uint (by rw [hN.out]; rfl), hbel.out⟩)
      · obtain ⟨x1, x2⟩ := hx
        have hv := Lib.hid (show hexVal n = n - 55 from by unfold hexVal; rw [if_neg (by omega), if_neg (by omega)])
        rw [hv.out] at hok hno
        have hor := or32_up n x1 x2
        clear hv
        by_cases hd : n - 55 < 16
        · have hN := Lib.hid (hok.out hd)
          clear hok hno
          first
            | (exfalso; omega)
            | (go_wp2_with (go_at_call 197; refine (Tryz.internal_strconv_lower _ _).mono ?_; rintro e w' ⟨rfl, rfl⟩)
               refine ⟨⟨k + 1, acc * 16 + (n - 55), a * 16 + ((n : Int) - 55), rfl, (by first | rfl | (congr 1; omega)), (by first | rfl | (congr 1; omega)), by omega, Lib.hid ⟨by have := hN.out.1; omega, hN.out.2⟩⟩, by simp [intOf]; omega⟩)
        · have hN := Lib.hid (hno.out hd)
          clear hok hno
          first
            | (exfalso; omega)
            | (go_wp2_with (go_at_call 197; refine (Tryz.internal_strconv_lower _ _).mono ?_; rintro e w' ⟨rfl, rfl⟩)
               go_ret2
               exact ⟨ret_uint (by rw [hN.out]; rfl), hbel.out⟩)
    · have hkk : k = s.size := by omega
      have H := Lib.hid (show basedFrom 16 0 (bs s) = some acc from by
        have := hh.out.2
        rwa [List.take_of_length_le (by rw [bs_length]; omega)] at this)
      have ha := hh.out.1
      clear hh hB hall hcv hbd
      subst ha
      have hkk := Lib.hid hkk
      go_wp2
      go_ret2
      exact ⟨ret_uint (by rw [H.out]; rfl), hbel.out⟩

set_option maxHeartbeats 4000000 in
set_option maxRecDepth 100000 in
theorem pu_2 (s : ByteArray) (hne : s.size ≠ 0) (hmost : s.size ≤ 32) (hhex : (bs s).all hexU = true) (w : World) :
    Calls Tryz.prog 178 #[.string s, .int .i64 2, .int .i64 64] w fun e w' => e = .returned (uintT (basedFrom 2 0 (bs s))) ∧ Below w.heap.size w w' := by
  have hemp := emp_false s hne
  have hbd : Hid (∀ k v, basedFrom 2 0 ((bs s).take k) = some v → k ≤ 32 → v < 4294967296) := Lib.hid fun k v h hk => based_bd (by decide) (by decide) h hk
  have hcv := Lib.run_convert_string_bytes (P := Tryz.prog) w 9 144 5 s (u := .string) Tryz.underlying9 Tryz.underlying144 Tryz.underlying5
  have hB := Lib.hid (show ∀ j (hj : j < s.size), (Lib.bytesWorld w 5 s).cell? ⟨w.heap.size, j, none⟩ = some (.int .u8 s[j].toNat) from fun j hj => by
    rw [Lib.bytesWorld_cell w 5 s j hj]
    have e : s.data.toList.getD j 0 = s[j] := by
      have := bs_at s j hj
      unfold bs at this
      rw [List.getD_eq_getElem?_getD, this]; rfl
    rw [e])
  have hbel := Lib.hid (below_bytes w 5 s)
  have hall := Lib.hid (show ∀ j (hj : j < s.size), hexU s[j] = true from fun j hj => by
    rw [List.all_eq_true] at hhex
    exact hhex _ (List.mem_of_getElem? (bs_at s j hj)))
  clear hhex
  obtain ⟨W1, hW1⟩ : ∃ W1, W1 = Lib.bytesWorld w 5 s := ⟨_, rfl⟩
  rw [← hW1] at hcv hB hbel
  clear hW1
  have hmv : IntKind.u64.wrap (IntKind.u64.wrap 18446744073709551616 - 1) = 18446744073709551615 := by
    rw [IntKind.wrap_u64, IntKind.wrap_u64]; decide
  go_enter Tryz.func178, Tryz.ntmps178
  go_wp2
  go_loop [12, 13, 101] (fun vu vn vi => ∃ (k acc : Nat) (a : Int), vu = .bool false ∧ vn = .int .u64 a ∧ vi = .int .i64 k ∧ k ≤ s.size ∧ Hid (a = (acc : Int) ∧ basedFrom 2 0 ((bs s).take k) = some acc))
    (fun _ _ vi => s.size - (intOf vi).toNat)
  case atStart => exact ⟨0, 0, 0, rfl, rfl, rfl, by omega, rfl, rfl⟩
  case round =>
    obtain ⟨k, acc, a, rfl, rfl, rfl, hk, hh⟩ := hrel
    have a1 : a < 4294967296 := by have h1 := hh.out.1; have h2 := hbd.out k acc hh.out.2 (by omega); omega
    have a0 : 0 ≤ a := by have h1 := hh.out.1; omega
    by_cases hkn : k < s.size
    · have hc := hB.out k hkn
      have hx := hall.out k hkn
      have hat := Lib.hid (bs_at s k hkn)
      have hok := Lib.hid (show hexVal s[k].toNat < 2 → a * 2 + (hexVal s[k].toNat : Int) = ((acc * 2 + hexVal s[k].toNat : Nat) : Int) ∧ basedFrom 2 0 ((bs s).take (k + 1)) = some (acc * 2 + hexVal s[k].toNat) from fun h =>
        ⟨by have := hh.out.1; omega, based_snoc 2 _ 0 k acc _ hh.out.2 hat.out h⟩)
      have hno := Lib.hid (show ¬ hexVal s[k].toNat < 2 → basedFrom 2 0 (bs s) = none from fun h => based_bad 2 _ 0 k _ hat.out h)
      clear hh hat hB hall hcv
      simp only [hexU, digitU, digitN, Bool.or_eq_true, Bool.and_eq_true, decide_eq_true_eq] at hx
      generalize s[k].toNat = n at *
      rcases hx with (hx | hx) | hx
      · obtain ⟨x1, x2⟩ := hx
        have hv := Lib.hid (show hexVal n = n - 48 from by unfold hexVal; rw [if_pos ⟨x1, x2⟩])
        rw [hv.out] at hok hno
        clear hv
        by_cases hd : n - 48 < 2
        · have hN := Lib.hid (hok.out hd)
          clear hok hno
          go_wp2
          refine ⟨⟨k + 1, acc * 2 + (n - 48), a * 2 + ((n : Int) - 48), rfl, (by first | rfl | (congr 1; omega)), (by first | rfl | (congr 1; omega)), by omega, Lib.hid ⟨by have := hN.out.1; omega, hN.out.2⟩⟩, by simp [intOf]; omega⟩
        · have hN := Lib.hid (hno.out hd)
          clear hok hno
          first
            | (exfalso; omega)
            | (go_wp2
               go_ret2
               exact ⟨ret_uint (by rw [hN.out]; rfl), hbel.out⟩)
      · obtain ⟨x1, x2⟩ := hx
        have hv := Lib.hid (show hexVal n = n - 87 from by unfold hexVal; rw [if_neg (by omega), if_pos ⟨x1, x2⟩])
        rw [hv.out] at hok hno
        have hor := or32_lo n x1 x2
        clear hv
        by_cases hd : n - 87 < 2
        · have hN := Lib.hid (hok.out hd)
          clear hok hno
          first
            | (exfalso; omega)
            | (go_wp2_with (go_at_call 197; refine (Tryz.internal_strconv_lower _ _).mono ?_; rintro e w' ⟨rfl, rfl⟩)
               refine ⟨⟨k + 1, acc * 2 + (n - 87), a * 2 + ((n : Int) - 87), rfl, (by first | rfl | (congr 1; omega)), (by first | rfl | (congr 1; omega)), by omega, Lib.hid ⟨by have := hN.out.1; omega, hN.out.2⟩⟩, by simp [intOf]; omega⟩)
        · have hN := Lib.hid (hno.out hd)
          clear hok hno
          first
            | (exfalso; omega)
            | (go_wp2_with (go_at_call 197; refine (Tryz.internal_strconv_lower _ _).mono ?_; rintro e w' ⟨rfl, rfl⟩)
               go_ret2
               exact ⟨ret_uint (by rw [hN.out]; rfl), hbel.out⟩)
      · obtain ⟨x1, x2⟩ := hx
        have hv := Lib.hid (show hexVal n = n - 55 from by unfold hexVal; rw [if_neg (by omega), if_neg (by omega)])
        rw [hv.out] at hok hno
        have hor := or32_up n x1 x2
        clear hv
        by_cases hd : n - 55 < 2
        · have hN := Lib.hid (hok.out hd)
          clear hok hno
          first
            | (exfalso; omega)
            | (go_wp2_with (go_at_call 197; refine (Tryz.internal_strconv_lower _ _).mono ?_; rintro e w' ⟨rfl, rfl⟩)
               refine ⟨⟨k + 1, acc * 2 + (n - 55), a * 2 + ((n : Int) - 55), rfl, (by first | rfl | (congr 1; omega)), (by first | rfl | (congr 1; omega)), by omega, Lib.hid ⟨by have := hN.out.1; omega, hN.out.2⟩⟩, by simp [intOf]; omega⟩)
        · have hN := Lib.hid (hno.out hd)
          clear hok hno
          first
            | (exfalso; omega)
            | (go_wp2_with (go_at_call 197; refine (Tryz.internal_strconv_lower _ _).mono ?_; rintro e w' ⟨rfl, rfl⟩)
               go_ret2
               exact ⟨ret_uint (by rw [hN.out]; rfl), hbel.out⟩)
    · have hkk : k = s.size := by omega
      have H := Lib.hid (show basedFrom 2 0 (bs s) = some acc from by
        have := hh.out.2
        rwa [List.take_of_length_le (by rw [bs_length]; omega)] at this)
      have ha := hh.out.1
      clear hh hB hall hcv hbd
      subst ha
      have hkk := Lib.hid hkk
      go_wp2
      go_ret2
      exact ⟨ret_uint (by rw [H.out]; rfl), hbel.out⟩
end Go.Proofs.YtjokciofeicdkaaGreatDoor
