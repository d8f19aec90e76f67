/- Walks: plain, decimal (the scanner's numbers). -/
import Derived.Test.YtjokciofeicdkaaGreatDoorNumS
namespace Go.Proofs.YtjokciofeicdkaaGreatDoor
open Go.RowKit

def decA : ByteArray := ⟨#[48, 49, 50, 51, 52, 53, 54, 55, 56, 57]⟩
def hexA : ByteArray := ⟨#[48, 49, 50, 51, 52, 53, 54, 55, 56, 57, 97, 98, 99, 100, 101, 102, 65, 66, 67, 68, 69, 70]⟩

set_option maxHeartbeats 400000 in
theorem plain_any (s cs : ByteArray) (w : World) (hs : s.size ≤ 9223372036854775807) (hcs : cs.size < 4294967281) (ha : ∀ (j : Nat) b, cs.data.toList[j]? = some b → b.toNat < 128) :
    Calls Tryz.prog 152 #[.string s, .string cs] w fun e w' => e = .returned (.bool (allOf (bs s) (bs cs))) ∧ Below w.heap.size w w' := by
  have c := Lib.hid (Any.strings_Trim_laid Tryz.lays160 (by kernel_rfl) s cs w hs hcs ha)
  have hq : Hid ((Lib.trimS s.data.toList cs.data.toList = []) ↔ allOf (bs s) (bs cs) = true) := Lib.hid (trimS_nil _ _)
  generalize Lib.trimS s.data.toList cs.data.toList = q at *
  generalize allOf (bs s) (bs cs) = r at *
  go_enter Tryz.func152, Tryz.ntmps152
  go_wp2_with fail
  refine c.out.mono ?_
  rintro e w' ⟨rfl, hb⟩
  clear c
  cases q with
  | nil =>
    have : r = true := hq.out.1 rfl
    subst this
    go_wp2
    go_ret
    exact ⟨rfl, hb⟩
  | cons x q =>
    have : r = false := by
      cases r with
      | false => rfl
      | true => exact absurd (hq.out.2 rfl) (by simp)
    subst this
    go_wp2
    go_ret
    exact ⟨rfl, hb⟩

theorem plain_dec (s : ByteArray) (w : World) (hs : s.size ≤ 9223372036854775807) :
    Calls Tryz.prog 152 #[.string s, .string ⟨#[48, 49, 50, 51, 52, 53, 54, 55, 56, 57]⟩] w fun e w' => e = .returned (.bool (allOf (bs s) decCs)) ∧ Below w.heap.size w w' :=
  plain_any s ⟨#[48, 49, 50, 51, 52, 53, 54, 55, 56, 57]⟩ w hs (by decide) (ascii_of_all (by decide))
theorem plain_hex (s : ByteArray) (w : World) (hs : s.size ≤ 9223372036854775807) :
    Calls Tryz.prog 152 #[.string s, .string ⟨#[48, 49, 50, 51, 52, 53, 54, 55, 56, 57, 97, 98, 99, 100, 101, 102, 65, 66, 67, 68, 69, 70]⟩] w fun e w' => e = .returned (.bool (allOf (bs s) hexCs)) ∧ Below w.heap.size w w' :=
  plain_any s ⟨#[48, 49, 50, 51, 52, 53, 54, 55, 56, 57, 97, 98, 99, 100, 101, 102, 65, 66, 67, 68, 69, 70]⟩ w hs (by decide) (ascii_of_all (by decide))

theorem ret_opt {o : Option Nat} {v : Int} {b : Bool} (h : optT o = .tuple #[.int .i64 v, .bool b]) : Ending.returned (.tuple #[.int .i64 v, .bool b]) = .returned (optT o) := by rw [h]

theorem str_nil (s : ByteArray) (h : s.size = 0) : s = ByteArray.empty := by
  cases s with | mk d => simpa using h
theorem emp_false (s : ByteArray) (h : s.size ≠ 0) : s.toList.isEmpty = false := by
  rw [← decide_eq_emptyBytes]
  exact decide_eq_false (fun e => h (by rw [e]; rfl))

set_option maxHeartbeats 1000000 in
theorem decimal_any (s : ByteArray) (top : Int) (w : World) (hs : s.size ≤ 9223372036854775807) (h0 : 0 ≤ top) (h1 : top ≤ 9223372036854775807) :
    Calls Tryz.prog 119 #[.string s, .int .i64 top] w fun e w' => e = .returned (optT (decS (bs s) top.toNat)) ∧ Below w.heap.size w w' := by
  by_cases hz : s.size = 0
  · have H := Lib.hid (show optT (decS (bs s) top.toNat) = .tuple #[.int .i64 0, .bool false] by
      rw [str_nil s hz]; rfl)
    obtain rfl := str_nil s hz
    go_enter Tryz.func119, Tryz.ntmps119
    go_wp2
    go_ret2
    exact ⟨ret_opt H.out, Below.refl _ _⟩
  have he := emp_false s hz
  by_cases hl : 10 < s.size
  · have H := Lib.hid (show optT (decS (bs s) top.toNat) = .tuple #[.int .i64 0, .bool false] by
      unfold decS; rw [if_pos (.inr (by rw [bs_length]; exact hl))]; rfl)
    go_enter Tryz.func119, Tryz.ntmps119
    go_wp2
    go_ret2
    exact ⟨ret_opt H.out, Below.refl _ _⟩
  have hne : ¬ (bs s = [] ∨ 10 < (bs s).length) := by
    rintro (h | h)
    · exact hz (by rw [← bs_length, h]; rfl)
    · rw [bs_length] at h; omega
  have c1 := Lib.hid (plain_dec s w hs)
  have HD := Lib.hid (show decS (bs s) top.toNat = if allOf (bs s) decCs = false then none else if (bs s).head? = some 48 ∧ bs s ≠ [48] then none else if top.toNat < decVal (bs s) then none else some (decVal (bs s)) by
    rw [decS, if_neg hne])
  have hall := Lib.hid (show allOf (bs s) decCs = true → (bs s).all digitU = true from fun h => by
    unfold allOf at h
    rw [← h]; congr 1; funext c; exact (decCs_at c).symm)
  have hne' := Lib.hid (show bs s ≠ [] from fun h => hne (.inl h))
  clear hne
  by_cases hA : allOf (bs s) decCs = true
  · rw [hA] at c1 HD
    have hall := Lib.hid (hall.out hA)
    clear hA
    have hpos : 0 < s.size := by omega
    have hbs := Lib.hid (show bs s = s[0] :: (bs s).drop 1 from by simpa using bs_drop s 0 hpos)
    have ha := Lib.hid (Tryz.strconv_Atoi s (decVal (bs s)) (by omega) (atoi_val _ hne'.out hall.out))
    have hbd : decVal (bs s) < 10000000000 := decVal_bd _ hall.out (by rw [bs_length]; omega)
    have HD := Lib.hid (HD.out.trans (if_neg (by simp)))
    by_cases hlead : s[0].toNat = 48 ∧ s.size ≠ 1
    · obtain ⟨hd0, hn1⟩ := hlead
      have H := Lib.hid (show optT (decS (bs s) top.toNat) = .tuple #[.int .i64 0, .bool false] by
        rw [HD.out, if_pos ⟨by rw [hbs.out]; simp [← UInt8.toNat_inj, hd0], fun e => hn1 (by rw [← bs_length, e]; rfl)⟩]; rfl)
      have hn0 : (s.toList == [48]) = false := by
        rw [beq_eq_false_iff_ne]
        intro e
        apply hn1
        have e2 : bs s = [48] := by rw [← e]; exact (ByteArray.toList_eq s).symm
        rw [← bs_length, e2]; rfl
      have hd0' : ((s[0].toNat : Int) == 48) = true := by simp; omega
      clear HD hd0 ha hbs hall hne'
      go_enter Tryz.func119, Tryz.ntmps119
      go_wp2_with (go_at_call 152; refine c1.out.mono ?_; rintro e w' ⟨rfl, hb⟩)
      go_ret2
      exact ⟨ret_opt H.out, hb⟩
    · have HD := Lib.hid (HD.out.trans (if_neg (show ¬ ((bs s).head? = some 48 ∧ bs s ≠ [48]) by
        rintro ⟨ha1, ha2⟩
        rw [hbs.out] at ha1
        simp only [List.head?_cons, Option.some.injEq] at ha1
        apply hlead
        refine ⟨by rw [ha1]; rfl, fun h1 => ha2 ?_⟩
        rw [hbs.out, ha1, List.drop_eq_nil_of_le (by rw [bs_length]; omega)])))
      have hcase : ((s[0].toNat : Int) == 48) = false ∨ (((s[0].toNat : Int) == 48) = true ∧ (s.toList == [48]) = true) := by
        by_cases hd0 : s[0].toNat = 48
        · refine .inr ⟨by simp; omega, ?_⟩
          rw [beq_iff_eq, ByteArray.toList_eq]
          show bs s = [48]
          have h1 : s.size = 1 := by
            by_cases h1 : s.size = 1
            · exact h1
            · exact absurd ⟨hd0, h1⟩ hlead
          rw [hbs.out, List.drop_eq_nil_of_le (by rw [bs_length]; omega), (UInt8.toNat_inj.1 (by rw [hd0]; rfl) : s[0] = 48)]
        · exact .inl (by simp; omega)
      have ha' := Lib.hid (fun w => (ha.out w).mono (R' := fun e w' => e = .returned (.tuple #[.int .i64 (decVal (bs s)), .nilIface]) ∧ Below w.heap.size w w') (fun e w' ⟨he, u, hu⟩ => ⟨he, by rw [hu]; exact below_bytes _ _ _⟩))
      clear ha hlead hbs hall hne'
      generalize decVal (bs s) = v at *
      by_cases hv : top.toNat < v
      · have H := Lib.hid (show optT (decS (bs s) top.toNat) = .tuple #[.int .i64 0, .bool false] by rw [HD.out, if_pos hv]; rfl)
        have hv' : top < (v : Int) := by omega
        clear HD hv
        rcases hcase with hd0 | ⟨hd0, hq⟩
        all_goals
          go_enter Tryz.func119, Tryz.ntmps119
          go_wp2_with (first | (go_at_call 152; refine c1.out.mono ?_; rintro e w1 ⟨rfl, hb⟩) | (go_at_call 154; refine (ha'.out _).mono ?_; rintro e w2 ⟨rfl, hb2⟩))
          go_ret2
          exact ⟨ret_opt H.out, hb.trans (hb2.mono hb.size)⟩
      · have H := Lib.hid (show optT (decS (bs s) top.toNat) = .tuple #[.int .i64 v, .bool true] by rw [HD.out, if_neg hv]; rfl)
        have hv' : (v : Int) ≤ top := by omega
        clear HD hv
        rcases hcase with hd0 | ⟨hd0, hq⟩
        all_goals
          go_enter Tryz.func119, Tryz.ntmps119
          go_wp2_with (first | (go_at_call 152; refine c1.out.mono ?_; rintro e w1 ⟨rfl, hb⟩) | (go_at_call 154; refine (ha'.out _).mono ?_; rintro e w2 ⟨rfl, hb2⟩))
          go_ret2
          exact ⟨ret_opt H.out, hb.trans (hb2.mono hb.size)⟩
  · have hA' : allOf (bs s) decCs = false := by simpa using hA
    rw [hA'] at c1 HD
    have H := Lib.hid (show optT (decS (bs s) top.toNat) = .tuple #[.int .i64 0, .bool false] by rw [HD.out]; rfl)
    clear HD hA hA' hall
    go_enter Tryz.func119, Tryz.ntmps119
    go_wp2_with (go_at_call 152; refine c1.out.mono ?_; rintro e w' ⟨rfl, hb⟩)
    go_ret2
    exact ⟨ret_opt H.out, hb⟩
end Go.Proofs.YtjokciofeicdkaaGreatDoor
