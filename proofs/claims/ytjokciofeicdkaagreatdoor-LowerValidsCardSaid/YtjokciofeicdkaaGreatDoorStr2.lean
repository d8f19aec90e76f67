/- Walks: what class a byte is of; how far a word, a number, a name goes; a full port name. -/
import Derived.Test.YtjokciofeicdkaaGreatDoorStr1
namespace Go.Proofs.YtjokciofeicdkaaGreatDoor
open Go.RowKit

theorem class_at (s : ByteArray) (k : Nat) (h : k < s.size) : classL ((bs s).drop k) = classN s[k].toNat := by rw [bs_drop s k h]; rfl
theorem class_end (s : ByteArray) (k : Nat) (h : ¬ k < s.size) : classL ((bs s).drop k) = 1 := by rw [bs_drop_end s k h]; rfl
theorem classL_bd (l : Bytes) : 0 ≤ classL l ∧ classL l ≤ 8 := by
  cases l with
  | nil => simp [classL]
  | cons c r => show 0 ≤ classN c.toNat ∧ classN c.toNat ≤ 8; unfold classN; (repeat' split) <;> omega

set_option maxHeartbeats 1600000 in
theorem classOf_nat (s : ByteArray) (k : Nat) (w : World) (_hs : s.size ≤ 9223372036854775807) (_hk : k ≤ 9223372036854775807) :
    Calls Tryz.prog 60 #[.string s, .int .i64 k] w fun e w' => e = .returned (.int .i64 (classL ((bs s).drop k))) ∧ w = w' := by
  by_cases hlt : k < s.size
  · have H := Lib.hid (class_at s k hlt)
    go_enter Tryz.func60, Tryz.ntmps60
    go_wp2
    all_goals (go_ret; refine ⟨ret_int ?_, rfl⟩; rw [H.out]; clear H; (try simp only [beq_iff_eq, beq_eq_false_iff_ne, ne_eq] at *); unfold classN; (repeat' split) <;> omega)
  · have H := Lib.hid (class_end s k hlt)
    go_enter Tryz.func60, Tryz.ntmps60
    go_wp2
    go_ret
    exact ⟨ret_int H.out.symm, rfl⟩
theorem classOf_any (s : ByteArray) (k : Int) (w : World) (hs : s.size ≤ 9223372036854775807) (h0 : 0 ≤ k) (hk : k ≤ 9223372036854775807) :
    Calls Tryz.prog 60 #[.string s, .int .i64 k] w fun e w' => e = .returned (.int .i64 (classL ((bs s).drop k.toNat))) ∧ w = w' := by
  obtain ⟨n, rfl⟩ := Int.eq_ofNat_of_zero_le h0
  rw [Int.toNat_natCast]
  exact classOf_nat s n w hs (by omega)

set_option maxHeartbeats 400000 in
theorem isWord_any (s : ByteArray) (k : Int) (w : World) (hs : s.size ≤ 9223372036854775807) (h0 : 0 ≤ k) (hk : k ≤ 9223372036854775807) :
    Calls Tryz.prog 115 #[.string s, .int .i64 k] w fun e w' => e = .returned (.bool (wordL ((bs s).drop k.toNat))) ∧ w = w' := by
  have hw : Hid (wordL ((bs s).drop k.toNat) = (classL ((bs s).drop k.toNat) == 5 || classL ((bs s).drop k.toNat) == 6)) := Lib.hid rfl
  have c := Lib.hid (classOf_any s k w hs h0 hk)
  generalize classL ((bs s).drop k.toNat) = q at *
  go_enter Tryz.func115, Tryz.ntmps115
  go_wp2_with fail
  refine c.out.mono ?_
  rintro e w' ⟨rfl, rfl⟩
  go_wp2
  all_goals (go_ret; refine ⟨ret_bool ?_, rfl⟩; rw [hw.out]; (try simp [*]))

theorem wordLen_at (s : ByteArray) (k : Nat) (h : k < s.size) : wordLen ((bs s).drop k) = if wordL ((bs s).drop k) then wordLen ((bs s).drop (k + 1)) + 1 else 0 := by
  rw [bs_drop s k h, wordL_cons]; rfl
theorem wordLen_end (s : ByteArray) (k : Nat) (h : ¬ k < s.size) : wordLen ((bs s).drop k) = 0 := by rw [bs_drop_end s k h]; rfl
theorem wordL_end (s : ByteArray) (k : Nat) (h : ¬ k < s.size) : wordL ((bs s).drop k) = false := by rw [bs_drop_end s k h]; rfl

set_option maxHeartbeats 400000 in
theorem wordRun_any (s : ByteArray) (w : World) (hs : s.size ≤ 9223372036854775807) :
    Calls Tryz.prog 84 #[.string s] w fun e w' => e = .returned (.int .i64 (wordLen (bs s))) ∧ w = w' := by
  go_enter Tryz.func84, Tryz.ntmps84
  go_wp2_with fail
  go_loop [3] (fun i => ∃ k : Nat, k ≤ s.size ∧ i = .int .i64 k ∧ Hid (wordLen (bs s) = k + wordLen ((bs s).drop k))) (fun i => s.size - (intOf i).toNat)
  case atStart => exact ⟨0, Nat.zero_le _, rfl, Lib.hid (by simp)⟩
  case round =>
    obtain ⟨k, hk, rfl, HR⟩ := hrel
    go_wp2_with fail
    refine (isWord_any s k _ hs (by omega) (by omega)).mono ?_
    rintro e w' ⟨rfl, rfl⟩
    rw [Int.toNat_natCast]
    by_cases hlt : k < s.size
    · have HS := Lib.hid (wordLen_at s k hlt)
      generalize wordL ((bs s).drop k) = b at *
      cases b
      · have HE : Hid (wordLen (bs s) = k) := by refine Lib.hid ?_; rw [HR.out, HS.out]; simp
        clear HS HR
        go_wp2
        go_ret
        exact ⟨ret_int (by rw [HE.out]), rfl⟩
      · have HE : Hid (wordLen (bs s) = (k + 1) + wordLen ((bs s).drop (k + 1))) := by refine Lib.hid ?_; rw [HR.out, HS.out]; simp; omega
        clear HS HR
        go_wp2
        go_round
        case rel => exact ⟨k + 1, by omega, by go_num, HE⟩
        case measure => simp [intOf]; omega
    · have HE : Hid (wordLen (bs s) = k) := by refine Lib.hid ?_; rw [HR.out, wordLen_end s k hlt]; rfl
      rw [wordL_end s k hlt]
      clear HR
      go_wp2
      go_ret
      exact ⟨ret_int (by rw [HE.out]), rfl⟩

theorem numLen_at (s : ByteArray) (k : Nat) (h : k < s.size) : numLen ((bs s).drop k) = if wordL ((bs s).drop k) || (s[k].toNat == 46 && classL ((bs s).drop (k + 1)) == 6) then numLen ((bs s).drop (k + 1)) + 1 else 0 := by
  rw [bs_drop s k h, wordL_cons]; rfl
theorem numLen_end (s : ByteArray) (k : Nat) (h : ¬ k < s.size) : numLen ((bs s).drop k) = 0 := by rw [bs_drop_end s k h]; rfl

set_option maxHeartbeats 800000 in
theorem numberRun_any (s : ByteArray) (w : World) (hs : s.size ≤ 9223372036854775806) :
    Calls Tryz.prog 82 #[.string s] w fun e w' => e = .returned (.int .i64 (numLen (bs s))) ∧ w = w' := by
  go_enter Tryz.func82, Tryz.ntmps82
  go_wp2_with fail
  go_loop [3] (fun i => ∃ k : Nat, k ≤ s.size ∧ i = .int .i64 k ∧ Hid (numLen (bs s) = k + numLen ((bs s).drop k))) (fun i => s.size - (intOf i).toNat)
  case atStart => exact ⟨0, Nat.zero_le _, rfl, Lib.hid (by simp)⟩
  case round =>
    obtain ⟨k, hk, rfl, HR⟩ := hrel
    go_wp2_with fail
    refine (isWord_any s k _ (by omega) (by omega) (by omega)).mono ?_
    rintro e w' ⟨rfl, rfl⟩
    rw [Int.toNat_natCast]
    by_cases hlt : k < s.size
    · have HS := Lib.hid (numLen_at s k hlt)
      have hY : Hid (numLen (bs s) = k + numLen ((bs s).drop k)) := HR
      have HN : (wordL ((bs s).drop k) || (s[k].toNat == 46 && classL ((bs s).drop (k + 1)) == 6)) = true → Hid (numLen (bs s) = (k + 1) + numLen ((bs s).drop (k + 1))) := fun h => by
        refine Lib.hid ?_; rw [HR.out, HS.out, if_pos h]; omega
      have HF : (wordL ((bs s).drop k) || (s[k].toNat == 46 && classL ((bs s).drop (k + 1)) == 6)) = false → Hid (numLen (bs s) = k) := fun h => by
        refine Lib.hid ?_; rw [HR.out, HS.out, if_neg (by rw [h]; simp)]; rfl
      have HN := Lib.hid HN
      have HF := Lib.hid HF
      clear HS HR hY
      by_cases hb : wordL ((bs s).drop k) = true
      · rw [hb]
        have HE := HN.out (by rw [hb]; rfl)
        clear HN HF hb
        go_wp2_with fail
        go_round
        case rel => exact ⟨k + 1, by omega, by go_num, HE⟩
        case measure => simp [intOf]; omega
      · have hb' : wordL ((bs s).drop k) = false := by simpa using hb
        rw [hb']
        by_cases hd : s[k].toNat = 46
        · have hd' : ((s[k].toNat : Int) == 46) = true := by simp; omega
          have HN' : Hid ((classL ((bs s).drop (k + 1)) == 6) = true → Hid (numLen (bs s) = (k + 1) + numLen ((bs s).drop (k + 1)))) := Lib.hid fun h => HN.out (by rw [hb', hd, h]; rfl)
          have HF' : Hid ((classL ((bs s).drop (k + 1)) == 6) = false → Hid (numLen (bs s) = k)) := Lib.hid fun h => HF.out (by rw [hb', hd, h]; rfl)
          clear hb hb' HN HF hd
          go_wp2_with fail
          refine (classOf_any s (k + 1) _ (by omega) (by omega) (by omega)).mono ?_
          rintro e w' ⟨rfl, rfl⟩
          rw [show ((k : Int) + 1).toNat = k + 1 from by omega]
          by_cases hq : classL ((bs s).drop (k + 1)) = 6
          · rw [hq]
            have HE := HN'.out (by rw [hq]; rfl)
            clear HN' HF' hq
            go_wp2_with fail
            go_round
            case rel => exact ⟨k + 1, by omega, by go_num, HE⟩
            case measure => simp [intOf]; omega
          · have HE := HF'.out (by simpa using hq)
            have hq' : (classL ((bs s).drop (k + 1)) == 6) = false := by simpa using hq
            clear HN' HF' hq
            generalize classL ((bs s).drop (k + 1)) = q at *
            go_wp2_with fail
            go_ret
            exact ⟨ret_int (by rw [HE.out]), rfl⟩
        · have hd' : ((s[k].toNat : Int) == 46) = false := by simp; omega
          have HE := HF.out (by rw [hb']; simp [hd])
          clear hb hb' HN HF hd
          go_wp2_with fail
          go_ret
          exact ⟨ret_int (by rw [HE.out]), rfl⟩
    · have HE : Hid (numLen (bs s) = k) := by refine Lib.hid ?_; rw [HR.out, numLen_end s k hlt]; rfl
      rw [wordL_end s k hlt]
      clear HR
      go_wp2_with fail
      go_ret
      exact ⟨ret_int (by rw [HE.out]), rfl⟩
end Go.Proofs.YtjokciofeicdkaaGreatDoor
