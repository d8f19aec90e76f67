/- Walks: a name or a port's name at a text's beginning (scan.name); a full name by the reference (fullName). -/
import Derived.Test.YtjokciofeicdkaaGreatDoorStr2
namespace Go.Proofs.YtjokciofeicdkaaGreatDoor
open Go.RowKit

abbrev q4 (a b c d : Int) : Int × Int × Int × Int := (a, b, c, d)
/-- scan.name: the kind, the size, how far off, the error. -/
def nameP (l : Bytes) : Int × Int × Int × Int :=
  if 24 < wordLen l then q4 0 0 0 36 else
  if (l.drop (wordLen l)).head?.map (·.toNat) = some 46 ∧ classL (l.drop (wordLen l + 1)) = 5 then
    (if 24 < wordLen (l.drop (wordLen l + 1)) then q4 0 0 0 36 else q4 3 (wordLen l + 1 + wordLen (l.drop (wordLen l + 1))) 0 0)
  else q4 2 (wordLen l) 0 0

def V4 (q : Int × Int × Int × Int) : Value := .tuple #[.int .i64 q.1, .int .i64 q.2.1, .int .i64 q.2.2.1, .int .i64 q.2.2.2]
theorem ret_V4 {a b c d : Int} {q : Int × Int × Int × Int} (h : q = (a, b, c, d)) :
    Ending.returned (.tuple #[.int .i64 a, .int .i64 b, .int .i64 c, .int .i64 d]) = .returned (V4 q) := by rw [h]; rfl

theorem size_extract_le (s : ByteArray) (a b : Nat) : (s.extract a b).size ≤ s.size := by
  rw [← bs_length, bs_extract, List.length_take, List.length_drop, bs_length]; omega
theorem head_at (s : ByteArray) (k : Nat) (h : k < s.size) : ((bs s).drop k).head?.map (·.toNat) = some s[k].toNat := by rw [bs_drop s k h]; rfl

set_option maxHeartbeats 800000 in
theorem scan_name_any (s : ByteArray) (w : World) (hs : s.size ≤ 9223372036854775806) :
    Calls Tryz.prog 81 #[.string s] w fun e w' => e = .returned (V4 (nameP (bs s))) ∧ w = w' := by
  have hle : wordLen (bs s) ≤ s.size := wordLen_le (bs s)
  have HP : Hid (nameP (bs s) = if 24 < wordLen (bs s) then q4 0 0 0 36 else
    if ((bs s).drop (wordLen (bs s))).head?.map (·.toNat) = some 46 ∧ classL ((bs s).drop (wordLen (bs s) + 1)) = 5 then
      (if 24 < wordLen ((bs s).drop (wordLen (bs s) + 1)) then q4 0 0 0 36 else q4 3 (wordLen (bs s) + 1 + wordLen ((bs s).drop (wordLen (bs s) + 1))) 0 0)
    else q4 2 (wordLen (bs s)) 0 0) := Lib.hid rfl
  have c1 := Lib.hid (wordRun_any s w (by omega))
  generalize hf : wordLen (bs s) = f at *
  clear hf
  go_enter Tryz.func81, Tryz.ntmps81
  go_wp2_with fail
  refine c1.out.mono ?_
  rintro e w' ⟨rfl, rfl⟩
  clear c1
  by_cases h24 : 24 < f
  · have H := Lib.hid (HP.out.trans (if_pos h24))
    clear HP
    go_wp2_with fail
    ((try simp only [Exit.inBlock, Exit.then]); refine bodyPost_ret (results4 rfl _ _ _) rfl ?_)
    exact ⟨ret_V4 H.out, rfl⟩
  have HP := Lib.hid (HP.out.trans (if_neg h24))
  by_cases hend : f = s.size
  · have H : Hid (nameP (bs s) = q4 2 f 0 0) := by
      refine Lib.hid (HP.out.trans (if_neg ?_))
      rw [List.drop_eq_nil_of_le (by rw [bs_length]; omega)]
      simp
    have hb : ((f : Int) == s.size) = true := by simp; omega
    have hend := Lib.hid hend
    clear HP
    go_wp2_with fail
    ((try simp only [Exit.inBlock, Exit.then]); refine bodyPost_ret (results4 rfl _ _ _) rfl ?_)
    exact ⟨ret_V4 (by rw [H.out, hend.out]), rfl⟩
  have hlt : f < s.size := by omega
  have hb : ((f : Int) == s.size) = false := by simp; omega
  have HH := Lib.hid (head_at s f hlt)
  by_cases hdot : s[f].toNat = 46
  · have hd : ((s[f].toNat : Int) != 46) = false := by simp; omega
    have HP : Hid (nameP (bs s) = if classL ((bs s).drop (f + 1)) = 5 then
        (if 24 < wordLen ((bs s).drop (f + 1)) then q4 0 0 0 36 else q4 3 (f + 1 + wordLen ((bs s).drop (f + 1))) 0 0)
      else q4 2 f 0 0) := by
      refine Lib.hid (HP.out.trans ?_)
      rw [HH.out, hdot]
      simp
    have hq := Lib.hid (classOf_any s (f + 1) w (by omega) (by omega) (by omega))
    rw [show ((f : Int) + 1).toNat = f + 1 from by omega] at hq
    clear HH hdot
    by_cases h5 : classL ((bs s).drop (f + 1)) = 5
    · have HP := Lib.hid (HP.out.trans (if_pos h5))
      rw [h5] at hq
      clear h5
      have hle2 : wordLen (bs (s.extract (f + 1) s.size)) ≤ s.size := by
        have := wordLen_le (bs (s.extract (f + 1) s.size))
        rw [bs_from, List.length_drop, bs_length] at this
        rw [bs_from]; omega
      have hg : Hid ((bs s).drop (f + 1) = bs (s.extract (f + 1) s.size)) := Lib.hid (bs_from s (f + 1)).symm
      rw [hg.out] at HP
      clear hg
      have c2 := Lib.hid (wordRun_any (s.extract (f + 1) s.size) w (by have := size_extract_le s (f + 1) s.size; omega))
      generalize wordLen (bs (s.extract (f + 1) s.size)) = g at *
      go_wp2_with fail
      refine hq.out.mono ?_
      rintro e w' ⟨rfl, rfl⟩
      clear hq
      go_wp2_with fail
      refine c2.out.mono ?_
      rintro e w' ⟨rfl, rfl⟩
      clear c2
      by_cases hg24 : 24 < g
      · have HP := Lib.hid (HP.out.trans (if_pos hg24))
        go_wp2_with fail
        ((try simp only [Exit.inBlock, Exit.then]); refine bodyPost_ret (results4 rfl _ _ _) rfl ?_)
        exact ⟨ret_V4 HP.out, rfl⟩
      · have HP := Lib.hid (HP.out.trans (if_neg hg24))
        go_wp2_with fail
        ((try simp only [Exit.inBlock, Exit.then]); refine bodyPost_ret (results4 rfl _ _ _) rfl ?_)
        exact ⟨ret_V4 HP.out, rfl⟩
    · have HQ := Lib.hid (HP.out.trans (if_neg h5))
      clear HP
      have h5' : (classL ((bs s).drop (f + 1)) != 5) = true := by simpa using h5
      generalize classL ((bs s).drop (f + 1)) = q at *
      clear h5
      go_wp2_with fail
      refine hq.out.mono ?_
      rintro e w' ⟨rfl, rfl⟩
      clear hq
      go_wp2_with fail
      ((try simp only [Exit.inBlock, Exit.then]); refine bodyPost_ret (results4 rfl _ _ _) rfl ?_)
      exact ⟨ret_V4 HQ.out, rfl⟩
  · have hd : ((s[f].toNat : Int) != 46) = true := by simp; omega
    have H : Hid (nameP (bs s) = q4 2 f 0 0) := by
      refine Lib.hid (HP.out.trans (if_neg ?_))
      rw [HH.out]
      simp [hdot]
    clear HP HH hdot
    go_wp2_with fail
    ((try simp only [Exit.inBlock, Exit.then]); refine bodyPost_ret (results4 rfl _ _ _) rfl ?_)
    exact ⟨ret_V4 H.out, rfl⟩

/-- reachref9.fullName: cut at the first dot. -/
def fullFrom (l : Bytes) (k : Nat) : Bytes → Bool
  | [] => false
  | c :: r => if c.toNat = 46 then isName (l.take k) && isName (l.drop (k + 1)) else fullFrom l (k + 1) r

set_option maxHeartbeats 800000 in
theorem fullName_any (s : ByteArray) (w : World) (hs : s.size ≤ 9223372036854775806) :
    Calls Tryz.prog 40 #[.string s] w fun e w' => e = .returned (.bool (fullFrom (bs s) 0 (bs s))) ∧ w = w' := by
  go_enter Tryz.func40, Tryz.ntmps40
  go_wp2_with fail
  go_loop [3] (fun i => ∃ k : Nat, k ≤ s.size ∧ i = .int .i64 k ∧ Hid (fullFrom (bs s) 0 (bs s) = fullFrom (bs s) k ((bs s).drop k))) (fun i => s.size - (intOf i).toNat)
  case atStart => exact ⟨0, Nat.zero_le _, rfl, Lib.hid rfl⟩
  case round =>
    obtain ⟨k, hk, rfl, HR⟩ := hrel
    by_cases hlt : k < s.size
    · have HS : Hid (fullFrom (bs s) 0 (bs s) = if s[k].toNat = 46 then isName ((bs s).take k) && isName ((bs s).drop (k + 1)) else fullFrom (bs s) (k + 1) ((bs s).drop (k + 1))) := by
        refine Lib.hid (HR.out.trans ?_)
        rw [bs_drop s k hlt]; rfl
      clear HR
      by_cases hd : s[k].toNat = 46
      · have HS := Lib.hid (HS.out.trans (if_pos hd))
        have hd' : ((s[k].toNat : Int) == 46) = true := by simp; omega
        rw [← bs_take, ← bs_from] at HS
        have c1 := Lib.hid (name_any (s.extract 0 k) w (by have := size_extract_le s 0 k; omega))
        have c2 := Lib.hid (name_any (s.extract (k + 1) s.size) w (by have := size_extract_le s (k + 1) s.size; omega))
        generalize isName (bs (s.extract 0 k)) = b1 at *
        generalize isName (bs (s.extract (k + 1) s.size)) = b2 at *
        clear hd
        go_wp2_with fail
        refine c1.out.mono ?_
        rintro e w' ⟨rfl, rfl⟩
        clear c1
        cases b1
        · go_wp2_with fail
          go_ret
          exact ⟨ret_bool (by rw [HS.out]; rfl), rfl⟩
        · go_wp2_with fail
          refine c2.out.mono ?_
          rintro e w' ⟨rfl, rfl⟩
          go_wp2_with fail
          go_ret
          exact ⟨ret_bool (by rw [HS.out]; rfl), rfl⟩
      · have HS := Lib.hid (HS.out.trans (if_neg hd))
        have hd' : ((s[k].toNat : Int) == 46) = false := by simp; omega
        clear hd
        go_wp2_with fail
        go_round
        case rel => exact ⟨k + 1, by omega, by go_num, HS⟩
        case measure => simp [intOf]; omega
    · have HS : Hid (fullFrom (bs s) 0 (bs s) = false) := by
        refine Lib.hid (HR.out.trans ?_)
        rw [bs_drop_end s k hlt]; rfl
      clear HR
      go_wp2_with fail
      go_ret
      exact ⟨ret_bool HS.out.symm, rfl⟩
end Go.Proofs.YtjokciofeicdkaaGreatDoor
