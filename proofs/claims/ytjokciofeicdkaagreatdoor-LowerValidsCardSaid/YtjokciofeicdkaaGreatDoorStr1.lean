/- Walks: the functions of names, cubes and classes of bytes. -/
import Derived.Test.YtjokciofeicdkaaGreatDoorSpec
namespace Go.Proofs.YtjokciofeicdkaaGreatDoor
open Go.RowKit

set_option maxHeartbeats 800000 in
theorem name_any (s : ByteArray) (w : World) (hs : s.size ≤ 9223372036854775807) :
    Calls Tryz.prog 57 #[.string s] w fun e w' => e = .returned (.bool (isName (bs s))) ∧ w = w' := by
  by_cases h1 : s.size < 1
  · have H := Lib.hid (isName_out s (by omega))
    go_enter Tryz.func57, Tryz.ntmps57
    go_wp2
    go_ret
    exact ⟨ret_bool H.out.symm, rfl⟩
  by_cases h2 : 24 < s.size
  · have H := Lib.hid (isName_out s (by omega))
    go_enter Tryz.func57, Tryz.ntmps57
    go_wp2
    go_ret
    exact ⟨ret_bool H.out.symm, rfl⟩
  have H := Lib.hid (isName_in s h1 h2)
  go_enter Tryz.func57, Tryz.ntmps57
  go_wp2
  go_loop [3] (fun i => ∃ k : Nat, k ≤ s.size ∧ i = .int .i64 k ∧ Hid (isName (bs s) = nm (k == 0) ((bs s).drop k))) (fun i => s.size - (intOf i).toNat)
  case atStart => exact ⟨0, Nat.zero_le _, rfl, H⟩
  case round =>
    obtain ⟨k, hk, rfl, HR⟩ := hrel
    by_cases hlt : k < s.size
    · have HS : Hid (isName (bs s) = if !letterN s[k].toNat && ((k == 0) || !digitN s[k].toNat) then false else nm false ((bs s).drop (k + 1))) := by
        refine Lib.hid ?_
        have := HR.out
        rw [bs_drop s k hlt] at this
        exact this
      clear H HR
      go_upto_region 7 with fail
      go_cut [4, 5] (fun u v w' => w' = w ∧ u = .int .u8 s[k].toNat ∧ v = .bool (letterN s[k].toNat))
      case first =>
        go_wp2
        all_goals (go_meet)
        all_goals (refine ⟨rfl, by first | rfl | (simp; omega), val_bool ?_⟩; rw [Bool.eq_iff_iff]; simp [letterN]; omega)
      case rest =>
        obtain ⟨rfl, rfl, rfl⟩ := hcut
        generalize hL : letterN s[k].toNat = L at *
        have HL := Lib.hid hL; clear hL
        by_cases h0 : k = 0
        · have HS' : Hid (isName (bs s) = if !L then false else nm false ((bs s).drop 1)) := by
            refine Lib.hid ?_
            have := HS.out
            subst h0
            simpa using this
          clear HS
          cases L
          · go_wp2
            go_ret
            exact ⟨ret_bool HS'.out.symm, rfl⟩
          · go_wp2
            go_round
            case rel => exact ⟨1, by omega, by first | go_num | (simp; omega), HS'⟩
            case measure => simp [intOf]; omega
        · have h0' : ((k : Int) == 0) = false := by simp; omega
          have HS' : Hid (isName (bs s) = if !L && !digitN s[k].toNat then false else nm false ((bs s).drop (k + 1))) := by
            refine Lib.hid ?_
            have := HS.out
            have hk0 : (k == 0) = false := by simp [h0]
            rw [hk0] at this
            simpa using this
          clear HS
          have fin : Hid (nm (k + 1 == 0) ((bs s).drop (k + 1)) = nm false ((bs s).drop (k + 1))) := rfl
          cases L
          · by_cases hd : 48 ≤ s[k].toNat ∧ s[k].toNat ≤ 57
            · have HS2 : Hid (isName (bs s) = nm false ((bs s).drop (k + 1))) := by
                refine Lib.hid ?_
                have := HS'.out
                have hdd : digitN s[k].toNat = true := by simp [digitN, hd]
                rw [hdd] at this
                simpa using this
              obtain ⟨hd1, hd2⟩ := hd
              go_wp2
              go_round
              case rel => exact ⟨k + 1, by omega, by go_num, HS2⟩
              case measure => simp [intOf]; omega
            · have HS2 : Hid (isName (bs s) = false) := by
                refine Lib.hid ?_
                have := HS'.out
                have hdd : digitN s[k].toNat = false := by simp [digitN]; omega
                rw [hdd] at this
                simpa using this
              go_wp2
              all_goals first
                | (go_ret; exact ⟨ret_bool HS2.out.symm, rfl⟩)
                | (exfalso; apply hd; omega)
                | (exfalso; simp at *; omega)
          · have HS2 : Hid (isName (bs s) = nm false ((bs s).drop (k + 1))) := Lib.hid (by simpa using HS'.out)
            go_wp2
            go_round
            case rel => exact ⟨k + 1, by omega, by go_num, HS2⟩
            case measure => simp [intOf]; omega
    · have HE : Hid (isName (bs s) = true) := by
        refine Lib.hid ?_
        have := HR.out
        rw [bs_drop_end s k hlt] at this
        exact this
      go_wp2
      go_ret
      exact ⟨ret_bool HE.out.symm, rfl⟩

set_option maxHeartbeats 800000 in
theorem cube_any (s : ByteArray) (w : World) (hs : s.size ≤ 9223372036854775807) :
    Calls Tryz.prog 58 #[.string s] w fun e w' => e = .returned (.bool (isCube (bs s))) ∧ w = w' := by
  by_cases h1 : s.size < 1
  · have H := Lib.hid (isCube_out s (by omega))
    go_enter Tryz.func58, Tryz.ntmps58
    go_wp2
    go_ret
    exact ⟨ret_bool H.out.symm, rfl⟩
  by_cases h2 : 256 < s.size
  · have H := Lib.hid (isCube_out s (by omega))
    go_enter Tryz.func58, Tryz.ntmps58
    go_wp2
    go_ret
    exact ⟨ret_bool H.out.symm, rfl⟩
  have H := Lib.hid (isCube_in s h1 h2)
  go_enter Tryz.func58, Tryz.ntmps58
  go_wp2
  go_loop [3] (fun i => ∃ k : Nat, k ≤ s.size ∧ i = .int .i64 k ∧ Hid (isCube (bs s) = ((bs s).drop k).all cubeU)) (fun i => s.size - (intOf i).toNat)
  case atStart => exact ⟨0, Nat.zero_le _, rfl, H⟩
  case round =>
    obtain ⟨k, hk, rfl, HR⟩ := hrel
    by_cases hlt : k < s.size
    · by_cases hc : s[k].toNat = 48 ∨ s[k].toNat = 49 ∨ s[k].toNat = 120
      · have HS : Hid (isCube (bs s) = ((bs s).drop (k + 1)).all cubeU) := by
          refine Lib.hid ?_
          have := HR.out
          rw [bs_drop s k hlt, List.all_cons, show cubeU s[k] = true by simp [cubeU]; omega] at this
          simpa using this
        clear HR H
        have a1 : ((s[k].toNat : Int) == 48) = true ∨ (((s[k].toNat : Int) == 48) = false ∧ ((s[k].toNat : Int) == 49) = true) ∨ (((s[k].toNat : Int) == 48) = false ∧ ((s[k].toNat : Int) == 49) = false ∧ ((s[k].toNat : Int) == 120) = true) := by
          simp; omega
        clear hc
        go_wp2
        all_goals first
          | (go_round
             case rel => exact ⟨k + 1, by omega, by go_num, HS⟩
             case measure => simp [intOf]; omega)
          | (exfalso; simp at *; omega)
      · have HS : Hid (isCube (bs s) = false) := by
          refine Lib.hid ?_
          have := HR.out
          rw [bs_drop s k hlt, List.all_cons, show cubeU s[k] = false by simp [cubeU]; omega] at this
          simpa using this
        clear HR H
        have a1 : ¬ s[k].toNat = 48 := by omega
        have a2 : ¬ s[k].toNat = 49 := by omega
        have a3 : ¬ s[k].toNat = 120 := by omega
        clear hc
        go_wp2
        all_goals first
          | (go_ret; exact ⟨ret_bool HS.out.symm, rfl⟩)
          | (exfalso; simp at *; omega)
    · have HE : Hid (isCube (bs s) = true) := by
        refine Lib.hid ?_
        have := HR.out
        rw [bs_drop_end s k hlt] at this
        exact this
      go_wp2
      go_ret
      exact ⟨ret_bool HE.out.symm, rfl⟩
end Go.Proofs.YtjokciofeicdkaaGreatDoor
