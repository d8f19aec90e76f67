/- Walks: the reference's questions on lists and places (cubesRight, side). -/
import Derived.Test.YtjokciofeicdkaaGreatDoorNet
import Derived.Test.YtjokciofeicdkaaGreatDoorStr1
namespace Go.Proofs.YtjokciofeicdkaaGreatDoor
open Go.RowKit

set_option maxHeartbeats 800000 in
theorem cubesRight_any (bits : Int) (l : List ByteArray) (most : Nat) (vl : Value) (B : Nat) (w : World) (hl : Texts w B vl l) (hm : most ≤ 1000) :
    Calls Tryz.prog 41 #[.int .i64 bits, vl, .int .i64 most] w fun e w' => e = .returned (.bool (cubesOk bits l most)) ∧ w = w' := by
  obtain ⟨A, cap, rfl, hcl, hcap⟩ := SlOf.form hl
  by_cases h1 : most < l.length
  · have H := Lib.hid (show cubesOk bits l most = false by unfold cubesOk; rw [decide_eq_false (by omega), Bool.false_and])
    have h1' : (l.length : Int) > (most : Int) := by omega
    clear hl h1
    go_enter Tryz.func41, Tryz.ntmps41
    go_wp2_with fail
    go_ret
    exact ⟨ret_bool H.out.symm, rfl⟩
  have h1' : ¬ (l.length : Int) > (most : Int) := by omega
  have H : Hid (cubesOk bits l most = (l.drop 0).all (cubeOk bits)) := Lib.hid (by unfold cubesOk; rw [decide_eq_true (by omega), Bool.true_and, List.drop_zero])
  generalize cubesOk bits l most = R at *
  have hL := Lib.hid hl
  clear hl h1
  go_enter Tryz.func41, Tryz.ntmps41
  go_wp2_with fail
  go_loop [7, 8] (fun i _ => ∃ k : Nat, k ≤ l.length ∧ i = .int .i64 k ∧ Hid (R = (l.drop k).all (cubeOk bits))) (fun i _ => l.length - (intOf i).toNat)
  case atStart => exact ⟨0, Nat.zero_le _, rfl, H⟩
  case round =>
    obtain ⟨k, hk, rfl, HR⟩ := hrel
    clear H
    by_cases hlt : k < l.length
    · obtain ⟨b, off, cap', x, hv, hb, hx, hxs, hc⟩ := Texts.at_ hL.out hlt
      injection hv with hA _ hc'
      subst hA hc'
      have HS : Hid (R = (cubeOk bits x && (l.drop (k + 1)).all (cubeOk bits))) := Lib.hid (by rw [HR.out, drop_at hx, List.all_cons])
      clear HR hx
      have hc0 : w.cell? ⟨b, off + k, none⟩ = some (.string x) := hc
      have c1 := Lib.hid (cube_any x w (by omega))
      clear hL
      rw [show cubeOk bits x = (isCube (bs x) && decide ((x.size : Int) = bits)) from rfl] at HS
      generalize isCube (bs x) = q at *
      cases q
      · rw [Bool.false_and, Bool.false_and] at HS
        go_wp2_with fail
        refine c1.out.mono ?_
        rintro e w' ⟨rfl, rfl⟩
        go_wp2_with fail
        go_ret
        exact ⟨ret_bool HS.out.symm, rfl⟩
      · rw [Bool.true_and] at HS
        by_cases hs : (x.size : Int) = bits
        · rw [decide_eq_true hs, Bool.true_and] at HS
          have hs' : ((x.size : Int) != bits) = false := by simp [hs]
          clear hs
          go_wp2_with fail
          refine c1.out.mono ?_
          rintro e w' ⟨rfl, rfl⟩
          go_wp2_with fail
          go_round
          case rel => exact ⟨k + 1, by omega, by go_num, HS⟩
          case measure => simp [intOf]; omega
        · rw [decide_eq_false hs, Bool.false_and] at HS
          have hs' : ((x.size : Int) != bits) = true := by simp [hs]
          clear hs
          go_wp2_with fail
          refine c1.out.mono ?_
          rintro e w' ⟨rfl, rfl⟩
          go_wp2_with fail
          go_ret
          exact ⟨ret_bool HS.out.symm, rfl⟩
    · have HS : Hid (R = true) := Lib.hid (by rw [HR.out, drop_end hlt]; rfl)
      clear HR hL
      go_wp2_with fail
      go_ret
      exact ⟨ret_bool HS.out.symm, rfl⟩

set_option maxHeartbeats 800000 in
theorem side_any (n : NetS) (p box : Int) (inn : Bool) (v : Value) (B : Nat) (w : World) (hn : NetAt w B v n) (hB : B ≤ w.heap.size) :
    Calls Tryz.prog 59 #[v, .int .i64 p, .int .i64 box, .bool inn] w fun e w' => e = .returned (.bool (sideS n p box inn)) ∧ Below w.heap.size w w' := by
  obtain ⟨vp, vt, vg, rfl, hp, ht, hg⟩ := hn
  obtain ⟨A, cap, rfl, hcl, hcap⟩ := SlOf.form hp
  have hb0 := Lib.hid ((Below.refl w.heap.size w).alloc (Nat.le_refl _) (.cells #[.int .i64 n.bits, .slice A n.ports.length cap, vt, vg] 26 (0, 0)))
  clear ht hg
  by_cases h0 : 0 ≤ p
  · by_cases h1 : p < n.ports.length
    · obtain ⟨k, rfl⟩ := Int.eq_ofNat_of_zero_le h0
      obtain ⟨b, off, cap', c, x, hv, hb, hx, ⟨hc, _⟩, _, hj⟩ := SlOf.at_ hp (k := k) (by omega)
      injection hv with hA _ hc'
      subst hA hc' hc
      have H : Hid (sideS n k box inn = (decide (x.box = box) && (x.inn == inn))) := Lib.hid (by
        unfold sideS; rw [decide_eq_true h0, decide_eq_true h1, Int.toNat_natCast, hx]; simp)
      have g1 := Lib.hid (hb0.out.cell (p := ⟨b, off + k * 4 + 1, none⟩) (show b < w.heap.size by omega))
      have g2 := Lib.hid (hb0.out.cell (p := ⟨b, off + k * 4 + 2, none⟩) (show b < w.heap.size by omega))
      have q1 := g1.out.trans (hj 1 _ rfl)
      have q2 := g2.out.trans (hj 2 _ rfl)
      have h1' : (k : Int) < (n.ports.length : Int) := h1
      clear hp hj hx g1 g2
      go_enter Tryz.func59, Tryz.ntmps59
      go_wp2_with fail
      all_goals (go_ret; refine ⟨ret_bool ?_, hb0.out⟩; rw [H.out]; simp [*])
    · have H := Lib.hid (show sideS n p box inn = false by unfold sideS; rw [decide_eq_false h1]; simp)
      clear hp
      go_enter Tryz.func59, Tryz.ntmps59
      go_wp2_with fail
      go_ret
      exact ⟨ret_bool H.out.symm, hb0.out⟩
  · have H := Lib.hid (show sideS n p box inn = false by unfold sideS; rw [decide_eq_false h0]; rfl)
    clear hp
    go_enter Tryz.func59, Tryz.ntmps59
    go_wp2_with fail
    go_ret
    exact ⟨ret_bool H.out.symm, hb0.out⟩
end Go.Proofs.YtjokciofeicdkaaGreatDoor
