/- Walks: roomInts, roomTexts. -/
import Derived.Test.YtjokciofeicdkaaGreatDoorRoom
namespace Go.Proofs.YtjokciofeicdkaaGreatDoor
open Go.RowKit

def mark1 : ByteArray := ⟨#[98, 101, 104, 105, 110, 100, 32, 116, 104, 101, 32, 101, 110, 100]⟩
def mark2 : ByteArray := ⟨#[98, 101, 104, 105, 110, 100, 32, 116, 104, 101, 32, 101, 110, 100, 50]⟩

set_option maxHeartbeats 2000000 in
set_option maxRecDepth 100000 in
theorem roomInts_any (l : List Int) (vl : Value) (B : Nat) (w : World) (hl : Ints w B vl l) (hB : B ≤ w.heap.size) (hle : l.length ≤ 35184372088822) :
    Calls Tryz.prog 38 #[vl] w fun e w' => ∃ v, e = .returned v ∧ Room 1 IntC (dead w' w.heap.size) w'.heap.size v l [-4711, -4712] ∧ Below w.heap.size w w' := by
  obtain ⟨A, cap, rfl, hcl, hcap⟩ := SlOf.form hl
  have hmk := make_any 49 3 (.int .i64 0) 1 8 Tryz.underlying49 infoInt (l.length + 2) ((l.length : Int) + 2) (by omega) (by omega) (by omega)
  have hF0 := Lib.hid (RowF.made w 3 #[.int .i64 0] (by decide) (l.length + 2))
  simp only [Value.cells, Nat.mul_one] at hmk
  obtain ⟨W1, hW1⟩ : ∃ W1, w.alloc (.cells (madeCells #[.int .i64 0] (l.length + 2)) 3 (0, 0)) = W1 := ⟨_, rfl⟩
  have hb0 := Lib.hid ((Below.refl w.heap.size w).alloc (Nat.le_refl _) (.cells (madeCells #[.int .i64 0] (l.length + 2)) 3 (0, 0)))
  have hF1 : Hid (RowF W1 w.heap.size 3 [.int .i64 0] ((l.take 0).map fun x => ([.int .i64 x] : List Value)) (l.length + 2 - 0)) := Lib.hid (by rw [← hW1]; have := hF0.out; rw [show (l.length + 2) * (#[Value.int .i64 0] : Array Value).size = l.length + 2 from Nat.mul_one _] at this; exact this)
  rw [hW1] at hb0
  have hL := Lib.hid hl
  clear hF0 hl
  go_enter Tryz.func38, Tryz.ntmps38
  go_wp2_with fail
  clear hmk
  clear hW1
  go_loopw [4] (fun i wr => ∃ k : Nat, k ≤ l.length ∧ i = .int .i64 k ∧ Hid (RowF wr w.heap.size 3 [.int .i64 0] ((l.take k).map fun x => ([.int .i64 x] : List Value)) (l.length + 2 - k)) ∧ Hid (Below w.heap.size w wr)) (fun i _ => l.length - (intOf i).toNat)
  case atStart => exact ⟨0, Nat.zero_le _, rfl, hF1, hb0⟩
  case round =>
    obtain ⟨k, hk, rfl, hF, hbw⟩ := hrel
    clear hF1 hb0
    have hlen : Hid (((l.take k).map fun x => ([.int .i64 x] : List Value)).length = k) := Lib.hid (by rw [List.length_map, List.length_take]; omega)
    by_cases hlt : k < l.length
    · have hL1 := Ints.below hL.out (hbw.out.mono hB) (Nat.le_refl _)
      obtain ⟨b, off, rfl⟩ := SlOf.addr hL1 (by omega)
      obtain ⟨hb, x, hx, f0⟩ := ints_el hL1 hlt
      have hF2 := hF.out
      rw [show l.length + 2 - k = (l.length + 2 - (k + 1)) + 1 by omega] at hF2
      have g0 := hF2.zel (j := 0) rfl
      rw [hlen.out] at g0
      simp only [List.length_cons, List.length_nil, Nat.zero_add, Nat.mul_one, Nat.add_zero] at g0
      have g1 := hF2.free k
      have hP := hF2.put [.int .i64 x] rfl
      rw [hlen.out] at hP
      simp only [List.length_cons, List.length_nil, Nat.zero_add, Nat.mul_one, setRow] at hP
      have hts : ((l.take (k + 1)).map fun x => ([.int .i64 x] : List Value)) = ((l.take k).map fun x => ([.int .i64 x] : List Value)) ++ [([.int .i64 x] : List Value)] := by rw [List.take_add_one, hx]; simp
      rw [← hts] at hP
      have hP := Lib.hid hP
      have hbs := Lib.hid (hbw.out.setCell (p := ⟨w.heap.size, k, none⟩) (Nat.le_refl _) (.int .i64 x))
      clear hF2 hF hbw hts hL1 hx hlen
      go_wp2_with fail
      go_roundw
      case rel => exact ⟨k + 1, by omega, by go_num, hP, hbs⟩
      case measure => simp [intOf]; omega
    · obtain rfl : k = l.length := by omega
      have hF2 := hF.out
      rw [show l.length + 2 - l.length = 0 + 2 by omega] at hF2
      have g0 := hF2.zel (j := 0) rfl
      have g2 := hF2.zel2 (j := 0) rfl
      rw [hlen.out] at g0 g2
      simp only [List.length_cons, List.length_nil, Nat.zero_add, Nat.mul_one, Nat.add_zero] at g0 g2
      have g1 := hF2.free l.length
      have g3 := hF2.free (l.length + 1)
      have hP := (hF2.put [.int .i64 (-4711)] rfl).put [.int .i64 (-4712)] rfl
      simp only [List.length_append, hlen.out, List.length_cons, List.length_nil, Nat.zero_add, Nat.mul_one, setRow] at hP
      have hP := Lib.hid hP
      have hbs := Lib.hid ((hbw.out.setCell (p := ⟨w.heap.size, l.length, none⟩) (Nat.le_refl _) (.int .i64 (-4711))).setCell (p := ⟨w.heap.size, l.length + 1, none⟩) (Nat.le_refl _) (.int .i64 (-4712)))
      clear hF2 hF hlen
      go_wp2_with fail
      go_ret
      refine ⟨_, rfl, ?_, hbs.out⟩
      have hcs : ((l.take l.length).map fun x => ([.int .i64 x] : List Value)) ++ [[.int .i64 (-4711)]] ++ [[.int .i64 (-4712)]] = (l ++ [-4711, -4712]).map fun x => ([.int .i64 x] : List Value) := by simp
      have hP := hP.out
      rw [hcs] at hP
      refine (hP.dead (Nat.le_refl _)).room (by simp) hP.row.lt (by simp) (by omega) fun i c x hc hx => ?_
      rw [List.getElem?_map, hx] at hc
      exact (Option.some.inj hc).symm

set_option maxHeartbeats 2000000 in
set_option maxRecDepth 100000 in
theorem roomTexts_any (l : List ByteArray) (vl : Value) (B : Nat) (w : World) (hl : Texts w B vl l) (hB : B ≤ w.heap.size) (hle : l.length ≤ 17592186044406) :
    Calls Tryz.prog 39 #[vl] w fun e w' => ∃ v, e = .returned v ∧ Room 1 StrC (dead w' w.heap.size) w'.heap.size v l [mark1, mark2] ∧ Below w.heap.size w w' := by
  obtain ⟨A, cap, rfl, hcl, hcap⟩ := SlOf.form hl
  have hmk := make_any 50 9 (.string ByteArray.empty) 1 16 Tryz.underlying50 infoStr (l.length + 2) ((l.length : Int) + 2) (by omega) (by omega) (by omega)
  have hF0 := Lib.hid (RowF.made w 9 #[.string ByteArray.empty] (by decide) (l.length + 2))
  simp only [Value.cells, Nat.mul_one] at hmk
  obtain ⟨W1, hW1⟩ : ∃ W1, w.alloc (.cells (madeCells #[.string ByteArray.empty] (l.length + 2)) 9 (0, 0)) = W1 := ⟨_, rfl⟩
  have hb0 := Lib.hid ((Below.refl w.heap.size w).alloc (Nat.le_refl _) (.cells (madeCells #[.string ByteArray.empty] (l.length + 2)) 9 (0, 0)))
  have hF1 : Hid (RowF W1 w.heap.size 9 [.string ByteArray.empty] ((l.take 0).map fun x => ([.string x] : List Value)) (l.length + 2 - 0)) := Lib.hid (by rw [← hW1]; have := hF0.out; rw [show (l.length + 2) * (#[Value.string ByteArray.empty] : Array Value).size = l.length + 2 from Nat.mul_one _] at this; exact this)
  rw [hW1] at hb0
  have hL := Lib.hid hl
  clear hF0 hl
  go_enter Tryz.func39, Tryz.ntmps39
  go_wp2_with fail
  clear hmk
  clear hW1
  go_loopw [4] (fun i wr => ∃ k : Nat, k ≤ l.length ∧ i = .int .i64 k ∧ Hid (RowF wr w.heap.size 9 [.string ByteArray.empty] ((l.take k).map fun x => ([.string x] : List Value)) (l.length + 2 - k)) ∧ Hid (Below w.heap.size w wr)) (fun i _ => l.length - (intOf i).toNat)
  case atStart => exact ⟨0, Nat.zero_le _, rfl, hF1, hb0⟩
  case round =>
    obtain ⟨k, hk, rfl, hF, hbw⟩ := hrel
    clear hF1 hb0
    have hlen : Hid (((l.take k).map fun x => ([.string x] : List Value)).length = k) := Lib.hid (by rw [List.length_map, List.length_take]; omega)
    by_cases hlt : k < l.length
    · have hL1 := Texts.below hL.out (hbw.out.mono hB) (Nat.le_refl _)
      obtain ⟨b, off, rfl⟩ := SlOf.addr hL1 (by omega)
      obtain ⟨hb, x, hx, hxs, f0⟩ := texts_el hL1 hlt
      have hF2 := hF.out
      rw [show l.length + 2 - k = (l.length + 2 - (k + 1)) + 1 by omega] at hF2
      have g0 := hF2.zel (j := 0) rfl
      rw [hlen.out] at g0
      simp only [List.length_cons, List.length_nil, Nat.zero_add, Nat.mul_one, Nat.add_zero] at g0
      have g1 := hF2.free k
      have hP := hF2.put [.string x] rfl
      rw [hlen.out] at hP
      simp only [List.length_cons, List.length_nil, Nat.zero_add, Nat.mul_one, setRow] at hP
      have hts : ((l.take (k + 1)).map fun x => ([.string x] : List Value)) = ((l.take k).map fun x => ([.string x] : List Value)) ++ [([.string x] : List Value)] := by rw [List.take_add_one, hx]; simp
      rw [← hts] at hP
      have hP := Lib.hid hP
      have hbs := Lib.hid (hbw.out.setCell (p := ⟨w.heap.size, k, none⟩) (Nat.le_refl _) (.string x))
      clear hF2 hF hbw hts hL1 hx hlen
      go_wp2_with fail
      go_roundw
      case rel => exact ⟨k + 1, by omega, by go_num, hP, hbs⟩
      case measure => simp [intOf]; omega
    · obtain rfl : k = l.length := by omega
      have hF2 := hF.out
      rw [show l.length + 2 - l.length = 0 + 2 by omega] at hF2
      have g0 := hF2.zel (j := 0) rfl
      have g2 := hF2.zel2 (j := 0) rfl
      rw [hlen.out] at g0 g2
      simp only [List.length_cons, List.length_nil, Nat.zero_add, Nat.mul_one, Nat.add_zero] at g0 g2
      have g1 := hF2.free l.length
      have g3 := hF2.free (l.length + 1)
      have hP := (hF2.put [.string mark1] rfl).put [.string mark2] rfl
      simp only [List.length_append, hlen.out, List.length_cons, List.length_nil, Nat.zero_add, Nat.mul_one, setRow] at hP
      have hP := Lib.hid hP
      have hbs := Lib.hid ((hbw.out.setCell (p := ⟨w.heap.size, l.length, none⟩) (Nat.le_refl _) (.string mark1)).setCell (p := ⟨w.heap.size, l.length + 1, none⟩) (Nat.le_refl _) (.string mark2))
      clear hF2 hF hlen
      go_wp2_with fail
      go_ret
      refine ⟨_, rfl, ?_, hbs.out⟩
      have hcs : ((l.take l.length).map fun x => ([.string x] : List Value)) ++ [[.string mark1]] ++ [[.string mark2]] = (l ++ [mark1, mark2]).map fun x => ([.string x] : List Value) := by simp
      have hP := hP.out
      rw [hcs] at hP
      refine (hP.dead (Nat.le_refl _)).room (by simp) hP.row.lt (by simp) (by omega) fun i c x hc hx => ?_
      rw [List.getElem?_map, hx] at hc
      refine ⟨(Option.some.inj hc).symm, ?_⟩
      by_cases hi : i < l.length
      · obtain ⟨_, _, _, x', _, _, hx', hs, _⟩ := Texts.at_ hL.out hi
        rw [List.getElem?_append_left hi, hx'] at hx
        rw [← Option.some.inj hx]; exact hs
      · rw [List.getElem?_append_right (by omega)] at hx
        have : x = mark1 ∨ x = mark2 := by
          rcases Nat.eq_zero_or_pos (i - l.length) with h0 | h0
          · rw [h0] at hx; exact .inl (by simpa using hx.symm)
          · obtain ⟨j, hj⟩ : ∃ j, i - l.length = j + 1 := ⟨i - l.length - 1, by omega⟩
            rw [hj] at hx
            cases j with
            | zero => exact .inr (by simpa using hx.symm)
            | succ j => simp at hx
        rcases this with rfl | rfl <;> decide
end Go.Proofs.YtjokciofeicdkaaGreatDoor
