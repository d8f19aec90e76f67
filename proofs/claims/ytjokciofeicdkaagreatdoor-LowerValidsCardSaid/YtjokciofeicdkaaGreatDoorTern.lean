/- Walks: tern.row.put, tern.Parse. -/
import Derived.Test.YtjokciofeicdkaaGreatDoorStr1
import Derived.Test.YtjokciofeicdkaaGreatDoorMach
import Derived.Test.YtjokciofeicdkaaGreatDoorNum1
namespace Go.Proofs.YtjokciofeicdkaaGreatDoor
open Go.RowKit

set_option maxHeartbeats 2000000 in
set_option maxRecDepth 100000 in
theorem rowput_any (b off : Nat) (i : Nat) (x : Int) (w : World) (hi : i < 256) (hx : w.cell? ⟨b, off + i / 64, none⟩ = some (.int .u64 x)) (hf : w.frozen? ⟨b, off + i / 64, none⟩ = false) :
    Calls Tryz.prog 114 #[.pointer (some ⟨b, off, none⟩), .int .i64 i] w fun e w' => e = .returned (.tuple #[]) ∧ ∃ y : Int, w' = (w.setCell ⟨b, off + i / 64, none⟩ (.int .u64 y)).drew := by
  have h1 : (i : Int) / 64 < 4 := by omega
  have h2 : (0 : Int) ≤ (i : Int) / 64 := by omega
  have h3 : ((i : Int) / 64).toNat = i / 64 := by omega
  have h4 : (0 : Int) ≤ (i : Int) % 64 := by omega
  have h5 : (i : Int) % 64 < 64 := by omega
  go_enter Tryz.func114, Tryz.ntmps114
  go_wp2_with fail
  go_region
  go_wp2_with fail
  go_end0
  exact ⟨rfl, _, rfl⟩

def cubeCells (k : Int) (f : Nat → Int) : Array Value := #[.int .i64 k, .int .u64 (f 0), .int .u64 (f 1), .int .u64 (f 2), .int .u64 (f 3), .int .u64 (f 4), .int .u64 (f 5), .int .u64 (f 6), .int .u64 (f 7)]
def CubeAt (w : World) (M : Nat) (k : Int) (f : Nat → Int) : Prop := w.heap[M]? = some (.cells (cubeCells k f) 153 (0, 0))
theorem CubeAt.cell {w : World} {M : Nat} {k : Int} {f : Nat → Int} (h : CubeAt w M k f) (j : Nat) (hj : j < 8) : w.cell? ⟨M, 1 + j, none⟩ = some (.int .u64 (f j)) := by
  have := cell_of_row w M (1 + j) _ _ (0, 0) h
  rw [this]
  match j, hj with
  | 0, _ => rfl
  | 1, _ => rfl
  | 2, _ => rfl
  | 3, _ => rfl
  | 4, _ => rfl
  | 5, _ => rfl
  | 6, _ => rfl
  | 7, _ => rfl
  | j + 8, h => omega
theorem CubeAt.free {w : World} {M : Nat} {k : Int} {f : Nat → Int} (h : CubeAt w M k f) (i : Nat) : w.frozen? ⟨M, i, none⟩ = false := by
  unfold CubeAt at h; unfold World.frozen?; simp [h]
theorem CubeAt.set {w : World} {M : Nat} {k : Int} {f : Nat → Int} (h : CubeAt w M k f) (j : Nat) (hj : j < 8) (y : Int) : CubeAt (w.setCell ⟨M, 1 + j, none⟩ (.int .u64 y)).drew M k (fun i => if i = j then y else f i) := by
  have hs : (w.setCell ⟨M, 1 + j, none⟩ (.int .u64 y)).heap[M]? = some (.cells ((cubeCells k f).setIfInBounds (1 + j) (.int .u64 y)) 153 (0, 0)) := by
    unfold CubeAt at h
    unfold World.setCell
    simp only [Array.getElem?_modify, h]
    simp
  show (w.setCell ⟨M, 1 + j, none⟩ (.int .u64 y)).heap[M]? = _
  rw [hs]
  match j, hj with
  | 0, _ => rfl
  | 1, _ => rfl
  | 2, _ => rfl
  | 3, _ => rfl
  | 4, _ => rfl
  | 5, _ => rfl
  | 6, _ => rfl
  | 7, _ => rfl
  | j + 8, h => omega
theorem cubePut_any (M r i : Nat) (k : Int) (f : Nat → Int) (w : World) (hi : i < 256) (hr : r ≤ 4) (h : CubeAt w M k f) :
    Calls Tryz.prog 114 #[.pointer (some ⟨M, 1 + r, none⟩), .int .i64 i] w fun e w' => e = .returned (.tuple #[]) ∧ (∃ f', CubeAt w' M k f') ∧ Below M w w' := by
  have hc := h.cell (r + i / 64) (by omega)
  have hf := h.free (1 + r + i / 64)
  rw [← Nat.add_assoc] at hc
  refine (rowput_any M (1 + r) i _ w hi hc hf).mono ?_
  rintro e w' ⟨rfl, y, rfl⟩
  have hset := h.set (r + i / 64) (by omega) y
  rw [← Nat.add_assoc] at hset
  exact ⟨rfl, ⟨_, hset⟩, below_drewN ((Below.refl M w).setCell (Nat.le_refl _) _) 1⟩

def parseE (s : ByteArray) : Int := if isCube (bs s) then 0 else if 256 < s.size then 2 else 10
def ParsePost (s : ByteArray) (w : World) (e : Ending) (w' : World) : Prop :=
  ∃ (k : Int) (f : Nat → Int), e = .returned (.tuple #[.agg (cubeCells k f), .int .i64 (parseE s)]) ∧ Below w.heap.size w w'

set_option maxHeartbeats 2000000 in
set_option maxRecDepth 100000 in
theorem Parse_any (s : ByteArray) (w : World) (hs : s.size ≤ 9223372036854775807) :
    Calls Tryz.prog 80 #[.string s] w (ParsePost s w) := by
  have hb0 := Lib.hid ((Below.refl w.heap.size w).alloc (Nat.le_refl _) (.cells #[.int .i64 0, .int .u64 0, .int .u64 0, .int .u64 0, .int .u64 0, .int .u64 0, .int .u64 0, .int .u64 0, .int .u64 0] 153 (0, 0)))
  by_cases h1 : 256 < s.size
  · have H := Lib.hid (show parseE s = 2 by unfold parseE; rw [isCube_out s (.inr h1), if_pos h1]; rfl)
    have h1' : (s.size : Int) > 256 := by omega
    clear h1
    go_enter Tryz.func80, Tryz.ntmps80
    go_wp2_with fail
    refine bodyPost_ret (v := .tuple #[.agg (cubeCells 0 fun _ => 0), .int .i64 2]) (by simp [results, Tryz.results80, go_sem, cubeCells]) rfl ?_
    exact ⟨_, _, by rw [H.out], hb0.out⟩
  by_cases h0 : s.size = 0
  · have H := Lib.hid (show parseE s = 10 by unfold parseE; rw [isCube_out s (.inl (by omega)), if_neg h1]; rfl)
    have he : s.toList.isEmpty = true := by
      rw [ByteArray.toList_eq]; have : s.data.toList.length = 0 := h0
      rw [List.length_eq_zero_iff.1 this]; rfl
    have h1' : ¬ (s.size : Int) > 256 := by omega
    clear h1 h0
    go_enter Tryz.func80, Tryz.ntmps80
    go_wp2_with fail
    refine bodyPost_ret (v := .tuple #[.agg (cubeCells 0 fun _ => 0), .int .i64 10]) (by simp [results, Tryz.results80, go_sem, cubeCells]) rfl ?_
    exact ⟨_, _, by rw [H.out], hb0.out⟩
  have H : Hid (parseE s = if ((bs s).drop 0).all cubeU then 0 else 10) := Lib.hid (by unfold parseE; rw [isCube_in s (by omega) h1, if_neg h1]; rfl)
  have he := emp_false s h0
  have h1' : ¬ (s.size : Int) > 256 := by omega
  have hl : s.size ≤ 256 := by omega
  have hb1 := Lib.hid (Below.refl (w.heap.size + 1) (w.alloc (.cells #[.int .i64 0, .int .u64 0, .int .u64 0, .int .u64 0, .int .u64 0, .int .u64 0, .int .u64 0, .int .u64 0, .int .u64 0] 153 (0, 0))))
  obtain ⟨W0, hW0⟩ : ∃ W0, W0 = w.alloc (.cells #[.int .i64 0, .int .u64 0, .int .u64 0, .int .u64 0, .int .u64 0, .int .u64 0, .int .u64 0, .int .u64 0, .int .u64 0] 153 (0, 0)) := ⟨_, rfl⟩
  rw [← hW0] at hb0 hb1
  have hz : Hid (W0.heap.size = w.heap.size + 1) := Lib.hid (by rw [hW0]; simp)
  have hC0 : Hid (CubeAt (W0.alloc (.cells #[.int .i64 s.size, .int .u64 0, .int .u64 0, .int .u64 0, .int .u64 0, .int .u64 0, .int .u64 0, .int .u64 0, .int .u64 0] 153 (0, 0))) (w.heap.size + 1) s.size fun _ => 0) := Lib.hid (by
    have := heap_alloc_new W0 (.cells #[.int .i64 s.size, .int .u64 0, .int .u64 0, .int .u64 0, .int .u64 0, .int .u64 0, .int .u64 0, .int .u64 0, .int .u64 0] 153 (0, 0))
    rw [hz.out] at this; exact this)
  have hb2 := Lib.hid (hb1.out.alloc (by have := hz.out; omega) (.cells #[.int .i64 s.size, .int .u64 0, .int .u64 0, .int .u64 0, .int .u64 0, .int .u64 0, .int .u64 0, .int .u64 0, .int .u64 0] 153 (0, 0)))
  have hR0 : Hid (W0.heap[w.heap.size]? = some (.cells #[.int .i64 0, .int .u64 0, .int .u64 0, .int .u64 0, .int .u64 0, .int .u64 0, .int .u64 0, .int .u64 0, .int .u64 0] 153 (0, 0))) := Lib.hid (by rw [hW0]; exact heap_alloc_new w _)
  clear h1 h0 hb1
  rw [hW0] at hC0 hb2
  go_enter Tryz.func80, Tryz.ntmps80
  go_wp2_with fail
  go_loopw [5, 18] (fun _ c wr => ∃ (i : Nat) (f : Nat → Int), i ≤ s.size ∧ c = .int .i64 i ∧ Hid (parseE s = if ((bs s).drop i).all cubeU then 0 else 10) ∧ Hid (CubeAt wr (w.heap.size + 1) s.size f) ∧ Hid (Below (w.heap.size + 1) W0 wr)) (fun _ c _ => s.size - (intOf c).toNat)
  case atStart => exact ⟨0, _, Nat.zero_le _, rfl, H, hC0, by rw [hW0]; exact hb2⟩
  case round =>
    obtain ⟨i, f, hi, rfl, HR, hC, hbw⟩ := hrel
    clear H hC0 hb2 hW0
    have hR := (hbw.out.block w.heap.size (by omega)).trans hR0.out
    have hR := Lib.hid hR
    by_cases hlt : i < s.size
    · have HS : Hid (parseE s = if (cubeU s[i] && ((bs s).drop (i + 1)).all cubeU) then 0 else 10) := Lib.hid (by rw [HR.out, bs_drop s i hlt, List.all_cons])
      clear HR
      by_cases c1 : s[i].toNat = 49
      · have HU : Hid (parseE s = if ((bs s).drop (i + 1)).all cubeU then 0 else 10) := Lib.hid (by rw [HS.out, show cubeU s[i] = true by simp [cubeU, c1], Bool.true_and])
        have k1 : ((s[i].toNat : Int) == 49) = true := by simp [c1]
        have p1 := Lib.hid (cubePut_any (w.heap.size + 1) 4 i s.size f wr (by omega) (by omega) hC.out)
        clear HS c1
        go_wp2_with fail
        refine p1.out.mono ?_
        rintro e w1 ⟨rfl, ⟨f1, hC1⟩, hb1⟩
        have p2 := Lib.hid (cubePut_any (w.heap.size + 1) 0 i s.size f1 w1 (by omega) (by omega) hC1)
        have hb1 := Lib.hid (hbw.out.trans hb1)
        clear p1 hC hR hbw hC1
        go_wp2_with fail
        refine p2.out.mono ?_
        rintro e w2 ⟨rfl, ⟨f2, hC2⟩, hb2⟩
        have hb2 := Lib.hid (hb1.out.trans hb2)
        have hC2 := Lib.hid hC2
        clear p2 hb1
        go_wp2_with fail
        go_roundw
        case rel => exact ⟨i + 1, f2, by omega, by go_num, HU, hC2, hb2⟩
        case measure => simp [intOf]; omega
      by_cases c2 : s[i].toNat = 48
      · have HU : Hid (parseE s = if ((bs s).drop (i + 1)).all cubeU then 0 else 10) := Lib.hid (by rw [HS.out, show cubeU s[i] = true by simp [cubeU, c2], Bool.true_and])
        have k1 : ((s[i].toNat : Int) == 49) = false := by simp [c2]
        have k2 : ((s[i].toNat : Int) == 48) = true := by simp [c2]
        have p1 := Lib.hid (cubePut_any (w.heap.size + 1) 0 i s.size f wr (by omega) (by omega) hC.out)
        clear HS c1 c2
        go_wp2_with fail
        refine p1.out.mono ?_
        rintro e w1 ⟨rfl, ⟨f1, hC1⟩, hb1⟩
        have hb1 := Lib.hid (hbw.out.trans hb1)
        have hC1 := Lib.hid hC1
        clear p1 hC hR hbw
        go_wp2_with fail
        go_roundw
        case rel => exact ⟨i + 1, f1, by omega, by go_num, HU, hC1, hb1⟩
        case measure => simp [intOf]; omega
      by_cases c3 : s[i].toNat = 120
      · have HU : Hid (parseE s = if ((bs s).drop (i + 1)).all cubeU then 0 else 10) := Lib.hid (by rw [HS.out, show cubeU s[i] = true by simp [cubeU, c3], Bool.true_and])
        have k1 : ((s[i].toNat : Int) == 49) = false := by simp [c3]
        have k2 : ((s[i].toNat : Int) == 48) = false := by simp [c3]
        have k3 : ((s[i].toNat : Int) == 120) = true := by simp [c3]
        clear HS c1 c2 c3
        go_wp2_with fail
        go_roundw
        case rel => exact ⟨i + 1, f, by omega, by go_num, HU, hC, hbw⟩
        case measure => simp [intOf]; omega
      · have HF : Hid (parseE s = 10) := Lib.hid (by rw [HS.out, show cubeU s[i] = false by simp [cubeU]; omega]; rfl)
        have k1 : ((s[i].toNat : Int) == 49) = false := by simp; omega
        have k2 : ((s[i].toNat : Int) == 48) = false := by simp; omega
        have k3 : ((s[i].toNat : Int) == 120) = false := by simp; omega
        have r0 : wr.cell? ⟨w.heap.size, 0, none⟩ = some (.int .i64 0) := by simpa using cell_of_row wr w.heap.size 0 _ _ (0, 0) hR.out
        have fz0 : wr.frozen? ⟨w.heap.size, 0, none⟩ = false := by simp [World.frozen?, hR.out]
        have r1 : wr.cell? ⟨w.heap.size, 1, none⟩ = some (.int .u64 0) := by simpa using cell_of_row wr w.heap.size 1 _ _ (0, 0) hR.out
        have fz1 : wr.frozen? ⟨w.heap.size, 1, none⟩ = false := by simp [World.frozen?, hR.out]
        have r2 : wr.cell? ⟨w.heap.size, 2, none⟩ = some (.int .u64 0) := by simpa using cell_of_row wr w.heap.size 2 _ _ (0, 0) hR.out
        have fz2 : wr.frozen? ⟨w.heap.size, 2, none⟩ = false := by simp [World.frozen?, hR.out]
        have r3 : wr.cell? ⟨w.heap.size, 3, none⟩ = some (.int .u64 0) := by simpa using cell_of_row wr w.heap.size 3 _ _ (0, 0) hR.out
        have fz3 : wr.frozen? ⟨w.heap.size, 3, none⟩ = false := by simp [World.frozen?, hR.out]
        have r4 : wr.cell? ⟨w.heap.size, 4, none⟩ = some (.int .u64 0) := by simpa using cell_of_row wr w.heap.size 4 _ _ (0, 0) hR.out
        have fz4 : wr.frozen? ⟨w.heap.size, 4, none⟩ = false := by simp [World.frozen?, hR.out]
        have r5 : wr.cell? ⟨w.heap.size, 5, none⟩ = some (.int .u64 0) := by simpa using cell_of_row wr w.heap.size 5 _ _ (0, 0) hR.out
        have fz5 : wr.frozen? ⟨w.heap.size, 5, none⟩ = false := by simp [World.frozen?, hR.out]
        have r6 : wr.cell? ⟨w.heap.size, 6, none⟩ = some (.int .u64 0) := by simpa using cell_of_row wr w.heap.size 6 _ _ (0, 0) hR.out
        have fz6 : wr.frozen? ⟨w.heap.size, 6, none⟩ = false := by simp [World.frozen?, hR.out]
        have r7 : wr.cell? ⟨w.heap.size, 7, none⟩ = some (.int .u64 0) := by simpa using cell_of_row wr w.heap.size 7 _ _ (0, 0) hR.out
        have fz7 : wr.frozen? ⟨w.heap.size, 7, none⟩ = false := by simp [World.frozen?, hR.out]
        have r8 : wr.cell? ⟨w.heap.size, 8, none⟩ = some (.int .u64 0) := by simpa using cell_of_row wr w.heap.size 8 _ _ (0, 0) hR.out
        have fz8 : wr.frozen? ⟨w.heap.size, 8, none⟩ = false := by simp [World.frozen?, hR.out]
        clear HS c1 c2 c3
        go_wp2_with fail
        have hO := hb0.out.trans (hbw.out.mono (by omega))
        refine bodyPost_ret (v := .tuple #[.agg (cubeCells 0 fun _ => 0), .int .i64 10]) (by simp [results, Tryz.results80, go_sem, cubeCells, r0, r1, r2, r3, r4, r5, r6, r7, r8]) rfl ?_
        exact ⟨_, _, by rw [HF.out], (((((((((hO.setCell (Nat.le_refl _) _).setCell (Nat.le_refl _) _).setCell (Nat.le_refl _) _).setCell (Nat.le_refl _) _).setCell (Nat.le_refl _) _).setCell (Nat.le_refl _) _).setCell (Nat.le_refl _) _).setCell (Nat.le_refl _) _).setCell (Nat.le_refl _) _)⟩
    · have HF : Hid (parseE s = 0) := Lib.hid (by rw [HR.out, bs_drop_end s i hlt]; rfl)
      have r0 : wr.cell? ⟨w.heap.size, 0, none⟩ = some (.int .i64 0) := by simpa using cell_of_row wr w.heap.size 0 _ _ (0, 0) hR.out
      have fz0 : wr.frozen? ⟨w.heap.size, 0, none⟩ = false := by simp [World.frozen?, hR.out]
      have r1 : wr.cell? ⟨w.heap.size, 1, none⟩ = some (.int .u64 0) := by simpa using cell_of_row wr w.heap.size 1 _ _ (0, 0) hR.out
      have fz1 : wr.frozen? ⟨w.heap.size, 1, none⟩ = false := by simp [World.frozen?, hR.out]
      have r2 : wr.cell? ⟨w.heap.size, 2, none⟩ = some (.int .u64 0) := by simpa using cell_of_row wr w.heap.size 2 _ _ (0, 0) hR.out
      have fz2 : wr.frozen? ⟨w.heap.size, 2, none⟩ = false := by simp [World.frozen?, hR.out]
      have r3 : wr.cell? ⟨w.heap.size, 3, none⟩ = some (.int .u64 0) := by simpa using cell_of_row wr w.heap.size 3 _ _ (0, 0) hR.out
      have fz3 : wr.frozen? ⟨w.heap.size, 3, none⟩ = false := by simp [World.frozen?, hR.out]
      have r4 : wr.cell? ⟨w.heap.size, 4, none⟩ = some (.int .u64 0) := by simpa using cell_of_row wr w.heap.size 4 _ _ (0, 0) hR.out
      have fz4 : wr.frozen? ⟨w.heap.size, 4, none⟩ = false := by simp [World.frozen?, hR.out]
      have r5 : wr.cell? ⟨w.heap.size, 5, none⟩ = some (.int .u64 0) := by simpa using cell_of_row wr w.heap.size 5 _ _ (0, 0) hR.out
      have fz5 : wr.frozen? ⟨w.heap.size, 5, none⟩ = false := by simp [World.frozen?, hR.out]
      have r6 : wr.cell? ⟨w.heap.size, 6, none⟩ = some (.int .u64 0) := by simpa using cell_of_row wr w.heap.size 6 _ _ (0, 0) hR.out
      have fz6 : wr.frozen? ⟨w.heap.size, 6, none⟩ = false := by simp [World.frozen?, hR.out]
      have r7 : wr.cell? ⟨w.heap.size, 7, none⟩ = some (.int .u64 0) := by simpa using cell_of_row wr w.heap.size 7 _ _ (0, 0) hR.out
      have fz7 : wr.frozen? ⟨w.heap.size, 7, none⟩ = false := by simp [World.frozen?, hR.out]
      have r8 : wr.cell? ⟨w.heap.size, 8, none⟩ = some (.int .u64 0) := by simpa using cell_of_row wr w.heap.size 8 _ _ (0, 0) hR.out
      have fz8 : wr.frozen? ⟨w.heap.size, 8, none⟩ = false := by simp [World.frozen?, hR.out]
      have v0 : wr.cell? ⟨w.heap.size + 1, 0, none⟩ = some (.int .i64 s.size) := by simpa [cubeCells] using cell_of_row wr (w.heap.size + 1) 0 _ _ (0, 0) hC.out
      have v1 : wr.cell? ⟨w.heap.size + 1, 1, none⟩ = some (.int .u64 (f 0)) := hC.out.cell 0 (by omega)
      have v2 : wr.cell? ⟨w.heap.size + 1, 2, none⟩ = some (.int .u64 (f 1)) := hC.out.cell 1 (by omega)
      have v3 : wr.cell? ⟨w.heap.size + 1, 3, none⟩ = some (.int .u64 (f 2)) := hC.out.cell 2 (by omega)
      have v4 : wr.cell? ⟨w.heap.size + 1, 4, none⟩ = some (.int .u64 (f 3)) := hC.out.cell 3 (by omega)
      have v5 : wr.cell? ⟨w.heap.size + 1, 5, none⟩ = some (.int .u64 (f 4)) := hC.out.cell 4 (by omega)
      have v6 : wr.cell? ⟨w.heap.size + 1, 6, none⟩ = some (.int .u64 (f 5)) := hC.out.cell 5 (by omega)
      have v7 : wr.cell? ⟨w.heap.size + 1, 7, none⟩ = some (.int .u64 (f 6)) := hC.out.cell 6 (by omega)
      have v8 : wr.cell? ⟨w.heap.size + 1, 8, none⟩ = some (.int .u64 (f 7)) := hC.out.cell 7 (by omega)
      clear HR
      go_wp2_with fail
      have hO := hb0.out.trans (hbw.out.mono (by omega))
      refine bodyPost_ret (v := .tuple #[.agg (cubeCells s.size f), .int .i64 0]) (by simp [results, Tryz.results80, go_sem, cubeCells, r0, r1, r2, r3, r4, r5, r6, r7, r8]) rfl ?_
      exact ⟨_, _, by rw [HF.out], (((((((((hO.setCell (Nat.le_refl _) _).setCell (Nat.le_refl _) _).setCell (Nat.le_refl _) _).setCell (Nat.le_refl _) _).setCell (Nat.le_refl _) _).setCell (Nat.le_refl _) _).setCell (Nat.le_refl _) _).setCell (Nat.le_refl _) _).setCell (Nat.le_refl _) _)⟩
end Go.Proofs.YtjokciofeicdkaaGreatDoor
