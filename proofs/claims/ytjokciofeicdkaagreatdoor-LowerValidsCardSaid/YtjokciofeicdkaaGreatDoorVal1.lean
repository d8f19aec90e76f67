/- Walks: the program's validCube, validCubes. -/
import Derived.Test.YtjokciofeicdkaaGreatDoorTern
import Derived.Test.YtjokciofeicdkaaGreatDoorNet
namespace Go.Proofs.YtjokciofeicdkaaGreatDoor
open Go.RowKit

set_option maxHeartbeats 2000000 in
set_option maxRecDepth 100000 in
theorem validCube_any (n : NetS) (s : ByteArray) (v : Value) (B : Nat) (w : World) (hn : NetAt w B v n) (hB : B ≤ w.heap.size) (hs : s.size ≤ 140737488355328) :
    Calls Tryz.prog 56 #[v, .string s] w fun e w' => e = .returned (.bool (cubeOk n.bits s)) ∧ Below w.heap.size w w' := by
  obtain ⟨vp, vt, vg, rfl, hp, ht, hg⟩ := hn
  have hI := Lib.hid (NetIn.mk_box hp ht hg hB)
  have hb0 := Lib.hid ((Below.refl w.heap.size w).alloc (Nat.le_refl _) (.cells #[.int .i64 n.bits, vp, vt, vg] 26 (0, 0)))
  have c1 := Lib.hid (Parse_any s (w.alloc (.cells #[.int .i64 n.bits, vp, vt, vg] 26 (0, 0))) (by omega))
  have HC : Hid (cubeOk n.bits s = (isCube (bs s) && decide ((s.size : Int) = n.bits))) := Lib.hid rfl
  generalize cubeOk n.bits s = R at *
  clear hp ht hg
  go_enter Tryz.func56, Tryz.ntmps56
  go_wp2_with fail
  refine c1.out.mono ?_
  rintro e w1 ⟨k, f, rfl, hb1⟩
  unfold cubeCells
  have hb2 := hb1.mono (show w.heap.size + 1 ≤ _ by simp)
  have hsz : w.heap.size + 1 ≤ w1.heap.size := by have := hb1.size; simpa using this
  have hI1 := hI.out.below hb2
  have hbw := hb0.out.trans (hb2.mono (by omega))
  have hO : Hid (∀ o, Below w.heap.size w (w1.alloc o)) := Lib.hid fun o => hbw.alloc (by omega) o
  have q0 : (w1.alloc (.cells #[.int .i64 k, .int .u64 (f 0), .int .u64 (f 1), .int .u64 (f 2), .int .u64 (f 3), .int .u64 (f 4), .int .u64 (f 5), .int .u64 (f 6), .int .u64 (f 7)] 153 (0, 0))).cell? ⟨w.heap.size, 0, none⟩ = some (.int .i64 n.bits) :=
    (((Below.refl w1.heap.size w1).alloc (Nat.le_refl _) _).cell (p := ⟨w.heap.size, 0, none⟩) (show w.heap.size < w1.heap.size by omega)).trans hI1.c0
  clear hbw hI1 hb2 hb1 hI hb0 c1
  by_cases h1 : isCube (bs s) = true
  · have he : parseE s = 0 := by unfold parseE; rw [if_pos h1]
    rw [he]
    by_cases h2 : (s.size : Int) = n.bits
    · have HF : Hid (R = true) := Lib.hid (by rw [HC.out, h1, decide_eq_true h2]; rfl)
      have h2' : ((s.size : Int) == n.bits) = true := by simp [h2]
      clear h1 h2 HC
      go_wp2_with fail
      go_ret
      exact ⟨ret_bool HF.out.symm, hO.out _⟩
    · have HF : Hid (R = false) := Lib.hid (by rw [HC.out, h1, decide_eq_false h2]; rfl)
      have h2' : ((s.size : Int) == n.bits) = false := by simp [h2]
      clear h1 h2 HC
      go_wp2_with fail
      go_ret
      exact ⟨ret_bool HF.out.symm, hO.out _⟩
  · have HF : Hid (R = false) := Lib.hid (by rw [HC.out, eq_false_of_ne_true h1]; rfl)
    have he : (parseE s == 0) = false := by unfold parseE; rw [if_neg h1]; split <;> rfl
    clear h1 HC
    generalize parseE s = pe at *
    go_wp2_with fail
    go_ret
    exact ⟨ret_bool HF.out.symm, hO.out _⟩

set_option maxHeartbeats 2000000 in
set_option maxRecDepth 100000 in
theorem validCubes_any (n : NetS) (l : List ByteArray) (v vl : Value) (B : Nat) (w : World) (hn : NetAt w B v n) (hB : B ≤ w.heap.size) (hl : Texts w B vl l) :
    Calls Tryz.prog 36 #[v, vl] w fun e w' => e = .returned (.bool (cubesOk n.bits l 64)) ∧ Below w.heap.size w w' := by
  obtain ⟨vp, vt, vg, rfl, hp, ht, hg⟩ := hn
  have hI := Lib.hid (NetIn.mk_box hp ht hg hB)
  have hb00 := (Below.refl w.heap.size w).alloc (Nat.le_refl _) (.cells #[.int .i64 n.bits, vp, vt, vg] 26 (0, 0))
  have hL := Lib.hid (Texts.keep hl (show B ≤ w.heap.size + 1 by omega) fun b o h => (bcell hb00).1 b o (by omega))
  have hb0 := Lib.hid hb00
  have hb1 := Lib.hid (Below.refl (w.heap.size + 1) (w.alloc (.cells #[.int .i64 n.bits, vp, vt, vg] 26 (0, 0))))
  have hz : Hid ((w.alloc (.cells #[.int .i64 n.bits, vp, vt, vg] 26 (0, 0))).heap.size = w.heap.size + 1) := Lib.hid (by simp)
  obtain ⟨A, cap, rfl, hcl, hcap⟩ := SlOf.form hl
  clear hp ht hg hl hb00
  by_cases h1 : 64 < l.length
  · have HF : Hid (cubesOk n.bits l 64 = false) := Lib.hid (by unfold cubesOk; rw [decide_eq_false (by omega)]; rfl)
    have h1' : (l.length : Int) > 64 := by omega
    clear h1
    go_enter Tryz.func36, Tryz.ntmps36
    go_wp2_with fail
    go_ret
    exact ⟨ret_bool HF.out.symm, hb0.out⟩
  have H : Hid (cubesOk n.bits l 64 = (l.drop 0).all (cubeOk n.bits)) := Lib.hid (by unfold cubesOk; rw [decide_eq_true (by omega), Bool.true_and, List.drop_zero])
  have h1' : ¬ (l.length : Int) > 64 := by omega
  generalize cubesOk n.bits l 64 = R at *
  clear h1
  go_enter Tryz.func36, Tryz.ntmps36
  go_wp2_with fail
  go_loopw [6, 12] (fun _ i wr => ∃ k : Nat, k ≤ l.length ∧ i = .int .i64 k ∧ Hid (R = (l.drop k).all (cubeOk n.bits)) ∧ Hid (Below (w.heap.size + 1) (w.alloc (.cells #[.int .i64 n.bits, vp, vt, vg] 26 (0, 0))) wr)) (fun _ i _ => l.length - (intOf i).toNat)
  case atStart => exact ⟨0, Nat.zero_le _, rfl, H, hb1⟩
  case round =>
    obtain ⟨k, hk, rfl, HR, hbw⟩ := hrel
    obtain ⟨wq, rfl⟩ : ∃ wq, wq = wr := ⟨_, rfl⟩
    clear H hb1
    have hsz : Hid (w.heap.size + 1 ≤ wq.heap.size) := Lib.hid (by have := hbw.out.size; have := hz.out; omega)
    have hO := Lib.hid (hb0.out.trans (hbw.out.mono (by omega)))
    by_cases hlt : k < l.length
    · have hL1 := Texts.below hL.out hbw.out (Nat.le_refl _)
      have hI1 := hI.out.below hbw.out
      have q0 := hI1.c0
      have q1 := hI1.c1
      have q2 := hI1.c2
      have q3 := hI1.c3
      obtain ⟨b, off, rfl⟩ := SlOf.addr hL1 (by omega)
      obtain ⟨hb, x, hx, hxs, f0⟩ := texts_el hL1 hlt
      have HS : Hid (R = (cubeOk n.bits x && (l.drop (k + 1)).all (cubeOk n.bits))) := Lib.hid (by rw [HR.out, drop_at hx, List.all_cons])
      have c1 := Lib.hid (validCube_any n x _ _ wq hI1.net hsz.out hxs)
      clear HR hx hI1 hL1
      generalize cubeOk n.bits x = cx at *
      go_wp2_with fail
      refine c1.out.mono ?_
      rintro e w1 ⟨rfl, hb1⟩
      have hb2 := Lib.hid (hbw.out.trans (hb1.mono hsz.out))
      have hO1 := Lib.hid (hO.out.trans (hb1.mono (by have := hsz.out; omega)))
      clear c1 q0 q1 q2 q3 f0 hb1
      cases cx
      · have HF : Hid (R = false) := Lib.hid (by rw [HS.out]; rfl)
        clear HS
        go_wp2_with fail
        go_ret
        exact ⟨ret_bool HF.out.symm, hO1.out⟩
      · have HU : Hid (R = (l.drop (k + 1)).all (cubeOk n.bits)) := Lib.hid (by rw [HS.out, Bool.true_and])
        clear HS
        go_wp2_with fail
        go_roundw
        case rel => exact ⟨k + 1, by omega, by go_num, HU, hb2⟩
        case measure => simp [intOf]; omega
    · have HF : Hid (R = true) := Lib.hid (by rw [HR.out, drop_end hlt]; rfl)
      clear HR
      go_wp2_with fail
      go_ret
      exact ⟨ret_bool HF.out.symm, hO.out⟩
end Go.Proofs.YtjokciofeicdkaaGreatDoor
