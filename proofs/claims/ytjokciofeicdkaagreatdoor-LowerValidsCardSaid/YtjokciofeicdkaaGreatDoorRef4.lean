/- Walks: entryRight (the reference's question on an entry). -/
import Derived.Test.YtjokciofeicdkaaGreatDoorRef1
import Derived.Deep.RegionHeld3
namespace Go.Proofs.YtjokciofeicdkaaGreatDoor
open Go.RowKit

set_option maxHeartbeats 4000000 in
set_option maxRecDepth 100000 in
theorem entryRight_any (n : NetS) (box : Int) (e : EntryS) (v vi vc vo : Value) (B : Nat) (w : World) (hn : NetAt w B v n) (hi : Ints w B vi e.ins) (hc : Texts w B vc e.cubes) (ho : Ints w B vo e.outs) (hB : B ≤ w.heap.size)
    (hnm : e.name.size ≤ 140737488355328) (hwr : e.write.size ≤ 140737488355328) :
    Calls Tryz.prog 42 #[v, .int .i64 box, .agg #[.string e.name, vi, vc, .string e.write, vo]] w fun x w' => x = .returned (.bool (entryOk n box e)) ∧ Below w.heap.size w w' := by
  obtain ⟨vp, vt, vg, rfl, hp, ht, hg⟩ := hn
  have hI := NetIn.mk_box hp ht hg hB
  have hk0 := (bcell ((Below.refl w.heap.size w).alloc (Nat.le_refl _) (.cells #[.int .i64 n.bits, vp, vt, vg] 26 (0, 0)))).1
  have hJ := Lib.hid (EntryIn.mk_box (w := w.alloc (.cells #[.int .i64 n.bits, vp, vt, vg] 26 (0, 0))) (B := B) (hi.keep (Nat.le_refl _) fun b o h => hk0 b o (by omega)) (hc.keep (Nat.le_refl _) fun b o h => hk0 b o (by omega)) (ho.keep (Nat.le_refl _) fun b o h => hk0 b o (by omega)) (by simp; omega))
  have hb00 := (Below.refl (w.heap.size + 1) (w.alloc (.cells #[.int .i64 n.bits, vp, vt, vg] 26 (0, 0)))).alloc (by simp) (.cells #[.string e.name, vi, vc, .string e.write, vo] 52 (0, 0))
  have hI := Lib.hid ((hI.below hb00).up (N' := w.heap.size + 2) (by omega))
  have hb0 := Lib.hid (((Below.refl w.heap.size w).alloc (Nat.le_refl _) (.cells #[.int .i64 n.bits, vp, vt, vg] 26 (0, 0))).trans (hb00.mono (by omega)))
  have hz : (w.alloc (.cells #[.int .i64 n.bits, vp, vt, vg] 26 (0, 0))).heap.size = w.heap.size + 1 := World.size_alloc _ _
  rw [hz] at hJ
  clear hk0 hb00 hz hi hc ho hp ht hg
  obtain ⟨A1, cap1, rfl, hcl1, hcap1⟩ := SlOf.form hJ.out.i
  obtain ⟨A2, cap2, rfl, hcl2, hcap2⟩ := SlOf.form hJ.out.o
  generalize hW : (w.alloc (.cells #[.int .i64 n.bits, vp, vt, vg] 26 (0, 0))).alloc (.cells #[.string e.name, .slice A1 e.ins.length cap1, vc, .string e.write, .slice A2 e.outs.length cap2] 52 (0, 0)) = W0 at *
  have hs0 : Hid (W0.heap.size = w.heap.size + 2) := Lib.hid (by rw [← hW]; simp)
  have r0 := hJ.out.c0
  have r4 := hJ.out.c4
  by_cases h1 : 256 < e.name.size
  · have HF : Hid (entryOk n box e = false) := Lib.hid (by unfold entryOk; rw [decide_eq_false (p := e.name.size ≤ 256) (by omega)]; simp)
    have h1' : (e.name.size : Int) > 256 := by omega
    clear h1 hI hJ
    go_enter Tryz.func42, Tryz.ntmps42
    go_wp2_with fail
    go_ret
    exact ⟨ret_bool HF.out.symm, hb0.out⟩
  by_cases h2 : 4 < e.outs.length
  · have HF : Hid (entryOk n box e = false) := Lib.hid (by unfold entryOk; rw [decide_eq_false (p := e.outs.length ≤ 4) (by omega)]; simp)
    have h1' : ¬ (e.name.size : Int) > 256 := by omega
    have h2' : (e.outs.length : Int) > 4 := by omega
    clear h1 h2 hI hJ
    go_enter Tryz.func42, Tryz.ntmps42
    go_wp2_with fail
    go_ret
    exact ⟨ret_bool HF.out.symm, hb0.out⟩
  have HR0 : Hid (entryOk n box e = (insFrom n box (prevS e.ins 0) (e.ins.drop 0) && (outsFrom n box [] e.outs && (cubeOk n.bits e.write && cubesOk n.bits e.cubes 64)))) := Lib.hid (by
    unfold entryOk; rw [decide_eq_true (p := e.name.size ≤ 256) (by omega), decide_eq_true (p := e.outs.length ≤ 4) (by omega), List.drop_zero]; simp only [Bool.true_and, Bool.and_assoc]; rfl)
  have h1' : ¬ (e.name.size : Int) > 256 := by omega
  have h2' : ¬ (e.outs.length : Int) > 4 := by omega
  generalize entryOk n box e = R at *
  obtain ⟨X, hX0⟩ : ∃ X, X = (outsFrom n box [] e.outs && (cubeOk n.bits e.write && cubesOk n.bits e.cubes 64)) := ⟨_, rfl⟩
  rw [← hX0] at HR0
  have hX := Lib.hid hX0
  clear hX0
  go_enter Tryz.func42, Tryz.ntmps42
  go_wp2_with fail
  clear r0 r4 h1 h1' h2' hW
  go_loopw [7, 8] (fun i _ wr => ∃ k : Nat, k ≤ e.ins.length ∧ i = .int .i64 k ∧ Hid (R = (insFrom n box (prevS e.ins k) (e.ins.drop k) && X)) ∧ Hid (Below (w.heap.size + 2) W0 wr)) (fun i _ _ => e.ins.length - (intOf i).toNat)
  case atStart => exact ⟨0, Nat.zero_le _, rfl, HR0, Lib.hid (Below.refl _ _)⟩
  case round =>
    obtain ⟨k, hk, rfl, HR, hbq⟩ := hrel
    obtain ⟨wq, rfl⟩ : ∃ wq, wq = wr := ⟨_, rfl⟩
    clear HR0
    have hI1 := Lib.hid (hI.out.below hbq.out)
    have hJ1 := Lib.hid (hJ.out.below hbq.out)
    have hsz : Hid (w.heap.size + 2 ≤ wq.heap.size) := Lib.hid (by have := hbq.out.size; have := hs0.out; omega)
    have hO := Lib.hid (hb0.out.trans (hbq.out.mono (by omega)))
    have s1 := hJ1.out.c1
    by_cases hlt : k < e.ins.length
    · obtain ⟨b, off, rfl⟩ := SlOf.addr hJ1.out.i (by omega)
      obtain ⟨hb, p, hp, f0⟩ := ints_el hJ1.out.i hlt
      have q0 := hI1.out.c0
      have q1 := hI1.out.c1
      have q2 := hI1.out.c2
      have q3 := hI1.out.c3
      have hbs : b < wq.heap.size := by have := hsz.out; omega
      have hMs : w.heap.size < wq.heap.size := by have := hsz.out; omega
      have hJs : w.heap.size + 1 < wq.heap.size := by have := hsz.out; omega
      have c1 : Hid (∀ W', Below (w.heap.size + 2) wq W' → Calls Tryz.prog 59 #[.agg #[.int .i64 n.bits, vp, vt, vg], .int .i64 p, .int .i64 box, .bool true] W' fun x w' => x = .returned (.bool (sideS n p box true)) ∧ Below W'.heap.size W' w') :=
        Lib.hid fun W' h => side_any n p box true _ (w.heap.size + 2) W' ((hI1.out.below h).net) (by have := h.size; have := hsz.out; omega)
      have HS : Hid (R = ((sideS n p box true && (decide (prevS e.ins k < p) && insFrom n box p (e.ins.drop (k + 1)))) && X)) := Lib.hid (by rw [HR.out, drop_at hp]; rfl)
      have hpp : Hid (prevS e.ins (k + 1) = p) := Lib.hid (by simp [prevS, List.getD, hp])
      clear HR
      have hsd : Hid (sideS n p box true = true → 0 ≤ p) := Lib.hid (fun h => by unfold sideS at h; simp only [Bool.and_eq_true, decide_eq_true_eq] at h; exact h.1)
      generalize sideS n p box true = sd at *
      go_wp2_with fail
      go_region_held3 (fun W => W.cell? ⟨w.heap.size, 0, none⟩ = some (.int .i64 n.bits) ∧ W.cell? ⟨w.heap.size, 1, none⟩ = some vp ∧ W.cell? ⟨w.heap.size, 2, none⟩ = some vt ∧ W.cell? ⟨w.heap.size, 3, none⟩ = some vg ∧
        W.cell? ⟨w.heap.size + 1, 1, none⟩ = some (.slice (some ⟨b, off, none⟩) e.ins.length cap1) ∧ W.cell? ⟨b, off + k, none⟩ = some (.int .i64 p))
        (first | exact hHeld | go_keep | exact ⟨(hb1.cell (p := ⟨w.heap.size, 0, none⟩) hMs).trans q0, (hb1.cell (p := ⟨w.heap.size, 1, none⟩) hMs).trans q1, (hb1.cell (p := ⟨w.heap.size, 2, none⟩) hMs).trans q2, (hb1.cell (p := ⟨w.heap.size, 3, none⟩) hMs).trans q3,
          (hb1.cell (p := ⟨w.heap.size + 1, 1, none⟩) hJs).trans s1, (hb1.cell (p := ⟨b, off + k, none⟩) hbs).trans f0⟩)
        ((go_at_call 59; refine (c1.out _ (below_drewN (Below.refl _ _) 1)).mono ?_; rintro x w1 ⟨rfl, hb1⟩))
      (try clear hHeld)
      have hbw : Below wq.heap.size wq w1 := ⟨hb1.os, hb1.tape, hb1.output, hb1.size, hb1.block⟩
      have hbw2 := Lib.hid (hbq.out.trans (hbw.mono hsz.out))
      have hO1 := Lib.hid (hO.out.trans (hbw.mono (by omega)))
      have hJ2 := hJ1.out.below (hbw.mono hsz.out)
      have s1 := hJ2.c1
      obtain ⟨_, p', hp', f0⟩ := ints_el hJ2.i hlt
      rw [hp] at hp'
      obtain rfl := Option.some.inj hp'
      clear hp' hbw hb1 q0 q1 q2 q3 c1
      cases sd
      · have HF : Hid (R = false) := Lib.hid (by rw [HS.out]; rfl)
        clear HS hp hJ2
        go_wp2_with fail
        go_quiet (fail)
        go_wp2_with fail
        go_ret
        exact ⟨ret_bool HF.out.symm, below_drewN hO1.out _⟩
      · have hp0 := hsd.out rfl
        rcases Nat.eq_zero_or_pos k with rfl | hk0
        · have HU : Hid (R = (insFrom n box (prevS e.ins (0 + 1)) (e.ins.drop (0 + 1)) && X)) := Lib.hid (by
            rw [HS.out, hpp.out, show prevS e.ins 0 = -1 from rfl, decide_eq_true (by omega)]; simp only [Bool.true_and])
          clear HS hp hJ2
          go_wp2_with fail
          go_quiet (fail)
          go_wp2_with fail
          go_roundw
          case rel => exact ⟨0 + 1, by omega, by go_num, HU, Lib.hid (below_drewN hbw2.out _)⟩
          case measure => simp [intOf]; omega
        · obtain ⟨_, p0, hp0', f1⟩ := ints_el hJ2.i (k := k - 1) (by omega)
          have g1 : ((k : Int) - 1).toNat = k - 1 := by omega
          have g2 : IntKind.i64.wrap ((k : Int) - 1) = (k : Int) - 1 := IntWalk.i64_in _ (by omega)
          have g3 : (0 : Int) ≤ (k : Int) - 1 := by omega
          have g4 : (k : Int) - 1 < (e.ins.length : Int) := by omega
          have g5 : (k : Int) > 0 := by omega
          have hpv : Hid (prevS e.ins k = p0) := Lib.hid (by
            obtain ⟨j, rfl⟩ : ∃ j, k = j + 1 := ⟨k - 1, by omega⟩
            simp only [Nat.add_sub_cancel] at hp0'
            simp [prevS, List.getD, hp0'])
          clear hp hJ2 hp0'
          by_cases hle : p ≤ p0
          · have HF : Hid (R = false) := Lib.hid (by rw [HS.out, hpv.out, decide_eq_false (by omega)]; simp)
            clear HS
            go_wp2_with fail
            go_quiet (fail)
            go_wp2_with fail
            go_ret
            exact ⟨ret_bool HF.out.symm, below_drewN hO1.out _⟩
          · have HU : Hid (R = (insFrom n box (prevS e.ins (k + 1)) (e.ins.drop (k + 1)) && X)) := Lib.hid (by
              rw [HS.out, hpp.out, hpv.out, decide_eq_true (by omega)]; simp only [Bool.true_and])
            have hle' : decide (p ≤ p0) = false := decide_eq_false hle
            clear HS
            go_wp2_with fail
            go_quiet (fail)
            go_wp2_with fail
            go_roundw
            case rel => exact ⟨k + 1, by omega, by go_num, HU, Lib.hid (below_drewN hbw2.out _)⟩
            case measure => simp [intOf]; omega
    · have HU : Hid (R = X) := Lib.hid (by rw [HR.out, drop_end hlt]; rfl)
      have HV : Hid (R = (outsFrom n box (e.outs.take 0) (e.outs.drop 0) && (cubeOk n.bits e.write && cubesOk n.bits e.cubes 64))) := Lib.hid (by rw [HU.out, hX.out]; rfl)
      obtain ⟨Y, hY0⟩ : ∃ Y, Y = (cubeOk n.bits e.write && cubesOk n.bits e.cubes 64) := ⟨_, rfl⟩
      rw [← hY0] at HV
      have hY := Lib.hid hY0
      clear HR HU hX hY0
      go_wp2_with fail
      go_loopw [9, 10, 11] (fun i _ _ wr => ∃ k : Nat, k ≤ e.outs.length ∧ i = .int .i64 k ∧ Hid (R = (outsFrom n box (e.outs.take k) (e.outs.drop k) && Y)) ∧ Hid (Below (w.heap.size + 2) W0 wr)) (fun i _ _ _ => e.outs.length - (intOf i).toNat)
      case atStart => exact ⟨0, Nat.zero_le _, rfl, HV, hbq⟩
      case round =>
        clear HV hbq hI1 hJ1 hsz hO s1 hlt hk
        obtain ⟨k, hk, rfl, HR, hbq⟩ := hrel
        obtain ⟨wq, rfl⟩ : ∃ wq, wq = wr := ⟨_, rfl⟩
        have hI1 := Lib.hid (hI.out.below hbq.out)
        have hJ1 := Lib.hid (hJ.out.below hbq.out)
        have hsz : Hid (w.heap.size + 2 ≤ wq.heap.size) := Lib.hid (by have := hbq.out.size; have := hs0.out; omega)
        have hO := Lib.hid (hb0.out.trans (hbq.out.mono (by omega)))
        have s4 := hJ1.out.c4
        by_cases hlt : k < e.outs.length
        · obtain ⟨b, off, rfl⟩ := SlOf.addr hJ1.out.o (by omega)
          obtain ⟨hb, p, hp, f0⟩ := ints_el hJ1.out.o hlt
          have q0 := hI1.out.c0
          have q1 := hI1.out.c1
          have q2 := hI1.out.c2
          have q3 := hI1.out.c3
          have hbs : b < wq.heap.size := by have := hsz.out; omega
          have hMs : w.heap.size < wq.heap.size := by have := hsz.out; omega
          have hJs : w.heap.size + 1 < wq.heap.size := by have := hsz.out; omega
          have c1 : Hid (∀ W', Below (w.heap.size + 2) wq W' → Calls Tryz.prog 59 #[.agg #[.int .i64 n.bits, vp, vt, vg], .int .i64 p, .int .i64 box, .bool false] W' fun x w' => x = .returned (.bool (sideS n p box false)) ∧ Below W'.heap.size W' w') :=
            Lib.hid fun W' h => side_any n p box false _ (w.heap.size + 2) W' ((hI1.out.below h).net) (by have := h.size; have := hsz.out; omega)
          have HS : Hid (R = ((sideS n p box false && ((e.outs.take k).all (fun q => !(q == p)) && outsFrom n box (e.outs.take k ++ [p]) (e.outs.drop (k + 1)))) && Y)) := Lib.hid (by rw [HR.out, drop_at hp]; rfl)
          clear HR
          generalize sideS n p box false = sd at *
          go_wp2_with fail
          go_region_held3 (fun W => W.cell? ⟨w.heap.size, 0, none⟩ = some (.int .i64 n.bits) ∧ W.cell? ⟨w.heap.size, 1, none⟩ = some vp ∧ W.cell? ⟨w.heap.size, 2, none⟩ = some vt ∧ W.cell? ⟨w.heap.size, 3, none⟩ = some vg ∧
            W.cell? ⟨w.heap.size + 1, 4, none⟩ = some (.slice (some ⟨b, off, none⟩) e.outs.length cap2) ∧ W.cell? ⟨b, off + k, none⟩ = some (.int .i64 p))
            (first | exact hHeld | go_keep | exact ⟨(hb1.cell (p := ⟨w.heap.size, 0, none⟩) hMs).trans q0, (hb1.cell (p := ⟨w.heap.size, 1, none⟩) hMs).trans q1, (hb1.cell (p := ⟨w.heap.size, 2, none⟩) hMs).trans q2, (hb1.cell (p := ⟨w.heap.size, 3, none⟩) hMs).trans q3,
              (hb1.cell (p := ⟨w.heap.size + 1, 4, none⟩) hJs).trans s4, (hb1.cell (p := ⟨b, off + k, none⟩) hbs).trans f0⟩)
            ((go_at_call 59; refine (c1.out _ (below_drewN (Below.refl _ _) 1)).mono ?_; rintro x w1 ⟨rfl, hb1⟩))
          (try clear hHeld)
          have hbw : Below wq.heap.size wq w1 := ⟨hb1.os, hb1.tape, hb1.output, hb1.size, hb1.block⟩
          have hbw2 := Lib.hid (hbq.out.trans (hbw.mono hsz.out))
          have hO1 := Lib.hid (hO.out.trans (hbw.mono (by omega)))
          have hJ2 := Lib.hid (hJ1.out.below (hbw.mono hsz.out))
          have s4 := hJ2.out.c4
          obtain ⟨_, p', hp', f0⟩ := ints_el hJ2.out.o hlt
          rw [hp] at hp'
          obtain rfl := Option.some.inj hp'
          clear hp' hbw hb1 q0 q1 q2 q3 c1
          cases sd
          · have HF : Hid (R = false) := Lib.hid (by rw [HS.out]; rfl)
            clear HS hp hJ2
            go_wp2_with fail
            go_ret
            exact ⟨ret_bool HF.out.symm, hO1.out⟩
          · have hts : e.outs.take (k + 1) = e.outs.take k ++ [p] := by rw [List.take_add_one, hp]; rfl
            rw [← hts] at HS
            have HT : Hid (R = (((e.outs.take k).drop 0).all (fun q => !(q == p)) && (outsFrom n box (e.outs.take (k + 1)) (e.outs.drop (k + 1)) && Y))) := Lib.hid (by rw [HS.out, Bool.true_and, Bool.and_assoc]; rfl)
            clear HS hts
            obtain ⟨Z, hZ0⟩ : ∃ Z, Z = (outsFrom n box (e.outs.take (k + 1)) (e.outs.drop (k + 1)) && Y) := ⟨_, rfl⟩
            rw [← hZ0] at HT
            have hZ := Lib.hid hZ0
            clear hZ0
            go_wp2_with fail
            go_loopw [11] (fun j wr => ∃ i : Nat, i ≤ k ∧ j = .int .i64 i ∧ Hid (R = (((e.outs.take k).drop i).all (fun q => !(q == p)) && Z)) ∧ Hid (Qt w1 wr)) (fun j _ => k - (intOf j).toNat)
            case atStart => exact ⟨0, Nat.zero_le _, rfl, HT, Lib.hid (Qt.refl _)⟩
            case round =>
              obtain ⟨i, hi, rfl, HQ, hq⟩ := hrel
              clear HT
              obtain ⟨m, rfl⟩ := hq.out
              by_cases hik : i < k
              · obtain ⟨_, z, hz, f1⟩ := ints_el hJ2.out.o (k := i) (by omega)
                have hz' : (e.outs.take k)[i]? = some z := by rw [List.getElem?_take_of_lt hik]; exact hz
                have HW : Hid (R = ((!(z == p) && ((e.outs.take k).drop (i + 1)).all (fun q => !(q == p))) && Z)) := Lib.hid (by rw [HQ.out, drop_at hz', List.all_cons])
                clear HQ hz hz' hp
                have hll : (k : Int) < (e.outs.length : Int) := by omega
                have hil : (i : Int) < (e.outs.length : Int) := by omega
                by_cases he : (z == p) = true
                · have HF : Hid (R = false) := Lib.hid (by rw [HW.out, he]; rfl)
                  clear HW
                  go_wp2_with fail
                  go_quiet (fail)
                  go_wp2_with fail
                  go_ret
                  exact ⟨ret_bool HF.out.symm, below_drewN (below_drewN hO1.out _) _⟩
                · have he' : (z == p) = false := eq_false_of_ne_true he
                  have HU : Hid (R = (((e.outs.take k).drop (i + 1)).all (fun q => !(q == p)) && Z)) := Lib.hid (by rw [HW.out, he']; rfl)
                  clear HW he
                  go_wp2_with fail
                  go_quiet (fail)
                  go_wp2_with fail
                  go_roundw
                  case rel => exact ⟨i + 1, by omega, by go_num, HU, Lib.hid (Qt.self _ _)⟩
                  case measure => simp [intOf]; omega
              · have HU : Hid (R = (outsFrom n box (e.outs.take (k + 1)) (e.outs.drop (k + 1)) && Y)) := Lib.hid (by
                  rw [HQ.out, List.drop_eq_nil_of_le (by rw [List.length_take]; omega), ← hZ.out]; rfl)
                clear HQ
                go_wp2_with fail
                go_roundw
                case rel => exact ⟨k + 1, by omega, by go_num, HU, Lib.hid (below_drewN hbw2.out _)⟩
                case measure => simp [intOf]; omega
        · have HU : Hid (R = (cubeOk n.bits e.write && cubesOk n.bits e.cubes 64)) := Lib.hid (by rw [HR.out, drop_end hlt, hY.out]; rfl)
          clear HR hY
          have s3 := hJ1.out.c3
          have s2 := hJ1.out.c2
          have q0 := hI1.out.c0
          obtain ⟨A3, cap3, rfl, hcl3, hcap3⟩ := SlOf.form hJ1.out.c
          have hC := Lib.hid hJ1.out.c
          have hcw : Hid (cubesOk n.bits [e.write] 1 = cubeOk n.bits e.write) := Lib.hid (by simp [cubesOk])
          have c1 : Hid (∀ W' a, W'.cell? ⟨a, 0, none⟩ = some (.string e.write) → Calls Tryz.prog 41 #[.int .i64 n.bits, .slice (some ⟨a, 0, none⟩) 1 1, .int .i64 1] W' fun x w' => x = .returned (.bool (cubeOk n.bits e.write)) ∧ Below W'.heap.size W' w') := Lib.hid (fun W' a ha => by
            have := cubesRight_any n.bits [e.write] 1 (.slice (some ⟨a, 0, none⟩) 1 1) (a + 1) W' ⟨[[.string e.write]], rfl, by simp, ⟨_, _, rfl, Nat.le_refl _, by simp, rfl, fun _ => ⟨a, 0, rfl, by omega, fun j u hu => by
              cases j with
              | zero => simp at hu; subst hu; exact ha
              | succ j => simp at hu⟩⟩, fun i c x h1 h2 => by
                cases i with
                | zero => simp at h1 h2; subst h1 h2; exact ⟨rfl, hwr⟩
                | succ i => simp at h1⟩ (by decide)
            rw [hcw.out] at this
            exact this.mono fun _ _ h => ⟨h.1, below_of_eq h.2⟩)
          clear hcw hJ1 hI1
          go_wp2_with fail
          refine (c1.out _ _ (by simp)).mono ?_
          rintro x w2 ⟨rfl, hb2⟩
          have hbw := (below_boxed hb2).2
          have hk2 := (bcell hbw).1
          have hlw := hsz.out
          have q0 := (hk2 w.heap.size 0 (by omega)).trans q0
          have s2 := (hk2 (w.heap.size + 1) 2 (by omega)).trans s2
          have hO1 := Lib.hid (hO.out.trans (hbw.mono (by omega)))
          have hC2 := Lib.hid (Texts.keep hC.out (Nat.le_refl _) fun b o h => hk2 b o (by omega))
          clear c1 hb2 hbw hk2 s3 s4 hC
          generalize cubeOk n.bits e.write = cw at *
          cases cw
          · have HF : Hid (R = false) := Lib.hid (by rw [HU.out]; rfl)
            clear HU
            go_wp2_with fail
            go_ret
            exact ⟨ret_bool HF.out.symm, hO1.out⟩
          · have c2 := Lib.hid (cubesRight_any n.bits e.cubes 64 _ _ w2 hC2.out (by decide))
            go_wp2_with fail
            refine c2.out.mono ?_
            rintro x w3 ⟨rfl, rfl⟩
            go_wp2_with fail
            go_ret
            exact ⟨ret_bool (by rw [HU.out]; rfl), hO1.out⟩
end Go.Proofs.YtjokciofeicdkaaGreatDoor
