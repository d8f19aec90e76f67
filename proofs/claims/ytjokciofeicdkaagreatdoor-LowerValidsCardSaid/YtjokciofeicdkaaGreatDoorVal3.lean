/- Walks: the program's validEntry. -/
import Derived.Test.YtjokciofeicdkaaGreatDoorVal2
namespace Go.Proofs.YtjokciofeicdkaaGreatDoor
open Go.RowKit

set_option maxHeartbeats 4000000 in
set_option maxRecDepth 100000 in
theorem validEntry_any (n : NetS) (box : Int) (e : EntryS) (v vi vc vo : Value) (B : Nat) (w : World) (hn : NetAt w B v n) (hi : Ints w B vi e.ins) (hc : Texts w B vc e.cubes) (ho : Ints w B vo e.outs) (hB : B ≤ w.heap.size)
    (hnm : e.name.size ≤ 140737488355328) (hwr : e.write.size ≤ 140737488355328) :
    Calls Tryz.prog 37 #[v, .int .i64 box, .agg #[.string e.name, vi, vc, .string e.write, vo]] w fun x w' => x = .returned (.bool (entryOk n box e)) ∧ Below w.heap.size w w' := by
  obtain ⟨vp, vt, vg, rfl, hp, ht, hg⟩ := hn
  have hI := NetIn.mk_box hp ht hg hB
  have hk0 := (bcell ((Below.refl w.heap.size w).alloc (Nat.le_refl _) (.cells #[.int .i64 n.bits, vp, vt, vg] 26 (0, 0)))).1
  have hJ := Lib.hid (EntryIn.mk_box (w := w.alloc (.cells #[.int .i64 n.bits, vp, vt, vg] 26 (0, 0))) (B := B) (hi.keep (Nat.le_refl _) fun b o h => hk0 b o (by omega)) (hc.keep (Nat.le_refl _) fun b o h => hk0 b o (by omega)) (ho.keep (Nat.le_refl _) fun b o h => hk0 b o (by omega)) (by simp; omega))
  have hb00 := (Below.refl (w.heap.size + 1) (w.alloc (.cells #[.int .i64 n.bits, vp, vt, vg] 26 (0, 0)))).alloc (by simp) (.cells #[.string e.name, vi, vc, .string e.write, vo] 52 (0, 0))
  have hI := Lib.hid ((hI.below hb00).up (N' := w.heap.size + 2) (by omega))
  have hb0 := Lib.hid (((Below.refl w.heap.size w).alloc (Nat.le_refl _) (.cells #[.int .i64 n.bits, vp, vt, vg] 26 (0, 0))).trans (hb00.mono (by omega)))
  have hz : (w.alloc (.cells #[.int .i64 n.bits, vp, vt, vg] 26 (0, 0))).heap.size = w.heap.size + 1 := World.size_alloc _ _
  rw [hz] at hJ
  clear hk0 hb00 hz hi hc ho hp ht hg
  obtain ⟨A0, cap0, rfl, hcl0, hcap0⟩ := SlOf.form hI.out.p
  obtain ⟨A1, cap1, rfl, hcl1, hcap1⟩ := SlOf.form hJ.out.i
  obtain ⟨A3, cap3, rfl, hcl3, hcap3⟩ := SlOf.form hJ.out.c
  obtain ⟨A2, cap2, rfl, hcl2, hcap2⟩ := SlOf.form hJ.out.o
  generalize hW : (w.alloc (.cells #[.int .i64 n.bits, .slice A0 n.ports.length cap0, vt, vg] 26 (0, 0))).alloc (.cells #[.string e.name, .slice A1 e.ins.length cap1, .slice A3 e.cubes.length cap3, .string e.write, .slice A2 e.outs.length cap2] 52 (0, 0)) = W0 at *
  have hs0 : Hid (W0.heap.size = w.heap.size + 2) := Lib.hid (by rw [← hW]; simp)
  have r0 := hJ.out.c0
  have r4 := hJ.out.c4
  by_cases h1 : 256 < e.name.size
  · have HF : Hid (entryOk n box e = false) := Lib.hid (by unfold entryOk; rw [decide_eq_false (p := e.name.size ≤ 256) (by omega)]; simp)
    have h1' : (e.name.size : Int) > 256 := by omega
    clear h1 hI hJ
    go_enter Tryz.func37, Tryz.ntmps37
    go_wp2_with fail
    go_ret
    exact ⟨ret_bool HF.out.symm, hb0.out⟩
  by_cases h2 : 4 < e.outs.length
  · have HF : Hid (entryOk n box e = false) := Lib.hid (by unfold entryOk; rw [decide_eq_false (p := e.outs.length ≤ 4) (by omega)]; simp)
    have h1' : ¬ (e.name.size : Int) > 256 := by omega
    have h2' : (e.outs.length : Int) > 4 := by omega
    clear h1 h2 hI hJ
    go_enter Tryz.func37, Tryz.ntmps37
    go_wp2_with fail
    go_ret
    exact ⟨ret_bool HF.out.symm, hb0.out⟩
  have HE : Hid (entryOk n box e = (insFrom n box (-1) (e.ins.drop 0) && outsFrom n box (e.outs.take 0) (e.outs.drop 0) && cubeOk n.bits e.write && cubesOk n.bits e.cubes 64)) := Lib.hid (by
    unfold entryOk; rw [decide_eq_true (p := e.name.size ≤ 256) (by omega), decide_eq_true (p := e.outs.length ≤ 4) (by omega), List.drop_zero, List.drop_zero, Bool.true_and, Bool.true_and]; rfl)
  have h1' : ¬ (e.name.size : Int) > 256 := by omega
  have h2' : ¬ (e.outs.length : Int) > 4 := by omega
  generalize entryOk n box e = R at *
  have r2 := hJ.out.c2
  have q0 := hI.out.c0
  have q1 := hI.out.c1
  have q2 := hI.out.c2
  have q3 := hI.out.c3
  have c1 := Lib.hid (validCubes_any n e.cubes _ _ (w.heap.size + 2) W0 hI.out.net (by rw [hs0.out]; omega) hJ.out.c)
  obtain ⟨cc, hcc0⟩ : ∃ cc, cc = cubesOk n.bits e.cubes 64 := ⟨_, rfl⟩
  rw [← hcc0] at c1 HE
  clear hcc0
  go_enter Tryz.func37, Tryz.ntmps37
  go_wp2_with fail
  refine c1.out.mono ?_
  rintro x w1 ⟨rfl, hb1⟩
  rw [hs0.out] at hb1
  have hI1 := Lib.hid (hI.out.below hb1)
  have hJ1 := Lib.hid (hJ.out.below hb1)
  have hO1 := Lib.hid (hb0.out.trans (hb1.mono (by omega)))
  have hsz1 := Lib.hid (show w.heap.size + 2 ≤ w1.heap.size by have := hb1.size; have := hs0.out; omega)
  clear c1 r0 r2 r4 q0 q1 q2 q3 hb1 hI hJ hb0 hW h1 h1' h2'
  cases cc
  · have HF : Hid (R = false) := Lib.hid (by rw [HE.out, Bool.and_false])
    clear HE
    go_wp2_with fail
    go_ret
    exact ⟨ret_bool HF.out.symm, hO1.out⟩
  have r3 := hJ1.out.c3
  have q0 := hI1.out.c0
  have q1 := hI1.out.c1
  have q2 := hI1.out.c2
  have q3 := hI1.out.c3
  have c1 := Lib.hid (validCube_any n e.write _ (w.heap.size + 2) w1 hI1.out.net hsz1.out hwr)
  obtain ⟨cc, hcc0⟩ : ∃ cc, cc = cubeOk n.bits e.write := ⟨_, rfl⟩
  rw [← hcc0] at c1 HE
  clear hcc0
  go_wp2_with fail
  refine c1.out.mono ?_
  rintro x w2 ⟨rfl, hb2⟩
  have hb2 := hb2.mono hsz1.out
  have hI := Lib.hid (hI1.out.below hb2)
  have hJ := Lib.hid (hJ1.out.below hb2)
  have hO := Lib.hid (hO1.out.trans (hb2.mono (by omega)))
  clear c1 r3 q0 q1 q2 q3 hb2 hI1 hJ1 hO1
  cases cc
  · have HF : Hid (R = false) := Lib.hid (by rw [HE.out, Bool.and_false, Bool.false_and])
    clear HE
    go_wp2_with fail
    go_ret
    exact ⟨ret_bool HF.out.symm, hO.out⟩
  have HR0 : Hid (R = (insFrom n box (-1) (e.ins.drop 0) && outsFrom n box (e.outs.take 0) (e.outs.drop 0))) := Lib.hid (by rw [HE.out, Bool.and_true, Bool.and_true])
  obtain ⟨X, hX0⟩ : ∃ X, X = outsFrom n box (e.outs.take 0) (e.outs.drop 0) := ⟨_, rfl⟩
  rw [← hX0] at HR0
  have hX := Lib.hid hX0
  clear HE hX0
  have r1 := hJ.out.c1
  go_wp2_with fail
  clear r1
  go_loop [7, 9, 41] (fun la _ i => ∃ (k : Nat) (last : Int), k ≤ e.ins.length ∧ i = .int .i64 k ∧ la = .int .i64 last ∧ -1 ≤ last ∧ Hid (R = (insFrom n box last (e.ins.drop k) && X))) (fun _ _ i => e.ins.length - (intOf i).toNat)
  case atStart => exact ⟨0, -1, Nat.zero_le _, rfl, rfl, by omega, HR0⟩
  case round =>
    obtain ⟨k, last, hk, rfl, rfl, hla, HR⟩ := hrel
    clear HR0
    by_cases hlt : k < e.ins.length
    · obtain ⟨b, off, rfl⟩ := SlOf.addr hJ.out.i (by omega)
      obtain ⟨hb, p, hp, f0⟩ := ints_el hJ.out.i hlt
      have HS : Hid (R = ((sideS n p box true && (decide (last < p) && insFrom n box p (e.ins.drop (k + 1)))) && X)) := Lib.hid (by rw [HR.out, drop_at hp]; rfl)
      clear HR hp
      have q1 := hI.out.c1
      by_cases c1 : p ≤ last
      · have HF : Hid (R = false) := Lib.hid (by rw [HS.out, decide_eq_false (by omega)]; simp)
        clear HS
        go_wp2_with fail
        go_ret
        exact ⟨ret_bool HF.out.symm, hO.out⟩
      have hlp : Hid (decide (last < p) = true) := Lib.hid (decide_eq_true (by omega))
      by_cases c2 : p ≥ (n.ports.length : Int)
      · have HF : Hid (R = false) := Lib.hid (by rw [HS.out]; unfold sideS; rw [decide_eq_false (p := p < (n.ports.length : Int)) (by omega)]; simp)
        clear HS
        go_wp2_with fail
        go_ret
        exact ⟨ret_bool HF.out.symm, hO.out⟩
      obtain ⟨b0, off0, rfl⟩ := SlOf.addr hI.out.p (by omega)
      obtain ⟨hb0, c, y, hy, ⟨hc, _⟩, hj⟩ := SlOf.el hI.out.p (k := p.toNat) (by omega)
      subst hc
      have g1 : w2.cell? ⟨b0, off0 + p.toNat * 4 + 1, none⟩ = some (.int .i64 y.box) := hj 1 _ rfl
      have g2 : w2.cell? ⟨b0, off0 + p.toNat * 4 + 2, none⟩ = some (.bool y.inn) := hj 2 _ rfl
      have hsd : Hid (sideS n p box true = (decide (y.box = box) && (y.inn == true))) := Lib.hid (by
        unfold sideS; rw [decide_eq_true (p := 0 ≤ p) (by omega), decide_eq_true (p := p < (n.ports.length : Int)) (by omega), hy]; simp)
      clear hj hy
      have c0 : 0 ≤ p := by omega
      cases hyi : y.inn
      · have HF : Hid (R = false) := Lib.hid (by rw [HS.out, hsd.out, hyi]; simp)
        clear HS hsd
        rw [hyi] at g2
        go_wp2_with fail
        go_ret
        exact ⟨ret_bool HF.out.symm, hO.out⟩
      rw [hyi] at g2
      by_cases c3 : y.box = box
      · have c3' : (y.box != box) = false := by simp [c3]
        have HU : Hid (R = (insFrom n box p (e.ins.drop (k + 1)) && X)) := Lib.hid (by rw [HS.out, hsd.out, hlp.out, hyi, decide_eq_true c3]; rfl)
        clear HS hsd hyi c3 hlp
        go_wp2_with fail
        go_round
        case rel => exact ⟨k + 1, p, by omega, by go_num, rfl, by omega, HU⟩
        case measure => simp [intOf]; omega
      · have HF : Hid (R = false) := Lib.hid (by rw [HS.out, hsd.out, decide_eq_false c3]; simp)
        have c3' : (y.box != box) = true := by simp [c3]
        clear HS hsd hyi c3
        go_wp2_with fail
        go_ret
        exact ⟨ret_bool HF.out.symm, hO.out⟩
    · have HU : Hid (R = outsFrom n box (e.outs.take 0) (e.outs.drop 0)) := Lib.hid (by rw [HR.out, drop_end hlt, hX.out]; rfl)
      clear HR hX
      have r4 := hJ.out.c4
      go_wp2_with fail
      go_loop [10, 11, 13, 79] (fun _ _ _ i => ∃ k : Nat, k ≤ e.outs.length ∧ i = .int .i64 k ∧ Hid (R = outsFrom n box (e.outs.take k) (e.outs.drop k))) (fun _ _ _ i => e.outs.length - (intOf i).toNat)
      case atStart => exact ⟨0, Nat.zero_le _, rfl, HU⟩
      case round =>
        obtain ⟨k, hk, rfl, HR⟩ := hrel
        clear HU
        by_cases hlt : k < e.outs.length
        · obtain ⟨b, off, rfl⟩ := SlOf.addr hJ.out.o (by omega)
          obtain ⟨hb, p, hp, f0⟩ := ints_el hJ.out.o hlt
          have HS : Hid (R = (sideS n p box false && ((e.outs.take k).all (fun q => !(q == p)) && outsFrom n box (e.outs.take k ++ [p]) (e.outs.drop (k + 1))))) := Lib.hid (by rw [HR.out, drop_at hp]; rfl)
          have hts : e.outs.take (k + 1) = e.outs.take k ++ [p] := by rw [List.take_add_one, hp]; rfl
          rw [← hts] at HS
          clear HR hp hts
          have q1 := hI.out.c1
          by_cases c1 : p < 0
          · have HF : Hid (R = false) := Lib.hid (by rw [HS.out]; unfold sideS; rw [decide_eq_false (p := 0 ≤ p) (by omega)]; simp)
            clear HS
            go_wp2_with fail
            go_ret
            exact ⟨ret_bool HF.out.symm, hO.out⟩
          by_cases c2 : p ≥ (n.ports.length : Int)
          · have HF : Hid (R = false) := Lib.hid (by rw [HS.out]; unfold sideS; rw [decide_eq_false (p := p < (n.ports.length : Int)) (by omega)]; simp)
            clear HS
            go_wp2_with fail
            go_ret
            exact ⟨ret_bool HF.out.symm, hO.out⟩
          obtain ⟨b0, off0, rfl⟩ := SlOf.addr hI.out.p (by omega)
          obtain ⟨hb0, c, y, hy, ⟨hc, _⟩, hj⟩ := SlOf.el hI.out.p (k := p.toNat) (by omega)
          subst hc
          have g1 : w2.cell? ⟨b0, off0 + p.toNat * 4 + 1, none⟩ = some (.int .i64 y.box) := hj 1 _ rfl
          have g2 : w2.cell? ⟨b0, off0 + p.toNat * 4 + 2, none⟩ = some (.bool y.inn) := hj 2 _ rfl
          have hsd : Hid (sideS n p box false = (decide (y.box = box) && (y.inn == false))) := Lib.hid (by
            unfold sideS; rw [decide_eq_true (p := 0 ≤ p) (by omega), decide_eq_true (p := p < (n.ports.length : Int)) (by omega), hy]; simp)
          clear hj hy
          have c0 : 0 ≤ p := by omega
          cases hyi : y.inn
          case true =>
            have HF : Hid (R = false) := Lib.hid (by rw [HS.out, hsd.out, hyi]; simp)
            clear HS hsd
            rw [hyi] at g2
            go_wp2_with fail
            go_ret
            exact ⟨ret_bool HF.out.symm, hO.out⟩
          rw [hyi] at g2
          by_cases c3 : y.box = box
          · have c3' : (y.box != box) = false := by simp [c3]
            have HT : Hid (R = (((e.outs.take k).drop 0).all (fun q => !(q == p)) && outsFrom n box (e.outs.take (k + 1)) (e.outs.drop (k + 1)))) := Lib.hid (by rw [HS.out, hsd.out, hyi, decide_eq_true c3]; rfl)
            obtain ⟨Z, hZ0⟩ : ∃ Z, Z = outsFrom n box (e.outs.take (k + 1)) (e.outs.drop (k + 1)) := ⟨_, rfl⟩
            rw [← hZ0] at HT
            have hZ := Lib.hid hZ0
            clear HS hsd hyi c3 hZ0
            go_wp2_with fail
            clear q1 g1 g2 r4
            go_loop [13, 116] (fun _ j => ∃ i : Nat, i ≤ k ∧ j = .int .i64 i ∧ Hid (R = (((e.outs.take k).drop i).all (fun q => !(q == p)) && Z))) (fun _ j => k - (intOf j).toNat)
            case atStart => exact ⟨0, Nat.zero_le _, rfl, HT⟩
            case round =>
              obtain ⟨i, hi, rfl, HQ⟩ := hrel
              clear HT
              by_cases hik : i < k
              · obtain ⟨_, z, hz, f1⟩ := ints_el hJ.out.o (k := i) (by omega)
                have hz' : (e.outs.take k)[i]? = some z := by rw [List.getElem?_take_of_lt hik]; exact hz
                have HW : Hid (R = ((!(z == p) && ((e.outs.take k).drop (i + 1)).all (fun q => !(q == p))) && Z)) := Lib.hid (by rw [HQ.out, drop_at hz', List.all_cons])
                clear HQ hz hz'
                by_cases he : (z == p) = true
                · have HF : Hid (R = false) := Lib.hid (by rw [HW.out, he]; rfl)
                  clear HW
                  go_wp2_with fail
                  go_ret
                  exact ⟨ret_bool HF.out.symm, hO.out⟩
                · have he' : (z == p) = false := eq_false_of_ne_true he
                  have HU : Hid (R = (((e.outs.take k).drop (i + 1)).all (fun q => !(q == p)) && Z)) := Lib.hid (by rw [HW.out, he']; rfl)
                  clear HW he
                  go_wp2_with fail
                  go_round
                  case rel => exact ⟨i + 1, by omega, by go_num, HU⟩
                  case measure => simp [intOf]; omega
              · have HU : Hid (R = outsFrom n box (e.outs.take (k + 1)) (e.outs.drop (k + 1))) := Lib.hid (by
                  rw [HQ.out, List.drop_eq_nil_of_le (by rw [List.length_take]; omega), ← hZ.out]; rfl)
                clear HQ
                go_wp2_with fail
                go_round
                case rel => exact ⟨k + 1, by omega, by go_num, HU⟩
                case measure => simp [intOf]; omega
          · have HF : Hid (R = false) := Lib.hid (by rw [HS.out, hsd.out, decide_eq_false c3]; simp)
            have c3' : (y.box != box) = true := by simp [c3]
            clear HS hsd hyi c3
            go_wp2_with fail
            go_ret
            exact ⟨ret_bool HF.out.symm, hO.out⟩
        · have HF : Hid (R = true) := Lib.hid (by rw [HR.out, drop_end hlt]; rfl)
          clear HR
          go_wp2_with fail
          go_ret
          exact ⟨ret_bool HF.out.symm, hO.out⟩
end Go.Proofs.YtjokciofeicdkaaGreatDoor
