/- Walks: reachref9.Equal, where the networks are the same. -/
import Derived.Test.YtjokciofeicdkaaGreatDoorMark1
import Derived.Test.YtjokciofeicdkaaGreatDoorHeldS
import Derived.Deep.RegionHeld3
namespace Go.Proofs.YtjokciofeicdkaaGreatDoor
open Go.RowKit

set_option maxHeartbeats 4000000 in
set_option maxRecDepth 100000 in
theorem Equal_any (n : NetS) (va vb : Value) (B : Nat) (w : World) (ha : NetAt w B va n) (hb : NetAt w B vb n) (hB : B ≤ w.heap.size) :
    Calls Tryz.prog 21 #[va, vb] w fun e w' => e = .returned (.bool true) ∧ Below w.heap.size w w' := by
  have hk0 : ∀ o, Below w.heap.size w (w.alloc o) := fun o => (Below.refl w.heap.size w).alloc (Nat.le_refl _) o
  obtain ⟨vp, vt, vg, rfl, hp, ht, hg⟩ := ha
  have hb2 := hb.below (hk0 (.cells #[.int .i64 n.bits, vp, vt, vg] 26 (0, 0))) hB
  obtain ⟨up, ut, ug, rfl, hp2, ht2, hg2⟩ := hb2
  have hI := NetIn.mk_box hp ht hg hB
  have hJ := NetIn.mk_box (w := w.alloc (.cells #[.int .i64 n.bits, vp, vt, vg] 26 (0, 0))) hp2 ht2 hg2 (by simp)
  obtain ⟨W1, hW1⟩ : ∃ W1, w.alloc (.cells #[.int .i64 n.bits, vp, vt, vg] 26 (0, 0)) = W1 := ⟨_, rfl⟩
  have z1 : W1.heap.size = w.heap.size + 1 := by rw [← hW1]; simp
  have b1 : Below w.heap.size w W1 := hW1 ▸ hk0 _
  rw [hW1] at hI hJ
  rw [z1] at hJ
  obtain ⟨W2, hW2⟩ : ∃ W2, W1.alloc (.cells #[.int .i64 n.bits, up, ut, ug] 26 (0, 0)) = W2 := ⟨_, rfl⟩
  have z2 : W2.heap.size = w.heap.size + 2 := by rw [← hW2]; simp [z1]
  have b2 : Below W1.heap.size W1 W2 := hW2 ▸ (Below.refl _ W1).alloc (Nat.le_refl _) _
  rw [hW2] at hJ
  have hI := Lib.hid ((hI.below (b2.mono (by omega))).up (N' := w.heap.size + 2) (by omega))
  have hJ : Hid (NetIn W2 (w.heap.size + 2) (w.heap.size + 1) n up ut ug) := Lib.hid hJ
  have hb0 := Lib.hid (b1.trans (b2.mono (by omega)))
  obtain ⟨A1, cap1, rfl, hcl1, hcap1⟩ := SlOf.form hI.out.p
  obtain ⟨A2, cap2, rfl, hcl2, hcap2⟩ := SlOf.form hI.out.t
  obtain ⟨A3, cap3, rfl, hcl3, hcap3⟩ := SlOf.form hI.out.g
  obtain ⟨D1, dap1, rfl, hdl1, hdap1⟩ := SlOf.form hJ.out.p
  obtain ⟨D2, dap2, rfl, hdl2, hdap2⟩ := SlOf.form hJ.out.t
  obtain ⟨D3, dap3, rfl, hdl3, hdap3⟩ := SlOf.form hJ.out.g
  have q0 := hI.out.c0
  have q1 := hI.out.c1
  have q2 := hI.out.c2
  have q3 := hI.out.c3
  have r0 := hJ.out.c0
  have r1 := hJ.out.c1
  have r2 := hJ.out.c2
  have r3 := hJ.out.c3
  have hz2 := Lib.hid z2
  clear hp ht hg hp2 ht2 hg2 hb hk0 b1 b2 z2
  go_enter Tryz.func21, Tryz.ntmps21
  go_wp2_with fail
  clear hW1 hW2 q0 q1 q2 q3 r0 r1 r2 r3
  go_loopw [5] (fun i wr => ∃ k : Nat, k ≤ n.ports.length ∧ i = .int .i64 k ∧ Hid (Below (w.heap.size + 2) W2 wr)) (fun i _ => n.ports.length - (intOf i).toNat)
  case atStart => exact ⟨0, Nat.zero_le _, rfl, Lib.hid (Below.refl _ _)⟩
  case round =>
    obtain ⟨k, hk, rfl, hbw⟩ := hrel
    obtain ⟨wq, rfl⟩ : ∃ wq, wq = wr := ⟨_, rfl⟩
    have hI1 := Lib.hid (hI.out.below hbw.out)
    have hJ1 := Lib.hid (hJ.out.below hbw.out)
    have q1 := hI1.out.c1
    have r1 := hJ1.out.c1
    by_cases hlt : k < n.ports.length
    · obtain ⟨b1, off1, rfl⟩ := SlOf.addr hI1.out.p (by omega)
      obtain ⟨b2, off2, rfl⟩ := SlOf.addr hJ1.out.p (by omega)
      obtain ⟨_, c, x, hx, ⟨hc, _⟩, hj⟩ := SlOf.el hI1.out.p hlt
      obtain ⟨_, d, y, hy, ⟨hd, _⟩, hl⟩ := SlOf.el hJ1.out.p hlt
      rw [hx] at hy
      obtain rfl := Option.some.inj hy
      subst hc hd
      have f0 : wq.cell? ⟨b1, off1 + k * 4, none⟩ = some (.string x.name) := hj 0 _ rfl
      have f1 : wq.cell? ⟨b1, off1 + k * 4 + 1, none⟩ = some (.int .i64 x.box) := hj 1 _ rfl
      have f2 : wq.cell? ⟨b1, off1 + k * 4 + 2, none⟩ = some (.bool x.inn) := hj 2 _ rfl
      have f3 : wq.cell? ⟨b1, off1 + k * 4 + 3, none⟩ = some (.int .i64 x.dest) := hj 3 _ rfl
      have g0 : wq.cell? ⟨b2, off2 + k * 4, none⟩ = some (.string x.name) := hl 0 _ rfl
      have g1 : wq.cell? ⟨b2, off2 + k * 4 + 1, none⟩ = some (.int .i64 x.box) := hl 1 _ rfl
      have g2 : wq.cell? ⟨b2, off2 + k * 4 + 2, none⟩ = some (.bool x.inn) := hl 2 _ rfl
      have g3 : wq.cell? ⟨b2, off2 + k * 4 + 3, none⟩ = some (.int .i64 x.dest) := hl 3 _ rfl
      clear hj hl hx hy
      go_wp2_with fail
      go_quiet (fail)
      go_wp2_with fail
      go_roundw
      case rel => exact ⟨k + 1, by omega, by go_num, Lib.hid (below_drewN hbw.out _)⟩
      case measure => simp [intOf]; omega
    · have hBs := hbw
      go_wp2_with fail
      clear q1 r1
      go_loopw [6, 7, 8, 9] (fun i _ _ _ wr => ∃ k : Nat, k ≤ n.tables.length ∧ i = .int .i64 k ∧ Hid (Below (w.heap.size + 2) W2 wr)) (fun i _ _ _ _ => n.tables.length - (intOf i).toNat)
      case atStart => exact ⟨0, Nat.zero_le _, rfl, hBs⟩
      case round =>
        obtain ⟨k, hk, rfl, hbw⟩ := hrel
        obtain ⟨wo, rfl⟩ : ∃ wo, wo = wr := ⟨_, rfl⟩
        clear hBs
        have hsz : w.heap.size + 2 ≤ wo.heap.size := by have := hbw.out.size; have := hz2.out; omega
        have hI1 := Lib.hid (hI.out.below hbw.out)
        have hJ1 := Lib.hid (hJ.out.below hbw.out)
        have q2 := hI1.out.c2
        have r2 := hJ1.out.c2
        by_cases hlt : k < n.tables.length
        · obtain ⟨b1, off1, rfl⟩ := SlOf.addr hI1.out.t (by omega)
          obtain ⟨b2, off2, rfl⟩ := SlOf.addr hJ1.out.t (by omega)
          obtain ⟨hb1, c, x, hx, ⟨v1, hc, hT1⟩, hj⟩ := SlOf.el hI1.out.t hlt
          obtain ⟨hb2, d, y, hy, ⟨v2, hd, hT2⟩, hl⟩ := SlOf.el hJ1.out.t hlt
          rw [hx] at hy
          obtain rfl := Option.some.inj hy
          subst hc hd
          have e0 : wo.cell? ⟨b1, off1 + k, none⟩ = some v1 := by simpa using hj 0 _ rfl
          have e1 : wo.cell? ⟨b2, off2 + k, none⟩ = some v2 := by simpa using hl 0 _ rfl
          clear hj hl hx hy
          obtain ⟨E1, ecap1, rfl, hel1, hec1⟩ := SlOf.form hT1
          obtain ⟨E2, ecap2, rfl, hel2, hec2⟩ := SlOf.form hT2
          have hT1 := Lib.hid hT1
          have hT2 := Lib.hid hT2
          go_wp2_with fail
          go_quiet (fail)
          go_wp2_with fail
          have hBt := Lib.hid (below_drewN (Below.refl wo.heap.size wo) nq)
          go_loopw [7, 8, 9] (fun j _ _ wr => ∃ i : Nat, i ≤ x.length ∧ j = .int .i64 i ∧ Hid (Below wo.heap.size wo wr)) (fun j _ _ _ => x.length - (intOf j).toNat)
          case atStart => exact ⟨0, Nat.zero_le _, rfl, hBt⟩
          case round =>
            obtain ⟨i, hi, rfl, hbq⟩ := hrel
            obtain ⟨wq, rfl⟩ : ∃ wq, wq = wr := ⟨_, rfl⟩
            clear hBt
            have hlw : wo.heap.size ≤ wq.heap.size := hbq.out.size
            have q2 := (hbq.out.cell (p := ⟨w.heap.size, 2, none⟩) (show w.heap.size < _ by omega)).trans q2
            have r2 := (hbq.out.cell (p := ⟨w.heap.size + 1, 2, none⟩) (show w.heap.size + 1 < _ by omega)).trans r2
            have e0 := (hbq.out.cell (p := ⟨b1, off1 + k, none⟩) (show b1 < _ by omega)).trans e0
            have e1 := (hbq.out.cell (p := ⟨b2, off2 + k, none⟩) (show b2 < _ by omega)).trans e1
            have hI2 := Lib.hid (belowI (B := w.heap.size + 2) hbq.out hsz)
            by_cases hlt2 : i < x.length
            · have hS1 := hT1.out.keepI (Nat.le_refl _) hI2.out fun _ _ h => EntryC.keepI h (Nat.le_refl _) hI2.out
              have hS2 := hT2.out.keepI (Nat.le_refl _) hI2.out fun _ _ h => EntryC.keepI h (Nat.le_refl _) hI2.out
              obtain ⟨c1, o1, rfl⟩ := SlOf.addr hS1 (by omega)
              obtain ⟨c2, o2, rfl⟩ := SlOf.addr hS2 (by omega)
              obtain ⟨hc1, c, g, hg, ⟨vi, vc, vo, hc, _, _, hCi, hCc, hCo⟩, hj⟩ := SlOf.el hS1 hlt2
              obtain ⟨hc2, d, g', hg', ⟨ui, uc, uo, hd, _, _, hDi, hDc, hDo⟩, hl⟩ := SlOf.el hS2 hlt2
              rw [hg] at hg'
              obtain rfl := Option.some.inj hg'
              subst hc hd
              obtain ⟨X1, x1, rfl, _, _⟩ := SlOf.form hCi
              obtain ⟨X2, x2, rfl, _, _⟩ := SlOf.form hCc
              obtain ⟨X3, x3, rfl, _, _⟩ := SlOf.form hCo
              obtain ⟨Y1, y1, rfl, _, _⟩ := SlOf.form hDi
              obtain ⟨Y2, y2, rfl, _, _⟩ := SlOf.form hDc
              obtain ⟨Y3, y3, rfl, _, _⟩ := SlOf.form hDo
              have f0 : wq.cell? ⟨c1, o1 + i * 5, none⟩ = some (.string g.name) := hj 0 _ rfl
              have f1 : wq.cell? ⟨c1, o1 + i * 5 + 1, none⟩ = some (.slice X1 g.ins.length x1) := hj 1 _ rfl
              have f2 : wq.cell? ⟨c1, o1 + i * 5 + 2, none⟩ = some (.slice X2 g.cubes.length x2) := hj 2 _ rfl
              have f3 : wq.cell? ⟨c1, o1 + i * 5 + 3, none⟩ = some (.string g.write) := hj 3 _ rfl
              have f4 : wq.cell? ⟨c1, o1 + i * 5 + 4, none⟩ = some (.slice X3 g.outs.length x3) := hj 4 _ rfl
              obtain ⟨Wa, hWa⟩ : ∃ Wa, wq.alloc (.cells #[.string g.name, .slice X1 g.ins.length x1, .slice X2 g.cubes.length x2, .string g.write, .slice X3 g.outs.length x3] 52 (0, 0)) = Wa := ⟨_, rfl⟩
              have ba : Below wq.heap.size wq Wa := hWa ▸ (Below.refl _ wq).alloc (Nat.le_refl _) _
              have za : Wa.heap.size = wq.heap.size + 1 := by rw [← hWa]; simp
              have hAb : Wa.heap[wq.heap.size]? = some (.cells #[.string g.name, .slice X1 g.ins.length x1, .slice X2 g.cubes.length x2, .string g.write, .slice X3 g.outs.length x3] 52 (0, 0)) := hWa ▸ heap_alloc_new wq _
              have r2a := (ba.cell (p := ⟨w.heap.size + 1, 2, none⟩) (show w.heap.size + 1 < _ by omega)).trans r2
              have e1a := (ba.cell (p := ⟨b2, off2 + k, none⟩) (show b2 < _ by omega)).trans e1
              have g0 : Wa.cell? ⟨c2, o2 + i * 5, none⟩ = some (.string g.name) := (ba.cell (p := ⟨c2, _, none⟩) (show c2 < _ by omega)).trans (hl 0 _ rfl)
              have g1 : Wa.cell? ⟨c2, o2 + i * 5 + 1, none⟩ = some (.slice Y1 g.ins.length y1) := (ba.cell (p := ⟨c2, _, none⟩) (show c2 < _ by omega)).trans (hl 1 _ rfl)
              have g2 : Wa.cell? ⟨c2, o2 + i * 5 + 2, none⟩ = some (.slice Y2 g.cubes.length y2) := (ba.cell (p := ⟨c2, _, none⟩) (show c2 < _ by omega)).trans (hl 2 _ rfl)
              have g3 : Wa.cell? ⟨c2, o2 + i * 5 + 3, none⟩ = some (.string g.write) := (ba.cell (p := ⟨c2, _, none⟩) (show c2 < _ by omega)).trans (hl 3 _ rfl)
              have g4 : Wa.cell? ⟨c2, o2 + i * 5 + 4, none⟩ = some (.slice Y3 g.outs.length y3) := (ba.cell (p := ⟨c2, _, none⟩) (show c2 < _ by omega)).trans (hl 4 _ rfl)
              obtain ⟨Wb, hWb⟩ : ∃ Wb, Wa.alloc (.cells #[.string g.name, .slice Y1 g.ins.length y1, .slice Y2 g.cubes.length y2, .string g.write, .slice Y3 g.outs.length y3] 52 (0, 0)) = Wb := ⟨_, rfl⟩
              have bb : Below Wa.heap.size Wa Wb := hWb ▸ (Below.refl _ Wa).alloc (Nat.le_refl _) _
              have zb : Wb.heap.size = wq.heap.size + 2 := by rw [← hWb]; simp [za]
              have hBb : Wb.heap[wq.heap.size + 1]? = some (.cells #[.string g.name, .slice Y1 g.ins.length y1, .slice Y2 g.cubes.length y2, .string g.write, .slice Y3 g.outs.length y3] 52 (0, 0)) := by
                rw [← hWb, ← za]; exact heap_alloc_new Wa _
              have hAb := (bb.block wq.heap.size (by omega)).trans hAb
              have bab : Below wq.heap.size wq Wb := ba.trans (bb.mono (by omega))
              have hbk := Lib.hid bab
              have hlv : ∀ W, Below Wb.heap.size Wb W → (∀ (o : Nat) (u : Value), Wb.cell? ⟨wq.heap.size, o, none⟩ = some u → W.cell? ⟨wq.heap.size, o, none⟩ = some u) ∧ (∀ (o : Nat) (u : Value), Wb.cell? ⟨wq.heap.size + 1, o, none⟩ = some u → W.cell? ⟨wq.heap.size + 1, o, none⟩ = some u) := fun W h =>
                ⟨fun o u hu => (h.cell (p := ⟨wq.heap.size, o, none⟩) (show wq.heap.size < _ by omega)).trans hu, fun o u hu => (h.cell (p := ⟨wq.heap.size + 1, o, none⟩) (show wq.heap.size + 1 < _ by omega)).trans hu⟩
              have p0 : Wb.cell? ⟨wq.heap.size, 0, none⟩ = some (.string g.name) := by simpa using cell_of_row Wb wq.heap.size 0 _ _ (0, 0) hAb
              have p1 : Wb.cell? ⟨wq.heap.size, 1, none⟩ = some (.slice X1 g.ins.length x1) := by simpa using cell_of_row Wb wq.heap.size 1 _ _ (0, 0) hAb
              have p2 : Wb.cell? ⟨wq.heap.size, 2, none⟩ = some (.slice X2 g.cubes.length x2) := by simpa using cell_of_row Wb wq.heap.size 2 _ _ (0, 0) hAb
              have p3 : Wb.cell? ⟨wq.heap.size, 3, none⟩ = some (.string g.write) := by simpa using cell_of_row Wb wq.heap.size 3 _ _ (0, 0) hAb
              have p4 : Wb.cell? ⟨wq.heap.size, 4, none⟩ = some (.slice X3 g.outs.length x3) := by simpa using cell_of_row Wb wq.heap.size 4 _ _ (0, 0) hAb
              have s0 : Wb.cell? ⟨wq.heap.size + 1, 0, none⟩ = some (.string g.name) := by simpa using cell_of_row Wb (wq.heap.size + 1) 0 _ _ (0, 0) hBb
              have s1 : Wb.cell? ⟨wq.heap.size + 1, 1, none⟩ = some (.slice Y1 g.ins.length y1) := by simpa using cell_of_row Wb (wq.heap.size + 1) 1 _ _ (0, 0) hBb
              have s2 : Wb.cell? ⟨wq.heap.size + 1, 2, none⟩ = some (.slice Y2 g.cubes.length y2) := by simpa using cell_of_row Wb (wq.heap.size + 1) 2 _ _ (0, 0) hBb
              have s3 : Wb.cell? ⟨wq.heap.size + 1, 3, none⟩ = some (.string g.write) := by simpa using cell_of_row Wb (wq.heap.size + 1) 3 _ _ (0, 0) hBb
              have s4 : Wb.cell? ⟨wq.heap.size + 1, 4, none⟩ = some (.slice Y3 g.outs.length y3) := by simpa using cell_of_row Wb (wq.heap.size + 1) 4 _ _ (0, 0) hBb
              have hmn : ∀ W, Below Wb.heap.size Wb W → Below wq.heap.size wq W := fun W h => bab.trans (h.mono (by omega))
              have k1 : Hid (∀ W, Below Wb.heap.size Wb W → Calls Tryz.prog 43 #[.slice X1 g.ins.length x1, .slice Y1 g.ins.length y1] W fun e w' => e = .returned (.bool true) ∧ Below W.heap.size W w') :=
                Lib.hid fun W h => sameInts_any g.ins _ _ (w.heap.size + 2) W (SlOf.keepI hCi (Nat.le_refl _) (belowI (hmn W h) (by omega)) fun _ _ h => h) (SlOf.keepI hDi (Nat.le_refl _) (belowI (hmn W h) (by omega)) fun _ _ h => h)
              have k2 : Hid (∀ W, Below Wb.heap.size Wb W → Calls Tryz.prog 44 #[.slice X2 g.cubes.length x2, .slice Y2 g.cubes.length y2] W fun e w' => e = .returned (.bool true) ∧ Below W.heap.size W w') :=
                Lib.hid fun W h => sameTexts_any g.cubes _ _ (w.heap.size + 2) W (SlOf.keepI hCc (Nat.le_refl _) (belowI (hmn W h) (by omega)) fun _ _ h => h) (SlOf.keepI hDc (Nat.le_refl _) (belowI (hmn W h) (by omega)) fun _ _ h => h)
              have k3 : Hid (∀ W, Below Wb.heap.size Wb W → Calls Tryz.prog 43 #[.slice X3 g.outs.length x3, .slice Y3 g.outs.length y3] W fun e w' => e = .returned (.bool true) ∧ Below W.heap.size W w') :=
                Lib.hid fun W h => sameInts_any g.outs _ _ (w.heap.size + 2) W (SlOf.keepI hCo (Nat.le_refl _) (belowI (hmn W h) (by omega)) fun _ _ h => h) (SlOf.keepI hDo (Nat.le_refl _) (belowI (hmn W h) (by omega)) fun _ _ h => h)
              have hlv := Lib.hid hlv
              have hmn := Lib.hid hmn
              clear hj hl hg hS1 hS2 hCi hCc hCo hDi hDc hDo ba bb bab hAb hBb zb
              go_wp2_with fail
              refine (k1.out _ (Below.refl _ _)).mono ?_
              rintro e w1 ⟨rfl, hb1⟩
              clear hWa hWb
              have t2 := (hlv.out w1 hb1).1 2 _ p2
              have u2 := (hlv.out w1 hb1).2 2 _ s2
              go_wp2_with fail
              refine (k2.out _ hb1).mono ?_
              rintro e w2 ⟨rfl, hb2⟩
              have hb12 := hb1.trans (hb2.mono hb1.size)
              have t4 := (hlv.out w2 hb12).1 4 _ p4
              have u4 := (hlv.out w2 hb12).2 4 _ s4
              clear hb2
              go_wp2_with fail
              refine (k3.out _ hb12).mono ?_
              rintro e w3 ⟨rfl, hb3⟩
              have hb13 := hmn.out _ (hb12.trans (hb3.mono hb12.size))
              have hbn := Lib.hid (hbq.out.trans (hb13.mono hlw))
              clear hb1 hb12 hb3 hb13 k1 k2 k3 hlv hmn
              go_wp2_with fail
              go_roundw
              case rel => exact ⟨i + 1, by omega, by go_num, hbn⟩
              case measure => simp [intOf]; omega
            · have hbn := Lib.hid (hbw.out.trans (hbq.out.mono hsz))
              go_wp2_with fail
              go_roundw
              case rel => exact ⟨k + 1, by omega, by go_num, hbn⟩
              case measure => simp [intOf]; omega
        · have hBs := hbw
          go_wp2_with fail
          clear q2 r2
          go_loopw [10, 11] (fun i _ wr => ∃ k : Nat, k ≤ n.guards.length ∧ i = .int .i64 k ∧ Hid (Below (w.heap.size + 2) W2 wr)) (fun i _ _ => n.guards.length - (intOf i).toNat)
          case atStart => exact ⟨0, Nat.zero_le _, rfl, hBs⟩
          case round =>
            obtain ⟨k, hk, rfl, hbw⟩ := hrel
            obtain ⟨wo, rfl⟩ : ∃ wo, wo = wr := ⟨_, rfl⟩
            clear hBs
            have hsz : w.heap.size + 2 ≤ wo.heap.size := by have := hbw.out.size; have := hz2.out; omega
            have hI1 := Lib.hid (hI.out.below hbw.out)
            have hJ1 := Lib.hid (hJ.out.below hbw.out)
            have q2 := hI1.out.c3
            have r2 := hJ1.out.c3
            by_cases hlt : k < n.guards.length
            · obtain ⟨b1, off1, rfl⟩ := SlOf.addr hI1.out.g (by omega)
              obtain ⟨b2, off2, rfl⟩ := SlOf.addr hJ1.out.g (by omega)
              obtain ⟨hb1, c, x, hx, ⟨v1, hc, hT1⟩, hj⟩ := SlOf.el hI1.out.g hlt
              obtain ⟨hb2, d, y, hy, ⟨v2, hd, hT2⟩, hl⟩ := SlOf.el hJ1.out.g hlt
              rw [hx] at hy
              obtain rfl := Option.some.inj hy
              subst hc hd
              have e0 : wo.cell? ⟨b1, off1 + k, none⟩ = some v1 := by simpa using hj 0 _ rfl
              have e1 : wo.cell? ⟨b2, off2 + k, none⟩ = some v2 := by simpa using hl 0 _ rfl
              clear hj hl hx hy
              obtain ⟨E1, ecap1, rfl, hel1, hec1⟩ := SlOf.form hT1
              obtain ⟨E2, ecap2, rfl, hel2, hec2⟩ := SlOf.form hT2
              have hT1 := Lib.hid hT1
              have hT2 := Lib.hid hT2
              go_wp2_with fail
              go_quiet (fail)
              go_wp2_with fail
              have hBt := Lib.hid (below_drewN (Below.refl wo.heap.size wo) nq)
              go_loopw [11] (fun j wr => ∃ i : Nat, i ≤ x.length ∧ j = .int .i64 i ∧ Hid (Below wo.heap.size wo wr)) (fun j _ => x.length - (intOf j).toNat)
              case atStart => exact ⟨0, Nat.zero_le _, rfl, hBt⟩
              case round =>
                obtain ⟨i, hi, rfl, hbq⟩ := hrel
                obtain ⟨wq, rfl⟩ : ∃ wq, wq = wr := ⟨_, rfl⟩
                clear hBt
                have hlw : wo.heap.size ≤ wq.heap.size := hbq.out.size
                have q2 := (hbq.out.cell (p := ⟨w.heap.size, 3, none⟩) (show w.heap.size < _ by omega)).trans q2
                have r2 := (hbq.out.cell (p := ⟨w.heap.size + 1, 3, none⟩) (show w.heap.size + 1 < _ by omega)).trans r2
                have e0 := (hbq.out.cell (p := ⟨b1, off1 + k, none⟩) (show b1 < _ by omega)).trans e0
                have e1 := (hbq.out.cell (p := ⟨b2, off2 + k, none⟩) (show b2 < _ by omega)).trans e1
                have hI2 := Lib.hid (belowI (B := w.heap.size + 2) hbq.out hsz)
                by_cases hlt2 : i < x.length
                · have hS1 := hT1.out.keepI (Nat.le_refl _) hI2.out fun _ _ h => GuardC.keepI h (Nat.le_refl _) hI2.out
                  have hS2 := hT2.out.keepI (Nat.le_refl _) hI2.out fun _ _ h => GuardC.keepI h (Nat.le_refl _) hI2.out
                  obtain ⟨c1, o1, rfl⟩ := SlOf.addr hS1 (by omega)
                  obtain ⟨c2, o2, rfl⟩ := SlOf.addr hS2 (by omega)
                  obtain ⟨hc1, c, g, hg, ⟨vc, hc, hCc⟩, hj⟩ := SlOf.el hS1 hlt2
                  obtain ⟨hc2, d, g', hg', ⟨uc, hd, hDc⟩, hl⟩ := SlOf.el hS2 hlt2
                  rw [hg] at hg'
                  obtain rfl := Option.some.inj hg'
                  subst hc hd
                  obtain ⟨X2, x2, rfl, _, _⟩ := SlOf.form hCc
                  obtain ⟨Y2, y2, rfl, _, _⟩ := SlOf.form hDc
                  have f0 : wq.cell? ⟨c1, o1 + i * 2, none⟩ = some (.bool g.permit) := hj 0 _ rfl
                  have f1 : wq.cell? ⟨c1, o1 + i * 2 + 1, none⟩ = some (.slice X2 g.cubes.length x2) := hj 1 _ rfl
                  have g0 : wq.cell? ⟨c2, o2 + i * 2, none⟩ = some (.bool g.permit) := hl 0 _ rfl
                  have g1 : wq.cell? ⟨c2, o2 + i * 2 + 1, none⟩ = some (.slice Y2 g.cubes.length y2) := hl 1 _ rfl
                  have k2 : Hid (∀ W, Below wq.heap.size wq W → Calls Tryz.prog 44 #[.slice X2 g.cubes.length x2, .slice Y2 g.cubes.length y2] W fun e w' => e = .returned (.bool true) ∧ Below W.heap.size W w') :=
                    Lib.hid fun W h => sameTexts_any g.cubes _ _ (w.heap.size + 2) W (SlOf.keepI hCc (Nat.le_refl _) (belowI h (by omega)) fun _ _ h => h) (SlOf.keepI hDc (Nat.le_refl _) (belowI h (by omega)) fun _ _ h => h)
                  have hK : Hid (∀ W, Below wq.heap.size wq W → W.cell? ⟨w.heap.size, 3, none⟩ = some (.slice (some ⟨b1, off1, none⟩) n.guards.length cap3) ∧ W.cell? ⟨w.heap.size + 1, 3, none⟩ = some (.slice (some ⟨b2, off2, none⟩) n.guards.length dap3) ∧ W.cell? ⟨b1, off1 + k, none⟩ = some (.slice (some ⟨c1, o1, none⟩) x.length ecap1) ∧ W.cell? ⟨b2, off2 + k, none⟩ = some (.slice (some ⟨c2, o2, none⟩) x.length ecap2) ∧
                      W.cell? ⟨c1, o1 + i * 2, none⟩ = some (.bool g.permit) ∧ W.cell? ⟨c1, o1 + i * 2 + 1, none⟩ = some (.slice X2 g.cubes.length x2) ∧ W.cell? ⟨c2, o2 + i * 2, none⟩ = some (.bool g.permit) ∧ W.cell? ⟨c2, o2 + i * 2 + 1, none⟩ = some (.slice Y2 g.cubes.length y2)) :=
                    Lib.hid fun W h => ⟨(h.cell (p := ⟨w.heap.size, 3, none⟩) (show w.heap.size < _ by omega)).trans q2, (h.cell (p := ⟨w.heap.size + 1, 3, none⟩) (show w.heap.size + 1 < _ by omega)).trans r2, (h.cell (p := ⟨b1, _, none⟩) (show b1 < _ by omega)).trans e0, (h.cell (p := ⟨b2, _, none⟩) (show b2 < _ by omega)).trans e1,
                      (h.cell (p := ⟨c1, _, none⟩) (show c1 < _ by omega)).trans f0, (h.cell (p := ⟨c1, _, none⟩) (show c1 < _ by omega)).trans f1, (h.cell (p := ⟨c2, _, none⟩) (show c2 < _ by omega)).trans g0, (h.cell (p := ⟨c2, _, none⟩) (show c2 < _ by omega)).trans g1⟩
                  clear hj hl hg hS1 hS2 hCc hDc
                  have hkI : (k : Int) < (n.guards.length : Int) := by omega
                  have hiI : (i : Int) < (x.length : Int) := by omega
                  go_wp2_with fail
                  go_region_held3 (fun W => W.cell? ⟨w.heap.size, 3, none⟩ = some (.slice (some ⟨b1, off1, none⟩) n.guards.length cap3) ∧ W.cell? ⟨w.heap.size + 1, 3, none⟩ = some (.slice (some ⟨b2, off2, none⟩) n.guards.length dap3) ∧ W.cell? ⟨b1, off1 + k, none⟩ = some (.slice (some ⟨c1, o1, none⟩) x.length ecap1) ∧ W.cell? ⟨b2, off2 + k, none⟩ = some (.slice (some ⟨c2, o2, none⟩) x.length ecap2) ∧
                      W.cell? ⟨c1, o1 + i * 2, none⟩ = some (.bool g.permit) ∧ W.cell? ⟨c1, o1 + i * 2 + 1, none⟩ = some (.slice X2 g.cubes.length x2) ∧ W.cell? ⟨c2, o2 + i * 2, none⟩ = some (.bool g.permit) ∧ W.cell? ⟨c2, o2 + i * 2 + 1, none⟩ = some (.slice Y2 g.cubes.length y2))
                    (first | with_reducible exact hHeld | with_reducible exact hK.out _ hB1 | exact hK.out _ (below_drewN (Below.refl _ _) 1))
                    ((go_at_call 44; refine (k2.out _ (below_drewN (Below.refl _ _) 1)).mono ?_; rintro e w1 ⟨rfl, hb1⟩; have hB1 : Below wq.heap.size wq w1 := (below_drewN (Below.refl _ _) 1).trans hb1))
                  have hbn := Lib.hid (hbq.out.trans (hB1.mono hlw))
                  clear hB1 hb1 k2 hK
                  go_wp2_with fail
                  go_roundw
                  case rel => exact ⟨i + 1, by omega, by go_num, hbn⟩
                  case measure => simp [intOf]; omega
                · have hbn := Lib.hid (hbw.out.trans (hbq.out.mono hsz))
                  go_wp2_with fail
                  go_roundw
                  case rel => exact ⟨k + 1, by omega, by go_num, hbn⟩
                  case measure => simp [intOf]; omega
            · go_wp2_with fail
              go_ret
              exact ⟨rfl, hb0.out.trans (hbw.out.mono (by omega))⟩
end Go.Proofs.YtjokciofeicdkaaGreatDoor
