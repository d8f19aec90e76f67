/- Walks: reachref9.Marked, where all marks stand and nothing is written over. -/
import Derived.Test.YtjokciofeicdkaaGreatDoorMark3
namespace Go.Proofs.YtjokciofeicdkaaGreatDoor
open Go.RowKit

set_option maxHeartbeats 4000000 in
set_option maxRecDepth 100000 in
theorem Marked_any (n : NetS) (va vb vc : Value) (B : Nat) (w : World) (ha : GivenAt w B va n) (hb : KeptAt w B vb n) (hc : NetAt w B vc n) (hB : B ≤ w.heap.size) :
    Calls Tryz.prog 8 #[va, vb, vc] w fun e w' => e = .returned (.bool true) ∧ Below w.heap.size w w' := by
  have hG := Lib.hid ha
  obtain ⟨vp, vt, vg, rfl, hp, ht0, ht, hg0, hg⟩ := ha
  obtain ⟨kp, kt, kg, rfl, hkp, hkt, hkg⟩ := hb
  obtain ⟨wp, wt, wg, rfl, hwp, hwt, hwg⟩ := hc
  obtain ⟨A1, cap1, rfl, hcl1, hcap1⟩ := SlOf.form hp.slOf
  obtain ⟨A2, cap2, rfl, hcl2, hcap2⟩ := SlOf.form ht
  obtain ⟨A3, cap3, rfl, hcl3, hcap3⟩ := SlOf.form hg
  obtain ⟨D2, dap2, rfl, hdl2, hdap2⟩ := SlOf.form hkt
  obtain ⟨D3, dap3, rfl, hdl3, hdap3⟩ := SlOf.form hkg
  obtain ⟨W1, hW1⟩ : ∃ W1, w.alloc (.cells #[.int .i64 n.bits, .slice A1 n.ports.length cap1, .slice A2 n.tables.length cap2, .slice A3 n.guards.length cap3] 26 (0, 0)) = W1 := ⟨_, rfl⟩
  obtain ⟨W2, hW2⟩ : ∃ W2, W1.alloc (.cells #[.int .i64 n.bits, kp, .slice D2 n.tables.length dap2, .slice D3 n.guards.length dap3] 26 (0, 0)) = W2 := ⟨_, rfl⟩
  obtain ⟨W3, hW3⟩ : ∃ W3, W2.alloc (.cells #[.int .i64 n.bits, wp, wt, wg] 26 (0, 0)) = W3 := ⟨_, rfl⟩
  have z1 : W1.heap.size = w.heap.size + 1 := by rw [← hW1]; simp
  have z2 : W2.heap.size = w.heap.size + 2 := by rw [← hW2]; simp [z1]
  have z3 : W3.heap.size = w.heap.size + 3 := by rw [← hW3]; simp [z2]
  have b1 : Below w.heap.size w W1 := hW1 ▸ (Below.refl _ w).alloc (Nat.le_refl _) _
  have b2 : Below W1.heap.size W1 W2 := hW2 ▸ (Below.refl _ W1).alloc (Nat.le_refl _) _
  have b3 : Below W2.heap.size W2 W3 := hW3 ▸ (Below.refl _ W2).alloc (Nat.le_refl _) _
  have b23 : Below W1.heap.size W1 W3 := b2.trans (b3.mono (by omega))
  have b13 : Below w.heap.size w W3 := b1.trans (b23.mono (by omega))
  have x1 : Hid (W3.heap[w.heap.size]? = some (.cells #[.int .i64 n.bits, .slice A1 n.ports.length cap1, .slice A2 n.tables.length cap2, .slice A3 n.guards.length cap3] 26 (0, 0))) := Lib.hid (by
    rw [b23.block _ (by omega), ← hW1]; exact heap_alloc_new w _)
  have x2 : Hid (W3.heap[w.heap.size + 1]? = some (.cells #[.int .i64 n.bits, kp, .slice D2 n.tables.length dap2, .slice D3 n.guards.length dap3] 26 (0, 0))) := Lib.hid (by
    rw [b3.block _ (by omega), ← hW2, ← z1]; exact heap_alloc_new W1 _)
  have x3 : Hid (W3.heap[w.heap.size + 2]? = some (.cells #[.int .i64 n.bits, wp, wt, wg] 26 (0, 0))) := Lib.hid (by
    rw [← hW3, ← z2]; exact heap_alloc_new W2 _)
  have hnG : NetAt w B (.agg #[.int .i64 n.bits, .slice A1 n.ports.length cap1, .slice A2 n.tables.length cap2, .slice A3 n.guards.length cap3]) n := hG.out.plain
  have hnK : NetAt w B (.agg #[.int .i64 n.bits, kp, .slice D2 n.tables.length dap2, .slice D3 n.guards.length dap3]) n := KeptAt.plain ⟨_, _, _, rfl, hkp, hkt, hkg⟩
  have hnW : NetAt w B (.agg #[.int .i64 n.bits, wp, wt, wg]) n := ⟨_, _, _, rfl, hwp, hwt, hwg⟩
  have c1 : Hid (∀ W, Below w.heap.size w W → Calls Tryz.prog 21 #[.agg #[.int .i64 n.bits, .slice A1 n.ports.length cap1, .slice A2 n.tables.length cap2, .slice A3 n.guards.length cap3], .agg #[.int .i64 n.bits, wp, wt, wg]] W fun e w' => e = .returned (.bool true) ∧ Below W.heap.size W w') :=
    Lib.hid fun W h => Equal_any n _ _ w.heap.size W (hnG.below h hB) (hnW.below h hB) h.size
  have c2 : Hid (∀ W, Below w.heap.size w W → Calls Tryz.prog 21 #[.agg #[.int .i64 n.bits, kp, .slice D2 n.tables.length dap2, .slice D3 n.guards.length dap3], .agg #[.int .i64 n.bits, wp, wt, wg]] W fun e w' => e = .returned (.bool true) ∧ Below W.heap.size W w') :=
    Lib.hid fun W h => Equal_any n _ _ w.heap.size W (hnK.below h hB) (hnW.below h hB) h.size
  have c3 : Hid (∀ W, Below w.heap.size w W → Calls Tryz.prog 22 #[.agg #[.int .i64 n.bits, .slice A1 n.ports.length cap1, .slice A2 n.tables.length cap2, .slice A3 n.guards.length cap3]] W fun e w' => e = .returned (.bool true) ∧ Below W.heap.size W w') :=
    Lib.hid fun W h => markLists_any n _ w.heap.size W (hG.out.keepI hB (belowI h hB)) h.size
  have hkt := Lib.hid hkt
  have hkg := Lib.hid hkg
  have hb0 := Lib.hid b13
  have hz3 := Lib.hid z3
  have q0 : W3.cell? ⟨w.heap.size, 0, none⟩ = some (.int .i64 n.bits) := by simpa using cell_of_row W3 w.heap.size 0 _ _ (0, 0) x1.out
  have q1 : W3.cell? ⟨w.heap.size, 1, none⟩ = some (.slice A1 n.ports.length cap1) := by simpa using cell_of_row W3 w.heap.size 1 _ _ (0, 0) x1.out
  have q2 : W3.cell? ⟨w.heap.size, 2, none⟩ = some (.slice A2 n.tables.length cap2) := by simpa using cell_of_row W3 w.heap.size 2 _ _ (0, 0) x1.out
  have q3 : W3.cell? ⟨w.heap.size, 3, none⟩ = some (.slice A3 n.guards.length cap3) := by simpa using cell_of_row W3 w.heap.size 3 _ _ (0, 0) x1.out
  have r0 : W3.cell? ⟨w.heap.size + 1, 0, none⟩ = some (.int .i64 n.bits) := by simpa using cell_of_row W3 (w.heap.size + 1) 0 _ _ (0, 0) x2.out
  have r1 : W3.cell? ⟨w.heap.size + 1, 1, none⟩ = some kp := by simpa using cell_of_row W3 (w.heap.size + 1) 1 _ _ (0, 0) x2.out
  have r2 : W3.cell? ⟨w.heap.size + 1, 2, none⟩ = some (.slice D2 n.tables.length dap2) := by simpa using cell_of_row W3 (w.heap.size + 1) 2 _ _ (0, 0) x2.out
  have r3 : W3.cell? ⟨w.heap.size + 1, 3, none⟩ = some (.slice D3 n.guards.length dap3) := by simpa using cell_of_row W3 (w.heap.size + 1) 3 _ _ (0, 0) x2.out
  have s0 : W3.cell? ⟨w.heap.size + 2, 0, none⟩ = some (.int .i64 n.bits) := by simpa using cell_of_row W3 (w.heap.size + 2) 0 _ _ (0, 0) x3.out
  have s1 : W3.cell? ⟨w.heap.size + 2, 1, none⟩ = some wp := by simpa using cell_of_row W3 (w.heap.size + 2) 1 _ _ (0, 0) x3.out
  have s2 : W3.cell? ⟨w.heap.size + 2, 2, none⟩ = some wt := by simpa using cell_of_row W3 (w.heap.size + 2) 2 _ _ (0, 0) x3.out
  have s3 : W3.cell? ⟨w.heap.size + 2, 3, none⟩ = some wg := by simpa using cell_of_row W3 (w.heap.size + 2) 3 _ _ (0, 0) x3.out
  have hQ : Hid (∀ W, Below (w.heap.size + 3) W3 W → ∀ (i o : Nat) (u : Value), i < 3 → W3.cell? ⟨w.heap.size + i, o, none⟩ = some u → W.cell? ⟨w.heap.size + i, o, none⟩ = some u) := Lib.hid fun W h i o u hi hu => (h.cell (p := ⟨w.heap.size + i, o, none⟩) (show w.heap.size + i < _ by omega)).trans hu
  clear hp ht0 ht hg0 hg hkp hwp hwt hwg b1 b2 b3 b23 b13 hnG hnK hnW
  go_enter Tryz.func8, Tryz.ntmps8
  go_wp2_with fail
  refine (c1.out _ hb0.out).mono ?_
  rintro e w1 ⟨rfl, hb1⟩
  clear hW1 hW2 hW3 c1 z1 z2 z3
  rw [hz3.out] at hb1
  have r0a := hQ.out w1 hb1 1 0 _ (by decide) r0
  have r1a := hQ.out w1 hb1 1 1 _ (by decide) r1
  have r2a := hQ.out w1 hb1 1 2 _ (by decide) r2
  have r3a := hQ.out w1 hb1 1 3 _ (by decide) r3
  have s0a := hQ.out w1 hb1 2 0 _ (by decide) s0
  have s1a := hQ.out w1 hb1 2 1 _ (by decide) s1
  have s2a := hQ.out w1 hb1 2 2 _ (by decide) s2
  have s3a := hQ.out w1 hb1 2 3 _ (by decide) s3
  go_wp2_with fail
  refine (c2.out _ (hb0.out.trans (hb1.mono (by omega)))).mono ?_
  rintro e w2 ⟨rfl, hb2⟩
  clear r0a r1a r2a r3a s0a s1a s2a s3a c2
  have hb2 := hb1.trans (hb2.mono (by have := hb1.size; have := hz3.out; omega))
  have q0a := hQ.out w2 hb2 0 0 _ (by decide) q0
  have q1a := hQ.out w2 hb2 0 1 _ (by decide) q1
  have q2a := hQ.out w2 hb2 0 2 _ (by decide) q2
  have q3a := hQ.out w2 hb2 0 3 _ (by decide) q3
  rw [Nat.add_zero] at q0a q1a q2a q3a
  go_wp2_with fail
  refine (c3.out _ (hb0.out.trans (hb2.mono (by omega)))).mono ?_
  rintro e w4 ⟨rfl, hb4⟩
  clear q0a q1a q2a q3a c3
  have hb4 := Lib.hid (hb2.trans (hb4.mono (by have := hb2.size; have := hz3.out; omega)))
  have r2a := hQ.out w4 hb4.out 1 2 _ (by decide) r2
  clear hb1 hb2
  go_wp2_with fail
  clear r2a
  go_loopw [7, 8, 9] (fun i _ _ wr => ∃ k : Nat, k ≤ n.tables.length ∧ i = .int .i64 k ∧ Hid (Below (w.heap.size + 3) W3 wr)) (fun i _ _ _ => n.tables.length - (intOf i).toNat)
  case atStart => exact ⟨0, Nat.zero_le _, rfl, hb4⟩
  case round =>
    obtain ⟨k, hk, rfl, hbw⟩ := hrel
    obtain ⟨wo, rfl⟩ : ∃ wo, wo = wr := ⟨_, rfl⟩
    clear hb4
    have hsz : w.heap.size + 3 ≤ wo.heap.size := by have := hbw.out.size; have := hz3.out; omega
    have r2a := hQ.out wo hbw.out 1 2 _ (by decide) r2
    have hwo := Lib.hid (hb0.out.trans (hbw.out.mono (by omega)))
    by_cases hlt : k < n.tables.length
    · obtain ⟨b1, off1, rfl⟩ := SlOf.addr hkt.out (by omega)
      obtain ⟨hb1, c, x, hx, ⟨v1, hc, hT⟩, hj⟩ := SlOf.el hkt.out hlt
      subst hc
      have e0 : wo.cell? ⟨b1, off1 + k, none⟩ = some v1 := (hwo.out.cell (p := ⟨b1, _, none⟩) (show b1 < _ by omega)).trans (by simpa using hj 0 _ rfl)
      clear hj hx
      obtain ⟨E1, ecap1, rfl, hel1, hec1⟩ := SlOf.form hT
      have hT := Lib.hid hT
      go_wp2_with fail
      go_loopw [8, 9] (fun j _ wr => ∃ i : Nat, i ≤ x.length ∧ j = .int .i64 i ∧ Hid (Below wo.heap.size wo wr)) (fun j _ _ => x.length - (intOf j).toNat)
      case atStart => exact ⟨0, Nat.zero_le _, rfl, Lib.hid (Below.refl _ _)⟩
      case round =>
        obtain ⟨i, hi, rfl, hbq⟩ := hrel
        obtain ⟨wq, rfl⟩ : ∃ wq, wq = wr := ⟨_, rfl⟩
        have hlw : wo.heap.size ≤ wq.heap.size := hbq.out.size
        have r2b := (hbq.out.cell (p := ⟨w.heap.size + 1, 2, none⟩) (show w.heap.size + 1 < _ by omega)).trans r2a
        have e1 := (hbq.out.cell (p := ⟨b1, off1 + k, none⟩) (show b1 < _ by omega)).trans e0
        have hwq := Lib.hid (hwo.out.trans (hbq.out.mono (by omega)))
        clear r2a e0
        by_cases hlt2 : i < x.length
        · obtain ⟨c1, o1, rfl⟩ := SlOf.addr hT.out (by omega)
          obtain ⟨hc1, c, g, _, ⟨vi, vc, vo, hc, _, _, hRi, hRc, hRo⟩, hj⟩ := SlOf.el hT.out hlt2
          subst hc
          have hRi' := hRi
          have hRc' := hRc
          have hRo' := hRo
          obtain ⟨X1, y1, rfl, _⟩ := hRi'
          obtain ⟨X2, y2, rfl, _⟩ := hRc'
          obtain ⟨X3, y3, rfl, _⟩ := hRo'
          have f0 : wq.cell? ⟨c1, o1 + i * 5, none⟩ = some (.string g.name) := (hwq.out.cell (p := ⟨c1, _, none⟩) (show c1 < _ by omega)).trans (hj 0 _ rfl)
          have f1 : wq.cell? ⟨c1, o1 + i * 5 + 1, none⟩ = some (.slice X1 g.ins.length y1) := (hwq.out.cell (p := ⟨c1, _, none⟩) (show c1 < _ by omega)).trans (hj 1 _ rfl)
          have f2 : wq.cell? ⟨c1, o1 + i * 5 + 2, none⟩ = some (.slice X2 g.cubes.length y2) := (hwq.out.cell (p := ⟨c1, _, none⟩) (show c1 < _ by omega)).trans (hj 2 _ rfl)
          have f3 : wq.cell? ⟨c1, o1 + i * 5 + 3, none⟩ = some (.string g.write) := (hwq.out.cell (p := ⟨c1, _, none⟩) (show c1 < _ by omega)).trans (hj 3 _ rfl)
          have f4 : wq.cell? ⟨c1, o1 + i * 5 + 4, none⟩ = some (.slice X3 g.outs.length y3) := (hwq.out.cell (p := ⟨c1, _, none⟩) (show c1 < _ by omega)).trans (hj 4 _ rfl)
          have m1 : Hid (∀ W, Below w.heap.size w W → Calls Tryz.prog 23 #[.slice X1 g.ins.length y1] W fun e w' => e = .returned (.bool true) ∧ Below W.heap.size W w') :=
            Lib.hid fun W h => (markInts_any g.ins _ B W (hRi.keepI (Nat.le_refl _) (belowI h hB) fun _ _ h => h)).mono fun _ _ h => ⟨h.1, below_of_eq h.2⟩
          have m2 : Hid (∀ W, Below w.heap.size w W → Calls Tryz.prog 23 #[.slice X3 g.outs.length y3] W fun e w' => e = .returned (.bool true) ∧ Below W.heap.size W w') :=
            Lib.hid fun W h => (markInts_any g.outs _ B W (hRo.keepI (Nat.le_refl _) (belowI h hB) fun _ _ h => h)).mono fun _ _ h => ⟨h.1, below_of_eq h.2⟩
          have m3 : Hid (∀ W, Below w.heap.size w W → Calls Tryz.prog 24 #[.slice X2 g.cubes.length y2] W fun e w' => e = .returned (.bool true) ∧ Below W.heap.size W w') :=
            Lib.hid fun W h => (markTexts_any g.cubes _ B W (hRc.keepI (Nat.le_refl _) (belowI h hB) fun _ _ h => h)).mono fun _ _ h => ⟨h.1, below_of_eq h.2⟩
          obtain ⟨Wa, hWa⟩ : ∃ Wa, wq.alloc (.cells #[.string g.name, .slice X1 g.ins.length y1, .slice X2 g.cubes.length y2, .string g.write, .slice X3 g.outs.length y3] 52 (0, 0)) = Wa := ⟨_, rfl⟩
          have ba : Below wq.heap.size wq Wa := hWa ▸ (Below.refl _ wq).alloc (Nat.le_refl _) _
          have za : Wa.heap.size = wq.heap.size + 1 := by rw [← hWa]; simp
          have hAb : Wa.heap[wq.heap.size]? = some (.cells #[.string g.name, .slice X1 g.ins.length y1, .slice X2 g.cubes.length y2, .string g.write, .slice X3 g.outs.length y3] 52 (0, 0)) := hWa ▸ heap_alloc_new wq _
          have p1 : Wa.cell? ⟨wq.heap.size, 1, none⟩ = some (.slice X1 g.ins.length y1) := by simpa using cell_of_row Wa wq.heap.size 1 _ _ (0, 0) hAb
          have p2 : Wa.cell? ⟨wq.heap.size, 2, none⟩ = some (.slice X2 g.cubes.length y2) := by simpa using cell_of_row Wa wq.heap.size 2 _ _ (0, 0) hAb
          have p4 : Wa.cell? ⟨wq.heap.size, 4, none⟩ = some (.slice X3 g.outs.length y3) := by simpa using cell_of_row Wa wq.heap.size 4 _ _ (0, 0) hAb
          have hwa := Lib.hid (hwq.out.trans (ba.mono (by omega)))
          have hla : w.heap.size ≤ Wa.heap.size := hwa.out.size
          have hba := Lib.hid ba
          clear hj hRi hRc hRo ba hAb
          go_wp2_with fail
          refine (m1.out _ hwa.out).mono ?_
          rintro e w5 ⟨rfl, hb5⟩
          clear hWa
          have t4 := (hb5.cell (p := ⟨wq.heap.size, 4, none⟩) (show wq.heap.size < _ by omega)).trans p4
          go_wp2_with fail
          refine (m2.out _ (hwa.out.trans (hb5.mono hla))).mono ?_
          rintro e w6 ⟨rfl, hb6⟩
          have hb56 := hb5.trans (hb6.mono hb5.size)
          have t2 := (hb56.cell (p := ⟨wq.heap.size, 2, none⟩) (show wq.heap.size < _ by omega)).trans p2
          clear hb6
          go_wp2_with fail
          refine (m3.out _ (hwa.out.trans (hb56.mono hla))).mono ?_
          rintro e w7 ⟨rfl, hb7⟩
          have hb57 := hb56.trans (hb7.mono hb56.size)
          have hbn := Lib.hid (hbq.out.trans ((hba.out.trans (hb57.mono (by omega))).mono hlw))
          clear hb5 hb56 hb7 hb57 m1 m2 m3 p1 p2 p4 t4 t2 f0 f1 f2 f3 f4 r2b e1
          go_wp2_with fail
          go_roundw
          case rel => exact ⟨i + 1, by omega, by go_num, hbn⟩
          case measure => simp [intOf]; omega
        · have hbn := Lib.hid (hbw.out.trans (hbq.out.mono hsz))
          go_wp2_with fail
          go_roundw
          case rel => exact ⟨k + 1, by omega, by go_num, hbn⟩
          case measure => simp [intOf]; omega
    · have hBs := hbw
      have r3a := hQ.out wo hbw.out 1 3 _ (by decide) r3
      go_wp2_with fail
      clear r2a r3a
      go_loopw [10, 11, 12] (fun i _ _ wr => ∃ k : Nat, k ≤ n.guards.length ∧ i = .int .i64 k ∧ Hid (Below (w.heap.size + 3) W3 wr)) (fun i _ _ _ => n.guards.length - (intOf i).toNat)
      case atStart => exact ⟨0, Nat.zero_le _, rfl, hBs⟩
      case round =>
        obtain ⟨k, hk, rfl, hbw⟩ := hrel
        obtain ⟨wo, rfl⟩ : ∃ wo, wo = wr := ⟨_, rfl⟩
        clear hBs
        have hsz : w.heap.size + 3 ≤ wo.heap.size := by have := hbw.out.size; have := hz3.out; omega
        have r2a := hQ.out wo hbw.out 1 3 _ (by decide) r3
        have hwo := Lib.hid (hb0.out.trans (hbw.out.mono (by omega)))
        by_cases hlt : k < n.guards.length
        · obtain ⟨b1, off1, rfl⟩ := SlOf.addr hkg.out (by omega)
          obtain ⟨hb1, c, x, hx, ⟨v1, hc, hT⟩, hj⟩ := SlOf.el hkg.out hlt
          subst hc
          have e0 : wo.cell? ⟨b1, off1 + k, none⟩ = some v1 := (hwo.out.cell (p := ⟨b1, _, none⟩) (show b1 < _ by omega)).trans (by simpa using hj 0 _ rfl)
          clear hj hx
          obtain ⟨E1, ecap1, rfl, hel1, hec1⟩ := SlOf.form hT
          have hT := Lib.hid hT
          go_wp2_with fail
          go_loopw [11, 12] (fun j _ wr => ∃ i : Nat, i ≤ x.length ∧ j = .int .i64 i ∧ Hid (Below wo.heap.size wo wr)) (fun j _ _ => x.length - (intOf j).toNat)
          case atStart => exact ⟨0, Nat.zero_le _, rfl, Lib.hid (Below.refl _ _)⟩
          case round =>
            obtain ⟨i, hi, rfl, hbq⟩ := hrel
            obtain ⟨wq, rfl⟩ : ∃ wq, wq = wr := ⟨_, rfl⟩
            have hlw : wo.heap.size ≤ wq.heap.size := hbq.out.size
            have r2b := (hbq.out.cell (p := ⟨w.heap.size + 1, 3, none⟩) (show w.heap.size + 1 < _ by omega)).trans r2a
            have e1 := (hbq.out.cell (p := ⟨b1, off1 + k, none⟩) (show b1 < _ by omega)).trans e0
            have hwq := Lib.hid (hwo.out.trans (hbq.out.mono (by omega)))
            clear r2a e0
            by_cases hlt2 : i < x.length
            · obtain ⟨c1, o1, rfl⟩ := SlOf.addr hT.out (by omega)
              obtain ⟨hc1, c, g, _, ⟨vc, hc, hRc⟩, hj⟩ := SlOf.el hT.out hlt2
              subst hc
              have hRc' := hRc
              obtain ⟨X2, y2, rfl, _⟩ := hRc'
              have f1 : wq.cell? ⟨c1, o1 + i * 2 + 1, none⟩ = some (.slice X2 g.cubes.length y2) := (hwq.out.cell (p := ⟨c1, _, none⟩) (show c1 < _ by omega)).trans (hj 1 _ rfl)
              have m3 := Lib.hid ((markTexts_any g.cubes _ B wq (hRc.keepI (Nat.le_refl _) (belowI hwq.out hB) fun _ _ h => h)).mono (R' := fun e w' => e = .returned (.bool true) ∧ Below wq.heap.size wq w') fun _ _ h => ⟨h.1, below_of_eq h.2⟩)
              clear hj hRc
              go_wp2_with fail
              refine m3.out.mono ?_
              rintro e w7 ⟨rfl, hb7⟩
              have hbn := Lib.hid (hbq.out.trans (hb7.mono hlw))
              clear hb7 m3 f1 r2b e1
              go_wp2_with fail
              go_roundw
              case rel => exact ⟨i + 1, by omega, by go_num, hbn⟩
              case measure => simp [intOf]; omega
            · have hbn := Lib.hid (hbw.out.trans (hbq.out.mono hsz))
              go_wp2_with fail
              go_roundw
              case rel => exact ⟨k + 1, by omega, by go_num, hbn⟩
              case measure => simp [intOf]; omega
        · obtain ⟨_, _, _, hv, hp, ht, _, hg, _⟩ := hG.out.keepI (w' := wo) hB (belowI hwo.out hB)
          simp only [Value.agg.injEq, Array.mk.injEq, List.cons.injEq, and_true] at hv
          obtain ⟨-, rfl, rfl, rfl⟩ := hv
          have q1a := hQ.out wo hbw.out 0 1 _ (by decide) q1
          have q2a := hQ.out wo hbw.out 0 2 _ (by decide) q2
          have q3a := hQ.out wo hbw.out 0 3 _ (by decide) q3
          rw [Nat.add_zero] at q1a q2a q3a
          obtain ⟨_, _, hv, hp⟩ := hp
          injection hv with h1 _ h3
          subst h1 h3
          obtain ⟨_, _, hv, ht⟩ := ht
          injection hv with h1 _ h3
          subst h1 h3
          obtain ⟨_, _, hv, hg⟩ := hg
          injection hv with h1 _ h3
          subst h1 h3
          obtain ⟨_, _, hv, hp1, hp2⟩ := SlOf.form hp
          injection hv with h1 _ h3
          subst h1 h3
          obtain ⟨_, _, hv, ht1, ht2⟩ := SlOf.form ht
          injection hv with h1 _ h3
          subst h1 h3
          obtain ⟨_, _, hv, hg1, hg2⟩ := SlOf.form hg
          injection hv with h1 _ h3
          subst h1 h3
          rw [List.length_append] at hp1 hp2 ht1 ht2 hg1 hg2
          simp only [List.length_cons, List.length_nil, Nat.zero_add] at hp1 hp2 ht1 ht2 hg1 hg2
          obtain ⟨b1, o1, rfl⟩ := SlOf.addr hp (by simp)
          obtain ⟨b2, o2, rfl⟩ := SlOf.addr ht (by simp)
          obtain ⟨b3, o3, rfl⟩ := SlOf.addr hg (by simp)
          obtain ⟨_, c, y, hy, ⟨hc, _⟩, hj⟩ := SlOf.el hp (k := n.ports.length) (by simp)
          have hy1 : (n.ports ++ [markP])[n.ports.length]? = some markP := by simp
          rw [hy] at hy1
          obtain rfl := Option.some.inj hy1
          subst hc
          have f1 : wo.cell? ⟨b1, o1 + n.ports.length * 4, none⟩ = some (.string mark1) := hj 0 _ rfl
          clear hj hy hy1
          obtain ⟨_, c, y, hy, ⟨v2, hc, hT⟩, hj⟩ := SlOf.el ht (k := n.tables.length) (by simp)
          have hy1 : (n.tables ++ [[markE mark1]])[n.tables.length]? = some [markE mark1] := by simp
          rw [hy] at hy1
          obtain rfl := Option.some.inj hy1
          subst hc
          obtain ⟨E2, e2, rfl, _, _⟩ := SlOf.form hT
          have hT : SlOf 5 EntryC wo w.heap.size (.slice E2 1 e2) [markE mark1] := hT
          have f2 : wo.cell? ⟨b2, o2 + n.tables.length, none⟩ = some (.slice E2 1 e2) := by simpa using hj 0 _ rfl
          clear hj hy hy1
          obtain ⟨c2, p2, rfl⟩ := SlOf.addr hT (by simp)
          obtain ⟨_, c, y, hy, ⟨vi, vc, vo, hc, _⟩, hj⟩ := SlOf.el hT (k := 0) (by simp)
          simp only [List.getElem?_cons_zero, Option.some.injEq] at hy
          subst hy hc
          have f3 : wo.cell? ⟨c2, p2, none⟩ = some (.string mark1) := by simpa [markE] using hj 0 _ rfl
          clear hj
          obtain ⟨_, c, y, hy, ⟨v3, hc, hT3⟩, hj⟩ := SlOf.el hg (k := n.guards.length) (by simp)
          have hy1 : (n.guards ++ [[markG mark1]])[n.guards.length]? = some [markG mark1] := by simp
          rw [hy] at hy1
          obtain rfl := Option.some.inj hy1
          subst hc
          obtain ⟨E3, e3, rfl, _, _⟩ := SlOf.form hT3
          have hT3 : SlOf 2 GuardC wo w.heap.size (.slice E3 1 e3) [markG mark1] := hT3
          have f4 : wo.cell? ⟨b3, o3 + n.guards.length, none⟩ = some (.slice E3 1 e3) := by simpa using hj 0 _ rfl
          clear hj hy hy1
          obtain ⟨c3, p3, rfl⟩ := SlOf.addr hT3 (by simp)
          obtain ⟨_, c, y, hy, ⟨vc, hc, hCc⟩, hj⟩ := SlOf.el hT3 (k := 0) (by simp)
          simp only [List.getElem?_cons_zero, Option.some.injEq] at hy
          subst hy hc
          obtain ⟨X2, x2, rfl, _, _⟩ := SlOf.form hCc
          have hCc : Texts wo w.heap.size (.slice X2 1 x2) [mark1] := hCc
          obtain ⟨c4, p4, rfl⟩ := SlOf.addr hCc (by simp)
          obtain ⟨_, t1, ht1', _, f6⟩ := texts_el hCc (k := 0) (by simp)
          simp only [List.getElem?_cons_zero, Option.some.injEq] at ht1'
          subst ht1'
          have f5 : wo.cell? ⟨c3, p3 + 1, none⟩ = some (.slice (some ⟨c4, p4, none⟩) 1 x2) := by simpa [markG] using hj 1 _ rfl
          rw [Nat.add_zero] at f6
          unfold mark1 at f1 f3 f6
          have u1 : ((n.ports.length : Int) + 1).toNat = n.ports.length + 1 := by omega
          have u2 : ((n.tables.length : Int) + 1).toNat = n.tables.length + 1 := by omega
          have u3 : ((n.guards.length : Int) + 1).toNat = n.guards.length + 1 := by omega
          have hO := Lib.hid (hb0.out.trans (hbw.out.mono (by omega)))
          clear hj hp ht hg hT hT3 hCc hG
          go_wp2_with fail
          go_ret
          exact ⟨ret_bool (by simp), hO.out⟩
end Go.Proofs.YtjokciofeicdkaaGreatDoor
