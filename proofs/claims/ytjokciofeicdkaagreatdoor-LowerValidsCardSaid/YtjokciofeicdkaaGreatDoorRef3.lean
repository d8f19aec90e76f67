/- Walks: guardsRight (the reference's question on guards). -/
import Derived.Test.YtjokciofeicdkaaGreatDoorRef1
namespace Go.Proofs.YtjokciofeicdkaaGreatDoor
open Go.RowKit

set_option maxHeartbeats 2000000 in
set_option maxRecDepth 100000 in
theorem guardsRight_any (n : NetS) (v : Value) (B : Nat) (w : World) (hn : NetAt w B v n) (hB : B ≤ w.heap.size) (hG : n.guards.length ≤ 48) :
    Calls Tryz.prog 19 #[v] w fun e w' => e = .returned (.bool (guardsOk n)) ∧ Below w.heap.size w w' := by
  obtain ⟨vp, vt, vg, rfl, hp, ht, hg⟩ := hn
  have hI := Lib.hid (NetIn.mk_box hp ht hg hB)
  have hb0 := Lib.hid ((Below.refl w.heap.size w).alloc (Nat.le_refl _) (.cells #[.int .i64 n.bits, vp, vt, vg] 26 (0, 0)))
  have hb1 := Lib.hid (Below.refl (w.heap.size + 1) (w.alloc (.cells #[.int .i64 n.bits, vp, vt, vg] 26 (0, 0))))
  obtain ⟨A, cap, rfl, hcl, hcap⟩ := SlOf.form hg
  have HR0 : Hid (guardsOk n = (rightFrom (fun _ (g : GuardS) => cubesOk n.bits g.cubes 64) GuardS.cubes 64 0 (n.guards.drop 0) && decide (0 + ((n.guards.drop 0).map List.length).sum ≤ 64))) := Lib.hid (by unfold guardsOk rightAll; rw [Nat.zero_add]; rfl)
  generalize guardsOk n = R at *
  clear hp ht hg
  go_enter Tryz.func19, Tryz.ntmps19
  go_wp2_with fail
  go_loopw [3, 4, 5, 6, 7, 8] (fun ls i _ _ _ _ wr => ∃ (k L : Nat), k ≤ n.guards.length ∧ i = .int .i64 k ∧ ls = .int .i64 L ∧ L ≤ k * 140737488355328 ∧
    Hid (R = (rightFrom (fun _ (g : GuardS) => cubesOk n.bits g.cubes 64) GuardS.cubes 64 k (n.guards.drop k) && decide (L + ((n.guards.drop k).map List.length).sum ≤ 64))) ∧
    Hid (Below (w.heap.size + 1) (w.alloc (.cells #[.int .i64 n.bits, vp, vt, .slice A n.guards.length cap] 26 (0, 0))) wr)) (fun _ i _ _ _ _ _ => n.guards.length - (intOf i).toNat)
  case atStart => exact ⟨0, 0, Nat.zero_le _, rfl, rfl, Nat.zero_le _, HR0, hb1⟩
  case round =>
    obtain ⟨k, L, hk, rfl, rfl, hL, HR, hbw⟩ := hrel
    obtain ⟨wo, rfl⟩ : ∃ wo, wo = wr := ⟨_, rfl⟩
    clear HR0 hb1
    have hN := Lib.hid (hI.out.below hbw.out)
    have q3 := hN.out.c3
    by_cases hlt : k < n.guards.length
    · obtain ⟨b, off, rfl⟩ := SlOf.addr hN.out.g (by omega)
      obtain ⟨hb, c, t, ht, ⟨vt1, hc, hT⟩, hj⟩ := SlOf.el hN.out.g hlt
      subst hc
      have e0 : wo.cell? ⟨b, off + k, none⟩ = some vt1 := by simpa using hj 0 _ rfl
      clear hj
      obtain ⟨A1, cap1, rfl, hcl1, hcap1⟩ := SlOf.form hT
      have HS : Hid (R = (((t.drop 0).all (fun g => cubesOk n.bits g.cubes 64) && (decide (0 + ((t.drop 0).map fun g => g.cubes.length).sum ≤ 512) && rightFrom (fun _ (g : GuardS) => cubesOk n.bits g.cubes 64) GuardS.cubes 64 (k + 1) (n.guards.drop (k + 1)))) &&
          decide (L + t.length + ((n.guards.drop (k + 1)).map List.length).sum ≤ 64))) := Lib.hid (by
        rw [HR.out, drop_at ht, Nat.zero_add, List.map_cons, List.sum_cons, Nat.add_assoc]; rfl)
      clear HR ht
      obtain ⟨X1, hX1⟩ : ∃ X1, X1 = rightFrom (fun _ (g : GuardS) => cubesOk n.bits g.cubes 64) GuardS.cubes 64 (k + 1) (n.guards.drop (k + 1)) := ⟨_, rfl⟩
      rw [← hX1] at HS
      have hX1 := Lib.hid hX1
      obtain ⟨X2, hX2⟩ : ∃ X2, X2 = decide (L + t.length + ((n.guards.drop (k + 1)).map List.length).sum ≤ 64) := ⟨_, rfl⟩
      rw [← hX2] at HS
      have hX2 := Lib.hid hX2
      have hsz := Lib.hid (show w.heap.size + 1 ≤ wo.heap.size by have := hbw.out.size; simpa using this)
      have hT := Lib.hid hT
      clear hI
      go_wp2_with fail
      go_loopw [3, 5, 6, 7, 8] (fun ls al j _ _ wq => ∃ (i a : Nat), i ≤ t.length ∧ j = .int .i64 i ∧ al = .int .i64 a ∧ ls = .int .i64 (L + i : Nat) ∧ a ≤ i * 64 ∧
        Hid (R = (((t.drop i).all (fun g => cubesOk n.bits g.cubes 64) && (decide (a + ((t.drop i).map fun g => g.cubes.length).sum ≤ 512) && X1)) && X2)) ∧
        Hid (Below wo.heap.size wo wq)) (fun _ _ j _ _ _ => t.length - (intOf j).toNat)
      case atStart => exact ⟨0, 0, Nat.zero_le _, rfl, rfl, rfl, Nat.zero_le _, HS, Lib.hid (Below.refl _ _)⟩
      case round =>
        obtain ⟨i, a, hi, rfl, rfl, rfl, ha, HQ, hbq⟩ := hrel
        obtain ⟨wq, rfl⟩ : ∃ wq, wq = wr := ⟨_, rfl⟩
        clear HS q3
        have hk1 := Lib.hid (bcell hbq.out).1
        have hNq := Lib.hid (hN.out.below (hbq.out.mono hsz.out))
        have q0 := hNq.out.c0
        have q3 := hNq.out.c3
        have e1 := Lib.hid ((hk1.out b (off + k) (by have := hsz.out; omega)).trans e0)
        have e1 := e1.out
        clear e0
        have hTq := Lib.hid (hT.out.keep (Nat.le_refl _) (fun b o h => hk1.out b o (by have := hsz.out; omega)) fun _ _ h => h.keep (Nat.le_refl _) (fun b o h => hk1.out b o (by have := hsz.out; omega)))
        have hO := Lib.hid (hb0.out.trans ((hbw.out.mono (by omega)).trans (hbq.out.mono (by have := hsz.out; omega))))
        clear hT
        by_cases hlt2 : i < t.length
        · obtain ⟨b1, off1, rfl⟩ := SlOf.addr hTq.out (by omega)
          obtain ⟨hb1, c, g, hg, ⟨vc, hc, hC⟩, hj⟩ := SlOf.el hTq.out hlt2
          subst hc
          have f0 : wq.cell? ⟨b1, off1 + i * 2, none⟩ = some (.bool g.permit) := hj 0 _ rfl
          have f1 : wq.cell? ⟨b1, off1 + i * 2 + 1, none⟩ = some vc := hj 1 _ rfl
          clear hj
          obtain ⟨A2, cap2, rfl, hcl2, hcap2⟩ := SlOf.form hC
          have HS : Hid (R = (((cubesOk n.bits g.cubes 64 && (t.drop (i + 1)).all (fun g => cubesOk n.bits g.cubes 64)) && (decide (a + g.cubes.length + ((t.drop (i + 1)).map fun g => g.cubes.length).sum ≤ 512) && X1)) && X2)) := Lib.hid (by
            rw [HQ.out, drop_at hg, List.map_cons, List.sum_cons, Nat.add_assoc, List.all_cons])
          clear HQ hg
          have hlw : Hid (wo.heap.size ≤ wq.heap.size) := Lib.hid hbq.out.size
          have c1 : Hid (∀ w2, Below wq.heap.size wq w2 → Calls Tryz.prog 41 #[.int .i64 n.bits, .slice A2 g.cubes.length cap2, .int .i64 (64 : Nat)] w2 fun e w' => e = .returned (.bool (cubesOk n.bits g.cubes 64)) ∧ Below w2.heap.size w2 w') :=
            Lib.hid fun w2 h2 => (cubesRight_any n.bits g.cubes 64 _ wq.heap.size w2 (hC.keep (by have := hsz.out; have := hlw.out; omega) fun b o h => (bcell h2).1 b o (by have := hsz.out; have := hlw.out; omega)) (by decide)).mono fun _ _ h => ⟨h.1, below_of_eq h.2⟩
          have c1 := Lib.hid (c1.out _ ((Below.refl wq.heap.size wq).alloc (Nat.le_refl _) (.cells #[.bool g.permit, .slice A2 g.cubes.length cap2] 56 (0, 0))))
          generalize hcub : cubesOk n.bits g.cubes 64 = cub at *
          have h512 : Hid (a + g.cubes.length ≤ i * 64 + 140737488355328) := Lib.hid (by omega)
          have hcl64 : Hid (cub = true → g.cubes.length ≤ 64) := Lib.hid (by
            intro h; rw [h] at hcub; unfold cubesOk at hcub; simp only [Bool.and_eq_true, decide_eq_true_eq] at hcub; exact hcub.1)
          clear hcub
          have q0a : (wq.alloc (.cells #[.bool g.permit, .slice A2 g.cubes.length cap2] 56 (0, 0))).cell? ⟨w.heap.size, 0, none⟩ = some (.int .i64 n.bits) := (((Below.refl wq.heap.size wq).alloc (Nat.le_refl _) _).cell (p := ⟨w.heap.size, 0, none⟩) (show w.heap.size < wq.heap.size by have := hsz.out; have := hlw.out; omega)).trans q0
          go_wp2_with fail
          refine c1.out.mono ?_
          rintro e w2 ⟨rfl, hb2⟩
          obtain ⟨hP, hbw2⟩ := below_boxed hb2
          have d1 : w2.cell? ⟨wq.heap.size, 1, none⟩ = some (.slice A2 g.cubes.length cap2) := by simpa using cell_of_row w2 wq.heap.size 1 _ _ (0, 0) hP
          have hbw2 := Lib.hid hbw2
          clear c1 f0 f1 e1 q0 q0a q3 hP hb2
          cases cub
          · have HF : Hid (R = false) := Lib.hid (by rw [HS.out]; rfl)
            clear HS
            go_wp2_with fail
            go_ret
            exact ⟨ret_bool HF.out.symm, hO.out.trans (hbw2.out.mono (by have := hsz.out; have := hlw.out; omega))⟩
          · have HU : Hid (R = (((t.drop (i + 1)).all (fun g => cubesOk n.bits g.cubes 64) && (decide (a + g.cubes.length + ((t.drop (i + 1)).map fun g => g.cubes.length).sum ≤ 512) && X1)) && X2)) := Lib.hid (by rw [HS.out, Bool.true_and])
            have h64 := hcl64.out rfl
            clear HS hcl64
            go_wp2_with fail
            go_roundw
            case rel => exact ⟨i + 1, a + g.cubes.length, by omega, by go_num, by go_num, by go_num, by omega, HU, Lib.hid (hbq.out.trans (hbw2.out.mono hlw.out))⟩
            case measure => simp [intOf]; omega
        · have HU : Hid (R = ((decide (a ≤ 512) && X1) && X2)) := Lib.hid (by rw [HQ.out, drop_end hlt2]; simp)
          clear HQ
          by_cases h5 : a ≤ 512
          · have HV : Hid (R = (rightFrom (fun _ (g : GuardS) => cubesOk n.bits g.cubes 64) GuardS.cubes 64 (k + 1) (n.guards.drop (k + 1)) && decide (L + i + ((n.guards.drop (k + 1)).map List.length).sum ≤ 64))) := Lib.hid (by
              rw [HU.out, hX1.out, hX2.out, decide_eq_true h5, Bool.true_and, show i = t.length by omega])
            have h5' : (a : Int) ≤ 512 := by omega
            clear HU h5
            go_wp2_with fail
            go_roundw
            case rel => exact ⟨k + 1, L + i, by omega, by go_num, by go_num, by omega, HV, Lib.hid (hbw.out.trans (hbq.out.mono hsz.out))⟩
            case measure => simp [intOf]; omega
          · have HF : Hid (R = false) := Lib.hid (by rw [HU.out, decide_eq_false h5]; rfl)
            have h5' : (a : Int) > 512 := by omega
            clear HU h5
            go_wp2_with fail
            go_ret
            exact ⟨ret_bool HF.out.symm, hO.out⟩
    · have HV : Hid (R = decide (L ≤ 64)) := Lib.hid (by rw [HR.out, drop_end hlt]; simp [rightFrom])
      clear HR
      have hO := Lib.hid (hb0.out.trans (hbw.out.mono (by omega)))
      by_cases h6 : (L : Int) ≤ 64
      · have HF : Hid (R = true) := Lib.hid (by rw [HV.out, decide_eq_true (by omega)])
        clear HV
        go_wp2_with fail
        go_ret
        exact ⟨ret_bool HF.out.symm, hO.out⟩
      · have HF : Hid (R = false) := Lib.hid (by rw [HV.out, decide_eq_false (by omega)])
        clear HV
        go_wp2_with fail
        go_ret
        exact ⟨ret_bool HF.out.symm, hO.out⟩
end Go.Proofs.YtjokciofeicdkaaGreatDoor
