/- Walks: the program's validGuards. -/
import Derived.Test.YtjokciofeicdkaaGreatDoorVal1
namespace Go.Proofs.YtjokciofeicdkaaGreatDoor
open Go.RowKit

set_option maxHeartbeats 4000000 in
set_option maxRecDepth 100000 in
theorem validGuards_any (n : NetS) (v : Value) (B : Nat) (w : World) (hn : NetAt w B v n) (hB : B ≤ w.heap.size) :
    Calls Tryz.prog 13 #[v] w fun e w' => e = .returned (.bool (guardsOk n)) ∧ Below w.heap.size w w' := by
  obtain ⟨vp, vt, vg, rfl, hp, ht, hg⟩ := hn
  have hI := Lib.hid (NetIn.mk_box hp ht hg hB)
  have hb0 := Lib.hid ((Below.refl w.heap.size w).alloc (Nat.le_refl _) (.cells #[.int .i64 n.bits, vp, vt, vg] 26 (0, 0)))
  have hb1 := Lib.hid (Below.refl (w.heap.size + 1) (w.alloc (.cells #[.int .i64 n.bits, vp, vt, vg] 26 (0, 0))))
  obtain ⟨A, cap, rfl, hcl, hcap⟩ := SlOf.form hg
  have HR0 : Hid (guardsOk n = sumsTo (fun _ (g : GuardS) => cubesOk n.bits g.cubes 64) GuardS.cubes 64 0 0 (n.guards.drop 0)) := Lib.hid (by unfold guardsOk rightAll; rw [List.drop_zero, sumsTo_eq _ _ _ _ _ _ (Nat.zero_le _), Nat.zero_add])
  generalize guardsOk n = R at *
  obtain ⟨W0, hW0⟩ : ∃ W0, w.alloc (.cells #[.int .i64 n.bits, vp, vt, .slice A n.guards.length cap] 26 (0, 0)) = W0 := ⟨_, rfl⟩
  rw [hW0] at hI hb0 hb1
  have hz : Hid (W0.heap.size = w.heap.size + 1) := Lib.hid (by rw [← hW0]; simp)
  have q30 := hI.out.c3
  clear hp ht hg
  go_enter Tryz.func13, Tryz.ntmps13
  go_wp2_with fail
  clear hW0
  go_loopw [3, 5, 6, 8, 12] (fun ls _ _ _ i wr => ∃ (k L : Nat), k ≤ n.guards.length ∧ i = .int .i64 k ∧ ls = .int .i64 L ∧ L ≤ 64 ∧
    Hid (R = sumsTo (fun _ (g : GuardS) => cubesOk n.bits g.cubes 64) GuardS.cubes 64 k L (n.guards.drop k)) ∧ Hid (Below (w.heap.size + 1) W0 wr)) (fun _ _ _ _ i _ => n.guards.length - (intOf i).toNat)
  case atStart => exact ⟨0, 0, Nat.zero_le _, rfl, rfl, Nat.zero_le _, HR0, hb1⟩
  case round =>
    obtain ⟨k, L, hk, rfl, rfl, hL, HR, hbw⟩ := hrel
    obtain ⟨wo, rfl⟩ : ∃ wo, wo = wr := ⟨_, rfl⟩
    clear HR0 hb1 q30
    have hsz : Hid (w.heap.size + 1 ≤ wo.heap.size) := Lib.hid (by have := hbw.out.size; have := hz.out; omega)
    have hN := Lib.hid (hI.out.below hbw.out)
    have hO := Lib.hid (hb0.out.trans (hbw.out.mono (by omega)))
    by_cases hlt : k < n.guards.length
    · obtain ⟨b, off, rfl⟩ := SlOf.addr hN.out.g (by omega)
      obtain ⟨hb, c, t, ht, ⟨vt1, hc, hT⟩, hj⟩ := SlOf.el hN.out.g hlt
      subst hc
      have e0 : wo.cell? ⟨b, off + k, none⟩ = some vt1 := by simpa using hj 0 _ rfl
      clear hj
      obtain ⟨A1, cap1, rfl, hcl1, hcap1⟩ := SlOf.form hT
      have HS : Hid (R = (decide (L + t.length ≤ 64) && (sumTo (fun (g : GuardS) => cubesOk n.bits g.cubes 64) GuardS.cubes 0 (t.drop 0) && sumsTo (fun _ (g : GuardS) => cubesOk n.bits g.cubes 64) GuardS.cubes 64 (k + 1) (L + t.length) (n.guards.drop (k + 1))))) := Lib.hid (by
        rw [HR.out, drop_at ht]; rfl)
      clear HR ht
      by_cases h64 : L + t.length ≤ 64
      · obtain ⟨X, hX0⟩ : ∃ X, X = sumsTo (fun _ (g : GuardS) => cubesOk n.bits g.cubes 64) GuardS.cubes 64 (k + 1) (L + t.length) (n.guards.drop (k + 1)) := ⟨_, rfl⟩
        rw [← hX0, decide_eq_true h64, Bool.true_and] at HS
        have hX := Lib.hid hX0
        clear hX0
        have h64' : ¬ (L : Int) + (t.length : Int) > 64 := by omega
        have h65 := Lib.hid h64
        clear h64
        have hT := Lib.hid hT
        go_wp2_with fail
        clear e0
        go_loopw [6, 8, 24] (fun al _ j wq => ∃ (i a : Nat), i ≤ t.length ∧ j = .int .i64 i ∧ al = .int .i64 a ∧ a ≤ 512 ∧
          Hid (R = (sumTo (fun (g : GuardS) => cubesOk n.bits g.cubes 64) GuardS.cubes a (t.drop i) && X)) ∧ Hid (Below wo.heap.size wo wq)) (fun _ _ j _ => t.length - (intOf j).toNat)
        case atStart => exact ⟨0, 0, Nat.zero_le _, rfl, rfl, Nat.zero_le _, HS, Lib.hid (Below.refl _ _)⟩
        case round =>
          obtain ⟨i, a, hi, rfl, rfl, ha, HQ, hbq⟩ := hrel
          obtain ⟨wq, rfl⟩ : ∃ wq, wq = wr := ⟨_, rfl⟩
          clear HS
          have hlw : Hid (wo.heap.size ≤ wq.heap.size) := Lib.hid hbq.out.size
          have hk1 := Lib.hid (bcell hbq.out).1
          have hNq := Lib.hid (hN.out.below (hbq.out.mono hsz.out))
          have hTq := Lib.hid (hT.out.keep (Nat.le_refl _) (fun b o h => hk1.out b o (by have := hsz.out; omega)) fun _ _ h => h.keep (Nat.le_refl _) (fun b o h => hk1.out b o (by have := hsz.out; omega)))
          have hO2 := Lib.hid (hO.out.trans (hbq.out.mono (by have := hsz.out; omega)))
          by_cases hlt2 : i < t.length
          · obtain ⟨b1, off1, rfl⟩ := SlOf.addr hTq.out (by omega)
            obtain ⟨hb1, c, g, hg, ⟨vc, hc, hC⟩, hj⟩ := SlOf.el hTq.out hlt2
            subst hc
            have f0 : wq.cell? ⟨b1, off1 + i * 2, none⟩ = some (.bool g.permit) := hj 0 _ rfl
            have f1 : wq.cell? ⟨b1, off1 + i * 2 + 1, none⟩ = some vc := hj 1 _ rfl
            clear hj
            obtain ⟨A2, cap2, rfl, hcl2, hcap2⟩ := SlOf.form hC
            have HS : Hid (R = ((decide (a + g.cubes.length ≤ 512) && (cubesOk n.bits g.cubes 64 && sumTo (fun (g : GuardS) => cubesOk n.bits g.cubes 64) GuardS.cubes (a + g.cubes.length) (t.drop (i + 1)))) && X)) := Lib.hid (by
              rw [HQ.out, drop_at hg]; rfl)
            clear HQ hg
            have hba := Lib.hid ((Below.refl wq.heap.size wq).alloc (Nat.le_refl _) (.cells #[.bool g.permit, .slice A2 g.cubes.length cap2] 56 (0, 0)))
            have hMs : w.heap.size < wq.heap.size := by have := hsz.out; have := hlw.out; omega
            by_cases h512 : a + g.cubes.length ≤ 512
            · rw [decide_eq_true h512, Bool.true_and] at HS
              have h5' : ¬ (a : Int) + (g.cubes.length : Int) > 512 := by omega
              have h5'' := Lib.hid h512
              clear h512
              have q0 := (hba.out.cell (p := ⟨w.heap.size, 0, none⟩) hMs).trans hNq.out.c0
              have q1 := (hba.out.cell (p := ⟨w.heap.size, 1, none⟩) hMs).trans hNq.out.c1
              have q2 := (hba.out.cell (p := ⟨w.heap.size, 2, none⟩) hMs).trans hNq.out.c2
              have q3 := (hba.out.cell (p := ⟨w.heap.size, 3, none⟩) hMs).trans hNq.out.c3
              have hNa := hNq.out.below (hba.out.mono (show w.heap.size + 1 ≤ _ by omega))
              have hza : Hid ((wq.alloc (.cells #[.bool g.permit, .slice A2 g.cubes.length cap2] 56 (0, 0))).heap.size = wq.heap.size + 1) := Lib.hid (by simp)
              have hka := (bcell hba.out).1
              have c1 := Lib.hid (validCubes_any n g.cubes _ _ (w.heap.size + 1) _ hNa.net (by rw [hza.out]; omega) (hC.keep (Nat.le_refl _) fun b o h => hka b o (by omega)))
              clear hNa hka
              generalize cubesOk n.bits g.cubes 64 = cc at *
              go_wp2_with fail
              refine c1.out.mono ?_
              rintro e w1 ⟨rfl, hb2⟩
              have hbw1 := (below_boxed hb2).2
              have hbb := Lib.hid (hbq.out.trans (hbw1.mono hlw.out))
              have hO3 := Lib.hid (hO2.out.trans (hbw1.mono (by omega)))
              clear c1 q0 q1 q2 q3 hb2 hbw1 hba f0 f1
              cases cc
              · have HF : Hid (R = false) := Lib.hid (by rw [HS.out]; rfl)
                clear HS
                go_wp2_with fail
                go_ret
                exact ⟨ret_bool HF.out.symm, hO3.out⟩
              · have HU : Hid (R = (sumTo (fun (g : GuardS) => cubesOk n.bits g.cubes 64) GuardS.cubes (a + g.cubes.length) (t.drop (i + 1)) && X)) := Lib.hid (by rw [HS.out, Bool.true_and])
                clear HS
                go_wp2_with fail
                go_roundw
                case rel => exact ⟨i + 1, a + g.cubes.length, by omega, by go_num, by go_num, h5''.out, HU, hbb⟩
                case measure => simp [intOf]; omega
            · have HF : Hid (R = false) := Lib.hid (by rw [HS.out, decide_eq_false h512]; rfl)
              have h5' : (a : Int) + (g.cubes.length : Int) > 512 := by omega
              have hO3 := Lib.hid (hO2.out.trans (hba.out.mono (by omega)))
              clear h512 HS
              go_wp2_with fail
              go_ret
              exact ⟨ret_bool HF.out.symm, hO3.out⟩
          · have HU : Hid (R = sumsTo (fun _ (g : GuardS) => cubesOk n.bits g.cubes 64) GuardS.cubes 64 (k + 1) (L + t.length) (n.guards.drop (k + 1))) := Lib.hid (by rw [HQ.out, drop_end hlt2, hX.out]; rfl)
            clear HQ
            go_wp2_with fail
            go_roundw
            case rel => exact ⟨k + 1, L + t.length, by omega, by go_num, by go_num, h65.out, HU, Lib.hid (hbw.out.trans (hbq.out.mono hsz.out))⟩
            case measure => simp [intOf]; omega
      · have HF : Hid (R = false) := Lib.hid (by rw [HS.out, decide_eq_false h64]; rfl)
        have h64' : (L : Int) + (t.length : Int) > 64 := by omega
        clear HS h64
        go_wp2_with fail
        go_ret
        exact ⟨ret_bool HF.out.symm, hO.out⟩
    · have HF : Hid (R = true) := Lib.hid (by rw [HR.out, drop_end hlt]; rfl)
      clear HR
      go_wp2_with fail
      go_ret
      exact ⟨ret_bool HF.out.symm, hO.out⟩
end Go.Proofs.YtjokciofeicdkaaGreatDoor
