/- Walks: the program's validTables. -/
import Derived.Test.YtjokciofeicdkaaGreatDoorVal3
namespace Go.Proofs.YtjokciofeicdkaaGreatDoor
open Go.RowKit

set_option maxHeartbeats 4000000 in
set_option maxRecDepth 100000 in
theorem validTables_any (n : NetS) (v : Value) (B : Nat) (w : World) (hn : NetAt w B v n) (hB : B ≤ w.heap.size) :
    Calls Tryz.prog 14 #[v] w fun e w' => e = .returned (.bool (tablesOk n)) ∧ Below w.heap.size w w' := by
  obtain ⟨vp, vt, vg, rfl, hp, ht, hg⟩ := hn
  have hI := Lib.hid (NetIn.mk_box hp ht hg hB)
  have hb0 := Lib.hid ((Below.refl w.heap.size w).alloc (Nat.le_refl _) (.cells #[.int .i64 n.bits, vp, vt, vg] 26 (0, 0)))
  have hb1 := Lib.hid (Below.refl (w.heap.size + 1) (w.alloc (.cells #[.int .i64 n.bits, vp, vt, vg] 26 (0, 0))))
  obtain ⟨A, cap, rfl, hcl, hcap⟩ := SlOf.form ht
  have HR0 : Hid (tablesOk n = sumsTo (fun k (g : EntryS) => entryOk n k g) EntryS.cubes 256 0 0 (n.tables.drop 0)) := Lib.hid (by unfold tablesOk rightAll; rw [List.drop_zero, sumsTo_eq _ _ _ _ _ _ (Nat.zero_le _), Nat.zero_add])
  generalize tablesOk n = R at *
  obtain ⟨W0, hW0⟩ : ∃ W0, w.alloc (.cells #[.int .i64 n.bits, vp, .slice A n.tables.length cap, vg] 26 (0, 0)) = W0 := ⟨_, rfl⟩
  rw [hW0] at hI hb0 hb1
  have hz : Hid (W0.heap.size = w.heap.size + 1) := Lib.hid (by rw [← hW0]; simp)
  have q20 := hI.out.c2
  clear hp ht hg
  go_enter Tryz.func14, Tryz.ntmps14
  go_wp2_with fail
  clear hW0
  go_loopw [3, 4, 5, 6, 8, 12] (fun ls _ _ _ _ i wr => ∃ (k L : Nat), k ≤ n.tables.length ∧ i = .int .i64 k ∧ ls = .int .i64 L ∧ L ≤ 256 ∧
    Hid (R = sumsTo (fun k (g : EntryS) => entryOk n k g) EntryS.cubes 256 k L (n.tables.drop k)) ∧ Hid (Below (w.heap.size + 1) W0 wr)) (fun _ _ _ _ _ i _ => n.tables.length - (intOf i).toNat)
  case atStart => exact ⟨0, 0, Nat.zero_le _, rfl, rfl, Nat.zero_le _, HR0, hb1⟩
  case round =>
    obtain ⟨k, L, hk, rfl, rfl, hL, HR, hbw⟩ := hrel
    obtain ⟨wo, rfl⟩ : ∃ wo, wo = wr := ⟨_, rfl⟩
    clear HR0 hb1 q20
    have hsz : Hid (w.heap.size + 1 ≤ wo.heap.size) := Lib.hid (by have := hbw.out.size; have := hz.out; omega)
    have hN := Lib.hid (hI.out.below hbw.out)
    have hO := Lib.hid (hb0.out.trans (hbw.out.mono (by omega)))
    by_cases hlt : k < n.tables.length
    · obtain ⟨b, off, rfl⟩ := SlOf.addr hN.out.t (by omega)
      obtain ⟨hb, c, t, ht, ⟨vt1, hc, hT⟩, hj⟩ := SlOf.el hN.out.t hlt
      subst hc
      have e0 : wo.cell? ⟨b, off + k, none⟩ = some vt1 := by simpa using hj 0 _ rfl
      clear hj
      obtain ⟨A1, cap1, rfl, hcl1, hcap1⟩ := SlOf.form hT
      have HS : Hid (R = (decide (L + t.length ≤ 256) && (sumTo (fun (g : EntryS) => entryOk n k g) EntryS.cubes 0 (t.drop 0) && sumsTo (fun k (g : EntryS) => entryOk n k g) EntryS.cubes 256 (k + 1) (L + t.length) (n.tables.drop (k + 1))))) := Lib.hid (by
        rw [HR.out, drop_at ht]; rfl)
      clear HR ht
      by_cases h64 : L + t.length ≤ 256
      · obtain ⟨X, hX0⟩ : ∃ X, X = sumsTo (fun k (g : EntryS) => entryOk n k g) EntryS.cubes 256 (k + 1) (L + t.length) (n.tables.drop (k + 1)) := ⟨_, rfl⟩
        rw [← hX0, decide_eq_true h64, Bool.true_and] at HS
        have hX := Lib.hid hX0
        clear hX0
        have h64' : ¬ (L : Int) + (t.length : Int) > 256 := by omega
        have h65 := Lib.hid h64
        clear h64
        have hT := Lib.hid hT
        go_wp2_with fail
        clear e0
        go_loopw [6, 8, 25] (fun al _ j wq => ∃ (i a : Nat), i ≤ t.length ∧ j = .int .i64 i ∧ al = .int .i64 a ∧ a ≤ 512 ∧
          Hid (R = (sumTo (fun (g : EntryS) => entryOk n k g) EntryS.cubes a (t.drop i) && X)) ∧ Hid (Below wo.heap.size wo wq)) (fun _ _ j _ => t.length - (intOf j).toNat)
        case atStart => exact ⟨0, 0, Nat.zero_le _, rfl, rfl, Nat.zero_le _, HS, Lib.hid (Below.refl _ _)⟩
        case round =>
          obtain ⟨i, a, hi, rfl, rfl, ha, HQ, hbq⟩ := hrel
          obtain ⟨wq, rfl⟩ : ∃ wq, wq = wr := ⟨_, rfl⟩
          clear HS
          have hlw : Hid (wo.heap.size ≤ wq.heap.size) := Lib.hid hbq.out.size
          have hk1 := Lib.hid (bcell hbq.out).1
          have hNq := Lib.hid (hN.out.below (hbq.out.mono hsz.out))
          have hTq := Lib.hid (hT.out.keep (Nat.le_refl _) (fun b o h => hk1.out b o (by have := hsz.out; omega)) fun _ _ h => h.keep (Nat.le_refl _) (fun b o h => hk1.out b o (by have := hsz.out; omega)))
          have hO2 := Lib.hid (hO.out.trans (hbq.out.mono (by have := hsz.out; omega)))
          by_cases hlt2 : i < t.length
          · obtain ⟨b1, off1, rfl⟩ := SlOf.addr hTq.out (by omega)
            obtain ⟨hb1, c, g, hg, ⟨vi, vc, vo, hc, hnm, hwr, hCi, hC, hCo⟩, hj⟩ := SlOf.el hTq.out hlt2
            subst hc
            have f0 : wq.cell? ⟨b1, off1 + i * 5, none⟩ = some (.string g.name) := hj 0 _ rfl
            have f1 : wq.cell? ⟨b1, off1 + i * 5 + 1, none⟩ = some vi := hj 1 _ rfl
            have f2 : wq.cell? ⟨b1, off1 + i * 5 + 2, none⟩ = some vc := hj 2 _ rfl
            have f3 : wq.cell? ⟨b1, off1 + i * 5 + 3, none⟩ = some (.string g.write) := hj 3 _ rfl
            have f4 : wq.cell? ⟨b1, off1 + i * 5 + 4, none⟩ = some vo := hj 4 _ rfl
            clear hj
            obtain ⟨A4, cap4, rfl, hcl4, hcap4⟩ := SlOf.form hCi
            obtain ⟨A5, cap5, rfl, hcl5, hcap5⟩ := SlOf.form hCo
            obtain ⟨A2, cap2, rfl, hcl2, hcap2⟩ := SlOf.form hC
            have HS : Hid (R = ((decide (a + g.cubes.length ≤ 512) && (entryOk n k g && sumTo (fun (g : EntryS) => entryOk n k g) EntryS.cubes (a + g.cubes.length) (t.drop (i + 1)))) && X)) := Lib.hid (by
              rw [HQ.out, drop_at hg]; rfl)
            clear HQ hg
            have hba := Lib.hid ((Below.refl wq.heap.size wq).alloc (Nat.le_refl _) (.cells #[.string g.name, .slice A4 g.ins.length cap4, .slice A2 g.cubes.length cap2, .string g.write, .slice A5 g.outs.length cap5] 52 (0, 0)))
            have hMs : w.heap.size < wq.heap.size := by have := hsz.out; have := hlw.out; omega
            by_cases h512 : a + g.cubes.length ≤ 512
            · rw [decide_eq_true h512, Bool.true_and] at HS
              have h5' : ¬ (a : Int) + (g.cubes.length : Int) > 512 := by omega
              have h5'' := Lib.hid h512
              clear h512
              have q0 := (hba.out.cell (p := ⟨w.heap.size, 0, none⟩) hMs).trans hNq.out.c0
              have q1 := (hba.out.cell (p := ⟨w.heap.size, 1, none⟩) hMs).trans hNq.out.c1
              have q2 := (hba.out.cell (p := ⟨w.heap.size, 2, none⟩) hMs).trans hNq.out.c2
              have q3 := (hba.out.cell (p := ⟨w.heap.size, 3, none⟩) hMs).trans hNq.out.c3
              have hNa := hNq.out.below (hba.out.mono (show w.heap.size + 1 ≤ _ by omega))
              have hza : Hid ((wq.alloc (.cells #[.string g.name, .slice A4 g.ins.length cap4, .slice A2 g.cubes.length cap2, .string g.write, .slice A5 g.outs.length cap5] 52 (0, 0))).heap.size = wq.heap.size + 1) := Lib.hid (by simp)
              have hka := (bcell hba.out).1
              have c1 := Lib.hid (validEntry_any n k g _ _ _ _ (w.heap.size + 1) _ hNa.net (hCi.keep (Nat.le_refl _) fun b o h => hka b o (by omega)) (hC.keep (Nat.le_refl _) fun b o h => hka b o (by omega)) (hCo.keep (Nat.le_refl _) fun b o h => hka b o (by omega)) (by rw [hza.out]; omega) hnm hwr)
              clear hNa hka
              generalize entryOk n k g = cc at *
              go_wp2_with fail
              refine c1.out.mono ?_
              rintro e w1 ⟨rfl, hb2⟩
              have hbw1 := (below_boxed hb2).2
              have hbb := Lib.hid (hbq.out.trans (hbw1.mono hlw.out))
              have hO3 := Lib.hid (hO2.out.trans (hbw1.mono (by omega)))
              clear c1 q0 q1 q2 q3 hb2 hbw1 hba f0 f1 f2 f3 f4
              cases cc
              · have HF : Hid (R = false) := Lib.hid (by rw [HS.out]; rfl)
                clear HS
                go_wp2_with fail
                go_ret
                exact ⟨ret_bool HF.out.symm, hO3.out⟩
              · have HU : Hid (R = (sumTo (fun (g : EntryS) => entryOk n k g) EntryS.cubes (a + g.cubes.length) (t.drop (i + 1)) && X)) := Lib.hid (by rw [HS.out, Bool.true_and])
                clear HS
                go_wp2_with fail
                go_roundw
                case rel => exact ⟨i + 1, a + g.cubes.length, by omega, by go_num, by go_num, h5''.out, HU, hbb⟩
                case measure => simp [intOf]; omega
            · have HF : Hid (R = false) := Lib.hid (by rw [HS.out, decide_eq_false h512]; rfl)
              have h5' : (a : Int) + (g.cubes.length : Int) > 512 := by omega
              have hO3 := Lib.hid (hO2.out.trans (hba.out.mono (by omega)))
              clear h512 HS
              go_wp2_with fail
              go_ret
              exact ⟨ret_bool HF.out.symm, hO3.out⟩
          · have HU : Hid (R = sumsTo (fun k (g : EntryS) => entryOk n k g) EntryS.cubes 256 (k + 1) (L + t.length) (n.tables.drop (k + 1))) := Lib.hid (by rw [HQ.out, drop_end hlt2, hX.out]; rfl)
            clear HQ
            go_wp2_with fail
            go_roundw
            case rel => exact ⟨k + 1, L + t.length, by omega, by go_num, by go_num, h65.out, HU, Lib.hid (hbw.out.trans (hbq.out.mono hsz.out))⟩
            case measure => simp [intOf]; omega
      · have HF : Hid (R = false) := Lib.hid (by rw [HS.out, decide_eq_false h64]; rfl)
        have h64' : (L : Int) + (t.length : Int) > 256 := by omega
        clear HS h64
        go_wp2_with fail
        go_ret
        exact ⟨ret_bool HF.out.symm, hO.out⟩
    · have HF : Hid (R = true) := Lib.hid (by rw [HR.out, drop_end hlt]; rfl)
      clear HR
      go_wp2_with fail
      go_ret
      exact ⟨ret_bool HF.out.symm, hO.out⟩
end Go.Proofs.YtjokciofeicdkaaGreatDoor
