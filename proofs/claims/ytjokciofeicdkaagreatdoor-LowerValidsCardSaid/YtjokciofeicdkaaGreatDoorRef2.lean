/- Walks: portsRight (the reference's question on ports). -/
import Derived.Test.YtjokciofeicdkaaGreatDoorRef1
namespace Go.Proofs.YtjokciofeicdkaaGreatDoor
open Go.RowKit

set_option maxHeartbeats 2000000 in
set_option maxRecDepth 100000 in
theorem portsRight_any (n : NetS) (v : Value) (B : Nat) (w : World) (hn : NetAt w B v n) (hB : B ≤ w.heap.size) :
    Calls Tryz.prog 18 #[v] w fun e w' => e = .returned (.bool (portsFrom n 0 n.ports)) ∧ Below w.heap.size w w' := by
  obtain ⟨vp, vt, vg, rfl, hp, ht, hg⟩ := hn
  have hI := Lib.hid (NetIn.mk_box hp ht hg hB)
  have hb0 := Lib.hid ((Below.refl w.heap.size w).alloc (Nat.le_refl _) (.cells #[.int .i64 n.bits, vp, vt, vg] 26 (0, 0)))
  obtain ⟨A, cap, rfl, hcl, hcap⟩ := SlOf.form hp
  obtain ⟨A2, cap2, rfl, hcl2, hcap2⟩ := SlOf.form ht
  have HR0 : Hid (portsFrom n 0 n.ports = portsFrom n 0 (n.ports.drop 0)) := Lib.hid rfl
  have hb1 := Lib.hid (Below.refl (w.heap.size + 1) (w.alloc (.cells #[.int .i64 n.bits, .slice A n.ports.length cap, .slice A2 n.tables.length cap2, vg] 26 (0, 0))))
  generalize portsFrom n 0 n.ports = R at *
  clear hp ht hg
  go_enter Tryz.func18, Tryz.ntmps18
  go_wp2_with fail
  go_loopw [3, 4, 5, 6] (fun i _ _ _ wr => ∃ k : Nat, k ≤ n.ports.length ∧ i = .int .i64 k ∧ Hid (R = portsFrom n k (n.ports.drop k)) ∧
    Hid (Below (w.heap.size + 1) (w.alloc (.cells #[.int .i64 n.bits, .slice A n.ports.length cap, .slice A2 n.tables.length cap2, vg] 26 (0, 0))) wr)) (fun i _ _ _ _ => n.ports.length - (intOf i).toNat)
  case atStart => exact ⟨0, Nat.zero_le _, rfl, HR0, hb1⟩
  case round =>
    obtain ⟨k, hk, rfl, HR, hbw⟩ := hrel
    clear HR0 hb1

    have hN := Lib.hid (hI.out.below hbw.out)
    have hs1 := hbw.out.size
    have q1 := hN.out.c1
    have q2 := hN.out.c2
    by_cases hlt : k < n.ports.length
    · obtain ⟨b, off, rfl⟩ := SlOf.addr hN.out.p (by omega)
      obtain ⟨hb, c, x, hx, ⟨hc, hxs⟩, hj⟩ := SlOf.el hN.out.p hlt
      subst hc
      have e0 : wr.cell? ⟨b, off + k * 4, none⟩ = some (.string x.name) := hj 0 _ rfl
      have e1 : wr.cell? ⟨b, off + k * 4 + 1, none⟩ = some (.int .i64 x.box) := hj 1 _ rfl
      have e2 : wr.cell? ⟨b, off + k * 4 + 2, none⟩ = some (.bool x.inn) := hj 2 _ rfl
      have e3 : wr.cell? ⟨b, off + k * 4 + 3, none⟩ = some (.int .i64 x.dest) := hj 3 _ rfl
      clear hj
      have HS : Hid (R = (portOk n k x && portsFrom n (k + 1) (n.ports.drop (k + 1)))) := Lib.hid (by rw [HR.out, drop_at hx]; rfl)
      clear HR
      have c1 : Hid (∀ w, Calls Tryz.prog 40 #[.string x.name] w fun e w' => e = .returned (.bool (fullS x.name)) ∧ Below w.heap.size w w') :=
        Lib.hid fun w => (fullName_any x.name w (by omega)).mono fun _ _ h => ⟨h.1, below_of_eq h.2⟩
      have hbz : Hid (Below w.heap.size w wr) := Lib.hid (hb0.out.trans (hbw.out.mono (by omega)))
      have hsz : Hid (w.heap.size + 1 ≤ wr.heap.size) := Lib.hid (by have := hs1; simp at this; omega)
      clear hs1
      go_wp2_with fail
      refine (c1.out _).mono ?_
      rintro e w2 ⟨rfl, hb2⟩
      clear c1 e0 e1 e2 e3 q1 q2
      obtain ⟨hP, hbw2⟩ := below_boxed hb2
      have hN2 := Lib.hid (hN.out.below (hbw2.mono hsz.out))
      have q1 := hN2.out.c1
      have q2 := hN2.out.c2
      have d0 : w2.cell? ⟨wr.heap.size, 0, none⟩ = some (.string x.name) := by simpa using cell_of_row w2 wr.heap.size 0 _ _ (0, 0) hP
      have d1 : w2.cell? ⟨wr.heap.size, 1, none⟩ = some (.int .i64 x.box) := by simpa using cell_of_row w2 wr.heap.size 1 _ _ (0, 0) hP
      have d2 : w2.cell? ⟨wr.heap.size, 2, none⟩ = some (.bool x.inn) := by simpa using cell_of_row w2 wr.heap.size 2 _ _ (0, 0) hP
      have d3 : w2.cell? ⟨wr.heap.size, 3, none⟩ = some (.int .i64 x.dest) := by simpa using cell_of_row w2 wr.heap.size 3 _ _ (0, 0) hP
      have hO := Lib.hid (hbz.out.trans (hbw2.mono (by have := hsz.out; omega)))
      have hO2 := Lib.hid (hbw.out.trans (hbw2.mono hsz.out))
      clear hb2 hbw2 hP hbz hN hbw hb0 hI
      cases hf : fullS x.name
      · have HF : Hid (R = false) := Lib.hid (by rw [HS.out]; unfold portOk; simp [hf])
        clear HS
        go_wp2_with fail
        go_ret
        exact ⟨ret_bool HF.out.symm, hO.out⟩
      · by_cases b1 : x.box < 0
        · have HF : Hid (R = false) := Lib.hid (by rw [HS.out]; unfold portOk; simp [hf, b1])
          clear HS
          go_wp2_with fail
          go_ret
          exact ⟨ret_bool HF.out.symm, hO.out⟩
        · by_cases b2 : x.box ≥ (n.tables.length : Int)
          · have HF : Hid (R = false) := Lib.hid (by rw [HS.out]; unfold portOk; simp [hf, b2])
            clear HS
            go_wp2_with fail
            go_ret
            exact ⟨ret_bool HF.out.symm, hO.out⟩
          · by_cases b3 : x.dest < -1
            · have HF : Hid (R = false) := Lib.hid (by rw [HS.out]; unfold portOk; simp [hf, b3])
              clear HS
              go_wp2_with fail
              go_ret
              exact ⟨ret_bool HF.out.symm, hO.out⟩
            · by_cases b4 : x.dest ≥ (n.ports.length : Int)
              · have HF : Hid (R = false) := Lib.hid (by rw [HS.out]; unfold portOk; simp [hf, b4])
                clear HS
                go_wp2_with fail
                go_ret
                exact ⟨ret_bool HF.out.symm, hO.out⟩
              · by_cases b5 : x.dest ≥ 0
                · have hdl : x.dest.toNat < n.ports.length := by omega
                  obtain ⟨_, c, y, hy, ⟨hc, hys⟩, hj⟩ := SlOf.el hN2.out.p (k := x.dest.toNat) hdl
                  subst hc
                  have f2 : w2.cell? ⟨b, off + x.dest.toNat * 4 + 2, none⟩ = some (.bool y.inn) := hj 2 _ rfl
                  have hIn : Hid (inS n x.dest = y.inn) := Lib.hid (by unfold inS; rw [hy])
                  clear hj
                  cases hi1 : x.inn
                  · cases hi2 : y.inn
                    · have HF : Hid (R = false) := Lib.hid (by rw [HS.out]; unfold portOk; rw [show (decide (x.dest ≥ 0) && (x.inn || !inS n x.dest)) = true by rw [hi1, hIn.out, hi2, decide_eq_true b5]; rfl]; simp)
                      clear HS hIn
                      rw [hi1] at d2
                      rw [hi2] at f2
                      go_wp2_with fail
                      go_ret
                      exact ⟨ret_bool HF.out.symm, hO.out⟩
                    · have HB5 : (decide (x.dest ≥ 0) && (x.inn || !inS n x.dest)) = false := by rw [hi1, hIn.out, hi2]; simp
                      rw [hi1] at d2
                      rw [hi2] at f2
                      clear hIn hy hys
                      have HS2 : Hid (R = (((n.ports.take k).drop 0).all (fun q => !decide (q.name = x.name)) && portsFrom n (k + 1) (n.ports.drop (k + 1)))) := Lib.hid (by
                        rw [HS.out, List.drop_zero]; unfold portOk; rw [hf, decide_eq_false b1, decide_eq_false b2, decide_eq_false (p := x.dest < -1) (by omega), decide_eq_false (p := x.dest ≥ (n.ports.length : Int)) (by omega), HB5]; simp)
                      clear HS HB5
                      go_wp2_with fail
                      clear d1 d2 d3 f2
                      rename_i hqq
                      clear hqq b1 b2 b3 b4 b5 hdl
                      go_loopw [6] (fun j wq => ∃ i : Nat, i ≤ k ∧ j = .int .i64 i ∧ Hid (R = (((n.ports.take k).drop i).all (fun q => !decide (q.name = x.name)) && portsFrom n (k + 1) (n.ports.drop (k + 1)))) ∧ Hid (Qt w2 wq)) (fun j _ => k - (intOf j).toNat)
                      case atStart => exact ⟨0, Nat.zero_le _, rfl, HS2, Lib.hid (Qt.refl _)⟩
                      case round =>
                        obtain ⟨i, hi, rfl, HR2, hq⟩ := hrel
                        clear HS2
                        obtain ⟨m, rfl⟩ := hq.out
                        by_cases hik : i < k
                        · obtain ⟨_, c, z, hz, ⟨hc, hzs⟩, hj⟩ := SlOf.el hN2.out.p (k := i) (by omega)
                          subst hc
                          have f0 : w2.cell? ⟨b, off + i * 4, none⟩ = some (.string z.name) := hj 0 _ rfl
                          clear hj
                          have hz' : (n.ports.take k)[i]? = some z := by rw [List.getElem?_take_of_lt hik]; exact hz
                          have HT : Hid (R = (!decide (z.name = x.name) && ((n.ports.take k).drop (i + 1)).all (fun q => !decide (q.name = x.name)) && portsFrom n (k + 1) (n.ports.drop (k + 1)))) := Lib.hid (by
                            rw [HR2.out, drop_at hz', List.all_cons])
                          clear HR2 hz hz'
                          go_wp2_with fail
                          by_cases he : decide (z.name = x.name) = true
                          · have HF : Hid (R = false) := Lib.hid (by rw [HT.out, he]; rfl)
                            rw [← ba_beq] at he
                            clear HT
                            go_quiet (fail)
                            go_wp2_with fail
                            go_ret
                            exact ⟨ret_bool HF.out.symm, below_drewN (below_drewN hO.out _) _⟩
                          · have he' : decide (z.name = x.name) = false := eq_false_of_ne_true he
                            have HU : Hid (R = (((n.ports.take k).drop (i + 1)).all (fun q => !decide (q.name = x.name)) && portsFrom n (k + 1) (n.ports.drop (k + 1)))) := Lib.hid (by rw [HT.out, he']; rfl)
                            rw [← ba_beq] at he'
                            clear HT he
                            go_quiet (fail)
                            go_wp2_with fail
                            go_roundw
                            case rel => exact ⟨i + 1, by omega, by go_num, HU, Lib.hid (Qt.self _ _)⟩
                            case measure => simp [intOf]; omega
                        · have HU : Hid (R = portsFrom n (k + 1) (n.ports.drop (k + 1))) := Lib.hid (by
                            rw [HR2.out, List.drop_eq_nil_of_le (by rw [List.length_take]; omega)]; rfl)
                          clear HR2
                          go_wp2_with fail
                          go_roundw
                          case rel => exact ⟨k + 1, by omega, by go_num, HU, Lib.hid (below_drewN hO2.out _)⟩
                          case measure => simp [intOf]; omega
                  · have HF : Hid (R = false) := Lib.hid (by rw [HS.out]; unfold portOk; rw [show (decide (x.dest ≥ 0) && (x.inn || !inS n x.dest)) = true by rw [hi1, decide_eq_true b5]; rfl]; simp)
                    clear HS hIn
                    rw [hi1] at d2
                    go_wp2_with fail
                    go_ret
                    exact ⟨ret_bool HF.out.symm, hO.out⟩
                · have HB5 : Hid ((decide (x.dest ≥ 0) && (x.inn || !inS n x.dest)) = false) := Lib.hid (by rw [decide_eq_false b5]; rfl)
                  have HB5 := HB5.out
                  have HS2 : Hid (R = (((n.ports.take k).drop 0).all (fun q => !decide (q.name = x.name)) && portsFrom n (k + 1) (n.ports.drop (k + 1)))) := Lib.hid (by
                    rw [HS.out, List.drop_zero]; unfold portOk; rw [hf, decide_eq_false b1, decide_eq_false b2, decide_eq_false b3, decide_eq_false b4, HB5]; simp)
                  clear HS HB5
                  go_wp2_with fail
                  clear d1 d2 d3
                  go_loopw [6] (fun j wq => ∃ i : Nat, i ≤ k ∧ j = .int .i64 i ∧ Hid (R = (((n.ports.take k).drop i).all (fun q => !decide (q.name = x.name)) && portsFrom n (k + 1) (n.ports.drop (k + 1)))) ∧ Hid (Qt w2 wq)) (fun j _ => k - (intOf j).toNat)
                  case atStart => exact ⟨0, Nat.zero_le _, rfl, HS2, Lib.hid (Qt.refl _)⟩
                  case round =>
                    obtain ⟨i, hi, rfl, HR2, hq⟩ := hrel
                    clear HS2
                    obtain ⟨m, rfl⟩ := hq.out
                    by_cases hik : i < k
                    · obtain ⟨_, c, z, hz, ⟨hc, hzs⟩, hj⟩ := SlOf.el hN2.out.p (k := i) (by omega)
                      subst hc
                      have f0 : w2.cell? ⟨b, off + i * 4, none⟩ = some (.string z.name) := hj 0 _ rfl
                      clear hj
                      have hz' : (n.ports.take k)[i]? = some z := by rw [List.getElem?_take_of_lt hik]; exact hz
                      have HT : Hid (R = (!decide (z.name = x.name) && ((n.ports.take k).drop (i + 1)).all (fun q => !decide (q.name = x.name)) && portsFrom n (k + 1) (n.ports.drop (k + 1)))) := Lib.hid (by
                        rw [HR2.out, drop_at hz', List.all_cons])
                      clear HR2 hz hz'
                      go_wp2_with fail
                      by_cases he : decide (z.name = x.name) = true
                      · have HF : Hid (R = false) := Lib.hid (by rw [HT.out, he]; rfl)
                        rw [← ba_beq] at he
                        clear HT
                        go_quiet (fail)
                        go_wp2_with fail
                        go_ret
                        exact ⟨ret_bool HF.out.symm, below_drewN (below_drewN hO.out _) _⟩
                      · have he' : decide (z.name = x.name) = false := eq_false_of_ne_true he
                        have HU : Hid (R = (((n.ports.take k).drop (i + 1)).all (fun q => !decide (q.name = x.name)) && portsFrom n (k + 1) (n.ports.drop (k + 1)))) := Lib.hid (by rw [HT.out, he']; rfl)
                        rw [← ba_beq] at he'
                        clear HT he
                        go_quiet (fail)
                        go_wp2_with fail
                        go_roundw
                        case rel => exact ⟨i + 1, by omega, by go_num, HU, Lib.hid (Qt.self _ _)⟩
                        case measure => simp [intOf]; omega
                    · have HU : Hid (R = portsFrom n (k + 1) (n.ports.drop (k + 1))) := Lib.hid (by
                        rw [HR2.out, List.drop_eq_nil_of_le (by rw [List.length_take]; omega)]; rfl)
                      clear HR2
                      go_wp2_with fail
                      go_roundw
                      case rel => exact ⟨k + 1, by omega, by go_num, HU, Lib.hid (below_drewN hO2.out _)⟩
                      case measure => simp [intOf]; omega
    · have HS : Hid (R = true) := Lib.hid (by rw [HR.out, drop_end hlt]; rfl)
      clear HR
      go_wp2_with fail
      go_ret
      exact ⟨ret_bool HS.out.symm, hb0.out.trans (hbw.out.mono (by omega))⟩
end Go.Proofs.YtjokciofeicdkaaGreatDoor
