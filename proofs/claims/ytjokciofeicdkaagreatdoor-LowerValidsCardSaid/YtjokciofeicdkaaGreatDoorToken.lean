/- Walks: lower.token. -/
import Derived.Test.YtjokciofeicdkaaGreatDoorScan
import Derived.Test.YtjokciofeicdkaaGreatDoorRunS
import Derived.Test.YtjokciofeicdkaaGreatDoorNet
import Derived.Lib.SmallJoins
namespace Go.Proofs.YtjokciofeicdkaaGreatDoor
open Go.RowKit

set_option maxHeartbeats 2000000 in
set_option maxRecDepth 100000 in
theorem token_any (s : ByteArray) (w : World) (hs : s.size ≤ 140737488355328) (E : Env w) :
    Calls Tryz.prog 35 #[.string s] w fun e w' => e = .returned (.bool (tokS s)) ∧ Below w.heap.size w w' := by
  by_cases h1 : 49 < s.size
  · have HF : Hid (tokS s = false) := Lib.hid (by unfold tokS; rw [decide_eq_false (by omega)]; simp)
    have h1' : (s.size : Int) > 49 := by omega
    clear h1 E
    go_enter Tryz.func35, Tryz.ntmps35
    go_wp2_with fail
    go_ret
    exact ⟨ret_bool HF.out.symm, Below.refl _ _⟩
  have h1' : ¬ (s.size : Int) > 49 := by omega
  have HT : Hid (tokS s = ((Lib.trimSpaceD (bs s) == bs s) && !decide (0 ≤ Lib.indexByte (bs s) 35) &&
    ((runS s (s.size + 1) ⟨0, 1, 1, false, 0, []⟩).1 == 0 && ((runS s (s.size + 1) ⟨0, 1, 1, false, 0, []⟩).2.n == 2 &&
      (tokKind (runS s (s.size + 1) ⟨0, 1, 1, false, 0, []⟩).2.toks == 3 && bs (tokText (runS s (s.size + 1) ⟨0, 1, 1, false, 0, []⟩).2.toks) == bs s))))) := Lib.hid (by
    unfold tokS; rw [decide_eq_true (by omega), Bool.true_and])
  generalize tokS s = R at *
  have hE := Lib.hid E
  have c1 := Lib.hid (Tryz.strings_TrimSpace_any s w (by omega) hE.out.asp hE.out.u8 hE.out.ws)
  obtain ⟨u, hu⟩ : ∃ u, u = (⟨(Lib.trimSpaceD s.data.toList).toArray⟩ : ByteArray) := ⟨_, rfl⟩
  rw [← hu] at c1
  have hub : Hid (bs u = Lib.trimSpaceD (bs s)) := Lib.hid (by rw [hu]; rfl)
  rw [← hub.out] at HT
  have c2 : Hid (∀ w, Calls Tryz.prog 55 #[.string s, .string ⟨#[35]⟩] w fun e w' => e = .returned (.bool (decide (0 ≤ Lib.indexByte (bs s) 35))) ∧ w = w') := Lib.hid fun w => (Tryz.strings_Contains_one s 35 w).mono fun _ _ h => ⟨h.1, h.2.symm⟩
  have c3 : Hid (∀ w, Env w → Calls Tryz.prog 25 #[.string s] w fun e w' => ScanPost w (scanS s) e w') := Lib.hid fun w E => Scan_any s w (by omega) E
  have hF := Lib.hid (runS_first s (s.size + 1) ⟨0, 1, 1, false, 0, []⟩ rfl rfl rfl)
  have hS : Hid (scanS s = if (runS s (s.size + 1) ⟨0, 1, 1, false, 0, []⟩).1 = 0 then
      ⟨(runS s (s.size + 1) ⟨0, 1, 1, false, 0, []⟩).2.n, (runS s (s.size + 1) ⟨0, 1, 1, false, 0, []⟩).2.toks, 0, 0, 0⟩
    else ⟨0, [], (runS s (s.size + 1) ⟨0, 1, 1, false, 0, []⟩).1, (runS s (s.size + 1) ⟨0, 1, 1, false, 0, []⟩).2.line, (runS s (s.size + 1) ⟨0, 1, 1, false, 0, []⟩).2.col⟩) := Lib.hid (by unfold scanS; rw [if_neg (by omega)])
  generalize decide (0 ≤ Lib.indexByte (bs s) 35) = qh at *
  generalize runS s (s.size + 1) ⟨0, 1, 1, false, 0, []⟩ = rr at *
  obtain ⟨code, m⟩ := rr
  dsimp only at HT hF hS
  clear hu E h1
  go_enter Tryz.func35, Tryz.ntmps35
  go_wp2_with fail
  refine c1.out.mono ?_
  rintro e w1 ⟨rfl, hb1⟩
  have hE1 := Lib.hid (hE.out.below hb1)
  have hb1 := Lib.hid hb1
  clear c1 hE
  by_cases hus : u = s
  · subst hus
    have HT2 := Lib.hid (HT.out.trans (by rw [beq_self_eq_true, Bool.true_and]))
    clear HT
    go_wp2_with fail
    refine (c2.out _).mono ?_
    rintro e w2 ⟨rfl, rfl⟩
    clear c2
    cases qh
    · go_wp2_with fail
      refine (c3.out _ hE1.out).mono ?_
      rintro e w2 ⟨v, rfl, hO, hb2, hn⟩
      have hb3 := Lib.hid (hb1.out.trans (hb2.mono hb1.out.size))
      clear c3 hE1 hb1 hb2
      have HT3 := Lib.hid (HT2.out.trans (by rw [Bool.not_false, Bool.true_and]))
      clear HT2
      by_cases hc : code = 0
      · subst hc
        rw [hS.out, if_pos rfl] at hO
        rw [hS.out, if_pos rfl]
        dsimp only at hO ⊢
        have HT4 := Lib.hid (HT3.out.trans (by rw [beq_self_eq_true, Bool.true_and]))
        clear HT3 hS hn
        by_cases hn : m.n = 2
        · rcases hF.out with ⟨_, h0⟩ | ⟨p, line, col, rest, _, _, htoks⟩
          · omega
          rcases Go.Joins.ownsRow_forms hO with ⟨_, h0⟩ | ⟨g, cap, rfl⟩
          · omega
          rw [hn] at hO
          rw [htoks] at hO HT4
          have HT5 := Lib.hid (HT4.out.trans (by rw [hn, beq_self_eq_true, Bool.true_and]))
          have k0 := hO.cellAt 0 (by omega)
          have k1 := hO.cellAt 1 (by omega)
          simp only [tokC, List.cons_append, List.getElem?_cons_zero, List.getElem?_cons_succ] at k0 k1
          simp only [tokC, List.cons_append, tokKind, tokText] at HT5
          rw [hn]
          generalize (pieceS (u.extract p u.size)).1 = kd at *
          generalize u.extract p (p + (pieceS (u.extract p u.size)).2.1.toNat) = tx at *
          have HT6 := Lib.hid HT5
          clear HT4 HT5 hO htoks hF hn
          by_cases hk : kd = 3
          · subst hk
            by_cases he : tx = u
            · subst he
              have HF : Hid (R = true) := Lib.hid (by rw [HT6.out]; simp)
              clear HT6
              go_wp2_with fail
              go_ret
              exact ⟨ret_bool HF.out.symm, hb3.out⟩
            · have HF : Hid (R = false) := Lib.hid (by
                rw [HT6.out, show (bs tx == bs u) = false from beq_eq_false_iff_ne.2 (fun h => he (WideShapes.bytes_inj h))]; rfl)
              have he' : (tx.toList == u.toList) = false := by rw [ba_beq]; exact decide_eq_false he
              clear HT6 he
              go_wp2_with fail
              go_ret
              exact ⟨ret_bool HF.out.symm, hb3.out⟩
          · have hk' : (kd == 3) = false := by simpa using hk
            have HF : Hid (R = false) := Lib.hid (by rw [HT6.out, hk']; rfl)
            clear HT6 hk
            go_wp2_with fail
            go_ret
            exact ⟨ret_bool HF.out.symm, hb3.out⟩
        · have HF : Hid (R = false) := Lib.hid (by rw [HT4.out, show (m.n == 2) = false from beq_eq_false_iff_ne.2 hn]; rfl)
          have hn' : ((m.n : Int) == 2) = false := by simp; omega
          rcases Go.Joins.ownsRow_forms hO with ⟨rfl, h0⟩ | ⟨g, cap, rfl⟩
          · clear HT4 hO hF hn
            go_wp2_with fail
            go_ret
            exact ⟨ret_bool HF.out.symm, hb3.out⟩
          · clear HT4 hO hF hn
            go_wp2_with fail
            go_ret
            exact ⟨ret_bool HF.out.symm, hb3.out⟩
      · have hc' : (code == 0) = false := by simpa using hc
        have HF : Hid (R = false) := Lib.hid (by rw [HT3.out, hc']; rfl)
        rw [hS.out, if_neg hc]
        dsimp only
        clear HT3 hS hn hF hO hc
        go_wp2_with fail
        go_ret
        exact ⟨ret_bool HF.out.symm, hb3.out⟩
    · have HF : Hid (R = false) := Lib.hid (by rw [HT2.out]; rfl)
      clear HT2 hF hS
      go_wp2_with fail
      go_ret
      exact ⟨ret_bool HF.out.symm, hb1.out⟩
  · have HF : Hid (R = false) := Lib.hid (by
      rw [HT.out, show (bs u == bs s) = false from beq_eq_false_iff_ne.2 (fun h => hus (WideShapes.bytes_inj h))]; rfl)
    have hus' : (u.toList != s.toList) = true := by
      unfold bne; rw [ba_beq, decide_eq_false hus]; rfl
    have hus2 : (u.toList == s.toList) = false := by rw [ba_beq]; exact decide_eq_false hus
    clear HT hF hS hus
    go_wp2_with fail
    go_ret
    exact ⟨ret_bool HF.out.symm, hb1.out⟩
end Go.Proofs.YtjokciofeicdkaaGreatDoor
