/- Walks: piece (the token at a text's beginning). -/
import Derived.Test.YtjokciofeicdkaaGreatDoorSpeak
namespace Go.Proofs.YtjokciofeicdkaaGreatDoor
open Go.RowKit

def signFrom (s : ByteArray) : List ByteArray → Nat
  | [] => 0
  | g :: r => if g.size ≤ s.size ∧ s.extract 0 g.size = g then g.size else signFrom s r
/-- The token at a text's beginning: the kind, the size, how far off, the error. -/
def pieceS (s : ByteArray) : Int × Int × Int × Int :=
  if classL (bs s) = 5 then nameP (bs s)
  else if classL (bs s) = 6 then
    (match numS (s.extract 0 (numLen (bs s))) with | some _ => q4 4 (numLen (bs s)) 0 0 | none => q4 0 0 0 31)
  else if classL (bs s) = 7 then
    (if patS (bs (s.extract 1 (1 + wordLen (bs (s.extract 1 s.size))))) then q4 5 ((1 : Nat) + wordLen (bs (s.extract 1 s.size)) : Nat) 0 0 else q4 0 0 0 44)
  else if classL (bs s) = 8 then
    (if (speakS s true (s.size + 1) 1 []).2.2 = 0 then
      (if 256 < (speakS s true (s.size + 1) 1 []).1.length then q4 0 0 0 37 else q4 6 (speakS s true (s.size + 1) 1 []).2.1 0 0)
    else q4 0 0 (speakS s true (s.size + 1) 1 []).2.1 (speakS s true (s.size + 1) 1 []).2.2)
  else if signFrom s signsB = 0 then q4 0 0 0 30 else q4 7 (signFrom s signsB) 0 0

def PcPost (w : World) (q : Int × Int × Int × Int) (e : Ending) (w' : World) : Prop := e = .returned (V4 q) ∧ Below w.heap.size w w'
theorem pc_of {w w' : World} {q : Int × Int × Int × Int} {a b c d : Int} (h : q = (a, b, c, d)) (hb : Below w.heap.size w w') :
    PcPost w q (.returned (.tuple #[.int .i64 a, .int .i64 b, .int .i64 c, .int .i64 d])) w' := ⟨ret_V4 h, hb⟩

theorem sign_index (W : World) (k : Nat) (g : ByteArray) (h : signsB[k]? = some g) : (Instr.index 159 (.agg signsA) (.int .i64 k)).run Tryz.prog W = .ok (.string g) W := by
  have hk : k < 16 := (List.getElem?_eq_some_iff.1 h).1
  have hg : g = signsB.getD k ByteArray.empty := by rw [List.getD_eq_getElem?_getD, h]; rfl
  subst hg
  clear h
  have : k = 0 ∨ k = 1 ∨ k = 2 ∨ k = 3 ∨ k = 4 ∨ k = 5 ∨ k = 6 ∨ k = 7 ∨ k = 8 ∨ k = 9 ∨ k = 10 ∨ k = 11 ∨ k = 12 ∨ k = 13 ∨ k = 14 ∨ k = 15 := by omega
  rcases this with rfl | rfl | rfl | rfl | rfl | rfl | rfl | rfl | rfl | rfl | rfl | rfl | rfl | rfl | rfl | rfl <;> (show _ = _; kernel_rfl)
theorem sign_size (k : Nat) (g : ByteArray) (h : signsB[k]? = some g) : 1 ≤ g.size ∧ g.size ≤ 2 := by
  have hk : k < 16 := (List.getElem?_eq_some_iff.1 h).1
  have hg : g = signsB.getD k ByteArray.empty := by rw [List.getD_eq_getElem?_getD, h]; rfl
  subst hg
  clear h
  have : k = 0 ∨ k = 1 ∨ k = 2 ∨ k = 3 ∨ k = 4 ∨ k = 5 ∨ k = 6 ∨ k = 7 ∨ k = 8 ∨ k = 9 ∨ k = 10 ∨ k = 11 ∨ k = 12 ∨ k = 13 ∨ k = 14 ∨ k = 15 := by omega
  rcases this with rfl | rfl | rfl | rfl | rfl | rfl | rfl | rfl | rfl | rfl | rfl | rfl | rfl | rfl | rfl | rfl <;> decide

set_option maxHeartbeats 1600000 in
set_option maxRecDepth 100000 in
theorem piece_any (s : ByteArray) (h1 : 1 ≤ s.size) (hs : s.size < 4294967281) (w : World) (E : Env w) :
    Calls Tryz.prog 61 #[.string s] w fun e w' => PcPost w (pieceS s) e w' := by
  have c0 := Lib.hid (classOf_any s 0 w (by omega) (by omega) (by omega))
  rw [show (bs s).drop (0 : Int).toNat = bs s from rfl] at c0
  have HE := Lib.hid E
  clear E
  by_cases k5 : classL (bs s) = 5
  · have H := Lib.hid (show pieceS s = nameP (bs s) by unfold pieceS; rw [if_pos k5])
    have c1 := Lib.hid (scan_name_any s w (by omega))
    rw [k5] at c0
    rw [H.out]
    clear H k5
    generalize nameP (bs s) = q at *
    obtain ⟨a, b, c, d⟩ := q
    go_enter Tryz.func61, Tryz.ntmps61
    go_wp2_with fail
    refine c0.out.mono ?_
    rintro e w1 ⟨rfl, rfl⟩
    go_wp2_with fail
    refine c1.out.mono ?_
    rintro e w1 ⟨rfl, rfl⟩
    unfold V4
    go_wp2_with fail
    ((try simp only [Exit.inBlock, Exit.then]); refine bodyPost_ret (results4 rfl _ _ _) rfl ?_)
    exact pc_of rfl (Below.refl _ _)
  by_cases k6 : classL (bs s) = 6
  · have H := Lib.hid (show pieceS s = match numS (s.extract 0 (numLen (bs s))) with | some _ => q4 4 (numLen (bs s)) 0 0 | none => q4 0 0 0 31 by unfold pieceS; rw [if_neg k5, if_pos k6])
    have c1 := Lib.hid (numberRun_any s w (by omega))
    have hle : numLen (bs s) ≤ s.size := numLen_le (bs s)
    rw [k6] at c0
    have hx := size_extract_le s 0 (numLen (bs s))
    have c2 := Lib.hid (fun w E => number_any (s.extract 0 (numLen (bs s))) (by omega) w E)
    clear k5 k6 hx
    generalize numLen (bs s) = n at *
    generalize numS (s.extract 0 n) = o at *
    go_enter Tryz.func61, Tryz.ntmps61
    go_wp2_with fail
    refine c0.out.mono ?_
    rintro e w1 ⟨rfl, rfl⟩
    go_wp2_with fail
    refine c1.out.mono ?_
    rintro e w1 ⟨rfl, rfl⟩
    go_wp2_with fail
    refine (c2.out _ HE.out).mono ?_
    rintro e w2 ⟨rfl, hb⟩
    cases o with
    | some v =>
      unfold optT
      dsimp only [Option.getD_some, Option.isSome_some]
      have H := Lib.hid (show pieceS s = q4 4 n 0 0 from H.out)
      go_wp2_with fail
      ((try simp only [Exit.inBlock, Exit.then]); refine bodyPost_ret (results4 rfl _ _ _) rfl ?_)
      exact pc_of H.out hb
    | none =>
      unfold optT
      dsimp only [Option.getD_none, Option.isSome_none]
      have H := Lib.hid (show pieceS s = q4 0 0 0 31 from H.out)
      go_wp2_with fail
      ((try simp only [Exit.inBlock, Exit.then]); refine bodyPost_ret (results4 rfl _ _ _) rfl ?_)
      exact pc_of H.out hb
  by_cases k7 : classL (bs s) = 7
  · have H := Lib.hid (show pieceS s = if patS (bs (s.extract 1 (1 + wordLen (bs (s.extract 1 s.size))))) then q4 5 ((1 : Nat) + wordLen (bs (s.extract 1 s.size)) : Nat) 0 0 else q4 0 0 0 44 by
      unfold pieceS; rw [if_neg k5, if_neg k6, if_pos k7])
    have hx1 := size_extract_le s 1 s.size
    have hx3 : (s.extract 1 s.size).size = s.size - 1 := by rw [ByteArray.size_extract]; omega
    have c1 := Lib.hid (wordRun_any (s.extract 1 s.size) w (by omega))
    have hle : wordLen (bs (s.extract 1 s.size)) ≤ s.size - 1 := by
      have := wordLen_le (bs (s.extract 1 s.size)); rw [bs_length] at this; omega
    rw [k7] at c0
    clear k5 k6 k7 hx3
    generalize wordLen (bs (s.extract 1 s.size)) = n at *
    have hx2 := size_extract_le s 1 (1 + n)
    have c2 := Lib.hid (fun w => pattern_any (s.extract 1 (1 + n)) (by omega) w)
    generalize patS (bs (s.extract 1 (1 + n))) = b at *
    clear hx1 hx2
    go_enter Tryz.func61, Tryz.ntmps61
    go_wp2_with fail
    refine c0.out.mono ?_
    rintro e w1 ⟨rfl, rfl⟩
    go_wp2_with fail
    refine c1.out.mono ?_
    rintro e w1 ⟨rfl, rfl⟩
    go_wp2_with fail
    refine (c2.out _).mono ?_
    rintro e w2 ⟨rfl, hb⟩
    cases b with
    | true =>
      have H := Lib.hid (show pieceS s = q4 5 ((1 + n : Nat)) 0 0 from H.out)
      go_wp2_with fail
      ((try simp only [Exit.inBlock, Exit.then]); refine bodyPost_ret (results4 rfl _ _ _) rfl ?_)
      exact pc_of (by rw [H.out]; simp) hb
    | false =>
      have H := Lib.hid (show pieceS s = q4 0 0 0 44 from H.out)
      go_wp2_with fail
      ((try simp only [Exit.inBlock, Exit.then]); refine bodyPost_ret (results4 rfl _ _ _) rfl ?_)
      exact pc_of H.out hb
  by_cases k8 : classL (bs s) = 8
  · have H := Lib.hid (show pieceS s = if (speakS s true (s.size + 1) 1 []).2.2 = 0 then
        (if 256 < (speakS s true (s.size + 1) 1 []).1.length then q4 0 0 0 37 else q4 6 (speakS s true (s.size + 1) 1 []).2.1 0 0)
      else q4 0 0 (speakS s true (s.size + 1) 1 []).2.1 (speakS s true (s.size + 1) 1 []).2.2 by
      unfold pieceS; rw [if_neg k5, if_neg k6, if_neg k7, if_pos k8])
    have c1 := Lib.hid (fun w E => speak_any s true h1 hs w E)
    rw [k8] at c0
    clear k5 k6 k7 k8
    generalize speakS s true (s.size + 1) 1 [] = R at *
    obtain ⟨sd, en, code⟩ := R
    dsimp only at H
    have hl0 : (0 : Int) ≤ (sd.length : Int) := by omega
    go_enter Tryz.func61, Tryz.ntmps61
    go_wp2_with fail
    refine c0.out.mono ?_
    rintro e w1 ⟨rfl, rfl⟩
    go_wp2_with fail
    refine (c1.out _ HE.out).mono ?_
    rintro e w2 ⟨sv, rfl, hown, hb⟩
    dsimp only at hown
    by_cases hc : code = 0
    · have H2 := Lib.hid (H.out.trans (if_pos hc))
      subst hc
      clear H
      have hform : ∃ A cap, sv = .slice A sd.length cap := by
        rcases hown.2 with ⟨rfl, h0⟩ | ⟨g, cap, cur, rfl, _⟩
        · exact ⟨none, 0, by rw [h0]⟩
        · exact ⟨_, cap, rfl⟩
      obtain ⟨A, cap, rfl⟩ := hform
      have hown := Lib.hid hown
      by_cases h256 : 256 < sd.length
      · have H := Lib.hid (H2.out.trans (if_pos h256))
        go_wp2_with fail
        ((try simp only [Exit.inBlock, Exit.then]); refine bodyPost_ret (results4 rfl _ _ _) rfl ?_)
        exact pc_of H.out hb
      · have H := Lib.hid (H2.out.trans (if_neg h256))
        go_wp2_with fail
        ((try simp only [Exit.inBlock, Exit.then]); refine bodyPost_ret (results4 rfl _ _ _) rfl ?_)
        exact pc_of H.out hb
    · have H := Lib.hid (H.out.trans (if_neg hc))
      have hc' : (code != 0) = true := by rw [bne_iff_ne]; exact hc
      have hown := Lib.hid hown
      go_wp2_with fail
      ((try simp only [Exit.inBlock, Exit.then]); refine bodyPost_ret (results4 rfl _ _ _) rfl ?_)
      exact pc_of H.out hb
  have H := Lib.hid (show pieceS s = if signFrom s signsB = 0 then q4 0 0 0 30 else q4 7 (signFrom s signsB) 0 0 by
    unfold pieceS; rw [if_neg k5, if_neg k6, if_neg k7, if_neg k8])
  have b5 : (classL (bs s) == 5) = false := beq_eq_false_iff_ne.2 k5
  have b6 : (classL (bs s) == 6) = false := beq_eq_false_iff_ne.2 k6
  have b7 : (classL (bs s) == 7) = false := beq_eq_false_iff_ne.2 k7
  have b8 : (classL (bs s) == 8) = false := beq_eq_false_iff_ne.2 k8
  clear k5 k6 k7 k8
  generalize classL (bs s) = q at *
  obtain ⟨tt, fr, hg⟩ := HE.out.signs
  have hidx := Lib.hid sign_index
  obtain ⟨SA, hSA⟩ : ∃ SA, SA = signsA := ⟨_, rfl⟩
  have hinfo : (Tryz.prog.info? 159).map (·.size) = some SA.size := by rw [hSA]; kernel_rfl
  rw [← hSA] at hg hidx
  have hinfo := Lib.hid hinfo
  have hg := Lib.hid hg
  clear hSA
  go_enter Tryz.func61, Tryz.ntmps61
  go_wp2_with fail
  refine c0.out.mono ?_
  rintro e w1 ⟨rfl, rfl⟩
  go_wp2_with (refine wpList_load_row rfl 159 _ rfl 2 rfl tt SA fr _ hg.out Tryz.underlying159 rfl hinfo.out ?_)
  go_loop [66] (fun i => ∃ k : Nat, k ≤ 16 ∧ i = .int .i64 k ∧ Hid (signFrom s signsB = signFrom s (signsB.drop k))) (fun i => 16 - (intOf i).toNat)
  case atStart => exact ⟨0, by omega, rfl, Lib.hid rfl⟩
  case round =>
    obtain ⟨k, hk, rfl, hr⟩ := hrel
    by_cases hlt : k < 16
    · obtain ⟨g, hgk⟩ : ∃ g, signsB[k]? = some g := ⟨_, List.getElem?_eq_getElem (show k < signsB.length from hlt)⟩
      have hix := fun W => hidx.out W k g hgk
      obtain ⟨hg1, hg2⟩ := sign_size k g hgk
      have hr2 := Lib.hid (hr.out.trans (show signFrom s (signsB.drop k) = if g.size ≤ s.size ∧ s.extract 0 g.size = g then g.size else signFrom s (signsB.drop (k + 1)) by rw [drop_at hgk]; rfl))
      clear hr hgk
      by_cases hge : g.size ≤ s.size
      · by_cases heq : s.extract 0 g.size = g
        · have hr3 := Lib.hid (hr2.out.trans (if_pos ⟨hge, heq⟩))
          have H2 := Lib.hid (show pieceS s = q4 7 g.size 0 0 by rw [H.out, if_neg (by rw [hr3.out]; omega), hr3.out])
          have be : ((s.extract 0 g.size).toList == g.toList) = true := by rw [heq]; simp
          have heq := Lib.hid heq
          clear H hr2
          go_wp2_with fail
          ((try simp only [Exit.inBlock, Exit.then]); refine bodyPost_ret (results4 rfl _ _ _) rfl ?_)
          exact pc_of H2.out (Below.refl _ _)
        · have hr3 := Lib.hid (hr2.out.trans (if_neg (fun h => heq h.2)))
          have be : ((s.extract 0 g.size).toList == g.toList) = false := by
            rw [beq_eq_false_iff_ne]
            intro h
            apply heq
            rw [ByteArray.toList_eq, ByteArray.toList_eq] at h
            exact WideShapes.bytes_inj h
          clear H hr2 heq
          go_wp2_with fail
          go_round
          case rel => exact ⟨k + 1, by omega, by go_num, hr3⟩
          case measure => simp [intOf]; omega
      · have hr3 := Lib.hid (hr2.out.trans (if_neg (fun h => hge h.1)))
        clear H hr2
        go_wp2_with fail
        go_round
        case rel => exact ⟨k + 1, by omega, by go_num, hr3⟩
        case measure => simp [intOf]; omega
    · have H2 := Lib.hid (show pieceS s = q4 0 0 0 30 by
        rw [H.out, if_pos]
        rw [hr.out, drop_end (show ¬ k < signsB.length from hlt)]; rfl)
      clear H hr
      go_wp2_with fail
      ((try simp only [Exit.inBlock, Exit.then]); refine bodyPost_ret (results4 rfl _ _ _) rfl ?_)
      exact pc_of H2.out (Below.refl _ _)
end Go.Proofs.YtjokciofeicdkaaGreatDoor
