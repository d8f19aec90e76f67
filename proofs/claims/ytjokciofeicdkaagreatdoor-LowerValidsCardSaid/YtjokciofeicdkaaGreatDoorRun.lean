/- Walks: the scanner's machine runs. -/
import Derived.Test.YtjokciofeicdkaaGreatDoorRunS
import Derived.Test.YtjokciofeicdkaaGreatDoorSpeakS
namespace Go.Proofs.YtjokciofeicdkaaGreatDoor
open Go.RowKit
attribute [local go_sem ↓] Go.wp_at_zero Go.wp_at_succ

def cls : Nat → Int
  | 0 => 1
  | 1 => 3
  | 2 => 2
  | 3 => 4
  | _ => 0
def RunJ (s : ByteArray) (M : Nat) (w0 : World) (R : Int × Sc) (l : Nat) : Act → World → Prop := fun a' w' =>
  ∃ (k : Nat) (m : Sc) (v : Value) (f : Nat → Value),
    a' = { tmps := #[.pointer (some ⟨M, 0, none⟩), f 1, f 2, f 3, f 4, f 5, f 6, f 7, f 8, f 9, f 10, f 11, f 12, f 13, f 14, f 15, f 16, f 17, f 18, f 19, f 20, f 21, f 22, f 23, f 24, f 25, f 26, f 27, f 28, f 29, f 30, f 31, f 32, f 33, f 34, f 35, f 36, f 37, f 38, f 39, f 40, f 41, f 42, f 43, f 44, f 45, f 46, f 47, f 48, f 49, f 50, f 51, f 52, f 53, f 54, f 55, f 56, f 57, f 58, f 59, f 60, f 61, f 62, f 63, f 64, f 65, f 66, f 67, f 68, f 69, f 70, f 71, f 72, f 73, f 74, f 75, f 76, f 77, f 78, f 79, f 80, f 81, f 82, f 83, f 84, f 85], defers := [] } ∧
    Hid (MachAt w' M ⟨s, m.pos, m.line, m.col, m.opn, v⟩) ∧ Hid (w'.ownsRow (M + 1) 76 4 v m.n m.toks) ∧ m.Ok s ∧ s.size < m.pos + k ∧ Hid (R = runS s k m) ∧
    Hid (Env w') ∧ Hid (Below M w0 w') ∧ (l = 0 ∨ l = 1 ∨ l = 2 ∨ l = 3 ∨ l = 4) ∧ Hid (l ≠ 4 → classL ((bs s).drop m.pos) = cls l)
theorem runJ_mk {s : ByteArray} {M : Nat} {w0 w' : World} {R : Int × Sc} (l k : Nat) (m : Sc) (v : Value) {x1 x2 x3 x4 x5 x6 x7 x8 x9 x10 x11 x12 x13 x14 x15 x16 x17 x18 x19 x20 x21 x22 x23 x24 x25 x26 x27 x28 x29 x30 x31 x32 x33 x34 x35 x36 x37 x38 x39 x40 x41 x42 x43 x44 x45 x46 x47 x48 x49 x50 x51 x52 x53 x54 x55 x56 x57 x58 x59 x60 x61 x62 x63 x64 x65 x66 x67 x68 x69 x70 x71 x72 x73 x74 x75 x76 x77 x78 x79 x80 x81 x82 x83 x84 x85 : Value}
    (hM : Hid (MachAt w' M ⟨s, m.pos, m.line, m.col, m.opn, v⟩)) (hO : Hid (w'.ownsRow (M + 1) 76 4 v m.n m.toks)) (hok : m.Ok s) (hk : s.size < m.pos + k) (hR : Hid (R = runS s k m))
    (hE : Hid (Env w')) (hB : Hid (Below M w0 w')) (hl : l = 0 ∨ l = 1 ∨ l = 2 ∨ l = 3 ∨ l = 4) (hc : Hid (l ≠ 4 → classL ((bs s).drop m.pos) = cls l)) :
    RunJ s M w0 R l { tmps := #[.pointer (some ⟨M, 0, none⟩), x1, x2, x3, x4, x5, x6, x7, x8, x9, x10, x11, x12, x13, x14, x15, x16, x17, x18, x19, x20, x21, x22, x23, x24, x25, x26, x27, x28, x29, x30, x31, x32, x33, x34, x35, x36, x37, x38, x39, x40, x41, x42, x43, x44, x45, x46, x47, x48, x49, x50, x51, x52, x53, x54, x55, x56, x57, x58, x59, x60, x61, x62, x63, x64, x65, x66, x67, x68, x69, x70, x71, x72, x73, x74, x75, x76, x77, x78, x79, x80, x81, x82, x83, x84, x85], defers := [] } w' :=
  ⟨k, m, v, fun i => (#[.pointer (some ⟨M, 0, none⟩), x1, x2, x3, x4, x5, x6, x7, x8, x9, x10, x11, x12, x13, x14, x15, x16, x17, x18, x19, x20, x21, x22, x23, x24, x25, x26, x27, x28, x29, x30, x31, x32, x33, x34, x35, x36, x37, x38, x39, x40, x41, x42, x43, x44, x45, x46, x47, x48, x49, x50, x51, x52, x53, x54, x55, x56, x57, x58, x59, x60, x61, x62, x63, x64, x65, x66, x67, x68, x69, x70, x71, x72, x73, x74, x75, x76, x77, x78, x79, x80, x81, x82, x83, x84, x85] : Array Value).getD i undef, rfl, hM, hO, hok, hk, hR, hE, hB, hl, hc⟩
def runMu (s : ByteArray) (M : Nat) (l : Nat) (w : World) : Nat := 2 * (s.size + 1 - (intOf ((w.cell? ⟨M, 1, none⟩).getD undef)).toNat) + if l = 4 then 1 else 0
theorem runMu_of (s : ByteArray) (M l : Nat) (w : World) (m : Mach) (h : MachAt w M m) : runMu s M l w = 2 * (s.size + 1 - m.pos) + if l = 4 then 1 else 0 := by
  unfold runMu; rw [h.c1]; rfl

theorem own_fwd {w w' : World} {M n : Nat} {v : Value} {xs : List Value} (h : w.ownsRow (M + 1) 76 4 v n xs) (hg : w.grownBy w' (some M)) : w'.ownsRow (M + 1) 76 4 v n xs := by
  refine own_heap h (fun k hk => hg.block k (h.lt k hk).2 (fun e => ?_))
  have h1 := (h.lt k hk).1
  injection e with e
  omega
theorem lineLen_at (s : ByteArray) (k : Nat) (h : k < s.size) : lineLen ((bs s).drop k) = if s[k].toNat = 10 then 0 else lineLen ((bs s).drop (k + 1)) + 1 := by
  rw [bs_drop s k h]; rfl
theorem lineLen_end (s : ByteArray) (k : Nat) (h : s.size ≤ k) : lineLen ((bs s).drop k) = 0 := by rw [bs_drop_end s k (by omega)]; rfl
def RunPost (s : ByteArray) (M : Nat) (w : World) (R : Int × Sc) (e : Ending) (w' : World) : Prop :=
  e = .returned (.int .i64 R.1) ∧ ∃ v, MachAt w' M ⟨s, R.2.pos, R.2.line, R.2.col, R.2.opn, v⟩ ∧ w'.ownsRow (M + 1) 76 4 v R.2.n R.2.toks ∧ Below M w w' ∧ R.2.n ≤ 2 * s.size + 1

set_option maxHeartbeats 2000000 in
set_option maxRecDepth 100000 in
theorem run_any (s : ByteArray) (M : Nat) (w : World) (hm : MachAt w M ⟨s, 0, 1, 1, false, .slice none 0 0⟩) (hs : s.size ≤ 2147483647) (E : ∀ w', Below M w w' → Env w') :
    Calls Tryz.prog 45 #[.pointer (some ⟨M, 0, none⟩)] w fun e w' => RunPost s M w (runS s (s.size + 1) ⟨0, 1, 1, false, 0, []⟩) e w' := by
  obtain ⟨R, hR⟩ : ∃ R, R = runS s (s.size + 1) ⟨0, 1, 1, false, 0, []⟩ := ⟨_, rfl⟩
  rw [← hR]
  have hR0 := Lib.hid hR
  have hM0 := Lib.hid hm
  have EE := Lib.hid E
  clear hR hm E
  go_enter Tryz.func45, Tryz.ntmps45
  go_wp2_with fail
  refine wp_scope_many2 (RunJ s M w R) (fun l _ w' => runMu s M l w') ?_ ?_
  · rintro l a' w' ⟨k, m, v, f, rfl, hM, hO, hok, hk, hR, hE, hB, hl, hc⟩
    have hpos := hok.pos
    have hmu := Lib.hid (runMu_of s M l w' _ hM.out)
    have q0 := hM.out.c0
    have q1 := hM.out.c1
    dsimp only at q0 q1
    have hpz : (m.pos : Int) ≤ (s.size : Int) := by omega
    have hp0 : (0 : Int) ≤ (m.pos : Int) := by omega
    rcases hl with rfl | rfl | rfl | rfl | rfl
    case' inr.inr.inr.inr =>
      refine ⟨_, rfl, ?_⟩
      have c0 := Lib.hid (fun W => classOf_any s m.pos W (by omega) (by omega) (by omega))
      simp only [Int.toNat_natCast] at c0
      clear hc
      obtain ⟨q, hq⟩ : ∃ q, q = classL ((bs s).drop m.pos) := ⟨_, rfl⟩
      rw [← hq] at c0
      go_wp2_with fail
      go_region_held3 (fun W => W.cell? ⟨M, 0, none⟩ = some (.string s) ∧ W.cell? ⟨M, 1, none⟩ = some (.int .i64 m.pos)) (first | exact hHeld | go_keep) ((go_at_call 60; refine (c0.out _).mono ?_; rintro e w1 ⟨rfl, rfl⟩))
      (try clear hHeld)
      clear c0 q0 q1
      have hM : Hid (MachAt w'.drew M ⟨s, m.pos, m.line, m.col, m.opn, v⟩) := hM
      have hO : Hid (w'.drew.ownsRow (M + 1) 76 4 v m.n m.toks) := Lib.hid hO.out.drew
      have hE : Hid (Env w'.drew) := Lib.hid (hE.out.drewN 1)
      have hB : Hid (Below M w w'.drew) := Lib.hid hB.out.drew
      have hmu2 : Hid (∀ l', l' ≠ 4 → runMu s M l' w'.drew < runMu s M 4 w') := Lib.hid (fun l' hl' => by
        rw [runMu_of s M l' _ _ hM.out, hmu.out, if_neg hl']; simp)
      generalize w'.drew = W at *
      by_cases h1 : q = 1
      · subst h1
        go_wp2_with fail
        go_step3
        (try simp only [Exit.jumps])
        exact ⟨runJ_mk _ k m v hM hO hok hk hR hE hB (by decide) (Lib.hid (fun _ => hq.symm)), hmu2.out _ (by decide)⟩
      by_cases h3 : q = 3
      · subst h3
        go_wp2_with fail
        go_step3
        (try simp only [Exit.jumps])
        exact ⟨runJ_mk _ k m v hM hO hok hk hR hE hB (by decide) (Lib.hid (fun _ => hq.symm)), hmu2.out _ (by decide)⟩
      by_cases h2 : q = 2
      · subst h2
        go_wp2_with fail
        go_step3
        (try simp only [Exit.jumps])
        exact ⟨runJ_mk _ k m v hM hO hok hk hR hE hB (by decide) (Lib.hid (fun _ => hq.symm)), hmu2.out _ (by decide)⟩
      by_cases h4 : q = 4
      · subst h4
        go_wp2_with fail
        go_step3
        (try simp only [Exit.jumps])
        exact ⟨runJ_mk _ k m v hM hO hok hk hR hE hB (by decide) (Lib.hid (fun _ => hq.symm)), hmu2.out _ (by decide)⟩
      obtain ⟨kd, cd, sz, off, hpc, hsz, hoff, hsz1⟩ := pieceS_le (s.extract m.pos s.size) (by
        have : m.pos ≠ s.size := fun e => h1 (hq.trans ((classL_end s m.pos hpos).2 e))
        rw [ByteArray.size_extract]; omega)
      have hxs : (s.extract m.pos s.size).size = s.size - m.pos := by rw [ByteArray.size_extract]; omega
      rw [hxs] at hsz hoff
      have hlt : m.pos < s.size := by
        have : m.pos ≠ s.size := fun e => h1 (hq.trans ((classL_end s m.pos hpos).2 e))
        omega
      have c1 : Hid (∀ W, Env W → Calls Tryz.prog 61 #[.string (s.extract m.pos s.size)] W fun e w' => e = .returned (.tuple #[.int .i64 kd, .int .i64 sz, .int .i64 off, .int .i64 cd]) ∧ Below W.heap.size W w') :=
        Lib.hid (fun W E => (piece_any (s.extract m.pos s.size) (by omega) (by omega) W E).mono fun e w' h => by rw [hpc] at h; exact h)
      have hR : Hid (R = if cd = 0 then runS s (k - 1) (m.put s kd sz) else (cd, m.fwd s off)) := Lib.hid (by
        rw [hR.out]
        obtain ⟨k', rfl⟩ : ∃ k', k = k' + 1 := ⟨k - 1, by omega⟩
        conv => lhs; unfold runS
        rw [← hq, if_neg h1, if_neg h3, if_neg h2, if_neg h4, hpc]
        rfl)
      have hMl := hM.out.lt
      have q0 := hM.out.c0
      have q1 := hM.out.c1
      dsimp only at q0 q1
      clear hmu2 hpc hxs
      have hh1 := Lib.hid h1
      have hh2 := Lib.hid h2
      have hh3 := Lib.hid h3
      have hh4 := Lib.hid h4
      have e1 : (q == 1) = false := by simpa using h1
      have e2 : (q == 2) = false := by simpa using h2
      have e3 : (q == 3) = false := by simpa using h3
      have e4 : (q == 4) = false := by simpa using h4
      clear h1 h2 h3 h4
      rw [← hq]
      go_wp2_with fail
      go_region_held3 (fun W => W.cell? ⟨M, 0, none⟩ = some (.string s) ∧ W.cell? ⟨M, 1, none⟩ = some (.int .i64 m.pos)) (first | exact hHeld | go_keep | exact ⟨(hb1.cell (p := ⟨M, 0, none⟩) hMl).trans q0, (hb1.cell (p := ⟨M, 1, none⟩) hMl).trans q1⟩) ((go_at_call 61; refine (c1.out _ (hE.out.drewN 1)).mono ?_; rintro e w1 ⟨rfl, hb1⟩))
      (try clear hHeld)
      clear c1 q0 q1
      have hb1 : Below W.heap.size W w1 := ⟨hb1.os, hb1.tape, hb1.output, hb1.size, hb1.block⟩
      have hM1 := Lib.hid (hM.out.of_block (hb1.block M hMl))
      have hO1 := Lib.hid (own_below hO.out hb1)
      have hE1 := Lib.hid (hE.out.below hb1)
      have hB1 := Lib.hid (hB.out.trans (hb1.mono (Nat.le_of_lt hMl)))
      clear hM hO hE hB hb1
      by_cases hcd : cd = 0
      · subst hcd
        have hs1 : 1 ≤ sz := hsz1 rfl
        clear hsz1
        have hR := Lib.hid (hR.out.trans (if_pos rfl))
        have hnn := hok.n
        have hp := Lib.hid (put_any M _ kd sz m.n m.toks w1 hM1.out hO1.out (by omega) (by show m.pos + sz ≤ s.size; omega) (by show s.size ≤ _; omega) (by have := hok.c0; show 0 ≤ m.col; omega) (by have := hok.c1; show m.col ≤ _; omega))
        go_wp2_with fail
        refine hp.out.mono ?_
        rintro e w3 ⟨rfl, v3, hM3, hO3, hB3⟩
        go_wp2_with fail
        go_step3
        (try simp only [Exit.jumps])
        refine ⟨runJ_mk 4 (k - 1) (m.put s kd sz) v3 (Lib.hid hM3) (Lib.hid hO3) (hok.put kd sz hs1 (by omega)) (by show s.size < m.pos + sz + (k - 1); omega) hR (Lib.hid (EE.out _ (hB1.out.trans hB3))) (Lib.hid (hB1.out.trans hB3)) (by decide) (Lib.hid (fun h => absurd rfl h)), ?_⟩
        rw [runMu_of s M 4 w3 _ hM3, hmu.out]
        show 2 * (s.size + 1 - (m.pos + sz)) + 1 < 2 * (s.size + 1 - m.pos) + 1
        omega
      · have hR := Lib.hid (hR.out.trans (if_neg hcd))
        have ecd : (cd == 0) = false := by simpa using hcd
        have ecd2 : (cd != 0) = true := by simpa using hcd
        clear hcd
        have hp := Lib.hid (forward_any M _ off w1 hM1.out (by show m.pos + off ≤ s.size; omega) (by show s.size ≤ _; omega) (by have := hok.c0; show 0 ≤ m.col; omega) (by have := hok.c1; show m.col ≤ _; omega))
        go_wp2_with fail
        refine hp.out.mono ?_
        rintro e w3 ⟨rfl, hM3, hg3⟩
        go_wp2_with fail
        (try simp only [Exit.jumps])
        go_ret
        rw [hR.out]
        have hnn := hok.n
        exact ⟨rfl, v, hM3, own_fwd hO1.out hg3, hB1.out.trans ((Below.refl M w1).grown hg3 (Nat.le_of_lt hM1.out.lt) (fun k hk => by injection hk with hk; omega)), by show m.n ≤ _; omega⟩
    case' inl =>
      refine ⟨_, rfl, ?_⟩
      have hcl : classL ((bs s).drop m.pos) = 1 := hc.out (by decide)
      have hR : Hid (R = (0, m.endl)) := Lib.hid (by
        rw [hR.out]
        obtain ⟨k', rfl⟩ : ∃ k', k = k' + 1 := ⟨k - 1, by omega⟩
        unfold runS
        rw [hcl, if_pos rfl])
      have hnn := hok.n
      have hp := Lib.hid (endLine_any M _ m.n m.toks w' hM.out hO.out (by omega) hpos (by show s.size ≤ _; omega) (by have := hok.l0; show 0 ≤ m.line; omega) (by have := hok.l1; show m.line ≤ _; omega))
      clear hcl
      go_wp2_with fail
      refine hp.out.mono ?_
      rintro e w3 ⟨rfl, v3, hM3, hO3, hB3⟩
      go_wp2_with fail
      (try simp only [Exit.jumps])
      go_ret
      rw [hR.out]
      refine ⟨rfl, v3, hM3, hO3, hB.out.trans hB3, ?_⟩
      show (if m.opn then m.n + 1 else m.n) ≤ _
      cases hmo : m.opn <;> rw [hmo] at hnn <;> simp at hnn ⊢ <;> omega
    case' inr.inl =>
      refine ⟨_, rfl, ?_⟩
      have hcl : classL ((bs s).drop m.pos) = 3 := hc.out (by decide)
      have hlt : m.pos < s.size := by
        have : m.pos ≠ s.size := fun e => by
          have := (classL_end s m.pos hpos).2 e
          rw [hcl] at this; exact absurd this (by decide)
        omega
      have hR : Hid (R = runS s (k - 1) m.endl) := Lib.hid (by
        rw [hR.out]
        obtain ⟨k', rfl⟩ : ∃ k', k = k' + 1 := ⟨k - 1, by omega⟩
        conv => lhs; unfold runS
        rw [hcl, if_neg (by decide), if_pos rfl]; rfl)
      have hnn := hok.n
      have hp := Lib.hid (endLine_any M _ m.n m.toks w' hM.out hO.out (by omega) hpos (by show s.size ≤ _; omega) (by have := hok.l0; show 0 ≤ m.line; omega) (by have := hok.l1; show m.line ≤ _; omega))
      clear hcl
      go_wp2_with fail
      refine hp.out.mono ?_
      rintro e w3 ⟨rfl, v3, hM3, hO3, hB3⟩
      go_wp2_with fail
      go_step3
      (try simp only [Exit.jumps])
      refine ⟨runJ_mk 4 (k - 1) m.endl v3 (Lib.hid hM3) (Lib.hid hO3) (hok.endl hlt) (by show s.size < m.pos + 1 + (k - 1); omega) hR (Lib.hid (EE.out _ (hB.out.trans hB3))) (Lib.hid (hB.out.trans hB3)) (by decide) (Lib.hid (fun h => absurd rfl h)), ?_⟩
      rw [runMu_of s M 4 w3 _ hM3, hmu.out]
      show 2 * (s.size + 1 - (m.pos + 1)) + 1 < 2 * (s.size + 1 - m.pos) + 0
      omega
    case' inr.inr.inl =>
      refine ⟨_, rfl, ?_⟩
      have hcl : classL ((bs s).drop m.pos) = 2 := hc.out (by decide)
      have hlt : m.pos < s.size := by
        have : m.pos ≠ s.size := fun e => by
          have := (classL_end s m.pos hpos).2 e
          rw [hcl] at this; exact absurd this (by decide)
        omega
      have hR : Hid (R = runS s (k - 1) (m.fwd s 1)) := Lib.hid (by
        rw [hR.out]
        obtain ⟨k', rfl⟩ : ∃ k', k = k' + 1 := ⟨k - 1, by omega⟩
        conv => lhs; unfold runS
        rw [hcl, if_neg (by decide), if_neg (by decide), if_pos rfl]; rfl)
      have hp := Lib.hid (forward_any M _ 1 w' hM.out hlt (by show s.size ≤ _; omega) (by have := hok.c0; show 0 ≤ m.col; omega) (by have := hok.c1; show m.col ≤ _; omega))
      clear hcl
      go_wp2_with fail
      refine hp.out.mono ?_
      rintro e w3 ⟨rfl, hM3, hg3⟩
      have hB3 : Below M w' w3 := (Below.refl M w').grown hg3 (Nat.le_of_lt hM.out.lt) (fun k hk => by injection hk with hk; omega)
      go_wp2_with fail
      go_step3
      (try simp only [Exit.jumps])
      refine ⟨runJ_mk 4 (k - 1) (m.fwd s 1) v (Lib.hid hM3) (Lib.hid (own_fwd hO.out hg3)) (hok.fwd 1 hlt) (by show s.size < m.pos + 1 + (k - 1); omega) hR (Lib.hid (EE.out _ (hB.out.trans hB3))) (Lib.hid (hB.out.trans hB3)) (by decide) (Lib.hid (fun h => absurd rfl h)), ?_⟩
      rw [runMu_of s M 4 w3 _ hM3, hmu.out]
      show 2 * (s.size + 1 - (m.pos + 1)) + 1 < 2 * (s.size + 1 - m.pos) + 0
      omega
    case' inr.inr.inr.inl =>
      refine ⟨_, rfl, ?_⟩
      have hcl : classL ((bs s).drop m.pos) = 4 := hc.out (by decide)
      have hn1 := lineLen_pos _ hcl
      have hn2 := lineLen_le ((bs s).drop m.pos)
      rw [List.length_drop, bs_length] at hn2
      have hR : Hid (R = runS s (k - 1) (m.fwd s (lineLen ((bs s).drop m.pos)))) := Lib.hid (by
        rw [hR.out]
        obtain ⟨k', rfl⟩ : ∃ k', k = k' + 1 := ⟨k - 1, by omega⟩
        conv => lhs; unfold runS
        rw [hcl, if_neg (by decide), if_neg (by decide), if_neg (by decide), if_pos rfl]; rfl)
      clear hcl
      have hn1 := Lib.hid hn1
      have hn2 := Lib.hid hn2
      have HL := Lib.hid (lineLen_at s)
      have HZ := Lib.hid (lineLen_end s)
      obtain ⟨ll, hll⟩ : ∃ ll, ll = lineLen ((bs s).drop m.pos) := ⟨_, rfl⟩
      rw [← hll] at hn1 hn2 hR
      have hll := Lib.hid hll
      go_wp2_with fail
      go_loopw [4] (fun i wr => ∃ j : Nat, i = .int .i64 j ∧ m.pos + j ≤ s.size ∧ Hid (ll = j + lineLen ((bs s).drop (m.pos + j))) ∧ Qt w' wr) (fun i _ => s.size - (m.pos + (intOf i).toNat))
      case atStart => exact ⟨0, rfl, by omega, Lib.hid (by rw [hll.out]; simp), Qt.refl _⟩
      case round =>
        obtain ⟨j, rfl, hj, hr, nd, rfl⟩ := hrel
        have bw : IntKind.i64.wrap ((m.pos : Int) + (j : Int)) = (m.pos : Int) + (j : Int) := IntWalk.i64_in _ (by omega)
        have bt : ((m.pos : Int) + (j : Int)).toNat = m.pos + j := by omega
        have b00 : (0 : Int) ≤ (m.pos : Int) + (j : Int) := by omega
        have bj : IntKind.i64.wrap ((j : Int) + 1) = (j : Int) + 1 := IntWalk.i64_in _ (by omega)
        have hp := Lib.hid (show m.pos + j = m.pos + j from rfl)
        by_cases hlt : m.pos + j < s.size
        · have hl2 := Lib.hid (HL.out (m.pos + j) hlt)
          have blt : (m.pos : Int) + (j : Int) < (s.size : Int) := by omega
          by_cases h10 : s[m.pos + j].toNat = 10
          · have e10 : ((s[m.pos + j].toNat : Int) != 10) = false := by simp; omega
            have hr := Lib.hid (show ll = j by rw [hr.out, hl2.out, if_pos h10]; rfl)
            clear h10 hl2
            go_wp2_with fail
            go_quiet (fail)
            clear q0 q1
            go_wp2_with fail
            obtain rfl : ll = j := hr.out
            refine (forward_any M ⟨s, m.pos, m.line, m.col, m.opn, v⟩ ll (w'.drewN (nd + nq)) hM.out (by have := hp.out; show m.pos + ll ≤ s.size; omega) (by show s.size ≤ _; omega) (by have := hok.c0; show 0 ≤ m.col; omega) (by have := hok.c1; show m.col ≤ _; omega)).mono ?_
            rintro e w3 ⟨rfl, hM3, hg3⟩
            have hg3 : w'.grownBy w3 (some M) := ⟨hg3.os, hg3.tape, hg3.output, hg3.size, hg3.block⟩
            have hB3 : Below M w' w3 := (Below.refl M w').grown hg3 (Nat.le_of_lt hM.out.lt) (fun k hk => by injection hk with hk; omega)
            go_wp2_with fail
            go_step3
            (try simp only [Exit.jumps])
            have hnl := hn1.out
            have hpl := hp.out
            refine ⟨runJ_mk 4 (k - 1) (m.fwd s ll) v (Lib.hid hM3) (Lib.hid (own_fwd hO.out hg3)) (hok.fwd ll (by omega)) (by show s.size < m.pos + ll + (k - 1); omega) hR (Lib.hid (EE.out _ (hB.out.trans hB3))) (Lib.hid (hB.out.trans hB3)) (by decide) (Lib.hid (fun h => absurd rfl h)), ?_⟩
            rw [runMu_of s M 4 w3 _ hM3, hmu.out]
            show 2 * (s.size + 1 - (m.pos + ll)) + 1 < 2 * (s.size + 1 - m.pos) + 0
            omega
          · have e10 : ((s[m.pos + j].toNat : Int) != 10) = true := by simp; omega
            have hr := Lib.hid (show ll = (j + 1) + lineLen ((bs s).drop (m.pos + (j + 1))) by
              rw [hr.out, hl2.out, if_neg h10, Nat.add_assoc m.pos j 1]; omega)
            clear h10 hl2
            go_wp2_with fail
            go_quiet (fail)
            go_wp2_with fail
            go_round
            case rel => exact ⟨j + 1, by go_num, by have := hp.out; omega, hr, Qt.self w' (nd + nq)⟩
            case measure => simp [intOf]; have := hp.out; omega
        · have hr := Lib.hid (show ll = j by rw [hr.out, HZ.out (m.pos + j) (by omega)]; rfl)
          have blt : decide ((m.pos : Int) + (j : Int) < (s.size : Int)) = false := by simp; omega
          have blt2 : ¬ ((m.pos : Int) + (j : Int) < (s.size : Int)) := by omega
          go_wp2_with fail
          go_quiet (fail)
          clear q0 q1
          go_wp2_with fail
          obtain rfl : ll = j := hr.out
          refine (forward_any M ⟨s, m.pos, m.line, m.col, m.opn, v⟩ ll (w'.drewN (nd + nq)) hM.out (by have := hp.out; show m.pos + ll ≤ s.size; omega) (by show s.size ≤ _; omega) (by have := hok.c0; show 0 ≤ m.col; omega) (by have := hok.c1; show m.col ≤ _; omega)).mono ?_
          rintro e w3 ⟨rfl, hM3, hg3⟩
          have hg3 : w'.grownBy w3 (some M) := ⟨hg3.os, hg3.tape, hg3.output, hg3.size, hg3.block⟩
          have hB3 : Below M w' w3 := (Below.refl M w').grown hg3 (Nat.le_of_lt hM.out.lt) (fun k hk => by injection hk with hk; omega)
          go_wp2_with fail
          go_step3
          (try simp only [Exit.jumps])
          have hnl := hn1.out
          have hpl := hp.out
          refine ⟨runJ_mk 4 (k - 1) (m.fwd s ll) v (Lib.hid hM3) (Lib.hid (own_fwd hO.out hg3)) (hok.fwd ll (by omega)) (by show s.size < m.pos + ll + (k - 1); omega) hR (Lib.hid (EE.out _ (hB.out.trans hB3))) (Lib.hid (hB.out.trans hB3)) (by decide) (Lib.hid (fun h => absurd rfl h)), ?_⟩
          rw [runMu_of s M 4 w3 _ hM3, hmu.out]
          show 2 * (s.size + 1 - (m.pos + ll)) + 1 < 2 * (s.size + 1 - m.pos) + 0
          omega
  · intro pass
    refine wp_seq ?_
    repeat go_step
    rename_i hk
    obtain ⟨y, hy, hw⟩ := pass 4 _ w (runJ_mk 4 (s.size + 1) ⟨0, 1, 1, false, 0, []⟩ (.slice none 0 0) hM0 (Lib.hid (World.ownsRow_nil _ _ _ _)) ⟨Nat.zero_le _, by decide, by decide, by decide, by decide, by decide⟩ (by show s.size < 0 + (s.size + 1); omega) hR0 (Lib.hid (EE.out _ (Below.refl _ _))) (Lib.hid (Below.refl _ _)) (by decide) (Lib.hid (fun h => absurd rfl h)))
    injection hy with hy
    injection hy with _ hy
    subst hy
    refine wp_label ?_
    exact hk _ _ hw
end Go.Proofs.YtjokciofeicdkaaGreatDoor
