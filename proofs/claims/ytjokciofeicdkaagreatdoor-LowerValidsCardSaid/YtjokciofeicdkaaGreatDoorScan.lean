/- Walks: scan.Scan. -/
import Derived.Test.YtjokciofeicdkaaGreatDoorRun
namespace Go.Proofs.YtjokciofeicdkaaGreatDoor
open Go.RowKit
attribute [local go_sem ↓] Go.wp_at_zero Go.wp_at_succ

/-- A text's tokens: how many, their cells; or the error, its line and column. -/
structure Scanned where
  n : Nat
  toks : List Value
  code : Int
  line : Int
  col : Int
def scanS (s : ByteArray) : Scanned :=
  if 16384 < s.size then ⟨0, [], 2, 0, 0⟩
  else if (runS s (s.size + 1) ⟨0, 1, 1, false, 0, []⟩).1 = 0 then
    ⟨(runS s (s.size + 1) ⟨0, 1, 1, false, 0, []⟩).2.n, (runS s (s.size + 1) ⟨0, 1, 1, false, 0, []⟩).2.toks, 0, 0, 0⟩
  else ⟨0, [], (runS s (s.size + 1) ⟨0, 1, 1, false, 0, []⟩).1, (runS s (s.size + 1) ⟨0, 1, 1, false, 0, []⟩).2.line, (runS s (s.size + 1) ⟨0, 1, 1, false, 0, []⟩).2.col⟩

def ScanPost (w : World) (R : Scanned) (e : Ending) (w' : World) : Prop :=
  ∃ v, e = .returned (.tuple #[v, .int .i64 R.code, .int .i64 R.line, .int .i64 R.col]) ∧ w'.ownsRow (w.heap.size + 1) 76 4 v R.n R.toks ∧ Below w.heap.size w w' ∧ R.n ≤ 32769

set_option maxHeartbeats 2000000 in
set_option maxRecDepth 100000 in
theorem Scan_any (s : ByteArray) (w : World) (hs : s.size ≤ 9223372036854775807) (E : Env w) :
    Calls Tryz.prog 25 #[.string s] w fun e w' => ScanPost w (scanS s) e w' := by
  by_cases h16 : 16384 < s.size
  · have H := Lib.hid (show scanS s = ⟨0, [], 2, 0, 0⟩ by unfold scanS; rw [if_pos h16])
    have b16 : (s.size : Int) > 16384 := by omega
    clear h16 E
    go_enter Tryz.func25, Tryz.ntmps25
    go_wp2_with fail
    ((try simp only [Exit.inBlock, Exit.then]); refine bodyPost_ret (results4 rfl _ _ _) rfl ?_)
    rw [H.out]
    exact ⟨_, rfl, World.ownsRow_nil _ _ _ _, Below.refl _ _, by decide⟩
  · have b16 : decide ((s.size : Int) > 16384) = false := by simp; omega
    have b17 : ¬ ((s.size : Int) > 16384) := by omega
    have H : Hid (scanS s = _) := Lib.hid (by unfold scanS; rw [if_neg h16])
    have c := Lib.hid (run_any s w.heap.size (w.alloc (.cells #[.string s, .int .i64 0, .int .i64 1, .int .i64 1, .bool false, .slice none 0 0] 99 (0, 0))) (heap_alloc_new w _) (by omega) (fun w' hb => E.below (((Below.refl w.heap.size w).alloc (Nat.le_refl _) _).trans hb)))
    generalize runS s (s.size + 1) ⟨0, 1, 1, false, 0, []⟩ = R at *
    obtain ⟨code, m⟩ := R
    dsimp only at H c
    have hb0 := Lib.hid ((Below.refl w.heap.size w).alloc (Nat.le_refl _) (.cells #[.string s, .int .i64 0, .int .i64 1, .int .i64 1, .bool false, .slice none 0 0] 99 (0, 0)))
    clear E h16
    go_enter Tryz.func25, Tryz.ntmps25
    go_wp2_with fail
    refine c.out.mono ?_
    rintro e w1 ⟨rfl, v, hM, hO, hB, hn⟩
    clear c
    have q2 := hM.c2
    have q3 := hM.c3
    have q5 := hM.c5
    dsimp only at q2 q3 q5
    have hb := Lib.hid (hb0.out.trans hB)
    have hO := Lib.hid hO
    have hM := Lib.hid hM
    dsimp only at hO hn
    by_cases hc : code = 0
    · subst hc
      have H2 := Lib.hid (H.out.trans (if_pos rfl))
      clear H hB hb0 q2 q3
      go_wp2_with fail
      ((try simp only [Exit.inBlock, Exit.then]); refine bodyPost_ret (results4 rfl _ _ _) rfl ?_)
      rw [H2.out]
      exact ⟨_, rfl, hO, hb.out, by show m.n ≤ 32769; omega⟩
    · have H2 := Lib.hid (H.out.trans (if_neg hc))
      have hc1 : (code != 0) = true := by simp [hc]
      have hc2 : (code == 0) = false := by simp [hc]
      clear H hB hb0 q5 hc
      go_wp2_with fail
      go_quiet (fail)
      go_wp2_with fail
      ((try simp only [Exit.inBlock, Exit.then]); refine bodyPost_ret (results4 rfl _ _ _) rfl ?_)
      rw [H2.out]
      exact ⟨_, rfl, World.ownsRow_nil _ _ _ _, below_drewN hb.out _, Nat.zero_le _⟩
end Go.Proofs.YtjokciofeicdkaaGreatDoor
