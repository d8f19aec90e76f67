/- Walks: pattern (the digits behind a percent sign). -/
import Derived.Test.YtjokciofeicdkaaGreatDoorMach
namespace Go.Proofs.YtjokciofeicdkaaGreatDoor
open Go.RowKit

def trit (c : UInt8) : Bool := c.toNat == 48 || c.toNat == 49 || c.toNat == 120
def patS (l : Bytes) : Bool := l.all trit && (decide (0 < l.length) && decide (l.length ≤ 32))

theorem decode_trit (s : ByteArray) (p : Nat) (h : p < s.size) : ((Utf8.decode s p).1 = 48 ∨ (Utf8.decode s p).1 = 49 ∨ (Utf8.decode s p).1 = 120) ↔ trit s[p] = true := by
  by_cases ha : (s[p]'h).toNat < 128
  · rw [decode_ascii s p h ha]
    simp [trit]; omega
  · have h1 := (decode_high s p h (by omega)).1
    simp only [trit, Bool.or_eq_true, beq_iff_eq]
    omega
theorem decode_trit_w (s : ByteArray) (p : Nat) (h : p < s.size) (ht : trit s[p] = true) : (Utf8.decode s p).2 = 1 := by
  have ha : (s[p]'h).toNat < 128 := by simp only [trit, Bool.or_eq_true, beq_iff_eq] at ht; omega
  rw [decode_ascii s p h ha]

set_option maxHeartbeats 800000 in
theorem pattern_any (s : ByteArray) (hs : s.size ≤ 9223372036854775807) (w : World) :
    Calls Tryz.prog 85 #[.string s] w fun e w' => e = .returned (.bool (patS (bs s))) ∧ Below w.heap.size w w' := by
  go_enter Tryz.func85, Tryz.ntmps85
  go_wp2_with fail
  go_loopw [] (fun wr => ∃ p : Nat, p ≤ s.size ∧ wr = w.iter s p ∧ Hid ((bs s).all trit = ((bs s).drop p).all trit)) (fun wr => s.size - wr.iterPos w.heap.size)
  case atStart => exact ⟨0, by omega, rfl, Lib.hid rfl⟩
  case round =>
    obtain ⟨p, hp, rfl, hr⟩ := hrel
    by_cases hlt : p < s.size
    · have hnx := fun ty => run_next_any (P := Tryz.prog) w s p ty hlt
      have hd := Lib.hid (decode_trit s p hlt)
      have hw := width_pos s p hlt
      have hpos := Lib.hid (World.iterPos_iter w s p)
      by_cases ht : trit s[p] = true
      · have hw1 := decode_trit_w s p hlt ht
        rw [hw1] at hnx
        have hr' := Lib.hid (show (bs s).all trit = ((bs s).drop (p + 1)).all trit by
          rw [hr.out, bs_drop s p hlt, List.all_cons, ht]; rfl)
        have hdd := hd.out.2 ht
        clear hd hr hw hw1 ht
        generalize (Utf8.decode s p).1 = c at *
        have hpos2 := Lib.hid (World.iterPos_iter w s (p + 1))
        rcases hdd with hdd | hdd | hdd
        all_goals
          subst hdd
          go_wp2_with fail
          go_roundw
          case rel => exact ⟨p + 1, by omega, rfl, hr'⟩
          case measure => rw [hpos.out, hpos2.out]; omega
      · have hdd : ¬ ((Utf8.decode s p).1 = 48 ∨ (Utf8.decode s p).1 = 49 ∨ (Utf8.decode s p).1 = 120) := fun h => ht (hd.out.1 h)
        have H := Lib.hid (show patS (bs s) = false by
          unfold patS
          rw [hr.out, bs_drop s p hlt, List.all_cons, show trit s[p] = false by simpa using ht]; rfl)
        have hwx := Lib.hid (World.iter_extends w s (p + (Utf8.decode s p).2))
        clear hd hr hw ht
        generalize (Utf8.decode s p).1 = c at *
        have d1 : ((c : Int) != 48) = true := by rw [bne_iff_ne]; intro h; exact hdd (.inl (by omega))
        have d2 : ((c : Int) != 49) = true := by rw [bne_iff_ne]; intro h; exact hdd (.inr (.inl (by omega)))
        have d3 : ((c : Int) != 120) = true := by rw [bne_iff_ne]; intro h; exact hdd (.inr (.inr (by omega)))
        clear hdd
        go_wp2_with fail
        go_ret
        exact ⟨ret_bool H.out.symm, (Below.refl _ _).alloc (Nat.le_refl _) _⟩
    · have hnx := fun ty => run_next_end (P := Tryz.prog) w s p ty hlt
      have hr' := Lib.hid (show (bs s).all trit = true by rw [hr.out, bs_drop_end s p hlt]; rfl)
      clear hr
      by_cases hz : s.size = 0
      · have H := Lib.hid (show patS (bs s) = false by
          unfold patS; rw [bs_length, decide_eq_false (show ¬ 0 < s.size by omega)]; simp)
        obtain rfl := str_nil s hz
        go_wp2_with fail
        go_ret
        exact ⟨ret_bool H.out.symm, (Below.refl _ _).alloc (Nat.le_refl _) _⟩
      · have he := emp_false s hz
        have H := Lib.hid (show patS (bs s) = decide ((s.size : Int) ≤ 32) by
          unfold patS
          rw [hr'.out, bs_length, decide_eq_true (show 0 < s.size by omega)]
          simp only [Bool.true_and]
          congr 1; exact propext ⟨fun h => by omega, fun h => by omega⟩)
        go_wp2_with fail
        go_ret
        exact ⟨ret_bool H.out.symm, (Below.refl _ _).alloc (Nat.le_refl _) _⟩
end Go.Proofs.YtjokciofeicdkaaGreatDoor
