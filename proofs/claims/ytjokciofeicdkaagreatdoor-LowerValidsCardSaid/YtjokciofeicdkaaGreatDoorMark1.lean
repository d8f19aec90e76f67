/- Walks: markInts, markTexts, sameInts, sameTexts: where the marks stand, where the lists are the same. -/
import Derived.Test.YtjokciofeicdkaaGreatDoorRoom1
namespace Go.Proofs.YtjokciofeicdkaaGreatDoor
open Go.RowKit

set_option maxHeartbeats 800000 in
theorem markInts_any (l : List Int) (v : Value) (B : Nat) (w : World) (h : Room 1 IntC w B v l [-4711, -4712]) :
    Calls Tryz.prog 23 #[v] w fun e w' => e = .returned (.bool true) ∧ w = w' := by
  obtain ⟨A, cap, rfl, hs⟩ := h
  have hs : Ints w B (.slice A (l ++ [-4711, -4712]).length cap) (l ++ [-4711, -4712]) := hs
  obtain ⟨A', cap', hv, hcl, hcap⟩ := SlOf.form hs
  injection hv with hA hn hc
  subst hA hc
  clear hn
  obtain ⟨b, off, rfl⟩ := SlOf.addr hs (by simp)
  obtain ⟨_, x, hx, f0⟩ := ints_el hs (k := l.length) (by simp)
  have hx' : (l ++ [-4711, -4712])[l.length]? = some (-4711) := by simp
  rw [hx] at hx'
  obtain rfl := Option.some.inj hx'
  obtain ⟨_, y, hy, f1⟩ := ints_el hs (k := l.length + 1) (by simp)
  have hy' : (l ++ [-4711, -4712])[l.length + 1]? = some (-4712) := by simp
  rw [hy] at hy'
  obtain rfl := Option.some.inj hy'
  rw [List.length_append] at hcl hcap
  simp only [List.length_cons, List.length_nil, Nat.zero_add, Nat.reduceAdd] at hcl hcap
  have hc1 : (l.length : Int) + 2 ≤ (cap : Int) := by omega
  have hc2 : (0 : Int) ≤ (l.length : Int) + 2 := by omega
  have hc3 : ((l.length : Int) + 2).toNat = l.length + 2 := by omega
  have hc4 : (l.length : Int) < (l.length : Int) + 2 := by omega
  have hc5 : (l.length : Int) + 1 < (l.length : Int) + 2 := by omega
  clear hx hx' hy hy' hs
  go_enter Tryz.func23, Tryz.ntmps23
  go_wp2_with fail
  go_ret
  exact ⟨ret_bool (by simp), rfl⟩

set_option maxHeartbeats 800000 in
theorem markTexts_any (l : List ByteArray) (v : Value) (B : Nat) (w : World) (h : Room 1 StrC w B v l [mark1, mark2]) :
    Calls Tryz.prog 24 #[v] w fun e w' => e = .returned (.bool true) ∧ w = w' := by
  obtain ⟨A, cap, rfl, hs⟩ := h
  have hs : Texts w B (.slice A (l ++ [mark1, mark2]).length cap) (l ++ [mark1, mark2]) := hs
  obtain ⟨A', cap', hv, hcl, hcap⟩ := SlOf.form hs
  injection hv with hA hn hc
  subst hA hc
  clear hn
  obtain ⟨b, off, rfl⟩ := SlOf.addr hs (by simp)
  obtain ⟨_, x, hx, _, f0⟩ := texts_el hs (k := l.length) (by simp)
  have hx' : (l ++ [mark1, mark2])[l.length]? = some (mark1) := by simp
  rw [hx] at hx'
  obtain rfl := Option.some.inj hx'
  obtain ⟨_, y, hy, _, f1⟩ := texts_el hs (k := l.length + 1) (by simp)
  have hy' : (l ++ [mark1, mark2])[l.length + 1]? = some (mark2) := by simp
  rw [hy] at hy'
  obtain rfl := Option.some.inj hy'
  rw [List.length_append] at hcl hcap
  simp only [List.length_cons, List.length_nil, Nat.zero_add, Nat.reduceAdd] at hcl hcap
  have hc1 : (l.length : Int) + 2 ≤ (cap : Int) := by omega
  have hc2 : (0 : Int) ≤ (l.length : Int) + 2 := by omega
  have hc3 : ((l.length : Int) + 2).toNat = l.length + 2 := by omega
  have hc4 : (l.length : Int) < (l.length : Int) + 2 := by omega
  have hc5 : (l.length : Int) + 1 < (l.length : Int) + 2 := by omega
  clear hx hx' hy hy' hs
  unfold mark1 at f0
  unfold mark2 at f1
  go_enter Tryz.func24, Tryz.ntmps24
  go_wp2_with fail
  go_ret
  exact ⟨ret_bool (by simp), rfl⟩

set_option maxHeartbeats 800000 in
theorem sameInts_any (l : List Int) (va vb : Value) (B : Nat) (w : World) (ha : Ints w B va l) (hb : Ints w B vb l) :
    Calls Tryz.prog 43 #[va, vb] w fun e w' => e = .returned (.bool true) ∧ Below w.heap.size w w' := by
  obtain ⟨A1, cap1, rfl, hcl1, hcap1⟩ := SlOf.form ha
  obtain ⟨A2, cap2, rfl, hcl2, hcap2⟩ := SlOf.form hb
  have hA := Lib.hid ha
  have hB := Lib.hid hb
  clear ha hb
  go_enter Tryz.func43, Tryz.ntmps43
  go_wp2_with fail
  go_loopw [5] (fun i wr => ∃ k : Nat, k ≤ l.length ∧ i = .int .i64 k ∧ Hid (Qt w wr)) (fun i _ => l.length - (intOf i).toNat)
  case atStart => exact ⟨0, Nat.zero_le _, rfl, Lib.hid (Qt.refl _)⟩
  case round =>
    obtain ⟨k, hk, rfl, hq⟩ := hrel
    obtain ⟨m, rfl⟩ := hq.out
    by_cases hlt : k < l.length
    · obtain ⟨b1, off1, rfl⟩ := SlOf.addr hA.out (by omega)
      obtain ⟨b2, off2, rfl⟩ := SlOf.addr hB.out (by omega)
      obtain ⟨_, x, hx, f0⟩ := ints_el hA.out hlt
      obtain ⟨_, y, hy, f1⟩ := ints_el hB.out hlt
      rw [hx] at hy
      obtain rfl := Option.some.inj hy
      clear hx hy
      go_wp2_with fail
      go_quiet (fail)
      go_wp2_with fail
      go_roundw
      case rel => exact ⟨k + 1, by omega, by go_num, Lib.hid (Qt.self _ _)⟩
      case measure => simp [intOf]; omega
    · go_wp2_with fail
      go_ret
      exact ⟨rfl, below_drewN (Below.refl _ _) _⟩

set_option maxHeartbeats 800000 in
theorem sameTexts_any (l : List ByteArray) (va vb : Value) (B : Nat) (w : World) (ha : Texts w B va l) (hb : Texts w B vb l) :
    Calls Tryz.prog 44 #[va, vb] w fun e w' => e = .returned (.bool true) ∧ Below w.heap.size w w' := by
  obtain ⟨A1, cap1, rfl, hcl1, hcap1⟩ := SlOf.form ha
  obtain ⟨A2, cap2, rfl, hcl2, hcap2⟩ := SlOf.form hb
  have hA := Lib.hid ha
  have hB := Lib.hid hb
  clear ha hb
  go_enter Tryz.func44, Tryz.ntmps44
  go_wp2_with fail
  go_loopw [5] (fun i wr => ∃ k : Nat, k ≤ l.length ∧ i = .int .i64 k ∧ Hid (Qt w wr)) (fun i _ => l.length - (intOf i).toNat)
  case atStart => exact ⟨0, Nat.zero_le _, rfl, Lib.hid (Qt.refl _)⟩
  case round =>
    obtain ⟨k, hk, rfl, hq⟩ := hrel
    obtain ⟨m, rfl⟩ := hq.out
    by_cases hlt : k < l.length
    · obtain ⟨b1, off1, rfl⟩ := SlOf.addr hA.out (by omega)
      obtain ⟨b2, off2, rfl⟩ := SlOf.addr hB.out (by omega)
      obtain ⟨_, x, hx, _, f0⟩ := texts_el hA.out hlt
      obtain ⟨_, y, hy, _, f1⟩ := texts_el hB.out hlt
      rw [hx] at hy
      obtain rfl := Option.some.inj hy
      clear hx hy
      go_wp2_with fail
      go_quiet (fail)
      go_wp2_with fail
      go_roundw
      case rel => exact ⟨k + 1, by omega, by go_num, Lib.hid (Qt.self _ _)⟩
      case measure => simp [intOf]; omega
    · go_wp2_with fail
      go_ret
      exact ⟨rfl, below_drewN (Below.refl _ _) _⟩
end Go.Proofs.YtjokciofeicdkaaGreatDoor
