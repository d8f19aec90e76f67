/- Walks: the scanner's machine: forward. -/
import Derived.Test.YtjokciofeicdkaaGreatDoorNum3
import Derived.Lib.OthersKept
import Derived.StillTailTactics
import Derived.Deep.RegionHeld3
import Derived.Deep.DrawnRows
import Derived.KernelRfl
namespace Go.Proofs.YtjokciofeicdkaaGreatDoor
open Go.RowKit

theorem width_pos (s : ByteArray) (pos : Nat) (h : pos < s.size) : 1 ≤ (Utf8.decode s pos).2 := by
  by_cases ha : (s[pos]'h).toNat < 128
  · rw [decode_ascii s pos h ha]; exact Nat.le_refl _
  · exact (decode_high s pos h (by omega)).2
/-- How many characters a range over the string meets from a place on. -/
def runesFrom (s : ByteArray) (pos : Nat) : Nat :=
  if h : pos < s.size then 1 + runesFrom s (pos + (Utf8.decode s pos).2) else 0
termination_by s.size - pos
decreasing_by have := width_pos s pos h; omega
theorem runesFrom_le (s : ByteArray) : ∀ n pos, s.size - pos ≤ n → runesFrom s pos ≤ n
  | 0, pos, h => by rw [runesFrom, dif_neg (by omega)]; exact Nat.le_refl _
  | n + 1, pos, h => by
    rw [runesFrom]
    split
    · rename_i hp
      have := width_pos s pos hp
      have := runesFrom_le s n (pos + (Utf8.decode s pos).2) (by omega)
      omega
    · omega

structure Mach where
  text : ByteArray
  pos : Nat
  line : Int
  col : Int
  opn : Bool
  toks : Value
def Mach.cells (m : Mach) : Array Value := #[.string m.text, .int .i64 m.pos, .int .i64 m.line, .int .i64 m.col, .bool m.opn, m.toks]
def MachAt (w : World) (M : Nat) (m : Mach) : Prop := w.heap[M]? = some (.cells m.cells 99 (0, 0))

theorem gb_refl (w : World) (r : Option Nat) : w.grownBy w r := ⟨rfl, rfl, rfl, Nat.le_refl _, fun _ _ _ => rfl⟩
theorem gb_trans {a b c : World} {r : Option Nat} (h : a.grownBy b r) (k : b.grownBy c r) : a.grownBy c r :=
  ⟨k.os.trans h.os, k.tape.trans h.tape, k.output.trans h.output, Nat.le_trans h.size k.size, fun i hi hne => (k.block i (Nat.lt_of_lt_of_le hi h.size) hne).trans (h.block i hi hne)⟩
theorem gb_drewN {a w : World} {r : Option Nat} (h : a.grownBy w r) (n : Nat) : a.grownBy (w.drewN n) r := ⟨h.os, h.tape, h.output, h.size, h.block⟩
theorem gb_drew {a w : World} {r : Option Nat} (h : a.grownBy w r) : a.grownBy w.drew r := ⟨h.os, h.tape, h.output, h.size, h.block⟩
theorem gb_below {a b c : World} {r : Option Nat} (h : a.grownBy b r) (k : Below b.heap.size b c) : a.grownBy c r :=
  gb_trans h ⟨k.os, k.tape, k.output, k.size, fun i hi _ => k.block i hi⟩
theorem gb_alloc {a w : World} {r : Option Nat} (h : a.grownBy w r) (o : Obj) : a.grownBy (w.alloc o) r := gb_below h ((Below.refl _ _).alloc (Nat.le_refl _) o)
theorem gb_setCell {a w : World} {g : Nat} (h : a.grownBy w (some g)) (o : Nat) (u : Value) : a.grownBy (w.setCell ⟨g, o, none⟩ u) (some g) :=
  ⟨h.os, h.tape, h.output, by simpa [World.setCell] using h.size, fun i hi hne => (Below.heap_setCell w ⟨g, o, none⟩ u i (fun e => hne (by rw [e]))).trans (h.block i hi hne)⟩
theorem gb_setNew {a w : World} {r : Option Nat} (h : a.grownBy w r) {p : Addr} (hp : a.heap.size ≤ p.block) (u : Value) : a.grownBy (w.setCell p u) r :=
  ⟨h.os, h.tape, h.output, by simpa [World.setCell] using h.size, fun i hi hne => (Below.heap_setCell w p u i (by omega)).trans (h.block i hi hne)⟩
theorem gb_iterAt {a w : World} {r : Option Nat} (h : a.grownBy w r) {k : Nat} (hk : a.heap.size ≤ k) (s : ByteArray) (q : Nat) : a.grownBy (w.iterAt k s q) r :=
  ⟨h.os, h.tape, h.output, by simpa [World.iterAt] using h.size, fun i hi hne => by
    rw [← h.block i hi hne]
    show (w.heap.setIfInBounds k _)[i]? = _
    rw [Array.getElem?_setIfInBounds, if_neg (by omega)]⟩
theorem gb_cell {a b : World} {g : Nat} (h : a.grownBy b (some g)) {p : Addr} {v : Value} (hc : a.cell? p = some v) (hne : p.block ≠ g) : b.cell? p = some v :=
  h.cell hc (fun e => hne (by injection e))

theorem MachAt.lt {w : World} {M : Nat} {m : Mach} (h : MachAt w M m) : M < w.heap.size := (Array.getElem?_eq_some_iff.1 h).1
theorem MachAt.free {w : World} {M : Nat} {m : Mach} (h : MachAt w M m) (i : Nat) : w.frozen? ⟨M, i, none⟩ = false := by
  unfold MachAt at h
  simp [World.frozen?, h]
theorem MachAt.of_block {w w' : World} {M : Nat} {m : Mach} (h : MachAt w M m) (hb : w'.heap[M]? = w.heap[M]?) : MachAt w' M m := hb.trans h
theorem MachAt.c0 {w : World} {M : Nat} {m : Mach} (h : MachAt w M m) : w.cell? ⟨M, 0, none⟩ = some (.string m.text) := by have := cell_of_row w M 0 _ _ (0, 0) h; simpa [Mach.cells] using this
theorem MachAt.c1 {w : World} {M : Nat} {m : Mach} (h : MachAt w M m) : w.cell? ⟨M, 1, none⟩ = some (.int .i64 m.pos) := by have := cell_of_row w M 1 _ _ (0, 0) h; simpa [Mach.cells] using this
theorem MachAt.c2 {w : World} {M : Nat} {m : Mach} (h : MachAt w M m) : w.cell? ⟨M, 2, none⟩ = some (.int .i64 m.line) := by have := cell_of_row w M 2 _ _ (0, 0) h; simpa [Mach.cells] using this
theorem MachAt.c3 {w : World} {M : Nat} {m : Mach} (h : MachAt w M m) : w.cell? ⟨M, 3, none⟩ = some (.int .i64 m.col) := by have := cell_of_row w M 3 _ _ (0, 0) h; simpa [Mach.cells] using this
theorem MachAt.c4 {w : World} {M : Nat} {m : Mach} (h : MachAt w M m) : w.cell? ⟨M, 4, none⟩ = some (.bool m.opn) := by have := cell_of_row w M 4 _ _ (0, 0) h; simpa [Mach.cells] using this
theorem MachAt.c5 {w : World} {M : Nat} {m : Mach} (h : MachAt w M m) : w.cell? ⟨M, 5, none⟩ = some m.toks := by have := cell_of_row w M 5 _ _ (0, 0) h; simpa [Mach.cells] using this
theorem MachAt.set {w : World} {M : Nat} {m m' : Mach} (h : MachAt w M m) (i : Nat) (v : Value) (he : m.cells.setIfInBounds i v = m'.cells) : MachAt (w.setCell ⟨M, i, none⟩ v) M m' := by
  unfold MachAt at h ⊢
  rw [← he]
  simp [World.setCell, Array.getElem?_modify, h]

set_option maxHeartbeats 1000000 in
set_option maxRecDepth 100000 in
theorem forward_any (M : Nat) (m : Mach) (size : Nat) (w : World) (hm : MachAt w M m) (hsz : m.pos + size ≤ m.text.size) (ht : m.text.size ≤ 4294967295) (hc0 : 0 ≤ m.col) (hc1 : m.col ≤ 4611686018427387904) :
    Calls Tryz.prog 62 #[.pointer (some ⟨M, 0, none⟩), .int .i64 size] w fun e w' => e = .returned (.tuple #[]) ∧
      MachAt w' M { m with pos := m.pos + size, col := m.col + runesFrom (m.text.extract m.pos (m.pos + size)) 0 } ∧ w.grownBy w' (some M) := by
  obtain ⟨text, pos, line, col, opn, toks⟩ := m
  dsimp only at *
  have q0 := hm.c0
  have q1 := hm.c1
  have hM := Lib.hid hm
  clear hm
  dsimp only at q0 q1
  have bw : IntKind.i64.wrap ((pos : Int) + (size : Int)) = (pos : Int) + (size : Int) := IntWalk.i64_in _ (by omega)
  have b0 : (0 : Int) ≤ (pos : Int) := by omega
  have b1 : (pos : Int) ≤ (pos : Int) + (size : Int) := by omega
  have b2 : (pos : Int) + (size : Int) ≤ (text.size : Int) := by omega
  go_enter Tryz.func62, Tryz.ntmps62
  go_wp2_with fail
  go_still_tail 15, (by kernel_rfl)
  go_wp2_with fail
  have hlt := hM.out.lt
  obtain ⟨q, hq⟩ : ∃ q, q = text.extract pos (pos + size) := ⟨_, rfl⟩
  rw [← hq]
  have hq := Lib.hid hq
  have hql : q.size ≤ 4294967295 := by rw [hq.out]; have := size_extract_le text pos (pos + size); omega
  have hrl := Lib.hid (show ∀ p, runesFrom q p ≤ 4294967295 from fun p => Nat.le_trans (runesFrom_le q q.size p (by omega)) hql)
  clear q0 q1
  go_loopw [] (fun wr => ∃ (p c : Nat), wr.heap[w.heap.size]? = some (.stringIter q p) ∧ c ≤ 4294967295 ∧ Hid (runesFrom q 0 = c + runesFrom q p) ∧ MachAt wr M ⟨text, pos, line, col + c, opn, toks⟩ ∧ w.grownBy wr (some M)) (fun wr => q.size - wr.iterPos w.heap.size)
  case atStart =>
    refine ⟨0, 0, World.iter_heap _ _ _, by omega, Lib.hid (by simp), ?_, gb_below (gb_drew (gb_refl _ _)) ((Below.refl _ _).alloc (Nat.le_refl _) _)⟩
    rw [show col + ((0 : Nat) : Int) = col by simp]
    exact hM.out.of_block (Below.heap_alloc w.drew _ M hlt)
  case round =>
    obtain ⟨p, c, hit, hcl, hr, hma, hg⟩ := hrel
    by_cases hp : p < q.size
    · have hnx := fun ty => Lib.run_next_any_at (P := Tryz.prog) wr w.heap.size q p ty hit hp
      have hw := width_pos q p hp
      have hr' := Lib.hid (show runesFrom q 0 = (c + 1) + runesFrom q (p + (Utf8.decode q p).2) from by
        have := hr.out
        rw [show runesFrom q p = 1 + runesFrom q (p + (Utf8.decode q p).2) by rw [runesFrom, dif_pos hp]] at this
        omega)
      have hcl' : c + 1 ≤ 4294967295 := by have := hrl.out 0; have := hr'.out; omega
      have hit2 := Lib.iterAt_heap wr w.heap.size q p (p + (Utf8.decode q p).2) hit
      have hg2 := gb_iterAt hg (Nat.le_refl _) q (p + (Utf8.decode q p).2)
      have hma2 : MachAt (wr.iterAt w.heap.size q (p + (Utf8.decode q p).2)) M ⟨text, pos, line, col + c, opn, toks⟩ := hma.of_block (by
        show (wr.heap.setIfInBounds _ _)[M]? = _
        rw [Array.getElem?_setIfInBounds, if_neg (by omega)])
      have hpos : (wr.iterPos w.heap.size) = p := by simp [World.iterPos, hit]
      have hpos := Lib.hid hpos
      obtain ⟨W2, hW2⟩ : ∃ W2, W2 = wr.iterAt w.heap.size q (p + (Utf8.decode q p).2) := ⟨_, rfl⟩
      rw [← hW2] at hit2 hg2 hma2 hnx
      clear hW2 hr hit hma hg
      have q3 := hma2.c3
      have qf := hma2.free 3
      dsimp only at q3
      have hit2 := Lib.hid hit2
      go_wp2_with fail
      go_roundw
      case rel =>
        refine ⟨p + (Utf8.decode q p).2, c + 1, ?_, hcl', hr', ?_, gb_setCell hg2 _ _⟩
        · rw [Below.heap_setCell _ _ _ _ (by show _ ≠ M; omega)]; exact hit2.out
        · exact hma2.set 3 _ (by simp [Mach.cells]; omega)
      case measure =>
        rw [hpos.out]
        have : (W2.setCell ⟨M, 3, none⟩ (.int .i64 (col + ↑c + 1))).iterPos w.heap.size = p + (Utf8.decode q p).2 := by
          unfold World.iterPos
          rw [Below.heap_setCell _ _ _ _ (by show _ ≠ M; omega), hit2.out]
        first | (rw [this]; omega) | (simp only [this]; omega)
    · have hnx := fun ty => Lib.run_next_end_at (P := Tryz.prog) wr w.heap.size q p ty hit hp
      have hr' := Lib.hid (show runesFrom q 0 = c from by
        have := hr.out
        rwa [show runesFrom q p = 0 by rw [runesFrom, dif_neg hp]] at this)
      have q1 := hma.c1
      have qf := hma.free 1
      dsimp only at q1
      clear hit hr
      go_wp2_with fail
      go_end0
      refine ⟨rfl, ?_, gb_setCell hg _ _⟩
      rw [← hq.out, hr'.out]
      exact hma.set 1 _ (by simp [Mach.cells])
end Go.Proofs.YtjokciofeicdkaaGreatDoor
