/- Walks: reachref9.markLists, where the marks stand. -/
import Derived.Test.YtjokciofeicdkaaGreatDoorMark2
namespace Go.Proofs.YtjokciofeicdkaaGreatDoor
open Go.RowKit

def TabRC (w : World) (B : Nat) (c : List Value) (x : List EntryS) : Prop := ∃ v, c = [v] ∧ Room 5 EntryC w B v x [markE mark1, markE mark2]
def GuaRC (w : World) (B : Nat) (c : List Value) (x : List GuardS) : Prop := ∃ v, c = [v] ∧ Room 2 GuardC w B v x [markG mark1, markG mark2]
def markP : PortS := ⟨mark1, 0, false, 0⟩
/-- What Roomy hands out first: lists with marked room, behind every list's end. -/
def GivenAt (w : World) (B : Nat) (v : Value) (n : NetS) : Prop :=
  ∃ vp vt vg, v = .agg #[.int .i64 n.bits, vp, vt, vg] ∧ Room 4 PortC w B vp n.ports [markP] ∧ Room 1 TabC w B vt n.tables [[markE mark1]] ∧ SlOf 1 TabRC w B vt n.tables ∧ Room 1 GuaC w B vg n.guards [[markG mark1]] ∧ SlOf 1 GuaRC w B vg n.guards
section
variable {w w' : World} {B B' : Nat}
theorem TabC.keepI {c : List Value} {x : List EntryS} (h : TabC w B c x) (hB : B ≤ B') (hk : ∀ b o u, b < B → w.cell? ⟨b, o, none⟩ = some u → w'.cell? ⟨b, o, none⟩ = some u) : TabC w' B' c x := by
  obtain ⟨v, h1, h2⟩ := h
  exact ⟨v, h1, h2.keepI hB hk fun _ _ h => EntryC.keepI h hB hk⟩
theorem GuaC.keepI {c : List Value} {x : List GuardS} (h : GuaC w B c x) (hB : B ≤ B') (hk : ∀ b o u, b < B → w.cell? ⟨b, o, none⟩ = some u → w'.cell? ⟨b, o, none⟩ = some u) : GuaC w' B' c x := by
  obtain ⟨v, h1, h2⟩ := h
  exact ⟨v, h1, h2.keepI hB hk fun _ _ h => GuardC.keepI h hB hk⟩
theorem TabRC.keepI {c : List Value} {x : List EntryS} (h : TabRC w B c x) (hB : B ≤ B') (hk : ∀ b o u, b < B → w.cell? ⟨b, o, none⟩ = some u → w'.cell? ⟨b, o, none⟩ = some u) : TabRC w' B' c x := by
  obtain ⟨v, h1, h2⟩ := h
  exact ⟨v, h1, h2.keepI hB hk fun _ _ h => EntryC.keepI h hB hk⟩
theorem GuaRC.keepI {c : List Value} {x : List GuardS} (h : GuaRC w B c x) (hB : B ≤ B') (hk : ∀ b o u, b < B → w.cell? ⟨b, o, none⟩ = some u → w'.cell? ⟨b, o, none⟩ = some u) : GuaRC w' B' c x := by
  obtain ⟨v, h1, h2⟩ := h
  exact ⟨v, h1, h2.keepI hB hk fun _ _ h => GuardC.keepI h hB hk⟩
theorem GivenAt.keepI {v : Value} {n : NetS} (h : GivenAt w B v n) (hB : B ≤ B') (hk : ∀ b o u, b < B → w.cell? ⟨b, o, none⟩ = some u → w'.cell? ⟨b, o, none⟩ = some u) : GivenAt w' B' v n := by
  obtain ⟨vp, vt, vg, h1, h2, h3, h4, h5, h6⟩ := h
  exact ⟨vp, vt, vg, h1, h2.keepI hB hk fun _ _ h => h, h3.keepI hB hk fun _ _ h => h.keepI hB hk, h4.keepI hB hk fun _ _ h => h.keepI hB hk, h5.keepI hB hk fun _ _ h => h.keepI hB hk, h6.keepI hB hk fun _ _ h => h.keepI hB hk⟩
theorem GivenAt.plain {v : Value} {n : NetS} (h : GivenAt w B v n) : NetAt w B v n := by
  obtain ⟨vp, vt, vg, h1, h2, h3, _, h5, _⟩ := h
  exact ⟨vp, vt, vg, h1, h2.slOf, h3.slOf, h5.slOf⟩
end

set_option maxHeartbeats 4000000 in
set_option maxRecDepth 100000 in
theorem markLists_any (n : NetS) (v : Value) (B : Nat) (w : World) (hn : GivenAt w B v n) (hB : B ≤ w.heap.size) :
    Calls Tryz.prog 22 #[v] w fun e w' => e = .returned (.bool true) ∧ Below w.heap.size w w' := by
  obtain ⟨vp, vt, vg, rfl, hp, ht0, ht, hg0, hg⟩ := hn
  obtain ⟨A2, cap2, rfl, hcl2, hcap2⟩ := SlOf.form ht
  obtain ⟨A3, cap3, rfl, hcl3, hcap3⟩ := SlOf.form hg
  obtain ⟨W1, hW1⟩ : ∃ W1, w.alloc (.cells #[.int .i64 n.bits, vp, .slice A2 n.tables.length cap2, .slice A3 n.guards.length cap3] 26 (0, 0)) = W1 := ⟨_, rfl⟩
  have b1 : Below w.heap.size w W1 := hW1 ▸ (Below.refl _ w).alloc (Nat.le_refl _) _
  have hN0 : Hid (W1.heap[w.heap.size]? = some (.cells #[.int .i64 n.bits, vp, .slice A2 n.tables.length cap2, .slice A3 n.guards.length cap3] 26 (0, 0))) := Lib.hid (hW1 ▸ heap_alloc_new w _)
  have z1 : Hid (W1.heap.size = w.heap.size + 1) := Lib.hid (by rw [← hW1]; simp)
  have ht1 : Hid (SlOf 1 TabRC W1 B (.slice A2 n.tables.length cap2) n.tables) := Lib.hid (ht.keepI (Nat.le_refl _) (belowI b1 hB) fun _ _ h => h.keepI (Nat.le_refl _) (belowI b1 hB))
  have hg1 : Hid (SlOf 1 GuaRC W1 B (.slice A3 n.guards.length cap3) n.guards) := Lib.hid (hg.keepI (Nat.le_refl _) (belowI b1 hB) fun _ _ h => h.keepI (Nat.le_refl _) (belowI b1 hB))
  have hb0 := Lib.hid b1
  have q20 : W1.cell? ⟨w.heap.size, 2, none⟩ = some (.slice A2 n.tables.length cap2) := by simpa using cell_of_row W1 w.heap.size 2 _ _ (0, 0) hN0.out
  have q30 : W1.cell? ⟨w.heap.size, 3, none⟩ = some (.slice A3 n.guards.length cap3) := by simpa using cell_of_row W1 w.heap.size 3 _ _ (0, 0) hN0.out
  clear hp ht0 ht hg0 hg b1
  go_enter Tryz.func22, Tryz.ntmps22
  go_wp2_with fail
  clear hW1
  go_loopw [3, 4, 5] (fun i _ _ wr => ∃ k : Nat, k ≤ n.tables.length ∧ i = .int .i64 k ∧ Hid (Qt W1 wr)) (fun i _ _ _ => n.tables.length - (intOf i).toNat)
  case atStart => exact ⟨0, Nat.zero_le _, rfl, Lib.hid (Qt.refl _)⟩
  case round =>
    obtain ⟨k, hk, rfl, hq⟩ := hrel
    obtain ⟨m, rfl⟩ := hq.out
    by_cases hlt : k < n.tables.length
    · obtain ⟨b, off, rfl⟩ := SlOf.addr ht1.out (by omega)
      obtain ⟨_, c, x, hx, ⟨vx, hc, ⟨E, ecap, rfl, hT⟩⟩, hj⟩ := SlOf.el ht1.out hlt
      subst hc
      have e0 : W1.cell? ⟨b, off + k, none⟩ = some (.slice E x.length ecap) := by simpa using hj 0 _ rfl
      clear hj hx
      obtain ⟨E', ecap', hv, hel, hec⟩ := SlOf.form hT
      injection hv with h1 h2 h3
      subst h1 h3
      clear h2
      rw [List.length_append] at hel hec
      simp only [List.length_cons, List.length_nil, Nat.zero_add, Nat.reduceAdd] at hel hec
      obtain ⟨c1, o1, rfl⟩ := SlOf.addr hT (by simp)
      obtain ⟨_, c, y, hy, ⟨vi, vc, vo, hc, _, _, _, hCc, _⟩, hj⟩ := SlOf.el hT (k := x.length) (by simp)
      obtain ⟨_, d, y', hy', ⟨ui, uc, uo, hd, _, _, _, hDc, _⟩, hl⟩ := SlOf.el hT (k := x.length + 1) (by simp)
      have hy1 : (x ++ [markE mark1, markE mark2])[x.length]? = some (markE mark1) := by simp
      have hy2 : (x ++ [markE mark1, markE mark2])[x.length + 1]? = some (markE mark2) := by simp
      rw [hy] at hy1
      rw [hy'] at hy2
      obtain rfl := Option.some.inj hy1
      obtain rfl := Option.some.inj hy2
      subst hc hd
      obtain ⟨X2, x2, rfl, _, _⟩ := SlOf.form hCc
      obtain ⟨Y2, y2, rfl, _, _⟩ := SlOf.form hDc
      have f0 : W1.cell? ⟨c1, o1 + x.length * 5, none⟩ = some (.string mark1) := hj 0 _ rfl
      have f2 : W1.cell? ⟨c1, o1 + x.length * 5 + 2, none⟩ = some (.slice X2 0 x2) := hj 2 _ rfl
      have g0 : W1.cell? ⟨c1, o1 + (x.length + 1) * 5, none⟩ = some (.string mark2) := hl 0 _ rfl
      have g2 : W1.cell? ⟨c1, o1 + (x.length + 1) * 5 + 2, none⟩ = some (.slice Y2 0 y2) := hl 2 _ rfl
      unfold mark1 at f0
      unfold mark2 at g0
      have s1 : (x.length : Int) + 2 ≤ (ecap : Int) := by omega
      have s2 : (0 : Int) ≤ (x.length : Int) + 2 := by omega
      have s3 : ((x.length : Int) + 2).toNat = x.length + 2 := by omega
      have s4 : (x.length : Int) < (x.length : Int) + 2 := by omega
      have s5 : (x.length : Int) + 1 < (x.length : Int) + 2 := by omega
      have s6 : ((x.length : Int) + 1).toNat = x.length + 1 := by omega
      have s7 : IntKind.i64.wrap ((x.length : Int) + 1) = (x.length : Int) + 1 := IntWalk.i64_in _ (by omega)
      have s8 : (0 : Int) ≤ (x.length : Int) + 1 := by omega
      clear hj hl hy hy' hT hCc hDc
      go_wp2_with fail
      go_quiet (fail)
      go_wp2_with fail
      go_roundw
      case rel => exact ⟨k + 1, by omega, by go_num, Lib.hid (Qt.self _ _)⟩
      case measure => simp [intOf]; omega
    · go_wp2_with fail
      clear q20
      go_loopw [6, 7, 8] (fun i _ _ wr => ∃ k : Nat, k ≤ n.guards.length ∧ i = .int .i64 k ∧ Hid (Qt W1 wr)) (fun i _ _ _ => n.guards.length - (intOf i).toNat)
      case atStart => exact ⟨0, Nat.zero_le _, rfl, hq⟩
      case round =>
        clear hq hlt hk
        obtain ⟨k, hk, rfl, hq⟩ := hrel
        obtain ⟨m, rfl⟩ := hq.out
        by_cases hlt : k < n.guards.length
        · obtain ⟨b, off, rfl⟩ := SlOf.addr hg1.out (by omega)
          obtain ⟨_, c, x, hx, ⟨vx, hc, ⟨E, ecap, rfl, hT⟩⟩, hj⟩ := SlOf.el hg1.out hlt
          subst hc
          have e0 : W1.cell? ⟨b, off + k, none⟩ = some (.slice E x.length ecap) := by simpa using hj 0 _ rfl
          clear hj hx
          obtain ⟨E', ecap', hv, hel, hec⟩ := SlOf.form hT
          injection hv with h1 h2 h3
          subst h1 h3
          clear h2
          rw [List.length_append] at hel hec
          simp only [List.length_cons, List.length_nil, Nat.zero_add, Nat.reduceAdd] at hel hec
          obtain ⟨c1, o1, rfl⟩ := SlOf.addr hT (by simp)
          obtain ⟨_, c, y, hy, ⟨vc, hc, hCc⟩, hj⟩ := SlOf.el hT (k := x.length) (by simp)
          obtain ⟨_, d, y', hy', ⟨uc, hd, hDc⟩, hl⟩ := SlOf.el hT (k := x.length + 1) (by simp)
          have hy1 : (x ++ [markG mark1, markG mark2])[x.length]? = some (markG mark1) := by simp
          have hy2 : (x ++ [markG mark1, markG mark2])[x.length + 1]? = some (markG mark2) := by simp
          rw [hy] at hy1
          rw [hy'] at hy2
          obtain rfl := Option.some.inj hy1
          obtain rfl := Option.some.inj hy2
          subst hc hd
          obtain ⟨X2, x2, rfl, _, _⟩ := SlOf.form hCc
          obtain ⟨Y2, y2, rfl, _, _⟩ := SlOf.form hDc
          have hCc : Texts W1 B (.slice X2 1 x2) [mark1] := hCc
          have hDc : Texts W1 B (.slice Y2 1 y2) [mark2] := hDc
          obtain ⟨u1, p1, rfl⟩ := SlOf.addr hCc (by simp)
          obtain ⟨u2, p2, rfl⟩ := SlOf.addr hDc (by simp)
          obtain ⟨_, t1, ht1', _, k0⟩ := texts_el hCc (k := 0) (by simp)
          obtain ⟨_, t2, ht2', _, k1⟩ := texts_el hDc (k := 0) (by simp)
          simp only [List.getElem?_cons_zero, Option.some.injEq] at ht1' ht2'
          subst ht1' ht2'
          have f1 : W1.cell? ⟨c1, o1 + x.length * 2 + 1, none⟩ = some (.slice (some ⟨u1, p1, none⟩) 1 x2) := hj 1 _ rfl
          have g1 : W1.cell? ⟨c1, o1 + (x.length + 1) * 2 + 1, none⟩ = some (.slice (some ⟨u2, p2, none⟩) 1 y2) := hl 1 _ rfl
          rw [Nat.add_zero] at k0 k1
          unfold mark1 at k0
          unfold mark2 at k1
          have s1 : (x.length : Int) + 2 ≤ (ecap : Int) := by omega
          have s2 : (0 : Int) ≤ (x.length : Int) + 2 := by omega
          have s3 : ((x.length : Int) + 2).toNat = x.length + 2 := by omega
          have s4 : (x.length : Int) < (x.length : Int) + 2 := by omega
          have s5 : (x.length : Int) + 1 < (x.length : Int) + 2 := by omega
          have s6 : ((x.length : Int) + 1).toNat = x.length + 1 := by omega
          have s7 : IntKind.i64.wrap ((x.length : Int) + 1) = (x.length : Int) + 1 := IntWalk.i64_in _ (by omega)
          have s8 : (0 : Int) ≤ (x.length : Int) + 1 := by omega
          clear hj hl hy hy' hT hCc hDc
          go_wp2_with fail
          go_roundw
          case rel => exact ⟨k + 1, by omega, by go_num, Lib.hid (Qt.self _ _)⟩
          case measure => simp [intOf]; omega
        · go_wp2_with fail
          go_ret
          exact ⟨rfl, below_drewN hb0.out _⟩
end Go.Proofs.YtjokciofeicdkaaGreatDoor
