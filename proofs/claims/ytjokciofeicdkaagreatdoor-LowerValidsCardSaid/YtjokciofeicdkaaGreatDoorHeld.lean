/- Walks: reachref9.held. -/
import Derived.Test.YtjokciofeicdkaaGreatDoorHeldS
import Derived.Deep.RegionHeld3
namespace Go.Proofs.YtjokciofeicdkaaGreatDoor
open Go.RowKit

set_option maxHeartbeats 4000000 in
set_option maxRecDepth 100000 in
theorem held_dead (n : NetS) (v : Value) (B L : Nat) (w : World) (hn : KeptAt (dead w L) B v n) (hB : B ≤ w.heap.size) (hL : L ≤ w.heap.size) (hsm : SmallN n) :
    Calls Tryz.prog 17 #[v] w fun e w' => ∃ u, e = .returned u ∧ KeptAt (dead w' L) w'.heap.size u n ∧ Below w.heap.size w w' := by
  obtain ⟨vp, vt, vg, rfl, hp, ht, hg⟩ := hn
  obtain ⟨A, cap, rfl, hcl, hcap⟩ := SlOf.form hp
  obtain ⟨At, capt, rfl, hclt, hcapt⟩ := SlOf.form ht
  obtain ⟨Ag, capg, rfl, hclg, hcapg⟩ := SlOf.form hg
  obtain ⟨sp, st, sg, stt, sgg⟩ := hsm
  obtain ⟨W1, hW1⟩ : ∃ W1, w.alloc (.cells #[.int .i64 n.bits, .slice A n.ports.length cap, .slice At n.tables.length capt, .slice Ag n.guards.length capg] 26 (0, 0)) = W1 := ⟨_, rfl⟩
  obtain ⟨W2, hW2⟩ : ∃ W2, W1.alloc (.cells #[.int .i64 0, .slice none 0 0, .slice none 0 0, .slice none 0 0] 26 (0, 0)) = W2 := ⟨_, rfl⟩
  obtain ⟨W3, hW3⟩ : ∃ W3, W2.alloc (.cells #[.int .i64 n.bits, .slice none 0 0, .slice none 0 0, .slice none 0 0] 26 (0, 0)) = W3 := ⟨_, rfl⟩
  have z1 : W1.heap.size = w.heap.size + 1 := by rw [← hW1]; simp
  have z2 : W2.heap.size = w.heap.size + 2 := by rw [← hW2]; simp [z1]
  have z3 : W3.heap.size = w.heap.size + 3 := by rw [← hW3]; simp [z2]
  have b1 : Below w.heap.size w W1 := hW1 ▸ (Below.refl _ w).alloc (Nat.le_refl _) _
  have b2 : Below W1.heap.size W1 W2 := hW2 ▸ (Below.refl _ W1).alloc (Nat.le_refl _) _
  have b3 : Below W2.heap.size W2 W3 := hW3 ▸ (Below.refl _ W2).alloc (Nat.le_refl _) _
  have b23 : Below W1.heap.size W1 W3 := b2.trans (b3.mono (by omega))
  have b13 : Below w.heap.size w W3 := b1.trans (b23.mono (by omega))
  have hN0 : W3.heap[w.heap.size]? = some (.cells #[.int .i64 n.bits, .slice A n.ports.length cap, .slice At n.tables.length capt, .slice Ag n.guards.length capg] 26 (0, 0)) := by
    rw [b23.block _ (by omega), ← hW1]; exact heap_alloc_new w _
  have hC0 : W3.heap[w.heap.size + 1]? = some (.cells #[.int .i64 0, .slice none 0 0, .slice none 0 0, .slice none 0 0] 26 (0, 0)) := by
    rw [b3.block _ (by omega), ← hW2, ← z1]; exact heap_alloc_new W1 _
  have hK00 : KAt W3 (w.heap.size + 2) n.bits (.slice none 0 0) (.slice none 0 0) (.slice none 0 0) := by
    unfold KAt; rw [← hW3, ← z2]; exact heap_alloc_new W2 _
  have hp3 : Hid (SlOf 4 PortC W3 B (.slice A n.ports.length cap) n.ports) := Lib.hid (hp.keepI (Nat.le_refl _) (fun b o u hb h => belowI b13 hB b o u hb (deadOut b o u hb h)) fun _ _ h => h)
  have ht3 : Hid (SlOf 1 TabKC (dead W3 L) B (.slice At n.tables.length capt) n.tables) := Lib.hid (ht.keepI (Nat.le_refl _) (deadI (Nat.le_refl _) b13 hB) fun _ _ h => TabKC.keepI h (Nat.le_refl _) (deadI (Nat.le_refl _) b13 hB))
  have hg3 : Hid (SlOf 1 GuaKC (dead W3 L) B (.slice Ag n.guards.length capg) n.guards) := Lib.hid (hg.keepI (Nat.le_refl _) (deadI (Nat.le_refl _) b13 hB) fun _ _ h => GuaKC.keepI h (Nat.le_refl _) (deadI (Nat.le_refl _) b13 hB))
  have c0 : W1.cell? ⟨w.heap.size, 0, none⟩ = some (.int .i64 n.bits) := by rw [← hW1]; simp
  have c02 := (b2.cell (p := ⟨w.heap.size, 0, none⟩) (show w.heap.size < _ by omega)).trans c0
  have hN0 := Lib.hid hN0
  have hC0 := Lib.hid hC0
  have hb0 := Lib.hid b13
  have hz3 := Lib.hid z3
  have hK00 := Lib.hid hK00
  obtain ⟨i0, hi, hz0, hz1, hz2⟩ := info_parts infoPort
  have hi := Lib.hid hi; have hz0 := Lib.hid hz0; have hz1 := Lib.hid hz1; have hz2 := Lib.hid hz2
  have hW3h := Lib.hid hW3
  clear b1 b2 b3 b23 b13 hp ht hg hW3
  go_enter Tryz.func17, Tryz.ntmps17
  go_wp2_with fail
  rw [hW3h.out]
  clear hW1 hW2 hW3h c0 c02 z1 z2 z3
  go_loopw [4] (fun i wr => ∃ (k : Nat) (v1 : Value), k ≤ n.ports.length ∧ i = .int .i64 k ∧ Hid (KAt wr (w.heap.size + 2) n.bits v1 (.slice none 0 0) (.slice none 0 0)) ∧
    Hid (wr.ownsRow (w.heap.size + 3) 46 4 v1 k (((n.ports.take k).map portV).flatten)) ∧ Hid (Below (w.heap.size + 2) W3 wr)) (fun i _ => n.ports.length - (intOf i).toNat)
  case atStart => exact ⟨0, _, Nat.zero_le _, rfl, hK00, Lib.hid (World.ownsRow_nil _ _ _ _), Lib.hid (Below.refl _ _)⟩
  case round =>
    obtain ⟨k, v1, hk, rfl, hK0, hO, hbw⟩ := hrel
    obtain ⟨wq, rfl⟩ : ∃ wq, wq = wr := ⟨_, rfl⟩
    have hsz : w.heap.size + 3 ≤ wq.heap.size := by have := hK0.out.lt; omega
    have q1 : wq.cell? ⟨w.heap.size, 1, none⟩ = some (.slice A n.ports.length cap) := (hbw.out.cell (p := ⟨w.heap.size, 1, none⟩) (show w.heap.size < _ by omega)).trans (by simpa using cell_of_row W3 w.heap.size 1 _ _ (0, 0) hN0.out)
    by_cases hlt : k < n.ports.length
    · obtain ⟨b, off, rfl⟩ := SlOf.addr hp3.out (by omega)
      obtain ⟨hb, c, x, hx, ⟨hc, hxs⟩, hj⟩ := SlOf.el hp3.out hlt
      subst hc
      have hbB : b < w.heap.size + 2 := by omega
      have e0 : wq.cell? ⟨b, off + k * 4, none⟩ = some (.string x.name) := (hbw.out.cell (p := ⟨b, _, none⟩) hbB).trans (hj 0 _ rfl)
      have e1 : wq.cell? ⟨b, off + k * 4 + 1, none⟩ = some (.int .i64 x.box) := (hbw.out.cell (p := ⟨b, _, none⟩) hbB).trans (hj 1 _ rfl)
      have e2 : wq.cell? ⟨b, off + k * 4 + 2, none⟩ = some (.bool x.inn) := (hbw.out.cell (p := ⟨b, _, none⟩) hbB).trans (hj 2 _ rfl)
      have e3 : wq.cell? ⟨b, off + k * 4 + 3, none⟩ = some (.int .i64 x.dest) := (hbw.out.cell (p := ⟨b, _, none⟩) hbB).trans (hj 3 _ rfl)
      clear hj
      have hSS : Hid (∀ W, Below (w.heap.size + 2) wq W → W.cell? ⟨w.heap.size, 1, none⟩ = some (.slice (some ⟨b, off, none⟩) n.ports.length cap) ∧ W.cell? ⟨b, off + k * 4, none⟩ = some (.string x.name) ∧ W.cell? ⟨b, off + k * 4 + 1, none⟩ = some (.int .i64 x.box) ∧ W.cell? ⟨b, off + k * 4 + 2, none⟩ = some (.bool x.inn) ∧ W.cell? ⟨b, off + k * 4 + 3, none⟩ = some (.int .i64 x.dest)) :=
        Lib.hid fun W h => ⟨(h.cell (p := ⟨w.heap.size, 1, none⟩) (show w.heap.size < _ by omega)).trans q1, (h.cell (p := ⟨b, _, none⟩) hbB).trans e0, (h.cell (p := ⟨b, _, none⟩) hbB).trans e1, (h.cell (p := ⟨b, _, none⟩) hbB).trans e2, (h.cell (p := ⟨b, _, none⟩) hbB).trans e3⟩
      have k1 := hK0.out.c1
      have kf1 := hK0.out.free 1
      have k1a : ∀ o, (wq.alloc o).cell? ⟨w.heap.size + 2, 1, none⟩ = some v1 := fun o => (((Below.refl wq.heap.size wq).alloc (Nat.le_refl _) o).cell (p := ⟨w.heap.size + 2, 1, none⟩) (show w.heap.size + 2 < _ by omega)).trans k1
      have hlI : (k : Int) < (n.ports.length : Int) := by omega
      go_wp2_with fail
      refine wp_region_held_drew (S := (fun w' => w'.cell? ⟨w.heap.size, 1, none⟩ = some (.slice (some ⟨b, off, none⟩) n.ports.length cap) ∧ w'.cell? ⟨b, off + k * 4, none⟩ = some (.string x.name) ∧ w'.cell? ⟨b, off + k * 4 + 1, none⟩ = some (.int .i64 x.box) ∧ w'.cell? ⟨b, off + k * 4 + 2, none⟩ = some (.bool x.inn) ∧ w'.cell? ⟨b, off + k * 4 + 3, none⟩ = some (.int .i64 x.dest))) (by kernel_rfl) (by exact hSS.out _ ((Below.refl _ _).drew)) (fun hHeld => ?_)
      refine' wpAnyH_take (i := 0) (oi := _) (v := _) ?a0A ?b0A ?c0A ?d0A ?e0A (Or.inl ⟨?f0A, ?g0A⟩) hHeld ?h0A
      case a0A => (simp only [List.getElem?_toArray, List.getElem?_cons_zero]; exact rfl)
      case b0A => kernel_rfl
      case c0A => kernel_rfl
      case d0A => kernel_rfl
      case e0A => exact fun _ _ _ h => h
      case f0A => rfl
      case g0A => (intro w' hSw; obtain ⟨s0, s1, s2, s3, s4⟩ := hSw; go_simp; (try with_reducible rfl))
      simp only [Act.put, List.setIfInBounds_toArray, List.set_cons_zero, List.set_cons_succ]
      refine' wpAnyH_take (i := 2) (oi := _) (v := _) ?a2A ?b2A ?c2A ?d2A ?e2A (Or.inl ⟨?f2A, ?g2A⟩) hHeld ?h2A
      case a2A => (simp only [List.getElem?_toArray, List.getElem?_cons_succ, List.getElem?_cons_zero]; exact rfl)
      case b2A => kernel_rfl
      case c2A => kernel_rfl
      case d2A => kernel_rfl
      case e2A => exact fun _ _ _ h => h
      case f2A => rfl
      case g2A => (intro w' hSw; obtain ⟨s0, s1, s2, s3, s4⟩ := hSw; go_simp; (try with_reducible rfl))
      simp only [Act.put, List.setIfInBounds_toArray, List.set_cons_zero, List.set_cons_succ]
      refine' wpAnyH_take (i := 3) (oi := _) (v := _) ?a3A ?b3A ?c3A ?d3A ?e3A (Or.inl ⟨?f3A, ?g3A⟩) hHeld ?h3A
      case a3A => (simp only [List.getElem?_toArray, List.getElem?_cons_succ, List.getElem?_cons_zero]; exact rfl)
      case b3A => kernel_rfl
      case c3A => kernel_rfl
      case d3A => kernel_rfl
      case e3A => exact fun _ _ _ h => h
      case f3A => rfl
      case g3A => (intro w' hSw; obtain ⟨s0, s1, s2, s3, s4⟩ := hSw; go_simp; (try with_reducible rfl))
      simp only [Act.put, List.setIfInBounds_toArray, List.set_cons_zero, List.set_cons_succ]
      refine' wpAnyH_take (i := 4) (oi := _) (v := _) ?a4A ?b4A ?c4A ?d4A ?e4A (Or.inl ⟨?f4A, ?g4A⟩) hHeld ?h4A
      case a4A => (simp only [List.getElem?_toArray, List.getElem?_cons_succ, List.getElem?_cons_zero]; exact rfl)
      case b4A => kernel_rfl
      case c4A => kernel_rfl
      case d4A => kernel_rfl
      case e4A => exact fun _ _ _ h => h
      case f4A => rfl
      case g4A => (intro w' hSw; obtain ⟨s0, s1, s2, s3, s4⟩ := hSw; go_simp; (try with_reducible rfl))
      simp only [Act.put, List.setIfInBounds_toArray, List.set_cons_zero, List.set_cons_succ]
      refine' wpAnyH_take (i := 5) (oi := _) (v := _) ?a5A ?b5A ?c5A ?d5A ?e5A (Or.inl ⟨?f5A, ?g5A⟩) hHeld ?h5A
      case a5A => (simp only [List.getElem?_toArray, List.getElem?_cons_succ, List.getElem?_cons_zero]; exact rfl)
      case b5A => kernel_rfl
      case c5A => kernel_rfl
      case d5A => kernel_rfl
      case e5A => exact fun _ _ _ h => h
      case f5A => rfl
      case g5A => (intro w' hSw; obtain ⟨s0, s1, s2, s3, s4⟩ := hSw; go_simp; (try with_reducible rfl))
      simp only [Act.put, List.setIfInBounds_toArray, List.set_cons_zero, List.set_cons_succ]
      refine' wpAnyH_take (i := 6) (oi := _) (v := _) ?a6A ?b6A ?c6A ?d6A ?e6A (Or.inl ⟨?f6A, ?g6A⟩) hHeld ?h6A
      case a6A => (simp only [List.getElem?_toArray, List.getElem?_cons_succ, List.getElem?_cons_zero]; exact rfl)
      case b6A => kernel_rfl
      case c6A => kernel_rfl
      case d6A => kernel_rfl
      case e6A => exact fun _ _ _ h => h
      case f6A => rfl
      case g6A => (intro w' hSw; obtain ⟨s0, s1, s2, s3, s4⟩ := hSw; go_simp; (try with_reducible rfl))
      simp only [Act.put, List.setIfInBounds_toArray, List.set_cons_zero, List.set_cons_succ]
      refine wpAnyH_ready (rs := [1, 7]) (by kernel_rfl) (by simp) ?_
      refine' AllReadyH.cons (o := _) ?p1A (fun K hK => ?q1A) ?r1A
      case p1A => (simp only [List.getElem?_toArray, List.getElem?_cons_succ, List.getElem?_cons_zero]; exact rfl)
      go_simp
      refine hK.out _ _ ?_ (fun hHeld => ?_)
      · exact hHeld
      clear hK K
      (try simp only [Act.put, List.setIfInBounds_toArray, List.set_cons_zero, List.set_cons_succ])
      refine wpAnyH_ready (rs := [7]) (by kernel_rfl) (by simp) ?_
      refine' AllReadyH.cons (o := _) ?p7B (fun K hK => ?q7B) ?r7B
      case p7B => (simp only [List.getElem?_toArray, List.getElem?_cons_succ, List.getElem?_cons_zero]; exact rfl)
      case r7B => exact AllReadyH.nil
      go_simp
      refine hK.out _ _ ?_ (fun hHeld => ?_)
      · exact hSS.out _ (((Below.refl _ _).alloc (by omega) _).drew)
      clear hK K
      (try simp only [Act.put, List.setIfInBounds_toArray, List.set_cons_zero, List.set_cons_succ])
      refine wpAnyH_ready (rs := [8]) (by kernel_rfl) (by simp) ?_
      refine' AllReadyH.cons (o := _) ?p8C (fun K hK => ?q8C) ?r8C
      case p8C => (simp only [List.getElem?_toArray, List.getElem?_cons_succ, List.getElem?_cons_zero]; exact rfl)
      case r8C => exact AllReadyH.nil
      refine step_append_lies _ (by rfl) (.tmp 22) (.tmp 28) _ (by rfl) (w.heap.size + 3) 46 i0 _ 4 40 Tryz.underlying22 hi.out hz0.out hz1.out hz2.out rfl (by decide) v1 k (((n.ports.take k).map portV).flatten) (by rfl) ((hO.out.alloc _).drew) ⟨wq.heap.size, 0, none⟩ 1 1 (portV x) (by rfl) (by rfl) (World.news_of_block (heap_alloc_new wq _)) (by intro u hu; simp only [portV, List.mem_cons, List.not_mem_nil, or_false] at hu; rcases hu with rfl | rfl | rfl | rfl <;> rfl) (by decide) (by unfold maxLen; omega) (by omega) (by simp; omega) (wq.heap.size + 1) (by simp) ?_
      intro g cap1 w1 hown1 hgrow hat hg
      have hal : Below (w.heap.size + 3) wq w1 := (((Below.refl _ _).alloc (by omega) _).drew).grown hgrow (by simp; omega) (fun i hi => (hO.out.lt i hi).1)
      have hK1 := hK0.out.of_block (hal.block (w.heap.size + 2) (by omega))
      have c11 := hK1.c1
      have f11 := hK1.free 1
      refine hK.out _ _ ?_ (fun hHeld => ?_)
      · exact hSS.out _ (hal.mono (Nat.le_succ _))
      clear hK K
      (try simp only [Act.put, List.setIfInBounds_toArray, List.set_cons_zero, List.set_cons_succ])
      refine' wpAnyH_take (i := 9) (oi := _) (v := _) ?a9C ?b9C ?c9C ?d9C ?e9C (Or.inl ⟨?f9C, ?g9C⟩) hHeld ?h9C
      case a9C => (simp only [List.getElem?_toArray, List.getElem?_cons_succ, List.getElem?_cons_zero]; exact rfl)
      case b9C => kernel_rfl
      case c9C => kernel_rfl
      case d9C => kernel_rfl
      case e9C => exact fun _ _ _ h => h
      case f9C => rfl
      case g9C => (intro w' hSw; obtain ⟨s0, s1, s2, s3, s4⟩ := hSw; go_simp; (try with_reducible rfl))
      simp only [Act.put, List.setIfInBounds_toArray, List.set_cons_zero, List.set_cons_succ]
      refine wpAnyH_ready (rs := [10]) (by kernel_rfl) (by simp) ?_
      refine' AllReadyH.cons (o := _) ?p10C (fun K hK => ?q10C) ?r10C
      case p10C => (simp only [List.getElem?_toArray, List.getElem?_cons_succ, List.getElem?_cons_zero]; exact rfl)
      case r10C => exact AllReadyH.nil
      go_simp
      refine hK.out _ _ ?_ (fun hHeld => ?_)
      · exact hSS.out _ ((hal.mono (Nat.le_succ _)).setCell (Nat.le_refl _) _)
      clear hK K
      (try simp only [Act.put, List.setIfInBounds_toArray, List.set_cons_zero, List.set_cons_succ])
      refine wpAnyH_done (by kernel_rfl) ?_ _
      have hK2 := Lib.hid (hK1.set1 (.slice (some ⟨g, 0, none⟩) (k + 1) cap1))
      have hO2 := ownsRow_setCell_below hown1 (a := ⟨w.heap.size + 2, 1, none⟩) (by show w.heap.size + 2 < w.heap.size + 3; omega) (.slice (some ⟨g, 0, none⟩) (k + 1) cap1)
      have hts : (((n.ports.take (k + 1)).map portV).flatten) = (((n.ports.take k).map portV).flatten) ++ portV x := by rw [List.take_add_one, hx]; simp
      rw [← hts] at hO2
      have hO2 := Lib.hid hO2
      have hB2 := Lib.hid (hbw.out.trans ((hal.mono (Nat.le_succ _)).setCell (p := ⟨w.heap.size + 2, 1, none⟩) (Nat.le_refl _) (.slice (some ⟨g, 0, none⟩) (k + 1) cap1)))
      clear hHeld c11 f11 hK1 hown1 hgrow hal q1 e0 e1 e2 e3 k1 kf1 k1a
      go_wp2_with fail
      go_roundw
      case rel => exact ⟨k + 1, _, by omega, by go_num, hK2, hO2, hB2⟩
      case measure => simp [intOf]; omega
      refine' AllReadyH.cons (o := _) ?p7D (fun K hK => ?q7D) ?r7D
      case p7D => (simp only [List.getElem?_toArray, List.getElem?_cons_succ, List.getElem?_cons_zero]; exact rfl)
      case r7D => exact AllReadyH.nil
      go_simp
      refine hK.out _ _ ?_ (fun hHeld => ?_)
      · exact hSS.out _ (((Below.refl _ _).alloc (by omega) _).drew)
      clear hK K
      (try simp only [Act.put, List.setIfInBounds_toArray, List.set_cons_zero, List.set_cons_succ])
      refine wpAnyH_ready (rs := [1]) (by kernel_rfl) (by simp) ?_
      refine' AllReadyH.cons (o := _) ?p1E (fun K hK => ?q1E) ?r1E
      case p1E => (simp only [List.getElem?_toArray, List.getElem?_cons_succ, List.getElem?_cons_zero]; exact rfl)
      case r1E => exact AllReadyH.nil
      go_simp
      refine hK.out _ _ ?_ (fun hHeld => ?_)
      · exact hHeld
      clear hK K
      (try simp only [Act.put, List.setIfInBounds_toArray, List.set_cons_zero, List.set_cons_succ])
      refine wpAnyH_ready (rs := [8]) (by kernel_rfl) (by simp) ?_
      refine' AllReadyH.cons (o := _) ?p8F (fun K hK => ?q8F) ?r8F
      case p8F => (simp only [List.getElem?_toArray, List.getElem?_cons_succ, List.getElem?_cons_zero]; exact rfl)
      case r8F => exact AllReadyH.nil
      refine step_append_lies _ (by rfl) (.tmp 22) (.tmp 28) _ (by rfl) (w.heap.size + 3) 46 i0 _ 4 40 Tryz.underlying22 hi.out hz0.out hz1.out hz2.out rfl (by decide) v1 k (((n.ports.take k).map portV).flatten) (by rfl) ((hO.out.alloc _).drew) ⟨wq.heap.size, 0, none⟩ 1 1 (portV x) (by rfl) (by rfl) (World.news_of_block (heap_alloc_new wq _)) (by intro u hu; simp only [portV, List.mem_cons, List.not_mem_nil, or_false] at hu; rcases hu with rfl | rfl | rfl | rfl <;> rfl) (by decide) (by unfold maxLen; omega) (by omega) (by simp; omega) (wq.heap.size + 1) (by simp) ?_
      intro g cap1 w1 hown1 hgrow hat hg
      have hal : Below (w.heap.size + 3) wq w1 := (((Below.refl _ _).alloc (by omega) _).drew).grown hgrow (by simp; omega) (fun i hi => (hO.out.lt i hi).1)
      have hK1 := hK0.out.of_block (hal.block (w.heap.size + 2) (by omega))
      have c11 := hK1.c1
      have f11 := hK1.free 1
      refine hK.out _ _ ?_ (fun hHeld => ?_)
      · exact hSS.out _ (hal.mono (Nat.le_succ _))
      clear hK K
      (try simp only [Act.put, List.setIfInBounds_toArray, List.set_cons_zero, List.set_cons_succ])
      refine' wpAnyH_take (i := 9) (oi := _) (v := _) ?a9F ?b9F ?c9F ?d9F ?e9F (Or.inl ⟨?f9F, ?g9F⟩) hHeld ?h9F
      case a9F => (simp only [List.getElem?_toArray, List.getElem?_cons_succ, List.getElem?_cons_zero]; exact rfl)
      case b9F => kernel_rfl
      case c9F => kernel_rfl
      case d9F => kernel_rfl
      case e9F => exact fun _ _ _ h => h
      case f9F => rfl
      case g9F => (intro w' hSw; obtain ⟨s0, s1, s2, s3, s4⟩ := hSw; go_simp; (try with_reducible rfl))
      simp only [Act.put, List.setIfInBounds_toArray, List.set_cons_zero, List.set_cons_succ]
      refine wpAnyH_ready (rs := [10]) (by kernel_rfl) (by simp) ?_
      refine' AllReadyH.cons (o := _) ?p10F (fun K hK => ?q10F) ?r10F
      case p10F => (simp only [List.getElem?_toArray, List.getElem?_cons_succ, List.getElem?_cons_zero]; exact rfl)
      case r10F => exact AllReadyH.nil
      go_simp
      refine hK.out _ _ ?_ (fun hHeld => ?_)
      · exact hSS.out _ ((hal.mono (Nat.le_succ _)).setCell (Nat.le_refl _) _)
      clear hK K
      (try simp only [Act.put, List.setIfInBounds_toArray, List.set_cons_zero, List.set_cons_succ])
      refine wpAnyH_done (by kernel_rfl) ?_ _
      have hK2 := Lib.hid (hK1.set1 (.slice (some ⟨g, 0, none⟩) (k + 1) cap1))
      have hO2 := ownsRow_setCell_below hown1 (a := ⟨w.heap.size + 2, 1, none⟩) (by show w.heap.size + 2 < w.heap.size + 3; omega) (.slice (some ⟨g, 0, none⟩) (k + 1) cap1)
      have hts : (((n.ports.take (k + 1)).map portV).flatten) = (((n.ports.take k).map portV).flatten) ++ portV x := by rw [List.take_add_one, hx]; simp
      rw [← hts] at hO2
      have hO2 := Lib.hid hO2
      have hB2 := Lib.hid (hbw.out.trans ((hal.mono (Nat.le_succ _)).setCell (p := ⟨w.heap.size + 2, 1, none⟩) (Nat.le_refl _) (.slice (some ⟨g, 0, none⟩) (k + 1) cap1)))
      clear hHeld c11 f11 hK1 hown1 hgrow hal q1 e0 e1 e2 e3 k1 kf1 k1a
      go_wp2_with fail
      go_roundw
      case rel => exact ⟨k + 1, _, by omega, by go_num, hK2, hO2, hB2⟩
      case measure => simp [intOf]; omega
    · have hkp : k = n.ports.length := by omega
      subst hkp
      rw [List.take_length] at hO
      have hKs := hK0
      have hPs := hO
      have hBs := hbw
      obtain ⟨j0, hj0, hz0j0, hz1j0, hz2j0⟩ := info_parts infoEntry
      have hj0 := Lib.hid hj0; have hz0j0 := Lib.hid hz0j0; have hz1j0 := Lib.hid hz1j0; have hz2j0 := Lib.hid hz2j0
      obtain ⟨uj0, huj0, hzu0j0, hzu1j0, hzu2j0⟩ := info_parts infoTab
      have huj0 := Lib.hid huj0; have hzu0j0 := Lib.hid hzu0j0; have hzu1j0 := Lib.hid hzu1j0; have hzu2j0 := Lib.hid hzu2j0
      obtain ⟨j1, hj1, hz0j1, hz1j1, hz2j1⟩ := info_parts infoGuard
      have hj1 := Lib.hid hj1; have hz0j1 := Lib.hid hz0j1; have hz1j1 := Lib.hid hz1j1; have hz2j1 := Lib.hid hz2j1
      obtain ⟨uj1, huj1, hzu0j1, hzu1j1, hzu2j1⟩ := info_parts infoGua
      have huj1 := Lib.hid huj1; have hzu0j1 := Lib.hid hzu0j1; have hzu1j1 := Lib.hid hzu1j1; have hzu2j1 := Lib.hid hzu2j1
      go_wp2_with fail
      clear q1
      go_loopw [5, 6, 7] (fun i _ _ wr => ∃ (k : Nat) (v2 : Value) (vs : List Value), k ≤ n.tables.length ∧ i = .int .i64 k ∧ Hid (KAt wr (w.heap.size + 2) n.bits v1 v2 (.slice none 0 0)) ∧
        Hid (wr.ownsRow (w.heap.size + 3) 46 4 v1 n.ports.length ((n.ports.map portV).flatten)) ∧ Hid (wr.ownsRow (w.heap.size + 3) 47 1 v2 k vs) ∧ Hid (Done 52 5 EntryKC (dead W3 L) B (w.heap.size + 3) wr vs (n.tables.take k)) ∧ Hid (Below (w.heap.size + 2) W3 wr)) (fun i _ _ _ => n.tables.length - (intOf i).toNat)
      case atStart => exact ⟨0, _, [], Nat.zero_le _, rfl, hKs, hPs, Lib.hid (World.ownsRow_nil _ _ _ _), Lib.hid Done.nil, hBs⟩
      case round =>
        obtain ⟨k, v2, vs, hk, rfl, hK0, hP0, hO0, hD0, hbw⟩ := hrel
        obtain ⟨wo, rfl⟩ : ∃ wo, wo = wr := ⟨_, rfl⟩
        clear hKs hPs hBs
        have hsz : w.heap.size + 3 ≤ wo.heap.size := by have := hK0.out.lt; omega
        have q2 : wo.cell? ⟨w.heap.size, 2, none⟩ = some (.slice At n.tables.length capt) := (hbw.out.cell (p := ⟨w.heap.size, 2, none⟩) (show w.heap.size < _ by omega)).trans (by simpa using cell_of_row W3 w.heap.size 2 _ _ (0, 0) hN0.out)
        by_cases hlt : k < n.tables.length
        · obtain ⟨b, off, rfl⟩ := SlOf.addr ht3.out (by omega)
          obtain ⟨hb, c, x, hx, ⟨vx, hc, hT⟩, hj⟩ := SlOf.el ht3.out hlt
          subst hc
          have hbB : b < w.heap.size + 2 := by omega
          have e0 : wo.cell? ⟨b, off + k, none⟩ = some vx := (hbw.out.cell (p := ⟨b, _, none⟩) hbB).trans (dead_cell.1 (by simpa using hj 0 _ rfl)).2
          clear hj
          obtain ⟨A1, cap1, rfl, hcl1, hcap1⟩ := SlOf.form hT
          have hT := Lib.hid hT
          have hxl : x.length ≤ 1353245080301 := (stt x (List.mem_of_getElem? hx)).1
          go_wp2_with fail
          go_loopw [6, 7] (fun tv j wr => ∃ (i : Nat) (cs : List (List Value)), i ≤ x.length ∧ j = .int .i64 i ∧ Hid (RowsOf 5 EntryKC (dead W3 L) B cs (x.take i)) ∧ Hid (wr.ownsRow wo.heap.size 52 5 tv i cs.flatten) ∧ Hid (Below wo.heap.size wo wr)) (fun _ j _ => x.length - (intOf j).toNat)
          case atStart => exact ⟨0, [], Nat.zero_le _, rfl, Lib.hid RowsOf.nil, Lib.hid (World.ownsRow_nil _ _ _ _), Lib.hid (Below.refl _ _)⟩
          case round =>
            obtain ⟨i, cs, hi2, rfl, hRow, hOt, hbq⟩ := hrel
            obtain ⟨wq, rfl⟩ : ∃ wq, wq = wr := ⟨_, rfl⟩
            have hlw : wo.heap.size ≤ wq.heap.size := hbq.out.size
            have q2a := (hbq.out.cell (p := ⟨w.heap.size, 2, none⟩) (show w.heap.size < _ by omega)).trans q2
            have e0a := (hbq.out.cell (p := ⟨b, off + k, none⟩) (show b < _ by omega)).trans e0
            clear q2 e0
            by_cases hlt2 : i < x.length
            · obtain ⟨b1, off1, rfl⟩ := SlOf.addr hT.out (by omega)
              obtain ⟨hb1, c, g, hg, hER, hj⟩ := SlOf.el hT.out hlt2
              have hER0 := hER
              obtain ⟨vi, vc, vo, hc, hnm, hwr, ⟨A5, cap5, rfl, _⟩, ⟨A6, cap6, rfl, _⟩, ⟨A7, cap7, rfl, _⟩⟩ := hER
              subst hc
              have hb1B : b1 < wo.heap.size := by omega
              have hb1C : b1 < w.heap.size + 2 := by omega
              have f0 : wq.cell? ⟨b1, off1 + i * 5, none⟩ = some (.string g.name) := (hbq.out.cell (p := ⟨b1, _, none⟩) hb1B).trans ((hbw.out.cell (p := ⟨b1, _, none⟩) hb1C).trans (dead_cell.1 (hj 0 _ rfl)).2)
              have f1 : wq.cell? ⟨b1, off1 + i * 5 + 1, none⟩ = some (.slice A5 g.ins.length cap5) := (hbq.out.cell (p := ⟨b1, _, none⟩) hb1B).trans ((hbw.out.cell (p := ⟨b1, _, none⟩) hb1C).trans (dead_cell.1 (hj 1 _ rfl)).2)
              have f2 : wq.cell? ⟨b1, off1 + i * 5 + 2, none⟩ = some (.slice A6 g.cubes.length cap6) := (hbq.out.cell (p := ⟨b1, _, none⟩) hb1B).trans ((hbw.out.cell (p := ⟨b1, _, none⟩) hb1C).trans (dead_cell.1 (hj 2 _ rfl)).2)
              have f3 : wq.cell? ⟨b1, off1 + i * 5 + 3, none⟩ = some (.string g.write) := (hbq.out.cell (p := ⟨b1, _, none⟩) hb1B).trans ((hbw.out.cell (p := ⟨b1, _, none⟩) hb1C).trans (dead_cell.1 (hj 3 _ rfl)).2)
              have f4 : wq.cell? ⟨b1, off1 + i * 5 + 4, none⟩ = some (.slice A7 g.outs.length cap7) := (hbq.out.cell (p := ⟨b1, _, none⟩) hb1B).trans ((hbw.out.cell (p := ⟨b1, _, none⟩) hb1C).trans (dead_cell.1 (hj 4 _ rfl)).2)
              clear hj
              have hRow2 := Lib.hid (hRow.out.snoc hg rfl hER0)
              go_wp2_with (at_builtin; refine wpList_append_lies _ rfl (.tmp 48) (.tmp 57) _ rfl wo.heap.size 52 j0 _ 5 104 Tryz.underlying47 hj0.out hz0j0.out hz1j0.out hz2j0.out rfl (by decide) u6 i cs.flatten rfl (hOt.out.alloc _) ⟨wq.heap.size, 0, none⟩ 1 1 [.string g.name, .slice A5 g.ins.length cap5, .slice A6 g.cubes.length cap6, .string g.write, .slice A7 g.outs.length cap7] rfl rfl (World.news_of_block (heap_alloc_new wq _)) (by intro u hu; simp only [List.mem_cons, List.not_mem_nil, or_false] at hu; rcases hu with rfl | rfl | rfl | rfl | rfl <;> rfl) (by decide) (by unfold maxLen; omega) (by omega) (by simp; omega) (wq.heap.size + 1) (by simp) ?_; intro gg capg1 w4 hown4 hg4 hat4 hgl4)
              have hown4' : Hid (w4.ownsRow wo.heap.size 52 5 (.slice (some ⟨gg, 0, none⟩) (i + 1) capg1) (i + 1) (cs ++ [([.string g.name, .slice A5 g.ins.length cap5, .slice A6 g.cubes.length cap6, .string g.write, .slice A7 g.outs.length cap7] : List Value)]).flatten) := Lib.hid (by rw [List.flatten_append]; simpa using hown4)
              have hbq2 := Lib.hid ((hbq.out.alloc hlw _).grown hg4 (by simp; omega) (fun i hi => (hOt.out.lt i hi).1))
              clear hown4 hg4 hat4 hgl4 q2a e0a f0 f1 f2 f3 f4
              go_roundw
              case rel => exact ⟨i + 1, _, by omega, by go_num, hRow2, hown4', hbq2⟩
              case measure => simp [intOf]; omega
            · have hix : i = x.length := by omega
              subst hix
              have hRow2 := hRow.out
              rw [List.take_length] at hRow2
              have hRow2 := Lib.hid hRow2
              obtain ⟨A9, l9, c9, rfl⟩ : ∃ A l c, u6 = .slice A l c := by
                rcases Go.Joins.ownsRow_forms hOt.out with ⟨h, _⟩ | ⟨g, cp, h⟩
                · exact ⟨_, _, _, h⟩
                · exact ⟨_, _, _, h⟩
              have hK1 := hK0.out.of_block (hbq.out.block _ (by omega))
              have m2 := hK1.c2
              have hO1 := Lib.hid (own_old hO0.out hbq.out)
              have hP1 := Lib.hid (own_old hP0.out hbq.out)
              have hD1 := Lib.hid (hD0.out.keep fun _ _ _ h => own_old h hbq.out)
              have hOt1 := Lib.hid (Go.Joins.ownsRow_le hOt.out hsz)
              have hK1 := Lib.hid hK1
              have hbw1 := Lib.hid (hbw.out.trans (hbq.out.mono (by omega)))
              go_wp2_with (at_builtin; refine wpList_append_lies _ rfl (.tmp 60) (.tmp 62) _ rfl (w.heap.size + 3) 47 uj0 _ 1 24 Tryz.underlying23 huj0.out hzu0j0.out hzu1j0.out hzu2j0.out rfl (by decide) v2 k vs rfl (hO1.out.alloc _) ⟨wq.heap.size, 0, none⟩ 1 1 [.slice A9 l9 c9] rfl rfl (World.news_of_block (heap_alloc_new wq _)) (by intro u hu; simp only [List.mem_cons, List.not_mem_nil, or_false] at hu; subst hu; rfl) (by decide) (by unfold maxLen; omega) (by omega) (by simp; omega) (wq.heap.size + 1) (by simp) ?_; intro gg capg1 w5 hown5 hg5 hat5 hgl5; have hal := ((Below.refl (w.heap.size + 3) wq).alloc (by omega) (.cells #[.slice A9 l9 c9] 47 (0, 0))).grown hg5 (by simp; omega) (fun i hi => (hO1.out.lt i hi).1); have hK5 := hK1.out.of_block (hal.block (w.heap.size + 2) (by omega)); have m5 := hK5.c2; have mf5 := hK5.free 2)
              have hK6 := Lib.hid (hK5.set2 (.slice (some ⟨gg, 0, none⟩) (k + 1) capg1))
              have hset : ∀ (e s : Nat) (v : Value) (m : Nat) (xs : List Value), w5.ownsRow (w.heap.size + 3) e s v m xs → (w5.setCell ⟨w.heap.size + 2, 2, none⟩ (.slice (some ⟨gg, 0, none⟩) (k + 1) capg1)).ownsRow (w.heap.size + 3) e s v m xs := fun e s v m xs h =>
                ownsRow_setCell_below h (a := ⟨w.heap.size + 2, 2, none⟩) (by show w.heap.size + 2 < w.heap.size + 3; omega) _
              have hfar : ∀ (e s : Nat) (v : Value) (m : Nat) (xs : List Value), wq.ownsRow (w.heap.size + 3) e s v m xs → e ≠ 47 → (w5.setCell ⟨w.heap.size + 2, 2, none⟩ (.slice (some ⟨gg, 0, none⟩) (k + 1) capg1)).ownsRow (w.heap.size + 3) e s v m xs := fun e s v m xs h he =>
                hset _ _ _ _ _ ((h.alloc _).kept hg5 (own_type_ne h hO1.out he))
              have hO6 := Lib.hid (hset _ _ _ _ _ hown5)
              have hP6 := Lib.hid (hfar _ _ _ _ _ hP1.out (by decide))
              have hD6 := Lib.hid ((hD1.out.keep (wr' := w5.setCell ⟨w.heap.size + 2, 2, none⟩ (.slice (some ⟨gg, 0, none⟩) (k + 1) capg1)) fun _ _ _ h => hfar _ _ _ _ _ h (by decide)).snoc hx hRow2.out (hfar _ _ _ _ _ hOt1.out (by decide)))
              have hB6 := Lib.hid (hbw1.out.trans ((hal.mono (Nat.le_succ _)).setCell (p := ⟨w.heap.size + 2, 2, none⟩) (Nat.le_refl _) (.slice (some ⟨gg, 0, none⟩) (k + 1) capg1)))
              clear hset hfar hal hK5 hown5 hg5 hat5 hgl5 m2 m5 mf5 q2a e0a
              go_roundw
              case rel => exact ⟨k + 1, _, _, by omega, by go_num, hK6, hP6, hO6, hD6, hB6⟩
              case measure => simp [intOf]; omega
        · have hkx : k = n.tables.length := by omega
          subst hkx
          have hD1 := hD0.out
          rw [List.take_length] at hD1
          have hD1 := Lib.hid hD1
          have hKs := hK0
          have hPs := hP0
          have hTs := hO0
          have hDs := hD1
          have hBs := hbw
          clear hO0 hD0 hD1 hP0
          go_wp2_with fail
          clear q2
          obtain ⟨vs2, hvs2⟩ : ∃ vs2, vs2 = vs := ⟨_, rfl⟩
          rw [← hvs2] at hTs hDs
          clear hvs2
          go_loopw [8, 9, 10] (fun i _ _ wr => ∃ (k : Nat) (v3 : Value) (vs : List Value), k ≤ n.guards.length ∧ i = .int .i64 k ∧ Hid (KAt wr (w.heap.size + 2) n.bits v1 v2 v3) ∧
            Hid (wr.ownsRow (w.heap.size + 3) 46 4 v1 n.ports.length ((n.ports.map portV).flatten)) ∧ Hid (wr.ownsRow (w.heap.size + 3) 47 1 v2 n.tables.length vs2) ∧ Hid (Done 52 5 EntryKC (dead W3 L) B (w.heap.size + 3) wr vs2 n.tables) ∧ Hid (wr.ownsRow (w.heap.size + 3) 53 1 v3 k vs) ∧ Hid (Done 56 2 GuardKC (dead W3 L) B (w.heap.size + 3) wr vs (n.guards.take k)) ∧ Hid (Below (w.heap.size + 2) W3 wr)) (fun i _ _ _ => n.guards.length - (intOf i).toNat)
          case atStart => exact ⟨0, _, [], Nat.zero_le _, rfl, hKs, hPs, hTs, hDs, Lib.hid (World.ownsRow_nil _ _ _ _), Lib.hid Done.nil, hBs⟩
          case round =>
            obtain ⟨k, v3, vs, hk, rfl, hK0, hP0, hT0, hE0, hO0, hD0, hbw⟩ := hrel
            obtain ⟨wo, rfl⟩ : ∃ wo, wo = wr := ⟨_, rfl⟩
            clear hKs hPs hBs hTs hDs
            have hsz : w.heap.size + 3 ≤ wo.heap.size := by have := hK0.out.lt; omega
            have q2 : wo.cell? ⟨w.heap.size, 3, none⟩ = some (.slice Ag n.guards.length capg) := (hbw.out.cell (p := ⟨w.heap.size, 3, none⟩) (show w.heap.size < _ by omega)).trans (by simpa using cell_of_row W3 w.heap.size 3 _ _ (0, 0) hN0.out)
            by_cases hlt : k < n.guards.length
            · obtain ⟨b, off, rfl⟩ := SlOf.addr hg3.out (by omega)
              obtain ⟨hb, c, x, hx, ⟨vx, hc, hT⟩, hj⟩ := SlOf.el hg3.out hlt
              subst hc
              have hbB : b < w.heap.size + 2 := by omega
              have e0 : wo.cell? ⟨b, off + k, none⟩ = some vx := (hbw.out.cell (p := ⟨b, _, none⟩) hbB).trans (dead_cell.1 (by simpa using hj 0 _ rfl)).2
              clear hj
              obtain ⟨A1, cap1, rfl, hcl1, hcap1⟩ := SlOf.form hT
              have hT := Lib.hid hT
              have hxl : x.length ≤ 4398046510977 := (sgg x (List.mem_of_getElem? hx)).1
              go_wp2_with fail
              go_loopw [9, 10] (fun tv j wr => ∃ (i : Nat) (cs : List (List Value)), i ≤ x.length ∧ j = .int .i64 i ∧ Hid (RowsOf 2 GuardKC (dead W3 L) B cs (x.take i)) ∧ Hid (wr.ownsRow wo.heap.size 56 2 tv i cs.flatten) ∧ Hid (Below wo.heap.size wo wr)) (fun _ j _ => x.length - (intOf j).toNat)
              case atStart => exact ⟨0, [], Nat.zero_le _, rfl, Lib.hid RowsOf.nil, Lib.hid (World.ownsRow_nil _ _ _ _), Lib.hid (Below.refl _ _)⟩
              case round =>
                obtain ⟨i, cs, hi2, rfl, hRow, hOt, hbq⟩ := hrel
                obtain ⟨wq, rfl⟩ : ∃ wq, wq = wr := ⟨_, rfl⟩
                have hlw : wo.heap.size ≤ wq.heap.size := hbq.out.size
                have q2a := (hbq.out.cell (p := ⟨w.heap.size, 3, none⟩) (show w.heap.size < _ by omega)).trans q2
                have e0a := (hbq.out.cell (p := ⟨b, off + k, none⟩) (show b < _ by omega)).trans e0
                clear q2 e0
                by_cases hlt2 : i < x.length
                · obtain ⟨b1, off1, rfl⟩ := SlOf.addr hT.out (by omega)
                  obtain ⟨hb1, c, g, hg, hER, hj⟩ := SlOf.el hT.out hlt2
                  have hER0 := hER
                  obtain ⟨vc, hc, ⟨A6, cap6, rfl, _⟩⟩ := hER
                  subst hc
                  have hb1B : b1 < wo.heap.size := by omega
                  have hb1C : b1 < w.heap.size + 2 := by omega
                  have f0 : wq.cell? ⟨b1, off1 + i * 2, none⟩ = some (.bool g.permit) := (hbq.out.cell (p := ⟨b1, _, none⟩) hb1B).trans ((hbw.out.cell (p := ⟨b1, _, none⟩) hb1C).trans (dead_cell.1 (hj 0 _ rfl)).2)
                  have f1 : wq.cell? ⟨b1, off1 + i * 2 + 1, none⟩ = some (.slice A6 g.cubes.length cap6) := (hbq.out.cell (p := ⟨b1, _, none⟩) hb1B).trans ((hbw.out.cell (p := ⟨b1, _, none⟩) hb1C).trans (dead_cell.1 (hj 1 _ rfl)).2)
                  clear hj
                  have hRow2 := Lib.hid (hRow.out.snoc hg rfl hER0)
                  go_wp2_with (at_builtin; refine wpList_append_lies _ rfl (.tmp 82) (.tmp 91) _ rfl wo.heap.size 56 j1 _ 2 32 Tryz.underlying53 hj1.out hz0j1.out hz1j1.out hz2j1.out rfl (by decide) u9 i cs.flatten rfl (hOt.out.alloc _) ⟨wq.heap.size, 0, none⟩ 1 1 [.bool g.permit, .slice A6 g.cubes.length cap6] rfl rfl (World.news_of_block (heap_alloc_new wq _)) (by intro u hu; simp only [List.mem_cons, List.not_mem_nil, or_false] at hu; rcases hu with rfl | rfl <;> rfl) (by decide) (by unfold maxLen; omega) (by omega) (by simp; omega) (wq.heap.size + 1) (by simp) ?_; intro gg capg1 w4 hown4 hg4 hat4 hgl4)
                  have hown4' : Hid (w4.ownsRow wo.heap.size 56 2 (.slice (some ⟨gg, 0, none⟩) (i + 1) capg1) (i + 1) (cs ++ [([.bool g.permit, .slice A6 g.cubes.length cap6] : List Value)]).flatten) := Lib.hid (by rw [List.flatten_append]; simpa using hown4)
                  have hbq2 := Lib.hid ((hbq.out.alloc hlw _).grown hg4 (by simp; omega) (fun i hi => (hOt.out.lt i hi).1))
                  clear hown4 hg4 hat4 hgl4 q2a e0a f0 f1
                  go_roundw
                  case rel => exact ⟨i + 1, _, by omega, by go_num, hRow2, hown4', hbq2⟩
                  case measure => simp [intOf]; omega
                · have hix : i = x.length := by omega
                  subst hix
                  have hRow2 := hRow.out
                  rw [List.take_length] at hRow2
                  have hRow2 := Lib.hid hRow2
                  obtain ⟨A9, l9, c9, rfl⟩ : ∃ A l c, u9 = .slice A l c := by
                    rcases Go.Joins.ownsRow_forms hOt.out with ⟨h, _⟩ | ⟨g, cp, h⟩
                    · exact ⟨_, _, _, h⟩
                    · exact ⟨_, _, _, h⟩
                  have hK1 := hK0.out.of_block (hbq.out.block _ (by omega))
                  have m2 := hK1.c3
                  have hO1 := Lib.hid (own_old hO0.out hbq.out)
                  have hP1 := Lib.hid (own_old hP0.out hbq.out)
                  have hD1 := Lib.hid (hD0.out.keep fun _ _ _ h => own_old h hbq.out)
                  have hOt1 := Lib.hid (Go.Joins.ownsRow_le hOt.out hsz)
                  have hT1 := Lib.hid (own_old hT0.out hbq.out)
                  have hE1 := Lib.hid (hE0.out.keep fun _ _ _ h => own_old h hbq.out)
                  have hK1 := Lib.hid hK1
                  have hbw1 := Lib.hid (hbw.out.trans (hbq.out.mono (by omega)))
                  go_wp2_with (at_builtin; refine wpList_append_lies _ rfl (.tmp 94) (.tmp 96) _ rfl (w.heap.size + 3) 53 uj1 _ 1 24 Tryz.underlying24 huj1.out hzu0j1.out hzu1j1.out hzu2j1.out rfl (by decide) v3 k vs rfl (hO1.out.alloc _) ⟨wq.heap.size, 0, none⟩ 1 1 [.slice A9 l9 c9] rfl rfl (World.news_of_block (heap_alloc_new wq _)) (by intro u hu; simp only [List.mem_cons, List.not_mem_nil, or_false] at hu; subst hu; rfl) (by decide) (by unfold maxLen; omega) (by omega) (by simp; omega) (wq.heap.size + 1) (by simp) ?_; intro gg capg1 w5 hown5 hg5 hat5 hgl5; have hal := ((Below.refl (w.heap.size + 3) wq).alloc (by omega) (.cells #[.slice A9 l9 c9] 53 (0, 0))).grown hg5 (by simp; omega) (fun i hi => (hO1.out.lt i hi).1); have hK5 := hK1.out.of_block (hal.block (w.heap.size + 2) (by omega)); have m5 := hK5.c3; have mf5 := hK5.free 3)
                  have hK6 := Lib.hid (hK5.set3 (.slice (some ⟨gg, 0, none⟩) (k + 1) capg1))
                  have hset : ∀ (e s : Nat) (v : Value) (m : Nat) (xs : List Value), w5.ownsRow (w.heap.size + 3) e s v m xs → (w5.setCell ⟨w.heap.size + 2, 3, none⟩ (.slice (some ⟨gg, 0, none⟩) (k + 1) capg1)).ownsRow (w.heap.size + 3) e s v m xs := fun e s v m xs h =>
                    ownsRow_setCell_below h (a := ⟨w.heap.size + 2, 3, none⟩) (by show w.heap.size + 2 < w.heap.size + 3; omega) _
                  have hfar : ∀ (e s : Nat) (v : Value) (m : Nat) (xs : List Value), wq.ownsRow (w.heap.size + 3) e s v m xs → e ≠ 53 → (w5.setCell ⟨w.heap.size + 2, 3, none⟩ (.slice (some ⟨gg, 0, none⟩) (k + 1) capg1)).ownsRow (w.heap.size + 3) e s v m xs := fun e s v m xs h he =>
                    hset _ _ _ _ _ ((h.alloc _).kept hg5 (own_type_ne h hO1.out he))
                  have hO6 := Lib.hid (hset _ _ _ _ _ hown5)
                  have hP6 := Lib.hid (hfar _ _ _ _ _ hP1.out (by decide))
                  have hD6 := Lib.hid ((hD1.out.keep (wr' := w5.setCell ⟨w.heap.size + 2, 3, none⟩ (.slice (some ⟨gg, 0, none⟩) (k + 1) capg1)) fun _ _ _ h => hfar _ _ _ _ _ h (by decide)).snoc hx hRow2.out (hfar _ _ _ _ _ hOt1.out (by decide)))
                  have hT6 := Lib.hid (hfar _ _ _ _ _ hT1.out (by decide))
                  have hE6 := Lib.hid (hE1.out.keep (wr' := w5.setCell ⟨w.heap.size + 2, 3, none⟩ (.slice (some ⟨gg, 0, none⟩) (k + 1) capg1)) fun _ _ _ h => hfar _ _ _ _ _ h (by decide))
                  have hB6 := Lib.hid (hbw1.out.trans ((hal.mono (Nat.le_succ _)).setCell (p := ⟨w.heap.size + 2, 3, none⟩) (Nat.le_refl _) (.slice (some ⟨gg, 0, none⟩) (k + 1) capg1)))
                  clear hset hfar hal hK5 hown5 hg5 hat5 hgl5 m2 m5 mf5 q2a e0a
                  go_roundw
                  case rel => exact ⟨k + 1, _, _, by omega, by go_num, hK6, hP6, hT6, hE6, hO6, hD6, hB6⟩
                  case measure => simp [intOf]; omega
            · have hkx : k = n.guards.length := by omega
              subst hkx
              have hD1 := hD0.out
              rw [List.take_length] at hD1
              have hD1 := Lib.hid hD1
              have hCw := (hbw.out.block (w.heap.size + 1) (by omega)).trans hC0.out
              have y0 : wo.cell? ⟨w.heap.size + 1, 0, none⟩ = some (.int .i64 0) := by simpa using cell_of_row wo (w.heap.size + 1) 0 _ _ (0, 0) hCw
              have yf0 : wo.frozen? ⟨w.heap.size + 1, 0, none⟩ = false := by simp [World.frozen?, hCw]
              have y1 : wo.cell? ⟨w.heap.size + 1, 1, none⟩ = some (.slice none 0 0) := by simpa using cell_of_row wo (w.heap.size + 1) 1 _ _ (0, 0) hCw
              have yf1 : wo.frozen? ⟨w.heap.size + 1, 1, none⟩ = false := by simp [World.frozen?, hCw]
              have y2 : wo.cell? ⟨w.heap.size + 1, 2, none⟩ = some (.slice none 0 0) := by simpa using cell_of_row wo (w.heap.size + 1) 2 _ _ (0, 0) hCw
              have yf2 : wo.frozen? ⟨w.heap.size + 1, 2, none⟩ = false := by simp [World.frozen?, hCw]
              have y3 : wo.cell? ⟨w.heap.size + 1, 3, none⟩ = some (.slice none 0 0) := by simpa using cell_of_row wo (w.heap.size + 1) 3 _ _ (0, 0) hCw
              have yf3 : wo.frozen? ⟨w.heap.size + 1, 3, none⟩ = false := by simp [World.frozen?, hCw]
              have m0 := hK0.out.c0
              have m1 := hK0.out.c1
              have m2 := hK0.out.c2
              have m3 := hK0.out.c3
              obtain ⟨x1, l1, g1, rfl⟩ : ∃ A l c, v1 = .slice A l c := by
                rcases Go.Joins.ownsRow_forms hP0.out with ⟨h, _⟩ | ⟨g, cp, h⟩
                · exact ⟨_, _, _, h⟩
                · exact ⟨_, _, _, h⟩
              obtain ⟨x2, l2, g2, rfl⟩ : ∃ A l c, v2 = .slice A l c := by
                rcases Go.Joins.ownsRow_forms hT0.out with ⟨h, _⟩ | ⟨g, cp, h⟩
                · exact ⟨_, _, _, h⟩
                · exact ⟨_, _, _, h⟩
              obtain ⟨x3, l3, g3, rfl⟩ : ∃ A l c, v3 = .slice A l c := by
                rcases Go.Joins.ownsRow_forms hO0.out with ⟨h, _⟩ | ⟨g, cp, h⟩
                · exact ⟨_, _, _, h⟩
                · exact ⟨_, _, _, h⟩
              have hfin := Lib.hid (held_end (L := L) (W := setRow wo (w.heap.size + 1) 0 [.int .i64 n.bits, .slice x1 l1 g1, .slice x2 l2 g2, .slice x3 l3 g3]) (by rw [setRow_size]; omega) hB hL ⟨sp, st, sg, stt, sgg⟩ hp3.out (setRow_below (B := w.heap.size + 1) (Nat.le_refl _) _ 0 W3 wo (hbw.out.mono (by omega)))
                (own_set3 hP0.out) (own_set3 hT0.out) (own_set3 hO0.out) (hE0.out.keep fun _ _ _ h => own_set3 h) (hD1.out.keep fun _ _ _ h => own_set3 h))
              have hbz := Lib.hid (hb0.out.trans (setRow_below (B := w.heap.size) (Nat.le_succ _) [.int .i64 n.bits, .slice x1 l1 g1, .slice x2 l2 g2, .slice x3 l3 g3] 0 W3 wo (hbw.out.mono (by omega))))
              go_wp2_with fail
              refine bodyPost_ret (v := .agg #[.int .i64 n.bits, .slice x1 l1 g1, .slice x2 l2 g2, .slice x3 l3 g3]) (by simp [results, Tryz.results17, go_sem, y0, y1, y2, y3]) rfl ?_
              exact ⟨_, rfl, hfin.out, hbz.out⟩
end Go.Proofs.YtjokciofeicdkaaGreatDoor
