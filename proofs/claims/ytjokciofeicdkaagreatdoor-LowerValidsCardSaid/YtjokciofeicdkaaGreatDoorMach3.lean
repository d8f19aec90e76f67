/- Walks: the scanner's machine: endLine. -/
import Derived.Test.YtjokciofeicdkaaGreatDoorMach2
namespace Go.Proofs.YtjokciofeicdkaaGreatDoor
open Go.RowKit

attribute [local go_sem ↓] Go.wp_at_zero Go.wp_at_succ

set_option maxHeartbeats 2000000 in
set_option maxRecDepth 100000 in
theorem endLine_any (M : Nat) (m : Mach) (n : Nat) (xs : List Value) (w : World) (hm : MachAt w M m) (hown : w.ownsRow (M + 1) 76 4 m.toks n xs) (hn : n ≤ 8589934592)
    (hp : m.pos ≤ m.text.size) (ht : m.text.size ≤ 4294967295) (hl0 : 0 ≤ m.line) (hl1 : m.line ≤ 4611686018427387904) :
    Calls Tryz.prog 64 #[.pointer (some ⟨M, 0, none⟩)] w fun e w' => e = .returned (.tuple #[]) ∧ ∃ v,
      MachAt w' M { m with pos := m.pos + 1, line := m.line + 1, col := 1, opn := false, toks := v } ∧
      w'.ownsRow (M + 1) 76 4 v (if m.opn then n + 1 else n) (if m.opn then xs ++ tokC 1 ⟨#[10]⟩ m.line m.col else xs) ∧ Below M w w' := by
  obtain ⟨text, pos, line, col, opn, toks⟩ := m
  dsimp only at *
  have q1 := hm.c1
  have q2 := hm.c2
  have q3 := hm.c3
  have q4 := hm.c4
  have q5 := hm.c5
  have hM := Lib.hid hm
  have hO := Lib.hid hown
  have hne := Lib.hid (own_ne_mach hown hm)
  have hfz := hm.free 5
  have hlt := hm.lt
  clear hm hown
  dsimp only at q1 q2 q3 q4 q5
  have bw : IntKind.i64.wrap ((pos : Int) + 1) = (pos : Int) + 1 := IntWalk.i64_in _ (by omega)
  have bl : IntKind.i64.wrap (line + 1) = line + 1 := IntWalk.i64_in _ (by omega)
  obtain ⟨i0, hi, hz0, hz1, hz2⟩ := info_parts tok_info
  have hi := Lib.hid hi; have hz0 := Lib.hid hz0; have hz1 := Lib.hid hz1; have hz2 := Lib.hid hz2
  have n5 := World.new_ne w ⟨M, 5, none⟩ q5
  cases opn with
  | false =>
    have hO2 := hO
    have hB2 := Lib.hid (Below.refl M w)
    have hM2 := hM
    go_enter Tryz.func64, Tryz.ntmps64
    clear q1 q2 q3 q4 q5 hfz n5
    have q1 := hM2.out.c1
    have q2 := hM2.out.c2
    have f4 := hM2.out.free 4
    have q4 := hM2.out.c4
    have f1 := hM2.out.free 1
    have f2 := hM2.out.free 2
    have f3 := hM2.out.free 3
    have q3 := hM2.out.c3
    dsimp only at q1 q2 q3 q4
    go_wp2_with fail
    go_end0
    have hM3 := (((hM2.out.set (m' := { text := text, pos := pos, line := line, col := col, opn := false, toks := toks }) 4 (.bool false) rfl).set (m' := { text := text, pos := pos + 1, line := line, col := col, opn := false, toks := toks }) 1 (.int .i64 ((pos : Int) + 1)) rfl).set (m' := { text := text, pos := pos + 1, line := line + 1, col := col, opn := false, toks := toks }) 2 (.int .i64 (line + 1)) rfl).set (m' := { text := text, pos := pos + 1, line := line + 1, col := 1, opn := false, toks := toks }) 3 (.int .i64 1) rfl
    refine ⟨rfl, _, hM3, ?_, ?_⟩
    · exact ownsRow_setCell_below (ownsRow_setCell_below (ownsRow_setCell_below (ownsRow_setCell_below hO2.out (a := ⟨M, 4, none⟩) (by show M < M + 1; omega) _) (a := ⟨M, 1, none⟩) (by show M < M + 1; omega) _) (a := ⟨M, 2, none⟩) (by show M < M + 1; omega) _) (a := ⟨M, 3, none⟩) (by show M < M + 1; omega) _
    · exact (((hB2.out.setCell (p := ⟨M, 4, none⟩) (Nat.le_refl M) _).setCell (p := ⟨M, 1, none⟩) (Nat.le_refl M) _).setCell (p := ⟨M, 2, none⟩) (Nat.le_refl M) _).setCell (p := ⟨M, 3, none⟩) (Nat.le_refl M) _
  | true =>
    go_enter Tryz.func64, Tryz.ntmps64
    go_wp2_with fail
    refine wp_region_held_drew (S := (fun w' => w'.cell? ⟨M, 2, none⟩ = some (.int .i64 line) ∧ w'.cell? ⟨M, 3, none⟩ = some (.int .i64 col))) (by kernel_rfl) ⟨q2, q3⟩ (fun hHeld => ?_)
    refine' wpAnyH_take (i := 0) (oi := _) (v := _) ?a0 ?b0 ?c0 ?d0 ?e0 (Or.inl ⟨?f0, ?g0⟩) hHeld ?h0
    case a0 => (simp only [List.getElem?_toArray, List.getElem?_cons_succ, List.getElem?_cons_zero]; exact rfl)
    case b0 => kernel_rfl
    case c0 => kernel_rfl
    case d0 => kernel_rfl
    case e0 => exact fun _ _ _ h => h
    case f0 => rfl
    case g0 => (intro w' hSw; obtain ⟨s2, s3⟩ := hSw; go_simp; (try with_reducible rfl))
    simp only [Act.put, List.setIfInBounds_toArray, List.set_cons_zero, List.set_cons_succ]
    refine' wpAnyH_take (i := 1) (oi := _) (v := _) ?a1 ?b1 ?c1 ?d1 ?e1 (Or.inl ⟨?f1, ?g1⟩) hHeld ?h1
    case a1 => (simp only [List.getElem?_toArray, List.getElem?_cons_succ, List.getElem?_cons_zero]; exact rfl)
    case b1 => kernel_rfl
    case c1 => kernel_rfl
    case d1 => kernel_rfl
    case e1 => exact fun _ _ _ h => h
    case f1 => rfl
    case g1 => (intro w' hSw; obtain ⟨s2, s3⟩ := hSw; go_simp; (try with_reducible rfl))
    simp only [Act.put, List.setIfInBounds_toArray, List.set_cons_zero, List.set_cons_succ]
    refine' wpAnyH_take (i := 2) (oi := _) (v := _) ?a2 ?b2 ?c2 ?d2 ?e2 (Or.inl ⟨?f2, ?g2⟩) hHeld ?h2
    case a2 => (simp only [List.getElem?_toArray, List.getElem?_cons_succ, List.getElem?_cons_zero]; exact rfl)
    case b2 => kernel_rfl
    case c2 => kernel_rfl
    case d2 => kernel_rfl
    case e2 => exact fun _ _ _ h => h
    case f2 => rfl
    case g2 => (intro w' hSw; obtain ⟨s2, s3⟩ := hSw; go_simp; (try with_reducible rfl))
    simp only [Act.put, List.setIfInBounds_toArray, List.set_cons_zero, List.set_cons_succ]
    refine' wpAnyH_take (i := 3) (oi := _) (v := _) ?a3 ?b3 ?c3 ?d3 ?e3 (Or.inl ⟨?f3, ?g3⟩) hHeld ?h3
    case a3 => (simp only [List.getElem?_toArray, List.getElem?_cons_succ, List.getElem?_cons_zero]; exact rfl)
    case b3 => kernel_rfl
    case c3 => kernel_rfl
    case d3 => kernel_rfl
    case e3 => exact fun _ _ _ h => h
    case f3 => rfl
    case g3 => (intro w' hSw; obtain ⟨s2, s3⟩ := hSw; go_simp; (try with_reducible rfl))
    simp only [Act.put, List.setIfInBounds_toArray, List.set_cons_zero, List.set_cons_succ]
    refine' wpAnyH_take (i := 5) (oi := _) (v := _) ?a5 ?b5 ?c5 ?d5 ?e5 (Or.inl ⟨?f5, ?g5⟩) hHeld ?h5
    case a5 => (simp only [List.getElem?_toArray, List.getElem?_cons_succ, List.getElem?_cons_zero]; exact rfl)
    case b5 => kernel_rfl
    case c5 => kernel_rfl
    case d5 => kernel_rfl
    case e5 => exact fun _ _ _ h => h
    case f5 => rfl
    case g5 => (intro w' hSw; obtain ⟨s2, s3⟩ := hSw; go_simp; (try with_reducible rfl))
    simp only [Act.put, List.setIfInBounds_toArray, List.set_cons_zero, List.set_cons_succ]
    refine' wpAnyH_take (i := 6) (oi := _) (v := _) ?a6 ?b6 ?c6 ?d6 ?e6 (Or.inl ⟨?f6, ?g6⟩) hHeld ?h6
    case a6 => (simp only [List.getElem?_toArray, List.getElem?_cons_succ, List.getElem?_cons_zero]; exact rfl)
    case b6 => kernel_rfl
    case c6 => kernel_rfl
    case d6 => kernel_rfl
    case e6 => exact fun _ _ _ h => h
    case f6 => rfl
    case g6 => (intro w' hSw; obtain ⟨s2, s3⟩ := hSw; go_simp; (try with_reducible rfl))
    simp only [Act.put, List.setIfInBounds_toArray, List.set_cons_zero, List.set_cons_succ]
    refine' wpAnyH_take (i := 7) (oi := _) (v := _) ?a7 ?b7 ?c7 ?d7 ?e7 (Or.inl ⟨?f7, ?g7⟩) hHeld ?h7
    case a7 => (simp only [List.getElem?_toArray, List.getElem?_cons_succ, List.getElem?_cons_zero]; exact rfl)
    case b7 => kernel_rfl
    case c7 => kernel_rfl
    case d7 => kernel_rfl
    case e7 => exact fun _ _ _ h => h
    case f7 => rfl
    case g7 => (intro w' hSw; obtain ⟨s2, s3⟩ := hSw; go_simp; (try with_reducible rfl))
    simp only [Act.put, List.setIfInBounds_toArray, List.set_cons_zero, List.set_cons_succ]
    refine' wpAnyH_take (i := 8) (oi := _) (v := _) ?a8 ?b8 ?c8 ?d8 ?e8 (Or.inl ⟨?f8, ?g8⟩) hHeld ?h8
    case a8 => (simp only [List.getElem?_toArray, List.getElem?_cons_succ, List.getElem?_cons_zero]; exact rfl)
    case b8 => kernel_rfl
    case c8 => kernel_rfl
    case d8 => kernel_rfl
    case e8 => exact fun _ _ _ h => h
    case f8 => rfl
    case g8 => (intro w' hSw; obtain ⟨s2, s3⟩ := hSw; go_simp; (try with_reducible rfl))
    simp only [Act.put, List.setIfInBounds_toArray, List.set_cons_zero, List.set_cons_succ]
    refine' wpAnyH_take (i := 9) (oi := _) (v := _) ?a9 ?b9 ?c9 ?d9 ?e9 (Or.inl ⟨?f9, ?g9⟩) hHeld ?h9
    case a9 => (simp only [List.getElem?_toArray, List.getElem?_cons_succ, List.getElem?_cons_zero]; exact rfl)
    case b9 => kernel_rfl
    case c9 => kernel_rfl
    case d9 => kernel_rfl
    case e9 => exact fun _ _ _ h => h
    case f9 => rfl
    case g9 => (intro w' hSw; obtain ⟨s2, s3⟩ := hSw; go_simp; (try with_reducible rfl))
    simp only [Act.put, List.setIfInBounds_toArray, List.set_cons_zero, List.set_cons_succ]
    refine' wpAnyH_take (i := 10) (oi := _) (v := _) ?a10 ?b10 ?c10 ?d10 ?e10 (Or.inl ⟨?f10, ?g10⟩) hHeld ?h10
    case a10 => (simp only [List.getElem?_toArray, List.getElem?_cons_succ, List.getElem?_cons_zero]; exact rfl)
    case b10 => kernel_rfl
    case c10 => kernel_rfl
    case d10 => kernel_rfl
    case e10 => exact fun _ _ _ h => h
    case f10 => rfl
    case g10 => (intro w' hSw; obtain ⟨s2, s3⟩ := hSw; go_simp; (try with_reducible rfl))
    simp only [Act.put, List.setIfInBounds_toArray, List.set_cons_zero, List.set_cons_succ]
    refine' wpAnyH_take (i := 11) (oi := _) (v := _) ?a11 ?b11 ?c11 ?d11 ?e11 (Or.inl ⟨?f11, ?g11⟩) hHeld ?h11
    case a11 => (simp only [List.getElem?_toArray, List.getElem?_cons_succ, List.getElem?_cons_zero]; exact rfl)
    case b11 => kernel_rfl
    case c11 => kernel_rfl
    case d11 => kernel_rfl
    case e11 => exact fun _ _ _ h => h
    case f11 => rfl
    case g11 => (intro w' hSw; obtain ⟨s2, s3⟩ := hSw; go_simp; (try with_reducible rfl))
    simp only [Act.put, List.setIfInBounds_toArray, List.set_cons_zero, List.set_cons_succ]
    refine' wpAnyH_take (i := 12) (oi := _) (v := _) ?a12 ?b12 ?c12 ?d12 ?e12 (Or.inl ⟨?f12, ?g12⟩) hHeld ?h12
    case a12 => (simp only [List.getElem?_toArray, List.getElem?_cons_succ, List.getElem?_cons_zero]; exact rfl)
    case b12 => kernel_rfl
    case c12 => kernel_rfl
    case d12 => kernel_rfl
    case e12 => exact fun _ _ _ h => h
    case f12 => rfl
    case g12 => (intro w' hSw; obtain ⟨s2, s3⟩ := hSw; go_simp; (try with_reducible rfl))
    simp only [Act.put, List.setIfInBounds_toArray, List.set_cons_zero, List.set_cons_succ]
    refine' wpAnyH_take (i := 13) (oi := _) (v := _) ?a13 ?b13 ?c13 ?d13 ?e13 (Or.inl ⟨?f13, ?g13⟩) hHeld ?h13
    case a13 => (simp only [List.getElem?_toArray, List.getElem?_cons_succ, List.getElem?_cons_zero]; exact rfl)
    case b13 => kernel_rfl
    case c13 => kernel_rfl
    case d13 => kernel_rfl
    case e13 => exact fun _ _ _ h => h
    case f13 => rfl
    case g13 => (intro w' hSw; obtain ⟨s2, s3⟩ := hSw; go_simp; (try with_reducible rfl))
    simp only [Act.put, List.setIfInBounds_toArray, List.set_cons_zero, List.set_cons_succ]
    refine wpAnyH_ready (rs := [4, 14]) (by kernel_rfl) (by simp) ?_
    refine' AllReadyH.cons (o := _) ?p4A (fun K hK => ?q4A) ?r4A
    case p4A => (simp only [List.getElem?_toArray, List.getElem?_cons_succ, List.getElem?_cons_zero]; exact rfl)
    go_simp
    refine hK.out _ _ ?_ (fun hHeld => ?_)
    · exact hHeld
    clear hK K
    (try simp only [Act.put, List.setIfInBounds_toArray, List.set_cons_zero, List.set_cons_succ])
    refine wpAnyH_ready (rs := [14]) (by kernel_rfl) (by simp) ?_
    refine' AllReadyH.cons (o := _) ?p14A (fun K hK => ?q14A) ?r14A
    case p14A => (simp only [List.getElem?_toArray, List.getElem?_cons_succ, List.getElem?_cons_zero]; exact rfl)
    case r14A => exact AllReadyH.nil
    go_simp
    refine hK.out _ _ ?_ (fun hHeld => ?_)
    · (first | exact hHeld | go_keep | (refine ⟨?_, ?_⟩ <;> go_keep))
    clear hK K
    (try simp only [Act.put, List.setIfInBounds_toArray, List.set_cons_zero, List.set_cons_succ])
    refine wpAnyH_ready (rs := [15]) (by kernel_rfl) (by simp) ?_
    refine' AllReadyH.cons (o := _) ?p15A (fun K hK => ?q15A) ?r15A
    case p15A => (simp only [List.getElem?_toArray, List.getElem?_cons_succ, List.getElem?_cons_zero]; exact rfl)
    case r15A => exact AllReadyH.nil
    refine step_append_lies _ (by rfl) (.tmp 10) (.tmp 20) _ (by rfl) (M + 1) 76 i0 _ 4 40 Tryz.underlying61 hi.out hz0.out hz1.out hz2.out rfl (by decide) toks n xs (by rfl) ((hO.out.alloc _).drew) ⟨w.heap.size, 0, none⟩ 1 1 (tokC 1 ⟨#[10]⟩ line col) (by rfl) (by rfl) (World.news_of_block (heap_alloc_new w _)) (by intro u hu; simp only [tokC, List.mem_cons, List.not_mem_nil, or_false] at hu; rcases hu with rfl | rfl | rfl | rfl <;> rfl) (by decide) (by unfold maxLen; omega) (by omega) (by simp; omega) (w.heap.size + 1) (by simp) ?_
    intro g cap w1 hown1 hgrow hat hg
    have hfz1 : w1.frozen? ⟨M, 5, none⟩ = false := (hgrow.frozen_far (a := ⟨M, 5, none⟩) (by simp; omega) (by intro e; exact hne.out e.symm)).trans ((Below.frozen ((Below.refl w.heap.size w).alloc (Nat.le_refl _) _).drew (p := ⟨M, 5, none⟩) hlt).trans hfz)
    have q51 : w1.cell? ⟨M, 5, none⟩ = some toks := (hgrow.cell_far (a := ⟨M, 5, none⟩) (by simp; omega) (by intro e; exact hne.out e.symm)).trans ((Below.cell ((Below.refl w.heap.size w).alloc (Nat.le_refl _) _).drew (p := ⟨M, 5, none⟩) hlt).trans q5)
    refine hK.out _ _ ?_ (fun hHeld => ?_)
    · refine ⟨?_, ?_⟩ <;> (rw [hgrow.cell_far _ (by simp; omega) (by intro e; exact hne.out e.symm)]; go_keep)
    clear hK K
    (try simp only [Act.put, List.setIfInBounds_toArray, List.set_cons_zero, List.set_cons_succ])
    refine' wpAnyH_take (i := 16) (oi := _) (v := _) ?a16A ?b16A ?c16A ?d16A ?e16A (Or.inl ⟨?f16A, ?g16A⟩) hHeld ?h16A
    case a16A => (simp only [List.getElem?_toArray, List.getElem?_cons_succ, List.getElem?_cons_zero]; exact rfl)
    case b16A => kernel_rfl
    case c16A => kernel_rfl
    case d16A => kernel_rfl
    case e16A => exact fun _ _ _ h => h
    case f16A => rfl
    case g16A => (intro w' hSw; obtain ⟨s2, s3⟩ := hSw; go_simp; (try with_reducible rfl))
    simp only [Act.put, List.setIfInBounds_toArray, List.set_cons_zero, List.set_cons_succ]
    refine' wpAnyH_take (i := 17) (oi := _) (v := _) ?a17A ?b17A ?c17A ?d17A ?e17A (Or.inl ⟨?f17A, ?g17A⟩) hHeld ?h17A
    case a17A => (simp only [List.getElem?_toArray, List.getElem?_cons_succ, List.getElem?_cons_zero]; exact rfl)
    case b17A => kernel_rfl
    case c17A => kernel_rfl
    case d17A => kernel_rfl
    case e17A => exact fun _ _ _ h => h
    case f17A => rfl
    case g17A => (intro w' hSw; obtain ⟨s2, s3⟩ := hSw; go_simp; (try with_reducible rfl))
    simp only [Act.put, List.setIfInBounds_toArray, List.set_cons_zero, List.set_cons_succ]
    refine wpAnyH_ready (rs := [18]) (by kernel_rfl) (by simp) ?_
    refine' AllReadyH.cons (o := _) ?p18A (fun K hK => ?q18A) ?r18A
    case p18A => (simp only [List.getElem?_toArray, List.getElem?_cons_succ, List.getElem?_cons_zero]; exact rfl)
    case r18A => exact AllReadyH.nil
    go_simp
    refine hK.out _ _ ?_ (fun hHeld => ?_)
    · obtain ⟨k2, k3⟩ := hHeld; exact ⟨set_far k2 (by decide), set_far k3 (by decide)⟩
    clear hK K
    (try simp only [Act.put, List.setIfInBounds_toArray, List.set_cons_zero, List.set_cons_succ])
    refine wpAnyH_done (by kernel_rfl) ?_ _
    have hM1 : MachAt w1 M { text := text, pos := pos, line := line, col := col, opn := true, toks := toks } := MachAt.of_block hM.out ((hgrow.block M (by simp; omega) (fun e => hne.out e.symm)).trans (((Below.refl w.heap.size w).alloc (Nat.le_refl _) _).drew.block M hlt))
    have hM2 := hM1.set (m' := { text := text, pos := pos, line := line, col := col, opn := true, toks := Value.slice (some { block := g, off := 0 }) (n + 1) cap }) 5 (Value.slice (some { block := g, off := 0 }) (n + 1) cap) rfl
    have hO2 := ownsRow_setCell_below hown1 (a := ⟨M, 5, none⟩) (by show M < M + 1; omega) (Value.slice (some { block := g, off := 0 }) (n + 1) cap)
    have hB2 : Below M w (w1.setCell ⟨M, 5, none⟩ (Value.slice (some { block := g, off := 0 }) (n + 1) cap)) := Below.setCell ((((Below.refl M w).alloc (Nat.le_of_lt hlt) _).drew).grown hgrow (show M ≤ (w.heap.push _).size by simp only [Array.size_push]; omega) (fun k hk => Nat.le_of_succ_le (hO.out.lt k hk).1)) (Nat.le_refl M) _
    clear hfz1 q51 hHeld hM1 hown1
    generalize w1.setCell ⟨M, 5, none⟩ (Value.slice (some { block := g, off := 0 }) (n + 1) cap) = W at *
    have hM2 := Lib.hid hM2
    have hO2 := Lib.hid hO2
    have hB2 := Lib.hid hB2
    clear q1 q2 q3 q4 q5 hfz n5
    have q1 := hM2.out.c1
    have q2 := hM2.out.c2
    have f4 := hM2.out.free 4
    have q4 := hM2.out.c4
    have f1 := hM2.out.free 1
    have f2 := hM2.out.free 2
    have f3 := hM2.out.free 3
    have q3 := hM2.out.c3
    dsimp only at q1 q2 q3 q4
    go_wp2_with fail
    go_end0
    have hM3 := (((hM2.out.set (m' := { text := text, pos := pos, line := line, col := col, opn := false, toks := Value.slice (some { block := g, off := 0 }) (n + 1) cap }) 4 (.bool false) rfl).set (m' := { text := text, pos := pos + 1, line := line, col := col, opn := false, toks := Value.slice (some { block := g, off := 0 }) (n + 1) cap }) 1 (.int .i64 ((pos : Int) + 1)) rfl).set (m' := { text := text, pos := pos + 1, line := line + 1, col := col, opn := false, toks := Value.slice (some { block := g, off := 0 }) (n + 1) cap }) 2 (.int .i64 (line + 1)) rfl).set (m' := { text := text, pos := pos + 1, line := line + 1, col := 1, opn := false, toks := Value.slice (some { block := g, off := 0 }) (n + 1) cap }) 3 (.int .i64 1) rfl
    refine ⟨rfl, _, hM3, ?_, ?_⟩
    · exact ownsRow_setCell_below (ownsRow_setCell_below (ownsRow_setCell_below (ownsRow_setCell_below hO2.out (a := ⟨M, 4, none⟩) (by show M < M + 1; omega) _) (a := ⟨M, 1, none⟩) (by show M < M + 1; omega) _) (a := ⟨M, 2, none⟩) (by show M < M + 1; omega) _) (a := ⟨M, 3, none⟩) (by show M < M + 1; omega) _
    · exact (((hB2.out.setCell (p := ⟨M, 4, none⟩) (Nat.le_refl M) _).setCell (p := ⟨M, 1, none⟩) (Nat.le_refl M) _).setCell (p := ⟨M, 2, none⟩) (Nat.le_refl M) _).setCell (p := ⟨M, 3, none⟩) (Nat.le_refl M) _
    refine' AllReadyH.cons (o := _) ?p14C (fun K hK => ?q14C) ?r14C
    case p14C => (simp only [List.getElem?_toArray, List.getElem?_cons_succ, List.getElem?_cons_zero]; exact rfl)
    case r14C => exact AllReadyH.nil
    go_simp
    refine hK.out _ _ ?_ (fun hHeld => ?_)
    · go_keep
    clear hK K
    (try simp only [Act.put, List.setIfInBounds_toArray, List.set_cons_zero, List.set_cons_succ])
    refine wpAnyH_ready (rs := [4]) (by kernel_rfl) (by simp) ?_
    refine' AllReadyH.cons (o := _) ?p4D (fun K hK => ?q4D) ?r4D
    case p4D => (simp only [List.getElem?_toArray, List.getElem?_cons_succ, List.getElem?_cons_zero]; exact rfl)
    case r4D => exact AllReadyH.nil
    go_simp
    refine hK.out _ _ ?_ (fun hHeld => ?_)
    · exact hHeld
    clear hK K
    (try simp only [Act.put, List.setIfInBounds_toArray, List.set_cons_zero, List.set_cons_succ])
    refine wpAnyH_ready (rs := [15]) (by kernel_rfl) (by simp) ?_
    refine' AllReadyH.cons (o := _) ?p15E (fun K hK => ?q15E) ?r15E
    case p15E => (simp only [List.getElem?_toArray, List.getElem?_cons_succ, List.getElem?_cons_zero]; exact rfl)
    case r15E => exact AllReadyH.nil
    refine step_append_lies _ (by rfl) (.tmp 10) (.tmp 20) _ (by rfl) (M + 1) 76 i0 _ 4 40 Tryz.underlying61 hi.out hz0.out hz1.out hz2.out rfl (by decide) toks n xs (by rfl) ((hO.out.alloc _).drew) ⟨w.heap.size, 0, none⟩ 1 1 (tokC 1 ⟨#[10]⟩ line col) (by rfl) (by rfl) (World.news_of_block (heap_alloc_new w _)) (by intro u hu; simp only [tokC, List.mem_cons, List.not_mem_nil, or_false] at hu; rcases hu with rfl | rfl | rfl | rfl <;> rfl) (by decide) (by unfold maxLen; omega) (by omega) (by simp; omega) (w.heap.size + 1) (by simp) ?_
    intro g cap w1 hown1 hgrow hat hg
    have hfz1 : w1.frozen? ⟨M, 5, none⟩ = false := (hgrow.frozen_far (a := ⟨M, 5, none⟩) (by simp; omega) (by intro e; exact hne.out e.symm)).trans ((Below.frozen ((Below.refl w.heap.size w).alloc (Nat.le_refl _) _).drew (p := ⟨M, 5, none⟩) hlt).trans hfz)
    have q51 : w1.cell? ⟨M, 5, none⟩ = some toks := (hgrow.cell_far (a := ⟨M, 5, none⟩) (by simp; omega) (by intro e; exact hne.out e.symm)).trans ((Below.cell ((Below.refl w.heap.size w).alloc (Nat.le_refl _) _).drew (p := ⟨M, 5, none⟩) hlt).trans q5)
    refine hK.out _ _ ?_ (fun hHeld => ?_)
    · refine ⟨?_, ?_⟩ <;> (rw [hgrow.cell_far _ (by simp; omega) (by intro e; exact hne.out e.symm)]; go_keep)
    clear hK K
    (try simp only [Act.put, List.setIfInBounds_toArray, List.set_cons_zero, List.set_cons_succ])
    refine' wpAnyH_take (i := 16) (oi := _) (v := _) ?a16E ?b16E ?c16E ?d16E ?e16E (Or.inl ⟨?f16E, ?g16E⟩) hHeld ?h16E
    case a16E => (simp only [List.getElem?_toArray, List.getElem?_cons_succ, List.getElem?_cons_zero]; exact rfl)
    case b16E => kernel_rfl
    case c16E => kernel_rfl
    case d16E => kernel_rfl
    case e16E => exact fun _ _ _ h => h
    case f16E => rfl
    case g16E => (intro w' hSw; obtain ⟨s2, s3⟩ := hSw; go_simp; (try with_reducible rfl))
    simp only [Act.put, List.setIfInBounds_toArray, List.set_cons_zero, List.set_cons_succ]
    refine' wpAnyH_take (i := 17) (oi := _) (v := _) ?a17E ?b17E ?c17E ?d17E ?e17E (Or.inl ⟨?f17E, ?g17E⟩) hHeld ?h17E
    case a17E => (simp only [List.getElem?_toArray, List.getElem?_cons_succ, List.getElem?_cons_zero]; exact rfl)
    case b17E => kernel_rfl
    case c17E => kernel_rfl
    case d17E => kernel_rfl
    case e17E => exact fun _ _ _ h => h
    case f17E => rfl
    case g17E => (intro w' hSw; obtain ⟨s2, s3⟩ := hSw; go_simp; (try with_reducible rfl))
    simp only [Act.put, List.setIfInBounds_toArray, List.set_cons_zero, List.set_cons_succ]
    refine wpAnyH_ready (rs := [18]) (by kernel_rfl) (by simp) ?_
    refine' AllReadyH.cons (o := _) ?p18E (fun K hK => ?q18E) ?r18E
    case p18E => (simp only [List.getElem?_toArray, List.getElem?_cons_succ, List.getElem?_cons_zero]; exact rfl)
    case r18E => exact AllReadyH.nil
    go_simp
    refine hK.out _ _ ?_ (fun hHeld => ?_)
    · obtain ⟨k2, k3⟩ := hHeld; exact ⟨set_far k2 (by decide), set_far k3 (by decide)⟩
    clear hK K
    (try simp only [Act.put, List.setIfInBounds_toArray, List.set_cons_zero, List.set_cons_succ])
    refine wpAnyH_done (by kernel_rfl) ?_ _
    have hM1 : MachAt w1 M { text := text, pos := pos, line := line, col := col, opn := true, toks := toks } := MachAt.of_block hM.out ((hgrow.block M (by simp; omega) (fun e => hne.out e.symm)).trans (((Below.refl w.heap.size w).alloc (Nat.le_refl _) _).drew.block M hlt))
    have hM2 := hM1.set (m' := { text := text, pos := pos, line := line, col := col, opn := true, toks := Value.slice (some { block := g, off := 0 }) (n + 1) cap }) 5 (Value.slice (some { block := g, off := 0 }) (n + 1) cap) rfl
    have hO2 := ownsRow_setCell_below hown1 (a := ⟨M, 5, none⟩) (by show M < M + 1; omega) (Value.slice (some { block := g, off := 0 }) (n + 1) cap)
    have hB2 : Below M w (w1.setCell ⟨M, 5, none⟩ (Value.slice (some { block := g, off := 0 }) (n + 1) cap)) := Below.setCell ((((Below.refl M w).alloc (Nat.le_of_lt hlt) _).drew).grown hgrow (show M ≤ (w.heap.push _).size by simp only [Array.size_push]; omega) (fun k hk => Nat.le_of_succ_le (hO.out.lt k hk).1)) (Nat.le_refl M) _
    clear hfz1 q51 hHeld hM1 hown1
    generalize w1.setCell ⟨M, 5, none⟩ (Value.slice (some { block := g, off := 0 }) (n + 1) cap) = W at *
    have hM2 := Lib.hid hM2
    have hO2 := Lib.hid hO2
    have hB2 := Lib.hid hB2
    clear q1 q2 q3 q4 q5 hfz n5
    have q1 := hM2.out.c1
    have q2 := hM2.out.c2
    have f4 := hM2.out.free 4
    have q4 := hM2.out.c4
    have f1 := hM2.out.free 1
    have f2 := hM2.out.free 2
    have f3 := hM2.out.free 3
    have q3 := hM2.out.c3
    dsimp only at q1 q2 q3 q4
    go_wp2_with fail
    go_end0
    have hM3 := (((hM2.out.set (m' := { text := text, pos := pos, line := line, col := col, opn := false, toks := Value.slice (some { block := g, off := 0 }) (n + 1) cap }) 4 (.bool false) rfl).set (m' := { text := text, pos := pos + 1, line := line, col := col, opn := false, toks := Value.slice (some { block := g, off := 0 }) (n + 1) cap }) 1 (.int .i64 ((pos : Int) + 1)) rfl).set (m' := { text := text, pos := pos + 1, line := line + 1, col := col, opn := false, toks := Value.slice (some { block := g, off := 0 }) (n + 1) cap }) 2 (.int .i64 (line + 1)) rfl).set (m' := { text := text, pos := pos + 1, line := line + 1, col := 1, opn := false, toks := Value.slice (some { block := g, off := 0 }) (n + 1) cap }) 3 (.int .i64 1) rfl
    refine ⟨rfl, _, hM3, ?_, ?_⟩
    · exact ownsRow_setCell_below (ownsRow_setCell_below (ownsRow_setCell_below (ownsRow_setCell_below hO2.out (a := ⟨M, 4, none⟩) (by show M < M + 1; omega) _) (a := ⟨M, 1, none⟩) (by show M < M + 1; omega) _) (a := ⟨M, 2, none⟩) (by show M < M + 1; omega) _) (a := ⟨M, 3, none⟩) (by show M < M + 1; omega) _
    · exact (((hB2.out.setCell (p := ⟨M, 4, none⟩) (Nat.le_refl M) _).setCell (p := ⟨M, 1, none⟩) (Nat.le_refl M) _).setCell (p := ⟨M, 2, none⟩) (Nat.le_refl M) _).setCell (p := ⟨M, 3, none⟩) (Nat.le_refl M) _
end Go.Proofs.YtjokciofeicdkaaGreatDoor
