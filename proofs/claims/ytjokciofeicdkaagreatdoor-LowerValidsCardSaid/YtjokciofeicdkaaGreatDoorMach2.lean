/- Walks: the scanner's machine: put, endLine. -/
import Derived.Test.YtjokciofeicdkaaGreatDoorMach
import Derived.Test.YtjokciofeicdkaaGreatDoorSpeak
import Derived.Deep.AppendLies
namespace Go.Proofs.YtjokciofeicdkaaGreatDoor
open Go.RowKit

def tokC (kind : Int) (text : ByteArray) (line col : Int) : List Value := [.int .i64 kind, .string text, .int .i64 line, .int .i64 col]
theorem tok_info : (Tryz.prog.info? 76).map (fun i => (i.zero, i.size, i.bytes)) = some (some (.agg #[.int .i64 0, .string ByteArray.empty, .int .i64 0, .int .i64 0]), 4, 40) := by kernel_rfl

theorem own_ne_mach {w : World} {M base n : Nat} {m : Mach} {v : Value} {xs : List Value} (h : w.ownsRow base 76 4 v n xs) (hm : MachAt w M m) : v.ownBlock ≠ some M := by
  rcases h.2 with ⟨rfl, _⟩ | ⟨g', cap, cur, rfl, _, hh, _⟩
  · simp [Value.ownBlock]
  · intro he
    have : g' = M := by simpa [Value.ownBlock] using he
    subst this
    unfold MachAt at hm
    rw [hh] at hm
    injection hm with hm
    injection hm with _ ht
    exact absurd ht (by decide)

theorem set_far {w : World} {M i j : Nat} {v u : Value} (h : w.cell? ⟨M, i, none⟩ = some u) (hne : j ≠ i) : (w.setCell ⟨M, j, none⟩ v).cell? ⟨M, i, none⟩ = some u := by
  rw [World.cell?_setCell_other]
  · exact h
  · intro e; exact hne (congrArg Addr.off e)

attribute [local go_sem ↓] Go.wp_at_zero Go.wp_at_succ

set_option maxHeartbeats 2000000 in
set_option maxRecDepth 100000 in
theorem put_any (M : Nat) (m : Mach) (kind : Int) (size n : Nat) (xs : List Value) (w : World) (hm : MachAt w M m) (hown : w.ownsRow (M + 1) 76 4 m.toks n xs) (hn : n ≤ 8589934592)
    (hsz : m.pos + size ≤ m.text.size) (ht : m.text.size ≤ 4294967295) (hc0 : 0 ≤ m.col) (hc1 : m.col ≤ 4611686018427387904) :
    Calls Tryz.prog 63 #[.pointer (some ⟨M, 0, none⟩), .int .i64 kind, .int .i64 size] w fun e w' => e = .returned (.tuple #[]) ∧ ∃ v,
      MachAt w' M { m with pos := m.pos + size, col := m.col + runesFrom (m.text.extract m.pos (m.pos + size)) 0, opn := true, toks := v } ∧
      w'.ownsRow (M + 1) 76 4 v (n + 1) (xs ++ tokC kind (m.text.extract m.pos (m.pos + size)) m.line m.col) ∧ Below M w w' := by
  obtain ⟨text, pos, line, col, opn, toks⟩ := m
  dsimp only at *
  have q0 := hm.c0
  have q1 := hm.c1
  have q2 := hm.c2
  have q3 := hm.c3
  have q5 := hm.c5
  have hM := Lib.hid hm
  have hO := Lib.hid hown
  have hne := Lib.hid (own_ne_mach hown hm)
  have hfz := hm.free 5
  have hlt := hm.lt
  clear hm
  dsimp only at q0 q1 q2 q3 q5
  have bw : IntKind.i64.wrap ((pos : Int) + (size : Int)) = (pos : Int) + (size : Int) := IntWalk.i64_in _ (by omega)
  have b0 : (0 : Int) ≤ (pos : Int) := by omega
  have b1 : (pos : Int) ≤ (pos : Int) + (size : Int) := by omega
  have b2 : (pos : Int) + (size : Int) ≤ (text.size : Int) := by omega
  obtain ⟨i0, hi, hz0, hz1, hz2⟩ := info_parts tok_info
  have hi := Lib.hid hi; have hz0 := Lib.hid hz0; have hz1 := Lib.hid hz1; have hz2 := Lib.hid hz2
  go_enter Tryz.func63, Tryz.ntmps63
  go_wp2_with fail
  have n5 := World.new_ne w ⟨M, 5, none⟩ q5
  clear hown
  refine wp_region_held_drew (S := (fun w' => w'.cell? ⟨M, 0, none⟩ = some (.string text) ∧ w'.cell? ⟨M, 1, none⟩ = some (.int .i64 pos) ∧ w'.cell? ⟨M, 2, none⟩ = some (.int .i64 line) ∧ w'.cell? ⟨M, 3, none⟩ = some (.int .i64 col))) (by kernel_rfl) ⟨q0, q1, q2, q3⟩ (fun hHeld => ?_)
  refine' wpAnyH_take (i := 0) (oi := _) (v := _) ?a0 ?b0 ?c0 ?d0 ?e0 (Or.inl ⟨?f0, ?g0⟩) hHeld ?h0
  case a0 => (simp only [List.getElem?_toArray, List.getElem?_cons_succ, List.getElem?_cons_zero]; exact rfl)
  case b0 => kernel_rfl
  case c0 => kernel_rfl
  case d0 => kernel_rfl
  case e0 => exact fun _ _ _ h => h
  case f0 => rfl
  case g0 => (intro w' hSw; obtain ⟨s0, s1, s2, s3⟩ := hSw; go_simp; (try with_reducible rfl))
  simp only [Act.put, List.setIfInBounds_toArray, List.set_cons_zero, List.set_cons_succ]
  refine' wpAnyH_take (i := 1) (oi := _) (v := _) ?a1 ?b1 ?c1 ?d1 ?e1 (Or.inl ⟨?f1, ?g1⟩) hHeld ?h1
  case a1 => (simp only [List.getElem?_toArray, List.getElem?_cons_succ, List.getElem?_cons_zero]; exact rfl)
  case b1 => kernel_rfl
  case c1 => kernel_rfl
  case d1 => kernel_rfl
  case e1 => exact fun _ _ _ h => h
  case f1 => rfl
  case g1 => (intro w' hSw; obtain ⟨s0, s1, s2, s3⟩ := hSw; go_simp; (try with_reducible rfl))
  simp only [Act.put, List.setIfInBounds_toArray, List.set_cons_zero, List.set_cons_succ]
  refine' wpAnyH_take (i := 2) (oi := _) (v := _) ?a2 ?b2 ?c2 ?d2 ?e2 (Or.inl ⟨?f2, ?g2⟩) hHeld ?h2
  case a2 => (simp only [List.getElem?_toArray, List.getElem?_cons_succ, List.getElem?_cons_zero]; exact rfl)
  case b2 => kernel_rfl
  case c2 => kernel_rfl
  case d2 => kernel_rfl
  case e2 => exact fun _ _ _ h => h
  case f2 => rfl
  case g2 => (intro w' hSw; obtain ⟨s0, s1, s2, s3⟩ := hSw; go_simp; (try with_reducible rfl))
  simp only [Act.put, List.setIfInBounds_toArray, List.set_cons_zero, List.set_cons_succ]
  refine' wpAnyH_take (i := 3) (oi := _) (v := _) ?a3 ?b3 ?c3 ?d3 ?e3 (Or.inl ⟨?f3, ?g3⟩) hHeld ?h3
  case a3 => (simp only [List.getElem?_toArray, List.getElem?_cons_succ, List.getElem?_cons_zero]; exact rfl)
  case b3 => kernel_rfl
  case c3 => kernel_rfl
  case d3 => kernel_rfl
  case e3 => exact fun _ _ _ h => h
  case f3 => rfl
  case g3 => (intro w' hSw; obtain ⟨s0, s1, s2, s3⟩ := hSw; go_simp; (try with_reducible rfl))
  simp only [Act.put, List.setIfInBounds_toArray, List.set_cons_zero, List.set_cons_succ]
  refine' wpAnyH_take (i := 5) (oi := _) (v := _) ?a5 ?b5 ?c5 ?d5 ?e5 (Or.inl ⟨?f5, ?g5⟩) hHeld ?h5
  case a5 => (simp only [List.getElem?_toArray, List.getElem?_cons_succ, List.getElem?_cons_zero]; exact rfl)
  case b5 => kernel_rfl
  case c5 => kernel_rfl
  case d5 => kernel_rfl
  case e5 => exact fun _ _ _ h => h
  case f5 => rfl
  case g5 => (intro w' hSw; obtain ⟨s0, s1, s2, s3⟩ := hSw; go_simp; (try with_reducible rfl))
  simp only [Act.put, List.setIfInBounds_toArray, List.set_cons_zero, List.set_cons_succ]
  refine' wpAnyH_take (i := 6) (oi := _) (v := _) ?a6 ?b6 ?c6 ?d6 ?e6 (Or.inl ⟨?f6, ?g6⟩) hHeld ?h6
  case a6 => (simp only [List.getElem?_toArray, List.getElem?_cons_succ, List.getElem?_cons_zero]; exact rfl)
  case b6 => kernel_rfl
  case c6 => kernel_rfl
  case d6 => kernel_rfl
  case e6 => exact fun _ _ _ h => h
  case f6 => rfl
  case g6 => (intro w' hSw; obtain ⟨s0, s1, s2, s3⟩ := hSw; go_simp; (try with_reducible rfl))
  simp only [Act.put, List.setIfInBounds_toArray, List.set_cons_zero, List.set_cons_succ]
  refine' wpAnyH_take (i := 7) (oi := _) (v := _) ?a7 ?b7 ?c7 ?d7 ?e7 (Or.inl ⟨?f7, ?g7⟩) hHeld ?h7
  case a7 => (simp only [List.getElem?_toArray, List.getElem?_cons_succ, List.getElem?_cons_zero]; exact rfl)
  case b7 => kernel_rfl
  case c7 => kernel_rfl
  case d7 => kernel_rfl
  case e7 => exact fun _ _ _ h => h
  case f7 => rfl
  case g7 => (intro w' hSw; obtain ⟨s0, s1, s2, s3⟩ := hSw; go_simp; (try with_reducible rfl))
  simp only [Act.put, List.setIfInBounds_toArray, List.set_cons_zero, List.set_cons_succ]
  refine' wpAnyH_take (i := 8) (oi := _) (v := _) ?a8 ?b8 ?c8 ?d8 ?e8 (Or.inl ⟨?f8, ?g8⟩) hHeld ?h8
  case a8 => (simp only [List.getElem?_toArray, List.getElem?_cons_succ, List.getElem?_cons_zero]; exact rfl)
  case b8 => kernel_rfl
  case c8 => kernel_rfl
  case d8 => kernel_rfl
  case e8 => exact fun _ _ _ h => h
  case f8 => rfl
  case g8 => (intro w' hSw; obtain ⟨s0, s1, s2, s3⟩ := hSw; go_simp; (try with_reducible rfl))
  simp only [Act.put, List.setIfInBounds_toArray, List.set_cons_zero, List.set_cons_succ]
  refine' wpAnyH_take (i := 9) (oi := _) (v := _) ?a9 ?b9 ?c9 ?d9 ?e9 (Or.inl ⟨?f9, ?g9⟩) hHeld ?h9
  case a9 => (simp only [List.getElem?_toArray, List.getElem?_cons_succ, List.getElem?_cons_zero]; exact rfl)
  case b9 => kernel_rfl
  case c9 => kernel_rfl
  case d9 => kernel_rfl
  case e9 => exact fun _ _ _ h => h
  case f9 => rfl
  case g9 => (intro w' hSw; obtain ⟨s0, s1, s2, s3⟩ := hSw; go_simp; (try with_reducible rfl))
  simp only [Act.put, List.setIfInBounds_toArray, List.set_cons_zero, List.set_cons_succ]
  refine' wpAnyH_take (i := 10) (oi := _) (v := _) ?a10 ?b10 ?c10 ?d10 ?e10 (Or.inl ⟨?f10, ?g10⟩) hHeld ?h10
  case a10 => (simp only [List.getElem?_toArray, List.getElem?_cons_succ, List.getElem?_cons_zero]; exact rfl)
  case b10 => kernel_rfl
  case c10 => kernel_rfl
  case d10 => kernel_rfl
  case e10 => exact fun _ _ _ h => h
  case f10 => rfl
  case g10 => (intro w' hSw; obtain ⟨s0, s1, s2, s3⟩ := hSw; go_simp; (try with_reducible rfl))
  simp only [Act.put, List.setIfInBounds_toArray, List.set_cons_zero, List.set_cons_succ]
  refine' wpAnyH_take (i := 11) (oi := _) (v := _) ?a11 ?b11 ?c11 ?d11 ?e11 (Or.inl ⟨?f11, ?g11⟩) hHeld ?h11
  case a11 => (simp only [List.getElem?_toArray, List.getElem?_cons_succ, List.getElem?_cons_zero]; exact rfl)
  case b11 => kernel_rfl
  case c11 => kernel_rfl
  case d11 => kernel_rfl
  case e11 => exact fun _ _ _ h => h
  case f11 => rfl
  case g11 => (intro w' hSw; obtain ⟨s0, s1, s2, s3⟩ := hSw; go_simp; (try with_reducible rfl))
  simp only [Act.put, List.setIfInBounds_toArray, List.set_cons_zero, List.set_cons_succ]
  refine' wpAnyH_take (i := 12) (oi := _) (v := _) ?a12 ?b12 ?c12 ?d12 ?e12 (Or.inl ⟨?f12, ?g12⟩) hHeld ?h12
  case a12 => (simp only [List.getElem?_toArray, List.getElem?_cons_succ, List.getElem?_cons_zero]; exact rfl)
  case b12 => kernel_rfl
  case c12 => kernel_rfl
  case d12 => kernel_rfl
  case e12 => exact fun _ _ _ h => h
  case f12 => rfl
  case g12 => (intro w' hSw; obtain ⟨s0, s1, s2, s3⟩ := hSw; go_simp; (try with_reducible rfl))
  simp only [Act.put, List.setIfInBounds_toArray, List.set_cons_zero, List.set_cons_succ]
  refine' wpAnyH_take (i := 13) (oi := _) (v := _) ?a13 ?b13 ?c13 ?d13 ?e13 (Or.inl ⟨?f13, ?g13⟩) hHeld ?h13
  case a13 => (simp only [List.getElem?_toArray, List.getElem?_cons_succ, List.getElem?_cons_zero]; exact rfl)
  case b13 => kernel_rfl
  case c13 => kernel_rfl
  case d13 => kernel_rfl
  case e13 => exact fun _ _ _ h => h
  case f13 => rfl
  case g13 => (intro w' hSw; obtain ⟨s0, s1, s2, s3⟩ := hSw; go_simp; (try with_reducible rfl))
  simp only [Act.put, List.setIfInBounds_toArray, List.set_cons_zero, List.set_cons_succ]
  refine' wpAnyH_take (i := 14) (oi := _) (v := _) ?a14 ?b14 ?c14 ?d14 ?e14 (Or.inl ⟨?f14, ?g14⟩) hHeld ?h14
  case a14 => (simp only [List.getElem?_toArray, List.getElem?_cons_succ, List.getElem?_cons_zero]; exact rfl)
  case b14 => kernel_rfl
  case c14 => kernel_rfl
  case d14 => kernel_rfl
  case e14 => exact fun _ _ _ h => h
  case f14 => rfl
  case g14 => (intro w' hSw; obtain ⟨s0, s1, s2, s3⟩ := hSw; go_simp; (try with_reducible rfl))
  simp only [Act.put, List.setIfInBounds_toArray, List.set_cons_zero, List.set_cons_succ]
  refine' wpAnyH_take (i := 15) (oi := _) (v := _) ?a15 ?b15 ?c15 ?d15 ?e15 (Or.inl ⟨?f15, ?g15⟩) hHeld ?h15
  case a15 => (simp only [List.getElem?_toArray, List.getElem?_cons_succ, List.getElem?_cons_zero]; exact rfl)
  case b15 => kernel_rfl
  case c15 => kernel_rfl
  case d15 => kernel_rfl
  case e15 => exact fun _ _ _ h => h
  case f15 => rfl
  case g15 => (intro w' hSw; obtain ⟨s0, s1, s2, s3⟩ := hSw; go_simp; (try with_reducible rfl))
  simp only [Act.put, List.setIfInBounds_toArray, List.set_cons_zero, List.set_cons_succ]
  refine' wpAnyH_take (i := 16) (oi := _) (v := _) ?a16 ?b16 ?c16 ?d16 ?e16 (Or.inl ⟨?f16, ?g16⟩) hHeld ?h16
  case a16 => (simp only [List.getElem?_toArray, List.getElem?_cons_succ, List.getElem?_cons_zero]; exact rfl)
  case b16 => kernel_rfl
  case c16 => kernel_rfl
  case d16 => kernel_rfl
  case e16 => exact fun _ _ _ h => h
  case f16 => rfl
  case g16 => (intro w' hSw; obtain ⟨s0, s1, s2, s3⟩ := hSw; go_simp; (try with_reducible rfl))
  simp only [Act.put, List.setIfInBounds_toArray, List.set_cons_zero, List.set_cons_succ]
  refine' wpAnyH_take (i := 17) (oi := _) (v := _) ?a17 ?b17 ?c17 ?d17 ?e17 (Or.inl ⟨?f17, ?g17⟩) hHeld ?h17
  case a17 => (simp only [List.getElem?_toArray, List.getElem?_cons_succ, List.getElem?_cons_zero]; exact rfl)
  case b17 => kernel_rfl
  case c17 => kernel_rfl
  case d17 => kernel_rfl
  case e17 => exact fun _ _ _ h => h
  case f17 => rfl
  case g17 => (intro w' hSw; obtain ⟨s0, s1, s2, s3⟩ := hSw; go_simp; (try with_reducible rfl))
  simp only [Act.put, List.setIfInBounds_toArray, List.set_cons_zero, List.set_cons_succ]
  refine' wpAnyH_take (i := 18) (oi := _) (v := _) ?a18 ?b18 ?c18 ?d18 ?e18 (Or.inl ⟨?f18, ?g18⟩) hHeld ?h18
  case a18 => (simp only [List.getElem?_toArray, List.getElem?_cons_succ, List.getElem?_cons_zero]; exact rfl)
  case b18 => kernel_rfl
  case c18 => kernel_rfl
  case d18 => kernel_rfl
  case e18 => exact fun _ _ _ h => h
  case f18 => rfl
  case g18 => (intro w' hSw; obtain ⟨s0, s1, s2, s3⟩ := hSw; go_simp; (try with_reducible rfl))
  simp only [Act.put, List.setIfInBounds_toArray, List.set_cons_zero, List.set_cons_succ]
  refine' wpAnyH_take (i := 19) (oi := _) (v := _) ?a19 ?b19 ?c19 ?d19 ?e19 (Or.inl ⟨?f19, ?g19⟩) hHeld ?h19
  case a19 => (simp only [List.getElem?_toArray, List.getElem?_cons_succ, List.getElem?_cons_zero]; exact rfl)
  case b19 => kernel_rfl
  case c19 => kernel_rfl
  case d19 => kernel_rfl
  case e19 => exact fun _ _ _ h => h
  case f19 => rfl
  case g19 => (intro w' hSw; obtain ⟨s0, s1, s2, s3⟩ := hSw; go_simp; (try with_reducible rfl))
  simp only [Act.put, List.setIfInBounds_toArray, List.set_cons_zero, List.set_cons_succ]
  refine' wpAnyH_take (i := 20) (oi := _) (v := _) ?a20 ?b20 ?c20 ?d20 ?e20 (Or.inl ⟨?f20, ?g20⟩) hHeld ?h20
  case a20 => (simp only [List.getElem?_toArray, List.getElem?_cons_succ, List.getElem?_cons_zero]; exact rfl)
  case b20 => kernel_rfl
  case c20 => kernel_rfl
  case d20 => kernel_rfl
  case e20 => exact fun _ _ _ h => h
  case f20 => rfl
  case g20 => (intro w' hSw; obtain ⟨s0, s1, s2, s3⟩ := hSw; go_simp; (try with_reducible rfl))
  simp only [Act.put, List.setIfInBounds_toArray, List.set_cons_zero, List.set_cons_succ]
  refine' wpAnyH_take (i := 21) (oi := _) (v := _) ?a21 ?b21 ?c21 ?d21 ?e21 (Or.inl ⟨?f21, ?g21⟩) hHeld ?h21
  case a21 => (simp only [List.getElem?_toArray, List.getElem?_cons_succ, List.getElem?_cons_zero]; exact rfl)
  case b21 => kernel_rfl
  case c21 => kernel_rfl
  case d21 => kernel_rfl
  case e21 => exact fun _ _ _ h => h
  case f21 => rfl
  case g21 => (intro w' hSw; obtain ⟨s0, s1, s2, s3⟩ := hSw; go_simp; (try with_reducible rfl))
  simp only [Act.put, List.setIfInBounds_toArray, List.set_cons_zero, List.set_cons_succ]
  refine' wpAnyH_take (i := 22) (oi := _) (v := _) ?a22 ?b22 ?c22 ?d22 ?e22 (Or.inl ⟨?f22, ?g22⟩) hHeld ?h22
  case a22 => (simp only [List.getElem?_toArray, List.getElem?_cons_succ, List.getElem?_cons_zero]; exact rfl)
  case b22 => kernel_rfl
  case c22 => kernel_rfl
  case d22 => kernel_rfl
  case e22 => exact fun _ _ _ h => h
  case f22 => rfl
  case g22 => (intro w' hSw; obtain ⟨s0, s1, s2, s3⟩ := hSw; go_simp; (try with_reducible rfl))
  simp only [Act.put, List.setIfInBounds_toArray, List.set_cons_zero, List.set_cons_succ]
  refine' wpAnyH_take (i := 23) (oi := _) (v := _) ?a23 ?b23 ?c23 ?d23 ?e23 (Or.inl ⟨?f23, ?g23⟩) hHeld ?h23
  case a23 => (simp only [List.getElem?_toArray, List.getElem?_cons_succ, List.getElem?_cons_zero]; exact rfl)
  case b23 => kernel_rfl
  case c23 => kernel_rfl
  case d23 => kernel_rfl
  case e23 => exact fun _ _ _ h => h
  case f23 => rfl
  case g23 => (intro w' hSw; obtain ⟨s0, s1, s2, s3⟩ := hSw; go_simp; (try with_reducible rfl))
  simp only [Act.put, List.setIfInBounds_toArray, List.set_cons_zero, List.set_cons_succ]
  refine' wpAnyH_take (i := 24) (oi := _) (v := _) ?a24 ?b24 ?c24 ?d24 ?e24 (Or.inl ⟨?f24, ?g24⟩) hHeld ?h24
  case a24 => (simp only [List.getElem?_toArray, List.getElem?_cons_succ, List.getElem?_cons_zero]; exact rfl)
  case b24 => kernel_rfl
  case c24 => kernel_rfl
  case d24 => kernel_rfl
  case e24 => exact fun _ _ _ h => h
  case f24 => rfl
  case g24 => (intro w' hSw; obtain ⟨s0, s1, s2, s3⟩ := hSw; go_simp; (try with_reducible rfl))
  simp only [Act.put, List.setIfInBounds_toArray, List.set_cons_zero, List.set_cons_succ]
  refine' wpAnyH_take (i := 25) (oi := _) (v := _) ?a25 ?b25 ?c25 ?d25 ?e25 (Or.inl ⟨?f25, ?g25⟩) hHeld ?h25
  case a25 => (simp only [List.getElem?_toArray, List.getElem?_cons_succ, List.getElem?_cons_zero]; exact rfl)
  case b25 => kernel_rfl
  case c25 => kernel_rfl
  case d25 => kernel_rfl
  case e25 => exact fun _ _ _ h => h
  case f25 => rfl
  case g25 => (intro w' hSw; obtain ⟨s0, s1, s2, s3⟩ := hSw; go_simp; (try with_reducible rfl))
  simp only [Act.put, List.setIfInBounds_toArray, List.set_cons_zero, List.set_cons_succ]
  refine' wpAnyH_take (i := 26) (oi := _) (v := _) ?a26 ?b26 ?c26 ?d26 ?e26 (Or.inl ⟨?f26, ?g26⟩) hHeld ?h26
  case a26 => (simp only [List.getElem?_toArray, List.getElem?_cons_succ, List.getElem?_cons_zero]; exact rfl)
  case b26 => kernel_rfl
  case c26 => kernel_rfl
  case d26 => kernel_rfl
  case e26 => exact fun _ _ _ h => h
  case f26 => rfl
  case g26 => (intro w' hSw; obtain ⟨s0, s1, s2, s3⟩ := hSw; go_simp; (try with_reducible rfl))
  simp only [Act.put, List.setIfInBounds_toArray, List.set_cons_zero, List.set_cons_succ]
  refine' wpAnyH_take (i := 27) (oi := _) (v := _) ?a27 ?b27 ?c27 ?d27 ?e27 (Or.inl ⟨?f27, ?g27⟩) hHeld ?h27
  case a27 => (simp only [List.getElem?_toArray, List.getElem?_cons_succ, List.getElem?_cons_zero]; exact rfl)
  case b27 => kernel_rfl
  case c27 => kernel_rfl
  case d27 => kernel_rfl
  case e27 => exact fun _ _ _ h => h
  case f27 => rfl
  case g27 => (intro w' hSw; obtain ⟨s0, s1, s2, s3⟩ := hSw; go_simp; (try with_reducible rfl))
  simp only [Act.put, List.setIfInBounds_toArray, List.set_cons_zero, List.set_cons_succ]
  refine' wpAnyH_take (i := 28) (oi := _) (v := _) ?a28 ?b28 ?c28 ?d28 ?e28 (Or.inl ⟨?f28, ?g28⟩) hHeld ?h28
  case a28 => (simp only [List.getElem?_toArray, List.getElem?_cons_succ, List.getElem?_cons_zero]; exact rfl)
  case b28 => kernel_rfl
  case c28 => kernel_rfl
  case d28 => kernel_rfl
  case e28 => exact fun _ _ _ h => h
  case f28 => rfl
  case g28 => (intro w' hSw; obtain ⟨s0, s1, s2, s3⟩ := hSw; go_simp; (try with_reducible rfl))
  simp only [Act.put, List.setIfInBounds_toArray, List.set_cons_zero, List.set_cons_succ]
  refine' wpAnyH_take (i := 29) (oi := _) (v := _) ?a29 ?b29 ?c29 ?d29 ?e29 (Or.inl ⟨?f29, ?g29⟩) hHeld ?h29
  case a29 => (simp only [List.getElem?_toArray, List.getElem?_cons_succ, List.getElem?_cons_zero]; exact rfl)
  case b29 => kernel_rfl
  case c29 => kernel_rfl
  case d29 => kernel_rfl
  case e29 => exact fun _ _ _ h => h
  case f29 => rfl
  case g29 => (intro w' hSw; obtain ⟨s0, s1, s2, s3⟩ := hSw; go_simp; (try with_reducible rfl))
  simp only [Act.put, List.setIfInBounds_toArray, List.set_cons_zero, List.set_cons_succ]
  refine wpAnyH_ready (rs := [4, 30]) (by kernel_rfl) (by simp) ?_
  refine' AllReadyH.cons (o := _) ?p4A (fun K hK => ?q4A) ?r4A
  case p4A => (simp only [List.getElem?_toArray, List.getElem?_cons_succ, List.getElem?_cons_zero]; exact rfl)
  go_simp
  refine hK.out _ _ ?_ (fun hHeld => ?_)
  · exact hHeld
  clear hK K
  (try simp only [Act.put, List.setIfInBounds_toArray, List.set_cons_zero, List.set_cons_succ])
  refine wpAnyH_ready (rs := [30]) (by kernel_rfl) (by simp) ?_
  refine' AllReadyH.cons (o := _) ?p30A (fun K hK => ?q30A) ?r30A
  case p30A => (simp only [List.getElem?_toArray, List.getElem?_cons_succ, List.getElem?_cons_zero]; exact rfl)
  case r30A => exact AllReadyH.nil
  go_simp
  refine hK.out _ _ ?_ (fun hHeld => ?_)
  · (first | exact hHeld | go_keep | (refine ⟨?_, ?_, ?_, ?_⟩ <;> go_keep))
  clear hK K
  (try simp only [Act.put, List.setIfInBounds_toArray, List.set_cons_zero, List.set_cons_succ])
  refine wpAnyH_ready (rs := [31]) (by kernel_rfl) (by simp) ?_
  refine' AllReadyH.cons (o := _) ?p31A (fun K hK => ?q31A) ?r31A
  case p31A => (simp only [List.getElem?_toArray, List.getElem?_cons_succ, List.getElem?_cons_zero]; exact rfl)
  case r31A => exact AllReadyH.nil
  refine step_append_lies _ (by rfl) (.tmp 10) (.tmp 36) _ (by rfl) (M + 1) 76 i0 _ 4 40 Tryz.underlying61 hi.out hz0.out hz1.out hz2.out rfl (by decide) toks n xs (by rfl) ((hO.out.alloc _).drew) ⟨w.heap.size, 0, none⟩ 1 1 (tokC kind (text.extract pos (pos + size)) line col) (by rfl) (by rfl) (World.news_of_block (heap_alloc_new w _)) (by intro u hu; simp only [tokC, List.mem_cons, List.not_mem_nil, or_false] at hu; rcases hu with rfl | rfl | rfl | rfl <;> rfl) (by decide) (by unfold maxLen; omega) (by omega) (by simp; omega) (w.heap.size + 1) (by simp) ?_
  intro g cap w1 hown1 hgrow hat hg
  have hfz1 : w1.frozen? ⟨M, 5, none⟩ = false := (hgrow.frozen_far (a := ⟨M, 5, none⟩) (by simp; omega) (by intro e; exact hne.out e.symm)).trans ((Below.frozen ((Below.refl w.heap.size w).alloc (Nat.le_refl _) _).drew (p := ⟨M, 5, none⟩) hlt).trans hfz)
  have q51 : w1.cell? ⟨M, 5, none⟩ = some toks := (hgrow.cell_far (a := ⟨M, 5, none⟩) (by simp; omega) (by intro e; exact hne.out e.symm)).trans ((Below.cell ((Below.refl w.heap.size w).alloc (Nat.le_refl _) _).drew (p := ⟨M, 5, none⟩) hlt).trans q5)
  refine hK.out _ _ ?_ (fun hHeld => ?_)
  · refine ⟨?_, ?_, ?_, ?_⟩ <;> (rw [hgrow.cell_far _ (by simp; omega) (by intro e; exact hne.out e.symm)]; go_keep)
  clear hK K
  (try simp only [Act.put, List.setIfInBounds_toArray, List.set_cons_zero, List.set_cons_succ])
  refine' wpAnyH_take (i := 32) (oi := _) (v := _) ?a32A ?b32A ?c32A ?d32A ?e32A (Or.inl ⟨?f32A, ?g32A⟩) hHeld ?h32A
  case a32A => (simp only [List.getElem?_toArray, List.getElem?_cons_succ, List.getElem?_cons_zero]; exact rfl)
  case b32A => kernel_rfl
  case c32A => kernel_rfl
  case d32A => kernel_rfl
  case e32A => exact fun _ _ _ h => h
  case f32A => rfl
  case g32A => (intro w' hSw; obtain ⟨s0, s1, s2, s3⟩ := hSw; go_simp; (try with_reducible rfl))
  simp only [Act.put, List.setIfInBounds_toArray, List.set_cons_zero, List.set_cons_succ]
  refine' wpAnyH_take (i := 33) (oi := _) (v := _) ?a33A ?b33A ?c33A ?d33A ?e33A (Or.inl ⟨?f33A, ?g33A⟩) hHeld ?h33A
  case a33A => (simp only [List.getElem?_toArray, List.getElem?_cons_succ, List.getElem?_cons_zero]; exact rfl)
  case b33A => kernel_rfl
  case c33A => kernel_rfl
  case d33A => kernel_rfl
  case e33A => exact fun _ _ _ h => h
  case f33A => rfl
  case g33A => (intro w' hSw; obtain ⟨s0, s1, s2, s3⟩ := hSw; go_simp; (try with_reducible rfl))
  simp only [Act.put, List.setIfInBounds_toArray, List.set_cons_zero, List.set_cons_succ]
  refine wpAnyH_ready (rs := [34]) (by kernel_rfl) (by simp) ?_
  refine' AllReadyH.cons (o := _) ?p34A (fun K hK => ?q34A) ?r34A
  case p34A => (simp only [List.getElem?_toArray, List.getElem?_cons_succ, List.getElem?_cons_zero]; exact rfl)
  case r34A => exact AllReadyH.nil
  go_simp
  refine hK.out _ _ ?_ (fun hHeld => ?_)
  · obtain ⟨k0, k1, k2, k3⟩ := hHeld; exact ⟨set_far k0 (by decide), set_far k1 (by decide), set_far k2 (by decide), set_far k3 (by decide)⟩
  clear hK K
  (try simp only [Act.put, List.setIfInBounds_toArray, List.set_cons_zero, List.set_cons_succ])
  refine wpAnyH_done (by kernel_rfl) ?_ _
  have hM1 : MachAt w1 M { text := text, pos := pos, line := line, col := col, opn := opn, toks := toks } := MachAt.of_block hM.out ((hgrow.block M (by simp; omega) (fun e => hne.out e.symm)).trans (((Below.refl w.heap.size w).alloc (Nat.le_refl _) _).drew.block M hlt))
  have hM2 := hM1.set (m' := { text := text, pos := pos, line := line, col := col, opn := opn, toks := Value.slice (some { block := g, off := 0 }) (n + 1) cap }) 5 (Value.slice (some { block := g, off := 0 }) (n + 1) cap) rfl
  have hO2 := ownsRow_setCell_below hown1 (a := ⟨M, 5, none⟩) (by show M < M + 1; omega) (Value.slice (some { block := g, off := 0 }) (n + 1) cap)
  have hB2 : Below M w (w1.setCell ⟨M, 5, none⟩ (Value.slice (some { block := g, off := 0 }) (n + 1) cap)) := Below.setCell ((((Below.refl M w).alloc (Nat.le_of_lt hlt) _).drew).grown hgrow (show M ≤ (w.heap.push _).size by simp only [Array.size_push]; omega) (fun k hk => Nat.le_of_succ_le (hO.out.lt k hk).1)) (Nat.le_refl M) _
  clear hfz1 q51 hHeld q0 q1 q2 q3 q5 hfz hM1 hown1
  generalize w1.setCell ⟨M, 5, none⟩ (Value.slice (some { block := g, off := 0 }) (n + 1) cap) = W at *
  have q4 := hM2.c4
  have f4 := hM2.free 4
  dsimp only at q4
  have hM2 := Lib.hid hM2
  have hO2 := Lib.hid hO2
  have hB2 := Lib.hid hB2
  go_wp2_with fail
  have hM3 := hM2.out.set (m' := { text := text, pos := pos, line := line, col := col, opn := true, toks := Value.slice (some { block := g, off := 0 }) (n + 1) cap }) 4 (.bool true) rfl
  refine (forward_any M _ size _ hM3 hsz ht hc0 hc1).mono ?_
  rintro e w3 ⟨rfl, hM4, hg4⟩
  go_wp2_with fail
  go_end0
  refine ⟨rfl, _, hM4, ?_, ?_⟩
  · have hO3 := ownsRow_setCell_below hO2.out (a := ⟨M, 4, none⟩) (by show M < M + 1; omega) (Value.bool true)
    refine own_heap hO3 (fun k hk => hg4.block k (hO3.lt k hk).2 (fun e => ?_))
    have h1 := (hO3.lt k hk).1
    injection e with e
    omega
  · exact (hB2.out.setCell (p := ⟨M, 4, none⟩) (Nat.le_refl M) _).grown hg4 (by have := hM3.lt; omega) (fun k hk => by injection hk with hk; omega)
  refine' AllReadyH.cons (o := _) ?p30C (fun K hK => ?q30C) ?r30C
  case p30C => (simp only [List.getElem?_toArray, List.getElem?_cons_succ, List.getElem?_cons_zero]; exact rfl)
  case r30C => exact AllReadyH.nil
  go_simp
  refine hK.out _ _ ?_ (fun hHeld => ?_)
  · go_keep
  clear hK K
  (try simp only [Act.put, List.setIfInBounds_toArray, List.set_cons_zero, List.set_cons_succ])
  refine wpAnyH_ready (rs := [4]) (by kernel_rfl) (by simp) ?_
  refine' AllReadyH.cons (o := _) ?p4D (fun K hK => ?q4D) ?r4D
  case p4D => (simp only [List.getElem?_toArray, List.getElem?_cons_succ, List.getElem?_cons_zero]; exact rfl)
  case r4D => exact AllReadyH.nil
  go_simp
  refine hK.out _ _ ?_ (fun hHeld => ?_)
  · exact hHeld
  clear hK K
  (try simp only [Act.put, List.setIfInBounds_toArray, List.set_cons_zero, List.set_cons_succ])
  refine wpAnyH_ready (rs := [31]) (by kernel_rfl) (by simp) ?_
  refine' AllReadyH.cons (o := _) ?p31E (fun K hK => ?q31E) ?r31E
  case p31E => (simp only [List.getElem?_toArray, List.getElem?_cons_succ, List.getElem?_cons_zero]; exact rfl)
  case r31E => exact AllReadyH.nil
  refine step_append_lies _ (by rfl) (.tmp 10) (.tmp 36) _ (by rfl) (M + 1) 76 i0 _ 4 40 Tryz.underlying61 hi.out hz0.out hz1.out hz2.out rfl (by decide) toks n xs (by rfl) ((hO.out.alloc _).drew) ⟨w.heap.size, 0, none⟩ 1 1 (tokC kind (text.extract pos (pos + size)) line col) (by rfl) (by rfl) (World.news_of_block (heap_alloc_new w _)) (by intro u hu; simp only [tokC, List.mem_cons, List.not_mem_nil, or_false] at hu; rcases hu with rfl | rfl | rfl | rfl <;> rfl) (by decide) (by unfold maxLen; omega) (by omega) (by simp; omega) (w.heap.size + 1) (by simp) ?_
  intro g cap w1 hown1 hgrow hat hg
  have hfz1 : w1.frozen? ⟨M, 5, none⟩ = false := (hgrow.frozen_far (a := ⟨M, 5, none⟩) (by simp; omega) (by intro e; exact hne.out e.symm)).trans ((Below.frozen ((Below.refl w.heap.size w).alloc (Nat.le_refl _) _).drew (p := ⟨M, 5, none⟩) hlt).trans hfz)
  have q51 : w1.cell? ⟨M, 5, none⟩ = some toks := (hgrow.cell_far (a := ⟨M, 5, none⟩) (by simp; omega) (by intro e; exact hne.out e.symm)).trans ((Below.cell ((Below.refl w.heap.size w).alloc (Nat.le_refl _) _).drew (p := ⟨M, 5, none⟩) hlt).trans q5)
  refine hK.out _ _ ?_ (fun hHeld => ?_)
  · refine ⟨?_, ?_, ?_, ?_⟩ <;> (rw [hgrow.cell_far _ (by simp; omega) (by intro e; exact hne.out e.symm)]; go_keep)
  clear hK K
  (try simp only [Act.put, List.setIfInBounds_toArray, List.set_cons_zero, List.set_cons_succ])
  refine' wpAnyH_take (i := 32) (oi := _) (v := _) ?a32E ?b32E ?c32E ?d32E ?e32E (Or.inl ⟨?f32E, ?g32E⟩) hHeld ?h32E
  case a32E => (simp only [List.getElem?_toArray, List.getElem?_cons_succ, List.getElem?_cons_zero]; exact rfl)
  case b32E => kernel_rfl
  case c32E => kernel_rfl
  case d32E => kernel_rfl
  case e32E => exact fun _ _ _ h => h
  case f32E => rfl
  case g32E => (intro w' hSw; obtain ⟨s0, s1, s2, s3⟩ := hSw; go_simp; (try with_reducible rfl))
  simp only [Act.put, List.setIfInBounds_toArray, List.set_cons_zero, List.set_cons_succ]
  refine' wpAnyH_take (i := 33) (oi := _) (v := _) ?a33E ?b33E ?c33E ?d33E ?e33E (Or.inl ⟨?f33E, ?g33E⟩) hHeld ?h33E
  case a33E => (simp only [List.getElem?_toArray, List.getElem?_cons_succ, List.getElem?_cons_zero]; exact rfl)
  case b33E => kernel_rfl
  case c33E => kernel_rfl
  case d33E => kernel_rfl
  case e33E => exact fun _ _ _ h => h
  case f33E => rfl
  case g33E => (intro w' hSw; obtain ⟨s0, s1, s2, s3⟩ := hSw; go_simp; (try with_reducible rfl))
  simp only [Act.put, List.setIfInBounds_toArray, List.set_cons_zero, List.set_cons_succ]
  refine wpAnyH_ready (rs := [34]) (by kernel_rfl) (by simp) ?_
  refine' AllReadyH.cons (o := _) ?p34E (fun K hK => ?q34E) ?r34E
  case p34E => (simp only [List.getElem?_toArray, List.getElem?_cons_succ, List.getElem?_cons_zero]; exact rfl)
  case r34E => exact AllReadyH.nil
  go_simp
  refine hK.out _ _ ?_ (fun hHeld => ?_)
  · obtain ⟨k0, k1, k2, k3⟩ := hHeld; exact ⟨set_far k0 (by decide), set_far k1 (by decide), set_far k2 (by decide), set_far k3 (by decide)⟩
  clear hK K
  (try simp only [Act.put, List.setIfInBounds_toArray, List.set_cons_zero, List.set_cons_succ])
  refine wpAnyH_done (by kernel_rfl) ?_ _
  have hM1 : MachAt w1 M { text := text, pos := pos, line := line, col := col, opn := opn, toks := toks } := MachAt.of_block hM.out ((hgrow.block M (by simp; omega) (fun e => hne.out e.symm)).trans (((Below.refl w.heap.size w).alloc (Nat.le_refl _) _).drew.block M hlt))
  have hM2 := hM1.set (m' := { text := text, pos := pos, line := line, col := col, opn := opn, toks := Value.slice (some { block := g, off := 0 }) (n + 1) cap }) 5 (Value.slice (some { block := g, off := 0 }) (n + 1) cap) rfl
  have hO2 := ownsRow_setCell_below hown1 (a := ⟨M, 5, none⟩) (by show M < M + 1; omega) (Value.slice (some { block := g, off := 0 }) (n + 1) cap)
  have hB2 : Below M w (w1.setCell ⟨M, 5, none⟩ (Value.slice (some { block := g, off := 0 }) (n + 1) cap)) := Below.setCell ((((Below.refl M w).alloc (Nat.le_of_lt hlt) _).drew).grown hgrow (show M ≤ (w.heap.push _).size by simp only [Array.size_push]; omega) (fun k hk => Nat.le_of_succ_le (hO.out.lt k hk).1)) (Nat.le_refl M) _
  clear hfz1 q51 hHeld q0 q1 q2 q3 q5 hfz hM1 hown1
  generalize w1.setCell ⟨M, 5, none⟩ (Value.slice (some { block := g, off := 0 }) (n + 1) cap) = W at *
  have q4 := hM2.c4
  have f4 := hM2.free 4
  dsimp only at q4
  have hM2 := Lib.hid hM2
  have hO2 := Lib.hid hO2
  have hB2 := Lib.hid hB2
  go_wp2_with fail
  have hM3 := hM2.out.set (m' := { text := text, pos := pos, line := line, col := col, opn := true, toks := Value.slice (some { block := g, off := 0 }) (n + 1) cap }) 4 (.bool true) rfl
  refine (forward_any M _ size _ hM3 hsz ht hc0 hc1).mono ?_
  rintro e w3 ⟨rfl, hM4, hg4⟩
  go_wp2_with fail
  go_end0
  refine ⟨rfl, _, hM4, ?_, ?_⟩
  · have hO3 := ownsRow_setCell_below hO2.out (a := ⟨M, 4, none⟩) (by show M < M + 1; omega) (Value.bool true)
    refine own_heap hO3 (fun k hk => hg4.block k (hO3.lt k hk).2 (fun e => ?_))
    have h1 := (hO3.lt k hk).1
    injection e with e
    omega
  · exact (hB2.out.setCell (p := ⟨M, 4, none⟩) (Nat.le_refl M) _).grown hg4 (by have := hM3.lt; omega) (fun k hk => by injection hk with hk; omega)
end Go.Proofs.YtjokciofeicdkaaGreatDoor
