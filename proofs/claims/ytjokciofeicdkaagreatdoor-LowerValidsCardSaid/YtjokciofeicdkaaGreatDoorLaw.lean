/- The law: LowerValids answers true, for every network. -/
import Derived.Test.YtjokciofeicdkaaGreatDoorRoomy
import Derived.Test.YtjokciofeicdkaaGreatDoorMark4
import Derived.Test.YtjokciofeicdkaaGreatDoorVal6
import Derived.Test.YtjokciofeicdkaaGreatDoorRef6
namespace Go.Proofs.YtjokciofeicdkaaGreatDoor
open Go.RowKit

theorem zero_code : codeS (validS ⟨0, [], [], []⟩) = 90 := by simp [codeS, validS]
theorem one_code : codeS (validS ⟨1, [], [], []⟩) = 0 := by rfl
theorem bare_net (w : World) (B : Nat) (i : Int) : NetAt w B (.agg #[.int .i64 i, .slice none 0 0, .slice none 0 0, .slice none 0 0]) ⟨i, [], [], []⟩ := ⟨_, _, _, rfl, slOf_nil, slOf_nil, slOf_nil⟩
theorem below_size {w w1 w2 : World} (h1 : Below w.heap.size w w1) (h2 : Below w1.heap.size w1 w2) : Below w.heap.size w w2 := h1.trans (h2.mono h1.size)

set_option maxHeartbeats 4000000 in
set_option maxRecDepth 100000 in
theorem law_any (n : NetS) (v : Value) (w : World) (hn : NetAt w w.heap.size v n) (hsm : SmallN n) (E : Env w) :
    Calls Tryz.prog 3 #[v] w fun e w' => e = .returned (.bool true) ∧ Below w.heap.size w w' := by
  have hn0 := Lib.hid hn
  obtain ⟨vp, vt, vg, rfl, hp, ht, hg⟩ := hn
  obtain ⟨A1, cap1, rfl, hcl1, hcap1⟩ := SlOf.form hp
  obtain ⟨A2, cap2, rfl, hcl2, hcap2⟩ := SlOf.form ht
  obtain ⟨A3, cap3, rfl, hcl3, hcap3⟩ := SlOf.form hg
  clear hp ht hg
  have hE := Lib.hid E
  have hsm := Lib.hid hsm
  clear E hcl1 hcap1 hcl2 hcap2 hcl3 hcap3
  obtain ⟨W1, hW1⟩ : ∃ W1, w.alloc (.cells #[.int .i64 n.bits, .slice A1 n.ports.length cap1, .slice A2 n.tables.length cap2, .slice A3 n.guards.length cap3] 26 (0, 0)) = W1 := ⟨_, rfl⟩
  have b1 : Below w.heap.size w W1 := hW1 ▸ (Below.refl _ w).alloc (Nat.le_refl _) _
  have z1 : W1.heap.size = w.heap.size + 1 := by rw [← hW1]; simp
  have x1 : Hid (KAt W1 w.heap.size n.bits (.slice A1 n.ports.length cap1) (.slice A2 n.tables.length cap2) (.slice A3 n.guards.length cap3)) := Lib.hid (show W1.heap[w.heap.size]? = _ by rw [← hW1]; exact heap_alloc_new w _)
  have b1 := Lib.hid b1
  have z1 := Lib.hid z1
  have ca : Hid (∀ W, Below w.heap.size w W → Calls Tryz.prog 5 #[.agg #[.int .i64 0, .slice none 0 0, .slice none 0 0, .slice none 0 0]] W fun e w' => e = .returned (.int .i64 90) ∧ Below W.heap.size W w') :=
    Lib.hid fun W h => zero_code ▸ lowValid_any ⟨0, [], [], []⟩ _ W.heap.size W (bare_net _ _ _) (Nat.le_refl _) (hE.out.below h)
  have cb : Hid (∀ W, Below w.heap.size w W → Calls Tryz.prog 5 #[.agg #[.int .i64 1, .slice none 0 0, .slice none 0 0, .slice none 0 0]] W fun e w' => e = .returned (.int .i64 0) ∧ Below W.heap.size W w') :=
    Lib.hid fun W h => one_code ▸ lowValid_any ⟨1, [], [], []⟩ _ W.heap.size W (bare_net _ _ _) (Nat.le_refl _) (hE.out.below h)
  have cr : Hid (∀ W, Below w.heap.size w W → Calls Tryz.prog 6 #[.agg #[.int .i64 n.bits, .slice A1 n.ports.length cap1, .slice A2 n.tables.length cap2, .slice A3 n.guards.length cap3]] W fun e w' => ∃ a b, e = .returned (.tuple #[a, b]) ∧ GivenAt w' w'.heap.size a n ∧ KeptAt w' w'.heap.size b n ∧ Below W.heap.size W w') :=
    Lib.hid fun W h => Roomy_any n _ w.heap.size W (hn0.out.below h (Nat.le_refl _)) h.size hsm.out
  go_enter Tryz.func3, Tryz.ntmps3
  go_wp2_with fail
  refine (ca.out _ b1.out).mono ?_
  rintro e w1 ⟨rfl, hc1⟩
  clear hW1
  go_wp2_with fail
  refine (cb.out _ (b1.out.trans (hc1.mono (by have := z1.out; omega)))).mono ?_
  rintro e w2 ⟨rfl, hc2⟩
  have hc2 := hc1.trans (hc2.mono hc1.size)
  have b2 := Lib.hid (b1.out.trans (hc2.mono (by have := z1.out; omega)))
  have x2 := Lib.hid (x1.out.of_block (hc2.block _ (by have := z1.out; omega)))
  have q0 := x2.out.c0
  have q1 := x2.out.c1
  have q2 := x2.out.c2
  have q3 := x2.out.c3
  have hlt2 : w.heap.size < w2.heap.size := x2.out.lt
  clear hc1 hc2 ca cb
  go_wp2_with fail
  refine (cr.out _ b2.out).mono ?_
  rintro e w3 ⟨a, b, rfl, hga, hkb, hc3⟩
  have hga := Lib.hid hga
  have hkb := Lib.hid hkb
  obtain ⟨gp, gt, gg, rfl, gh1, _, gh2, _, gh3⟩ := hga.out
  obtain ⟨G1, gc1, rfl, _, _⟩ := SlOf.form gh1.slOf
  obtain ⟨G2, gc2, rfl, _, _⟩ := SlOf.form gh2
  obtain ⟨G3, gc3, rfl, _, _⟩ := SlOf.form gh3
  obtain ⟨kp, kt, kg, rfl, kh1, kh2, kh3⟩ := hkb.out
  obtain ⟨K1, kc1, rfl, _, _⟩ := SlOf.form kh1
  obtain ⟨K2, kc2, rfl, _, _⟩ := SlOf.form kh2
  obtain ⟨K3, kc3, rfl, _, _⟩ := SlOf.form kh3
  clear gh1 gh2 gh3 kh1 kh2 kh3 q0 q1 q2 q3 cr
  have b3 := Lib.hid (b2.out.trans (hc3.mono (Nat.le_of_lt hlt2)))
  have x3 := Lib.hid (x2.out.of_block (hc3.block _ hlt2))
  have hlt3 : w.heap.size < w3.heap.size := Nat.lt_of_lt_of_le hlt2 hc3.size
  obtain ⟨W4, hW4⟩ : ∃ W4, w3.alloc (.cells #[.int .i64 n.bits, .slice G1 n.ports.length gc1, .slice G2 n.tables.length gc2, .slice G3 n.guards.length gc3] 26 (0, 0)) = W4 := ⟨_, rfl⟩
  obtain ⟨W5, hW5⟩ : ∃ W5, W4.alloc (.cells #[.int .i64 n.bits, .slice K1 n.ports.length kc1, .slice K2 n.tables.length kc2, .slice K3 n.guards.length kc3] 26 (0, 0)) = W5 := ⟨_, rfl⟩
  have b4 : Below w3.heap.size w3 W4 := hW4 ▸ (Below.refl _ w3).alloc (Nat.le_refl _) _
  have b5 : Below W4.heap.size W4 W5 := hW5 ▸ (Below.refl _ W4).alloc (Nat.le_refl _) _
  have z4 : W4.heap.size = w3.heap.size + 1 := by rw [← hW4]; simp
  have z5 : W5.heap.size = w3.heap.size + 2 := by rw [← hW5]; simp [z4]
  have b35 : Below w3.heap.size w3 W5 := b4.trans (b5.mono (by omega))
  have g5 := Lib.hid ((show KAt W4 w3.heap.size n.bits (.slice G1 n.ports.length gc1) (.slice G2 n.tables.length gc2) (.slice G3 n.guards.length gc3) from (by unfold KAt; rw [← hW4]; exact heap_alloc_new w3 _)).of_block (b5.block _ (by omega)))
  have k5 := Lib.hid (show KAt W5 (w3.heap.size + 1) n.bits (.slice K1 n.ports.length kc1) (.slice K2 n.tables.length kc2) (.slice K3 n.guards.length kc3) from (by unfold KAt; rw [← hW5, ← z4]; exact heap_alloc_new W4 _))
  have x5 := Lib.hid (x3.out.of_block (b35.block _ hlt3))
  have hw5 := Lib.hid (b3.out.trans (b35.mono (Nat.le_of_lt hlt3)))
  have b35 := Lib.hid b35
  have z5 := Lib.hid z5
  have cg : Hid (∀ W, Below w3.heap.size w3 W → Calls Tryz.prog 5 #[.agg #[.int .i64 n.bits, .slice G1 n.ports.length gc1, .slice G2 n.tables.length gc2, .slice G3 n.guards.length gc3]] W fun e w' => e = .returned (.int .i64 (codeS (validS n))) ∧ Below W.heap.size W w') :=
    Lib.hid fun W h => lowValid_any n _ w3.heap.size W (hga.out.plain.below h (Nat.le_refl _)) h.size (hE.out.below (b3.out.trans (h.mono (Nat.le_of_lt hlt3))))
  have cv : Hid (∀ W, Below w.heap.size w W → Calls Tryz.prog 7 #[.agg #[.int .i64 n.bits, .slice A1 n.ports.length cap1, .slice A2 n.tables.length cap2, .slice A3 n.guards.length cap3]] W fun e w' => e = .returned (.int .i64 (codeS (validS n))) ∧ Below W.heap.size W w') :=
    Lib.hid fun W h => refValid_any n _ w.heap.size W (hn0.out.below h (Nat.le_refl _)) h.size
  have cm : Hid (∀ W, Below w3.heap.size w3 W → Calls Tryz.prog 8 #[.agg #[.int .i64 n.bits, .slice G1 n.ports.length gc1, .slice G2 n.tables.length gc2, .slice G3 n.guards.length gc3], .agg #[.int .i64 n.bits, .slice K1 n.ports.length kc1, .slice K2 n.tables.length kc2, .slice K3 n.guards.length kc3], .agg #[.int .i64 n.bits, .slice A1 n.ports.length cap1, .slice A2 n.tables.length cap2, .slice A3 n.guards.length cap3]] W fun e w' => e = .returned (.bool true) ∧ Below W.heap.size W w') :=
    Lib.hid fun W h => Marked_any n _ _ _ w3.heap.size W (hga.out.keepI (Nat.le_refl _) (belowI h (Nat.le_refl _))) (hkb.out.keepI (Nat.le_refl _) (belowI h (Nat.le_refl _))) (hn0.out.below (b3.out.trans (h.mono (Nat.le_of_lt hlt3))) (Nat.le_refl _) |>.keep (Nat.le_of_lt hlt3) fun _ _ _ => rfl) h.size
  have g0 := g5.out.c0
  have g1 := g5.out.c1
  have g2 := g5.out.c2
  have g3 := g5.out.c3
  clear b4 b5 hga hkb hn0 hsm hE b2 x1 x2 x3 b1 z1
  go_upto_region 4 with fail
  go_wp2_with fail
  refine (cg.out _ b35.out).mono ?_
  rintro e w6 ⟨rfl, hc6⟩
  have g6 := Lib.hid (g5.out.of_block (hc6.block _ (by have := z5.out; omega)))
  have k6 := Lib.hid (k5.out.of_block (hc6.block _ (by have := z5.out; omega)))
  have x6 := Lib.hid (x5.out.of_block (hc6.block _ (by have := z5.out; omega)))
  clear g0 g1 g2 g3 hW4 hW5 cg
  have h36 := Lib.hid (b35.out.trans (hc6.mono b35.out.size))
  have hw6 := Lib.hid (hw5.out.trans (hc6.mono hw5.out.size))
  clear hc6 g5 k5 x5 b35 hw5 z4 z5
  have q0 := x6.out.c0
  have q1 := x6.out.c1
  have q2 := x6.out.c2
  have q3 := x6.out.c3
  go_wp2_with fail
  refine (cv.out _ hw6.out).mono ?_
  rintro e w7 ⟨rfl, hc7⟩
  have g7 := g6.out.of_block (hc7.block _ g6.out.lt)
  have k7 := k6.out.of_block (hc7.block _ k6.out.lt)
  have x7 := x6.out.of_block (hc7.block _ x6.out.lt)
  have h37 := Lib.hid (h36.out.trans (hc7.mono h36.out.size))
  have hw7 := Lib.hid (hw6.out.trans (hc7.mono hw6.out.size))
  have a0 := x7.c0
  have a1 := x7.c1
  have a2 := x7.c2
  have a3 := x7.c3
  have d0 := g7.c0
  have d1 := g7.c1
  have d2 := g7.c2
  have d3 := g7.c3
  have f0 := k7.c0
  have f1 := k7.c1
  have f2 := k7.c2
  have f3 := k7.c3
  clear q0 q1 q2 q3 x6 g6 k6 x7 g7 k7 cv h36 hw6 hc7
  go_wp2_with fail
  refine (cm.out _ h37.out).mono ?_
  rintro e w8 ⟨rfl, hc8⟩
  have hw8 := Lib.hid (hw7.out.trans (hc8.mono hw7.out.size))
  clear a0 a1 a2 a3 d0 d1 d2 d3 f0 f1 f2 f3 cm h37 hw7 hc8
  go_wp2_with fail
  refine bodyPost_ret (v := .bool true) (by simp [results, Tryz.results3, go_sem]) rfl ?_
  exact ⟨rfl, hw8.out⟩
end Go.Proofs.YtjokciofeicdkaaGreatDoor
