/- Walks: roomGuard. -/
import Derived.Test.YtjokciofeicdkaaGreatDoorRoom2
namespace Go.Proofs.YtjokciofeicdkaaGreatDoor
open Go.RowKit

abbrev zG : List Value := [.bool false, .slice none 0 0]
def markG (m : ByteArray) : GuardS := ⟨false, [m]⟩
theorem zG_facts {w : World} {b k m : Nat} {t : TypeId} {cs : List (List Value)} (h : RowF w b t zG cs (m + 1)) (hk : cs.length = k) :
    w.cell? ⟨b, k * 2, none⟩ = some (.bool false) ∧ w.cell? ⟨b, k * 2 + 1, none⟩ = some (.slice none 0 0) ∧ w.frozen? ⟨b, k * 2, none⟩ = false ∧ w.frozen? ⟨b, k * 2 + 1, none⟩ = false := by
  subst hk
  exact ⟨h.zel (j := 0) rfl, h.zel (j := 1) rfl, h.free _, h.free _⟩
theorem gua_step {l : List GuardS} {k : Nat} {x : GuardS} (hx : l[k]? = some x) {cs : List (List Value)} (hlen : cs.length = k) {wq w1 w4 : World} {b0 : Nat} (hb0 : b0 < wq.heap.size) (q1 : Below wq.heap.size wq w1)
    (q4 : ∀ i, i ≠ b0 → w4.heap[i]? = w1.heap[i]?) (hs4 : w4.heap.size = w1.heap.size)
    (hE : ∀ (i : Nat) (c : List Value) (x : GuardS), cs[i]? = some c → l[i]? = some x → GuardKC (dead wq (b0 + 1)) wq.heap.size c x) {v1 : Value}
    (r1 : Room 1 StrC (dead w1 wq.heap.size) w1.heap.size v1 x.cubes [mark1, mark2]) :
    ∀ (i : Nat) (c : List Value) (y : GuardS), (cs ++ [[.bool x.permit, v1]])[i]? = some c → l[i]? = some y → GuardKC (dead w4 (b0 + 1)) w4.heap.size c y := by
  intro i c y hc hy
  by_cases hi : i < k
  · rw [List.getElem?_append_left (by omega)] at hc
    exact ((hE i c y hc hy).keepI (Nat.le_trans q1.size (Nat.le_of_eq hs4.symm)) fun b o u hb h => deadSet (B := wq.heap.size) (Nat.lt_succ_self b0) q4 b o u hb (deadI (Nat.le_refl _) q1 (Nat.le_refl _) b o u hb h))
  · have hik : i = k := by
      have := (List.getElem?_eq_some_iff.1 hc).1
      simp at this; omega
    subst hik
    rw [List.getElem?_append_right (by omega), hlen, Nat.sub_self] at hc
    simp only [List.getElem?_cons_zero, Option.some.injEq] at hc
    rw [hx] at hy
    cases hy
    subst hc
    exact ⟨v1, rfl, r1.keepI (Nat.le_of_eq hs4.symm) (fun b o u hb h => deadSet (B := w1.heap.size) (Nat.lt_succ_self b0) q4 b o u hb (deadI (by omega) (Below.refl w1.heap.size w1) (Nat.le_refl _) b o u hb h)) fun _ _ h => h⟩
theorem one_text {w : World} {g B : Nat} {m : ByteArray} (hm : m.size ≤ 140737488355328) (hg : g < B) (hc : w.cell? ⟨g, 0, none⟩ = some (.string m)) : Texts w B (.slice (some ⟨g, 0, none⟩) 1 1) [m] :=
  ⟨[[.string m]], rfl, (by simp), ⟨_, _, rfl, Nat.le_refl _, (by simp), rfl, fun _ => ⟨g, 0, rfl, hg, fun j u hu => by
    cases j with
    | zero => simp at hu; subst hu; exact hc
    | succ j => simp at hu⟩⟩, fun i c x h1 h2 => by
      cases i with
      | zero => simp at h1 h2; subst h1 h2; exact ⟨rfl, hm⟩
      | succ i => simp at h1⟩
theorem gua_end {l : List GuardS} {cs : List (List Value)} (hlen : cs.length = l.length) (hle : l.length ≤ 4398046510977) {wq W4 : World} {b0 g1 g2 : Nat}
    (hP : RowF W4 b0 56 zG (cs ++ [[.bool false, .slice (some ⟨g1, 0, none⟩) 1 1]] ++ [[.bool false, .slice (some ⟨g2, 0, none⟩) 1 1]]) 0)
    (q4 : ∀ i, i < wq.heap.size → i ≠ b0 → W4.heap[i]? = wq.heap[i]?) (hs4 : wq.heap.size ≤ W4.heap.size) (hE : ∀ (i : Nat) (c : List Value) (x : GuardS), cs[i]? = some c → l[i]? = some x → GuardKC (dead wq (b0 + 1)) wq.heap.size c x)
    (h1 : b0 ≤ g1) (h2 : b0 ≤ g2) (h3 : g1 < W4.heap.size) (h4 : g2 < W4.heap.size) (e1 : W4.cell? ⟨g1, 0, none⟩ = some (.string mark1)) (e2 : W4.cell? ⟨g2, 0, none⟩ = some (.string mark2)) :
    Room 2 GuardC (dead W4 b0) W4.heap.size (.slice (some ⟨b0, 0, none⟩) l.length (l.length + 2)) l [markG mark1, markG mark2] ∧ SlOf 2 GuardKC (dead W4 b0) W4.heap.size (.slice (some ⟨b0, 0, none⟩) l.length (l.length + 2)) l := by
  have hK : ∀ (i : Nat) (c : List Value) (x : GuardS), i < l.length → (cs ++ [[.bool false, .slice (some ⟨g1, 0, none⟩) 1 1]] ++ [[.bool false, .slice (some ⟨g2, 0, none⟩) 1 1]])[i]? = some c → l[i]? = some x → GuardKC (dead W4 b0) W4.heap.size c x := by
    intro i c x hi hc hx
    rw [List.append_assoc, List.getElem?_append_left (by omega)] at hc
    exact (hE i c x hc hx).keepI hs4 fun b o u hb h => by
      obtain ⟨p1, p2⟩ := dead_cell.1 h
      exact dead_cell.2 ⟨by omega, (World.cell?_of_block (w := wq) (a := ⟨b, o, none⟩) (q4 b hb (by omega))).trans p2⟩
  refine ⟨(hP.dead (Nat.le_refl _)).room (by simp [hlen]) hP.row.lt (by simp) (by omega) fun i c x hc hx => ?_, (hP.dead (Nat.le_refl _)).slOfPre (by simp [hlen]) hP.row.lt (by omega) (by omega) fun i c x hc hx => hK i c x (List.getElem?_eq_some_iff.1 hx).1 hc hx⟩
  by_cases hi : i < l.length
  · rw [List.getElem?_append_left hi] at hx
    exact (hK i c x hi hc hx).plain
  · rw [List.getElem?_append_right (by omega)] at hx
    rw [List.append_assoc, List.getElem?_append_right (by omega), hlen] at hc
    rcases Nat.eq_zero_or_pos (i - l.length) with h0 | h0
    · rw [h0] at hx hc
      simp at hx hc
      subst hx hc
      exact ⟨_, rfl, one_text (by decide) h3 (dead_cell.2 ⟨h1, e1⟩)⟩
    · obtain ⟨j, hj⟩ : ∃ j, i - l.length = j + 1 := ⟨i - l.length - 1, by omega⟩
      rw [hj] at hx hc
      cases j with
      | zero =>
        simp at hx hc
        subst hx hc
        exact ⟨_, rfl, one_text (by decide) h4 (dead_cell.2 ⟨h2, e2⟩)⟩
      | succ j => simp at hx

set_option maxHeartbeats 2000000 in
set_option maxRecDepth 100000 in
theorem roomGuard_any (l : List GuardS) (vl : Value) (B : Nat) (w : World) (hl : SlOf 2 GuardC w B vl l) (hB : B ≤ w.heap.size) (hle : l.length ≤ 4398046510977) (hsm : ∀ g ∈ l, g.cubes.length ≤ 17592186044406) :
    Calls Tryz.prog 16 #[vl] w fun e w' => ∃ v, e = .returned v ∧ Room 2 GuardC (dead w' w.heap.size) w'.heap.size v l [markG mark1, markG mark2] ∧ SlOf 2 GuardKC (dead w' w.heap.size) w'.heap.size v l ∧ Below w.heap.size w w' := by
  obtain ⟨A, cap, rfl, hcl, hcap⟩ := SlOf.form hl
  have hmk := make_any 53 56 (.agg #[.bool false, .slice none 0 0]) 2 32 Tryz.underlying53 infoGuard (l.length + 2) ((l.length : Int) + 2) (by omega) (by omega) (by omega)
  have hF0 := Lib.hid (RowF.made w 56 #[.bool false, .slice none 0 0] (by decide) (l.length + 2))
  simp only [Value.cells] at hmk
  obtain ⟨W1, hW1⟩ : ∃ W1, w.alloc (.cells (madeCells #[.bool false, .slice none 0 0] ((l.length + 2) * 2)) 56 (0, 0)) = W1 := ⟨_, rfl⟩
  have hb0 := Lib.hid ((Below.refl w.heap.size w).alloc (Nat.le_refl _) (.cells (madeCells #[.bool false, .slice none 0 0] ((l.length + 2) * 2)) 56 (0, 0)))
  have hF1 : Hid (RowF W1 w.heap.size 56 zG [] (l.length + 2 - 0)) := Lib.hid (by rw [← hW1]; exact hF0.out)
  rw [hW1] at hb0
  have hz : Hid (W1.heap.size = w.heap.size + 1) := Lib.hid (by rw [← hW1]; simp)
  have hL := Lib.hid hl
  have hS := Lib.hid hsm
  clear hF0 hl hsm
  go_enter Tryz.func16, Tryz.ntmps16
  go_wp2_with fail
  clear hmk hW1
  go_loopw [4] (fun i wr => ∃ (k : Nat) (cs : List (List Value)), k ≤ l.length ∧ i = .int .i64 k ∧ cs.length = k ∧ Hid (RowF wr w.heap.size 56 zG cs (l.length + 2 - k)) ∧
    Hid (∀ (i : Nat) (c : List Value) (x : GuardS), cs[i]? = some c → l[i]? = some x → GuardKC (dead wr (w.heap.size + 1)) wr.heap.size c x) ∧ Hid (Below w.heap.size w wr)) (fun i _ => l.length - (intOf i).toNat)
  case atStart => exact ⟨0, [], Nat.zero_le _, rfl, rfl, hF1, Lib.hid fun i c x h => by simp at h, hb0⟩
  case round =>
    obtain ⟨k, cs, hk, rfl, hlen, hF, hE, hbw⟩ := hrel
    obtain ⟨wq, rfl⟩ : ∃ wq, wq = wr := ⟨_, rfl⟩
    have hlen := Lib.hid hlen
    clear hF1 hb0
    have hsz : Hid (w.heap.size < wq.heap.size) := Lib.hid hF.out.row.lt
    by_cases hlt : k < l.length
    · have hL1 := SlOf.keep hL.out hB (fun b o h => (bcell hbw.out).1 b o (by omega)) fun _ _ h => h.keep hB fun b o h => (bcell hbw.out).1 b o (by omega)
      obtain ⟨b, off, rfl⟩ := SlOf.addr hL1 (by omega)
      obtain ⟨hb, c, x, hx, ⟨vc, hc, hC⟩, hj⟩ := SlOf.el hL1 hlt
      subst hc
      have f0 : wq.cell? ⟨b, off + k * 2, none⟩ = some (.bool x.permit) := hj 0 _ rfl
      have f1 : wq.cell? ⟨b, off + k * 2 + 1, none⟩ = some vc := hj 1 _ rfl
      clear hj
      obtain ⟨A3, cap3, rfl, hcl3, hcap3⟩ := SlOf.form hC
      have sm2 := hS.out x (List.mem_of_getElem? hx)
      have K : ∀ W, Below w.heap.size wq W → Below w.heap.size wq W ∧ W.cell? ⟨b, off + k * 2, none⟩ = some (.bool x.permit) ∧ W.cell? ⟨b, off + k * 2 + 1, none⟩ = some (.slice A3 x.cubes.length cap3) := fun W h =>
        ⟨h, (h.cell (p := ⟨b, _, none⟩) hb).trans f0, (h.cell (p := ⟨b, _, none⟩) hb).trans f1⟩
      have c1 : Hid (∀ W', Below w.heap.size wq W' → Calls Tryz.prog 39 #[.slice A3 x.cubes.length cap3] W' fun e w' => ∃ v, e = .returned v ∧ Room 1 StrC (dead w' W'.heap.size) w'.heap.size v x.cubes [mark1, mark2] ∧ Below W'.heap.size W' w') :=
        Lib.hid fun W' h => roomTexts_any x.cubes _ w.heap.size W' (hC.below h (Nat.le_refl _)) (by have := h.size; have := hsz.out; omega) (by omega)
      have hsz' : w.heap.size < wq.heap.size := hsz.out
      have hK := Lib.hid K
      have hlk : (k : Int) < ((l.length + 2 : Nat) : Int) := by omega
      have hlk2 : (k : Int) < (l.length : Int) + 2 := by omega
      have hF2 := hF.out
      rw [show l.length + 2 - k = (l.length + 2 - (k + 1)) + 1 by omega] at hF2
      have hF2 := Lib.hid hF2
      clear K hL1 hC
      go_wp2_with fail
      go_region_held3 (fun W => Below w.heap.size wq W ∧ W.cell? ⟨b, off + k * 2, none⟩ = some (.bool x.permit) ∧ W.cell? ⟨b, off + k * 2 + 1, none⟩ = some (.slice A3 x.cubes.length cap3))
        (first | with_reducible exact hHeld | with_reducible exact hK.out _ hB1 | exact hK.out _ (below_drewN (Below.refl _ _) 1) | exact hK.out _ ((hB1.setCell (Nat.le_refl _) _).setCell (Nat.le_refl _) _))
        ((go_at_call 39; refine (c1.out _ (below_drewN (Below.refl _ _) 1)).mono ?_; rintro e w1 ⟨_, rfl, ⟨A5, cap5, rfl, hr1⟩, hb1⟩; have hB1 : Below w.heap.size wq w1 := (below_drewN (Below.refl _ _) 1).trans (hb1.mono (Nat.le_of_lt hsz')); have hF3 := Lib.hid (hF2.out.of_block (hb1.block _ hsz')); obtain ⟨g0, g1, z0, z1⟩ := zG_facts hF3.out hlen.out))
      have hr := Lib.hid (gua_step hx hlen.out hsz' ⟨hb1.os, hb1.tape, hb1.output, hb1.size, hb1.block⟩ (w4 := setRow w1 w.heap.size (k * 2) [.bool x.permit, .slice A5 x.cubes.length cap5])
        (fun i hi => setRow_other hi _ _ _) (setRow_size _ _ _) hE.out ⟨A5, cap5, rfl, hr1⟩)
      have hP := hF3.out.put [.bool x.permit, .slice A5 x.cubes.length cap5] rfl
      rw [hlen.out] at hP
      have hP := Lib.hid hP
      have hbz := Lib.hid (setRow_below (Nat.le_refl _) [.bool x.permit, .slice A5 x.cubes.length cap5] (k * 2) w w1 (hbw.out.trans hB1))
      clear g0 g1 z0 z1 hb1 hB1 hr1 hF3 hF2 c1 hK f0 f1
      go_wp2_with fail
      go_roundw
      case rel => exact ⟨k + 1, _, by omega, by go_num, by simp [hlen.out], hP, hr, hbz⟩
      case measure => simp [intOf]; omega
    · have hkl : k = l.length := by omega
      subst hkl
      have hF2 := hF.out
      rw [show l.length + 2 - l.length = 0 + 1 + 1 by omega] at hF2
      obtain ⟨Wa, hWa⟩ : ∃ Wa, wq.alloc (.cells #[.string mark1] 9 (0, 0)) = Wa := ⟨_, rfl⟩
      have hba : Below wq.heap.size wq Wa := hWa ▸ (Below.refl wq.heap.size wq).alloc (Nat.le_refl _) _
      have hza : Wa.heap.size = wq.heap.size + 1 := by rw [← hWa]; simp
      have hca : Wa.cell? ⟨wq.heap.size, 0, none⟩ = some (.string mark1) := by
        rw [← hWa]; simp
      have hFa := hF2.below hba hsz.out
      obtain ⟨g0, g1, z0, z1⟩ := zG_facts hFa hlen.out
      have hP1 := hFa.put [.bool false, .slice (some ⟨wq.heap.size, 0, none⟩) 1 1] rfl
      rw [hlen.out, show zG.length = 2 from rfl] at hP1
      have hlen1 : (cs ++ [([.bool false, .slice (some ⟨wq.heap.size, 0, none⟩) 1 1] : List Value)]).length = l.length + 1 := by simp [hlen.out]
      obtain ⟨Wc, hWc⟩ : ∃ Wc, setRow Wa w.heap.size (l.length * 2) [.bool false, .slice (some ⟨wq.heap.size, 0, none⟩) 1 1] = Wc := ⟨_, rfl⟩
      rw [hWc] at hP1
      have hzc : Wc.heap.size = wq.heap.size + 1 := by rw [← hWc, setRow_size, hza]
      obtain ⟨Wb, hWb⟩ : ∃ Wb, Wc.alloc (.cells #[.string mark2] 9 (0, 0)) = Wb := ⟨_, rfl⟩
      have hbb : Below Wc.heap.size Wc Wb := hWb ▸ (Below.refl Wc.heap.size Wc).alloc (Nat.le_refl _) _
      have hzb : Wb.heap.size = wq.heap.size + 2 := by rw [← hWb]; simp [hzc]
      have hcb : Wb.cell? ⟨wq.heap.size + 1, 0, none⟩ = some (.string mark2) := by
        rw [← hWb, ← hzc]; simp
      have hFb := hP1.below hbb (by have := hsz.out; omega)
      obtain ⟨k0, k1, y0, y1⟩ := zG_facts hFb hlen1
      have hP2 := hFb.put [.bool false, .slice (some ⟨wq.heap.size + 1, 0, none⟩) 1 1] rfl
      rw [hlen1, show zG.length = 2 from rfl] at hP2
      have hoth : ∀ i, i < wq.heap.size → i ≠ w.heap.size → (setRow Wb w.heap.size ((l.length + 1) * 2) [.bool false, .slice (some ⟨wq.heap.size + 1, 0, none⟩) 1 1]).heap[i]? = wq.heap[i]? := fun i hi hne => by
        rw [setRow_other hne, hbb.block i (by omega), ← hWc, setRow_other hne, hba.block i hi]
      have hs4 : (setRow Wb w.heap.size ((l.length + 1) * 2) [.bool false, .slice (some ⟨wq.heap.size + 1, 0, none⟩) 1 1]).heap.size = wq.heap.size + 2 := by rw [setRow_size, hzb]
      have hne1 : wq.heap.size ≠ w.heap.size := by have := hsz.out; omega
      have hne2 : wq.heap.size + 1 ≠ w.heap.size := by have := hsz.out; omega
      have hc1 : (setRow Wb w.heap.size ((l.length + 1) * 2) [.bool false, .slice (some ⟨wq.heap.size + 1, 0, none⟩) 1 1]).cell? ⟨wq.heap.size, 0, none⟩ = some (.string mark1) := by
        rw [World.cell?_of_block (w := Wb) (a := ⟨wq.heap.size, 0, none⟩) (setRow_other hne1 _ _ _), hbb.cell (p := ⟨wq.heap.size, 0, none⟩) (show wq.heap.size < _ by omega), ← hWc, World.cell?_of_block (w := Wa) (a := ⟨wq.heap.size, 0, none⟩) (setRow_other hne1 _ _ _), hca]
      have hc2 : (setRow Wb w.heap.size ((l.length + 1) * 2) [.bool false, .slice (some ⟨wq.heap.size + 1, 0, none⟩) 1 1]).cell? ⟨wq.heap.size + 1, 0, none⟩ = some (.string mark2) := by
        rw [World.cell?_of_block (w := Wb) (a := ⟨wq.heap.size + 1, 0, none⟩) (setRow_other hne2 _ _ _), hcb]
      have hfin := Lib.hid (gua_end hlen.out hle hP2 hoth (by omega) hE.out (by have := hsz.out; omega) (by have := hsz.out; omega) (by omega) (by omega) hc1 hc2)
      have hbz := Lib.hid (setRow_below (B := w.heap.size) (Nat.le_refl _) [.bool false, .slice (some ⟨wq.heap.size + 1, 0, none⟩) 1 1] ((l.length + 1) * 2) w Wb
        ((hWc ▸ setRow_below (B := w.heap.size) (Nat.le_refl _) [.bool false, .slice (some ⟨wq.heap.size, 0, none⟩) 1 1] (l.length * 2) w Wa (hbw.out.trans (hba.mono (Nat.le_of_lt hsz.out)))).trans (hbb.mono (by have := hsz.out; omega))))
      clear hP1 hP2 hFa hFb hF2 hF hba hbb hca hcb hoth hs4 hc1 hc2 hlen1 hzb
      simp only [setRow] at hWc
      unfold mark1 at hWa
      unfold mark2 at hWb
      go_wp2_with fail
      go_ret
      exact ⟨_, rfl, hfin.out.1, hfin.out.2, hbz.out⟩
end Go.Proofs.YtjokciofeicdkaaGreatDoor
