/- Walks: roomTable. -/
import Derived.Test.YtjokciofeicdkaaGreatDoorRoom1
import Derived.Deep.RegionHeld3
namespace Go.Proofs.YtjokciofeicdkaaGreatDoor
open Go.RowKit

/-- An entry, a guard line whose lists have marked room. -/
def EntryKC (w : World) (B : Nat) (c : List Value) (x : EntryS) : Prop :=
  ∃ vi vc vo, c = [.string x.name, vi, vc, .string x.write, vo] ∧ x.name.size ≤ 140737488355328 ∧ x.write.size ≤ 140737488355328 ∧ Room 1 IntC w B vi x.ins [-4711, -4712] ∧ Room 1 StrC w B vc x.cubes [mark1, mark2] ∧ Room 1 IntC w B vo x.outs [-4711, -4712]
def GuardKC (w : World) (B : Nat) (c : List Value) (x : GuardS) : Prop := ∃ v, c = [.bool x.permit, v] ∧ Room 1 StrC w B v x.cubes [mark1, mark2]
theorem EntryKC.plain {w : World} {B : Nat} {c : List Value} {x : EntryS} (h : EntryKC w B c x) : EntryC w B c x := by
  obtain ⟨vi, vc, vo, h1, h2, h3, h4, h5, h6⟩ := h
  exact ⟨vi, vc, vo, h1, h2, h3, h4.slOf, h5.slOf, h6.slOf⟩
theorem GuardKC.plain {w : World} {B : Nat} {c : List Value} {x : GuardS} (h : GuardKC w B c x) : GuardC w B c x := by
  obtain ⟨v, h1, h2⟩ := h
  exact ⟨v, h1, h2.slOf⟩
section
variable {w w' : World} {B B' : Nat}
theorem EntryKC.keepI {c : List Value} {x : EntryS} (h : EntryKC w B c x) (hB : B ≤ B') (hk : ∀ b o u, b < B → w.cell? ⟨b, o, none⟩ = some u → w'.cell? ⟨b, o, none⟩ = some u) : EntryKC w' B' c x := by
  obtain ⟨vi, vc, vo, h1, h2, h3, h4, h5, h6⟩ := h
  exact ⟨vi, vc, vo, h1, h2, h3, h4.keepI hB hk fun _ _ h => h, h5.keepI hB hk fun _ _ h => h, h6.keepI hB hk fun _ _ h => h⟩
theorem EntryC.keepI {c : List Value} {x : EntryS} (h : EntryC w B c x) (hB : B ≤ B') (hk : ∀ b o u, b < B → w.cell? ⟨b, o, none⟩ = some u → w'.cell? ⟨b, o, none⟩ = some u) : EntryC w' B' c x := by
  obtain ⟨vi, vc, vo, h1, h2, h3, h4, h5, h6⟩ := h
  exact ⟨vi, vc, vo, h1, h2, h3, SlOf.keepI h4 hB hk fun _ _ h => h, SlOf.keepI h5 hB hk fun _ _ h => h, SlOf.keepI h6 hB hk fun _ _ h => h⟩
theorem GuardKC.keepI {c : List Value} {x : GuardS} (h : GuardKC w B c x) (hB : B ≤ B') (hk : ∀ b o u, b < B → w.cell? ⟨b, o, none⟩ = some u → w'.cell? ⟨b, o, none⟩ = some u) : GuardKC w' B' c x := by
  obtain ⟨v, h1, h2⟩ := h
  exact ⟨v, h1, h2.keepI hB hk fun _ _ h => h⟩
theorem GuardC.keepI {c : List Value} {x : GuardS} (h : GuardC w B c x) (hB : B ≤ B') (hk : ∀ b o u, b < B → w.cell? ⟨b, o, none⟩ = some u → w'.cell? ⟨b, o, none⟩ = some u) : GuardC w' B' c x := by
  obtain ⟨v, h1, h2⟩ := h
  exact ⟨v, h1, SlOf.keepI h2 hB hk fun _ _ h => h⟩
end
def markE (m : ByteArray) : EntryS := ⟨m, [], [], ByteArray.empty, []⟩
def SmallE (e : EntryS) : Prop := e.ins.length ≤ 17592186044406 ∧ e.cubes.length ≤ 17592186044406 ∧ e.outs.length ≤ 17592186044406
abbrev zE : List Value := [.string ByteArray.empty, .slice none 0 0, .slice none 0 0, .string ByteArray.empty, .slice none 0 0]

theorem tab_step {l : List EntryS} {k : Nat} {x : EntryS} (hx : l[k]? = some x) {cs : List (List Value)} (hlen : cs.length = k) {wq w1 w2 w3 w4 : World} {b0 : Nat} (hb0 : b0 < wq.heap.size) (q1 : Below wq.heap.size wq w1) (q2 : Below w1.heap.size w1 w2) (q3 : Below w2.heap.size w2 w3)
    (q4 : ∀ i, i ≠ b0 → w4.heap[i]? = w3.heap[i]?) (hs4 : w4.heap.size = w3.heap.size)
    (hE : ∀ (i : Nat) (c : List Value) (x : EntryS), cs[i]? = some c → l[i]? = some x → EntryKC (dead wq (b0 + 1)) wq.heap.size c x) {v1 v2 v3 : Value}
    (r1 : Room 1 IntC (dead w1 wq.heap.size) w1.heap.size v1 x.ins [-4711, -4712]) (r2 : Room 1 StrC (dead w2 w1.heap.size) w2.heap.size v2 x.cubes [mark1, mark2]) (r3 : Room 1 IntC (dead w3 w2.heap.size) w3.heap.size v3 x.outs [-4711, -4712])
    (hnm : x.name.size ≤ 140737488355328) (hwr : x.write.size ≤ 140737488355328) :
    ∀ (i : Nat) (c : List Value) (y : EntryS), (cs ++ [[.string x.name, v1, v2, .string x.write, v3]])[i]? = some c → l[i]? = some y → EntryKC (dead w4 (b0 + 1)) w4.heap.size c y := by
  intro i c y hc hy
  have s1 := q1.size
  have s2 := q2.size
  have s3 := q3.size
  have q12 := q1.trans (q2.mono s1)
  have q13 := q12.trans (q3.mono (Nat.le_trans s1 s2))
  have q23 := q2.trans (q3.mono s2)
  by_cases hi : i < k
  · rw [List.getElem?_append_left (by omega)] at hc
    exact ((hE i c y hc hy).keepI (Nat.le_trans q13.size (Nat.le_of_eq hs4.symm)) fun b o u hb h => deadSet (B := wq.heap.size) (Nat.lt_succ_self b0) q4 b o u hb (deadI (Nat.le_refl _) q13 (Nat.le_refl _) b o u hb h))
  · have hik : i = k := by
      have := (List.getElem?_eq_some_iff.1 hc).1
      simp at this; omega
    subst hik
    rw [List.getElem?_append_right (by omega), hlen, Nat.sub_self] at hc
    simp only [List.getElem?_cons_zero, Option.some.injEq] at hc
    rw [hx] at hy
    cases hy
    subst hc
    refine ⟨v1, v2, v3, rfl, hnm, hwr, ?_, ?_, ?_⟩
    · exact r1.keepI (Nat.le_trans q23.size (Nat.le_of_eq hs4.symm)) (fun b o u hb h => deadSet (B := w1.heap.size) (Nat.lt_succ_self b0) q4 b o u hb (deadI (by omega) q23 (Nat.le_refl _) b o u hb h)) fun _ _ h => h
    · exact r2.keepI (Nat.le_trans q3.size (Nat.le_of_eq hs4.symm)) (fun b o u hb h => deadSet (B := w2.heap.size) (Nat.lt_succ_self b0) q4 b o u hb (deadI (by omega) q3 (Nat.le_refl _) b o u hb h)) fun _ _ h => h
    · exact r3.keepI (Nat.le_of_eq hs4.symm) (fun b o u hb h => deadSet (B := w3.heap.size) (Nat.lt_succ_self b0) q4 b o u hb (deadI (by omega) (Below.refl w3.heap.size w3) (Nat.le_refl _) b o u hb h)) fun _ _ h => h
theorem zE_facts {w : World} {b k m : Nat} {t : TypeId} {cs : List (List Value)} (h : RowF w b t zE cs (m + 1)) (hk : cs.length = k) :
    w.cell? ⟨b, k * 5, none⟩ = some (.string ByteArray.empty) ∧ w.cell? ⟨b, k * 5 + 1, none⟩ = some (.slice none 0 0) ∧ w.cell? ⟨b, k * 5 + 2, none⟩ = some (.slice none 0 0) ∧ w.cell? ⟨b, k * 5 + 3, none⟩ = some (.string ByteArray.empty) ∧ w.cell? ⟨b, k * 5 + 4, none⟩ = some (.slice none 0 0) ∧
    w.frozen? ⟨b, k * 5, none⟩ = false ∧ w.frozen? ⟨b, k * 5 + 1, none⟩ = false ∧ w.frozen? ⟨b, k * 5 + 2, none⟩ = false ∧ w.frozen? ⟨b, k * 5 + 3, none⟩ = false ∧ w.frozen? ⟨b, k * 5 + 4, none⟩ = false := by
  subst hk
  exact ⟨h.zel (j := 0) rfl, h.zel (j := 1) rfl, h.zel (j := 2) rfl, h.zel (j := 3) rfl, h.zel (j := 4) rfl, h.free _, h.free _, h.free _, h.free _, h.free _⟩

theorem markE_C (m : ByteArray) (hm : m.size ≤ 140737488355328) (w : World) (B : Nat) : EntryC w B [.string m, .slice none 0 0, .slice none 0 0, .string ByteArray.empty, .slice none 0 0] (markE m) :=
  ⟨_, _, _, rfl, hm, Nat.zero_le _, slOf_nil, slOf_nil, slOf_nil⟩
theorem tab_end {l : List EntryS} {cs : List (List Value)} (hlen : cs.length = l.length) (hle : l.length ≤ 1353245080301) {wq W4 : World} {b0 : Nat}
    (hP : RowF W4 b0 52 zE (cs ++ [[.string mark1, .slice none 0 0, .slice none 0 0, .string ByteArray.empty, .slice none 0 0]] ++ [[.string mark2, .slice none 0 0, .slice none 0 0, .string ByteArray.empty, .slice none 0 0]]) 0)
    (q4 : ∀ i, i ≠ b0 → W4.heap[i]? = wq.heap[i]?) (hs4 : W4.heap.size = wq.heap.size) (hE : ∀ (i : Nat) (c : List Value) (x : EntryS), cs[i]? = some c → l[i]? = some x → EntryKC (dead wq (b0 + 1)) wq.heap.size c x) :
    Room 5 EntryC (dead W4 b0) W4.heap.size (.slice (some ⟨b0, 0, none⟩) l.length (l.length + 2)) l [markE mark1, markE mark2] ∧ SlOf 5 EntryKC (dead W4 b0) W4.heap.size (.slice (some ⟨b0, 0, none⟩) l.length (l.length + 2)) l := by
  have hK : ∀ (i : Nat) (c : List Value) (x : EntryS), i < l.length → (cs ++ [[.string mark1, .slice none 0 0, .slice none 0 0, .string ByteArray.empty, .slice none 0 0]] ++ [[.string mark2, .slice none 0 0, .slice none 0 0, .string ByteArray.empty, .slice none 0 0]])[i]? = some c → l[i]? = some x → EntryKC (dead W4 b0) W4.heap.size c x := by
    intro i c x hi hc hx
    rw [List.append_assoc, List.getElem?_append_left (by omega)] at hc
    exact (hE i c x hc hx).keepI (Nat.le_of_eq hs4.symm) fun b o u hb h => deadI (B := wq.heap.size) (Nat.le_succ b0) (Below.refl wq.heap.size W4) (Nat.le_refl _) b o u hb (deadSet (B := wq.heap.size) (Nat.lt_succ_self b0) q4 b o u hb h)
  refine ⟨(hP.dead (Nat.le_refl _)).room (by simp [hlen]) hP.row.lt (by simp) (by omega) fun i c x hc hx => ?_, (hP.dead (Nat.le_refl _)).slOfPre (by simp [hlen]) hP.row.lt (by omega) (by omega) fun i c x hc hx => hK i c x (List.getElem?_eq_some_iff.1 hx).1 hc hx⟩
  by_cases hi : i < l.length
  · rw [List.getElem?_append_left hi] at hx
    exact (hK i c x hi hc hx).plain
  · rw [List.getElem?_append_right (by omega)] at hx
    rw [List.append_assoc, List.getElem?_append_right (by omega), hlen] at hc
    rcases Nat.eq_zero_or_pos (i - l.length) with h0 | h0
    · rw [h0] at hx hc
      simp at hx hc
      subst hx hc
      exact markE_C mark1 (by decide) _ _
    · obtain ⟨j, hj⟩ : ∃ j, i - l.length = j + 1 := ⟨i - l.length - 1, by omega⟩
      rw [hj] at hx hc
      cases j with
      | zero =>
        simp at hx hc
        subst hx hc
        exact markE_C mark2 (by decide) _ _
      | succ j => simp at hx
set_option maxHeartbeats 2000000 in
set_option maxRecDepth 100000 in
theorem roomTable_any (l : List EntryS) (vl : Value) (B : Nat) (w : World) (hl : SlOf 5 EntryC w B vl l) (hB : B ≤ w.heap.size) (hle : l.length ≤ 1353245080301) (hsm : ∀ e ∈ l, SmallE e) :
    Calls Tryz.prog 15 #[vl] w fun e w' => ∃ v, e = .returned v ∧ Room 5 EntryC (dead w' w.heap.size) w'.heap.size v l [markE mark1, markE mark2] ∧ SlOf 5 EntryKC (dead w' w.heap.size) w'.heap.size v l ∧ Below w.heap.size w w' := by
  obtain ⟨A, cap, rfl, hcl, hcap⟩ := SlOf.form hl
  have hmk := make_any 47 52 (.agg #[.string ByteArray.empty, .slice none 0 0, .slice none 0 0, .string ByteArray.empty, .slice none 0 0]) 5 104 Tryz.underlying47 infoEntry (l.length + 2) ((l.length : Int) + 2) (by omega) (by omega) (by omega)
  have hF0 := Lib.hid (RowF.made w 52 #[.string ByteArray.empty, .slice none 0 0, .slice none 0 0, .string ByteArray.empty, .slice none 0 0] (by decide) (l.length + 2))
  simp only [Value.cells] at hmk
  obtain ⟨W1, hW1⟩ : ∃ W1, w.alloc (.cells (madeCells #[.string ByteArray.empty, .slice none 0 0, .slice none 0 0, .string ByteArray.empty, .slice none 0 0] ((l.length + 2) * 5)) 52 (0, 0)) = W1 := ⟨_, rfl⟩
  have hb0 := Lib.hid ((Below.refl w.heap.size w).alloc (Nat.le_refl _) (.cells (madeCells #[.string ByteArray.empty, .slice none 0 0, .slice none 0 0, .string ByteArray.empty, .slice none 0 0] ((l.length + 2) * 5)) 52 (0, 0)))
  have hF1 : Hid (RowF W1 w.heap.size 52 zE [] (l.length + 2 - 0)) := Lib.hid (by rw [← hW1]; exact hF0.out)
  rw [hW1] at hb0
  have hz : Hid (W1.heap.size = w.heap.size + 1) := Lib.hid (by rw [← hW1]; simp)
  have hL := Lib.hid hl
  have hS := Lib.hid hsm
  clear hF0 hl hsm
  go_enter Tryz.func15, Tryz.ntmps15
  go_wp2_with fail
  clear hmk hW1
  go_loopw [4] (fun i wr => ∃ (k : Nat) (cs : List (List Value)), k ≤ l.length ∧ i = .int .i64 k ∧ cs.length = k ∧ Hid (RowF wr w.heap.size 52 zE cs (l.length + 2 - k)) ∧
    Hid (∀ (i : Nat) (c : List Value) (x : EntryS), cs[i]? = some c → l[i]? = some x → EntryKC (dead wr (w.heap.size + 1)) wr.heap.size c x) ∧ Hid (Below w.heap.size w wr)) (fun i _ => l.length - (intOf i).toNat)
  case atStart => exact ⟨0, [], Nat.zero_le _, rfl, rfl, hF1, Lib.hid fun i c x h => by simp at h, hb0⟩
  case round =>
    obtain ⟨k, cs, hk, rfl, hlen, hF, hE, hbw⟩ := hrel
    obtain ⟨wq, rfl⟩ : ∃ wq, wq = wr := ⟨_, rfl⟩
    have hlen := Lib.hid hlen
    clear hF1 hb0
    have hsz : Hid (w.heap.size < wq.heap.size) := Lib.hid hF.out.row.lt
    by_cases hlt : k < l.length
    · have hL1 := SlOf.keep hL.out hB (fun b o h => (bcell hbw.out).1 b o (by omega)) fun _ _ h => h.keep hB fun b o h => (bcell hbw.out).1 b o (by omega)
      obtain ⟨b, off, rfl⟩ := SlOf.addr hL1 (by omega)
      obtain ⟨hb, c, x, hx, ⟨vi, vc, vo, hc, hnm, hwr, hCi, hC, hCo⟩, hj⟩ := SlOf.el hL1 hlt
      subst hc
      have f0 : wq.cell? ⟨b, off + k * 5, none⟩ = some (.string x.name) := hj 0 _ rfl
      have f1 : wq.cell? ⟨b, off + k * 5 + 1, none⟩ = some vi := hj 1 _ rfl
      have f2 : wq.cell? ⟨b, off + k * 5 + 2, none⟩ = some vc := hj 2 _ rfl
      have f3 : wq.cell? ⟨b, off + k * 5 + 3, none⟩ = some (.string x.write) := hj 3 _ rfl
      have f4 : wq.cell? ⟨b, off + k * 5 + 4, none⟩ = some vo := hj 4 _ rfl
      clear hj
      obtain ⟨A2, cap2, rfl, hcl2, hcap2⟩ := SlOf.form hCi
      obtain ⟨A3, cap3, rfl, hcl3, hcap3⟩ := SlOf.form hC
      obtain ⟨A4, cap4, rfl, hcl4, hcap4⟩ := SlOf.form hCo
      obtain ⟨sm1, sm2, sm3⟩ := hS.out x (List.mem_of_getElem? hx)
      have K : ∀ W, Below w.heap.size wq W → Below w.heap.size wq W ∧ W.cell? ⟨b, off + k * 5, none⟩ = some (.string x.name) ∧ W.cell? ⟨b, off + k * 5 + 1, none⟩ = some (.slice A2 x.ins.length cap2) ∧ W.cell? ⟨b, off + k * 5 + 2, none⟩ = some (.slice A3 x.cubes.length cap3) ∧
          W.cell? ⟨b, off + k * 5 + 3, none⟩ = some (.string x.write) ∧ W.cell? ⟨b, off + k * 5 + 4, none⟩ = some (.slice A4 x.outs.length cap4) := fun W h =>
        ⟨h, (h.cell (p := ⟨b, _, none⟩) hb).trans f0, (h.cell (p := ⟨b, _, none⟩) hb).trans f1, (h.cell (p := ⟨b, _, none⟩) hb).trans f2, (h.cell (p := ⟨b, _, none⟩) hb).trans f3, (h.cell (p := ⟨b, _, none⟩) hb).trans f4⟩
      have c1 : Hid (∀ W', Below w.heap.size wq W' → Calls Tryz.prog 38 #[.slice A2 x.ins.length cap2] W' fun e w' => ∃ v, e = .returned v ∧ Room 1 IntC (dead w' W'.heap.size) w'.heap.size v x.ins [-4711, -4712] ∧ Below W'.heap.size W' w') :=
        Lib.hid fun W' h => roomInts_any x.ins _ w.heap.size W' (hCi.below h (Nat.le_refl _)) (by have := h.size; have := hsz.out; omega) (by omega)
      have c2 : Hid (∀ W', Below w.heap.size wq W' → Calls Tryz.prog 39 #[.slice A3 x.cubes.length cap3] W' fun e w' => ∃ v, e = .returned v ∧ Room 1 StrC (dead w' W'.heap.size) w'.heap.size v x.cubes [mark1, mark2] ∧ Below W'.heap.size W' w') :=
        Lib.hid fun W' h => roomTexts_any x.cubes _ w.heap.size W' (hC.below h (Nat.le_refl _)) (by have := h.size; have := hsz.out; omega) (by omega)
      have c3 : Hid (∀ W', Below w.heap.size wq W' → Calls Tryz.prog 38 #[.slice A4 x.outs.length cap4] W' fun e w' => ∃ v, e = .returned v ∧ Room 1 IntC (dead w' W'.heap.size) w'.heap.size v x.outs [-4711, -4712] ∧ Below W'.heap.size W' w') :=
        Lib.hid fun W' h => roomInts_any x.outs _ w.heap.size W' (hCo.below h (Nat.le_refl _)) (by have := h.size; have := hsz.out; omega) (by omega)
      have hsz' : w.heap.size < wq.heap.size := hsz.out
      have hK := Lib.hid K
      have hlk : (k : Int) < ((l.length + 2 : Nat) : Int) := by omega
      have hlk2 : (k : Int) < (l.length : Int) + 2 := by omega
      have hF2 := hF.out
      rw [show l.length + 2 - k = (l.length + 2 - (k + 1)) + 1 by omega] at hF2
      have hF2 := Lib.hid hF2
      clear K hL1 hCi hC hCo
      go_wp2_with fail
      go_region_held3 (fun W => Below w.heap.size wq W ∧ W.cell? ⟨b, off + k * 5, none⟩ = some (.string x.name) ∧ W.cell? ⟨b, off + k * 5 + 1, none⟩ = some (.slice A2 x.ins.length cap2) ∧ W.cell? ⟨b, off + k * 5 + 2, none⟩ = some (.slice A3 x.cubes.length cap3) ∧
          W.cell? ⟨b, off + k * 5 + 3, none⟩ = some (.string x.write) ∧ W.cell? ⟨b, off + k * 5 + 4, none⟩ = some (.slice A4 x.outs.length cap4))
        (first | with_reducible exact hHeld | with_reducible exact hK.out _ hB1 | with_reducible exact hK.out _ hB2 | with_reducible exact hK.out _ hB3 | exact hK.out _ (below_drewN (Below.refl _ _) 1) | exact hK.out _ (((((hB3.setCell (Nat.le_refl _) _).setCell (Nat.le_refl _) _).setCell (Nat.le_refl _) _).setCell (Nat.le_refl _) _).setCell (Nat.le_refl _) _))
        (first
          | (go_at_call 38; refine (c3.out _ hB2).mono ?_; rintro e w3 ⟨_, rfl, ⟨A7, cap7, rfl, hr3⟩, hb3⟩; have hB3 : Below w.heap.size wq w3 := hB2.trans (hb3.mono (Nat.le_of_lt (Nat.lt_of_lt_of_le hsz' hB2.size))); have hF3 := Lib.hid (((hF2.out.of_block (hb1.block _ hsz')).of_block (hb2.block _ (Nat.lt_of_lt_of_le hsz' hB1.size))).of_block (hb3.block _ (Nat.lt_of_lt_of_le hsz' hB2.size))); obtain ⟨g0, g1, g2, g3, g4, z0, z1, z2, z3, z4⟩ := zE_facts hF3.out hlen.out)
          | (go_at_call 39; refine (c2.out _ hB1).mono ?_; rintro e w2 ⟨_, rfl, ⟨A6, cap6, rfl, hr2⟩, hb2⟩; have hB2 : Below w.heap.size wq w2 := hB1.trans (hb2.mono (Nat.le_of_lt (Nat.lt_of_lt_of_le hsz' hB1.size))))
          | (go_at_call 38; refine (c1.out _ (below_drewN (Below.refl _ _) 1)).mono ?_; rintro e w1 ⟨_, rfl, ⟨A5, cap5, rfl, hr1⟩, hb1⟩; have hB1 : Below w.heap.size wq w1 := (below_drewN (Below.refl _ _) 1).trans (hb1.mono (Nat.le_of_lt hsz'))))
      have hr := Lib.hid (tab_step hx hlen.out hsz' ⟨hb1.os, hb1.tape, hb1.output, hb1.size, hb1.block⟩ hb2 hb3 (w4 := setRow w3 w.heap.size (k * 5) [.string x.name, .slice A5 x.ins.length cap5, .slice A6 x.cubes.length cap6, .string x.write, .slice A7 x.outs.length cap7])
        (fun i hi => setRow_other hi _ _ _) (setRow_size _ _ _) hE.out ⟨A5, cap5, rfl, hr1⟩ ⟨A6, cap6, rfl, hr2⟩ ⟨A7, cap7, rfl, hr3⟩ hnm hwr)
      have hP := hF3.out.put [.string x.name, .slice A5 x.ins.length cap5, .slice A6 x.cubes.length cap6, .string x.write, .slice A7 x.outs.length cap7] rfl
      rw [hlen.out] at hP
      have hP := Lib.hid hP
      have hbz := Lib.hid (setRow_below (Nat.le_refl _) [.string x.name, .slice A5 x.ins.length cap5, .slice A6 x.cubes.length cap6, .string x.write, .slice A7 x.outs.length cap7] (k * 5) w w3 (hbw.out.trans hB3))
      clear g0 g1 g2 g3 g4 z0 z1 z2 z3 z4 hb1 hb2 hb3 hB1 hB2 hB3 hr1 hr2 hr3 hF3 hF2 c1 c2 c3 hK f0 f1 f2 f3 f4
      go_wp2_with fail
      go_roundw
      case rel => exact ⟨k + 1, _, by omega, by go_num, by simp [hlen.out], hP, hr, hbz⟩
      case measure => simp [intOf]; omega
    · have hkl : k = l.length := by omega
      subst hkl
      have hF2 := hF.out
      rw [show l.length + 2 - l.length = 0 + 1 + 1 by omega] at hF2
      obtain ⟨g0, g1, g2, g3, g4, z0, z1, z2, z3, z4⟩ := zE_facts hF2 hlen.out
      have hP1 := hF2.put [.string mark1, .slice none 0 0, .slice none 0 0, .string ByteArray.empty, .slice none 0 0] rfl
      have hlen1 : (cs ++ [([.string mark1, .slice none 0 0, .slice none 0 0, .string ByteArray.empty, .slice none 0 0] : List Value)]).length = l.length + 1 := by simp [hlen.out]
      rw [hlen.out, show zE.length = 5 from rfl] at hP1
      have k0 := hF2.zel2 (j := 0) rfl
      have k1 := hF2.zel2 (j := 1) rfl
      have k2 := hF2.zel2 (j := 2) rfl
      have k3 := hF2.zel2 (j := 3) rfl
      have k4 := hF2.zel2 (j := 4) rfl
      rw [hlen.out, show zE.length = 5 from rfl] at k0 k1 k2 k3 k4
      have y0 := hF2.free ((l.length + 1) * 5)
      have y1 := hF2.free ((l.length + 1) * 5 + 1)
      have y2 := hF2.free ((l.length + 1) * 5 + 2)
      have y3 := hF2.free ((l.length + 1) * 5 + 3)
      have y4 := hF2.free ((l.length + 1) * 5 + 4)
      simp only [Nat.add_zero] at k0
      have hP2 := hP1.put [.string mark2, .slice none 0 0, .slice none 0 0, .string ByteArray.empty, .slice none 0 0] rfl
      rw [hlen1, show zE.length = 5 from rfl] at hP2
      have hP2 := Lib.hid hP2
      have hbz := Lib.hid (setRow_below (Nat.le_refl _) [.string mark2, .slice none 0 0, .slice none 0 0, .string ByteArray.empty, .slice none 0 0] ((l.length + 1) * 5) w _ (setRow_below (Nat.le_refl _) [.string mark1, .slice none 0 0, .slice none 0 0, .string ByteArray.empty, .slice none 0 0] (l.length * 5) w wq hbw.out))
      have hfin := Lib.hid (tab_end hlen.out hle hP2.out (fun i hi => (setRow_other hi _ _ _).trans (setRow_other hi _ _ wq)) (by rw [setRow_size, setRow_size]) hE.out)
      clear hF2 hF hP1
      go_wp2_with fail
      go_ret
      exact ⟨_, rfl, hfin.out.1, hfin.out.2, hbz.out⟩
end Go.Proofs.YtjokciofeicdkaaGreatDoor
