/- Walks: reachref9.Roomy. -/
import Derived.Test.YtjokciofeicdkaaGreatDoorHeld
import Derived.Test.YtjokciofeicdkaaGreatDoorMark3
namespace Go.Proofs.YtjokciofeicdkaaGreatDoor
open Go.RowKit

abbrev zP : List Value := [.string ByteArray.empty, .int .i64 0, .bool false, .int .i64 0]
theorem zP_facts {w : World} {b k m : Nat} {t : TypeId} {cs : List (List Value)} (h : RowF w b t zP cs (m + 1)) (hk : cs.length = k) :
    w.cell? ⟨b, k * 4, none⟩ = some (.string ByteArray.empty) ∧ w.cell? ⟨b, k * 4 + 1, none⟩ = some (.int .i64 0) ∧ w.cell? ⟨b, k * 4 + 2, none⟩ = some (.bool false) ∧ w.cell? ⟨b, k * 4 + 3, none⟩ = some (.int .i64 0) ∧
    w.frozen? ⟨b, k * 4, none⟩ = false ∧ w.frozen? ⟨b, k * 4 + 1, none⟩ = false ∧ w.frozen? ⟨b, k * 4 + 2, none⟩ = false ∧ w.frozen? ⟨b, k * 4 + 3, none⟩ = false := by
  subst hk
  exact ⟨h.zel (j := 0) rfl, h.zel (j := 1) rfl, h.zel (j := 2) rfl, h.zel (j := 3) rfl, h.free _, h.free _, h.free _, h.free _⟩

/-- One more element of a row that is being filled. -/
theorem step_gen {α : Type} {F : World → Nat → List Value → α → Prop} (keep : ∀ {w w' : World} {B B' : Nat} {c : List Value} {x : α}, F w B c x → B ≤ B' → (∀ b o u, b < B → w.cell? ⟨b, o, none⟩ = some u → w'.cell? ⟨b, o, none⟩ = some u) → F w' B' c x)
    {l : List α} {k : Nat} {x : α} (hx : l[k]? = some x) {cs : List (List Value)} (hlen : cs.length = k) {wq w1 w4 : World} {b0 : Nat} (hb0 : b0 < wq.heap.size) (q1 : Below wq.heap.size wq w1)
    (q4 : ∀ i, i ≠ b0 → w4.heap[i]? = w1.heap[i]?) (hs4 : w4.heap.size = w1.heap.size)
    (hE : ∀ (i : Nat) (c : List Value) (x : α), cs[i]? = some c → l[i]? = some x → F (dead wq (b0 + 1)) wq.heap.size c x) {c0 : List Value} (r1 : F (dead w1 wq.heap.size) w1.heap.size c0 x) :
    ∀ (i : Nat) (c : List Value) (y : α), (cs ++ [c0])[i]? = some c → l[i]? = some y → F (dead w4 (b0 + 1)) w4.heap.size c y := by
  intro i c y hc hy
  by_cases hi : i < k
  · rw [List.getElem?_append_left (by omega)] at hc
    exact keep (hE i c y hc hy) (Nat.le_trans q1.size (Nat.le_of_eq hs4.symm)) fun b o u hb h => deadSet (B := wq.heap.size) (Nat.lt_succ_self b0) q4 b o u hb (deadI (Nat.le_refl _) q1 (Nat.le_refl _) b o u hb h)
  · have hik : i = k := by
      have := (List.getElem?_eq_some_iff.1 hc).1
      simp at this; omega
    subst hik
    rw [List.getElem?_append_right (by omega), hlen, Nat.sub_self] at hc
    simp only [List.getElem?_cons_zero, Option.some.injEq] at hc
    rw [hx] at hy
    cases hy
    subst hc
    exact keep r1 (Nat.le_of_eq hs4.symm) fun b o u hb h => deadSet (B := w1.heap.size) (Nat.lt_succ_self b0) q4 b o u hb (deadI (by omega) (Below.refl w1.heap.size w1) (Nat.le_refl _) b o u hb h)
/-- A table (a guard) as Roomy makes it: marks behind its end, marks in its elements. -/
def TabF (w : World) (B : Nat) (c : List Value) (x : List EntryS) : Prop := ∃ v, c = [v] ∧ Room 5 EntryC w B v x [markE mark1, markE mark2] ∧ SlOf 5 EntryKC w B v x
def GuaF (w : World) (B : Nat) (c : List Value) (x : List GuardS) : Prop := ∃ v, c = [v] ∧ Room 2 GuardC w B v x [markG mark1, markG mark2] ∧ SlOf 2 GuardKC w B v x
theorem TabF.keepI {w w' : World} {B B' : Nat} {c : List Value} {x : List EntryS} (h : TabF w B c x) (hB : B ≤ B') (hk : ∀ b o u, b < B → w.cell? ⟨b, o, none⟩ = some u → w'.cell? ⟨b, o, none⟩ = some u) : TabF w' B' c x := by
  obtain ⟨v, h1, h2, h3⟩ := h
  exact ⟨v, h1, h2.keepI hB hk fun _ _ h => EntryC.keepI h hB hk, h3.keepI hB hk fun _ _ h => h.keepI hB hk⟩
theorem GuaF.keepI {w w' : World} {B B' : Nat} {c : List Value} {x : List GuardS} (h : GuaF w B c x) (hB : B ≤ B') (hk : ∀ b o u, b < B → w.cell? ⟨b, o, none⟩ = some u → w'.cell? ⟨b, o, none⟩ = some u) : GuaF w' B' c x := by
  obtain ⟨v, h1, h2, h3⟩ := h
  exact ⟨v, h1, h2.keepI hB hk fun _ _ h => GuardC.keepI h hB hk, h3.keepI hB hk fun _ _ h => h.keepI hB hk⟩

def TabsFin (w : World) (B : Nat) (v : Value) (ts : List (List EntryS)) : Prop := Room 1 TabC w B v ts [[markE mark1]] ∧ SlOf 1 TabRC w B v ts ∧ SlOf 1 TabKC w B v ts
theorem TabsFin.keepI {w w' : World} {B B' : Nat} {v : Value} {ts : List (List EntryS)} (h : TabsFin w B v ts) (hB : B ≤ B') (hk : ∀ b o u, b < B → w.cell? ⟨b, o, none⟩ = some u → w'.cell? ⟨b, o, none⟩ = some u) : TabsFin w' B' v ts :=
  ⟨h.1.keepI hB hk fun _ _ h => TabC.keepI h hB hk, h.2.1.keepI hB hk fun _ _ h => TabRC.keepI h hB hk, h.2.2.keepI hB hk fun _ _ h => TabKC.keepI h hB hk⟩
theorem tabs_fin {ts : List (List EntryS)} {cs : List (List Value)} (hlen : cs.length = ts.length) (hle : ts.length ≤ 5864062014635) {wq Wn : World} {T Bm : Nat} (hP : RowF Wn T 47 [.slice none 0 0] (cs ++ [[.slice (some ⟨Bm, 0, none⟩) 1 1]]) 0)
    (hE : ∀ (i : Nat) (c : List Value) (x : List EntryS), cs[i]? = some c → ts[i]? = some x → TabF (dead wq (T + 1)) wq.heap.size c x) (q4 : ∀ i, i < wq.heap.size → T < i → Wn.heap[i]? = wq.heap[i]?) (hs : wq.heap.size ≤ Wn.heap.size)
    (hm : SlOf 5 EntryC (dead Wn T) Wn.heap.size (.slice (some ⟨Bm, 0, none⟩) 1 1) [markE mark1]) : TabsFin (dead Wn T) Wn.heap.size (.slice (some ⟨T, 0, none⟩) ts.length (ts.length + 1)) ts := by
  have hF : ∀ (i : Nat) (c : List Value) (x : List EntryS), (cs ++ [[.slice (some ⟨Bm, 0, none⟩) 1 1]])[i]? = some c → ts[i]? = some x → TabF (dead Wn T) Wn.heap.size c x := by
    intro i c x hc hx
    rw [List.getElem?_append_left (by have := (List.getElem?_eq_some_iff.1 hx).1; omega)] at hc
    refine (hE i c x hc hx).keepI hs fun b o u hb h => ?_
    obtain ⟨h1, h2⟩ := dead_cell.1 h
    exact dead_cell.2 ⟨by omega, (World.cell?_of_block (w := wq) (a := ⟨b, o, none⟩) (q4 b hb (by omega))).trans h2⟩
  refine ⟨(hP.dead (Nat.le_refl _)).room (by simp [hlen]) hP.row.lt (by simp) (by omega) fun i c x hc hx => ?_, (hP.dead (Nat.le_refl _)).slOfPre (by simp [hlen]) hP.row.lt (by omega) (by omega) fun i c x hc hx => ?_, (hP.dead (Nat.le_refl _)).slOfPre (by simp [hlen]) hP.row.lt (by omega) (by omega) fun i c x hc hx => ?_⟩
  · by_cases hi : i < ts.length
    · rw [List.getElem?_append_left hi] at hx
      obtain ⟨v, h1, h2, _⟩ := hF i c x hc hx
      exact ⟨v, h1, h2.slOf⟩
    · rw [List.getElem?_append_right (by omega)] at hx
      rw [List.getElem?_append_right (by omega), hlen] at hc
      have h0 : i - ts.length = 0 := by
        have := (List.getElem?_eq_some_iff.1 hx).1
        simp at this; omega
      rw [h0] at hx hc
      simp at hx hc
      subst hx hc
      exact ⟨_, rfl, hm⟩
  · obtain ⟨v, h1, h2, _⟩ := hF i c x hc hx
    exact ⟨v, h1, h2⟩
  · obtain ⟨v, h1, _, h3⟩ := hF i c x hc hx
    exact ⟨v, h1, h3⟩
theorem tabs_keep {w w1 w2 : World} {L N : Nat} {v : Value} {ts : List (List EntryS)} (h : TabsFin (dead w L) N v ts) (hb : Below N w w1) (hk : ∀ i, i ≠ N → w2.heap[i]? = w1.heap[i]?) : TabsFin (dead w2 L) N v ts :=
  h.keepI (Nat.le_refl _) fun b o u hlt hc => by
    obtain ⟨p1, p2⟩ := dead_cell.1 hc
    exact dead_cell.2 ⟨p1, (World.cell?_of_block (w := w1) (a := ⟨b, o, none⟩) (hk b (by omega))).trans ((hb.cell (p := ⟨b, o, none⟩) hlt).trans p2)⟩
theorem one_row {α : Type} {R : World → Nat → List Value → α → Prop} {w : World} {g B : Nat} {t : TypeId} {c : List Value} {x : α} (hg : g < B) (h : w.heap[g]? = some (.cells c.toArray t (0, 0))) (hR : R w B c x) : SlOf c.length R w B (.slice (some ⟨g, 0, none⟩) 1 1) [x] := by
  have hF : RowF w g t c [c] 0 := ⟨by unfold RowAt; rw [h]; simp, fun d hd => by simp at hd; rw [hd]⟩
  refine hF.slOf (l := [x]) rfl hg (Nat.le_refl _) (by decide) fun i d y hd hy => ?_
  cases i with
  | zero => simp at hd hy; subst hd hy; exact hR
  | succ i => simp at hd
def GuasFin (w : World) (B : Nat) (v : Value) (ts : List (List GuardS)) : Prop := Room 1 GuaC w B v ts [[markG mark1]] ∧ SlOf 1 GuaRC w B v ts ∧ SlOf 1 GuaKC w B v ts
theorem GuasFin.keepI {w w' : World} {B B' : Nat} {v : Value} {ts : List (List GuardS)} (h : GuasFin w B v ts) (hB : B ≤ B') (hk : ∀ b o u, b < B → w.cell? ⟨b, o, none⟩ = some u → w'.cell? ⟨b, o, none⟩ = some u) : GuasFin w' B' v ts :=
  ⟨h.1.keepI hB hk fun _ _ h => GuaC.keepI h hB hk, h.2.1.keepI hB hk fun _ _ h => GuaRC.keepI h hB hk, h.2.2.keepI hB hk fun _ _ h => GuaKC.keepI h hB hk⟩
theorem guas_fin {ts : List (List GuardS)} {cs : List (List Value)} (hlen : cs.length = ts.length) (hle : ts.length ≤ 5864062014635) {wq Wn : World} {T Bm : Nat} (hP : RowF Wn T 53 [.slice none 0 0] (cs ++ [[.slice (some ⟨Bm, 0, none⟩) 1 1]]) 0)
    (hE : ∀ (i : Nat) (c : List Value) (x : List GuardS), cs[i]? = some c → ts[i]? = some x → GuaF (dead wq (T + 1)) wq.heap.size c x) (q4 : ∀ i, i < wq.heap.size → T < i → Wn.heap[i]? = wq.heap[i]?) (hs : wq.heap.size ≤ Wn.heap.size)
    (hm : SlOf 2 GuardC (dead Wn T) Wn.heap.size (.slice (some ⟨Bm, 0, none⟩) 1 1) [markG mark1]) : GuasFin (dead Wn T) Wn.heap.size (.slice (some ⟨T, 0, none⟩) ts.length (ts.length + 1)) ts := by
  have hF : ∀ (i : Nat) (c : List Value) (x : List GuardS), (cs ++ [[.slice (some ⟨Bm, 0, none⟩) 1 1]])[i]? = some c → ts[i]? = some x → GuaF (dead Wn T) Wn.heap.size c x := by
    intro i c x hc hx
    rw [List.getElem?_append_left (by have := (List.getElem?_eq_some_iff.1 hx).1; omega)] at hc
    refine (hE i c x hc hx).keepI hs fun b o u hb h => ?_
    obtain ⟨h1, h2⟩ := dead_cell.1 h
    exact dead_cell.2 ⟨by omega, (World.cell?_of_block (w := wq) (a := ⟨b, o, none⟩) (q4 b hb (by omega))).trans h2⟩
  refine ⟨(hP.dead (Nat.le_refl _)).room (by simp [hlen]) hP.row.lt (by simp) (by omega) fun i c x hc hx => ?_, (hP.dead (Nat.le_refl _)).slOfPre (by simp [hlen]) hP.row.lt (by omega) (by omega) fun i c x hc hx => ?_, (hP.dead (Nat.le_refl _)).slOfPre (by simp [hlen]) hP.row.lt (by omega) (by omega) fun i c x hc hx => ?_⟩
  · by_cases hi : i < ts.length
    · rw [List.getElem?_append_left hi] at hx
      obtain ⟨v, h1, h2, _⟩ := hF i c x hc hx
      exact ⟨v, h1, h2.slOf⟩
    · rw [List.getElem?_append_right (by omega)] at hx
      rw [List.getElem?_append_right (by omega), hlen] at hc
      have h0 : i - ts.length = 0 := by
        have := (List.getElem?_eq_some_iff.1 hx).1
        simp at this; omega
      rw [h0] at hx hc
      simp at hx hc
      subst hx hc
      exact ⟨_, rfl, hm⟩
  · obtain ⟨v, h1, h2, _⟩ := hF i c x hc hx
    exact ⟨v, h1, h2⟩
  · obtain ⟨v, h1, _, h3⟩ := hF i c x hc hx
    exact ⟨v, h1, h3⟩

/- PLAIN ENDS -/
theorem roomy_given {Wn Wf : World} {N G : Nat} {n : NetS} (sp : n.ports.length ≤ 3518437208781) (hnm : ∀ x ∈ n.ports, x.name.size ≤ 140737488355328) (hG : N + 6 ≤ G) (hGW : G < Wn.heap.size) (hW : Wn.heap.size ≤ Wf.heap.size)
    (hoth : ∀ i, i < Wn.heap.size → N + 4 ≤ i → Wf.heap[i]? = Wn.heap[i]?) (hPn : RowF Wn (N + 4) 46 zP (n.ports.map portV ++ [portV markP]) 0)
    (hTn : TabsFin (dead Wn (N + 5)) G (.slice (some ⟨N + 5, 0, none⟩) n.tables.length (n.tables.length + 1)) n.tables) (hGn : GuasFin (dead Wn G) Wn.heap.size (.slice (some ⟨G, 0, none⟩) n.guards.length (n.guards.length + 1)) n.guards) :
    GivenAt Wf Wf.heap.size (.agg #[.int .i64 n.bits, .slice (some ⟨N + 4, 0, none⟩) n.ports.length (n.ports.length + 1), .slice (some ⟨N + 5, 0, none⟩) n.tables.length (n.tables.length + 1), .slice (some ⟨G, 0, none⟩) n.guards.length (n.guards.length + 1)]) n := by
  have hc : ∀ L b o u, N + 4 ≤ L → b < Wn.heap.size → (dead Wn L).cell? ⟨b, o, none⟩ = some u → Wf.cell? ⟨b, o, none⟩ = some u := fun L b o u hL hb h => by
    obtain ⟨p1, p2⟩ := dead_cell.1 h
    exact (World.cell?_of_block (w := Wn) (a := ⟨b, o, none⟩) (hoth b hb (by omega))).trans p2
  have hT := hTn.keepI (w' := Wf) (B' := Wf.heap.size) (by omega) fun b o u hb h => hc (N + 5) b o u (by omega) (by omega) h
  have hGg := hGn.keepI (w' := Wf) (B' := Wf.heap.size) hW fun b o u hb h => hc G b o u (by omega) hb h
  have hP := hPn.of_block (w' := Wf) (hoth (N + 4) (by omega) (by omega))
  have hcs : n.ports.map portV ++ [portV markP] = (n.ports ++ [markP]).map portV := by simp
  refine ⟨_, _, _, rfl, hP.room (R := PortC) (l := n.ports) (extra := [markP]) (by simp) (by omega) (by simp) (by omega) (fun i c x hc hx => ?_), hT.1, hT.2.1, hGg.1, hGg.2.1⟩
  rw [hcs, List.getElem?_map, hx] at hc
  refine ⟨(Option.some.inj hc).symm, ?_⟩
  rcases List.mem_append.1 (List.mem_of_getElem? hx) with h | h
  · exact hnm x h
  · simp at h; rw [h]; decide
theorem roomy_kept {Wn : World} {N G : Nat} {n : NetS} (sp : n.ports.length ≤ 3518437208781) (hnm : ∀ x ∈ n.ports, x.name.size ≤ 140737488355328) (hG : N + 6 ≤ G) (hGW : G < Wn.heap.size)
    (hPn : RowF Wn (N + 4) 46 zP (n.ports.map portV ++ [portV markP]) 0)
    (hTn : TabsFin (dead Wn (N + 5)) G (.slice (some ⟨N + 5, 0, none⟩) n.tables.length (n.tables.length + 1)) n.tables) (hGn : GuasFin (dead Wn G) Wn.heap.size (.slice (some ⟨G, 0, none⟩) n.guards.length (n.guards.length + 1)) n.guards) :
    KeptAt (dead Wn (N + 4)) Wn.heap.size (.agg #[.int .i64 n.bits, .slice (some ⟨N + 4, 0, none⟩) n.ports.length (n.ports.length + 1), .slice (some ⟨N + 5, 0, none⟩) n.tables.length (n.tables.length + 1), .slice (some ⟨G, 0, none⟩) n.guards.length (n.guards.length + 1)]) n := by
  have hc1 : ∀ b o u, b < G → (dead Wn (N + 5)).cell? ⟨b, o, none⟩ = some u → (dead Wn (N + 4)).cell? ⟨b, o, none⟩ = some u := deadI (by omega) (Below.refl G Wn) (Nat.le_refl _)
  have hc2 : ∀ b o u, b < Wn.heap.size → (dead Wn G).cell? ⟨b, o, none⟩ = some u → (dead Wn (N + 4)).cell? ⟨b, o, none⟩ = some u := deadI (by omega) (Below.refl Wn.heap.size Wn) (Nat.le_refl _)
  refine ⟨_, _, _, rfl, (hPn.dead (Nat.le_refl _)).slOfPre (R := PortC) (by simp) (by omega) (by omega) (by omega) (fun i c x hc hx => ?_), hTn.2.2.keepI (by omega) hc1 (fun _ _ h => TabKC.keepI h (by omega) hc1), hGn.2.2.keepI (Nat.le_refl _) hc2 (fun _ _ h => GuaKC.keepI h (Nat.le_refl _) hc2)⟩
  have hi := (List.getElem?_eq_some_iff.1 hx).1
  rw [List.getElem?_append_left (by simpa using hi), List.getElem?_map, hx] at hc
  exact ⟨(Option.some.inj hc).symm, hnm x (List.mem_of_getElem? hx)⟩
theorem KAt.setAll {w : World} {K : Nat} {b b' : Int} {p t g p' t' g' : Value} (h : KAt w K b p t g) : KAt (setRow w K 0 [.int .i64 b', p', t', g']) K b' p' t' g' :=
  setRow_at (b := K) (t := 26) [.int .i64 b', p', t', g'] w [] [.int .i64 b, p, t, g] [] rfl h
/- END OF PLAIN ENDS -/

set_option maxHeartbeats 4000000 in
set_option maxRecDepth 100000 in
theorem Roomy_any (n : NetS) (v : Value) (B : Nat) (w : World) (hn : NetAt w B v n) (hB : B ≤ w.heap.size) (hsm : SmallN n) :
    Calls Tryz.prog 6 #[v] w fun e w' => ∃ a b, e = .returned (.tuple #[a, b]) ∧ GivenAt w' w'.heap.size a n ∧ KeptAt w' w'.heap.size b n ∧ Below w.heap.size w w' := by
  obtain ⟨vp, vt, vg, rfl, hp, ht, hg⟩ := hn
  obtain ⟨A, cap, rfl, hcl, hcap⟩ := SlOf.form hp
  obtain ⟨At, capt, rfl, hclt, hcapt⟩ := SlOf.form ht
  obtain ⟨Ag, capg, rfl, hclg, hcapg⟩ := SlOf.form hg
  have hsm' := Lib.hid hsm
  obtain ⟨sp, st, sg, stt, sgg⟩ := hsm
  obtain ⟨W1, hW1⟩ : ∃ W1, w.alloc (.cells #[.int .i64 n.bits, .slice A n.ports.length cap, .slice At n.tables.length capt, .slice Ag n.guards.length capg] 26 (0, 0)) = W1 := ⟨_, rfl⟩
  obtain ⟨W2, hW2⟩ : ∃ W2, W1.alloc (.cells #[.int .i64 0, .slice none 0 0, .slice none 0 0, .slice none 0 0] 26 (0, 0)) = W2 := ⟨_, rfl⟩
  obtain ⟨W3, hW3⟩ : ∃ W3, W2.alloc (.cells #[.int .i64 0, .slice none 0 0, .slice none 0 0, .slice none 0 0] 26 (0, 0)) = W3 := ⟨_, rfl⟩
  obtain ⟨W4, hW4⟩ : ∃ W4, W3.alloc (.cells #[.int .i64 n.bits, .slice none 0 0, .slice none 0 0, .slice none 0 0] 26 (0, 0)) = W4 := ⟨_, rfl⟩
  have z1 : W1.heap.size = w.heap.size + 1 := by rw [← hW1]; simp
  have z2 : W2.heap.size = w.heap.size + 2 := by rw [← hW2]; simp [z1]
  have z3 : W3.heap.size = w.heap.size + 3 := by rw [← hW3]; simp [z2]
  have z4 : W4.heap.size = w.heap.size + 4 := by rw [← hW4]; simp [z3]
  have b1 : Below w.heap.size w W1 := hW1 ▸ (Below.refl _ w).alloc (Nat.le_refl _) _
  have b2 : Below W1.heap.size W1 W2 := hW2 ▸ (Below.refl _ W1).alloc (Nat.le_refl _) _
  have b3 : Below W2.heap.size W2 W3 := hW3 ▸ (Below.refl _ W2).alloc (Nat.le_refl _) _
  have b4 : Below W3.heap.size W3 W4 := hW4 ▸ (Below.refl _ W3).alloc (Nat.le_refl _) _
  have b34 : Below W2.heap.size W2 W4 := b3.trans (b4.mono (by omega))
  have b24 : Below W1.heap.size W1 W4 := b2.trans (b34.mono (by omega))
  have b14 : Below w.heap.size w W4 := b1.trans (b24.mono (by omega))
  have hN0 := Lib.hid (show W4.heap[w.heap.size]? = some (.cells #[.int .i64 n.bits, .slice A n.ports.length cap, .slice At n.tables.length capt, .slice Ag n.guards.length capg] 26 (0, 0)) by
    rw [b24.block _ (by omega), ← hW1]; exact heap_alloc_new w _)
  have hR1 := Lib.hid (show W4.heap[w.heap.size + 1]? = some (.cells #[.int .i64 0, .slice none 0 0, .slice none 0 0, .slice none 0 0] 26 (0, 0)) by
    rw [b34.block _ (by omega), ← hW2, ← z1]; exact heap_alloc_new W1 _)
  have hR2 := Lib.hid (show W4.heap[w.heap.size + 2]? = some (.cells #[.int .i64 0, .slice none 0 0, .slice none 0 0, .slice none 0 0] 26 (0, 0)) by
    rw [b4.block _ (by omega), ← hW3, ← z2]; exact heap_alloc_new W2 _)
  have hK00 : KAt W4 (w.heap.size + 3) n.bits (.slice none 0 0) (.slice none 0 0) (.slice none 0 0) := by
    unfold KAt; rw [← hW4, ← z3]; exact heap_alloc_new W3 _
  have hp4 : Hid (SlOf 4 PortC W4 B (.slice A n.ports.length cap) n.ports) := Lib.hid (hp.keepI (Nat.le_refl _) (belowI b14 hB) fun _ _ h => h)
  have ht4 : Hid (SlOf 1 TabC W4 B (.slice At n.tables.length capt) n.tables) := Lib.hid (ht.keepI (Nat.le_refl _) (belowI b14 hB) fun _ _ h => TabC.keepI h (Nat.le_refl _) (belowI b14 hB))
  have hg4 : Hid (SlOf 1 GuaC W4 B (.slice Ag n.guards.length capg) n.guards) := Lib.hid (hg.keepI (Nat.le_refl _) (belowI b14 hB) fun _ _ h => GuaC.keepI h (Nat.le_refl _) (belowI b14 hB))
  have c01 : W1.cell? ⟨w.heap.size, 0, none⟩ = some (.int .i64 n.bits) := by rw [← hW1]; simp
  have c02 := (b2.cell (p := ⟨w.heap.size, 0, none⟩) (show w.heap.size < _ by omega)).trans c01
  have c03 := (b3.cell (p := ⟨w.heap.size, 0, none⟩) (show w.heap.size < _ by omega)).trans c02
  have hb0 := Lib.hid b14
  have hz4 := Lib.hid z4
  have q1 : W4.cell? ⟨w.heap.size, 1, none⟩ = some (.slice A n.ports.length cap) := by simpa using cell_of_row W4 w.heap.size 1 _ _ (0, 0) hN0.out
  -- the ports' row
  have hmk := make_any 22 46 (.agg #[.string ByteArray.empty, .int .i64 0, .bool false, .int .i64 0]) 4 40 Tryz.underlying22 infoPort (n.ports.length + 1) ((n.ports.length : Int) + 1) (by omega) (by omega) (by omega)
  simp only [Value.cells] at hmk
  have hFm := RowF.made W4 46 #[.string ByteArray.empty, .int .i64 0, .bool false, .int .i64 0] (by decide) (n.ports.length + 1)
  obtain ⟨W5, hW5⟩ : ∃ W5, W4.alloc (.cells (madeCells #[.string ByteArray.empty, .int .i64 0, .bool false, .int .i64 0] ((n.ports.length + 1) * 4)) 46 (0, 0)) = W5 := ⟨_, rfl⟩
  have b5 : Below W4.heap.size W4 W5 := hW5 ▸ (Below.refl _ W4).alloc (Nat.le_refl _) _
  have z5 : W5.heap.size = w.heap.size + 5 := by rw [← hW5]; simp [z4]
  have hF5 : RowF W5 (w.heap.size + 4) 46 zP [] (n.ports.length + 1) := by rw [← hW5, ← z4]; exact hFm
  have hK5 := hK00.of_block (b5.block (w.heap.size + 3) (by omega))
  have m1 := hK5.c1
  have mf1 := hK5.free 1
  have hK6 := Lib.hid (hK5.set1 (.slice (some ⟨w.heap.size + 4, 0, none⟩) (n.ports.length + 1) (n.ports.length + 1)))
  have hF6 := Lib.hid (hF5.of_block (w' := W5.setCell ⟨w.heap.size + 3, 1, none⟩ (.slice (some ⟨w.heap.size + 4, 0, none⟩) (n.ports.length + 1) (n.ports.length + 1))) (Below.heap_setCell _ _ _ _ (by show w.heap.size + 4 ≠ w.heap.size + 3; omega)))
  have hB6 : Hid (Below (w.heap.size + 3) W4 (W5.setCell ⟨w.heap.size + 3, 1, none⟩ (.slice (some ⟨w.heap.size + 4, 0, none⟩) (n.ports.length + 1) (n.ports.length + 1)))) := Lib.hid (Below.setCell (b5.mono (show w.heap.size + 3 ≤ _ by omega)) (p := ⟨w.heap.size + 3, 1, none⟩) (Nat.le_refl _) _)
  have hs6 : Hid ((W5.setCell ⟨w.heap.size + 3, 1, none⟩ (.slice (some ⟨w.heap.size + 4, 0, none⟩) (n.ports.length + 1) (n.ports.length + 1))).heap.size = w.heap.size + 5) := Lib.hid (by rw [← z5]; simp [World.setCell])
  have hW4h := Lib.hid hW4
  clear b1 b2 b3 b4 b34 b24 b14 hp ht hg b5 hFm hF5 hK5 hW4
  go_enter Tryz.func6, Tryz.ntmps6
  go_upto_region 2 with fail
  rw [hW4h.out]
  clear hW4h hW1 hW2 hW3 c01 c02 c03
  go_wp2_with fail
  clear hW5 hmk q1 m1 mf1
  go_loopw [5] (fun i wr => ∃ k : Nat, k ≤ n.ports.length ∧ i = .int .i64 k ∧ Hid (KAt wr (w.heap.size + 3) n.bits (.slice (some ⟨w.heap.size + 4, 0, none⟩) (n.ports.length + 1) (n.ports.length + 1)) (.slice none 0 0) (.slice none 0 0)) ∧
    Hid (RowF wr (w.heap.size + 4) 46 zP ((n.ports.take k).map portV) (n.ports.length + 1 - k)) ∧ Hid (wr.heap.size = w.heap.size + 5) ∧ Hid (Below (w.heap.size + 3) W4 wr)) (fun i _ => n.ports.length - (intOf i).toNat)
  case atStart => exact ⟨0, Nat.zero_le _, rfl, hK6, hF6, hs6, hB6⟩
  case round =>
    obtain ⟨k, hk, rfl, hK0, hF0, hs0, hbw⟩ := hrel
    obtain ⟨wq, rfl⟩ : ∃ wq, wq = wr := ⟨_, rfl⟩
    clear hK6 hF6 hs6 hB6
    have q1 : wq.cell? ⟨w.heap.size, 1, none⟩ = some (.slice A n.ports.length cap) := (hbw.out.cell (p := ⟨w.heap.size, 1, none⟩) (show w.heap.size < _ by omega)).trans (by simpa using cell_of_row W4 w.heap.size 1 _ _ (0, 0) hN0.out)
    have hlen : Hid (((n.ports.take k).map portV).length = k) := Lib.hid (by rw [List.length_map, List.length_take]; omega)
    by_cases hlt : k < n.ports.length
    · obtain ⟨b, off, rfl⟩ := SlOf.addr hp4.out (by omega)
      obtain ⟨hb, c, x, hx, ⟨hc, hxs⟩, hj⟩ := SlOf.el hp4.out hlt
      subst hc
      have hbB : b < w.heap.size + 3 := by omega
      have e0 : wq.cell? ⟨b, off + k * 4, none⟩ = some (.string x.name) := (hbw.out.cell (p := ⟨b, _, none⟩) hbB).trans (hj 0 _ rfl)
      have e1 : wq.cell? ⟨b, off + k * 4 + 1, none⟩ = some (.int .i64 x.box) := (hbw.out.cell (p := ⟨b, _, none⟩) hbB).trans (hj 1 _ rfl)
      have e2 : wq.cell? ⟨b, off + k * 4 + 2, none⟩ = some (.bool x.inn) := (hbw.out.cell (p := ⟨b, _, none⟩) hbB).trans (hj 2 _ rfl)
      have e3 : wq.cell? ⟨b, off + k * 4 + 3, none⟩ = some (.int .i64 x.dest) := (hbw.out.cell (p := ⟨b, _, none⟩) hbB).trans (hj 3 _ rfl)
      have k1 := hK0.out.c1
      clear hj
      have hSS : Hid (∀ W, Below (w.heap.size + 4) wq W → W.cell? ⟨w.heap.size + 3, 1, none⟩ = some (.slice (some ⟨w.heap.size + 4, 0, none⟩) (n.ports.length + 1) (n.ports.length + 1)) ∧ W.cell? ⟨w.heap.size, 1, none⟩ = some (.slice (some ⟨b, off, none⟩) n.ports.length cap) ∧ W.cell? ⟨b, off + k * 4, none⟩ = some (.string x.name) ∧ W.cell? ⟨b, off + k * 4 + 1, none⟩ = some (.int .i64 x.box) ∧ W.cell? ⟨b, off + k * 4 + 2, none⟩ = some (.bool x.inn) ∧ W.cell? ⟨b, off + k * 4 + 3, none⟩ = some (.int .i64 x.dest)) :=
        Lib.hid fun W h => ⟨(h.cell (p := ⟨w.heap.size + 3, 1, none⟩) (show w.heap.size + 3 < _ by omega)).trans k1, (h.cell (p := ⟨w.heap.size, 1, none⟩) (show w.heap.size < _ by omega)).trans q1, (h.cell (p := ⟨b, _, none⟩) (show b < _ by omega)).trans e0, (h.cell (p := ⟨b, _, none⟩) (show b < _ by omega)).trans e1, (h.cell (p := ⟨b, _, none⟩) (show b < _ by omega)).trans e2, (h.cell (p := ⟨b, _, none⟩) (show b < _ by omega)).trans e3⟩
      have hlI : (k : Int) < (n.ports.length : Int) := by omega
      have hlI2 : (k : Int) < (n.ports.length : Int) + 1 := by omega
      have hF2 := hF0.out
      rw [show n.ports.length + 1 - k = (n.ports.length + 1 - (k + 1)) + 1 by omega] at hF2
      obtain ⟨g0, g1, g2, g3, z0, z1, z2, z3⟩ := zP_facts hF2 hlen.out
      have hP := hF2.put (portV x) rfl
      rw [hlen.out, show zP.length = 4 from rfl] at hP
      have hts : ((n.ports.take (k + 1)).map portV) = ((n.ports.take k).map portV) ++ [portV x] := by rw [List.take_add_one, hx]; simp
      rw [← hts] at hP
      have hP := Lib.hid hP
      have hKn := Lib.hid (hK0.out.of_block (w' := setRow wq (w.heap.size + 4) (k * 4) (portV x)) (setRow_other (by omega) _ _ _))
      have hsn := Lib.hid ((setRow_size (b := w.heap.size + 4) (portV x) (k * 4) wq).trans hs0.out)
      have hbn := Lib.hid (setRow_below (B := w.heap.size + 3) (b := w.heap.size + 4) (by omega) (portV x) (k * 4) W4 wq hbw.out)
      have hSt := hSS.out _ (setRow_below (B := w.heap.size + 4) (b := w.heap.size + 4) (Nat.le_refl _) (portV x) (k * 4) wq wq (Below.refl _ _)).drew
      clear hts hF2
      go_wp2_with fail
      go_region_held3 (fun W => W.cell? ⟨w.heap.size + 3, 1, none⟩ = some (.slice (some ⟨w.heap.size + 4, 0, none⟩) (n.ports.length + 1) (n.ports.length + 1)) ∧ W.cell? ⟨w.heap.size, 1, none⟩ = some (.slice (some ⟨b, off, none⟩) n.ports.length cap) ∧ W.cell? ⟨b, off + k * 4, none⟩ = some (.string x.name) ∧ W.cell? ⟨b, off + k * 4 + 1, none⟩ = some (.int .i64 x.box) ∧ W.cell? ⟨b, off + k * 4 + 2, none⟩ = some (.bool x.inn) ∧ W.cell? ⟨b, off + k * 4 + 3, none⟩ = some (.int .i64 x.dest))
        (first | with_reducible exact hHeld | exact hSt | exact hSS.out _ ((Below.refl _ _).drew))
        (fail)
      have hP := Lib.hid (hP.out.of_block (w' := (setRow wq (w.heap.size + 4) (k * 4) (portV x)).drew) rfl)
      have hbn := Lib.hid hbn.out.drew
      clear hSt hSS g0 g1 g2 g3 z0 z1 z2 z3 e0 e1 e2 e3 k1 q1
      go_wp2_with fail
      go_roundw
      case rel => exact ⟨k + 1, by omega, by go_num, hKn, hP, hsn, hbn⟩
      case measure => simp [intOf]; omega
    · have hkl : k = n.ports.length := by omega
      subst hkl
      have hF2 := hF0.out
      rw [show n.ports.length + 1 - n.ports.length = 0 + 1 by omega, List.take_length] at hF2
      obtain ⟨g0, g1, g2, g3, z0, z1, z2, z3⟩ := zP_facts (k := n.ports.length) hF2 (by simp)
      have hP := hF2.put (portV markP) rfl
      rw [List.length_map, show zP.length = 4 from rfl] at hP
      have hKm := hK0.out.of_block (w' := setRow wq (w.heap.size + 4) (n.ports.length * 4) (portV markP)) (setRow_other (by omega) _ _ _)
      have hKn0 := hKm.set1 (.slice (some ⟨w.heap.size + 4, 0, none⟩) n.ports.length (n.ports.length + 1))
      have hPn0 := hP.of_block (w' := (setRow wq (w.heap.size + 4) (n.ports.length * 4) (portV markP)).setCell ⟨w.heap.size + 3, 1, none⟩ (.slice (some ⟨w.heap.size + 4, 0, none⟩) n.ports.length (n.ports.length + 1))) (Below.heap_setCell _ _ _ _ (by show w.heap.size + 4 ≠ w.heap.size + 3; omega))
      have hbn0 := (setRow_below (B := w.heap.size + 3) (b := w.heap.size + 4) (by omega) (portV markP) (n.ports.length * 4) W4 wq hbw.out).setCell (p := ⟨w.heap.size + 3, 1, none⟩) (Nat.le_refl _) (.slice (some ⟨w.heap.size + 4, 0, none⟩) n.ports.length (n.ports.length + 1))
      have hsn0 : ((setRow wq (w.heap.size + 4) (n.ports.length * 4) (portV markP)).setCell ⟨w.heap.size + 3, 1, none⟩ (.slice (some ⟨w.heap.size + 4, 0, none⟩) n.ports.length (n.ports.length + 1))).heap.size = w.heap.size + 5 := by
        rw [← hs0.out, ← setRow_size (b := w.heap.size + 4) (portV markP) (n.ports.length * 4) wq]; simp [World.setCell]
      have k1 := hK0.out.c1
      have kf1 := hK0.out.free 1
      have hKn0 := Lib.hid hKn0
      have hPn0 := Lib.hid hPn0
      have hbn0 := Lib.hid hbn0
      have hsn0 := Lib.hid hsn0
      have hs0' := hs0.out
      clear hP hKm hF2 hF0
      go_upto_region 9 with fail
      generalize hWn : World.setCell _ ⟨w.heap.size + 3, 1, none⟩ _ = Wn
      have hKn : KAt Wn (w.heap.size + 3) n.bits (.slice (some ⟨w.heap.size + 4, 0, none⟩) n.ports.length (n.ports.length + 1)) (.slice none 0 0) (.slice none 0 0) := by rw [← hWn]; exact hKn0.out
      have hPn := Lib.hid (show RowF Wn (w.heap.size + 4) 46 zP (n.ports.map portV ++ [portV markP]) 0 by rw [← hWn]; exact hPn0.out)
      have hbn := Lib.hid (show Below (w.heap.size + 3) W4 Wn by rw [← hWn]; exact hbn0.out)
      have hsn := show Wn.heap.size = w.heap.size + 5 by rw [← hWn]; exact hsn0.out
      clear hWn hKn0 hPn0 hbn0 hsn0 g0 g1 g2 g3 z0 z1 z2 z3 k1 kf1 q1 hs0 hs0' hlen hbw hK0 hlt hk
      -- the tables' row
      have q2 : Wn.cell? ⟨w.heap.size, 2, none⟩ = some (.slice At n.tables.length capt) := (hbn.out.cell (p := ⟨w.heap.size, 2, none⟩) (show w.heap.size < _ by omega)).trans (by simpa using cell_of_row W4 w.heap.size 2 _ _ (0, 0) hN0.out)
      have hmk := make_any 23 47 (.slice none 0 0) 1 24 Tryz.underlying23 infoTab (n.tables.length + 1) ((n.tables.length : Int) + 1) (by omega) (by omega) (by omega)
      simp only [Value.cells, Nat.mul_one] at hmk
      have hFm := RowF.made Wn 47 #[.slice none 0 0] (by decide) (n.tables.length + 1)
      rw [show (n.tables.length + 1) * (#[Value.slice none 0 0] : Array Value).size = n.tables.length + 1 from Nat.mul_one _] at hFm
      obtain ⟨W7, hW7⟩ : ∃ W7, Wn.alloc (.cells (madeCells #[.slice none 0 0] (n.tables.length + 1)) 47 (0, 0)) = W7 := ⟨_, rfl⟩
      have b7 : Below Wn.heap.size Wn W7 := hW7 ▸ (Below.refl _ Wn).alloc (Nat.le_refl _) _
      have z7 : W7.heap.size = w.heap.size + 6 := by rw [← hW7]; simp [hsn]
      have hF7 : RowF W7 (w.heap.size + 5) 47 [.slice none 0 0] [] (n.tables.length + 1) := by rw [← hW7, ← hsn]; exact hFm
      have hK7 := hKn.of_block (b7.block (w.heap.size + 3) (by omega))
      have m2 := hK7.c2
      have mf2 := hK7.free 2
      have hK8 := Lib.hid (hK7.set2 (.slice (some ⟨w.heap.size + 5, 0, none⟩) (n.tables.length + 1) (n.tables.length + 1)))
      have hF8 := Lib.hid (hF7.of_block (w' := W7.setCell ⟨w.heap.size + 3, 2, none⟩ (.slice (some ⟨w.heap.size + 5, 0, none⟩) (n.tables.length + 1) (n.tables.length + 1))) (Below.heap_setCell _ _ _ _ (by show w.heap.size + 5 ≠ w.heap.size + 3; omega)))
      have hP8 := Lib.hid ((hPn.out.below b7 (by omega)).of_block (w' := W7.setCell ⟨w.heap.size + 3, 2, none⟩ (.slice (some ⟨w.heap.size + 5, 0, none⟩) (n.tables.length + 1) (n.tables.length + 1))) (Below.heap_setCell _ _ _ _ (by show w.heap.size + 4 ≠ w.heap.size + 3; omega)))
      have hB8 : Hid (Below (w.heap.size + 3) W4 (W7.setCell ⟨w.heap.size + 3, 2, none⟩ (.slice (some ⟨w.heap.size + 5, 0, none⟩) (n.tables.length + 1) (n.tables.length + 1)))) := Lib.hid (Below.setCell (hbn.out.trans (b7.mono (show w.heap.size + 3 ≤ _ by omega))) (p := ⟨w.heap.size + 3, 2, none⟩) (Nat.le_refl _) _)
      clear b7 hFm hF7 hK7 hKn hPn
      go_wp2_with fail
      clear hW7 hmk q2 m2 mf2
      go_loopw [6] (fun i wr => ∃ (k : Nat) (cs : List (List Value)), k ≤ n.tables.length ∧ i = .int .i64 k ∧ cs.length = k ∧ Hid (KAt wr (w.heap.size + 3) n.bits (.slice (some ⟨w.heap.size + 4, 0, none⟩) n.ports.length (n.ports.length + 1)) (.slice (some ⟨w.heap.size + 5, 0, none⟩) (n.tables.length + 1) (n.tables.length + 1)) (.slice none 0 0)) ∧
        Hid (RowF wr (w.heap.size + 4) 46 zP (n.ports.map portV ++ [portV markP]) 0) ∧ Hid (RowF wr (w.heap.size + 5) 47 [.slice none 0 0] cs (n.tables.length + 1 - k)) ∧
        Hid (∀ (i : Nat) (c : List Value) (x : List EntryS), cs[i]? = some c → n.tables[i]? = some x → TabF (dead wr (w.heap.size + 6)) wr.heap.size c x) ∧ Hid (Below (w.heap.size + 3) W4 wr)) (fun i _ => n.tables.length - (intOf i).toNat)
      case atStart => exact ⟨0, [], Nat.zero_le _, rfl, rfl, hK8, hP8, hF8, Lib.hid fun i c x h => by simp at h, hB8⟩
      case round =>
        obtain ⟨k, cs, hk, rfl, hlen, hK0, hP0, hF0, hE, hbw⟩ := hrel
        obtain ⟨wq, rfl⟩ : ∃ wq, wq = wr := ⟨_, rfl⟩
        have hlen := Lib.hid hlen
        clear hK8 hP8 hF8 hB8
        have hsz : w.heap.size + 6 ≤ wq.heap.size := by have := hF0.out.row.lt; omega
        have q2 : wq.cell? ⟨w.heap.size, 2, none⟩ = some (.slice At n.tables.length capt) := (hbw.out.cell (p := ⟨w.heap.size, 2, none⟩) (show w.heap.size < _ by omega)).trans (by simpa using cell_of_row W4 w.heap.size 2 _ _ (0, 0) hN0.out)
        have m2 := hK0.out.c2
        by_cases hlt : k < n.tables.length
        · obtain ⟨b, off, rfl⟩ := SlOf.addr ht4.out (by omega)
          obtain ⟨hb, c, x, hx, ⟨vx, hc, hT⟩, hj⟩ := SlOf.el ht4.out hlt
          subst hc
          have hbB : b < w.heap.size + 3 := by omega
          have e0 : wq.cell? ⟨b, off + k, none⟩ = some vx := (hbw.out.cell (p := ⟨b, _, none⟩) hbB).trans (by simpa using hj 0 _ rfl)
          clear hj
          obtain ⟨A1, cap1, rfl, hcl1, hcap1⟩ := SlOf.form hT
          have hxs := stt x (List.mem_of_getElem? hx)
          have c1 : Hid (∀ W, Below (w.heap.size + 3) wq W → Calls Tryz.prog 15 #[.slice A1 x.length cap1] W fun e w' => ∃ v, e = .returned v ∧ Room 5 EntryC (dead w' W.heap.size) w'.heap.size v x [markE mark1, markE mark2] ∧ SlOf 5 EntryKC (dead w' W.heap.size) w'.heap.size v x ∧ Below W.heap.size W w') :=
            Lib.hid fun W h => roomTable_any x _ B W (hT.keepI (Nat.le_refl _) (belowI (hbw.out.trans h) (by omega)) fun _ _ h2 => EntryC.keepI h2 (Nat.le_refl _) (belowI (hbw.out.trans h) (by omega))) (by have := h.size; omega) hxs.1 hxs.2
          have hK : Hid (∀ W, Below (w.heap.size + 5) wq W → Below (w.heap.size + 5) wq W ∧ W.cell? ⟨w.heap.size + 3, 2, none⟩ = some (.slice (some ⟨w.heap.size + 5, 0, none⟩) (n.tables.length + 1) (n.tables.length + 1)) ∧ W.cell? ⟨w.heap.size, 2, none⟩ = some (.slice (some ⟨b, off, none⟩) n.tables.length capt) ∧ W.cell? ⟨b, off + k, none⟩ = some (.slice A1 x.length cap1)) :=
            Lib.hid fun W h => ⟨h, (h.cell (p := ⟨w.heap.size + 3, 2, none⟩) (show w.heap.size + 3 < _ by omega)).trans m2, (h.cell (p := ⟨w.heap.size, 2, none⟩) (show w.heap.size < _ by omega)).trans q2, (h.cell (p := ⟨b, _, none⟩) (show b < _ by omega)).trans e0⟩
          have hlI : (k : Int) < (n.tables.length : Int) := by omega
          have hlI2 : (k : Int) < (n.tables.length : Int) + 1 := by omega
          have hF2 := hF0.out
          rw [show n.tables.length + 1 - k = (n.tables.length + 1 - (k + 1)) + 1 by omega] at hF2
          have hF2 := Lib.hid hF2
          have hsz5 : w.heap.size + 5 < wq.heap.size := by omega
          clear hT
          go_wp2_with fail
          go_region_held3 (fun W => Below (w.heap.size + 5) wq W ∧ W.cell? ⟨w.heap.size + 3, 2, none⟩ = some (.slice (some ⟨w.heap.size + 5, 0, none⟩) (n.tables.length + 1) (n.tables.length + 1)) ∧ W.cell? ⟨w.heap.size, 2, none⟩ = some (.slice (some ⟨b, off, none⟩) n.tables.length capt) ∧ W.cell? ⟨b, off + k, none⟩ = some (.slice A1 x.length cap1))
            (first | with_reducible exact hHeld | with_reducible exact hK.out _ hB1 | exact hK.out _ (below_drewN (Below.refl _ _) 1) | exact hK.out _ (hB1.setCell (Nat.le_refl _) _))
            ((go_at_call 15; refine (c1.out _ (below_drewN (Below.refl _ _) 1)).mono ?_; rintro e w1 ⟨_, rfl, ⟨A5, cap5, rfl, hr1⟩, hr2, hb1⟩; have hB1 : Below (w.heap.size + 5) wq w1 := (below_drewN (Below.refl _ _) 1).trans (hb1.mono (Nat.le_of_lt hsz5)); have hF3 := Lib.hid (hF2.out.of_block (hb1.block _ hsz5)); have g0 := hF3.out.zel (j := 0) rfl; have z0 := hF3.out.free k; rw [hlen.out] at g0; simp only [List.length_cons, List.length_nil, Nat.zero_add, Nat.mul_one, Nat.add_zero] at g0))
          have hr := Lib.hid (step_gen (F := TabF) (fun h h1 h2 => h.keepI h1 h2) hx hlen.out hsz5 ⟨hb1.os, hb1.tape, hb1.output, hb1.size, hb1.block⟩ (w4 := setRow w1 (w.heap.size + 5) k [.slice A5 x.length cap5]) (fun i hi => setRow_other hi _ _ _) (setRow_size _ _ _) hE.out (c0 := [.slice A5 x.length cap5]) ⟨_, rfl, ⟨A5, cap5, rfl, hr1⟩, hr2⟩)
          have hP := hF3.out.put [.slice A5 x.length cap5] rfl
          rw [hlen.out, show k * List.length [Value.slice none 0 0] = k from Nat.mul_one k] at hP
          have hP := Lib.hid hP
          have hKn := Lib.hid ((hK0.out.of_block (hB1.block (w.heap.size + 3) (by omega))).of_block (w' := setRow w1 (w.heap.size + 5) k [.slice A5 x.length cap5]) (setRow_other (by omega) _ _ _))
          have hPn := Lib.hid ((hP0.out.of_block (hB1.block (w.heap.size + 4) (by omega))).of_block (w' := setRow w1 (w.heap.size + 5) k [.slice A5 x.length cap5]) (setRow_other (by omega) _ _ _))
          have hbz := Lib.hid (setRow_below (B := w.heap.size + 3) (b := w.heap.size + 5) (by omega) [.slice A5 x.length cap5] k W4 w1 (hbw.out.trans (hB1.mono (by omega))))
          clear g0 z0 hF3 hF2 hr1 hr2 hb1 hB1 hK c1 e0 q2 m2
          go_wp2_with fail
          go_roundw
          case rel => exact ⟨k + 1, _, by omega, by go_num, by simp [hlen.out], hKn, hPn, hP, hr, hbz⟩
          case measure => simp [intOf]; omega
        · have hkl : k = n.tables.length := by omega
          subst hkl
          have hF2 := hF0.out
          rw [show n.tables.length + 1 - n.tables.length = 0 + 1 by omega] at hF2
          obtain ⟨Wa, hWa⟩ : ∃ Wa, wq.alloc (.cells #[.string mark1, .slice none 0 0, .slice none 0 0, .string ByteArray.empty, .slice none 0 0] 52 (0, 0)) = Wa := ⟨_, rfl⟩
          have ba : Below wq.heap.size wq Wa := hWa ▸ (Below.refl _ wq).alloc (Nat.le_refl _) _
          have za : Wa.heap.size = wq.heap.size + 1 := by rw [← hWa]; simp
          have hBm : Wa.heap[wq.heap.size]? = some (.cells #[.string mark1, .slice none 0 0, .slice none 0 0, .string ByteArray.empty, .slice none 0 0] 52 (0, 0)) := hWa ▸ heap_alloc_new wq _
          have hFa := hF2.of_block (ba.block (w.heap.size + 5) (by omega))
          have hKa := hK0.out.of_block (ba.block (w.heap.size + 3) (by omega))
          have hPa := hP0.out.of_block (ba.block (w.heap.size + 4) (by omega))
          have g0 := hFa.zel (j := 0) rfl
          have z0 := hFa.free n.tables.length
          rw [hlen.out] at g0
          simp only [List.length_cons, List.length_nil, Nat.zero_add, Nat.mul_one, Nat.add_zero] at g0
          have hPt := hFa.put [.slice (some ⟨wq.heap.size, 0, none⟩) 1 1] rfl
          rw [hlen.out, show n.tables.length * List.length [Value.slice none 0 0] = n.tables.length from Nat.mul_one _] at hPt
          have m2a := hKa.c2
          have mf2a := hKa.free 2
          have q2a := (ba.cell (p := ⟨w.heap.size, 2, none⟩) (show w.heap.size < _ by omega)).trans q2
          have hoth : ∀ i, i ≠ w.heap.size + 5 → i ≠ w.heap.size + 3 → ((setRow Wa (w.heap.size + 5) n.tables.length [.slice (some ⟨wq.heap.size, 0, none⟩) 1 1]).setCell ⟨w.heap.size + 3, 2, none⟩ (.slice (some ⟨w.heap.size + 5, 0, none⟩) n.tables.length (n.tables.length + 1))).heap[i]? = Wa.heap[i]? := fun i h1 h2 =>
            (Below.heap_setCell _ _ _ _ (show i ≠ w.heap.size + 3 from h2)).trans (setRow_other h1 _ _ _)
          have hKn0 := Lib.hid ((hKa.of_block (w' := setRow Wa (w.heap.size + 5) n.tables.length [.slice (some ⟨wq.heap.size, 0, none⟩) 1 1]) (setRow_other (by omega) _ _ _)).set2 (.slice (some ⟨w.heap.size + 5, 0, none⟩) n.tables.length (n.tables.length + 1)))
          have hPn0 := Lib.hid (hPa.of_block (hoth (w.heap.size + 4) (by omega) (by omega)))
          have hPt0 := hPt.of_block (w' := (setRow Wa (w.heap.size + 5) n.tables.length [.slice (some ⟨wq.heap.size, 0, none⟩) 1 1]).setCell ⟨w.heap.size + 3, 2, none⟩ (.slice (some ⟨w.heap.size + 5, 0, none⟩) n.tables.length (n.tables.length + 1))) (Below.heap_setCell _ _ _ _ (by show w.heap.size + 5 ≠ w.heap.size + 3; omega))
          have hsn0 : ((setRow Wa (w.heap.size + 5) n.tables.length [.slice (some ⟨wq.heap.size, 0, none⟩) 1 1]).setCell ⟨w.heap.size + 3, 2, none⟩ (.slice (some ⟨w.heap.size + 5, 0, none⟩) n.tables.length (n.tables.length + 1))).heap.size = wq.heap.size + 1 := by
            rw [← za, ← setRow_size (b := w.heap.size + 5) [.slice (some ⟨wq.heap.size, 0, none⟩) 1 1] n.tables.length Wa]; simp [World.setCell]
          have hbn0 := Lib.hid (Below.setCell (setRow_below (B := w.heap.size + 3) (b := w.heap.size + 5) (by omega) [.slice (some ⟨wq.heap.size, 0, none⟩) 1 1] n.tables.length W4 Wa (hbw.out.trans (ba.mono (by omega)))) (p := ⟨w.heap.size + 3, 2, none⟩) (Nat.le_refl _) (.slice (some ⟨w.heap.size + 5, 0, none⟩) n.tables.length (n.tables.length + 1)))
          have hTn0 := Lib.hid (tabs_fin hlen.out st hPt0 hE.out (fun i h1 h2 => (hoth i (by omega) (by omega)).trans (ba.block i h1)) (by rw [hsn0]; omega)
            (one_row (c := [.string mark1, .slice none 0 0, .slice none 0 0, .string ByteArray.empty, .slice none 0 0]) (by rw [hsn0]; omega) ((dead_block _ _ _ (by omega)).trans ((hoth wq.heap.size (by omega) (by omega)).trans hBm)) (markE_C mark1 (by decide) _ _)))
          have hsn0 := Lib.hid hsn0
          clear hoth hPt hPt0 hFa hKa hPa hBm hF2 ba
          unfold mark1 at hWa
          have hWa' : wq.alloc (.cells #[.string ⟨#[98, 101, 104, 105, 110, 100, 32, 116, 104, 101, 32, 101, 110, 100]⟩, .slice none 0 0, .slice none 0 0, .string ⟨#[]⟩, .slice none 0 0] 52 (0, 0)) = Wa := hWa
          go_upto_region 16 with fail
          generalize hWn : World.setCell _ ⟨w.heap.size + 3, 2, none⟩ _ = Wn
          have hKn : KAt Wn (w.heap.size + 3) n.bits (.slice (some ⟨w.heap.size + 4, 0, none⟩) n.ports.length (n.ports.length + 1)) (.slice (some ⟨w.heap.size + 5, 0, none⟩) n.tables.length (n.tables.length + 1)) (.slice none 0 0) := by rw [← hWn]; exact hKn0.out
          have hPn := Lib.hid (show RowF Wn (w.heap.size + 4) 46 zP (n.ports.map portV ++ [portV markP]) 0 by rw [← hWn]; exact hPn0.out)
          have hbn := Lib.hid (show Below (w.heap.size + 3) W4 Wn by rw [← hWn]; exact hbn0.out)
          have hsn := show Wn.heap.size = wq.heap.size + 1 by rw [← hWn]; exact hsn0.out
          have hTn := Lib.hid (show TabsFin (dead Wn (w.heap.size + 5)) Wn.heap.size (.slice (some ⟨w.heap.size + 5, 0, none⟩) n.tables.length (n.tables.length + 1)) n.tables by rw [← hWn]; exact hTn0.out)
          clear hWn hKn0 hPn0 hbn0 hsn0 hTn0 g0 z0 m2a mf2a q2a hWa hWa' za
          obtain ⟨G, hG⟩ : ∃ G, Wn.heap.size = G := ⟨_, rfl⟩
          have hG7 : w.heap.size + 7 ≤ G := by omega
          clear hsn
          have hsn : Wn.heap.size = G := hG
          clear hG q2 m2
          -- the guards' row
          have q2 : Wn.cell? ⟨w.heap.size, 3, none⟩ = some (.slice Ag n.guards.length capg) := (hbn.out.cell (p := ⟨w.heap.size, 3, none⟩) (show w.heap.size < _ by omega)).trans (by simpa using cell_of_row W4 w.heap.size 3 _ _ (0, 0) hN0.out)
          have hmk := make_any 24 53 (.slice none 0 0) 1 24 Tryz.underlying24 infoGua (n.guards.length + 1) ((n.guards.length : Int) + 1) (by omega) (by omega) (by omega)
          simp only [Value.cells, Nat.mul_one] at hmk
          have hFm := RowF.made Wn 53 #[.slice none 0 0] (by decide) (n.guards.length + 1)
          rw [show (n.guards.length + 1) * (#[Value.slice none 0 0] : Array Value).size = n.guards.length + 1 from Nat.mul_one _] at hFm
          obtain ⟨W7, hW7⟩ : ∃ W7, Wn.alloc (.cells (madeCells #[.slice none 0 0] (n.guards.length + 1)) 53 (0, 0)) = W7 := ⟨_, rfl⟩
          have b7 : Below Wn.heap.size Wn W7 := hW7 ▸ (Below.refl _ Wn).alloc (Nat.le_refl _) _
          have z7 : W7.heap.size = G + 1 := by rw [← hW7]; simp [hsn]
          have hF7 : RowF W7 (G) 53 [.slice none 0 0] [] (n.guards.length + 1) := by rw [← hW7, ← hsn]; exact hFm
          have hK7 := hKn.of_block (b7.block (w.heap.size + 3) (by omega))
          have m2 := hK7.c3
          have mf2 := hK7.free 3
          have hK8 := Lib.hid (hK7.set3 (.slice (some ⟨G, 0, none⟩) (n.guards.length + 1) (n.guards.length + 1)))
          have hF8 := Lib.hid (hF7.of_block (w' := W7.setCell ⟨w.heap.size + 3, 3, none⟩ (.slice (some ⟨G, 0, none⟩) (n.guards.length + 1) (n.guards.length + 1))) (Below.heap_setCell _ _ _ _ (by show G ≠ w.heap.size + 3; omega)))
          have hP8 := Lib.hid ((hPn.out.below b7 (by omega)).of_block (w' := W7.setCell ⟨w.heap.size + 3, 3, none⟩ (.slice (some ⟨G, 0, none⟩) (n.guards.length + 1) (n.guards.length + 1))) (Below.heap_setCell _ _ _ _ (by show w.heap.size + 4 ≠ w.heap.size + 3; omega)))
          have hT8 : Hid (TabsFin (dead (W7.setCell ⟨w.heap.size + 3, 3, none⟩ (.slice (some ⟨G, 0, none⟩) (n.guards.length + 1) (n.guards.length + 1))) (w.heap.size + 5)) G (.slice (some ⟨w.heap.size + 5, 0, none⟩) n.tables.length (n.tables.length + 1)) n.tables) := Lib.hid (hTn.out.keepI (Nat.le_of_eq hsn) (fun b o u hb h => deadSet (B := Wn.heap.size) (show w.heap.size + 3 < w.heap.size + 5 by omega) (fun i hi => Below.heap_setCell _ _ _ _ hi) b o u hb (deadI (Nat.le_refl _) b7 (Nat.le_refl _) b o u hb h)))
          have hB8 : Hid (Below (w.heap.size + 3) W4 (W7.setCell ⟨w.heap.size + 3, 3, none⟩ (.slice (some ⟨G, 0, none⟩) (n.guards.length + 1) (n.guards.length + 1)))) := Lib.hid (Below.setCell (hbn.out.trans (b7.mono (show w.heap.size + 3 ≤ _ by omega))) (p := ⟨w.heap.size + 3, 3, none⟩) (Nat.le_refl _) _)
          clear b7 hFm hF7 hK7 hKn hPn
          go_wp2_with fail
          clear hW7 hmk q2 m2 mf2
          go_loopw [7] (fun i wr => ∃ (k : Nat) (cs : List (List Value)), k ≤ n.guards.length ∧ i = .int .i64 k ∧ cs.length = k ∧ Hid (KAt wr (w.heap.size + 3) n.bits (.slice (some ⟨w.heap.size + 4, 0, none⟩) n.ports.length (n.ports.length + 1)) (.slice (some ⟨w.heap.size + 5, 0, none⟩) n.tables.length (n.tables.length + 1)) (.slice (some ⟨G, 0, none⟩) (n.guards.length + 1) (n.guards.length + 1))) ∧
            Hid (RowF wr (w.heap.size + 4) 46 zP (n.ports.map portV ++ [portV markP]) 0) ∧ Hid (RowF wr (G) 53 [.slice none 0 0] cs (n.guards.length + 1 - k)) ∧
            Hid (∀ (i : Nat) (c : List Value) (x : List GuardS), cs[i]? = some c → n.guards[i]? = some x → GuaF (dead wr (G + 1)) wr.heap.size c x) ∧ Hid (TabsFin (dead wr (w.heap.size + 5)) G (.slice (some ⟨w.heap.size + 5, 0, none⟩) n.tables.length (n.tables.length + 1)) n.tables) ∧ Hid (Below (w.heap.size + 3) W4 wr)) (fun i _ => n.guards.length - (intOf i).toNat)
          case atStart => exact ⟨0, [], Nat.zero_le _, rfl, rfl, hK8, hP8, hF8, Lib.hid fun i c x h => by simp at h, hT8, hB8⟩
          case round =>
            obtain ⟨k, cs, hk, rfl, hlen, hK0, hP0, hF0, hE, hT0, hbw⟩ := hrel
            obtain ⟨wq, rfl⟩ : ∃ wq, wq = wr := ⟨_, rfl⟩
            have hlen := Lib.hid hlen
            clear hK8 hP8 hF8 hB8 hT8
            have hsz : G + 1 ≤ wq.heap.size := by have := hF0.out.row.lt; omega
            have q2 : wq.cell? ⟨w.heap.size, 3, none⟩ = some (.slice Ag n.guards.length capg) := (hbw.out.cell (p := ⟨w.heap.size, 3, none⟩) (show w.heap.size < _ by omega)).trans (by simpa using cell_of_row W4 w.heap.size 3 _ _ (0, 0) hN0.out)
            have m2 := hK0.out.c3
            by_cases hlt : k < n.guards.length
            · obtain ⟨b, off, rfl⟩ := SlOf.addr hg4.out (by omega)
              obtain ⟨hb, c, x, hx, ⟨vx, hc, hT⟩, hj⟩ := SlOf.el hg4.out hlt
              subst hc
              have hbB : b < w.heap.size + 3 := by omega
              have e0 : wq.cell? ⟨b, off + k, none⟩ = some vx := (hbw.out.cell (p := ⟨b, _, none⟩) hbB).trans (by simpa using hj 0 _ rfl)
              clear hj
              obtain ⟨A1, cap1, rfl, hcl1, hcap1⟩ := SlOf.form hT
              have hxs := sgg x (List.mem_of_getElem? hx)
              have c1 : Hid (∀ W, Below (w.heap.size + 3) wq W → Calls Tryz.prog 16 #[.slice A1 x.length cap1] W fun e w' => ∃ v, e = .returned v ∧ Room 2 GuardC (dead w' W.heap.size) w'.heap.size v x [markG mark1, markG mark2] ∧ SlOf 2 GuardKC (dead w' W.heap.size) w'.heap.size v x ∧ Below W.heap.size W w') :=
                Lib.hid fun W h => roomGuard_any x _ B W (hT.keepI (Nat.le_refl _) (belowI (hbw.out.trans h) (by omega)) fun _ _ h2 => GuardC.keepI h2 (Nat.le_refl _) (belowI (hbw.out.trans h) (by omega))) (by have := h.size; omega) hxs.1 hxs.2
              have hK : Hid (∀ W, Below (G) wq W → Below (G) wq W ∧ W.cell? ⟨w.heap.size + 3, 3, none⟩ = some (.slice (some ⟨G, 0, none⟩) (n.guards.length + 1) (n.guards.length + 1)) ∧ W.cell? ⟨w.heap.size, 3, none⟩ = some (.slice (some ⟨b, off, none⟩) n.guards.length capg) ∧ W.cell? ⟨b, off + k, none⟩ = some (.slice A1 x.length cap1)) :=
                Lib.hid fun W h => ⟨h, (h.cell (p := ⟨w.heap.size + 3, 3, none⟩) (show w.heap.size + 3 < _ by omega)).trans m2, (h.cell (p := ⟨w.heap.size, 3, none⟩) (show w.heap.size < _ by omega)).trans q2, (h.cell (p := ⟨b, _, none⟩) (show b < _ by omega)).trans e0⟩
              have hlI : (k : Int) < (n.guards.length : Int) := by omega
              have hlI2 : (k : Int) < (n.guards.length : Int) + 1 := by omega
              have hF2 := hF0.out
              rw [show n.guards.length + 1 - k = (n.guards.length + 1 - (k + 1)) + 1 by omega] at hF2
              have hF2 := Lib.hid hF2
              have hsz5 : G < wq.heap.size := by omega
              clear hT
              go_wp2_with fail
              go_region_held3 (fun W => Below (G) wq W ∧ W.cell? ⟨w.heap.size + 3, 3, none⟩ = some (.slice (some ⟨G, 0, none⟩) (n.guards.length + 1) (n.guards.length + 1)) ∧ W.cell? ⟨w.heap.size, 3, none⟩ = some (.slice (some ⟨b, off, none⟩) n.guards.length capg) ∧ W.cell? ⟨b, off + k, none⟩ = some (.slice A1 x.length cap1))
                (first | with_reducible exact hHeld | with_reducible exact hK.out _ hB1 | exact hK.out _ (below_drewN (Below.refl _ _) 1) | exact hK.out _ (hB1.setCell (Nat.le_refl _) _))
                ((go_at_call 16; refine (c1.out _ (below_drewN (Below.refl _ _) 1)).mono ?_; rintro e w1 ⟨_, rfl, ⟨A5, cap5, rfl, hr1⟩, hr2, hb1⟩; have hB1 : Below (G) wq w1 := (below_drewN (Below.refl _ _) 1).trans (hb1.mono (Nat.le_of_lt hsz5)); have hF3 := Lib.hid (hF2.out.of_block (hb1.block _ hsz5)); have g0 := hF3.out.zel (j := 0) rfl; have z0 := hF3.out.free k; rw [hlen.out] at g0; simp only [List.length_cons, List.length_nil, Nat.zero_add, Nat.mul_one, Nat.add_zero] at g0))
              have hr := Lib.hid (step_gen (F := GuaF) (fun h h1 h2 => h.keepI h1 h2) hx hlen.out hsz5 ⟨hb1.os, hb1.tape, hb1.output, hb1.size, hb1.block⟩ (w4 := setRow w1 (G) k [.slice A5 x.length cap5]) (fun i hi => setRow_other hi _ _ _) (setRow_size _ _ _) hE.out (c0 := [.slice A5 x.length cap5]) ⟨_, rfl, ⟨A5, cap5, rfl, hr1⟩, hr2⟩)
              have hP := hF3.out.put [.slice A5 x.length cap5] rfl
              rw [hlen.out, show k * List.length [Value.slice none 0 0] = k from Nat.mul_one k] at hP
              have hP := Lib.hid hP
              have hKn := Lib.hid ((hK0.out.of_block (hB1.block (w.heap.size + 3) (by omega))).of_block (w' := setRow w1 (G) k [.slice A5 x.length cap5]) (setRow_other (by omega) _ _ _))
              have hPn := Lib.hid ((hP0.out.of_block (hB1.block (w.heap.size + 4) (by omega))).of_block (w' := setRow w1 (G) k [.slice A5 x.length cap5]) (setRow_other (by omega) _ _ _))
              have hTz := Lib.hid (tabs_keep hT0.out (hB1) (fun i hi => setRow_other hi [.slice A5 x.length cap5] k w1))
              have hbz := Lib.hid (setRow_below (B := w.heap.size + 3) (b := G) (by omega) [.slice A5 x.length cap5] k W4 w1 (hbw.out.trans (hB1.mono (by omega))))
              clear g0 z0 hF3 hF2 hr1 hr2 hb1 hB1 hK c1 e0 q2 m2
              go_wp2_with fail
              go_roundw
              case rel => exact ⟨k + 1, _, by omega, by go_num, by simp [hlen.out], hKn, hPn, hP, hr, hTz, hbz⟩
              case measure => simp [intOf]; omega
            · have hkl : k = n.guards.length := by omega
              subst hkl
              have hF2 := hF0.out
              rw [show n.guards.length + 1 - n.guards.length = 0 + 1 by omega] at hF2
              obtain ⟨Wa, hWa⟩ : ∃ Wa, wq.alloc (.cells #[.string mark1] 9 (0, 0)) = Wa := ⟨_, rfl⟩
              have ba : Below wq.heap.size wq Wa := hWa ▸ (Below.refl _ wq).alloc (Nat.le_refl _) _
              have za : Wa.heap.size = wq.heap.size + 1 := by rw [← hWa]; simp
              have hAm : Wa.heap[wq.heap.size]? = some (.cells #[.string mark1] 9 (0, 0)) := hWa ▸ heap_alloc_new wq _
              obtain ⟨Wb, hWb⟩ : ∃ Wb, Wa.alloc (.cells #[.bool false, .slice (some ⟨wq.heap.size, 0, none⟩) 1 1] 56 (0, 0)) = Wb := ⟨_, rfl⟩
              have bb : Below Wa.heap.size Wa Wb := hWb ▸ (Below.refl _ Wa).alloc (Nat.le_refl _) _
              have zb : Wb.heap.size = wq.heap.size + 2 := by rw [← hWb]; simp [za]
              have hBm : Wb.heap[wq.heap.size + 1]? = some (.cells #[.bool false, .slice (some ⟨wq.heap.size, 0, none⟩) 1 1] 56 (0, 0)) := by
                rw [← hWb, ← za]; exact heap_alloc_new Wa _
              have hAm := (bb.block wq.heap.size (by omega)).trans hAm
              have bab : Below wq.heap.size wq Wb := ba.trans (bb.mono (by omega))
              have hFa := hF2.of_block (bab.block G (by omega))
              have hKa := hK0.out.of_block (bab.block (w.heap.size + 3) (by omega))
              have hPa := hP0.out.of_block (bab.block (w.heap.size + 4) (by omega))
              have g0 := hFa.zel (j := 0) rfl
              have z0 := hFa.free n.guards.length
              rw [hlen.out] at g0
              simp only [List.length_cons, List.length_nil, Nat.zero_add, Nat.mul_one, Nat.add_zero] at g0
              have hPt := hFa.put [.slice (some ⟨wq.heap.size + 1, 0, none⟩) 1 1] rfl
              rw [hlen.out, show n.guards.length * List.length [Value.slice none 0 0] = n.guards.length from Nat.mul_one _] at hPt
              have m2a := hKa.c3
              have mf2a := hKa.free 3
              have q2a := (bab.cell (p := ⟨w.heap.size, 3, none⟩) (show w.heap.size < _ by omega)).trans q2
              have hoth : ∀ i, i ≠ G → i ≠ w.heap.size + 3 → ((setRow Wb G n.guards.length [.slice (some ⟨wq.heap.size + 1, 0, none⟩) 1 1]).setCell ⟨w.heap.size + 3, 3, none⟩ (.slice (some ⟨G, 0, none⟩) n.guards.length (n.guards.length + 1))).heap[i]? = Wb.heap[i]? := fun i h1 h2 =>
                (Below.heap_setCell _ _ _ _ (show i ≠ w.heap.size + 3 from h2)).trans (setRow_other h1 _ _ _)
              have hKn0 := Lib.hid ((hKa.of_block (w' := setRow Wb G n.guards.length [.slice (some ⟨wq.heap.size + 1, 0, none⟩) 1 1]) (setRow_other (by omega) _ _ _)).set3 (.slice (some ⟨G, 0, none⟩) n.guards.length (n.guards.length + 1)))
              have hPn0 := Lib.hid (hPa.of_block (hoth (w.heap.size + 4) (by omega) (by omega)))
              have hPt0 := hPt.of_block (w' := (setRow Wb G n.guards.length [.slice (some ⟨wq.heap.size + 1, 0, none⟩) 1 1]).setCell ⟨w.heap.size + 3, 3, none⟩ (.slice (some ⟨G, 0, none⟩) n.guards.length (n.guards.length + 1))) (Below.heap_setCell _ _ _ _ (by show G ≠ w.heap.size + 3; omega))
              have hsn0 : ((setRow Wb G n.guards.length [.slice (some ⟨wq.heap.size + 1, 0, none⟩) 1 1]).setCell ⟨w.heap.size + 3, 3, none⟩ (.slice (some ⟨G, 0, none⟩) n.guards.length (n.guards.length + 1))).heap.size = wq.heap.size + 2 := by
                rw [← zb, ← setRow_size (b := G) [.slice (some ⟨wq.heap.size + 1, 0, none⟩) 1 1] n.guards.length Wb]; simp [World.setCell]
              have hbn0 := Lib.hid (Below.setCell (setRow_below (B := w.heap.size + 3) (b := G) (by omega) [.slice (some ⟨wq.heap.size + 1, 0, none⟩) 1 1] n.guards.length W4 Wb (hbw.out.trans (bab.mono (by omega)))) (p := ⟨w.heap.size + 3, 3, none⟩) (Nat.le_refl _) (.slice (some ⟨G, 0, none⟩) n.guards.length (n.guards.length + 1)))
              have hTn0 := Lib.hid (hT0.out.keepI (w' := dead ((setRow Wb G n.guards.length [.slice (some ⟨wq.heap.size + 1, 0, none⟩) 1 1]).setCell ⟨w.heap.size + 3, 3, none⟩ (.slice (some ⟨G, 0, none⟩) n.guards.length (n.guards.length + 1))) (w.heap.size + 5)) (Nat.le_refl _) (fun b o u hb h => by
                obtain ⟨p1, p2⟩ := dead_cell.1 h
                exact dead_cell.2 ⟨p1, (World.cell?_of_block (w := wq) (a := ⟨b, o, none⟩) ((hoth b (by omega) (by omega)).trans (bab.block b (by omega)))).trans p2⟩))
              have hGn0 := Lib.hid (guas_fin hlen.out sg hPt0 hE.out (fun i h1 h2 => (hoth i (by omega) (by omega)).trans (bab.block i h1)) (by rw [hsn0]; omega)
                (one_row (c := [.bool false, .slice (some ⟨wq.heap.size, 0, none⟩) 1 1]) (by rw [hsn0]; omega) ((dead_block _ _ _ (by omega)).trans ((hoth (wq.heap.size + 1) (by omega) (by omega)).trans hBm))
                  ⟨_, rfl, one_text (by decide) (by rw [hsn0]; omega) (dead_cell.2 ⟨by omega, (World.cell?_of_block (w := Wb) (a := ⟨wq.heap.size, 0, none⟩) (hoth wq.heap.size (by omega) (by omega))).trans (by simpa using cell_of_row Wb wq.heap.size 0 _ _ (0, 0) hAm)⟩)⟩))
              have hsn0 := Lib.hid hsn0
              clear hoth hPt hPt0 hFa hKa hPa hBm hAm hF2 ba bb bab
              unfold mark1 at hWa
              go_upto_region 23 with fail
              generalize hWn : World.setCell _ ⟨w.heap.size + 3, 3, none⟩ _ = Wn
              have hKn : KAt Wn (w.heap.size + 3) n.bits (.slice (some ⟨w.heap.size + 4, 0, none⟩) n.ports.length (n.ports.length + 1)) (.slice (some ⟨w.heap.size + 5, 0, none⟩) n.tables.length (n.tables.length + 1)) (.slice (some ⟨G, 0, none⟩) n.guards.length (n.guards.length + 1)) := by rw [← hWn]; exact hKn0.out
              have hPn := Lib.hid (show RowF Wn (w.heap.size + 4) 46 zP (n.ports.map portV ++ [portV markP]) 0 by rw [← hWn]; exact hPn0.out)
              have hbn := Lib.hid (show Below (w.heap.size + 3) W4 Wn by rw [← hWn]; exact hbn0.out)
              have hsn := show Wn.heap.size = wq.heap.size + 2 by rw [← hWn]; exact hsn0.out
              have hTn := Lib.hid (show TabsFin (dead Wn (w.heap.size + 5)) G (.slice (some ⟨w.heap.size + 5, 0, none⟩) n.tables.length (n.tables.length + 1)) n.tables by rw [← hWn]; exact hTn0.out)
              have hGn := Lib.hid (show GuasFin (dead Wn G) Wn.heap.size (.slice (some ⟨G, 0, none⟩) n.guards.length (n.guards.length + 1)) n.guards by rw [← hWn]; exact hGn0.out)
              clear hWn hKn0 hPn0 hbn0 hsn0 hTn0 hGn0 g0 z0 m2a mf2a q2a hWa hWb za zb q2 m2
              -- region 23 by hand
              have hG6 : w.heap.size + 6 ≤ G := by omega
              have hGW : G < Wn.heap.size := by omega
              have hnm := Lib.hid (show ∀ x ∈ n.ports, x.name.size ≤ 140737488355328 from fun x hx => by
                obtain ⟨i, hi⟩ := List.mem_iff_getElem?.1 hx
                obtain ⟨_, _, _, c', x', _, _, hx', ⟨_, hs⟩, _, _⟩ := SlOf.at_ hp4.out (List.getElem?_eq_some_iff.1 hi).1
                rw [hi] at hx'
                rw [Option.some.inj hx']; exact hs)
              have hKB : Hid (∀ W, Below Wn.heap.size Wn W → W.cell? ⟨w.heap.size + 3, 0, none⟩ = some (.int .i64 n.bits) ∧ W.cell? ⟨w.heap.size + 3, 1, none⟩ = some (.slice (some ⟨w.heap.size + 4, 0, none⟩) n.ports.length (n.ports.length + 1)) ∧ W.cell? ⟨w.heap.size + 3, 2, none⟩ = some (.slice (some ⟨w.heap.size + 5, 0, none⟩) n.tables.length (n.tables.length + 1)) ∧ W.cell? ⟨w.heap.size + 3, 3, none⟩ = some (.slice (some ⟨G, 0, none⟩) n.guards.length (n.guards.length + 1))) :=
                Lib.hid fun W h => ⟨(h.cell (p := ⟨w.heap.size + 3, 0, none⟩) (show w.heap.size + 3 < _ by omega)).trans hKn.c0, (h.cell (p := ⟨w.heap.size + 3, 1, none⟩) (show w.heap.size + 3 < _ by omega)).trans hKn.c1, (h.cell (p := ⟨w.heap.size + 3, 2, none⟩) (show w.heap.size + 3 < _ by omega)).trans hKn.c2, (h.cell (p := ⟨w.heap.size + 3, 3, none⟩) (show w.heap.size + 3 < _ by omega)).trans hKn.c3⟩
              have hkept := Lib.hid (roomy_kept sp hnm.out hG6 hGW hPn.out hTn.out hGn.out)
              have ch : Hid (∀ W, Below Wn.heap.size Wn W → Calls Tryz.prog 17 #[.agg #[.int .i64 n.bits, .slice (some ⟨w.heap.size + 4, 0, none⟩) n.ports.length (n.ports.length + 1), .slice (some ⟨w.heap.size + 5, 0, none⟩) n.tables.length (n.tables.length + 1), .slice (some ⟨G, 0, none⟩) n.guards.length (n.guards.length + 1)]] W fun e w' => ∃ u, e = .returned u ∧ KeptAt (dead w' (w.heap.size + 4)) w'.heap.size u n ∧ Below W.heap.size W w') :=
                Lib.hid fun W h => held_dead n _ Wn.heap.size (w.heap.size + 4) W (hkept.out.keepI (Nat.le_refl _) (deadI (Nat.le_refl _) h (Nat.le_refl _))) h.size (by have := h.size; omega) hsm'.out
              have r1n : Hid (KAt Wn (w.heap.size + 1) 0 (.slice none 0 0) (.slice none 0 0) (.slice none 0 0)) := Lib.hid ((hbn.out.block (w.heap.size + 1) (by omega)).trans hR1.out)
              have r2n : Hid (KAt Wn (w.heap.size + 2) 0 (.slice none 0 0) (.slice none 0 0) (.slice none 0 0)) := Lib.hid ((hbn.out.block (w.heap.size + 2) (by omega)).trans hR2.out)
              have hlt1 : w.heap.size + 1 < Wn.heap.size := by omega
              have hlt2 : w.heap.size + 2 < Wn.heap.size := by omega
              have hlt3 : w.heap.size + 3 < Wn.heap.size := by omega
              clear hkept hK0 hP0 hF0 hE hT0 hbw hlen hsz hlt
              refine wp_region_held_drew (S := fun W => W.cell? ⟨w.heap.size + 3, 0, none⟩ = some (.int .i64 n.bits) ∧ W.cell? ⟨w.heap.size + 3, 1, none⟩ = some (.slice (some ⟨w.heap.size + 4, 0, none⟩) n.ports.length (n.ports.length + 1)) ∧ W.cell? ⟨w.heap.size + 3, 2, none⟩ = some (.slice (some ⟨w.heap.size + 5, 0, none⟩) n.tables.length (n.tables.length + 1)) ∧ W.cell? ⟨w.heap.size + 3, 3, none⟩ = some (.slice (some ⟨G, 0, none⟩) n.guards.length (n.guards.length + 1))) (by kernel_rfl) (by exact hKB.out _ ((Below.refl _ _).drew)) (fun hHeld => ?_)
              refine' wpAnyH_take (i := 0) (oi := _) (v := _) ?a0A ?b0A ?c0A ?d0A ?e0A (Or.inl ⟨?f0A, ?g0A⟩) hHeld ?h0A
              case a0A => (simp only [List.getElem?_toArray, List.getElem?_cons_zero]; exact rfl)
              case b0A => kernel_rfl
              case c0A => kernel_rfl
              case d0A => kernel_rfl
              case e0A => exact fun _ _ _ h => h
              case f0A => rfl
              case g0A => (intro w' hSw; obtain ⟨s0, s1, s2, s3⟩ := hSw; go_simp; (try with_reducible rfl))
              simp only [Act.put, List.setIfInBounds_toArray, List.set_cons_zero, List.set_cons_succ]
              refine' wpAnyH_take (i := 1) (oi := _) (v := _) ?a1A ?b1A ?c1A ?d1A ?e1A (Or.inl ⟨?f1A, ?g1A⟩) hHeld ?h1A
              case a1A => (simp only [List.getElem?_toArray, List.getElem?_cons_succ, List.getElem?_cons_zero]; exact rfl)
              case b1A => kernel_rfl
              case c1A => kernel_rfl
              case d1A => kernel_rfl
              case e1A => exact fun _ _ _ h => h
              case f1A => rfl
              case g1A => (intro w' hSw; obtain ⟨s0, s1, s2, s3⟩ := hSw; go_simp; (try with_reducible rfl))
              simp only [Act.put, List.setIfInBounds_toArray, List.set_cons_zero, List.set_cons_succ]
              refine wpAnyH_ready (rs := [2]) (by kernel_rfl) (by simp) ?_
              refine' AllReadyH.cons (o := _) ?p2B (fun K hK => ?q2B) ?r2B
              case p2B => (simp only [List.getElem?_toArray, List.getElem?_cons_succ, List.getElem?_cons_zero]; exact rfl)
              case r2B => exact AllReadyH.nil
              go_simp
              go_at_call 17
              refine (ch.out _ ((Below.refl _ _).drew)).mono ?_
              rintro e w1 ⟨u, rfl, hk, hb1⟩
              go_wp2_with fail
              have hk := Lib.hid hk
              obtain ⟨_, _, _, rfl, hk1, hk2, hk3⟩ := hk.out
              obtain ⟨X1, u1, rfl, _, _⟩ := SlOf.form hk1
              obtain ⟨X2, u2, rfl, _, _⟩ := SlOf.form hk2
              obtain ⟨X3, u3, rfl, _, _⟩ := SlOf.form hk3
              clear hk1 hk2 hk3
              have hB1 : Below Wn.heap.size Wn w1 := ((Below.refl _ _).drew).trans hb1
              have x1 := r1n.out.of_block (hB1.block _ hlt1)
              have x2 := r2n.out.of_block (hB1.block _ hlt2)
              have hSx : Hid (∀ (W : World), W.heap[w.heap.size + 3]? = w1.heap[w.heap.size + 3]? → W.cell? ⟨w.heap.size + 3, 0, none⟩ = some (.int .i64 n.bits) ∧ W.cell? ⟨w.heap.size + 3, 1, none⟩ = some (.slice (some ⟨w.heap.size + 4, 0, none⟩) n.ports.length (n.ports.length + 1)) ∧ W.cell? ⟨w.heap.size + 3, 2, none⟩ = some (.slice (some ⟨w.heap.size + 5, 0, none⟩) n.tables.length (n.tables.length + 1)) ∧ W.cell? ⟨w.heap.size + 3, 3, none⟩ = some (.slice (some ⟨G, 0, none⟩) n.guards.length (n.guards.length + 1))) := Lib.hid fun W h => by
                have hS1 := hKB.out _ hB1
                exact ⟨(World.cell?_of_block (w := w1) (a := ⟨w.heap.size + 3, 0, none⟩) h).trans hS1.1, (World.cell?_of_block (w := w1) (a := ⟨w.heap.size + 3, 1, none⟩) h).trans hS1.2.1, (World.cell?_of_block (w := w1) (a := ⟨w.heap.size + 3, 2, none⟩) h).trans hS1.2.2.1, (World.cell?_of_block (w := w1) (a := ⟨w.heap.size + 3, 3, none⟩) h).trans hS1.2.2.2⟩
              clear r1n r2n hKB ch
              refine hK.out _ _ ?_ (fun hHeld => ?_)
              · exact hSx.out _ rfl
              clear hK K
              (try simp only [Act.put, List.setIfInBounds_toArray, List.set_cons_zero, List.set_cons_succ])
              refine wpAnyH_ready (rs := [3]) (by kernel_rfl) (by simp) ?_
              refine' AllReadyH.cons (o := _) ?p3C1 (fun K hK => ?q3C1) ?r3C1
              case p3C1 => (simp only [List.getElem?_toArray, List.getElem?_cons_succ, List.getElem?_cons_zero]; exact rfl)
              case r3C1 => exact AllReadyH.nil
              have x10 := x1.c0
              have x1f0 := x1.free 0
              have x11 := x1.c1
              have x1f1 := x1.free 1
              have x12 := x1.c2
              have x1f2 := x1.free 2
              have x13 := x1.c3
              have x1f3 := x1.free 3
              have hSa := hSx.out (setRow w1 (w.heap.size + 1) 0 [.int .i64 n.bits, .slice (some ⟨w.heap.size + 4, 0, none⟩) n.ports.length (n.ports.length + 1), .slice (some ⟨w.heap.size + 5, 0, none⟩) n.tables.length (n.tables.length + 1), .slice (some ⟨G, 0, none⟩) n.guards.length (n.guards.length + 1)]) (setRow_other (by omega) _ _ _)
              have y2 : KAt (setRow w1 (w.heap.size + 1) 0 [.int .i64 n.bits, .slice (some ⟨w.heap.size + 4, 0, none⟩) n.ports.length (n.ports.length + 1), .slice (some ⟨w.heap.size + 5, 0, none⟩) n.tables.length (n.tables.length + 1), .slice (some ⟨G, 0, none⟩) n.guards.length (n.guards.length + 1)]) (w.heap.size + 2) 0 (.slice none 0 0) (.slice none 0 0) (.slice none 0 0) := x2.of_block (setRow_other (by omega) _ _ _)
              have hSb := hSx.out (setRow (setRow w1 (w.heap.size + 1) 0 [.int .i64 n.bits, .slice (some ⟨w.heap.size + 4, 0, none⟩) n.ports.length (n.ports.length + 1), .slice (some ⟨w.heap.size + 5, 0, none⟩) n.tables.length (n.tables.length + 1), .slice (some ⟨G, 0, none⟩) n.guards.length (n.guards.length + 1)]) (w.heap.size + 2) 0 [.int .i64 n.bits, .slice X1 n.ports.length u1, .slice X2 n.tables.length u2, .slice X3 n.guards.length u3]) ((setRow_other (by omega) _ _ _).trans (setRow_other (by omega) _ _ _))
              obtain ⟨Wa, hWa⟩ : ∃ Wa, setRow w1 (w.heap.size + 1) 0 [.int .i64 n.bits, .slice (some ⟨w.heap.size + 4, 0, none⟩) n.ports.length (n.ports.length + 1), .slice (some ⟨w.heap.size + 5, 0, none⟩) n.tables.length (n.tables.length + 1), .slice (some ⟨G, 0, none⟩) n.guards.length (n.guards.length + 1)] = Wa := ⟨_, rfl⟩
              go_simp
              generalize hWa2 : World.setCell _ ⟨w.heap.size + 1, 3, none⟩ _ = Wb
              obtain rfl : Wb = Wa := hWa2.symm.trans hWa
              clear hWa2
              rw [hWa] at hSa y2 hSb
              refine hK.out _ _ ?_ (fun hHeld => ?_)
              · exact hSa
              clear hK K
              (try simp only [Act.put, List.setIfInBounds_toArray, List.set_cons_zero, List.set_cons_succ])
              clear x10 x1f0 x11 x1f1 x12 x1f2 x13 x1f3
              refine wpAnyH_ready (rs := [4]) (by kernel_rfl) (by simp) ?_
              refine' AllReadyH.cons (o := _) ?p4C2 (fun K hK => ?q4C2) ?r4C2
              case p4C2 => (simp only [List.getElem?_toArray, List.getElem?_cons_succ, List.getElem?_cons_zero]; exact rfl)
              case r4C2 => exact AllReadyH.nil
              have y20 := y2.c0
              have y2f0 := y2.free 0
              have y21 := y2.c1
              have y2f1 := y2.free 1
              have y22 := y2.c2
              have y2f2 := y2.free 2
              have y23 := y2.c3
              have y2f3 := y2.free 3
              go_simp
              refine hK.out _ _ ?_ (fun hHeld => ?_)
              · exact hSb
              clear hK K
              (try simp only [Act.put, List.setIfInBounds_toArray, List.set_cons_zero, List.set_cons_succ])
              clear y20 y2f0 y21 y2f1 y22 y2f2 y23 y2f3
              refine wpAnyH_done (by kernel_rfl) ?_ _
              generalize hWc : World.setCell _ ⟨w.heap.size + 2, 3, none⟩ _ = Wf
              have hWc : setRow Wb (w.heap.size + 2) 0 [.int .i64 n.bits, .slice X1 n.ports.length u1, .slice X2 n.tables.length u2, .slice X3 n.guards.length u3] = Wf := hWc
              have hoth : ∀ i, i ≠ w.heap.size + 1 → i ≠ w.heap.size + 2 → Wf.heap[i]? = w1.heap[i]? := fun i h1 h2 => by
                rw [← hWc, ← hWa]; exact (setRow_other (by omega) _ _ _).trans (setRow_other (by omega) _ _ _)
              have hzf : Wf.heap.size = w1.heap.size := by rw [← hWc, ← hWa, setRow_size, setRow_size]
              have k2 : KAt Wf (w.heap.size + 2) n.bits _ _ _ := hWc ▸ y2.setAll
              have k1 : KAt Wf (w.heap.size + 1) n.bits _ _ _ := (show KAt Wb (w.heap.size + 1) n.bits _ _ _ from hWa ▸ x1.setAll).of_block (hWc ▸ setRow_other (by omega) _ _ _)
              have hbf : Below w.heap.size w Wf := by
                rw [← hWc, ← hWa]
                exact setRow_below (by omega) _ _ _ _ (setRow_below (by omega) _ _ _ _ ((hb0.out.trans (hbn.out.mono (by omega))).trans (hB1.mono (by omega))))
              have hfin := Lib.hid (roomy_given (Wf := Wf) sp hnm.out hG6 hGW (by rw [hzf]; exact hB1.size) (fun i h1 h2 => (hoth i (by omega) (by omega)).trans (hB1.block i h1)) hPn.out hTn.out hGn.out)
              have hkf : Hid (KeptAt Wf Wf.heap.size (.agg #[.int .i64 n.bits, .slice X1 n.ports.length u1, .slice X2 n.tables.length u2, .slice X3 n.guards.length u3]) n) := Lib.hid (hk.out.keepI (Nat.le_of_eq hzf.symm) fun b o u hb h => by
                obtain ⟨p1, p2⟩ := dead_cell.1 h
                exact (World.cell?_of_block (w := w1) (a := ⟨b, o, none⟩) (hoth b (by omega) (by omega))).trans p2)
              have hbf := Lib.hid hbf
              clear hoth y2 hWa hWc hSa hSb hHeld hSx hB1 hb1 hk
              have c0 := k1.c0
              have c1 := k1.c1
              have c2 := k1.c2
              have c3 := k1.c3
              have d0 := k2.c0
              have d1 := k2.c1
              have d2 := k2.c2
              have d3 := k2.c3
              go_wp2_with fail
              refine bodyPost_ret (v := .tuple #[.agg #[.int .i64 n.bits, .slice (some ⟨w.heap.size + 4, 0, none⟩) n.ports.length (n.ports.length + 1), .slice (some ⟨w.heap.size + 5, 0, none⟩) n.tables.length (n.tables.length + 1), .slice (some ⟨G, 0, none⟩) n.guards.length (n.guards.length + 1)], .agg #[.int .i64 n.bits, .slice X1 n.ports.length u1, .slice X2 n.tables.length u2, .slice X3 n.guards.length u3]]) (by simp [results, Tryz.results6, go_sem, c0, c1, c2, c3, d0, d1, d2, d3]) rfl ?_
              exact ⟨_, _, rfl, hfin.out, hkf.out, hbf.out⟩
end Go.Proofs.YtjokciofeicdkaaGreatDoor
