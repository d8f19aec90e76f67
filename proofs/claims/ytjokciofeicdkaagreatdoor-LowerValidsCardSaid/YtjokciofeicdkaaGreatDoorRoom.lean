/- Rows that a call makes and fills element by element; lists with marked room behind their ends. -/
import Derived.Test.YtjokciofeicdkaaGreatDoorNet
import Derived.Deep.OwnRows
namespace Go.Proofs.YtjokciofeicdkaaGreatDoor
open Go.RowKit

/-- Block b is a row whose cells are cs. -/
def RowAt (w : World) (b : Nat) (t : TypeId) (cs : List Value) : Prop := w.heap[b]? = some (.cells cs.toArray t (0, 0))
section
variable {w w' : World} {b : Nat} {t : TypeId} {cs : List Value}
theorem RowAt.lt (h : RowAt w b t cs) : b < w.heap.size := (Array.getElem?_eq_some_iff.1 h).1
theorem RowAt.cell (h : RowAt w b t cs) {j : Nat} {u : Value} (hu : cs[j]? = some u) : w.cell? ⟨b, j, none⟩ = some u := by
  rw [cell_of_row w b j _ _ (0, 0) h]; simpa using hu
theorem RowAt.free (h : RowAt w b t cs) (j : Nat) : w.frozen? ⟨b, j, none⟩ = false := by unfold RowAt at h; simp [World.frozen?, h]
theorem RowAt.set (h : RowAt w b t cs) (j : Nat) (u : Value) : RowAt (w.setCell ⟨b, j, none⟩ u) b t (cs.set j u) := by
  unfold RowAt at h ⊢
  simp [World.setCell, Array.getElem?_modify, h]
theorem RowAt.of_block (h : RowAt w b t cs) (hb : w'.heap[b]? = w.heap[b]?) : RowAt w' b t cs := hb.trans h
theorem RowAt.below {B : Nat} (h : RowAt w b t cs) (hb : Below B w w') (hlt : b < B) : RowAt w' b t cs := h.of_block (hb.block b hlt)
end

theorem flat_rep_at (zs : List Value) (hz : 0 < zs.length) : ∀ (n j : Nat), (List.replicate n zs).flatten[j]? = if j < n * zs.length then zs[j % zs.length]? else none
  | 0, j => by simp
  | n + 1, j => by
    rw [List.replicate_succ, List.flatten_cons]
    by_cases h : j < zs.length
    · rw [List.getElem?_append_left h, if_pos (by rw [Nat.succ_mul]; omega), Nat.mod_eq_of_lt h]
    · rw [List.getElem?_append_right (by omega), flat_rep_at zs hz n (j - zs.length)]
      have hm : (j - zs.length) % zs.length = j % zs.length := by rw [← Nat.mod_eq_sub_mod (by omega)]
      rw [hm, Nat.succ_mul]
      by_cases h2 : j - zs.length < n * zs.length
      · rw [if_pos h2, if_pos (by omega)]
      · rw [if_neg h2, if_neg (by omega)]
theorem made_flat (z : Array Value) (hz : 0 < z.size) (n : Nat) : madeCells z (n * z.size) = ((List.replicate n z.toList).flatten).toArray := by
  refine Array.ext_getElem? fun j => ?_
  have e : ((List.replicate n z.toList).flatten.toArray)[j]? = (List.replicate n z.toList).flatten[j]? := by simp
  rw [e, flat_rep_at z.toList (by simpa using hz) n j]
  unfold madeCells
  rw [Array.getElem?_map, Array.getElem?_range]
  by_cases h : j < n * z.size
  · rw [if_pos (by simpa using h), if_pos (by simpa using h)]
    have hm : j % z.size < z.size := Nat.mod_lt _ hz
    simp [hm]
  · rw [if_neg (by simpa using h), if_neg (by simpa using h)]; rfl

/-- Block b is a row of elements: cs, then m zero ones. -/
structure RowF (w : World) (b : Nat) (t : TypeId) (z : List Value) (cs : List (List Value)) (m : Nat) : Prop where
  row : RowAt w b t (cs ++ List.replicate m z).flatten
  len : ∀ c ∈ cs, c.length = z.length
section
variable {w w' : World} {b : Nat} {t : TypeId} {z : List Value} {cs : List (List Value)} {m : Nat}
theorem RowF.of_block (h : RowF w b t z cs m) (hb : w'.heap[b]? = w.heap[b]?) : RowF w' b t z cs m := ⟨h.row.of_block hb, h.len⟩
theorem RowF.below {B : Nat} (h : RowF w b t z cs m) (hb : Below B w w') (hlt : b < B) : RowF w' b t z cs m := ⟨h.row.below hb hlt, h.len⟩
theorem flat_len {n : Nat} : ∀ (cs : List (List Value)), (∀ c ∈ cs, c.length = n) → cs.flatten.length = cs.length * n
  | [], _ => by simp
  | c :: cs, h => by
    rw [List.flatten_cons, List.length_append, h c (by simp), flat_len cs (fun c hc => h c (by simp [hc])), List.length_cons, Nat.succ_mul]; omega
theorem RowF.made (w : World) (t : TypeId) (z : Array Value) (hz : 0 < z.size) (n : Nat) : RowF (w.alloc (.cells (madeCells z (n * z.size)) t (0, 0))) w.heap.size t z.toList [] n :=
  ⟨by unfold RowAt; rw [heap_alloc_new, made_flat z hz n]; rfl, fun _ h => by cases h⟩
theorem RowF.el (h : RowF w b t z cs m) {i j : Nat} {c : List Value} {u : Value} (hc : cs[i]? = some c) (hu : c[j]? = some u) : w.cell? ⟨b, i * z.length + j, none⟩ = some u := by
  refine h.row.cell ?_
  rw [List.flatten_append, List.getElem?_append_left]
  · exact flatten_at z.length cs h.len i j c u hc hu
  · rw [flat_len cs h.len]
    have h1 := (List.getElem?_eq_some_iff.1 hc).1
    have h2 := (List.getElem?_eq_some_iff.1 hu).1
    rw [h.len c (List.mem_of_getElem? hc)] at h2
    have : (i + 1) * z.length ≤ cs.length * z.length := Nat.mul_le_mul_right _ h1
    rw [Nat.succ_mul] at this
    omega
/-- A zero element's cell. -/
theorem RowF.zel (h : RowF w b t z cs (m + 1)) {j : Nat} {u : Value} (hu : z[j]? = some u) : w.cell? ⟨b, cs.length * z.length + j, none⟩ = some u := by
  refine h.row.cell ?_
  rw [List.flatten_append, List.getElem?_append_right (by rw [flat_len cs h.len]; omega), flat_len cs h.len, List.replicate_succ, List.flatten_cons, List.getElem?_append_left]
  · rw [show cs.length * z.length + j - cs.length * z.length = j by omega]; exact hu
  · have := (List.getElem?_eq_some_iff.1 hu).1; omega
theorem RowF.zel2 (h : RowF w b t z cs (m + 2)) {j : Nat} {u : Value} (hu : z[j]? = some u) : w.cell? ⟨b, (cs.length + 1) * z.length + j, none⟩ = some u := by
  have h' : RowF w b t z (cs ++ [z]) (m + 1) := ⟨by
    have := h.row
    rw [List.replicate_succ] at this
    simpa using this, fun c hc => by
    rcases List.mem_append.1 hc with hc | hc
    · exact h.len c hc
    · simp at hc; rw [hc]⟩
  have := h'.zel hu
  simpa using this
theorem RowF.free (h : RowF w b t z cs m) (j : Nat) : w.frozen? ⟨b, j, none⟩ = false := h.row.free j
/-- The cells of one element are written, one after the other. -/
def setRow (w : World) (b : Nat) : Nat → List Value → World
  | _, [] => w
  | o, u :: r => setRow (w.setCell ⟨b, o, none⟩ u) b (o + 1) r
theorem setRow_at : ∀ (c : List Value) (w : World) (A y r : List Value), y.length = c.length → RowAt w b t (A ++ y ++ r) → RowAt (setRow w b A.length c) b t (A ++ c ++ r)
  | [], _, A, y, r, hy, h => by
    rw [List.length_eq_zero_iff.1 hy] at h; exact h
  | u :: c, w, A, [], r, hy, h => by simp at hy
  | u :: c, w, A, y0 :: y, r, hy, h => by
    unfold setRow
    have h1 := h.set A.length u
    have e : (A ++ y0 :: y ++ r).set A.length u = (A ++ [u]) ++ y ++ r := by simp
    rw [e] at h1
    have h2 := setRow_at c _ (A ++ [u]) y r (by simpa using hy) h1
    have e2 : (A ++ [u]).length = A.length + 1 := by simp
    rw [e2] at h2
    simpa using h2
theorem RowF.put (h : RowF w b t z cs (m + 1)) (c : List Value) (hc : c.length = z.length) : RowF (setRow w b (cs.length * z.length) c) b t z (cs ++ [c]) m := by
  refine ⟨?_, fun x hx => ?_⟩
  · have h0 := h.row
    rw [List.flatten_append, List.replicate_succ, List.flatten_cons, ← List.append_assoc] at h0
    have := setRow_at c w cs.flatten z _ hc.symm h0
    rw [flat_len cs h.len] at this
    simpa using this
  · rcases List.mem_append.1 hx with hx | hx
    · exact h.len x hx
    · simp at hx; rw [hx]; exact hc
theorem setRow_below {B : Nat} (hB : B ≤ b) : ∀ (c : List Value) (o : Nat) (a w : World), Below B a w → Below B a (setRow w b o c)
  | [], _, _, _, h => h
  | u :: c, o, a, _, h => setRow_below hB c (o + 1) a _ (h.setCell hB u)
theorem setRow_size : ∀ (c : List Value) (o : Nat) (w : World), (setRow w b o c).heap.size = w.heap.size
  | [], _, _ => rfl
  | _ :: c, o, _ => by unfold setRow; rw [setRow_size c]; simp [World.setCell]
theorem setRow_other {k : Nat} (hk : k ≠ b) : ∀ (c : List Value) (o : Nat) (w : World), (setRow w b o c).heap[k]? = w.heap[k]?
  | [], _, _ => rfl
  | u :: c, o, w => by unfold setRow; rw [setRow_other hk c]; exact Below.heap_setCell w ⟨b, o, none⟩ u k hk

/-- A filled row reads as a list. -/
theorem RowF.slOf {α : Type} {R : World → Nat → List Value → α → Prop} {B : Nat} {l : List α} (h : RowF w b t z cs m) (hl : cs.length = l.length) (hb : b < B) {cap : Nat} (hcap : l.length ≤ cap) (hcap2 : cap ≤ 140737488355328)
    (hR : ∀ (i : Nat) (c : List Value) (x : α), cs[i]? = some c → l[i]? = some x → R w B c x) : SlOf z.length R w B (.slice (some ⟨b, 0, none⟩) l.length cap) l := by
  refine ⟨cs, hl, h.len, ⟨some ⟨b, 0, none⟩, cap, rfl, hcap, ⟨by omega, by omega⟩, by rw [flat_len cs h.len, hl], fun _ => ⟨b, 0, rfl, hb, fun j u hu => ?_⟩⟩, hR⟩
  rw [Nat.zero_add]
  refine h.row.cell ?_
  rw [List.flatten_append, List.getElem?_append_left (List.getElem?_eq_some_iff.1 hu).1]
  exact hu
end

/-- A list with more elements behind its end. -/
def Room {α : Type} (size : Nat) (R : World → Nat → List Value → α → Prop) (w : World) (B : Nat) (v : Value) (l extra : List α) : Prop :=
  ∃ A cap, v = .slice A l.length cap ∧ SlOf size R w B (.slice A (l ++ extra).length cap) (l ++ extra)
theorem Room.slOf {α : Type} {size : Nat} {R : World → Nat → List Value → α → Prop} {w : World} {B : Nat} {v : Value} {l extra : List α} (h : Room size R w B v l extra) : SlOf size R w B v l := by
  obtain ⟨A, cap, rfl, cs, h1, h2, ⟨A', cap', hv, h3, h4, h5, h6⟩, h7⟩ := h
  injection hv with hA hn hc
  subst hA hc
  rw [List.length_append] at h1 h3
  have hlt : (cs.take l.length).length = l.length := by rw [List.length_take]; omega
  refine ⟨cs.take l.length, hlt, fun c hc => h2 c (List.mem_of_mem_take hc), ⟨A, cap, rfl, by omega, ⟨h4.1, by have := h4.2; rw [List.length_append] at this; omega⟩, ?_, fun hl => ?_⟩, fun i c x hc hx => ?_⟩
  · rw [flat_len (n := size) _ (fun c hc => h2 c (List.mem_of_mem_take hc)), hlt]
  · obtain ⟨b, off, hA, hb, hc⟩ := h6 (by rw [List.length_append]; omega)
    refine ⟨b, off, hA, hb, fun j u hu => hc j u ?_⟩
    have : cs.flatten = (cs.take l.length).flatten ++ (cs.drop l.length).flatten := by rw [← List.flatten_append, List.take_append_drop]
    rw [this, List.getElem?_append_left (List.getElem?_eq_some_iff.1 hu).1]
    exact hu
  · have hi := (List.getElem?_eq_some_iff.1 hx).1
    rw [List.getElem?_take_of_lt hi] at hc
    exact h7 i c x hc (by rw [List.getElem?_append_left hi]; exact hx)
theorem Room.keep {α : Type} {size : Nat} {R : World → Nat → List Value → α → Prop} {w w' : World} {B B' : Nat} {v : Value} {l extra : List α} (h : Room size R w B v l extra) (hB : B ≤ B')
    (hk : ∀ b o, b < B → w'.cell? ⟨b, o, none⟩ = w.cell? ⟨b, o, none⟩) (hR : ∀ c x, R w B c x → R w' B' c x) : Room size R w' B' v l extra := by
  obtain ⟨A, cap, hv, hs⟩ := h
  exact ⟨A, cap, hv, hs.keep hB hk hR⟩
/-- A row filled with a list and its marks, sliced to the list. -/
theorem RowF.room {α : Type} {R : World → Nat → List Value → α → Prop} {w : World} {b B : Nat} {t : TypeId} {z : List Value} {cs : List (List Value)} {l extra : List α} (h : RowF w b t z cs 0) (hl : cs.length = (l ++ extra).length) (hb : b < B) {cap : Nat} (hcap : (l ++ extra).length ≤ cap) (hcap2 : cap ≤ 140737488355328)
    (hR : ∀ (i : Nat) (c : List Value) (x : α), cs[i]? = some c → (l ++ extra)[i]? = some x → R w B c x) : Room z.length R w B (.slice (some ⟨b, 0, none⟩) l.length cap) l extra :=
  ⟨_, _, rfl, h.slOf hl hb hcap hcap2 hR⟩
/-- The world in which the blocks below L hold nothing: what reads there lies in blocks from L on. -/
def dead (w : World) (L : Nat) : World := { w with heap := w.heap.mapIdx fun i o => if i < L then .cells #[] 0 (0, 0) else o }
theorem dead_block (w : World) (L b : Nat) (h : L ≤ b) : (dead w L).heap[b]? = w.heap[b]? := by
  unfold dead
  rw [Array.getElem?_mapIdx]
  cases w.heap[b]? with
  | none => rfl
  | some o => simp [show ¬ b < L by omega]
theorem dead_cell {w : World} {L b o : Nat} {u : Value} : (dead w L).cell? ⟨b, o, none⟩ = some u ↔ L ≤ b ∧ w.cell? ⟨b, o, none⟩ = some u := by
  by_cases h : L ≤ b
  · have e : (dead w L).cell? ⟨b, o, none⟩ = w.cell? ⟨b, o, none⟩ := World.cell?_of_block (w := w) (a := ⟨b, o, none⟩) (dead_block w L b h)
    rw [e]; simp [h]
  · constructor
    · intro hc
      exfalso
      have hb : (dead w L).heap[b]? = (w.heap[b]?).map fun _ => Obj.cells #[] 0 (0, 0) := by
        unfold dead
        rw [Array.getElem?_mapIdx]
        cases w.heap[b]? with
        | none => rfl
        | some o => simp [show b < L by omega]
      cases hw : w.heap[b]? with
      | none => rw [hw] at hb; simp [World.cell?, hb] at hc
      | some ob =>
        rw [hw] at hb
        have := cell_of_row (dead w L) b o #[] 0 (0, 0) (by rw [hb]; rfl)
        rw [this] at hc; simp at hc
    · rintro ⟨h1, _⟩; exact absurd h1 h
theorem dead_size (w : World) (L : Nat) : (dead w L).heap.size = w.heap.size := by simp [dead]

section
variable {w w' : World} {B B' : Nat}
theorem Sl.keepI {size n : Nat} {v : Value} {xs : List Value} (h : Sl w B size v n xs) (hB : B ≤ B') (hk : ∀ b o u, b < B → w.cell? ⟨b, o, none⟩ = some u → w'.cell? ⟨b, o, none⟩ = some u) : Sl w' B' size v n xs := by
  obtain ⟨A, cap, hv, h1, h2, h3, h4⟩ := h
  refine ⟨A, cap, hv, h1, h2, h3, fun hn => ?_⟩
  obtain ⟨b, off, hA, hb, hc⟩ := h4 hn
  exact ⟨b, off, hA, by omega, fun j u hu => hk _ _ _ hb (hc j u hu)⟩
theorem SlOf.keepI {α : Type} {size : Nat} {R R' : World → Nat → List Value → α → Prop} {v : Value} {l : List α} (h : SlOf size R w B v l) (hB : B ≤ B') (hk : ∀ b o u, b < B → w.cell? ⟨b, o, none⟩ = some u → w'.cell? ⟨b, o, none⟩ = some u)
    (hR : ∀ c x, R w B c x → R' w' B' c x) : SlOf size R' w' B' v l := by
  obtain ⟨cs, hl, hs, hS, hR'⟩ := h
  exact ⟨cs, hl, hs, hS.keepI hB hk, fun i c x h1 h2 => hR _ _ (hR' i c x h1 h2)⟩
theorem Room.keepI {α : Type} {size : Nat} {R R' : World → Nat → List Value → α → Prop} {v : Value} {l extra : List α} (h : Room size R w B v l extra) (hB : B ≤ B') (hk : ∀ b o u, b < B → w.cell? ⟨b, o, none⟩ = some u → w'.cell? ⟨b, o, none⟩ = some u)
    (hR : ∀ c x, R w B c x → R' w' B' c x) : Room size R' w' B' v l extra := by
  obtain ⟨A, cap, hv, hs⟩ := h
  exact ⟨A, cap, hv, hs.keepI hB hk hR⟩
/-- What reads above L goes on to read above it (or above a lower bound) while the blocks below N stay. -/
theorem deadI {L L' N : Nat} (hL : L' ≤ L) (hb : Below N w w') (hN : B ≤ N) : ∀ b o u, b < B → (dead w L).cell? ⟨b, o, none⟩ = some u → (dead w' L').cell? ⟨b, o, none⟩ = some u := fun b o u hlt hc => by
  obtain ⟨h1, h2⟩ := dead_cell.1 hc
  exact dead_cell.2 ⟨by omega, (hb.cell (p := ⟨b, o, none⟩) (show b < N by omega)).trans h2⟩
/-- .. while one block below L is written. -/
theorem deadSet {L g : Nat} (hg : g < L) (hb : ∀ k, k ≠ g → w'.heap[k]? = w.heap[k]?) : ∀ b o u, b < B → (dead w L).cell? ⟨b, o, none⟩ = some u → (dead w' L).cell? ⟨b, o, none⟩ = some u := fun b o u _ hc => by
  obtain ⟨h1, h2⟩ := dead_cell.1 hc
  exact dead_cell.2 ⟨h1, (World.cell?_of_block (w := w) (a := ⟨b, o, none⟩) (hb b (by omega))).trans h2⟩
theorem deadOut {L : Nat} : ∀ b o u, b < B → (dead w L).cell? ⟨b, o, none⟩ = some u → w.cell? ⟨b, o, none⟩ = some u := fun _ _ _ _ hc => (dead_cell.1 hc).2
end
theorem RowF.dead {w : World} {b L : Nat} {t : TypeId} {z : List Value} {cs : List (List Value)} {m : Nat} (h : RowF w b t z cs m) (hL : L ≤ b) : RowF (dead w L) b t z cs m := h.of_block (dead_block w L b hL)

/-- .. a beginning of it. -/
theorem RowF.slOfPre {α : Type} {w : World} {b : Nat} {t : TypeId} {z : List Value} {cs : List (List Value)} {m : Nat} {R : World → Nat → List Value → α → Prop} {B : Nat} {l : List α} (h : RowF w b t z cs m) (hl : l.length ≤ cs.length) (hb : b < B) {cap : Nat} (hcap : l.length ≤ cap) (hcap2 : cap ≤ 140737488355328)
    (hR : ∀ (i : Nat) (c : List Value) (x : α), cs[i]? = some c → l[i]? = some x → R w B c x) : SlOf z.length R w B (.slice (some ⟨b, 0, none⟩) l.length cap) l := by
  have hlt : (cs.take l.length).length = l.length := by rw [List.length_take]; omega
  have hmem : ∀ c ∈ cs.take l.length, c.length = z.length := fun c hc => h.len c (List.mem_of_mem_take hc)
  refine ⟨cs.take l.length, hlt, hmem, ⟨some ⟨b, 0, none⟩, cap, rfl, hcap, ⟨by omega, by omega⟩, by rw [flat_len _ hmem, hlt], fun _ => ⟨b, 0, rfl, hb, fun j u hu => ?_⟩⟩, fun i c x hc hx => ?_⟩
  · rw [Nat.zero_add]
    refine h.row.cell ?_
    have : (cs ++ List.replicate m z).flatten = (cs.take l.length).flatten ++ ((cs.drop l.length).flatten ++ (List.replicate m z).flatten) := by
      rw [List.flatten_append]
      conv => lhs; rw [← List.take_append_drop l.length cs, List.flatten_append, List.append_assoc]
    rw [this, List.getElem?_append_left (List.getElem?_eq_some_iff.1 hu).1]
    exact hu
  · have hi := (List.getElem?_eq_some_iff.1 hx).1
    rw [List.getElem?_take_of_lt hi] at hc
    exact hR i c x hc hx
theorem slOf_nil {α : Type} {size : Nat} {R : World → Nat → List Value → α → Prop} {w : World} {B : Nat} : SlOf size R w B (.slice none 0 0) ([] : List α) :=
  ⟨[], rfl, (fun _ h => by cases h), ⟨none, 0, rfl, Nat.le_refl _, (by simp), (by simp), (fun h => by cases h)⟩, (fun _ _ _ h => by simp at h)⟩

theorem make_any (t e : TypeId) (z : Value) (size bytes : Nat) (ht : Tryz.prog.underlying t = some (.slice e)) (hinfo : (Tryz.prog.info? e).map (fun i => (i.zero, i.size, i.bytes)) = some (some z, size, bytes))
    (N : Nat) (c : Int) (hc : c = N) (hb : bytes * N ≤ 281474976710656) (h63 : N ≤ 9223372036854775807) (w : World) :
    (Instr.makeSlice t (.int .i64 c) (.int .i64 c)).run Tryz.prog w = .ok (.slice (some ⟨w.heap.size, 0, none⟩) N N) (w.alloc (.cells (madeCells z.cells (N * size)) e (0, 0))) := by
  subst hc
  obtain ⟨i, hi, hzz⟩ := Option.map_eq_some_iff.1 hinfo
  simp only [Prod.mk.injEq] at hzz
  obtain ⟨hz, hs, hb2⟩ := hzz
  have hb' : (i.bytes : Int) * (N : Int) ≤ 281474976710656 := by
    rw [hb2, ← Int.natCast_mul]; omega
  have hr := run_make (P := Tryz.prog) w t e i z ht hi hz .i64 .i64 N N (by omega) (Int.le_refl _) hb' (by omega)
  rw [hs] at hr
  exact hr
theorem infoInt : (Tryz.prog.info? 3).map (fun i => (i.zero, i.size, i.bytes)) = some (some (.int .i64 0), 1, 8) := by kernel_rfl
theorem infoStr : (Tryz.prog.info? 9).map (fun i => (i.zero, i.size, i.bytes)) = some (some (.string ByteArray.empty), 1, 16) := by kernel_rfl
theorem infoPort : (Tryz.prog.info? 46).map (fun i => (i.zero, i.size, i.bytes)) = some (some (.agg #[.string ByteArray.empty, .int .i64 0, .bool false, .int .i64 0]), 4, 40) := by kernel_rfl
theorem infoEntry : (Tryz.prog.info? 52).map (fun i => (i.zero, i.size, i.bytes)) = some (some (.agg #[.string ByteArray.empty, .slice none 0 0, .slice none 0 0, .string ByteArray.empty, .slice none 0 0]), 5, 104) := by kernel_rfl
theorem infoGuard : (Tryz.prog.info? 56).map (fun i => (i.zero, i.size, i.bytes)) = some (some (.agg #[.bool false, .slice none 0 0]), 2, 32) := by kernel_rfl
theorem infoTab : (Tryz.prog.info? 47).map (fun i => (i.zero, i.size, i.bytes)) = some (some (.slice none 0 0), 1, 24) := by kernel_rfl
theorem infoGua : (Tryz.prog.info? 53).map (fun i => (i.zero, i.size, i.bytes)) = some (some (.slice none 0 0), 1, 24) := by kernel_rfl
end Go.Proofs.YtjokciofeicdkaaGreatDoor
