/- What reachref9.held leaves: plain lemmas on its rows. -/
import Derived.Test.YtjokciofeicdkaaGreatDoorRoom3
import Derived.Deep.AppendLies
import Derived.Lib.SmallJoins
namespace Go.Proofs.YtjokciofeicdkaaGreatDoor
open Go.RowKit

def TabKC (w : World) (B : Nat) (c : List Value) (x : List EntryS) : Prop := ∃ v, c = [v] ∧ SlOf 5 EntryKC w B v x
def GuaKC (w : World) (B : Nat) (c : List Value) (x : List GuardS) : Prop := ∃ v, c = [v] ∧ SlOf 2 GuardKC w B v x
/-- A network whose inner lists have marked room. -/
def KeptAt (w : World) (B : Nat) (v : Value) (n : NetS) : Prop :=
  ∃ vp vt vg, v = .agg #[.int .i64 n.bits, vp, vt, vg] ∧ SlOf 4 PortC w B vp n.ports ∧ SlOf 1 TabKC w B vt n.tables ∧ SlOf 1 GuaKC w B vg n.guards
theorem TabKC.keepI {w w' : World} {B B' : Nat} {c : List Value} {x : List EntryS} (h : TabKC w B c x) (hB : B ≤ B') (hk : ∀ b o u, b < B → w.cell? ⟨b, o, none⟩ = some u → w'.cell? ⟨b, o, none⟩ = some u) : TabKC w' B' c x := by
  obtain ⟨v, h1, h2⟩ := h
  exact ⟨v, h1, h2.keepI hB hk fun _ _ h => h.keepI hB hk⟩
theorem GuaKC.keepI {w w' : World} {B B' : Nat} {c : List Value} {x : List GuardS} (h : GuaKC w B c x) (hB : B ≤ B') (hk : ∀ b o u, b < B → w.cell? ⟨b, o, none⟩ = some u → w'.cell? ⟨b, o, none⟩ = some u) : GuaKC w' B' c x := by
  obtain ⟨v, h1, h2⟩ := h
  exact ⟨v, h1, h2.keepI hB hk fun _ _ h => h.keepI hB hk⟩
theorem KeptAt.keepI {w w' : World} {B B' : Nat} {v : Value} {n : NetS} (h : KeptAt w B v n) (hB : B ≤ B') (hk : ∀ b o u, b < B → w.cell? ⟨b, o, none⟩ = some u → w'.cell? ⟨b, o, none⟩ = some u) : KeptAt w' B' v n := by
  obtain ⟨vp, vt, vg, h1, h2, h3, h4⟩ := h
  exact ⟨vp, vt, vg, h1, h2.keepI hB hk fun _ _ h => h, h3.keepI hB hk fun _ _ h => h.keepI hB hk, h4.keepI hB hk fun _ _ h => h.keepI hB hk⟩
theorem belowI {w w' : World} {N B : Nat} (hb : Below N w w') (hB : B ≤ N) : ∀ b o u, b < B → w.cell? ⟨b, o, none⟩ = some u → w'.cell? ⟨b, o, none⟩ = some u := fun b o _ hlt hc => (hb.cell (p := ⟨b, o, none⟩) (show b < N by omega)).trans hc
theorem KeptAt.plain {w : World} {B : Nat} {v : Value} {n : NetS} (h : KeptAt w B v n) : NetAt w B v n := by
  obtain ⟨vp, vt, vg, h1, h2, h3, h4⟩ := h
  refine ⟨vp, vt, vg, h1, h2, h3.keepI (Nat.le_refl _) (fun _ _ _ _ h => h) fun c x h => ?_, h4.keepI (Nat.le_refl _) (fun _ _ _ _ h => h) fun c x h => ?_⟩
  · obtain ⟨v, hc, hs⟩ := h
    exact ⟨v, hc, hs.keepI (Nat.le_refl _) (fun _ _ _ _ h => h) fun _ _ h => h.plain⟩
  · obtain ⟨v, hc, hs⟩ := h
    exact ⟨v, hc, hs.keepI (Nat.le_refl _) (fun _ _ _ _ h => h) fun _ _ h => h.plain⟩
def SmallN (n : NetS) : Prop := n.ports.length ≤ 3518437208781 ∧ n.tables.length ≤ 5864062014635 ∧ n.guards.length ≤ 5864062014635 ∧ (∀ t ∈ n.tables, t.length ≤ 1353245080301 ∧ ∀ e ∈ t, SmallE e) ∧ (∀ g ∈ n.guards, g.length ≤ 4398046510977 ∧ ∀ x ∈ g, x.cubes.length ≤ 17592186044406)

/-- The copy under way, in a box of its own. -/
def KAt (w : World) (K : Nat) (bits : Int) (vp vt vg : Value) : Prop := w.heap[K]? = some (.cells #[.int .i64 bits, vp, vt, vg] 26 (0, 0))
section
variable {w w' : World} {K : Nat} {bits : Int} {vp vt vg : Value}
theorem KAt.c0 (h : KAt w K bits vp vt vg) : w.cell? ⟨K, 0, none⟩ = some (.int .i64 bits) := by simpa using cell_of_row w K 0 _ _ (0, 0) h
theorem KAt.c1 (h : KAt w K bits vp vt vg) : w.cell? ⟨K, 1, none⟩ = some vp := by simpa using cell_of_row w K 1 _ _ (0, 0) h
theorem KAt.c2 (h : KAt w K bits vp vt vg) : w.cell? ⟨K, 2, none⟩ = some vt := by simpa using cell_of_row w K 2 _ _ (0, 0) h
theorem KAt.c3 (h : KAt w K bits vp vt vg) : w.cell? ⟨K, 3, none⟩ = some vg := by simpa using cell_of_row w K 3 _ _ (0, 0) h
theorem KAt.free (h : KAt w K bits vp vt vg) (i : Nat) : w.frozen? ⟨K, i, none⟩ = false := by unfold KAt at h; simp [World.frozen?, h]
theorem KAt.lt (h : KAt w K bits vp vt vg) : K < w.heap.size := (Array.getElem?_eq_some_iff.1 h).1
theorem KAt.of_block (h : KAt w K bits vp vt vg) (hb : w'.heap[K]? = w.heap[K]?) : KAt w' K bits vp vt vg := hb.trans h
theorem KAt.set1 (h : KAt w K bits vp vt vg) (v : Value) : KAt (w.setCell ⟨K, 1, none⟩ v) K bits v vt vg := by
  unfold KAt at h ⊢; simp [World.setCell, Array.getElem?_modify, h]
theorem KAt.set2 (h : KAt w K bits vp vt vg) (v : Value) : KAt (w.setCell ⟨K, 2, none⟩ v) K bits vp v vg := by
  unfold KAt at h ⊢; simp [World.setCell, Array.getElem?_modify, h]
theorem KAt.set3 (h : KAt w K bits vp vt vg) (v : Value) : KAt (w.setCell ⟨K, 3, none⟩ v) K bits vp vt v := by
  unfold KAt at h ⊢; simp [World.setCell, Array.getElem?_modify, h]
end
theorem own_type_ne {w : World} {b1 b2 e1 e2 s1 s2 n1 n2 : Nat} {v1 v2 : Value} {x1 x2 : List Value} (h1 : w.ownsRow b1 e1 s1 v1 n1 x1) (h2 : w.ownsRow b2 e2 s2 v2 n2 x2) (he : e1 ≠ e2) : v1.ownBlock = none ∨ v1.ownBlock ≠ v2.ownBlock := by
  rcases h1.2 with ⟨rfl, _⟩ | ⟨g, cap, cur, rfl, _, hg, _⟩
  · exact .inl rfl
  · right
    intro hh
    rcases h2.2 with ⟨rfl, _⟩ | ⟨g', cap', cur', rfl, _, hg', _⟩
    · simp [Value.ownBlock] at hh
    · simp [Value.ownBlock] at hh
      subst hh
      rw [hg] at hg'
      simp at hg'
      exact he hg'.2
theorem own_old {w w' : World} {base e size n : Nat} {v : Value} {xs : List Value} (h : w.ownsRow base e size v n xs) (hb : Below w.heap.size w w') : w'.ownsRow base e size v n xs := by
  refine ⟨h.1, ?_⟩
  rcases h.2 with h0 | ⟨g, cap, cur, rfl, h1, h2, h3⟩
  · exact .inl h0
  · exact .inr ⟨g, cap, cur, rfl, h1, (hb.block g (Array.getElem?_eq_some_iff.1 h2).1).trans h2, h3⟩
theorem own_slOf {α : Type} {size : Nat} {R : World → Nat → List Value → α → Prop} {w : World} {base e : Nat} {v : Value} {l : List α} {cs : List (List Value)} (h : w.ownsRow base e size v l.length cs.flatten) (hl : cs.length = l.length) (hs : ∀ c ∈ cs, c.length = size) (hn : l.length ≤ 140737488355328)
    (hR : ∀ (i : Nat) (c : List Value) (x : α), cs[i]? = some c → l[i]? = some x → R w w.heap.size c x) : SlOf size R w w.heap.size v l := by
  refine ⟨cs, hl, hs, ?_, hR⟩
  rcases h.2 with ⟨rfl, h0⟩ | ⟨g, cap, cur, rfl, h1, h2, h3, h4, h5, h6⟩
  · refine ⟨none, 0, ?_, by omega, ⟨by decide, hn⟩, h.1, fun hp => by omega⟩
    rw [h0]
  · refine ⟨some ⟨g, 0, none⟩, cap, rfl, h3, ⟨by unfold maxLen at h4; omega, hn⟩, h.1, fun _ => ⟨g, 0, rfl, (Array.getElem?_eq_some_iff.1 h2).1, fun j u hu => ?_⟩⟩
    rw [Nat.zero_add, cell_of_row w g j cur e (0, 0) h2]
    rw [← h6] at hu
    have hj := (List.getElem?_eq_some_iff.1 hu).1
    rw [List.length_take] at hj
    rw [List.getElem?_take_of_lt (by omega)] at hu
    simpa using hu

abbrev portV (p : PortS) : List Value := [.string p.name, .int .i64 p.box, .bool p.inn, .int .i64 p.dest]
/-- Rows of entries (guard lines), each copied cell by cell. -/
def RowsOf {α : Type} (size : Nat) (R : World → Nat → List Value → α → Prop) (W : World) (B : Nat) (cs : List (List Value)) (l : List α) : Prop :=
  cs.length = l.length ∧ (∀ c ∈ cs, c.length = size) ∧ ∀ (i : Nat) (c : List Value) (x : α), cs[i]? = some c → l[i]? = some x → R W B c x
theorem RowsOf.nil {α : Type} {size : Nat} {R : World → Nat → List Value → α → Prop} {W : World} {B : Nat} : RowsOf size R W B [] ([] : List α) := ⟨rfl, (fun _ h => by cases h), fun _ _ _ h => by simp at h⟩
theorem RowsOf.snoc {α : Type} {size : Nat} {R : World → Nat → List Value → α → Prop} {W : World} {B : Nat} {cs : List (List Value)} {l : List α} {k : Nat} {c : List Value} {x : α} (h : RowsOf size R W B cs (l.take k)) (hx : l[k]? = some x) (hc : c.length = size) (hR : R W B c x) :
    RowsOf size R W B (cs ++ [c]) (l.take (k + 1)) := by
  obtain ⟨h1, h2, h3⟩ := h
  rw [List.take_add_one, hx]
  refine ⟨by simp [h1], fun d hd => ?_, fun i d y hd hy => ?_⟩
  · rcases List.mem_append.1 hd with hd | hd
    · exact h2 d hd
    · simp at hd; rw [hd]; exact hc
  · by_cases hi : i < cs.length
    · rw [List.getElem?_append_left hi] at hd
      rw [List.getElem?_append_left (by omega)] at hy
      exact h3 i d y hd hy
    · rw [List.getElem?_append_right (by omega)] at hd
      rw [List.getElem?_append_right (by omega)] at hy
      rw [← h1] at hy
      cases hk : i - cs.length with
      | zero => rw [hk] at hd hy; simp at hd hy; subst hd hy; exact hR
      | succ j => rw [hk] at hd; simp at hd
/-- The tables (guards) that are copied: each a row of the call's own. -/
def Done {α : Type} (e size : Nat) (R : World → Nat → List Value → α → Prop) (W : World) (K NB : Nat) (wr : World) (vs : List Value) (ts : List (List α)) : Prop :=
  vs.length = ts.length ∧ ∀ (j : Nat) (v : Value) (x : List α), vs[j]? = some v → ts[j]? = some x → ∃ cs, RowsOf size R W K cs x ∧ wr.ownsRow NB e size v x.length cs.flatten
theorem Done.keep {α : Type} {e size : Nat} {R : World → Nat → List Value → α → Prop} {W : World} {K NB : Nat} {wr wr' : World} {vs : List Value} {ts : List (List α)} (h : Done e size R W K NB wr vs ts)
    (hk : ∀ (v : Value) (n : Nat) (xs : List Value), wr.ownsRow NB e size v n xs → wr'.ownsRow NB e size v n xs) : Done e size R W K NB wr' vs ts := by
  obtain ⟨h1, h2⟩ := h
  refine ⟨h1, fun j v x hv hx => ?_⟩
  obtain ⟨cs, h3, h4⟩ := h2 j v x hv hx
  exact ⟨cs, h3, hk _ _ _ h4⟩
theorem Done.nil {α : Type} {e size : Nat} {R : World → Nat → List Value → α → Prop} {W : World} {K NB : Nat} {wr : World} : Done e size R W K NB wr [] ([] : List (List α)) := ⟨rfl, fun _ _ _ h => by simp at h⟩
theorem Done.snoc {α : Type} {e size : Nat} {R : World → Nat → List Value → α → Prop} {W : World} {K NB : Nat} {wr : World} {vs : List Value} {ts : List (List α)} {k : Nat} {v : Value} {x : List α} {cs : List (List Value)} (h : Done e size R W K NB wr vs (ts.take k)) (hx : ts[k]? = some x)
    (hc : RowsOf size R W K cs x) (ho : wr.ownsRow NB e size v x.length cs.flatten) : Done e size R W K NB wr (vs ++ [v]) (ts.take (k + 1)) := by
  obtain ⟨h1, h2⟩ := h
  rw [List.take_add_one, hx]
  refine ⟨by simp [h1], fun j u y hu hy => ?_⟩
  by_cases hi : j < vs.length
  · rw [List.getElem?_append_left hi] at hu
    rw [List.getElem?_append_left (by omega)] at hy
    exact h2 j u y hu hy
  · rw [List.getElem?_append_right (by omega)] at hu
    rw [List.getElem?_append_right (by omega)] at hy
    rw [← h1] at hy
    cases hk : j - vs.length with
    | zero => rw [hk] at hu hy; simp at hu hy; subst hu hy; exact ⟨cs, hc, ho⟩
    | succ j => rw [hk] at hu; simp at hu
theorem flat_one : ∀ vs : List Value, (vs.map fun u => [u]).flatten = vs
  | [] => rfl
  | a :: r => by rw [List.map_cons, List.flatten_cons, flat_one r]; rfl
/-- .. read as a list of lists. -/
theorem Done.slOf {α : Type} {e e1 size : Nat} {R : World → Nat → List Value → α → Prop} {W : World} {K NB : Nat} {wr : World} {v : Value} {vs : List Value} {ts : List (List α)} (h : Done e size R W K NB wr vs ts) (ho : wr.ownsRow NB e1 1 v ts.length vs) (hn : ts.length ≤ 140737488355328) (hin : ∀ t ∈ ts, t.length ≤ 140737488355328)
    (hR : ∀ c x, R W K c x → R wr wr.heap.size c x) : SlOf 1 (fun w B c x => ∃ u, c = [u] ∧ SlOf size R w B u x) wr wr.heap.size v ts := by
  obtain ⟨h1, h2⟩ := h
  refine own_slOf (cs := vs.map fun u => [u]) (by rw [flat_one]; exact ho) (by simp [h1]) (fun c hc => by obtain ⟨u, _, rfl⟩ := List.mem_map.1 hc; rfl) hn fun i c x hc hx => ?_
  rw [List.getElem?_map] at hc
  cases hu : vs[i]? with
  | none => rw [hu] at hc; simp at hc
  | some u =>
    rw [hu] at hc
    obtain rfl := Option.some.inj hc
    obtain ⟨cs, ⟨r1, r2, r3⟩, h4⟩ := h2 i u x hu hx
    exact ⟨u, rfl, own_slOf h4 r1 r2 (hin x (List.mem_of_getElem? hx)) fun j d y hd hy => hR _ _ (r3 j d y hd hy)⟩
theorem own_set3 {w : World} {N e s n : Nat} {v : Value} {xs : List Value} (h : w.ownsRow (N + 3) e s v n xs) {cs : List Value} {o : Nat} : (setRow w (N + 1) o cs).ownsRow (N + 3) e s v n xs := by
  induction cs generalizing w o with
  | nil => exact h
  | cons u r ih => exact ih (ownsRow_setCell_below h (a := ⟨N + 1, o, none⟩) (by show N + 1 < N + 3; omega) u)
theorem own_dead {w : World} {N e s n L : Nat} {v : Value} {xs : List Value} (h : w.ownsRow N e s v n xs) (hL : L ≤ N) : (dead w L).ownsRow N e s v n xs := by
  refine ⟨h.1, ?_⟩
  rcases h.2 with h0 | ⟨g, cap, cur, rfl, h1, h2, h3⟩
  · exact .inl h0
  · exact .inr ⟨g, cap, cur, rfl, h1, (dead_block w L g (by omega)).trans h2, h3⟩
/-- What the copy is in the end: all of it lies above L if what was copied did. -/
theorem held_end {W3 W : World} {N B L : Nat} {n : NetS} {A : Option Addr} {cap : Nat} {v1 v2 v3 : Value} {vs2 vs : List Value} (hNW : N ≤ W.heap.size) (hB : B ≤ N) (hL : L ≤ N) (hsm : SmallN n) (hp : SlOf 4 PortC W3 B (.slice A n.ports.length cap) n.ports) (hW : Below (N + 1) W3 W)
    (h1 : W.ownsRow (N + 3) 46 4 v1 n.ports.length ((n.ports.map portV).flatten)) (h2 : W.ownsRow (N + 3) 47 1 v2 n.tables.length vs2) (h3 : W.ownsRow (N + 3) 53 1 v3 n.guards.length vs)
    (d2 : Done 52 5 EntryKC (dead W3 L) B (N + 3) W vs2 n.tables) (d3 : Done 56 2 GuardKC (dead W3 L) B (N + 3) W vs n.guards) :
    KeptAt (dead W L) W.heap.size (.agg #[.int .i64 n.bits, v1, v2, v3]) n := by
  obtain ⟨sp, st, sg, stt, sgg⟩ := hsm
  have hle : B ≤ W.heap.size := by omega
  have hL3 : L ≤ N + 3 := by omega
  have hz := dead_size W L
  refine ⟨v1, v2, v3, rfl, ?_, ?_, ?_⟩
  · have := own_slOf (R := PortC) (size := 4) (own_dead h1 hL3) (by simp) (fun c hc => by obtain ⟨p, _, rfl⟩ := List.mem_map.1 hc; rfl) (by omega) fun i c x hc hx => by
      rw [List.getElem?_map, hx] at hc
      refine ⟨(Option.some.inj hc).symm, ?_⟩
      obtain ⟨_, _, _, c', x', _, _, hx', ⟨_, hs⟩, _, _⟩ := SlOf.at_ hp (List.getElem?_eq_some_iff.1 hx).1
      rw [hx] at hx'
      rw [Option.some.inj hx']; exact hs
    rwa [hz] at this
  · have := (d2.keep (wr' := dead W L) fun v n xs h => own_dead h hL3).slOf (own_dead h2 hL3) (by omega) (fun t ht => by have := (stt t ht).1; omega) fun c x h => h.keepI (by rw [hz]; exact hle) (deadI (Nat.le_refl _) hW (by omega))
    rw [hz] at this; exact this
  · have := (d3.keep (wr' := dead W L) fun v n xs h => own_dead h hL3).slOf (own_dead h3 hL3) (by omega) (fun t ht => by have := (sgg t ht).1; omega) fun c x h => h.keepI (by rw [hz]; exact hle) (deadI (Nat.le_refl _) hW (by omega))
    rw [hz] at this; exact this
end Go.Proofs.YtjokciofeicdkaaGreatDoor
