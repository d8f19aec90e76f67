/- How the law's argument is opened: the datum of an api.Net is a network in memory, and one that a machine can hold. No program runs here. -/
import Derived.Test.YtjokciofeicdkaaGreatDoorHeldS
import Derived.Deep.Slices
import Derived.Deep.Fields
import Derived.ChangeSame
import Derived.Lib.SmallJoins
import Derived.SizedLaws
namespace Go.Proofs.YtjokciofeicdkaaGreatDoor
open Go.Joins Go.ChangeShapes Go.WideShapes Go.RowKit Go.Deep

theorem pick_list {α : Type} {Q : Nat → α → Prop} : ∀ (n : Nat), (∀ i, i < n → ∃ y, Q i y) → ∃ l : List α, l.length = n ∧ ∀ i y, l[i]? = some y → Q i y
  | 0, _ => ⟨[], rfl, fun i y h => by simp at h⟩
  | n + 1, h => by
    obtain ⟨l, hl, hq⟩ := pick_list n fun i hi => h i (by omega)
    obtain ⟨y, hy⟩ := h n (by omega)
    refine ⟨l ++ [y], by simp [hl], fun i z hz => ?_⟩
    by_cases hi : i < n
    · exact hq i z (by rwa [List.getElem?_append_left (by omega)] at hz)
    · rw [List.getElem?_append_right (by omega)] at hz
      have hi0 : i - l.length = 0 := by
        have := (List.getElem?_eq_some_iff.1 hz).1
        simp at this; omega
      have hin : i = n := by
        have := (List.getElem?_eq_some_iff.1 hz).1
        simp at this; omega
      rw [hi0] at hz
      simp at hz
      subst hz hin
      exact hy
theorem flatten_split (size : Nat) : ∀ (cs : List (List Value)), (∀ c ∈ cs, c.length = size) → ∀ (j : Nat) (u : Value), cs.flatten[j]? = some u → ∃ i r c, j = i * size + r ∧ r < size ∧ cs[i]? = some c ∧ c[r]? = some u
  | [], _, j, u, h => by simp at h
  | d :: cs, hs, j, u, h => by
    have hd : d.length = size := hs d (by simp)
    rw [List.flatten_cons] at h
    by_cases hj : j < d.length
    · rw [List.getElem?_append_left hj] at h
      exact ⟨0, j, d, by simp, by omega, rfl, h⟩
    · rw [List.getElem?_append_right (by omega)] at h
      obtain ⟨i, r, c, h1, h2, h3, h4⟩ := flatten_split size cs (fun c hc => hs c (by simp [hc])) _ u h
      exact ⟨i + 1, r, c, by rw [Nat.succ_mul]; omega, h2, by simpa using h3, h4⟩

section
variable {H : Type} {enc : TypeId × Value → H} {P : Program} {w : World} {base : Nat} {spare : Nat → Bool} {held : Bool}

theorem weightsAll_mem {e : TypeId} {k : Nat} : ∀ {l : List (DataW H)} {d : DataW H}, d ∈ l → k ∈ d.weights P e → k ∈ DataW.weightsAll P e l
  | [], _, h, _ => by simp at h
  | d0 :: l, d, h, hk => by
    simp only [DataW.weightsAll, List.mem_append]
    rcases List.mem_cons.1 h with rfl | h
    · exact Or.inl hk
    · exact Or.inr (weightsAll_mem h hk)

/-- The datum of a slice: a list in memory, and what is said of each element. -/
theorem open_slOf {α : Type} {size : Nat} {R : World → Nat → List Value → α → Prop} {Pr : α → Prop} {t e : TypeId} {fuel : Nat} {cs : List Value} {x : DataW H × List MemPlace}
    (ht : P.underlying t = some (.slice e)) (hC : P.cellsOf e = size) (hs0 : 0 < size) (hby : 0 < P.bytesOf e) (h : DataW.trod enc P w base spare held fuel t cs = some x) (hw : ∀ k ∈ x.1.weights P t, k ≤ reachBytes)
    (el : ∀ (cs' : List Value) (y : DataW H × List MemPlace) (n : Nat), DataW.trod enc P w base spare held n e cs' = some y → (∀ k ∈ y.1.weights P e, k ≤ reachBytes) → cs'.length = size → ∃ a : α, R w w.heap.size cs' a ∧ Pr a) :
    ∃ (v : Value) (l : List α), cs = [v] ∧ SlOf size R w w.heap.size v l ∧ l.length * P.bytesOf e ≤ reachBytes ∧ ∀ a ∈ l, Pr a := by
  rcases open_slice ht h with ⟨rfl, rfl⟩ | ⟨a, len, cap, m, n, D, Pl, rfl, hb, hl, hm, hmm, rfl, hi⟩
  · refine ⟨_, [], rfl, ⟨[], rfl, by simp, ⟨none, 0, rfl, Nat.le_refl _, ⟨by omega, by simp⟩, by simp, fun h => absurd h (by simp)⟩, fun i c x h => by simp at h⟩, by simp, by simp⟩
  · have hlm : len ≤ m := by rw [hmm]; split <;> omega
    have hwt : len * P.bytesOf e ≤ reachBytes := by
      have := hw (((List.range len).map D).length * P.bytesOf e + (((List.range (m - len)).map fun j => D (len + j)).length) * P.bytesOf e) (by simp [DataW.weights, ht, Nat.add_mul])
      simp at this
      omega
    have hlen47 : len ≤ 140737488355328 := by
      have h1 : len * 1 ≤ len * P.bytesOf e := Nat.mul_le_mul_left _ hby
      have h2 : reachBytes = 140737488351232 := rfl
      omega
    obtain ⟨ys, hyl, hys⟩ := pick_list (α := List Value × α) (Q := fun i y => y.1.length = size ∧ (∀ j, j < size → w.cell? ((a.add (i * size)).add j) = y.1[j]?) ∧ R w w.heap.size y.1 y.2 ∧ Pr y.2) len fun i hil => by
      obtain ⟨cs', hc, htr⟩ := hi i (by omega)
      rw [hC] at hc
      obtain ⟨_, hcl, hat⟩ := World.cells?_some hc
      obtain ⟨x, hx1, hx2⟩ := el cs' (D i, Pl i) n htr (fun k hk => hw k (by
        simp only [DataW.weights, ht, List.mem_cons, List.mem_append]
        exact Or.inr (Or.inl (weightsAll_mem (d := D i) (by simp; exact ⟨i, hil, rfl⟩) hk)))) hcl
      exact ⟨(cs', x), hcl, hat, hx1, hx2⟩
    have hmem : ∀ y ∈ ys, ∃ i, ys[i]? = some y := fun y hy => List.mem_iff_getElem?.1 hy
    have hsz : ∀ c ∈ ys.map (·.1), c.length = size := by
      intro c hc
      obtain ⟨y, hy, rfl⟩ := List.mem_map.1 hc
      obtain ⟨i, hi'⟩ := hmem y hy
      exact (hys i y hi').1
    refine ⟨_, ys.map (·.2), rfl, ⟨ys.map (·.1), by simp, hsz, ?_, ?_⟩, by simpa [hyl] using hwt, ?_⟩
    · refine ⟨some a, cap, by simp [hyl], by simpa [hyl] using hl, by simpa [hyl] using ⟨hm, hlen47⟩, ?_, fun hpos => ?_⟩
      · rw [List.length_flatten, List.map_map]
        have : ∀ l : List (List Value × α), (∀ y ∈ l, y.1.length = size) → (l.map (List.length ∘ (·.1))).sum = l.length * size := by
          intro l
          induction l with
          | nil => simp
          | cons y l ih =>
            intro hh
            have h1 := ih fun z hz => hh z (by simp [hz])
            have h2 := hh y (by simp)
            simp only [List.map_cons, List.sum_cons, List.length_cons, Function.comp, Nat.succ_mul] at h1 ⊢
            rw [h1, h2]; omega
        rw [this ys fun y hy => by obtain ⟨i, hi'⟩ := hmem y hy; exact (hys i y hi').1]
        simp
      · simp only [List.length_map] at hpos
        obtain ⟨y0, hy0⟩ : ∃ y0, ys[0]? = some y0 := ⟨_, List.getElem?_eq_getElem hpos⟩
        obtain ⟨b, off, spot⟩ := a
        have hc0 := (hys 0 y0 hy0).2.1 0 hs0
        have h00 : ∃ u, y0.1[0]? = some u := ⟨_, List.getElem?_eq_getElem (by rw [(hys 0 y0 hy0).1]; exact hs0)⟩
        obtain ⟨u0, hu0⟩ := h00
        rw [hu0] at hc0
        have hc0 : w.cell? ⟨b, off, spot⟩ = some u0 := by
          have e0 : ((⟨b, off, spot⟩ : Addr).add (0 * size)).add 0 = ⟨b, off, spot⟩ := by simp [Addr.add]
          rw [e0] at hc0; exact hc0
        have hspot : spot = none := by
          unfold World.cell? at hc0
          split at hc0
          · cases spot with
            | none => rfl
            | some s => simp at hc0
          · cases hc0
        have hblk : b < w.heap.size := by
          unfold World.cell? at hc0
          split at hc0
          · rename_i hh
            exact (Array.getElem?_eq_some_iff.1 hh).1
          · cases hc0
        subst hspot
        refine ⟨b, off, rfl, hblk, fun j u hj => ?_⟩
        obtain ⟨i, r, c, rfl, hr, hci, hcr⟩ := flatten_split size _ hsz j u hj
        rw [List.getElem?_map] at hci
        obtain ⟨y, hyi, rfl⟩ := Option.map_eq_some_iff.1 hci
        have := (hys i y hyi).2.1 r hr
        rw [hcr] at this
        rw [show (((⟨b, off, none⟩ : Addr).add (i * size)).add r) = ⟨b, off + i * size + r, none⟩ by simp only [Addr.add]; split <;> split <;> simp_all] at this
        rw [← Nat.add_assoc]
        exact this
    · intro i c x hc hx
      rw [List.getElem?_map] at hc hx
      obtain ⟨y, hyi, rfl⟩ := Option.map_eq_some_iff.1 hc
      rw [hyi] at hx
      simp at hx
      subst hx
      exact (hys i y hyi).2.2.1
    · intro x hx
      obtain ⟨y, hy, rfl⟩ := List.mem_map.1 hx
      obtain ⟨i, hi'⟩ := hmem y hy
      exact (hys i y hi').2.2.2

/-- A struct of one-cell fields: each field's cell and reading. -/
theorem open_struct {e : TypeId} {fs : Array Field} (he : P.underlying e = some (.struct fs)) (hone : oneCellFields P fs = true) {n : Nat} {cs : List Value} {y : DataW H × List MemPlace} (h : DataW.trod enc P w base spare held n e cs = some y)
    (hw : ∀ k ∈ y.1.weights P e, k ≤ reachBytes) (hcl : cs.length = fs.size) : ∀ (j : Nat) (f : Field), fs[j]? = some f → ∃ (v : Value) (m : Nat) (z : DataW H × List MemPlace), cs[j]? = some v ∧ DataW.trod enc P w base spare held m f.type [v] = some z ∧ ∀ k ∈ z.1.weights P f.type, k ≤ reachBytes := by
  obtain ⟨ys, n', _, hy, _, hyl, hf⟩ := DataW.trod_struct he h
  intro j f hj
  obtain ⟨ho, hk⟩ := hone_of hone j f hj
  have hjl : j < fs.size := (Array.getElem?_eq_some_iff.1 hj).1
  have h1 := hf j f hj
  rw [ho, hk] at h1
  have hone' : (cs.drop j).take 1 = [cs[j]'(by omega)] := by
    rw [List.drop_eq_getElem_cons (by omega)]
    rfl
  rw [hone'] at h1
  have hys : ys[j]? = some (ys[j]'(by omega)) := List.getElem?_eq_getElem (by omega)
  refine ⟨_, n', _, List.getElem?_eq_getElem (by omega), h1.trans hys, fun k hk => hw k ?_⟩
  rw [show y.1 = .agg (ys.map (·.1)) from by rw [hy]]
  simp only [DataW.weights, he]
  exact DataW.weights_mem_each (j := j) (t := f.type) (by simp [hj]) (by rw [List.getElem?_map, hys]; rfl) k hk

theorem open_str {t : TypeId} (ht : P.underlying t = some .string) {n : Nat} {v : Value} {z : DataW H × List MemPlace} (h : DataW.trod enc P w base spare held n t [v] = some z) (hw : ∀ k ∈ z.1.weights P t, k ≤ reachBytes) :
    ∃ s : ByteArray, v = .string s ∧ s.size ≤ 140737488355328 := by
  obtain ⟨s, h1, h2, _⟩ := DataW.trod_string ht h
  refine ⟨s, by simpa using h1, ?_⟩
  have := hw s.data.toList.length (by rw [h2]; simp [DataW.weights])
  have h3 : reachBytes = 140737488351232 := rfl
  have h4 : s.data.toList.length = s.size := by simp
  omega
theorem open_int' {t : TypeId} (ht : P.underlying t = some (.int .i64)) {n : Nat} {v : Value} {z : DataW H × List MemPlace} (h : DataW.trod enc P w base spare held n t [v] = some z) : ∃ i : Int, v = .int .i64 i := by
  obtain ⟨s, h1, _, _⟩ := DataW.trod_int ht h
  exact ⟨s, by simpa using h1⟩
theorem open_bool' {t : TypeId} (ht : P.underlying t = some .bool) {n : Nat} {v : Value} {z : DataW H × List MemPlace} (h : DataW.trod enc P w base spare held n t [v] = some z) : ∃ b : Bool, v = .bool b := by
  obtain ⟨s, h1, _⟩ := DataW.trod_bool ht h
  exact ⟨s, by simpa using h1⟩
end
end Go.Proofs.YtjokciofeicdkaaGreatDoor

namespace Go.Proofs.YtjokciofeicdkaaGreatDoor
open Go.Joins Go.ChangeShapes Go.WideShapes Go.RowKit Go.Deep

section
variable {H : Type} {enc : TypeId × Value → H} {w : World} {base : Nat} {spare : Nat → Bool} {held : Bool}

theorem bytes_int : Tryz.prog.bytesOf 3 = 8 := by kernel_rfl
theorem bytes_str : Tryz.prog.bytesOf 9 = 16 := by kernel_rfl
theorem bytes_port : Tryz.prog.bytesOf 46 = 40 := by kernel_rfl
theorem bytes_entry : Tryz.prog.bytesOf 52 = 104 := by kernel_rfl
theorem bytes_guard : Tryz.prog.bytesOf 56 = 32 := by kernel_rfl
theorem bytes_tab : Tryz.prog.bytesOf 47 = 24 := by kernel_rfl
theorem bytes_gua : Tryz.prog.bytesOf 53 = 24 := by kernel_rfl
theorem reach_is : reachBytes = 140737488351232 := rfl

theorem ints_open {n : Nat} {v : Value} {z : DataW H × List MemPlace} (h : DataW.trod enc Tryz.prog w base spare held n 49 [v] = some z) (hw : ∀ k ∈ z.1.weights Tryz.prog 49, k ≤ reachBytes) : ∃ l : List Int, Ints w w.heap.size v l ∧ l.length ≤ 17592186044406 := by
  obtain ⟨v', l, hv, hs, hl, _⟩ := open_slOf (R := IntC) (Pr := fun _ => True) (size := 1) Tryz.underlying49 (by kernel_rfl) (by omega) (by rw [bytes_int]; omega) h hw (fun cs' y n h _ hcl => by
    match cs', hcl with
    | [c], _ =>
      obtain ⟨i, rfl⟩ := open_int' Tryz.underlying3 h
      exact ⟨i, rfl, trivial⟩)
  rw [bytes_int, reach_is] at hl
  obtain rfl := (List.cons.inj hv).1
  exact ⟨l, hs, by omega⟩
theorem texts_open {n : Nat} {v : Value} {z : DataW H × List MemPlace} (h : DataW.trod enc Tryz.prog w base spare held n 50 [v] = some z) (hw : ∀ k ∈ z.1.weights Tryz.prog 50, k ≤ reachBytes) : ∃ l : List ByteArray, Texts w w.heap.size v l ∧ l.length ≤ 17592186044406 := by
  obtain ⟨v', l, hv, hs, hl, _⟩ := open_slOf (R := StrC) (Pr := fun _ => True) (size := 1) Tryz.underlying50 (by kernel_rfl) (by omega) (by rw [bytes_str]; omega) h hw (fun cs' y n h hw hcl => by
    match cs', hcl with
    | [c], _ =>
      obtain ⟨i, rfl, hi⟩ := open_str Tryz.underlying9 h hw
      exact ⟨i, ⟨rfl, hi⟩, trivial⟩)
  rw [bytes_str, reach_is] at hl
  obtain rfl := (List.cons.inj hv).1
  exact ⟨l, hs, by omega⟩
theorem five {cs : List Value} {a b c d e : Value} (hcl : cs.length = 5) (h0 : cs[0]? = some a) (h1 : cs[1]? = some b) (h2 : cs[2]? = some c) (h3 : cs[3]? = some d) (h4 : cs[4]? = some e) : cs = [a, b, c, d, e] := by
  match cs, hcl with
  | [_, _, _, _, _], _ => simp at h0 h1 h2 h3 h4; subst h0 h1 h2 h3 h4; rfl
theorem four {cs : List Value} {a b c d : Value} (hcl : cs.length = 4) (h0 : cs[0]? = some a) (h1 : cs[1]? = some b) (h2 : cs[2]? = some c) (h3 : cs[3]? = some d) : cs = [a, b, c, d] := by
  match cs, hcl with
  | [_, _, _, _], _ => simp at h0 h1 h2 h3; subst h0 h1 h2 h3; rfl
theorem two {cs : List Value} {a b : Value} (hcl : cs.length = 2) (h0 : cs[0]? = some a) (h1 : cs[1]? = some b) : cs = [a, b] := by
  match cs, hcl with
  | [_, _], _ => simp at h0 h1; subst h0 h1; rfl
theorem entry_open {n : Nat} {cs : List Value} {y : DataW H × List MemPlace} (h : DataW.trod enc Tryz.prog w base spare held n 52 cs = some y) (hw : ∀ k ∈ y.1.weights Tryz.prog 52, k ≤ reachBytes) (hcl : cs.length = 5) :
    ∃ x : EntryS, EntryC w w.heap.size cs x ∧ SmallE x := by
  have F := open_struct Tryz.underlying52 (by kernel_rfl) h hw hcl
  obtain ⟨v0, m0, z0, c0, t0, w0⟩ := F 0 _ rfl
  obtain ⟨v1, m1, z1, c1, t1, w1⟩ := F 1 _ rfl
  obtain ⟨v2, m2, z2, c2, t2, w2⟩ := F 2 _ rfl
  obtain ⟨v3, m3, z3, c3, t3, w3⟩ := F 3 _ rfl
  obtain ⟨v4, m4, z4, c4, t4, w4⟩ := F 4 _ rfl
  obtain ⟨s0, rfl, hs0⟩ := open_str Tryz.underlying9 t0 w0
  obtain ⟨l1, h1, b1⟩ := ints_open t1 w1
  obtain ⟨l2, h2, b2⟩ := texts_open t2 w2
  obtain ⟨s3, rfl, hs3⟩ := open_str Tryz.underlying9 t3 w3
  obtain ⟨l4, h4, b4⟩ := ints_open t4 w4
  exact ⟨⟨s0, l1, l2, s3, l4⟩, ⟨_, _, _, five hcl c0 c1 c2 c3 c4, hs0, hs3, h1, h2, h4⟩, ⟨b1, b2, b4⟩⟩
theorem guard_open {n : Nat} {cs : List Value} {y : DataW H × List MemPlace} (h : DataW.trod enc Tryz.prog w base spare held n 56 cs = some y) (hw : ∀ k ∈ y.1.weights Tryz.prog 56, k ≤ reachBytes) (hcl : cs.length = 2) :
    ∃ x : GuardS, GuardC w w.heap.size cs x ∧ x.cubes.length ≤ 17592186044406 := by
  have F := open_struct Tryz.underlying56 (by kernel_rfl) h hw hcl
  obtain ⟨v0, m0, z0, c0, t0, w0⟩ := F 0 _ rfl
  obtain ⟨v1, m1, z1, c1, t1, w1⟩ := F 1 _ rfl
  obtain ⟨s0, rfl⟩ := open_bool' Tryz.underlying4 t0
  obtain ⟨l1, h1, b1⟩ := texts_open t1 w1
  exact ⟨⟨s0, l1⟩, ⟨_, two hcl c0 c1, h1⟩, b1⟩
theorem port_open {n : Nat} {cs : List Value} {y : DataW H × List MemPlace} (h : DataW.trod enc Tryz.prog w base spare held n 46 cs = some y) (hw : ∀ k ∈ y.1.weights Tryz.prog 46, k ≤ reachBytes) (hcl : cs.length = 4) :
    ∃ x : PortS, PortC w w.heap.size cs x ∧ True := by
  have F := open_struct Tryz.underlying46 (by kernel_rfl) h hw hcl
  obtain ⟨v0, m0, z0, c0, t0, w0⟩ := F 0 _ rfl
  obtain ⟨v1, m1, z1, c1, t1, w1⟩ := F 1 _ rfl
  obtain ⟨v2, m2, z2, c2, t2, w2⟩ := F 2 _ rfl
  obtain ⟨v3, m3, z3, c3, t3, w3⟩ := F 3 _ rfl
  obtain ⟨s0, rfl, hs0⟩ := open_str Tryz.underlying9 t0 w0
  obtain ⟨i1, rfl⟩ := open_int' Tryz.underlying3 t1
  obtain ⟨i2, rfl⟩ := open_bool' Tryz.underlying4 t2
  obtain ⟨i3, rfl⟩ := open_int' Tryz.underlying3 t3
  exact ⟨⟨s0, i1, i2, i3⟩, ⟨four hcl c0 c1 c2 c3, hs0⟩, trivial⟩
theorem tab_open {n : Nat} {cs : List Value} {y : DataW H × List MemPlace} (h : DataW.trod enc Tryz.prog w base spare held n 47 cs = some y) (hw : ∀ k ∈ y.1.weights Tryz.prog 47, k ≤ reachBytes) :
    ∃ x : List EntryS, TabC w w.heap.size cs x ∧ x.length ≤ 1353245080301 ∧ ∀ e ∈ x, SmallE e := by
  obtain ⟨v, l, rfl, hs, hl, hp⟩ := open_slOf (R := EntryC) (Pr := SmallE) (size := 5) Tryz.underlying47 (by kernel_rfl) (by omega) (by rw [bytes_entry]; omega) h hw fun cs' y n h hw hcl => entry_open h hw hcl
  rw [bytes_entry, reach_is] at hl
  exact ⟨l, ⟨v, rfl, hs⟩, by omega, hp⟩
theorem gua_open {n : Nat} {cs : List Value} {y : DataW H × List MemPlace} (h : DataW.trod enc Tryz.prog w base spare held n 53 cs = some y) (hw : ∀ k ∈ y.1.weights Tryz.prog 53, k ≤ reachBytes) :
    ∃ x : List GuardS, GuaC w w.heap.size cs x ∧ x.length ≤ 4398046510977 ∧ ∀ g ∈ x, g.cubes.length ≤ 17592186044406 := by
  obtain ⟨v, l, rfl, hs, hl, hp⟩ := open_slOf (R := GuardC) (Pr := fun g => g.cubes.length ≤ 17592186044406) (size := 2) Tryz.underlying53 (by kernel_rfl) (by omega) (by rw [bytes_guard]; omega) h hw fun cs' y n h hw hcl => guard_open h hw hcl
  rw [bytes_guard, reach_is] at hl
  exact ⟨l, ⟨v, rfl, hs⟩, by omega, hp⟩

set_option maxRecDepth 100000 in
theorem net_open {r : Reach} {b0 : Nat} {v : Value} {d : DataW H} {p : List MemPlace} (hv : Value.okWide Tryz.prog w r b0 26 v) (h : DataW.Trod enc Tryz.prog w base spare held 26 v d p)
    (hw : ∀ k ∈ d.weights Tryz.prog 26, k ≤ reachBytes) : ∃ n, NetAt w w.heap.size v n ∧ SmallN n := by
  obtain ⟨cs, rfl, hsz⟩ := okWide_struct Tryz.underlying26 hv
  obtain ⟨fuel, hf⟩ := h
  have hcl : cs.toList.length = 4 := by
    have h4 : Tryz.prog.cellsOf 26 = 4 := by kernel_rfl
    rw [Array.length_toList, hsz, h4]
  have F := open_struct Tryz.underlying26 (by kernel_rfl) (show DataW.trod enc Tryz.prog w base spare held fuel 26 cs.toList = some (d, p) from hf) hw hcl
  obtain ⟨v0, m0, z0, c0, t0, w0⟩ := F 0 _ rfl
  obtain ⟨v1, m1, z1, c1, t1, w1⟩ := F 1 _ rfl
  obtain ⟨v2, m2, z2, c2, t2, w2⟩ := F 2 _ rfl
  obtain ⟨v3, m3, z3, c3, t3, w3⟩ := F 3 _ rfl
  obtain ⟨i0, rfl⟩ := open_int' Tryz.underlying3 t0
  obtain ⟨vp, lp, hvp, hp, bp, _⟩ := open_slOf (R := PortC) (Pr := fun _ => True) (size := 4) Tryz.underlying22 (by kernel_rfl) (by omega) (by rw [bytes_port]; omega) t1 w1 fun cs' y n h hw hcl => port_open h hw hcl
  obtain ⟨vt, lt, hvt, ht, bt, pt⟩ := open_slOf (R := TabC) (Pr := fun x : List EntryS => x.length ≤ 1353245080301 ∧ ∀ e ∈ x, SmallE e) (size := 1) Tryz.underlying23 (by kernel_rfl) (by omega) (by rw [bytes_tab]; omega) t2 w2 fun cs' y n h hw _ => tab_open h hw
  obtain ⟨vg, lg, hvg, hg, bg, pg⟩ := open_slOf (R := GuaC) (Pr := fun x : List GuardS => x.length ≤ 4398046510977 ∧ ∀ g ∈ x, g.cubes.length ≤ 17592186044406) (size := 1) Tryz.underlying24 (by kernel_rfl) (by omega) (by rw [bytes_gua]; omega) t3 w3 fun cs' y n h hw _ => gua_open h hw
  obtain rfl := (List.cons.inj hvp).1
  obtain rfl := (List.cons.inj hvt).1
  obtain rfl := (List.cons.inj hvg).1
  rw [bytes_port, reach_is] at bp
  rw [bytes_tab, reach_is] at bt
  rw [bytes_gua, reach_is] at bg
  have hcs : cs = #[.int .i64 i0, v1, v2, v3] := by
    have := four hcl c0 c1 c2 c3
    cases cs; simp_all
  exact ⟨⟨i0, lp, lt, lg⟩, ⟨v1, v2, v3, by rw [hcs], hp, ht, hg⟩, ⟨(show lp.length ≤ _ by omega), (show lt.length ≤ _ by omega), (show lg.length ≤ _ by omega), pt, pg⟩⟩
end
end Go.Proofs.YtjokciofeicdkaaGreatDoor
