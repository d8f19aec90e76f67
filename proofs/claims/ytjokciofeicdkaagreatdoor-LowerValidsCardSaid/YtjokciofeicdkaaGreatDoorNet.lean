/- A network in numbers as plain data, how memory reads as one, and what it is to be right: no program in sight. -/
import Derived.Test.YtjokciofeicdkaaGreatDoorStr3
namespace Go.Proofs.YtjokciofeicdkaaGreatDoor
open Go.RowKit

theorem SlOf.addr {α : Type} {size : Nat} {R : World → Nat → List Value → α → Prop} {w : World} {B len cap : Nat} {A : Option Addr} {l : List α} (h : SlOf size R w B (.slice A len cap) l) (hl : 0 < l.length) :
    ∃ b off, A = some ⟨b, off, none⟩ := by
  obtain ⟨b, off, _, _, _, hv, _⟩ := SlOf.at_ h (k := 0) hl
  injection hv with hA _ _
  exact ⟨b, off, hA⟩
/-- An element of a slice whose place is known. -/
theorem SlOf.el {α : Type} {size : Nat} {R : World → Nat → List Value → α → Prop} {w : World} {B len cap b off : Nat} {l : List α} (h : SlOf size R w B (.slice (some ⟨b, off, none⟩) len cap) l) {k : Nat} (hk : k < l.length) :
    b < B ∧ ∃ c x, l[k]? = some x ∧ R w B c x ∧ ∀ j u, c[j]? = some u → w.cell? ⟨b, off + k * size + j, none⟩ = some u := by
  obtain ⟨b', off', _, c, x, hv, hb, hx, hr, _, hj⟩ := SlOf.at_ h hk
  injection hv with hA _ _
  injection hA with hA
  injection hA with h1 h2 _
  subst h1 h2
  exact ⟨hb, c, x, hx, hr, hj⟩
theorem ints_el {w : World} {B len cap b off : Nat} {l : List Int} (h : Ints w B (.slice (some ⟨b, off, none⟩) len cap) l) {k : Nat} (hk : k < l.length) :
    b < B ∧ ∃ x, l[k]? = some x ∧ w.cell? ⟨b, off + k, none⟩ = some (.int .i64 x) := by
  obtain ⟨hb, c, x, hx, hc, hj⟩ := SlOf.el h hk
  subst hc
  exact ⟨hb, x, hx, by simpa using hj 0 _ rfl⟩
theorem texts_el {w : World} {B len cap b off : Nat} {l : List ByteArray} (h : Texts w B (.slice (some ⟨b, off, none⟩) len cap) l) {k : Nat} (hk : k < l.length) :
    b < B ∧ ∃ x, l[k]? = some x ∧ x.size ≤ 140737488355328 ∧ w.cell? ⟨b, off + k, none⟩ = some (.string x) := by
  obtain ⟨hb, c, x, hx, ⟨hc, hs⟩, hj⟩ := SlOf.el h hk
  subst hc
  exact ⟨hb, x, hx, hs, by simpa using hj 0 _ rfl⟩

structure PortS where
  name : ByteArray
  box : Int
  inn : Bool
  dest : Int
structure EntryS where
  name : ByteArray
  ins : List Int
  cubes : List ByteArray
  write : ByteArray
  outs : List Int
structure GuardS where
  permit : Bool
  cubes : List ByteArray
structure NetS where
  bits : Int
  ports : List PortS
  tables : List (List EntryS)
  guards : List (List GuardS)

def PortC (_ : World) (_ : Nat) (c : List Value) (x : PortS) : Prop := c = [.string x.name, .int .i64 x.box, .bool x.inn, .int .i64 x.dest] ∧ x.name.size ≤ 140737488355328
def EntryC (w : World) (B : Nat) (c : List Value) (x : EntryS) : Prop :=
  ∃ vi vc vo, c = [.string x.name, vi, vc, .string x.write, vo] ∧ x.name.size ≤ 140737488355328 ∧ x.write.size ≤ 140737488355328 ∧ Ints w B vi x.ins ∧ Texts w B vc x.cubes ∧ Ints w B vo x.outs
def GuardC (w : World) (B : Nat) (c : List Value) (x : GuardS) : Prop := ∃ v, c = [.bool x.permit, v] ∧ Texts w B v x.cubes
def TabC (w : World) (B : Nat) (c : List Value) (x : List EntryS) : Prop := ∃ v, c = [v] ∧ SlOf 5 EntryC w B v x
def GuaC (w : World) (B : Nat) (c : List Value) (x : List GuardS) : Prop := ∃ v, c = [v] ∧ SlOf 2 GuardC w B v x
/-- The value v reads as the network n, all of it in blocks below B. -/
def NetAt (w : World) (B : Nat) (v : Value) (n : NetS) : Prop :=
  ∃ vp vt vg, v = .agg #[.int .i64 n.bits, vp, vt, vg] ∧ SlOf 4 PortC w B vp n.ports ∧ SlOf 1 TabC w B vt n.tables ∧ SlOf 1 GuaC w B vg n.guards

section
variable {w w' : World} {B B' : Nat}
theorem EntryC.keep {c : List Value} {x : EntryS} (h : EntryC w B c x) (hB : B ≤ B') (hk : ∀ b o, b < B → w'.cell? ⟨b, o, none⟩ = w.cell? ⟨b, o, none⟩) : EntryC w' B' c x := by
  obtain ⟨vi, vc, vo, h1, h2, h3, h4, h5, h6⟩ := h
  exact ⟨vi, vc, vo, h1, h2, h3, h4.keep hB hk, h5.keep hB hk, h6.keep hB hk⟩
theorem GuardC.keep {c : List Value} {x : GuardS} (h : GuardC w B c x) (hB : B ≤ B') (hk : ∀ b o, b < B → w'.cell? ⟨b, o, none⟩ = w.cell? ⟨b, o, none⟩) : GuardC w' B' c x := by
  obtain ⟨v, h1, h2⟩ := h
  exact ⟨v, h1, h2.keep hB hk⟩
theorem TabC.keep {c : List Value} {x : List EntryS} (h : TabC w B c x) (hB : B ≤ B') (hk : ∀ b o, b < B → w'.cell? ⟨b, o, none⟩ = w.cell? ⟨b, o, none⟩) : TabC w' B' c x := by
  obtain ⟨v, h1, h2⟩ := h
  exact ⟨v, h1, h2.keep hB hk fun _ _ h => h.keep hB hk⟩
theorem GuaC.keep {c : List Value} {x : List GuardS} (h : GuaC w B c x) (hB : B ≤ B') (hk : ∀ b o, b < B → w'.cell? ⟨b, o, none⟩ = w.cell? ⟨b, o, none⟩) : GuaC w' B' c x := by
  obtain ⟨v, h1, h2⟩ := h
  exact ⟨v, h1, h2.keep hB hk fun _ _ h => h.keep hB hk⟩
theorem NetAt.keep {v : Value} {n : NetS} (h : NetAt w B v n) (hB : B ≤ B') (hk : ∀ b o, b < B → w'.cell? ⟨b, o, none⟩ = w.cell? ⟨b, o, none⟩) : NetAt w' B' v n := by
  obtain ⟨vp, vt, vg, h1, h2, h3, h4⟩ := h
  exact ⟨vp, vt, vg, h1, h2.keep hB hk fun _ _ h => h, h3.keep hB hk fun _ _ h => h.keep hB hk, h4.keep hB hk fun _ _ h => h.keep hB hk⟩
theorem NetAt.below {v : Value} {n : NetS} (h : NetAt w B v n) (hb : Below B' w w') (hB : B ≤ B') : NetAt w' B' v n :=
  h.keep hB fun b o hlt => (bcell hb).1 b o (by omega)
theorem Texts.below {v : Value} {l : List ByteArray} (h : Texts w B v l) (hb : Below B' w w') (hB : B ≤ B') : Texts w' B' v l :=
  h.keep hB fun b o hlt => (bcell hb).1 b o (by omega)
theorem Ints.below {v : Value} {l : List Int} (h : Ints w B v l) (hb : Below B' w w') (hB : B ≤ B') : Ints w' B' v l :=
  h.keep hB fun b o hlt => (bcell hb).1 b o (by omega)
end

/-- Behind a call that came upon a new block and left it alone. -/
theorem below_boxed {w w2 : World} {o : Obj} (h : Below (w.alloc o).heap.size (w.alloc o) w2) : w2.heap[w.heap.size]? = some o ∧ Below w.heap.size w w2 :=
  ⟨(h.block _ (by simp)).trans (heap_alloc_new w o), ((Below.refl _ _).alloc (Nat.le_refl _) o).trans (h.mono (by simp))⟩
theorem below_of_eq {w w' : World} (h : w = w') : Below w.heap.size w w' := h ▸ Below.refl _ _

/-- A network that a call has put into a box of its own (block M); all of it lies below N. -/
structure NetIn (w : World) (N M : Nat) (n : NetS) (vp vt vg : Value) : Prop where
  lt : M < N
  box : w.heap[M]? = some (.cells #[.int .i64 n.bits, vp, vt, vg] 26 (0, 0))
  p : SlOf 4 PortC w N vp n.ports
  t : SlOf 1 TabC w N vt n.tables
  g : SlOf 1 GuaC w N vg n.guards
section
variable {w w' : World} {N M : Nat} {n : NetS} {vp vt vg : Value}
theorem NetIn.below (h : NetIn w N M n vp vt vg) (hb : Below N w w') : NetIn w' N M n vp vt vg :=
  have hk := (bcell hb).1
  ⟨h.lt, (hb.block M h.lt).trans h.box, h.p.keep (Nat.le_refl _) hk fun _ _ h => h, h.t.keep (Nat.le_refl _) hk fun _ _ h => h.keep (Nat.le_refl _) hk, h.g.keep (Nat.le_refl _) hk fun _ _ h => h.keep (Nat.le_refl _) hk⟩
theorem NetIn.up (h : NetIn w N M n vp vt vg) {N' : Nat} (hN : N ≤ N') : NetIn w N' M n vp vt vg :=
  ⟨by have := h.lt; omega, h.box, h.p.keep hN (fun _ _ _ => rfl) fun _ _ h => h, h.t.keep hN (fun _ _ _ => rfl) fun _ _ h => h.keep hN (fun _ _ _ => rfl), h.g.keep hN (fun _ _ _ => rfl) fun _ _ h => h.keep hN (fun _ _ _ => rfl)⟩
theorem NetIn.c0 (h : NetIn w N M n vp vt vg) : w.cell? ⟨M, 0, none⟩ = some (.int .i64 n.bits) := by simpa using cell_of_row w M 0 _ _ (0, 0) h.box
theorem NetIn.c1 (h : NetIn w N M n vp vt vg) : w.cell? ⟨M, 1, none⟩ = some vp := by simpa using cell_of_row w M 1 _ _ (0, 0) h.box
theorem NetIn.c2 (h : NetIn w N M n vp vt vg) : w.cell? ⟨M, 2, none⟩ = some vt := by simpa using cell_of_row w M 2 _ _ (0, 0) h.box
theorem NetIn.c3 (h : NetIn w N M n vp vt vg) : w.cell? ⟨M, 3, none⟩ = some vg := by simpa using cell_of_row w M 3 _ _ (0, 0) h.box
theorem NetIn.net (h : NetIn w N M n vp vt vg) : NetAt w N (.agg #[.int .i64 n.bits, vp, vt, vg]) n := ⟨vp, vt, vg, rfl, h.p, h.t, h.g⟩
/-- What a box at the heap's end makes of a network that came in. -/
theorem NetIn.mk_box {B : Nat} {vp vt vg : Value} (hp : SlOf 4 PortC w B vp n.ports) (ht : SlOf 1 TabC w B vt n.tables) (hg : SlOf 1 GuaC w B vg n.guards) (hB : B ≤ w.heap.size) :
    NetIn (w.alloc (.cells #[.int .i64 n.bits, vp, vt, vg] 26 (0, 0))) (w.heap.size + 1) w.heap.size n vp vt vg :=
  have hb := (Below.refl w.heap.size w).alloc (Nat.le_refl _) (.cells #[.int .i64 n.bits, vp, vt, vg] 26 (0, 0))
  have hk := (bcell hb).1
  have hB' : B ≤ w.heap.size + 1 := by omega
  have hk' : ∀ b o, b < B → (w.alloc (.cells #[.int .i64 n.bits, vp, vt, vg] 26 (0, 0))).cell? ⟨b, o, none⟩ = w.cell? ⟨b, o, none⟩ := fun b o h => hk b o (by omega)
  ⟨by omega, heap_alloc_new w _, hp.keep hB' hk' fun _ _ h => h, ht.keep hB' hk' fun _ _ h => h.keep hB' hk', hg.keep hB' hk' fun _ _ h => h.keep hB' hk'⟩
end

/-- An entry that a call has put into a box of its own (block M). -/
structure EntryIn (w : World) (N M : Nat) (e : EntryS) (vi vc vo : Value) : Prop where
  lt : M < N
  box : w.heap[M]? = some (.cells #[.string e.name, vi, vc, .string e.write, vo] 52 (0, 0))
  i : Ints w N vi e.ins
  c : Texts w N vc e.cubes
  o : Ints w N vo e.outs
section
variable {w w' : World} {N M : Nat} {e : EntryS} {vi vc vo : Value}
theorem EntryIn.below (h : EntryIn w N M e vi vc vo) (hb : Below N w w') : EntryIn w' N M e vi vc vo :=
  ⟨h.lt, (hb.block M h.lt).trans h.box, Ints.below h.i hb (Nat.le_refl _), Texts.below h.c hb (Nat.le_refl _), Ints.below h.o hb (Nat.le_refl _)⟩
theorem EntryIn.c0 (h : EntryIn w N M e vi vc vo) : w.cell? ⟨M, 0, none⟩ = some (.string e.name) := by simpa using cell_of_row w M 0 _ _ (0, 0) h.box
theorem EntryIn.c1 (h : EntryIn w N M e vi vc vo) : w.cell? ⟨M, 1, none⟩ = some vi := by simpa using cell_of_row w M 1 _ _ (0, 0) h.box
theorem EntryIn.c2 (h : EntryIn w N M e vi vc vo) : w.cell? ⟨M, 2, none⟩ = some vc := by simpa using cell_of_row w M 2 _ _ (0, 0) h.box
theorem EntryIn.c3 (h : EntryIn w N M e vi vc vo) : w.cell? ⟨M, 3, none⟩ = some (.string e.write) := by simpa using cell_of_row w M 3 _ _ (0, 0) h.box
theorem EntryIn.c4 (h : EntryIn w N M e vi vc vo) : w.cell? ⟨M, 4, none⟩ = some vo := by simpa using cell_of_row w M 4 _ _ (0, 0) h.box
theorem EntryIn.mk_box {B : Nat} (hi : Ints w B vi e.ins) (hc : Texts w B vc e.cubes) (ho : Ints w B vo e.outs) (hB : B ≤ w.heap.size) :
    EntryIn (w.alloc (.cells #[.string e.name, vi, vc, .string e.write, vo] 52 (0, 0))) (w.heap.size + 1) w.heap.size e vi vc vo :=
  have hb := (Below.refl w.heap.size w).alloc (Nat.le_refl _) (.cells #[.string e.name, vi, vc, .string e.write, vo] 52 (0, 0))
  have hk := (bcell hb).1
  have hB' : B ≤ w.heap.size + 1 := by omega
  have hk' : ∀ b o, b < B → (w.alloc (.cells #[.string e.name, vi, vc, .string e.write, vo] 52 (0, 0))).cell? ⟨b, o, none⟩ = w.cell? ⟨b, o, none⟩ := fun b o h => hk b o (by omega)
  ⟨by omega, heap_alloc_new w _, hi.keep hB' hk', hc.keep hB' hk', ho.keep hB' hk'⟩
end
/-- What stood before i. -/
def prevS (l : List Int) : Nat → Int
  | 0 => -1
  | j + 1 => l.getD j 0

theorem ba_beq (a b : ByteArray) : (a.toList == b.toList) = decide (a = b) := by
  rw [Bool.eq_iff_iff, beq_iff_eq, decide_eq_true_eq, ByteArray.toList_eq, ByteArray.toList_eq]
  exact ⟨fun h => WideShapes.bytes_inj h, fun h => by rw [h]⟩

/-! What is right. -/
def fullS (s : ByteArray) : Bool := fullFrom (bs s) 0 (bs s)
def cubeOk (bits : Int) (s : ByteArray) : Bool := isCube (bs s) && decide ((s.size : Int) = bits)
def cubesOk (bits : Int) (l : List ByteArray) (most : Nat) : Bool := decide (l.length ≤ most) && l.all (cubeOk bits)
/-- Is p the number of a port of that box and side? -/
def sideS (n : NetS) (p : Int) (box : Int) (inn : Bool) : Bool :=
  decide (0 ≤ p) && (decide (p < n.ports.length) && (match n.ports[p.toNat]? with | some q => decide (q.box = box) && (q.inn == inn) | none => false))
def inS (n : NetS) (p : Int) : Bool := match n.ports[p.toNat]? with | some q => q.inn | none => false
def portOk (n : NetS) (k : Nat) (p : PortS) : Bool :=
  fullS p.name && !decide (p.box < 0) && !decide (p.box ≥ n.tables.length) && !decide (p.dest < -1) && !decide (p.dest ≥ n.ports.length) && !(decide (p.dest ≥ 0) && (p.inn || !inS n p.dest)) && (n.ports.take k).all (fun q => !decide (q.name = p.name))
def portsFrom (n : NetS) : Nat → List PortS → Bool
  | _, [] => true
  | k, p :: r => portOk n k p && portsFrom n (k + 1) r
/-- The in-ports of an entry, by rising number. -/
def insFrom (n : NetS) (box : Int) : Int → List Int → Bool
  | _, [] => true
  | last, p :: r => sideS n p box true && (decide (last < p) && insFrom n box p r)
def outsFrom (n : NetS) (box : Int) : List Int → List Int → Bool
  | _, [] => true
  | was, p :: r => sideS n p box false && (was.all (fun q => !(q == p)) && outsFrom n box (was ++ [p]) r)
def entryOk (n : NetS) (box : Int) (e : EntryS) : Bool :=
  decide (e.name.size ≤ 256) && decide (e.outs.length ≤ 4) && insFrom n box (-1) e.ins && outsFrom n box [] e.outs && cubeOk n.bits e.write && cubesOk n.bits e.cubes 64
/-- The lists of lists: each element right, each list's cubes together at most 512, the elements together at most so many. -/
def rightFrom {α : Type} (ok : Nat → α → Bool) (cubes : α → List ByteArray) (most : Nat) : Nat → List (List α) → Bool
  | _, [] => true
  | k, t :: r => t.all (ok k) && (decide ((t.map fun x => (cubes x).length).sum ≤ 512) && rightFrom ok cubes most (k + 1) r)
def rightAll {α : Type} (ok : Nat → α → Bool) (cubes : α → List ByteArray) (most : Nat) (l : List (List α)) : Bool :=
  rightFrom ok cubes most 0 l && decide ((l.map List.length).sum ≤ most)
def guardsOk (n : NetS) : Bool := rightAll (fun _ (g : GuardS) => cubesOk n.bits g.cubes 64) GuardS.cubes 64 n.guards
def tablesOk (n : NetS) : Bool := rightAll (fun b (e : EntryS) => entryOk n b e) EntryS.cubes 256 n.tables
def validS (n : NetS) : Bool :=
  !(decide (n.bits < 1) || decide (n.bits > 256) || decide (n.tables.length > 16) || decide (n.ports.length > 48) || decide (n.guards.length ≠ n.ports.length)) && portsFrom n 0 n.ports && guardsOk n && tablesOk n

/-- The program's way: it stops as soon as a sum is too great. -/
def sumTo {α : Type} (ok : α → Bool) (cubes : α → List ByteArray) : Nat → List α → Bool
  | _, [] => true
  | c, x :: r => decide (c + (cubes x).length ≤ 512) && (ok x && sumTo ok cubes (c + (cubes x).length) r)
def sumsTo {α : Type} (ok : Nat → α → Bool) (cubes : α → List ByteArray) (most : Nat) : Nat → Nat → List (List α) → Bool
  | _, _, [] => true
  | k, c, t :: r => decide (c + t.length ≤ most) && (sumTo (ok k) cubes 0 t && sumsTo ok cubes most (k + 1) (c + t.length) r)
theorem sumTo_eq {α : Type} (ok : α → Bool) (cubes : α → List ByteArray) : ∀ (l : List α) (c : Nat), c ≤ 512 →
    sumTo ok cubes c l = (l.all ok && decide (c + (l.map fun x => (cubes x).length).sum ≤ 512))
  | [], c, h => by simp [sumTo, h]
  | x :: r, c, h => by
    simp only [sumTo, List.all_cons, List.map_cons, List.sum_cons]
    by_cases h1 : c + (cubes x).length ≤ 512
    · rw [decide_eq_true h1, Bool.true_and, sumTo_eq ok cubes r _ h1, Bool.and_assoc, Nat.add_assoc]
    · rw [decide_eq_false h1, Bool.false_and, decide_eq_false (p := c + _ ≤ 512) (by omega), Bool.and_false]
theorem sumsTo_eq {α : Type} (ok : Nat → α → Bool) (cubes : α → List ByteArray) (most : Nat) : ∀ (l : List (List α)) (k c : Nat), c ≤ most →
    sumsTo ok cubes most k c l = (rightFrom ok cubes most k l && decide (c + (l.map List.length).sum ≤ most))
  | [], k, c, h => by simp [sumsTo, rightFrom, h]
  | t :: r, k, c, h => by
    simp only [sumsTo, rightFrom, List.map_cons, List.sum_cons, sumTo_eq _ _ t 0 (Nat.zero_le _), Nat.zero_add]
    by_cases h1 : c + t.length ≤ most
    · rw [decide_eq_true h1, Bool.true_and, sumsTo_eq ok cubes most r _ _ h1, Nat.add_assoc]
      simp only [Bool.and_assoc]
    · rw [decide_eq_false h1, Bool.false_and, decide_eq_false (p := c + _ ≤ most) (by omega), Bool.and_false]
end Go.Proofs.YtjokciofeicdkaaGreatDoor
