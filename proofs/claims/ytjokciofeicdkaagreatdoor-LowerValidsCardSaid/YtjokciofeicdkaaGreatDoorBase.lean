/- Plain lemmas and predicates on memory for this seat's walks: no function of the program is walked here. -/
import Derived.Test.YtjokciofeicdkaaGreatDoorProg
import Derived.WalkKit
import Derived.WalkSpells
import Derived.WalkLawsBesides
import Derived.Lib.Hide
import Derived.Deep.DeepCutAuto
import Derived.Deep.QuietTactic
import Derived.BigQuiet
namespace Go.Proofs.YtjokciofeicdkaaGreatDoor
open Go.RowKit

theorem ret_bool {a b : Bool} (h : a = b) : Ending.returned (.bool a) = .returned (.bool b) := by rw [h]
theorem ret_int {k : IntKind} {a b : Int} (h : a = b) : Ending.returned (.int k a) = .returned (.int k b) := by rw [h]
theorem val_bool {a b : Bool} (h : a = b) : Value.bool a = .bool b := by rw [h]
theorem val_int {k : IntKind} {a b : Int} (h : a = b) : Value.int k a = .int k b := by rw [h]

theorem results4 {fn : Func} {t u v x : Tmp} (h : fn.results = #[.tmp t, .tmp u, .tmp v, .tmp x]) (tmps : Array Value) (P : Program) (w : World) :
    (results fn tmps).run P w = .ok (.tuple #[tmps.getD t undef, tmps.getD u undef, tmps.getD v undef, tmps.getD x undef]) w := by simp [results, h]
theorem ret_int4 {k : IntKind} {a b c d a' b' c' d' : Int} (h1 : a = a') (h2 : b = b') (h3 : c = c') (h4 : d = d') :
    Ending.returned (.tuple #[.int k a, .int k b, .int k c, .int k d]) = .returned (.tuple #[.int k a', .int k b', .int k c', .int k d']) := by rw [h1, h2, h3, h4]
/-- Only draws. -/
def Qt (w w' : World) : Prop := ∃ n, w' = w.drewN n
theorem Qt.refl (w : World) : Qt w w := ⟨0, by simp [World.drewN]⟩
theorem Qt.drewN {w w' : World} (h : Qt w w') (n : Nat) : Qt w (w'.drewN n) := by
  obtain ⟨k, rfl⟩ := h
  exact ⟨k + n, by simp [World.drewN_drewN]⟩
theorem Qt.self (w : World) (n : Nat) : Qt w (w.drewN n) := ⟨n, rfl⟩
theorem Qt.trans {a b c : World} (h : Qt a b) (k : Qt b c) : Qt a c := by
  obtain ⟨n, rfl⟩ := h
  obtain ⟨m, rfl⟩ := k
  exact ⟨n + m, by simp [World.drewN_drewN]⟩
theorem Qt.out {a b : World} (h : Qt a b) : ∃ n, b = a.drewN n := h
theorem below_drewN {B : Nat} {a w : World} (h : Below B a w) (n : Nat) : Below B a (w.drewN n) := ⟨h.os, h.tape, h.output, h.size, h.block⟩
theorem Qt.below {a b : World} (h : Qt a b) (B : Nat) : Below B a b := by
  obtain ⟨n, rfl⟩ := h
  exact below_drewN (Below.refl _ _) n

/-- All cells and marks below B, as the walk wants them. -/
theorem bcell {B : Nat} {W w1 : World} (hb : Below B W w1) :
    (∀ b o, b < B → w1.cell? ⟨b, o, none⟩ = W.cell? ⟨b, o, none⟩) ∧ (∀ b o, b < B → w1.frozen? ⟨b, o, none⟩ = W.frozen? ⟨b, o, none⟩) :=
  ⟨fun b o h => hb.cell (p := ⟨b, o, none⟩) h, fun b o h => hb.frozen (p := ⟨b, o, none⟩) h⟩

/-- The value v is a slice of n elements of size cells each: its cells are xs, in a block below B. -/
def Sl (w : World) (B size : Nat) (v : Value) (n : Nat) (xs : List Value) : Prop :=
  ∃ A cap, v = .slice A n cap ∧ n ≤ cap ∧ (cap ≤ 9223372036854775807 ∧ n ≤ 140737488355328) ∧ xs.length = n * size ∧
    (0 < n → ∃ b off, A = some ⟨b, off, none⟩ ∧ b < B ∧ ∀ j u, xs[j]? = some u → w.cell? ⟨b, off + j, none⟩ = some u)

theorem Sl.keep {w w' : World} {B B' size n : Nat} {v : Value} {xs : List Value} (h : Sl w B size v n xs) (hB : B ≤ B')
    (hk : ∀ b o, b < B → w'.cell? ⟨b, o, none⟩ = w.cell? ⟨b, o, none⟩) : Sl w' B' size v n xs := by
  obtain ⟨A, cap, hv, h1, h2, h3, h4⟩ := h
  refine ⟨A, cap, hv, h1, h2, h3, fun hn => ?_⟩
  obtain ⟨b, off, hA, hb, hc⟩ := h4 hn
  exact ⟨b, off, hA, by omega, fun j u hu => (hk _ _ hb).trans (hc j u hu)⟩
theorem Sl.below {w w' : World} {B B' size n : Nat} {v : Value} {xs : List Value} (h : Sl w B size v n xs) (hb : Below B' w w') (hB : B ≤ B') : Sl w' B' size v n xs :=
  h.keep hB fun b o hlt => (bcell hb).1 b o (by omega)

/-- A slice whose elements read as the list l, each by R. -/
def SlOf {α : Type} (size : Nat) (R : World → Nat → List Value → α → Prop) (w : World) (B : Nat) (v : Value) (l : List α) : Prop :=
  ∃ cs : List (List Value), cs.length = l.length ∧ (∀ c ∈ cs, c.length = size) ∧ Sl w B size v l.length cs.flatten ∧
    ∀ (i : Nat) (c : List Value) (x : α), cs[i]? = some c → l[i]? = some x → R w B c x

theorem flatten_at (size : Nat) : ∀ (cs : List (List Value)), (∀ c ∈ cs, c.length = size) → ∀ (i j : Nat) (c : List Value) (u : Value),
    cs[i]? = some c → c[j]? = some u → cs.flatten[i * size + j]? = some u
  | [], _, i, j, c, u, h, _ => by simp at h
  | d :: cs, hs, 0, j, c, u, h, hu => by
    simp only [List.getElem?_cons_zero, Option.some.injEq] at h
    subst h
    have : j < d.length := (List.getElem?_eq_some_iff.1 hu).1
    rw [List.flatten_cons, Nat.zero_mul, Nat.zero_add, List.getElem?_append_left this]
    exact hu
  | d :: cs, hs, i + 1, j, c, u, h, hu => by
    simp only [List.getElem?_cons_succ] at h
    have hd : d.length = size := hs d (by simp)
    have hrec := flatten_at size cs (fun c hc => hs c (by simp [hc])) i j c u h hu
    rw [List.flatten_cons, List.getElem?_append_right (by rw [hd, Nat.add_mul]; omega), hd]
    rw [show (i + 1) * size + j - size = i * size + j by rw [Nat.add_mul]; omega]
    exact hrec

section
variable {α : Type} {size : Nat} {R : World → Nat → List Value → α → Prop} {w w' : World} {B B' : Nat} {v : Value} {l : List α}

theorem SlOf.form (h : SlOf size R w B v l) : ∃ A cap, v = .slice A l.length cap ∧ l.length ≤ cap ∧ (cap ≤ 9223372036854775807 ∧ l.length ≤ 140737488355328) := by
  obtain ⟨cs, _, _, ⟨A, cap, hv, h1, h2, _⟩, _⟩ := h
  exact ⟨A, cap, hv, h1, h2⟩

theorem SlOf.at_ (h : SlOf size R w B v l) {k : Nat} (hk : k < l.length) :
    ∃ b off cap c x, v = .slice (some ⟨b, off, none⟩) l.length cap ∧ b < B ∧ l[k]? = some x ∧ R w B c x ∧ c.length = size ∧
      ∀ j u, c[j]? = some u → w.cell? ⟨b, off + k * size + j, none⟩ = some u := by
  obtain ⟨cs, hl, hs, ⟨A, cap, hv, h1, h2, h3, h4⟩, hR⟩ := h
  obtain ⟨b, off, rfl, hb, hc⟩ := h4 (by omega)
  have hck : cs[k]? = some cs[k] := List.getElem?_eq_getElem (by omega)
  have hlk : l[k]? = some l[k] := List.getElem?_eq_getElem hk
  refine ⟨b, off, cap, cs[k], l[k], hv, hb, hlk, hR k _ _ hck hlk, hs _ (List.getElem_mem _), fun j u hu => ?_⟩
  rw [Nat.add_assoc]
  exact hc _ u (flatten_at size cs hs k j _ u hck hu)

theorem SlOf.keep (h : SlOf size R w B v l) (hB : B ≤ B') (hk : ∀ b o, b < B → w'.cell? ⟨b, o, none⟩ = w.cell? ⟨b, o, none⟩)
    (hR : ∀ c x, R w B c x → R w' B' c x) : SlOf size R w' B' v l := by
  obtain ⟨cs, hl, hs, hS, hR'⟩ := h
  exact ⟨cs, hl, hs, hS.keep hB hk, fun i c x h1 h2 => hR _ _ (hR' i c x h1 h2)⟩
end

/-- The elements' readings. -/
def IntC (_ : World) (_ : Nat) (c : List Value) (x : Int) : Prop := c = [.int .i64 x]
def StrC (_ : World) (_ : Nat) (c : List Value) (x : ByteArray) : Prop := c = [.string x] ∧ x.size ≤ 140737488355328
def Ints := SlOf 1 IntC
def Texts := SlOf 1 StrC

theorem Ints.keep {w w' : World} {B B' : Nat} {v : Value} {l : List Int} (h : Ints w B v l) (hB : B ≤ B')
    (hk : ∀ b o, b < B → w'.cell? ⟨b, o, none⟩ = w.cell? ⟨b, o, none⟩) : Ints w' B' v l := SlOf.keep h hB hk fun _ _ h => h
theorem Texts.keep {w w' : World} {B B' : Nat} {v : Value} {l : List ByteArray} (h : Texts w B v l) (hB : B ≤ B')
    (hk : ∀ b o, b < B → w'.cell? ⟨b, o, none⟩ = w.cell? ⟨b, o, none⟩) : Texts w' B' v l := SlOf.keep h hB hk fun _ _ h => h
theorem Ints.at_ {w : World} {B : Nat} {v : Value} {l : List Int} (h : Ints w B v l) {k : Nat} (hk : k < l.length) :
    ∃ b off cap x, v = .slice (some ⟨b, off, none⟩) l.length cap ∧ b < B ∧ l[k]? = some x ∧ w.cell? ⟨b, off + k, none⟩ = some (.int .i64 x) := by
  obtain ⟨b, off, cap, c, x, hv, hb, hx, hc, _, hj⟩ := SlOf.at_ h hk
  subst hc
  exact ⟨b, off, cap, x, hv, hb, hx, by simpa using hj 0 _ rfl⟩
theorem Texts.at_ {w : World} {B : Nat} {v : Value} {l : List ByteArray} (h : Texts w B v l) {k : Nat} (hk : k < l.length) :
    ∃ b off cap x, v = .slice (some ⟨b, off, none⟩) l.length cap ∧ b < B ∧ l[k]? = some x ∧ x.size ≤ 140737488355328 ∧ w.cell? ⟨b, off + k, none⟩ = some (.string x) := by
  obtain ⟨b, off, cap, c, x, hv, hb, hx, ⟨hc, hs⟩, _, hj⟩ := SlOf.at_ h hk
  subst hc
  exact ⟨b, off, cap, x, hv, hb, hx, hs, by simpa using hj 0 _ rfl⟩

/-- A list from place k on. -/
theorem drop_at {α : Type} {l : List α} {k : Nat} {x : α} (h : l[k]? = some x) : l.drop k = x :: l.drop (k + 1) := by
  obtain ⟨hk, rfl⟩ := List.getElem?_eq_some_iff.1 h
  exact List.drop_eq_getElem_cons hk
theorem drop_end {α : Type} {l : List α} {k : Nat} (h : ¬ k < l.length) : l.drop k = [] := List.drop_eq_nil_of_le (by omega)
end Go.Proofs.YtjokciofeicdkaaGreatDoor
