/- Plain: numbers as the scanner reads them. And what the walks ask of the package variables ('Env'). -/
import Derived.Test.YtjokciofeicdkaaGreatDoorStr3
import Derived.Test.YtjokciofeicdkaaGreatDoorShelf
import Derived.Shelf.Strings.SlTrimAscii
namespace Go.Proofs.YtjokciofeicdkaaGreatDoor
open Go.RowKit

/-- The scanner's signs. -/
def signsB : List ByteArray := [⟨#[33, 61]⟩, ⟨#[60, 61]⟩, ⟨#[62, 61]⟩, ⟨#[46, 46]⟩, ⟨#[45, 62]⟩, ⟨#[40]⟩, ⟨#[41]⟩, ⟨#[33]⟩, ⟨#[61]⟩, ⟨#[60]⟩, ⟨#[62]⟩, ⟨#[38]⟩, ⟨#[124]⟩, ⟨#[44]⟩, ⟨#[58]⟩, ⟨#[47]⟩]
def signsA : Array Value := (signsB.map Value.string).toArray
/-- What the walks need of the package-level variables. -/
structure Env (w : World) : Prop where
  maxlen : ∃ m, w.cell? ⟨5, 0, none⟩ = some (.int .i64 m)
  errS : ∃ ev, w.cell? ⟨8, 0, none⟩ = some ev ∧ (ev = .nilIface ∨ ∃ te pe, ev = .iface te pe)
  u8 : Lib.Utf8Tabs 6 7 w
  ws : Lib.WhiteTab 3 w
  asp : Lib.TabIs Tryz.prog w "strings.asciiSpace" .u8 Lib.asciiSpaceTab
  signs : ∃ t fr, w.heap[2]? = some (.cells signsA t fr)

theorem cell_below {w w' : World} (hb : Below w.heap.size w w') {a : Addr} {v : Value} (h : w.cell? a = some v) : w'.cell? a = some v :=
  (hb.cell (World.block_lt_of_cell? w a h)).trans h

theorem Env.below {w w' : World} (h : Env w) (hb : Below w.heap.size w w') : Env w' where
  maxlen := let ⟨m, hm⟩ := h.maxlen; ⟨m, cell_below hb hm⟩
  errS := let ⟨ev, h1, h2⟩ := h.errS; ⟨ev, cell_below hb h1, h2⟩
  u8 := ⟨fun c hc => cell_below hb (h.u8.1 c hc), fun i hi => ⟨cell_below hb (h.u8.2 i hi).1, cell_below hb (h.u8.2 i hi).2⟩⟩
  ws := let ⟨T, oT, R, oR, h1, h2, h3, h4, h5⟩ := h.ws; ⟨T, oT, R, oR, cell_below hb h1, cell_below hb h2, cell_below hb h3, cell_below hb h4, fun i hi => cell_below hb (h5 i hi)⟩
  asp := by
    have ha := h.asp
    unfold Lib.TabIs World.var? at ha ⊢
    cases hg : Tryz.prog.globalNamed "strings.asciiSpace" with
    | none => rw [hg] at ha; simp at ha
    | some g =>
      rw [hg] at ha
      simp only [Option.bind_some] at ha ⊢
      have hlt : g < w.heap.size := by
        rcases Nat.lt_or_ge g w.heap.size with hlt | hge
        · exact hlt
        · rw [Array.getElem?_eq_none hge] at ha; simp at ha
      rw [hb.block g hlt]; exact ha
  signs := let ⟨t, fr, hs⟩ := h.signs; ⟨t, fr, (hb.block _ (Array.getElem?_eq_some_iff.1 hs).1).trans hs⟩
theorem Env.drewN {w : World} (h : Env w) (n : Nat) : Env (w.drewN n) := h.below (below_drewN (Below.refl _ _) n)
theorem Env.alloc {w : World} (h : Env w) (o : Obj) : Env (w.alloc o) := h.below ((Below.refl _ _).alloc (Nat.le_refl _) o)
theorem Env.qt {w w' : World} (h : Env w) (q : Qt w w') : Env w' := h.below (q.below _)

theorem below_freeze {B : Nat} {a w : World} (h : Below B a w) {p : Addr} (hp : B ≤ p.block) (n : Nat) : Below B a (w.freeze p n) := by
  unfold World.freeze
  split
  · exact h
  · refine h.trans ⟨rfl, rfl, rfl, by simp, fun k hk => ?_⟩
    simp only [Array.getElem?_modify]
    rw [if_neg (by omega)]
theorem below_bytes (w : World) (e : TypeId) (s : ByteArray) : Below w.heap.size w (Lib.bytesWorld w e s) := by
  unfold Lib.bytesWorld
  exact below_freeze (((Below.refl _ _).drew).alloc (Nat.le_refl _) _) (Nat.le_refl _) _

theorem dropWhile_nil {α : Type} (p : α → Bool) : ∀ l : List α, l.dropWhile p = [] ↔ ∀ x ∈ l, p x = true
  | [] => by simp
  | a :: l => by
    cases h : p a
    · simp [h]
    · simp [h, dropWhile_nil p l]
theorem mem_dropWhile {α : Type} (p : α → Bool) : ∀ (l : List α) (x : α), x ∈ l → p x = false → x ∈ l.dropWhile p
  | [], x, h, _ => absurd h (by simp)
  | a :: l, x, h, hp => by
    cases ha : p a
    · simpa [ha] using h
    · rcases List.mem_cons.1 h with rfl | h
      · rw [hp] at ha; cases ha
      · simpa [ha] using mem_dropWhile p l x h hp
/-- Is a text made of these bytes? -/
def allOf (l cs : Bytes) : Bool := l.all (cs.contains ·)
theorem trimS_nil (l cs : Bytes) : (Lib.trimS l cs = []) ↔ allOf l cs = true := by
  unfold Lib.trimS Lib.trimLeftS Lib.trimRightS allOf
  constructor
  · intro h
    rw [dropWhile_nil] at h
    rw [List.all_eq_true]
    intro x hx
    cases hc : cs.contains x
    · have h1 := mem_dropWhile (cs.contains ·) l.reverse x (by simpa using hx) hc
      have := h x (by simpa using h1)
      rw [hc] at this
      exact absurd this (by simp)
    · rfl
  · intro h
    rw [List.all_eq_true] at h
    have : l.reverse.dropWhile (cs.contains ·) = [] := by
      rw [dropWhile_nil]
      intro x hx
      exact h x (by simpa using hx)
    rw [this]; rfl

def decCs : Bytes := [48, 49, 50, 51, 52, 53, 54, 55, 56, 57]
def hexCs : Bytes := [48, 49, 50, 51, 52, 53, 54, 55, 56, 57, 97, 98, 99, 100, 101, 102, 65, 66, 67, 68, 69, 70]
theorem u8_all {p q : UInt8 → Bool} (h : (List.range 256).all (fun n => p (UInt8.ofNat n) == q (UInt8.ofNat n)) = true) (c : UInt8) : p c = q c := by
  rw [List.all_eq_true] at h
  have := h c.toNat (List.mem_range.2 c.toNat_lt)
  simpa using this
theorem decCs_at (c : UInt8) : decCs.contains c = digitU c := u8_all (p := fun c => decCs.contains c) (q := digitU) (by decide +kernel) c
def hexU (c : UInt8) : Bool := digitU c || (decide (97 ≤ c.toNat) && decide (c.toNat ≤ 102)) || (decide (65 ≤ c.toNat) && decide (c.toNat ≤ 70))
theorem hexCs_at (c : UInt8) : hexCs.contains c = hexU c := u8_all (p := fun c => hexCs.contains c) (q := hexU) (by decide +kernel) c

/-- What a row of decimal digits spells. -/
def decVal (l : Bytes) : Nat := l.foldl (fun a c => a * 10 + (c.toNat - 48)) 0
theorem decFrom_val : ∀ (l : Bytes) (a : Nat), l.all digitU = true → Lib.decFrom a l = some (l.foldl (fun a c => a * 10 + (c.toNat - 48)) a)
  | [], a, _ => rfl
  | c :: r, a, h => by
    simp only [List.all_cons, Bool.and_eq_true] at h
    have hd : Lib.digitVal c = some (c.toNat - 48) := by
      have := h.1
      simp only [digitU, digitN, decide_eq_true_eq] at this
      simp [Lib.digitVal, this]
    simp only [Lib.decFrom, hd, List.foldl_cons]
    exact decFrom_val r _ h.2
theorem atoi_val (l : Bytes) (hne : l ≠ []) (h : l.all digitU = true) : Lib.atoi l = some (decVal l : Int) := by
  cases l with
  | nil => exact absurd rfl hne
  | cons c r =>
    have hc : digitU c = true := by simp only [List.all_cons, Bool.and_eq_true] at h; exact h.1
    have h1 : (c == 45) = false := by
      rw [beq_eq_false_iff_ne]; rintro rfl; revert hc; decide
    have h2 : (c == 43) = false := by
      rw [beq_eq_false_iff_ne]; rintro rfl; revert hc; decide
    unfold Lib.atoi
    simp only [h1, h2, Bool.false_eq_true, if_false, Lib.decNat, List.isEmpty_cons, decFrom_val _ _ h, Option.map_some, decVal]

def optT (o : Option Nat) : Value := .tuple #[.int .i64 (o.getD 0 : Nat), .bool o.isSome]
/-- A decimal number without a leading zero, at most top. -/
def decS (l : Bytes) (top : Nat) : Option Nat :=
  if l = [] ∨ 10 < l.length then none else
  if allOf l decCs = false then none else
  if l.head? = some 48 ∧ l ≠ [48] then none else
  if top < decVal l then none else some (decVal l)
theorem decVal_lt : ∀ (l : Bytes) (a : Nat), l.all digitU = true → l.foldl (fun a c => a * 10 + (c.toNat - 48)) a < (a + 1) * 10 ^ l.length
  | [], a, _ => by simp
  | c :: r, a, h => by
    simp only [List.all_cons, Bool.and_eq_true] at h
    have h1 := h.1
    simp only [digitU, digitN, decide_eq_true_eq] at h1
    have := decVal_lt r (a * 10 + (c.toNat - 48)) h.2
    simp only [List.foldl_cons, List.length_cons]
    refine Nat.lt_of_lt_of_le this ?_
    rw [Nat.pow_succ, Nat.mul_comm (10 ^ r.length) 10, ← Nat.mul_assoc]
    exact Nat.mul_le_mul_right _ (by omega)
theorem decVal_bd (l : Bytes) (h : l.all digitU = true) (hl : l.length ≤ 10) : decVal l < 10000000000 := by
  have := decVal_lt l 0 h
  refine Nat.lt_of_lt_of_le this ?_
  rw [Nat.zero_add, Nat.one_mul]
  exact Nat.le_trans (Nat.pow_le_pow_right (by decide) hl) (by decide)

def hexVal (n : Nat) : Nat := if 48 ≤ n ∧ n ≤ 57 then n - 48 else if 97 ≤ n ∧ n ≤ 102 then n - 87 else n - 55
def basedFrom (b acc : Nat) : Bytes → Option Nat
  | [] => some acc
  | c :: r => if hexVal c.toNat < b then basedFrom b (acc * b + hexVal c.toNat) r else none
def basedS (b most : Nat) (l : Bytes) : Option Nat :=
  if l = [] ∨ most < l.length then none else if allOf l hexCs = false then none else basedFrom b 0 l
end Go.Proofs.YtjokciofeicdkaaGreatDoor
