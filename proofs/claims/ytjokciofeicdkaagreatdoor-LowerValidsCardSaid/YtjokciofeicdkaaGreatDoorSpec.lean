/- Plain definitions: what the text functions compute, on lists of bytes. No program in sight. -/
import Derived.Test.YtjokciofeicdkaaGreatDoorBase
import Derived.Lib.Strings
namespace Go.Proofs.YtjokciofeicdkaaGreatDoor
open Go.RowKit

abbrev Bytes := List UInt8
def bs (s : ByteArray) : Bytes := s.data.toList
theorem bs_length (s : ByteArray) : (bs s).length = s.size := rfl
theorem bs_at (s : ByteArray) (k : Nat) (h : k < s.size) : (bs s)[k]? = some s[k] := by
  show s.data.toList[k]? = _
  rw [List.getElem?_eq_getElem (by simpa using h)]; rfl
theorem bs_drop (s : ByteArray) (k : Nat) (h : k < s.size) : (bs s).drop k = s[k] :: (bs s).drop (k + 1) := drop_at (bs_at s k h)
theorem bs_drop_end (s : ByteArray) (k : Nat) (h : ¬ k < s.size) : (bs s).drop k = [] := drop_end (by simpa [bs_length] using h)

def letterN (n : Nat) : Bool := decide (n = 95 ∨ (97 ≤ n ∧ n ≤ 122) ∨ (65 ≤ n ∧ n ≤ 90))
def digitN (n : Nat) : Bool := decide (48 ≤ n ∧ n ≤ 57)
def letterU (c : UInt8) : Bool := letterN c.toNat
def digitU (c : UInt8) : Bool := digitN c.toNat
def wordU (c : UInt8) : Bool := letterU c || digitU c

/-- What class a byte is of (the numbers of scan's classes). -/
def classN (n : Nat) : Int :=
  if n = 32 ∨ n = 9 ∨ n = 13 then 2 else if n = 10 then 3 else if n = 35 then 4 else if n = 37 then 7 else if n = 34 then 8
  else if n = 95 ∨ (97 ≤ n ∧ n ≤ 122) ∨ (65 ≤ n ∧ n ≤ 90) then 5 else if 48 ≤ n ∧ n ≤ 57 then 6 else 0
def classL : Bytes → Int
  | [] => 1
  | c :: _ => classN c.toNat
theorem class_letter (n : Nat) : (classN n = 5) ↔ letterN n = true := by
  unfold classN letterN; simp only [decide_eq_true_eq]; (repeat' split) <;> omega
theorem class_digit (n : Nat) : (classN n = 6) ↔ digitN n = true := by
  unfold classN digitN; simp only [decide_eq_true_eq]; (repeat' split) <;> omega
def wordL (l : Bytes) : Bool := classL l == 5 || classL l == 6
theorem wordL_cons (c : UInt8) (r : Bytes) : wordL (c :: r) = wordU c := by
  rw [Bool.eq_iff_iff]
  simp only [wordL, classL, wordU, letterU, digitU, Bool.or_eq_true, beq_iff_eq, class_letter, class_digit]
theorem wordL_nil : wordL [] = false := rfl

/-- How many letters and digits a text begins with. -/
def wordLen : Bytes → Nat
  | [] => 0
  | c :: r => if wordU c then wordLen r + 1 else 0
theorem wordLen_le : ∀ l : Bytes, wordLen l ≤ l.length
  | [] => Nat.le_refl _
  | c :: r => by have := wordLen_le r; unfold wordLen; split <;> simp <;> omega

/-- Letters, digits, and dots ahead of digits. -/
def numLen : Bytes → Nat
  | [] => 0
  | c :: r => if wordU c || (c.toNat == 46 && classL r == 6) then numLen r + 1 else 0
theorem numLen_le : ∀ l : Bytes, numLen l ≤ l.length
  | [] => Nat.le_refl _
  | c :: r => by have := numLen_le r; unfold numLen; split <;> simp <;> omega

def nm : Bool → Bytes → Bool
  | _, [] => true
  | f, c :: r => if !letterU c && (f || !digitU c) then false else nm false r
/-- Is it a name? -/
def isName (l : Bytes) : Bool := decide (1 ≤ l.length) && (decide (l.length ≤ 24) && nm true l)

/-- Is it wholly two names with a dot between? -/
def isPort : Bytes → Bytes → Bool
  | _, [] => false
  | p, c :: r => if c.toNat == 46 then isName p && isName r else isPort (p ++ [c]) r

def cubeU (c : UInt8) : Bool := c.toNat == 48 || c.toNat == 49 || c.toNat == 120
def isCube (l : Bytes) : Bool := decide (1 ≤ l.length) && (decide (l.length ≤ 256) && l.all cubeU)
theorem bs_extract (s : ByteArray) (a b : Nat) : bs (s.extract a b) = ((bs s).drop a).take (b - a) := Lib.extract_data s a b
theorem bs_take (s : ByteArray) (k : Nat) : bs (s.extract 0 k) = (bs s).take k := by rw [bs_extract]; rfl
theorem bs_from (s : ByteArray) (k : Nat) : bs (s.extract k s.size) = (bs s).drop k := by
  rw [bs_extract, List.take_of_length_le (by simp [bs_length])]
theorem isName_out (s : ByteArray) (h : s.size < 1 ∨ 24 < s.size) : isName (bs s) = false := by
  unfold isName
  rw [bs_length]
  rcases h with h | h
  · rw [decide_eq_false (by omega)]; rfl
  · rw [decide_eq_false (show ¬ s.size ≤ 24 by omega)]; simp
theorem isName_in (s : ByteArray) (h1 : ¬ s.size < 1) (h2 : ¬ 24 < s.size) : isName (bs s) = nm true (bs s) := by
  unfold isName
  rw [bs_length, decide_eq_true (show 1 ≤ s.size by omega), decide_eq_true (show s.size ≤ 24 by omega)]; rfl
theorem isCube_out (s : ByteArray) (h : s.size < 1 ∨ 256 < s.size) : isCube (bs s) = false := by
  unfold isCube
  rw [bs_length]
  rcases h with h | h
  · rw [decide_eq_false (by omega)]; rfl
  · rw [decide_eq_false (show ¬ s.size ≤ 256 by omega)]; simp
theorem isCube_in (s : ByteArray) (h1 : ¬ s.size < 1) (h2 : ¬ 256 < s.size) : isCube (bs s) = (bs s).all cubeU := by
  unfold isCube
  rw [bs_length, decide_eq_true (show 1 ≤ s.size by omega), decide_eq_true (show s.size ≤ 256 by omega)]; rfl
end Go.Proofs.YtjokciofeicdkaaGreatDoor
