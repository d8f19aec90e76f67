/- The plain law of the scanner's machine: how far a token reaches; what a run tells. -/
import Derived.Test.YtjokciofeicdkaaGreatDoorPiece
import Derived.Test.YtjokciofeicdkaaGreatDoorMach3
namespace Go.Proofs.YtjokciofeicdkaaGreatDoor
open Go.RowKit

theorem speakS_le (s : ByteArray) (lines : Bool) : ∀ n i said, i ≤ s.size → (speakS s lines n i said).2.1 ≤ s.size ∧ i ≤ (speakS s lines n i said).2.1
  | 0, i, said, h => ⟨h, Nat.le_refl _⟩
  | n + 1, i, said, h => by
    unfold speakS
    by_cases hi : i < s.size
    · rw [if_pos hi]
      have he := (escS_le (s.extract i s.size)).1
      have hes : (s.extract i s.size).size = s.size - i := by simp [ByteArray.size_extract]
      have hw := width_le s i hi
      split
      · exact ⟨hi, Nat.le_succ _⟩
      split
      · split
        · exact ⟨h, Nat.le_refl _⟩
        · have := speakS_le s lines n (i + (escS (s.extract i s.size)).2) (said ++ (escS (s.extract i s.size)).1) (by omega)
          omega
      split
      · exact ⟨h, Nat.le_refl _⟩
      split
      · exact ⟨h, Nat.le_refl _⟩
      · have := speakS_le s lines n (i + (Utf8.decode s i).2) (said ++ Lib.encodeRuneZ (Utf8.decode s i).1) hw
        omega
    · rw [if_neg hi]; exact ⟨Nat.le_refl _, by omega⟩

theorem wordLen_pos (l : Bytes) (h : classL l = 5 ∨ classL l = 6) : 1 ≤ wordLen l := by
  cases l with
  | nil => rcases h with h | h <;> cases h
  | cons c r =>
    have : wordU c = true := by rw [← wordL_cons c r]; unfold wordL; rcases h with h | h <;> rw [h] <;> decide
    unfold wordLen; rw [if_pos this]; omega
theorem numLen_pos (l : Bytes) (h : classL l = 6) : 1 ≤ numLen l := by
  cases l with
  | nil => cases h
  | cons c r =>
    have : wordU c = true := by rw [← wordL_cons c r]; unfold wordL; rw [h]; decide
    unfold numLen; rw [if_pos (by rw [this]; rfl)]; omega

theorem signFrom_le (s : ByteArray) : ∀ l : List ByteArray, signFrom s l ≤ s.size
  | [] => Nat.zero_le _
  | g :: r => by unfold signFrom; split; · rename_i h; exact h.1
                 · exact signFrom_le s r

/-- A token has at least a byte and does not reach beyond the text; an error lies within it. -/
theorem pieceS_le (s : ByteArray) (h1 : 1 ≤ s.size) : ∃ (k c : Int) (sz off : Nat), pieceS s = (k, (sz : Int), (off : Int), c) ∧ sz ≤ s.size ∧ off ≤ s.size ∧ (c = 0 → 1 ≤ sz) := by
  have hl := bs_length s
  unfold pieceS
  split
  · rename_i h
    have hp := wordLen_pos _ (.inl h)
    have hw := wordLen_le (bs s)
    unfold nameP
    split
    · exact ⟨0, 36, 0, 0, rfl, by omega, by omega, by intro h; cases h⟩
    split
    · rename_i hd
      split
      · exact ⟨0, 36, 0, 0, rfl, by omega, by omega, by intro h; cases h⟩
      · have hw2 := wordLen_le ((bs s).drop (wordLen (bs s) + 1))
        have hp2 := wordLen_pos _ (.inl hd.2)
        rw [List.length_drop] at hw2
        exact ⟨3, 0, wordLen (bs s) + 1 + wordLen ((bs s).drop (wordLen (bs s) + 1)), 0, by simp [q4], by omega, by omega, by intro; omega⟩
    · exact ⟨2, 0, wordLen (bs s), 0, rfl, by omega, by omega, by intro; omega⟩
  split
  · rename_i h
    have hp := numLen_pos _ h
    have hw := numLen_le (bs s)
    split
    · exact ⟨4, 0, numLen (bs s), 0, rfl, by omega, by omega, by intro; omega⟩
    · exact ⟨0, 31, 0, 0, rfl, by omega, by omega, by intro h; cases h⟩
  split
  · have hw := wordLen_le (bs (s.extract 1 s.size))
    rw [bs_length, ByteArray.size_extract] at hw
    split
    · exact ⟨5, 0, 1 + wordLen (bs (s.extract 1 s.size)), 0, rfl, by omega, by omega, by intro; omega⟩
    · exact ⟨0, 44, 0, 0, rfl, by omega, by omega, by intro h; cases h⟩
  split
  · have hsp := speakS_le s true (s.size + 1) 1 [] h1
    split
    · split
      · exact ⟨0, 37, 0, 0, rfl, by omega, by omega, by intro h; cases h⟩
      · exact ⟨6, 0, (speakS s true (s.size + 1) 1 []).2.1, 0, rfl, hsp.1, by omega, fun _ => hsp.2⟩
    · rename_i hne
      exact ⟨0, (speakS s true (s.size + 1) 1 []).2.2, 0, (speakS s true (s.size + 1) 1 []).2.1, rfl, by omega, hsp.1, fun h => absurd h hne⟩
  split
  · exact ⟨0, 30, 0, 0, rfl, by omega, by omega, by intro h; cases h⟩
  · rename_i hne
    exact ⟨7, 0, signFrom s signsB, 0, rfl, signFrom_le s _, by omega, fun _ => by omega⟩

/-- What a machine has told up to a place. -/
structure Sc where
  pos : Nat
  line : Int
  col : Int
  opn : Bool
  n : Nat
  toks : List Value
def Sc.fwd (m : Sc) (s : ByteArray) (size : Nat) : Sc := { m with pos := m.pos + size, col := m.col + runesFrom (s.extract m.pos (m.pos + size)) 0 }
def Sc.put (m : Sc) (s : ByteArray) (kind : Int) (size : Nat) : Sc :=
  { m with pos := m.pos + size, col := m.col + runesFrom (s.extract m.pos (m.pos + size)) 0, opn := true, n := m.n + 1, toks := m.toks ++ tokC kind (s.extract m.pos (m.pos + size)) m.line m.col }
def Sc.endl (m : Sc) : Sc :=
  { pos := m.pos + 1, line := m.line + 1, col := 1, opn := false, n := if m.opn then m.n + 1 else m.n, toks := if m.opn then m.toks ++ tokC 1 ⟨#[10]⟩ m.line m.col else m.toks }
def lineLen : Bytes → Nat
  | [] => 0
  | c :: r => if c.toNat = 10 then 0 else lineLen r + 1
theorem lineLen_le : ∀ l : Bytes, lineLen l ≤ l.length
  | [] => Nat.le_refl _
  | c :: r => by have := lineLen_le r; unfold lineLen; split <;> simp <;> omega
theorem lineLen_pos (l : Bytes) (h : classL l = 4) : 1 ≤ lineLen l := by
  cases l with
  | nil => cases h
  | cons c r =>
    unfold lineLen
    split
    · rename_i h10; change classN c.toNat = 4 at h; rw [h10] at h; exact absurd h (by decide)
    · omega
/-- The run: the error and what has been told. -/
def runS (s : ByteArray) : Nat → Sc → Int × Sc
  | 0, m => (0, m)
  | k + 1, m =>
    if classL ((bs s).drop m.pos) = 1 then (0, m.endl)
    else if classL ((bs s).drop m.pos) = 3 then runS s k m.endl
    else if classL ((bs s).drop m.pos) = 2 then runS s k (m.fwd s 1)
    else if classL ((bs s).drop m.pos) = 4 then runS s k (m.fwd s (lineLen ((bs s).drop m.pos)))
    else if (pieceS (s.extract m.pos s.size)).2.2.2 = 0 then runS s k (m.put s (pieceS (s.extract m.pos s.size)).1 (pieceS (s.extract m.pos s.size)).2.1.toNat)
    else ((pieceS (s.extract m.pos s.size)).2.2.2, m.fwd s (pieceS (s.extract m.pos s.size)).2.2.1.toNat)

theorem classL_end (s : ByteArray) (k : Nat) (hk : k ≤ s.size) : classL ((bs s).drop k) = 1 ↔ k = s.size := by
  by_cases h : k < s.size
  · rw [bs_drop s k h]
    constructor
    · intro hc; exfalso; change classN _ = 1 at hc; unfold classN at hc; (repeat' split at hc) <;> cases hc
    · intro e; omega
  · rw [bs_drop_end s k h]
    exact ⟨fun _ => by omega, fun _ => rfl⟩

/-- A machine's numbers stay within the text. -/
structure Sc.Ok (m : Sc) (s : ByteArray) : Prop where
  pos : m.pos ≤ s.size
  l0 : 1 ≤ m.line
  l1 : m.line ≤ m.pos + 1
  c0 : 1 ≤ m.col
  c1 : m.col ≤ m.pos + 1
  n : m.n + (if m.opn then 1 else 0) ≤ 2 * m.pos
theorem Sc.Ok.fwd {m : Sc} {s : ByteArray} (h : m.Ok s) (k : Nat) (hk : m.pos + k ≤ s.size) : (m.fwd s k).Ok s := by
  obtain ⟨h1, h2, h3, h4, h5, h6⟩ := h
  have hr := runesFrom_le (s.extract m.pos (m.pos + k)) _ 0 (Nat.le_refl _)
  rw [ByteArray.size_extract] at hr
  have : (runesFrom (s.extract m.pos (m.pos + k)) 0 : Nat) ≤ k := by omega
  refine ⟨hk, h2, ?_, ?_, ?_, (show m.n + (if m.opn then 1 else 0) ≤ 2 * (m.pos + k) by omega)⟩ <;> simp only [Sc.fwd] <;> omega
theorem Sc.Ok.put {m : Sc} {s : ByteArray} (h : m.Ok s) (kind : Int) (k : Nat) (h1' : 1 ≤ k) (hk : m.pos + k ≤ s.size) : (m.put s kind k).Ok s := by
  obtain ⟨h1, h2, h3, h4, h5, h6⟩ := h
  have hr := runesFrom_le (s.extract m.pos (m.pos + k)) _ 0 (Nat.le_refl _)
  rw [ByteArray.size_extract] at hr
  have : (runesFrom (s.extract m.pos (m.pos + k)) 0 : Nat) ≤ k := by omega
  refine ⟨hk, h2, ?_, ?_, ?_, ?_⟩ <;> simp only [Sc.put, if_true] <;> omega
theorem Sc.Ok.endl {m : Sc} {s : ByteArray} (h : m.Ok s) (hk : m.pos < s.size) : m.endl.Ok s := by
  obtain ⟨h1, h2, h3, h4, h5, h6⟩ := h
  refine ⟨hk, ?_, ?_, ?_, ?_, ?_⟩ <;> simp only [Sc.endl]
  · omega
  · omega
  · omega
  · omega
  · cases hm : m.opn <;> rw [hm] at h6 <;> simp only [if_true, Bool.false_eq_true, if_false] at h6 ⊢ <;> omega
end Go.Proofs.YtjokciofeicdkaaGreatDoor

namespace Go.Proofs.YtjokciofeicdkaaGreatDoor
open Go.RowKit

theorem wordLen_all : ∀ l : Bytes, wordLen l = l.length ↔ l.all wordU = true
  | [] => by simp [wordLen]
  | c :: r => by
    have ih := wordLen_all r
    have hle := wordLen_le r
    unfold wordLen
    cases hc : wordU c
    · simp [hc]
    · simp only [if_true, List.length_cons, List.all_cons, hc, Bool.true_and, ← ih]; omega
theorem take_wordLen : ∀ l : Bytes, (l.take (wordLen l)).all wordU = true
  | [] => rfl
  | c :: r => by
    unfold wordLen
    cases hc : wordU c
    · simp
    · simp [hc, take_wordLen r]
theorem wordLen_app : ∀ (a : Bytes) (c : UInt8) (b : Bytes), a.all wordU = true → wordU c = false → wordLen (a ++ c :: b) = a.length
  | [], c, b, _, hc => by simp [wordLen, hc]
  | x :: a, c, b, ha, hc => by
    simp only [List.all_cons, Bool.and_eq_true] at ha
    simp only [List.cons_append, wordLen, ha.1, if_true, List.length_cons, wordLen_app a c b ha.2 hc]
theorem nm_false : ∀ l : Bytes, nm false l = l.all wordU
  | [] => rfl
  | c :: r => by
    simp only [nm, List.all_cons, nm_false r, wordU, Bool.false_or]
    cases letterU c <;> cases digitU c <;> simp
theorem nm_true (c : UInt8) (r : Bytes) : nm true (c :: r) = (letterU c && r.all wordU) := by
  simp only [nm, nm_false, Bool.true_or, Bool.and_true]
  cases letterU c <;> simp
theorem isName_iff (l : Bytes) : isName l = true ↔ classL l = 5 ∧ l.all wordU = true ∧ l.length ≤ 24 := by
  cases l with
  | nil => simp [isName, classL]
  | cons c r =>
    simp only [isName, nm_true, Bool.and_eq_true, decide_eq_true_eq, List.length_cons, classL, class_letter, List.all_cons, wordU, Bool.or_eq_true]
    constructor
    · rintro ⟨_, h1, h2, h3⟩; exact ⟨h2, ⟨.inl h2, h3⟩, h1⟩
    · rintro ⟨h1, ⟨_, h2⟩, h3⟩; exact ⟨by omega, h3, h1, h2⟩
theorem dot_word (c : UInt8) (h : c.toNat = 46) : wordU c = false := by
  unfold wordU letterU digitU letterN digitN; rw [h]; rfl

/-- Where a full name is cut, if it is one. -/
theorem fullFrom_cut (l : Bytes) : ∀ (r : Bytes) (k : Nat), l.drop k = r → fullFrom l k r = true → ∃ d c, l[d]? = some c ∧ c.toNat = 46 ∧ isName (l.take d) = true ∧ isName (l.drop (d + 1)) = true
  | [], _, _, h => by cases h
  | c :: r, k, hr, h => by
    unfold fullFrom at h
    by_cases hc : c.toNat = 46
    · rw [if_pos hc, Bool.and_eq_true] at h
      refine ⟨k, c, ?_, hc, h.1, h.2⟩
      have := congrArg (·[0]?) hr
      simpa using this
    · rw [if_neg hc] at h
      exact fullFrom_cut l r (k + 1) (by rw [← List.drop_drop, hr]; rfl) h
theorem fullFrom_at (l : Bytes) (d : Nat) (c : UInt8) (hd : l[d]? = some c) (hc : c.toNat = 46) (hw : (l.take d).all wordU = true) : ∀ n k, k + n = d → fullFrom l k (l.drop k) = (isName (l.take d) && isName (l.drop (d + 1)))
  | 0, k, hk => by
    obtain rfl : k = d := by omega
    rw [drop_at hd]
    unfold fullFrom
    rw [if_pos hc]
  | n + 1, k, hk => by
    have hkl : k < l.length := by have := (List.getElem?_eq_some_iff.1 hd).1; omega
    have he : l[k]? = some l[k] := List.getElem?_eq_getElem hkl
    have hm : l[k] ∈ l.take d := by
      rw [List.mem_take_iff_getElem]; exact ⟨k, by omega, rfl⟩
    have hwk := List.all_eq_true.1 hw _ hm
    rw [drop_at he]
    unfold fullFrom
    rw [if_neg (fun h46 => by rw [dot_word _ h46] at hwk; cases hwk)]
    exact fullFrom_at l d c hd hc hw n (k + 1) (by omega)

/-- The kind and the text of the first token. -/
def tokKind : List Value → Int
  | .int _ k :: _ => k
  | _ => 0
def tokText : List Value → ByteArray
  | _ :: .string t :: _ => t
  | _ => ByteArray.empty
theorem runS_more (s : ByteArray) : ∀ k m, ∃ rest, (runS s k m).2.toks = m.toks ++ rest
  | 0, m => ⟨[], by simp [runS]⟩
  | k + 1, m => by
    unfold runS
    have he : ∃ rest, m.endl.toks = m.toks ++ rest := by
      simp only [Sc.endl]; split
      · exact ⟨_, rfl⟩
      · exact ⟨[], by simp⟩
    split
    · exact he
    split
    · obtain ⟨r, hr⟩ := runS_more s k m.endl
      obtain ⟨r', hr'⟩ := he
      exact ⟨r' ++ r, by rw [hr, hr', List.append_assoc]⟩
    split
    · exact runS_more s k (m.fwd s 1)
    split
    · exact runS_more s k (m.fwd s _)
    split
    · obtain ⟨r, hr⟩ := runS_more s k (m.put s _ _)
      exact ⟨_, hr.trans (List.append_assoc _ _ _)⟩
    · exact ⟨[], by simp [Sc.fwd]⟩
/-- Either there is no token, or the first is a piece of the text. -/
theorem runS_first (s : ByteArray) : ∀ k m, m.toks = [] → m.n = 0 → m.opn = false →
    ((runS s k m).2.toks = [] ∧ (runS s k m).2.n = 0) ∨
    ∃ p line col rest, classL ((bs s).drop p) ≠ 1 ∧ (pieceS (s.extract p s.size)).2.2.2 = 0 ∧
      (runS s k m).2.toks = tokC (pieceS (s.extract p s.size)).1 (s.extract p (p + (pieceS (s.extract p s.size)).2.1.toNat)) line col ++ rest
  | 0, m, h1, h2, _ => .inl ⟨h1, h2⟩
  | k + 1, m, h1, h2, h3 => by
    have et : m.endl.toks = [] := by simp [Sc.endl, h3, h1]
    have en : m.endl.n = 0 := by simp [Sc.endl, h3, h2]
    unfold runS
    split
    · exact .inl ⟨et, en⟩
    rename_i hc1
    split
    · exact runS_first s k m.endl et en rfl
    split
    · exact runS_first s k (m.fwd s 1) h1 h2 h3
    split
    · exact runS_first s k (m.fwd s _) h1 h2 h3
    split
    · rename_i h0
      obtain ⟨r, hr⟩ := runS_more s k (m.put s (pieceS (s.extract m.pos s.size)).1 (pieceS (s.extract m.pos s.size)).2.1.toNat)
      refine .inr ⟨m.pos, m.line, m.col, r, hc1, h0, ?_⟩
      rw [hr]; simp only [Sc.put, h1, List.nil_append]
    · exact .inl ⟨h1, h2⟩

theorem pieceS_kind3 (s : ByteArray) (h : (pieceS s).1 = 3) : classL (bs s) = 5 ∧ pieceS s = nameP (bs s) := by
  unfold pieceS at h ⊢
  split
  · rename_i h5; exact ⟨h5, rfl⟩
  · rename_i h5
    rw [if_neg h5] at h
    exfalso
    (repeat' split at h) <;> simp at h
theorem nameP_kind3 (l : Bytes) (h : (nameP l).1 = 3) : wordLen l ≤ 24 ∧ (∃ c, l[wordLen l]? = some c ∧ c.toNat = 46) ∧ classL (l.drop (wordLen l + 1)) = 5 ∧ wordLen (l.drop (wordLen l + 1)) ≤ 24 ∧
    nameP l = q4 3 (wordLen l + 1 + wordLen (l.drop (wordLen l + 1))) 0 0 := by
  unfold nameP at h ⊢
  by_cases h1 : 24 < wordLen l
  · rw [if_pos h1] at h; simp at h
  · rw [if_neg h1] at h ⊢
    split at h
    · rename_i h2
      split at h
      · simp at h
      · rename_i h3
        rw [if_pos h2, if_neg h3]
        refine ⟨by omega, ?_, h2.2, by omega, rfl⟩
        have := h2.1
        rw [List.head?_drop] at this
        obtain ⟨c, hc, he⟩ := Option.map_eq_some_iff.1 this
        exact ⟨c, hc, he⟩
    · simp at h
theorem nameP_port (l : Bytes) (h : fullFrom l 0 l = true) : classL l = 5 ∧ nameP l = q4 3 l.length 0 0 ∧ l.length ≤ 49 ∧ 3 ≤ l.length ∧ l.all (fun c => wordU c || c.toNat == 46) = true ∧ (∃ c, l[l.length - 1]? = some c ∧ wordU c = true) := by
  obtain ⟨d, c, hd, hc, h1, h2⟩ := fullFrom_cut l l 0 rfl h
  obtain ⟨a1, a2, a3⟩ := (isName_iff _).1 h1
  obtain ⟨b1, b2, b3⟩ := (isName_iff _).1 h2
  have hdl := (List.getElem?_eq_some_iff.1 hd).1
  have hl : l = l.take d ++ c :: l.drop (d + 1) := by rw [← drop_at hd, List.take_append_drop]
  have hw : wordLen l = d := by
    have := wordLen_app (l.take d) c (l.drop (d + 1)) a2 (dot_word c hc)
    rw [← hl, List.length_take] at this
    omega
  rw [List.length_take] at a3
  have hd1 : 1 ≤ d := by
    cases d with
    | zero => simp [classL] at a1
    | succ d => omega
  have hb1 : 1 ≤ (l.drop (d + 1)).length := by
    cases hx : l.drop (d + 1) with
    | nil => rw [hx] at b1; simp [classL] at b1
    | cons x r => simp
  have hbl : (l.drop (d + 1)).length = l.length - (d + 1) := List.length_drop
  refine ⟨?_, ?_, by omega, by omega, ?_, ?_⟩
  · cases l with
    | nil => simp at hd
    | cons x r =>
      cases d with
      | zero => omega
      | succ d => exact a1
  · unfold nameP
    have hw2 := (wordLen_all _).2 b2
    rw [hw, if_neg (by omega), if_pos ⟨by rw [List.head?_drop, hd]; simp [hc], b1⟩, if_neg (by omega), hw2]
    simp only [q4, Prod.mk.injEq, true_and, and_true]
    omega
  · rw [hl, List.all_append, List.all_cons, Bool.and_eq_true, Bool.and_eq_true]
    exact ⟨List.all_eq_true.2 fun x hx => by rw [List.all_eq_true.1 a2 x hx]; rfl, by simp [hc], List.all_eq_true.2 fun x hx => by rw [List.all_eq_true.1 b2 x hx]; rfl⟩
  · have hlt : l.length - 1 < l.length := by omega
    refine ⟨l[l.length - 1], List.getElem?_eq_getElem hlt, List.all_eq_true.1 b2 _ ?_⟩
    rw [List.mem_drop_iff_getElem]
    exact ⟨l.length - 1 - (d + 1), by omega, by congr 1; omega⟩

theorem isSp_word (c : UInt8) (h : wordU c = true) : Lib.isSp c = false ∧ c.toNat < 128 ∧ c ≠ 35 := by
  have := u8_all (p := fun c => wordU c && (Lib.isSp c || decide (128 ≤ c.toNat) || c == 35)) (q := fun _ => false) (by decide +kernel) c
  rw [h, Bool.true_and] at this
  simp only [Bool.or_eq_false_iff, decide_eq_false_iff_not, beq_eq_false_iff_ne] at this
  exact ⟨this.1.1, by omega, this.2⟩
theorem trim_word (l : Bytes) (h1 : classL l = 5) (h2 : ∃ c, l[l.length - 1]? = some c ∧ wordU c = true) : Lib.trimSpaceD l = l := by
  obtain ⟨c, hc, hw⟩ := h2
  have hw0 : ∃ x r, l = x :: r ∧ wordU x = true := by
    cases l with
    | nil => simp [classL] at h1
    | cons x r => exact ⟨x, r, rfl, by unfold wordU; rw [letterU, (class_letter _).1 h1]; rfl⟩
  obtain ⟨x, r, rfl, hx⟩ := hw0
  obtain ⟨s1, s2, _⟩ := isSp_word x hx
  obtain ⟨t1, t2, _⟩ := isSp_word c hw
  unfold Lib.trimSpaceD
  rw [List.length_cons, Lib.left_stop r.length x r s1 s2]
  have hsp : x :: r = (x :: r).take r.length ++ [c] := by
    have hlt : r.length < (x :: r).length := by simp
    have he : (x :: r)[r.length]? = some c := by simpa using hc
    have := drop_at he
    have hnil : (x :: r).drop (r.length + 1) = [] := by simp
    rw [hnil] at this
    rw [← this, List.take_append_drop]
  rw [hsp]
  exact Lib.right_stop r.length _ c t1 t2

/-- lower.token: what the four tests make of a text. -/
def tokS (s : ByteArray) : Bool :=
  decide (s.size ≤ 49) && (Lib.trimSpaceD (bs s) == bs s) && !decide (0 ≤ Lib.indexByte (bs s) 35) &&
    ((runS s (s.size + 1) ⟨0, 1, 1, false, 0, []⟩).1 == 0 && ((runS s (s.size + 1) ⟨0, 1, 1, false, 0, []⟩).2.n == 2 &&
      (tokKind (runS s (s.size + 1) ⟨0, 1, 1, false, 0, []⟩).2.toks == 3 && bs (tokText (runS s (s.size + 1) ⟨0, 1, 1, false, 0, []⟩).2.toks) == bs s)))

theorem tokS_full (s : ByteArray) : tokS s = fullFrom (bs s) 0 (bs s) := by
  rw [Bool.eq_iff_iff]
  constructor
  · intro h
    simp only [tokS, Bool.and_eq_true, beq_iff_eq] at h
    obtain ⟨_, h0, hn, hk, ht⟩ := h
    rcases runS_first s (s.size + 1) ⟨0, 1, 1, false, 0, []⟩ rfl rfl rfl with ⟨_, h2⟩ | ⟨p, line, col, rest, hp, he, htoks⟩
    · omega
    rw [htoks] at hk ht
    simp only [tokC, List.cons_append, tokKind, tokText] at hk ht
    have hps : p < s.size := Classical.byContradiction fun hc => hp (by rw [bs_drop_end s p hc]; rfl)
    have hsz := congrArg List.length ht
    rw [bs_length, bs_length, ByteArray.size_extract] at hsz
    obtain rfl : p = 0 := by omega
    have hall : s.extract 0 s.size = s := by
      apply ByteArray.ext; simp
    rw [hall] at hk hsz
    obtain ⟨h5, hp5⟩ := pieceS_kind3 s hk
    rw [hp5] at hk hsz
    obtain ⟨a1, ⟨c, a2, a3⟩, a4, a5, a6⟩ := nameP_kind3 _ hk
    rw [a6] at hsz
    have hw1 := wordLen_le (bs s)
    have hw2 := wordLen_le ((bs s).drop (wordLen (bs s) + 1))
    have hlt := (List.getElem?_eq_some_iff.1 a2).1
    rw [List.length_drop, bs_length] at hw2
    rw [bs_length] at hlt
    simp only at hsz
    have hall2 : wordLen ((bs s).drop (wordLen (bs s) + 1)) = ((bs s).drop (wordLen (bs s) + 1)).length := by
      rw [List.length_drop, bs_length]; omega
    have hcl : classL ((bs s).take (wordLen (bs s))) = 5 := by
      have hw0 := wordLen_pos (bs s) (.inl h5)
      cases hb : bs s with
      | nil => rw [hb] at h5; simp [classL] at h5
      | cons x r =>
        rw [hb] at h5 hw0
        obtain ⟨n, hn⟩ : ∃ n, wordLen (x :: r) = n + 1 := ⟨wordLen (x :: r) - 1, by omega⟩
        rw [hn]; exact h5
    have n1 : isName ((bs s).take (wordLen (bs s))) = true := (isName_iff _).2 ⟨hcl, take_wordLen _, by rw [List.length_take]; omega⟩
    have n2 : isName ((bs s).drop (wordLen (bs s) + 1)) = true := (isName_iff _).2 ⟨a4, (wordLen_all _).1 hall2, by omega⟩
    have := fullFrom_at (bs s) (wordLen (bs s)) c a2 a3 (take_wordLen _) (wordLen (bs s)) 0 (by omega)
    rw [List.drop_zero] at this
    rw [this, n1, n2]; rfl
  · intro h
    obtain ⟨h5, hP, h49, h3, hall, hlast⟩ := nameP_port _ h
    have hx : s.extract 0 s.size = s := by
      apply ByteArray.ext; simp
    have hpc : pieceS s = q4 3 s.size 0 0 := by
      unfold pieceS; rw [if_pos h5, hP, bs_length]
    have hrun : runS s (s.size + 1) ⟨0, 1, 1, false, 0, []⟩ = (0, ((⟨0, 1, 1, false, 0, []⟩ : Sc).put s 3 s.size).endl) := by
      obtain ⟨k, hk⟩ : ∃ k, s.size = k + 1 := ⟨s.size - 1, by rw [bs_length] at h3; omega⟩
      have hend : classL ((bs s).drop s.size) = 1 := by rw [bs_drop_end s s.size (by omega)]; rfl
      unfold runS
      simp only [List.drop_zero, h5, hx, hpc, q4]
      rw [if_neg (by decide), if_neg (by decide), if_neg (by decide), if_neg (by decide), if_pos trivial]
      simp only [Int.toNat_natCast]
      have : ∀ m : Sc, m.pos = s.size → runS s s.size m = (0, m.endl) := fun m hm => by
        rw [hk]; unfold runS; rw [hm, hend, if_pos rfl]
      exact this _ (by simp [Sc.put])
    unfold tokS
    rw [hrun]
    have h35 : ¬ 0 ≤ Lib.indexByte (bs s) 35 := fun hi => by
      obtain ⟨o, ho⟩ := Int.eq_ofNat_of_zero_le hi
      have hm := List.mem_of_getElem? (Lib.indexByte_some ho).1
      have := List.all_eq_true.1 hall _ hm
      revert this; decide
    simp only [bs_length] at h49
    simp only [h49, decide_true, trim_word _ h5 hlast, beq_self_eq_true, Bool.true_and, h35, decide_false, Bool.not_false]
    simp [Sc.put, Sc.endl, tokC, tokKind, tokText, hx]
end Go.Proofs.YtjokciofeicdkaaGreatDoor
