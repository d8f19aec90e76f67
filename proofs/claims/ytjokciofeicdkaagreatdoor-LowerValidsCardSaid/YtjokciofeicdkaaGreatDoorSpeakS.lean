/- Walks: speak (a quoted text). -/
import Derived.Test.YtjokciofeicdkaaGreatDoorEsc
namespace Go.Proofs.YtjokciofeicdkaaGreatDoor
open Go.RowKit

theorem get_extract (s : ByteArray) (a j : Nat) (h : a + j < s.size) : (s.extract a s.size).get! j = s.get! (a + j) := by
  have h2 : j < (s.extract a s.size).size := by simp [ByteArray.size_extract]; omega
  have e1 := get_at (s.extract a s.size) j h2
  have e2 := get_at s (a + j) h
  rw [Nat.add_zero] at e1 e2
  rw [e1, e2]
  have h3 := bs_at (s.extract a s.size) j h2
  have h4 := bs_at s (a + j) h
  rw [bs_from, List.getElem?_drop] at h3
  rw [h3] at h4
  exact Option.some.inj h4
theorem decode_extract (s : ByteArray) (a p : Nat) (ha : a ≤ s.size) (h : a + p < s.size) : Utf8.decode (s.extract a s.size) p = Utf8.decode s (a + p) := by
  have hs : (s.extract a s.size).size = s.size - a := by simp [ByteArray.size_extract]
  have g : ∀ k, a + p + k < s.size → (s.extract a s.size).get! (p + k) = s.get! (a + p + k) := fun k hk => by
    rw [get_extract s a (p + k) (by omega)]; congr 1; omega
  have c : ∀ k, (decide (p + k < (s.extract a s.size).size) && (((s.extract a s.size).get! (p + k)).toNat / 64 == 2)) = (decide (a + p + k < s.size) && ((s.get! (a + p + k)).toNat / 64 == 2)) := fun k => by
    by_cases hk : a + p + k < s.size
    · rw [g k hk, decide_eq_true hk, decide_eq_true (by omega)]
    · rw [decide_eq_false hk, decide_eq_false (by omega)]; rfl
  unfold Utf8.decode
  simp only [c 1, c 2, c 3, g 0 (by omega)]
  by_cases h1 : a + p + 1 < s.size
  · simp only [g 1 h1]
    by_cases h2 : a + p + 2 < s.size
    · simp only [g 2 h2]
      by_cases h3 : a + p + 3 < s.size
      · simp only [g 3 h3, Nat.add_zero]
      · simp only [decide_eq_false h3, Bool.false_and, Bool.and_false, Bool.false_eq_true, if_false, Nat.add_zero]
    · have h3 : ¬ a + p + 3 < s.size := by omega
      simp only [decide_eq_false h3, decide_eq_false h2, Bool.false_and, Bool.and_false, Bool.false_eq_true, if_false, Nat.add_zero]
  · have h3 : ¬ a + p + 3 < s.size := by omega
    have h2 : ¬ a + p + 2 < s.size := by omega
    simp only [decide_eq_false h3, decide_eq_false h2, decide_eq_false h1, Bool.false_and, Bool.and_false, Bool.false_eq_true, if_false, Nat.add_zero]
theorem width_le (s : ByteArray) (p : Nat) (h : p < s.size) : p + (Utf8.decode s p).2 ≤ s.size := by
  unfold Utf8.decode
  simp only [Bool.and_eq_true, decide_eq_true_eq]
  (repeat' split) <;> simp only [] <;> omega

/-- A quoted text from a place on: what it says (as numbers), where it ends, the error. -/
def speakS (s : ByteArray) (lines : Bool) : Nat → Nat → List Int → List Int × Nat × Int
  | 0, i, _ => ([], i, 32)
  | n + 1, i, said =>
    if i < s.size then
      if (Utf8.decode s i).1 = 34 then (said, i + 1, 0)
      else if (Utf8.decode s i).1 = 92 then
        if (escS (s.extract i s.size)).2 = 0 then ([], i, 34)
        else speakS s lines n (i + (escS (s.extract i s.size)).2) (said ++ (escS (s.extract i s.size)).1)
      else if (Utf8.decode s i).1 = 10 ∧ lines = true then ([], i, 32)
      else if (Utf8.decode s i).1 < 32 ∨ (Utf8.decode s i).1 = 127 ∨ looseS s i (Utf8.decode s i).1 = true then ([], i, 33)
      else speakS s lines n (i + (Utf8.decode s i).2) (said ++ Lib.encodeRuneZ (Utf8.decode s i).1)
    else ([], s.size, 32)

def SpkPost (w : World) (R : List Int × Nat × Int) (e : Ending) (w' : World) : Prop :=
  ∃ sv, e = .returned (.tuple #[sv, .int .i64 R.2.1, .int .i64 R.2.2]) ∧ w'.ownsRow w.heap.size 5 1 sv R.1.length (u8s R.1) ∧ Below w.heap.size w w'
theorem spk_err (w w' : World) (i : Nat) (k : Int) (hb : Below w.heap.size w w') (R : List Int × Nat × Int) (h : R = ([], i, k)) :
    SpkPost w R (.returned (.tuple #[.slice none 0 0, .int .i64 i, .int .i64 k])) w' := by subst h; exact ⟨_, rfl, World.ownsRow_nil _ _ _ _, hb⟩

theorem escS_le (s : ByteArray) : (escS s).2 ≤ s.size ∧ ((escS s).2 ≠ 0 → 1 ≤ (escS s).1.length ∧ (escS s).1.length ≤ 4) := by
  have hz : ∀ r : Int, 1 ≤ (Lib.encodeRuneZ r).length ∧ (Lib.encodeRuneZ r).length ≤ 4 := fun r => by
    unfold Lib.encodeRuneZ; (repeat' split) <;> simp
  have hU : (escU s).2 ≤ s.size ∧ ((escU s).2 ≠ 0 → 1 ≤ (escU s).1.length ∧ (escU s).1.length ≤ 4) := by
    unfold escU
    by_cases hp : Lib.hasPrefix (bs s) [92, 117, 123] = false
    · rw [if_pos hp]; simp
    · rw [if_neg hp]
      have h3 : 3 ≤ s.size := by
        have hp' : Lib.hasPrefix (bs s) [92, 117, 123] = true := by simpa using hp
        unfold Lib.hasPrefix at hp'
        have := List.IsPrefix.length_le (List.isPrefixOf_iff_prefix.1 hp')
        rw [bs_length] at this
        exact this
      unfold Lib.cut
      by_cases hi : 0 ≤ Lib.index (bs (s.extract 3 s.size)) [125]
      · rw [if_pos hi]
        dsimp only
        rw [if_neg (by simp)]
        have hil : (Lib.index (bs (s.extract 3 s.size)) [125]).toNat + 1 ≤ (bs (s.extract 3 s.size)).length := by
          rw [Lib.index_one] at hi ⊢
          obtain ⟨o, ho⟩ := Int.eq_ofNat_of_zero_le hi
          rw [ho]
          have h1 := (Lib.indexByte_some ho).1
          have h2 := (List.getElem?_eq_some_iff.1 h1).1
          simp; omega
        rw [bs_length, ByteArray.size_extract] at hil
        split
        · simp
        · split
          · simp
          · dsimp only
            rw [List.length_take]
            refine ⟨by omega, fun _ => hz _⟩
      · rw [if_neg hi]
        simp
  unfold escS
  by_cases h2 : s.size < 2
  · rw [dif_pos h2]; simp
  · rw [dif_neg h2]
    (repeat' split) <;> first | exact hU | (simp; done) | (simp; omega) | (rename_i v h; have h4 : 4 ≤ s.size := Classical.byContradiction (fun hc => by rw [if_neg (fun h' => hc h'.2)] at h; cases h); simp; omega)

def SpkJ (s : ByteArray) (lines : Bool) (w0 : World) (R : List Int × Nat × Int) : Act → World → Prop := fun a' w' =>
  ∃ (p n : Nat) (pz : Int) (said : List Int) (v : Value) (u8 u9 u10 u11 u12 u13 u14 u15 u16 u17 u18 u19 u20 u21 u22 u23 u24 u25 u26 u27 u28 u29 u30 u31 u32 u33 u34 u35 u36 u37 u38 u39 u40 u41 u42 u43 u44 u45 u46 u47 u48 u49 u50 u51 u52 u53 u54 u55 u56 u57 u58 u59 u60 u61 u62 u63 u64 u65 u66 u67 u68 u69 u70 u71 u72 u73 : Value),
    a' = { tmps := #[.string s, .bool lines, undef, undef, v, .int .i64 0, .int .i64 0, .int .i64 pz, u8, u9, u10, u11, u12, u13, u14, u15, u16, u17, u18, u19, u20, u21, u22, u23, u24, u25, u26, u27, u28, u29, u30, u31, u32, u33, u34, u35, u36, u37, u38, u39, u40, u41, u42, u43, u44, u45, u46, u47, u48, u49, u50, u51, u52, u53, u54, u55, u56, u57, u58, u59, u60, u61, u62, u63, u64, u65, u66, u67, u68, u69, u70, u71, u72, u73], defers := [] } ∧
    pz = (p : Int) ∧ p ≤ s.size ∧ s.size - p < n ∧ said.length ≤ 4 * p ∧ Hid (R = speakS s lines n p said) ∧ Hid (w'.ownsRow w0.heap.size 5 1 v said.length (u8s said)) ∧ Below w0.heap.size w0 w'
end Go.Proofs.YtjokciofeicdkaaGreatDoor

namespace Go.Proofs.YtjokciofeicdkaaGreatDoor
open Go.RowKit

/-- One label: as the kit's rule, but the pass may be used for the first way too. -/
theorem wp_scope_again {P : Program} {a : Act} {w : World} {Q : Exit → Act → World → Prop} {c y : Code} (l : Nat) (J : Act → World → Prop) (μ : Act → World → Nat) (hf : findLabel c l = some (Code.seq .skip y))
    (pass : ∀ a w, J a w → y.wp P (Exit.jump l (fun a' w' => J a' w' ∧ μ a' w' < μ a w) Q) a w)
    (first : (∀ a w, J a w → y.wp P (Exit.jump l J Q) a w) → c.wp P (Exit.jump l J Q) a w) : (Code.scope c).wp P Q a w :=
  wp_scope_jumps l J μ hf (first fun a w hJ => Code.wp_mono (fun e a' w' h => by
    cases e <;> first | exact h | exact ⟨h.1, h.2.1⟩) (pass a w hJ)) fun a w hJ => wp_seq (wp_skip (pass a w hJ))

/-- Many labels. -/
def Exit.jumps (J : Nat → Act → World → Prop) (Q : Exit → Act → World → Prop) : Exit → Act → World → Prop
  | .goto l, a, w => J l a w
  | e, a, w => Q e a w

theorem wp_scope_many {P : Program} {a : Act} {w : World} {Q : Exit → Act → World → Prop} {c : Code} (J : Nat → Act → World → Prop) (μ : Nat → Act → World → Nat)
    (pass : ∀ l a w, J l a w → ∃ rest, findLabel c l = some rest ∧ rest.wp P (Exit.jumps (fun l' a' w' => J l' a' w' ∧ μ l' a' w' < μ l a w) Q) a w)
    (first : c.wp P (Exit.jumps J Q) a w) : (Code.scope c).wp P Q a w := by
  intro b k cs
  have key : ∀ n l a w, μ l a w = n → J l a w → ∀ rest, findLabel c l = some rest → ∃ e a' w', Q e a' w' ∧ Arrives P (lone (b.at a (.code rest :: .inScope c :: k)) cs w) b k cs e a' w' := by
    intro n
    induction n using Nat.strongRecOn with
    | _ n ih =>
      intro l a w hn hJ rest hr
      obtain ⟨rest', hr', hp⟩ := pass l a w hJ
      rw [hr] at hr'
      cases hr'
      obtain ⟨e, a₁, w₁, hq, harr⟩ := hp b (.inScope c :: k) cs
      cases e with
      | normal => exact ⟨.normal, a₁, w₁, hq, Steps.trans harr (.one step_inScope)⟩
      | exit id => exact ⟨.exit id, a₁, w₁, hq, fun k' hk => harr k' (by simp [exitTo, hk])⟩
      | goto l' =>
        obtain ⟨hJ', hlt⟩ := hq
        obtain ⟨rest₂, hr₂, _⟩ := pass l' a₁ w₁ hJ'
        obtain ⟨e₂, a₂, w₂, hq₂, harr₂⟩ := ih _ (by omega) l' a₁ w₁ rfl hJ' rest₂ hr₂
        exact ⟨e₂, a₂, w₂, hq₂, .of_steps (harr _ (by simp [gotoIn, hr₂])) harr₂⟩
      | ret => exact ⟨_, a₁, w₁, hq, harr⟩
      | panic ch => exact ⟨_, a₁, w₁, hq, harr⟩
      | outgrown => exact ⟨_, a₁, w₁, hq, harr⟩
  obtain ⟨e, a₁, w₁, hq, harr⟩ := first b (.inScope c :: k) cs
  cases e with
  | normal => exact ⟨.normal, a₁, w₁, hq, .head step_scope (Steps.trans harr (.one step_inScope))⟩
  | exit id => exact ⟨.exit id, a₁, w₁, hq, fun k' hk => .head step_scope (harr k' (by simp [exitTo, hk]))⟩
  | goto l' =>
    obtain ⟨rest₂, hr₂, _⟩ := pass l' a₁ w₁ hq
    obtain ⟨e₂, a₂, w₂, hq₂, harr₂⟩ := key _ l' a₁ w₁ rfl hq rest₂ hr₂
    exact ⟨e₂, a₂, w₂, hq₂, .of_steps (.head step_scope (harr _ (by simp [gotoIn, hr₂]))) harr₂⟩
  | ret => exact ⟨_, a₁, w₁, hq, .of_steps (.one step_scope) harr⟩
  | panic ch => exact ⟨_, a₁, w₁, hq, .of_steps (.one step_scope) harr⟩
  | outgrown => exact ⟨_, a₁, w₁, hq, .of_steps (.one step_scope) harr⟩

theorem wp_scope_many2 {P : Program} {a : Act} {w : World} {Q : Exit → Act → World → Prop} {c : Code} (J : Nat → Act → World → Prop) (μ : Nat → Act → World → Nat)
    (pass : ∀ l a w, J l a w → ∃ y, findLabel c l = some (Code.seq .skip y) ∧ y.wp P (Exit.jumps (fun l' a' w' => J l' a' w' ∧ μ l' a' w' < μ l a w) Q) a w)
    (first : (∀ l a w, J l a w → ∃ y, findLabel c l = some (Code.seq .skip y) ∧ y.wp P (Exit.jumps J Q) a w) → c.wp P (Exit.jumps J Q) a w) : (Code.scope c).wp P Q a w :=
  wp_scope_many J μ (fun l a w h => let ⟨y, hy, hw⟩ := pass l a w h; ⟨_, hy, wp_seq (wp_skip hw)⟩) (first fun l a w h => let ⟨y, hy, hw⟩ := pass l a w h; ⟨y, hy, Code.wp_mono (fun e a' w' h' => by
    cases e <;> first | exact h' | exact h'.1) hw⟩)

theorem wp_label_then {P : Program} {a : Act} {w : World} {Q : Exit → Act → World → Prop} {l : Nat} {y : Code} (h : y.wp P Q a w) : (Code.seq (.label l) y).wp P Q a w :=
  wp_seq (wp_label h)

end Go.Proofs.YtjokciofeicdkaaGreatDoor
