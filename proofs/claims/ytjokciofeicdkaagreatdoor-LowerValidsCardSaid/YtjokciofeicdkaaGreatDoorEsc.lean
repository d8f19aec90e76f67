/- Walks: loose, escape. -/
import Derived.Test.YtjokciofeicdkaaGreatDoorPat
import Derived.Lib.RuneBytes
namespace Go.Proofs.YtjokciofeicdkaaGreatDoor
open Go.RowKit

def looseS (s : ByteArray) (p : Nat) (c : Int) : Bool := c == 65533 && (Lib.decodeGo (s.extract p s.size)).2 == 1
set_option maxHeartbeats 400000 in
theorem loose_any (s : ByteArray) (p : Nat) (c : Int) (hp : p ≤ s.size) (w : World) (E : Env w) :
    Calls Tryz.prog 121 #[.string s, .int .i64 p, .int .i32 c] w fun e w' => e = .returned (.bool (looseS s p c)) ∧ Below w.heap.size w w' := by
  by_cases hc : c = 65533
  · have H := Lib.hid (show looseS s p c = ((Lib.decodeGo (s.extract p s.size)).2 == 1) by rw [hc]; rfl)
    have c1 := Lib.hid (Tryz.utf8_DecodeRuneInString (s.extract p s.size) w E.u8)
    have hc' : (c != 65533) = false := by rw [hc]; rfl
    generalize Lib.decodeGo (s.extract p s.size) = q at *
    obtain ⟨q1, q2⟩ := q
    dsimp only at *
    clear hc
    by_cases h1 : q2 = 1
    · have H2 := Lib.hid (H.out.trans (beq_iff_eq.2 h1))
      subst h1
      clear H
      go_enter Tryz.func121, Tryz.ntmps121
      go_wp2_with fail
      refine c1.out.mono ?_
      rintro e w1 ⟨rfl, hb⟩
      go_wp2_with fail
      go_ret
      exact ⟨ret_bool H2.out.symm, hb⟩
    · have H2 := Lib.hid (H.out.trans (beq_eq_false_iff_ne.2 h1))
      have h1' : ((q2 : Int) == 1) = false := by simp; omega
      clear H h1
      go_enter Tryz.func121, Tryz.ntmps121
      go_wp2_with fail
      refine c1.out.mono ?_
      rintro e w1 ⟨rfl, hb⟩
      go_wp2_with fail
      go_ret
      exact ⟨ret_bool H2.out.symm, hb⟩
  · have H := Lib.hid (show looseS s p c = false by unfold looseS; rw [beq_eq_false_iff_ne.2 hc]; rfl)
    have hc' : (c != 65533) = true := by rw [bne_iff_ne]; exact hc
    clear hc
    go_enter Tryz.func121, Tryz.ntmps121
    go_wp2_with fail
    go_ret
    exact ⟨ret_bool H.out.symm, Below.refl _ _⟩

/-- The escape by a character's number. -/
def escU (s : ByteArray) : List Int × Nat :=
  if Lib.hasPrefix (bs s) [92, 117, 123] = false then ([], 0) else
  if (Lib.cut (bs (s.extract 3 s.size)) [125]).2.2 = false then ([], 0) else
  match basedS 16 6 (Lib.cut (bs (s.extract 3 s.size)) [125]).1 with
  | none => ([], 0)
  | some v => if Lib.validRune v = false then ([], 0) else (Lib.encodeRuneZ v, (Lib.cut (bs (s.extract 3 s.size)) [125]).1.length + 4)
/-- The escape at a text's beginning: what it says (as numbers) and its size; size 0: it is none. -/
def escS (s : ByteArray) : List Int × Nat :=
  if h : s.size < 2 then ([], 0) else
  if s[1].toNat = 34 then ([34], 2) else if s[1].toNat = 92 then ([92], 2) else if s[1].toNat = 110 then ([10], 2) else
  if s[1].toNat = 114 then ([13], 2) else if s[1].toNat = 116 then ([9], 2) else
  match (if s[1].toNat = 120 ∧ 4 ≤ s.size then basedS 16 2 (bs (s.extract 2 4)) else none) with
  | some v => ([(v : Int)], 4)
  | none => escU s

def u8s (l : List Int) : List Value := l.map (Value.int .u8)
def EscPost (w : World) (q : List Int × Nat) (e : Ending) (w' : World) : Prop :=
  ∃ sv, e = .returned (.tuple #[sv, .int .i64 q.2]) ∧ w'.ownsRow w.heap.size 5 1 sv q.1.length (u8s q.1) ∧ Below w.heap.size w w'
theorem esc_nil (w w' : World) (hb : Below w.heap.size w w') : EscPost w ([], 0) (.returned (.tuple #[.slice none 0 0, .int .i64 0])) w' :=
  ⟨_, rfl, World.ownsRow_nil _ _ _ _, hb⟩
theorem esc_one (w w1 : World) (v : Int) (k : Nat) (hb : Below w.heap.size w w1) :
    EscPost w ([v], k) (.returned (.tuple #[.slice (some ⟨w1.heap.size, 0, none⟩) 1 1, .int .i64 k])) (w1.alloc (.cells #[.int .u8 v] 5)) :=
  ⟨_, rfl, ⟨rfl, .inr ⟨w1.heap.size, 1, #[.int .u8 v], rfl, hb.size, heap_alloc_new _ _, Nat.le_refl 1, by decide, rfl, rfl⟩⟩, hb.alloc hb.size _⟩
theorem basedS_bd {most : Nat} {l : Bytes} {v : Nat} (h : basedS 16 most l = some v) : v < 16 ^ most := by
  unfold basedS at h
  split at h
  · cases h
  · rename_i h1
    split at h
    · cases h
    · have := based_lt 16 (by decide) l 0 v h
      have h2 : l.length ≤ most := Nat.not_lt.1 (fun e => h1 (.inr e))
      have h3 := Nat.pow_le_pow_right (n := 16) (by decide) h2
      omega

theorem own_base {w : World} {base base' : Nat} {e : TypeId} {size n : Nat} {v : Value} {xs : List Value} (h : w.ownsRow base e size v n xs) (hb : base' ≤ base) : w.ownsRow base' e size v n xs := by
  obtain ⟨h1, h2⟩ := h
  refine ⟨h1, ?_⟩
  rcases h2 with h2 | ⟨g, cap, cur, hv, hg, r⟩
  · exact .inl h2
  · exact .inr ⟨g, cap, cur, hv, Nat.le_trans hb hg, r⟩
theorem below_grown_none {B : Nat} {a w w' : World} {o : Obj} (h : Below B a w) (hB : B ≤ w.heap.size) (hg : (w.alloc o).grownBy w' none) : Below B a w' :=
  (h.alloc hB o).grown hg (by simp; omega) (fun k hk => by cases hk)
theorem cut_length (l sep : Bytes) : (Lib.cut l sep).1.length ≤ l.length := by
  unfold Lib.cut; split
  · simp; omega
  · exact Nat.le_refl _

set_option maxHeartbeats 1600000 in
set_option maxRecDepth 100000 in
theorem escape_any (s : ByteArray) (hs : s.size < 4294967281) (w : World) (E : Env w) :
    Calls Tryz.prog 120 #[.string s] w fun e w' => EscPost w (escS s) e w' := by
  by_cases h2 : s.size < 2
  · have H := Lib.hid (show escS s = ([], 0) by unfold escS; rw [dif_pos h2])
    rw [H.out]
    clear H
    go_enter Tryz.func120, Tryz.ntmps120
    go_wp2
    go_ret2
    exact esc_nil _ _ (Below.refl _ _)
  have HS := Lib.hid (show escS s = if s[1].toNat = 34 then ([34], 2) else if s[1].toNat = 92 then ([92], 2) else if s[1].toNat = 110 then ([10], 2) else
    if s[1].toNat = 114 then ([13], 2) else if s[1].toNat = 116 then ([9], 2) else
    match (if s[1].toNat = 120 ∧ 4 ≤ s.size then basedS 16 2 (bs (s.extract 2 4)) else none) with
    | some v => ([(v : Int)], 4)
    | none => escU s by
    unfold escS; rw [dif_neg h2])
  have c1 := Lib.hid (fun w => Tryz.strings_IndexByte ⟨#[34, 92, 110, 114, 116]⟩ (s[1].toNat : Int) w)
  have hback : ((s[1].toNat : Int).toNat.toUInt8) = s[1] := by simp
  rw [hback] at c1
  clear hback
  have HE := Lib.hid E
  obtain ⟨m0, hm0⟩ := E.maxlen
  have hm0 := Lib.hid hm0
  clear E
  by_cases hlit : s[1].toNat = 34 ∨ s[1].toNat = 92 ∨ s[1].toNat = 110 ∨ s[1].toNat = 114 ∨ s[1].toNat = 116
  · have lit : ∀ (i v : Nat), Lib.indexByte [34, 92, 110, 114, 116] s[1] = i → (⟨#[34, 92, 10, 13, 9]⟩ : ByteArray).data.toList[i]? = some (UInt8.ofNat v) → i < 5 → v < 256 → escS s = ([(v : Int)], 2) →
        Calls Tryz.prog 120 #[.string s] w fun e w' => EscPost w (escS s) e w' := fun i v h1 h3 h4 h5 h6 => by
      have H := Lib.hid h6
      have c1' := Lib.hid (c1.out w)
      rw [show Lib.indexByte (⟨#[34, 92, 110, 114, 116]⟩ : ByteArray).data.toList s[1] = i from h1] at c1'
      rw [H.out]
      clear h1 h6 HS hlit c1 H
      have hi : i = 0 ∨ i = 1 ∨ i = 2 ∨ i = 3 ∨ i = 4 := by omega
      have hv : i = 0 ∧ v = 34 ∨ i = 1 ∧ v = 92 ∨ i = 2 ∧ v = 10 ∨ i = 3 ∧ v = 13 ∨ i = 4 ∧ v = 9 := by
        rcases hi with rfl | rfl | rfl | rfl | rfl <;> simp at h3 <;> have h7 := congrArg UInt8.toNat h3 <;> simp at h7 <;> omega
      clear h3 h4 h5 hi
      rcases hv with ⟨rfl, rfl⟩ | ⟨rfl, rfl⟩ | ⟨rfl, rfl⟩ | ⟨rfl, rfl⟩ | ⟨rfl, rfl⟩
      all_goals
        go_enter Tryz.func120, Tryz.ntmps120
        go_wp2_with fail
        refine c1'.out.mono ?_
        rintro e w1 ⟨rfl, rfl⟩
        go_wp2_with fail
        go_ret2
        exact esc_one w1 w1 _ 2 (Below.refl _ _)
    have hu : ∀ n : Nat, s[1].toNat = n → s[1] = UInt8.ofNat n := fun n h => by rw [← h]; simp
    rcases hlit with h | h | h | h | h
    · exact lit 0 34 (by rw [hu _ h]; decide) rfl (by decide) (by decide) (by rw [HS.out, if_pos h]; rfl)
    · exact lit 1 92 (by rw [hu _ h]; decide) rfl (by decide) (by decide) (by rw [HS.out, if_neg (by omega), if_pos h]; rfl)
    · exact lit 2 10 (by rw [hu _ h]; decide) rfl (by decide) (by decide) (by rw [HS.out, if_neg (by omega), if_neg (by omega), if_pos h]; rfl)
    · exact lit 3 13 (by rw [hu _ h]; decide) rfl (by decide) (by decide) (by rw [HS.out, if_neg (by omega), if_neg (by omega), if_neg (by omega), if_pos h]; rfl)
    · exact lit 4 9 (by rw [hu _ h]; decide) rfl (by decide) (by decide) (by rw [HS.out, if_neg (by omega), if_neg (by omega), if_neg (by omega), if_neg (by omega), if_pos h]; rfl)
  have c1' := Lib.hid (c1.out w)
  have hm1 : Lib.indexByte (⟨#[34, 92, 110, 114, 116]⟩ : ByteArray).data.toList s[1] = -1 := by
    have hne : ∀ c : UInt8, (c.toNat = 34 ∨ c.toNat = 92 ∨ c.toNat = 110 ∨ c.toNat = 114 ∨ c.toNat = 116) → (c == s[1]) = false := fun c hc => by
      rw [beq_eq_false_iff_ne]; rintro rfl; exact hlit hc
    show Lib.indexByte [34, 92, 110, 114, 116] s[1] = -1
    simp only [Lib.indexByte, hne 34 (by decide), hne 92 (by decide), hne 110 (by decide), hne 114 (by decide), hne 116 (by decide)]
    rfl
  rw [hm1] at c1'
  clear hm1 c1
  have HS := Lib.hid (show escS s = match (if s[1].toNat = 120 ∧ 4 ≤ s.size then basedS 16 2 (bs (s.extract 2 4)) else none) with
    | some v => ([(v : Int)], 4)
    | none => escU s by
    rw [HS.out, if_neg (by omega), if_neg (by omega), if_neg (by omega), if_neg (by omega), if_neg (by omega)])
  clear hlit
  have cb := Lib.hid (fun w E => based_any 16 2 (.inl ⟨rfl, by decide⟩) (s.extract 2 4) (by have := size_extract_le s 2 4; omega) w E)
  have hbd := Lib.hid (show ∀ v, basedS 16 2 (bs (s.extract 2 4)) = some v → v < 256 from fun v h => basedS_bd h)
  have cp := Lib.hid (fun w => Tryz.strings_HasPrefix s ⟨#[92, 117, 123]⟩ w)
  go_enter Tryz.func120, Tryz.ntmps120
  go_upto_region 6 with (go_at_call 155; refine (c1'.out.mono (R' := fun e w' => e = .returned (.int .i64 (-1)) ∧ w = w') (fun _ _ h => ⟨h.1, h.2.symm⟩)).mono ?_; rintro e w1 ⟨rfl, rfl⟩)
  go_cut [29] (fun v wx => wx = w ∧ v = .bool (decide (s[1].toNat = 120 ∧ 4 ≤ s.size)))
  case first =>
    go_wp2_with fail
    all_goals go_meet
    all_goals (refine ⟨rfl, val_bool ?_⟩; rw [Bool.eq_iff_iff]; simp; omega)
  case rest =>
  obtain ⟨rfl, rfl⟩ := hcut
  obtain ⟨B, hB⟩ : ∃ B, B = decide (s[1].toNat = 120 ∧ 4 ≤ s.size) := ⟨_, rfl⟩
  rw [← hB]
  have hB' := Lib.hid hB
  clear hB
  go_upto_if 29 with fail
  go_cut [5, 6] (fun _ _ wx => Below wc.heap.size wc wx ∧ Hid (escS s = escU s))
  case first =>
    cases B with
    | true =>
      have hx := of_decide_eq_true hB'.out.symm
      have h4 := hx.2
      have HS2 := Lib.hid (show escS s = match basedS 16 2 (bs (s.extract 2 4)) with | some v => ([(v : Int)], 4) | none => escU s by
        rw [HS.out, if_pos hx])
      clear HS hx hB'
      generalize basedS 16 2 (bs (s.extract 2 4)) = o at *
      go_wp2_with fail
      refine (cb.out _ HE.out).mono ?_
      rintro e w2 ⟨rfl, hb2⟩
      cases o with
      | none =>
        unfold optT
        dsimp only [Option.getD_none, Option.isSome_none]
        have HS3 := Lib.hid (show escS s = escU s from HS2.out)
        go_wp2_with fail
        go_meet
        exact ⟨hb2, HS3⟩
      | some v =>
        unfold optT
        dsimp only [Option.getD_some, Option.isSome_some]
        have hv : v < 256 := hbd.out v rfl
        have HS3 := Lib.hid (show escS s = ([(v : Int)], 4) from HS2.out)
        go_wp2_with fail
        go_ret2
        rw [HS3.out]
        exact esc_one _ _ _ 4 hb2
    | false =>
      have HS2 := Lib.hid (show escS s = escU s by rw [HS.out, if_neg (of_decide_eq_false hB'.out.symm)])
      clear HS hB'
      go_wp2_with fail
      go_meet
      exact ⟨Below.refl _ _, HS2⟩
  case rest =>
    obtain ⟨hbc, HSc⟩ := hcut
    clear HS cb hbd c1'
    have HEc := Lib.hid (HE.out.below hbc)
    have hmc := Lib.hid (cell_below hbc hm0.out)
    clear HE hm0
    by_cases hp : Lib.hasPrefix (bs s) [92, 117, 123] = true
    · have cp' := Lib.hid (show ∀ w, Calls Tryz.prog 156 #[.string s, .string ⟨#[92, 117, 123]⟩] w fun e w' => e = .returned (.bool true) ∧ w = w' from fun w => by
        have := cp.out w
        rw [show Lib.hasPrefix s.data.toList (⟨#[92, 117, 123]⟩ : ByteArray).data.toList = true from hp] at this
        exact this.mono fun _ _ h => ⟨h.1, h.2.symm⟩)
      have h3 : 3 ≤ s.size := by
        unfold Lib.hasPrefix at hp
        have := List.IsPrefix.length_le (List.isPrefixOf_iff_prefix.1 hp)
        rw [bs_length] at this
        exact this
      have HU := Lib.hid (show escU s = if (Lib.cut (bs (s.extract 3 s.size)) [125]).2.2 = false then ([], 0) else
          match basedS 16 6 (Lib.cut (bs (s.extract 3 s.size)) [125]).1 with
          | none => ([], 0)
          | some v => if Lib.validRune v = false then ([], 0) else (Lib.encodeRuneZ v, (Lib.cut (bs (s.extract 3 s.size)) [125]).1.length + 4) by
        unfold escU; rw [if_neg (by rw [hp]; simp)])
      have cc := Lib.hid (fun w (h : w.cell? ⟨5, 0, none⟩ = some (.int .i64 m0)) => Tryz.strings_Cut (s.extract 3 s.size) ⟨#[125]⟩ m0 w (by have := size_extract_le s 3 s.size; omega) h)
      have hcl := Lib.hid (show (Lib.cut (bs (s.extract 3 s.size)) [125]).1.length ≤ s.size by
        have := cut_length (bs (s.extract 3 s.size)) [125]
        have h2 := size_extract_le s 3 s.size
        rw [bs_length] at this; omega)
      rw [show (s.extract 3 s.size).data.toList = bs (s.extract 3 s.size) from rfl, show (⟨#[125]⟩ : ByteArray).data.toList = [125] from rfl] at cc
      clear hp cp
      generalize Lib.cut (bs (s.extract 3 s.size)) [125] = q at *
      obtain ⟨ds, q2, ok⟩ := q
      dsimp only at cc HU hcl
      cases ok with
      | false =>
        have HU2 := Lib.hid (show escS s = ([], 0) by rw [HSc.out, HU.out]; rfl)
        clear HU HSc
        go_wp2_with fail
        refine (cp'.out _).mono ?_
        rintro e w2 ⟨rfl, rfl⟩
        go_wp2_with fail
        refine (cc.out _ hmc.out).mono ?_
        rintro e w2 ⟨rfl, n2, rfl⟩
        go_wp2_with fail
        go_ret2
        rw [HU2.out]
        exact esc_nil _ _ (below_drewN hbc _)
      | true =>
        have cb := Lib.hid (fun w E => based_any 16 6 (.inl ⟨rfl, by decide⟩) (ByteArray.mk ds.toArray) (by rw [size_mk]; have := hcl.out; omega) w E)
        rw [show bs (ByteArray.mk ds.toArray) = ds by simp [bs]] at cb
        have hbd := Lib.hid (show ∀ v, basedS 16 6 ds = some v → v < 16777216 from fun v h => basedS_bd h)
        have HU2 := Lib.hid (show escS s = match basedS 16 6 ds with
          | none => ([], 0)
          | some v => if Lib.validRune v = false then ([], 0) else (Lib.encodeRuneZ v, ds.length + 4) by rw [HSc.out, HU.out]; rfl)
        clear HU HSc
        have hsz : ((ByteArray.mk ds.toArray).size : Int) = (ds.length : Int) := by rw [size_mk]
        generalize basedS 16 6 ds = o at *
        have hcl' := hcl.out
        cases o with
        | none =>
          have HU3 := Lib.hid (show escS s = ([], 0) from HU2.out)
          clear HU2
          unfold optT at cb
          dsimp only [Option.getD_none, Option.isSome_none] at cb
          go_wp2_with fail
          refine (cp'.out _).mono ?_
          rintro e w2 ⟨rfl, rfl⟩
          go_wp2_with fail
          refine (cc.out _ hmc.out).mono ?_
          rintro e w2 ⟨rfl, n2, rfl⟩
          go_wp2_with fail
          refine (cb.out _ (HEc.out.drewN _)).mono ?_
          rintro e w3 ⟨rfl, hb3⟩
          go_wp2_with fail
          go_ret2
          rw [HU3.out]
          exact esc_nil _ _ ((below_drewN hbc n2).trans (hb3.mono (below_drewN hbc n2).size))
        | some v =>
          have hv : v < 16777216 := hbd.out v rfl
          unfold optT at cb
          dsimp only [Option.getD_some, Option.isSome_some] at cb
          have cv := Lib.hid (fun w => Tryz.utf8_ValidRune (v : Int) w)
          by_cases hok : Lib.validRune v = true
          · have HU3 := Lib.hid (show escS s = (Lib.encodeRuneZ v, ds.length + 4) by
              rw [HU2.out]; show (if Lib.validRune v = false then _ else _) = _; rw [hok]; rfl)
            rw [hok] at cv
            have ca := Lib.hid (fun w => Tryz.utf8_AppendRune_plain w.heap.size (.slice none 0 0) 0 [] (v : Int) (by omega) (by omega) w (World.ownsRow_nil _ _ _ _) (by decide) (Nat.le_refl _))
            clear HU2 hok
            go_wp2_with fail
            refine (cp'.out _).mono ?_
            rintro e w2 ⟨rfl, rfl⟩
            go_wp2_with fail
            refine (cc.out _ hmc.out).mono ?_
            rintro e w2 ⟨rfl, n2, rfl⟩
            go_wp2_with fail
            refine (cb.out _ (HEc.out.drewN _)).mono ?_
            rintro e w3 ⟨rfl, hb3⟩
            go_wp2_with fail
            refine (cv.out _).mono ?_
            rintro e w4 ⟨rfl, rfl⟩
            go_wp2_with fail
            refine (ca.out _).mono ?_
            rintro e w5 ⟨v5, rfl, hown5, o5, hg5⟩
            go_wp2_with fail
            go_ret2
            rw [HU3.out]
            refine ⟨v5, ?_, ?_, below_grown_none ((below_drewN hbc n2).trans (hb3.mono (below_drewN hbc n2).size)) (Nat.le_trans (below_drewN hbc n2).size hb3.size) hg5⟩
            · first | rfl | (simp [size_mk])
            · have h5 := own_base hown5 (Nat.le_trans (below_drewN hbc n2).size hb3.size)
              rw [Nat.zero_add, List.nil_append, show (Lib.runeCells (v : Int)).length = (Lib.encodeRuneZ v).length by simp [Lib.runeCells]] at h5
              exact h5
          · have hok' : Lib.validRune v = false := by simpa using hok
            have HU3 := Lib.hid (show escS s = ([], 0) by
              rw [HU2.out]; show (if Lib.validRune v = false then _ else _) = _; rw [hok']; rfl)
            rw [hok'] at cv
            clear HU2 hok hok'
            go_wp2_with fail
            refine (cp'.out _).mono ?_
            rintro e w2 ⟨rfl, rfl⟩
            go_wp2_with fail
            refine (cc.out _ hmc.out).mono ?_
            rintro e w2 ⟨rfl, n2, rfl⟩
            go_wp2_with fail
            refine (cb.out _ (HEc.out.drewN _)).mono ?_
            rintro e w3 ⟨rfl, hb3⟩
            go_wp2_with fail
            refine (cv.out _).mono ?_
            rintro e w4 ⟨rfl, rfl⟩
            go_wp2_with fail
            go_ret2
            rw [HU3.out]
            exact esc_nil _ _ ((below_drewN hbc n2).trans (hb3.mono (below_drewN hbc n2).size))
    · have cp' := Lib.hid (show ∀ w, Calls Tryz.prog 156 #[.string s, .string ⟨#[92, 117, 123]⟩] w fun e w' => e = .returned (.bool false) ∧ w = w' from fun w => by
        have := cp.out w
        rw [show Lib.hasPrefix s.data.toList (⟨#[92, 117, 123]⟩ : ByteArray).data.toList = false by simpa [bs] using hp] at this
        exact this.mono fun _ _ h => ⟨h.1, h.2.symm⟩)
      have HU2 := Lib.hid (show escS s = ([], 0) by rw [HSc.out]; unfold escU; rw [if_pos (by simpa using hp)])
      clear HSc hp cp
      go_wp2_with fail
      refine (cp'.out _).mono ?_
      rintro e w2 ⟨rfl, rfl⟩
      go_wp2_with fail
      go_ret2
      rw [HU2.out]
      exact esc_nil _ _ hbc
end Go.Proofs.YtjokciofeicdkaaGreatDoor
