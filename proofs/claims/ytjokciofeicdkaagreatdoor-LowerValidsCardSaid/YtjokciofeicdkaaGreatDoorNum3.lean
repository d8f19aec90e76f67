/- Walks: strconv.ParseUint, based, quad, number. -/
import Derived.Test.YtjokciofeicdkaaGreatDoorNum2
namespace Go.Proofs.YtjokciofeicdkaaGreatDoor
open Go.RowKit

def uintR (o : Option Nat) (e : Ending) : Prop := match o with
  | some v => e = .returned (.tuple #[.int .u64 v, .nilIface])
  | none => ∃ t a, e = .returned (.tuple #[.int .u64 0, .iface t a])

theorem ParseUint_of (b most : Nat) (hb : b = 16 ∧ most ≤ 8 ∨ b = 2 ∧ most = 32) (s : ByteArray) (hne : s.size ≠ 0) (hmost : s.size ≤ most) (hhex : (bs s).all hexU = true) (w : World) (E : Env w) :
    Calls Tryz.prog 153 #[.string s, .int .i64 b, .int .i64 64] w fun e w' => uintR (basedFrom b 0 (bs s)) e ∧ Below w.heap.size w w' := by
  have c1 := Lib.hid (show ∀ w, Calls Tryz.prog 178 #[.string s, .int .i64 b, .int .i64 64] w fun e w' => e = .returned (uintT (basedFrom b 0 (bs s))) ∧ Below w.heap.size w w' from fun w => by
    rcases hb with ⟨rfl, hm8⟩ | ⟨rfl, rfl⟩
    · exact pu_16 s hne (by omega) hhex w
    · exact pu_2 s hne hmost hhex w)
  have hm : s.size ≤ 32 := by rcases hb with ⟨_, h8⟩ | ⟨_, h8⟩ <;> omega
  obtain ⟨ev, he1, he2⟩ := E.errS
  have hE := Lib.hid he1; have hE2 := Lib.hid he2
  clear he1 he2 hb hhex
  generalize basedFrom b 0 (bs s) = o at *
  go_enter Tryz.func153, Tryz.ntmps153
  go_wp2_with fail
  refine (c1.out _).mono ?_
  rintro e w1 ⟨rfl, hb1⟩
  cases o with
  | some v =>
    unfold uintT
    dsimp only
    go_wp2
    go_ret2
    exact ⟨rfl, hb1⟩
  | none =>
    unfold uintT
    dsimp only
    have hv1 := Lib.hid (cell_below hb1 hE.out)
    go_wp2_with fail
    refine (Tryz.strconv_toError_syntax _ s _ _ ev _ (by omega) hv1.out hE2.out).mono ?_
    rintro e w2 ⟨N, rfl, _, _, hb2⟩
    go_wp2_with fail
    go_ret2
    exact ⟨⟨_, _, rfl⟩, hb1.trans (hb2.mono hb1.size)⟩

theorem basedS_none {b most : Nat} {l : Bytes} (h : l = [] ∨ most < l.length ∨ allOf l hexCs = false) : basedS b most l = none := by
  unfold basedS
  split
  · rfl
  · rename_i h1
    rw [if_pos]
    rcases h with h | h | h
    · exact absurd (.inl h) h1
    · exact absurd (.inr h) h1
    · exact h

set_option maxHeartbeats 800000 in
theorem based_any (b most : Nat) (hb : b = 16 ∧ most ≤ 8 ∨ b = 2 ∧ most = 32) (s : ByteArray) (hs : s.size ≤ 9223372036854775807) (w : World) (E : Env w) :
    Calls Tryz.prog 118 #[.string s, .int .i64 b, .int .i64 most] w fun e w' => e = .returned (optT (basedS b most (bs s))) ∧ Below w.heap.size w w' := by
  have hm : most ≤ 32 := by rcases hb with ⟨_, h8⟩ | ⟨_, h8⟩ <;> omega
  by_cases hz : s.size = 0
  · have H := Lib.hid (show optT (basedS b most (bs s)) = .tuple #[.int .i64 0, .bool false] by rw [basedS_none (.inl (by rw [str_nil s hz]; rfl))]; rfl)
    obtain rfl := str_nil s hz
    go_enter Tryz.func118, Tryz.ntmps118
    go_wp2
    go_ret2
    exact ⟨ret_opt H.out, Below.refl _ _⟩
  have he := emp_false s hz
  by_cases hl : most < s.size
  · have H := Lib.hid (show optT (basedS b most (bs s)) = .tuple #[.int .i64 0, .bool false] by rw [basedS_none (.inr (.inl (by rw [bs_length]; exact hl)))]; rfl)
    go_enter Tryz.func118, Tryz.ntmps118
    go_wp2
    go_ret2
    exact ⟨ret_opt H.out, Below.refl _ _⟩
  have c1 := Lib.hid (plain_hex s w hs)
  by_cases hA : allOf (bs s) hexCs = true
  · have hhex : (bs s).all hexU = true := by
      unfold allOf at hA
      rw [← hA]; congr 1; funext c; exact (hexCs_at c).symm
    have c2 := Lib.hid (fun w E => ParseUint_of b most hb s hz (by omega) hhex w E)
    have HS := Lib.hid (show basedS b most (bs s) = basedFrom b 0 (bs s) by
      unfold basedS
      rw [if_neg, if_neg (by rw [hA]; simp)]
      rintro (h | h)
      · exact hz (by rw [← bs_length, h]; rfl)
      · rw [bs_length] at h; omega)
    have hbd := Lib.hid (show ∀ v, basedFrom b 0 (bs s) = some v → v < 4294967296 from fun v h => by
      have h' : basedFrom b 0 ((bs s).take s.size) = some v := by rwa [List.take_of_length_le (by rw [bs_length]; omega)]
      rcases hb with ⟨rfl, h8⟩ | ⟨rfl, rfl⟩
      · exact based_bd (most := 8) (by decide) (by decide) h' (by omega)
      · exact based_bd (most := 32) (by decide) (by decide) h' (by omega))
    rw [hA] at c1
    clear hA hhex hb
    generalize basedFrom b 0 (bs s) = o at *
    have HE := Lib.hid E
    clear E
    go_enter Tryz.func118, Tryz.ntmps118
    go_wp2_with fail
    refine c1.out.mono ?_
    rintro e w1 ⟨rfl, hb1⟩
    go_wp2_with fail
    refine (c2.out _ (HE.out.below hb1)).mono ?_
    rintro e w2 ⟨hr, hb2⟩
    cases o with
    | some v =>
      have hv : v < 4294967296 := hbd.out v rfl
      have H := Lib.hid (show optT (basedS b most (bs s)) = .tuple #[.int .i64 v, .bool true] by rw [HS.out]; rfl)
      obtain rfl := hr
      clear HS
      go_wp2
      go_quiet (fail)
      go_wp2
      go_ret2
      exact ⟨ret_opt H.out, below_drewN (hb1.trans (hb2.mono hb1.size)) _⟩
    | none =>
      obtain ⟨t, a, rfl⟩ := hr
      have H := Lib.hid (show optT (basedS b most (bs s)) = .tuple #[.int .i64 0, .bool false] by rw [HS.out]; rfl)
      clear HS
      go_wp2
      go_quiet (fail)
      go_wp2
      go_ret2
      exact ⟨ret_opt H.out, below_drewN (hb1.trans (hb2.mono hb1.size)) _⟩
  · have hA' : allOf (bs s) hexCs = false := by simpa using hA
    have H := Lib.hid (show optT (basedS b most (bs s)) = .tuple #[.int .i64 0, .bool false] by rw [basedS_none (.inr (.inr hA'))]; rfl)
    rw [hA'] at c1
    clear hA hA'
    go_enter Tryz.func118, Tryz.ntmps118
    go_wp2_with fail
    refine c1.out.mono ?_
    rintro e w1 ⟨rfl, hb1⟩
    go_wp2
    go_ret2
    exact ⟨ret_opt H.out, hb1⟩
end Go.Proofs.YtjokciofeicdkaaGreatDoor

namespace Go.Proofs.YtjokciofeicdkaaGreatDoor
open Go.RowKit

def partsD (s : ByteArray) : List ByteArray := Lib.splitB ⟨#[46]⟩ 0 (Lib.countB s ⟨#[46]⟩) s
theorem partsD_length (s : ByteArray) : (partsD s).length = Lib.countB s ⟨#[46]⟩ + 1 := Lib.splitB_all _ (by decide) 0 _ s rfl
theorem splitB_le (sep : ByteArray) (save : Nat) : ∀ (k : Nat) (s p : ByteArray), p ∈ Lib.splitB sep save k s → p.size ≤ s.size
  | 0, s, p, h => by simp only [Lib.splitB_zero, List.mem_singleton] at h; rw [h]; exact Nat.le_refl _
  | k + 1, s, p, h => by
    unfold Lib.splitB at h
    split at h
    · simp only [List.mem_singleton] at h; rw [h]; exact Nat.le_refl _
    · rcases List.mem_cons.1 h with rfl | h
      · exact size_extract_le _ _ _
      · exact Nat.le_trans (splitB_le sep save k _ p h) (size_extract_le _ _ _)
def quadFold (v : Nat) : List ByteArray → Option Nat
  | [] => some v
  | p :: r => match decS (bs p) 255 with
    | some n => quadFold (v * 256 + n) r
    | none => none
def quadS (s : ByteArray) : Option Nat := if (partsD s).length = 4 then quadFold 0 (partsD s) else none

theorem ofInt_i64 (a : Nat) (ha : a < 9223372036854775808) : (BitVec.ofInt 64 (a : Int)).toNat = a := by
  rw [BitVec.ofInt_natCast, BitVec.toNat_ofNat]; exact Nat.mod_eq_of_lt (by omega)
theorem i64_or (a b : Nat) (ha : a < 9223372036854775808) (hb : b < 9223372036854775808) : bits .or .i64 (a : Int) (b : Int) = ((a ||| b : Nat) : Int) := by
  have hx : a ||| b < 2 ^ 63 := Nat.or_lt_two_pow (by omega) (by omega)
  show IntKind.i64.wrap ((BitVec.ofInt 64 (a : Int) ||| BitVec.ofInt 64 (b : Int)).toNat : Int) = _
  rw [BitVec.toNat_or, ofInt_i64 a ha, ofInt_i64 b hb, IntKind.wrap_i64]
  omega
theorem or_add (a n : Nat) (hn : n < 256) : (a * 256) ||| n = a * 256 + n := by
  have := Nat.two_pow_add_eq_or_of_lt (i := 8) (b := n) hn a
  rw [Nat.mul_comm a 256]
  exact this.symm
theorem decS_le {l : Bytes} {top n : Nat} (h : decS l top = some n) : n ≤ top := by
  unfold decS at h
  split at h
  · cases h
  · split at h
    · cases h
    · split at h
      · cases h
      · split at h
        · cases h
        · simp only [Option.some.injEq] at h; omega

set_option maxHeartbeats 1000000 in
theorem quad_any (s : ByteArray) (hs : s.size < 4294967281) (w : World) (E : Env w) :
    Calls Tryz.prog 116 #[.string s] w fun e w' => e = .returned (optT (quadS s)) ∧ Below w.heap.size w w' := by
  obtain ⟨m, hm⟩ := E.maxlen
  have c1 := Lib.hid (Tryz.strings_Split s ⟨#[46]⟩ m w hs hm (by decide))
  have hlen := Lib.hid (partsD_length s)
  have hcell := Lib.hid (show ∀ k p, (partsD s)[k]? = some p → (w.alloc (.cells ((Lib.splitB ⟨#[46]⟩ 0 (Lib.countB s ⟨#[46]⟩) s).map Value.string).toArray 9)).cell? ⟨w.heap.size, k, none⟩ = some (.string p) from fun k p h => by
    rw [World.cell?_alloc_new]
    simp only [List.getElem?_toArray, List.getElem?_map]
    unfold partsD at h
    rw [h]; rfl)
  have hW : ∃ W, W = (w.alloc (.cells ((Lib.splitB ⟨#[46]⟩ 0 (Lib.countB s ⟨#[46]⟩) s).map Value.string).toArray 9)) := ⟨_, rfl⟩
  obtain ⟨W, hW⟩ := hW
  have hbW : Below w.heap.size w W := by rw [hW]; exact (Below.refl _ _).alloc (Nat.le_refl _) _
  have hsz : w.heap.size < W.heap.size := by rw [hW]; simp
  rw [← hW] at c1 hcell
  have hle := Lib.hid (show ∀ p, p ∈ partsD s → p.size ≤ s.size from fun p h => splitB_le _ _ _ _ p h)
  clear hW hm E
  have HQ := Lib.hid (show quadS s = if (partsD s).length = 4 then quadFold 0 (partsD s) else none from rfl)
  generalize Lib.countB s ⟨#[46]⟩ = n at *
  go_enter Tryz.func116, Tryz.ntmps116
  go_wp2_with fail
  refine c1.out.mono ?_
  rintro e w1 ⟨rfl, rfl⟩
  clear c1
  by_cases h4 : n + 1 = 4
  · obtain rfl : n = 3 := by omega
    have HQ2 := Lib.hid (HQ.out.trans (if_pos hlen.out))
    clear HQ h4
    go_wp2_with fail
    go_loopw [5, 17] (fun vv vi wr => ∃ (k acc : Nat), k ≤ 4 ∧ vi = .int .i64 k ∧ vv = .int .i64 acc ∧ Hid (acc < 256 ^ k) ∧ Hid (quadS s = quadFold acc ((partsD s).drop k)) ∧ Below w1.heap.size w1 wr) (fun _ vi _ => 4 - (intOf vi).toNat)
    case atStart => exact ⟨0, 0, by omega, rfl, rfl, Lib.hid (by decide), HQ2, Below.refl _ _⟩
    case round =>
      obtain ⟨k, acc, hk, rfl, rfl, ha, HR, hbr⟩ := hrel
      by_cases hlt : k < 4
      · obtain ⟨p, hp⟩ : ∃ p, (partsD s)[k]? = some p := ⟨_, List.getElem?_eq_getElem (by rw [hlen.out]; omega)⟩
        have hc : wr.cell? ⟨w.heap.size, k, none⟩ = some (.string p) := (hbr.cell (p := ⟨w.heap.size, k, none⟩) hsz).trans (hcell.out k p hp)
        have hps : p.size ≤ s.size := hle.out p (List.mem_of_getElem? hp)
        have HS := Lib.hid (show quadS s = match decS (bs p) 255 with | some n => quadFold (acc * 256 + n) ((partsD s).drop (k + 1)) | none => none by
          rw [HR.out, drop_at hp]; rfl)
        have ha3 : acc < 16777216 := Nat.lt_of_lt_of_le ha.out (Nat.le_trans (Nat.pow_le_pow_right (by decide) (show k ≤ 3 by omega)) (by decide))
        have ha4 := Lib.hid (show ∀ n, n ≤ 255 → acc * 256 + n < 256 ^ (k + 1) from fun n hn => by have := ha.out; rw [Nat.pow_succ]; omega)
        have hdl := Lib.hid (show ∀ n, decS (bs p) 255 = some n → n ≤ 255 from fun n h => decS_le h)
        have c2 := Lib.hid (fun w => decimal_any p 255 w (by omega) (by omega) (by omega))
        rw [show (255 : Int).toNat = 255 from rfl] at c2
        clear HR ha hp hcell
        generalize decS (bs p) 255 = o at *
        go_wp2_with fail
        refine (c2.out _).mono ?_
        rintro e w2 ⟨rfl, hb2⟩
        clear c2
        cases o with
        | none =>
          unfold optT
          dsimp only [Option.getD_none, Option.isSome_none]
          have HS := Lib.hid (show optT (quadS s) = .tuple #[.int .i64 0, .bool false] by rw [HS.out]; rfl)
          go_wp2_with fail
          go_ret2
          exact ⟨ret_opt HS.out, hbW.trans ((hbr.trans (hb2.mono hbr.size)).mono (by omega))⟩
        | some n =>
          unfold optT
          dsimp only [Option.getD_some, Option.isSome_some]
          have hn : n ≤ 255 := hdl.out n rfl
          have HS := Lib.hid (show quadS s = quadFold (acc * 256 + n) ((partsD s).drop (k + 1)) from HS.out)
          have hor : bits .or .i64 ((acc : Int) * 256) (n : Int) = ((acc * 256 + n : Nat) : Int) := by
            have := i64_or (acc * 256) n (by omega) (by omega)
            rw [or_add acc n (by omega)] at this
            rw [← this]; congr 1
          go_wp2_with fail
          go_roundw
          case rel => exact ⟨k + 1, acc * 256 + n, by omega, by go_num, by go_num, Lib.hid (ha4.out n hn), HS, hbr.trans (hb2.mono hbr.size)⟩
          case measure => simp [intOf]; omega
      · have hk4 : k = 4 := by omega
        have H := Lib.hid (show optT (quadS s) = .tuple #[.int .i64 acc, .bool true] by
          rw [HR.out, drop_end (by rw [hlen.out]; omega)]; rfl)
        clear HR ha hcell hk4
        go_wp2_with fail
        go_ret2
        exact ⟨ret_opt H.out, hbW.trans (hbr.mono (by omega))⟩
  · have H := Lib.hid (show optT (quadS s) = .tuple #[.int .i64 0, .bool false] by rw [HQ.out, if_neg (by rw [hlen.out]; exact h4)]; rfl)
    have h4' : (((n : Int) + 1) != 4) = true := by simp; omega
    clear HQ h4
    go_wp2_with fail
    go_ret2
    exact ⟨ret_opt H.out, hbW⟩

def zx : Bytes := [48, 120]
def zb : Bytes := [48, 98]
def numS (s : ByteArray) : Option Nat :=
  if 0 ≤ Lib.indexByte (bs s) 46 then quadS s else
  if Lib.hasPrefix (bs s) zx then basedS 16 8 ((bs s).drop 2) else
  if Lib.hasPrefix (bs s) zb then basedS 2 32 ((bs s).drop 2) else decS (bs s) 4294967295

theorem size_mk (l : Bytes) : (ByteArray.mk l.toArray).size = l.length := by simp [ByteArray.size]

set_option maxHeartbeats 1000000 in
theorem number_any (s : ByteArray) (hs : s.size < 4294967281) (w : World) (E : Env w) :
    Calls Tryz.prog 83 #[.string s] w fun e w' => e = .returned (optT (numS s)) ∧ Below w.heap.size w w' := by
  have c1 := Lib.hid (Tryz.strings_Contains_one s 46 w)
  have HN := Lib.hid (show numS s = if 0 ≤ Lib.indexByte (bs s) 46 then quadS s else
    if Lib.hasPrefix (bs s) zx then basedS 16 8 ((bs s).drop 2) else
    if Lib.hasPrefix (bs s) zb then basedS 2 32 ((bs s).drop 2) else decS (bs s) 4294967295 from rfl)
  have HE := Lib.hid E
  clear E
  by_cases h1 : 0 ≤ Lib.indexByte (bs s) 46
  · have HN2 := Lib.hid (HN.out.trans (if_pos h1))
    have c2 := Lib.hid (fun w E => quad_any s hs w E)
    have c1' : Hid (Calls Tryz.prog 55 #[.string s, .string ⟨#[46]⟩] w fun e w' => e = .returned (.bool true) ∧ w' = w) := by
      have := c1.out
      rwa [show (decide (0 ≤ Lib.indexByte s.data.toList 46)) = true from decide_eq_true h1] at this
    clear HN h1 c1
    rw [HN2.out]
    clear HN2
    generalize quadS s = o at *
    go_enter Tryz.func83, Tryz.ntmps83
    go_wp2_with fail
    refine c1'.out.mono ?_
    rintro e w1 ⟨rfl, rfl⟩
    go_wp2_with fail
    refine (c2.out _ HE.out).mono ?_
    rintro e w2 ⟨rfl, hb2⟩
    unfold optT
    go_wp2_with fail
    go_ret2
    exact ⟨rfl, hb2⟩
  have HN2 := Lib.hid (HN.out.trans (if_neg h1))
  have c1' : Hid (Calls Tryz.prog 55 #[.string s, .string ⟨#[46]⟩] w fun e w' => e = .returned (.bool false) ∧ w' = w) := by
    have := c1.out
    rwa [show (decide (0 ≤ Lib.indexByte s.data.toList 46)) = false from decide_eq_false h1] at this
  have cp := Lib.hid (fun p w => Tryz.strings_CutPrefix s p w)
  have hd2 : ∀ p : Bytes, p.length = 2 → Lib.hasPrefix (bs s) p = true → Lib.trimPrefix s.data.toList p = (bs s).drop 2 := fun p hp h => by
    unfold Lib.trimPrefix
    rw [show Lib.hasPrefix s.data.toList p = true from h, if_pos rfl, hp]; rfl
  have hmk : bs (ByteArray.mk ((bs s).drop 2).toArray) = (bs s).drop 2 := by simp [bs]
  have hsz : (ByteArray.mk ((bs s).drop 2).toArray).size ≤ 9223372036854775807 := by
    rw [size_mk, List.length_drop, bs_length]; omega
  clear HN h1 c1
  by_cases h2 : Lib.hasPrefix (bs s) zx = true
  · have HN3 := Lib.hid (HN2.out.trans (if_pos h2))
    have c2 := Lib.hid (fun w E => based_any 16 8 (.inl ⟨rfl, by omega⟩) (ByteArray.mk ((bs s).drop 2).toArray) hsz w E)
    rw [hmk] at c2
    have c3 := Lib.hid (show ∀ w, Calls Tryz.prog 117 #[.string s, .string ⟨#[48, 120]⟩] w fun e w' => e = .returned (.tuple #[.string ⟨((bs s).drop 2).toArray⟩, .bool true]) ∧ w' = w from fun w => by
      have := cp.out ⟨#[48, 120]⟩ w
      rwa [show Lib.trimPrefix s.data.toList ((⟨#[48, 120]⟩ : ByteArray).data.toList) = (bs s).drop 2 from hd2 zx rfl h2, show Lib.hasPrefix s.data.toList ((⟨#[48, 120]⟩ : ByteArray).data.toList) = true from h2] at this)
    clear hd2 hmk hsz HN2 cp
    rw [HN3.out]
    clear HN3 h2
    generalize basedS 16 8 ((bs s).drop 2) = o at *
    generalize ((bs s).drop 2).toArray = q at *
    go_enter Tryz.func83, Tryz.ntmps83
    go_wp2_with fail
    refine c1'.out.mono ?_
    rintro e w1 ⟨rfl, rfl⟩
    go_wp2_with fail
    refine (c3.out _).mono ?_
    rintro e w1 ⟨rfl, rfl⟩
    go_wp2_with fail
    refine (c2.out _ HE.out).mono ?_
    rintro e w2 ⟨rfl, hb2⟩
    unfold optT
    go_wp2_with fail
    go_ret2
    exact ⟨rfl, hb2⟩
  have h2' : Lib.hasPrefix (bs s) zx = false := by simpa using h2
  have HN3 := Lib.hid (HN2.out.trans (if_neg h2))
  have c3 := Lib.hid (show ∀ w, ∃ q, Calls Tryz.prog 117 #[.string s, .string ⟨#[48, 120]⟩] w fun e w' => e = .returned (.tuple #[.string q, .bool false]) ∧ w' = w from fun w => by
    have := cp.out ⟨#[48, 120]⟩ w
    rw [show Lib.hasPrefix s.data.toList ((⟨#[48, 120]⟩ : ByteArray).data.toList) = false from h2'] at this
    exact ⟨_, this⟩)
  obtain ⟨q3, c3⟩ := c3.out w
  have c3 := Lib.hid c3
  clear HN2 h2 h2'
  by_cases h4 : Lib.hasPrefix (bs s) zb = true
  · have HN4 := Lib.hid (HN3.out.trans (if_pos h4))
    have c2 := Lib.hid (fun w E => based_any 2 32 (.inr ⟨rfl, rfl⟩) (ByteArray.mk ((bs s).drop 2).toArray) hsz w E)
    rw [hmk] at c2
    have c4 := Lib.hid (show ∀ w, Calls Tryz.prog 117 #[.string s, .string ⟨#[48, 98]⟩] w fun e w' => e = .returned (.tuple #[.string ⟨((bs s).drop 2).toArray⟩, .bool true]) ∧ w' = w from fun w => by
      have := cp.out ⟨#[48, 98]⟩ w
      rwa [show Lib.trimPrefix s.data.toList ((⟨#[48, 98]⟩ : ByteArray).data.toList) = (bs s).drop 2 from hd2 zb rfl h4, show Lib.hasPrefix s.data.toList ((⟨#[48, 98]⟩ : ByteArray).data.toList) = true from h4] at this)
    clear hd2 hmk hsz HN3 cp
    rw [HN4.out]
    clear HN4 h4
    generalize basedS 2 32 ((bs s).drop 2) = o at *
    generalize ((bs s).drop 2).toArray = q at *
    go_enter Tryz.func83, Tryz.ntmps83
    go_wp2_with fail
    refine c1'.out.mono ?_
    rintro e w1 ⟨rfl, rfl⟩
    go_wp2_with fail
    refine c3.out.mono ?_
    rintro e w1 ⟨rfl, rfl⟩
    go_wp2_with fail
    refine (c4.out _).mono ?_
    rintro e w1 ⟨rfl, rfl⟩
    go_wp2_with fail
    refine (c2.out _ HE.out).mono ?_
    rintro e w2 ⟨rfl, hb2⟩
    unfold optT
    go_wp2_with fail
    go_ret2
    exact ⟨rfl, hb2⟩
  have h4' : Lib.hasPrefix (bs s) zb = false := by simpa using h4
  have HN4 := Lib.hid (HN3.out.trans (if_neg h4))
  have c4 := Lib.hid (show ∀ w, ∃ q, Calls Tryz.prog 117 #[.string s, .string ⟨#[48, 98]⟩] w fun e w' => e = .returned (.tuple #[.string q, .bool false]) ∧ w' = w from fun w => by
    have := cp.out ⟨#[48, 98]⟩ w
    rw [show Lib.hasPrefix s.data.toList ((⟨#[48, 98]⟩ : ByteArray).data.toList) = false from h4'] at this
    exact ⟨_, this⟩)
  obtain ⟨q4, c4⟩ := c4.out w
  have c4 := Lib.hid c4
  have c5 := Lib.hid (fun w => decimal_any s 4294967295 w (by omega) (by omega) (by omega))
  rw [show (4294967295 : Int).toNat = 4294967295 from rfl] at c5
  clear HN3 h4 h4' hd2 hmk hsz cp
  rw [HN4.out]
  clear HN4
  generalize decS (bs s) 4294967295 = o at *
  go_enter Tryz.func83, Tryz.ntmps83
  go_wp2_with fail
  refine c1'.out.mono ?_
  rintro e w1 ⟨rfl, rfl⟩
  go_wp2_with fail
  refine c3.out.mono ?_
  rintro e w1 ⟨rfl, rfl⟩
  go_wp2_with fail
  refine c4.out.mono ?_
  rintro e w1 ⟨rfl, rfl⟩
  go_wp2_with fail
  refine (c5.out _).mono ?_
  rintro e w2 ⟨rfl, hb2⟩
  unfold optT
  go_wp2_with fail
  go_ret2
  exact ⟨rfl, hb2⟩
end Go.Proofs.YtjokciofeicdkaaGreatDoor
