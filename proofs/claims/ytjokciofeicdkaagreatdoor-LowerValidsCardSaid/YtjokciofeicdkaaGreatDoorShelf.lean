/-
  DERIVED: THE SHELF's CONTRACTS AT THIS DUMP, IN PLAIN WORDS (tools/lay-plain.mjs out of 'TryzShelf.lean', which tools/lay-shelf.mjs wrote): THE SAME DECLARATIONS UNDER THE SAME NAMES: 'import', 'namespace', 'open', 'def', 'theorem' AND NOTHING ELSE: no command of the shelf's: FOR A HAND-IN. Each laying: the table of numbers ('.._ren') and one theorem, a field a fact of the dump's own or the kernel's comparison; each contract: ONE APPLICATION.
-/
import Derived.Shelf.Strings.Builder1
import Derived.Shelf.Strings.Builder2
import Derived.Shelf.Strings.OnBuilder
import Derived.Shelf.Strings.Trim
import Derived.Shelf.Strings.TrimSpace
import Derived.Shelf.Small.Utf8
import Derived.Shelf.Small.Strs
import Derived.Shelf.Small.Wraps
import Derived.Shelf.Strings.BuilderF
import Derived.Shelf.Strings.BuilderK
import Derived.Shelf.Utf8.AppendRunePlain
import Derived.Shelf.Strconv.Atoi
import Derived.Shelf.Strconv.AtoiErrFast
import Derived.Shelf.Strconv.ParseIntEmpty
import Derived.Shelf.Strconv.AtoiFail
import Derived.Shelf.LaysM
import Derived.Shelf.Strconv.Clone
import Derived.Shelf.Strconv.SyntaxError
import Derived.Shelf.LaysC
import Derived.Shelf.Strconv.ToError
import Derived.Shelf.Strconv.Lower
import Derived.Shelf.Strconv.ParseUint10
import Derived.Shelf.Strconv.ParseUint10Empty
import Derived.Shelf.Strconv.ParseUint10Any
import Derived.Shelf.Strconv.ParseInt10
import Derived.Shelf.Strconv.AtoiLong
import Derived.Shelf.Strconv.AtoiInnerAll
import Derived.Shelf.Strconv.RangeError
import Derived.Shelf.Strconv.ToErrorRange
import Derived.Shelf.Strconv.AtoiAll
import Derived.Shelf.Strconv.ErrVarAll
import Derived.Shelf.Strconv.ParseUintEmpty
import Derived.Shelf.Strconv.ParseUint10b64
import Derived.Shelf.Strconv.ParseUint10b32
import Derived.Shelf.Strconv.ParseUint10b16
import Derived.Shelf.Strconv.ParseUint10b8
import Derived.Shelf.Strconv.ParseUint10At
import Derived.Ground.MpProg
import Derived.Shelf.Pu.ParseUintPublic10
import Derived.Shelf.Pu.ErrVarParseUint
import Derived.Shelf.Strings.Search1
import Derived.Shelf.Strings.Search2
import Derived.Shelf.Strings.Search3
import Derived.Shelf.Strings.Cut
import Derived.Shelf.Strings.Count
import Derived.Shelf.Strings.Shaped
import Derived.Shelf.Strings.Prefix
import Derived.Shelf.Strings.Split
import Derived.Shelf.Strings.SplitShaped
import Derived.Shelf.Unicode.Latin
import Derived.Shelf.Unicode.Decode
import Derived.Shelf.Strings.Runes
import Derived.Shelf.Strings.RuneCount
import Derived.Shelf.Strings.AsciiSet
import Derived.Shelf.Strings.Explode
import Derived.Shelf.Unicode.DecodeSlow
import Derived.Shelf.Unicode.DecodeAny
import Derived.Shelf.Unicode.Is16White
import Derived.Shelf.Unicode.IsSpaceAny
import Derived.Shelf.Unicode.DecodeLast
import Derived.Shelf.Strings.TrimSpaceAny
import Derived.Shelf.Unicode.Is16Any
import Derived.Shelf.Unicode.Is32Any
import Derived.Shelf.Unicode.ExclAny
import Derived.Test.YtjokciofeicdkaaGreatDoorProg
namespace Go.Proofs
open Go.Shelf
def Tryz.lays169_ren : Go.Shelf.Ren := ⟨fun | 169 => 279 | n => n, fun | 70 => 322 | 9 => 9 | 0 => 0 | 72 => 324 | 37 => 144 | 127 => 288 | 3 => 3 | 5 => 5 | n => n, fun | n => n⟩
theorem Tryz.lays169 : Go.Proofs.Lays.n169 Tryz.prog Tryz.lays169_ren := {
  mixed := by kernel_rfl
  f169 := Tryz.func279.trans (congrArg some (by kernel_rfl))
  t0 := Tryz.underlying0
  a0 := Tryz.isAgg0
  z0 := Tryz.sizeOf0
  v0 := Tryz.zeroValue0
  t3 := Tryz.underlying3
  a3 := Tryz.isAgg3
  z3 := Tryz.sizeOf3
  v3 := Tryz.zeroValue3
  t9 := Tryz.underlying9
  a9 := Tryz.isAgg9
  z9 := Tryz.sizeOf9
  v9 := Tryz.zeroValue9
  t37 := Tryz.underlying144
  a37 := Tryz.isAgg144
  z37 := Tryz.sizeOf144
  v37 := Tryz.zeroValue144
  t70 := Tryz.underlying322
  a70 := Tryz.isAgg322
  z70 := Tryz.sizeOf322
  v70 := Tryz.zeroValue322
  t72 := Tryz.underlying324
  a72 := Tryz.isAgg324
  z72 := Tryz.sizeOf324
  v72 := Tryz.zeroValue324
  t127 := Tryz.underlying288
  a127 := Tryz.isAgg288
  z127 := Tryz.sizeOf288
  v127 := Tryz.zeroValue288 }
theorem Tryz.Builder_Extra_169 : Builder.Extra Tryz.prog Tryz.lays169_ren := {
  sizeBuilder := by kernel_rfl
  liesBuilder := by kernel_rfl
  t5 := Tryz.underlying5
  a5 := Tryz.isAgg5
  z5 := Tryz.sizeOf5
  v5 := Tryz.zeroValue5
  infoByte := by kernel_rfl
  cellsByte := by kernel_rfl
  sizeByte := by kernel_rfl
  neB5 := by decide }
open Go.RowKit in
/-- (*strings.Builder).String: "String returns the accumulated string.": OF A BUILDER THAT HOLDS AT LEAST ONE BYTE. ✋ THE MODEL FREEZES THOSE BYTES IN THE BUFFER (unsafe.String): a later write INTO them ends the model's run without an answer; a later append BEHIND them goes on. The statement's order of evaluation is drawn: one draw. (LAID: no walk: one application.) -/
theorem Tryz.Builder_String (B b : Nat) (l : List UInt8) (w : World) (h : Lib.IsBuilder 324 5 B b (Lib.byteCells l) w) (h0 : l ≠ []) :
    Calls Tryz.prog 279 #[.pointer (some ⟨b, 0, none⟩)] w fun e w' => e = .returned (.string ⟨l.toArray⟩) ∧ Below B w w' := Any.Builder_String Tryz.lays169 Tryz.Builder_Extra_169 B b l w h h0
open Go.RowKit in
/-- (*strings.Builder).String OF A BUILDER THAT HOLDS NO BYTE: the empty string. (Its buffer is nil, or a row of which it has taken nothing yet; where that row has NO capacity the model lays one new block for unsafe.SliceData's 'some address'.) One draw. (LAID: no walk: one application.) -/
theorem Tryz.Builder_String_empty (B b : Nat) (w : World) (h : Lib.IsBuilder 324 5 B b [] w) (hBw : B ≤ w.heap.size) :
    Calls Tryz.prog 279 #[.pointer (some ⟨b, 0, none⟩)] w fun e w' => e = .returned (.string ⟨#[]⟩) ∧ Below B w w' := Any.Builder_String_empty Tryz.lays169 Tryz.Builder_Extra_169 B b w h hBw
open Go.RowKit in
/-- (*strings.Builder).String: "String returns the accumulated string.": WHATEVER THE BUILDER HOLDS. (LAID: no walk: one application.) -/
theorem Tryz.Builder_String_any (B b : Nat) (l : List UInt8) (w : World) (h : Lib.IsBuilder 324 5 B b (Lib.byteCells l) w) (hBw : B ≤ w.heap.size) :
    Calls Tryz.prog 279 #[.pointer (some ⟨b, 0, none⟩)] w fun e w' => e = .returned (.string ⟨l.toArray⟩) ∧ Below B w w' := Any.Builder_String_any Tryz.lays169 Tryz.Builder_Extra_169 B b l w h hBw
def Tryz.lays241_ren : Go.Shelf.Ren := ⟨fun | 241 => 281 | 277 => 283 | n => n, fun | 70 => 322 | 3 => 3 | 0 => 0 | 72 => 324 | 37 => 144 | 5 => 5 | n => n, fun | n => n⟩
theorem Tryz.lays241 : Go.Proofs.Lays.n241 Tryz.prog Tryz.lays241_ren := {
  mixed := by kernel_rfl
  f241 := Tryz.func281.trans (congrArg some (by kernel_rfl))
  f277 := Tryz.func283.trans (congrArg some (by kernel_rfl))
  t0 := Tryz.underlying0
  a0 := Tryz.isAgg0
  z0 := Tryz.sizeOf0
  v0 := Tryz.zeroValue0
  t3 := Tryz.underlying3
  a3 := Tryz.isAgg3
  z3 := Tryz.sizeOf3
  v3 := Tryz.zeroValue3
  t37 := Tryz.underlying144
  a37 := Tryz.isAgg144
  z37 := Tryz.sizeOf144
  v37 := Tryz.zeroValue144
  t70 := Tryz.underlying322
  a70 := Tryz.isAgg322
  z70 := Tryz.sizeOf322
  v70 := Tryz.zeroValue322
  t72 := Tryz.underlying324
  a72 := Tryz.isAgg324
  z72 := Tryz.sizeOf324
  v72 := Tryz.zeroValue324 }
theorem Tryz.Builder_Extra_241 : Builder.Extra Tryz.prog Tryz.lays241_ren := {
  sizeBuilder := by kernel_rfl
  liesBuilder := by kernel_rfl
  t5 := Tryz.underlying5
  a5 := Tryz.isAgg5
  z5 := Tryz.sizeOf5
  v5 := Tryz.zeroValue5
  infoByte := by kernel_rfl
  cellsByte := by kernel_rfl
  sizeByte := by kernel_rfl
  neB5 := by decide }
open Go.RowKit in
/-- (*strings.Builder).grow (no doc but "grow copies the buffer to a new, larger buffer so that there are at least n bytes of capacity beyond len(b.buf)."): AT A BUILDER WITHOUT A BUFFER: a new row of whatever bytes for its buffer, none of them its own yet. Three draws. (LAID: no walk: one application.) -/
theorem Tryz.Builder_grow_fresh (B b n : Nat) (w : World) (hB : B ≤ b) (hbk : w.heap[b]? = some (.cells #[.pointer (some ⟨b, 0, none⟩), .slice none 0 0] 324 (0, 0))) (hBw : B ≤ w.heap.size) (hn : n ≤ 281474976710656) :
    Calls Tryz.prog 281 #[.pointer (some ⟨b, 0, none⟩), .int .i64 n] w fun e w' => e = .returned (.tuple #[]) ∧ (Lib.BuilderAt 324 5 B b (.pointer (some ⟨b, 0, none⟩)) [] w' ∧ Below B w w') := Any.Builder_grow_fresh Tryz.lays241 Tryz.Builder_Extra_241 B b n w hB hbk hBw hn
def Tryz.lays165_ren : Go.Shelf.Ren := ⟨fun | 165 => 277 | 240 => 280 | 241 => 281 | 276 => 282 | 277 => 283 | n => n, fun | 70 => 322 | 3 => 3 | 0 => 0 | 4 => 4 | 9 => 9 | 20 => 20 | 72 => 324 | 37 => 144 | 164 => 325 | 5 => 5 | n => n, fun | n => n⟩
theorem Tryz.lays165 : Go.Proofs.Lays.n165 Tryz.prog Tryz.lays165_ren := {
  mixed := by kernel_rfl
  f165 := Tryz.func277.trans (congrArg some (by kernel_rfl))
  f240 := Tryz.func280.trans (congrArg some (by kernel_rfl))
  f241 := Tryz.func281.trans (congrArg some (by kernel_rfl))
  f276 := Tryz.func282.trans (congrArg some (by kernel_rfl))
  f277 := Tryz.func283.trans (congrArg some (by kernel_rfl))
  t0 := Tryz.underlying0
  a0 := Tryz.isAgg0
  z0 := Tryz.sizeOf0
  v0 := Tryz.zeroValue0
  t3 := Tryz.underlying3
  a3 := Tryz.isAgg3
  z3 := Tryz.sizeOf3
  v3 := Tryz.zeroValue3
  t4 := Tryz.underlying4
  a4 := Tryz.isAgg4
  z4 := Tryz.sizeOf4
  v4 := Tryz.zeroValue4
  t9 := Tryz.underlying9
  a9 := Tryz.isAgg9
  z9 := Tryz.sizeOf9
  v9 := Tryz.zeroValue9
  t20 := Tryz.underlying20
  a20 := Tryz.isAgg20
  z20 := Tryz.sizeOf20
  v20 := Tryz.zeroValue20
  t37 := Tryz.underlying144
  a37 := Tryz.isAgg144
  z37 := Tryz.sizeOf144
  v37 := Tryz.zeroValue144
  t70 := Tryz.underlying322
  a70 := Tryz.isAgg322
  z70 := Tryz.sizeOf322
  v70 := Tryz.zeroValue322
  t72 := Tryz.underlying324
  a72 := Tryz.isAgg324
  z72 := Tryz.sizeOf324
  v72 := Tryz.zeroValue324
  t164 := Tryz.underlying325
  a164 := Tryz.isAgg325
  z164 := Tryz.sizeOf325
  v164 := Tryz.zeroValue325 }
theorem Tryz.Builder_Extra_165 : Builder.Extra Tryz.prog Tryz.lays165_ren := {
  sizeBuilder := by kernel_rfl
  liesBuilder := by kernel_rfl
  t5 := Tryz.underlying5
  a5 := Tryz.isAgg5
  z5 := Tryz.sizeOf5
  v5 := Tryz.zeroValue5
  infoByte := by kernel_rfl
  cellsByte := by kernel_rfl
  sizeByte := by kernel_rfl
  neB5 := by decide }
open Go.RowKit in
/-- (*strings.Builder).Grow AT A BUILDER THAT HAS NOT BEEN WRITTEN ('var b strings.Builder; b.Grow(n)'): "Grow grows b's capacity, if necessary, to guarantee space for another n bytes.": it holds no byte behind it as before it. (LAID: no walk: one application.) -/
theorem Tryz.Builder_Grow_fresh (B b n : Nat) (w : World) (hB : B ≤ b) (hbk : w.heap[b]? = some (.cells #[.pointer none, .slice none 0 0] 324 (0, 0))) (hBw : B ≤ w.heap.size) (hn : n ≤ 281474976710656) :
    Calls Tryz.prog 277 #[.pointer (some ⟨b, 0, none⟩), .int .i64 n] w fun e w' => e = .returned (.tuple #[]) ∧ (Lib.BuilderAt 324 5 B b (.pointer (some ⟨b, 0, none⟩)) [] w' ∧ Below B w w') := Any.Builder_Grow_fresh Tryz.lays165 Tryz.Builder_Extra_165 B b n w hB hbk hBw hn
def Tryz.lays156_ren : Go.Shelf.Ren := ⟨fun | 156 => 276 | 165 => 277 | 166 => 278 | 169 => 279 | 240 => 280 | 241 => 281 | 276 => 282 | 277 => 283 | n => n, fun | 31 => 50 | 9 => 9 | 3 => 3 | 4 => 4 | 0 => 0 | 20 => 20 | 72 => 324 | 76 => 213 | 70 => 322 | 37 => 144 | 75 => 210 | 127 => 288 | 164 => 325 | 5 => 5 | 80 => 268 | n => n, fun | n => n⟩
theorem Tryz.lays156 : Go.Proofs.Lays.n156 Tryz.prog Tryz.lays156_ren := {
  mixed := by kernel_rfl
  f156 := Tryz.func276.trans (congrArg some (by kernel_rfl))
  f165 := Tryz.func277.trans (congrArg some (by kernel_rfl))
  f166 := Tryz.func278.trans (congrArg some (by kernel_rfl))
  f169 := Tryz.func279.trans (congrArg some (by kernel_rfl))
  f240 := Tryz.func280.trans (congrArg some (by kernel_rfl))
  f241 := Tryz.func281.trans (congrArg some (by kernel_rfl))
  f276 := Tryz.func282.trans (congrArg some (by kernel_rfl))
  f277 := Tryz.func283.trans (congrArg some (by kernel_rfl))
  t0 := Tryz.underlying0
  a0 := Tryz.isAgg0
  z0 := Tryz.sizeOf0
  v0 := Tryz.zeroValue0
  t3 := Tryz.underlying3
  a3 := Tryz.isAgg3
  z3 := Tryz.sizeOf3
  v3 := Tryz.zeroValue3
  t4 := Tryz.underlying4
  a4 := Tryz.isAgg4
  z4 := Tryz.sizeOf4
  v4 := Tryz.zeroValue4
  t9 := Tryz.underlying9
  a9 := Tryz.isAgg9
  z9 := Tryz.sizeOf9
  v9 := Tryz.zeroValue9
  t20 := Tryz.underlying20
  a20 := Tryz.isAgg20
  z20 := Tryz.sizeOf20
  v20 := Tryz.zeroValue20
  t31 := Tryz.underlying50
  a31 := Tryz.isAgg50
  z31 := Tryz.sizeOf50
  v31 := Tryz.zeroValue50
  t37 := Tryz.underlying144
  a37 := Tryz.isAgg144
  z37 := Tryz.sizeOf144
  v37 := Tryz.zeroValue144
  t70 := Tryz.underlying322
  a70 := Tryz.isAgg322
  z70 := Tryz.sizeOf322
  v70 := Tryz.zeroValue322
  t72 := Tryz.underlying324
  a72 := Tryz.isAgg324
  z72 := Tryz.sizeOf324
  v72 := Tryz.zeroValue324
  t75 := Tryz.underlying210
  a75 := Tryz.isAgg210
  z75 := Tryz.sizeOf210
  v75 := Tryz.zeroValue210
  t76 := Tryz.underlying213
  a76 := Tryz.isAgg213
  z76 := Tryz.sizeOf213
  v76 := Tryz.zeroValue213
  t127 := Tryz.underlying288
  a127 := Tryz.isAgg288
  z127 := Tryz.sizeOf288
  v127 := Tryz.zeroValue288
  t164 := Tryz.underlying325
  a164 := Tryz.isAgg325
  z164 := Tryz.sizeOf325
  v164 := Tryz.zeroValue325 }
theorem Tryz.Builder_Extra_156 : Builder.Extra Tryz.prog Tryz.lays156_ren := {
  sizeBuilder := by kernel_rfl
  liesBuilder := by kernel_rfl
  t5 := Tryz.underlying5
  a5 := Tryz.isAgg5
  z5 := Tryz.sizeOf5
  v5 := Tryz.zeroValue5
  infoByte := by kernel_rfl
  cellsByte := by kernel_rfl
  sizeByte := by kernel_rfl
  neB5 := by decide }
open Go.RowKit in
/-- No element: the empty string; the world is as it was. (Whatever the slice's address and capacity: a nil slice too.) (LAID: no walk: one application.) -/
theorem Tryz.strings_Join_none (a : Option Addr) (c : Nat) (sep : ByteArray) (w : World) :
    Calls Tryz.prog 276 #[.slice a 0 c, .string sep] w fun e w' => e = .returned (.string ⟨#[]⟩) ∧ w' = w := Any.strings_Join_none Tryz.lays156 Tryz.Builder_Extra_156 a c sep w
open Go.RowKit in
/-- strings.Join: "Join concatenates the elements of its first argument to create a single string. The separator string sep is placed between elements in the resulting string.": HOWEVER MANY ELEMENTS. Below the heap's end the world is as it was. (LAID: no walk: one application.) -/
theorem Tryz.strings_Join (bk o c : Nat) (xs : List ByteArray) (sep : ByteArray) (w : World) (hcells : ∀ (j : Nat) x, xs[j]? = some x → w.cell? ⟨bk, o + j, none⟩ = some (.string x)) (hbk : bk < w.heap.size) (hN : xs.length ≤ 140737488355328) (hcap : xs.length ≤ c) (hlen : (Lib.join (xs.map (·.data.toList)) sep.data.toList).length ≤ 140737488355328) :
    Calls Tryz.prog 276 #[.slice (some ⟨bk, o, none⟩) xs.length c, .string sep] w fun e w' => e = .returned (.string ⟨(Lib.join (xs.map (·.data.toList)) sep.data.toList).toArray⟩) ∧ Below w.heap.size w w' := Any.strings_Join Tryz.lays156 Tryz.Builder_Extra_156 bk o c xs sep w hcells hbk hN hcap hlen
def Tryz.lays231_ren : Go.Shelf.Ren := ⟨fun | 231 => 190 | n => n, fun | 9 => 9 | 5 => 5 | 3 => 3 | 4 => 4 | n => n, fun | n => n⟩
theorem Tryz.lays231 : Go.Proofs.Lays.n231 Tryz.prog Tryz.lays231_ren := {
  mixed := by kernel_rfl
  f231 := Tryz.func190.trans (congrArg some (by kernel_rfl))
  t3 := Tryz.underlying3
  a3 := Tryz.isAgg3
  z3 := Tryz.sizeOf3
  v3 := Tryz.zeroValue3
  t4 := Tryz.underlying4
  a4 := Tryz.isAgg4
  z4 := Tryz.sizeOf4
  v4 := Tryz.zeroValue4
  t5 := Tryz.underlying5
  a5 := Tryz.isAgg5
  z5 := Tryz.sizeOf5
  v5 := Tryz.zeroValue5
  t9 := Tryz.underlying9
  a9 := Tryz.isAgg9
  z9 := Tryz.sizeOf9
  v9 := Tryz.zeroValue9 }
open Go.RowKit in
/-- strings.trimLeftByte (no doc; what TrimLeft and Trim call at a cutset of one ASCII byte): the leading bytes that are c are cut off. The world is as it was. (LAID: no walk: one application.) -/
theorem Tryz.strings_trimLeftByte (s : ByteArray) (c : UInt8) (w : World) :
    Calls Tryz.prog 190 #[.string s, .int .u8 c.toNat] w fun e w' => e = .returned (.string ⟨(Lib.trimLeftB s.data.toList c).toArray⟩) ∧ w' = w := Any.strings_trimLeftByte Tryz.lays231 s c w
def Tryz.lays232_ren : Go.Shelf.Ren := ⟨fun | 232 => 191 | n => n, fun | 9 => 9 | 5 => 5 | 3 => 3 | 4 => 4 | n => n, fun | n => n⟩
theorem Tryz.lays232 : Go.Proofs.Lays.n232 Tryz.prog Tryz.lays232_ren := {
  mixed := by kernel_rfl
  f232 := Tryz.func191.trans (congrArg some (by kernel_rfl))
  t3 := Tryz.underlying3
  a3 := Tryz.isAgg3
  z3 := Tryz.sizeOf3
  v3 := Tryz.zeroValue3
  t4 := Tryz.underlying4
  a4 := Tryz.isAgg4
  z4 := Tryz.sizeOf4
  v4 := Tryz.zeroValue4
  t5 := Tryz.underlying5
  a5 := Tryz.isAgg5
  z5 := Tryz.sizeOf5
  v5 := Tryz.zeroValue5
  t9 := Tryz.underlying9
  a9 := Tryz.isAgg9
  z9 := Tryz.sizeOf9
  v9 := Tryz.zeroValue9 }
open Go.RowKit in
/-- strings.trimRightByte (no doc; what TrimRight and Trim call at a cutset of one ASCII byte): the trailing bytes that are c are cut off. The world is as it was. ('hs': a string's length is a number that an int holds.) (LAID: no walk: one application.) -/
theorem Tryz.strings_trimRightByte (s : ByteArray) (c : UInt8) (w : World) (hs : s.size ≤ 9223372036854775807) :
    Calls Tryz.prog 191 #[.string s, .int .u8 c.toNat] w fun e w' => e = .returned (.string ⟨(Lib.trimRightB s.data.toList c).toArray⟩) ∧ w' = w := Any.strings_trimRightByte Tryz.lays232 s c w hs
def Tryz.lays160_ren : Go.Shelf.Ren := ⟨fun | 160 => 177 | 232 => 191 | 231 => 190 | 227 => 192 | 234 => 194 | 233 => 193 | 236 => 196 | 235 => 195 | 228 => 213 | 271 => 144 | 151 => 214 | 197 => 112 | 120 => 172 | 152 => 227 | 260 => 145 | 137 => 155 | 119 => 158 | 224 => 148 | 225 => 147 | 217 => 146 | 266 => 173 | n => n, fun | 9 => 9 | 4 => 4 | 3 => 3 | 5 => 5 | 117 => 246 | 116 => 245 | 0 => 0 | 124 => 249 | 21 => 21 | 105 => 176 | 46 => 206 | 119 => 147 | 139 => 228 | 138 => 227 | n => n, fun | 3 => 6 | 4 => 7 | n => n⟩
theorem Tryz.lays160 : Go.Proofs.Lays.n160 Tryz.prog Tryz.lays160_ren := {
  mixed := by kernel_rfl
  f119 := Tryz.func158.trans (congrArg some (by kernel_rfl))
  f120 := Tryz.func172.trans (congrArg some (by kernel_rfl))
  f137 := Tryz.func155.trans (congrArg some (by kernel_rfl))
  f151 := Tryz.func214.trans (congrArg some (by kernel_rfl))
  f152 := Tryz.func227.trans (congrArg some (by kernel_rfl))
  f160 := Tryz.func177.trans (congrArg some (by kernel_rfl))
  f197 := Tryz.func112.trans (congrArg some (by kernel_rfl))
  f217 := Tryz.func146.trans (congrArg some (by kernel_rfl))
  f224 := Tryz.func148.trans (congrArg some (by kernel_rfl))
  f225 := Tryz.func147.trans (congrArg some (by kernel_rfl))
  f227 := Tryz.func192.trans (congrArg some (by kernel_rfl))
  f228 := Tryz.func213.trans (congrArg some (by kernel_rfl))
  f231 := Tryz.func190.trans (congrArg some (by kernel_rfl))
  f232 := Tryz.func191.trans (congrArg some (by kernel_rfl))
  f233 := Tryz.func193.trans (congrArg some (by kernel_rfl))
  f234 := Tryz.func194.trans (congrArg some (by kernel_rfl))
  f235 := Tryz.func195.trans (congrArg some (by kernel_rfl))
  f236 := Tryz.func196.trans (congrArg some (by kernel_rfl))
  f260 := Tryz.func145.trans (congrArg some (by kernel_rfl))
  f266 := Tryz.func173.trans (congrArg some (by kernel_rfl))
  f271 := Tryz.func144.trans (congrArg some (by kernel_rfl))
  t0 := Tryz.underlying0
  a0 := Tryz.isAgg0
  z0 := Tryz.sizeOf0
  v0 := Tryz.zeroValue0
  t3 := Tryz.underlying3
  a3 := Tryz.isAgg3
  z3 := Tryz.sizeOf3
  v3 := Tryz.zeroValue3
  t4 := Tryz.underlying4
  a4 := Tryz.isAgg4
  z4 := Tryz.sizeOf4
  v4 := Tryz.zeroValue4
  t5 := Tryz.underlying5
  a5 := Tryz.isAgg5
  z5 := Tryz.sizeOf5
  v5 := Tryz.zeroValue5
  t9 := Tryz.underlying9
  a9 := Tryz.isAgg9
  z9 := Tryz.sizeOf9
  v9 := Tryz.zeroValue9
  t21 := Tryz.underlying21
  a21 := Tryz.isAgg21
  z21 := Tryz.sizeOf21
  v21 := Tryz.zeroValue21
  t46 := Tryz.underlying206
  a46 := Tryz.isAgg206
  z46 := Tryz.sizeOf206
  v46 := Tryz.zeroValue206
  t105 := Tryz.underlying176
  a105 := Tryz.isAgg176
  z105 := Tryz.sizeOf176
  v105 := Tryz.zeroValue176
  t116 := Tryz.underlying245
  a116 := Tryz.isAgg245
  z116 := Tryz.sizeOf245
  t117 := Tryz.underlying246
  a117 := Tryz.isAgg246
  z117 := Tryz.sizeOf246
  v117 := Tryz.zeroValue246
  t119 := Tryz.underlying147
  a119 := Tryz.isAgg147
  z119 := Tryz.sizeOf147
  t124 := Tryz.underlying249
  a124 := Tryz.isAgg249
  z124 := Tryz.sizeOf249
  v124 := Tryz.zeroValue249
  t138 := Tryz.underlying227
  a138 := Tryz.isAgg227
  z138 := Tryz.sizeOf227
  v138 := Tryz.zeroValue227
  t139 := Tryz.underlying228
  a139 := Tryz.isAgg228
  z139 := Tryz.sizeOf228
  v139 := Tryz.zeroValue228
  g3 := by kernel_rfl
  g4 := by kernel_rfl }
open Go.RowKit in
/-- strings.Trim: "Trim returns a slice of the string s with all leading and trailing Unicode code points contained in cutset removed.": AT A cutset OF ONE ASCII BYTE. THE WORLD BEHIND IT: as it was, or (where s is not empty) with ONE DRAW MORE off the tape: the statement 'return trimLeftByte(trimRightByte(s, c), c)' draws its order of evaluation. (LAID: no walk: one application.) -/
theorem Tryz.strings_Trim_one (s : ByteArray) (c : UInt8) (hc : c.toNat < 128) (w : World) (hs : s.size ≤ 9223372036854775807) :
    Calls Tryz.prog 177 #[.string s, .string ⟨#[c]⟩] w fun e w' => e = .returned (.string ⟨(Lib.trimB s.data.toList c).toArray⟩) ∧ (w' = w ∨ w' = w.drew) := Any.strings_Trim_one Tryz.lays160 s c hc w hs
def Tryz.lays163_ren : Go.Shelf.Ren := ⟨fun | 163 => 54 | 237 => 76 | 199 => 77 | 238 => 78 | 272 => 109 | 261 => 110 | 273 => 111 | 197 => 112 | 315 => 141 | 311 => 142 | 312 => 143 | 271 => 144 | 260 => 145 | 120 => 172 | n => n, fun | 9 => 9 | 37 => 144 | 3 => 3 | 0 => 0 | 5 => 5 | 4 => 4 | 40 => 146 | 119 => 147 | 21 => 21 | 51 => 172 | 141 => 174 | 105 => 176 | 196 => 196 | 193 => 193 | 198 => 199 | 49 => 197 | 194 => 194 | 201 => 202 | 226 => 224 | 46 => 206 | 227 => 225 | 139 => 228 | 138 => 227 | n => n, fun | 0 => 1 | 6 => 3 | 3 => 6 | 4 => 7 | n => n⟩
theorem Tryz.lays163 : Go.Proofs.Lays.n163 Tryz.prog Tryz.lays163_ren := {
  mixed := by kernel_rfl
  f120 := Tryz.func172.trans (congrArg some (by kernel_rfl))
  f163 := Tryz.func54.trans (congrArg some (by kernel_rfl))
  f197 := Tryz.func112.trans (congrArg some (by kernel_rfl))
  f199 := Tryz.func77.trans (congrArg some (by kernel_rfl))
  f237 := Tryz.func76.trans (congrArg some (by kernel_rfl))
  f238 := Tryz.func78.trans (congrArg some (by kernel_rfl))
  f260 := Tryz.func145.trans (congrArg some (by kernel_rfl))
  f261 := Tryz.func110.trans (congrArg some (by kernel_rfl))
  f271 := Tryz.func144.trans (congrArg some (by kernel_rfl))
  f272 := Tryz.func109.trans (congrArg some (by kernel_rfl))
  f273 := Tryz.func111.trans (congrArg some (by kernel_rfl))
  f311 := Tryz.func142.trans (congrArg some (by kernel_rfl))
  f312 := Tryz.func143.trans (congrArg some (by kernel_rfl))
  f315 := Tryz.func141.trans (congrArg some (by kernel_rfl))
  t0 := Tryz.underlying0
  a0 := Tryz.isAgg0
  z0 := Tryz.sizeOf0
  v0 := Tryz.zeroValue0
  t3 := Tryz.underlying3
  a3 := Tryz.isAgg3
  z3 := Tryz.sizeOf3
  v3 := Tryz.zeroValue3
  t4 := Tryz.underlying4
  a4 := Tryz.isAgg4
  z4 := Tryz.sizeOf4
  v4 := Tryz.zeroValue4
  t5 := Tryz.underlying5
  a5 := Tryz.isAgg5
  z5 := Tryz.sizeOf5
  v5 := Tryz.zeroValue5
  t9 := Tryz.underlying9
  a9 := Tryz.isAgg9
  z9 := Tryz.sizeOf9
  v9 := Tryz.zeroValue9
  t21 := Tryz.underlying21
  a21 := Tryz.isAgg21
  z21 := Tryz.sizeOf21
  v21 := Tryz.zeroValue21
  t37 := Tryz.underlying144
  a37 := Tryz.isAgg144
  z37 := Tryz.sizeOf144
  v37 := Tryz.zeroValue144
  t40 := Tryz.underlying146
  a40 := Tryz.isAgg146
  z40 := Tryz.sizeOf146
  v40 := Tryz.zeroValue146
  t46 := Tryz.underlying206
  a46 := Tryz.isAgg206
  z46 := Tryz.sizeOf206
  v46 := Tryz.zeroValue206
  t49 := Tryz.underlying197
  a49 := Tryz.isAgg197
  z49 := Tryz.sizeOf197
  v49 := Tryz.zeroValue197
  t51 := Tryz.underlying172
  a51 := Tryz.isAgg172
  z51 := Tryz.sizeOf172
  v51 := Tryz.zeroValue172
  t105 := Tryz.underlying176
  a105 := Tryz.isAgg176
  z105 := Tryz.sizeOf176
  v105 := Tryz.zeroValue176
  t119 := Tryz.underlying147
  a119 := Tryz.isAgg147
  z119 := Tryz.sizeOf147
  t138 := Tryz.underlying227
  a138 := Tryz.isAgg227
  z138 := Tryz.sizeOf227
  v138 := Tryz.zeroValue227
  t139 := Tryz.underlying228
  a139 := Tryz.isAgg228
  z139 := Tryz.sizeOf228
  v139 := Tryz.zeroValue228
  t141 := Tryz.underlying174
  a141 := Tryz.isAgg174
  z141 := Tryz.sizeOf174
  v141 := Tryz.zeroValue174
  t193 := Tryz.underlying193
  a193 := Tryz.isAgg193
  z193 := Tryz.sizeOf193
  v193 := Tryz.zeroValue193
  t194 := Tryz.underlying194
  a194 := Tryz.isAgg194
  z194 := Tryz.sizeOf194
  v194 := Tryz.zeroValue194
  t196 := Tryz.underlying196
  a196 := Tryz.isAgg196
  z196 := Tryz.sizeOf196
  v196 := Tryz.zeroValue196
  t198 := Tryz.underlying199
  a198 := Tryz.isAgg199
  z198 := Tryz.sizeOf199
  v198 := Tryz.zeroValue199
  t201 := Tryz.underlying202
  a201 := Tryz.isAgg202
  z201 := Tryz.sizeOf202
  v201 := Tryz.zeroValue202
  t226 := Tryz.underlying224
  a226 := Tryz.isAgg224
  z226 := Tryz.sizeOf224
  v226 := Tryz.zeroValue224
  t227 := Tryz.underlying225
  a227 := Tryz.isAgg225
  z227 := Tryz.sizeOf225
  v227 := Tryz.zeroValue225
  g0 := by kernel_rfl
  g3 := by kernel_rfl
  g4 := by kernel_rfl
  g6 := by kernel_rfl }
theorem Tryz.Space_Extra_163 : Space.Extra Tryz.prog Tryz.lays163_ren := {
  gNamed := by kernel_rfl }
open Go.RowKit in
theorem Tryz.strings_TrimSpace (s : ByteArray) (w : World) (hs : s.size ≤ 9223372036854775807) (hascii : ∀ (j : Nat) b, s.data.toList[j]? = some b → b.toNat < 128) (htab : Lib.TabIs Tryz.prog w "strings.asciiSpace" .u8 Lib.asciiSpaceTab) :
    Calls Tryz.prog 54 #[.string s] w fun e w' => e = .returned (.string ⟨(Lib.trimSpace s.data.toList).toArray⟩) ∧ w' = Lib.bytesWorld w 5 s := Any.strings_TrimSpace Tryz.lays163 Tryz.Space_Extra_163 s w hs hascii htab
def Tryz.lays119_ren : Go.Shelf.Ren := ⟨fun | 119 => 158 | n => n, fun | 21 => 21 | 4 => 4 | n => n, fun | n => n⟩
theorem Tryz.lays119 : Go.Proofs.Lays.n119 Tryz.prog Tryz.lays119_ren := {
  mixed := by kernel_rfl
  f119 := Tryz.func158.trans (congrArg some (by kernel_rfl))
  t4 := Tryz.underlying4
  a4 := Tryz.isAgg4
  z4 := Tryz.sizeOf4
  v4 := Tryz.zeroValue4
  t21 := Tryz.underlying21
  a21 := Tryz.isAgg21
  z21 := Tryz.sizeOf21
  v21 := Tryz.zeroValue21 }
/-- utf8.ValidRune: "ValidRune reports whether r can be legally encoded as UTF-8. Code points that are out of range or a surrogate half are illegal.": IT RETURNS 'Lib.validRune r'; the world is as it was. (LAID: no walk: one application.) -/
theorem Tryz.utf8_ValidRune (r : Int) (w : World) :
    Calls Tryz.prog 158 #[.int .i32 r] w fun e w' => e = .returned (.bool (Lib.validRune r)) ∧ w' = w := Any.utf8_ValidRune Tryz.lays119 r w
def Tryz.lays120_ren : Go.Shelf.Ren := ⟨fun | 120 => 172 | n => n, fun | 5 => 5 | 4 => 4 | n => n, fun | n => n⟩
theorem Tryz.lays120 : Go.Proofs.Lays.n120 Tryz.prog Tryz.lays120_ren := {
  mixed := by kernel_rfl
  f120 := Tryz.func172.trans (congrArg some (by kernel_rfl))
  t4 := Tryz.underlying4
  a4 := Tryz.isAgg4
  z4 := Tryz.sizeOf4
  v4 := Tryz.zeroValue4
  t5 := Tryz.underlying5
  a5 := Tryz.isAgg5
  z5 := Tryz.sizeOf5
  v5 := Tryz.zeroValue5 }
/-- utf8.RuneStart: "RuneStart reports whether the byte could be the first byte of an encoded, possibly invalid rune. Second and subsequent bytes always have the top two bits set to 10.": IT RETURNS 'Lib.runeStart b'; the world is as it was. ('h0', 'h1': b is a byte: a caller has it of every byte that it was handed.) (LAID: no walk: one application.) -/
theorem Tryz.utf8_RuneStart (b : Int) (w : World) (h0 : 0 ≤ b) (h1 : b < 256) :
    Calls Tryz.prog 172 #[.int .u8 b] w fun e w' => e = .returned (.bool (Lib.runeStart b)) ∧ w' = w := Any.utf8_RuneStart Tryz.lays120 b w h0 h1
def Tryz.lays137_ren : Go.Shelf.Ren := ⟨fun | 137 => 155 | 217 => 146 | 266 => 173 | n => n, fun | 9 => 9 | 5 => 5 | 3 => 3 | n => n, fun | n => n⟩
theorem Tryz.lays137 : Go.Proofs.Lays.n137 Tryz.prog Tryz.lays137_ren := {
  mixed := by kernel_rfl
  f137 := Tryz.func155.trans (congrArg some (by kernel_rfl))
  f217 := Tryz.func146.trans (congrArg some (by kernel_rfl))
  f266 := Tryz.func173.trans (congrArg some (by kernel_rfl))
  t3 := Tryz.underlying3
  a3 := Tryz.isAgg3
  z3 := Tryz.sizeOf3
  v3 := Tryz.zeroValue3
  t5 := Tryz.underlying5
  a5 := Tryz.isAgg5
  z5 := Tryz.sizeOf5
  v5 := Tryz.zeroValue5
  t9 := Tryz.underlying9
  a9 := Tryz.isAgg9
  z9 := Tryz.sizeOf9
  v9 := Tryz.zeroValue9 }
open Go.RowKit in
/-- strings.IndexByte: "IndexByte returns the index of the first instance of c in s, or -1 if c is not present in s.": IT RETURNS 'Lib.indexByte s c'; the world is as it was. (LAID: no walk: one application.) -/
theorem Tryz.strings_IndexByte (s : ByteArray) (c : Int) (w : World) :
    Calls Tryz.prog 155 #[.string s, .int .u8 c] w fun e w' => e = .returned (.int .i64 (Lib.indexByte s.data.toList c.toNat.toUInt8)) ∧ w' = w := Any.strings_IndexByte Tryz.lays137 s c w
def Tryz.lays210_ren : Go.Shelf.Ren := ⟨fun | 210 => 151 | 206 => 176 | n => n, fun | 9 => 9 | 4 => 4 | 3 => 3 | n => n, fun | n => n⟩
theorem Tryz.lays210 : Go.Proofs.Lays.n210 Tryz.prog Tryz.lays210_ren := {
  mixed := by kernel_rfl
  f206 := Tryz.func176.trans (congrArg some (by kernel_rfl))
  f210 := Tryz.func151.trans (congrArg some (by kernel_rfl))
  t3 := Tryz.underlying3
  a3 := Tryz.isAgg3
  z3 := Tryz.sizeOf3
  v3 := Tryz.zeroValue3
  t4 := Tryz.underlying4
  a4 := Tryz.isAgg4
  z4 := Tryz.sizeOf4
  v4 := Tryz.zeroValue4
  t9 := Tryz.underlying9
  a9 := Tryz.isAgg9
  z9 := Tryz.sizeOf9
  v9 := Tryz.zeroValue9 }
open Go.RowKit in
/-- internal/stringslite.CutPrefix (what strings.CutPrefix calls). (LAID: no walk: one application.) -/
theorem Tryz.stringslite_CutPrefix (s p : ByteArray) (w : World) :
    Calls Tryz.prog 151 #[.string s, .string p] w fun e w' => e = .returned (.tuple #[.string ⟨(Lib.trimPrefix s.data.toList p.data.toList).toArray⟩, .bool (Lib.hasPrefix s.data.toList p.data.toList)]) ∧ w' = w := Any.stringslite_CutPrefix Tryz.lays210 s p w
def Tryz.lays103_ren : Go.Shelf.Ren := ⟨fun | 103 => 117 | 210 => 151 | 206 => 176 | n => n, fun | 9 => 9 | 4 => 4 | 24 => 179 | 3 => 3 | n => n, fun | n => n⟩
theorem Tryz.lays103 : Go.Proofs.Lays.n103 Tryz.prog Tryz.lays103_ren := {
  mixed := by kernel_rfl
  f103 := Tryz.func117.trans (congrArg some (by kernel_rfl))
  f206 := Tryz.func176.trans (congrArg some (by kernel_rfl))
  f210 := Tryz.func151.trans (congrArg some (by kernel_rfl))
  t3 := Tryz.underlying3
  a3 := Tryz.isAgg3
  z3 := Tryz.sizeOf3
  v3 := Tryz.zeroValue3
  t4 := Tryz.underlying4
  a4 := Tryz.isAgg4
  z4 := Tryz.sizeOf4
  v4 := Tryz.zeroValue4
  t9 := Tryz.underlying9
  a9 := Tryz.isAgg9
  z9 := Tryz.sizeOf9
  v9 := Tryz.zeroValue9
  t24 := Tryz.underlying179
  a24 := Tryz.isAgg179
  z24 := Tryz.sizeOf179
  v24 := Tryz.zeroValue179 }
open Go.RowKit in
/-- strings.CutPrefix: "CutPrefix returns s without the provided leading prefix string and reports whether it found the prefix. If s doesn't start with prefix, CutPrefix returns s, false. If prefix is the empty string, CutPrefix returns s, true.": IT RETURNS '(Lib.trimPrefix s p, Lib.hasPrefix s p)'; the world is as it was. (LAID: no walk: one application.) -/
theorem Tryz.strings_CutPrefix (s p : ByteArray) (w : World) :
    Calls Tryz.prog 117 #[.string s, .string p] w fun e w' => e = .returned (.tuple #[.string ⟨(Lib.trimPrefix s.data.toList p.data.toList).toArray⟩, .bool (Lib.hasPrefix s.data.toList p.data.toList)]) ∧ w' = w := Any.strings_CutPrefix Tryz.lays103 s p w
open Go.RowKit in
/-- (*strings.Builder).String: "String returns the accumulated string.": OF A BUILDER THAT HOLDS AT LEAST ONE BYTE. ✋ THE MODEL FREEZES THOSE BYTES IN THE BUFFER (unsafe.String): a later write INTO them ends the model's run without an answer; a later append BEHIND them goes on. The statement's order of evaluation is drawn: one draw. THE FORM '_f': IT SAYS BESIDES THAT THE BUILDER IS A BUILDER STILL ('Lib.IsBuilderF', the same bytes): SO IT CAN BE WRITTEN ON: 'b.WriteString(b.String()[:k])'. (LAID: no walk: one application.) -/
theorem Tryz.Builder_String_f (B b : Nat) (l : List UInt8) (w : World) (h : Lib.IsBuilderF 324 5 B b (Lib.byteCells l) w) (h0 : l ≠ []) :
    Calls Tryz.prog 279 #[.pointer (some ⟨b, 0, none⟩)] w fun e w' => e = .returned (.string ⟨l.toArray⟩) ∧ (Lib.IsBuilderF 324 5 B b (Lib.byteCells l) w' ∧ Below B w w') := Any.Builder_String_f Tryz.lays169 Tryz.Builder_Extra_169 B b l w h h0
open Go.RowKit in
/-- (*strings.Builder).String OF A BUILDER THAT HOLDS NO BYTE: the empty string; THE FORM '_f': a builder still. (LAID: no walk: one application.) -/
theorem Tryz.Builder_String_empty_f (B b : Nat) (w : World) (h : Lib.IsBuilderF 324 5 B b [] w) (hBw : B ≤ w.heap.size) :
    Calls Tryz.prog 279 #[.pointer (some ⟨b, 0, none⟩)] w fun e w' => e = .returned (.string ⟨#[]⟩) ∧ (Lib.IsBuilderF 324 5 B b [] w' ∧ Below B w w') := Any.Builder_String_empty_f Tryz.lays169 Tryz.Builder_Extra_169 B b w h hBw
open Go.RowKit in
/-- (*strings.Builder).String: "String returns the accumulated string.": WHATEVER THE BUILDER HOLDS; THE FORM '_f': OF A BUILDER THAT MAY HAVE BEEN READ BEFORE; AND IT IS A BUILDER STILL, holding the same bytes: it can be written on. (LAID: no walk: one application.) -/
theorem Tryz.Builder_String_any_f (B b : Nat) (l : List UInt8) (w : World) (h : Lib.IsBuilderF 324 5 B b (Lib.byteCells l) w) (hBw : B ≤ w.heap.size) :
    Calls Tryz.prog 279 #[.pointer (some ⟨b, 0, none⟩)] w fun e w' => e = .returned (.string ⟨l.toArray⟩) ∧ (Lib.IsBuilderF 324 5 B b (Lib.byteCells l) w' ∧ Below B w w') := Any.Builder_String_any_f Tryz.lays169 Tryz.Builder_Extra_169 B b l w h hBw
open Go.RowKit in
/-- (*strings.Builder).String: "String returns the accumulated string.": OF A BUILDER THAT HOLDS AT LEAST ONE BYTE. ✋ THE MODEL FREEZES THOSE BYTES IN THE BUFFER (unsafe.String): a later write INTO them ends the model's run without an answer; a later append BEHIND them goes on. The statement's order of evaluation is drawn: one draw. THE FORM '_k': OVER 'Lib.IsBuilderF' (a builder that 'String()' may have read), AND WITH THE FRAME THAT REACHES ABOVE THE BUILDER: 'Lib.OthersKept': every block that is not b and is no row of uint8's stands as it stood: the iterator of a range among them. (LAID: no walk: one application.) -/
theorem Tryz.Builder_String_k (B b : Nat) (l : List UInt8) (w : World) (h : Lib.IsBuilderF 324 5 B b (Lib.byteCells l) w) (h0 : l ≠ []) :
    Calls Tryz.prog 279 #[.pointer (some ⟨b, 0, none⟩)] w fun e w' => e = .returned (.string ⟨l.toArray⟩) ∧ (Lib.IsBuilderF 324 5 B b (Lib.byteCells l) w' ∧ Below B w w' ∧ Lib.OthersKept 5 (some b) w w') := Any.Builder_String_k Tryz.lays169 Tryz.Builder_Extra_169 B b l w h h0
open Go.RowKit in
/-- (*strings.Builder).String OF A BUILDER THAT HOLDS NO BYTE: the empty string; THE FORM '_k': OVER 'Lib.IsBuilderF' (a builder that 'String()' may have read), AND WITH THE FRAME THAT REACHES ABOVE THE BUILDER: 'Lib.OthersKept': every block that is not b and is no row of uint8's stands as it stood: the iterator of a range among them. (LAID: no walk: one application.) -/
theorem Tryz.Builder_String_empty_k (B b : Nat) (w : World) (h : Lib.IsBuilderF 324 5 B b [] w) (hBw : B ≤ w.heap.size) :
    Calls Tryz.prog 279 #[.pointer (some ⟨b, 0, none⟩)] w fun e w' => e = .returned (.string ⟨#[]⟩) ∧ (Lib.IsBuilderF 324 5 B b [] w' ∧ Below B w w' ∧ Lib.OthersKept 5 (some b) w w') := Any.Builder_String_empty_k Tryz.lays169 Tryz.Builder_Extra_169 B b w h hBw
open Go.RowKit in
/-- (*strings.Builder).String: "String returns the accumulated string.": WHATEVER THE BUILDER HOLDS; THE FORM '_k': OVER 'Lib.IsBuilderF' (a builder that 'String()' may have read), AND WITH THE FRAME THAT REACHES ABOVE THE BUILDER: 'Lib.OthersKept': every block that is not b and is no row of uint8's stands as it stood: the iterator of a range among them. (LAID: no walk: one application.) -/
theorem Tryz.Builder_String_any_k (B b : Nat) (l : List UInt8) (w : World) (h : Lib.IsBuilderF 324 5 B b (Lib.byteCells l) w) (hBw : B ≤ w.heap.size) :
    Calls Tryz.prog 279 #[.pointer (some ⟨b, 0, none⟩)] w fun e w' => e = .returned (.string ⟨l.toArray⟩) ∧ (Lib.IsBuilderF 324 5 B b (Lib.byteCells l) w' ∧ Below B w w' ∧ Lib.OthersKept 5 (some b) w w') := Any.Builder_String_any_k Tryz.lays169 Tryz.Builder_Extra_169 B b l w h hBw
def Tryz.lays278_ren : Go.Shelf.Ren := ⟨fun | 278 => 159 | n => n, fun | 37 => 144 | 21 => 21 | 51 => 172 | 4 => 4 | 46 => 206 | 5 => 5 | n => n, fun | n => n⟩
theorem Tryz.lays278 : Go.Proofs.Lays.n278 Tryz.prog Tryz.lays278_ren := {
  mixed := by kernel_rfl
  f278 := Tryz.func159.trans (congrArg some (by kernel_rfl))
  t4 := Tryz.underlying4
  a4 := Tryz.isAgg4
  z4 := Tryz.sizeOf4
  v4 := Tryz.zeroValue4
  t5 := Tryz.underlying5
  a5 := Tryz.isAgg5
  z5 := Tryz.sizeOf5
  v5 := Tryz.zeroValue5
  t21 := Tryz.underlying21
  a21 := Tryz.isAgg21
  z21 := Tryz.sizeOf21
  v21 := Tryz.zeroValue21
  t37 := Tryz.underlying144
  a37 := Tryz.isAgg144
  z37 := Tryz.sizeOf144
  v37 := Tryz.zeroValue144
  t46 := Tryz.underlying206
  a46 := Tryz.isAgg206
  z46 := Tryz.sizeOf206
  v46 := Tryz.zeroValue206
  t51 := Tryz.underlying172
  a51 := Tryz.isAgg172
  z51 := Tryz.sizeOf172
  v51 := Tryz.zeroValue172 }
open Go.RowKit in
/-- unicode/utf8.appendRuneNonASCII (what AppendRune calls for all but ASCII), ONTO A ROW OF BYTES THAT THE CALL OWNS: every int32 that is no ASCII rune: 'Lib.runeCells r' goes in behind what the row holds. (LAID: no walk: one application.) -/
theorem Tryz.utf8_appendRuneNonASCII_plain (B : Nat) (v : Value) (n : Nat) (xs : List Value) (r : Int) (hr0 : -2147483648 ≤ r) (hr1 : r ≤ 2147483647) (hna : r < 0 ∨ 128 ≤ r) (w : World) (hown : w.ownsRow B 5 1 v n xs) (hlen : n + 4 ≤ 140737488355328) (hBw : B ≤ w.heap.size) :
    Calls Tryz.prog 159 #[v, .int .i32 r] w fun e w' => ∃ v', e = .returned v' ∧ w'.ownsRow B 5 1 v' (n + (Lib.runeCells r).length) (xs ++ Lib.runeCells r) ∧ ∃ o, (w.alloc o).grownBy w' v.ownBlock := Any.utf8_appendRuneNonASCII_plain Tryz.lays278 (by kernel_rfl) B v n xs r hr0 hr1 hna w hown hlen hBw
def Tryz.lays242_ren : Go.Shelf.Ren := ⟨fun | 242 => 122 | 278 => 159 | n => n, fun | 37 => 144 | 21 => 21 | 51 => 172 | 4 => 4 | 5 => 5 | 46 => 206 | n => n, fun | n => n⟩
theorem Tryz.lays242 : Go.Proofs.Lays.n242 Tryz.prog Tryz.lays242_ren := {
  mixed := by kernel_rfl
  f242 := Tryz.func122.trans (congrArg some (by kernel_rfl))
  f278 := Tryz.func159.trans (congrArg some (by kernel_rfl))
  t4 := Tryz.underlying4
  a4 := Tryz.isAgg4
  z4 := Tryz.sizeOf4
  v4 := Tryz.zeroValue4
  t5 := Tryz.underlying5
  a5 := Tryz.isAgg5
  z5 := Tryz.sizeOf5
  v5 := Tryz.zeroValue5
  t21 := Tryz.underlying21
  a21 := Tryz.isAgg21
  z21 := Tryz.sizeOf21
  v21 := Tryz.zeroValue21
  t37 := Tryz.underlying144
  a37 := Tryz.isAgg144
  z37 := Tryz.sizeOf144
  v37 := Tryz.zeroValue144
  t46 := Tryz.underlying206
  a46 := Tryz.isAgg206
  z46 := Tryz.sizeOf206
  v46 := Tryz.zeroValue206
  t51 := Tryz.underlying172
  a51 := Tryz.isAgg172
  z51 := Tryz.sizeOf172
  v51 := Tryz.zeroValue172 }
open Go.RowKit in
/-- unicode/utf8.AppendRune: "AppendRune appends the UTF-8 encoding of r to the end of p and returns the extended buffer. If the rune is out of range, it appends the encoding of RuneError.": ONTO A ROW OF BYTES THAT THE CALL OWNS (its head frozen or not): EVERY int32: 'Lib.runeCells r' goes in behind what the row holds; the world: one new block (the bytes as the call's variadic argument), then what 'append' does to the row. (LAID: no walk: one application.) -/
theorem Tryz.utf8_AppendRune_plain (B : Nat) (v : Value) (n : Nat) (xs : List Value) (r : Int) (hr0 : -2147483648 ≤ r) (hr1 : r ≤ 2147483647) (w : World) (hown : w.ownsRow B 5 1 v n xs) (hlen : n + 4 ≤ 140737488355328) (hBw : B ≤ w.heap.size) :
    Calls Tryz.prog 122 #[v, .int .i32 r] w fun e w' => ∃ v', e = .returned v' ∧ w'.ownsRow B 5 1 v' (n + (Lib.runeCells r).length) (xs ++ Lib.runeCells r) ∧ ∃ o, (w.alloc o).grownBy w' v.ownBlock := Any.utf8_AppendRune_plain Tryz.lays242 (by kernel_rfl) B v n xs r hr0 hr1 w hown hlen hBw
def Tryz.lays244_ren : Go.Shelf.Ren := ⟨fun | 244 => 180 | 247 => 203 | 287 => 178 | 321 => 197 | 322 => 198 | n => n, fun | 9 => 9 | 3 => 3 | 75 => 210 | 4 => 4 | 5 => 5 | 167 => 250 | 37 => 144 | 0 => 0 | 85 => 255 | 2 => 2 | 53 => 149 | 175 => 211 | 46 => 206 | 21 => 21 | 80 => 268 | n => n, fun | n => n⟩
theorem Tryz.lays244 : Go.Proofs.Lays.n244 Tryz.prog Tryz.lays244_ren := {
  mixed := by kernel_rfl
  f244 := Tryz.func180.trans (congrArg some (by kernel_rfl))
  f247 := Tryz.func203.trans (congrArg some (by kernel_rfl))
  f287 := Tryz.func178.trans (congrArg some (by kernel_rfl))
  f321 := Tryz.func197.trans (congrArg some (by kernel_rfl))
  f322 := Tryz.func198.trans (congrArg some (by kernel_rfl))
  t0 := Tryz.underlying0
  a0 := Tryz.isAgg0
  z0 := Tryz.sizeOf0
  v0 := Tryz.zeroValue0
  t2 := Tryz.underlying2
  a2 := Tryz.isAgg2
  z2 := Tryz.sizeOf2
  v2 := Tryz.zeroValue2
  t3 := Tryz.underlying3
  a3 := Tryz.isAgg3
  z3 := Tryz.sizeOf3
  v3 := Tryz.zeroValue3
  t4 := Tryz.underlying4
  a4 := Tryz.isAgg4
  z4 := Tryz.sizeOf4
  v4 := Tryz.zeroValue4
  t5 := Tryz.underlying5
  a5 := Tryz.isAgg5
  z5 := Tryz.sizeOf5
  v5 := Tryz.zeroValue5
  t9 := Tryz.underlying9
  a9 := Tryz.isAgg9
  z9 := Tryz.sizeOf9
  v9 := Tryz.zeroValue9
  t21 := Tryz.underlying21
  a21 := Tryz.isAgg21
  z21 := Tryz.sizeOf21
  v21 := Tryz.zeroValue21
  t37 := Tryz.underlying144
  a37 := Tryz.isAgg144
  z37 := Tryz.sizeOf144
  v37 := Tryz.zeroValue144
  t46 := Tryz.underlying206
  a46 := Tryz.isAgg206
  z46 := Tryz.sizeOf206
  v46 := Tryz.zeroValue206
  t53 := Tryz.underlying149
  a53 := Tryz.isAgg149
  z53 := Tryz.sizeOf149
  v53 := Tryz.zeroValue149
  t75 := Tryz.underlying210
  a75 := Tryz.isAgg210
  z75 := Tryz.sizeOf210
  v75 := Tryz.zeroValue210
  t85 := Tryz.underlying255
  a85 := Tryz.isAgg255
  z85 := Tryz.sizeOf255
  v85 := Tryz.zeroValue255
  t167 := Tryz.underlying250
  a167 := Tryz.isAgg250
  z167 := Tryz.sizeOf250
  v167 := Tryz.zeroValue250
  t175 := Tryz.underlying211
  a175 := Tryz.isAgg211
  z175 := Tryz.sizeOf211
  v175 := Tryz.zeroValue211 }
open Go.RowKit in
/-- internal/strconv.Atoi, at a decimal numeral of at most 18 bytes: ITS VALUE, AND NO ERROR. The world behind the call: the one new row that '[]byte(s)' lays. (LAID: no walk: one application.) -/
theorem Tryz.internal_strconv_Atoi (s : ByteArray) (n : Int) (hl : s.size ≤ 18) (h : Lib.atoi s.data.toList = some n) (w : World) :
    Calls Tryz.prog 180 #[.string s] w fun e w' => e = .returned (.tuple #[.int .i64 n, .nilIface]) ∧ ∃ t, w' = Lib.bytesWorld w 5 t := Any.internal_strconv_Atoi Tryz.lays244 s n hl h w
def Tryz.lays172_ren : Go.Shelf.Ren := ⟨fun | 172 => 154 | 244 => 180 | 245 => 179 | 247 => 203 | 279 => 199 | 280 => 200 | 281 => 201 | 282 => 202 | 287 => 178 | 316 => 215 | 171 => 217 | 205 => 216 | 321 => 197 | 322 => 198 | 243 => 228 | 246 => 232 | 283 => 236 | 284 => 237 | 285 => 238 | 286 => 239 | 129 => 241 | 317 => 240 | 318 => 242 | 319 => 243 | 320 => 244 | 337 => 245 | 338 => 246 | n => n, fun | 9 => 9 | 3 => 3 | 75 => 210 | 76 => 213 | 4 => 4 | 5 => 5 | 167 => 250 | 37 => 144 | 0 => 0 | 85 => 255 | 2 => 2 | 168 => 252 | 53 => 149 | 175 => 211 | 46 => 206 | 210 => 277 | 127 => 288 | 145 => 291 | 143 => 289 | 21 => 21 | 171 => 297 | 173 => 300 | 212 => 302 | 51 => 172 | 20 => 20 | 213 => 303 | 232 => 306 | 233 => 307 | 80 => 268 | n => n, fun | 15 => 8 | 16 => 9 | 17 => 10 | 18 => 11 | 19 => 12 | n => n⟩
theorem Tryz.lays172 : Go.Proofs.Lays.n172 Tryz.prog Tryz.lays172_ren := {
  mixed := by kernel_rfl
  f129 := Tryz.func241.trans (congrArg some (by kernel_rfl))
  f171 := Tryz.func217.trans (congrArg some (by kernel_rfl))
  f172 := Tryz.func154.trans (congrArg some (by kernel_rfl))
  f205 := Tryz.func216.trans (congrArg some (by kernel_rfl))
  f243 := Tryz.func228.trans (congrArg some (by kernel_rfl))
  f244 := Tryz.func180.trans (congrArg some (by kernel_rfl))
  f245 := Tryz.func179.trans (congrArg some (by kernel_rfl))
  f246 := Tryz.func232.trans (congrArg some (by kernel_rfl))
  f247 := Tryz.func203.trans (congrArg some (by kernel_rfl))
  f279 := Tryz.func199.trans (congrArg some (by kernel_rfl))
  f280 := Tryz.func200.trans (congrArg some (by kernel_rfl))
  f281 := Tryz.func201.trans (congrArg some (by kernel_rfl))
  f282 := Tryz.func202.trans (congrArg some (by kernel_rfl))
  f283 := Tryz.func236.trans (congrArg some (by kernel_rfl))
  f284 := Tryz.func237.trans (congrArg some (by kernel_rfl))
  f285 := Tryz.func238.trans (congrArg some (by kernel_rfl))
  f286 := Tryz.func239.trans (congrArg some (by kernel_rfl))
  f287 := Tryz.func178.trans (congrArg some (by kernel_rfl))
  f316 := Tryz.func215.trans (congrArg some (by kernel_rfl))
  f317 := Tryz.func240.trans (congrArg some (by kernel_rfl))
  f318 := Tryz.func242.trans (congrArg some (by kernel_rfl))
  f319 := Tryz.func243.trans (congrArg some (by kernel_rfl))
  f320 := Tryz.func244.trans (congrArg some (by kernel_rfl))
  f321 := Tryz.func197.trans (congrArg some (by kernel_rfl))
  f322 := Tryz.func198.trans (congrArg some (by kernel_rfl))
  f337 := Tryz.func245.trans (congrArg some (by kernel_rfl))
  f338 := Tryz.func246.trans (congrArg some (by kernel_rfl))
  t0 := Tryz.underlying0
  a0 := Tryz.isAgg0
  z0 := Tryz.sizeOf0
  v0 := Tryz.zeroValue0
  t2 := Tryz.underlying2
  a2 := Tryz.isAgg2
  z2 := Tryz.sizeOf2
  v2 := Tryz.zeroValue2
  t3 := Tryz.underlying3
  a3 := Tryz.isAgg3
  z3 := Tryz.sizeOf3
  v3 := Tryz.zeroValue3
  t4 := Tryz.underlying4
  a4 := Tryz.isAgg4
  z4 := Tryz.sizeOf4
  v4 := Tryz.zeroValue4
  t5 := Tryz.underlying5
  a5 := Tryz.isAgg5
  z5 := Tryz.sizeOf5
  v5 := Tryz.zeroValue5
  t9 := Tryz.underlying9
  a9 := Tryz.isAgg9
  z9 := Tryz.sizeOf9
  v9 := Tryz.zeroValue9
  t20 := Tryz.underlying20
  a20 := Tryz.isAgg20
  z20 := Tryz.sizeOf20
  v20 := Tryz.zeroValue20
  t21 := Tryz.underlying21
  a21 := Tryz.isAgg21
  z21 := Tryz.sizeOf21
  v21 := Tryz.zeroValue21
  t37 := Tryz.underlying144
  a37 := Tryz.isAgg144
  z37 := Tryz.sizeOf144
  v37 := Tryz.zeroValue144
  t46 := Tryz.underlying206
  a46 := Tryz.isAgg206
  z46 := Tryz.sizeOf206
  v46 := Tryz.zeroValue206
  t51 := Tryz.underlying172
  a51 := Tryz.isAgg172
  z51 := Tryz.sizeOf172
  v51 := Tryz.zeroValue172
  t53 := Tryz.underlying149
  a53 := Tryz.isAgg149
  z53 := Tryz.sizeOf149
  v53 := Tryz.zeroValue149
  t75 := Tryz.underlying210
  a75 := Tryz.isAgg210
  z75 := Tryz.sizeOf210
  v75 := Tryz.zeroValue210
  t76 := Tryz.underlying213
  a76 := Tryz.isAgg213
  z76 := Tryz.sizeOf213
  v76 := Tryz.zeroValue213
  t85 := Tryz.underlying255
  a85 := Tryz.isAgg255
  z85 := Tryz.sizeOf255
  v85 := Tryz.zeroValue255
  t127 := Tryz.underlying288
  a127 := Tryz.isAgg288
  z127 := Tryz.sizeOf288
  v127 := Tryz.zeroValue288
  t143 := Tryz.underlying289
  a143 := Tryz.isAgg289
  z143 := Tryz.sizeOf289
  v143 := Tryz.zeroValue289
  t145 := Tryz.underlying291
  a145 := Tryz.isAgg291
  z145 := Tryz.sizeOf291
  v145 := Tryz.zeroValue291
  t167 := Tryz.underlying250
  a167 := Tryz.isAgg250
  z167 := Tryz.sizeOf250
  v167 := Tryz.zeroValue250
  t168 := Tryz.underlying252
  a168 := Tryz.isAgg252
  z168 := Tryz.sizeOf252
  v168 := Tryz.zeroValue252
  t171 := Tryz.underlying297
  a171 := Tryz.isAgg297
  z171 := Tryz.sizeOf297
  v171 := Tryz.zeroValue297
  t173 := Tryz.underlying300
  a173 := Tryz.isAgg300
  z173 := Tryz.sizeOf300
  v173 := Tryz.zeroValue300
  t175 := Tryz.underlying211
  a175 := Tryz.isAgg211
  z175 := Tryz.sizeOf211
  v175 := Tryz.zeroValue211
  t210 := Tryz.underlying277
  a210 := Tryz.isAgg277
  z210 := Tryz.sizeOf277
  v210 := Tryz.zeroValue277
  t212 := Tryz.underlying302
  a212 := Tryz.isAgg302
  z212 := Tryz.sizeOf302
  v212 := Tryz.zeroValue302
  t213 := Tryz.underlying303
  a213 := Tryz.isAgg303
  z213 := Tryz.sizeOf303
  t232 := Tryz.underlying306
  a232 := Tryz.isAgg306
  z232 := Tryz.sizeOf306
  v232 := Tryz.zeroValue306
  t233 := Tryz.underlying307
  a233 := Tryz.isAgg307
  z233 := Tryz.sizeOf307
  v233 := Tryz.zeroValue307
  g15 := by kernel_rfl
  g16 := by kernel_rfl
  g17 := by kernel_rfl
  g18 := by kernel_rfl
  g19 := by kernel_rfl }
open Go.RowKit in
/-- strconv.Atoi: "Atoi is equivalent to ParseInt(s, 10, 0), converted to type int.": AT A DECIMAL NUMERAL OF AT MOST 18 BYTES: its value, and a nil error. The world behind the call: the one new row that the library's '[]byte(s)' lays. (LAID: no walk: one application.) -/
theorem Tryz.strconv_Atoi (s : ByteArray) (n : Int) (hl : s.size ≤ 18) (h : Lib.atoi s.data.toList = some n) (w : World) :
    Calls Tryz.prog 154 #[.string s] w fun e w' => e = .returned (.tuple #[.int .i64 n, .nilIface]) ∧ ∃ t, w' = Lib.bytesWorld w 5 t := Any.strconv_Atoi Tryz.lays172 s n hl h w
open Go.RowKit in
/-- internal/strconv.Atoi, at a string of 1 to 18 bytes THAT IS NO DECIMAL NUMERAL: 0, AND ErrSyntax (the package's own error number 2). The world behind the call: as it was, or with the one new row that '[]byte(s)' lays. (LAID: no walk: one application.) -/
theorem Tryz.internal_strconv_Atoi_err (s : ByteArray) (hl0 : 1 ≤ s.size) (hl : s.size ≤ 18) (h : Lib.atoi s.data.toList = none) (w : World) :
    Calls Tryz.prog 180 #[.string s] w fun e w' => e = .returned (.tuple #[.int .i64 0, (.iface 250 (.int .i64 2))]) ∧ (w' = w ∨ ∃ t, w' = Lib.bytesWorld w 5 t) := Any.internal_strconv_Atoi_err Tryz.lays244 s hl0 hl h w
def Tryz.lays247_ren : Go.Shelf.Ren := ⟨fun | 247 => 203 | 287 => 178 | 321 => 197 | 322 => 198 | n => n, fun | 9 => 9 | 3 => 3 | 2 => 2 | 75 => 210 | 4 => 4 | 167 => 250 | 5 => 5 | 53 => 149 | 175 => 211 | 46 => 206 | 37 => 144 | 0 => 0 | 21 => 21 | 80 => 268 | n => n, fun | n => n⟩
theorem Tryz.lays247 : Go.Proofs.Lays.n247 Tryz.prog Tryz.lays247_ren := {
  mixed := by kernel_rfl
  f247 := Tryz.func203.trans (congrArg some (by kernel_rfl))
  f287 := Tryz.func178.trans (congrArg some (by kernel_rfl))
  f321 := Tryz.func197.trans (congrArg some (by kernel_rfl))
  f322 := Tryz.func198.trans (congrArg some (by kernel_rfl))
  t0 := Tryz.underlying0
  a0 := Tryz.isAgg0
  z0 := Tryz.sizeOf0
  v0 := Tryz.zeroValue0
  t2 := Tryz.underlying2
  a2 := Tryz.isAgg2
  z2 := Tryz.sizeOf2
  v2 := Tryz.zeroValue2
  t3 := Tryz.underlying3
  a3 := Tryz.isAgg3
  z3 := Tryz.sizeOf3
  v3 := Tryz.zeroValue3
  t4 := Tryz.underlying4
  a4 := Tryz.isAgg4
  z4 := Tryz.sizeOf4
  v4 := Tryz.zeroValue4
  t5 := Tryz.underlying5
  a5 := Tryz.isAgg5
  z5 := Tryz.sizeOf5
  v5 := Tryz.zeroValue5
  t9 := Tryz.underlying9
  a9 := Tryz.isAgg9
  z9 := Tryz.sizeOf9
  v9 := Tryz.zeroValue9
  t21 := Tryz.underlying21
  a21 := Tryz.isAgg21
  z21 := Tryz.sizeOf21
  v21 := Tryz.zeroValue21
  t37 := Tryz.underlying144
  a37 := Tryz.isAgg144
  z37 := Tryz.sizeOf144
  v37 := Tryz.zeroValue144
  t46 := Tryz.underlying206
  a46 := Tryz.isAgg206
  z46 := Tryz.sizeOf206
  v46 := Tryz.zeroValue206
  t53 := Tryz.underlying149
  a53 := Tryz.isAgg149
  z53 := Tryz.sizeOf149
  v53 := Tryz.zeroValue149
  t75 := Tryz.underlying210
  a75 := Tryz.isAgg210
  z75 := Tryz.sizeOf210
  v75 := Tryz.zeroValue210
  t167 := Tryz.underlying250
  a167 := Tryz.isAgg250
  z167 := Tryz.sizeOf250
  v167 := Tryz.zeroValue250
  t175 := Tryz.underlying211
  a175 := Tryz.isAgg211
  z175 := Tryz.sizeOf211
  v175 := Tryz.zeroValue211 }
open Go.RowKit in
/-- internal/strconv.ParseInt at "": 'if s == "" { return 0, ErrSyntax }'. The world is as it was. (LAID: no walk: one application.) -/
theorem Tryz.internal_strconv_ParseInt_empty (base bits : Int) (w : World) :
    Calls Tryz.prog 203 #[.string ⟨#[]⟩, .int .i64 base, .int .i64 bits] w fun e w' => e = .returned (.tuple #[.int .i64 0, (.iface 250 (.int .i64 2))]) ∧ w' = w := Any.internal_strconv_ParseInt_empty Tryz.lays247 base bits w
open Go.RowKit in
/-- internal/strconv.Atoi at "". (LAID: no walk: one application.) -/
theorem Tryz.internal_strconv_Atoi_empty (w : World) :
    Calls Tryz.prog 180 #[.string ⟨#[]⟩] w fun e w' => e = .returned (.tuple #[.int .i64 0, (.iface 250 (.int .i64 2))]) ∧ w' = w := Any.internal_strconv_Atoi_empty Tryz.lays244 w
open Go.RowKit in
/-- internal/strconv.Atoi, AT EVERY STRING OF AT MOST 18 BYTES THAT IS NO DECIMAL NUMERAL: 0, and ErrSyntax. (LAID: no walk: one application.) -/
theorem Tryz.internal_strconv_Atoi_fail (s : ByteArray) (hl : s.size ≤ 18) (h : Lib.atoi s.data.toList = none) (w : World) :
    Calls Tryz.prog 180 #[.string s] w fun e w' => e = .returned (.tuple #[.int .i64 0, (.iface 250 (.int .i64 2))]) ∧ (w' = w ∨ ∃ t, w' = Lib.bytesWorld w 5 t) := Any.internal_strconv_Atoi_fail Tryz.lays244 s hl h w
def Tryz.laysM316_ren : Go.Shelf.Ren := ⟨fun | 316 => 215 | n => n, fun | 9 => 9 | 3 => 3 | 4 => 4 | 37 => 144 | 0 => 0 | 127 => 288 | 5 => 5 | n => n, fun | n => n⟩
theorem Tryz.laysM316 : Go.Proofs.LaysM.n316 Tryz.prog Tryz.laysM316_ren := {
  mixed := by kernel_rfl
  f316 := Tryz.func215.trans (congrArg some (by kernel_rfl))
  t0 := Tryz.underlying0
  a0 := Tryz.isAgg0
  z0 := Tryz.sizeOf0
  v0 := Tryz.zeroValue0
  t3 := Tryz.underlying3
  a3 := Tryz.isAgg3
  z3 := Tryz.sizeOf3
  v3 := Tryz.zeroValue3
  t4 := Tryz.underlying4
  a4 := Tryz.isAgg4
  z4 := Tryz.sizeOf4
  v4 := Tryz.zeroValue4
  t9 := Tryz.underlying9
  a9 := Tryz.isAgg9
  z9 := Tryz.sizeOf9
  v9 := Tryz.zeroValue9
  t37 := Tryz.underlying144
  a37 := Tryz.isAgg144
  z37 := Tryz.sizeOf144
  v37 := Tryz.zeroValue144
  t127 := Tryz.underlying288
  a127 := Tryz.isAgg288
  z127 := Tryz.sizeOf288
  v127 := Tryz.zeroValue288
  t5 := Tryz.underlying5
  a5 := Tryz.isAgg5
  z5 := Tryz.sizeOf5
  v5 := Tryz.zeroValue5
  i0 := by kernel_rfl
  i3 := by kernel_rfl
  i4 := by kernel_rfl
  i5 := by kernel_rfl
  i9 := by kernel_rfl
  i37 := by kernel_rfl
  i127 := by kernel_rfl }
open Go.RowKit in
/-- internal/stringslite.Clone (what strings.Clone calls): "Clone returns a fresh copy of s.": THE SAME BYTES. Of what was there nothing has turned (a new row is laid, and frozen, where s is not empty). (LAID: no walk: one application.) -/
theorem Tryz.stringslite_Clone (s : ByteArray) (w : World) (hlim : s.size ≤ 281474976710656) :
    Calls Tryz.prog 215 #[.string s] w fun e w' => e = .returned (.string s) ∧ Below w.heap.size w w' := Any.stringslite_Clone Tryz.laysM316 s w hlim
def Tryz.laysM279_ren : Go.Shelf.Ren := ⟨fun | 279 => 199 | 316 => 215 | n => n, fun | 9 => 9 | 168 => 252 | 75 => 210 | 210 => 277 | 3 => 3 | 4 => 4 | 37 => 144 | 0 => 0 | 127 => 288 | 80 => 268 | 5 => 5 | n => n, fun | 15 => 8 | n => n⟩
theorem Tryz.laysM279 : Go.Proofs.LaysM.n279 Tryz.prog Tryz.laysM279_ren := {
  mixed := by kernel_rfl
  f279 := Tryz.func199.trans (congrArg some (by kernel_rfl))
  f316 := Tryz.func215.trans (congrArg some (by kernel_rfl))
  t0 := Tryz.underlying0
  a0 := Tryz.isAgg0
  z0 := Tryz.sizeOf0
  v0 := Tryz.zeroValue0
  t3 := Tryz.underlying3
  a3 := Tryz.isAgg3
  z3 := Tryz.sizeOf3
  v3 := Tryz.zeroValue3
  t4 := Tryz.underlying4
  a4 := Tryz.isAgg4
  z4 := Tryz.sizeOf4
  v4 := Tryz.zeroValue4
  t9 := Tryz.underlying9
  a9 := Tryz.isAgg9
  z9 := Tryz.sizeOf9
  v9 := Tryz.zeroValue9
  t37 := Tryz.underlying144
  a37 := Tryz.isAgg144
  z37 := Tryz.sizeOf144
  v37 := Tryz.zeroValue144
  t75 := Tryz.underlying210
  a75 := Tryz.isAgg210
  z75 := Tryz.sizeOf210
  v75 := Tryz.zeroValue210
  t127 := Tryz.underlying288
  a127 := Tryz.isAgg288
  z127 := Tryz.sizeOf288
  v127 := Tryz.zeroValue288
  t168 := Tryz.underlying252
  a168 := Tryz.isAgg252
  z168 := Tryz.sizeOf252
  v168 := Tryz.zeroValue252
  t210 := Tryz.underlying277
  a210 := Tryz.isAgg277
  z210 := Tryz.sizeOf277
  v210 := Tryz.zeroValue277
  g15 := by kernel_rfl
  t5 := Tryz.underlying5
  a5 := Tryz.isAgg5
  z5 := Tryz.sizeOf5
  v5 := Tryz.zeroValue5
  t80 := Tryz.underlying268
  a80 := Tryz.isAgg268
  z80 := Tryz.sizeOf268
  v80 := Tryz.zeroValue268
  i0 := by kernel_rfl
  i3 := by kernel_rfl
  i4 := by kernel_rfl
  i5 := by kernel_rfl
  i9 := by kernel_rfl
  i37 := by kernel_rfl
  i75 := by kernel_rfl
  i80 := by kernel_rfl
  i127 := by kernel_rfl
  i168 := by kernel_rfl
  i210 := by kernel_rfl
  m15 := by kernel_rfl }
open Go.RowKit in
/-- strconv.syntaxError: '&NumError{fn, stringslite.Clone(str), ErrSyntax}': A POINTER TO A NEW BLOCK that holds fn, str's bytes, and what the variable ErrSyntax holds. Of what was there nothing has turned. (LAID: no walk: one application.) -/
theorem Tryz.strconv_syntaxError (fn s : ByteArray) (ev : Value) (w : World) (hlim : s.size ≤ 281474976710656) (hv : w.cell? ⟨8, 0, none⟩ = some ev) (hev : ev = .nilIface ∨ ∃ te pe, ev = .iface te pe) :
    Calls Tryz.prog 199 #[.string fn, .string s] w fun e w' => ∃ N, e = .returned (.pointer (some ⟨N, 0, none⟩)) ∧ w.heap.size ≤ N ∧ w'.heap[N]? = some (.cells #[.string fn, .string s, ev] 277 (0, 0)) ∧ Below w.heap.size w w' := Any.strconv_syntaxError Tryz.laysM279 fn s ev w hlim hv hev
def Tryz.laysC245_ren : Go.Shelf.Ren := ⟨fun | 245 => 179 | 279 => 199 | 280 => 200 | 281 => 201 | 282 => 202 | 316 => 215 | 171 => 217 | 205 => 216 | 243 => 228 | 246 => 232 | 283 => 236 | 284 => 237 | 285 => 238 | 286 => 239 | 129 => 241 | 317 => 240 | 318 => 242 | 319 => 243 | 320 => 244 | 337 => 245 | 338 => 246 | n => n, fun | 9 => 9 | 3 => 3 | 75 => 210 | 167 => 250 | 4 => 4 | 168 => 252 | 210 => 277 | 37 => 144 | 0 => 0 | 127 => 288 | 145 => 291 | 143 => 289 | 2 => 2 | 171 => 297 | 53 => 149 | 5 => 5 | 173 => 300 | 212 => 302 | 51 => 172 | 20 => 20 | 213 => 303 | 46 => 206 | 232 => 306 | 233 => 307 | 80 => 268 | n => n, fun | 15 => 8 | 16 => 9 | 17 => 10 | 18 => 11 | 19 => 12 | n => n⟩
theorem Tryz.laysC245 : Go.Proofs.LaysC.n245 Tryz.prog Tryz.laysC245_ren := {
  mixed := by kernel_rfl
  f129 := Tryz.func241.trans (congrArg some (by kernel_rfl))
  f171 := Tryz.func217.trans (congrArg some (by kernel_rfl))
  f205 := Tryz.func216.trans (congrArg some (by kernel_rfl))
  f243 := Tryz.func228.trans (congrArg some (by kernel_rfl))
  f245 := Tryz.func179.trans (congrArg some (by kernel_rfl))
  f246 := Tryz.func232.trans (congrArg some (by kernel_rfl))
  f279 := Tryz.func199.trans (congrArg some (by kernel_rfl))
  f280 := Tryz.func200.trans (congrArg some (by kernel_rfl))
  f281 := Tryz.func201.trans (congrArg some (by kernel_rfl))
  f282 := Tryz.func202.trans (congrArg some (by kernel_rfl))
  f283 := Tryz.func236.trans (congrArg some (by kernel_rfl))
  f284 := Tryz.func237.trans (congrArg some (by kernel_rfl))
  f285 := Tryz.func238.trans (congrArg some (by kernel_rfl))
  f286 := Tryz.func239.trans (congrArg some (by kernel_rfl))
  f316 := Tryz.func215.trans (congrArg some (by kernel_rfl))
  f317 := Tryz.func240.trans (congrArg some (by kernel_rfl))
  f318 := Tryz.func242.trans (congrArg some (by kernel_rfl))
  f319 := Tryz.func243.trans (congrArg some (by kernel_rfl))
  f320 := Tryz.func244.trans (congrArg some (by kernel_rfl))
  f337 := Tryz.func245.trans (congrArg some (by kernel_rfl))
  f338 := Tryz.func246.trans (congrArg some (by kernel_rfl))
  t0 := Tryz.underlying0
  a0 := Tryz.isAgg0
  z0 := Tryz.sizeOf0
  v0 := Tryz.zeroValue0
  t2 := Tryz.underlying2
  a2 := Tryz.isAgg2
  z2 := Tryz.sizeOf2
  v2 := Tryz.zeroValue2
  t3 := Tryz.underlying3
  a3 := Tryz.isAgg3
  z3 := Tryz.sizeOf3
  v3 := Tryz.zeroValue3
  t4 := Tryz.underlying4
  a4 := Tryz.isAgg4
  z4 := Tryz.sizeOf4
  v4 := Tryz.zeroValue4
  t5 := Tryz.underlying5
  a5 := Tryz.isAgg5
  z5 := Tryz.sizeOf5
  v5 := Tryz.zeroValue5
  t9 := Tryz.underlying9
  a9 := Tryz.isAgg9
  z9 := Tryz.sizeOf9
  v9 := Tryz.zeroValue9
  t20 := Tryz.underlying20
  a20 := Tryz.isAgg20
  z20 := Tryz.sizeOf20
  v20 := Tryz.zeroValue20
  t37 := Tryz.underlying144
  a37 := Tryz.isAgg144
  z37 := Tryz.sizeOf144
  v37 := Tryz.zeroValue144
  t46 := Tryz.underlying206
  a46 := Tryz.isAgg206
  z46 := Tryz.sizeOf206
  v46 := Tryz.zeroValue206
  t51 := Tryz.underlying172
  a51 := Tryz.isAgg172
  z51 := Tryz.sizeOf172
  v51 := Tryz.zeroValue172
  t53 := Tryz.underlying149
  a53 := Tryz.isAgg149
  z53 := Tryz.sizeOf149
  v53 := Tryz.zeroValue149
  t75 := Tryz.underlying210
  a75 := Tryz.isAgg210
  z75 := Tryz.sizeOf210
  v75 := Tryz.zeroValue210
  t127 := Tryz.underlying288
  a127 := Tryz.isAgg288
  z127 := Tryz.sizeOf288
  v127 := Tryz.zeroValue288
  t143 := Tryz.underlying289
  a143 := Tryz.isAgg289
  z143 := Tryz.sizeOf289
  v143 := Tryz.zeroValue289
  t145 := Tryz.underlying291
  a145 := Tryz.isAgg291
  z145 := Tryz.sizeOf291
  v145 := Tryz.zeroValue291
  t167 := Tryz.underlying250
  a167 := Tryz.isAgg250
  z167 := Tryz.sizeOf250
  v167 := Tryz.zeroValue250
  t168 := Tryz.underlying252
  a168 := Tryz.isAgg252
  z168 := Tryz.sizeOf252
  v168 := Tryz.zeroValue252
  t171 := Tryz.underlying297
  a171 := Tryz.isAgg297
  z171 := Tryz.sizeOf297
  v171 := Tryz.zeroValue297
  t173 := Tryz.underlying300
  a173 := Tryz.isAgg300
  z173 := Tryz.sizeOf300
  v173 := Tryz.zeroValue300
  t210 := Tryz.underlying277
  a210 := Tryz.isAgg277
  z210 := Tryz.sizeOf277
  v210 := Tryz.zeroValue277
  t212 := Tryz.underlying302
  a212 := Tryz.isAgg302
  z212 := Tryz.sizeOf302
  v212 := Tryz.zeroValue302
  t213 := Tryz.underlying303
  a213 := Tryz.isAgg303
  z213 := Tryz.sizeOf303
  t232 := Tryz.underlying306
  a232 := Tryz.isAgg306
  z232 := Tryz.sizeOf306
  v232 := Tryz.zeroValue306
  t233 := Tryz.underlying307
  a233 := Tryz.isAgg307
  z233 := Tryz.sizeOf307
  v233 := Tryz.zeroValue307
  g15 := by kernel_rfl
  g16 := by kernel_rfl
  g17 := by kernel_rfl
  g18 := by kernel_rfl
  g19 := by kernel_rfl
  t80 := Tryz.underlying268
  a80 := Tryz.isAgg268
  z80 := Tryz.sizeOf268
  v80 := Tryz.zeroValue268
  i0 := by kernel_rfl
  i2 := by kernel_rfl
  i3 := by kernel_rfl
  i4 := by kernel_rfl
  i5 := by kernel_rfl
  i9 := by kernel_rfl
  i20 := by kernel_rfl
  i37 := by kernel_rfl
  i46 := by kernel_rfl
  i51 := by kernel_rfl
  i53 := by kernel_rfl
  i75 := by kernel_rfl
  i80 := by kernel_rfl
  i127 := by kernel_rfl
  i143 := by kernel_rfl
  i145 := by kernel_rfl
  i167 := by kernel_rfl
  i168 := by kernel_rfl
  i171 := by kernel_rfl
  i173 := by kernel_rfl
  i210 := by kernel_rfl
  i212 := by kernel_rfl
  i232 := by kernel_rfl
  i233 := by kernel_rfl
  m15 := by kernel_rfl
  m16 := by kernel_rfl
  m17 := by kernel_rfl
  m18 := by kernel_rfl
  m19 := by kernel_rfl
  c0 := by kernel_rfl
  c2 := by kernel_rfl
  c3 := by kernel_rfl
  c4 := by kernel_rfl
  c5 := by kernel_rfl
  c9 := by kernel_rfl
  c20 := by kernel_rfl
  c37 := by kernel_rfl
  c46 := by kernel_rfl
  c51 := by kernel_rfl
  c53 := by kernel_rfl
  c75 := by kernel_rfl
  c80 := by kernel_rfl
  c127 := by kernel_rfl
  c143 := by kernel_rfl
  c145 := by kernel_rfl
  c167 := by kernel_rfl
  c168 := by kernel_rfl
  c171 := by kernel_rfl
  c173 := by kernel_rfl
  c210 := by kernel_rfl
  c212 := by kernel_rfl
  c213 := by kernel_rfl
  c232 := by kernel_rfl
  c233 := by kernel_rfl }
open Go.RowKit in
/-- strconv.toError, at the inner package's ErrSyntax: 'syntaxError(fn, s)' as an error: A *NumError IN A NEW BLOCK. (LAID: no walk: one application.) -/
theorem Tryz.strconv_toError_syntax (fn s : ByteArray) (base bits : Int) (ev : Value) (w : World) (hlim : s.size ≤ 281474976710656) (hv : w.cell? ⟨8, 0, none⟩ = some ev) (hev : ev = .nilIface ∨ ∃ te pe, ev = .iface te pe) :
    Calls Tryz.prog 179 #[.string fn, .string s, .int .i64 base, .int .i64 bits, .iface 250 (.int .i64 2)] w fun e w' => ∃ N, e = .returned (.iface 252 (.pointer (some ⟨N, 0, none⟩))) ∧ w.heap.size ≤ N ∧ w'.heap[N]? = some (.cells #[.string fn, .string s, ev] 277 (0, 0)) ∧ Below w.heap.size w w' := Any.strconv_toError_syntax Tryz.laysC245 fn s base bits ev w hlim hv hev
def Tryz.lays321_ren : Go.Shelf.Ren := ⟨fun | 321 => 197 | n => n, fun | 5 => 5 | n => n, fun | n => n⟩
theorem Tryz.lays321 : Go.Proofs.Lays.n321 Tryz.prog Tryz.lays321_ren := {
  mixed := by kernel_rfl
  f321 := Tryz.func197.trans (congrArg some (by kernel_rfl))
  t5 := Tryz.underlying5
  a5 := Tryz.isAgg5
  z5 := Tryz.sizeOf5
  v5 := Tryz.zeroValue5 }
open Go.RowKit in
/-- internal/strconv.lower: 'c | ('x' - 'X')': the bit 32 set. The world is as it was. (LAID: no walk: one application.) -/
theorem Tryz.internal_strconv_lower (c : Int) (w : World) :
    Calls Tryz.prog 197 #[.int .u8 c] w fun e w' => e = .returned (.int .u8 (bits .or .u8 c 32)) ∧ w' = w := Any.internal_strconv_lower Tryz.lays321 c w
def Tryz.lays287_ren : Go.Shelf.Ren := ⟨fun | 287 => 178 | 321 => 197 | 322 => 198 | n => n, fun | 9 => 9 | 3 => 3 | 53 => 149 | 75 => 210 | 4 => 4 | 167 => 250 | 5 => 5 | 46 => 206 | 37 => 144 | 0 => 0 | 21 => 21 | 80 => 268 | n => n, fun | n => n⟩
theorem Tryz.lays287 : Go.Proofs.Lays.n287 Tryz.prog Tryz.lays287_ren := {
  mixed := by kernel_rfl
  f287 := Tryz.func178.trans (congrArg some (by kernel_rfl))
  f321 := Tryz.func197.trans (congrArg some (by kernel_rfl))
  f322 := Tryz.func198.trans (congrArg some (by kernel_rfl))
  t0 := Tryz.underlying0
  a0 := Tryz.isAgg0
  z0 := Tryz.sizeOf0
  v0 := Tryz.zeroValue0
  t3 := Tryz.underlying3
  a3 := Tryz.isAgg3
  z3 := Tryz.sizeOf3
  v3 := Tryz.zeroValue3
  t4 := Tryz.underlying4
  a4 := Tryz.isAgg4
  z4 := Tryz.sizeOf4
  v4 := Tryz.zeroValue4
  t5 := Tryz.underlying5
  a5 := Tryz.isAgg5
  z5 := Tryz.sizeOf5
  v5 := Tryz.zeroValue5
  t9 := Tryz.underlying9
  a9 := Tryz.isAgg9
  z9 := Tryz.sizeOf9
  v9 := Tryz.zeroValue9
  t21 := Tryz.underlying21
  a21 := Tryz.isAgg21
  z21 := Tryz.sizeOf21
  v21 := Tryz.zeroValue21
  t37 := Tryz.underlying144
  a37 := Tryz.isAgg144
  z37 := Tryz.sizeOf144
  v37 := Tryz.zeroValue144
  t46 := Tryz.underlying206
  a46 := Tryz.isAgg206
  z46 := Tryz.sizeOf206
  v46 := Tryz.zeroValue206
  t53 := Tryz.underlying149
  a53 := Tryz.isAgg149
  z53 := Tryz.sizeOf149
  v53 := Tryz.zeroValue149
  t75 := Tryz.underlying210
  a75 := Tryz.isAgg210
  z75 := Tryz.sizeOf210
  v75 := Tryz.zeroValue210
  t167 := Tryz.underlying250
  a167 := Tryz.isAgg250
  z167 := Tryz.sizeOf250
  v167 := Tryz.zeroValue250 }
open Go.RowKit in
/-- internal/strconv.ParseUint(s, 10, 0), s NOT EMPTY: 'Lib.parseUint10 0' OF ITS BYTES: the number; or (0, ErrSyntax); or (the greatest uint64, ErrRange). The world behind the call: the one new row that '[]byte(s)' lays. (LAID: no walk: one application.) -/
theorem Tryz.internal_strconv_ParseUint_10 (t : ByteArray) (hne : t.size ≠ 0) (hmax : t.size ≤ 9223372036854775806) (w : World) :
    Calls Tryz.prog 178 #[.string t, .int .i64 10, .int .i64 0] w fun e w' => e = .returned (Lib.uintTuple 250 (Lib.parseUint10 0 t.data.toList)) ∧ w' = Lib.bytesWorld w 5 t := Any.internal_strconv_ParseUint_10 Tryz.lays287 t hne hmax w
open Go.RowKit in
/-- internal/strconv.ParseUint("", 10, 0): (0, ErrSyntax). The world is as it was. (LAID: no walk: one application.) -/
theorem Tryz.internal_strconv_ParseUint_10_empty (w : World) :
    Calls Tryz.prog 178 #[.string ⟨#[]⟩, .int .i64 10, .int .i64 0] w fun e w' => e = .returned (Lib.uintTuple 250 .syntax) ∧ w' = w := Any.internal_strconv_ParseUint_10_empty Tryz.lays287 w
open Go.RowKit in
/-- internal/strconv.ParseUint(s, 10, 0): 'Lib.parseMag' OF ITS BYTES. The world: as it was (the empty string), or with the one new row that '[]byte(s)' lays. (LAID: no walk: one application.) -/
theorem Tryz.internal_strconv_ParseUint_10_any (t : ByteArray) (hmax : t.size ≤ 9223372036854775806) (w : World) :
    Calls Tryz.prog 178 #[.string t, .int .i64 10, .int .i64 0] w fun e w' => e = .returned (Lib.uintTuple 250 (Lib.parseMag t.data.toList)) ∧ (w' = w ∨ w' = Lib.bytesWorld w 5 t) := Any.internal_strconv_ParseUint_10_any Tryz.lays287 t hmax w
def Tryz.laysC247_ren : Go.Shelf.Ren := ⟨fun | 247 => 203 | 287 => 178 | 321 => 197 | 322 => 198 | n => n, fun | 9 => 9 | 3 => 3 | 2 => 2 | 75 => 210 | 4 => 4 | 167 => 250 | 5 => 5 | 53 => 149 | 175 => 211 | 46 => 206 | 37 => 144 | 0 => 0 | 21 => 21 | 80 => 268 | n => n, fun | n => n⟩
theorem Tryz.laysC247 : Go.Proofs.LaysC.n247 Tryz.prog Tryz.laysC247_ren := {
  mixed := by kernel_rfl
  f247 := Tryz.func203.trans (congrArg some (by kernel_rfl))
  f287 := Tryz.func178.trans (congrArg some (by kernel_rfl))
  f321 := Tryz.func197.trans (congrArg some (by kernel_rfl))
  f322 := Tryz.func198.trans (congrArg some (by kernel_rfl))
  t0 := Tryz.underlying0
  a0 := Tryz.isAgg0
  z0 := Tryz.sizeOf0
  v0 := Tryz.zeroValue0
  t2 := Tryz.underlying2
  a2 := Tryz.isAgg2
  z2 := Tryz.sizeOf2
  v2 := Tryz.zeroValue2
  t3 := Tryz.underlying3
  a3 := Tryz.isAgg3
  z3 := Tryz.sizeOf3
  v3 := Tryz.zeroValue3
  t4 := Tryz.underlying4
  a4 := Tryz.isAgg4
  z4 := Tryz.sizeOf4
  v4 := Tryz.zeroValue4
  t5 := Tryz.underlying5
  a5 := Tryz.isAgg5
  z5 := Tryz.sizeOf5
  v5 := Tryz.zeroValue5
  t9 := Tryz.underlying9
  a9 := Tryz.isAgg9
  z9 := Tryz.sizeOf9
  v9 := Tryz.zeroValue9
  t21 := Tryz.underlying21
  a21 := Tryz.isAgg21
  z21 := Tryz.sizeOf21
  v21 := Tryz.zeroValue21
  t37 := Tryz.underlying144
  a37 := Tryz.isAgg144
  z37 := Tryz.sizeOf144
  v37 := Tryz.zeroValue144
  t46 := Tryz.underlying206
  a46 := Tryz.isAgg206
  z46 := Tryz.sizeOf206
  v46 := Tryz.zeroValue206
  t53 := Tryz.underlying149
  a53 := Tryz.isAgg149
  z53 := Tryz.sizeOf149
  v53 := Tryz.zeroValue149
  t75 := Tryz.underlying210
  a75 := Tryz.isAgg210
  z75 := Tryz.sizeOf210
  v75 := Tryz.zeroValue210
  t167 := Tryz.underlying250
  a167 := Tryz.isAgg250
  z167 := Tryz.sizeOf250
  v167 := Tryz.zeroValue250
  t175 := Tryz.underlying211
  a175 := Tryz.isAgg211
  z175 := Tryz.sizeOf211
  v175 := Tryz.zeroValue211
  t80 := Tryz.underlying268
  a80 := Tryz.isAgg268
  z80 := Tryz.sizeOf268
  v80 := Tryz.zeroValue268
  i0 := by kernel_rfl
  i2 := by kernel_rfl
  i3 := by kernel_rfl
  i4 := by kernel_rfl
  i5 := by kernel_rfl
  i9 := by kernel_rfl
  i21 := by kernel_rfl
  i37 := by kernel_rfl
  i46 := by kernel_rfl
  i53 := by kernel_rfl
  i75 := by kernel_rfl
  i80 := by kernel_rfl
  i167 := by kernel_rfl
  i175 := by kernel_rfl
  c0 := by kernel_rfl
  c2 := by kernel_rfl
  c3 := by kernel_rfl
  c4 := by kernel_rfl
  c5 := by kernel_rfl
  c9 := by kernel_rfl
  c21 := by kernel_rfl
  c37 := by kernel_rfl
  c46 := by kernel_rfl
  c53 := by kernel_rfl
  c75 := by kernel_rfl
  c80 := by kernel_rfl
  c167 := by kernel_rfl
  c175 := by kernel_rfl }
open Go.RowKit in
/-- internal/strconv.ParseInt(s, 10, 0), s NOT EMPTY: 'Lib.atoiAll' OF ITS BYTES: (the number, nil); (0, ErrSyntax); (the greatest or the least int64 by the sign, ErrRange). The world: as it was, or with the one new row that '[]byte(..)' lays. (LAID: no walk: one application.) -/
theorem Tryz.internal_strconv_ParseInt_10 (s : ByteArray) (hne : s.size ≠ 0) (hmax : s.size ≤ 9223372036854775806) (w : World) :
    Calls Tryz.prog 203 #[.string s, .int .i64 10, .int .i64 0] w fun e w' => e = .returned (Lib.intTuple 250 (Lib.atoiSat s.data.toList) (Lib.atoiAll s.data.toList)) ∧ (w' = w ∨ ∃ t, w' = Lib.bytesWorld w 5 t) := Any.internal_strconv_ParseInt_10 Tryz.laysC247 s hne hmax w
def Tryz.laysC244_ren : Go.Shelf.Ren := ⟨fun | 244 => 180 | 247 => 203 | 287 => 178 | 321 => 197 | 322 => 198 | n => n, fun | 9 => 9 | 3 => 3 | 75 => 210 | 4 => 4 | 5 => 5 | 167 => 250 | 37 => 144 | 0 => 0 | 85 => 255 | 2 => 2 | 53 => 149 | 175 => 211 | 46 => 206 | 21 => 21 | 80 => 268 | n => n, fun | n => n⟩
theorem Tryz.laysC244 : Go.Proofs.LaysC.n244 Tryz.prog Tryz.laysC244_ren := {
  mixed := by kernel_rfl
  f244 := Tryz.func180.trans (congrArg some (by kernel_rfl))
  f247 := Tryz.func203.trans (congrArg some (by kernel_rfl))
  f287 := Tryz.func178.trans (congrArg some (by kernel_rfl))
  f321 := Tryz.func197.trans (congrArg some (by kernel_rfl))
  f322 := Tryz.func198.trans (congrArg some (by kernel_rfl))
  t0 := Tryz.underlying0
  a0 := Tryz.isAgg0
  z0 := Tryz.sizeOf0
  v0 := Tryz.zeroValue0
  t2 := Tryz.underlying2
  a2 := Tryz.isAgg2
  z2 := Tryz.sizeOf2
  v2 := Tryz.zeroValue2
  t3 := Tryz.underlying3
  a3 := Tryz.isAgg3
  z3 := Tryz.sizeOf3
  v3 := Tryz.zeroValue3
  t4 := Tryz.underlying4
  a4 := Tryz.isAgg4
  z4 := Tryz.sizeOf4
  v4 := Tryz.zeroValue4
  t5 := Tryz.underlying5
  a5 := Tryz.isAgg5
  z5 := Tryz.sizeOf5
  v5 := Tryz.zeroValue5
  t9 := Tryz.underlying9
  a9 := Tryz.isAgg9
  z9 := Tryz.sizeOf9
  v9 := Tryz.zeroValue9
  t21 := Tryz.underlying21
  a21 := Tryz.isAgg21
  z21 := Tryz.sizeOf21
  v21 := Tryz.zeroValue21
  t37 := Tryz.underlying144
  a37 := Tryz.isAgg144
  z37 := Tryz.sizeOf144
  v37 := Tryz.zeroValue144
  t46 := Tryz.underlying206
  a46 := Tryz.isAgg206
  z46 := Tryz.sizeOf206
  v46 := Tryz.zeroValue206
  t53 := Tryz.underlying149
  a53 := Tryz.isAgg149
  z53 := Tryz.sizeOf149
  v53 := Tryz.zeroValue149
  t75 := Tryz.underlying210
  a75 := Tryz.isAgg210
  z75 := Tryz.sizeOf210
  v75 := Tryz.zeroValue210
  t85 := Tryz.underlying255
  a85 := Tryz.isAgg255
  z85 := Tryz.sizeOf255
  v85 := Tryz.zeroValue255
  t167 := Tryz.underlying250
  a167 := Tryz.isAgg250
  z167 := Tryz.sizeOf250
  v167 := Tryz.zeroValue250
  t175 := Tryz.underlying211
  a175 := Tryz.isAgg211
  z175 := Tryz.sizeOf211
  v175 := Tryz.zeroValue211
  t80 := Tryz.underlying268
  a80 := Tryz.isAgg268
  z80 := Tryz.sizeOf268
  v80 := Tryz.zeroValue268
  i0 := by kernel_rfl
  i2 := by kernel_rfl
  i3 := by kernel_rfl
  i4 := by kernel_rfl
  i5 := by kernel_rfl
  i9 := by kernel_rfl
  i21 := by kernel_rfl
  i37 := by kernel_rfl
  i46 := by kernel_rfl
  i53 := by kernel_rfl
  i75 := by kernel_rfl
  i80 := by kernel_rfl
  i85 := by kernel_rfl
  i167 := by kernel_rfl
  i175 := by kernel_rfl
  c0 := by kernel_rfl
  c2 := by kernel_rfl
  c3 := by kernel_rfl
  c4 := by kernel_rfl
  c5 := by kernel_rfl
  c9 := by kernel_rfl
  c21 := by kernel_rfl
  c37 := by kernel_rfl
  c46 := by kernel_rfl
  c53 := by kernel_rfl
  c75 := by kernel_rfl
  c80 := by kernel_rfl
  c85 := by kernel_rfl
  c167 := by kernel_rfl
  c175 := by kernel_rfl }
open Go.RowKit in
/-- internal/strconv.Atoi, AT EVERY STRING OF 19 BYTES OR MORE: 'Lib.atoiAll' OF ITS BYTES: (the number, nil); (0, ErrSyntax); (the greatest or the least int by the sign, ErrRange). (LAID: no walk: one application.) -/
theorem Tryz.internal_strconv_Atoi_long (s : ByteArray) (h19 : 19 ≤ s.size) (hmax : s.size ≤ 9223372036854775806) (w : World) :
    Calls Tryz.prog 180 #[.string s] w fun e w' => e = .returned (Lib.intTuple 250 (Lib.atoiSat s.data.toList) (Lib.atoiAll s.data.toList)) ∧ (w' = w ∨ ∃ t, w' = Lib.bytesWorld w 5 t) := Any.internal_strconv_Atoi_long Tryz.laysC244 s h19 hmax w
open Go.RowKit in
/-- internal/strconv.Atoi, AT EVERY STRING: 'Lib.atoiAll' OF ITS BYTES: (the number, nil); (0, ErrSyntax); (the greatest or the least int by the sign, ErrRange). The world: as it was, or with the one new row that '[]byte(..)' lays. (LAID: no walk: one application.) -/
theorem Tryz.internal_strconv_Atoi_all (s : ByteArray) (hmax : s.size ≤ 9223372036854775806) (w : World) :
    Calls Tryz.prog 180 #[.string s] w fun e w' => e = .returned (Lib.intTuple 250 (Lib.atoiSat s.data.toList) (Lib.atoiAll s.data.toList)) ∧ (w' = w ∨ ∃ t, w' = Lib.bytesWorld w 5 t) := Any.internal_strconv_Atoi_all Tryz.laysC244 s hmax w
def Tryz.laysM280_ren : Go.Shelf.Ren := ⟨fun | 280 => 200 | 316 => 215 | n => n, fun | 9 => 9 | 168 => 252 | 75 => 210 | 210 => 277 | 3 => 3 | 4 => 4 | 37 => 144 | 0 => 0 | 127 => 288 | 80 => 268 | 5 => 5 | n => n, fun | 16 => 9 | n => n⟩
theorem Tryz.laysM280 : Go.Proofs.LaysM.n280 Tryz.prog Tryz.laysM280_ren := {
  mixed := by kernel_rfl
  f280 := Tryz.func200.trans (congrArg some (by kernel_rfl))
  f316 := Tryz.func215.trans (congrArg some (by kernel_rfl))
  t0 := Tryz.underlying0
  a0 := Tryz.isAgg0
  z0 := Tryz.sizeOf0
  v0 := Tryz.zeroValue0
  t3 := Tryz.underlying3
  a3 := Tryz.isAgg3
  z3 := Tryz.sizeOf3
  v3 := Tryz.zeroValue3
  t4 := Tryz.underlying4
  a4 := Tryz.isAgg4
  z4 := Tryz.sizeOf4
  v4 := Tryz.zeroValue4
  t9 := Tryz.underlying9
  a9 := Tryz.isAgg9
  z9 := Tryz.sizeOf9
  v9 := Tryz.zeroValue9
  t37 := Tryz.underlying144
  a37 := Tryz.isAgg144
  z37 := Tryz.sizeOf144
  v37 := Tryz.zeroValue144
  t75 := Tryz.underlying210
  a75 := Tryz.isAgg210
  z75 := Tryz.sizeOf210
  v75 := Tryz.zeroValue210
  t127 := Tryz.underlying288
  a127 := Tryz.isAgg288
  z127 := Tryz.sizeOf288
  v127 := Tryz.zeroValue288
  t168 := Tryz.underlying252
  a168 := Tryz.isAgg252
  z168 := Tryz.sizeOf252
  v168 := Tryz.zeroValue252
  t210 := Tryz.underlying277
  a210 := Tryz.isAgg277
  z210 := Tryz.sizeOf277
  v210 := Tryz.zeroValue277
  g16 := by kernel_rfl
  t5 := Tryz.underlying5
  a5 := Tryz.isAgg5
  z5 := Tryz.sizeOf5
  v5 := Tryz.zeroValue5
  t80 := Tryz.underlying268
  a80 := Tryz.isAgg268
  z80 := Tryz.sizeOf268
  v80 := Tryz.zeroValue268
  i0 := by kernel_rfl
  i3 := by kernel_rfl
  i4 := by kernel_rfl
  i5 := by kernel_rfl
  i9 := by kernel_rfl
  i37 := by kernel_rfl
  i75 := by kernel_rfl
  i80 := by kernel_rfl
  i127 := by kernel_rfl
  i168 := by kernel_rfl
  i210 := by kernel_rfl
  m16 := by kernel_rfl }
open Go.RowKit in
/-- strconv.rangeError: '&NumError{fn, stringslite.Clone(str), ErrRange}': A POINTER TO A NEW BLOCK that holds fn, str's bytes, and what the variable ErrRange holds. Of what was there nothing has turned. (LAID: no walk: one application.) -/
theorem Tryz.strconv_rangeError (fn s : ByteArray) (ev : Value) (w : World) (hlim : s.size ≤ 281474976710656) (hv : w.cell? ⟨9, 0, none⟩ = some ev) (hev : ev = .nilIface ∨ ∃ te pe, ev = .iface te pe) :
    Calls Tryz.prog 200 #[.string fn, .string s] w fun e w' => ∃ N, e = .returned (.pointer (some ⟨N, 0, none⟩)) ∧ w.heap.size ≤ N ∧ w'.heap[N]? = some (.cells #[.string fn, .string s, ev] 277 (0, 0)) ∧ Below w.heap.size w w' := Any.strconv_rangeError Tryz.laysM280 fn s ev w hlim hv hev
open Go.RowKit in
/-- strconv.toError, at the inner package's ErrRange: 'rangeError(fn, s)' as an error: A *NumError IN A NEW BLOCK. (LAID: no walk: one application.) -/
theorem Tryz.strconv_toError_range (fn s : ByteArray) (base bits : Int) (ev : Value) (w : World) (hlim : s.size ≤ 281474976710656) (hv : w.cell? ⟨9, 0, none⟩ = some ev) (hev : ev = .nilIface ∨ ∃ te pe, ev = .iface te pe) :
    Calls Tryz.prog 179 #[.string fn, .string s, .int .i64 base, .int .i64 bits, .iface 250 (.int .i64 1)] w fun e w' => ∃ N, e = .returned (.iface 252 (.pointer (some ⟨N, 0, none⟩))) ∧ w.heap.size ≤ N ∧ w'.heap[N]? = some (.cells #[.string fn, .string s, ev] 277 (0, 0)) ∧ Below w.heap.size w w' := Any.strconv_toError_range Tryz.laysC245 fn s base bits ev w hlim hv hev
def Tryz.laysC172_ren : Go.Shelf.Ren := ⟨fun | 172 => 154 | 244 => 180 | 245 => 179 | 247 => 203 | 279 => 199 | 280 => 200 | 281 => 201 | 282 => 202 | 287 => 178 | 316 => 215 | 171 => 217 | 205 => 216 | 321 => 197 | 322 => 198 | 243 => 228 | 246 => 232 | 283 => 236 | 284 => 237 | 285 => 238 | 286 => 239 | 129 => 241 | 317 => 240 | 318 => 242 | 319 => 243 | 320 => 244 | 337 => 245 | 338 => 246 | n => n, fun | 9 => 9 | 3 => 3 | 75 => 210 | 76 => 213 | 4 => 4 | 5 => 5 | 167 => 250 | 37 => 144 | 0 => 0 | 85 => 255 | 2 => 2 | 168 => 252 | 53 => 149 | 175 => 211 | 46 => 206 | 210 => 277 | 127 => 288 | 145 => 291 | 143 => 289 | 21 => 21 | 171 => 297 | 173 => 300 | 212 => 302 | 51 => 172 | 20 => 20 | 213 => 303 | 232 => 306 | 233 => 307 | 80 => 268 | n => n, fun | 15 => 8 | 16 => 9 | 17 => 10 | 18 => 11 | 19 => 12 | n => n⟩
theorem Tryz.laysC172 : Go.Proofs.LaysC.n172 Tryz.prog Tryz.laysC172_ren := {
  mixed := by kernel_rfl
  f129 := Tryz.func241.trans (congrArg some (by kernel_rfl))
  f171 := Tryz.func217.trans (congrArg some (by kernel_rfl))
  f172 := Tryz.func154.trans (congrArg some (by kernel_rfl))
  f205 := Tryz.func216.trans (congrArg some (by kernel_rfl))
  f243 := Tryz.func228.trans (congrArg some (by kernel_rfl))
  f244 := Tryz.func180.trans (congrArg some (by kernel_rfl))
  f245 := Tryz.func179.trans (congrArg some (by kernel_rfl))
  f246 := Tryz.func232.trans (congrArg some (by kernel_rfl))
  f247 := Tryz.func203.trans (congrArg some (by kernel_rfl))
  f279 := Tryz.func199.trans (congrArg some (by kernel_rfl))
  f280 := Tryz.func200.trans (congrArg some (by kernel_rfl))
  f281 := Tryz.func201.trans (congrArg some (by kernel_rfl))
  f282 := Tryz.func202.trans (congrArg some (by kernel_rfl))
  f283 := Tryz.func236.trans (congrArg some (by kernel_rfl))
  f284 := Tryz.func237.trans (congrArg some (by kernel_rfl))
  f285 := Tryz.func238.trans (congrArg some (by kernel_rfl))
  f286 := Tryz.func239.trans (congrArg some (by kernel_rfl))
  f287 := Tryz.func178.trans (congrArg some (by kernel_rfl))
  f316 := Tryz.func215.trans (congrArg some (by kernel_rfl))
  f317 := Tryz.func240.trans (congrArg some (by kernel_rfl))
  f318 := Tryz.func242.trans (congrArg some (by kernel_rfl))
  f319 := Tryz.func243.trans (congrArg some (by kernel_rfl))
  f320 := Tryz.func244.trans (congrArg some (by kernel_rfl))
  f321 := Tryz.func197.trans (congrArg some (by kernel_rfl))
  f322 := Tryz.func198.trans (congrArg some (by kernel_rfl))
  f337 := Tryz.func245.trans (congrArg some (by kernel_rfl))
  f338 := Tryz.func246.trans (congrArg some (by kernel_rfl))
  t0 := Tryz.underlying0
  a0 := Tryz.isAgg0
  z0 := Tryz.sizeOf0
  v0 := Tryz.zeroValue0
  t2 := Tryz.underlying2
  a2 := Tryz.isAgg2
  z2 := Tryz.sizeOf2
  v2 := Tryz.zeroValue2
  t3 := Tryz.underlying3
  a3 := Tryz.isAgg3
  z3 := Tryz.sizeOf3
  v3 := Tryz.zeroValue3
  t4 := Tryz.underlying4
  a4 := Tryz.isAgg4
  z4 := Tryz.sizeOf4
  v4 := Tryz.zeroValue4
  t5 := Tryz.underlying5
  a5 := Tryz.isAgg5
  z5 := Tryz.sizeOf5
  v5 := Tryz.zeroValue5
  t9 := Tryz.underlying9
  a9 := Tryz.isAgg9
  z9 := Tryz.sizeOf9
  v9 := Tryz.zeroValue9
  t20 := Tryz.underlying20
  a20 := Tryz.isAgg20
  z20 := Tryz.sizeOf20
  v20 := Tryz.zeroValue20
  t21 := Tryz.underlying21
  a21 := Tryz.isAgg21
  z21 := Tryz.sizeOf21
  v21 := Tryz.zeroValue21
  t37 := Tryz.underlying144
  a37 := Tryz.isAgg144
  z37 := Tryz.sizeOf144
  v37 := Tryz.zeroValue144
  t46 := Tryz.underlying206
  a46 := Tryz.isAgg206
  z46 := Tryz.sizeOf206
  v46 := Tryz.zeroValue206
  t51 := Tryz.underlying172
  a51 := Tryz.isAgg172
  z51 := Tryz.sizeOf172
  v51 := Tryz.zeroValue172
  t53 := Tryz.underlying149
  a53 := Tryz.isAgg149
  z53 := Tryz.sizeOf149
  v53 := Tryz.zeroValue149
  t75 := Tryz.underlying210
  a75 := Tryz.isAgg210
  z75 := Tryz.sizeOf210
  v75 := Tryz.zeroValue210
  t76 := Tryz.underlying213
  a76 := Tryz.isAgg213
  z76 := Tryz.sizeOf213
  v76 := Tryz.zeroValue213
  t85 := Tryz.underlying255
  a85 := Tryz.isAgg255
  z85 := Tryz.sizeOf255
  v85 := Tryz.zeroValue255
  t127 := Tryz.underlying288
  a127 := Tryz.isAgg288
  z127 := Tryz.sizeOf288
  v127 := Tryz.zeroValue288
  t143 := Tryz.underlying289
  a143 := Tryz.isAgg289
  z143 := Tryz.sizeOf289
  v143 := Tryz.zeroValue289
  t145 := Tryz.underlying291
  a145 := Tryz.isAgg291
  z145 := Tryz.sizeOf291
  v145 := Tryz.zeroValue291
  t167 := Tryz.underlying250
  a167 := Tryz.isAgg250
  z167 := Tryz.sizeOf250
  v167 := Tryz.zeroValue250
  t168 := Tryz.underlying252
  a168 := Tryz.isAgg252
  z168 := Tryz.sizeOf252
  v168 := Tryz.zeroValue252
  t171 := Tryz.underlying297
  a171 := Tryz.isAgg297
  z171 := Tryz.sizeOf297
  v171 := Tryz.zeroValue297
  t173 := Tryz.underlying300
  a173 := Tryz.isAgg300
  z173 := Tryz.sizeOf300
  v173 := Tryz.zeroValue300
  t175 := Tryz.underlying211
  a175 := Tryz.isAgg211
  z175 := Tryz.sizeOf211
  v175 := Tryz.zeroValue211
  t210 := Tryz.underlying277
  a210 := Tryz.isAgg277
  z210 := Tryz.sizeOf277
  v210 := Tryz.zeroValue277
  t212 := Tryz.underlying302
  a212 := Tryz.isAgg302
  z212 := Tryz.sizeOf302
  v212 := Tryz.zeroValue302
  t213 := Tryz.underlying303
  a213 := Tryz.isAgg303
  z213 := Tryz.sizeOf303
  t232 := Tryz.underlying306
  a232 := Tryz.isAgg306
  z232 := Tryz.sizeOf306
  v232 := Tryz.zeroValue306
  t233 := Tryz.underlying307
  a233 := Tryz.isAgg307
  z233 := Tryz.sizeOf307
  v233 := Tryz.zeroValue307
  g15 := by kernel_rfl
  g16 := by kernel_rfl
  g17 := by kernel_rfl
  g18 := by kernel_rfl
  g19 := by kernel_rfl
  t80 := Tryz.underlying268
  a80 := Tryz.isAgg268
  z80 := Tryz.sizeOf268
  v80 := Tryz.zeroValue268
  i0 := by kernel_rfl
  i2 := by kernel_rfl
  i3 := by kernel_rfl
  i4 := by kernel_rfl
  i5 := by kernel_rfl
  i9 := by kernel_rfl
  i20 := by kernel_rfl
  i21 := by kernel_rfl
  i37 := by kernel_rfl
  i46 := by kernel_rfl
  i51 := by kernel_rfl
  i53 := by kernel_rfl
  i75 := by kernel_rfl
  i76 := by kernel_rfl
  i80 := by kernel_rfl
  i85 := by kernel_rfl
  i127 := by kernel_rfl
  i143 := by kernel_rfl
  i145 := by kernel_rfl
  i167 := by kernel_rfl
  i168 := by kernel_rfl
  i171 := by kernel_rfl
  i173 := by kernel_rfl
  i175 := by kernel_rfl
  i210 := by kernel_rfl
  i212 := by kernel_rfl
  i232 := by kernel_rfl
  i233 := by kernel_rfl
  m15 := by kernel_rfl
  m16 := by kernel_rfl
  m17 := by kernel_rfl
  m18 := by kernel_rfl
  m19 := by kernel_rfl
  c0 := by kernel_rfl
  c2 := by kernel_rfl
  c3 := by kernel_rfl
  c4 := by kernel_rfl
  c5 := by kernel_rfl
  c9 := by kernel_rfl
  c20 := by kernel_rfl
  c21 := by kernel_rfl
  c37 := by kernel_rfl
  c46 := by kernel_rfl
  c51 := by kernel_rfl
  c53 := by kernel_rfl
  c75 := by kernel_rfl
  c76 := by kernel_rfl
  c80 := by kernel_rfl
  c85 := by kernel_rfl
  c127 := by kernel_rfl
  c143 := by kernel_rfl
  c145 := by kernel_rfl
  c167 := by kernel_rfl
  c168 := by kernel_rfl
  c171 := by kernel_rfl
  c173 := by kernel_rfl
  c175 := by kernel_rfl
  c210 := by kernel_rfl
  c212 := by kernel_rfl
  c213 := by kernel_rfl
  c232 := by kernel_rfl
  c233 := by kernel_rfl }
open Go.RowKit in
/-- strconv.Atoi, AT EVERY STRING THAT SPELLS AN int ('Lib.atoiAll .. = .ok v'; of whatever length: leading zeros count): v, AND NO ERROR. The world: as it was, or with the one new row that '[]byte(..)' lays. (LAID: no walk: one application.) -/
theorem Tryz.strconv_Atoi_ok (s : ByteArray) (hmax : s.size ≤ 9223372036854775806) (v : Int) (h : Lib.atoiAll s.data.toList = .ok v) (w : World) :
    Calls Tryz.prog 154 #[.string s] w fun e w' => e = .returned (.tuple #[.int .i64 v, .nilIface]) ∧ (w' = w ∨ ∃ t, w' = Lib.bytesWorld w 5 t) := Any.strconv_Atoi_ok Tryz.laysC172 s hmax v h w
open Go.RowKit in
/-- strconv.Atoi, AT EVERY STRING THAT IS NO DECIMAL NUMERAL ('.syntax'): 0, AND AN ERROR THAT IS NOT nil: a *NumError in a new block N: {Func: "Atoi", Num: s's bytes, Err: what the variable ErrSyntax holds}. Of what was there nothing has turned. (LAID: no walk: one application.) -/
theorem Tryz.strconv_Atoi_syntax (s : ByteArray) (hlim : s.size ≤ 281474976710656) (h : Lib.atoiAll s.data.toList = .«syntax») (ev : Value) (w : World) (hv : w.cell? ⟨8, 0, none⟩ = some ev) (hev : ev = .nilIface ∨ ∃ te pe, ev = .iface te pe) :
    Calls Tryz.prog 154 #[.string s] w fun e w' => ∃ N, e = .returned (.tuple #[.int .i64 (0), .iface 252 (.pointer (some ⟨N, 0, none⟩))]) ∧ w.heap.size ≤ N ∧ w'.heap[N]? = some (.cells #[.string ⟨#[65, 116, 111, 105]⟩, .string s, ev] 277 (0, 0)) ∧ Below w.heap.size w w' := Any.strconv_Atoi_syntax Tryz.laysC172 s hlim h ev w hv hev
open Go.RowKit in
/-- strconv.Atoi, AT EVERY NUMERAL THAT NO int HOLDS ('.range'): THE GREATEST OR THE LEAST int, BY THE SIGN ('Lib.atoiSat'), AND AN ERROR THAT IS NOT nil: a *NumError in a new block N: {Func: "Atoi", Num: s's bytes, Err: what the variable ErrRange holds}. Of what was there nothing has turned. (LAID: no walk: one application.) -/
theorem Tryz.strconv_Atoi_range (s : ByteArray) (hlim : s.size ≤ 281474976710656) (h : Lib.atoiAll s.data.toList = .range) (ev : Value) (w : World) (hv : w.cell? ⟨9, 0, none⟩ = some ev) (hev : ev = .nilIface ∨ ∃ te pe, ev = .iface te pe) :
    Calls Tryz.prog 154 #[.string s] w fun e w' => ∃ N, e = .returned (.tuple #[.int .i64 (Lib.atoiSat s.data.toList), .iface 252 (.pointer (some ⟨N, 0, none⟩))]) ∧ w.heap.size ≤ N ∧ w'.heap[N]? = some (.cells #[.string ⟨#[65, 116, 111, 105]⟩, .string s, ev] 277 (0, 0)) ∧ Below w.heap.size w w' := Any.strconv_Atoi_range Tryz.laysC172 s hlim h ev w hv hev
open Go.RowKit in
theorem Tryz.strconv_Atoi_syntax_var (s : ByteArray) (hlim : s.size ≤ 281474976710656) (h : Lib.atoiAll s.data.toList = .«syntax») (tp : TypeId) (p : Value) (w : World) (hvar : w.var? Tryz.prog "strconv.ErrSyntax" = some #[.iface tp p]) :
    Calls Tryz.prog 154 #[.string s] w fun e w' => ∃ N, e = .returned (.tuple #[.int .i64 0, .iface 252 (.pointer (some ⟨N, 0, none⟩))]) ∧ w.heap.size ≤ N ∧ w'.heap[N]? = some (.cells #[.string ⟨#[65, 116, 111, 105]⟩, .string s, .iface tp p] 277 (0, 0)) ∧ Below w.heap.size w w' := Any.strconv_Atoi_syntax_var Tryz.laysC172 s hlim h tp p w hvar
open Go.RowKit in
theorem Tryz.strconv_Atoi_range_var (s : ByteArray) (hlim : s.size ≤ 281474976710656) (h : Lib.atoiAll s.data.toList = .range) (tp : TypeId) (p : Value) (w : World) (hvar : w.var? Tryz.prog "strconv.ErrRange" = some #[.iface tp p]) :
    Calls Tryz.prog 154 #[.string s] w fun e w' => ∃ N, e = .returned (.tuple #[.int .i64 (Lib.atoiSat s.data.toList), .iface 252 (.pointer (some ⟨N, 0, none⟩))]) ∧ w.heap.size ≤ N ∧ w'.heap[N]? = some (.cells #[.string ⟨#[65, 116, 111, 105]⟩, .string s, .iface tp p] 277 (0, 0)) ∧ Below w.heap.size w w' := Any.strconv_Atoi_range_var Tryz.laysC172 s hlim h tp p w hvar
open Go.RowKit in
/-- internal/strconv.ParseUint("", base, bitSize): (0, ErrSyntax): the first test of the text. The world is as it was. (LAID: no walk: one application.) -/
theorem Tryz.internal_strconv_ParseUint_empty (base bits : Int) (w : World) :
    Calls Tryz.prog 178 #[.string ⟨#[]⟩, .int .i64 base, .int .i64 bits] w fun e w' => e = .returned (.tuple #[.int .u64 0, .iface 250 (.int .i64 2)]) ∧ w' = w := Any.internal_strconv_ParseUint_empty Tryz.lays287 base bits w
open Go.RowKit in
/-- internal/strconv.ParseUint(s, 10, 64), s NOT EMPTY: 'Lib.parseUint10 0' OF ITS BYTES: the number; or (0, ErrSyntax); or (the greatest uint64, ErrRange). The world behind the call: the one new row that '[]byte(s)' lays. (LAID: no walk: one application.) -/
theorem Tryz.internal_strconv_ParseUint_10_b64 (t : ByteArray) (hne : t.size ≠ 0) (hmax : t.size ≤ 9223372036854775806) (w : World) :
    Calls Tryz.prog 178 #[.string t, .int .i64 10, .int .i64 64] w fun e w' => e = .returned (Lib.uintTuple 250 (Lib.parseUint10 0 t.data.toList)) ∧ w' = Lib.bytesWorld w 5 t := Any.internal_strconv_ParseUint_10_b64 Tryz.lays287 t hne hmax w
open Go.RowKit in
/-- internal/strconv.ParseUint(s, 10, 32), s NOT EMPTY: 'Lib.parseUintM 4294967295 0' OF ITS BYTES: the number; or (0, ErrSyntax); or (the greatest uint32, ErrRange). The world behind the call: the one new row that '[]byte(s)' lays. (LAID: no walk: one application.) -/
theorem Tryz.internal_strconv_ParseUint_10_b32 (t : ByteArray) (hne : t.size ≠ 0) (hmax : t.size ≤ 9223372036854775806) (w : World) :
    Calls Tryz.prog 178 #[.string t, .int .i64 10, .int .i64 32] w fun e w' => e = .returned (Lib.uintTupleM 250 4294967295 (Lib.parseUintM 4294967295 0 t.data.toList)) ∧ w' = Lib.bytesWorld w 5 t := Any.internal_strconv_ParseUint_10_b32 Tryz.lays287 t hne hmax w
open Go.RowKit in
/-- internal/strconv.ParseUint(s, 10, 16), s NOT EMPTY: 'Lib.parseUintM 65535 0' OF ITS BYTES: the number; or (0, ErrSyntax); or (the greatest uint16, ErrRange). The world behind the call: the one new row that '[]byte(s)' lays. (LAID: no walk: one application.) -/
theorem Tryz.internal_strconv_ParseUint_10_b16 (t : ByteArray) (hne : t.size ≠ 0) (hmax : t.size ≤ 9223372036854775806) (w : World) :
    Calls Tryz.prog 178 #[.string t, .int .i64 10, .int .i64 16] w fun e w' => e = .returned (Lib.uintTupleM 250 65535 (Lib.parseUintM 65535 0 t.data.toList)) ∧ w' = Lib.bytesWorld w 5 t := Any.internal_strconv_ParseUint_10_b16 Tryz.lays287 t hne hmax w
open Go.RowKit in
/-- internal/strconv.ParseUint(s, 10, 8), s NOT EMPTY: 'Lib.parseUintM 255 0' OF ITS BYTES: the number; or (0, ErrSyntax); or (the greatest uint8, ErrRange). The world behind the call: the one new row that '[]byte(s)' lays. (LAID: no walk: one application.) -/
theorem Tryz.internal_strconv_ParseUint_10_b8 (t : ByteArray) (hne : t.size ≠ 0) (hmax : t.size ≤ 9223372036854775806) (w : World) :
    Calls Tryz.prog 178 #[.string t, .int .i64 10, .int .i64 8] w fun e w' => e = .returned (Lib.uintTupleM 250 255 (Lib.parseUintM 255 0 t.data.toList)) ∧ w' = Lib.bytesWorld w 5 t := Any.internal_strconv_ParseUint_10_b8 Tryz.lays287 t hne hmax w
open Go.RowKit in
/-- internal/strconv.ParseUint(s, 10, 0): 'Lib.parseUintB 64' OF ITS BYTES. The world: as it was (the empty string), or with the one new row that '[]byte(s)' lays. (LAID: no walk: one application.) -/
theorem Tryz.internal_strconv_ParseUint_10_at0 (t : ByteArray) (hmax : t.size ≤ 9223372036854775806) (w : World) :
    Calls Tryz.prog 178 #[.string t, .int .i64 10, .int .i64 0] w fun e w' => e = .returned (Lib.uintTupleM 250 18446744073709551615 (Lib.parseUintB 64 t.data.toList)) ∧ (w' = w ∨ w' = Lib.bytesWorld w 5 t) := Any.internal_strconv_ParseUint_10_at0 Tryz.lays287 t hmax w
open Go.RowKit in
/-- internal/strconv.ParseUint(s, 10, 64): 'Lib.parseUintB 64' OF ITS BYTES. The world: as it was (the empty string), or with the one new row that '[]byte(s)' lays. (LAID: no walk: one application.) -/
theorem Tryz.internal_strconv_ParseUint_10_at64 (t : ByteArray) (hmax : t.size ≤ 9223372036854775806) (w : World) :
    Calls Tryz.prog 178 #[.string t, .int .i64 10, .int .i64 64] w fun e w' => e = .returned (Lib.uintTupleM 250 18446744073709551615 (Lib.parseUintB 64 t.data.toList)) ∧ (w' = w ∨ w' = Lib.bytesWorld w 5 t) := Any.internal_strconv_ParseUint_10_at64 Tryz.lays287 t hmax w
open Go.RowKit in
/-- internal/strconv.ParseUint(s, 10, 32): 'Lib.parseUintB 32' OF ITS BYTES. The world: as it was (the empty string), or with the one new row that '[]byte(s)' lays. (LAID: no walk: one application.) -/
theorem Tryz.internal_strconv_ParseUint_10_at32 (t : ByteArray) (hmax : t.size ≤ 9223372036854775806) (w : World) :
    Calls Tryz.prog 178 #[.string t, .int .i64 10, .int .i64 32] w fun e w' => e = .returned (Lib.uintTupleM 250 4294967295 (Lib.parseUintB 32 t.data.toList)) ∧ (w' = w ∨ w' = Lib.bytesWorld w 5 t) := Any.internal_strconv_ParseUint_10_at32 Tryz.lays287 t hmax w
open Go.RowKit in
/-- internal/strconv.ParseUint(s, 10, 16): 'Lib.parseUintB 16' OF ITS BYTES. The world: as it was (the empty string), or with the one new row that '[]byte(s)' lays. (LAID: no walk: one application.) -/
theorem Tryz.internal_strconv_ParseUint_10_at16 (t : ByteArray) (hmax : t.size ≤ 9223372036854775806) (w : World) :
    Calls Tryz.prog 178 #[.string t, .int .i64 10, .int .i64 16] w fun e w' => e = .returned (Lib.uintTupleM 250 65535 (Lib.parseUintB 16 t.data.toList)) ∧ (w' = w ∨ w' = Lib.bytesWorld w 5 t) := Any.internal_strconv_ParseUint_10_at16 Tryz.lays287 t hmax w
open Go.RowKit in
/-- internal/strconv.ParseUint(s, 10, 8): 'Lib.parseUintB 8' OF ITS BYTES. The world: as it was (the empty string), or with the one new row that '[]byte(s)' lays. (LAID: no walk: one application.) -/
theorem Tryz.internal_strconv_ParseUint_10_at8 (t : ByteArray) (hmax : t.size ≤ 9223372036854775806) (w : World) :
    Calls Tryz.prog 178 #[.string t, .int .i64 10, .int .i64 8] w fun e w' => e = .returned (Lib.uintTupleM 250 255 (Lib.parseUintB 8 t.data.toList)) ∧ (w' = w ∨ w' = Lib.bytesWorld w 5 t) := Any.internal_strconv_ParseUint_10_at8 Tryz.lays287 t hmax w
def Tryz.laysPu14_ren : Go.Shelf.Ren := ⟨fun | 14 => 153 | 16 => 178 | 17 => 179 | 19 => 197 | 20 => 198 | 21 => 199 | 22 => 200 | 23 => 201 | 24 => 202 | 25 => 215 | 27 => 217 | 26 => 216 | 28 => 228 | 29 => 232 | 30 => 236 | 31 => 237 | 32 => 238 | 33 => 239 | 35 => 241 | 34 => 240 | 36 => 242 | 37 => 243 | 38 => 244 | 39 => 245 | 40 => 246 | n => n, fun | 9 => 9 | 3 => 3 | 22 => 149 | 24 => 210 | 25 => 211 | 4 => 4 | 34 => 250 | 5 => 5 | 36 => 206 | 37 => 144 | 0 => 0 | 39 => 252 | 21 => 21 | 44 => 277 | 47 => 288 | 50 => 291 | 48 => 289 | 2 => 2 | 52 => 297 | 55 => 300 | 59 => 302 | 60 => 172 | 20 => 20 | 61 => 303 | 65 => 306 | 66 => 307 | 67 => 268 | n => n, fun | 0 => 8 | 1 => 9 | 2 => 10 | 3 => 11 | 4 => 12 | n => n⟩
theorem Tryz.laysPu14 : Go.Proofs.LaysPu.n14 Tryz.prog Tryz.laysPu14_ren := {
  mixed := by kernel_rfl
  f14 := Tryz.func153.trans (congrArg some (by kernel_rfl))
  f16 := Tryz.func178.trans (congrArg some (by kernel_rfl))
  f17 := Tryz.func179.trans (congrArg some (by kernel_rfl))
  f19 := Tryz.func197.trans (congrArg some (by kernel_rfl))
  f20 := Tryz.func198.trans (congrArg some (by kernel_rfl))
  f21 := Tryz.func199.trans (congrArg some (by kernel_rfl))
  f22 := Tryz.func200.trans (congrArg some (by kernel_rfl))
  f23 := Tryz.func201.trans (congrArg some (by kernel_rfl))
  f24 := Tryz.func202.trans (congrArg some (by kernel_rfl))
  f25 := Tryz.func215.trans (congrArg some (by kernel_rfl))
  f26 := Tryz.func216.trans (congrArg some (by kernel_rfl))
  f27 := Tryz.func217.trans (congrArg some (by kernel_rfl))
  f28 := Tryz.func228.trans (congrArg some (by kernel_rfl))
  f29 := Tryz.func232.trans (congrArg some (by kernel_rfl))
  f30 := Tryz.func236.trans (congrArg some (by kernel_rfl))
  f31 := Tryz.func237.trans (congrArg some (by kernel_rfl))
  f32 := Tryz.func238.trans (congrArg some (by kernel_rfl))
  f33 := Tryz.func239.trans (congrArg some (by kernel_rfl))
  f34 := Tryz.func240.trans (congrArg some (by kernel_rfl))
  f35 := Tryz.func241.trans (congrArg some (by kernel_rfl))
  f36 := Tryz.func242.trans (congrArg some (by kernel_rfl))
  f37 := Tryz.func243.trans (congrArg some (by kernel_rfl))
  f38 := Tryz.func244.trans (congrArg some (by kernel_rfl))
  f39 := Tryz.func245.trans (congrArg some (by kernel_rfl))
  f40 := Tryz.func246.trans (congrArg some (by kernel_rfl))
  t0 := Tryz.underlying0
  a0 := Tryz.isAgg0
  z0 := Tryz.sizeOf0
  v0 := Tryz.zeroValue0
  i0 := by kernel_rfl
  t2 := Tryz.underlying2
  a2 := Tryz.isAgg2
  z2 := Tryz.sizeOf2
  v2 := Tryz.zeroValue2
  i2 := by kernel_rfl
  t3 := Tryz.underlying3
  a3 := Tryz.isAgg3
  z3 := Tryz.sizeOf3
  v3 := Tryz.zeroValue3
  i3 := by kernel_rfl
  t4 := Tryz.underlying4
  a4 := Tryz.isAgg4
  z4 := Tryz.sizeOf4
  v4 := Tryz.zeroValue4
  i4 := by kernel_rfl
  t5 := Tryz.underlying5
  a5 := Tryz.isAgg5
  z5 := Tryz.sizeOf5
  v5 := Tryz.zeroValue5
  i5 := by kernel_rfl
  t9 := Tryz.underlying9
  a9 := Tryz.isAgg9
  z9 := Tryz.sizeOf9
  v9 := Tryz.zeroValue9
  i9 := by kernel_rfl
  t20 := Tryz.underlying20
  a20 := Tryz.isAgg20
  z20 := Tryz.sizeOf20
  v20 := Tryz.zeroValue20
  i20 := by kernel_rfl
  t21 := Tryz.underlying21
  a21 := Tryz.isAgg21
  z21 := Tryz.sizeOf21
  v21 := Tryz.zeroValue21
  i21 := by kernel_rfl
  t22 := Tryz.underlying149
  a22 := Tryz.isAgg149
  z22 := Tryz.sizeOf149
  v22 := Tryz.zeroValue149
  i22 := by kernel_rfl
  t24 := Tryz.underlying210
  a24 := Tryz.isAgg210
  z24 := Tryz.sizeOf210
  v24 := Tryz.zeroValue210
  i24 := by kernel_rfl
  t25 := Tryz.underlying211
  a25 := Tryz.isAgg211
  z25 := Tryz.sizeOf211
  v25 := Tryz.zeroValue211
  i25 := by kernel_rfl
  t34 := Tryz.underlying250
  a34 := Tryz.isAgg250
  z34 := Tryz.sizeOf250
  v34 := Tryz.zeroValue250
  i34 := by kernel_rfl
  c34 := by kernel_rfl
  t36 := Tryz.underlying206
  a36 := Tryz.isAgg206
  z36 := Tryz.sizeOf206
  v36 := Tryz.zeroValue206
  i36 := by kernel_rfl
  t37 := Tryz.underlying144
  a37 := Tryz.isAgg144
  z37 := Tryz.sizeOf144
  v37 := Tryz.zeroValue144
  i37 := by kernel_rfl
  t39 := Tryz.underlying252
  a39 := Tryz.isAgg252
  z39 := Tryz.sizeOf252
  v39 := Tryz.zeroValue252
  i39 := by kernel_rfl
  t44 := Tryz.underlying277
  a44 := Tryz.isAgg277
  z44 := Tryz.sizeOf277
  v44 := Tryz.zeroValue277
  i44 := by kernel_rfl
  t47 := Tryz.underlying288
  a47 := Tryz.isAgg288
  z47 := Tryz.sizeOf288
  v47 := Tryz.zeroValue288
  i47 := by kernel_rfl
  t48 := Tryz.underlying289
  a48 := Tryz.isAgg289
  z48 := Tryz.sizeOf289
  v48 := Tryz.zeroValue289
  i48 := by kernel_rfl
  t50 := Tryz.underlying291
  a50 := Tryz.isAgg291
  z50 := Tryz.sizeOf291
  v50 := Tryz.zeroValue291
  i50 := by kernel_rfl
  t52 := Tryz.underlying297
  a52 := Tryz.isAgg297
  z52 := Tryz.sizeOf297
  v52 := Tryz.zeroValue297
  i52 := by kernel_rfl
  t55 := Tryz.underlying300
  a55 := Tryz.isAgg300
  z55 := Tryz.sizeOf300
  v55 := Tryz.zeroValue300
  i55 := by kernel_rfl
  t59 := Tryz.underlying302
  a59 := Tryz.isAgg302
  z59 := Tryz.sizeOf302
  v59 := Tryz.zeroValue302
  i59 := by kernel_rfl
  t60 := Tryz.underlying172
  a60 := Tryz.isAgg172
  z60 := Tryz.sizeOf172
  v60 := Tryz.zeroValue172
  i60 := by kernel_rfl
  t61 := Tryz.underlying303
  a61 := Tryz.isAgg303
  z61 := Tryz.sizeOf303
  t65 := Tryz.underlying306
  a65 := Tryz.isAgg306
  z65 := Tryz.sizeOf306
  v65 := Tryz.zeroValue306
  i65 := by kernel_rfl
  t66 := Tryz.underlying307
  a66 := Tryz.isAgg307
  z66 := Tryz.sizeOf307
  v66 := Tryz.zeroValue307
  i66 := by kernel_rfl
  t67 := Tryz.underlying268
  a67 := Tryz.isAgg268
  z67 := Tryz.sizeOf268
  v67 := Tryz.zeroValue268
  i67 := by kernel_rfl
  g0 := by kernel_rfl
  m0 := by kernel_rfl
  g1 := by kernel_rfl
  m1 := by kernel_rfl
  g2 := by kernel_rfl
  m2 := by kernel_rfl
  g3 := by kernel_rfl
  m3 := by kernel_rfl
  g4 := by kernel_rfl
  m4 := by kernel_rfl }
open Go.RowKit in
/-- strconv.ParseUint(s, 10, 0), AT EVERY STRING THAT SPELLS A uint64 ('Lib.parseUintB 64 s.data.toList = .ok u'): u, AND NO ERROR. (LAID: no walk: one application.) -/
theorem Tryz.strconv_ParseUint_10_at0_ok (s : ByteArray) (hmax : s.size ≤ 9223372036854775806) (u : Nat) (h : Lib.parseUintB 64 s.data.toList = .ok u) (w : World) :
    Calls Tryz.prog 153 #[.string s, .int .i64 10, .int .i64 0] w fun e w' => e = .returned (.tuple #[.int .u64 u, .nilIface]) ∧ (w' = w ∨ w' = Lib.bytesWorld w 5 s) := Any.strconv_ParseUint_10_at0_ok Tryz.laysPu14 s hmax u h w
open Go.RowKit in
/-- strconv.ParseUint(s, 10, 0), AT EVERY STRING THAT IS NO ROW OF DECIMAL DIGITS (a sign is a fault): 0, AND AN ERROR THAT IS NOT nil: a *NumError in a new block N: {Func: "ParseUint", Num: s's bytes, Err: what the variable ErrSyntax holds}. Of what was there nothing has turned. (LAID: no walk: one application.) -/
theorem Tryz.strconv_ParseUint_10_at0_syntax (s : ByteArray) (hlim : s.size ≤ 281474976710656) (h : Lib.parseUintB 64 s.data.toList = .«syntax») (ev : Value) (w : World) (hv : w.cell? ⟨8, 0, none⟩ = some ev) (hev : ev = .nilIface ∨ ∃ te pe, ev = .iface te pe) :
    Calls Tryz.prog 153 #[.string s, .int .i64 10, .int .i64 0] w fun e w' => ∃ N, e = .returned (.tuple #[.int .u64 0, .iface 252 (.pointer (some ⟨N, 0, none⟩))]) ∧ w.heap.size ≤ N ∧ w'.heap[N]? = some (.cells #[.string ⟨#[80, 97, 114, 115, 101, 85, 105, 110, 116]⟩, .string s, ev] 277 (0, 0)) ∧ Below w.heap.size w w' := Any.strconv_ParseUint_10_at0_syntax Tryz.laysPu14 s hlim h ev w hv hev
open Go.RowKit in
/-- strconv.ParseUint(s, 10, 0), AT EVERY NUMERAL THAT NO uint64 HOLDS: THE GREATEST uint64, AND AN ERROR THAT IS NOT nil: a *NumError in a new block N: {Func: "ParseUint", Num: s's bytes, Err: what the variable ErrRange holds}. Of what was there nothing has turned. (LAID: no walk: one application.) -/
theorem Tryz.strconv_ParseUint_10_at0_range (s : ByteArray) (hlim : s.size ≤ 281474976710656) (h : Lib.parseUintB 64 s.data.toList = .range) (ev : Value) (w : World) (hv : w.cell? ⟨9, 0, none⟩ = some ev) (hev : ev = .nilIface ∨ ∃ te pe, ev = .iface te pe) :
    Calls Tryz.prog 153 #[.string s, .int .i64 10, .int .i64 0] w fun e w' => ∃ N, e = .returned (.tuple #[.int .u64 18446744073709551615, .iface 252 (.pointer (some ⟨N, 0, none⟩))]) ∧ w.heap.size ≤ N ∧ w'.heap[N]? = some (.cells #[.string ⟨#[80, 97, 114, 115, 101, 85, 105, 110, 116]⟩, .string s, ev] 277 (0, 0)) ∧ Below w.heap.size w w' := Any.strconv_ParseUint_10_at0_range Tryz.laysPu14 s hlim h ev w hv hev
open Go.RowKit in
/-- strconv.ParseUint(s, 10, 64), AT EVERY STRING THAT SPELLS A uint64 ('Lib.parseUintB 64 s.data.toList = .ok u'): u, AND NO ERROR. (LAID: no walk: one application.) -/
theorem Tryz.strconv_ParseUint_10_at64_ok (s : ByteArray) (hmax : s.size ≤ 9223372036854775806) (u : Nat) (h : Lib.parseUintB 64 s.data.toList = .ok u) (w : World) :
    Calls Tryz.prog 153 #[.string s, .int .i64 10, .int .i64 64] w fun e w' => e = .returned (.tuple #[.int .u64 u, .nilIface]) ∧ (w' = w ∨ w' = Lib.bytesWorld w 5 s) := Any.strconv_ParseUint_10_at64_ok Tryz.laysPu14 s hmax u h w
open Go.RowKit in
/-- strconv.ParseUint(s, 10, 64), AT EVERY STRING THAT IS NO ROW OF DECIMAL DIGITS (a sign is a fault): 0, AND AN ERROR THAT IS NOT nil: a *NumError in a new block N: {Func: "ParseUint", Num: s's bytes, Err: what the variable ErrSyntax holds}. Of what was there nothing has turned. (LAID: no walk: one application.) -/
theorem Tryz.strconv_ParseUint_10_at64_syntax (s : ByteArray) (hlim : s.size ≤ 281474976710656) (h : Lib.parseUintB 64 s.data.toList = .«syntax») (ev : Value) (w : World) (hv : w.cell? ⟨8, 0, none⟩ = some ev) (hev : ev = .nilIface ∨ ∃ te pe, ev = .iface te pe) :
    Calls Tryz.prog 153 #[.string s, .int .i64 10, .int .i64 64] w fun e w' => ∃ N, e = .returned (.tuple #[.int .u64 0, .iface 252 (.pointer (some ⟨N, 0, none⟩))]) ∧ w.heap.size ≤ N ∧ w'.heap[N]? = some (.cells #[.string ⟨#[80, 97, 114, 115, 101, 85, 105, 110, 116]⟩, .string s, ev] 277 (0, 0)) ∧ Below w.heap.size w w' := Any.strconv_ParseUint_10_at64_syntax Tryz.laysPu14 s hlim h ev w hv hev
open Go.RowKit in
/-- strconv.ParseUint(s, 10, 64), AT EVERY NUMERAL THAT NO uint64 HOLDS: THE GREATEST uint64, AND AN ERROR THAT IS NOT nil: a *NumError in a new block N: {Func: "ParseUint", Num: s's bytes, Err: what the variable ErrRange holds}. Of what was there nothing has turned. (LAID: no walk: one application.) -/
theorem Tryz.strconv_ParseUint_10_at64_range (s : ByteArray) (hlim : s.size ≤ 281474976710656) (h : Lib.parseUintB 64 s.data.toList = .range) (ev : Value) (w : World) (hv : w.cell? ⟨9, 0, none⟩ = some ev) (hev : ev = .nilIface ∨ ∃ te pe, ev = .iface te pe) :
    Calls Tryz.prog 153 #[.string s, .int .i64 10, .int .i64 64] w fun e w' => ∃ N, e = .returned (.tuple #[.int .u64 18446744073709551615, .iface 252 (.pointer (some ⟨N, 0, none⟩))]) ∧ w.heap.size ≤ N ∧ w'.heap[N]? = some (.cells #[.string ⟨#[80, 97, 114, 115, 101, 85, 105, 110, 116]⟩, .string s, ev] 277 (0, 0)) ∧ Below w.heap.size w w' := Any.strconv_ParseUint_10_at64_range Tryz.laysPu14 s hlim h ev w hv hev
open Go.RowKit in
/-- strconv.ParseUint(s, 10, 32), AT EVERY STRING THAT SPELLS A uint32 ('Lib.parseUintB 32 s.data.toList = .ok u'): u, AND NO ERROR. (LAID: no walk: one application.) -/
theorem Tryz.strconv_ParseUint_10_at32_ok (s : ByteArray) (hmax : s.size ≤ 9223372036854775806) (u : Nat) (h : Lib.parseUintB 32 s.data.toList = .ok u) (w : World) :
    Calls Tryz.prog 153 #[.string s, .int .i64 10, .int .i64 32] w fun e w' => e = .returned (.tuple #[.int .u64 u, .nilIface]) ∧ (w' = w ∨ w' = Lib.bytesWorld w 5 s) := Any.strconv_ParseUint_10_at32_ok Tryz.laysPu14 s hmax u h w
open Go.RowKit in
/-- strconv.ParseUint(s, 10, 32), AT EVERY STRING THAT IS NO ROW OF DECIMAL DIGITS (a sign is a fault): 0, AND AN ERROR THAT IS NOT nil: a *NumError in a new block N: {Func: "ParseUint", Num: s's bytes, Err: what the variable ErrSyntax holds}. Of what was there nothing has turned. (LAID: no walk: one application.) -/
theorem Tryz.strconv_ParseUint_10_at32_syntax (s : ByteArray) (hlim : s.size ≤ 281474976710656) (h : Lib.parseUintB 32 s.data.toList = .«syntax») (ev : Value) (w : World) (hv : w.cell? ⟨8, 0, none⟩ = some ev) (hev : ev = .nilIface ∨ ∃ te pe, ev = .iface te pe) :
    Calls Tryz.prog 153 #[.string s, .int .i64 10, .int .i64 32] w fun e w' => ∃ N, e = .returned (.tuple #[.int .u64 0, .iface 252 (.pointer (some ⟨N, 0, none⟩))]) ∧ w.heap.size ≤ N ∧ w'.heap[N]? = some (.cells #[.string ⟨#[80, 97, 114, 115, 101, 85, 105, 110, 116]⟩, .string s, ev] 277 (0, 0)) ∧ Below w.heap.size w w' := Any.strconv_ParseUint_10_at32_syntax Tryz.laysPu14 s hlim h ev w hv hev
open Go.RowKit in
/-- strconv.ParseUint(s, 10, 32), AT EVERY NUMERAL THAT NO uint32 HOLDS: THE GREATEST uint32, AND AN ERROR THAT IS NOT nil: a *NumError in a new block N: {Func: "ParseUint", Num: s's bytes, Err: what the variable ErrRange holds}. Of what was there nothing has turned. (LAID: no walk: one application.) -/
theorem Tryz.strconv_ParseUint_10_at32_range (s : ByteArray) (hlim : s.size ≤ 281474976710656) (h : Lib.parseUintB 32 s.data.toList = .range) (ev : Value) (w : World) (hv : w.cell? ⟨9, 0, none⟩ = some ev) (hev : ev = .nilIface ∨ ∃ te pe, ev = .iface te pe) :
    Calls Tryz.prog 153 #[.string s, .int .i64 10, .int .i64 32] w fun e w' => ∃ N, e = .returned (.tuple #[.int .u64 4294967295, .iface 252 (.pointer (some ⟨N, 0, none⟩))]) ∧ w.heap.size ≤ N ∧ w'.heap[N]? = some (.cells #[.string ⟨#[80, 97, 114, 115, 101, 85, 105, 110, 116]⟩, .string s, ev] 277 (0, 0)) ∧ Below w.heap.size w w' := Any.strconv_ParseUint_10_at32_range Tryz.laysPu14 s hlim h ev w hv hev
open Go.RowKit in
/-- strconv.ParseUint(s, 10, 16), AT EVERY STRING THAT SPELLS A uint16 ('Lib.parseUintB 16 s.data.toList = .ok u'): u, AND NO ERROR. (LAID: no walk: one application.) -/
theorem Tryz.strconv_ParseUint_10_at16_ok (s : ByteArray) (hmax : s.size ≤ 9223372036854775806) (u : Nat) (h : Lib.parseUintB 16 s.data.toList = .ok u) (w : World) :
    Calls Tryz.prog 153 #[.string s, .int .i64 10, .int .i64 16] w fun e w' => e = .returned (.tuple #[.int .u64 u, .nilIface]) ∧ (w' = w ∨ w' = Lib.bytesWorld w 5 s) := Any.strconv_ParseUint_10_at16_ok Tryz.laysPu14 s hmax u h w
open Go.RowKit in
/-- strconv.ParseUint(s, 10, 16), AT EVERY STRING THAT IS NO ROW OF DECIMAL DIGITS (a sign is a fault): 0, AND AN ERROR THAT IS NOT nil: a *NumError in a new block N: {Func: "ParseUint", Num: s's bytes, Err: what the variable ErrSyntax holds}. Of what was there nothing has turned. (LAID: no walk: one application.) -/
theorem Tryz.strconv_ParseUint_10_at16_syntax (s : ByteArray) (hlim : s.size ≤ 281474976710656) (h : Lib.parseUintB 16 s.data.toList = .«syntax») (ev : Value) (w : World) (hv : w.cell? ⟨8, 0, none⟩ = some ev) (hev : ev = .nilIface ∨ ∃ te pe, ev = .iface te pe) :
    Calls Tryz.prog 153 #[.string s, .int .i64 10, .int .i64 16] w fun e w' => ∃ N, e = .returned (.tuple #[.int .u64 0, .iface 252 (.pointer (some ⟨N, 0, none⟩))]) ∧ w.heap.size ≤ N ∧ w'.heap[N]? = some (.cells #[.string ⟨#[80, 97, 114, 115, 101, 85, 105, 110, 116]⟩, .string s, ev] 277 (0, 0)) ∧ Below w.heap.size w w' := Any.strconv_ParseUint_10_at16_syntax Tryz.laysPu14 s hlim h ev w hv hev
open Go.RowKit in
/-- strconv.ParseUint(s, 10, 16), AT EVERY NUMERAL THAT NO uint16 HOLDS: THE GREATEST uint16, AND AN ERROR THAT IS NOT nil: a *NumError in a new block N: {Func: "ParseUint", Num: s's bytes, Err: what the variable ErrRange holds}. Of what was there nothing has turned. (LAID: no walk: one application.) -/
theorem Tryz.strconv_ParseUint_10_at16_range (s : ByteArray) (hlim : s.size ≤ 281474976710656) (h : Lib.parseUintB 16 s.data.toList = .range) (ev : Value) (w : World) (hv : w.cell? ⟨9, 0, none⟩ = some ev) (hev : ev = .nilIface ∨ ∃ te pe, ev = .iface te pe) :
    Calls Tryz.prog 153 #[.string s, .int .i64 10, .int .i64 16] w fun e w' => ∃ N, e = .returned (.tuple #[.int .u64 65535, .iface 252 (.pointer (some ⟨N, 0, none⟩))]) ∧ w.heap.size ≤ N ∧ w'.heap[N]? = some (.cells #[.string ⟨#[80, 97, 114, 115, 101, 85, 105, 110, 116]⟩, .string s, ev] 277 (0, 0)) ∧ Below w.heap.size w w' := Any.strconv_ParseUint_10_at16_range Tryz.laysPu14 s hlim h ev w hv hev
open Go.RowKit in
/-- strconv.ParseUint(s, 10, 8), AT EVERY STRING THAT SPELLS A uint8 ('Lib.parseUintB 8 s.data.toList = .ok u'): u, AND NO ERROR. (LAID: no walk: one application.) -/
theorem Tryz.strconv_ParseUint_10_at8_ok (s : ByteArray) (hmax : s.size ≤ 9223372036854775806) (u : Nat) (h : Lib.parseUintB 8 s.data.toList = .ok u) (w : World) :
    Calls Tryz.prog 153 #[.string s, .int .i64 10, .int .i64 8] w fun e w' => e = .returned (.tuple #[.int .u64 u, .nilIface]) ∧ (w' = w ∨ w' = Lib.bytesWorld w 5 s) := Any.strconv_ParseUint_10_at8_ok Tryz.laysPu14 s hmax u h w
open Go.RowKit in
/-- strconv.ParseUint(s, 10, 8), AT EVERY STRING THAT IS NO ROW OF DECIMAL DIGITS (a sign is a fault): 0, AND AN ERROR THAT IS NOT nil: a *NumError in a new block N: {Func: "ParseUint", Num: s's bytes, Err: what the variable ErrSyntax holds}. Of what was there nothing has turned. (LAID: no walk: one application.) -/
theorem Tryz.strconv_ParseUint_10_at8_syntax (s : ByteArray) (hlim : s.size ≤ 281474976710656) (h : Lib.parseUintB 8 s.data.toList = .«syntax») (ev : Value) (w : World) (hv : w.cell? ⟨8, 0, none⟩ = some ev) (hev : ev = .nilIface ∨ ∃ te pe, ev = .iface te pe) :
    Calls Tryz.prog 153 #[.string s, .int .i64 10, .int .i64 8] w fun e w' => ∃ N, e = .returned (.tuple #[.int .u64 0, .iface 252 (.pointer (some ⟨N, 0, none⟩))]) ∧ w.heap.size ≤ N ∧ w'.heap[N]? = some (.cells #[.string ⟨#[80, 97, 114, 115, 101, 85, 105, 110, 116]⟩, .string s, ev] 277 (0, 0)) ∧ Below w.heap.size w w' := Any.strconv_ParseUint_10_at8_syntax Tryz.laysPu14 s hlim h ev w hv hev
open Go.RowKit in
/-- strconv.ParseUint(s, 10, 8), AT EVERY NUMERAL THAT NO uint8 HOLDS: THE GREATEST uint8, AND AN ERROR THAT IS NOT nil: a *NumError in a new block N: {Func: "ParseUint", Num: s's bytes, Err: what the variable ErrRange holds}. Of what was there nothing has turned. (LAID: no walk: one application.) -/
theorem Tryz.strconv_ParseUint_10_at8_range (s : ByteArray) (hlim : s.size ≤ 281474976710656) (h : Lib.parseUintB 8 s.data.toList = .range) (ev : Value) (w : World) (hv : w.cell? ⟨9, 0, none⟩ = some ev) (hev : ev = .nilIface ∨ ∃ te pe, ev = .iface te pe) :
    Calls Tryz.prog 153 #[.string s, .int .i64 10, .int .i64 8] w fun e w' => ∃ N, e = .returned (.tuple #[.int .u64 255, .iface 252 (.pointer (some ⟨N, 0, none⟩))]) ∧ w.heap.size ≤ N ∧ w'.heap[N]? = some (.cells #[.string ⟨#[80, 97, 114, 115, 101, 85, 105, 110, 116]⟩, .string s, ev] 277 (0, 0)) ∧ Below w.heap.size w w' := Any.strconv_ParseUint_10_at8_range Tryz.laysPu14 s hlim h ev w hv hev
open Go.RowKit in
theorem Tryz.strconv_ParseUint_10_at0_syntax_var (s : ByteArray) (hlim : s.size ≤ 281474976710656) (h : Lib.parseUintB 64 s.data.toList = .«syntax») (tp : TypeId) (p : Value) (w : World) (hvar : w.var? Tryz.prog "strconv.ErrSyntax" = some #[.iface tp p]) :
    Calls Tryz.prog 153 #[.string s, .int .i64 10, .int .i64 0] w fun e w' => ∃ N, e = .returned (.tuple #[.int .u64 0, .iface 252 (.pointer (some ⟨N, 0, none⟩))]) ∧ w.heap.size ≤ N ∧ w'.heap[N]? = some (.cells #[.string ⟨#[80, 97, 114, 115, 101, 85, 105, 110, 116]⟩, .string s, .iface tp p] 277 (0, 0)) ∧ Below w.heap.size w w' := Any.strconv_ParseUint_10_at0_syntax_var Tryz.laysPu14 s hlim h tp p w hvar
open Go.RowKit in
theorem Tryz.strconv_ParseUint_10_at0_range_var (s : ByteArray) (hlim : s.size ≤ 281474976710656) (h : Lib.parseUintB 64 s.data.toList = .range) (tp : TypeId) (p : Value) (w : World) (hvar : w.var? Tryz.prog "strconv.ErrRange" = some #[.iface tp p]) :
    Calls Tryz.prog 153 #[.string s, .int .i64 10, .int .i64 0] w fun e w' => ∃ N, e = .returned (.tuple #[.int .u64 18446744073709551615, .iface 252 (.pointer (some ⟨N, 0, none⟩))]) ∧ w.heap.size ≤ N ∧ w'.heap[N]? = some (.cells #[.string ⟨#[80, 97, 114, 115, 101, 85, 105, 110, 116]⟩, .string s, .iface tp p] 277 (0, 0)) ∧ Below w.heap.size w w' := Any.strconv_ParseUint_10_at0_range_var Tryz.laysPu14 s hlim h tp p w hvar
open Go.RowKit in
theorem Tryz.strconv_ParseUint_10_at64_syntax_var (s : ByteArray) (hlim : s.size ≤ 281474976710656) (h : Lib.parseUintB 64 s.data.toList = .«syntax») (tp : TypeId) (p : Value) (w : World) (hvar : w.var? Tryz.prog "strconv.ErrSyntax" = some #[.iface tp p]) :
    Calls Tryz.prog 153 #[.string s, .int .i64 10, .int .i64 64] w fun e w' => ∃ N, e = .returned (.tuple #[.int .u64 0, .iface 252 (.pointer (some ⟨N, 0, none⟩))]) ∧ w.heap.size ≤ N ∧ w'.heap[N]? = some (.cells #[.string ⟨#[80, 97, 114, 115, 101, 85, 105, 110, 116]⟩, .string s, .iface tp p] 277 (0, 0)) ∧ Below w.heap.size w w' := Any.strconv_ParseUint_10_at64_syntax_var Tryz.laysPu14 s hlim h tp p w hvar
open Go.RowKit in
theorem Tryz.strconv_ParseUint_10_at64_range_var (s : ByteArray) (hlim : s.size ≤ 281474976710656) (h : Lib.parseUintB 64 s.data.toList = .range) (tp : TypeId) (p : Value) (w : World) (hvar : w.var? Tryz.prog "strconv.ErrRange" = some #[.iface tp p]) :
    Calls Tryz.prog 153 #[.string s, .int .i64 10, .int .i64 64] w fun e w' => ∃ N, e = .returned (.tuple #[.int .u64 18446744073709551615, .iface 252 (.pointer (some ⟨N, 0, none⟩))]) ∧ w.heap.size ≤ N ∧ w'.heap[N]? = some (.cells #[.string ⟨#[80, 97, 114, 115, 101, 85, 105, 110, 116]⟩, .string s, .iface tp p] 277 (0, 0)) ∧ Below w.heap.size w w' := Any.strconv_ParseUint_10_at64_range_var Tryz.laysPu14 s hlim h tp p w hvar
open Go.RowKit in
theorem Tryz.strconv_ParseUint_10_at32_syntax_var (s : ByteArray) (hlim : s.size ≤ 281474976710656) (h : Lib.parseUintB 32 s.data.toList = .«syntax») (tp : TypeId) (p : Value) (w : World) (hvar : w.var? Tryz.prog "strconv.ErrSyntax" = some #[.iface tp p]) :
    Calls Tryz.prog 153 #[.string s, .int .i64 10, .int .i64 32] w fun e w' => ∃ N, e = .returned (.tuple #[.int .u64 0, .iface 252 (.pointer (some ⟨N, 0, none⟩))]) ∧ w.heap.size ≤ N ∧ w'.heap[N]? = some (.cells #[.string ⟨#[80, 97, 114, 115, 101, 85, 105, 110, 116]⟩, .string s, .iface tp p] 277 (0, 0)) ∧ Below w.heap.size w w' := Any.strconv_ParseUint_10_at32_syntax_var Tryz.laysPu14 s hlim h tp p w hvar
open Go.RowKit in
theorem Tryz.strconv_ParseUint_10_at32_range_var (s : ByteArray) (hlim : s.size ≤ 281474976710656) (h : Lib.parseUintB 32 s.data.toList = .range) (tp : TypeId) (p : Value) (w : World) (hvar : w.var? Tryz.prog "strconv.ErrRange" = some #[.iface tp p]) :
    Calls Tryz.prog 153 #[.string s, .int .i64 10, .int .i64 32] w fun e w' => ∃ N, e = .returned (.tuple #[.int .u64 4294967295, .iface 252 (.pointer (some ⟨N, 0, none⟩))]) ∧ w.heap.size ≤ N ∧ w'.heap[N]? = some (.cells #[.string ⟨#[80, 97, 114, 115, 101, 85, 105, 110, 116]⟩, .string s, .iface tp p] 277 (0, 0)) ∧ Below w.heap.size w w' := Any.strconv_ParseUint_10_at32_range_var Tryz.laysPu14 s hlim h tp p w hvar
open Go.RowKit in
theorem Tryz.strconv_ParseUint_10_at16_syntax_var (s : ByteArray) (hlim : s.size ≤ 281474976710656) (h : Lib.parseUintB 16 s.data.toList = .«syntax») (tp : TypeId) (p : Value) (w : World) (hvar : w.var? Tryz.prog "strconv.ErrSyntax" = some #[.iface tp p]) :
    Calls Tryz.prog 153 #[.string s, .int .i64 10, .int .i64 16] w fun e w' => ∃ N, e = .returned (.tuple #[.int .u64 0, .iface 252 (.pointer (some ⟨N, 0, none⟩))]) ∧ w.heap.size ≤ N ∧ w'.heap[N]? = some (.cells #[.string ⟨#[80, 97, 114, 115, 101, 85, 105, 110, 116]⟩, .string s, .iface tp p] 277 (0, 0)) ∧ Below w.heap.size w w' := Any.strconv_ParseUint_10_at16_syntax_var Tryz.laysPu14 s hlim h tp p w hvar
open Go.RowKit in
theorem Tryz.strconv_ParseUint_10_at16_range_var (s : ByteArray) (hlim : s.size ≤ 281474976710656) (h : Lib.parseUintB 16 s.data.toList = .range) (tp : TypeId) (p : Value) (w : World) (hvar : w.var? Tryz.prog "strconv.ErrRange" = some #[.iface tp p]) :
    Calls Tryz.prog 153 #[.string s, .int .i64 10, .int .i64 16] w fun e w' => ∃ N, e = .returned (.tuple #[.int .u64 65535, .iface 252 (.pointer (some ⟨N, 0, none⟩))]) ∧ w.heap.size ≤ N ∧ w'.heap[N]? = some (.cells #[.string ⟨#[80, 97, 114, 115, 101, 85, 105, 110, 116]⟩, .string s, .iface tp p] 277 (0, 0)) ∧ Below w.heap.size w w' := Any.strconv_ParseUint_10_at16_range_var Tryz.laysPu14 s hlim h tp p w hvar
open Go.RowKit in
theorem Tryz.strconv_ParseUint_10_at8_syntax_var (s : ByteArray) (hlim : s.size ≤ 281474976710656) (h : Lib.parseUintB 8 s.data.toList = .«syntax») (tp : TypeId) (p : Value) (w : World) (hvar : w.var? Tryz.prog "strconv.ErrSyntax" = some #[.iface tp p]) :
    Calls Tryz.prog 153 #[.string s, .int .i64 10, .int .i64 8] w fun e w' => ∃ N, e = .returned (.tuple #[.int .u64 0, .iface 252 (.pointer (some ⟨N, 0, none⟩))]) ∧ w.heap.size ≤ N ∧ w'.heap[N]? = some (.cells #[.string ⟨#[80, 97, 114, 115, 101, 85, 105, 110, 116]⟩, .string s, .iface tp p] 277 (0, 0)) ∧ Below w.heap.size w w' := Any.strconv_ParseUint_10_at8_syntax_var Tryz.laysPu14 s hlim h tp p w hvar
open Go.RowKit in
theorem Tryz.strconv_ParseUint_10_at8_range_var (s : ByteArray) (hlim : s.size ≤ 281474976710656) (h : Lib.parseUintB 8 s.data.toList = .range) (tp : TypeId) (p : Value) (w : World) (hvar : w.var? Tryz.prog "strconv.ErrRange" = some #[.iface tp p]) :
    Calls Tryz.prog 153 #[.string s, .int .i64 10, .int .i64 8] w fun e w' => ∃ N, e = .returned (.tuple #[.int .u64 255, .iface 252 (.pointer (some ⟨N, 0, none⟩))]) ∧ w.heap.size ≤ N ∧ w'.heap[N]? = some (.cells #[.string ⟨#[80, 97, 114, 115, 101, 85, 105, 110, 116]⟩, .string s, .iface tp p] 277 (0, 0)) ∧ Below w.heap.size w w' := Any.strconv_ParseUint_10_at8_range_var Tryz.laysPu14 s hlim h tp p w hvar
def Tryz.lays217_ren : Go.Shelf.Ren := ⟨fun | 217 => 146 | 266 => 173 | n => n, fun | 9 => 9 | 5 => 5 | 3 => 3 | n => n, fun | n => n⟩
theorem Tryz.lays217 : Go.Proofs.Lays.n217 Tryz.prog Tryz.lays217_ren := {
  mixed := by kernel_rfl
  f217 := Tryz.func146.trans (congrArg some (by kernel_rfl))
  f266 := Tryz.func173.trans (congrArg some (by kernel_rfl))
  t3 := Tryz.underlying3
  a3 := Tryz.isAgg3
  z3 := Tryz.sizeOf3
  v3 := Tryz.zeroValue3
  t5 := Tryz.underlying5
  a5 := Tryz.isAgg5
  z5 := Tryz.sizeOf5
  v5 := Tryz.zeroValue5
  t9 := Tryz.underlying9
  a9 := Tryz.isAgg9
  z9 := Tryz.sizeOf9
  v9 := Tryz.zeroValue9 }
open Go.RowKit Go.Lib in
/-- internal/stringslite.IndexByte (what strings.IndexByte calls): IT RETURNS 'Lib.indexByte s c'; the world is as it was. (LAID: no walk: one application.) -/
theorem Tryz.stringslite_IndexByte (s : ByteArray) (c : Int) (w : World) :
    Calls Tryz.prog 146 #[.string s, .int .u8 c] w fun e w' => e = .returned (.int .i64 (Lib.indexByte s.data.toList c.toNat.toUInt8)) ∧ w' = w := Any.stringslite_IndexByte Tryz.lays217 s c w
def Tryz.lays224_ren : Go.Shelf.Ren := ⟨fun | 224 => 148 | n => n, fun | 3 => 3 | n => n, fun | n => n⟩
theorem Tryz.lays224 : Go.Proofs.Lays.n224 Tryz.prog Tryz.lays224_ren := {
  mixed := by kernel_rfl
  f224 := Tryz.func148.trans (congrArg some (by kernel_rfl))
  t3 := Tryz.underlying3
  a3 := Tryz.isAgg3
  z3 := Tryz.sizeOf3
  v3 := Tryz.zeroValue3 }
open Go.RowKit Go.Lib in
/-- internal/bytealg.Cutover: "Cutover reports the number of failures of IndexByte we should tolerate before switching over to Index. n is the number of bytes processed so far.": on amd64: (n + 16) / 8. (LAID: no walk: one application.) -/
theorem Tryz.bytealg_Cutover (n : Int) (h0 : 0 ≤ n) (h1 : n < 4611686018427387904) (w : World) :
    Calls Tryz.prog 148 #[.int .i64 n] w fun e w' => e = .returned (.int .i64 ((n + 16) / 8)) ∧ w' = w := Any.bytealg_Cutover Tryz.lays224 n h0 h1 w
def Tryz.lays314_ren : Go.Shelf.Ren := ⟨fun | 314 => 174 | n => n, fun | 9 => 9 | 51 => 172 | 3 => 3 | 4 => 4 | 5 => 5 | 46 => 206 | n => n, fun | n => n⟩
theorem Tryz.lays314 : Go.Proofs.Lays.n314 Tryz.prog Tryz.lays314_ren := {
  mixed := by kernel_rfl
  f314 := Tryz.func174.trans (congrArg some (by kernel_rfl))
  t3 := Tryz.underlying3
  a3 := Tryz.isAgg3
  z3 := Tryz.sizeOf3
  v3 := Tryz.zeroValue3
  t4 := Tryz.underlying4
  a4 := Tryz.isAgg4
  z4 := Tryz.sizeOf4
  v4 := Tryz.zeroValue4
  t5 := Tryz.underlying5
  a5 := Tryz.isAgg5
  z5 := Tryz.sizeOf5
  v5 := Tryz.zeroValue5
  t9 := Tryz.underlying9
  a9 := Tryz.isAgg9
  z9 := Tryz.sizeOf9
  v9 := Tryz.zeroValue9
  t46 := Tryz.underlying206
  a46 := Tryz.isAgg206
  z46 := Tryz.sizeOf206
  v46 := Tryz.zeroValue206
  t51 := Tryz.underlying172
  a51 := Tryz.isAgg172
  z51 := Tryz.sizeOf172
  v51 := Tryz.zeroValue172 }
open Go.RowKit Go.Lib in
/-- hashStr: "returns the hash and the appropriate multiplicative factor for use in Rabin-Karp algorithm": THE HASH OF ALL OF sep, AND 16777619 ^ len(sep), both in uint32. (LAID: no walk: one application.) -/
theorem Tryz.bytealg_hashStr (sep : ByteArray) (hs : sep.size < 4294967281) (w : World) :
    Calls Tryz.prog 174 #[.string sep] w fun e w' => e = .returned (.tuple #[.int .u32 (RK.H sep.data.toList % 4294967296), .int .u32 (16777619 ^ sep.size % 4294967296)]) ∧ w' = w := Any.bytealg_hashStr Tryz.lays314 sep hs w
def Tryz.lays267_ren : Go.Shelf.Ren := ⟨fun | 267 => 149 | 314 => 174 | n => n, fun | 9 => 9 | 3 => 3 | 146 => 229 | 51 => 172 | 4 => 4 | 5 => 5 | 46 => 206 | n => n, fun | n => n⟩
theorem Tryz.lays267 : Go.Proofs.Lays.n267 Tryz.prog Tryz.lays267_ren := {
  mixed := by kernel_rfl
  f267 := Tryz.func149.trans (congrArg some (by kernel_rfl))
  f314 := Tryz.func174.trans (congrArg some (by kernel_rfl))
  t3 := Tryz.underlying3
  a3 := Tryz.isAgg3
  z3 := Tryz.sizeOf3
  v3 := Tryz.zeroValue3
  t4 := Tryz.underlying4
  a4 := Tryz.isAgg4
  z4 := Tryz.sizeOf4
  v4 := Tryz.zeroValue4
  t5 := Tryz.underlying5
  a5 := Tryz.isAgg5
  z5 := Tryz.sizeOf5
  v5 := Tryz.zeroValue5
  t9 := Tryz.underlying9
  a9 := Tryz.isAgg9
  z9 := Tryz.sizeOf9
  v9 := Tryz.zeroValue9
  t46 := Tryz.underlying206
  a46 := Tryz.isAgg206
  z46 := Tryz.sizeOf206
  v46 := Tryz.zeroValue206
  t51 := Tryz.underlying172
  a51 := Tryz.isAgg172
  z51 := Tryz.sizeOf172
  v51 := Tryz.zeroValue172
  t146 := Tryz.underlying229
  a146 := Tryz.isAgg229
  z146 := Tryz.sizeOf229
  v146 := Tryz.zeroValue229 }
open Go.RowKit Go.Lib in
theorem Tryz.bytealg_IndexRabinKarp (s sep : ByteArray) (h1 : 1 ≤ sep.size) (h2 : sep.size ≤ s.size) (hs : s.size < 4294967281) (w : World) :
    Calls Tryz.prog 149 #[.string s, .string sep] w fun e w' => e = .returned (.int .i64 (Lib.index s.data.toList sep.data.toList)) ∧ w' = w := Any.bytealg_IndexRabinKarp Tryz.lays267 s sep h1 h2 hs w
def Tryz.lays219_ren : Go.Shelf.Ren := ⟨fun | 219 => 113 | 217 => 146 | 225 => 147 | 224 => 148 | 267 => 149 | 266 => 173 | 314 => 174 | n => n, fun | 9 => 9 | 3 => 3 | 4 => 4 | 5 => 5 | 46 => 206 | 146 => 229 | 51 => 172 | n => n, fun | 1 => 5 | n => n⟩
theorem Tryz.lays219 : Go.Proofs.Lays.n219 Tryz.prog Tryz.lays219_ren := {
  mixed := by kernel_rfl
  f217 := Tryz.func146.trans (congrArg some (by kernel_rfl))
  f219 := Tryz.func113.trans (congrArg some (by kernel_rfl))
  f224 := Tryz.func148.trans (congrArg some (by kernel_rfl))
  f225 := Tryz.func147.trans (congrArg some (by kernel_rfl))
  f266 := Tryz.func173.trans (congrArg some (by kernel_rfl))
  f267 := Tryz.func149.trans (congrArg some (by kernel_rfl))
  f314 := Tryz.func174.trans (congrArg some (by kernel_rfl))
  t3 := Tryz.underlying3
  a3 := Tryz.isAgg3
  z3 := Tryz.sizeOf3
  v3 := Tryz.zeroValue3
  t4 := Tryz.underlying4
  a4 := Tryz.isAgg4
  z4 := Tryz.sizeOf4
  v4 := Tryz.zeroValue4
  t5 := Tryz.underlying5
  a5 := Tryz.isAgg5
  z5 := Tryz.sizeOf5
  v5 := Tryz.zeroValue5
  t9 := Tryz.underlying9
  a9 := Tryz.isAgg9
  z9 := Tryz.sizeOf9
  v9 := Tryz.zeroValue9
  t46 := Tryz.underlying206
  a46 := Tryz.isAgg206
  z46 := Tryz.sizeOf206
  v46 := Tryz.zeroValue206
  t51 := Tryz.underlying172
  a51 := Tryz.isAgg172
  z51 := Tryz.sizeOf172
  v51 := Tryz.zeroValue172
  t146 := Tryz.underlying229
  a146 := Tryz.isAgg229
  z146 := Tryz.sizeOf229
  v146 := Tryz.zeroValue229
  g1 := by kernel_rfl }
open Go.RowKit Go.Lib in
/-- internal/stringslite.Index (what strings.Index calls) AT A substr OF ONE BYTE c: IT RETURNS 'Lib.indexByte s c'; the world is as it was. (LAID: no walk: one application.) -/
theorem Tryz.stringslite_Index_one (s : ByteArray) (c : UInt8) (w : World) :
    Calls Tryz.prog 113 #[.string s, .string ⟨#[c]⟩] w fun e w' => e = .returned (.int .i64 (Lib.indexByte s.data.toList c)) ∧ w' = w := Any.stringslite_Index_one Tryz.lays219 s c w
open Go.RowKit Go.Lib in
/-- internal/stringslite.Index (what strings.Index calls) AT A substr OF WHATEVER LENGTH: IT RETURNS 'Lib.index s substr'; the world is as it was. 'm': what internal/bytealg.MaxLen holds: whatever. (LAID: no walk: one application.) -/
theorem Tryz.stringslite_Index (s sub : ByteArray) (m : Int) (w : World) (hs : s.size < 4294967281) (hm : w.cell? ⟨5, 0, none⟩ = some (.int .i64 m)) :
    Calls Tryz.prog 113 #[.string s, .string sub] w fun e w' => e = .returned (.int .i64 (Lib.index s.data.toList sub.data.toList)) ∧ w' = w := Any.stringslite_Index Tryz.lays219 s sub m w hs hm
def Tryz.lays143_ren : Go.Shelf.Ren := ⟨fun | 143 => 79 | 219 => 113 | 217 => 146 | 225 => 147 | 224 => 148 | 267 => 149 | 266 => 173 | 314 => 174 | n => n, fun | 9 => 9 | 3 => 3 | 4 => 4 | 5 => 5 | 46 => 206 | 146 => 229 | 51 => 172 | n => n, fun | 1 => 5 | n => n⟩
theorem Tryz.lays143 : Go.Proofs.Lays.n143 Tryz.prog Tryz.lays143_ren := {
  mixed := by kernel_rfl
  f143 := Tryz.func79.trans (congrArg some (by kernel_rfl))
  f217 := Tryz.func146.trans (congrArg some (by kernel_rfl))
  f219 := Tryz.func113.trans (congrArg some (by kernel_rfl))
  f224 := Tryz.func148.trans (congrArg some (by kernel_rfl))
  f225 := Tryz.func147.trans (congrArg some (by kernel_rfl))
  f266 := Tryz.func173.trans (congrArg some (by kernel_rfl))
  f267 := Tryz.func149.trans (congrArg some (by kernel_rfl))
  f314 := Tryz.func174.trans (congrArg some (by kernel_rfl))
  t3 := Tryz.underlying3
  a3 := Tryz.isAgg3
  z3 := Tryz.sizeOf3
  v3 := Tryz.zeroValue3
  t4 := Tryz.underlying4
  a4 := Tryz.isAgg4
  z4 := Tryz.sizeOf4
  v4 := Tryz.zeroValue4
  t5 := Tryz.underlying5
  a5 := Tryz.isAgg5
  z5 := Tryz.sizeOf5
  v5 := Tryz.zeroValue5
  t9 := Tryz.underlying9
  a9 := Tryz.isAgg9
  z9 := Tryz.sizeOf9
  v9 := Tryz.zeroValue9
  t46 := Tryz.underlying206
  a46 := Tryz.isAgg206
  z46 := Tryz.sizeOf206
  v46 := Tryz.zeroValue206
  t51 := Tryz.underlying172
  a51 := Tryz.isAgg172
  z51 := Tryz.sizeOf172
  v51 := Tryz.zeroValue172
  t146 := Tryz.underlying229
  a146 := Tryz.isAgg229
  z146 := Tryz.sizeOf229
  v146 := Tryz.zeroValue229
  g1 := by kernel_rfl }
open Go.RowKit Go.Lib in
/-- strings.Index: "Index returns the index of the first instance of substr in s, or -1 if substr is not present in s.": AT A substr OF ONE BYTE c: IT RETURNS 'Lib.indexByte s c'; the world is as it was. (LAID: no walk: one application.) -/
theorem Tryz.strings_Index_one (s : ByteArray) (c : UInt8) (w : World) :
    Calls Tryz.prog 79 #[.string s, .string ⟨#[c]⟩] w fun e w' => e = .returned (.int .i64 (Lib.indexByte s.data.toList c)) ∧ w' = w := Any.strings_Index_one Tryz.lays143 s c w
open Go.RowKit Go.Lib in
/-- strings.Index: "Index returns the index of the first instance of substr in s, or -1 if substr is not present in s.": IT RETURNS 'Lib.index s substr'; the world is as it was. (LAID: no walk: one application.) -/
theorem Tryz.strings_Index (s sub : ByteArray) (m : Int) (w : World) (hs : s.size < 4294967281) (hm : w.cell? ⟨5, 0, none⟩ = some (.int .i64 m)) :
    Calls Tryz.prog 79 #[.string s, .string sub] w fun e w' => e = .returned (.int .i64 (Lib.index s.data.toList sub.data.toList)) ∧ w' = w := Any.strings_Index Tryz.lays143 s sub m w hs hm
def Tryz.lays144_ren : Go.Shelf.Ren := ⟨fun | 144 => 55 | 143 => 79 | 219 => 113 | 217 => 146 | 225 => 147 | 224 => 148 | 267 => 149 | 266 => 173 | 314 => 174 | n => n, fun | 9 => 9 | 4 => 4 | 3 => 3 | 5 => 5 | 46 => 206 | 146 => 229 | 51 => 172 | n => n, fun | 1 => 5 | n => n⟩
theorem Tryz.lays144 : Go.Proofs.Lays.n144 Tryz.prog Tryz.lays144_ren := {
  mixed := by kernel_rfl
  f143 := Tryz.func79.trans (congrArg some (by kernel_rfl))
  f144 := Tryz.func55.trans (congrArg some (by kernel_rfl))
  f217 := Tryz.func146.trans (congrArg some (by kernel_rfl))
  f219 := Tryz.func113.trans (congrArg some (by kernel_rfl))
  f224 := Tryz.func148.trans (congrArg some (by kernel_rfl))
  f225 := Tryz.func147.trans (congrArg some (by kernel_rfl))
  f266 := Tryz.func173.trans (congrArg some (by kernel_rfl))
  f267 := Tryz.func149.trans (congrArg some (by kernel_rfl))
  f314 := Tryz.func174.trans (congrArg some (by kernel_rfl))
  t3 := Tryz.underlying3
  a3 := Tryz.isAgg3
  z3 := Tryz.sizeOf3
  v3 := Tryz.zeroValue3
  t4 := Tryz.underlying4
  a4 := Tryz.isAgg4
  z4 := Tryz.sizeOf4
  v4 := Tryz.zeroValue4
  t5 := Tryz.underlying5
  a5 := Tryz.isAgg5
  z5 := Tryz.sizeOf5
  v5 := Tryz.zeroValue5
  t9 := Tryz.underlying9
  a9 := Tryz.isAgg9
  z9 := Tryz.sizeOf9
  v9 := Tryz.zeroValue9
  t46 := Tryz.underlying206
  a46 := Tryz.isAgg206
  z46 := Tryz.sizeOf206
  v46 := Tryz.zeroValue206
  t51 := Tryz.underlying172
  a51 := Tryz.isAgg172
  z51 := Tryz.sizeOf172
  v51 := Tryz.zeroValue172
  t146 := Tryz.underlying229
  a146 := Tryz.isAgg229
  z146 := Tryz.sizeOf229
  v146 := Tryz.zeroValue229
  g1 := by kernel_rfl }
open Go.RowKit Go.Lib in
/-- strings.Contains: "Contains reports whether substr is within s.": AT A substr OF ONE BYTE c: IT RETURNS 'decide (0 ≤ Lib.indexByte s c)'; the world is as it was. (LAID: no walk: one application.) -/
theorem Tryz.strings_Contains_one (s : ByteArray) (c : UInt8) (w : World) :
    Calls Tryz.prog 55 #[.string s, .string ⟨#[c]⟩] w fun e w' => e = .returned (.bool (decide (0 ≤ Lib.indexByte s.data.toList c))) ∧ w' = w := Any.strings_Contains_one Tryz.lays144 s c w
open Go.RowKit Go.Lib in
/-- strings.Contains: "Contains reports whether substr is within s.": IT RETURNS 'Lib.contains s substr'; the world is as it was. (LAID: no walk: one application.) -/
theorem Tryz.strings_Contains (s sub : ByteArray) (m : Int) (w : World) (hs : s.size < 4294967281) (hm : w.cell? ⟨5, 0, none⟩ = some (.int .i64 m)) :
    Calls Tryz.prog 55 #[.string s, .string sub] w fun e w' => e = .returned (.bool (Lib.contains s.data.toList sub.data.toList)) ∧ w' = w := Any.strings_Contains Tryz.lays144 s sub m w hs hm
def Tryz.lays220_ren : Go.Shelf.Ren := ⟨fun | 220 => 181 | 219 => 113 | 217 => 146 | 225 => 147 | 224 => 148 | 267 => 149 | 266 => 173 | 314 => 174 | n => n, fun | 9 => 9 | 4 => 4 | 3 => 3 | 5 => 5 | 46 => 206 | 146 => 229 | 51 => 172 | n => n, fun | 1 => 5 | n => n⟩
theorem Tryz.lays220 : Go.Proofs.Lays.n220 Tryz.prog Tryz.lays220_ren := {
  mixed := by kernel_rfl
  f217 := Tryz.func146.trans (congrArg some (by kernel_rfl))
  f219 := Tryz.func113.trans (congrArg some (by kernel_rfl))
  f220 := Tryz.func181.trans (congrArg some (by kernel_rfl))
  f224 := Tryz.func148.trans (congrArg some (by kernel_rfl))
  f225 := Tryz.func147.trans (congrArg some (by kernel_rfl))
  f266 := Tryz.func173.trans (congrArg some (by kernel_rfl))
  f267 := Tryz.func149.trans (congrArg some (by kernel_rfl))
  f314 := Tryz.func174.trans (congrArg some (by kernel_rfl))
  t3 := Tryz.underlying3
  a3 := Tryz.isAgg3
  z3 := Tryz.sizeOf3
  v3 := Tryz.zeroValue3
  t4 := Tryz.underlying4
  a4 := Tryz.isAgg4
  z4 := Tryz.sizeOf4
  v4 := Tryz.zeroValue4
  t5 := Tryz.underlying5
  a5 := Tryz.isAgg5
  z5 := Tryz.sizeOf5
  v5 := Tryz.zeroValue5
  t9 := Tryz.underlying9
  a9 := Tryz.isAgg9
  z9 := Tryz.sizeOf9
  v9 := Tryz.zeroValue9
  t46 := Tryz.underlying206
  a46 := Tryz.isAgg206
  z46 := Tryz.sizeOf206
  v46 := Tryz.zeroValue206
  t51 := Tryz.underlying172
  a51 := Tryz.isAgg172
  z51 := Tryz.sizeOf172
  v51 := Tryz.zeroValue172
  t146 := Tryz.underlying229
  a146 := Tryz.isAgg229
  z146 := Tryz.sizeOf229
  v146 := Tryz.zeroValue229
  g1 := by kernel_rfl }
open Go.RowKit Go.Lib in
/-- internal/stringslite.Cut (what strings.Cut calls): IT RETURNS 'Lib.cut s sep'; the world is as it was but for the count of draws. (LAID: no walk: one application.) -/
theorem Tryz.stringslite_Cut (s sep : ByteArray) (m : Int) (w : World) (hs : s.size < 4294967281) (hm : w.cell? ⟨5, 0, none⟩ = some (.int .i64 m)) :
    Calls Tryz.prog 181 #[.string s, .string sep] w fun e w' => e = .returned (.tuple #[.string ⟨(Lib.cut s.data.toList sep.data.toList).1.toArray⟩, .string ⟨(Lib.cut s.data.toList sep.data.toList).2.1.toArray⟩, .bool (Lib.cut s.data.toList sep.data.toList).2.2]) ∧ ∃ n, w' = w.drewN n := Any.stringslite_Cut Tryz.lays220 s sep m w hs hm
def Tryz.lays145_ren : Go.Shelf.Ren := ⟨fun | 145 => 157 | 220 => 181 | 219 => 113 | 217 => 146 | 225 => 147 | 224 => 148 | 267 => 149 | 266 => 173 | 314 => 174 | n => n, fun | 9 => 9 | 4 => 4 | 59 => 215 | 3 => 3 | 5 => 5 | 46 => 206 | 146 => 229 | 51 => 172 | n => n, fun | 1 => 5 | n => n⟩
theorem Tryz.lays145 : Go.Proofs.Lays.n145 Tryz.prog Tryz.lays145_ren := {
  mixed := by kernel_rfl
  f145 := Tryz.func157.trans (congrArg some (by kernel_rfl))
  f217 := Tryz.func146.trans (congrArg some (by kernel_rfl))
  f219 := Tryz.func113.trans (congrArg some (by kernel_rfl))
  f220 := Tryz.func181.trans (congrArg some (by kernel_rfl))
  f224 := Tryz.func148.trans (congrArg some (by kernel_rfl))
  f225 := Tryz.func147.trans (congrArg some (by kernel_rfl))
  f266 := Tryz.func173.trans (congrArg some (by kernel_rfl))
  f267 := Tryz.func149.trans (congrArg some (by kernel_rfl))
  f314 := Tryz.func174.trans (congrArg some (by kernel_rfl))
  t3 := Tryz.underlying3
  a3 := Tryz.isAgg3
  z3 := Tryz.sizeOf3
  v3 := Tryz.zeroValue3
  t4 := Tryz.underlying4
  a4 := Tryz.isAgg4
  z4 := Tryz.sizeOf4
  v4 := Tryz.zeroValue4
  t5 := Tryz.underlying5
  a5 := Tryz.isAgg5
  z5 := Tryz.sizeOf5
  v5 := Tryz.zeroValue5
  t9 := Tryz.underlying9
  a9 := Tryz.isAgg9
  z9 := Tryz.sizeOf9
  v9 := Tryz.zeroValue9
  t46 := Tryz.underlying206
  a46 := Tryz.isAgg206
  z46 := Tryz.sizeOf206
  v46 := Tryz.zeroValue206
  t51 := Tryz.underlying172
  a51 := Tryz.isAgg172
  z51 := Tryz.sizeOf172
  v51 := Tryz.zeroValue172
  t59 := Tryz.underlying215
  a59 := Tryz.isAgg215
  z59 := Tryz.sizeOf215
  v59 := Tryz.zeroValue215
  t146 := Tryz.underlying229
  a146 := Tryz.isAgg229
  z146 := Tryz.sizeOf229
  v146 := Tryz.zeroValue229
  g1 := by kernel_rfl }
open Go.RowKit Go.Lib in
/-- strings.Cut: "Cut slices s around the first instance of sep, returning the text before and after sep. The found result reports whether sep appears in s. If sep does not appear in s, cut returns s, "", false.": IT RETURNS 'Lib.cut s sep'; the world is as it was but for the count of draws. (LAID: no walk: one application.) -/
theorem Tryz.strings_Cut (s sep : ByteArray) (m : Int) (w : World) (hs : s.size < 4294967281) (hm : w.cell? ⟨5, 0, none⟩ = some (.int .i64 m)) :
    Calls Tryz.prog 157 #[.string s, .string sep] w fun e w' => e = .returned (.tuple #[.string ⟨(Lib.cut s.data.toList sep.data.toList).1.toArray⟩, .string ⟨(Lib.cut s.data.toList sep.data.toList).2.1.toArray⟩, .bool (Lib.cut s.data.toList sep.data.toList).2.2]) ∧ ∃ n, w' = w.drewN n := Any.strings_Cut Tryz.lays145 s sep m w hs hm
def Tryz.lays138_ren : Go.Shelf.Ren := ⟨fun | 138 => 189 | 195 => 211 | 218 => 212 | 143 => 79 | 219 => 113 | 217 => 146 | 225 => 147 | 224 => 148 | 267 => 149 | 266 => 173 | 314 => 174 | n => n, fun | 9 => 9 | 3 => 3 | 4 => 4 | 5 => 5 | 0 => 0 | 46 => 206 | 146 => 229 | 51 => 172 | n => n, fun | 1 => 5 | n => n⟩
theorem Tryz.lays138 : Go.Proofs.Lays.n138 Tryz.prog Tryz.lays138_ren := {
  mixed := by kernel_rfl
  f138 := Tryz.func189.trans (congrArg some (by kernel_rfl))
  f143 := Tryz.func79.trans (congrArg some (by kernel_rfl))
  f195 := Tryz.func211.trans (congrArg some (by kernel_rfl))
  f217 := Tryz.func146.trans (congrArg some (by kernel_rfl))
  f218 := Tryz.func212.trans (congrArg some (by kernel_rfl))
  f219 := Tryz.func113.trans (congrArg some (by kernel_rfl))
  f224 := Tryz.func148.trans (congrArg some (by kernel_rfl))
  f225 := Tryz.func147.trans (congrArg some (by kernel_rfl))
  f266 := Tryz.func173.trans (congrArg some (by kernel_rfl))
  f267 := Tryz.func149.trans (congrArg some (by kernel_rfl))
  f314 := Tryz.func174.trans (congrArg some (by kernel_rfl))
  t0 := Tryz.underlying0
  a0 := Tryz.isAgg0
  z0 := Tryz.sizeOf0
  v0 := Tryz.zeroValue0
  t3 := Tryz.underlying3
  a3 := Tryz.isAgg3
  z3 := Tryz.sizeOf3
  v3 := Tryz.zeroValue3
  t4 := Tryz.underlying4
  a4 := Tryz.isAgg4
  z4 := Tryz.sizeOf4
  v4 := Tryz.zeroValue4
  t5 := Tryz.underlying5
  a5 := Tryz.isAgg5
  z5 := Tryz.sizeOf5
  v5 := Tryz.zeroValue5
  t9 := Tryz.underlying9
  a9 := Tryz.isAgg9
  z9 := Tryz.sizeOf9
  v9 := Tryz.zeroValue9
  t46 := Tryz.underlying206
  a46 := Tryz.isAgg206
  z46 := Tryz.sizeOf206
  v46 := Tryz.zeroValue206
  t51 := Tryz.underlying172
  a51 := Tryz.isAgg172
  z51 := Tryz.sizeOf172
  v51 := Tryz.zeroValue172
  t146 := Tryz.underlying229
  a146 := Tryz.isAgg229
  z146 := Tryz.sizeOf229
  v146 := Tryz.zeroValue229
  g1 := by kernel_rfl }
open Go.RowKit Go.Lib in
/-- strings.Count AT A substr OF ONE BYTE ('hp'): "Count counts the number of non-overlapping instances of substr in s.": IT RETURNS 'Lib.countByte s (that byte)'; the world is as it was. ✋ NO CONTRACT HERE YET at an empty substr (utf8.RuneCountInString) or at a longer one (a loop over strings.Index). (LAID: no walk: one application.) -/
theorem Tryz.strings_Count_one (s : ByteArray) (c : UInt8) (w : World) :
    Calls Tryz.prog 189 #[.string s, .string ⟨#[c]⟩] w fun e w' => e = .returned (.int .i64 (Lib.countByte s.data.toList c)) ∧ w' = w := Any.strings_Count_one Tryz.lays138 s c w
open Go.RowKit Go.Lib in
/-- strings.Count AT A substr OF TWO BYTES OR MORE: "Count counts the number of non-overlapping instances of substr in s.": IT RETURNS 'Lib.count s substr'; the world is as it was. (LAID: no walk: one application.) -/
theorem Tryz.strings_Count (s sub : ByteArray) (m : Int) (w : World) (hs : s.size < 4294967281) (hm : w.cell? ⟨5, 0, none⟩ = some (.int .i64 m)) (h2 : 2 ≤ sub.size) :
    Calls Tryz.prog 189 #[.string s, .string sub] w fun e w' => e = .returned (.int .i64 (Lib.countB s sub)) ∧ w' = w := Any.strings_Count Tryz.lays138 s sub m w hs hm h2
def Tryz.laysM219_ren : Go.Shelf.Ren := ⟨fun | 219 => 113 | 217 => 146 | 225 => 147 | 224 => 148 | 267 => 149 | 266 => 173 | 314 => 174 | n => n, fun | 9 => 9 | 3 => 3 | 4 => 4 | 5 => 5 | 46 => 206 | 146 => 229 | 51 => 172 | n => n, fun | 1 => 5 | n => n⟩
theorem Tryz.laysM219 : Go.Proofs.LaysM.n219 Tryz.prog Tryz.laysM219_ren := {
  mixed := by kernel_rfl
  f217 := Tryz.func146.trans (congrArg some (by kernel_rfl))
  f219 := Tryz.func113.trans (congrArg some (by kernel_rfl))
  f224 := Tryz.func148.trans (congrArg some (by kernel_rfl))
  f225 := Tryz.func147.trans (congrArg some (by kernel_rfl))
  f266 := Tryz.func173.trans (congrArg some (by kernel_rfl))
  f267 := Tryz.func149.trans (congrArg some (by kernel_rfl))
  f314 := Tryz.func174.trans (congrArg some (by kernel_rfl))
  t3 := Tryz.underlying3
  a3 := Tryz.isAgg3
  z3 := Tryz.sizeOf3
  v3 := Tryz.zeroValue3
  t4 := Tryz.underlying4
  a4 := Tryz.isAgg4
  z4 := Tryz.sizeOf4
  v4 := Tryz.zeroValue4
  t5 := Tryz.underlying5
  a5 := Tryz.isAgg5
  z5 := Tryz.sizeOf5
  v5 := Tryz.zeroValue5
  t9 := Tryz.underlying9
  a9 := Tryz.isAgg9
  z9 := Tryz.sizeOf9
  v9 := Tryz.zeroValue9
  t46 := Tryz.underlying206
  a46 := Tryz.isAgg206
  z46 := Tryz.sizeOf206
  v46 := Tryz.zeroValue206
  t51 := Tryz.underlying172
  a51 := Tryz.isAgg172
  z51 := Tryz.sizeOf172
  v51 := Tryz.zeroValue172
  t146 := Tryz.underlying229
  a146 := Tryz.isAgg229
  z146 := Tryz.sizeOf229
  v146 := Tryz.zeroValue229
  g1 := by kernel_rfl
  i3 := by kernel_rfl
  i4 := by kernel_rfl
  i5 := by kernel_rfl
  i9 := by kernel_rfl
  i46 := by kernel_rfl
  i51 := by kernel_rfl
  i146 := by kernel_rfl
  m1 := by kernel_rfl
  s1_3 := fun w h => Go.Proofs.cell_of_shapedOpen_int (zero := #[.int .i64 0]) (t := 3) h (of_decide_eq_true (by kernel_rfl)) (by kernel_rfl) rfl (by kernel_rfl) (by kernel_rfl) Tryz.underlying3 }
open Go.RowKit Go.Lib in
theorem Tryz.stringslite_Index_shaped (s sub : ByteArray) (w : World) (h : w.ShapedOpen Tryz.prog) (hs : s.size < 4294967281) :
    Calls Tryz.prog 113 #[.string s, .string sub] w fun e w' => e = .returned (.int .i64 (Lib.index s.data.toList sub.data.toList)) ∧ w' = w := Any.stringslite_Index_shaped Tryz.laysM219 s sub w h hs
def Tryz.laysM143_ren : Go.Shelf.Ren := ⟨fun | 143 => 79 | 219 => 113 | 217 => 146 | 225 => 147 | 224 => 148 | 267 => 149 | 266 => 173 | 314 => 174 | n => n, fun | 9 => 9 | 3 => 3 | 4 => 4 | 5 => 5 | 46 => 206 | 146 => 229 | 51 => 172 | n => n, fun | 1 => 5 | n => n⟩
theorem Tryz.laysM143 : Go.Proofs.LaysM.n143 Tryz.prog Tryz.laysM143_ren := {
  mixed := by kernel_rfl
  f143 := Tryz.func79.trans (congrArg some (by kernel_rfl))
  f217 := Tryz.func146.trans (congrArg some (by kernel_rfl))
  f219 := Tryz.func113.trans (congrArg some (by kernel_rfl))
  f224 := Tryz.func148.trans (congrArg some (by kernel_rfl))
  f225 := Tryz.func147.trans (congrArg some (by kernel_rfl))
  f266 := Tryz.func173.trans (congrArg some (by kernel_rfl))
  f267 := Tryz.func149.trans (congrArg some (by kernel_rfl))
  f314 := Tryz.func174.trans (congrArg some (by kernel_rfl))
  t3 := Tryz.underlying3
  a3 := Tryz.isAgg3
  z3 := Tryz.sizeOf3
  v3 := Tryz.zeroValue3
  t4 := Tryz.underlying4
  a4 := Tryz.isAgg4
  z4 := Tryz.sizeOf4
  v4 := Tryz.zeroValue4
  t5 := Tryz.underlying5
  a5 := Tryz.isAgg5
  z5 := Tryz.sizeOf5
  v5 := Tryz.zeroValue5
  t9 := Tryz.underlying9
  a9 := Tryz.isAgg9
  z9 := Tryz.sizeOf9
  v9 := Tryz.zeroValue9
  t46 := Tryz.underlying206
  a46 := Tryz.isAgg206
  z46 := Tryz.sizeOf206
  v46 := Tryz.zeroValue206
  t51 := Tryz.underlying172
  a51 := Tryz.isAgg172
  z51 := Tryz.sizeOf172
  v51 := Tryz.zeroValue172
  t146 := Tryz.underlying229
  a146 := Tryz.isAgg229
  z146 := Tryz.sizeOf229
  v146 := Tryz.zeroValue229
  g1 := by kernel_rfl
  i3 := by kernel_rfl
  i4 := by kernel_rfl
  i5 := by kernel_rfl
  i9 := by kernel_rfl
  i46 := by kernel_rfl
  i51 := by kernel_rfl
  i146 := by kernel_rfl
  m1 := by kernel_rfl
  s1_3 := fun w h => Go.Proofs.cell_of_shapedOpen_int (zero := #[.int .i64 0]) (t := 3) h (of_decide_eq_true (by kernel_rfl)) (by kernel_rfl) rfl (by kernel_rfl) (by kernel_rfl) Tryz.underlying3 }
open Go.RowKit Go.Lib in
theorem Tryz.strings_Index_shaped (s sub : ByteArray) (w : World) (h : w.ShapedOpen Tryz.prog) (hs : s.size < 4294967281) :
    Calls Tryz.prog 79 #[.string s, .string sub] w fun e w' => e = .returned (.int .i64 (Lib.index s.data.toList sub.data.toList)) ∧ w' = w := Any.strings_Index_shaped Tryz.laysM143 s sub w h hs
def Tryz.laysM144_ren : Go.Shelf.Ren := ⟨fun | 144 => 55 | 143 => 79 | 219 => 113 | 217 => 146 | 225 => 147 | 224 => 148 | 267 => 149 | 266 => 173 | 314 => 174 | n => n, fun | 9 => 9 | 4 => 4 | 3 => 3 | 5 => 5 | 46 => 206 | 146 => 229 | 51 => 172 | n => n, fun | 1 => 5 | n => n⟩
theorem Tryz.laysM144 : Go.Proofs.LaysM.n144 Tryz.prog Tryz.laysM144_ren := {
  mixed := by kernel_rfl
  f143 := Tryz.func79.trans (congrArg some (by kernel_rfl))
  f144 := Tryz.func55.trans (congrArg some (by kernel_rfl))
  f217 := Tryz.func146.trans (congrArg some (by kernel_rfl))
  f219 := Tryz.func113.trans (congrArg some (by kernel_rfl))
  f224 := Tryz.func148.trans (congrArg some (by kernel_rfl))
  f225 := Tryz.func147.trans (congrArg some (by kernel_rfl))
  f266 := Tryz.func173.trans (congrArg some (by kernel_rfl))
  f267 := Tryz.func149.trans (congrArg some (by kernel_rfl))
  f314 := Tryz.func174.trans (congrArg some (by kernel_rfl))
  t3 := Tryz.underlying3
  a3 := Tryz.isAgg3
  z3 := Tryz.sizeOf3
  v3 := Tryz.zeroValue3
  t4 := Tryz.underlying4
  a4 := Tryz.isAgg4
  z4 := Tryz.sizeOf4
  v4 := Tryz.zeroValue4
  t5 := Tryz.underlying5
  a5 := Tryz.isAgg5
  z5 := Tryz.sizeOf5
  v5 := Tryz.zeroValue5
  t9 := Tryz.underlying9
  a9 := Tryz.isAgg9
  z9 := Tryz.sizeOf9
  v9 := Tryz.zeroValue9
  t46 := Tryz.underlying206
  a46 := Tryz.isAgg206
  z46 := Tryz.sizeOf206
  v46 := Tryz.zeroValue206
  t51 := Tryz.underlying172
  a51 := Tryz.isAgg172
  z51 := Tryz.sizeOf172
  v51 := Tryz.zeroValue172
  t146 := Tryz.underlying229
  a146 := Tryz.isAgg229
  z146 := Tryz.sizeOf229
  v146 := Tryz.zeroValue229
  g1 := by kernel_rfl
  i3 := by kernel_rfl
  i4 := by kernel_rfl
  i5 := by kernel_rfl
  i9 := by kernel_rfl
  i46 := by kernel_rfl
  i51 := by kernel_rfl
  i146 := by kernel_rfl
  m1 := by kernel_rfl
  s1_3 := fun w h => Go.Proofs.cell_of_shapedOpen_int (zero := #[.int .i64 0]) (t := 3) h (of_decide_eq_true (by kernel_rfl)) (by kernel_rfl) rfl (by kernel_rfl) (by kernel_rfl) Tryz.underlying3 }
open Go.RowKit Go.Lib in
theorem Tryz.strings_Contains_shaped (s sub : ByteArray) (w : World) (h : w.ShapedOpen Tryz.prog) (hs : s.size < 4294967281) :
    Calls Tryz.prog 55 #[.string s, .string sub] w fun e w' => e = .returned (.bool (Lib.contains s.data.toList sub.data.toList)) ∧ w' = w := Any.strings_Contains_shaped Tryz.laysM144 s sub w h hs
def Tryz.laysM220_ren : Go.Shelf.Ren := ⟨fun | 220 => 181 | 219 => 113 | 217 => 146 | 225 => 147 | 224 => 148 | 267 => 149 | 266 => 173 | 314 => 174 | n => n, fun | 9 => 9 | 4 => 4 | 3 => 3 | 5 => 5 | 46 => 206 | 146 => 229 | 51 => 172 | n => n, fun | 1 => 5 | n => n⟩
theorem Tryz.laysM220 : Go.Proofs.LaysM.n220 Tryz.prog Tryz.laysM220_ren := {
  mixed := by kernel_rfl
  f217 := Tryz.func146.trans (congrArg some (by kernel_rfl))
  f219 := Tryz.func113.trans (congrArg some (by kernel_rfl))
  f220 := Tryz.func181.trans (congrArg some (by kernel_rfl))
  f224 := Tryz.func148.trans (congrArg some (by kernel_rfl))
  f225 := Tryz.func147.trans (congrArg some (by kernel_rfl))
  f266 := Tryz.func173.trans (congrArg some (by kernel_rfl))
  f267 := Tryz.func149.trans (congrArg some (by kernel_rfl))
  f314 := Tryz.func174.trans (congrArg some (by kernel_rfl))
  t3 := Tryz.underlying3
  a3 := Tryz.isAgg3
  z3 := Tryz.sizeOf3
  v3 := Tryz.zeroValue3
  t4 := Tryz.underlying4
  a4 := Tryz.isAgg4
  z4 := Tryz.sizeOf4
  v4 := Tryz.zeroValue4
  t5 := Tryz.underlying5
  a5 := Tryz.isAgg5
  z5 := Tryz.sizeOf5
  v5 := Tryz.zeroValue5
  t9 := Tryz.underlying9
  a9 := Tryz.isAgg9
  z9 := Tryz.sizeOf9
  v9 := Tryz.zeroValue9
  t46 := Tryz.underlying206
  a46 := Tryz.isAgg206
  z46 := Tryz.sizeOf206
  v46 := Tryz.zeroValue206
  t51 := Tryz.underlying172
  a51 := Tryz.isAgg172
  z51 := Tryz.sizeOf172
  v51 := Tryz.zeroValue172
  t146 := Tryz.underlying229
  a146 := Tryz.isAgg229
  z146 := Tryz.sizeOf229
  v146 := Tryz.zeroValue229
  g1 := by kernel_rfl
  i3 := by kernel_rfl
  i4 := by kernel_rfl
  i5 := by kernel_rfl
  i9 := by kernel_rfl
  i46 := by kernel_rfl
  i51 := by kernel_rfl
  i146 := by kernel_rfl
  m1 := by kernel_rfl
  s1_3 := fun w h => Go.Proofs.cell_of_shapedOpen_int (zero := #[.int .i64 0]) (t := 3) h (of_decide_eq_true (by kernel_rfl)) (by kernel_rfl) rfl (by kernel_rfl) (by kernel_rfl) Tryz.underlying3 }
open Go.RowKit Go.Lib in
theorem Tryz.stringslite_Cut_shaped (s sep : ByteArray) (w : World) (h : w.ShapedOpen Tryz.prog) (hs : s.size < 4294967281) :
    Calls Tryz.prog 181 #[.string s, .string sep] w fun e w' => e = .returned (.tuple #[.string ⟨(Lib.cut s.data.toList sep.data.toList).1.toArray⟩, .string ⟨(Lib.cut s.data.toList sep.data.toList).2.1.toArray⟩, .bool (Lib.cut s.data.toList sep.data.toList).2.2]) ∧ ∃ n, w' = w.drewN n := Any.stringslite_Cut_shaped Tryz.laysM220 s sep w h hs
def Tryz.laysM145_ren : Go.Shelf.Ren := ⟨fun | 145 => 157 | 220 => 181 | 219 => 113 | 217 => 146 | 225 => 147 | 224 => 148 | 267 => 149 | 266 => 173 | 314 => 174 | n => n, fun | 9 => 9 | 4 => 4 | 59 => 215 | 3 => 3 | 5 => 5 | 46 => 206 | 146 => 229 | 51 => 172 | n => n, fun | 1 => 5 | n => n⟩
theorem Tryz.laysM145 : Go.Proofs.LaysM.n145 Tryz.prog Tryz.laysM145_ren := {
  mixed := by kernel_rfl
  f145 := Tryz.func157.trans (congrArg some (by kernel_rfl))
  f217 := Tryz.func146.trans (congrArg some (by kernel_rfl))
  f219 := Tryz.func113.trans (congrArg some (by kernel_rfl))
  f220 := Tryz.func181.trans (congrArg some (by kernel_rfl))
  f224 := Tryz.func148.trans (congrArg some (by kernel_rfl))
  f225 := Tryz.func147.trans (congrArg some (by kernel_rfl))
  f266 := Tryz.func173.trans (congrArg some (by kernel_rfl))
  f267 := Tryz.func149.trans (congrArg some (by kernel_rfl))
  f314 := Tryz.func174.trans (congrArg some (by kernel_rfl))
  t3 := Tryz.underlying3
  a3 := Tryz.isAgg3
  z3 := Tryz.sizeOf3
  v3 := Tryz.zeroValue3
  t4 := Tryz.underlying4
  a4 := Tryz.isAgg4
  z4 := Tryz.sizeOf4
  v4 := Tryz.zeroValue4
  t5 := Tryz.underlying5
  a5 := Tryz.isAgg5
  z5 := Tryz.sizeOf5
  v5 := Tryz.zeroValue5
  t9 := Tryz.underlying9
  a9 := Tryz.isAgg9
  z9 := Tryz.sizeOf9
  v9 := Tryz.zeroValue9
  t46 := Tryz.underlying206
  a46 := Tryz.isAgg206
  z46 := Tryz.sizeOf206
  v46 := Tryz.zeroValue206
  t51 := Tryz.underlying172
  a51 := Tryz.isAgg172
  z51 := Tryz.sizeOf172
  v51 := Tryz.zeroValue172
  t59 := Tryz.underlying215
  a59 := Tryz.isAgg215
  z59 := Tryz.sizeOf215
  v59 := Tryz.zeroValue215
  t146 := Tryz.underlying229
  a146 := Tryz.isAgg229
  z146 := Tryz.sizeOf229
  v146 := Tryz.zeroValue229
  g1 := by kernel_rfl
  i3 := by kernel_rfl
  i4 := by kernel_rfl
  i5 := by kernel_rfl
  i9 := by kernel_rfl
  i46 := by kernel_rfl
  i51 := by kernel_rfl
  i59 := by kernel_rfl
  i146 := by kernel_rfl
  m1 := by kernel_rfl
  s1_3 := fun w h => Go.Proofs.cell_of_shapedOpen_int (zero := #[.int .i64 0]) (t := 3) h (of_decide_eq_true (by kernel_rfl)) (by kernel_rfl) rfl (by kernel_rfl) (by kernel_rfl) Tryz.underlying3 }
open Go.RowKit Go.Lib in
theorem Tryz.strings_Cut_shaped (s sep : ByteArray) (w : World) (h : w.ShapedOpen Tryz.prog) (hs : s.size < 4294967281) :
    Calls Tryz.prog 157 #[.string s, .string sep] w fun e w' => e = .returned (.tuple #[.string ⟨(Lib.cut s.data.toList sep.data.toList).1.toArray⟩, .string ⟨(Lib.cut s.data.toList sep.data.toList).2.1.toArray⟩, .bool (Lib.cut s.data.toList sep.data.toList).2.2]) ∧ ∃ n, w' = w.drewN n := Any.strings_Cut_shaped Tryz.laysM145 s sep w h hs
def Tryz.laysM138_ren : Go.Shelf.Ren := ⟨fun | 138 => 189 | 195 => 211 | 218 => 212 | 143 => 79 | 219 => 113 | 217 => 146 | 225 => 147 | 224 => 148 | 267 => 149 | 266 => 173 | 314 => 174 | n => n, fun | 9 => 9 | 3 => 3 | 4 => 4 | 5 => 5 | 0 => 0 | 46 => 206 | 146 => 229 | 51 => 172 | n => n, fun | 1 => 5 | n => n⟩
theorem Tryz.laysM138 : Go.Proofs.LaysM.n138 Tryz.prog Tryz.laysM138_ren := {
  mixed := by kernel_rfl
  f138 := Tryz.func189.trans (congrArg some (by kernel_rfl))
  f143 := Tryz.func79.trans (congrArg some (by kernel_rfl))
  f195 := Tryz.func211.trans (congrArg some (by kernel_rfl))
  f217 := Tryz.func146.trans (congrArg some (by kernel_rfl))
  f218 := Tryz.func212.trans (congrArg some (by kernel_rfl))
  f219 := Tryz.func113.trans (congrArg some (by kernel_rfl))
  f224 := Tryz.func148.trans (congrArg some (by kernel_rfl))
  f225 := Tryz.func147.trans (congrArg some (by kernel_rfl))
  f266 := Tryz.func173.trans (congrArg some (by kernel_rfl))
  f267 := Tryz.func149.trans (congrArg some (by kernel_rfl))
  f314 := Tryz.func174.trans (congrArg some (by kernel_rfl))
  t0 := Tryz.underlying0
  a0 := Tryz.isAgg0
  z0 := Tryz.sizeOf0
  v0 := Tryz.zeroValue0
  t3 := Tryz.underlying3
  a3 := Tryz.isAgg3
  z3 := Tryz.sizeOf3
  v3 := Tryz.zeroValue3
  t4 := Tryz.underlying4
  a4 := Tryz.isAgg4
  z4 := Tryz.sizeOf4
  v4 := Tryz.zeroValue4
  t5 := Tryz.underlying5
  a5 := Tryz.isAgg5
  z5 := Tryz.sizeOf5
  v5 := Tryz.zeroValue5
  t9 := Tryz.underlying9
  a9 := Tryz.isAgg9
  z9 := Tryz.sizeOf9
  v9 := Tryz.zeroValue9
  t46 := Tryz.underlying206
  a46 := Tryz.isAgg206
  z46 := Tryz.sizeOf206
  v46 := Tryz.zeroValue206
  t51 := Tryz.underlying172
  a51 := Tryz.isAgg172
  z51 := Tryz.sizeOf172
  v51 := Tryz.zeroValue172
  t146 := Tryz.underlying229
  a146 := Tryz.isAgg229
  z146 := Tryz.sizeOf229
  v146 := Tryz.zeroValue229
  g1 := by kernel_rfl
  i0 := by kernel_rfl
  i3 := by kernel_rfl
  i4 := by kernel_rfl
  i5 := by kernel_rfl
  i9 := by kernel_rfl
  i46 := by kernel_rfl
  i51 := by kernel_rfl
  i146 := by kernel_rfl
  m1 := by kernel_rfl
  s1_3 := fun w h => Go.Proofs.cell_of_shapedOpen_int (zero := #[.int .i64 0]) (t := 3) h (of_decide_eq_true (by kernel_rfl)) (by kernel_rfl) rfl (by kernel_rfl) (by kernel_rfl) Tryz.underlying3 }
open Go.RowKit Go.Lib in
theorem Tryz.strings_Count_shaped (s sub : ByteArray) (w : World) (h : w.ShapedOpen Tryz.prog) (hs : s.size < 4294967281) (h2 : 2 ≤ sub.size) :
    Calls Tryz.prog 189 #[.string s, .string sub] w fun e w' => e = .returned (.int .i64 (Lib.countB s sub)) ∧ w' = w := Any.strings_Count_shaped Tryz.laysM138 s sub w h hs h2
def Tryz.lays206_ren : Go.Shelf.Ren := ⟨fun | 206 => 176 | n => n, fun | 9 => 9 | 4 => 4 | 3 => 3 | n => n, fun | n => n⟩
theorem Tryz.lays206 : Go.Proofs.Lays.n206 Tryz.prog Tryz.lays206_ren := {
  mixed := by kernel_rfl
  f206 := Tryz.func176.trans (congrArg some (by kernel_rfl))
  t3 := Tryz.underlying3
  a3 := Tryz.isAgg3
  z3 := Tryz.sizeOf3
  v3 := Tryz.zeroValue3
  t4 := Tryz.underlying4
  a4 := Tryz.isAgg4
  z4 := Tryz.sizeOf4
  v4 := Tryz.zeroValue4
  t9 := Tryz.underlying9
  a9 := Tryz.isAgg9
  z9 := Tryz.sizeOf9
  v9 := Tryz.zeroValue9 }
open Go.RowKit Go.Lib in
/-- internal/stringslite.HasPrefix (what strings.HasPrefix calls). (LAID: no walk: one application.) -/
theorem Tryz.stringslite_HasPrefix (s p : ByteArray) (w : World) :
    Calls Tryz.prog 176 #[.string s, .string p] w fun e w' => e = .returned (.bool (Lib.hasPrefix s.data.toList p.data.toList)) ∧ w' = w := Any.stringslite_HasPrefix Tryz.lays206 s p w
def Tryz.lays99_ren : Go.Shelf.Ren := ⟨fun | 99 => 156 | 206 => 176 | n => n, fun | 9 => 9 | 4 => 4 | 3 => 3 | n => n, fun | n => n⟩
theorem Tryz.lays99 : Go.Proofs.Lays.n99 Tryz.prog Tryz.lays99_ren := {
  mixed := by kernel_rfl
  f99 := Tryz.func156.trans (congrArg some (by kernel_rfl))
  f206 := Tryz.func176.trans (congrArg some (by kernel_rfl))
  t3 := Tryz.underlying3
  a3 := Tryz.isAgg3
  z3 := Tryz.sizeOf3
  v3 := Tryz.zeroValue3
  t4 := Tryz.underlying4
  a4 := Tryz.isAgg4
  z4 := Tryz.sizeOf4
  v4 := Tryz.zeroValue4
  t9 := Tryz.underlying9
  a9 := Tryz.isAgg9
  z9 := Tryz.sizeOf9
  v9 := Tryz.zeroValue9 }
open Go.RowKit Go.Lib in
/-- strings.HasPrefix: "HasPrefix reports whether the string s begins with prefix.": IT RETURNS 'Lib.hasPrefix s prefix'; the world is as it was. (LAID: no walk: one application.) -/
theorem Tryz.strings_HasPrefix (s p : ByteArray) (w : World) :
    Calls Tryz.prog 156 #[.string s, .string p] w fun e w' => e = .returned (.bool (Lib.hasPrefix s.data.toList p.data.toList)) ∧ w' = w := Any.strings_HasPrefix Tryz.lays99 s p w
open Go.RowKit Go.Lib in
/-- strings.Count at whatever sep that is not empty: the two roads under one statement. (LAID: no walk: one application.) -/
theorem Tryz.strings_Count_any (s sep : ByteArray) (m : Int) (w : World) (hs : s.size < 4294967281) (hm : w.cell? ⟨5, 0, none⟩ = some (.int .i64 m)) (h1 : 1 ≤ sep.size) :
    Calls Tryz.prog 189 #[.string s, .string sep] w fun e w' => e = .returned (.int .i64 (Lib.countB s sep)) ∧ w' = w := Any.strings_Count_any Tryz.lays138 s sep m w hs hm h1
def Tryz.lays221_ren : Go.Shelf.Ren := ⟨fun | 221 => 175 | 268 => 188 | 138 => 189 | 143 => 79 | 195 => 211 | 197 => 112 | 218 => 212 | 219 => 113 | 260 => 145 | 217 => 146 | 225 => 147 | 224 => 148 | 267 => 149 | 266 => 173 | 314 => 174 | n => n, fun | 9 => 9 | 3 => 3 | 31 => 50 | 4 => 4 | 0 => 0 | 105 => 176 | 21 => 21 | 5 => 5 | 46 => 206 | 119 => 147 | 139 => 228 | 138 => 227 | 146 => 229 | 51 => 172 | n => n, fun | 1 => 5 | 3 => 6 | 4 => 7 | n => n⟩
theorem Tryz.lays221 : Go.Proofs.Lays.n221 Tryz.prog Tryz.lays221_ren := {
  mixed := by kernel_rfl
  f138 := Tryz.func189.trans (congrArg some (by kernel_rfl))
  f143 := Tryz.func79.trans (congrArg some (by kernel_rfl))
  f195 := Tryz.func211.trans (congrArg some (by kernel_rfl))
  f197 := Tryz.func112.trans (congrArg some (by kernel_rfl))
  f217 := Tryz.func146.trans (congrArg some (by kernel_rfl))
  f218 := Tryz.func212.trans (congrArg some (by kernel_rfl))
  f219 := Tryz.func113.trans (congrArg some (by kernel_rfl))
  f221 := Tryz.func175.trans (congrArg some (by kernel_rfl))
  f224 := Tryz.func148.trans (congrArg some (by kernel_rfl))
  f225 := Tryz.func147.trans (congrArg some (by kernel_rfl))
  f260 := Tryz.func145.trans (congrArg some (by kernel_rfl))
  f266 := Tryz.func173.trans (congrArg some (by kernel_rfl))
  f267 := Tryz.func149.trans (congrArg some (by kernel_rfl))
  f268 := Tryz.func188.trans (congrArg some (by kernel_rfl))
  f314 := Tryz.func174.trans (congrArg some (by kernel_rfl))
  t0 := Tryz.underlying0
  a0 := Tryz.isAgg0
  z0 := Tryz.sizeOf0
  v0 := Tryz.zeroValue0
  t3 := Tryz.underlying3
  a3 := Tryz.isAgg3
  z3 := Tryz.sizeOf3
  v3 := Tryz.zeroValue3
  t4 := Tryz.underlying4
  a4 := Tryz.isAgg4
  z4 := Tryz.sizeOf4
  v4 := Tryz.zeroValue4
  t5 := Tryz.underlying5
  a5 := Tryz.isAgg5
  z5 := Tryz.sizeOf5
  v5 := Tryz.zeroValue5
  t9 := Tryz.underlying9
  a9 := Tryz.isAgg9
  z9 := Tryz.sizeOf9
  v9 := Tryz.zeroValue9
  t21 := Tryz.underlying21
  a21 := Tryz.isAgg21
  z21 := Tryz.sizeOf21
  v21 := Tryz.zeroValue21
  t31 := Tryz.underlying50
  a31 := Tryz.isAgg50
  z31 := Tryz.sizeOf50
  v31 := Tryz.zeroValue50
  t46 := Tryz.underlying206
  a46 := Tryz.isAgg206
  z46 := Tryz.sizeOf206
  v46 := Tryz.zeroValue206
  t51 := Tryz.underlying172
  a51 := Tryz.isAgg172
  z51 := Tryz.sizeOf172
  v51 := Tryz.zeroValue172
  t105 := Tryz.underlying176
  a105 := Tryz.isAgg176
  z105 := Tryz.sizeOf176
  v105 := Tryz.zeroValue176
  t119 := Tryz.underlying147
  a119 := Tryz.isAgg147
  z119 := Tryz.sizeOf147
  t138 := Tryz.underlying227
  a138 := Tryz.isAgg227
  z138 := Tryz.sizeOf227
  v138 := Tryz.zeroValue227
  t139 := Tryz.underlying228
  a139 := Tryz.isAgg228
  z139 := Tryz.sizeOf228
  v139 := Tryz.zeroValue228
  t146 := Tryz.underlying229
  a146 := Tryz.isAgg229
  z146 := Tryz.sizeOf229
  v146 := Tryz.zeroValue229
  g1 := by kernel_rfl
  g3 := by kernel_rfl
  g4 := by kernel_rfl }
open Go.RowKit Go.Lib in
theorem Tryz.strings_genSplit (s sep : ByteArray) (sv : Nat) (n : Int) (N : Nat) (m : Int) (w : World) (hs : s.size < 4294967281) (hm : w.cell? ⟨5, 0, none⟩ = some (.int .i64 m)) (h1 : 1 ≤ sep.size) (hsv : sv ≤ sep.size) (hn0 : n ≠ 0) (hn63 : n ≤ 9223372036854775807) (hN : (N : Int) = min (if n < 0 then (Lib.countB s sep : Int) + 1 else n) ((s.size : Int) + 1)) :
    Calls Tryz.prog 175 #[.string s, .string sep, .int .i64 sv, .int .i64 n] w fun e w' =>
      e = .returned (.slice (some ⟨w.heap.size, 0, none⟩) (Lib.splitB sep sv (N - 1) s).length N) ∧ w' = w.alloc (.cells (Lib.cellsOf (Lib.splitB sep sv (N - 1) s) N) 9) := Any.strings_genSplit Tryz.lays221 (by kernel_rfl) s sep sv n N m w hs hm h1 hsv hn0 hn63 hN
def Tryz.lays146_ren : Go.Shelf.Ren := ⟨fun | 146 => 150 | 221 => 175 | 268 => 188 | 138 => 189 | 143 => 79 | 195 => 211 | 197 => 112 | 218 => 212 | 219 => 113 | 260 => 145 | 217 => 146 | 225 => 147 | 224 => 148 | 267 => 149 | 266 => 173 | 314 => 174 | n => n, fun | 9 => 9 | 31 => 50 | 3 => 3 | 4 => 4 | 0 => 0 | 105 => 176 | 21 => 21 | 5 => 5 | 46 => 206 | 119 => 147 | 139 => 228 | 138 => 227 | 146 => 229 | 51 => 172 | n => n, fun | 1 => 5 | 3 => 6 | 4 => 7 | n => n⟩
theorem Tryz.lays146 : Go.Proofs.Lays.n146 Tryz.prog Tryz.lays146_ren := {
  mixed := by kernel_rfl
  f138 := Tryz.func189.trans (congrArg some (by kernel_rfl))
  f143 := Tryz.func79.trans (congrArg some (by kernel_rfl))
  f146 := Tryz.func150.trans (congrArg some (by kernel_rfl))
  f195 := Tryz.func211.trans (congrArg some (by kernel_rfl))
  f197 := Tryz.func112.trans (congrArg some (by kernel_rfl))
  f217 := Tryz.func146.trans (congrArg some (by kernel_rfl))
  f218 := Tryz.func212.trans (congrArg some (by kernel_rfl))
  f219 := Tryz.func113.trans (congrArg some (by kernel_rfl))
  f221 := Tryz.func175.trans (congrArg some (by kernel_rfl))
  f224 := Tryz.func148.trans (congrArg some (by kernel_rfl))
  f225 := Tryz.func147.trans (congrArg some (by kernel_rfl))
  f260 := Tryz.func145.trans (congrArg some (by kernel_rfl))
  f266 := Tryz.func173.trans (congrArg some (by kernel_rfl))
  f267 := Tryz.func149.trans (congrArg some (by kernel_rfl))
  f268 := Tryz.func188.trans (congrArg some (by kernel_rfl))
  f314 := Tryz.func174.trans (congrArg some (by kernel_rfl))
  t0 := Tryz.underlying0
  a0 := Tryz.isAgg0
  z0 := Tryz.sizeOf0
  v0 := Tryz.zeroValue0
  t3 := Tryz.underlying3
  a3 := Tryz.isAgg3
  z3 := Tryz.sizeOf3
  v3 := Tryz.zeroValue3
  t4 := Tryz.underlying4
  a4 := Tryz.isAgg4
  z4 := Tryz.sizeOf4
  v4 := Tryz.zeroValue4
  t5 := Tryz.underlying5
  a5 := Tryz.isAgg5
  z5 := Tryz.sizeOf5
  v5 := Tryz.zeroValue5
  t9 := Tryz.underlying9
  a9 := Tryz.isAgg9
  z9 := Tryz.sizeOf9
  v9 := Tryz.zeroValue9
  t21 := Tryz.underlying21
  a21 := Tryz.isAgg21
  z21 := Tryz.sizeOf21
  v21 := Tryz.zeroValue21
  t31 := Tryz.underlying50
  a31 := Tryz.isAgg50
  z31 := Tryz.sizeOf50
  v31 := Tryz.zeroValue50
  t46 := Tryz.underlying206
  a46 := Tryz.isAgg206
  z46 := Tryz.sizeOf206
  v46 := Tryz.zeroValue206
  t51 := Tryz.underlying172
  a51 := Tryz.isAgg172
  z51 := Tryz.sizeOf172
  v51 := Tryz.zeroValue172
  t105 := Tryz.underlying176
  a105 := Tryz.isAgg176
  z105 := Tryz.sizeOf176
  v105 := Tryz.zeroValue176
  t119 := Tryz.underlying147
  a119 := Tryz.isAgg147
  z119 := Tryz.sizeOf147
  t138 := Tryz.underlying227
  a138 := Tryz.isAgg227
  z138 := Tryz.sizeOf227
  v138 := Tryz.zeroValue227
  t139 := Tryz.underlying228
  a139 := Tryz.isAgg228
  z139 := Tryz.sizeOf228
  v139 := Tryz.zeroValue228
  t146 := Tryz.underlying229
  a146 := Tryz.isAgg229
  z146 := Tryz.sizeOf229
  v146 := Tryz.zeroValue229
  g1 := by kernel_rfl
  g3 := by kernel_rfl
  g4 := by kernel_rfl }
open Go.RowKit Go.Lib in
/-- strings.Split. (LAID: no walk: one application.) -/
theorem Tryz.strings_Split (s sep : ByteArray) (m : Int) (w : World) (hs : s.size < 4294967281) (hm : w.cell? ⟨5, 0, none⟩ = some (.int .i64 m)) (h1 : 1 ≤ sep.size) :
    Calls Tryz.prog 150 #[.string s, .string sep] w fun e w' =>
      e = .returned (.slice (some ⟨w.heap.size, 0, none⟩) (Lib.countB s sep + 1) (Lib.countB s sep + 1)) ∧ w' = w.alloc (.cells ((Lib.splitB sep 0 (Lib.countB s sep) s).map Value.string).toArray 9) := Any.strings_Split Tryz.lays146 (by kernel_rfl) s sep m w hs hm h1
def Tryz.laysM146_ren : Go.Shelf.Ren := ⟨fun | 146 => 150 | 221 => 175 | 268 => 188 | 138 => 189 | 143 => 79 | 195 => 211 | 197 => 112 | 218 => 212 | 219 => 113 | 260 => 145 | 217 => 146 | 225 => 147 | 224 => 148 | 267 => 149 | 266 => 173 | 314 => 174 | n => n, fun | 9 => 9 | 31 => 50 | 3 => 3 | 4 => 4 | 0 => 0 | 105 => 176 | 21 => 21 | 5 => 5 | 46 => 206 | 119 => 147 | 139 => 228 | 138 => 227 | 146 => 229 | 51 => 172 | n => n, fun | 1 => 5 | 3 => 6 | 4 => 7 | n => n⟩
theorem Tryz.laysM146 : Go.Proofs.LaysM.n146 Tryz.prog Tryz.laysM146_ren := {
  mixed := by kernel_rfl
  f138 := Tryz.func189.trans (congrArg some (by kernel_rfl))
  f143 := Tryz.func79.trans (congrArg some (by kernel_rfl))
  f146 := Tryz.func150.trans (congrArg some (by kernel_rfl))
  f195 := Tryz.func211.trans (congrArg some (by kernel_rfl))
  f197 := Tryz.func112.trans (congrArg some (by kernel_rfl))
  f217 := Tryz.func146.trans (congrArg some (by kernel_rfl))
  f218 := Tryz.func212.trans (congrArg some (by kernel_rfl))
  f219 := Tryz.func113.trans (congrArg some (by kernel_rfl))
  f221 := Tryz.func175.trans (congrArg some (by kernel_rfl))
  f224 := Tryz.func148.trans (congrArg some (by kernel_rfl))
  f225 := Tryz.func147.trans (congrArg some (by kernel_rfl))
  f260 := Tryz.func145.trans (congrArg some (by kernel_rfl))
  f266 := Tryz.func173.trans (congrArg some (by kernel_rfl))
  f267 := Tryz.func149.trans (congrArg some (by kernel_rfl))
  f268 := Tryz.func188.trans (congrArg some (by kernel_rfl))
  f314 := Tryz.func174.trans (congrArg some (by kernel_rfl))
  t0 := Tryz.underlying0
  a0 := Tryz.isAgg0
  z0 := Tryz.sizeOf0
  v0 := Tryz.zeroValue0
  t3 := Tryz.underlying3
  a3 := Tryz.isAgg3
  z3 := Tryz.sizeOf3
  v3 := Tryz.zeroValue3
  t4 := Tryz.underlying4
  a4 := Tryz.isAgg4
  z4 := Tryz.sizeOf4
  v4 := Tryz.zeroValue4
  t5 := Tryz.underlying5
  a5 := Tryz.isAgg5
  z5 := Tryz.sizeOf5
  v5 := Tryz.zeroValue5
  t9 := Tryz.underlying9
  a9 := Tryz.isAgg9
  z9 := Tryz.sizeOf9
  v9 := Tryz.zeroValue9
  t21 := Tryz.underlying21
  a21 := Tryz.isAgg21
  z21 := Tryz.sizeOf21
  v21 := Tryz.zeroValue21
  t31 := Tryz.underlying50
  a31 := Tryz.isAgg50
  z31 := Tryz.sizeOf50
  v31 := Tryz.zeroValue50
  t46 := Tryz.underlying206
  a46 := Tryz.isAgg206
  z46 := Tryz.sizeOf206
  v46 := Tryz.zeroValue206
  t51 := Tryz.underlying172
  a51 := Tryz.isAgg172
  z51 := Tryz.sizeOf172
  v51 := Tryz.zeroValue172
  t105 := Tryz.underlying176
  a105 := Tryz.isAgg176
  z105 := Tryz.sizeOf176
  v105 := Tryz.zeroValue176
  t119 := Tryz.underlying147
  a119 := Tryz.isAgg147
  z119 := Tryz.sizeOf147
  t138 := Tryz.underlying227
  a138 := Tryz.isAgg227
  z138 := Tryz.sizeOf227
  v138 := Tryz.zeroValue227
  t139 := Tryz.underlying228
  a139 := Tryz.isAgg228
  z139 := Tryz.sizeOf228
  v139 := Tryz.zeroValue228
  t146 := Tryz.underlying229
  a146 := Tryz.isAgg229
  z146 := Tryz.sizeOf229
  v146 := Tryz.zeroValue229
  g1 := by kernel_rfl
  g3 := by kernel_rfl
  g4 := by kernel_rfl
  i0 := by kernel_rfl
  i3 := by kernel_rfl
  i4 := by kernel_rfl
  i5 := by kernel_rfl
  i9 := by kernel_rfl
  i21 := by kernel_rfl
  i31 := by kernel_rfl
  i46 := by kernel_rfl
  i51 := by kernel_rfl
  i105 := by kernel_rfl
  i138 := by kernel_rfl
  i139 := by kernel_rfl
  i146 := by kernel_rfl
  m1 := by kernel_rfl
  s1_3 := fun w h => Go.Proofs.cell_of_shapedOpen_int (zero := #[.int .i64 0]) (t := 3) h (of_decide_eq_true (by kernel_rfl)) (by kernel_rfl) rfl (by kernel_rfl) (by kernel_rfl) Tryz.underlying3
  m3 := by kernel_rfl
  m4 := by kernel_rfl }
open Go.RowKit Go.Lib in
/-- strings.Split, sep not empty. (LAID: no walk: one application.) -/
theorem Tryz.strings_Split_shaped (s sep : ByteArray) (w : World) (h : w.ShapedOpen Tryz.prog) (hs : s.size < 4294967281) (h1 : 1 ≤ sep.size) :
    Calls Tryz.prog 150 #[.string s, .string sep] w fun e w' =>
      e = .returned (.slice (some ⟨w.heap.size, 0, none⟩) (Lib.countB s sep + 1) (Lib.countB s sep + 1)) ∧ w' = w.alloc (.cells ((Lib.splitB sep 0 (Lib.countB s sep) s).map Value.string).toArray 9) := Any.strings_Split_shaped Tryz.laysM146 s sep w h hs h1
def Tryz.lays199_ren : Go.Shelf.Ren := ⟨fun | 199 => 77 | 261 => 110 | 311 => 142 | 312 => 143 | n => n, fun | 21 => 21 | 4 => 4 | 51 => 172 | 141 => 174 | 0 => 0 | 196 => 196 | 193 => 193 | 3 => 3 | 198 => 199 | 49 => 197 | 194 => 194 | 201 => 202 | 226 => 224 | 46 => 206 | 227 => 225 | n => n, fun | 6 => 3 | n => n⟩
theorem Tryz.lays199 : Go.Proofs.Lays.n199 Tryz.prog Tryz.lays199_ren := {
  mixed := by kernel_rfl
  f199 := Tryz.func77.trans (congrArg some (by kernel_rfl))
  f261 := Tryz.func110.trans (congrArg some (by kernel_rfl))
  f311 := Tryz.func142.trans (congrArg some (by kernel_rfl))
  f312 := Tryz.func143.trans (congrArg some (by kernel_rfl))
  t0 := Tryz.underlying0
  a0 := Tryz.isAgg0
  z0 := Tryz.sizeOf0
  v0 := Tryz.zeroValue0
  t3 := Tryz.underlying3
  a3 := Tryz.isAgg3
  z3 := Tryz.sizeOf3
  v3 := Tryz.zeroValue3
  t4 := Tryz.underlying4
  a4 := Tryz.isAgg4
  z4 := Tryz.sizeOf4
  v4 := Tryz.zeroValue4
  t21 := Tryz.underlying21
  a21 := Tryz.isAgg21
  z21 := Tryz.sizeOf21
  v21 := Tryz.zeroValue21
  t46 := Tryz.underlying206
  a46 := Tryz.isAgg206
  z46 := Tryz.sizeOf206
  v46 := Tryz.zeroValue206
  t49 := Tryz.underlying197
  a49 := Tryz.isAgg197
  z49 := Tryz.sizeOf197
  v49 := Tryz.zeroValue197
  t51 := Tryz.underlying172
  a51 := Tryz.isAgg172
  z51 := Tryz.sizeOf172
  v51 := Tryz.zeroValue172
  t141 := Tryz.underlying174
  a141 := Tryz.isAgg174
  z141 := Tryz.sizeOf174
  v141 := Tryz.zeroValue174
  t193 := Tryz.underlying193
  a193 := Tryz.isAgg193
  z193 := Tryz.sizeOf193
  v193 := Tryz.zeroValue193
  t194 := Tryz.underlying194
  a194 := Tryz.isAgg194
  z194 := Tryz.sizeOf194
  v194 := Tryz.zeroValue194
  t196 := Tryz.underlying196
  a196 := Tryz.isAgg196
  z196 := Tryz.sizeOf196
  v196 := Tryz.zeroValue196
  t198 := Tryz.underlying199
  a198 := Tryz.isAgg199
  z198 := Tryz.sizeOf199
  v198 := Tryz.zeroValue199
  t201 := Tryz.underlying202
  a201 := Tryz.isAgg202
  z201 := Tryz.sizeOf202
  v201 := Tryz.zeroValue202
  t226 := Tryz.underlying224
  a226 := Tryz.isAgg224
  z226 := Tryz.sizeOf224
  v226 := Tryz.zeroValue224
  t227 := Tryz.underlying225
  a227 := Tryz.isAgg225
  z227 := Tryz.sizeOf225
  v227 := Tryz.zeroValue225
  g6 := by kernel_rfl }
open Go.RowKit Go.Lib in
theorem Tryz.unicode_IsSpace (r : Int) (w : World) (h0 : 0 ≤ r) (h : r ≤ 255) :
    Calls Tryz.prog 77 #[.int .i32 r] w fun e w' => e = .returned (.bool (Lib.isSpaceL r)) ∧ w' = w := Any.unicode_IsSpace Tryz.lays199 r w h0 h
def Tryz.lays197_ren : Go.Shelf.Ren := ⟨fun | 197 => 112 | 260 => 145 | n => n, fun | 9 => 9 | 21 => 21 | 3 => 3 | 4 => 4 | 5 => 5 | 105 => 176 | 119 => 147 | 0 => 0 | 46 => 206 | 139 => 228 | 138 => 227 | n => n, fun | 3 => 6 | 4 => 7 | n => n⟩
theorem Tryz.lays197 : Go.Proofs.Lays.n197 Tryz.prog Tryz.lays197_ren := {
  mixed := by kernel_rfl
  f197 := Tryz.func112.trans (congrArg some (by kernel_rfl))
  f260 := Tryz.func145.trans (congrArg some (by kernel_rfl))
  t0 := Tryz.underlying0
  a0 := Tryz.isAgg0
  z0 := Tryz.sizeOf0
  v0 := Tryz.zeroValue0
  t3 := Tryz.underlying3
  a3 := Tryz.isAgg3
  z3 := Tryz.sizeOf3
  v3 := Tryz.zeroValue3
  t4 := Tryz.underlying4
  a4 := Tryz.isAgg4
  z4 := Tryz.sizeOf4
  v4 := Tryz.zeroValue4
  t5 := Tryz.underlying5
  a5 := Tryz.isAgg5
  z5 := Tryz.sizeOf5
  v5 := Tryz.zeroValue5
  t9 := Tryz.underlying9
  a9 := Tryz.isAgg9
  z9 := Tryz.sizeOf9
  v9 := Tryz.zeroValue9
  t21 := Tryz.underlying21
  a21 := Tryz.isAgg21
  z21 := Tryz.sizeOf21
  v21 := Tryz.zeroValue21
  t46 := Tryz.underlying206
  a46 := Tryz.isAgg206
  z46 := Tryz.sizeOf206
  v46 := Tryz.zeroValue206
  t105 := Tryz.underlying176
  a105 := Tryz.isAgg176
  z105 := Tryz.sizeOf176
  v105 := Tryz.zeroValue176
  t119 := Tryz.underlying147
  a119 := Tryz.isAgg147
  z119 := Tryz.sizeOf147
  t138 := Tryz.underlying227
  a138 := Tryz.isAgg227
  z138 := Tryz.sizeOf227
  v138 := Tryz.zeroValue227
  t139 := Tryz.underlying228
  a139 := Tryz.isAgg228
  z139 := Tryz.sizeOf228
  v139 := Tryz.zeroValue228
  g3 := by kernel_rfl
  g4 := by kernel_rfl }
open Go.RowKit Go.Lib in
/-- unicode/utf8.DecodeRuneInString: "DecodeRuneInString is like DecodeRune but its input is a string.": ("DecodeRune unpacks the first UTF-8 encoding in p and returns the rune and its width in bytes."): WHERE s BEGINS WITH AN ASCII BYTE x: (x, 1). (LAID: no walk: one application.) -/
theorem Tryz.utf8_DecodeRuneInString_ascii (s : ByteArray) (x : UInt8) (w : World) (h0 : s.data.toList[0]? = some x) (hx : x.toNat < 128) :
    Calls Tryz.prog 112 #[.string s] w fun e w' => e = .returned (.tuple #[.int .i32 x.toNat, .int .i64 1]) ∧ w' = w := Any.utf8_DecodeRuneInString_ascii Tryz.lays197 s x w h0 hx
def Tryz.lays152_ren : Go.Shelf.Ren := ⟨fun | 152 => 227 | 137 => 155 | 119 => 158 | 224 => 148 | 225 => 147 | 217 => 146 | 266 => 173 | n => n, fun | 9 => 9 | 21 => 21 | 3 => 3 | 4 => 4 | 5 => 5 | 0 => 0 | 46 => 206 | n => n, fun | n => n⟩
theorem Tryz.lays152 : Go.Proofs.Lays.n152 Tryz.prog Tryz.lays152_ren := {
  mixed := by kernel_rfl
  f119 := Tryz.func158.trans (congrArg some (by kernel_rfl))
  f137 := Tryz.func155.trans (congrArg some (by kernel_rfl))
  f152 := Tryz.func227.trans (congrArg some (by kernel_rfl))
  f217 := Tryz.func146.trans (congrArg some (by kernel_rfl))
  f224 := Tryz.func148.trans (congrArg some (by kernel_rfl))
  f225 := Tryz.func147.trans (congrArg some (by kernel_rfl))
  f266 := Tryz.func173.trans (congrArg some (by kernel_rfl))
  t0 := Tryz.underlying0
  a0 := Tryz.isAgg0
  z0 := Tryz.sizeOf0
  v0 := Tryz.zeroValue0
  t3 := Tryz.underlying3
  a3 := Tryz.isAgg3
  z3 := Tryz.sizeOf3
  v3 := Tryz.zeroValue3
  t4 := Tryz.underlying4
  a4 := Tryz.isAgg4
  z4 := Tryz.sizeOf4
  v4 := Tryz.zeroValue4
  t5 := Tryz.underlying5
  a5 := Tryz.isAgg5
  z5 := Tryz.sizeOf5
  v5 := Tryz.zeroValue5
  t9 := Tryz.underlying9
  a9 := Tryz.isAgg9
  z9 := Tryz.sizeOf9
  v9 := Tryz.zeroValue9
  t21 := Tryz.underlying21
  a21 := Tryz.isAgg21
  z21 := Tryz.sizeOf21
  v21 := Tryz.zeroValue21
  t46 := Tryz.underlying206
  a46 := Tryz.isAgg206
  z46 := Tryz.sizeOf206
  v46 := Tryz.zeroValue206 }
open Go.RowKit Go.Lib in
theorem Tryz.strings_IndexRune_ascii (s : ByteArray) (r : Int) (w : World) (h0 : 0 ≤ r) (h1 : r < 128) :
    Calls Tryz.prog 227 #[.string s, .int .i32 r] w fun e w' => e = .returned (.int .i64 (Lib.indexByte s.data.toList r.toNat.toUInt8)) ∧ w' = w := Any.strings_IndexRune_ascii Tryz.lays152 s r w h0 h1
def Tryz.lays151_ren : Go.Shelf.Ren := ⟨fun | 151 => 214 | 152 => 227 | 137 => 155 | 119 => 158 | 224 => 148 | 225 => 147 | 217 => 146 | 266 => 173 | n => n, fun | 9 => 9 | 21 => 21 | 4 => 4 | 3 => 3 | 5 => 5 | 0 => 0 | 46 => 206 | n => n, fun | n => n⟩
theorem Tryz.lays151 : Go.Proofs.Lays.n151 Tryz.prog Tryz.lays151_ren := {
  mixed := by kernel_rfl
  f119 := Tryz.func158.trans (congrArg some (by kernel_rfl))
  f137 := Tryz.func155.trans (congrArg some (by kernel_rfl))
  f151 := Tryz.func214.trans (congrArg some (by kernel_rfl))
  f152 := Tryz.func227.trans (congrArg some (by kernel_rfl))
  f217 := Tryz.func146.trans (congrArg some (by kernel_rfl))
  f224 := Tryz.func148.trans (congrArg some (by kernel_rfl))
  f225 := Tryz.func147.trans (congrArg some (by kernel_rfl))
  f266 := Tryz.func173.trans (congrArg some (by kernel_rfl))
  t0 := Tryz.underlying0
  a0 := Tryz.isAgg0
  z0 := Tryz.sizeOf0
  v0 := Tryz.zeroValue0
  t3 := Tryz.underlying3
  a3 := Tryz.isAgg3
  z3 := Tryz.sizeOf3
  v3 := Tryz.zeroValue3
  t4 := Tryz.underlying4
  a4 := Tryz.isAgg4
  z4 := Tryz.sizeOf4
  v4 := Tryz.zeroValue4
  t5 := Tryz.underlying5
  a5 := Tryz.isAgg5
  z5 := Tryz.sizeOf5
  v5 := Tryz.zeroValue5
  t9 := Tryz.underlying9
  a9 := Tryz.isAgg9
  z9 := Tryz.sizeOf9
  v9 := Tryz.zeroValue9
  t21 := Tryz.underlying21
  a21 := Tryz.isAgg21
  z21 := Tryz.sizeOf21
  v21 := Tryz.zeroValue21
  t46 := Tryz.underlying206
  a46 := Tryz.isAgg206
  z46 := Tryz.sizeOf206
  v46 := Tryz.zeroValue206 }
open Go.RowKit Go.Lib in
theorem Tryz.strings_ContainsRune_ascii (s : ByteArray) (r : Int) (w : World) (h0 : 0 ≤ r) (h1 : r < 128) :
    Calls Tryz.prog 214 #[.string s, .int .i32 r] w fun e w' => e = .returned (.bool (decide (0 ≤ Lib.indexByte s.data.toList r.toNat.toUInt8))) ∧ w' = w := Any.strings_ContainsRune_ascii Tryz.lays151 s r w h0 h1
def Tryz.lays195_ren : Go.Shelf.Ren := ⟨fun | 195 => 211 | n => n, fun | 9 => 9 | 3 => 3 | 0 => 0 | 4 => 4 | n => n, fun | n => n⟩
theorem Tryz.lays195 : Go.Proofs.Lays.n195 Tryz.prog Tryz.lays195_ren := {
  mixed := by kernel_rfl
  f195 := Tryz.func211.trans (congrArg some (by kernel_rfl))
  t0 := Tryz.underlying0
  a0 := Tryz.isAgg0
  z0 := Tryz.sizeOf0
  v0 := Tryz.zeroValue0
  t3 := Tryz.underlying3
  a3 := Tryz.isAgg3
  z3 := Tryz.sizeOf3
  v3 := Tryz.zeroValue3
  t4 := Tryz.underlying4
  a4 := Tryz.isAgg4
  z4 := Tryz.sizeOf4
  v4 := Tryz.zeroValue4
  t9 := Tryz.underlying9
  a9 := Tryz.isAgg9
  z9 := Tryz.sizeOf9
  v9 := Tryz.zeroValue9 }
open Go.RowKit Go.Lib in
theorem Tryz.utf8_RuneCountInString_ascii (s : ByteArray) (w : World) (hs : s.size < 4294967281) (hascii : ∀ (j : Nat) b, s.data.toList[j]? = some b → b.toNat < 128) :
    Calls Tryz.prog 211 #[.string s] w fun e w' => e = .returned (.int .i64 s.size) ∧ w' = w.iter s s.size := Any.utf8_RuneCountInString_ascii Tryz.lays195 s w hs hascii
def Tryz.lays227_ren : Go.Shelf.Ren := ⟨fun | 227 => 192 | n => n, fun | 9 => 9 | 116 => 245 | 4 => 4 | 0 => 0 | 3 => 3 | 5 => 5 | n => n, fun | n => n⟩
theorem Tryz.lays227 : Go.Proofs.Lays.n227 Tryz.prog Tryz.lays227_ren := {
  mixed := by kernel_rfl
  f227 := Tryz.func192.trans (congrArg some (by kernel_rfl))
  t0 := Tryz.underlying0
  a0 := Tryz.isAgg0
  z0 := Tryz.sizeOf0
  v0 := Tryz.zeroValue0
  t3 := Tryz.underlying3
  a3 := Tryz.isAgg3
  z3 := Tryz.sizeOf3
  v3 := Tryz.zeroValue3
  t4 := Tryz.underlying4
  a4 := Tryz.isAgg4
  z4 := Tryz.sizeOf4
  v4 := Tryz.zeroValue4
  t5 := Tryz.underlying5
  a5 := Tryz.isAgg5
  z5 := Tryz.sizeOf5
  v5 := Tryz.zeroValue5
  t9 := Tryz.underlying9
  a9 := Tryz.isAgg9
  z9 := Tryz.sizeOf9
  v9 := Tryz.zeroValue9
  t116 := Tryz.underlying245
  a116 := Tryz.isAgg245
  z116 := Tryz.sizeOf245 }
open Go.RowKit Go.Lib in
theorem Tryz.strings_makeASCIISet (hv116 : ∀ w, (zeroValue 245).run Tryz.prog w = .ok (.agg (Array.replicate 256 (.bool false))) w) (chars : ByteArray) (w : World) (hs : chars.size < 4294967281) (hascii : ∀ (j : Nat) b, chars.data.toList[j]? = some b → b.toNat < 128) :
    Calls Tryz.prog 192 #[.string chars] w fun e w' => e = .returned (.tuple #[.agg (Lib.setCells chars.data.toList), .bool true]) ∧ w' = w.alloc (.cells (Lib.setCells chars.data.toList) 245) := Any.strings_makeASCIISet Tryz.lays227 hv116 (by kernel_rfl) chars w hs hascii
def Tryz.lays228_ren : Go.Shelf.Ren := ⟨fun | 228 => 213 | n => n, fun | 124 => 249 | 5 => 5 | 4 => 4 | 0 => 0 | 116 => 245 | n => n, fun | n => n⟩
theorem Tryz.lays228 : Go.Proofs.Lays.n228 Tryz.prog Tryz.lays228_ren := {
  mixed := by kernel_rfl
  f228 := Tryz.func213.trans (congrArg some (by kernel_rfl))
  t0 := Tryz.underlying0
  a0 := Tryz.isAgg0
  z0 := Tryz.sizeOf0
  v0 := Tryz.zeroValue0
  t4 := Tryz.underlying4
  a4 := Tryz.isAgg4
  z4 := Tryz.sizeOf4
  v4 := Tryz.zeroValue4
  t5 := Tryz.underlying5
  a5 := Tryz.isAgg5
  z5 := Tryz.sizeOf5
  v5 := Tryz.zeroValue5
  t116 := Tryz.underlying245
  a116 := Tryz.isAgg245
  z116 := Tryz.sizeOf245
  t124 := Tryz.underlying249
  a124 := Tryz.isAgg249
  z124 := Tryz.sizeOf249
  v124 := Tryz.zeroValue249 }
open Go.RowKit Go.Lib in
/-- '(as *asciiSet) contains(c)': 'as[c]': the set lies at block b, whole. (LAID: no walk: one application.) -/
theorem Tryz.asciiSet_contains (b : Nat) (x : UInt8) (v : Bool) (w : World) (hc : w.cell? ⟨b, x.toNat, none⟩ = some (.bool v)) :
    Calls Tryz.prog 213 #[.pointer (some ⟨b, 0, none⟩), .int .u8 x.toNat] w fun e w' => e = .returned (.bool v) ∧ w' = w := Any.asciiSet_contains Tryz.lays228 b x v w hc
def Tryz.lays268_ren : Go.Shelf.Ren := ⟨fun | 268 => 188 | 195 => 211 | 197 => 112 | 260 => 145 | n => n, fun | 9 => 9 | 3 => 3 | 31 => 50 | 4 => 4 | 105 => 176 | 21 => 21 | 0 => 0 | 5 => 5 | 119 => 147 | 46 => 206 | 139 => 228 | 138 => 227 | n => n, fun | 3 => 6 | 4 => 7 | n => n⟩
theorem Tryz.lays268 : Go.Proofs.Lays.n268 Tryz.prog Tryz.lays268_ren := {
  mixed := by kernel_rfl
  f195 := Tryz.func211.trans (congrArg some (by kernel_rfl))
  f197 := Tryz.func112.trans (congrArg some (by kernel_rfl))
  f260 := Tryz.func145.trans (congrArg some (by kernel_rfl))
  f268 := Tryz.func188.trans (congrArg some (by kernel_rfl))
  t0 := Tryz.underlying0
  a0 := Tryz.isAgg0
  z0 := Tryz.sizeOf0
  v0 := Tryz.zeroValue0
  t3 := Tryz.underlying3
  a3 := Tryz.isAgg3
  z3 := Tryz.sizeOf3
  v3 := Tryz.zeroValue3
  t4 := Tryz.underlying4
  a4 := Tryz.isAgg4
  z4 := Tryz.sizeOf4
  v4 := Tryz.zeroValue4
  t5 := Tryz.underlying5
  a5 := Tryz.isAgg5
  z5 := Tryz.sizeOf5
  v5 := Tryz.zeroValue5
  t9 := Tryz.underlying9
  a9 := Tryz.isAgg9
  z9 := Tryz.sizeOf9
  v9 := Tryz.zeroValue9
  t21 := Tryz.underlying21
  a21 := Tryz.isAgg21
  z21 := Tryz.sizeOf21
  v21 := Tryz.zeroValue21
  t31 := Tryz.underlying50
  a31 := Tryz.isAgg50
  z31 := Tryz.sizeOf50
  v31 := Tryz.zeroValue50
  t46 := Tryz.underlying206
  a46 := Tryz.isAgg206
  z46 := Tryz.sizeOf206
  v46 := Tryz.zeroValue206
  t105 := Tryz.underlying176
  a105 := Tryz.isAgg176
  z105 := Tryz.sizeOf176
  v105 := Tryz.zeroValue176
  t119 := Tryz.underlying147
  a119 := Tryz.isAgg147
  z119 := Tryz.sizeOf147
  t138 := Tryz.underlying227
  a138 := Tryz.isAgg227
  z138 := Tryz.sizeOf227
  v138 := Tryz.zeroValue227
  t139 := Tryz.underlying228
  a139 := Tryz.isAgg228
  z139 := Tryz.sizeOf228
  v139 := Tryz.zeroValue228
  g3 := by kernel_rfl
  g4 := by kernel_rfl }
open Go.RowKit Go.Lib in
theorem Tryz.strings_explode_all (s : ByteArray) (n : Int) (w : World) (hn : n < 0) (hs : s.size < 4294967281) (hascii : ∀ (j : Nat) b, s.data.toList[j]? = some b → b.toNat < 128) :
    Calls Tryz.prog 188 #[.string s, .int .i64 n] w fun e w' =>
      e = .returned (.slice (some ⟨(w.iter s s.size).heap.size, 0, none⟩) s.size s.size) ∧ w' = (w.iter s s.size).alloc (.cells ((Lib.charsB s).map Value.string).toArray 9) := Any.strings_explode_all Tryz.lays268 (by kernel_rfl) s n w hn hs hascii
open Go.RowKit Go.Lib in
/-- strings.genSplit at sep == "", n < 0: 'return explode(s, n)'. (LAID: no walk: one application.) -/
theorem Tryz.strings_genSplit_chars (s sep : ByteArray) (sv n : Int) (w : World) (h0 : sep.size = 0) (hn : n < 0) (hs : s.size < 4294967281) (hascii : ∀ (j : Nat) b, s.data.toList[j]? = some b → b.toNat < 128) :
    Calls Tryz.prog 175 #[.string s, .string sep, .int .i64 sv, .int .i64 n] w fun e w' =>
      e = .returned (.slice (some ⟨(w.iter s s.size).heap.size, 0, none⟩) s.size s.size) ∧ w' = (w.iter s s.size).alloc (.cells ((Lib.charsB s).map Value.string).toArray 9) := Any.strings_genSplit_chars Tryz.lays221 (by kernel_rfl) s sep sv n w h0 hn hs hascii
open Go.RowKit Go.Lib in
/-- strings.Split(s, ""), s ASCII: a piece a byte. (LAID: no walk: one application.) -/
theorem Tryz.strings_Split_chars (s sep : ByteArray) (w : World) (h0 : sep.size = 0) (hs : s.size < 4294967281) (hascii : ∀ (j : Nat) b, s.data.toList[j]? = some b → b.toNat < 128) :
    Calls Tryz.prog 150 #[.string s, .string sep] w fun e w' =>
      e = .returned (.slice (some ⟨(w.iter s s.size).heap.size, 0, none⟩) s.size s.size) ∧ w' = (w.iter s s.size).alloc (.cells ((Lib.charsB s).map Value.string).toArray 9) := Any.strings_Split_chars Tryz.lays146 (by kernel_rfl) s sep w h0 hs hascii
def Tryz.lays260_ren : Go.Shelf.Ren := ⟨fun | 260 => 145 | n => n, fun | 9 => 9 | 21 => 21 | 3 => 3 | 4 => 4 | 5 => 5 | 119 => 147 | 0 => 0 | 46 => 206 | 139 => 228 | 138 => 227 | n => n, fun | 3 => 6 | 4 => 7 | n => n⟩
theorem Tryz.lays260 : Go.Proofs.Lays.n260 Tryz.prog Tryz.lays260_ren := {
  mixed := by kernel_rfl
  f260 := Tryz.func145.trans (congrArg some (by kernel_rfl))
  t0 := Tryz.underlying0
  a0 := Tryz.isAgg0
  z0 := Tryz.sizeOf0
  v0 := Tryz.zeroValue0
  t3 := Tryz.underlying3
  a3 := Tryz.isAgg3
  z3 := Tryz.sizeOf3
  v3 := Tryz.zeroValue3
  t4 := Tryz.underlying4
  a4 := Tryz.isAgg4
  z4 := Tryz.sizeOf4
  v4 := Tryz.zeroValue4
  t5 := Tryz.underlying5
  a5 := Tryz.isAgg5
  z5 := Tryz.sizeOf5
  v5 := Tryz.zeroValue5
  t9 := Tryz.underlying9
  a9 := Tryz.isAgg9
  z9 := Tryz.sizeOf9
  v9 := Tryz.zeroValue9
  t21 := Tryz.underlying21
  a21 := Tryz.isAgg21
  z21 := Tryz.sizeOf21
  v21 := Tryz.zeroValue21
  t46 := Tryz.underlying206
  a46 := Tryz.isAgg206
  z46 := Tryz.sizeOf206
  v46 := Tryz.zeroValue206
  t119 := Tryz.underlying147
  a119 := Tryz.isAgg147
  z119 := Tryz.sizeOf147
  t138 := Tryz.underlying227
  a138 := Tryz.isAgg227
  z138 := Tryz.sizeOf227
  v138 := Tryz.zeroValue227
  t139 := Tryz.underlying228
  a139 := Tryz.isAgg228
  z139 := Tryz.sizeOf228
  v139 := Tryz.zeroValue228
  g3 := by kernel_rfl
  g4 := by kernel_rfl }
open Go.RowKit Go.Lib in
theorem Tryz.utf8_decodeRuneInStringSlow (s : ByteArray) (w : World) (hT : Lib.Utf8Tabs 6 7 w) :
    Calls Tryz.prog 145 #[.string s] w fun e w' => e = .returned (.tuple #[.int .i32 (Lib.decodeGo s).1, .int .i64 (Lib.decodeGo s).2]) ∧ Below w.heap.size w w' := Any.utf8_decodeRuneInStringSlow Tryz.lays260 s w hT
open Go.RowKit Go.Lib in
/-- **unicode/utf8.DecodeRuneInString AT EVERY STRING.** (LAID: no walk: one application.) -/
theorem Tryz.utf8_DecodeRuneInString (s : ByteArray) (w : World) (hT : Lib.Utf8Tabs 6 7 w) :
    Calls Tryz.prog 112 #[.string s] w fun e w' => e = .returned (.tuple #[.int .i32 (Lib.decodeGo s).1, .int .i64 (Lib.decodeGo s).2]) ∧ Below w.heap.size w w' := Any.utf8_DecodeRuneInString Tryz.lays197 s w hT
def Tryz.lays311_ren : Go.Shelf.Ren := ⟨fun | 311 => 142 | n => n, fun | 193 => 193 | 49 => 197 | 4 => 4 | 3 => 3 | 0 => 0 | 226 => 224 | 198 => 199 | 46 => 206 | n => n, fun | n => n⟩
theorem Tryz.lays311 : Go.Proofs.Lays.n311 Tryz.prog Tryz.lays311_ren := {
  mixed := by kernel_rfl
  f311 := Tryz.func142.trans (congrArg some (by kernel_rfl))
  t0 := Tryz.underlying0
  a0 := Tryz.isAgg0
  z0 := Tryz.sizeOf0
  v0 := Tryz.zeroValue0
  t3 := Tryz.underlying3
  a3 := Tryz.isAgg3
  z3 := Tryz.sizeOf3
  v3 := Tryz.zeroValue3
  t4 := Tryz.underlying4
  a4 := Tryz.isAgg4
  z4 := Tryz.sizeOf4
  v4 := Tryz.zeroValue4
  t46 := Tryz.underlying206
  a46 := Tryz.isAgg206
  z46 := Tryz.sizeOf206
  v46 := Tryz.zeroValue206
  t49 := Tryz.underlying197
  a49 := Tryz.isAgg197
  z49 := Tryz.sizeOf197
  v49 := Tryz.zeroValue197
  t193 := Tryz.underlying193
  a193 := Tryz.isAgg193
  z193 := Tryz.sizeOf193
  v193 := Tryz.zeroValue193
  t198 := Tryz.underlying199
  a198 := Tryz.isAgg199
  z198 := Tryz.sizeOf199
  v198 := Tryz.zeroValue199
  t226 := Tryz.underlying224
  a226 := Tryz.isAgg224
  z226 := Tryz.sizeOf224
  v226 := Tryz.zeroValue224 }
open Go.RowKit Go.Lib in
theorem Tryz.unicode_is16_white (R oR : Nat) (z : Nat) (w : World) (hz : z < 65536) (hz0 : 255 < z) (c6 : w.cell? ⟨R, oR + 6, none⟩ = some (.int .u16 160)) (c7 : w.cell? ⟨R, oR + 7, none⟩ = some (.int .u16 5760)) (c8 : w.cell? ⟨R, oR + 8, none⟩ = some (.int .u16 5600)) (c9 : w.cell? ⟨R, oR + 9, none⟩ = some (.int .u16 8192)) (c10 : w.cell? ⟨R, oR + 10, none⟩ = some (.int .u16 8202)) (c11 : w.cell? ⟨R, oR + 11, none⟩ = some (.int .u16 1)) (c12 : w.cell? ⟨R, oR + 12, none⟩ = some (.int .u16 8232)) (c13 : w.cell? ⟨R, oR + 13, none⟩ = some (.int .u16 8233)) (c14 : w.cell? ⟨R, oR + 14, none⟩ = some (.int .u16 1)) (c15 : w.cell? ⟨R, oR + 15, none⟩ = some (.int .u16 8239)) (c16 : w.cell? ⟨R, oR + 16, none⟩ = some (.int .u16 8287)) (c17 : w.cell? ⟨R, oR + 17, none⟩ = some (.int .u16 48)) (c18 : w.cell? ⟨R, oR + 18, none⟩ = some (.int .u16 12288)) (c19 : w.cell? ⟨R, oR + 19, none⟩ = some (.int .u16 12288)) (c20 : w.cell? ⟨R, oR + 20, none⟩ = some (.int .u16 1)) :
    Calls Tryz.prog 142 #[.slice (some ⟨R, oR + 6, none⟩) 5 5, .int .u16 z] w fun e w' => e = .returned (.bool (Lib.isSpaceR z)) ∧ Below w.heap.size w w' := Any.unicode_is16_white Tryz.lays311 R oR z w hz hz0 c6 c7 c8 c9 c10 c11 c12 c13 c14 c15 c16 c17 c18 c19 c20
def Tryz.lays261_ren : Go.Shelf.Ren := ⟨fun | 261 => 110 | 311 => 142 | 312 => 143 | n => n, fun | 141 => 174 | 21 => 21 | 4 => 4 | 0 => 0 | 196 => 196 | 193 => 193 | 3 => 3 | 51 => 172 | 198 => 199 | 49 => 197 | 194 => 194 | 201 => 202 | 226 => 224 | 46 => 206 | 227 => 225 | n => n, fun | n => n⟩
theorem Tryz.lays261 : Go.Proofs.Lays.n261 Tryz.prog Tryz.lays261_ren := {
  mixed := by kernel_rfl
  f261 := Tryz.func110.trans (congrArg some (by kernel_rfl))
  f311 := Tryz.func142.trans (congrArg some (by kernel_rfl))
  f312 := Tryz.func143.trans (congrArg some (by kernel_rfl))
  t0 := Tryz.underlying0
  a0 := Tryz.isAgg0
  z0 := Tryz.sizeOf0
  v0 := Tryz.zeroValue0
  t3 := Tryz.underlying3
  a3 := Tryz.isAgg3
  z3 := Tryz.sizeOf3
  v3 := Tryz.zeroValue3
  t4 := Tryz.underlying4
  a4 := Tryz.isAgg4
  z4 := Tryz.sizeOf4
  v4 := Tryz.zeroValue4
  t21 := Tryz.underlying21
  a21 := Tryz.isAgg21
  z21 := Tryz.sizeOf21
  v21 := Tryz.zeroValue21
  t46 := Tryz.underlying206
  a46 := Tryz.isAgg206
  z46 := Tryz.sizeOf206
  v46 := Tryz.zeroValue206
  t49 := Tryz.underlying197
  a49 := Tryz.isAgg197
  z49 := Tryz.sizeOf197
  v49 := Tryz.zeroValue197
  t51 := Tryz.underlying172
  a51 := Tryz.isAgg172
  z51 := Tryz.sizeOf172
  v51 := Tryz.zeroValue172
  t141 := Tryz.underlying174
  a141 := Tryz.isAgg174
  z141 := Tryz.sizeOf174
  v141 := Tryz.zeroValue174
  t193 := Tryz.underlying193
  a193 := Tryz.isAgg193
  z193 := Tryz.sizeOf193
  v193 := Tryz.zeroValue193
  t194 := Tryz.underlying194
  a194 := Tryz.isAgg194
  z194 := Tryz.sizeOf194
  v194 := Tryz.zeroValue194
  t196 := Tryz.underlying196
  a196 := Tryz.isAgg196
  z196 := Tryz.sizeOf196
  v196 := Tryz.zeroValue196
  t198 := Tryz.underlying199
  a198 := Tryz.isAgg199
  z198 := Tryz.sizeOf199
  v198 := Tryz.zeroValue199
  t201 := Tryz.underlying202
  a201 := Tryz.isAgg202
  z201 := Tryz.sizeOf202
  v201 := Tryz.zeroValue202
  t226 := Tryz.underlying224
  a226 := Tryz.isAgg224
  z226 := Tryz.sizeOf224
  v226 := Tryz.zeroValue224
  t227 := Tryz.underlying225
  a227 := Tryz.isAgg225
  z227 := Tryz.sizeOf225
  v227 := Tryz.zeroValue225 }
open Go.RowKit Go.Lib in
/-- unicode.isExcludingLatin(White_Space, r), r beyond U+00FF or negative. (LAID: no walk: one application.) -/
theorem Tryz.unicode_isExcludingLatin_white (T oT R oR : Nat) (r : Int) (w : World) (hlo : -2147483648 ≤ r) (hhi : r ≤ 2147483647) (hr : r < 0 ∨ 255 < r) (h2 : w.cell? ⟨T, oT, none⟩ = some (.slice (some ⟨R, oR, none⟩) 7 7)) (h3 : w.cell? ⟨T, oT + 1, none⟩ = some (.slice none 0 0)) (h4 : w.cell? ⟨T, oT + 2, none⟩ = some (.int .i64 2)) (h5 : ∀ i, i < 21 → w.cell? ⟨R, oR + i, none⟩ = some (.int .u16 (whiteT.getD i 0))) :
    Calls Tryz.prog 110 #[.pointer (some ⟨T, oT, none⟩), .int .i32 r] w fun e w' => e = .returned (.bool (Lib.isSpaceZ r)) ∧ Below w.heap.size w w' := Any.unicode_isExcludingLatin_white Tryz.lays261 T oT R oR r w hlo hhi hr h2 h3 h4 h5
open Go.RowKit Go.Lib in
/-- **unicode.IsSpace AT EVERY int32.** (LAID: no walk: one application.) -/
theorem Tryz.unicode_IsSpace_any (r : Int) (w : World) (hlo : -2147483648 ≤ r) (hhi : r ≤ 2147483647) (hW : Lib.WhiteTab 3 w) :
    Calls Tryz.prog 77 #[.int .i32 r] w fun e w' => e = .returned (.bool (Lib.isSpaceZ r)) ∧ Below w.heap.size w w' := Any.unicode_IsSpace_any Tryz.lays199 r w hlo hhi hW
def Tryz.lays271_ren : Go.Shelf.Ren := ⟨fun | 271 => 144 | 120 => 172 | 197 => 112 | 260 => 145 | n => n, fun | 9 => 9 | 21 => 21 | 3 => 3 | 4 => 4 | 5 => 5 | 105 => 176 | 119 => 147 | 0 => 0 | 46 => 206 | 139 => 228 | 138 => 227 | n => n, fun | 3 => 6 | 4 => 7 | n => n⟩
theorem Tryz.lays271 : Go.Proofs.Lays.n271 Tryz.prog Tryz.lays271_ren := {
  mixed := by kernel_rfl
  f120 := Tryz.func172.trans (congrArg some (by kernel_rfl))
  f197 := Tryz.func112.trans (congrArg some (by kernel_rfl))
  f260 := Tryz.func145.trans (congrArg some (by kernel_rfl))
  f271 := Tryz.func144.trans (congrArg some (by kernel_rfl))
  t0 := Tryz.underlying0
  a0 := Tryz.isAgg0
  z0 := Tryz.sizeOf0
  v0 := Tryz.zeroValue0
  t3 := Tryz.underlying3
  a3 := Tryz.isAgg3
  z3 := Tryz.sizeOf3
  v3 := Tryz.zeroValue3
  t4 := Tryz.underlying4
  a4 := Tryz.isAgg4
  z4 := Tryz.sizeOf4
  v4 := Tryz.zeroValue4
  t5 := Tryz.underlying5
  a5 := Tryz.isAgg5
  z5 := Tryz.sizeOf5
  v5 := Tryz.zeroValue5
  t9 := Tryz.underlying9
  a9 := Tryz.isAgg9
  z9 := Tryz.sizeOf9
  v9 := Tryz.zeroValue9
  t21 := Tryz.underlying21
  a21 := Tryz.isAgg21
  z21 := Tryz.sizeOf21
  v21 := Tryz.zeroValue21
  t46 := Tryz.underlying206
  a46 := Tryz.isAgg206
  z46 := Tryz.sizeOf206
  v46 := Tryz.zeroValue206
  t105 := Tryz.underlying176
  a105 := Tryz.isAgg176
  z105 := Tryz.sizeOf176
  v105 := Tryz.zeroValue176
  t119 := Tryz.underlying147
  a119 := Tryz.isAgg147
  z119 := Tryz.sizeOf147
  t138 := Tryz.underlying227
  a138 := Tryz.isAgg227
  z138 := Tryz.sizeOf227
  v138 := Tryz.zeroValue227
  t139 := Tryz.underlying228
  a139 := Tryz.isAgg228
  z139 := Tryz.sizeOf228
  v139 := Tryz.zeroValue228
  g3 := by kernel_rfl
  g4 := by kernel_rfl }
open Go.RowKit Go.Lib in
/-- **unicode/utf8.DecodeLastRuneInString AT EVERY STRING.** (LAID: no walk: one application.) -/
theorem Tryz.utf8_DecodeLastRuneInString (s : ByteArray) (w : World) (hs : s.size ≤ 9223372036854775807) (hT : Lib.Utf8Tabs 6 7 w) :
    Calls Tryz.prog 144 #[.string s] w fun e w' => e = .returned (.tuple #[.int .i32 (Lib.decodeLastL s.data.toList).1, .int .i64 (Lib.decodeLastL s.data.toList).2]) ∧ Below w.heap.size w w' := Any.utf8_DecodeLastRuneInString Tryz.lays271 s w hs hT
open Go.RowKit in
theorem Tryz.strings_TrimSpace_any (s : ByteArray) (w : World) (hs : s.size ≤ 9223372036854775807) (htab : Lib.TabIs Tryz.prog w "strings.asciiSpace" .u8 Lib.asciiSpaceTab) (hU8 : Lib.Utf8Tabs 6 7 w) (hWS : Lib.WhiteTab 3 w) :
    Calls Tryz.prog 54 #[.string s] w fun e w' => e = .returned (.string ⟨(Lib.trimSpaceD s.data.toList).toArray⟩) ∧ Below w.heap.size w w' := Any.strings_TrimSpace_any Tryz.lays163 Tryz.Space_Extra_163 s w hs htab hU8 hWS
open Go.RowKit Go.Lib in
theorem Tryz.unicode_is16_any (T : Array Rg) (R oR cap : Nat) (z : Nat) (w : World) (hz : z < 65536) (hT : RgTab .u16 R oR T w) (hok : RgOk 65536 T) (hn : T.size ≤ 1000000000) :
    Calls Tryz.prog 142 #[.slice (some ⟨R, oR, none⟩) T.size cap, .int .u16 z] w fun e w' => e = .returned (.bool (is16Go T z)) ∧ ∃ q, w' = w.drewN q := Any.unicode_is16_any Tryz.lays311 T R oR cap z w hz hT hok hn
def Tryz.lays312_ren : Go.Shelf.Ren := ⟨fun | 312 => 143 | n => n, fun | 194 => 194 | 51 => 172 | 4 => 4 | 3 => 3 | 0 => 0 | 227 => 225 | 201 => 202 | 46 => 206 | n => n, fun | n => n⟩
theorem Tryz.lays312 : Go.Proofs.Lays.n312 Tryz.prog Tryz.lays312_ren := {
  mixed := by kernel_rfl
  f312 := Tryz.func143.trans (congrArg some (by kernel_rfl))
  t0 := Tryz.underlying0
  a0 := Tryz.isAgg0
  z0 := Tryz.sizeOf0
  v0 := Tryz.zeroValue0
  t3 := Tryz.underlying3
  a3 := Tryz.isAgg3
  z3 := Tryz.sizeOf3
  v3 := Tryz.zeroValue3
  t4 := Tryz.underlying4
  a4 := Tryz.isAgg4
  z4 := Tryz.sizeOf4
  v4 := Tryz.zeroValue4
  t46 := Tryz.underlying206
  a46 := Tryz.isAgg206
  z46 := Tryz.sizeOf206
  v46 := Tryz.zeroValue206
  t51 := Tryz.underlying172
  a51 := Tryz.isAgg172
  z51 := Tryz.sizeOf172
  v51 := Tryz.zeroValue172
  t194 := Tryz.underlying194
  a194 := Tryz.isAgg194
  z194 := Tryz.sizeOf194
  v194 := Tryz.zeroValue194
  t201 := Tryz.underlying202
  a201 := Tryz.isAgg202
  z201 := Tryz.sizeOf202
  v201 := Tryz.zeroValue202
  t227 := Tryz.underlying225
  a227 := Tryz.isAgg225
  z227 := Tryz.sizeOf225
  v227 := Tryz.zeroValue225 }
open Go.RowKit Go.Lib in
theorem Tryz.unicode_is32_any (T : Array Rg) (R oR cap : Nat) (z : Nat) (w : World) (hz : z < 4294967296) (hT : RgTab .u32 R oR T w) (hok : RgOk 4294967296 T) (hn : T.size ≤ 1000000000) :
    Calls Tryz.prog 143 #[.slice (some ⟨R, oR, none⟩) T.size cap, .int .u32 z] w fun e w' => e = .returned (.bool (is32Go T z)) ∧ Below w.heap.size w w' := Any.unicode_is32_any Tryz.lays312 T R oR cap z w hz hT hok hn
open Go.RowKit Go.Lib in
theorem Tryz.unicode_isExcludingLatin_any (Tb oT : Nat) (T : RTab) (r : Int) (w : World) (hlo : -2147483648 ≤ r) (hhi : r ≤ 2147483647) (hA : RTabAt Tb oT T w) (hok : RTabOk T) :
    Calls Tryz.prog 110 #[.pointer (some ⟨Tb, oT, none⟩), .int .i32 r] w fun e w' => e = .returned (.bool (exclGo T r)) ∧ Below w.heap.size w w' := Any.unicode_isExcludingLatin_any Tryz.lays261 Tb oT T r w hlo hhi hA hok
end Go.Proofs
