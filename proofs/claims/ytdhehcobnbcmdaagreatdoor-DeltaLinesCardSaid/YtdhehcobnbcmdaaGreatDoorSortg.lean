/-
  DERIVED: THE SHELF's CONTRACTS AT THIS DUMP, IN PLAIN WORDS (tools/lay-plain.mjs out of 'TryzSortg.lean', which tools/lay-shelf.mjs wrote): THE SAME DECLARATIONS UNDER THE SAME NAMES: 'import', 'namespace', 'open', 'def', 'theorem' AND NOTHING ELSE: no command of the shelf's: FOR A HAND-IN. Each laying: the table of numbers ('.._ren') and one theorem, a field a fact of the dump's own or the kernel's comparison; each contract: ONE APPLICATION.
-/
import Derived.Shelf.SlGeneric
import Derived.Shelf.SortM.Plain
import Derived.Shelf.SortM.SortNone
import Derived.Ground.SlgmProg
import Derived.Test.YtdhehcobnbcmdaaGreatDoorProg
namespace Go.Proofs
open Go.Shelf
def Tryz.sort136_ren : Go.Shelf.Ren := ⟨fun | 6 => 136 | 8 => 169 | 9 => 168 | 19 => 198 | 20 => 155 | 21 => 189 | 22 => 190 | 23 => 191 | 24 => 192 | 25 => 193 | 26 => 194 | 27 => 195 | 28 => 196 | 29 => 197 | 36 => 222 | 31 => 223 | 32 => 224 | 37 => 225 | 38 => 226 | 39 => 227 | 41 => 234 | n => n, fun | 27 => 29 | 29 => 9 | 3 => 3 | 32 => 221 | 26 => 29 | 0 => 0 | 44 => 175 | 46 => 184 | 4 => 4 | 36 => 262 | 35 => 261 | 41 => 100 | 5 => 5 | 9 => 9 | 53 => 297 | 57 => 301 | 63 => 309 | 64 => 310 | n => n, fun | n => n⟩
theorem Tryz.sort136 : Go.Proofs.SlLaysM.n6 Tryz.prog Tryz.sort136_ren := {
  mixed := by kernel_rfl
  f6 := ⟨Tryz.f136.name, by decide, Tryz.func136.trans (congrArg some (by kernel_rfl))⟩
  f8 := Tryz.func169.trans (congrArg some (by kernel_rfl))
  f9 := ⟨Tryz.f168.name, by decide, Tryz.func168.trans (congrArg some (by kernel_rfl))⟩
  f19 := Tryz.func198.trans (congrArg some (by kernel_rfl))
  f20 := Tryz.func155.trans (congrArg some (by kernel_rfl))
  f21 := ⟨Tryz.f189.name, by decide, Tryz.func189.trans (congrArg some (by kernel_rfl))⟩
  f22 := ⟨Tryz.f190.name, by decide, Tryz.func190.trans (congrArg some (by kernel_rfl))⟩
  f23 := ⟨Tryz.f191.name, by decide, Tryz.func191.trans (congrArg some (by kernel_rfl))⟩
  f24 := ⟨Tryz.f192.name, by decide, Tryz.func192.trans (congrArg some (by kernel_rfl))⟩
  f25 := ⟨Tryz.f193.name, by decide, Tryz.func193.trans (congrArg some (by kernel_rfl))⟩
  f26 := ⟨Tryz.f194.name, by decide, Tryz.func194.trans (congrArg some (by kernel_rfl))⟩
  f27 := ⟨Tryz.f195.name, by decide, Tryz.func195.trans (congrArg some (by kernel_rfl))⟩
  f28 := ⟨Tryz.f196.name, by decide, Tryz.func196.trans (congrArg some (by kernel_rfl))⟩
  f29 := ⟨Tryz.f197.name, by decide, Tryz.func197.trans (congrArg some (by kernel_rfl))⟩
  f31 := Tryz.func223.trans (congrArg some (by kernel_rfl))
  f32 := Tryz.func224.trans (congrArg some (by kernel_rfl))
  f36 := ⟨Tryz.f222.name, by decide, Tryz.func222.trans (congrArg some (by kernel_rfl))⟩
  f37 := ⟨Tryz.f225.name, by decide, Tryz.func225.trans (congrArg some (by kernel_rfl))⟩
  f38 := ⟨Tryz.f226.name, by decide, Tryz.func226.trans (congrArg some (by kernel_rfl))⟩
  f39 := ⟨Tryz.f227.name, by decide, Tryz.func227.trans (congrArg some (by kernel_rfl))⟩
  f41 := ⟨Tryz.f234.name, by decide, Tryz.func234.trans (congrArg some (by kernel_rfl))⟩
  t0 := Tryz.underlying0
  a0 := Tryz.isAgg0
  z0 := Tryz.sizeOf0
  v0 := Tryz.zeroValue0
  t3 := Tryz.underlying3
  a3 := Tryz.isAgg3
  z3 := Tryz.sizeOf3
  v3 := Tryz.zeroValue3
  t4 := Tryz.underlying4
  a4 := Tryz.isAgg4
  z4 := Tryz.sizeOf4
  v4 := Tryz.zeroValue4
  t5 := Tryz.underlying5
  a5 := Tryz.isAgg5
  z5 := Tryz.sizeOf5
  v5 := Tryz.zeroValue5
  t9 := Tryz.underlying9
  a9 := Tryz.isAgg9
  z9 := Tryz.sizeOf9
  v9 := Tryz.zeroValue9
  t26 := Tryz.underlying29
  a26 := Tryz.isAgg29
  z26 := Tryz.sizeOf29
  v26 := Tryz.zeroValue29
  t27 := Tryz.underlying29
  a27 := Tryz.isAgg29
  z27 := Tryz.sizeOf29
  v27 := Tryz.zeroValue29
  t29 := Tryz.underlying9
  a29 := Tryz.isAgg9
  z29 := Tryz.sizeOf9
  v29 := Tryz.zeroValue9
  t32 := Tryz.underlying221
  a32 := Tryz.isAgg221
  z32 := Tryz.sizeOf221
  v32 := Tryz.zeroValue221
  t35 := Tryz.underlying261
  a35 := Tryz.isAgg261
  z35 := Tryz.sizeOf261
  v35 := Tryz.zeroValue261
  t36 := Tryz.underlying262
  a36 := Tryz.isAgg262
  z36 := Tryz.sizeOf262
  v36 := Tryz.zeroValue262
  t41 := Tryz.underlying100
  a41 := Tryz.isAgg100
  z41 := Tryz.sizeOf100
  v41 := Tryz.zeroValue100
  t44 := Tryz.underlying175
  a44 := Tryz.isAgg175
  z44 := Tryz.sizeOf175
  v44 := Tryz.zeroValue175
  t46 := Tryz.underlying184
  a46 := Tryz.isAgg184
  z46 := Tryz.sizeOf184
  v46 := Tryz.zeroValue184
  t53 := Tryz.underlying297
  a53 := Tryz.isAgg297
  z53 := Tryz.sizeOf297
  v53 := Tryz.zeroValue297
  t57 := Tryz.underlying301
  a57 := Tryz.isAgg301
  z57 := Tryz.sizeOf301
  v57 := Tryz.zeroValue301
  t63 := Tryz.underlying309
  a63 := Tryz.isAgg309
  z63 := Tryz.sizeOf309
  v63 := Tryz.zeroValue309
  t64 := Tryz.underlying310
  a64 := Tryz.isAgg310
  z64 := Tryz.sizeOf310
  v64 := Tryz.zeroValue310 }
end Go.Proofs
