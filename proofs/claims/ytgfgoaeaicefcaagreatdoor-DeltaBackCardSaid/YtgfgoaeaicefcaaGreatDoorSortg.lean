/-
  DERIVED: THE SHELF's CONTRACTS AT THIS DUMP, IN PLAIN WORDS (tools/lay-plain.mjs out of 'TryzSortg.lean', which tools/lay-shelf.mjs wrote): THE SAME DECLARATIONS UNDER THE SAME NAMES: 'import', 'namespace', 'open', 'def', 'theorem' AND NOTHING ELSE: no command of the shelf's: FOR A HAND-IN. Each laying: the table of numbers ('.._ren') and one theorem, a field a fact of the dump's own or the kernel's comparison; each contract: ONE APPLICATION.
-/
import Derived.Shelf.SlGeneric
import Derived.Shelf.SortM.Plain
import Derived.Shelf.SortM.SortNone
import Derived.Ground.SlgmProg
import Derived.Test.YtgfgoaeaicefcaaGreatDoorProg
namespace Go.Proofs
open Go.Shelf
def Tryz.sort253_ren : Go.Shelf.Ren := ⟨fun | 6 => 253 | 8 => 297 | 9 => 296 | 19 => 338 | 20 => 299 | 21 => 329 | 22 => 330 | 23 => 331 | 24 => 332 | 25 => 333 | 26 => 334 | 27 => 335 | 28 => 336 | 29 => 337 | 36 => 367 | 31 => 368 | 32 => 369 | 37 => 370 | 38 => 371 | 39 => 372 | 41 => 387 | n => n, fun | 27 => 29 | 29 => 9 | 3 => 3 | 32 => 333 | 26 => 29 | 0 => 0 | 44 => 240 | 46 => 275 | 4 => 4 | 36 => 361 | 35 => 360 | 41 => 155 | 5 => 5 | 9 => 9 | 53 => 393 | 57 => 397 | 63 => 412 | 64 => 413 | n => n, fun | n => n⟩
theorem Tryz.sort253 : Go.Proofs.SlLaysM.n6 Tryz.prog Tryz.sort253_ren := {
  mixed := by kernel_rfl
  f6 := ⟨Tryz.f253.name, by decide, Tryz.func253.trans (congrArg some (by kernel_rfl))⟩
  f8 := Tryz.func297.trans (congrArg some (by kernel_rfl))
  f9 := ⟨Tryz.f296.name, by decide, Tryz.func296.trans (congrArg some (by kernel_rfl))⟩
  f19 := Tryz.func338.trans (congrArg some (by kernel_rfl))
  f20 := Tryz.func299.trans (congrArg some (by kernel_rfl))
  f21 := ⟨Tryz.f329.name, by decide, Tryz.func329.trans (congrArg some (by kernel_rfl))⟩
  f22 := ⟨Tryz.f330.name, by decide, Tryz.func330.trans (congrArg some (by kernel_rfl))⟩
  f23 := ⟨Tryz.f331.name, by decide, Tryz.func331.trans (congrArg some (by kernel_rfl))⟩
  f24 := ⟨Tryz.f332.name, by decide, Tryz.func332.trans (congrArg some (by kernel_rfl))⟩
  f25 := ⟨Tryz.f333.name, by decide, Tryz.func333.trans (congrArg some (by kernel_rfl))⟩
  f26 := ⟨Tryz.f334.name, by decide, Tryz.func334.trans (congrArg some (by kernel_rfl))⟩
  f27 := ⟨Tryz.f335.name, by decide, Tryz.func335.trans (congrArg some (by kernel_rfl))⟩
  f28 := ⟨Tryz.f336.name, by decide, Tryz.func336.trans (congrArg some (by kernel_rfl))⟩
  f29 := ⟨Tryz.f337.name, by decide, Tryz.func337.trans (congrArg some (by kernel_rfl))⟩
  f31 := Tryz.func368.trans (congrArg some (by kernel_rfl))
  f32 := Tryz.func369.trans (congrArg some (by kernel_rfl))
  f36 := ⟨Tryz.f367.name, by decide, Tryz.func367.trans (congrArg some (by kernel_rfl))⟩
  f37 := ⟨Tryz.f370.name, by decide, Tryz.func370.trans (congrArg some (by kernel_rfl))⟩
  f38 := ⟨Tryz.f371.name, by decide, Tryz.func371.trans (congrArg some (by kernel_rfl))⟩
  f39 := ⟨Tryz.f372.name, by decide, Tryz.func372.trans (congrArg some (by kernel_rfl))⟩
  f41 := ⟨Tryz.f387.name, by decide, Tryz.func387.trans (congrArg some (by kernel_rfl))⟩
  t0 := Tryz.underlying0
  a0 := Tryz.isAgg0
  z0 := Tryz.sizeOf0
  v0 := Tryz.zeroValue0
  t3 := Tryz.underlying3
  a3 := Tryz.isAgg3
  z3 := Tryz.sizeOf3
  v3 := Tryz.zeroValue3
  t4 := Tryz.underlying4
  a4 := Tryz.isAgg4
  z4 := Tryz.sizeOf4
  v4 := Tryz.zeroValue4
  t5 := Tryz.underlying5
  a5 := Tryz.isAgg5
  z5 := Tryz.sizeOf5
  v5 := Tryz.zeroValue5
  t9 := Tryz.underlying9
  a9 := Tryz.isAgg9
  z9 := Tryz.sizeOf9
  v9 := Tryz.zeroValue9
  t26 := Tryz.underlying29
  a26 := Tryz.isAgg29
  z26 := Tryz.sizeOf29
  v26 := Tryz.zeroValue29
  t27 := Tryz.underlying29
  a27 := Tryz.isAgg29
  z27 := Tryz.sizeOf29
  v27 := Tryz.zeroValue29
  t29 := Tryz.underlying9
  a29 := Tryz.isAgg9
  z29 := Tryz.sizeOf9
  v29 := Tryz.zeroValue9
  t32 := Tryz.underlying333
  a32 := Tryz.isAgg333
  z32 := Tryz.sizeOf333
  v32 := Tryz.zeroValue333
  t35 := Tryz.underlying360
  a35 := Tryz.isAgg360
  z35 := Tryz.sizeOf360
  v35 := Tryz.zeroValue360
  t36 := Tryz.underlying361
  a36 := Tryz.isAgg361
  z36 := Tryz.sizeOf361
  v36 := Tryz.zeroValue361
  t41 := Tryz.underlying155
  a41 := Tryz.isAgg155
  z41 := Tryz.sizeOf155
  v41 := Tryz.zeroValue155
  t44 := Tryz.underlying240
  a44 := Tryz.isAgg240
  z44 := Tryz.sizeOf240
  v44 := Tryz.zeroValue240
  t46 := Tryz.underlying275
  a46 := Tryz.isAgg275
  z46 := Tryz.sizeOf275
  v46 := Tryz.zeroValue275
  t53 := Tryz.underlying393
  a53 := Tryz.isAgg393
  z53 := Tryz.sizeOf393
  v53 := Tryz.zeroValue393
  t57 := Tryz.underlying397
  a57 := Tryz.isAgg397
  z57 := Tryz.sizeOf397
  v57 := Tryz.zeroValue397
  t63 := Tryz.underlying412
  a63 := Tryz.isAgg412
  z63 := Tryz.sizeOf412
  v63 := Tryz.zeroValue412
  t64 := Tryz.underlying413
  a64 := Tryz.isAgg413
  z64 := Tryz.sizeOf413
  v64 := Tryz.zeroValue413 }
end Go.Proofs
