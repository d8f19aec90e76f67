/- Part of DeltaBack. -/
import Derived.Test.YtgfgoaeaicefcaaGreatDoorQU
set_option maxHeartbeats 16000000
set_option maxRecDepth 100000
set_option linter.all false
namespace Go.Proofs.YtgfgoaeaicefcaaGreatDoor
open Go
theorem OJ (os:Os)(tape:Tape):doorLeaves Tryz.prog 110 8 257 AD os tape=some (AD.filter λx=>x.2.handleName?.isNone,(funcsListed AD).map (·.2.funcsOut)):=by kernel_rfl
end Go.Proofs.YtgfgoaeaicefcaaGreatDoor
