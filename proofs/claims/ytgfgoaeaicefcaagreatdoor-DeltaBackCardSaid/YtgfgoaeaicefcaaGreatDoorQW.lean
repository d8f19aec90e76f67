/- Part of DeltaBack. -/
import Derived.Test.YtgfgoaeaicefcaaGreatDoorQU
import Derived.Stop.Joined
import Derived.HandedShaped
set_option maxHeartbeats 16000000
set_option maxRecDepth 100000
set_option linter.all false
namespace Go.Proofs.YtgfgoaeaicefcaaGreatDoor
open Go
theorem RK:Tryz.prog.worded (varsWordLater true)=true:=by kernel_rfl
theorem Qb:Tryz.prog.worded (varsWordLater !true)=false:=by kernel_rfl
theorem Lf:Tryz.prog.worded rootWordLater=true:=by kernel_rfl
theorem RM:AD.map (λx=>Tryz.prog.kindOfLater x.1)=[LaidKind.data,.data,.data,.data,.data,.data,.sentinel,.sentinel,.data,.listed].map some:=by kernel_rfl
theorem RN:(Tryz.prog.funcNamed "gosem.cut.vars").isSome=true:=by kernel_rfl
theorem PZ:false=Rows.deltaBackRow.goesBy Tryz.pinned.checked.prog:=by kernel_rfl
end Go.Proofs.YtgfgoaeaicefcaaGreatDoor
