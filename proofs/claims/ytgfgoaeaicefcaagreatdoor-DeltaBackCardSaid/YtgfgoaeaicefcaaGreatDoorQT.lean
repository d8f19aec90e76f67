/- Part of DeltaBack. -/
import Derived.Test.YtgfgoaeaicefcaaGreatDoorQO
set_option maxHeartbeats 16000000
set_option maxRecDepth 100000
set_option linter.all false
namespace Go.Proofs.YtgfgoaeaicefcaaGreatDoor
open Go.ChangeShapes Go.WideShapes Go.ChangeAt Go.RowKit
theorem KN:joinedFacts Tryz.prog 3 Tryz.f3 Rows.deltaBackSpec Rows.deltaBackRow=true:=by unfold joinedFacts;rw[BQ,wJ,zJ,Eu];kernel_rfl
theorem Mz:Tryz.prog.funcNamed Rows.deltaBackRow.func=some 3:=by kernel_rfl
theorem Hk:Tryz.f3.isInstance Tryz.prog Rows.deltaBackRow.origin Rows.deltaBackRow.targs:=dC (by kernel_rfl)
theorem Hj:Tryz.f3.isWrapper Tryz.prog Rows.deltaBackRow.wrapper Rows.deltaBackRow.mainSum:=by unfold Func.isWrapper;first|(rw[ax (by decide+kernel)];kernel_rfl)|(rw[ap (by decide+kernel)];exact⟨rfl,rfl⟩)
end Go.Proofs.YtgfgoaeaicefcaaGreatDoor
