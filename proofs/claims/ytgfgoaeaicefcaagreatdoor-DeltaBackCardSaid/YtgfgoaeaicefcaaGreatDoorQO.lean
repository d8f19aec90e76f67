/- Part of DeltaBack. -/
import Derived.Test.YtgfgoaeaicefcaaGreatDoorQHd
import Derived.Test.YtgfgoaeaicefcaaGreatDoorRows
import Derived.HandedShaped
import Derived.ProofKit
import Derived.JoinedOf
import Derived.Stop.Joined
set_option maxHeartbeats 16000000
set_option maxRecDepth 100000
set_option linter.all false
namespace Go.Proofs.YtgfgoaeaicefcaaGreatDoor
open Go.ChangeShapes Go.WideShapes Go.ChangeAt Go.RowKit
theorem BQ:(Rows.deltaBackRow.inPlace==Tryz.prog.inPlace 3)=true:=by kernel_rfl
theorem wJ:(Rows.deltaBackRow.unfollowed==Tryz.prog.unfollowed 3)=true:=by kernel_rfl
theorem zJ:(Rows.deltaBackRow.recurses==Tryz.prog.recurses 3)=true:=by kernel_rfl
theorem Eu:(Rows.deltaBackRow.named==Tryz.prog.varsNamed 3)=true:=by kernel_rfl
end Go.Proofs.YtgfgoaeaicefcaaGreatDoor
