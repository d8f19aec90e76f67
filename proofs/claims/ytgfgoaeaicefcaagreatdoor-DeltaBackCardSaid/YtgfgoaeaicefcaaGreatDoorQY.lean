/- Part of DeltaBack. -/
import Derived.Test.YtgfgoaeaicefcaaGreatDoorQHd
import Derived.Test.YtgfgoaeaicefcaaGreatDoorRows
import Derived.HandedShaped
import Derived.ProofKit
import Derived.SevenTiedAt
import Derived.Stop.Joined
import Derived.Test.YtgfgoaeaicefcaaGreatDoorCards
set_option maxHeartbeats 16000000
set_option maxRecDepth 100000
set_option linter.all false
namespace Go.Proofs.YtgfgoaeaicefcaaGreatDoor
open Go
theorem RW:Rows.deltaBackRow.wfByText (OpenSpec.ofChange Rows.deltaBackSpec)=true:=by kernel_rfl
theorem PN:Tryz.pinned.checked.prog.mainIs=some (true, "a8f588ec4c7b0cc4e3d5b2798a71e61db599f541d1c7aa38bcdbcad979c119e4".toList):=by kernel_rfl
theorem RX:Tryz.prog.funcNamed "reach/reachlaw16.DeltaBack" =some 3:=by kernel_rfl
theorem ND:([27,27].all λu=>!Tryz.prog.wantsStandIn u)=true:=by kernel_rfl
end Go.Proofs.YtgfgoaeaicefcaaGreatDoor
