/- A part of the proof of RunParses: Net. -/
import Derived.Test.YtjokciofeicdkaaGreatDoorPB
set_option maxHeartbeats 16000000
set_option maxRecDepth 100000
set_option linter.all false
namespace Go.Proofs.YtjokciofeicdkaaGreatDoor
open Go.RowKit
theorem ba_beq (a b:ByteArray):(a.toList == b.toList)=decide (a=b):=by
 rw [Bool.eq_iff_iff,beq_iff_eq,decide_eq_true_eq,ByteArray.toList_eq,ByteArray.toList_eq];exact ⟨fun h=>WideShapes.bytes_inj h,fun h=>by rw [h]⟩
end Go.Proofs.YtjokciofeicdkaaGreatDoor
