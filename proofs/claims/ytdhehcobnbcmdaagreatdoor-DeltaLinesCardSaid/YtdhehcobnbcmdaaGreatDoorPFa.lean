/- A part of the proof of DeltaLines: Facts. -/
import Derived.Test.YtdhehcobnbcmdaaGreatDoorRows
import Derived.HandedShaped
import Derived.ProofKit
import Derived.JoinedOf
import Derived.Stop.Joined
set_option linter.all false
namespace Go.Proofs.YtdhehcobnbcmdaaGreatDoor
open Go.ChangeShapes Go.WideShapes Go.ChangeAt Go.RowKit
theorem fact_inPlace:(Rows.deltaLinesRow.inPlace == Tryz.prog.inPlace 3)=true:=by kernel_rfl
theorem fact_unfollowed:(Rows.deltaLinesRow.unfollowed == Tryz.prog.unfollowed 3)=true:=by kernel_rfl
theorem fact_recurses:(Rows.deltaLinesRow.recurses == Tryz.prog.recurses 3)=true:=by kernel_rfl
theorem fact_named:(Rows.deltaLinesRow.named == Tryz.prog.varsNamed 3)=true:=by kernel_rfl
theorem fact_all:joinedFacts Tryz.prog 3 Tryz.f3 Rows.deltaLinesSpec Rows.deltaLinesRow=true:=by
  unfold joinedFacts
  rw [fact_inPlace,fact_unfollowed,fact_recurses,fact_named]
  kernel_rfl
theorem fact_fn:Tryz.prog.funcNamed Rows.deltaLinesRow.func=some 3:=by kernel_rfl
theorem fact_inst:Tryz.f3.isInstance Tryz.prog Rows.deltaLinesRow.origin Rows.deltaLinesRow.targs:=of_decide_eq_true (by kernel_rfl)
theorem fact_wrap:Tryz.f3.isWrapper Tryz.prog Rows.deltaLinesRow.wrapper Rows.deltaLinesRow.mainSum:=by
  unfold Func.isWrapper
  first|(rw [if_pos (by decide +kernel)];kernel_rfl)|(rw [if_neg (by decide +kernel)];exact ⟨rfl,rfl⟩)
end Go.Proofs.YtdhehcobnbcmdaaGreatDoor
