/- Part PqBCx1. -/
import Derived.Test.YtlbmnokpiilfpaaGreatDoorPq21

set_option linter.all false
set_option maxRecDepth 100000
set_option maxHeartbeats 100000000
namespace Go.Proofs.YtlbmnokpiilfpaaGreatDoor
open Tryz Go Go.RowKit
theorem MG:Ca prog 3 (.int .i64 0) 8:=by unfold Ca;kernel_rfl
end Go.Proofs.YtlbmnokpiilfpaaGreatDoor
