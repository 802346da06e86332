/- Part PyCPolyEval. -/
import Derived.Test.YtlbmnokpiilfpaaGreatDoorRows
import Derived.ProofKit
import Derived.JoinedOf
set_option maxRecDepth 100000
set_option maxHeartbeats 100000000
namespace Go.Proofs.YtlbmnokpiilfpaaGreatDoor.polyEval
open Go
theorem closed:joinedFacts Tryz.prog 9 Tryz.f9 Rows.polyEvalSpec Rows.polyEvalRow=true:=by
 unfold joinedFacts
 repeat' (with_reducible refine Bool.and_eq_true_iff.2 ⟨?_, ?_⟩)
 all_goals as_aux_lemma=>kernel_rfl
end Go.Proofs.YtlbmnokpiilfpaaGreatDoor.polyEval
