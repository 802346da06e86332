/- Part GsCGroupSymmetric. -/
import Derived.Test.YthdbingomfdeoaaGreatDoorGs1
import Derived.Test.YthdbingomfdeoaaGreatDoorRows
import Derived.ProofKit
import Derived.JoinedOf
set_option maxRecDepth 100000
set_option maxHeartbeats 100000000
namespace Go.Proofs.YthdbingomfdeoaaGreatDoor.groupSymmetric
open Go
theorem closed:joinedFacts Tryz.prog 4 Tryz.f4 Rows.groupSymmetricSpec Rows.groupSymmetricRow=true:=by
 unfold joinedFacts
 repeat' (with_reducible refine Bool.and_eq_true_iff.2 ⟨?_, ?_⟩)
 all_goals as_aux_lemma=>kernel_rfl
end Go.Proofs.YthdbingomfdeoaaGreatDoor.groupSymmetric
