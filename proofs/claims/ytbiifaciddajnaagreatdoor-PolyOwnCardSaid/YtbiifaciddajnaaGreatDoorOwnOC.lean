/- Part OwnOC. -/
import Derived.Test.YtbiifaciddajnaaGreatDoorRows
import Derived.ProofKit
import Derived.JoinedOf
set_option maxRecDepth 100000
set_option maxHeartbeats 100000000
namespace Go.Proofs.YtbiifaciddajnaaGreatDoor.polyOwn
open Go
theorem closed:joinedFacts Tryz.prog 10 Tryz.f10 Rows.polyOwnSpec Rows.polyOwnRow=true:=by
 unfold joinedFacts
 repeat' (with_reducible refine Bool.and_eq_true_iff.2 ⟨?_, ?_⟩)
 all_goals as_aux_lemma=>kernel_rfl
end Go.Proofs.YtbiifaciddajnaaGreatDoor.polyOwn
