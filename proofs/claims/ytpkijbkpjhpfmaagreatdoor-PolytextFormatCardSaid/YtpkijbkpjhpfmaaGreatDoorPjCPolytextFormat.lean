/- Part PjCPolytextFormat. -/
import Derived.Test.YtpkijbkpjhpfmaaGreatDoorPj1
import Derived.Test.YtpkijbkpjhpfmaaGreatDoorRows
import Derived.ProofKit
import Derived.JoinedOf
set_option maxRecDepth 100000
set_option maxHeartbeats 100000000
namespace Go.Proofs.YtpkijbkpjhpfmaaGreatDoor.polytextFormat
open Go
theorem closed:joinedFacts Tryz.prog 5 Tryz.f5 Rows.polytextFormatSpec Rows.polytextFormatRow=true:=by
 unfold joinedFacts
 repeat' (with_reducible refine Bool.and_eq_true_iff.2 ⟨?_, ?_⟩)
 all_goals as_aux_lemma=>kernel_rfl
end Go.Proofs.YtpkijbkpjhpfmaaGreatDoor.polytextFormat
