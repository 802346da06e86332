/- Part PqACx1. -/
import Derived.Test.YtlbmnokpiilfpaaGreatDoorPqACDx1
import Derived.Test.YtlbmnokpiilfpaaGreatDoorPqABCx1

set_option linter.all false
set_option maxRecDepth 100000
set_option maxHeartbeats 100000000
namespace Go.Proofs.YtlbmnokpiilfpaaGreatDoor
open Go Go.RowKit
variable {v vars:Int} {k:Nat}
theorem Eu{ts:List Tx}{l:List Pl.Tm}(h:rdP vars ts=some l)(c:∀ t∈ts,t.1.length<=k):∀ t∈l,Pl.RB (4*k) t.2:=by
 intro m a;obtain⟨t,d,b⟩:=F7 h a;have h1:=Cp (Bm b).1;exact Ko (by rw[<-h1];exact c t d)
theorem SV{p q:List Pl.Tm}(h:∀ e,Pl.coef p e=Pl.coef q e):cnP p=cnP q:=by
 unfold cnP;simp only[h]
theorem Fr{p q:List Pl.Tm}(h:∀ e,Pl.coef p e=Pl.coef q e):resQ v p=resQ v q:=by
 unfold resQ;rw[SV h]
end Go.Proofs.YtlbmnokpiilfpaaGreatDoor
