/- Part PyZne. -/
import Derived.Test.YtlbmnokpiilfpaaGreatDoorPy16
import Derived.Test.YtlbmnokpiilfpaaGreatDoorPyNu6

set_option linter.all false
set_option maxRecDepth 100000
set_option maxHeartbeats 100000000
namespace Go.Proofs.YtlbmnokpiilfpaaGreatDoor
open Tryz Go Go.RowKit
variable {q:Rat} {v:Value} {w:World}
theorem S3(h:QV w v q):Calls prog 133 #[v] w (FL w (-q)):=by
 obtain⟨s,a,n,c,b,m,d,rfl,X,S,U⟩:=h;have A:=qh (fun(f:World) (i:Ext w f)=>L9 (v := .agg #[.bool s,.slice a n c]) ⟨s,a,n,c,rfl,X,S.ext i⟩);rw[show -q.num=(-q).num from(Rat.neg_num q).symm]at A;have L:Hid ((AN (-q)).natAbs=(AN q).natAbs):=qh (by unfold AN;rw[Rat.neg_den])
 go_enter func133,ntmps133
 go_upto_region 1 with(fail)
 refine Ch ?_;intro w0 p g E K;have p0:=g.c 0 rfl;have p1:=g.c 1 rfl;have p2:=g.c 2 rfl;have p3:=g.c 3 rfl;have hR:Arr w0 (w.heap.size+1) 99 (Ah false none 0 0 false none 0 0):=E;have C:=U.ext p;rw[<-L.out]at C;clear K S U L
 refine Ac
  [hdP w.heap.size 0,he (.agg #[.bool s,.slice a n c]),hp (fun v f=>ZR f v ((-q).num)),hdP w.heap.size 2,he (.agg #[.bool false,.slice b m d]),hp (fun v f=>QV f v (-q))]
  ⟨fun v w W e h=>ZR.ext h e,fun v w W e h=>QV.ext h e,trivial⟩ ⟨?o0,?o1,?o2,?o3,?o4,?o5,trivial⟩ ?fin
 case o0=>exact ofa (d:=0)
 case o1 | o4=>exact ol2
 case o3=>exact ofa (d:=2)
 case o2 =>
  refine Ae rfl fun ρ f i Q a2 h => ?_;have P:_=_:=h.2.1;refine⟨199,#[.agg #[.bool s,.slice a n c]],by go_simp,(A.out f (p.trans i)).mono ?_⟩;rintro e W ⟨s',Y,n',c',rfl,G,J,I⟩;exact⟨_,rfl,G,s',Y,n',c',rfl,J,I⟩
 case o5 =>
  refine AR rfl fun ρ f _ i h => ?_;obtain⟨v0,e0,s1,N,V,O,rfl,i1,j1⟩:=h.1;have P:_=_:=h.2.1;refine⟨.agg (Ah s1 N V O false b m d).toArray,f,?_,Ext.refl _,s1,N,V,O,b,m,d,rfl,i1,j1,C.ext i⟩;simp only[execOp,jo,iz,jg,e0,P];kernel_rfl
 case fin =>
  intro f i;rintro _ ⟨a4,Z,a3,a0,rfl,M,T⟩;rintro _ ⟨x,j,t,l,k,r,o,rfl,y,B,D⟩;change wpList _ _ _ _ _ _;simp only[A0];have z:=hR.ext i;have R:(Ah x j t l false k r o).toArray=#[.bool x,.slice j t l,.bool false,.slice k r o]:=rfl
  go_wp2_with(refine Aa (vs:=Ah x j t l false k r o) rfl rfl rfl rfl rfl AE z rfl (Ag _ _ _ _ _ _ _ _) ?_;intro w9 F H)
  exact oM (Ai rfl AE rfl F) rfl (Bu (p.trans i) z (by decide) H (by omega) y B D)
end Go.Proofs.YtlbmnokpiilfpaaGreatDoor
