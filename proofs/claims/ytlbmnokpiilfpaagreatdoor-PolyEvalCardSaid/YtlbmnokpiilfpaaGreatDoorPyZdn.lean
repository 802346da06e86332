/- Part PyZdn. -/
import Derived.Test.YtlbmnokpiilfpaaGreatDoorPy16
import Derived.Test.YtlbmnokpiilfpaaGreatDoorPyNu6

set_option linter.all false
set_option maxRecDepth 100000
set_option maxHeartbeats 100000000
namespace Go.Proofs.YtlbmnokpiilfpaaGreatDoor
open Tryz Go Go.RowKit
variable {p q:Rat} {v v':Value} {w:World}
theorem Nw(h:q.num≠0):p/q=mkRat (((p.den:Int)*q.num).sign*(p.num*(q.den:Int))) (((p.den:Int)*q.num).natAbs):=by
 have h1:p/q=Rat.divInt (p.num*(q.den:Int)) ((p.den:Int)*q.num):=by
  rw[Rat.div_def,Rat.inv_def]
  conv=>lhs;lhs;rw[<-Rat.num_divInt_den p]
  rw[Rat.divInt_mul_divInt]
 have h3:(p.den:Int)*q.num≠0:=Int.mul_ne_zero (by have:=p.den_pos;omega) h;rw[h1];generalize (p.den:Int) * q.num=y at *
 cases y with
 | ofNat k =>
  have a:0<k:=by simp at h3;omega
  rw[jI (by simp;omega),Int.one_mul];rfl
 | negSucc k =>
  rw[jX (Int.negSucc_lt_zero k),Int.neg_one_mul];show Rat.normalize (-_) (k+1) (by simp)=_;rw[Rat.normalize_eq_mkRat];rfl
theorem Q7(h:QV w v p)(h':QV w v' q)(bp:Pl.RB 1000000 p)(bq:Pl.RB 1000000 q)(H:q.num≠0):Calls prog 117 #[v,v'] w (FL w (p/q)):=by
 have H0:=h;have R:=h';obtain⟨s,a,n,c,b,m,d,rfl,HS,hx,hy⟩:=h;obtain⟨B,t,A,z,b',m',d',rfl,a4,a3,ai⟩:=h';have a8:=qh (fun(f:World) (g:Ext w f)=>Et (H0.ext g));have aa:=qh (fun(f:World) (g:Ext w f)=>Et (R.ext g));have U:=qh (fun(f:World) (g:Ext w f)=>Fl (R.ext g) (r:=q.num.sign) rfl);have ag:(q.num.sign == 0)=false:=by rw[beq_eq_false_iff_ne];exact fun e=>H (Int.sign_eq_zero_iff_zero.1 e)
 generalize q.num.sign=aM at U ag;have S:((p.den:Int)).natAbs<P2 1000000:=by rw[pe];exact bp.2
 have T:((q.den:Int)).natAbs<P2 1000000:=by rw[pe];exact bq.2
 have up:=fun {x:Nat} (h:x<P2 1000000)=>Aj (b:=3200000) h (by omega);have mb:=fun {x y:Int} (h:x.natAbs<P2 1000000) (h':y.natAbs<P2 1000000)=>(show(x*y).natAbs<P2 (1000000+1000000) by rw[iq];exact BF h h');have a0:(p.den:Int)*q.num≠0:=Int.mul_ne_zero (by have:=p.den_pos;omega) H;have ae:=qh (fun(f:World) (g:Ext w f) (x:Value) (h1:ZR f x (q.den:Int))=>CE (v := .agg #[.bool s,.slice a n c]) ⟨s,a,n,c,rfl,HS,hx.ext g⟩ h1 (up bp.1) (up T))
 have af:=qh (fun(f:World) (g:Ext w f) (x:Value) (h1:ZR f x (p.den:Int))=>CE h1 (v' := .agg #[.bool B,.slice t A z]) ⟨B,t,A,z,rfl,a4,a3.ext g⟩ (up S) (up bq.1));have ab:=qh (fun(f:World) (x y:Value) (h1:ZR f x (p.num*(q.den:Int))) (h2:ZR f y ((p.den:Int)*q.num))=>Q8 h1 h2 (Aj (mb bp.1 T) (by omega)) (Aj (mb S bq.1) (by omega)) a0 (q:=p/q) (Nw H));clear hx hy a3 ai H0 R bp bq S T up mb a0 H
 go_enter func117,ntmps117
 go_upto_region 1 with(fail)
 refine CR ?_;intro w0 o E F a6 ak;have p0:=E.c 0 rfl;have p1:=E.c 1 rfl;have p2:=E.c 2 rfl;have p3:=E.c 3 rfl;have q0:=F.c 0 rfl;have q1:=F.c 1 rfl;have q2:=F.c 2 rfl;have q3:=F.c 3 rfl;have hR:Arr w0 (w.heap.size+2) 99 (Ah false none 0 0 false none 0 0):=a6;clear ak
 go_wp2_with fail
 refine(U.out _ o).mono ?_;rintro e w1 ⟨rfl,i⟩;replace p0:=i.cell p0;replace p1:=i.cell p1;replace p2:=i.cell p2;replace p3:=i.cell p3;replace q0:=i.cell q0;replace q1:=i.cell q1;replace q2:=i.cell q2;replace q3:=i.cell q3;replace hR:=hR.ext i;have aD:=i.size;replace o:=o.trans i;clear i U
 go_upto_region 3 with(fail)
 have D:=fun(f:World) (g:Ext w1 f)=>qh (And.intro (g.cell p0) (And.intro (g.cell p1) (And.intro (g.cell p2) (And.intro (g.cell p3) (And.intro (g.cell q0) (And.intro (g.cell q1) (And.intro (g.cell q2) (g.cell q3))))))))
 refine Ac
  [hdP w.heap.size 0,he (.agg #[.bool s,.slice a n c]),he (.agg #[.bool B,.slice t A z,.bool false,.slice b' m' d']),hp (fun v f=>ZR f v ((q.den:Int))),hp (fun v f=>ZR f v (p.num*(q.den:Int))),he (.agg #[.bool s,.slice a n c,.bool false,.slice b m d]),hp (fun v f=>ZR f v ((p.den:Int))),hdP (w.heap.size+1) 0,he (.agg #[.bool B,.slice t A z]),hp (fun v f=>ZR f v ((p.den:Int)*q.num)),hp (fun v f=>QV f v (p/q))]
  ⟨fun v w Q e h=>ZR.ext h e,fun v w Q e h=>ZR.ext h e,fun v w Q e h=>ZR.ext h e,fun v w Q e h=>ZR.ext h e,fun v w Q e h=>QV.ext h e,trivial⟩ ⟨?o0,?o1,?o2,?o3,?o4,?o5,?o6,?o7,?o8,?o9,?o10,trivial⟩ ?fin
 case o0 | o7=>exact ofa (d:=0)
 case o1 | o8=>exact ol2
 case o2 | o5=>exact ol4
 case o3 =>
  refine Ae rfl fun ρ f g C G h => ?_;have e1:_=_:=h.2.1;obtain⟨I,J,K,L,M,N,O,P⟩:=(D f g).out;refine⟨185,#[.agg #[.bool B,.slice t A z,.bool false,.slice b' m' d']],by go_simp,(aa.out f (o.trans g)).mono ?_⟩;rintro e Q ⟨B,t,A,z,rfl,j,l,k⟩;exact⟨_,rfl,j,B,t,A,z,rfl,l,k⟩
 case o4 =>
  refine Ae rfl fun ρ f g C G h => ?_;have e1:_=_:=h.2.1;obtain⟨v2,e2,s2,W,n2,Y,rfl,i2,j2⟩:=h.2.2.1;obtain⟨I,J,K,L,M,N,O,P⟩:=(D f g).out;refine⟨184,#[.agg #[.bool s,.slice a n c],.agg (Ab s2 W n2 Y).toArray],by go_simp,(ae.out f (o.trans g) _ ⟨s2,W,n2,Y,rfl,i2,j2⟩).mono ?_⟩;rintro e Q ⟨B,t,A,z,rfl,j,l,k⟩;exact⟨_,rfl,j,B,t,A,z,rfl,l,k⟩
 case o6 =>
  refine Ae rfl fun ρ f g C G h => ?_;have e1:_=_:=h.2.1;obtain⟨I,J,K,L,M,N,O,P⟩:=(D f g).out;refine⟨185,#[.agg #[.bool s,.slice a n c,.bool false,.slice b m d]],by go_simp,(a8.out f (o.trans g)).mono ?_⟩;rintro e Q ⟨B,t,A,z,rfl,j,l,k⟩;exact⟨_,rfl,j,B,t,A,z,rfl,l,k⟩
 case o9 =>
  refine Ae rfl fun ρ f g C G h => ?_;obtain⟨v1,e1,s1,V,n1,X,rfl,i1,j1⟩:=h.2.1;have e2:_=_:=h.2.2.1;obtain⟨I,J,K,L,M,N,O,P⟩:=(D f g).out;refine⟨184,#[.agg (Ab s1 V n1 X).toArray,.agg #[.bool B,.slice t A z]],by go_simp,(af.out f (o.trans g) _ ⟨s1,V,n1,X,rfl,i1,j1⟩).mono ?_⟩;rintro e Q ⟨B,t,A,z,rfl,j,l,k⟩;exact⟨_,rfl,j,B,t,A,z,rfl,l,k⟩
 case o10 =>
  refine Ae rfl fun ρ f g C G h => ?_;obtain⟨v1,e1,s1,V,n1,X,rfl,i1,j1⟩:=h.2.1;obtain⟨v2,e2,s2,W,n2,Y,rfl,i2,j2⟩:=h.2.2.1;obtain⟨I,J,K,L,M,N,O,P⟩:=(D f g).out;refine⟨151,#[.agg (Ab s1 V n1 X).toArray,.agg (Ab s2 W n2 Y).toArray],by go_simp,(ab.out f _ _ ⟨s1,V,n1,X,rfl,i1,j1⟩ ⟨s2,W,n2,Y,rfl,i2,j2⟩).mono ?_⟩;rintro e Q ⟨B,t,A,z,b',m',d',rfl,j,l,k,ad⟩;exact⟨_,rfl,j,B,t,A,z,b',m',d',rfl,l,k,ad⟩
 case fin =>
  intro f g;rintro _ ⟨aI,av,aE,az,rfl,al,ap⟩;rintro _ ⟨aJ,aw,aF,aA,rfl,am,aq⟩;rintro _ ⟨aK,ax,aG,aB,rfl,an,ar⟩;rintro _ ⟨aL,ay,aH,aC,rfl,ao,au⟩;rintro _ ⟨s9,a9,n9,c9,b9,m9,d9,rfl,a5,ah,aj⟩;change wpList _ _ _ _ _ _;simp only[A0];have Z:=hR.ext g
  go_wp2_with(refine Aa (vs:=Ah s9 a9 n9 c9 false b9 m9 d9) rfl rfl rfl rfl rfl AE Z rfl (Ag _ _ _ _ _ _ _ _) ?_;intro w9 a7 ac)
  exact oM (Ai rfl AE rfl a7) rfl (Bu (o.trans g) Z (by decide) ac (by omega) a5 ah aj)
end Go.Proofs.YtlbmnokpiilfpaaGreatDoor
