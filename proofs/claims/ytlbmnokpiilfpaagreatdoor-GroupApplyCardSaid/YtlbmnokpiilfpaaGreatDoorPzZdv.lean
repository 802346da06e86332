/- Part PzZdv. -/
import Derived.Test.YtlbmnokpiilfpaaGreatDoorPz16

set_option linter.all false
set_option maxRecDepth 100000
set_option maxHeartbeats 100000000
namespace Go.Proofs.YtlbmnokpiilfpaaGreatDoor
open Tryz Go Go.RowKit
variable {p q:Rat} {v v':Value} {w:World}
theorem il(h:0<q.num):p/q=mkRat (p.num*(q.den:Int)) (((p.den:Int)*q.num).natAbs):=by
 have h1:p/q=Rat.divInt (p.num*(q.den:Int)) ((p.den:Int)*q.num):=by
  rw[Rat.div_def,Rat.inv_def]
  conv=>lhs;lhs;rw[<-Rat.num_divInt_den p]
  rw[Rat.divInt_mul_divInt]
 have h3:0<(p.den:Int)*q.num:=Int.mul_pos (by have:=p.den_pos;omega) h;obtain⟨k,a⟩:∃ k:Nat,(p.den:Int)*q.num=k:=⟨_,(Int.toNat_of_nonneg (vk h3)).symm⟩;rw[h1,a,Rat.divInt_ofNat,pX]
theorem jX(h:QV w v p)(h':QV w v' q)(bp:Pl.RB 1000000 p)(bq:Pl.RB 1000000 q)(H:0<q.num):Calls prog 117 #[v,v'] w (OL w (p/q)):=by
 have H0:=h;have R:=h';obtain⟨s,a,n,c,b,m,d,rfl,HS,hx,hy⟩:=h;obtain⟨B,t,A,z,b',m',d',rfl,a4,a3,aj⟩:=h';have a8:=qh (fun(f:World) (g:Ext w f)=>Jv (H0.ext g));have aa:=qh (fun(f:World) (g:Ext w f)=>Jv (R.ext g));have a0:=qh (fun(f:World) (g:Ext w f)=>Md (R.ext g) (r:=1) (Int.sign_eq_one_iff_pos.2 H));have S:((p.den:Int)).natAbs<P2 1000000:=by rw[pX];exact bp.2
 have T:((q.den:Int)).natAbs<P2 1000000:=by rw[pX];exact bq.2
 have up:=fun {x:Nat} (h:x<P2 1000000)=>Af (b:=3200000) h (by omega);have mb:=fun {x y:Int} (h:x.natAbs<P2 1000000) (h':y.natAbs<P2 1000000)=>(show(x*y).natAbs<P2 (1000000+1000000) by rw[qW];exact BJ h h');have Z:0<(p.den:Int)*q.num:=Int.mul_pos (by have:=p.den_pos;omega) H;have ag:=qh (fun(f:World) (g:Ext w f) (x:Value) (h1:ZR f x (q.den:Int))=>Gb (v := .agg #[.bool s,.slice a n c]) ⟨s,a,n,c,rfl,HS,hx.ext g⟩ h1 (up bp.1) (up T))
 have ah:=qh (fun(f:World) (g:Ext w f) (x:Value) (h1:ZR f x (p.den:Int))=>Gb h1 (v' := .agg #[.bool B,.slice t A z]) ⟨B,t,A,z,rfl,a4,a3.ext g⟩ (up S) (up bq.1));have ab:=qh (fun(f:World) (x y:Value) (h1:ZR f x (p.num*(q.den:Int))) (h2:ZR f y ((p.den:Int)*q.num))=>KG h1 h2 (Af (mb bp.1 T) (by omega)) (Af (mb S bq.1) (by omega)) Z (q:=p/q) (il H));clear hx hy a3 aj H0 R bp bq S T up mb Z H
 go_enter func117,ntmps117
 go_upto_region 1 with(fail)
 refine CO ?_;intro w0 o E F a6 al;have p0:=E.c 0 rfl;have p1:=E.c 1 rfl;have p2:=E.c 2 rfl;have p3:=E.c 3 rfl;have q0:=F.c 0 rfl;have q1:=F.c 1 rfl;have q2:=F.c 2 rfl;have q3:=F.c 3 rfl;have hR:Arr w0 (w.heap.size+2) 99 (Al false none 0 0 false none 0 0):=a6;clear al
 go_wp2_with fail
 refine(a0.out _ o).mono ?_;rintro e w1 ⟨rfl,i⟩;replace p0:=i.cell p0;replace p1:=i.cell p1;replace p2:=i.cell p2;replace p3:=i.cell p3;replace q0:=i.cell q0;replace q1:=i.cell q1;replace q2:=i.cell q2;replace q3:=i.cell q3;replace hR:=hR.ext i;have b8:=i.size;replace o:=o.trans i;clear i a0
 go_upto_region 3 with(fail)
 have D:=fun(f:World) (g:Ext w1 f)=>qh (And.intro (g.cell p0) (And.intro (g.cell p1) (And.intro (g.cell p2) (And.intro (g.cell p3) (And.intro (g.cell q0) (And.intro (g.cell q1) (And.intro (g.cell q2) (g.cell q3))))))))
 refine B0
  [hdP w.heap.size 0,he (.agg #[.bool s,.slice a n c]),he (.agg #[.bool B,.slice t A z,.bool false,.slice b' m' d']),hp (fun v f=>ZR f v ((q.den:Int))),hp (fun v f=>ZR f v (p.num*(q.den:Int))),he (.agg #[.bool s,.slice a n c,.bool false,.slice b m d]),hp (fun v f=>ZR f v ((p.den:Int))),hdP (w.heap.size+1) 0,he (.agg #[.bool B,.slice t A z]),hp (fun v f=>ZR f v ((p.den:Int)*q.num)),hp (fun v f=>QV f v (p/q))]
  ⟨fun v w Q e h=>ZR.ext h e,fun v w Q e h=>ZR.ext h e,fun v w Q e h=>ZR.ext h e,fun v w Q e h=>ZR.ext h e,fun v w Q e h=>QV.ext h e,trivial⟩ ⟨?o0,?o1,?o2,?o3,?o4,?o5,?o6,?o7,?o8,?o9,?o10,trivial⟩ ?fin
 case o0 | o7=>exact ofa (d:=0)
 case o1 | o8=>exact ol2
 case o2 | o5=>exact ol4
 case o3 =>
  refine Ag rfl fun ρ f g C G h => ?_;have e1:_=_:=h.2.1;obtain⟨I,J,K,L,M,N,O,P⟩:=(D f g).out;refine⟨185,#[.agg #[.bool B,.slice t A z,.bool false,.slice b' m' d']],by go_simp,(aa.out f (o.trans g)).mono ?_⟩;rintro e Q ⟨B,t,A,z,rfl,j,l,k⟩;exact⟨_,rfl,j,B,t,A,z,rfl,l,k⟩
 case o4 =>
  refine Ag rfl fun ρ f g C G h => ?_;have e1:_=_:=h.2.1;obtain⟨v2,e2,s2,V,n2,X,rfl,i2,j2⟩:=h.2.2.1;obtain⟨I,J,K,L,M,N,O,P⟩:=(D f g).out;refine⟨184,#[.agg #[.bool s,.slice a n c],.agg (Ac s2 V n2 X).toArray],by go_simp,(ag.out f (o.trans g) _ ⟨s2,V,n2,X,rfl,i2,j2⟩).mono ?_⟩;rintro e Q ⟨B,t,A,z,rfl,j,l,k⟩;exact⟨_,rfl,j,B,t,A,z,rfl,l,k⟩
 case o6 =>
  refine Ag rfl fun ρ f g C G h => ?_;have e1:_=_:=h.2.1;obtain⟨I,J,K,L,M,N,O,P⟩:=(D f g).out;refine⟨185,#[.agg #[.bool s,.slice a n c,.bool false,.slice b m d]],by go_simp,(a8.out f (o.trans g)).mono ?_⟩;rintro e Q ⟨B,t,A,z,rfl,j,l,k⟩;exact⟨_,rfl,j,B,t,A,z,rfl,l,k⟩
 case o9 =>
  refine Ag rfl fun ρ f g C G h => ?_;obtain⟨v1,e1,s1,U,n1,W,rfl,i1,j1⟩:=h.2.1;have e2:_=_:=h.2.2.1;obtain⟨I,J,K,L,M,N,O,P⟩:=(D f g).out;refine⟨184,#[.agg (Ac s1 U n1 W).toArray,.agg #[.bool B,.slice t A z]],by go_simp,(ah.out f (o.trans g) _ ⟨s1,U,n1,W,rfl,i1,j1⟩).mono ?_⟩;rintro e Q ⟨B,t,A,z,rfl,j,l,k⟩;exact⟨_,rfl,j,B,t,A,z,rfl,l,k⟩
 case o10 =>
  refine Ag rfl fun ρ f g C G h => ?_;obtain⟨v1,e1,s1,U,n1,W,rfl,i1,j1⟩:=h.2.1;obtain⟨v2,e2,s2,V,n2,X,rfl,i2,j2⟩:=h.2.2.1;obtain⟨I,J,K,L,M,N,O,P⟩:=(D f g).out;refine⟨151,#[.agg (Ac s1 U n1 W).toArray,.agg (Ac s2 V n2 X).toArray],by go_simp,(ab.out f _ _ ⟨s1,U,n1,W,rfl,i1,j1⟩ ⟨s2,V,n2,X,rfl,i2,j2⟩).mono ?_⟩;rintro e Q ⟨B,t,A,z,b',m',d',rfl,j,l,k,ad⟩;exact⟨_,rfl,j,B,t,A,z,b',m',d',rfl,l,k,ad⟩
 case fin =>
  intro f g;rintro _ ⟨bg,b0,ba,b4,rfl,ao,av⟩;rintro _ ⟨bi,b1,bb,b5,rfl,ap,ax⟩;rintro _ ⟨bj,b2,bd,b6,rfl,aq,ay⟩;rintro _ ⟨bk,b3,bf,b7,rfl,ar,aA⟩;rintro _ ⟨s9,a9,n9,c9,b9,m9,d9,rfl,a5,ai,ak⟩;change wpList _ _ _ _ _ _;simp only[Ci];have Y:=hR.ext g
  go_wp2_with(refine Aa (vs:=Al s9 a9 n9 c9 false b9 m9 d9) rfl rfl rfl rfl rfl By Y rfl (Aq _ _ _ _ _ _ _ _) ?_;intro w9 a7 ac)
  exact py (Ap rfl By rfl a7) rfl (Fj (o.trans g) Y (by decide) ac (by omega) a5 ai ak)
end Go.Proofs.YtlbmnokpiilfpaaGreatDoor
