/- Part PyRgc. -/
import Derived.Test.YtlbmnokpiilfpaaGreatDoorPy16
import Derived.Test.YtlbmnokpiilfpaaGreatDoorPyNu6

set_option linter.all false
set_option maxRecDepth 100000
set_option maxHeartbeats 100000000
namespace Go.Proofs.YtlbmnokpiilfpaaGreatDoor
open Tryz Go Go.RowKit
variable {o:Oper} {p q:Rat} {v v':Value} {w:World}
def rgc(p q:Rat):Rat:=mkRat ((Int.gcd (p.num*(q.den:Int)) (q.num*(p.den:Int)):Nat):Int) (p.den*q.den)
def AlZ(w0:World)(v:Value)(w:World):Prop:=∃ g,v = .pointer (some ⟨g,0,none⟩)/\w0.heap.size<=g/\Arr w g 97 (Ab false none 0 0)
theorem AlZ.x(w0:World):∀ (v:Value) (w a:World),Ext w a->AlZ w0 v w->AlZ w0 v a:=fun _ _ _ e ⟨g,h1,h2,h3⟩=>⟨g,h1,h2,h3.ext e⟩
theorem OO(a:o.op = .alloc 97)(b:Operand->Value)(w:World):(execOp b o).run prog w = .ok (.value (.pointer (some ⟨w.heap.size,0,none⟩))) (w.alloc (.cells (Ab false none 0 0).toArray 97)):=by
 simp only[execOp,a];kernel_rfl
theorem PV(h:QV w v q):Calls prog 235 #[v] w (Jk w (q.den:Int)):=by
 have z:=h;obtain⟨s,a,n,c,b,m,d,rfl,J,D,E⟩:=h;have r:=qh (fun(I:World) (A:Ext w I)=>Et (z.ext A));clear z D E
 go_enter func235,ntmps235
 go_upto_region 1 with(fail)
 refine Ch ?_;intro H g f o x;have K:=f.c 0 rfl;have L:=f.c 1 rfl;have M:=f.c 2 rfl;have N:=f.c 3 rfl;have B:Arr H (w.heap.size+1) 97 (Ab false none 0 0):=o;clear x
 go_wp2_with fail
 refine(r.out _ g).mono ?_;rintro e O ⟨s1,k,y,l,rfl,i,F,G⟩;have j:=B.ext i;have C:(Ab s1 k y l).toArray=#[.bool s1,.slice k y l]:=rfl
 go_wp2_with(refine Aa (vs:=Ab s1 k y l) rfl rfl rfl rfl rfl AH j rfl (Ad _ _ _ _) ?_;intro P p t)
 exact oM (Ai rfl AH rfl p) rfl (CD (g.trans i) j (by decide) t (by omega) F G)
theorem Q6(h:QV w v p)(h':QV w v' q)(bp:Pl.RB 1000000 p)(bq:Pl.RB 1000000 q):Calls prog 197 #[v,v'] w (FL w (rgc p q)):=by
 have H0:=h;have ac:=h';obtain⟨s,a,n,c,b,m,d,rfl,HS,hx,hy⟩:=h;obtain⟨z,l,t,o,b',m',d',rfl,ax,am,aO⟩:=h';have ah:=qh (fun(f:World) (g:Ext w f)=>PV (H0.ext g));have ai:=qh (fun(f:World) (g:Ext w f)=>PV (ac.ext g));have V:((p.den:Int)).natAbs<P2 1000000:=by rw[pe];exact bp.2
 have W:((q.den:Int)).natAbs<P2 1000000:=by rw[pe];exact bq.2
 have up:=fun {x:Nat} (h:x<P2 1000000)=>Aj (b:=3200000) h (by omega);have mb:=fun {x y:Int} (h:x.natAbs<P2 1000000) (h':y.natAbs<P2 1000000)=>(show(x*y).natAbs<P2 (1000000+1000000) by rw[iq];exact BF h h');have ag:0<(p.den:Int)*(q.den:Int):=Int.mul_pos (by have:=p.den_pos;omega) (by have:=q.den_pos;omega);have af:((p.den:Int)*(q.den:Int)).natAbs=p.den*q.den:=by rw[iq,pe,pe]
 have ak:=qh (fun(f:World) (g:Ext w f) (x:Value) (h1:ZR f x (q.den:Int))=>CE (v := .agg #[.bool s,.slice a n c]) ⟨s,a,n,c,rfl,HS,hx.ext g⟩ h1 (up bp.1) (up W));have al:=qh (fun(f:World) (g:Ext w f) (x:Value) (h1:ZR f x (p.den:Int))=>CE (v := .agg #[.bool z,.slice l t o]) ⟨z,l,t,o,rfl,ax,am.ext g⟩ h1 (up bq.1) (up V));have aM:=qh (fun(f:World) (x y:Value) (h1:ZR f x (p.den:Int)) (h2:ZR f y (q.den:Int))=>CE h1 h2 (up V) (up W))
 have a7:=qh (fun(f:World) (x y:Value) (h1:ZR f x (p.num*(q.den:Int))) (h2:ZR f y (q.num*(p.den:Int)))=>LC h1 h2 (Aj (mb bp.1 W) (by omega)) (Aj (mb bq.1 V) (by omega)));obtain⟨G,hG⟩:∃ G,Int.gcd (p.num*(q.den:Int)) (q.num*(p.den:Int))=G:=⟨_,rfl⟩;have ad:((G:Nat):Int).natAbs<P2 3200000:=by
  rw[<-hG,pe];by_cases h0:p.num*(q.den:Int)=0
  · rw[h0,Int.gcd_zero_left];exact Aj (mb bq.1 V) (by omega)
  · exact oR (Nat.gcd_le_left _ (by omega)) (Aj (mb bp.1 W) (by omega))
 have aI:=qh (fun(f:World) (x y:Value) (h1:ZR f x ((G:Nat):Int)) (h2:ZR f y ((p.den:Int)*(q.den:Int)))=>Gf h1 h2 ad (Aj (mb V W) (by omega)) ag (q:=rgc p q) (by unfold rgc;rw[af,hG]));rw[hG]at a7;clear hx hy am aO H0 ac bp bq V W up mb ag af hG ad
 go_enter func197,ntmps197
 go_upto_region 1 with(fail)
 refine CR ?_;intro w0 B a3 a4 X aQ;have p0:=a3.c 0 rfl;have p1:=a3.c 1 rfl;have p2:=a3.c 2 rfl;have p3:=a3.c 3 rfl;have q0:=a4.c 0 rfl;have q1:=a4.c 1 rfl;have q2:=a4.c 2 rfl;have q3:=a4.c 3 rfl;have hR:Arr w0 (w.heap.size+2) 99 (Ah false none 0 0 false none 0 0):=X;clear aQ;have Z:=fun(f:World) (g:Ext w0 f)=>qh (And.intro (g.cell p0) (And.intro (g.cell p1) (And.intro (g.cell p2) (And.intro (g.cell p3) (And.intro (g.cell q0) (And.intro (g.cell q1) (And.intro (g.cell q2) (g.cell q3))))))))
 refine Ac
  [hdP w.heap.size 0,he (.agg #[.bool s,.slice a n c]),he (.agg #[.bool z,.slice l t o,.bool false,.slice b' m' d']),hp (fun v f=>ZR f v ((q.den:Int))),hp (fun v f=>ZR f v (p.num*(q.den:Int))),hdP (w.heap.size+1) 0,he (.agg #[.bool z,.slice l t o]),he (.agg #[.bool s,.slice a n c,.bool false,.slice b m d]),hp (fun v f=>ZR f v ((p.den:Int))),hp (fun v f=>ZR f v (q.num*(p.den:Int))),hp (fun v f=>ZR f v (((G:Nat):Int))),hp (fun v f=>AlZ w0 v f)]
  ⟨fun v w M e h=>ZR.ext h e,fun v w M e h=>ZR.ext h e,fun v w M e h=>ZR.ext h e,fun v w M e h=>ZR.ext h e,fun v w M e h=>ZR.ext h e,AlZ.x _,trivial⟩ ⟨?o0,?o1,?o2,?o3,?o4,?o5,?o6,?o7,?o8,?o9,?o10,?o11,trivial⟩ ?fin
 case o0 | o5=>exact ofa (d:=0)
 case o1 | o6=>exact ol2
 case o2 | o7=>exact ol4
 case o3 =>
  refine Ae rfl fun ρ f g r C h => ?_;have e1:_=_:=h.2.1;obtain⟨D,E,F,H,I,J,K,L⟩:=(Z f g).out;refine⟨235,#[.agg #[.bool z,.slice l t o,.bool false,.slice b' m' d']],by go_simp,(ai.out f (B.trans g)).mono ?_⟩;rintro e M ⟨z,l,t,o,rfl,i,k,j⟩;exact⟨_,rfl,i,z,l,t,o,rfl,k,j⟩
 case o4 =>
  refine Ae rfl fun ρ f g r C h => ?_;have e1:_=_:=h.2.1;obtain⟨v2,e2,U,R,T,S,rfl,i2,j2⟩:=h.2.2.1;obtain⟨D,E,F,H,I,J,K,L⟩:=(Z f g).out;refine⟨184,#[.agg #[.bool s,.slice a n c],.agg (Ab U R T S).toArray],by go_simp,(ak.out f (B.trans g) _ ⟨U,R,T,S,rfl,i2,j2⟩).mono ?_⟩;rintro e M ⟨z,l,t,o,rfl,i,k,j⟩;exact⟨_,rfl,i,z,l,t,o,rfl,k,j⟩
 case o8 =>
  refine Ae rfl fun ρ f g r C h => ?_;have e1:_=_:=h.2.1;obtain⟨D,E,F,H,I,J,K,L⟩:=(Z f g).out;refine⟨235,#[.agg #[.bool s,.slice a n c,.bool false,.slice b m d]],by go_simp,(ah.out f (B.trans g)).mono ?_⟩;rintro e M ⟨z,l,t,o,rfl,i,k,j⟩;exact⟨_,rfl,i,z,l,t,o,rfl,k,j⟩
 case o9 =>
  refine Ae rfl fun ρ f g r C h => ?_;have e1:_=_:=h.2.1;obtain⟨v2,e2,U,R,T,S,rfl,i2,j2⟩:=h.2.2.1;obtain⟨D,E,F,H,I,J,K,L⟩:=(Z f g).out;refine⟨184,#[.agg #[.bool z,.slice l t o],.agg (Ab U R T S).toArray],by go_simp,(al.out f (B.trans g) _ ⟨U,R,T,S,rfl,i2,j2⟩).mono ?_⟩;rintro e M ⟨z,l,t,o,rfl,i,k,j⟩;exact⟨_,rfl,i,z,l,t,o,rfl,k,j⟩
 case o10 =>
  refine Ae rfl fun ρ f g r C h => ?_;obtain⟨v1,e1,s1,a1,n1,c1,rfl,i1,j1⟩:=h.2.1;obtain⟨v2,e2,U,R,T,S,rfl,i2,j2⟩:=h.2.2.1;obtain⟨D,E,F,H,I,J,K,L⟩:=(Z f g).out;refine⟨213,#[.agg (Ab s1 a1 n1 c1).toArray,.agg (Ab U R T S).toArray],by go_simp,(a7.out f _ _ ⟨s1,a1,n1,c1,rfl,i1,j1⟩ ⟨U,R,T,S,rfl,i2,j2⟩).mono ?_⟩;rintro e M ⟨z,l,t,o,rfl,i,k,j⟩;exact⟨_,rfl,i,z,l,t,o,rfl,k,j⟩
 case o11 =>
  exact AR rfl fun ρ f _ g _=>⟨_,_,OO rfl ρ f,(Ext.refl f).alloc _,f.heap.size,rfl,g.size,Arr.new f _ _⟩
 case fin =>
  intro f g;rintro _ ⟨aU,aB,aR,aE,rfl,ao,au⟩;rintro _ ⟨aV,aC,aS,aF,rfl,ap,av⟩;rintro _ ⟨aW,aD,aT,aG,rfl,aq,aw⟩;rintro _ ⟨b3,b0,b2,b1,rfl,aX,aZ⟩;rintro _ ⟨Q,N,P,O,rfl,ar,ab⟩;rintro _ ⟨Y,rfl,aj,a5⟩;change wpList _ _ _ _ _ _;simp only[A0];have aY:(Ab Q N P O).toArray=#[.bool Q,.slice N P O]:=rfl
  go_upto_region 2 with(refine Aa (vs:=Ab Q N P O) rfl rfl rfl rfl rfl AH a5 rfl (Ad _ _ _ _) ?_;intro w2 X a6)
  have aJ:Arr w2 Y 97 (Ab Q N P O):=X;have an:=ab.keptA a5 (by decide) a6;have A:Ext w0 w2:=g.grownR a6 aj;have g0:=X.c 0 rfl;have g1:=X.c 1 rfl;replace p0:=A.cell p0;replace p1:=A.cell p1;replace p2:=A.cell p2;replace p3:=A.cell p3;replace q0:=A.cell q0;replace q1:=A.cell q1;replace q2:=A.cell q2;replace q3:=A.cell q3;replace hR:=hR.ext A;replace B:=B.trans A;have aA:=qh an;have ay:=ar;clear g a5 a6 X A an ab ak al a7 aJ aj
  have a0:=fun(f:World) (g:Ext w2 f)=>qh (And.intro (g.cell p0) (And.intro (g.cell p1) (And.intro (g.cell p2) (And.intro (g.cell p3) (And.intro (g.cell q0) (And.intro (g.cell q1) (And.intro (g.cell q2) (And.intro (g.cell q3) (And.intro (g.cell g0) (g.cell g1))))))))))
  refine Ac
   [he (.agg #[.bool Q,.slice N P O]),he (.agg #[.bool s,.slice a n c,.bool false,.slice b m d]),hp (fun v f=>ZR f v ((p.den:Int))),he (.agg #[.bool z,.slice l t o,.bool false,.slice b' m' d']),hp (fun v f=>ZR f v ((q.den:Int))),hp (fun v f=>ZR f v ((p.den:Int)*(q.den:Int))),hp (fun v f=>QV f v (rgc p q))]
   ⟨fun v w M e h=>ZR.ext h e,fun v w M e h=>ZR.ext h e,fun v w M e h=>ZR.ext h e,fun v w M e h=>QV.ext h e,trivial⟩ ⟨?o0,?o1,?o2,?o3,?o4,?o5,?o6,trivial⟩ ?fin
  case o0=>exact ol2
  case o1 | o3=>exact ol4
  case o2 =>
   refine Ae rfl fun ρ f g r C h => ?_;have e1:_=_:=h.2.1;obtain⟨D,E,F,H,I,J,K,L,a8,aa⟩:=(a0 f g).out;refine⟨235,#[.agg #[.bool s,.slice a n c,.bool false,.slice b m d]],by go_simp,(ah.out f (B.trans g)).mono ?_⟩;rintro e M ⟨z,l,t,o,rfl,i,k,j⟩;exact⟨_,rfl,i,z,l,t,o,rfl,k,j⟩
  case o4 =>
   refine Ae rfl fun ρ f g r C h => ?_;have e1:_=_:=h.2.1;obtain⟨D,E,F,H,I,J,K,L,a8,aa⟩:=(a0 f g).out;refine⟨235,#[.agg #[.bool z,.slice l t o,.bool false,.slice b' m' d']],by go_simp,(ai.out f (B.trans g)).mono ?_⟩;rintro e M ⟨z,l,t,o,rfl,i,k,j⟩;exact⟨_,rfl,i,z,l,t,o,rfl,k,j⟩
  case o5 =>
   refine Ae rfl fun ρ f g r C h => ?_;obtain⟨v1,e1,s1,a1,n1,c1,rfl,i1,j1⟩:=h.2.1;obtain⟨v2,e2,U,R,T,S,rfl,i2,j2⟩:=h.2.2.1;obtain⟨D,E,F,H,I,J,K,L,a8,aa⟩:=(a0 f g).out;refine⟨184,#[.agg (Ab s1 a1 n1 c1).toArray,.agg (Ab U R T S).toArray],by go_simp,(aM.out f _ _ ⟨s1,a1,n1,c1,rfl,i1,j1⟩ ⟨U,R,T,S,rfl,i2,j2⟩).mono ?_⟩;rintro e M ⟨z,l,t,o,rfl,i,k,j⟩;exact⟨_,rfl,i,z,l,t,o,rfl,k,j⟩
  case o6 =>
   refine Ae rfl fun ρ f g r C h => ?_;have e1:_=_:=h.2.1;obtain⟨v2,e2,U,R,T,S,rfl,i2,j2⟩:=h.2.2.1;obtain⟨D,E,F,H,I,J,K,L,a8,aa⟩:=(a0 f g).out;refine⟨151,#[.agg #[.bool Q,.slice N P O],.agg (Ab U R T S).toArray],by go_simp,(aI.out f _ _ ⟨Q,N,P,O,rfl,ay,aA.out.ext g⟩ ⟨U,R,T,S,rfl,i2,j2⟩).mono ?_⟩;rintro e M ⟨z,l,t,o,b',m',d',rfl,i,k,j,aL⟩;exact⟨_,rfl,i,z,l,t,o,b',m',d',rfl,k,j,aL⟩
  case fin =>
   intro f g;rintro _ ⟨aU,aB,aR,aE,rfl,ao,au⟩;rintro _ ⟨aV,aC,aS,aF,rfl,ap,av⟩;rintro _ ⟨aW,aD,aT,aG,rfl,aq,aw⟩;rintro _ ⟨s9,a9,n9,c9,b9,m9,d9,rfl,az,aN,aP⟩;change wpList _ _ _ _ _ _;simp only[A0];have ae:=hR.ext g
   go_wp2_with(refine Aa (vs:=Ah s9 a9 n9 c9 false b9 m9 d9) rfl rfl rfl rfl rfl AE ae rfl (Ag _ _ _ _ _ _ _ _) ?_;intro w9 aH aK)
   exact oM (Ai rfl AE rfl aH) rfl (Bu (B.trans g) ae (by decide) aK (by omega) az aN aP)
end Go.Proofs.YtlbmnokpiilfpaaGreatDoor
