/- Part Py8. -/
import Derived.Test.YtlbmnokpiilfpaaGreatDoorPy7

set_option linter.all false
set_option maxRecDepth 100000
set_option maxHeartbeats 100000000
namespace Go.Proofs.YtlbmnokpiilfpaaGreatDoor
open Tryz Go Go.RowKit
def gX:=@decide_eq_true
def nV:=@Nat.gcd_le_right
variable {k:Nat} {p q:Rat} {v v':Value} {w:World}
theorem H9(hT:AV w)(h:BL w v p)(h':BL w v' q)(b1:p.num.natAbs<P2 2400)(b2:p.den<P2 2400)(b3:q.num.natAbs<P2 2400)(b4:q.den<P2 2400)(av:p≠0)(ax:q≠0)(hd:p.den≠1\/q.den≠1):Calls prog 85 #[v,v'] w (Fb w (p*q)):=by
 have aT:=fun(f:World) (j:Ext w f)=>qh (GC (h.ext j));have aU:=fun(f:World) (j:Ext w f)=>qh (GC (h'.ext j));obtain⟨_,rfl,s,a,n,c,b,m,d,rfl,HS,hx,hy⟩:=h;obtain⟨_,rfl,J,F,I,G,b',m',d',rfl,aj,ay,bo⟩:=h';have aD:=fun(f:World) (j:Ext w f)=>qh (Az (r:=false) (AG HS (hx.ext j)) (pb (mt Pl.rat_num_den_zero.1 av)));have aE:=fun(f:World) (j:Ext w f)=>qh (Az (r:=false) (AG aj (ay.ext j)) (pb (mt Pl.rat_num_den_zero.1 ax)))
 have aF:=fun(f:World) (j:Ext w f)=>qh (Az (r:=decide (AN p=0)) (A3 (hy.ext j)) rfl);have ag:=fun(f:World) (j:Ext w f)=>qh (Az (r:=decide (AN q=0)) (A3 (bo.ext j)) rfl);have aR:=fun(f:World) (j:Ext w f) (dv:Value) (af:AD f dv (q.den:Int))=>qh (JV (hT.ext j) (AG HS (hx.ext j)) af (Aj b1 (by omega)) (Aj b4 (by omega)) q.den_nz);have aS:=fun(f:World) (j:Ext w f) (dv:Value) (af:AD f dv (p.den:Int))=>qh (JV (hT.ext j) (AG aj (ay.ext j)) af (Aj b3 (by omega)) (Aj b2 (by omega)) p.den_nz)
 obtain⟨ar,au⟩:=Pl.rat_mul_parts p q;have H:(p.num.tdiv ((Nat.gcd p.num.natAbs q.den:Nat):Int)).natAbs<P2 2400:=by rw[om];exact oR (gM _ _) b1
 have N:(q.num.tdiv ((Nat.gcd q.num.natAbs p.den:Nat):Int)).natAbs<P2 2400:=by rw[om];exact oR (gM _ _) b3
 have e3:(((q.den/Nat.gcd p.num.natAbs q.den:Nat):Int)).natAbs<P2 2400:=oR (gM _ _) b4;have e4:(((p.den/Nat.gcd q.num.natAbs p.den:Nat):Int)).natAbs<P2 2400:=oR (gM _ _) b2;have ah:=fun(f:World) (x1 x2:Value) (h1:AD f x1 (p.num.tdiv ((Nat.gcd p.num.natAbs q.den:Nat):Int))) (h2:AD f x2 (q.num.tdiv ((Nat.gcd q.num.natAbs p.den:Nat):Int)))=>qh (Ci h1 h2 (Aj H (by omega)) (Aj N (by omega)) (Or.inl (Aj H (by omega))))
 have ai:=fun(f:World) (x1 x2:Value) (h1:AD f x1 ((p.den/Nat.gcd q.num.natAbs p.den:Nat):Int)) (h2:AD f x2 ((q.den/Nat.gcd p.num.natAbs q.den:Nat):Int))=>qh (Ci h1 h2 (Aj e4 (by omega)) (Aj e3 (by omega)) (Or.inl (Aj e4 (by omega))));rw[<-gH,<-au]at ai;rw[<-ar]at ah;have ab:(decide (AN p=0) && decide (AN q=0))=false:=by
  rcases hd with h|h
  · rw[pb (mt AA.1 h)];rfl
  · rw[pb (mt AA.1 h),Bool.and_false]
 clear b1 b2 b3 b4 av ax hd ar au H N e3 e4
 go_enter func85,ntmps85
 go_upto_region 1 with(fail)
 refine CR ?_;intro w0 V a3 a4 b5 bq;have p0:=a3.c 0 rfl;have p1:=a3.c 1 rfl;have p2:=a3.c 2 rfl;have p3:=a3.c 3 rfl;have q0:=a4.c 0 rfl;have q1:=a4.c 1 rfl;have q2:=a4.c 2 rfl;have q3:=a4.c 3 rfl;have hR:Arr w0 (w.heap.size+2) 85 (Ah false none 0 0 false none 0 0):=b5;clear bq
 go_wp2_with fail
 refine(aD _ V).out.mono ?_;rintro e w1 ⟨rfl,aa⟩;have r0:=aa.cell q0;have r1:=aa.cell q1
 go_wp2_with fail
 refine(aE _ (V.trans aa)).out.mono ?_;rintro e w2 ⟨rfl,ba⟩;have M:=aa.trans ba;have t2:=M.cell p2;have t3:=M.cell p3;clear r0 r1
 go_wp2_with fail
 refine(aF _ (V.trans M)).out.mono ?_;rintro e w3 ⟨rfl,bb⟩;have E:=M.trans bb;clear t2 t3;have aq:∃ w4:World,True:=⟨w3,trivial⟩;by_cases ac:decide (AN p=0)=true
 case' pos =>
  rw[ac]at ab |-;have t2:=E.cell q2;have t3:=E.cell q3;have ap:decide (AN q=0)=false:=by simpa using ab
  rw[ap]at ag;clear ac ap ab aq
  go_wp2_with fail
  refine(ag _ (V.trans E)).out.mono ?_;rintro e w4 ⟨rfl,bc⟩;have t:=E.trans bc;clear t2 t3
 case' neg =>
  have aw:decide (AN p=0)=false:=by simpa using ac
  rw[aw];obtain⟨w4,bm⟩:∃ w4,w4=w3:=⟨_,rfl⟩;subst bm;have t:=E;clear ac aw ab aq
 all_goals
  have r0:=t.cell p0;have r1:=t.cell p1;have r2:=t.cell p2;have r3:=t.cell p3;have u0:=t.cell q0;have u1:=t.cell q1;have u2:=t.cell q2;have u3:=t.cell q3;have ae:=V.trans t;have bf:=hR.ext t;clear p0 p1 p2 p3 q0 q1 q2 q3 aD aE aF ag;go_wp2;have P:=fun(f:World) (j:Ext w4 f)=>qh (And.intro (j.cell r0) (And.intro (j.cell r1) (And.intro (j.cell r2) (And.intro (j.cell r3) (And.intro (j.cell u0) (And.intro (j.cell u1) (And.intro (j.cell u2) (j.cell u3))))))))
  refine Dt (by kernel_rfl) (fun f=>Ext w4 f)
   [he (.pointer (some ⟨w.heap.size,0,none⟩)),
 he (.agg #[.bool s,.slice a n c]),
 he (.agg #[.bool J,.slice F I G,.bool false,.slice b' m' d']),
 hp (fun v f=>NI ((q.den:Int)) v f),
 hp (fun v f=>NII (p.num.tdiv ((Nat.gcd p.num.natAbs q.den:Nat):Int)) (((q.den/Nat.gcd p.num.natAbs q.den:Nat):Int)) v f),
 hp (fun v f=>NII (p.num.tdiv ((Nat.gcd p.num.natAbs q.den:Nat):Int)) (((q.den/Nat.gcd p.num.natAbs q.den:Nat):Int)) v f),
 hp (fun v f=>NI (p.num.tdiv ((Nat.gcd p.num.natAbs q.den:Nat):Int)) v f),
 hp (fun v f=>NI (((q.den/Nat.gcd p.num.natAbs q.den:Nat):Int)) v f),
 hp (NP w4.heap.size),
 hp (NP w4.heap.size),
 hmp (fun _ _=>True)]
   (by kernel_rfl) (fun _ _ e h=>h.trans e) ((Ext.refl w4).drew) ⟨trivial,trivial,trivial,NI.x _,NII.x _ _,NII.x _ _,NI.x _,NI.x _,NP.x _,NP.x _,NT.x,trivial⟩ ⟨?o0,?o1,?o2,?o3,?o4,?o5,?o6,?o7,?o8,?o9,?o10,trivial⟩ 8 9 10 6 83 (Ab false none 0 0) ⟨by simp,by simp,by simp,by simp⟩ (by omega) ?hk ?hs1 ?hp1 ?hnm Ak ?hj1 ?fin
  case o0=>exact ofa (d:=0)
  case o1=>exact ol2
  case o2=>exact ol4
  case o3 =>
   refine Ae rfl fun C f j l B h => ?_;have H:_=_:=h.2.1;obtain⟨k0,k1,k2,k3,k4,k5,k6,k7⟩:=(P f j).out;refine⟨165,#[.agg #[.bool J,.slice F I G,.bool false,.slice b' m' d']],by go_simp,((aU f (ae.trans j)).out).mono ?_⟩;rintro e w' ⟨J,F,I,G,rfl,y,L,K⟩;exact⟨_,rfl,y,J,F,I,G,rfl,L,K⟩
  case o4 =>
   refine Ae rfl fun C f j l B h => ?_;have H:_=_:=h.2.1;obtain⟨v2,N,s2,a2,n2,c2,rfl,i2,j2⟩:=h.2.2.1;obtain⟨k0,k1,k2,k3,k4,k5,k6,k7⟩:=(P f j).out;refine⟨164,#[.agg #[.bool s,.slice a n c],.agg (Ab s2 a2 n2 c2).toArray],by go_simp,((aR f (ae.trans j) _ ⟨s2,a2,n2,c2,rfl,i2,j2⟩).out).mono ?_⟩;rintro e w' ⟨J,F,I,G,t',b',m',d',rfl,y,h1,h2⟩;exact⟨_,rfl,y,J,F,I,G,t',b',m',d',rfl,h1,h2⟩
  case o5 =>
   refine AR rfl ?_;intro C f hp j h;have l:=hp.const;have B:=hp.func;obtain⟨v0,e0,s0,a0,n0,c0,t0,b0,m0,d0,rfl,Z,j0⟩:=h.1;obtain⟨k0,k1,k2,k3,k4,k5,k6,k7⟩:=(P f j).out;exact⟨_,f,by go_simp,Ext.refl _,s0,a0,n0,c0,t0,b0,m0,d0,rfl,Z,j0⟩
  case o6 =>
   refine AR rfl ?_;intro C f hp j h;have l:=hp.const;have B:=hp.func;obtain⟨v0,e0,s0,a0,n0,c0,t0,b0,m0,d0,rfl,Z,j0⟩:=h.1;obtain⟨k0,k1,k2,k3,k4,k5,k6,k7⟩:=(P f j).out;exact⟨_,f,by go_simp,Ext.refl _,s0,a0,n0,c0,rfl,Z.1,Z.2⟩
  case o7 =>
   refine AR rfl ?_;intro C f hp j h;have l:=hp.const;have B:=hp.func;obtain⟨v0,e0,s0,a0,n0,c0,t0,b0,m0,d0,rfl,Z,j0⟩:=h.1;obtain⟨k0,k1,k2,k3,k4,k5,k6,k7⟩:=(P f j).out;exact⟨_,f,by go_simp,Ext.refl _,t0,b0,m0,d0,rfl,j0.1,j0.2⟩
  case o8 =>
   exact Cq rfl rfl (fun _ h=>h.size)
  case o9 =>
   exact Cq rfl rfl (fun _ h=>h.size)
  case o10 =>
   exact FW (base:=w4.heap.size) (z:=p.num.tdiv ((Nat.gcd p.num.natAbs q.den:Nat):Int)) rfl rfl ⟨trivial,trivial,trivial,NI.i _,NII.i _ _,NII.i _ _,NI.i _,NI.i _,NP.i _,NP.i _,NT.i,trivial⟩ (fun w w' g h hb hg=>h.grownR hg hb) (fun C w _ _ h=>⟨h.1,h.2.1⟩)
  case hk =>
   rintro k (rfl|rfl) o ho
   · cases ho;exact⟨rfl,rfl,fun C f=>Cp rfl C f⟩
   · cases ho;exact⟨rfl,rfl,fun C f=>Cp rfl C f⟩
  case hs1 =>
   intro o ho;cases ho;exact⟨rfl,rfl,_,_,rfl,rfl,rfl⟩
  case hp1=>exact⟨ja.1 (by kernel_rfl),ja.1 (by kernel_rfl)⟩
  case hnm =>
   intro i hi A;simp only[io,lu]at hi
   match i,hi,A with
   | 0,_,_=>rfl
   | 1,_,_=>rfl
   | 2,_,_=>rfl
   | 3,_,_=>rfl
   | 4,_,_=>rfl
   | 5,_,_=>rfl
   | 6,_,_=>rfl
   | 7,_,_=>rfl
   | 8,_,_=>rfl
   | 9,_,_=>rfl
   | 10,_,A=>exact absurd rfl A
  case hj1 =>
   refine⟨rfl,fun v w h => ?_⟩;obtain⟨s,a,n,c,rfl,_,_⟩:=h;exact⟨Ab s a n c,rfl,rfl,Ad _ _ _ _⟩
  case fin =>
   intro f j;rintro _ ⟨bZ,bI,bV,bM,rfl,bA,bE⟩;rintro _ ⟨_,_,_,_,_,_,_,_,rfl,_,_⟩;rintro _ ⟨_,_,_,_,_,_,_,_,rfl,_,_⟩;rintro _ ⟨s5,a5,n5,c5,rfl,aV,az⟩;rintro _ ⟨s6,a6,n6,c6,rfl,aW,aA⟩;rintro _ ⟨g5,bQ,rfl,_,_,_,_⟩;rintro _ ⟨g6,bR,rfl,_,_,_,_⟩;rintro _ _;simp only[lq,lw,lx,lz,Act.put,lj,lk,ly,AO,A5,lZ,l9,jB,ks];rintro⟨ga,gb,R,H,N,l5,l6,A,e3,hA1,hA2⟩
   have S:Value.pointer (some ⟨g5,0,none⟩) = .pointer (some ⟨ga,0,none⟩):=H;have T:Value.pointer (some ⟨g6,0,none⟩) = .pointer (some ⟨gb,0,none⟩):=N;have U:Value.agg (Ab s5 a5 n5 c5).toArray = .agg R.toArray:=e3;simp only[kE,oQ,ic,iY]at S T;have e4:R=Ab s5 a5 n5 c5:=by simpa using U.symm
   subst S;subst T;subst e4;clear H N e3 U;change wpList _ _ _ _ _ _
   go_upto_region 6 with(refine Aa (vs:=Ab s6 a6 n6 c6) rfl rfl rfl rfl rfl Ak hA2 rfl (Ad _ _ _ _) ?_;intro w6 b6 X)
   have D:Ext w4 w6:=j.grownR X l6;have bd:=hA1.kept X (by simpa using A);have bg:=az.kept hA2 (At _ _ _ _) X;have bh:=aA.kept hA2 (At _ _ _ _) X;clear hA1 hA2 A j az aA X;have W:=ae.trans D;have y0:=D.cell r0;have y1:=D.cell r1;have y2:=D.cell r2;have y3:=D.cell r3;have v0:=D.cell u0;have v1:=D.cell u1;have v2:=D.cell u2;have v3:=D.cell u3;have aP:=bf.ext D
   have Q:=fun(f:World) (j:Ext w6 f)=>qh (And.intro (j.cell y0) (And.intro (j.cell y1) (And.intro (j.cell y2) (And.intro (j.cell y3) (And.intro (j.cell v0) (And.intro (j.cell v1) (And.intro (j.cell v2) (j.cell v3))))))))
   refine Dt (by kernel_rfl) (fun f=>Ext w6 f)
    [he (.pointer (some ⟨(w.heap.size+1),0,none⟩)),
 he (.agg #[.bool J,.slice F I G]),
 he (.agg #[.bool s,.slice a n c,.bool false,.slice b m d]),
 hp (fun v f=>NI ((p.den:Int)) v f),
 hp (fun v f=>NII (q.num.tdiv ((Nat.gcd q.num.natAbs p.den:Nat):Int)) (((p.den/Nat.gcd q.num.natAbs p.den:Nat):Int)) v f),
 hp (fun v f=>NII (q.num.tdiv ((Nat.gcd q.num.natAbs p.den:Nat):Int)) (((p.den/Nat.gcd q.num.natAbs p.den:Nat):Int)) v f),
 hp (fun v f=>NI (q.num.tdiv ((Nat.gcd q.num.natAbs p.den:Nat):Int)) v f),
 hp (fun v f=>NI (((p.den/Nat.gcd q.num.natAbs p.den:Nat):Int)) v f),
 hp (NP w6.heap.size),
 hp (NP w6.heap.size),
 hmp (fun _ _=>True)]
    (by kernel_rfl) (fun _ _ e h=>h.trans e) ((Ext.refl w6).drew) ⟨trivial,trivial,trivial,NI.x _,NII.x _ _,NII.x _ _,NI.x _,NI.x _,NP.x _,NP.x _,NT.x,trivial⟩ ⟨?o0,?o1,?o2,?o3,?o4,?o5,?o6,?o7,?o8,?o9,?o10,trivial⟩ 8 9 10 6 83 (Ab false none 0 0) ⟨by simp,by simp,by simp,by simp⟩ (by omega) ?hk ?hs1 ?hp1 ?hnm Ak ?hj1 ?fin
   case o0=>exact ofa (d:=0)
   case o1=>exact ol2
   case o2=>exact ol4
   case o3 =>
    refine Ae rfl fun C f j l B h => ?_;have H:_=_:=h.2.1;obtain⟨k0,k1,k2,k3,k4,k5,k6,k7⟩:=(Q f j).out;refine⟨165,#[.agg #[.bool s,.slice a n c,.bool false,.slice b m d]],by go_simp,((aT f (W.trans j)).out).mono ?_⟩;rintro e w' ⟨J,F,I,G,rfl,y,L,K⟩;exact⟨_,rfl,y,J,F,I,G,rfl,L,K⟩
   case o4 =>
    refine Ae rfl fun C f j l B h => ?_;have H:_=_:=h.2.1;obtain⟨v2,N,s2,a2,n2,c2,rfl,i2,j2⟩:=h.2.2.1;obtain⟨k0,k1,k2,k3,k4,k5,k6,k7⟩:=(Q f j).out;refine⟨164,#[.agg #[.bool J,.slice F I G],.agg (Ab s2 a2 n2 c2).toArray],by go_simp,((aS f (W.trans j) _ ⟨s2,a2,n2,c2,rfl,i2,j2⟩).out).mono ?_⟩;rintro e w' ⟨J,F,I,G,t',b',m',d',rfl,y,h1,h2⟩;exact⟨_,rfl,y,J,F,I,G,t',b',m',d',rfl,h1,h2⟩
   case o5 =>
    refine AR rfl ?_;intro C f hp j h;have l:=hp.const;have B:=hp.func;obtain⟨v0,e0,s0,a0,n0,c0,t0,b0,m0,d0,rfl,Z,j0⟩:=h.1;obtain⟨k0,k1,k2,k3,k4,k5,k6,k7⟩:=(Q f j).out;exact⟨_,f,by go_simp,Ext.refl _,s0,a0,n0,c0,t0,b0,m0,d0,rfl,Z,j0⟩
   case o6 =>
    refine AR rfl ?_;intro C f hp j h;have l:=hp.const;have B:=hp.func;obtain⟨v0,e0,s0,a0,n0,c0,t0,b0,m0,d0,rfl,Z,j0⟩:=h.1;obtain⟨k0,k1,k2,k3,k4,k5,k6,k7⟩:=(Q f j).out;exact⟨_,f,by go_simp,Ext.refl _,s0,a0,n0,c0,rfl,Z.1,Z.2⟩
   case o7 =>
    refine AR rfl ?_;intro C f hp j h;have l:=hp.const;have B:=hp.func;obtain⟨v0,e0,s0,a0,n0,c0,t0,b0,m0,d0,rfl,Z,j0⟩:=h.1;obtain⟨k0,k1,k2,k3,k4,k5,k6,k7⟩:=(Q f j).out;exact⟨_,f,by go_simp,Ext.refl _,t0,b0,m0,d0,rfl,j0.1,j0.2⟩
   case o8 =>
    exact Cq rfl rfl (fun _ h=>h.size)
   case o9 =>
    exact Cq rfl rfl (fun _ h=>h.size)
   case o10 =>
    exact FW (base:=w6.heap.size) (z:=q.num.tdiv ((Nat.gcd q.num.natAbs p.den:Nat):Int)) rfl rfl ⟨trivial,trivial,trivial,NI.i _,NII.i _ _,NII.i _ _,NI.i _,NI.i _,NP.i _,NP.i _,NT.i,trivial⟩ (fun w w' g h hb hg=>h.grownR hg hb) (fun C w _ _ h=>⟨h.1,h.2.1⟩)
   case hk =>
    rintro k (rfl|rfl) o ho
    · cases ho;exact⟨rfl,rfl,fun C f=>Cp rfl C f⟩
    · cases ho;exact⟨rfl,rfl,fun C f=>Cp rfl C f⟩
   case hs1 =>
    intro o ho;cases ho;exact⟨rfl,rfl,_,_,rfl,rfl,rfl⟩
   case hp1=>exact⟨ja.1 (by kernel_rfl),ja.1 (by kernel_rfl)⟩
   case hnm =>
    intro i hi A;simp only[io,lu]at hi
    match i,hi,A with
    | 0,_,_=>rfl
    | 1,_,_=>rfl
    | 2,_,_=>rfl
    | 3,_,_=>rfl
    | 4,_,_=>rfl
    | 5,_,_=>rfl
    | 6,_,_=>rfl
    | 7,_,_=>rfl
    | 8,_,_=>rfl
    | 9,_,_=>rfl
    | 10,_,A=>exact absurd rfl A
   case hj1 =>
    refine⟨rfl,fun v w h => ?_⟩;obtain⟨s,a,n,c,rfl,_,_⟩:=h;exact⟨Ab s a n c,rfl,rfl,Ad _ _ _ _⟩
   case fin =>
    intro f j;rintro _ ⟨c3,bJ,bW,bN,rfl,bB,bF⟩;rintro _ ⟨_,_,_,_,_,_,_,_,rfl,_,_⟩;rintro _ ⟨_,_,_,_,_,_,_,_,rfl,_,_⟩;rintro _ ⟨s7,a7,n7,c7,rfl,aX,aB⟩;rintro _ ⟨s8,a8,n8,c8,rfl,aY,aC⟩;rintro _ ⟨g7,bS,rfl,_,_,_,_⟩;rintro _ ⟨g8,bT,rfl,_,_,_,_⟩;rintro _ _;simp only[lq,lw,lx,lz,Act.put,lj,lk,ly,AO,A5,lZ,l9,jB,ks];rintro⟨ga,gb,R,H,N,l7,l8,A,e3,hA1,hA2⟩
    have S:Value.pointer (some ⟨g7,0,none⟩) = .pointer (some ⟨ga,0,none⟩):=H;have T:Value.pointer (some ⟨g8,0,none⟩) = .pointer (some ⟨gb,0,none⟩):=N;have U:Value.agg (Ab s7 a7 n7 c7).toArray = .agg R.toArray:=e3;simp only[kE,oQ,ic,iY]at S T;have e4:R=Ab s7 a7 n7 c7:=by simpa using U.symm
    subst S;subst T;subst e4;clear H N e3 U;change wpList _ _ _ _ _ _
    go_upto_region 7 with(refine Aa (vs:=Ab s8 a8 n8 c8) rfl rfl rfl rfl rfl Ak hA2 rfl (Ad _ _ _ _) ?_;intro w8 b7 Y)
    have O:Ext w6 w8:=j.grownR Y l8;have be:=hA1.kept Y (by simpa using A);have bi:=aB.kept hA2 (At _ _ _ _) Y;have bj:=aC.kept hA2 (At _ _ _ _) Y;clear hA1 hA2 A j aB aC Y;have aO:=W.trans O;have aQ:=aP.ext O;have ak:Arr w8 g5 83 (Ab s5 a5 n5 c5):=bd.ext O;have br:=ak.c 0 rfl;have bs:=ak.c 1 rfl;have al:Arr w8 g6 83 (Ab s6 a6 n6 c6):=b6.ext O;have bt:=al.c 0 rfl;have bu:=al.c 1 rfl;have am:Arr w8 g7 83 (Ab s7 a7 n7 c7):=be;have bv:=am.c 0 rfl;have bw:=am.c 1 rfl;have an:Arr w8 g8 83 (Ab s8 a8 n8 c8):=b7
    have bx:=an.c 0 rfl;have bz:=an.c 1 rfl;have i5:AD w8 (.agg (Ab s5 a5 n5 c5).toArray) (p.num.tdiv ((Nat.gcd p.num.natAbs q.den:Nat):Int)):=⟨s5,a5,n5,c5,rfl,aV,bg.ext O⟩;have i6:AD w8 (.agg (Ab s6 a6 n6 c6).toArray) (((q.den/Nat.gcd p.num.natAbs q.den:Nat):Int)):=⟨s6,a6,n6,c6,rfl,aW,bh.ext O⟩;have i7:AD w8 (.agg (Ab s7 a7 n7 c7).toArray) (q.num.tdiv ((Nat.gcd q.num.natAbs p.den:Nat):Int)):=⟨s7,a7,n7,c7,rfl,aX,bi⟩;have i8:AD w8 (.agg (Ab s8 a8 n8 c8).toArray) (((p.den/Nat.gcd q.num.natAbs p.den:Nat):Int)):=⟨s8,a8,n8,c8,rfl,aY,bj⟩
    have ad:=fun(f:World) (j:Ext w8 f)=>qh (And.intro (j.cell br) (And.intro (j.cell bs) (And.intro (j.cell bt) (And.intro (j.cell bu) (And.intro (j.cell bv) (And.intro (j.cell bw) (And.intro (j.cell bx) (j.cell bz))))))))
    refine Ac
     [he (.agg #[.bool s5,.slice a5 n5 c5]),he (.agg #[.bool s7,.slice a7 n7 c7]),hp (fun v f=>NI ((p*q).num) v f),he (.agg #[.bool s8,.slice a8 n8 c8]),he (.agg #[.bool s6,.slice a6 n6 c6]),hp (fun v f=>NI (((p*q).den:Int)) v f),hp (fun v f=>∃ cs,v = .agg cs.toArray/\CU f cs (p*q))]
     ⟨NI.x _,NI.x _,fun v w w' e ⟨cs,h1,h2⟩=>⟨cs,h1,h2.ext e⟩,trivial⟩ ⟨?o0,?o1,?o2,?o3,?o4,?o5,?o6,trivial⟩ ?fin
    case o0 | o1 | o3 | o4=>exact ol2
    case o2 =>
     refine Ae rfl fun C f j l B h => ?_;have H:_=_:=h.2.1;have N:_=_:=h.2.2.1;obtain⟨aG,aH,aI,aJ,aK,aL,aM,aN⟩:=(ad f j).out;refine⟨163,#[.agg #[.bool s5,.slice a5 n5 c5],.agg #[.bool s7,.slice a7 n7 c7]],by go_simp,((ah f _ _ (i5.ext j) (i7.ext j)).out).mono ?_⟩;rintro e w' ⟨J,F,I,G,rfl,y,L,K⟩;exact⟨_,rfl,y,J,F,I,G,rfl,L,K⟩
    case o5 =>
     refine Ae rfl fun C f j l B h => ?_;have H:_=_:=h.2.1;have N:_=_:=h.2.2.1;obtain⟨aG,aH,aI,aJ,aK,aL,aM,aN⟩:=(ad f j).out;refine⟨163,#[.agg #[.bool s8,.slice a8 n8 c8],.agg #[.bool s6,.slice a6 n6 c6]],by go_simp,((ai f _ _ (i8.ext j) (i6.ext j)).out).mono ?_⟩;rintro e w' ⟨J,F,I,G,rfl,y,L,K⟩;exact⟨_,rfl,y,J,F,I,G,rfl,L,K⟩
    case o6 =>
     refine Ae rfl fun C f j l B h => ?_;obtain⟨v1,H,s1,a1,n1,c1,rfl,i1,j1⟩:=h.2.1;obtain⟨v2,N,s2,a2,n2,c2,rfl,i2,j2⟩:=h.2.2.1;obtain⟨aG,aH,aI,aJ,aK,aL,aM,aN⟩:=(ad f j).out;refine⟨166,#[.agg (Ab s1 a1 n1 c1).toArray,.agg (Ab s2 a2 n2 c2).toArray],by go_simp,(Co (q:=p*q) ⟨s1,a1,n1,c1,rfl,i1,j1⟩ ⟨s2,a2,n2,c2,rfl,i2,j2⟩).mono ?_⟩;rintro e w' ⟨cs,rfl,y,bl⟩;exact⟨_,rfl,y,cs,rfl,bl⟩
    case fin =>
     intro f j;rintro _ ⟨c4,bK,bX,bO,rfl,bC,bG⟩;rintro _ ⟨ca,bL,bY,bP,rfl,bD,bH⟩;rintro _ ⟨_,rfl,s9,a9,n9,c9,b9,m9,d9,rfl,aZ,bn,bp⟩;change wpList _ _ _ _ _ _;simp only[A0];have ao:=aQ.ext j;have bU:(Ah s9 a9 n9 c9 false b9 m9 d9).toArray=#[.bool s9,.slice a9 n9 c9,.bool false,.slice b9 m9 d9]:=rfl
     go_wp2_with(refine Aa (vs:=Ah s9 a9 n9 c9 false b9 m9 d9) rfl rfl rfl rfl rfl Af ao rfl (Ag _ _ _ _ _ _ _ _) ?_;intro w9 b8 bk)
     exact oM (Ai rfl Af rfl b8) rfl (Bc (aO.trans j) ao (AC _ _ _ _ _ _ _ _) bk (by omega) aZ bn bp)
theorem GD(h:BL w v p)(K:BL w v' q)(h0:p=0\/q=0):Calls prog 85 #[v,v'] w (Fb w (p*q)):=by
 obtain⟨_,rfl,s,a,n,c,b,m,d,rfl,J,L,V⟩:=h;obtain⟨_,rfl,s',R,X,T,S,W,U,rfl,A,D,M⟩:=K;have F:=fun(G:World) (C:Ext w G)=>qh (Az (r:=decide (p.num=0)) (AG J (L.ext C)) rfl);have z:=fun(G:World) (C:Ext w G)=>qh (Az (r:=decide (q.num=0)) (AG A (D.ext C)) rfl);have x:Hid (p*q=0):=by
  show _=_;rcases h0 with h|h
  · rw[h,Rat.zero_mul]
  · rw[h,Rat.mul_zero]
 go_enter func85,ntmps85
 go_upto_region 1 with(fail)
 refine CR ?_;intro P l j k B E;have Y:=j.c 0 rfl;have Z:=j.c 1 rfl;have p2:=j.c 2 rfl;have p3:=j.c 3 rfl;have N:=k.c 0 rfl;have O:=k.c 1 rfl;have q2:=k.c 2 rfl;have q3:=k.c 3 rfl;have H:Arr P (w.heap.size+2) 85 (Ah false none 0 0 false none 0 0):=B;clear E
 go_wp2_with fail
 refine(F _ l).out.mono ?_;rintro e w1 ⟨rfl,f⟩;by_cases i:p.num=0
 · rw[gX i];have g:=H.ext f;clear i h0
   go_wp2_with(refine Aa (vs:=Ah false none 0 0 false none 0 0) rfl rfl rfl rfl rfl Af g rfl (Ag _ _ _ _ _ _ _ _) ?_;intro Q o t)
   refine oM (Ai rfl Af rfl o) rfl ?_;rw[x.out];exact Bc (l.trans f) g (AC _ _ _ _ _ _ _ _) t (by omega) (qh rfl) (Wd.nil _) (Wd.nil _)
 · rw[pb i];have I:q.num=0:=by
    rcases h0 with h|h
    · exact absurd (Pl.rat_num_den_zero.2 h) i
    · exact Pl.rat_num_den_zero.2 h
   rw[gX I]at z;have r0:=f.cell N;have r1:=f.cell O;clear i h0 I
   go_wp2_with fail
   refine(z _ (l.trans f)).out.mono ?_;rintro e w2 ⟨rfl,y⟩;have g:=(H.ext f).ext y
   go_wp2_with(refine Aa (vs:=Ah false none 0 0 false none 0 0) rfl rfl rfl rfl rfl Af g rfl (Ag _ _ _ _ _ _ _ _) ?_;intro Q o t)
   refine oM (Ai rfl Af rfl o) rfl ?_;rw[x.out];exact Bc ((l.trans f).trans y) g (AC _ _ _ _ _ _ _ _) t (by omega) (qh rfl) (Wd.nil _) (Wd.nil _)
theorem Kk(h:BL w v p)(h':BL w v' q)(H:p.num.natAbs<P2 2400)(b3:q.num.natAbs<P2 2400)(B:p≠0)(C:q≠0)(J:p.den=1)(K:q.den=1):Calls prog 85 #[v,v'] w (Fb w (p*q)):=by
 obtain⟨_,rfl,s,a,n,c,b,m,d,rfl,HS,hx,hy⟩:=h;obtain⟨_,rfl,s',a',n',c',b',m',d',rfl,y,D,T⟩:=h';have V:=fun(x:World) (k:Ext w x)=>qh (Az (r:=false) (AG HS (hx.ext k)) (pb (mt Pl.rat_num_den_zero.1 B)));have W:=fun(x:World) (k:Ext w x)=>qh (Az (r:=false) (AG y (D.ext k)) (pb (mt Pl.rat_num_den_zero.1 C)));have X:=fun(x:World) (k:Ext w x)=>qh (Az (r:=true) (A3 (hy.ext k)) (gX (AA.2 J)))
 have Y:=fun(x:World) (k:Ext w x)=>qh (Az (r:=true) (A3 (T.ext k)) (gX (AA.2 K)));have R:=fun(x:World) (k:Ext w x)=>qh (Ci (AG HS (hx.ext k)) (AG y (D.ext k)) (Aj H (by omega)) (Aj b3 (by omega)) (Or.inl (Aj H (by omega))));have E:=qh (Pl.rat_mul_whole p q J K);clear H b3 B C J K
 go_enter func85,ntmps85
 go_upto_region 1 with(fail)
 refine CR ?_;intro w0 j l o L U;have p0:=l.c 0 rfl;have p1:=l.c 1 rfl;have p2:=l.c 2 rfl;have p3:=l.c 3 rfl;have q0:=o.c 0 rfl;have q1:=o.c 1 rfl;have q2:=o.c 2 rfl;have q3:=o.c 3 rfl;have hR:Arr w0 (w.heap.size+2) 85 (Ah false none 0 0 false none 0 0):=L;clear U
 go_wp2_with fail
 refine(V _ j).out.mono ?_;rintro e w1 ⟨rfl,t⟩;have r0:=t.cell q0;have r1:=t.cell q1
 go_wp2_with fail
 refine(W _ (j.trans t)).out.mono ?_;rintro e w2 ⟨rfl,N⟩;have g:=t.trans N;have t2:=g.cell p2;have t3:=g.cell p3;clear r0 r1
 go_wp2_with fail
 refine(X _ (j.trans g)).out.mono ?_;rintro e w3 ⟨rfl,O⟩;have i:=g.trans O;have r2:=i.cell q2;have r3:=i.cell q3;clear t2 t3
 go_wp2_with fail
 refine(Y _ (j.trans i)).out.mono ?_;rintro e w4 ⟨rfl,P⟩;have f:=i.trans P;have t0:=f.cell p0;have t1:=f.cell p1;have u0:=f.cell q0;have u1:=f.cell q1;clear r2 r3
 go_wp2_with fail
 refine(R _ (j.trans f)).out.mono ?_;rintro e w5 ⟨s1,G,Z,I,rfl,z,F,S⟩;have a0:(Ab s1 G Z I).toArray=#[.bool s1,.slice G Z I]:=rfl;have A:=(hR.ext f).ext z
 go_wp2_with(refine Aa (vs:=Ah s1 G Z I false none 0 0) rfl rfl rfl rfl rfl Af A rfl (Ag _ _ _ _ _ _ _ _) ?_;intro w9 M Q)
 exact oM (Ai rfl Af rfl M) rfl (Bc ((j.trans f).trans z) A (AC _ _ _ _ _ _ _ _) Q (by omega) (by rw[E.out.1];exact F) (by rw[E.out.1];exact S) (by rw[AA.2 E.out.2];exact Wd.nil _))
theorem TY(k:AV w)(h:BL w v p)(c:BL w v' q)(d:p.num.natAbs<P2 2400)(f:p.den<P2 2400)(e:q.num.natAbs<P2 2400)(g:q.den<P2 2400):Calls prog 85 #[v,v'] w (Fb w (p*q)):=by
 by_cases a:p=0
 · exact GD h c (Or.inl a)
 by_cases b:q=0
 · exact GD h c (Or.inr b)
 by_cases i:p.den=1
 · by_cases j:q.den=1
   · exact Kk h c d e a b i j
   · exact H9 k h c d f e g a b (Or.inr j)
 · exact H9 k h c d f e g a b (Or.inl i)
theorem L3(h:p.den=1):(p+q).num=p.num*(q.den:Int)+q.num/\(p+q).den=q.den:=by
 have:=Pl.rat_add_parts p q;rw[h,Nat.gcd_one_left]at this;simpa using this
theorem SL(h:q.den=1):(p+q).num=q.num*(p.den:Int)+p.num/\(p+q).den=p.den:=by
 rw[Rat.add_comm];exact L3 h
theorem Vo(h:p.den=1)(a:q.den=1):(p+q).num=p.num+q.num/\(p+q).den=1:=by
 have:=L3 (q:=q) h;rw[a]at this;simpa using this
theorem JX(h:p.den=q.den):AN p=AN q:=by unfold AN;rw[h]
theorem OG(h:BL w v p)(U:BL w v' q)(R:p.num.natAbs<P2 2400)(S:q.num.natAbs<P2 2400)(D:p.den=1)(E:q.den=1):Calls prog 146 #[v,v'] w (Fb w (p+q)):=by
 obtain⟨_,rfl,s,a,n,c,b,m,d,rfl,T,X,Y⟩:=h;obtain⟨_,rfl,s',a',n',c',b',m',d',rfl,z,K,M⟩:=U;have O:=fun(x:World) (l:Ext w x)=>qh (Az (r:=true) (A3 (Y.ext l)) (gX (AA.2 D)));have P:=fun(x:World) (l:Ext w x)=>qh (Az (r:=true) (A3 (M.ext l)) (gX (AA.2 E)));have I:=fun(x:World) (l:Ext w x)=>qh (IF (AG T (X.ext l)) (AG z (K.ext l)) (Aj R (by omega)) (Aj S (by omega)));have y:=qh (Vo D E);clear R S D E
 go_enter func146,ntmps146
 go_upto_region 1 with(fail)
 refine CR ?_;intro w0 j g i F N;have Z:=g.c 0 rfl;have p1:=g.c 1 rfl;have p2:=g.c 2 rfl;have p3:=g.c 3 rfl;have q0:=i.c 0 rfl;have q1:=i.c 1 rfl;have q2:=i.c 2 rfl;have q3:=i.c 3 rfl;have V:Arr w0 (w.heap.size+2) 85 (Ah false none 0 0 false none 0 0):=F;clear N
 go_wp2_with fail
 refine(O _ j).out.mono ?_;rintro e w1 ⟨rfl,k⟩;have r2:=k.cell q2;have r3:=k.cell q3
 go_wp2_with fail
 refine(P _ (j.trans k)).out.mono ?_;rintro e w2 ⟨rfl,H⟩;have f:=k.trans H;have t0:=f.cell Z;have t1:=f.cell p1;have u0:=f.cell q0;have u1:=f.cell q1;clear r2 r3
 go_wp2_with fail
 refine(I _ (j.trans f)).out.mono ?_;rintro e w5 ⟨s1,B,Q,C,rfl,o,A,L⟩;have W:(Ab s1 B Q C).toArray=#[.bool s1,.slice B Q C]:=rfl;have t:=(V.ext f).ext o
 go_wp2_with(refine Aa (vs:=Ah s1 B Q C false none 0 0) rfl rfl rfl rfl rfl Af t rfl (Ag _ _ _ _ _ _ _ _) ?_;intro w9 G J)
 exact oM (Ai rfl Af rfl G) rfl (Bc ((j.trans f).trans o) t (AC _ _ _ _ _ _ _ _) J (by omega) (by rw[y.out.1];exact A) (by rw[y.out.1];exact L) (by rw[AA.2 y.out.2];exact Wd.nil _))
theorem OH(h:BL w v p)(h':BL w v' q)(R:p.num.natAbs<P2 2400)(b3:q.num.natAbs<P2 2400)(Y:q.den<P2 2400)(T:p.den=1)(L:q.den≠1):Calls prog 146 #[v,v'] w (Fb w (p+q)):=by
 obtain⟨_,rfl,s,a,n,c,b,m,d,rfl,HS,hx,hy⟩:=h;obtain⟨_,rfl,J,D,H,F,Q,U,S,rfl,W,aa,C⟩:=h';have P:=fun(i:World) (g:Ext w i)=>qh (Az (r:=true) (A3 (hy.ext g)) (gX (AA.2 T)));have ad:=fun(i:World) (g:Ext w i)=>qh (Az (r:=false) (A3 (C.ext g)) (pb (mt AA.1 L)));have a9:=fun(i:World) (g:Ext w i)=>qh (Ci (AG HS (hx.ext g)) (A3 (C.ext g)) (Aj R (by omega)) (by rw[AZ L];exact Aj Y (by omega)) (Or.inl (Aj R (by omega))))
 have O:(p.num*AN q).natAbs<P2 9600:=by rw[iq,AZ L];exact Aj (BF R Y) (by omega)
 have a6:=fun(i:World) (g:Ext w i) (x:Value) (hv:AD i x (p.num*AN q))=>qh (IF hv (AG W (aa.ext g)) O (Aj b3 (by omega)));have V:=qh (L3 (q:=q) T);rw[<-C0 L]at V;have HD:Hid (AN (p+q)=AN q):=qh (JX (by have:=(L3 (q:=q) T).2;exact this));clear R Y b3 O T L
 go_enter func146,ntmps146
 go_upto_region 1 with(fail)
 refine CR ?_;intro w0 o k l a0 ac;have p0:=k.c 0 rfl;have p1:=k.c 1 rfl;have p2:=k.c 2 rfl;have p3:=k.c 3 rfl;have q0:=l.c 0 rfl;have q1:=l.c 1 rfl;have q2:=l.c 2 rfl;have q3:=l.c 3 rfl;have hR:Arr w0 (w.heap.size+2) 85 (Ah false none 0 0 false none 0 0):=a0;clear ac
 go_wp2_with fail
 refine(P _ o).out.mono ?_;rintro e w1 ⟨rfl,t⟩;have Z:=t.cell q2;have f3:=t.cell q3
 go_wp2_with fail
 refine(ad _ (o.trans t)).out.mono ?_;rintro e w2 ⟨rfl,a3⟩;have j:=t.trans a3;clear Z f3;have Z:=j.cell p2;have f3:=j.cell p3
 go_wp2_with fail
 refine(P _ (o.trans j)).out.mono ?_;rintro e w3 ⟨rfl,a4⟩;have f:=j.trans a4;clear Z f3;have r0:=f.cell p0;have r1:=f.cell p1;have r2:=f.cell p2;have r3:=f.cell p3;have u0:=f.cell q0;have u1:=f.cell q1;have u2:=f.cell q2;have u3:=f.cell q3;have y:=o.trans f;have a5:=hR.ext f;clear p0 p1 p2 p3 q0 q1 q2 q3;go_wp2;have K:=fun(i:World) (g:Ext w3 i)=>qh (And.intro (g.cell r0) (And.intro (g.cell r1) (And.intro (g.cell r2) (And.intro (g.cell r3) (And.intro (g.cell u0) (And.intro (g.cell u1) (And.intro (g.cell u2) (g.cell u3))))))))
 refine Ac
  [hdP w.heap.size 0,he (.agg #[.bool s,.slice a n c]),hdP (w.heap.size+1) 2,he (.agg #[.bool false,.slice Q U S]),hp (fun v i=>NI (p.num*AN q) v i),hdP (w.heap.size+1) 0,he (.agg #[.bool J,.slice D H F]),hp (fun v i=>NI (p.num*AN q+q.num) v i),hdP (w.heap.size+1) 2,he (.agg #[.bool false,.slice Q U S])]
  ⟨NI.x _,NI.x _,trivial⟩ ⟨?o0,?o1,?o2,?o3,?o4,?o5,?o6,?o7,?o8,?o9,trivial⟩ ?fin
 case o0 | o5=>exact ofa (d:=0)
 case o1 | o3 | o6 | o9=>exact ol2
 case o2 | o8=>exact ofa (d:=2)
 case o4 =>
  refine Ae rfl fun ρ i g N a7 h => ?_;have e1:_=_:=h.2.1;have e2:_=_:=h.2.2.1;obtain⟨k0,k1,k2,k3,ae,af,ag,ah⟩:=(K i g).out;refine⟨163,#[.agg #[.bool s,.slice a n c],.agg #[.bool false,.slice Q U S]],by go_simp,((a9 i (y.trans g)).out).mono ?_⟩;rintro e w' ⟨J,D,H,F,rfl,z,B,A⟩;exact⟨_,rfl,z,J,D,H,F,rfl,B,A⟩
 case o7 =>
  refine Ae rfl fun ρ i g N a7 h => ?_;obtain⟨v1,e1,s1,E,I,G,rfl,i1,j1⟩:=h.2.1;have e2:_=_:=h.2.2.1;obtain⟨k0,k1,k2,k3,ae,af,ag,ah⟩:=(K i g).out;refine⟨208,#[.agg (Ab s1 E I G).toArray,.agg #[.bool J,.slice D H F]],by go_simp,((a6 i (y.trans g) _ ⟨s1,E,I,G,rfl,i1,j1⟩).out).mono ?_⟩;rintro e w' ⟨J,D,H,F,rfl,z,B,A⟩;exact⟨_,rfl,z,J,D,H,F,rfl,B,A⟩
 case fin =>
  intro i g;rintro _ ⟨ao,ak,an,al,rfl,ai,aj⟩;rintro _ ⟨s1,E,I,G,rfl,X,ab⟩;change wpList _ _ _ _ _ _;simp only[A0];have M:=a5.ext g;have am:(Ab s1 E I G).toArray=#[.bool s1,.slice E I G]:=rfl
  go_wp2_with(refine Aa (vs:=Ah s1 E I G false Q U S) rfl rfl rfl rfl rfl Af M rfl (Ag _ _ _ _ _ _ _ _) ?_;intro w9 a2 a8)
  exact oM (Ai rfl Af rfl a2) rfl (Bc (y.trans g) M (AC _ _ _ _ _ _ _ _) a8 (by omega) (by rw[V.out.1];exact X) (by rw[V.out.1];exact ab) (by rw[HD.out];exact C.ext (y.trans g)))
theorem OI(h:BL w v p)(h':BL w v' q)(b1:p.num.natAbs<P2 2400)(P:q.num.natAbs<P2 2400)(U:p.den<P2 2400)(K:p.den≠1)(Q:q.den=1):Calls prog 146 #[v,v'] w (Fb w (p+q)):=by
 obtain⟨_,rfl,s,a,n,c,b,m,d,rfl,HS,hx,hy⟩:=h;obtain⟨_,rfl,I,C,G,E,b',m',d',rfl,S,a7,a9⟩:=h';have O:=fun(i:World) (g:Ext w i)=>qh (Az (r:=false) (A3 (hy.ext g)) (pb (mt AA.1 K)));have ab:=fun(i:World) (g:Ext w i)=>qh (Az (r:=true) (A3 (a9.ext g)) (gX (AA.2 Q)));have a6:=fun(i:World) (g:Ext w i)=>qh (Ci (AG S (a7.ext g)) (A3 (hy.ext g)) (Aj P (by omega)) (by rw[AZ K];exact Aj U (by omega)) (Or.inl (Aj P (by omega))))
 have N:(q.num*AN p).natAbs<P2 9600:=by rw[iq,AZ K];exact Aj (BF P U) (by omega)
 have a3:=fun(i:World) (g:Ext w i) (x:Value) (hv:AD i x (q.num*AN p))=>qh (IF hv (AG HS (hx.ext g)) N (Aj b1 (by omega)));have R:=qh (SL (p:=p) Q);rw[<-C0 K]at R;have HD:Hid (AN (p+q)=AN p):=qh (JX (by have:=(SL (p:=p) Q).2;exact this));clear b1 U P N K Q
 go_enter func146,ntmps146
 go_upto_region 1 with(fail)
 refine CR ?_;intro w0 o k l X aa;have p0:=k.c 0 rfl;have p1:=k.c 1 rfl;have p2:=k.c 2 rfl;have p3:=k.c 3 rfl;have q0:=l.c 0 rfl;have q1:=l.c 1 rfl;have q2:=l.c 2 rfl;have q3:=l.c 3 rfl;have hR:Arr w0 (w.heap.size+2) 85 (Ah false none 0 0 false none 0 0):=X;clear aa
 go_wp2_with fail
 refine(O _ o).out.mono ?_;rintro e w1 ⟨rfl,t⟩;have V:=t.cell p2;have W:=t.cell p3
 go_wp2_with fail
 refine(O _ (o.trans t)).out.mono ?_;rintro e w2 ⟨rfl,Z⟩;have j:=t.trans Z;clear V W;have V:=j.cell q2;have W:=j.cell q3
 go_wp2_with fail
 refine(ab _ (o.trans j)).out.mono ?_;rintro e w3 ⟨rfl,a0⟩;have f:=j.trans a0;clear V W;have r0:=f.cell p0;have r1:=f.cell p1;have r2:=f.cell p2;have r3:=f.cell p3;have u0:=f.cell q0;have u1:=f.cell q1;have u2:=f.cell q2;have u3:=f.cell q3;have y:=o.trans f;have a2:=hR.ext f;clear p0 p1 p2 p3 q0 q1 q2 q3;go_wp2;have J:=fun(i:World) (g:Ext w3 i)=>qh (And.intro (g.cell r0) (And.intro (g.cell r1) (And.intro (g.cell r2) (And.intro (g.cell r3) (And.intro (g.cell u0) (And.intro (g.cell u1) (And.intro (g.cell u2) (g.cell u3))))))))
 refine Ac
  [hdP (w.heap.size+1) 0,he (.agg #[.bool I,.slice C G E]),hdP w.heap.size 2,he (.agg #[.bool false,.slice b m d]),hp (fun v i=>NI (q.num*AN p) v i),hdP w.heap.size 0,he (.agg #[.bool s,.slice a n c]),hp (fun v i=>NI (q.num*AN p+p.num) v i),hdP w.heap.size 2,he (.agg #[.bool false,.slice b m d])]
  ⟨NI.x _,NI.x _,trivial⟩ ⟨?o0,?o1,?o2,?o3,?o4,?o5,?o6,?o7,?o8,?o9,trivial⟩ ?fin
 case o0 | o5=>exact ofa (d:=0)
 case o1 | o3 | o6 | o9=>exact ol2
 case o2 | o8=>exact ofa (d:=2)
 case o4 =>
  refine Ae rfl fun ρ i g M a4 h => ?_;have e1:_=_:=h.2.1;have e2:_=_:=h.2.2.1;obtain⟨k0,k1,k2,k3,ac,ad,ae,af⟩:=(J i g).out;refine⟨163,#[.agg #[.bool I,.slice C G E],.agg #[.bool false,.slice b m d]],by go_simp,((a6 i (y.trans g)).out).mono ?_⟩;rintro e w' ⟨I,C,G,E,rfl,z,B,A⟩;exact⟨_,rfl,z,I,C,G,E,rfl,B,A⟩
 case o7 =>
  refine Ae rfl fun ρ i g M a4 h => ?_;obtain⟨v1,e1,s1,D,H,F,rfl,i1,j1⟩:=h.2.1;have e2:_=_:=h.2.2.1;obtain⟨k0,k1,k2,k3,ac,ad,ae,af⟩:=(J i g).out;refine⟨208,#[.agg (Ab s1 D H F).toArray,.agg #[.bool s,.slice a n c]],by go_simp,((a3 i (y.trans g) _ ⟨s1,D,H,F,rfl,i1,j1⟩).out).mono ?_⟩;rintro e w' ⟨I,C,G,E,rfl,z,B,A⟩;exact⟨_,rfl,z,I,C,G,E,rfl,B,A⟩
 case fin =>
  intro i g;rintro _ ⟨am,ai,al,aj,rfl,ag,ah⟩;rintro _ ⟨s1,D,H,F,rfl,T,a8⟩;change wpList _ _ _ _ _ _;simp only[A0];have L:=a2.ext g;have ak:(Ab s1 D H F).toArray=#[.bool s1,.slice D H F]:=rfl
  go_wp2_with(refine Aa (vs:=Ah s1 D H F false b m d) rfl rfl rfl rfl rfl Af L rfl (Ag _ _ _ _ _ _ _ _) ?_;intro w9 Y a5)
  exact oM (Ai rfl Af rfl Y) rfl (Bc (y.trans g) L (AC _ _ _ _ _ _ _ _) a5 (by omega) (by rw[R.out.1];exact T) (by rw[R.out.1];exact a8) (by rw[HD.out];exact hy.ext (y.trans g)))
theorem Nc(hT:AV w)(h:BL w v p)(h':BL w v' q)(b1:p.num.natAbs<P2 2400)(b2:p.den<P2 2400)(b3:q.num.natAbs<P2 2400)(b4:q.den<P2 2400)(d1:p.den≠1)(d2:q.den≠1):Calls prog 146 #[v,v'] w (Fb w (p+q)):=by
 obtain⟨_,rfl,s,a,n,c,b,m,d,rfl,HS,hx,hy⟩:=h;obtain⟨_,rfl,s',a',n',c',b',m',d',rfl,bS,cn,bx⟩:=h';have aT:=fun(j:World) (f:Ext w j)=>qh (Az (r:=false) (A3 (hy.ext f)) (pb (mt AA.1 d1)));have bz:=fun(j:World) (f:Ext w j)=>qh (Az (r:=false) (A3 (bx.ext f)) (pb (mt AA.1 d2)));have al:=fun(j:World) (f:Ext w j)=>A3 (hy.ext f);have aa:=fun(j:World) (f:Ext w j)=>A3 (bx.ext f);rw[C0 d1]at al;rw[C0 d2]at aa;obtain⟨G,hG⟩:∃ G,G=Nat.gcd p.den q.den:=⟨_,rfl⟩
 obtain⟨L,hL⟩:∃ L,L=q.den/G:=⟨_,rfl⟩;obtain⟨R,ai⟩:∃ R,R=p.den/G:=⟨_,rfl⟩;obtain⟨N,hN⟩:∃ N:Int,N=p.num*(L:Int)+q.num*(R:Int):=⟨_,rfl⟩;obtain⟨K,hK⟩:∃ K,K=N.natAbs.gcd G:=⟨_,rfl⟩;have hs:=Pl.rat_add_parts p q;rw[<-hG,<-hL,<-ai,<-hN,<-hK]at hs;have aJ:0<G:=by rw[hG];exact mO _ (iU p.den_nz)
 have cd:0<K:=by rw[hK];exact kR _ aJ
 have bG:G<P2 2400:=oR (by rw[hG];exact Nat.gcd_le_left _ (iU p.den_nz)) b2;have bK:K<P2 2400:=oR (by rw[hK];exact nV _ aJ) bG;have bL:L<P2 2400:=oR (by rw[hL];exact gM _ _) b4;have bR:R<P2 2400:=oR (by rw[ai];exact gM _ _) b2;have aG:(p.num*(L:Int)).natAbs<P2 4800:=by rw[iq];exact BF b1 bL
 have aH:(q.num*(R:Int)).natAbs<P2 4800:=by rw[iq];exact BF b3 bR
 have bN:N.natAbs<P2 9600:=Aj (oR (by rw[hN];exact mH _ _) (Jz aG aH)) (by omega);have bq:(((q.den/K:Nat):Int)).natAbs<P2 2400:=oR (gM _ _) b4;have td:∀ x y:Nat,((x:Int)).tdiv (y:Int)=((x/y:Nat):Int):=fun x y=>by rw[ib (by omega)];push_cast;rfl
 have aM:=fun(j:World) (f:Ext w j)=>qh (Ez (hT.ext f) (al j f) (aa j f) (Aj b2 (by omega)) (Aj b4 (by omega)));simp only[pe,<-hG]at aM;have aO:=fun(j:World) (f:Ext w j) (g:Value) (hg:AD j g (G:Int))=>qh (DG (aa j f) hg (Aj b4 (by omega)) (Aj bG (by omega)) (by omega));have aP:=fun(j:World) (f:Ext w j) (g:Value) (hg:AD j g (G:Int))=>qh (DG (al j f) hg (Aj b2 (by omega)) (Aj bG (by omega)) (by omega));rw[td,<-hL]at aO;rw[td,<-ai]at aP
 have bp:=fun(j:World) (f:Ext w j) (g:Value) (hg:AD j g (L:Int))=>qh (Ci (AG HS (hx.ext f)) hg (Aj b1 (by omega)) (Aj bL (by omega)) (Or.inl (Aj b1 (by omega))));have br:=fun(j:World) (f:Ext w j) (g:Value) (hg:AD j g (R:Int))=>qh (Ci (AG bS (cn.ext f)) hg (Aj b3 (by omega)) (Aj bR (by omega)) (Or.inl (Aj b3 (by omega))));have aK:=fun(j:World) (x1 x2:Value) (h1:AD j x1 (p.num*(L:Int))) (h2:AD j x2 (q.num*(R:Int)))=>qh (IF h1 h2 (Aj aG (by omega)) (Aj aH (by omega)));rw[<-hN]at aK
 have ct:=fun(j:World) (x:Value) (hv:AD j x N)=>qh (Az (r:=decide (N=0)) hv rfl);have ci:=fun(j:World) (x:Value) (hv:AD j x (G:Int))=>qh (Cw (r:=decide (G=1)) hv (jL.2 (by omega)));have aN:=fun(j:World) (f:Ext w j)=>qh (Ci (al j f) (aa j f) (Aj b2 (by omega)) (Aj b4 (by omega)) (Or.inl (Aj b2 (by omega))));have bo:=fun(j:World) (f:Ext w j) (x y:Value) (hv:AD j x N) (a0:AD j y (G:Int))=>qh (Ez (hT.ext f) hv a0 bN (Aj bG (by omega)));simp only[pe,<-hK]at bo
 have bt:=fun(j:World) (x y:Value) (hv:AD j x N) (a0:AD j y (K:Int))=>qh (DG hv a0 bN (Aj bK (by omega)) (by omega));have bu:=fun(j:World) (f:Ext w j) (y:Value) (a0:AD j y (K:Int))=>qh (DG (aa j f) a0 (Aj b4 (by omega)) (Aj bK (by omega)) (by omega));rw[td]at bu;have bs:=fun(j:World) (x y:Value) (hv:AD j x (R:Int)) (a0:AD j y ((q.den/K:Nat):Int))=>qh (Ci hv a0 (Aj bR (by omega)) (Aj bq (by omega)) (Or.inl (Aj bR (by omega))));rw[<-gH,<-hs.2]at bs;rw[<-hs.1]at bt;rw[<-gH]at aN
 have HZ:N=0->Hid (p+q=0):=fun h=>qh (Pl.rat_num_den_zero.1 (by rw[hs.1,h];exact Int.zero_tdiv _))
 have HO:G=1->Hid ((p+q).num=N/\(p+q).den=p.den*q.den):=fun h=>by
  refine qh ⟨?_,?_⟩
  · rw[hs.1,hK,h,kD];exact nf _
  · rw[hs.2,hK,h,kD,kH,ai,h,kH]
 clear b1 b2 b3 b4 d1 d2 hs hG hL ai hN hK aJ cd bG bK bL bR aG aH bN bq td al aa
 go_enter func146,ntmps146
 go_upto_region 1 with(fail)
 refine CR ?_;intro w0 ae au av c4 cr;have p0:=au.c 0 rfl;have p1:=au.c 1 rfl;have p2:=au.c 2 rfl;have p3:=au.c 3 rfl;have q0:=av.c 0 rfl;have q1:=av.c 1 rfl;have q2:=av.c 2 rfl;have q3:=av.c 3 rfl;have hR:Arr w0 (w.heap.size+2) 85 (Ah false none 0 0 false none 0 0):=c4;clear cr
 go_wp2_with fail
 refine(aT _ ae).out.mono ?_;rintro e w1 ⟨rfl,aw⟩;have f2:=aw.cell p2;have f3:=aw.cell p3
 go_wp2_with fail
 refine(aT _ (ae.trans aw)).out.mono ?_;rintro e w2 ⟨rfl,ca⟩;have aq:=aw.trans ca;clear f2 f3;have f2:=aq.cell q2;have f3:=aq.cell q3
 go_wp2_with fail
 refine(bz _ (ae.trans aq)).out.mono ?_;rintro e w3 ⟨rfl,cb⟩;have B:=aq.trans cb;clear f2 f3;have f0:=B.cell p0;have f1:=B.cell p1;have f2:=B.cell p2;have f3:=B.cell p3;have g0:=B.cell q0;have g1:=B.cell q1;have g2:=B.cell q2;have g3:=B.cell q3
 go_wp2_with fail
 refine(aM _ (ae.trans B)).out.mono ?_;rintro e w4 ⟨s3,a3,n3,c3,rfl,aI,bT,co⟩;have cj:(Ab s3 a3 n3 c3).toArray=#[.bool s3,.slice a3 n3 c3]:=rfl;have hY:=Arr.new w4 83 (Ab false none 0 0)
 go_upto_region 8 with(refine Aa (vs:=Ab s3 a3 n3 c3) rfl rfl rfl rfl rfl Ak hY rfl (Ad _ _ _ _) ?_;intro w5 bi cg)
 have ax:Ext w4 w5:=((Ext.refl w4).alloc _).grownR cg (lrf _);have aC:=((ae.trans B).trans aI).trans ax;have bO:=((hR.ext B).ext aI).ext ax;have H:=aI.trans ax;have r0:=H.cell f0;have r1:=H.cell f1;have r2:=H.cell f2;have r3:=H.cell f3;have u0:=H.cell g0;have u1:=H.cell g1;have u2:=H.cell g2;have u3:=H.cell g3;have am:=bi.c 0 rfl;have an:=bi.c 1 rfl;have iG:AD w5 (.agg (Ab s3 a3 n3 c3).toArray) (G:Int):=⟨s3,a3,n3,c3,rfl,bT,co.ext ax⟩;clear cj p0 p1 p2 p3 q0 q1 q2 q3 f0 f1 f2 f3 g0 g1 g2 g3 aT bz aM hY
 have b6:=fun(j:World) (f:Ext w5 j)=>qh (And.intro (f.cell r0) (And.intro (f.cell r1) (And.intro (f.cell r2) (And.intro (f.cell r3) (And.intro (f.cell u0) (And.intro (f.cell u1) (And.intro (f.cell u2) (And.intro (f.cell u3) (And.intro (f.cell am) (f.cell an))))))))))
 refine Dt (by kernel_rfl) (fun j=>Ext w5 j)
  [he (.pointer (some ⟨(w.heap.size+1),2,none⟩)),
 he (.agg #[.bool false,.slice b' m' d']),
 he (.agg #[.bool s3,.slice a3 n3 c3]),
 hp (fun v j=>NI ((L:Int)) v j),
 he (.pointer (some ⟨w.heap.size,2,none⟩)),
 he (.agg #[.bool false,.slice b m d]),
 he (.agg #[.bool s3,.slice a3 n3 c3]),
 hp (fun v j=>NI ((R:Int)) v j),
 hp (NP w5.heap.size),
 hp (NP w5.heap.size),
 hmp (fun _ _=>True)]
  (by kernel_rfl) (fun _ _ e h=>h.trans e) ((Ext.refl w5).drew) ⟨trivial,trivial,trivial,NI.x _,trivial,trivial,trivial,NI.x _,NP.x _,NP.x _,NT.x,trivial⟩ ⟨?o0,?o1,?o2,?o3,?o4,?o5,?o6,?o7,?o8,?o9,?o10,trivial⟩ 8 9 10 3 83 (Ab false none 0 0) ⟨by simp,by simp,by simp,by simp⟩ (by omega) ?hk ?hs1 ?hp1 ?hnm Ak ?hj1 ?fin
 case o0 | o4=>exact ofa (d:=2)
 case o1 | o2 | o5 | o6=>exact ol2
 case o3 =>
  refine Ae rfl fun ρ j f E Q h => ?_;have e1:_=_:=h.2.1;have e2:_=_:=h.2.2.1;obtain⟨S,T,U,V,W,X,Y,Z,am,an⟩:=(b6 j f).out;refine⟨209,#[.agg #[.bool false,.slice b' m' d'],.agg #[.bool s3,.slice a3 n3 c3]],by go_simp,((aO j (aC.trans f) _ (iG.ext f)).out).mono ?_⟩;rintro e w' ⟨s',a',n',c',rfl,A,D,C⟩;exact⟨_,rfl,A,s',a',n',c',rfl,D,C⟩
 case o7 =>
  refine Ae rfl fun ρ j f E Q h => ?_;have e1:_=_:=h.2.1;have e2:_=_:=h.2.2.1;obtain⟨S,T,U,V,W,X,Y,Z,am,an⟩:=(b6 j f).out;refine⟨209,#[.agg #[.bool false,.slice b m d],.agg #[.bool s3,.slice a3 n3 c3]],by go_simp,((aP j (aC.trans f) _ (iG.ext f)).out).mono ?_⟩;rintro e w' ⟨s',a',n',c',rfl,A,D,C⟩;exact⟨_,rfl,A,s',a',n',c',rfl,D,C⟩
 case o8 =>
  exact Cq rfl rfl (fun _ h=>h.size)
 case o9 =>
  exact Cq rfl rfl (fun _ h=>h.size)
 case o10 =>
  exact FW (base:=w5.heap.size) (z:=(L:Int)) rfl rfl ⟨trivial,trivial,trivial,NI.i _,trivial,trivial,trivial,NI.i _,NP.i _,NP.i _,NT.i,trivial⟩ (fun w w' g h hb hg=>h.grownR hg hb) (fun ρ w _ _ h=>⟨h.1,h.2.1⟩)
 case hk =>
  rintro k (rfl|rfl) o ho
  · cases ho;exact⟨rfl,rfl,fun ρ j=>Cp rfl ρ j⟩
  · cases ho;exact⟨rfl,rfl,fun ρ j=>Cp rfl ρ j⟩
 case hs1 =>
  intro o ho;cases ho;exact⟨rfl,rfl,_,_,rfl,rfl,rfl⟩
 case hp1=>exact⟨ja.1 (by kernel_rfl),ja.1 (by kernel_rfl)⟩
 case hnm =>
  intro i hi ab;simp only[io,lu]at hi
  match i,hi,ab with
  | 0,_,_=>rfl
  | 1,_,_=>rfl
  | 2,_,_=>rfl
  | 3,_,_=>rfl
  | 4,_,_=>rfl
  | 5,_,_=>rfl
  | 6,_,_=>rfl
  | 7,_,_=>rfl
  | 8,_,_=>rfl
  | 9,_,_=>rfl
  | 10,_,ab=>exact absurd rfl ab
 case hj1 =>
  refine⟨rfl,fun v w h => ?_⟩;obtain⟨s,a,n,c,rfl,_,_⟩:=h;exact⟨Ab s a n c,rfl,rfl,Ad _ _ _ _⟩
 case fin =>
  intro j f;rintro _ ⟨s5,a5,n5,c5,rfl,bU,bv⟩;rintro _ ⟨s6,a6,n6,c6,rfl,bV,bw⟩;rintro _ ⟨g5,cB,rfl,_,_,_,_⟩;rintro _ ⟨g6,cC,rfl,_,_,_,_⟩;rintro _ _;simp only[lq,lw,lx,lz,Act.put,lj,lk,ly,AO,A5,lZ,l9,jB,ks];rintro⟨ga,gb,bc,e1,e2,l5,l6,ab,e3,hA1,hA2⟩;have bd:Value.pointer (some ⟨g5,0,none⟩) = .pointer (some ⟨ga,0,none⟩):=e1
  have be:Value.pointer (some ⟨g6,0,none⟩) = .pointer (some ⟨gb,0,none⟩):=e2;have bf:Value.agg (Ab s5 a5 n5 c5).toArray = .agg bc.toArray:=e3;simp only[kE,oQ,ic,iY]at bd be;have e4:bc=Ab s5 a5 n5 c5:=by simpa using bf.symm
  subst bd;subst be;subst e4;clear e1 e2 e3 bf;change wpList _ _ _ _ _ _
  go_upto_region 9 with(refine Aa (vs:=Ab s6 a6 n6 c6) rfl rfl rfl rfl rfl Ak hA2 rfl (Ad _ _ _ _) ?_;intro w6 bj aj)
  have F:Ext w5 w6:=f.grownR aj l6;have bn:=hA1.kept aj (by simpa using ab);have ce:=bv.kept hA2 (At _ _ _ _) aj;have cf:=bw.kept hA2 (At _ _ _ _) aj;clear hA1 hA2 ab f bv bw aj;have y0:=F.cell r0;have y1:=F.cell r1;have y2:=F.cell r2;have y3:=F.cell r3;have z0:=F.cell u0;have z1:=F.cell u1;have z2:=F.cell u2;have z3:=F.cell u3;have ac:=aC.trans F;have aD:=bO.ext F;have bA:=iG.ext F;have bg:=F.cell am;have bh:=F.cell an;have ay:=bn.c 0 rfl;have az:=bn.c 1 rfl;have O:=bj.c 0 rfl;have P:=bj.c 1 rfl
  have iL:AD w6 (.agg (Ab s5 a5 n5 c5).toArray) (L:Int):=⟨s5,a5,n5,c5,rfl,bU,ce⟩;have iR:AD w6 (.agg (Ab s6 a6 n6 c6).toArray) (R:Int):=⟨s6,a6,n6,c6,rfl,bV,cf⟩;clear r0 r1 r2 r3 u0 u1 u2 u3 am an aO aP;have aE:=fun(j:World) (f:Ext w6 j)=>qh (And.intro (f.cell y0) (And.intro (f.cell y1) (And.intro (f.cell y2) (And.intro (f.cell y3) (And.intro (f.cell z0) (And.intro (f.cell z1) (And.intro (f.cell z2) (And.intro (f.cell z3) (And.intro (f.cell ay) (And.intro (f.cell az) (And.intro (f.cell O) (f.cell P))))))))))))
  refine Ac
   [hdP w.heap.size 0,he (.agg #[.bool s,.slice a n c]),he (.agg #[.bool s5,.slice a5 n5 c5]),hp (fun v j=>NI (p.num*(L:Int)) v j),hdP (w.heap.size+1) 0,he (.agg #[.bool s',.slice a' n' c']),he (.agg #[.bool s6,.slice a6 n6 c6]),hp (fun v j=>NI (q.num*(R:Int)) v j),hp (fun v j=>NI (N) v j),hp (NP w6.heap.size)]
   ⟨NI.x _,NI.x _,NI.x _,NP.x _,trivial⟩ ⟨?o0,?o1,?o2,?o3,?o4,?o5,?o6,?o7,?o8,?o9,trivial⟩ ?fin
  case o0 | o4=>exact ofa (d:=0)
  case o1 | o2 | o5 | o6=>exact ol2
  case o3 =>
   refine Ae rfl fun ρ j f E Q h => ?_;have e1:_=_:=h.2.1;have e2:_=_:=h.2.2.1;obtain⟨S,T,U,V,W,X,Y,Z,ay,az,O,P⟩:=(aE j f).out;refine⟨163,#[.agg #[.bool s,.slice a n c],.agg #[.bool s5,.slice a5 n5 c5]],by go_simp,((bp j (ac.trans f) _ (iL.ext f)).out).mono ?_⟩;rintro e w' ⟨s',a',n',c',rfl,A,D,C⟩;exact⟨_,rfl,A,s',a',n',c',rfl,D,C⟩
  case o7 =>
   refine Ae rfl fun ρ j f E Q h => ?_;have e1:_=_:=h.2.1;have e2:_=_:=h.2.2.1;obtain⟨S,T,U,V,W,X,Y,Z,ay,az,O,P⟩:=(aE j f).out;refine⟨163,#[.agg #[.bool s',.slice a' n' c'],.agg #[.bool s6,.slice a6 n6 c6]],by go_simp,((br j (ac.trans f) _ (iR.ext f)).out).mono ?_⟩;rintro e w' ⟨s',a',n',c',rfl,A,D,C⟩;exact⟨_,rfl,A,s',a',n',c',rfl,D,C⟩
  case o8 =>
   refine Ae rfl fun ρ j f E Q h => ?_;obtain⟨v1,e1,s1,a1,n1,c1,rfl,i1,j1⟩:=h.2.1;obtain⟨v2,e2,s2,a2,n2,c2,rfl,i2,j2⟩:=h.2.2.1;obtain⟨S,T,U,V,W,X,Y,Z,ay,az,O,P⟩:=(aE j f).out;refine⟨208,#[.agg (Ab s1 a1 n1 c1).toArray,.agg (Ab s2 a2 n2 c2).toArray],by go_simp,((aK j _ _ ⟨s1,a1,n1,c1,rfl,i1,j1⟩ ⟨s2,a2,n2,c2,rfl,i2,j2⟩).out).mono ?_⟩;rintro e w' ⟨s',a',n',c',rfl,A,D,C⟩;exact⟨_,rfl,A,s',a',n',c',rfl,D,C⟩
  case o9 =>
   exact Cq rfl rfl (fun _ h=>h.size)
  case fin =>
   intro j f;rintro _ ⟨bC,ba,bB,bb,rfl,aX,b5⟩;rintro _ ⟨cv,bZ,cu,c0,rfl,bI,bP⟩;rintro _ ⟨s7,a7,n7,c7,rfl,bW,cp⟩;rintro _ ⟨g7,cD,rfl,l7,A7,k7,U7⟩;change wpList _ _ _ _ _ _;simp only[A0];have ck:(Ab s7 a7 n7 c7).toArray=#[.bool s7,.slice a7 n7 c7]:=rfl
   go_upto_region 10 with(refine Aa (vs:=Ab s7 a7 n7 c7) rfl rfl rfl rfl rfl Ak A7 k7 (Ad _ _ _ _) ?_;intro w7 bk aL)
   have cc:Ext w6 w7:=f.grownR aL l7;have iN:AD w7 (.agg (Ab s7 a7 n7 c7).toArray) N:=⟨s7,a7,n7,c7,rfl,bW,cp.kept A7 U7 aL⟩;have I:=bk.c 0 rfl;have J:=bk.c 1 rfl;clear ck bp br aK f aL A7 U7 k7 l7
   go_wp2_with fail
   refine(ct _ _ iN).out.mono ?_;rintro e w8 ⟨rfl,bm⟩;have a4:=cc.trans bm;have bM:=ac.trans a4;have b0:=aD.ext a4;by_cases ag:N=0
   · have bY:=HZ ag;rw[gX ag];clear ag HZ HO
     go_wp2_with(refine Aa (vs:=Ah false none 0 0 false none 0 0) rfl rfl rfl rfl rfl Af b0 rfl (Ag _ _ _ _ _ _ _ _) ?_;intro w9 ad ak)
     refine oM (Ai rfl Af rfl ad) rfl ?_;rw[bY.out];exact Bc bM b0 (AC _ _ _ _ _ _ _ _) ak (by omega) (qh rfl) (Wd.nil _) (Wd.nil _)
   · rw[pb ag];clear ag HZ;have bD:=a4.cell bg;have bE:=a4.cell bh
     go_wp2_with fail
     refine(ci _ _ (bA.ext a4)).out.mono ?_;rintro e cw ⟨rfl,aY⟩;have l:=a4.trans aY;have aA:=bm.trans aY;have aB:=ac.trans l;have bF:=aD.ext l;have I:=aA.cell I;have J:=aA.cell J;have iN:=iN.ext aA;clear bD bE;have r0:=l.cell y0;have r1:=l.cell y1;have r2:=l.cell y2;have r3:=l.cell y3;have u0:=l.cell z0;have u1:=l.cell z1;have u2:=l.cell z2;have u3:=l.cell z3;by_cases af:G=1
     · have b8:=HO af;rw[gX af];rw[<-b8.out.1]at iN;rw[<-b8.out.2]at aN;clear af HO;go_wp2;have b7:=fun(j:World) (f:Ext cw j)=>qh (And.intro (f.cell r0) (And.intro (f.cell r1) (And.intro (f.cell r2) (And.intro (f.cell r3) (And.intro (f.cell u0) (And.intro (f.cell u1) (And.intro (f.cell u2) (And.intro (f.cell u3) (And.intro (f.cell I) (f.cell J))))))))))
       refine Ac
        [he (.agg #[.bool s7,.slice a7 n7 c7]),hdP w.heap.size 2,he (.agg #[.bool false,.slice b m d]),hdP (w.heap.size+1) 2,he (.agg #[.bool false,.slice b' m' d']),hp (fun v j=>NI (((p+q).den:Int)) v j),hp (fun v j=>∃ cs,v = .agg cs.toArray/\CU j cs (p+q))]
        ⟨NI.x _,fun v w w' e ⟨cs,h1,h2⟩=>⟨cs,h1,h2.ext e⟩,trivial⟩ ⟨?o0,?o1,?o2,?o3,?o4,?o5,?o6,trivial⟩ ?fin
       case o0 | o2 | o4=>exact ol2
       case o1 | o3=>exact ofa (d:=2)
       case o5 =>
        refine Ae rfl fun ρ j f E Q h => ?_;have e1:_=_:=h.2.1;have e2:_=_:=h.2.2.1;obtain⟨S,T,U,V,W,X,Y,Z,I,J⟩:=(b7 j f).out;refine⟨163,#[.agg #[.bool false,.slice b m d],.agg #[.bool false,.slice b' m' d']],by go_simp,((aN j (aB.trans f)).out).mono ?_⟩;rintro e w' ⟨s',a',n',c',rfl,A,D,C⟩;exact⟨_,rfl,A,s',a',n',c',rfl,D,C⟩
       case o6 =>
        refine Ae rfl fun ρ j f E Q h => ?_;have e1:_=_:=h.2.1;obtain⟨v2,e2,s2,a2,n2,c2,rfl,i2,j2⟩:=h.2.2.1;obtain⟨S,T,U,V,W,X,Y,Z,I,J⟩:=(b7 j f).out;refine⟨166,#[.agg #[.bool s7,.slice a7 n7 c7],.agg (Ab s2 a2 n2 c2).toArray],by go_simp,(Co (q:=p+q) (iN.ext f) ⟨s2,a2,n2,c2,rfl,i2,j2⟩).mono ?_⟩;rintro e w' ⟨cs,rfl,A,aQ⟩;exact⟨_,rfl,A,cs,rfl,aQ⟩
       case fin =>
        intro j f;rintro _ ⟨bC,ba,bB,bb,rfl,aX,b5⟩;rintro _ ⟨_,rfl,s9,a9,n9,c9,b9,m9,d9,rfl,aF,aR,aS⟩;change wpList _ _ _ _ _ _;simp only[A0];have ah:=bF.ext f;have cm:(Ah s9 a9 n9 c9 false b9 m9 d9).toArray=#[.bool s9,.slice a9 n9 c9,.bool false,.slice b9 m9 d9]:=rfl
        go_wp2_with(refine Aa (vs:=Ah s9 a9 n9 c9 false b9 m9 d9) rfl rfl rfl rfl rfl Af ah rfl (Ag _ _ _ _ _ _ _ _) ?_;intro w9 ad ak)
        exact oM (Ai rfl Af rfl ad) rfl (Bc (aB.trans f) ah (AC _ _ _ _ _ _ _ _) ak (by omega) aF aR aS)
     · rw[pb af];have bD:=l.cell bg;have bE:=l.cell bh;clear af HO
       go_wp2_with fail
       refine(bo _ aB _ _ iN (bA.ext l)).out.mono ?_;rintro e aU ⟨s8,a8,n8,c8,rfl,bJ,bX,cq⟩;have cl:(Ab s8 a8 n8 c8).toArray=#[.bool s8,.slice a8 n8 c8]:=rfl;have hY:=Arr.new aU 83 (Ab false none 0 0)
       go_upto_region 15 with(refine Aa (vs:=Ab s8 a8 n8 c8) rfl rfl rfl rfl rfl Ak hY rfl (Ad _ _ _ _) ?_;intro aV bl ch)
       have aZ:Ext aU aV:=((Ext.refl aU).alloc _).grownR ch (lrf _);have M:=bJ.trans aZ;have t:=l.trans M;have aW:=ac.trans t;have bH:=aD.ext t;have I:=M.cell I;have J:=M.cell J;have iN:=iN.ext M;have bQ:=iR.ext t;have O:=t.cell O;have P:=t.cell P;have iK:AD aV (.agg (Ab s8 a8 n8 c8).toArray) (K:Int):=⟨s8,a8,n8,c8,rfl,bX,cq.ext aZ⟩;have ao:=bl.c 0 rfl;have ap:=bl.c 1 rfl;have y0:=t.cell y0;have y1:=t.cell y1;have y2:=t.cell y2;have y3:=t.cell y3;have z0:=t.cell z0
       have z1:=t.cell z1;have z2:=t.cell z2;have z3:=t.cell z3;clear cl hY;have ar:=fun(j:World) (f:Ext aV j)=>qh (And.intro (f.cell y0) (And.intro (f.cell y1) (And.intro (f.cell y2) (And.intro (f.cell y3) (And.intro (f.cell z0) (And.intro (f.cell z1) (And.intro (f.cell z2) (And.intro (f.cell z3) (And.intro (f.cell O) (And.intro (f.cell P) (And.intro (f.cell I) (And.intro (f.cell J) (And.intro (f.cell ao) (f.cell ap))))))))))))))
       refine Ac
        [he (.agg #[.bool s7,.slice a7 n7 c7]),he (.agg #[.bool s8,.slice a8 n8 c8]),hp (fun v j=>NI ((p+q).num) v j),he (.agg #[.bool s6,.slice a6 n6 c6]),hdP (w.heap.size+1) 2,he (.agg #[.bool false,.slice b' m' d']),he (.agg #[.bool s8,.slice a8 n8 c8]),hp (fun v j=>NI (((q.den/K:Nat):Int)) v j),hp (fun v j=>NI (((p+q).den:Int)) v j),hp (fun v j=>∃ cs,v = .agg cs.toArray/\CU j cs (p+q))]
        ⟨NI.x _,NI.x _,NI.x _,fun v w w' e ⟨cs,h1,h2⟩=>⟨cs,h1,h2.ext e⟩,trivial⟩ ⟨?o0,?o1,?o2,?o3,?o4,?o5,?o6,?o7,?o8,?o9,trivial⟩ ?fin
       case o0 | o1 | o3 | o5 | o6=>exact ol2
       case o4=>exact ofa (d:=2)
       case o2 =>
        refine Ae rfl fun ρ j f E Q h => ?_;have e1:_=_:=h.2.1;have e2:_=_:=h.2.2.1;obtain⟨S,T,U,V,W,X,Y,Z,O,P,I,J,ao,ap⟩:=(ar j f).out;refine⟨209,#[.agg #[.bool s7,.slice a7 n7 c7],.agg #[.bool s8,.slice a8 n8 c8]],by go_simp,((bt j _ _ (iN.ext f) (iK.ext f)).out).mono ?_⟩;rintro e w' ⟨s',a',n',c',rfl,A,D,C⟩;exact⟨_,rfl,A,s',a',n',c',rfl,D,C⟩
       case o7 =>
        refine Ae rfl fun ρ j f E Q h => ?_;have e1:_=_:=h.2.1;have e2:_=_:=h.2.2.1;obtain⟨S,T,U,V,W,X,Y,Z,O,P,I,J,ao,ap⟩:=(ar j f).out;refine⟨209,#[.agg #[.bool false,.slice b' m' d'],.agg #[.bool s8,.slice a8 n8 c8]],by go_simp,((bu j (aW.trans f) _ (iK.ext f)).out).mono ?_⟩;rintro e w' ⟨s',a',n',c',rfl,A,D,C⟩;exact⟨_,rfl,A,s',a',n',c',rfl,D,C⟩
       case o8 =>
        refine Ae rfl fun ρ j f E Q h => ?_;have e1:_=_:=h.2.1;obtain⟨v2,e2,s2,a2,n2,c2,rfl,i2,j2⟩:=h.2.2.1;obtain⟨S,T,U,V,W,X,Y,Z,O,P,I,J,ao,ap⟩:=(ar j f).out;refine⟨163,#[.agg #[.bool s6,.slice a6 n6 c6],.agg (Ab s2 a2 n2 c2).toArray],by go_simp,((bs j _ _ (bQ.ext f) ⟨s2,a2,n2,c2,rfl,i2,j2⟩).out).mono ?_⟩;rintro e w' ⟨s',a',n',c',rfl,A,D,C⟩;exact⟨_,rfl,A,s',a',n',c',rfl,D,C⟩
       case o9 =>
        refine Ae rfl fun ρ j f E Q h => ?_;obtain⟨v1,e1,s1,a1,n1,c1,rfl,i1,j1⟩:=h.2.1;obtain⟨v2,e2,s2,a2,n2,c2,rfl,i2,j2⟩:=h.2.2.1;obtain⟨S,T,U,V,W,X,Y,Z,O,P,I,J,ao,ap⟩:=(ar j f).out;refine⟨166,#[.agg (Ab s1 a1 n1 c1).toArray,.agg (Ab s2 a2 n2 c2).toArray],by go_simp,(Co (q:=p+q) ⟨s1,a1,n1,c1,rfl,i1,j1⟩ ⟨s2,a2,n2,c2,rfl,i2,j2⟩).mono ?_⟩;rintro e w' ⟨cs,rfl,A,aQ⟩;exact⟨_,rfl,A,cs,rfl,aQ⟩
       case fin =>
        intro j f;rintro _ ⟨bC,ba,bB,bb,rfl,aX,b5⟩;rintro _ ⟨cv,bZ,cu,c0,rfl,bI,bP⟩;rintro _ ⟨cF,cz,cE,cA,rfl,cx,cy⟩;rintro _ ⟨_,rfl,s9,a9,n9,c9,b9,m9,d9,rfl,aF,aR,aS⟩;change wpList _ _ _ _ _ _;simp only[A0];have ah:=bH.ext f;have cm:(Ah s9 a9 n9 c9 false b9 m9 d9).toArray=#[.bool s9,.slice a9 n9 c9,.bool false,.slice b9 m9 d9]:=rfl
        go_wp2_with(refine Aa (vs:=Ah s9 a9 n9 c9 false b9 m9 d9) rfl rfl rfl rfl rfl Af ah rfl (Ag _ _ _ _ _ _ _ _) ?_;intro w9 ad ak)
        exact oM (Ai rfl Af rfl ad) rfl (Bc (aW.trans f) ah (AC _ _ _ _ _ _ _ _) ak (by omega) aF aR aS)
theorem TZ(i:AV w)(h:BL w v p)(e:BL w v' q)(b:p.num.natAbs<P2 2400)(f:p.den<P2 2400)(c:q.num.natAbs<P2 2400)(g:q.den<P2 2400):Calls prog 146 #[v,v'] w (Fb w (p+q)):=by
 by_cases d:p.den=1
 · by_cases a:q.den=1
   · exact OG h e b c d a
   · exact OH h e b c g d a
 · by_cases a:q.den=1
   · exact OI h e b c f d a
   · exact Nc i h e b f c g d a
def NR(q:Rat)(v:Value)(w:World):Prop:=∃ cs,v = .agg cs.toArray/\CU w cs q
theorem NR.x(q:Rat):StX (NR q):=fun _ _ _ e ⟨a,h1,h2⟩=>⟨a,h1,h2.ext e⟩
theorem Nd(h:BL w v q):Calls prog 129 #[v] w (Fb w q⁻¹):=by
 have a4:=fun(f:World) (g:Ext w f)=>qh (GC (h.ext g));obtain⟨_,rfl,s,a,n,c,b,m,d,rfl,HS,hx,hy⟩:=h;have af:=fun(f:World) (g:Ext w f)=>qh (JC (r:=q.num.sign) (AG HS (hx.ext g)) rfl);have V:=fun(f:World) (g:Ext w f)=>qh (IE (AG HS (hx.ext g)));have ae:=fun(f:World) (g:Ext w f)=>AG HS (hx.ext g)
 go_enter func129,ntmps129
 go_upto_region 1 with(fail)
 refine Ch ?_;intro w0 a3 I ac ag;have p0:=I.c 0 rfl;have p1:=I.c 1 rfl;have p2:=I.c 2 rfl;have p3:=I.c 3 rfl;have hR:Arr w0 (w.heap.size+1) 85 (Ah false none 0 0 false none 0 0):=ac;clear ag
 go_wp2_with fail
 refine(af _ a3).out.mono ?_;rintro e w1 ⟨rfl,p⟩;have k:=a3.trans p;have J:=hR.ext p;have r0:=p.cell p0;have r1:=p.cell p1;have r2:=p.cell p2;have r3:=p.cell p3;clear p0 p1 p2 p3;rcases Int.lt_trichotomy q.num 0 with C|C|C
 · have N:=qh (Pl.rat_inv_neg C);rw[jX C];have z : -q.num=((q.num.natAbs:Nat):Int):=by omega
   rw[z]at V;rw[<-N.out.2]at V;clear C z;go_wp2;have H:=fun(f:World) (g:Ext w1 f)=>qh (And.intro (g.cell r0) (And.intro (g.cell r1) (And.intro (g.cell r2) (g.cell r3))))
   refine Ac
    [he (.agg #[.bool s,.slice a n c,.bool false,.slice b m d]),hp (fun v f=>NI ((q.den:Int)) v f),hp (fun v f=>NI (-(q.den:Int)) v f),hdP w.heap.size 0,he (.agg #[.bool s,.slice a n c]),hp (fun v f=>NI (((q⁻¹).den:Int)) v f),hp (fun v f=>NR (q⁻¹) v f)]
    ⟨NI.x _,NI.x _,NI.x _,NR.x _,trivial⟩ ⟨?o0,?o1,?o2,?o3,?o4,?o5,?o6,trivial⟩ ?fin
   case o0=>exact ol4
   case o3=>exact ofa (d:=0)
   case o4=>exact ol2
   case o1 =>
    refine Ae rfl fun ρ f g j A h => ?_;have e1:_=_:=h.2.1;obtain⟨D,E,F,G⟩:=(H f g).out;refine⟨165,#[.agg #[.bool s,.slice a n c,.bool false,.slice b m d]],by go_simp,((a4 f (k.trans g)).out).mono ?_⟩;rintro e w' ⟨s',P,n',S,rfl,i,o,l⟩;exact⟨_,rfl,i,s',P,n',S,rfl,o,l⟩
   case o2 =>
    refine Ae rfl fun ρ f g j A h => ?_;obtain⟨v1,e1,s1,K,M,L,rfl,i1,j1⟩:=h.2.1;obtain⟨D,E,F,G⟩:=(H f g).out;refine⟨140,#[.agg (Ab s1 K M L).toArray],by go_simp,(IE ⟨s1,K,M,L,rfl,i1,j1⟩).mono ?_⟩;rintro e w' ⟨s',P,n',S,rfl,i,o,l⟩;exact⟨_,rfl,i,s',P,n',S,rfl,o,l⟩
   case o5 =>
    refine Ae rfl fun ρ f g j A h => ?_;have e1:_=_:=h.2.1;obtain⟨D,E,F,G⟩:=(H f g).out;refine⟨140,#[.agg #[.bool s,.slice a n c]],by go_simp,((V f (k.trans g)).out).mono ?_⟩;rintro e w' ⟨s',P,n',S,rfl,i,o,l⟩;exact⟨_,rfl,i,s',P,n',S,rfl,o,l⟩
   case o6 =>
    refine Ae rfl fun ρ f g j A h => ?_;obtain⟨v1,e1,s1,K,M,L,rfl,i1,j1⟩:=h.2.1;obtain⟨v2,e2,s2,a2,n2,c2,rfl,i2,j2⟩:=h.2.2.1;obtain⟨D,E,F,G⟩:=(H f g).out;refine⟨166,#[.agg (Ab s1 K M L).toArray,.agg (Ab s2 a2 n2 c2).toArray],by go_simp,(Co (q:=q⁻¹) (by rw[N.out.1];exact⟨s1,K,M,L,rfl,i1,j1⟩) ⟨s2,a2,n2,c2,rfl,i2,j2⟩).mono ?_⟩;rintro e w' ⟨cs,rfl,i,W⟩;exact⟨_,rfl,i,cs,rfl,W⟩
   case fin =>
    intro f g;rintro _ ⟨ai,aa,ah,ab,rfl,a6,a8⟩;rintro _ ⟨av,an,ar,ap,rfl,aj,al⟩;rintro _ ⟨aw,ao,au,aq,rfl,ak,am⟩;rintro _ ⟨_,rfl,s9,Q,n9,T,R,Z,U,rfl,O,X,Y⟩;change wpList _ _ _ _ _ _;simp only[A0];have y:=J.ext g;have ad:(Ah s9 Q n9 T false R Z U).toArray=#[.bool s9,.slice Q n9 T,.bool false,.slice R Z U]:=rfl
    go_wp2_with(refine Aa (vs:=Ah s9 Q n9 T false R Z U) rfl rfl rfl rfl rfl Af y rfl (Ag _ _ _ _ _ _ _ _) ?_;intro w9 t B)
    exact oM (Ai rfl Af rfl t) rfl (Bc (k.trans g) y (AC _ _ _ _ _ _ _ _) B (by omega) O X Y)
 · have N:Hid (q⁻¹=0):=qh (by rw[Pl.rat_num_den_zero.1 C];exact Pl.rat_inv_zero);rw[C];have a5:Int.sign 0=0:=rfl;rw[a5];clear C a5
   go_wp2_with(refine Aa (vs:=Ah false none 0 0 false none 0 0) rfl rfl rfl rfl rfl Af J rfl (Ag _ _ _ _ _ _ _ _) ?_;intro w9 t B)
   refine oM (Ai rfl Af rfl t) rfl ?_;rw[N.out];exact Bc k J (AC _ _ _ _ _ _ _ _) B (by omega) (qh rfl) (Wd.nil _) (Wd.nil _)
 · have N:=qh (Pl.rat_inv_pos C);rw[jI C];have z:q.num=((q.num.natAbs:Nat):Int):=by omega
   have a7:∀ (f:World),Ext w f->AD f (.agg (Ab s a n c).toArray) ((q⁻¹).den:Int):=by
    intro f g;rw[N.out.2,<-z];exact ae f g
   clear C z;go_wp2;have a0:=fun(f:World) (g:Ext w1 f)=>qh (And.intro (g.cell r0) (And.intro (g.cell r1) (And.intro (g.cell r2) (g.cell r3))))
   refine Ac
    [he (.agg #[.bool s,.slice a n c,.bool false,.slice b m d]),hp (fun v f=>NI ((q.den:Int)) v f),hdP w.heap.size 0,he (.agg #[.bool s,.slice a n c]),hp (fun v f=>NR (q⁻¹) v f)]
    ⟨NI.x _,NR.x _,trivial⟩ ⟨?o0,?o1,?o2,?o3,?o4,trivial⟩ ?fin
   case o0=>exact ol4
   case o2=>exact ofa (d:=0)
   case o3=>exact ol2
   case o1 =>
    refine Ae rfl fun ρ f g j A h => ?_;have e1:_=_:=h.2.1;obtain⟨D,E,F,G⟩:=(a0 f g).out;refine⟨165,#[.agg #[.bool s,.slice a n c,.bool false,.slice b m d]],by go_simp,((a4 f (k.trans g)).out).mono ?_⟩;rintro e w' ⟨s',P,n',S,rfl,i,o,l⟩;exact⟨_,rfl,i,s',P,n',S,rfl,o,l⟩
   case o4 =>
    refine Ae rfl fun ρ f g j A h => ?_;obtain⟨v1,e1,s1,K,M,L,rfl,i1,j1⟩:=h.2.1;have e2:_=_:=h.2.2.1;obtain⟨D,E,F,G⟩:=(a0 f g).out;refine⟨166,#[.agg (Ab s1 K M L).toArray,.agg #[.bool s,.slice a n c]],by go_simp,(Co (q:=q⁻¹) (by rw[N.out.1];exact⟨s1,K,M,L,rfl,i1,j1⟩) (a7 f (k.trans g))).mono ?_⟩;rintro e w' ⟨cs,rfl,i,W⟩;exact⟨_,rfl,i,cs,rfl,W⟩
   case fin =>
    intro f g;rintro _ ⟨ai,aa,ah,ab,rfl,a6,a8⟩;rintro _ ⟨_,rfl,s9,Q,n9,T,R,Z,U,rfl,O,X,Y⟩;change wpList _ _ _ _ _ _;simp only[A0];have y:=J.ext g;have ad:(Ah s9 Q n9 T false R Z U).toArray=#[.bool s9,.slice Q n9 T,.bool false,.slice R Z U]:=rfl
    go_wp2_with(refine Aa (vs:=Ah s9 Q n9 T false R Z U) rfl rfl rfl rfl rfl Af y rfl (Ag _ _ _ _ _ _ _ _) ?_;intro w9 t B)
    exact oM (Ai rfl Af rfl t) rfl (Bc (k.trans g) y (AC _ _ _ _ _ _ _ _) B (by omega) O X Y)
def Wq(S:Nat->Prop)(v:Value):Prop:=∀ s a n c b m d,v = .agg (Ah s a n c false b m d).toArray->0<n->∀ g,blk a=some g->S g
theorem Nf{S:Nat->Prop}(h:BL w v q)(h':AD w v' (k:Int))(N:q.num.natAbs<P2 2400)(b2:q.den<P2 9600)(W:k<P2 9600)(a3:Wq S v)(T:Hb S v'):Calls prog 187 #[v,v'] w (JB w S (q.num*((k/q.den:Nat):Int))):=by
 obtain⟨_,rfl,s,a,n,c,b,m,d,rfl,HS,hx,hy⟩:=h;have V:Hb S (.agg (Ab s a n c).toArray):=ID (a3 s a n c b m d rfl);have ad:=fun(j:World) (i:Ext w j)=>qh (Az (r:=decide (q.den=1)) (A3 (hy.ext i)) (jL.2 AA));have a8:=fun(j:World) (i:Ext w j)=>qh (JD (AG HS (hx.ext i)) (h'.ext i) (Aj N (by omega)) W (Or.inl (Aj N (by omega))) V T);have K:q.den≠1->∀ (j:World) (i:Ext w j),Hid (Calls prog 209 #[v',.agg (Ab false b m d).toArray] j (JB j S ((k/q.den:Nat):Int))):=by
  intro D j i;have:=M1 (h'.ext i) (A3 (hy.ext i)) W (by rw[AZ D];exact b2) (mt AA.1 D) T;rw[C0 D,ib (by omega),<-mc]at this;exact qh this
 have a9:=fun(j:World) (i:Ext w j) (x:Value) (hv:AD j x ((k/q.den:Nat):Int)) (hsx:Hb (fun g=>w.heap.size<=g\/S g) x)=>qh (JD (AG HS (hx.ext i)) hv (Aj N (by omega)) (oR (gM _ _) W) (Or.inl (Aj N (by omega))) (fun B o z A he h0 g hg=>Or.inr (V B o z A he h0 g hg)) hsx);clear N b2 W;obtain⟨t,e,l,f,rfl,HT,hv⟩:=h'
 go_enter func187,ntmps187
 go_upto_region 1 with(fail)
 refine CR ?_;intro w0 P E O a0 ac;have p0:=E.c 0 rfl;have p1:=E.c 1 rfl;have p2:=E.c 2 rfl;have p3:=E.c 3 rfl;have p4:=O.c 0 rfl;have p5:=O.c 1 rfl;have hR:Arr w0 (w.heap.size+2) 83 (Ab false none 0 0):=a0;clear ac
 go_wp2_with fail
 refine(ad _ P).out.mono ?_;rintro e w1 ⟨rfl,p⟩;have y:=P.trans p;have R:=hR.ext p;have r0:=p.cell p0;have r1:=p.cell p1;have r2:=p.cell p2;have r3:=p.cell p3;have r4:=p.cell p4;have r5:=p.cell p5;clear p0 p1 p2 p3 p4 p5;by_cases D:q.den=1
 · rw[gX D];have HV:Hid (q.num*((k/q.den:Nat):Int)=q.num*(k:Int)):=qh (by rw[D,kH]);clear D
   go_wp2_with fail
   refine(a8 _ y).out.mono ?_;rintro e w2 ⟨s1,Z,n1,c1,rfl,Q,X,aa,a4⟩;have ap:(Ab s1 Z n1 c1).toArray=#[.bool s1,.slice Z n1 c1]:=rfl;have C:=R.ext Q
   go_wp2_with(refine Aa (vs:=Ab s1 Z n1 c1) rfl rfl rfl rfl rfl Ak C rfl (Ad _ _ _ _) ?_;intro w9 F I)
   refine oM (Ai rfl Ak rfl F) rfl ?_;rw[HV.out];exact E6 (y.trans Q) C (At _ _ _ _) I (by omega) X aa (a4.of y.size (fun _ h=>Or.inr h))
 · rw[pb D];have K:=K D;clear D;go_wp2;have M:=fun(j:World) (i:Ext w1 j)=>qh (And.intro (i.cell r0) (And.intro (i.cell r1) (And.intro (i.cell r2) (And.intro (i.cell r3) (And.intro (i.cell r4) (i.cell r5))))))
   refine Ac
    [hdP w.heap.size 0,he (.agg #[.bool s,.slice a n c]),he (.agg #[.bool t,.slice e l f]),hdP w.heap.size 2,he (.agg #[.bool false,.slice b m d]),hp (fun v j=>∃ B o z A,v = .agg (Ab B o z A).toArray/\Hid (decide (((k/q.den:Nat):Int)<0)=B)/\Wd j o z A (((k/q.den:Nat):Int)).natAbs/\Ft w.heap.size S o z),hp (fun v j=>∃ B o z A,v = .agg (Ab B o z A).toArray/\Hid (decide (q.num*((k/q.den:Nat):Int)<0)=B)/\Wd j o z A (q.num*((k/q.den:Nat):Int)).natAbs/\Ft w.heap.size S o z)]
    ⟨fun v w w' e ⟨B,o,z,A,h1,h2,h3,h4⟩=>⟨B,o,z,A,h1,h2,h3.ext e,h4⟩,fun v w w' e ⟨B,o,z,A,h1,h2,h3,h4⟩=>⟨B,o,z,A,h1,h2,h3.ext e,h4⟩,trivial⟩ ⟨?o0,?o1,?o2,?o3,?o4,?o5,?o6,trivial⟩ ?fin
   case o0=>exact ofa (d:=0)
   case o1 | o2 | o4=>exact ol2
   case o3=>exact ofa (d:=2)
   case o5 =>
    refine Ae rfl fun ρ j i U a7 h => ?_;have e1:_=_:=h.2.1;have e2:_=_:=h.2.2.1;obtain⟨ae,af,ag,ah,ai,aj⟩:=(M j i).out;refine⟨209,#[.agg #[.bool t,.slice e l f],.agg #[.bool false,.slice b m d]],by go_simp,((K j (y.trans i)).out).mono ?_⟩;rintro e w' ⟨B,o,z,A,rfl,G,L,J,H⟩;exact⟨_,rfl,G,B,o,z,A,rfl,L,J,H.of (y.trans i).size (fun _ h=>Or.inr h)⟩
   case o6 =>
    refine Ae rfl fun ρ j i U a7 h => ?_;have e1:_=_:=h.2.1;obtain⟨v2,e2,s2,a2,n2,c2,rfl,i2,j2,f2⟩:=h.2.2.1;obtain⟨ae,af,ag,ah,ai,aj⟩:=(M j i).out;refine⟨163,#[.agg #[.bool s,.slice a n c],.agg (Ab s2 a2 n2 c2).toArray],by go_simp,((a9 j (y.trans i) _ ⟨s2,a2,n2,c2,rfl,i2,j2⟩ (ID f2)).out).mono ?_⟩;rintro e w' ⟨B,o,z,A,rfl,G,L,J,H⟩;exact⟨_,rfl,G,B,o,z,A,rfl,L,J,H.of (y.trans i).size (fun _ h=>h)⟩
   case fin =>
    intro j i;rintro _ ⟨au,an,ar,ao,rfl,ak,am,al⟩;rintro _ ⟨s5,a5,n5,c5,rfl,Y,ab,a6⟩;change wpList _ _ _ _ _ _;simp only[A0];have C:=R.ext i;have aq:(Ab s5 a5 n5 c5).toArray=#[.bool s5,.slice a5 n5 c5]:=rfl
    go_wp2_with(refine Aa (vs:=Ab s5 a5 n5 c5) rfl rfl rfl rfl rfl Ak C rfl (Ad _ _ _ _) ?_;intro w9 F I)
    exact oM (Ai rfl Ak rfl F) rfl (E6 (y.trans i) C (At _ _ _ _) I (by omega) Y ab a6)
theorem OJ(h:BL w v q)(d:AD w v' (k:Int))(a:q.num.natAbs<P2 2400)(b:q.den<P2 9600)(c:k<P2 9600):Calls prog 187 #[v,v'] w (D8 w (q.num*((k/q.den:Nat):Int))) :=
 (Nf (S:=fun _=>True) h d a b c (fun _ _ _ _ _ _ _ _ _ _ _=>trivial) (fun _ _ _ _ _ _ _ _=>trivial)).mono fun _ _ h=>h.plain
theorem GE{x:Int}(hT:AV w)(h:AD w v x)(h':AD w v' (k:Int))(bx:x.natAbs<P2 9600)(bk:k<P2 9600)(hk:k≠0):Calls prog 191 #[v,v'] w (Fb w (mkRat x k)):=by
 have aV:=fun(j:World) (f:Ext w j)=>qh (Az (r:=false) (h'.ext f) (pb (by omega)));have aW:=fun(j:World) (f:Ext w j)=>qh (Az (r:=decide (x=0)) (h.ext f) rfl);have aQ:=fun(j:World) (f:Ext w j)=>qh (JC (r:=1) (h'.ext f) (jI (by omega)));have aN:=fun(j:World) (f:Ext w j)=>qh (Cw (r:=decide (k=1)) (h'.ext f) (jL.2 (by omega)));have hs:=Pl.rat_frac (n:=x) hk;obtain⟨G,hG⟩:∃ G,G=Nat.gcd x.natAbs k:=⟨_,rfl⟩;rw[<-hG]at hs;have aI:0<G:=by rw[hG];exact kR _ (iU hk)
 have bG:G<P2 9600:=oR (by rw[hG];exact nV _ (iU hk)) bk;have ar:=fun(j:World) (f:Ext w j)=>qh (Ez (hT.ext f) (h.ext f) (h'.ext f) bx bk);simp only[pe,<-hG]at ar;have aO:=fun(j:World) (y:Value) (hv:AD j y (G:Int))=>qh (Cw (r:=decide (G=1)) hv (jL.2 (by omega)));have au:=fun(j:World) (f:Ext w j) (g:Value) (hg:AD j g (G:Int))=>qh (DG (h.ext f) hg bx bG (by omega))
 have av:=fun(j:World) (f:Ext w j) (g:Value) (hg:AD j g (G:Int))=>qh (DG (h'.ext f) hg bk bG (by omega));rw[<-hs.1]at au;rw[ib (by omega),<-mc,<-hs.2]at av;have HZ:x=0->Hid (mkRat x k=0):=fun e=>qh (by rw[e];exact Rat.zero_mkRat k)
 have HK:k=1->Hid ((mkRat x k).num=x/\(mkRat x k).den=1):=fun e=>by
  refine qh ?_;rw[hs.1,hs.2,hG,e,kD];exact⟨nf _,rfl⟩
 have HO:G=1->Hid ((mkRat x k).num=x/\(mkRat x k).den=k):=fun e=>by
  refine qh ?_;rw[hs.1,hs.2,e];exact⟨nf _,kH _⟩
 have hI:=fun(j:World) (f:Ext w j)=>h.ext f;have aJ:=fun(j:World) (f:Ext w j)=>h'.ext f;clear bx bk hk hs hG aI bG;obtain⟨s,a,n,c,rfl,HS,hx⟩:=h;obtain⟨t,b,m,d,rfl,HT,hy⟩:=h'
 go_enter func191,ntmps191
 go_upto_region 1 with(fail)
 refine CR ?_;intro w0 A a5 a6 aD aU;have ai:=a5.c 0 rfl;have aj:=a5.c 1 rfl;have Y:=a6.c 0 rfl;have Z:=a6.c 1 rfl;have hA0:Arr w0 w.heap.size 83 (Ab s a n c):=a5;have hA1:Arr w0 (w.heap.size+1) 83 (Ab t b m d):=a6;have hR:Arr w0 (w.heap.size+2) 85 (Ah false none 0 0 false none 0 0):=aD;clear aU
 go_wp2_with fail
 refine(aV _ A).out.mono ?_;rintro e w1 ⟨rfl,V⟩;have Q:=V.cell ai;have R:=V.cell aj
 go_wp2_with fail
 refine(aW _ (A.trans V)).out.mono ?_;rintro e w2 ⟨rfl,aE⟩;have p:=V.trans aE;clear Q R;by_cases P:x=0
 · have aC:=HZ P;rw[gX P];have M:=hR.ext p;clear HZ HK HO P
   go_wp2_with(refine Aa (vs:=Ah false none 0 0 false none 0 0) rfl rfl rfl rfl rfl Af M rfl (Ag _ _ _ _ _ _ _ _) ?_;intro w9 J B)
   refine oM (Ai rfl Af rfl J) rfl ?_;rw[aC.out];exact Bc (A.trans p) M (AC _ _ _ _ _ _ _ _) B (by omega) (qh rfl) (Wd.nil _) (Wd.nil _)
 rw[pb P];clear HZ P;have E:=p.cell Y;have F:=p.cell Z
 go_wp2_with fail
 refine(aQ _ (A.trans p)).out.mono ?_;rintro e w3 ⟨rfl,aF⟩;have H:=p.trans aF;clear E F;have E:=H.cell Y;have F:=H.cell Z
 go_wp2_with fail
 refine(aN _ (A.trans H)).out.mono ?_;rintro e w4 ⟨rfl,aG⟩;have l:=H.trans aG;clear E F;have Q:=l.cell ai;have R:=l.cell aj;have E:=l.cell Y;have F:=l.cell Z;by_cases O:k=1
 · have a0:=HK O;rw[gX O];have M:=hR.ext l;clear HK HO O
   go_wp2_with(refine Aa (vs:=Ah s a n c false none 0 0) rfl rfl rfl rfl rfl Af M rfl (Ag _ _ _ _ _ _ _ _) ?_;intro w9 J B)
   exact oM (Ai rfl Af rfl J) rfl (Bc (A.trans l) M (AC _ _ _ _ _ _ _ _) B (by omega) (by rw[a0.out.1];exact HS) (by rw[a0.out.1];exact hx.ext (A.trans l)) (by rw[AA.2 a0.out.2];exact Wd.nil _))
 rw[pb O];clear HK O
 go_wp2_with fail
 refine(ar _ (A.trans l)).out.mono ?_;rintro e w5 ⟨s3,T,X,U,rfl,aH,aB,aT⟩;have bc:(Ab s3 T X U).toArray=#[.bool s3,.slice T X U]:=rfl;have hY:=Arr.new w5 83 (Ab false none 0 0)
 go_upto_region 8 with(refine Aa (vs:=Ab s3 T X U) rfl rfl rfl rfl rfl Ak hY rfl (Ad _ _ _ _) ?_;intro w6 ap aM)
 have aq:Ext w5 w6:=((Ext.refl w5).alloc _).grownR aM (lrf _);have ag:=ap.c 0 rfl;have ah:=ap.c 1 rfl;have iG:AD w6 (.agg (Ab s3 T X U).toArray) (G:Int):=⟨s3,T,X,U,rfl,aB,aT.ext aq⟩
 go_wp2_with fail
 refine(aO _ _ iG).out.mono ?_;rintro e w7 ⟨rfl,W⟩;have ax:=(aH.trans aq).trans W;have o:=l.trans ax;have z:=A.trans o;have am:=hR.ext o;have ag:=W.cell ag;have ah:=W.cell ah;have iG:=iG.ext W;have hA0:=hA0.ext o;have hA1:=hA1.ext o;clear Q R E F;have Q:=o.cell ai;have R:=o.cell aj;have E:=o.cell Y;have F:=o.cell Z;by_cases K:G=1
 · have ao:=HO K;rw[gX K];clear HO K;have i1:=hI _ z;have i2:=aJ _ z;rw[<-ao.out.1]at i1;rw[<-ao.out.2]at i2
   go_wp2_with fail
   refine(Co (q:=mkRat x k) i1 i2).mono ?_;rintro e b3 ⟨cs,rfl,C,s9,a9,n9,c9,b9,m9,d9,rfl,a4,ae,af⟩;have aP:(Ah s9 a9 n9 c9 false b9 m9 d9).toArray=#[.bool s9,.slice a9 n9 c9,.bool false,.slice b9 m9 d9]:=rfl;have L:=am.ext C
   go_wp2_with(refine Aa (vs:=Ah s9 a9 n9 c9 false b9 m9 d9) rfl rfl rfl rfl rfl Af L rfl (Ag _ _ _ _ _ _ _ _) ?_;intro b4 I N)
   exact oM (Ai rfl Af rfl I) rfl (Bc (z.trans C) L (AC _ _ _ _ _ _ _ _) N (by omega) a4 ae af)
 · rw[pb K];clear HO K;go_wp2;have an:=fun(j:World) (f:Ext w7 j)=>qh (And.intro (f.cell Q) (And.intro (f.cell R) (And.intro (f.cell E) (And.intro (f.cell F) (And.intro (f.cell ag) (f.cell ah))))))
   refine Ac
    [he (.agg #[.bool s,.slice a n c]),he (.agg #[.bool s3,.slice T X U]),hp (fun v j=>NI ((mkRat x k).num) v j),he (.agg #[.bool t,.slice b m d]),he (.agg #[.bool s3,.slice T X U]),hp (fun v j=>NI (((mkRat x k).den:Int)) v j)]
    ⟨NI.x _,NI.x _,trivial⟩ ⟨?o0,?o1,?o2,?o3,?o4,?o5,trivial⟩ ?fin
   case o0 | o1 | o3 | o4=>exact ol2
   case o2 =>
    refine Ae rfl fun ρ j f ay aL h => ?_;have e1:_=_:=h.2.1;have e2:_=_:=h.2.2.1;obtain⟨aX,aY,aZ,b0,b1,b2⟩:=(an j f).out;refine⟨209,#[.agg #[.bool s,.slice a n c],.agg #[.bool s3,.slice T X U]],by go_simp,((au j (z.trans f) _ (iG.ext f)).out).mono ?_⟩;rintro e w' ⟨s',a',n',c',rfl,a7,ad,ac⟩;exact⟨_,rfl,a7,s',a',n',c',rfl,ad,ac⟩
   case o5 =>
    refine Ae rfl fun ρ j f ay aL h => ?_;have e1:_=_:=h.2.1;have e2:_=_:=h.2.2.1;obtain⟨aX,aY,aZ,b0,b1,b2⟩:=(an j f).out;refine⟨209,#[.agg #[.bool t,.slice b m d],.agg #[.bool s3,.slice T X U]],by go_simp,((av j (z.trans f) _ (iG.ext f)).out).mono ?_⟩;rintro e w' ⟨s',a',n',c',rfl,a7,ad,ac⟩;exact⟨_,rfl,a7,s',a',n',c',rfl,ad,ac⟩
   case fin =>
    intro j f;rintro _ ⟨s1,a1,n1,c1,rfl,az,aR⟩;rintro _ ⟨s2,a2,n2,c2,rfl,aA,aS⟩;change wpList _ _ _ _ _ _;simp only[A0];have a8:=hA0.ext f;have aK:=hA1.ext f;have ab:=am.ext f;have ba:(Ab s1 a1 n1 c1).toArray=#[.bool s1,.slice a1 n1 c1]:=rfl;have bb:(Ab s2 a2 n2 c2).toArray=#[.bool s2,.slice a2 n2 c2]:=rfl
    go_upto_region 10 with(first
     | (refine Aa (vs:=Ab s1 a1 n1 c1) rfl rfl rfl rfl rfl Ak a8 rfl (Ad _ _ _ _) ?_;intro w9 J B;have aa:=aK.kept B (by simp))
     | (refine Aa (vs:=Ab s2 a2 n2 c2) rfl rfl rfl rfl rfl Ak aa rfl (Ad _ _ _ _) ?_;intro S ak D))
    have al:=J.kept D (by simp);have ab:=(ab.kept B (by simp)).kept D (by simp);have aw:Ext w S:=((z.trans f).grownR B (lrf _)).grownR D (by omega);have i1:AD S (.agg (Ab s1 a1 n1 c1).toArray) (mkRat x k).num:=⟨s1,a1,n1,c1,rfl,az,(aR.kept a8 (At _ _ _ _) B).kept aa (At _ _ _ _) D⟩;have i2:AD S (.agg (Ab s2 a2 n2 c2).toArray) ((mkRat x k).den:Int):=⟨s2,a2,n2,c2,rfl,aA,(aS.kept a8 (At _ _ _ _) B).kept aa (At _ _ _ _) D⟩;have b5:S.cell? ⟨w.heap.size,0,none⟩=some (.bool s1):=al.cell (i:=0) (by simp[Ab])
    have b6:S.cell? ⟨w.heap.size,1,none⟩=some (.slice a1 n1 c1):=al.cell (i:=1) (by simp[Ab]);have b7:=ak.c 0 rfl;have b8:=ak.c 1 rfl
    go_wp2_with fail
    refine(Co (q:=mkRat x k) i1 i2).mono ?_;rintro e b3 ⟨cs,rfl,C,s9,a9,n9,c9,b9,m9,d9,rfl,a4,ae,af⟩;have aP:(Ah s9 a9 n9 c9 false b9 m9 d9).toArray=#[.bool s9,.slice a9 n9 c9,.bool false,.slice b9 m9 d9]:=rfl;have L:=ab.ext C
    go_wp2_with(refine Aa (vs:=Ah s9 a9 n9 c9 false b9 m9 d9) rfl rfl rfl rfl rfl Af L rfl (Ag _ _ _ _ _ _ _ _) ?_;intro b4 I N)
    exact oM (Ai rfl Af rfl I) rfl (Bc (aw.trans C) L (AC _ _ _ _ _ _ _ _) N (by omega) a4 ae af)
end Go.Proofs.YtlbmnokpiilfpaaGreatDoor
