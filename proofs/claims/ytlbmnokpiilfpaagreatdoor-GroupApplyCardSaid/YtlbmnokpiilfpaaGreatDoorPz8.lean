/- Part Pz8. -/
import Derived.Test.YtlbmnokpiilfpaaGreatDoorPz7

set_option linter.all false
set_option maxRecDepth 100000
set_option maxHeartbeats 100000000
namespace Go.Proofs.YtlbmnokpiilfpaaGreatDoor
open Tryz Go Go.RowKit
def rS:=@List.exists_cons_of_ne_nil
def vh:=@List.flatten_cons
def vu:=@List.mem_flatten
def wL:=@Rat.mkRat_self
def wO:=@List.tail_cons
def wV:=@Nat.gcd_pos_of_pos_left
def wX:=@List.drop_append
def wi:=@List.getElem?_toArray
def xb:=@cell_of_row
variable {f:Act} {ad:Addr} {ops:Array Oper} {neg s:Bool} {Q:Exit->Act->World->Prop} {news rows:List (List Value)} {e:List Int} {rest:List Oper} {den l num r:List UInt8} {L vs zs:List Value} {base' bytes c cx d k m n:Nat} {o:Oper} {y:Operand} {a b:Option Addr} {p q:Rat} {t ty:TypeId} {v v':Value} {w w':World}
theorem IY(hT:AM w)(h:BU w v p)(h':BU w v' q)(b1:p.num.natAbs<P2 2400)(b2:p.den<P2 2400)(b3:q.num.natAbs<P2 2400)(b4:q.den<P2 2400)(b6:p≠0)(b8:q≠0)(hd:p.den≠1\/q.den≠1):Calls prog 85 #[v,v'] w (GN w (p*q)):=by
 have bL:=fun(f:World) (j:Ext w f)=>qh (Jj (h.ext j));have bN:=fun(f:World) (j:Ext w f)=>qh (Jj (h'.ext j));obtain⟨_,rfl,s,a,n,c,b,m,d,rfl,HS,hx,hy⟩:=h;obtain⟨_,rfl,J,F,I,G,b',m',d',rfl,al,ba,cA⟩:=h';have bi:=fun(f:World) (j:Ext w f)=>qh (AA (r:=false) (A8 HS (hx.ext j)) (pN (mt Pl.rat_num_den_zero.1 b6)));have bj:=fun(f:World) (j:Ext w f)=>qh (AA (r:=false) (A8 al (ba.ext j)) (pN (mt Pl.rat_num_den_zero.1 b8)))
 have bk:=fun(f:World) (j:Ext w f)=>qh (AA (r:=decide (A9 p=0)) (Bh (hy.ext j)) rfl);have ai:=fun(f:World) (j:Ext w f)=>qh (AA (r:=decide (A9 q=0)) (Bh (cA.ext j)) rfl);have bG:=fun(f:World) (j:Ext w f) (dv:Value) (ah:AF f dv (q.den:Int))=>qh (K4 (hT.ext j) (A8 HS (hx.ext j)) ah (Af b1 (by omega)) (Af b4 (by omega)) q.den_nz);have bK:=fun(f:World) (j:Ext w f) (dv:Value) (ah:AF f dv (p.den:Int))=>qh (K4 (hT.ext j) (A8 al (ba.ext j)) ah (Af b3 (by omega)) (Af b2 (by omega)) p.den_nz)
 obtain⟨aA,b5⟩:=Pl.rat_mul_parts p q;have H:(p.num.tdiv ((Nat.gcd p.num.natAbs q.den:Nat):Int)).natAbs<P2 2400:=by rw[oZ];exact pJ (qE _ _) b1
 have N:(q.num.tdiv ((Nat.gcd q.num.natAbs p.den:Nat):Int)).natAbs<P2 2400:=by rw[oZ];exact pJ (qE _ _) b3
 have e3:(((q.den/Nat.gcd p.num.natAbs q.den:Nat):Int)).natAbs<P2 2400:=pJ (qE _ _) b4;have e4:(((p.den/Nat.gcd q.num.natAbs p.den:Nat):Int)).natAbs<P2 2400:=pJ (qE _ _) b2;have aj:=fun(f:World) (x1 x2:Value) (h1:AF f x1 (p.num.tdiv ((Nat.gcd p.num.natAbs q.den:Nat):Int))) (h2:AF f x2 (q.num.tdiv ((Nat.gcd q.num.natAbs p.den:Nat):Int)))=>qh (CA h1 h2 (Af H (by omega)) (Af N (by omega)) (Or.inl (Af H (by omega))))
 have ak:=fun(f:World) (x1 x2:Value) (h1:AF f x1 ((p.den/Nat.gcd q.num.natAbs p.den:Nat):Int)) (h2:AF f x2 ((q.den/Nat.gcd p.num.natAbs q.den:Nat):Int))=>qh (CA h1 h2 (Af e4 (by omega)) (Af e3 (by omega)) (Or.inl (Af e4 (by omega))));rw[<-q7,<-b5]at ak;rw[<-aA]at aj;have ab:(decide (A9 p=0) && decide (A9 q=0))=false:=by
  rcases hd with h|h
  · rw[pN (mt AG.1 h)];rfl
  · rw[pN (mt AG.1 h),Bool.and_false]
 clear b1 b2 b3 b4 b6 b8 hd aA b5 H N e3 e4
 go_enter func85,ntmps85
 go_upto_region 1 with(fail)
 refine CO ?_;intro w0 V a3 a4 cb cQ;have p0:=a3.c 0 rfl;have p1:=a3.c 1 rfl;have p2:=a3.c 2 rfl;have p3:=a3.c 3 rfl;have q0:=a4.c 0 rfl;have q1:=a4.c 1 rfl;have q2:=a4.c 2 rfl;have q3:=a4.c 3 rfl;have hR:Arr w0 (w.heap.size+2) 85 (Al false none 0 0 false none 0 0):=cb;clear cQ
 go_wp2_with fail
 refine(bi _ V).out.mono ?_;rintro e w1 ⟨rfl,aa⟩;have r0:=aa.cell q0;have r1:=aa.cell q1
 go_wp2_with fail
 refine(bj _ (V.trans aa)).out.mono ?_;rintro e w2 ⟨rfl,cg⟩;have M:=aa.trans cg;have t2:=M.cell p2;have t3:=M.cell p3;clear r0 r1
 go_wp2_with fail
 refine(bk _ (V.trans M)).out.mono ?_;rintro e w3 ⟨rfl,ch⟩;have E:=M.trans ch;clear t2 t3;have ay:∃ w4:World,True:=⟨w3,trivial⟩;by_cases ac:decide (A9 p=0)=true
 case' pos =>
  rw[ac]at ab |-;have t2:=E.cell q2;have t3:=E.cell q3;have ax:decide (A9 q=0)=false:=by simpa using ab
  rw[ax]at ai;clear ac ax ab ay
  go_wp2_with fail
  refine(ai _ (V.trans E)).out.mono ?_;rintro e w4 ⟨rfl,ck⟩;have t:=E.trans ck;clear t2 t3
 case' neg =>
  have b7:decide (A9 p=0)=false:=by simpa using ac
  rw[b7];obtain⟨w4,cy⟩:∃ w4,w4=w3:=⟨_,rfl⟩;subst cy;have t:=E;clear ac b7 ab ay
 all_goals
  have r0:=t.cell p0;have r1:=t.cell p1;have r2:=t.cell p2;have r3:=t.cell p3;have u0:=t.cell q0;have u1:=t.cell q1;have u2:=t.cell q2;have u3:=t.cell q3;have ag:=V.trans t;have co:=hR.ext t;clear p0 p1 p2 p3 q0 q1 q2 q3 bi bj bk ai;go_wp2;have P:=fun(f:World) (j:Ext w4 f)=>qh (And.intro (j.cell r0) (And.intro (j.cell r1) (And.intro (j.cell r2) (And.intro (j.cell r3) (And.intro (j.cell u0) (And.intro (j.cell u1) (And.intro (j.cell u2) (j.cell u3))))))))
  refine DR (by kernel_rfl) (fun f=>Ext w4 f)
   [he (.pointer (some ⟨w.heap.size,0,none⟩)),
 he (.agg #[.bool s,.slice a n c]),
 he (.agg #[.bool J,.slice F I G,.bool false,.slice b' m' d']),
 hp (fun v f=>NI ((q.den:Int)) v f),
 hp (fun v f=>NII (p.num.tdiv ((Nat.gcd p.num.natAbs q.den:Nat):Int)) (((q.den/Nat.gcd p.num.natAbs q.den:Nat):Int)) v f),
 hp (fun v f=>NII (p.num.tdiv ((Nat.gcd p.num.natAbs q.den:Nat):Int)) (((q.den/Nat.gcd p.num.natAbs q.den:Nat):Int)) v f),
 hp (fun v f=>NI (p.num.tdiv ((Nat.gcd p.num.natAbs q.den:Nat):Int)) v f),
 hp (fun v f=>NI (((q.den/Nat.gcd p.num.natAbs q.den:Nat):Int)) v f),
 hp (NP w4.heap.size),
 hp (NP w4.heap.size),
 hmp (fun _ _=>True)]
   (by kernel_rfl) (fun _ _ e h=>h.trans e) ((Ext.refl w4).drew) ⟨trivial,trivial,trivial,NI.x _,NII.x _ _,NII.x _ _,NI.x _,NI.x _,NP.x _,NP.x _,NT.x,trivial⟩ ⟨?o0,?o1,?o2,?o3,?o4,?o5,?o6,?o7,?o8,?o9,?o10,trivial⟩ 8 9 10 6 83 (Ac false none 0 0) ⟨by simp,by simp,by simp,by simp⟩ (by omega) ?hk ?hs1 ?hp1 ?hnm Ai ?hj1 ?fin
  case o0=>exact ofa (d:=0)
  case o1=>exact ol2
  case o2=>exact ol4
  case o3 =>
   refine Ag rfl fun C f j l B h => ?_;have H:_=_:=h.2.1;obtain⟨k0,k1,k2,k3,k4,k5,k6,k7⟩:=(P f j).out;refine⟨165,#[.agg #[.bool J,.slice F I G,.bool false,.slice b' m' d']],by go_simp,((bN f (ag.trans j)).out).mono ?_⟩;rintro e w' ⟨J,F,I,G,rfl,y,L,K⟩;exact⟨_,rfl,y,J,F,I,G,rfl,L,K⟩
  case o4 =>
   refine Ag rfl fun C f j l B h => ?_;have H:_=_:=h.2.1;obtain⟨v2,N,s2,a2,n2,c2,rfl,i2,j2⟩:=h.2.2.1;obtain⟨k0,k1,k2,k3,k4,k5,k6,k7⟩:=(P f j).out;refine⟨164,#[.agg #[.bool s,.slice a n c],.agg (Ac s2 a2 n2 c2).toArray],by go_simp,((bG f (ag.trans j) _ ⟨s2,a2,n2,c2,rfl,i2,j2⟩).out).mono ?_⟩;rintro e w' ⟨J,F,I,G,t',b',m',d',rfl,y,h1,h2⟩;exact⟨_,rfl,y,J,F,I,G,t',b',m',d',rfl,h1,h2⟩
  case o5 =>
   refine AE rfl ?_;intro C f hp j h;have l:=hp.const;have B:=hp.func;obtain⟨v0,e0,s0,a0,n0,c0,t0,b0,m0,d0,rfl,Z,j0⟩:=h.1;obtain⟨k0,k1,k2,k3,k4,k5,k6,k7⟩:=(P f j).out;exact⟨_,f,by go_simp,Ext.refl _,s0,a0,n0,c0,t0,b0,m0,d0,rfl,Z,j0⟩
  case o6 =>
   refine AE rfl ?_;intro C f hp j h;have l:=hp.const;have B:=hp.func;obtain⟨v0,e0,s0,a0,n0,c0,t0,b0,m0,d0,rfl,Z,j0⟩:=h.1;obtain⟨k0,k1,k2,k3,k4,k5,k6,k7⟩:=(P f j).out;exact⟨_,f,by go_simp,Ext.refl _,s0,a0,n0,c0,rfl,Z.1,Z.2⟩
  case o7 =>
   refine AE rfl ?_;intro C f hp j h;have l:=hp.const;have B:=hp.func;obtain⟨v0,e0,s0,a0,n0,c0,t0,b0,m0,d0,rfl,Z,j0⟩:=h.1;obtain⟨k0,k1,k2,k3,k4,k5,k6,k7⟩:=(P f j).out;exact⟨_,f,by go_simp,Ext.refl _,t0,b0,m0,d0,rfl,j0.1,j0.2⟩
  case o8 =>
   exact CL rfl rfl (fun _ h=>h.size)
  case o9 =>
   exact CL rfl rfl (fun _ h=>h.size)
  case o10 =>
   exact Gv (base:=w4.heap.size) (z:=p.num.tdiv ((Nat.gcd p.num.natAbs q.den:Nat):Int)) rfl rfl ⟨trivial,trivial,trivial,NI.i _,NII.i _ _,NII.i _ _,NI.i _,NI.i _,NP.i _,NP.i _,NT.i,trivial⟩ (fun w w' g h hb hg=>h.grownR hg hb) (fun C w _ _ h=>⟨h.1,h.2.1⟩)
  case hk =>
   rintro k (rfl|rfl) o ho
   · cases ho;exact⟨rfl,rfl,fun C f=>CK rfl C f⟩
   · cases ho;exact⟨rfl,rfl,fun C f=>CK rfl C f⟩
  case hs1 =>
   intro o ho;cases ho;exact⟨rfl,rfl,_,_,rfl,rfl,rfl⟩
  case hp1=>exact⟨rC.1 (by kernel_rfl),rC.1 (by kernel_rfl)⟩
  case hnm =>
   intro i hi A;simp only[qk,vY]at hi
   match i,hi,A with
   | 0,_,_=>rfl
   | 1,_,_=>rfl
   | 2,_,_=>rfl
   | 3,_,_=>rfl
   | 4,_,_=>rfl
   | 5,_,_=>rfl
   | 6,_,_=>rfl
   | 7,_,_=>rfl
   | 8,_,_=>rfl
   | 9,_,_=>rfl
   | 10,_,A=>exact absurd rfl A
  case hj1 =>
   refine⟨rfl,fun v w h => ?_⟩;obtain⟨s,a,n,c,rfl,_,_⟩:=h;exact⟨Ac s a n c,rfl,rfl,Ae _ _ _ _⟩
  case fin =>
   intro f j;rintro _ ⟨e9,dl,e5,dt,rfl,d7,dc⟩;rintro _ ⟨_,_,_,_,_,_,_,_,rfl,_,_⟩;rintro _ ⟨_,_,_,_,_,_,_,_,rfl,_,_⟩;rintro _ ⟨s5,a5,n5,c5,rfl,bR,bb⟩;rintro _ ⟨s6,a6,n6,c6,rfl,bW,bd⟩;rintro _ ⟨g5,dA,rfl,_,_,_,_⟩;rintro _ ⟨g6,dB,rfl,_,_,_,_⟩;rintro _ _;simp only[lw,lj,lk,lp,Act.put,lB,lC,lD,AX,Bf,wi,vq,sE,tr];rintro⟨ga,gb,R,H,N,l5,l6,A,e3,hA1,hA2⟩
   have S:Value.pointer (some ⟨g5,0,none⟩) = .pointer (some ⟨ga,0,none⟩):=H;have T:Value.pointer (some ⟨g6,0,none⟩) = .pointer (some ⟨gb,0,none⟩):=N;have U:Value.agg (Ac s5 a5 n5 c5).toArray = .agg R.toArray:=e3;simp only[tF,pz,qq,qO]at S T;have e4:R=Ac s5 a5 n5 c5:=by simpa using U.symm
   subst S;subst T;subst e4;clear H N e3 U;change wpList _ _ _ _ _ _
   go_upto_region 6 with(refine Aa (vs:=Ac s6 a6 n6 c6) rfl rfl rfl rfl rfl Ai hA2 rfl (Ae _ _ _ _) ?_;intro w6 cc X)
   have D:Ext w4 w6:=j.grownR X l6;have cl:=hA1.kept X (by simpa using A);have cp:=bb.kept hA2 (Ax _ _ _ _) X;have cq:=bd.kept hA2 (Ax _ _ _ _) X;clear hA1 hA2 A j bb bd X;have W:=ag.trans D;have y0:=D.cell r0;have y1:=D.cell r1;have y2:=D.cell r2;have y3:=D.cell r3;have v0:=D.cell u0;have v1:=D.cell u1;have v2:=D.cell u2;have v3:=D.cell u3;have bx:=co.ext D
   have Q:=fun(f:World) (j:Ext w6 f)=>qh (And.intro (j.cell y0) (And.intro (j.cell y1) (And.intro (j.cell y2) (And.intro (j.cell y3) (And.intro (j.cell v0) (And.intro (j.cell v1) (And.intro (j.cell v2) (j.cell v3))))))))
   refine DR (by kernel_rfl) (fun f=>Ext w6 f)
    [he (.pointer (some ⟨(w.heap.size+1),0,none⟩)),
 he (.agg #[.bool J,.slice F I G]),
 he (.agg #[.bool s,.slice a n c,.bool false,.slice b m d]),
 hp (fun v f=>NI ((p.den:Int)) v f),
 hp (fun v f=>NII (q.num.tdiv ((Nat.gcd q.num.natAbs p.den:Nat):Int)) (((p.den/Nat.gcd q.num.natAbs p.den:Nat):Int)) v f),
 hp (fun v f=>NII (q.num.tdiv ((Nat.gcd q.num.natAbs p.den:Nat):Int)) (((p.den/Nat.gcd q.num.natAbs p.den:Nat):Int)) v f),
 hp (fun v f=>NI (q.num.tdiv ((Nat.gcd q.num.natAbs p.den:Nat):Int)) v f),
 hp (fun v f=>NI (((p.den/Nat.gcd q.num.natAbs p.den:Nat):Int)) v f),
 hp (NP w6.heap.size),
 hp (NP w6.heap.size),
 hmp (fun _ _=>True)]
    (by kernel_rfl) (fun _ _ e h=>h.trans e) ((Ext.refl w6).drew) ⟨trivial,trivial,trivial,NI.x _,NII.x _ _,NII.x _ _,NI.x _,NI.x _,NP.x _,NP.x _,NT.x,trivial⟩ ⟨?o0,?o1,?o2,?o3,?o4,?o5,?o6,?o7,?o8,?o9,?o10,trivial⟩ 8 9 10 6 83 (Ac false none 0 0) ⟨by simp,by simp,by simp,by simp⟩ (by omega) ?hk ?hs1 ?hp1 ?hnm Ai ?hj1 ?fin
   case o0=>exact ofa (d:=0)
   case o1=>exact ol2
   case o2=>exact ol4
   case o3 =>
    refine Ag rfl fun C f j l B h => ?_;have H:_=_:=h.2.1;obtain⟨k0,k1,k2,k3,k4,k5,k6,k7⟩:=(Q f j).out;refine⟨165,#[.agg #[.bool s,.slice a n c,.bool false,.slice b m d]],by go_simp,((bL f (W.trans j)).out).mono ?_⟩;rintro e w' ⟨J,F,I,G,rfl,y,L,K⟩;exact⟨_,rfl,y,J,F,I,G,rfl,L,K⟩
   case o4 =>
    refine Ag rfl fun C f j l B h => ?_;have H:_=_:=h.2.1;obtain⟨v2,N,s2,a2,n2,c2,rfl,i2,j2⟩:=h.2.2.1;obtain⟨k0,k1,k2,k3,k4,k5,k6,k7⟩:=(Q f j).out;refine⟨164,#[.agg #[.bool J,.slice F I G],.agg (Ac s2 a2 n2 c2).toArray],by go_simp,((bK f (W.trans j) _ ⟨s2,a2,n2,c2,rfl,i2,j2⟩).out).mono ?_⟩;rintro e w' ⟨J,F,I,G,t',b',m',d',rfl,y,h1,h2⟩;exact⟨_,rfl,y,J,F,I,G,t',b',m',d',rfl,h1,h2⟩
   case o5 =>
    refine AE rfl ?_;intro C f hp j h;have l:=hp.const;have B:=hp.func;obtain⟨v0,e0,s0,a0,n0,c0,t0,b0,m0,d0,rfl,Z,j0⟩:=h.1;obtain⟨k0,k1,k2,k3,k4,k5,k6,k7⟩:=(Q f j).out;exact⟨_,f,by go_simp,Ext.refl _,s0,a0,n0,c0,t0,b0,m0,d0,rfl,Z,j0⟩
   case o6 =>
    refine AE rfl ?_;intro C f hp j h;have l:=hp.const;have B:=hp.func;obtain⟨v0,e0,s0,a0,n0,c0,t0,b0,m0,d0,rfl,Z,j0⟩:=h.1;obtain⟨k0,k1,k2,k3,k4,k5,k6,k7⟩:=(Q f j).out;exact⟨_,f,by go_simp,Ext.refl _,s0,a0,n0,c0,rfl,Z.1,Z.2⟩
   case o7 =>
    refine AE rfl ?_;intro C f hp j h;have l:=hp.const;have B:=hp.func;obtain⟨v0,e0,s0,a0,n0,c0,t0,b0,m0,d0,rfl,Z,j0⟩:=h.1;obtain⟨k0,k1,k2,k3,k4,k5,k6,k7⟩:=(Q f j).out;exact⟨_,f,by go_simp,Ext.refl _,t0,b0,m0,d0,rfl,j0.1,j0.2⟩
   case o8 =>
    exact CL rfl rfl (fun _ h=>h.size)
   case o9 =>
    exact CL rfl rfl (fun _ h=>h.size)
   case o10 =>
    exact Gv (base:=w6.heap.size) (z:=q.num.tdiv ((Nat.gcd q.num.natAbs p.den:Nat):Int)) rfl rfl ⟨trivial,trivial,trivial,NI.i _,NII.i _ _,NII.i _ _,NI.i _,NI.i _,NP.i _,NP.i _,NT.i,trivial⟩ (fun w w' g h hb hg=>h.grownR hg hb) (fun C w _ _ h=>⟨h.1,h.2.1⟩)
   case hk =>
    rintro k (rfl|rfl) o ho
    · cases ho;exact⟨rfl,rfl,fun C f=>CK rfl C f⟩
    · cases ho;exact⟨rfl,rfl,fun C f=>CK rfl C f⟩
   case hs1 =>
    intro o ho;cases ho;exact⟨rfl,rfl,_,_,rfl,rfl,rfl⟩
   case hp1=>exact⟨rC.1 (by kernel_rfl),rC.1 (by kernel_rfl)⟩
   case hnm =>
    intro i hi A;simp only[qk,vY]at hi
    match i,hi,A with
    | 0,_,_=>rfl
    | 1,_,_=>rfl
    | 2,_,_=>rfl
    | 3,_,_=>rfl
    | 4,_,_=>rfl
    | 5,_,_=>rfl
    | 6,_,_=>rfl
    | 7,_,_=>rfl
    | 8,_,_=>rfl
    | 9,_,_=>rfl
    | 10,_,A=>exact absurd rfl A
   case hj1 =>
    refine⟨rfl,fun v w h => ?_⟩;obtain⟨s,a,n,c,rfl,_,_⟩:=h;exact⟨Ac s a n c,rfl,rfl,Ae _ _ _ _⟩
   case fin =>
    intro f j;rintro _ ⟨ea,dn,e6,dw,rfl,d8,dd⟩;rintro _ ⟨_,_,_,_,_,_,_,_,rfl,_,_⟩;rintro _ ⟨_,_,_,_,_,_,_,_,rfl,_,_⟩;rintro _ ⟨s7,a7,n7,c7,rfl,c3,bf⟩;rintro _ ⟨s8,a8,n8,c8,rfl,c4,bg⟩;rintro _ ⟨g7,dI,rfl,_,_,_,_⟩;rintro _ ⟨g8,dJ,rfl,_,_,_,_⟩;rintro _ _;simp only[lw,lj,lk,lp,Act.put,lB,lC,lD,AX,Bf,wi,vq,sE,tr];rintro⟨ga,gb,R,H,N,l7,l8,A,e3,hA1,hA2⟩
    have S:Value.pointer (some ⟨g7,0,none⟩) = .pointer (some ⟨ga,0,none⟩):=H;have T:Value.pointer (some ⟨g8,0,none⟩) = .pointer (some ⟨gb,0,none⟩):=N;have U:Value.agg (Ac s7 a7 n7 c7).toArray = .agg R.toArray:=e3;simp only[tF,pz,qq,qO]at S T;have e4:R=Ac s7 a7 n7 c7:=by simpa using U.symm
    subst S;subst T;subst e4;clear H N e3 U;change wpList _ _ _ _ _ _
    go_upto_region 7 with(refine Aa (vs:=Ac s8 a8 n8 c8) rfl rfl rfl rfl rfl Ai hA2 rfl (Ae _ _ _ _) ?_;intro w8 cd Y)
    have O:Ext w6 w8:=j.grownR Y l8;have cn:=hA1.kept Y (by simpa using A);have cr:=bf.kept hA2 (Ax _ _ _ _) Y;have ct:=bg.kept hA2 (Ax _ _ _ _) Y;clear hA1 hA2 A j bf bg Y;have bv:=W.trans O;have bz:=bx.ext O;have ao:Arr w8 g5 83 (Ac s5 a5 n5 c5):=cl.ext O;have cR:=ao.c 0 rfl;have cT:=ao.c 1 rfl;have ap:Arr w8 g6 83 (Ac s6 a6 n6 c6):=cc.ext O;have d1:=ap.c 0 rfl;have d2:=ap.c 1 rfl;have aq:Arr w8 g7 83 (Ac s7 a7 n7 c7):=cn;have d3:=aq.c 0 rfl;have d4:=aq.c 1 rfl;have ar:Arr w8 g8 83 (Ac s8 a8 n8 c8):=cd
    have d5:=ar.c 0 rfl;have d6:=ar.c 1 rfl;have i5:AF w8 (.agg (Ac s5 a5 n5 c5).toArray) (p.num.tdiv ((Nat.gcd p.num.natAbs q.den:Nat):Int)):=⟨s5,a5,n5,c5,rfl,bR,cp.ext O⟩;have i6:AF w8 (.agg (Ac s6 a6 n6 c6).toArray) (((q.den/Nat.gcd p.num.natAbs q.den:Nat):Int)):=⟨s6,a6,n6,c6,rfl,bW,cq.ext O⟩;have i7:AF w8 (.agg (Ac s7 a7 n7 c7).toArray) (q.num.tdiv ((Nat.gcd q.num.natAbs p.den:Nat):Int)):=⟨s7,a7,n7,c7,rfl,c3,cr⟩;have i8:AF w8 (.agg (Ac s8 a8 n8 c8).toArray) (((p.den/Nat.gcd q.num.natAbs p.den:Nat):Int)):=⟨s8,a8,n8,c8,rfl,c4,ct⟩
    have ad:=fun(f:World) (j:Ext w8 f)=>qh (And.intro (j.cell cR) (And.intro (j.cell cT) (And.intro (j.cell d1) (And.intro (j.cell d2) (And.intro (j.cell d3) (And.intro (j.cell d4) (And.intro (j.cell d5) (j.cell d6))))))))
    refine B0
     [he (.agg #[.bool s5,.slice a5 n5 c5]),he (.agg #[.bool s7,.slice a7 n7 c7]),hp (fun v f=>NI ((p*q).num) v f),he (.agg #[.bool s8,.slice a8 n8 c8]),he (.agg #[.bool s6,.slice a6 n6 c6]),hp (fun v f=>NI (((p*q).den:Int)) v f),hp (fun v f=>∃ cs,v = .agg cs.toArray/\CJ f cs (p*q))]
     ⟨NI.x _,NI.x _,fun v w w' e ⟨cs,h1,h2⟩=>⟨cs,h1,h2.ext e⟩,trivial⟩ ⟨?o0,?o1,?o2,?o3,?o4,?o5,?o6,trivial⟩ ?fin
    case o0 | o1 | o3 | o4=>exact ol2
    case o2 =>
     refine Ag rfl fun C f j l B h => ?_;have H:_=_:=h.2.1;have N:_=_:=h.2.2.1;obtain⟨bl,bm,bn,bo,bp,bq,bs,bt⟩:=(ad f j).out;refine⟨163,#[.agg #[.bool s5,.slice a5 n5 c5],.agg #[.bool s7,.slice a7 n7 c7]],by go_simp,((aj f _ _ (i5.ext j) (i7.ext j)).out).mono ?_⟩;rintro e w' ⟨J,F,I,G,rfl,y,L,K⟩;exact⟨_,rfl,y,J,F,I,G,rfl,L,K⟩
    case o5 =>
     refine Ag rfl fun C f j l B h => ?_;have H:_=_:=h.2.1;have N:_=_:=h.2.2.1;obtain⟨bl,bm,bn,bo,bp,bq,bs,bt⟩:=(ad f j).out;refine⟨163,#[.agg #[.bool s8,.slice a8 n8 c8],.agg #[.bool s6,.slice a6 n6 c6]],by go_simp,((ak f _ _ (i8.ext j) (i6.ext j)).out).mono ?_⟩;rintro e w' ⟨J,F,I,G,rfl,y,L,K⟩;exact⟨_,rfl,y,J,F,I,G,rfl,L,K⟩
    case o6 =>
     refine Ag rfl fun C f j l B h => ?_;obtain⟨v1,H,s1,a1,n1,c1,rfl,i1,j1⟩:=h.2.1;obtain⟨v2,N,s2,a2,n2,c2,rfl,i2,j2⟩:=h.2.2.1;obtain⟨bl,bm,bn,bo,bp,bq,bs,bt⟩:=(ad f j).out;refine⟨166,#[.agg (Ac s1 a1 n1 c1).toArray,.agg (Ac s2 a2 n2 c2).toArray],by go_simp,(DV (q:=p*q) ⟨s1,a1,n1,c1,rfl,i1,j1⟩ ⟨s2,a2,n2,c2,rfl,i2,j2⟩).mono ?_⟩;rintro e w' ⟨cs,rfl,y,cx⟩;exact⟨_,rfl,y,cs,rfl,cx⟩
    case fin =>
     intro f j;rintro _ ⟨eb,dq,e7,dx,rfl,da,de⟩;rintro _ ⟨ec,ds,e8,dy,rfl,db,dj⟩;rintro _ ⟨_,rfl,s9,a9,n9,c9,b9,m9,d9,rfl,ca,cz,cP⟩;change wpList _ _ _ _ _ _;simp only[Ci];have av:=bz.ext j;have dT:(Al s9 a9 n9 c9 false b9 m9 d9).toArray=#[.bool s9,.slice a9 n9 c9,.bool false,.slice b9 m9 d9]:=rfl
     go_wp2_with(refine Aa (vs:=Al s9 a9 n9 c9 false b9 m9 d9) rfl rfl rfl rfl rfl Ak av rfl (Aq _ _ _ _ _ _ _ _) ?_;intro w9 ce cv)
     exact py (Ap rfl Ak rfl ce) rfl (BG (bv.trans j) av (AO _ _ _ _ _ _ _ _) cv (by omega) ca cz cP)
theorem Ht(h:BU w v p)(K:BU w v' q)(h0:p=0\/q=0):Calls prog 85 #[v,v'] w (GN w (p*q)):=by
 obtain⟨_,rfl,s,a,n,c,b,m,d,rfl,J,L,V⟩:=h;obtain⟨_,rfl,s',R,X,T,S,W,U,rfl,A,D,M⟩:=K;have F:=fun(G:World) (C:Ext w G)=>qh (AA (r:=decide (p.num=0)) (A8 J (L.ext C)) rfl);have z:=fun(G:World) (C:Ext w G)=>qh (AA (r:=decide (q.num=0)) (A8 A (D.ext C)) rfl);have x:Hid (p*q=0):=by
  show _=_;rcases h0 with h|h
  · rw[h,Rat.zero_mul]
  · rw[h,Rat.mul_zero]
 go_enter func85,ntmps85
 go_upto_region 1 with(fail)
 refine CO ?_;intro P l j k B E;have Y:=j.c 0 rfl;have Z:=j.c 1 rfl;have p2:=j.c 2 rfl;have p3:=j.c 3 rfl;have N:=k.c 0 rfl;have O:=k.c 1 rfl;have q2:=k.c 2 rfl;have q3:=k.c 3 rfl;have H:Arr P (w.heap.size+2) 85 (Al false none 0 0 false none 0 0):=B;clear E
 go_wp2_with fail
 refine(F _ l).out.mono ?_;rintro e w1 ⟨rfl,f⟩;by_cases i:p.num=0
 · rw[qC i];have g:=H.ext f;clear i h0
   go_wp2_with(refine Aa (vs:=Al false none 0 0 false none 0 0) rfl rfl rfl rfl rfl Ak g rfl (Aq _ _ _ _ _ _ _ _) ?_;intro Q o t)
   refine py (Ap rfl Ak rfl o) rfl ?_;rw[x.out];exact BG (l.trans f) g (AO _ _ _ _ _ _ _ _) t (by omega) (qh rfl) (Wd.nil _) (Wd.nil _)
 · rw[pN i];have I:q.num=0:=by
    rcases h0 with h|h
    · exact absurd (Pl.rat_num_den_zero.2 h) i
    · exact Pl.rat_num_den_zero.2 h
   rw[qC I]at z;have r0:=f.cell N;have r1:=f.cell O;clear i h0 I
   go_wp2_with fail
   refine(z _ (l.trans f)).out.mono ?_;rintro e w2 ⟨rfl,y⟩;have g:=(H.ext f).ext y
   go_wp2_with(refine Aa (vs:=Al false none 0 0 false none 0 0) rfl rfl rfl rfl rfl Ak g rfl (Aq _ _ _ _ _ _ _ _) ?_;intro Q o t)
   refine py (Ap rfl Ak rfl o) rfl ?_;rw[x.out];exact BG ((l.trans f).trans y) g (AO _ _ _ _ _ _ _ _) t (by omega) (qh rfl) (Wd.nil _) (Wd.nil _)
theorem Lw(h:BU w v p)(h':BU w v' q)(H:p.num.natAbs<P2 2400)(b3:q.num.natAbs<P2 2400)(B:p≠0)(C:q≠0)(J:p.den=1)(K:q.den=1):Calls prog 85 #[v,v'] w (GN w (p*q)):=by
 obtain⟨_,rfl,s,a,n,c,b,m,d,rfl,HS,hx,hy⟩:=h;obtain⟨_,rfl,s',a',n',c',b',m',d',rfl,y,D,T⟩:=h';have V:=fun(x:World) (k:Ext w x)=>qh (AA (r:=false) (A8 HS (hx.ext k)) (pN (mt Pl.rat_num_den_zero.1 B)));have W:=fun(x:World) (k:Ext w x)=>qh (AA (r:=false) (A8 y (D.ext k)) (pN (mt Pl.rat_num_den_zero.1 C)));have X:=fun(x:World) (k:Ext w x)=>qh (AA (r:=true) (Bh (hy.ext k)) (qC (AG.2 J)))
 have Y:=fun(x:World) (k:Ext w x)=>qh (AA (r:=true) (Bh (T.ext k)) (qC (AG.2 K)));have R:=fun(x:World) (k:Ext w x)=>qh (CA (A8 HS (hx.ext k)) (A8 y (D.ext k)) (Af H (by omega)) (Af b3 (by omega)) (Or.inl (Af H (by omega))));have E:=qh (Pl.rat_mul_whole p q J K);clear H b3 B C J K
 go_enter func85,ntmps85
 go_upto_region 1 with(fail)
 refine CO ?_;intro w0 j l o L U;have p0:=l.c 0 rfl;have p1:=l.c 1 rfl;have p2:=l.c 2 rfl;have p3:=l.c 3 rfl;have q0:=o.c 0 rfl;have q1:=o.c 1 rfl;have q2:=o.c 2 rfl;have q3:=o.c 3 rfl;have hR:Arr w0 (w.heap.size+2) 85 (Al false none 0 0 false none 0 0):=L;clear U
 go_wp2_with fail
 refine(V _ j).out.mono ?_;rintro e w1 ⟨rfl,t⟩;have r0:=t.cell q0;have r1:=t.cell q1
 go_wp2_with fail
 refine(W _ (j.trans t)).out.mono ?_;rintro e w2 ⟨rfl,N⟩;have g:=t.trans N;have t2:=g.cell p2;have t3:=g.cell p3;clear r0 r1
 go_wp2_with fail
 refine(X _ (j.trans g)).out.mono ?_;rintro e w3 ⟨rfl,O⟩;have i:=g.trans O;have r2:=i.cell q2;have r3:=i.cell q3;clear t2 t3
 go_wp2_with fail
 refine(Y _ (j.trans i)).out.mono ?_;rintro e w4 ⟨rfl,P⟩;have f:=i.trans P;have t0:=f.cell p0;have t1:=f.cell p1;have u0:=f.cell q0;have u1:=f.cell q1;clear r2 r3
 go_wp2_with fail
 refine(R _ (j.trans f)).out.mono ?_;rintro e w5 ⟨s1,G,Z,I,rfl,z,F,S⟩;have a0:(Ac s1 G Z I).toArray=#[.bool s1,.slice G Z I]:=rfl;have A:=(hR.ext f).ext z
 go_wp2_with(refine Aa (vs:=Al s1 G Z I false none 0 0) rfl rfl rfl rfl rfl Ak A rfl (Aq _ _ _ _ _ _ _ _) ?_;intro w9 M Q)
 exact py (Ap rfl Ak rfl M) rfl (BG ((j.trans f).trans z) A (AO _ _ _ _ _ _ _ _) Q (by omega) (by rw[E.out.1];exact F) (by rw[E.out.1];exact S) (by rw[AG.2 E.out.2];exact Wd.nil _))
theorem Nx(k:AM w)(h:BU w v p)(c:BU w v' q)(d:p.num.natAbs<P2 2400)(f:p.den<P2 2400)(e:q.num.natAbs<P2 2400)(g:q.den<P2 2400):Calls prog 85 #[v,v'] w (GN w (p*q)):=by
 by_cases a:p=0
 · exact Ht h c (Or.inl a)
 by_cases b:q=0
 · exact Ht h c (Or.inr b)
 by_cases i:p.den=1
 · by_cases j:q.den=1
   · exact Lw h c d e a b i j
   · exact IY k h c d f e g a b (Or.inr j)
 · exact IY k h c d f e g a b (Or.inl i)
theorem MO(h:p.den=1):(p+q).num=p.num*(q.den:Int)+q.num/\(p+q).den=q.den:=by
 have:=Pl.rat_add_parts p q;rw[h,Nat.gcd_one_left]at this;simpa using this
theorem Tw(h:q.den=1):(p+q).num=q.num*(p.den:Int)+p.num/\(p+q).den=p.den:=by
 rw[Rat.add_comm];exact MO h
theorem W0(h:p.den=1)(a:q.den=1):(p+q).num=p.num+q.num/\(p+q).den=1:=by
 have:=MO (q:=q) h;rw[a]at this;simpa using this
theorem JY(h:p.den=q.den):A9 p=A9 q:=by unfold A9;rw[h]
theorem PM(h:BU w v p)(U:BU w v' q)(R:p.num.natAbs<P2 2400)(S:q.num.natAbs<P2 2400)(D:p.den=1)(E:q.den=1):Calls prog 146 #[v,v'] w (GN w (p+q)):=by
 obtain⟨_,rfl,s,a,n,c,b,m,d,rfl,T,X,Y⟩:=h;obtain⟨_,rfl,s',a',n',c',b',m',d',rfl,z,K,M⟩:=U;have O:=fun(x:World) (l:Ext w x)=>qh (AA (r:=true) (Bh (Y.ext l)) (qC (AG.2 D)));have P:=fun(x:World) (l:Ext w x)=>qh (AA (r:=true) (Bh (M.ext l)) (qC (AG.2 E)));have I:=fun(x:World) (l:Ext w x)=>qh (JC (A8 T (X.ext l)) (A8 z (K.ext l)) (Af R (by omega)) (Af S (by omega)));have y:=qh (W0 D E);clear R S D E
 go_enter func146,ntmps146
 go_upto_region 1 with(fail)
 refine CO ?_;intro w0 j g i F N;have Z:=g.c 0 rfl;have p1:=g.c 1 rfl;have p2:=g.c 2 rfl;have p3:=g.c 3 rfl;have q0:=i.c 0 rfl;have q1:=i.c 1 rfl;have q2:=i.c 2 rfl;have q3:=i.c 3 rfl;have V:Arr w0 (w.heap.size+2) 85 (Al false none 0 0 false none 0 0):=F;clear N
 go_wp2_with fail
 refine(O _ j).out.mono ?_;rintro e w1 ⟨rfl,k⟩;have r2:=k.cell q2;have r3:=k.cell q3
 go_wp2_with fail
 refine(P _ (j.trans k)).out.mono ?_;rintro e w2 ⟨rfl,H⟩;have f:=k.trans H;have t0:=f.cell Z;have t1:=f.cell p1;have u0:=f.cell q0;have u1:=f.cell q1;clear r2 r3
 go_wp2_with fail
 refine(I _ (j.trans f)).out.mono ?_;rintro e w5 ⟨s1,B,Q,C,rfl,o,A,L⟩;have W:(Ac s1 B Q C).toArray=#[.bool s1,.slice B Q C]:=rfl;have t:=(V.ext f).ext o
 go_wp2_with(refine Aa (vs:=Al s1 B Q C false none 0 0) rfl rfl rfl rfl rfl Ak t rfl (Aq _ _ _ _ _ _ _ _) ?_;intro w9 G J)
 exact py (Ap rfl Ak rfl G) rfl (BG ((j.trans f).trans o) t (AO _ _ _ _ _ _ _ _) J (by omega) (by rw[y.out.1];exact A) (by rw[y.out.1];exact L) (by rw[AG.2 y.out.2];exact Wd.nil _))
theorem PN(h:BU w v p)(h':BU w v' q)(R:p.num.natAbs<P2 2400)(b3:q.num.natAbs<P2 2400)(Y:q.den<P2 2400)(T:p.den=1)(L:q.den≠1):Calls prog 146 #[v,v'] w (GN w (p+q)):=by
 obtain⟨_,rfl,s,a,n,c,b,m,d,rfl,HS,hx,hy⟩:=h;obtain⟨_,rfl,J,D,H,F,Q,U,S,rfl,W,aa,C⟩:=h';have P:=fun(i:World) (g:Ext w i)=>qh (AA (r:=true) (Bh (hy.ext g)) (qC (AG.2 T)));have ad:=fun(i:World) (g:Ext w i)=>qh (AA (r:=false) (Bh (C.ext g)) (pN (mt AG.1 L)));have a9:=fun(i:World) (g:Ext w i)=>qh (CA (A8 HS (hx.ext g)) (Bh (C.ext g)) (Af R (by omega)) (by rw[Bi L];exact Af Y (by omega)) (Or.inl (Af R (by omega))))
 have O:(p.num*A9 q).natAbs<P2 9600:=by rw[qW,Bi L];exact Af (BJ R Y) (by omega)
 have a6:=fun(i:World) (g:Ext w i) (x:Value) (hv:AF i x (p.num*A9 q))=>qh (JC hv (A8 W (aa.ext g)) O (Af b3 (by omega)));have V:=qh (MO (q:=q) T);rw[<-DI L]at V;have HD:Hid (A9 (p+q)=A9 q):=qh (JY (by have:=(MO (q:=q) T).2;exact this));clear R Y b3 O T L
 go_enter func146,ntmps146
 go_upto_region 1 with(fail)
 refine CO ?_;intro w0 o k l a0 ac;have p0:=k.c 0 rfl;have p1:=k.c 1 rfl;have p2:=k.c 2 rfl;have p3:=k.c 3 rfl;have q0:=l.c 0 rfl;have q1:=l.c 1 rfl;have q2:=l.c 2 rfl;have q3:=l.c 3 rfl;have hR:Arr w0 (w.heap.size+2) 85 (Al false none 0 0 false none 0 0):=a0;clear ac
 go_wp2_with fail
 refine(P _ o).out.mono ?_;rintro e w1 ⟨rfl,t⟩;have Z:=t.cell q2;have f3:=t.cell q3
 go_wp2_with fail
 refine(ad _ (o.trans t)).out.mono ?_;rintro e w2 ⟨rfl,a3⟩;have j:=t.trans a3;clear Z f3;have Z:=j.cell p2;have f3:=j.cell p3
 go_wp2_with fail
 refine(P _ (o.trans j)).out.mono ?_;rintro e w3 ⟨rfl,a4⟩;have f:=j.trans a4;clear Z f3;have r0:=f.cell p0;have r1:=f.cell p1;have r2:=f.cell p2;have r3:=f.cell p3;have u0:=f.cell q0;have u1:=f.cell q1;have u2:=f.cell q2;have u3:=f.cell q3;have y:=o.trans f;have a5:=hR.ext f;clear p0 p1 p2 p3 q0 q1 q2 q3;go_wp2;have K:=fun(i:World) (g:Ext w3 i)=>qh (And.intro (g.cell r0) (And.intro (g.cell r1) (And.intro (g.cell r2) (And.intro (g.cell r3) (And.intro (g.cell u0) (And.intro (g.cell u1) (And.intro (g.cell u2) (g.cell u3))))))))
 refine B0
  [hdP w.heap.size 0,he (.agg #[.bool s,.slice a n c]),hdP (w.heap.size+1) 2,he (.agg #[.bool false,.slice Q U S]),hp (fun v i=>NI (p.num*A9 q) v i),hdP (w.heap.size+1) 0,he (.agg #[.bool J,.slice D H F]),hp (fun v i=>NI (p.num*A9 q+q.num) v i),hdP (w.heap.size+1) 2,he (.agg #[.bool false,.slice Q U S])]
  ⟨NI.x _,NI.x _,trivial⟩ ⟨?o0,?o1,?o2,?o3,?o4,?o5,?o6,?o7,?o8,?o9,trivial⟩ ?fin
 case o0 | o5=>exact ofa (d:=0)
 case o1 | o3 | o6 | o9=>exact ol2
 case o2 | o8=>exact ofa (d:=2)
 case o4 =>
  refine Ag rfl fun ρ i g N a7 h => ?_;have e1:_=_:=h.2.1;have e2:_=_:=h.2.2.1;obtain⟨k0,k1,k2,k3,ag,ah,ai,aj⟩:=(K i g).out;refine⟨163,#[.agg #[.bool s,.slice a n c],.agg #[.bool false,.slice Q U S]],by go_simp,((a9 i (y.trans g)).out).mono ?_⟩;rintro e w' ⟨J,D,H,F,rfl,z,B,A⟩;exact⟨_,rfl,z,J,D,H,F,rfl,B,A⟩
 case o7 =>
  refine Ag rfl fun ρ i g N a7 h => ?_;obtain⟨v1,e1,s1,E,I,G,rfl,i1,j1⟩:=h.2.1;have e2:_=_:=h.2.2.1;obtain⟨k0,k1,k2,k3,ag,ah,ai,aj⟩:=(K i g).out;refine⟨208,#[.agg (Ac s1 E I G).toArray,.agg #[.bool J,.slice D H F]],by go_simp,((a6 i (y.trans g) _ ⟨s1,E,I,G,rfl,i1,j1⟩).out).mono ?_⟩;rintro e w' ⟨J,D,H,F,rfl,z,B,A⟩;exact⟨_,rfl,z,J,D,H,F,rfl,B,A⟩
 case fin =>
  intro i g;rintro _ ⟨av,ao,ar,ap,rfl,ak,al⟩;rintro _ ⟨s1,E,I,G,rfl,X,ab⟩;change wpList _ _ _ _ _ _;simp only[Ci];have M:=a5.ext g;have aq:(Ac s1 E I G).toArray=#[.bool s1,.slice E I G]:=rfl
  go_wp2_with(refine Aa (vs:=Al s1 E I G false Q U S) rfl rfl rfl rfl rfl Ak M rfl (Aq _ _ _ _ _ _ _ _) ?_;intro w9 a2 a8)
  exact py (Ap rfl Ak rfl a2) rfl (BG (y.trans g) M (AO _ _ _ _ _ _ _ _) a8 (by omega) (by rw[V.out.1];exact X) (by rw[V.out.1];exact ab) (by rw[HD.out];exact C.ext (y.trans g)))
theorem PO(h:BU w v p)(h':BU w v' q)(b1:p.num.natAbs<P2 2400)(P:q.num.natAbs<P2 2400)(U:p.den<P2 2400)(K:p.den≠1)(Q:q.den=1):Calls prog 146 #[v,v'] w (GN w (p+q)):=by
 obtain⟨_,rfl,s,a,n,c,b,m,d,rfl,HS,hx,hy⟩:=h;obtain⟨_,rfl,I,C,G,E,b',m',d',rfl,S,a7,a9⟩:=h';have O:=fun(i:World) (g:Ext w i)=>qh (AA (r:=false) (Bh (hy.ext g)) (pN (mt AG.1 K)));have ab:=fun(i:World) (g:Ext w i)=>qh (AA (r:=true) (Bh (a9.ext g)) (qC (AG.2 Q)));have a6:=fun(i:World) (g:Ext w i)=>qh (CA (A8 S (a7.ext g)) (Bh (hy.ext g)) (Af P (by omega)) (by rw[Bi K];exact Af U (by omega)) (Or.inl (Af P (by omega))))
 have N:(q.num*A9 p).natAbs<P2 9600:=by rw[qW,Bi K];exact Af (BJ P U) (by omega)
 have a3:=fun(i:World) (g:Ext w i) (x:Value) (hv:AF i x (q.num*A9 p))=>qh (JC hv (A8 HS (hx.ext g)) N (Af b1 (by omega)));have R:=qh (Tw (p:=p) Q);rw[<-DI K]at R;have HD:Hid (A9 (p+q)=A9 p):=qh (JY (by have:=(Tw (p:=p) Q).2;exact this));clear b1 U P N K Q
 go_enter func146,ntmps146
 go_upto_region 1 with(fail)
 refine CO ?_;intro w0 o k l X aa;have p0:=k.c 0 rfl;have p1:=k.c 1 rfl;have p2:=k.c 2 rfl;have p3:=k.c 3 rfl;have q0:=l.c 0 rfl;have q1:=l.c 1 rfl;have q2:=l.c 2 rfl;have q3:=l.c 3 rfl;have hR:Arr w0 (w.heap.size+2) 85 (Al false none 0 0 false none 0 0):=X;clear aa
 go_wp2_with fail
 refine(O _ o).out.mono ?_;rintro e w1 ⟨rfl,t⟩;have V:=t.cell p2;have W:=t.cell p3
 go_wp2_with fail
 refine(O _ (o.trans t)).out.mono ?_;rintro e w2 ⟨rfl,Z⟩;have j:=t.trans Z;clear V W;have V:=j.cell q2;have W:=j.cell q3
 go_wp2_with fail
 refine(ab _ (o.trans j)).out.mono ?_;rintro e w3 ⟨rfl,a0⟩;have f:=j.trans a0;clear V W;have r0:=f.cell p0;have r1:=f.cell p1;have r2:=f.cell p2;have r3:=f.cell p3;have u0:=f.cell q0;have u1:=f.cell q1;have u2:=f.cell q2;have u3:=f.cell q3;have y:=o.trans f;have a2:=hR.ext f;clear p0 p1 p2 p3 q0 q1 q2 q3;go_wp2;have J:=fun(i:World) (g:Ext w3 i)=>qh (And.intro (g.cell r0) (And.intro (g.cell r1) (And.intro (g.cell r2) (And.intro (g.cell r3) (And.intro (g.cell u0) (And.intro (g.cell u1) (And.intro (g.cell u2) (g.cell u3))))))))
 refine B0
  [hdP (w.heap.size+1) 0,he (.agg #[.bool I,.slice C G E]),hdP w.heap.size 2,he (.agg #[.bool false,.slice b m d]),hp (fun v i=>NI (q.num*A9 p) v i),hdP w.heap.size 0,he (.agg #[.bool s,.slice a n c]),hp (fun v i=>NI (q.num*A9 p+p.num) v i),hdP w.heap.size 2,he (.agg #[.bool false,.slice b m d])]
  ⟨NI.x _,NI.x _,trivial⟩ ⟨?o0,?o1,?o2,?o3,?o4,?o5,?o6,?o7,?o8,?o9,trivial⟩ ?fin
 case o0 | o5=>exact ofa (d:=0)
 case o1 | o3 | o6 | o9=>exact ol2
 case o2 | o8=>exact ofa (d:=2)
 case o4 =>
  refine Ag rfl fun ρ i g M a4 h => ?_;have e1:_=_:=h.2.1;have e2:_=_:=h.2.2.1;obtain⟨k0,k1,k2,k3,ac,ad,ag,ah⟩:=(J i g).out;refine⟨163,#[.agg #[.bool I,.slice C G E],.agg #[.bool false,.slice b m d]],by go_simp,((a6 i (y.trans g)).out).mono ?_⟩;rintro e w' ⟨I,C,G,E,rfl,z,B,A⟩;exact⟨_,rfl,z,I,C,G,E,rfl,B,A⟩
 case o7 =>
  refine Ag rfl fun ρ i g M a4 h => ?_;obtain⟨v1,e1,s1,D,H,F,rfl,i1,j1⟩:=h.2.1;have e2:_=_:=h.2.2.1;obtain⟨k0,k1,k2,k3,ac,ad,ag,ah⟩:=(J i g).out;refine⟨208,#[.agg (Ac s1 D H F).toArray,.agg #[.bool s,.slice a n c]],by go_simp,((a3 i (y.trans g) _ ⟨s1,D,H,F,rfl,i1,j1⟩).out).mono ?_⟩;rintro e w' ⟨I,C,G,E,rfl,z,B,A⟩;exact⟨_,rfl,z,I,C,G,E,rfl,B,A⟩
 case fin =>
  intro i g;rintro _ ⟨aq,ak,ap,al,rfl,ai,aj⟩;rintro _ ⟨s1,D,H,F,rfl,T,a8⟩;change wpList _ _ _ _ _ _;simp only[Ci];have L:=a2.ext g;have ao:(Ac s1 D H F).toArray=#[.bool s1,.slice D H F]:=rfl
  go_wp2_with(refine Aa (vs:=Al s1 D H F false b m d) rfl rfl rfl rfl rfl Ak L rfl (Aq _ _ _ _ _ _ _ _) ?_;intro w9 Y a5)
  exact py (Ap rfl Ak rfl Y) rfl (BG (y.trans g) L (AO _ _ _ _ _ _ _ _) a5 (by omega) (by rw[R.out.1];exact T) (by rw[R.out.1];exact a8) (by rw[HD.out];exact hy.ext (y.trans g)))
theorem N7(hT:AM w)(h:BU w v p)(h':BU w v' q)(b1:p.num.natAbs<P2 2400)(b2:p.den<P2 2400)(b3:q.num.natAbs<P2 2400)(b4:q.den<P2 2400)(d1:p.den≠1)(d2:q.den≠1):Calls prog 146 #[v,v'] w (GN w (p+q)):=by
 obtain⟨_,rfl,s,a,n,c,b,m,d,rfl,HS,hx,hy⟩:=h;obtain⟨_,rfl,s',a',n',c',b',m',d',rfl,dI,er,dc⟩:=h';have c4:=fun(j:World) (f:Ext w j)=>qh (AA (r:=false) (Bh (hy.ext f)) (pN (mt AG.1 d1)));have dd:=fun(j:World) (f:Ext w j)=>qh (AA (r:=false) (Bh (dc.ext f)) (pN (mt AG.1 d2)));have ap:=fun(j:World) (f:Ext w j)=>Bh (hy.ext f);have aa:=fun(j:World) (f:Ext w j)=>Bh (dc.ext f);rw[DI d1]at ap;rw[DI d2]at aa;obtain⟨G,hG⟩:∃ G,G=Nat.gcd p.den q.den:=⟨_,rfl⟩
 obtain⟨L,hL⟩:∃ L,L=q.den/G:=⟨_,rfl⟩;obtain⟨R,ak⟩:∃ R,R=p.den/G:=⟨_,rfl⟩;obtain⟨N,hN⟩:∃ N:Int,N=p.num*(L:Int)+q.num*(R:Int):=⟨_,rfl⟩;obtain⟨K,hK⟩:∃ K,K=N.natAbs.gcd G:=⟨_,rfl⟩;have hs:=Pl.rat_add_parts p q;rw[<-hG,<-hL,<-ak,<-hN,<-hK]at hs;have bn:0<G:=by rw[hG];exact wV _ (rN p.den_nz)
 have eg:0<K:=by rw[hK];exact vd _ bn
 have bG:G<P2 2400:=pJ (by rw[hG];exact Nat.gcd_le_left _ (rN p.den_nz)) b2;have bK:K<P2 2400:=pJ (by rw[hK];exact Nat.gcd_le_right _ bn) bG;have bL:L<P2 2400:=pJ (by rw[hL];exact qE _ _) b4;have bR:R<P2 2400:=pJ (by rw[ak];exact qE _ _) b2;have bk:(p.num*(L:Int)).natAbs<P2 4800:=by rw[qW];exact BJ b1 bL
 have bl:(q.num*(R:Int)).natAbs<P2 4800:=by rw[qW];exact BJ b3 bR
 have bN:N.natAbs<P2 9600:=Af (pJ (by rw[hN];exact we _ _) (KX bk bl)) (by omega);have bq:(((q.den/K:Nat):Int)).natAbs<P2 2400:=pJ (qE _ _) b4;have td:∀ x y:Nat,((x:Int)).tdiv (y:Int)=((x/y:Nat):Int):=fun x y=>by rw[qI (by omega)];push_cast;rfl
 have bs:=fun(j:World) (f:Ext w j)=>qh (Gf (hT.ext f) (ap j f) (aa j f) (Af b2 (by omega)) (Af b4 (by omega)));simp only[pX,<-hG]at bs;have bv:=fun(j:World) (f:Ext w j) (g:Value) (hg:AF j g (G:Int))=>qh (Ep (aa j f) hg (Af b4 (by omega)) (Af bG (by omega)) (by omega));have bx:=fun(j:World) (f:Ext w j) (g:Value) (hg:AF j g (G:Int))=>qh (Ep (ap j f) hg (Af b2 (by omega)) (Af bG (by omega)) (by omega));rw[td,<-hL]at bv;rw[td,<-ak]at bx
 have d4:=fun(j:World) (f:Ext w j) (g:Value) (hg:AF j g (L:Int))=>qh (CA (A8 HS (hx.ext f)) hg (Af b1 (by omega)) (Af bL (by omega)) (Or.inl (Af b1 (by omega))));have d5:=fun(j:World) (f:Ext w j) (g:Value) (hg:AF j g (R:Int))=>qh (CA (A8 dI (er.ext f)) hg (Af b3 (by omega)) (Af bR (by omega)) (Or.inl (Af b3 (by omega))));have bo:=fun(j:World) (x1 x2:Value) (h1:AF j x1 (p.num*(L:Int))) (h2:AF j x2 (q.num*(R:Int)))=>qh (JC h1 h2 (Af bk (by omega)) (Af bl (by omega)));rw[<-hN]at bo
 have ex:=fun(j:World) (x:Value) (hv:AF j x N)=>qh (AA (r:=decide (N=0)) hv rfl);have em:=fun(j:World) (x:Value) (hv:AF j x (G:Int))=>qh (CY (r:=decide (G=1)) hv (rV.2 (by omega)));have bt:=fun(j:World) (f:Ext w j)=>qh (CA (ap j f) (aa j f) (Af b2 (by omega)) (Af b4 (by omega)) (Or.inl (Af b2 (by omega))));have d3:=fun(j:World) (f:Ext w j) (x y:Value) (hv:AF j x N) (a0:AF j y (G:Int))=>qh (Gf (hT.ext f) hv a0 bN (Af bG (by omega)));simp only[pX,<-hK]at d3
 have d7:=fun(j:World) (x y:Value) (hv:AF j x N) (a0:AF j y (K:Int))=>qh (Ep hv a0 bN (Af bK (by omega)) (by omega));have d8:=fun(j:World) (f:Ext w j) (y:Value) (a0:AF j y (K:Int))=>qh (Ep (aa j f) a0 (Af b4 (by omega)) (Af bK (by omega)) (by omega));rw[td]at d8;have d6:=fun(j:World) (x y:Value) (hv:AF j x (R:Int)) (a0:AF j y ((q.den/K:Nat):Int))=>qh (CA hv a0 (Af bR (by omega)) (Af bq (by omega)) (Or.inl (Af bR (by omega))));rw[<-q7,<-hs.2]at d6;rw[<-hs.1]at d7;rw[<-q7]at bt
 have HZ:N=0->Hid (p+q=0):=fun h=>qh (Pl.rat_num_den_zero.1 (by rw[hs.1,h];exact Int.zero_tdiv _))
 have HO:G=1->Hid ((p+q).num=N/\(p+q).den=p.den*q.den):=fun h=>by
  refine qh ⟨?_,?_⟩
  · rw[hs.1,hK,h,sQ];exact wI _
  · rw[hs.2,hK,h,sQ,tW,ak,h,tW]
 clear b1 b2 b3 b4 d1 d2 hs hG hL ak hN hK bn eg bG bK bL bR bk bl bN bq td ap aa
 go_enter func146,ntmps146
 go_upto_region 1 with(fail)
 refine CO ?_;intro w0 ag b0 b5 eb ev;have p0:=b0.c 0 rfl;have p1:=b0.c 1 rfl;have p2:=b0.c 2 rfl;have p3:=b0.c 3 rfl;have q0:=b5.c 0 rfl;have q1:=b5.c 1 rfl;have q2:=b5.c 2 rfl;have q3:=b5.c 3 rfl;have hR:Arr w0 (w.heap.size+2) 85 (Al false none 0 0 false none 0 0):=eb;clear ev
 go_wp2_with fail
 refine(c4 _ ag).out.mono ?_;rintro e w1 ⟨rfl,b6⟩;have f2:=b6.cell p2;have f3:=b6.cell p3
 go_wp2_with fail
 refine(c4 _ (ag.trans b6)).out.mono ?_;rintro e w2 ⟨rfl,ec⟩;have ay:=b6.trans ec;clear f2 f3;have f2:=ay.cell q2;have f3:=ay.cell q3
 go_wp2_with fail
 refine(dd _ (ag.trans ay)).out.mono ?_;rintro e w3 ⟨rfl,ed⟩;have B:=ay.trans ed;clear f2 f3;have f0:=B.cell p0;have f1:=B.cell p1;have f2:=B.cell p2;have f3:=B.cell p3;have g0:=B.cell q0;have g1:=B.cell q1;have g2:=B.cell q2;have g3:=B.cell q3
 go_wp2_with fail
 refine(bs _ (ag.trans B)).out.mono ?_;rintro e w4 ⟨s3,a3,n3,c3,rfl,bm,dJ,es⟩;have en:(Ac s3 a3 n3 c3).toArray=#[.bool s3,.slice a3 n3 c3]:=rfl;have hY:=Arr.new w4 83 (Ac false none 0 0)
 go_upto_region 8 with(refine Aa (vs:=Ac s3 a3 n3 c3) rfl rfl rfl rfl rfl Ai hY rfl (Ae _ _ _ _) ?_;intro w5 cA ek)
 have b7:Ext w4 w5:=((Ext.refl w4).alloc _).grownR ek (lrf _);have bf:=((ag.trans B).trans bm).trans b7;have dy:=((hR.ext B).ext bm).ext b7;have H:=bm.trans b7;have r0:=H.cell f0;have r1:=H.cell f1;have r2:=H.cell f2;have r3:=H.cell f3;have u0:=H.cell g0;have u1:=H.cell g1;have u2:=H.cell g2;have u3:=H.cell g3;have aq:=cA.c 0 rfl;have ar:=cA.c 1 rfl;have iG:AF w5 (.agg (Ac s3 a3 n3 c3).toArray) (G:Int):=⟨s3,a3,n3,c3,rfl,dJ,es.ext b7⟩;clear en p0 p1 p2 p3 q0 q1 q2 q3 f0 f1 f2 f3 g0 g1 g2 g3 c4 dd bs hY
 have cl:=fun(j:World) (f:Ext w5 j)=>qh (And.intro (f.cell r0) (And.intro (f.cell r1) (And.intro (f.cell r2) (And.intro (f.cell r3) (And.intro (f.cell u0) (And.intro (f.cell u1) (And.intro (f.cell u2) (And.intro (f.cell u3) (And.intro (f.cell aq) (f.cell ar))))))))))
 refine DR (by kernel_rfl) (fun j=>Ext w5 j)
  [he (.pointer (some ⟨(w.heap.size+1),2,none⟩)),
 he (.agg #[.bool false,.slice b' m' d']),
 he (.agg #[.bool s3,.slice a3 n3 c3]),
 hp (fun v j=>NI ((L:Int)) v j),
 he (.pointer (some ⟨w.heap.size,2,none⟩)),
 he (.agg #[.bool false,.slice b m d]),
 he (.agg #[.bool s3,.slice a3 n3 c3]),
 hp (fun v j=>NI ((R:Int)) v j),
 hp (NP w5.heap.size),
 hp (NP w5.heap.size),
 hmp (fun _ _=>True)]
  (by kernel_rfl) (fun _ _ e h=>h.trans e) ((Ext.refl w5).drew) ⟨trivial,trivial,trivial,NI.x _,trivial,trivial,trivial,NI.x _,NP.x _,NP.x _,NT.x,trivial⟩ ⟨?o0,?o1,?o2,?o3,?o4,?o5,?o6,?o7,?o8,?o9,?o10,trivial⟩ 8 9 10 3 83 (Ac false none 0 0) ⟨by simp,by simp,by simp,by simp⟩ (by omega) ?hk ?hs1 ?hp1 ?hnm Ai ?hj1 ?fin
 case o0 | o4=>exact ofa (d:=2)
 case o1 | o2 | o5 | o6=>exact ol2
 case o3 =>
  refine Ag rfl fun ρ j f E Q h => ?_;have e1:_=_:=h.2.1;have e2:_=_:=h.2.2.1;obtain⟨S,T,U,V,W,X,Y,Z,aq,ar⟩:=(cl j f).out;refine⟨209,#[.agg #[.bool false,.slice b' m' d'],.agg #[.bool s3,.slice a3 n3 c3]],by go_simp,((bv j (bf.trans f) _ (iG.ext f)).out).mono ?_⟩;rintro e w' ⟨s',a',n',c',rfl,A,D,C⟩;exact⟨_,rfl,A,s',a',n',c',rfl,D,C⟩
 case o7 =>
  refine Ag rfl fun ρ j f E Q h => ?_;have e1:_=_:=h.2.1;have e2:_=_:=h.2.2.1;obtain⟨S,T,U,V,W,X,Y,Z,aq,ar⟩:=(cl j f).out;refine⟨209,#[.agg #[.bool false,.slice b m d],.agg #[.bool s3,.slice a3 n3 c3]],by go_simp,((bx j (bf.trans f) _ (iG.ext f)).out).mono ?_⟩;rintro e w' ⟨s',a',n',c',rfl,A,D,C⟩;exact⟨_,rfl,A,s',a',n',c',rfl,D,C⟩
 case o8 =>
  exact CL rfl rfl (fun _ h=>h.size)
 case o9 =>
  exact CL rfl rfl (fun _ h=>h.size)
 case o10 =>
  exact Gv (base:=w5.heap.size) (z:=(L:Int)) rfl rfl ⟨trivial,trivial,trivial,NI.i _,trivial,trivial,trivial,NI.i _,NP.i _,NP.i _,NT.i,trivial⟩ (fun w w' g h hb hg=>h.grownR hg hb) (fun ρ w _ _ h=>⟨h.1,h.2.1⟩)
 case hk =>
  rintro k (rfl|rfl) o ho
  · cases ho;exact⟨rfl,rfl,fun ρ j=>CK rfl ρ j⟩
  · cases ho;exact⟨rfl,rfl,fun ρ j=>CK rfl ρ j⟩
 case hs1 =>
  intro o ho;cases ho;exact⟨rfl,rfl,_,_,rfl,rfl,rfl⟩
 case hp1=>exact⟨rC.1 (by kernel_rfl),rC.1 (by kernel_rfl)⟩
 case hnm =>
  intro i hi ab;simp only[qk,vY]at hi
  match i,hi,ab with
  | 0,_,_=>rfl
  | 1,_,_=>rfl
  | 2,_,_=>rfl
  | 3,_,_=>rfl
  | 4,_,_=>rfl
  | 5,_,_=>rfl
  | 6,_,_=>rfl
  | 7,_,_=>rfl
  | 8,_,_=>rfl
  | 9,_,_=>rfl
  | 10,_,ab=>exact absurd rfl ab
 case hj1 =>
  refine⟨rfl,fun v w h => ?_⟩;obtain⟨s,a,n,c,rfl,_,_⟩:=h;exact⟨Ac s a n c,rfl,rfl,Ae _ _ _ _⟩
 case fin =>
  intro j f;rintro _ ⟨s5,a5,n5,c5,rfl,dT,da⟩;rintro _ ⟨s6,a6,n6,c6,rfl,e5,db⟩;rintro _ ⟨g5,fe,rfl,_,_,_,_⟩;rintro _ ⟨g6,ff,rfl,_,_,_,_⟩;rintro _ _;simp only[lw,lj,lk,lp,Act.put,lB,lC,lD,AX,Bf,wi,vq,sE,tr];rintro⟨ga,gb,cr,e1,e2,l5,l6,ab,e3,hA1,hA2⟩;have ct:Value.pointer (some ⟨g5,0,none⟩) = .pointer (some ⟨ga,0,none⟩):=e1
  have cv:Value.pointer (some ⟨g6,0,none⟩) = .pointer (some ⟨gb,0,none⟩):=e2;have cx:Value.agg (Ac s5 a5 n5 c5).toArray = .agg cr.toArray:=e3;simp only[tF,pz,qq,qO]at ct cv;have e4:cr=Ac s5 a5 n5 c5:=by simpa using cx.symm
  subst ct;subst cv;subst e4;clear e1 e2 e3 cx;change wpList _ _ _ _ _ _
  go_upto_region 9 with(refine Aa (vs:=Ac s6 a6 n6 c6) rfl rfl rfl rfl rfl Ai hA2 rfl (Ae _ _ _ _) ?_;intro w6 cP al)
  have F:Ext w5 w6:=f.grownR al l6;have d0:=hA1.kept al (by simpa using ab);have ei:=da.kept hA2 (Ax _ _ _ _) al;have ej:=db.kept hA2 (Ax _ _ _ _) al;clear hA1 hA2 ab f da db al;have y0:=F.cell r0;have y1:=F.cell r1;have y2:=F.cell r2;have y3:=F.cell r3;have z0:=F.cell u0;have z1:=F.cell u1;have z2:=F.cell u2;have z3:=F.cell u3;have ac:=bf.trans F;have bg:=dy.ext F;have de:=iG.ext F;have cy:=F.cell aq;have cz:=F.cell ar;have b8:=d0.c 0 rfl;have ba:=d0.c 1 rfl;have O:=cP.c 0 rfl;have P:=cP.c 1 rfl
  have iL:AF w6 (.agg (Ac s5 a5 n5 c5).toArray) (L:Int):=⟨s5,a5,n5,c5,rfl,dT,ei⟩;have iR:AF w6 (.agg (Ac s6 a6 n6 c6).toArray) (R:Int):=⟨s6,a6,n6,c6,rfl,e5,ej⟩;clear r0 r1 r2 r3 u0 u1 u2 u3 aq ar bv bx;have bi:=fun(j:World) (f:Ext w6 j)=>qh (And.intro (f.cell y0) (And.intro (f.cell y1) (And.intro (f.cell y2) (And.intro (f.cell y3) (And.intro (f.cell z0) (And.intro (f.cell z1) (And.intro (f.cell z2) (And.intro (f.cell z3) (And.intro (f.cell b8) (And.intro (f.cell ba) (And.intro (f.cell O) (f.cell P))))))))))))
  refine B0
   [hdP w.heap.size 0,he (.agg #[.bool s,.slice a n c]),he (.agg #[.bool s5,.slice a5 n5 c5]),hp (fun v j=>NI (p.num*(L:Int)) v j),hdP (w.heap.size+1) 0,he (.agg #[.bool s',.slice a' n' c']),he (.agg #[.bool s6,.slice a6 n6 c6]),hp (fun v j=>NI (q.num*(R:Int)) v j),hp (fun v j=>NI (N) v j),hp (NP w6.heap.size)]
   ⟨NI.x _,NI.x _,NI.x _,NP.x _,trivial⟩ ⟨?o0,?o1,?o2,?o3,?o4,?o5,?o6,?o7,?o8,?o9,trivial⟩ ?fin
  case o0 | o4=>exact ofa (d:=0)
  case o1 | o2 | o5 | o6=>exact ol2
  case o3 =>
   refine Ag rfl fun ρ j f E Q h => ?_;have e1:_=_:=h.2.1;have e2:_=_:=h.2.2.1;obtain⟨S,T,U,V,W,X,Y,Z,b8,ba,O,P⟩:=(bi j f).out;refine⟨163,#[.agg #[.bool s,.slice a n c],.agg #[.bool s5,.slice a5 n5 c5]],by go_simp,((d4 j (ac.trans f) _ (iL.ext f)).out).mono ?_⟩;rintro e w' ⟨s',a',n',c',rfl,A,D,C⟩;exact⟨_,rfl,A,s',a',n',c',rfl,D,C⟩
  case o7 =>
   refine Ag rfl fun ρ j f E Q h => ?_;have e1:_=_:=h.2.1;have e2:_=_:=h.2.2.1;obtain⟨S,T,U,V,W,X,Y,Z,b8,ba,O,P⟩:=(bi j f).out;refine⟨163,#[.agg #[.bool s',.slice a' n' c'],.agg #[.bool s6,.slice a6 n6 c6]],by go_simp,((d5 j (ac.trans f) _ (iR.ext f)).out).mono ?_⟩;rintro e w' ⟨s',a',n',c',rfl,A,D,C⟩;exact⟨_,rfl,A,s',a',n',c',rfl,D,C⟩
  case o8 =>
   refine Ag rfl fun ρ j f E Q h => ?_;obtain⟨v1,e1,s1,a1,n1,c1,rfl,i1,j1⟩:=h.2.1;obtain⟨v2,e2,s2,a2,n2,c2,rfl,i2,j2⟩:=h.2.2.1;obtain⟨S,T,U,V,W,X,Y,Z,b8,ba,O,P⟩:=(bi j f).out;refine⟨208,#[.agg (Ac s1 a1 n1 c1).toArray,.agg (Ac s2 a2 n2 c2).toArray],by go_simp,((bo j _ _ ⟨s1,a1,n1,c1,rfl,i1,j1⟩ ⟨s2,a2,n2,c2,rfl,i2,j2⟩).out).mono ?_⟩;rintro e w' ⟨s',a',n',c',rfl,A,D,C⟩;exact⟨_,rfl,A,s',a',n',c',rfl,D,C⟩
  case o9 =>
   exact CL rfl rfl (fun _ h=>h.size)
  case fin =>
   intro j f;rintro _ ⟨dl,cp,dj,cq,rfl,cd,ck⟩;rintro _ ⟨eD,e9,eC,ea,rfl,dv,dA⟩;rintro _ ⟨s7,a7,n7,c7,rfl,e6,et⟩;rintro _ ⟨g7,fg,rfl,l7,A7,k7,U7⟩;change wpList _ _ _ _ _ _;simp only[Ci];have eo:(Ac s7 a7 n7 c7).toArray=#[.bool s7,.slice a7 n7 c7]:=rfl
   go_upto_region 10 with(refine Aa (vs:=Ac s7 a7 n7 c7) rfl rfl rfl rfl rfl Ai A7 k7 (Ae _ _ _ _) ?_;intro w7 cQ bp)
   have ef:Ext w6 w7:=f.grownR bp l7;have iN:AF w7 (.agg (Ac s7 a7 n7 c7).toArray) N:=⟨s7,a7,n7,c7,rfl,e6,et.kept A7 U7 bp⟩;have I:=cQ.c 0 rfl;have J:=cQ.c 1 rfl;clear eo d4 d5 bo f bp A7 U7 k7 l7
   go_wp2_with fail
   refine(ex _ _ iN).out.mono ?_;rintro e w8 ⟨rfl,cT⟩;have a4:=ef.trans cT;have dx:=ac.trans a4;have ch:=bg.ext a4;by_cases ai:N=0
   · have e8:=HZ ai;rw[qC ai];clear ai HZ HO
     go_wp2_with(refine Aa (vs:=Al false none 0 0 false none 0 0) rfl rfl rfl rfl rfl Ak ch rfl (Aq _ _ _ _ _ _ _ _) ?_;intro w9 ad ao)
     refine py (Ap rfl Ak rfl ad) rfl ?_;rw[e8.out];exact BG dx ch (AO _ _ _ _ _ _ _ _) ao (by omega) (qh rfl) (Wd.nil _) (Wd.nil _)
   · rw[pN ai];clear ai HZ;have dn:=a4.cell cy;have dq:=a4.cell cz
     go_wp2_with fail
     refine(em _ _ (de.ext a4)).out.mono ?_;rintro e eX ⟨rfl,ce⟩;have l:=a4.trans ce;have bb:=cT.trans ce;have bd:=ac.trans l;have ds:=bg.ext l;have I:=bb.cell I;have J:=bb.cell J;have iN:=iN.ext bb;clear dn dq;have r0:=l.cell y0;have r1:=l.cell y1;have r2:=l.cell y2;have r3:=l.cell y3;have u0:=l.cell z0;have u1:=l.cell z1;have u2:=l.cell z2;have u3:=l.cell z3;by_cases ah:G=1
     · have co:=HO ah;rw[qC ah];rw[<-co.out.1]at iN;rw[<-co.out.2]at bt;clear ah HO;go_wp2;have cn:=fun(j:World) (f:Ext eX j)=>qh (And.intro (f.cell r0) (And.intro (f.cell r1) (And.intro (f.cell r2) (And.intro (f.cell r3) (And.intro (f.cell u0) (And.intro (f.cell u1) (And.intro (f.cell u2) (And.intro (f.cell u3) (And.intro (f.cell I) (f.cell J))))))))))
       refine B0
        [he (.agg #[.bool s7,.slice a7 n7 c7]),hdP w.heap.size 2,he (.agg #[.bool false,.slice b m d]),hdP (w.heap.size+1) 2,he (.agg #[.bool false,.slice b' m' d']),hp (fun v j=>NI (((p+q).den:Int)) v j),hp (fun v j=>∃ cs,v = .agg cs.toArray/\CJ j cs (p+q))]
        ⟨NI.x _,fun v w w' e ⟨cs,h1,h2⟩=>⟨cs,h1,h2.ext e⟩,trivial⟩ ⟨?o0,?o1,?o2,?o3,?o4,?o5,?o6,trivial⟩ ?fin
       case o0 | o2 | o4=>exact ol2
       case o1 | o3=>exact ofa (d:=2)
       case o5 =>
        refine Ag rfl fun ρ j f E Q h => ?_;have e1:_=_:=h.2.1;have e2:_=_:=h.2.2.1;obtain⟨S,T,U,V,W,X,Y,Z,I,J⟩:=(cn j f).out;refine⟨163,#[.agg #[.bool false,.slice b m d],.agg #[.bool false,.slice b' m' d']],by go_simp,((bt j (bd.trans f)).out).mono ?_⟩;rintro e w' ⟨s',a',n',c',rfl,A,D,C⟩;exact⟨_,rfl,A,s',a',n',c',rfl,D,C⟩
       case o6 =>
        refine Ag rfl fun ρ j f E Q h => ?_;have e1:_=_:=h.2.1;obtain⟨v2,e2,s2,a2,n2,c2,rfl,i2,j2⟩:=h.2.2.1;obtain⟨S,T,U,V,W,X,Y,Z,I,J⟩:=(cn j f).out;refine⟨166,#[.agg #[.bool s7,.slice a7 n7 c7],.agg (Ac s2 a2 n2 c2).toArray],by go_simp,(DV (q:=p+q) (iN.ext f) ⟨s2,a2,n2,c2,rfl,i2,j2⟩).mono ?_⟩;rintro e w' ⟨cs,rfl,A,bz⟩;exact⟨_,rfl,A,cs,rfl,bz⟩
       case fin =>
        intro j f;rintro _ ⟨dl,cp,dj,cq,rfl,cd,ck⟩;rintro _ ⟨_,rfl,s9,a9,n9,c9,b9,m9,d9,rfl,bj,bW,c0⟩;change wpList _ _ _ _ _ _;simp only[Ci];have aj:=ds.ext f;have eq:(Al s9 a9 n9 c9 false b9 m9 d9).toArray=#[.bool s9,.slice a9 n9 c9,.bool false,.slice b9 m9 d9]:=rfl
        go_wp2_with(refine Aa (vs:=Al s9 a9 n9 c9 false b9 m9 d9) rfl rfl rfl rfl rfl Ak aj rfl (Aq _ _ _ _ _ _ _ _) ?_;intro w9 ad ao)
        exact py (Ap rfl Ak rfl ad) rfl (BG (bd.trans f) aj (AO _ _ _ _ _ _ _ _) ao (by omega) bj bW c0)
     · rw[pN ah];have dn:=l.cell cy;have dq:=l.cell cz;clear ah HO
       go_wp2_with fail
       refine(d3 _ bd _ _ iN (de.ext l)).out.mono ?_;rintro e ca ⟨s8,a8,n8,c8,rfl,dw,e7,eu⟩;have ep:(Ac s8 a8 n8 c8).toArray=#[.bool s8,.slice a8 n8 c8]:=rfl;have hY:=Arr.new ca 83 (Ac false none 0 0)
       go_upto_region 15 with(refine Aa (vs:=Ac s8 a8 n8 c8) rfl rfl rfl rfl rfl Ai hY rfl (Ae _ _ _ _) ?_;intro cb cR el)
       have cg:Ext ca cb:=((Ext.refl ca).alloc _).grownR el (lrf _);have M:=dw.trans cg;have t:=l.trans M;have cc:=ac.trans t;have dt:=bg.ext t;have I:=M.cell I;have J:=M.cell J;have iN:=iN.ext M;have dB:=iR.ext t;have O:=t.cell O;have P:=t.cell P;have iK:AF cb (.agg (Ac s8 a8 n8 c8).toArray) (K:Int):=⟨s8,a8,n8,c8,rfl,e7,eu.ext cg⟩;have av:=cR.c 0 rfl;have ax:=cR.c 1 rfl;have y0:=t.cell y0;have y1:=t.cell y1;have y2:=t.cell y2;have y3:=t.cell y3;have z0:=t.cell z0
       have z1:=t.cell z1;have z2:=t.cell z2;have z3:=t.cell z3;clear ep hY;have aA:=fun(j:World) (f:Ext cb j)=>qh (And.intro (f.cell y0) (And.intro (f.cell y1) (And.intro (f.cell y2) (And.intro (f.cell y3) (And.intro (f.cell z0) (And.intro (f.cell z1) (And.intro (f.cell z2) (And.intro (f.cell z3) (And.intro (f.cell O) (And.intro (f.cell P) (And.intro (f.cell I) (And.intro (f.cell J) (And.intro (f.cell av) (f.cell ax))))))))))))))
       refine B0
        [he (.agg #[.bool s7,.slice a7 n7 c7]),he (.agg #[.bool s8,.slice a8 n8 c8]),hp (fun v j=>NI ((p+q).num) v j),he (.agg #[.bool s6,.slice a6 n6 c6]),hdP (w.heap.size+1) 2,he (.agg #[.bool false,.slice b' m' d']),he (.agg #[.bool s8,.slice a8 n8 c8]),hp (fun v j=>NI (((q.den/K:Nat):Int)) v j),hp (fun v j=>NI (((p+q).den:Int)) v j),hp (fun v j=>∃ cs,v = .agg cs.toArray/\CJ j cs (p+q))]
        ⟨NI.x _,NI.x _,NI.x _,fun v w w' e ⟨cs,h1,h2⟩=>⟨cs,h1,h2.ext e⟩,trivial⟩ ⟨?o0,?o1,?o2,?o3,?o4,?o5,?o6,?o7,?o8,?o9,trivial⟩ ?fin
       case o0 | o1 | o3 | o5 | o6=>exact ol2
       case o4=>exact ofa (d:=2)
       case o2 =>
        refine Ag rfl fun ρ j f E Q h => ?_;have e1:_=_:=h.2.1;have e2:_=_:=h.2.2.1;obtain⟨S,T,U,V,W,X,Y,Z,O,P,I,J,av,ax⟩:=(aA j f).out;refine⟨209,#[.agg #[.bool s7,.slice a7 n7 c7],.agg #[.bool s8,.slice a8 n8 c8]],by go_simp,((d7 j _ _ (iN.ext f) (iK.ext f)).out).mono ?_⟩;rintro e w' ⟨s',a',n',c',rfl,A,D,C⟩;exact⟨_,rfl,A,s',a',n',c',rfl,D,C⟩
       case o7 =>
        refine Ag rfl fun ρ j f E Q h => ?_;have e1:_=_:=h.2.1;have e2:_=_:=h.2.2.1;obtain⟨S,T,U,V,W,X,Y,Z,O,P,I,J,av,ax⟩:=(aA j f).out;refine⟨209,#[.agg #[.bool false,.slice b' m' d'],.agg #[.bool s8,.slice a8 n8 c8]],by go_simp,((d8 j (cc.trans f) _ (iK.ext f)).out).mono ?_⟩;rintro e w' ⟨s',a',n',c',rfl,A,D,C⟩;exact⟨_,rfl,A,s',a',n',c',rfl,D,C⟩
       case o8 =>
        refine Ag rfl fun ρ j f E Q h => ?_;have e1:_=_:=h.2.1;obtain⟨v2,e2,s2,a2,n2,c2,rfl,i2,j2⟩:=h.2.2.1;obtain⟨S,T,U,V,W,X,Y,Z,O,P,I,J,av,ax⟩:=(aA j f).out;refine⟨163,#[.agg #[.bool s6,.slice a6 n6 c6],.agg (Ac s2 a2 n2 c2).toArray],by go_simp,((d6 j _ _ (dB.ext f) ⟨s2,a2,n2,c2,rfl,i2,j2⟩).out).mono ?_⟩;rintro e w' ⟨s',a',n',c',rfl,A,D,C⟩;exact⟨_,rfl,A,s',a',n',c',rfl,D,C⟩
       case o9 =>
        refine Ag rfl fun ρ j f E Q h => ?_;obtain⟨v1,e1,s1,a1,n1,c1,rfl,i1,j1⟩:=h.2.1;obtain⟨v2,e2,s2,a2,n2,c2,rfl,i2,j2⟩:=h.2.2.1;obtain⟨S,T,U,V,W,X,Y,Z,O,P,I,J,av,ax⟩:=(aA j f).out;refine⟨166,#[.agg (Ac s1 a1 n1 c1).toArray,.agg (Ac s2 a2 n2 c2).toArray],by go_simp,(DV (q:=p+q) ⟨s1,a1,n1,c1,rfl,i1,j1⟩ ⟨s2,a2,n2,c2,rfl,i2,j2⟩).mono ?_⟩;rintro e w' ⟨cs,rfl,A,bz⟩;exact⟨_,rfl,A,cs,rfl,bz⟩
       case fin =>
        intro j f;rintro _ ⟨dl,cp,dj,cq,rfl,cd,ck⟩;rintro _ ⟨eD,e9,eC,ea,rfl,dv,dA⟩;rintro _ ⟨fn,f7,fk,fb,rfl,f5,f6⟩;rintro _ ⟨_,rfl,s9,a9,n9,c9,b9,m9,d9,rfl,bj,bW,c0⟩;change wpList _ _ _ _ _ _;simp only[Ci];have aj:=dt.ext f;have eq:(Al s9 a9 n9 c9 false b9 m9 d9).toArray=#[.bool s9,.slice a9 n9 c9,.bool false,.slice b9 m9 d9]:=rfl
        go_wp2_with(refine Aa (vs:=Al s9 a9 n9 c9 false b9 m9 d9) rfl rfl rfl rfl rfl Ak aj rfl (Aq _ _ _ _ _ _ _ _) ?_;intro w9 ad ao)
        exact py (Ap rfl Ak rfl ad) rfl (BG (cc.trans f) aj (AO _ _ _ _ _ _ _ _) ao (by omega) bj bW c0)
theorem QS(i:AM w)(h:BU w v p)(e:BU w v' q)(b:p.num.natAbs<P2 2400)(f:p.den<P2 2400)(c:q.num.natAbs<P2 2400)(g:q.den<P2 2400):Calls prog 146 #[v,v'] w (GN w (p+q)):=by
 by_cases d:p.den=1
 · by_cases a:q.den=1
   · exact PM h e b c d a
   · exact PN h e b c g d a
 · by_cases a:q.den=1
   · exact PO h e b c f d a
   · exact N7 i h e b f c g d a
def NR(q:Rat)(v:Value)(w:World):Prop:=∃ cs,v = .agg cs.toArray/\CJ w cs q
theorem NR.x(q:Rat):StX (NR q):=fun _ _ _ e ⟨a,h1,h2⟩=>⟨a,h1,h2.ext e⟩
theorem fI(h:BU w v q):Calls prog 129 #[v] w (GN w q⁻¹):=by
 have a4:=fun(f:World) (g:Ext w f)=>qh (Jj (h.ext g));obtain⟨_,rfl,s,a,n,c,b,m,d,rfl,HS,hx,hy⟩:=h;have ah:=fun(f:World) (g:Ext w f)=>qh (UB (r:=q.num.sign) (A8 HS (hx.ext g)) rfl);have V:=fun(f:World) (g:Ext w f)=>qh (Wb (A8 HS (hx.ext g)));have ag:=fun(f:World) (g:Ext w f)=>A8 HS (hx.ext g)
 go_enter func129,ntmps129
 go_upto_region 1 with(fail)
 refine Cf ?_;intro w0 a3 I ac ai;have p0:=I.c 0 rfl;have p1:=I.c 1 rfl;have p2:=I.c 2 rfl;have p3:=I.c 3 rfl;have hR:Arr w0 (w.heap.size+1) 85 (Al false none 0 0 false none 0 0):=ac;clear ai
 go_wp2_with fail
 refine(ah _ a3).out.mono ?_;rintro e w1 ⟨rfl,p⟩;have k:=a3.trans p;have J:=hR.ext p;have r0:=p.cell p0;have r1:=p.cell p1;have r2:=p.cell p2;have r3:=p.cell p3;clear p0 p1 p2 p3;rcases Int.lt_trichotomy q.num 0 with C|C|C
 · have N:=qh (Pl.rat_inv_neg C);rw[p8 C];have z : -q.num=((q.num.natAbs:Nat):Int):=by omega
   rw[z]at V;rw[<-N.out.2]at V;clear C z;go_wp2;have H:=fun(f:World) (g:Ext w1 f)=>qh (And.intro (g.cell r0) (And.intro (g.cell r1) (And.intro (g.cell r2) (g.cell r3))))
   refine B0
    [he (.agg #[.bool s,.slice a n c,.bool false,.slice b m d]),hp (fun v f=>NI ((q.den:Int)) v f),hp (fun v f=>NI (-(q.den:Int)) v f),hdP w.heap.size 0,he (.agg #[.bool s,.slice a n c]),hp (fun v f=>NI (((q⁻¹).den:Int)) v f),hp (fun v f=>NR (q⁻¹) v f)]
    ⟨NI.x _,NI.x _,NI.x _,NR.x _,trivial⟩ ⟨?o0,?o1,?o2,?o3,?o4,?o5,?o6,trivial⟩ ?fin
   case o0=>exact ol4
   case o3=>exact ofa (d:=0)
   case o4=>exact ol2
   case o1 =>
    refine Ag rfl fun ρ f g j A h => ?_;have e1:_=_:=h.2.1;obtain⟨D,E,F,G⟩:=(H f g).out;refine⟨165,#[.agg #[.bool s,.slice a n c,.bool false,.slice b m d]],by go_simp,((a4 f (k.trans g)).out).mono ?_⟩;rintro e w' ⟨s',P,n',S,rfl,i,o,l⟩;exact⟨_,rfl,i,s',P,n',S,rfl,o,l⟩
   case o2 =>
    refine Ag rfl fun ρ f g j A h => ?_;obtain⟨v1,e1,s1,K,M,L,rfl,i1,j1⟩:=h.2.1;obtain⟨D,E,F,G⟩:=(H f g).out;refine⟨140,#[.agg (Ac s1 K M L).toArray],by go_simp,(Wb ⟨s1,K,M,L,rfl,i1,j1⟩).mono ?_⟩;rintro e w' ⟨s',P,n',S,rfl,i,o,l⟩;exact⟨_,rfl,i,s',P,n',S,rfl,o,l⟩
   case o5 =>
    refine Ag rfl fun ρ f g j A h => ?_;have e1:_=_:=h.2.1;obtain⟨D,E,F,G⟩:=(H f g).out;refine⟨140,#[.agg #[.bool s,.slice a n c]],by go_simp,((V f (k.trans g)).out).mono ?_⟩;rintro e w' ⟨s',P,n',S,rfl,i,o,l⟩;exact⟨_,rfl,i,s',P,n',S,rfl,o,l⟩
   case o6 =>
    refine Ag rfl fun ρ f g j A h => ?_;obtain⟨v1,e1,s1,K,M,L,rfl,i1,j1⟩:=h.2.1;obtain⟨v2,e2,s2,a2,n2,c2,rfl,i2,j2⟩:=h.2.2.1;obtain⟨D,E,F,G⟩:=(H f g).out;refine⟨166,#[.agg (Ac s1 K M L).toArray,.agg (Ac s2 a2 n2 c2).toArray],by go_simp,(DV (q:=q⁻¹) (by rw[N.out.1];exact⟨s1,K,M,L,rfl,i1,j1⟩) ⟨s2,a2,n2,c2,rfl,i2,j2⟩).mono ?_⟩;rintro e w' ⟨cs,rfl,i,W⟩;exact⟨_,rfl,i,cs,rfl,W⟩
   case fin =>
    intro f g;rintro _ ⟨ak,aa,aj,ab,rfl,a6,a8⟩;rintro _ ⟨b1,ar,aA,ax,rfl,al,ap⟩;rintro _ ⟨b2,av,b0,ay,rfl,ao,aq⟩;rintro _ ⟨_,rfl,s9,Q,n9,T,R,Z,U,rfl,O,X,Y⟩;change wpList _ _ _ _ _ _;simp only[Ci];have y:=J.ext g;have ad:(Al s9 Q n9 T false R Z U).toArray=#[.bool s9,.slice Q n9 T,.bool false,.slice R Z U]:=rfl
    go_wp2_with(refine Aa (vs:=Al s9 Q n9 T false R Z U) rfl rfl rfl rfl rfl Ak y rfl (Aq _ _ _ _ _ _ _ _) ?_;intro w9 t B)
    exact py (Ap rfl Ak rfl t) rfl (BG (k.trans g) y (AO _ _ _ _ _ _ _ _) B (by omega) O X Y)
 · have N:Hid (q⁻¹=0):=qh (by rw[Pl.rat_num_den_zero.1 C];exact Pl.rat_inv_zero);rw[C];have a5:Int.sign 0=0:=rfl;rw[a5];clear C a5
   go_wp2_with(refine Aa (vs:=Al false none 0 0 false none 0 0) rfl rfl rfl rfl rfl Ak J rfl (Aq _ _ _ _ _ _ _ _) ?_;intro w9 t B)
   refine py (Ap rfl Ak rfl t) rfl ?_;rw[N.out];exact BG k J (AO _ _ _ _ _ _ _ _) B (by omega) (qh rfl) (Wd.nil _) (Wd.nil _)
 · have N:=qh (Pl.rat_inv_pos C);rw[vB C];have z:q.num=((q.num.natAbs:Nat):Int):=by omega
   have a7:∀ (f:World),Ext w f->AF f (.agg (Ac s a n c).toArray) ((q⁻¹).den:Int):=by
    intro f g;rw[N.out.2,<-z];exact ag f g
   clear C z;go_wp2;have a0:=fun(f:World) (g:Ext w1 f)=>qh (And.intro (g.cell r0) (And.intro (g.cell r1) (And.intro (g.cell r2) (g.cell r3))))
   refine B0
    [he (.agg #[.bool s,.slice a n c,.bool false,.slice b m d]),hp (fun v f=>NI ((q.den:Int)) v f),hdP w.heap.size 0,he (.agg #[.bool s,.slice a n c]),hp (fun v f=>NR (q⁻¹) v f)]
    ⟨NI.x _,NR.x _,trivial⟩ ⟨?o0,?o1,?o2,?o3,?o4,trivial⟩ ?fin
   case o0=>exact ol4
   case o2=>exact ofa (d:=0)
   case o3=>exact ol2
   case o1 =>
    refine Ag rfl fun ρ f g j A h => ?_;have e1:_=_:=h.2.1;obtain⟨D,E,F,G⟩:=(a0 f g).out;refine⟨165,#[.agg #[.bool s,.slice a n c,.bool false,.slice b m d]],by go_simp,((a4 f (k.trans g)).out).mono ?_⟩;rintro e w' ⟨s',P,n',S,rfl,i,o,l⟩;exact⟨_,rfl,i,s',P,n',S,rfl,o,l⟩
   case o4 =>
    refine Ag rfl fun ρ f g j A h => ?_;obtain⟨v1,e1,s1,K,M,L,rfl,i1,j1⟩:=h.2.1;have e2:_=_:=h.2.2.1;obtain⟨D,E,F,G⟩:=(a0 f g).out;refine⟨166,#[.agg (Ac s1 K M L).toArray,.agg #[.bool s,.slice a n c]],by go_simp,(DV (q:=q⁻¹) (by rw[N.out.1];exact⟨s1,K,M,L,rfl,i1,j1⟩) (a7 f (k.trans g))).mono ?_⟩;rintro e w' ⟨cs,rfl,i,W⟩;exact⟨_,rfl,i,cs,rfl,W⟩
   case fin =>
    intro f g;rintro _ ⟨ak,aa,aj,ab,rfl,a6,a8⟩;rintro _ ⟨_,rfl,s9,Q,n9,T,R,Z,U,rfl,O,X,Y⟩;change wpList _ _ _ _ _ _;simp only[Ci];have y:=J.ext g;have ad:(Al s9 Q n9 T false R Z U).toArray=#[.bool s9,.slice Q n9 T,.bool false,.slice R Z U]:=rfl
    go_wp2_with(refine Aa (vs:=Al s9 Q n9 T false R Z U) rfl rfl rfl rfl rfl Ak y rfl (Aq _ _ _ _ _ _ _ _) ?_;intro w9 t B)
    exact py (Ap rfl Ak rfl t) rfl (BG (k.trans g) y (AO _ _ _ _ _ _ _ _) B (by omega) O X Y)
theorem DX{k:Nat}:∀ (a:List (List Value)),(∀ r∈a,r.length=k)->∀ i j,j<k->a.flatten[i*k+j]?=(a[i]?).bind (·[j]?)
 | [],_,i,j,_=>by simp
 | r :: rest,h,0,j,hj=>by
  have hr:r.length=k:=h r (by simp);simp only[r7,qA,vh,sE,tr];rw[pO (by omega)]
 | r :: rest,h,i+1,j,hj=>by
  have hr:r.length=k:=h r (by simp);have c:=DX rest (fun x b=>h x (by simp[b])) i j hj;simp only[vh,vq];have e:(i+1)*k+j=k+(i*k+j):=by rw[qJ];omega
  rw[e,pW (by omega),hr,vm,c]
theorem BM{k:Nat}:∀ (a:List (List Value)),(∀ r∈a,r.length=k)->a.flatten.length=a.length*k
 | [],_=>by simp
 | r :: rest,h=>by
  have hr:r.length=k:=h r (by simp);have c:=BM rest (fun x b=>h x (by simp[b]));simp only[vh,pZ,qk,c,hr,qJ];omega
theorem N8{k:Nat}:∀ (a:List (List Value)),(∀ r∈a,r.length=k)->∀ i (vs:List Value),vs.length=k->i<a.length ->
 a.flatten.take (i*k) ++ vs ++ a.flatten.drop (i*k+k)=(a.set i vs).flatten
 | [],_,i,vs,_,hi=>by simp at hi
 | r :: rest,h,0,vs,hv,_=>by
  have hr:r.length=k:=h r (by simp);simp only[r7,rf,qR,qA,vh,vX];rw[wX,hr,ro,qN,List.drop_eq_nil_of_le (by omega),qR]
 | r :: rest,h,i+1,vs,hv,hi=>by
  have hr:r.length=k:=h r (by simp);have f:=N8 rest (fun x d=>h x (by simp[d])) i vs hv (by simpa using hi);have e:(i+1)*k=k+i*k:=by rw[qJ];omega
  simp only[vh,vD,e];rw[List.take_append,wX,pu (by omega),List.drop_eq_nil_of_le (by omega),qR,hr];have b:k+i*k-k=i*k:=by omega
  have c:k+i*k+k-k=i*k+k:=by omega
  rw[b,c,<-f];simp
theorem N9{a N:Nat}(c:vs.length=k)(h1:a+k<=N)(h2:N<=L.length):(L.take a ++ vs ++ L.drop (a+k)).take N=(L.take N).take a ++ vs ++ (L.take N).drop (a+k):=by
 have b:(L.take a ++ vs).length=a+k:=by simp[c];omega
 rw[x9,rA (by omega),List.drop_take,List.take_append,pu (by omega),b]
theorem PP{a:Nat}(b:vs.length=k)(h:a+k<=L.length):(L.take a ++ vs ++ L.drop (a+k)).length=L.length:=by
 simp[b];omega
structure SlK(w:World)(k:Nat)(a:Option Addr)(n c:Nat)(rows:List (List Value)):Prop where
 len:rows.length=n
 cap:n<=c
 max:c<=maxLen
 wid:∀ r∈rows,r.length=k
 rd:0<n->∃ b off,a=some ⟨b,off,none⟩/\∀ i,i<n->∀ j,j<k->w.cell? ⟨b,off+i*k+j,none⟩=some ((rows.getD i []).getD j undef)
theorem SlK.ext(h:SlK w k a n c rows)(e:Ext w w'):SlK w' k a n c rows :=
 ⟨h.len,h.cap,h.max,h.wid,fun h0=>let ⟨b,off,ha,hc⟩:=h.rd h0;⟨b,off,ha,fun i d j f=>e.cell (hc i d j f)⟩⟩
theorem SlK.nil(w:World)(k:Nat):SlK w k none 0 0 []:=⟨rfl,lrf _,pE _,(fun _ h=>by cases h),fun h=>absurd h (by omega)⟩
theorem SlK.le(h:SlK w k a n c rows):n<=9223372036854775807:=by
 have h1:=h.cap;have h2:=h.max;unfold maxLen at h2;omega
theorem SlK.row(h:SlK w k a n c rows){i:Nat}(hi:i<n):(rows.getD i []).length=k:=by
 have b:i<rows.length:=by rw[h.len];exact hi
 refine h.wid _ ?_;rw[gqq,oO b];simp
def AR(w:World)(base:Nat)(e:TypeId)(k:Nat)(a:Option Addr)(n c:Nat)(rows:List (List Value)):Prop:=(∀ r∈rows,r.length=k)/\w.ownsRow base e k (.slice a n c) n rows.flatten
section
variable {w w':World} {base:Nat} {e:TypeId} {k:Nat} {a:Option Addr} {n c:Nat} {rows:List (List Value)}
theorem AR.ext(h:AR w base e k a n c rows)(x:Ext w w'):AR w' base e k a n c rows:=⟨h.1,NJ h.2 x⟩
theorem AR.nil(w:World)(base:Nat)(e:TypeId)(k:Nat):AR w base e k none 0 0 []:=⟨(fun _ h=>by cases h),World.ownsRow_nil w base e k⟩
theorem AR.mono(h:AR w base e k a n c rows)(i:base'<=base):AR w base' e k a n c rows:=by
 obtain⟨h0,h1,h2⟩:=h;refine⟨h0,h1,?_⟩;rcases h2 with h2|⟨g,b,d,f,j,r⟩
 · exact Or.inl h2
 · exact Or.inr ⟨g,b,d,f,by omega,r⟩
theorem AR.kept{row:Option Nat}(h:AR w base e k a n c rows)(f:w.grownBy w' row)(d:blk a=none\/blk a≠row):AR w' base e k a n c rows:=by
 refine⟨h.1,World.ownsRow.kept h.2 f ?_⟩;cases a with
 | none=>left;rfl
 | some b=>right;rcases d with h | h
           · simp[blk]at h
           · simpa[blk,Value.ownBlock]using h
theorem AR.lt(h:AR w base e k a n c rows){g:Nat}(d:blk a=some g):base<=g/\g<w.heap.size:=by
 refine World.ownsRow.lt h.2 g ?_;cases a with
 | none=>simp[blk]at d
 | some b=>simpa[blk,Value.ownBlock]using d
theorem AR.place(h:AR w base e k a n c rows)(l:0<n):∃ g,a=some ⟨g,0,none⟩/\base<=g/\g<w.heap.size:=by
 rcases h.2.2 with⟨_,h0⟩|⟨g,d,f,b,i,j,_⟩
 · omega
 · simp only[pI]at b;refine⟨g,b.1,i,?_⟩;rcases qx g w.heap.size with h|h
   · exact h
   · simp[rl h]at j
theorem AR.len(b:0<k)(h:AR w base e k a n c rows):rows.length=n:=by
 have h1:=h.2.1;rw[BM rows h.1]at h1;exact vH b h1
theorem AR.slk(v:0<k)(h:AR w base e k a n c rows):SlK w k a n c rows:=by
 have q:=h.len v;obtain⟨h0,h1,h2⟩:=h;rcases h2 with⟨f,A⟩|⟨g,r,d,f,z,s,m,x,B,y⟩
 · simp only[pI]at f;obtain⟨rfl,rfl,rfl⟩:=f;have:rows=[]:=pG q;subst this;exact SlK.nil w k
 · simp only[pI,tP]at f;obtain⟨rfl,rfl⟩:=f;refine⟨q,m,x,h0,fun _=>⟨g,0,rfl,fun i t j p => ?_⟩⟩;have b:i<rows.length:=by omega
   have o:(rows[i]).length=k:=h0 _ (qG b);have h3:=DX rows h0 i j p;rw[oO b,tr,<-y,List.getElem?_take]at h3;have l:i*k+j<n*k:=by
    have:(i+1)*k<=n*k:=px k t;rw[qJ]at this;omega
   rw[pP l]at h3;rw[qA,xb w g _ d e (0,0) s];have h4:d[i*k+j]?=(rows[i])[j]?:=by rw[<-h3];simp
   rw[h4,oO (by omega)];simp[b,o,p]
end
section
variable {P:Program} {w:World}
theorem Vt{b a i:Nat}(s:Agg P ty k)(h:SlK w k (some ⟨b,a,none⟩) n c rows)(hi:i<n) :
 (Instr.loadAt ty (.pointer (some ⟨b,a+i*k,none⟩))).run P w = .ok (.agg (rows.getD i []).toArray) w:=by
 obtain⟨d,hu,A,f⟩:=s.parts;obtain⟨z,r,e,t⟩:=h.rd (by omega);simp only[pz,qq,qO]at e;obtain⟨rfl,rfl⟩:=e;have o:=h.row hi;have q:(loadCells ⟨b,a+i*k,none⟩ (rows.getD i []).length).run P w = .ok (rows.getD i []).toArray w:=by
  refine run_loadCells_list (P:=P) w _ (rows.getD i []) (fun j v p => ?_);have x:j<k:=by
   rcases qx j k with h|h
   · exact h
   · rw[pV (by omega)]at p;cases p
  have g:(⟨b,a+i*k,none⟩:Addr).add j=⟨b,a+i*k+j,none⟩:=by unfold Addr.add;split <;> simp_all
  rw[g,t i hi j x,gqq,p];rfl
 rw[o]at q;cases m:P.info? ty with
 | none=>simp[m]at f
 | some inf =>
  have y:inf.size=k:=by simpa[m]using f
  have l:(isAgg ty).run P w = .ok true w:=by
   cases d <;> simp_all [isAgg,qF hu]
  simp[Instr.loadAt,Instr.sureAddr,loadVar,l,Go.sizeOf,typeInfo,m,y,q]
theorem Bg{x:Operand}(e:o.guard=none)(l:o.op = .load ty x)
 {k:Nat} {b a n c i:Nat} {rows:List (List Value)} (j:Agg P ty k) (m:f.eval x = .pointer (some ⟨b,a+i*k,none⟩)) (h:SlK w k (some ⟨b,a,none⟩) n c rows) (hi:i<n)
 (g:wpList P ops Q rest (f.put o.dst (.agg (rows.getD i []).toArray)) w):wpList P ops Q (o :: rest) f w:=by
 refine qT e fun K d => ?_;unfold Oper.wp execOp;simp only[l,m,q8,Vt j h hi,pK,qz,Oper.upon];exact d _ _ g
theorem Vu{ty:TypeId}{k base:Nat}{e:TypeId}{g n c i:Nat}{rows:List (List Value)}{vs:List Value}(G:0<k)(C:Agg P ty k)(h:AR w base e k (some ⟨g,0,none⟩) n c rows)(hi:i<n)(j:vs.length=k)(h1:∀ v∈vs,v.oneCell'=true) :
 ∃ z,(Instr.storeAt ty (.pointer (some ⟨g,i*k,none⟩)) (.agg vs.toArray)).run P w = .ok () z/\AR z base e k (some ⟨g,0,none⟩) n c (rows.set i vs)/\w.grownBy z (some g):=by
 obtain⟨d,hu,K,f⟩:=C.parts;have o:=h.len G;obtain⟨h0,F,h2⟩:=h;rcases h2 with⟨t,_⟩|⟨J,B,b,t,D,A,p,H,q,I⟩
 · simp at t
 simp only[pI,pz,qq,qO,tP]at t;obtain⟨rfl,rfl⟩:=t;have x:i*k+k<=n*k:=by
  have:(i+1)*k<=n*k:=px k hi;rw[qJ]at this;omega
 have E:n*k<=c*k:=px k p;have l:=run_storeCells_at (P:=P) g (i*k) e vs 0 b w A (by rw[j];omega) h1;rw[qy,j]at l;refine⟨w.setRow g (b.toList.take (i*k) ++ vs ++ b.toList.drop (i*k+k)).toArray,?_,⟨?_,?_⟩,BK w g _⟩
 · cases y:P.info? ty with
   | none=>simp[y]at f
   | some inf =>
    have q:inf.size=k:=by simpa[y]using f
    simp[Instr.storeAt,Instr.sureAddr,storeVar,Go.sizeOf,typeInfo,y,Value.cells,q,j,l]
 · intro r m;rcases rE m with m|rfl
   · exact h0 r m
   · exact j
 · have s:=N8 rows h0 i vs j (by omega);refine⟨by rw[BM _ (fun r m=>by rcases rE m with m | rfl;exact h0 r m;exact j)];simp[o],Or.inr ⟨g,c,(b.toList.take (i*k) ++ vs ++ b.toList.drop (i*k+k)).toArray,rfl,D,by simp[World.setRow,rP,A],p,H,?_,?_⟩⟩
   · have:=PP (L:=b.toList) (a:=i*k) j (by simp[q];omega);simpa[q]using this
   · rw[<-s,<-I];exact N9 j x (by simp[q];omega)
theorem Id{x:Operand}(j:o.guard=none)(s:o.op = .store ty x y)
 {k base:Nat} {e:TypeId} {g n c i:Nat} {rows:List (List Value)} {vs:List Value} {va:Array Value} (q:0<k) (p:Agg P ty k) (t:f.eval x = .pointer (some ⟨g,i*k,none⟩)) (z:f.eval y = .agg va) (l:va=vs.toArray)
 (h:AR w base e k (some ⟨g,0,none⟩) n c rows) (hi:i<n) (r:vs.length=k) (h1:∀ v∈vs,v.oneCell'=true)
 (m:∀ b,AR b base e k (some ⟨g,0,none⟩) n c (rows.set i vs)->w.grownBy b (some g)->wpList P ops Q rest (f.put o.dst undef) b):wpList P ops Q (o :: rest) f w:=by
 subst l;obtain⟨b,a,h2,h3⟩:=Vu q p h hi r h1;refine qT j fun K d => ?_;unfold Oper.wp execOp;simp only[s,t,z,q8,a,pK,qz,Oper.upon];exact d _ _ (m _ h2 h3)
def BV(P:Program)(e:TypeId)(zs:List Value)(k bytes:Nat):Prop :=
 (P.info? e).map (fun i=>(i.zero,i.size,i.bytes))=some (some (.agg zs.toArray),k,bytes)/\zs.length=k/\0<k
theorem BV.parts{P:Program}{e:TypeId}(h:BV P e zs k bytes):∃ i,P.info? e=some i/\i.zero=some (.agg zs.toArray)/\i.size=k/\i.bytes=bytes:=by
 obtain⟨h,_,_⟩:=h;cases a:P.info? e with
 | none=>rw[a]at h;cases h
 | some i =>
  rw[a]at h;simp only[qU,pz,sW]at h;exact⟨i,rfl,h.1,h.2.1,h.2.2⟩
theorem FD{e:TypeId}{base:Nat} 
 (U:P.underlying t=some (.slice e)) (f:BV P e zs k bytes) (v:AR w base e k a n c rows) (d:SlK w k (some ad) m cx news)
 (h1:∀ r∈news,∀ u∈r,u.oneCell'=true) (h63:n+m<=maxLen) (p:(n+m)*bytes<=140737488355328) (y:base<=w.heap.size) :
 ∃ E N A,(Builtin.append_ #[t,t] ty #[.slice a n c,.slice (some ad) m cx]).run P w = .ok (.slice E (n+m) N) A/\AR A base e k E (n+m) N (rows ++ news) /\
  w.grownBy A (blk a)/\(blk E=blk a\/blk E=some w.heap.size):=by
 obtain⟨i,T,V,z,G⟩:=f.parts;have I:=f.2.2;have M:(Value.agg zs.toArray).cells.size=k:=by simp[Value.cells,f.2.1]
 have s:(Value.slice a n c).ownBlock=blk a:=by cases a <;> rfl
 have q:∀ j u,news.flatten[j]?=some u->w.cell? (ad.add j)=some u:=by
  intro j u hu;have H:j<news.flatten.length:=by
   rcases qx j news.flatten.length with h|h
   · exact h
   · simp[pV h]at hu
  rw[BM news d.wid,d.len]at H;have J:0<m:=by rcases pT m with h | h;(rw[h,r7]at H;omega);exact h
  obtain⟨b,o,h,S⟩:=d.rd J;injection h with h;subst h;have B:j/k<m:=(re I).2 H;have D:j%k<k:=qf _ I;have C:j=j/k*k+j%k:=by rw[pM];exact(qM j k).symm
  have h2:=S (j/k) B (j%k) D;have h3:=DX news d.wid (j/k) (j%k) D;rw[<-C,hu]at h3;have O:j/k<news.length:=by rw[d.len];exact B
  rw[oO O,tr]at h3;have h4:(news.getD (j/k) []).getD (j%k) undef=u:=by
   rw[gqq (l:=news),oO O,pY,gqq,<-h3];rfl
  rw[h4,sB,<-C]at h2;rw[<-h2];unfold Addr.add;by_cases h0:j=0 <;> simp[h0]
 obtain⟨W,A,x,h2,h3,_,h5⟩:=run_append_own_at (P:=P) w base t ty e i (.agg zs.toArray) k bytes U T V z G M I (.slice a n c) n rows.flatten v.2 ad m cx news.flatten (by rw[BM news d.wid,d.len]) q (by intro u hu;obtain⟨r,K,hu⟩:=vu.1 hu;exact h1 r K u hu) h63 p y;rw[<-List.flatten_append]at h2;have Q:∀ r∈rows ++ news,r.length=k:=fun r K=>(qd.1 K).elim (v.1 r) (d.wid r);rcases h2.2 with⟨L,h0⟩|⟨g,F,R,L,_⟩
 · subst L;refine⟨none,0,A,by rw[x,h0],⟨Q,?_⟩,by rw[<-s];exact h3,by rw[<-s];exact h5⟩;rw[h0]at h2 |-;exact h2
 · subst L;exact⟨_,F,A,x,⟨Q,h2⟩,by rw[<-s];exact h3,by rw[<-s];exact h5⟩
theorem Dn{s x:Operand}(v:o.guard=none)
 (C:o.op = .call { callee := .builtin .append,args:=#[s,x],argTypes:=#[t,t] })
 {e:TypeId} {zs:List Value} {k bytes base:Nat} {a:Option Addr} {n c:Nat} {rows:List (List Value)} {z:Addr} {m A:Nat} {news:List (List Value)}
 (E:P.underlying t=some (.slice e)) (g:BV P e zs k bytes) (D:f.eval s = .slice a n c) (j:AR w base e k a n c rows) (F:f.eval x = .slice (some z) m A) (y:SlK w k (some z) m A news)
 (h1:∀ r∈news,∀ u∈r,u.oneCell'=true) (h63:n+m<=maxLen) (b:(n+m)*bytes<=140737488355328) (d:base<=w.heap.size)
 (h:∀ i q p,AR p base e k i (n+m) q (rows ++ news)->w.grownBy p (blk a)->(blk i=blk a\/blk i=some w.heap.size)->wpList P ops Q rest (f.put o.dst (.slice i (n+m) q)) p) :
 wpList P ops Q (o :: rest) f w:=by
 refine qT v fun _ B => ?_;obtain⟨i,q,p,l,h2,h3,h4⟩:=FD (P:=P) (ty:=o.type) E g j y h1 h63 b d;unfold Oper.wp execOp;simp only[C,resolve,invoke,builtin,q8,qz,pK,sM,qP,sS,D,F,l];exact B _ _ (h i q p h2 h3 h4)
theorem LQ(f:zs.length=k)(e:0<k):(madeCells zs.toArray (n*k)).toList=(List.replicate n zs).flatten:=by
 have g:∀ r∈List.replicate n zs,r.length=k:=fun r i=>by rw[(qS.1 i).2];exact f
 refine sF fun j => ?_;by_cases d:j<n*k
 · have c:j=j/k*k+j%k:=by rw[pM];exact(qM j k).symm
   have b:j/k<n:=(re e).2 d;have a:j%k<k:=qf _ e;have h3:=DX (List.replicate n zs) g (j/k) (j%k) a;rw[<-c]at h3;rw[h3];simp[madeCells,d,f,b,a]
 · have h1:(madeCells zs.toArray (n*k)).toList.length<=j:=by simp[size_madeCells];omega
   have h2:(List.replicate n zs).flatten.length<=j:=by rw[BM _ g];simp;omega
   rw[pV h1,pV h2]
theorem E0{l c:Operand}(x:o.guard=none)(p:o.op=Op.makeSlice t l c)
 {e:TypeId} {zs:List Value} {k bytes n:Nat} (B:P.underlying t=some (.slice e)) (a:BV P e zs k bytes) (z:f.eval l = .int .i64 n) (v:f.eval c = .int .i64 n)
 (s:bytes*n<=281474976710656) (h63:n<=maxLen)
 (q:∀ g,AR g w.heap.size e k (some ⟨w.heap.size,0,none⟩) n n (List.replicate n zs)->Ext w g->wpList P ops Q rest (f.put o.dst (.slice (some ⟨w.heap.size,0,none⟩) n n)) g) :
 wpList P ops Q (o :: rest) f w:=by
 refine qT x fun K j => ?_;obtain⟨i,y,C,b,m⟩:=a.parts;obtain⟨g,d,h2,h3⟩:=run_make_full (P:=P) w w.heap.size t e i (.agg zs.toArray) k B y C b .i64 .i64 n (by rw[m];exact s) h63 (lrf _);have h4:(Value.agg zs.toArray).cells=zs.toArray:=rfl;rw[h4,LQ a.2.1 a.2.2]at h2;unfold Oper.wp execOp;simp only[p,q8,qz,pK,z,v,d,Oper.upon];exact j _ _ (q g ⟨fun r A=>by rw[(qS.1 A).2];exact a.2.1,h2⟩ ((Ext.refl w).grown h3 (by simp)))
end
theorem MP{a:Nat}(b:0<a)(c:0<d):0<a*(d/Nat.gcd a d) :=
 tA b (Nat.div_pos (tR c (sR _ _)) (wV _ b))
def Bk(l:List Rat):Nat:=l.foldl (fun a q=>a*(q.den/Nat.gcd a q.den)) 1
theorem Cn(l:List Rat):0<Bk l:=by
 have:∀ (l:List Rat) (a:Nat),0<a->0<l.foldl (fun a q=>a*(q.den/Nat.gcd a q.den)) a:=by
  intro l
  induction l with
  | nil=>intro a h;exact h
  | cons q r ih=>intro a h;exact ih _ (MP h (rN q.den_nz))
 exact this l 1 (by omega)
theorem At:Agg prog 92 10:=⟨by kernel_rfl,by kernel_rfl⟩
def As(e:List Int)(s:Bool)(a:Option Addr)(n c:Nat)(b:Option Addr)(m d:Nat):List Value:=e.map (Value.int .i64) ++ Al s a n c false b m d
theorem Bs:BV prog 92 (As [0,0,0,0,0,0] false none 0 0 none 0 0) 10 112:=⟨by kernel_rfl,rfl,by omega⟩
def BB(w:World)(row:List Value)(t:Pl.Tm):Prop:=∃ s a n c b m d,row=As t.1 s a n c b m d/\t.1.length=6/\CJ w (Al s a n c false b m d) t.2
theorem BB.ext{w f:World}{row:List Value}{t:Pl.Tm}(h:BB w row t)(e:Ext w f):BB f row t:=by
 obtain⟨s,a,n,c,b,m,d,h1,h2,h3⟩:=h;exact⟨s,a,n,c,b,m,d,h1,h2,h3.ext e⟩
def Bn(w:World)(a:Option Addr)(n c:Nat)(l:List Pl.Tm):Prop:=∃ rows,SlK w 10 a n c rows/\l.length=n/\∀ i,i<n->BB w (rows.getD i []) (l.getD i ([],0))
theorem Bn.ext{w d:World}{a:Option Addr}{n c:Nat}{l:List Pl.Tm}(h:Bn w a n c l)(e:Ext w d):Bn d a n c l:=by
 obtain⟨b,h1,h2,h3⟩:=h;exact⟨b,h1.ext e,h2,fun i f=>(h3 i f).ext e⟩
theorem AI :∀ v∈As e s a n c b m d,v.oneCell'=true:=by
 intro v f;rcases qd.1 f with f|f
 · obtain⟨x,_,rfl⟩:=pU.1 f;rfl
 · exact Aq _ _ _ _ _ _ _ _ v f
theorem Bt(h:e.length=6):∃ a b c d f g,e=[a,b,c,d,f,g]:=by
 match e,h with
 | [a,b,c,d,f,g],_=>exact⟨a,b,c,d,f,g,rfl⟩
def Lk(c:UInt8):Bool:=decide (48<=c.toNat) && decide (c.toNat<=57)
theorem Ey{c:UInt8}:Lk c=true<->W.isDig c:=by simp[Lk,W.isDig]
def pre(l:List UInt8):List UInt8:=l.takeWhile Lk
def suf(l:List UInt8):List UInt8:=l.dropWhile Lk
theorem F3(l:List UInt8):pre l ++ suf l=l:=List.takeWhile_append_dropWhile
theorem J1(l:List UInt8):W.digs (pre l):=fun c a=>by
 induction l with
 | nil=>simp[pre]at a
 | cons x r ih =>
  unfold pre at a ih;rw[List.takeWhile_cons]at a;split at a
  · rename_i h;rcases qj.1 a with rfl|a
    · exact Ey.1 h
    · exact ih a
  · simp at a
theorem QT{d:List UInt8}(a:W.digs d)(e:∀ c,r.head?=some c->¬ W.isDig c):pre (d ++ r)=d/\suf (d ++ r)=r:=by
 induction d with
 | nil =>
  cases r with
  | nil=>exact⟨rfl,rfl⟩
  | cons c t =>
   have:Lk c=false:=by
    cases h:Lk c with
    | false=>rfl
    | true=>exact absurd (Ey.1 h) (e c rfl)
   simp[pre,suf,this]
 | cons x t ih =>
  have f:Lk x=true:=Ey.2 (a x (by simp));have:=ih (fun c b=>a c (by simp[b]));unfold pre suf at *
  simp[f,this]
def C9(l:List UInt8):(Bool×List UInt8×List UInt8)×Bool :=
 let neg:Bool:=decide (l.head?=some 45)
 let r1:=if neg=true then l.tail else l
 let num:=pre r1
 let r2:=suf r1
 if num=[48]then((neg,num,[]),!neg && decide (r2=[]))
 else if num=[]\/num.head?=some 48 then((neg,num,[]),false)
 else if r2=[]then((neg,num,[]),true)
 else if r2.head?≠some 47 then((neg,num,[]),false)
 else((neg,num,pre r2.tail),decide (suf r2.tail=[]) && decide (pre r2.tail≠[]) && decide ((pre r2.tail).head?≠some 48) && decide (pre r2.tail≠[49]))
structure Spl(l:List UInt8)(neg:Bool)(num den:List UInt8):Prop where
 eq:l=(if neg=true then [45]else []) ++ (num ++ (if den=[]then []else 47 :: den))
 dn:W.digs num
 dd:W.digs den
 ne:num≠[]
 z:num.head?=some 48->num=[48]/\neg=false/\den=[]
 nd:den.head?≠some 48
 n1:den≠[49]
theorem Wz:¬ W.isDig 45:=by simp[W.isDig]
theorem WA:¬ W.isDig 47:=by simp[W.isDig]
theorem Spl.split{l f a:List UInt8}{neg:Bool}(h:Spl l neg f a):C9 l=((neg,f,a),true):=by
 obtain⟨rfl,h1,h2,h3,h4,h5,h6⟩:=h;obtain⟨c,t,rfl⟩:=rS h3;have q:c≠45:=by rintro rfl;exact Wz (h1 45 (by simp))
 have e:decide (((if neg=true then [45]else []) ++ ((c :: t) ++ (if a=[]then []else 47 :: a))).head?=some 45)=neg:=by
  cases neg <;> simp[q]
 have k:(if neg=true then((if neg=true then [45]else []) ++ ((c :: t) ++ (if a=[]then []else 47 :: a))).tail else(if neg=true then [45]else []) ++ ((c :: t) ++ (if a=[]then []else 47 :: a)))=(c :: t) ++ (if a=[]then []else 47 :: a):=by
  cases neg <;> simp
 have hp:=QT (d:=c :: t) (r:=if a=[]then []else 47 :: a) h1 (by
  intro x g;split at g
  · simp at g
  · simp only[List.head?_cons,pz]at g
    subst g;exact WA)
 unfold C9;simp only[e,k,hp.1,hp.2];by_cases m:c=48
 · subst m;obtain⟨n,o,p⟩:=h4 rfl;subst o p;rw[pP n];simp
 · have j:¬ (c :: t=[48]):=by intro h;simp at h;exact m h.1
   rw[pC j,pC (by simp[m])];by_cases i:a=[]
   · subst i;simp
   · simp only[pC i];rw[pC (by simp),pC (by simp)];have b:=QT (d:=a) (r:=[]) h2 (by simp);rw[rD]at b;simp only[wO,b.1,b.2];simp[i,h5,h6]
theorem LR(h:C9 l=((neg,num,den),true)):Spl l neg num den:=by
 unfold C9 at h;simp only at h;generalize b:decide (l.head?=some 45)=k at h;generalize a:(if k=true then l.tail else l)=i at h;have j:l=(if k=true then [45]else []) ++ i:=by
  cases k with
  | true =>
   simp only[qX]at b;simp only[tM]at a |-;cases l with
   | nil=>simp at b
   | cons c t=>simp at b a;rw[b,a];rfl
  | false=>simp at a |-; exact a
 have f:=F3 i;have e:=J1 i;generalize pre i=n at *
 generalize suf i=m at *
 split at h
 · rename_i h0;simp only[sW,qQ,oI,qX]at h;obtain⟨⟨rfl,rfl,rfl⟩,rfl,rfl⟩:=h;subst h0;exact⟨by rw[j,<-f];simp,e,by simp[W.digs],by simp,fun _=>⟨rfl,rfl,rfl⟩,by simp,by simp⟩
 · split at h
   · simp at h
   · rename_i h0 h1;simp only[not_or]at h1;split at h
     · rename_i h2;simp only[sW,qO]at h;obtain⟨rfl,rfl,rfl⟩:=h;subst h2;exact⟨by rw[j,<-f];simp,e,by simp[W.digs],h1.1,fun h=>absurd h h1.2,by simp,by simp⟩
     · split at h
       · simp at h
       · rename_i h2 h3;have g:m.head?=some 47:=pQ h3;obtain⟨c,t,rfl⟩:=rS h2;simp only[List.head?_cons,pz]at g;subst g;simp only[wO,sW,qQ]at h;obtain⟨⟨rfl,rfl,rfl⟩,⟨⟨h4,h5⟩,h6⟩,h7⟩:=h;have h4:=rL h4;have h5:=rL h5;have h6:=rL h6;have h7:=rL h7;have d:=F3 t;rw[h4,rD]at d;refine⟨?_,e,J1 t,h1.1,fun h=>absurd h h1.2,h6,h7⟩;rw[j,<-f,pC h5,d]
theorem MQ(z:Int):Lib.itoa z=(if z<0 then [45]else []) ++ Lib.decDigits z.natAbs:=by
 unfold Lib.itoa;split
 · rfl
 · rw[show z.toNat=z.natAbs by omega];rfl
theorem QU(h:(Lib.decDigits n).head?=some 48):n=0:=by
 rcases pT n with h0|h0
 · exact h0
 · obtain⟨c,r,e,a⟩:=W.dec_head h0;rw[e]at h;simp at h;exact absurd h a
def AD(l:List UInt8):Option Rat :=
 let p:=C9 l
 if p.2=true then
  let n:Int:=if p.1.1=true then -(W.decV p.1.2.1:Int)else W.decV p.1.2.1
  if p.1.2.2=[]then some (mkRat n 1)else if n.natAbs.gcd (W.decV p.1.2.2)=1 then some (mkRat n (W.decV p.1.2.2))else none
 else none
theorem QW(q:Rat):Spl (txt q) (decide (q.num<0)) (Lib.decDigits q.num.natAbs) (if q.den=1 then []else Lib.decDigits q.den):=by
 have a:=q.den_nz;refine⟨?_,W.digs_dec _,?_,W.dec_ne _,?_,?_,?_⟩
 · unfold txt;rw[MQ];by_cases h:q.den=1
   · simp[h]
   · simp[h,W.dec_ne]
 · split
   · simp[W.digs]
   · exact W.digs_dec _
 · intro h;have h0:=QU h;have b:q.num=0:=by omega
   have c:=Pl.rat_num_den_zero.1 b;refine⟨by rw[h0,W.dec_zero],by simp[b],?_⟩;subst c;rfl
 · split
   · simp
   · intro h;exact a (QU h)
 · split
   · simp
   · rename_i h1;intro h;have:=q9 W.decV h;rw[W.decV_dec]at this;exact h1 (by rw[this];rfl)
theorem Cx(q:Rat):AD (txt q)=some q:=by
 have h:=(QW q).split;unfold AD;simp only[h,tM];have a:(if decide (q.num<0)=true then -((W.decV (Lib.decDigits q.num.natAbs):Nat):Int)else((W.decV (Lib.decDigits q.num.natAbs):Nat):Int))=q.num:=by
  rw[W.decV_dec];by_cases h:q.num<0
  · simp only[h,vE,tM];omega
  · simp only[h,oJ];simp;omega
 rw[a];by_cases h1:q.den=1
 · simp only[h1,tM];have:=wL q;rw[h1]at this;rw[this]
 · simp only[pC h1,pC (W.dec_ne _),W.decV_dec];rw[pP q.reduced,wL]
theorem Cp(h:AD l=some q):l=txt q:=by
 unfold AD at h;generalize hp:C9 l=p at h;obtain⟨⟨j,a,b⟩,y⟩:=p;simp only at h;cases y with
 | false=>simp at h
 | true =>
  have i:=LR hp;simp only[tM]at h;generalize w:(if j=true then -((W.decV a:Nat):Int)else((W.decV a:Nat):Int))=n at h
  have g:Lib.decDigits (W.decV a)=a:=W.dec_of_digs i.dn i.ne (fun c r e s=>by
   have:=(i.z (by rw[e,s];rfl)).1;rw[e]at this;simp at this
   exact this.2)
  have k:n.natAbs=W.decV a:=by rw[<-w];split <;> omega
  have v:n<0<->j=true:=by
   rw[<-w];cases j with
   | false=>simp
   | true =>
    simp only[tM,iff_true];have h0:W.decV a≠0:=by
     intro h0;rw[h0,W.dec_zero]at g;have:=(i.z (by rw[<-g];rfl)).2.1;simp at this
    omega
  have o:Lib.itoa n=(if j=true then [45]else []) ++ a:=by
   rw[MQ,k,g];simp only[v]
  by_cases m:b=[]
  · rw[pP m]at h;simp only[pz]at h;have:=Pl.rat_eq_mk (q:=q) (n:=n) (d:=1) (by omega) (sQ _) h.symm;rw[i.eq,txt,this.1,this.2,o,m];simp
  · rw[pC m]at h;split at h
    · rename_i x;simp only[pz]at h
      have f:Lib.decDigits (W.decV b)=b:=W.dec_of_digs i.dd m (fun c r e s=>by
       have:=i.nd;rw[e,s]at this
       simp at this)
      have hd0:W.decV b≠0:=by
       intro h0;rw[h0,W.dec_zero]at f;have:=i.nd;rw[<-f]at this;simp at this
      have t:W.decV b≠1:=by
       intro h0;rw[h0]at f;have:=i.n1;rw[<-f]at this;exact this (by rw[Lib.decDigits];rfl)
      have:=Pl.rat_eq_mk (q:=q) (n:=n) (d:=W.decV b) hd0 x h.symm;rw[i.eq,txt,this.1,this.2,o,pC m,pC t,f];simp
    · simp at h
end Go.Proofs.YtlbmnokpiilfpaaGreatDoor
