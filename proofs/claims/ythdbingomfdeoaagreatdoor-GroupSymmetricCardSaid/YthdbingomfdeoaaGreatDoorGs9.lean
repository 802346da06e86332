/- Part Gs9. -/
import Derived.Test.YthdbingomfdeoaaGreatDoorGs8

set_option linter.all false
set_option maxRecDepth 100000
set_option maxHeartbeats 100000000
namespace Go.Proofs.YthdbingomfdeoaaGreatDoor
open Tryz Go Go.RowKit
def iY:=@List.exists_cons_of_ne_nil
def jV:=@List.flatten_cons
def kc:=@List.mem_flatten
def lM:=@List.drop_append
def lV:=@List.tail_cons
def lW:=@cell_of_row
def mD:=@Nat.gcd_pos_of_pos_left
def mw:=@Rat.mkRat_self
variable {f:Act} {ad:Addr} {ops:Array Oper} {neg s:Bool} {Q:Exit->Act->World->Prop} {news rows:List (List Value)} {e:List Int} {rest:List Oper} {den l num r:List UInt8} {L vs zs:List Value} {base' bytes c cx d k m n:Nat} {o:Oper} {y:Operand} {a b:Option Addr} {p q:Rat} {t ty:TypeId} {v v':Value} {w w':World}
theorem Jh(hT:Bk w)(h:BI w v p)(h':BI w v' q)(b1:p.num.natAbs<P2 2400)(b2:p.den<P2 2400)(b3:q.num.natAbs<P2 2400)(b4:q.den<P2 2400)(av:p≠0)(ax:q≠0)(hd:p.den≠1\/q.den≠1):Calls prog 103 #[v,v'] w (Ib w (p*q)):=by
 have aT:=fun(f:World) (j:Ext w f)=>qh (Na (h.ext j));have aU:=fun(f:World) (j:Ext w f)=>qh (Na (h'.ext j));obtain⟨_,rfl,s,a,n,c,b,m,d,rfl,HS,hx,hy⟩:=h;obtain⟨_,rfl,J,F,I,G,b',m',d',rfl,aj,ay,bo⟩:=h';have aD:=fun(f:World) (j:Ext w f)=>qh (Av (r:=false) (AZ HS (hx.ext j)) (fK (mt Pl.rat_num_den_zero.1 av)));have aE:=fun(f:World) (j:Ext w f)=>qh (Av (r:=false) (AZ aj (ay.ext j)) (fK (mt Pl.rat_num_den_zero.1 ax)))
 have aF:=fun(f:World) (j:Ext w f)=>qh (Av (r:=decide (Bo p=0)) (Bp (hy.ext j)) rfl);have ag:=fun(f:World) (j:Ext w f)=>qh (Av (r:=decide (Bo q=0)) (Bp (bo.ext j)) rfl);have aR:=fun(f:World) (j:Ext w f) (dv:Value) (af:AQ f dv (q.den:Int))=>qh (KY (hT.ext j) (AZ HS (hx.ext j)) af (Ak b1 (by omega)) (Ak b4 (by omega)) q.den_nz);have aS:=fun(f:World) (j:Ext w f) (dv:Value) (af:AQ f dv (p.den:Int))=>qh (KY (hT.ext j) (AZ aj (ay.ext j)) af (Ak b3 (by omega)) (Ak b2 (by omega)) p.den_nz)
 obtain⟨ar,au⟩:=Pl.rat_mul_parts p q;have H:(p.num.tdiv ((Nat.gcd p.num.natAbs q.den:Nat):Int)).natAbs<P2 2400:=by rw[lS];exact fI (gy _ _) b1
 have N:(q.num.tdiv ((Nat.gcd q.num.natAbs p.den:Nat):Int)).natAbs<P2 2400:=by rw[lS];exact fI (gy _ _) b3
 have e3:(((q.den/Nat.gcd p.num.natAbs q.den:Nat):Int)).natAbs<P2 2400:=fI (gy _ _) b4;have e4:(((p.den/Nat.gcd q.num.natAbs p.den:Nat):Int)).natAbs<P2 2400:=fI (gy _ _) b2;have ah:=fun(f:World) (x1 x2:Value) (h1:AQ f x1 (p.num.tdiv ((Nat.gcd p.num.natAbs q.den:Nat):Int))) (h2:AQ f x2 (q.num.tdiv ((Nat.gcd q.num.natAbs p.den:Nat):Int)))=>qh (DC h1 h2 (Ak H (by omega)) (Ak N (by omega)) (Or.inl (Ak H (by omega))))
 have ai:=fun(f:World) (x1 x2:Value) (h1:AQ f x1 ((p.den/Nat.gcd q.num.natAbs p.den:Nat):Int)) (h2:AQ f x2 ((q.den/Nat.gcd p.num.natAbs q.den:Nat):Int))=>qh (DC h1 h2 (Ak e4 (by omega)) (Ak e3 (by omega)) (Or.inl (Ak e4 (by omega))));rw[<-fU,<-au]at ai;rw[<-ar]at ah;have ab:(decide (Bo p=0) && decide (Bo q=0))=false:=by
  rcases hd with h|h
  · rw[fK (mt AJ.1 h)];rfl
  · rw[fK (mt AJ.1 h),Bool.and_false]
 clear b1 b2 b3 b4 av ax hd ar au H N e3 e4
 go_enter func103,ntmps103
 go_upto_region 1 with(fail)
 refine IG ?_;intro w0 V a3 a4 b5 bq;have p0:=a3.c 0 rfl;have p1:=a3.c 1 rfl;have p2:=a3.c 2 rfl;have p3:=a3.c 3 rfl;have q0:=a4.c 0 rfl;have q1:=a4.c 1 rfl;have q2:=a4.c 2 rfl;have q3:=a4.c 3 rfl;have hR:Arr w0 (w.heap.size+2) 125 (As false none 0 0 false none 0 0):=b5;clear bq
 go_wp2_with fail
 refine(aD _ V).out.mono ?_;rintro e w1 ⟨rfl,aa⟩;have r0:=aa.cell q0;have r1:=aa.cell q1
 go_wp2_with fail
 refine(aE _ (V.trans aa)).out.mono ?_;rintro e w2 ⟨rfl,ba⟩;have M:=aa.trans ba;have t2:=M.cell p2;have t3:=M.cell p3;clear r0 r1
 go_wp2_with fail
 refine(aF _ (V.trans M)).out.mono ?_;rintro e w3 ⟨rfl,bb⟩;have E:=M.trans bb;clear t2 t3;have aq:∃ w4:World,True:=⟨w3,trivial⟩;by_cases ac:decide (Bo p=0)=true
 case' pos =>
  rw[ac]at ab |-;have t2:=E.cell q2;have t3:=E.cell q3;have ap:decide (Bo q=0)=false:=by simpa using ab
  rw[ap]at ag;clear ac ap ab aq
  go_wp2_with fail
  refine(ag _ (V.trans E)).out.mono ?_;rintro e w4 ⟨rfl,bc⟩;have t:=E.trans bc;clear t2 t3
 case' neg =>
  have aw:decide (Bo p=0)=false:=by simpa using ac
  rw[aw];obtain⟨w4,bm⟩:∃ w4,w4=w3:=⟨_,rfl⟩;subst bm;have t:=E;clear ac aw ab aq
 all_goals
  have r0:=t.cell p0;have r1:=t.cell p1;have r2:=t.cell p2;have r3:=t.cell p3;have u0:=t.cell q0;have u1:=t.cell q1;have u2:=t.cell q2;have u3:=t.cell q3;have ae:=V.trans t;have bf:=hR.ext t;clear p0 p1 p2 p3 q0 q1 q2 q3 aD aE aF ag;go_wp2;have P:=fun(f:World) (j:Ext w4 f)=>qh (And.intro (j.cell r0) (And.intro (j.cell r1) (And.intro (j.cell r2) (And.intro (j.cell r3) (And.intro (j.cell u0) (And.intro (j.cell u1) (And.intro (j.cell u2) (j.cell u3))))))))
  refine DQ (by kernel_rfl) (fun f=>Ext w4 f)
   [he (.pointer (some ⟨w.heap.size,0,none⟩)),
 he (.agg #[.bool s,.slice a n c]),
 he (.agg #[.bool J,.slice F I G,.bool false,.slice b' m' d']),
 hp (fun v f=>NI ((q.den:Int)) v f),
 hp (fun v f=>NII (p.num.tdiv ((Nat.gcd p.num.natAbs q.den:Nat):Int)) (((q.den/Nat.gcd p.num.natAbs q.den:Nat):Int)) v f),
 hp (fun v f=>NII (p.num.tdiv ((Nat.gcd p.num.natAbs q.den:Nat):Int)) (((q.den/Nat.gcd p.num.natAbs q.den:Nat):Int)) v f),
 hp (fun v f=>NI (p.num.tdiv ((Nat.gcd p.num.natAbs q.den:Nat):Int)) v f),
 hp (fun v f=>NI (((q.den/Nat.gcd p.num.natAbs q.den:Nat):Int)) v f),
 hp (NP w4.heap.size),
 hp (NP w4.heap.size),
 hmp (fun _ _=>True)]
   (by kernel_rfl) (fun _ _ e h=>h.trans e) ((Ext.refl w4).drew) ⟨trivial,trivial,trivial,NI.x _,NII.x _ _,NII.x _ _,NI.x _,NI.x _,NP.x _,NP.x _,NT.x,trivial⟩ ⟨?o0,?o1,?o2,?o3,?o4,?o5,?o6,?o7,?o8,?o9,?o10,trivial⟩ 8 9 10 6 123 (Ae false none 0 0) ⟨by simp,by simp,by simp,by simp⟩ (by omega) ?hk ?hs1 ?hp1 ?hnm Am ?hj1 ?fin
  case o0=>exact ofa (d:=0)
  case o1=>exact ol2
  case o2=>exact ol4
  case o3 =>
   refine Ai rfl fun C f j l B h => ?_;have H:_=_:=h.2.1;obtain⟨k0,k1,k2,k3,k4,k5,k6,k7⟩:=(P f j).out;refine⟨143,#[.agg #[.bool J,.slice F I G,.bool false,.slice b' m' d']],by go_simp,((aU f (ae.trans j)).out).mono ?_⟩;rintro e w' ⟨J,F,I,G,rfl,y,L,K⟩;exact⟨_,rfl,y,J,F,I,G,rfl,L,K⟩
  case o4 =>
   refine Ai rfl fun C f j l B h => ?_;have H:_=_:=h.2.1;obtain⟨v2,N,s2,a2,n2,c2,rfl,i2,j2⟩:=h.2.2.1;obtain⟨k0,k1,k2,k3,k4,k5,k6,k7⟩:=(P f j).out;refine⟨142,#[.agg #[.bool s,.slice a n c],.agg (Ae s2 a2 n2 c2).toArray],by go_simp,((aR f (ae.trans j) _ ⟨s2,a2,n2,c2,rfl,i2,j2⟩).out).mono ?_⟩;rintro e w' ⟨J,F,I,G,t',b',m',d',rfl,y,h1,h2⟩;exact⟨_,rfl,y,J,F,I,G,t',b',m',d',rfl,h1,h2⟩
  case o5 =>
   refine Bj rfl ?_;intro C f hp j h;have l:=hp.const;have B:=hp.func;obtain⟨v0,e0,s0,a0,n0,c0,t0,b0,m0,d0,rfl,Z,j0⟩:=h.1;obtain⟨k0,k1,k2,k3,k4,k5,k6,k7⟩:=(P f j).out;exact⟨_,f,by go_simp,Ext.refl _,s0,a0,n0,c0,t0,b0,m0,d0,rfl,Z,j0⟩
  case o6 =>
   refine Bj rfl ?_;intro C f hp j h;have l:=hp.const;have B:=hp.func;obtain⟨v0,e0,s0,a0,n0,c0,t0,b0,m0,d0,rfl,Z,j0⟩:=h.1;obtain⟨k0,k1,k2,k3,k4,k5,k6,k7⟩:=(P f j).out;exact⟨_,f,by go_simp,Ext.refl _,s0,a0,n0,c0,rfl,Z.1,Z.2⟩
  case o7 =>
   refine Bj rfl ?_;intro C f hp j h;have l:=hp.const;have B:=hp.func;obtain⟨v0,e0,s0,a0,n0,c0,t0,b0,m0,d0,rfl,Z,j0⟩:=h.1;obtain⟨k0,k1,k2,k3,k4,k5,k6,k7⟩:=(P f j).out;exact⟨_,f,by go_simp,Ext.refl _,t0,b0,m0,d0,rfl,j0.1,j0.2⟩
  case o8 =>
   exact CF rfl rfl (fun _ h=>h.size)
  case o9 =>
   exact CF rfl rfl (fun _ h=>h.size)
  case o10 =>
   exact GK (base:=w4.heap.size) (z:=p.num.tdiv ((Nat.gcd p.num.natAbs q.den:Nat):Int)) rfl rfl ⟨trivial,trivial,trivial,NI.i _,NII.i _ _,NII.i _ _,NI.i _,NI.i _,NP.i _,NP.i _,NT.i,trivial⟩ (fun w w' g h hb hg=>h.grownR hg hb) (fun C w _ _ h=>⟨h.1,h.2.1⟩)
  case hk =>
   rintro k (rfl|rfl) o ho
   · cases ho;exact⟨rfl,rfl,fun C f=>CE rfl C f⟩
   · cases ho;exact⟨rfl,rfl,fun C f=>CE rfl C f⟩
  case hs1 =>
   intro o ho;cases ho;exact⟨rfl,rfl,_,_,rfl,rfl,rfl⟩
  case hp1=>exact⟨ii.1 (by kernel_rfl),ii.1 (by kernel_rfl)⟩
  case hnm =>
   intro i hi A;simp only[fP,jU]at hi
   match i,hi,A with
   | 0,_,_=>rfl
   | 1,_,_=>rfl
   | 2,_,_=>rfl
   | 3,_,_=>rfl
   | 4,_,_=>rfl
   | 5,_,_=>rfl
   | 6,_,_=>rfl
   | 7,_,_=>rfl
   | 8,_,_=>rfl
   | 9,_,_=>rfl
   | 10,_,A=>exact absurd rfl A
  case hj1 =>
   refine⟨rfl,fun v w h => ?_⟩;obtain⟨s,a,n,c,rfl,_,_⟩:=h;exact⟨Ae s a n c,rfl,rfl,Ao _ _ _ _⟩
  case fin =>
   intro f j;rintro _ ⟨bZ,bI,bV,bM,rfl,bA,bE⟩;rintro _ ⟨_,_,_,_,_,_,_,_,rfl,_,_⟩;rintro _ ⟨_,_,_,_,_,_,_,_,rfl,_,_⟩;rintro _ ⟨s5,a5,n5,c5,rfl,aV,az⟩;rintro _ ⟨s6,a6,n6,c6,rfl,aW,aA⟩;rintro _ ⟨g5,bQ,rfl,_,_,_,_⟩;rintro _ ⟨g6,bR,rfl,_,_,_,_⟩;rintro _ _;simp only[lq,lw,lj,lk,Act.put,lC,lD,lE,BA,Be,kW,jA,iW,jt];rintro⟨ga,gb,R,H,N,l5,l6,A,e3,hA1,hA2⟩
   have S:Value.pointer (some ⟨g5,0,none⟩) = .pointer (some ⟨ga,0,none⟩):=H;have T:Value.pointer (some ⟨g6,0,none⟩) = .pointer (some ⟨gb,0,none⟩):=N;have U:Value.agg (Ae s5 a5 n5 c5).toArray = .agg R.toArray:=e3;simp only[kG,fc,gz,ij]at S T;have e4:R=Ae s5 a5 n5 c5:=by simpa using U.symm
   subst S;subst T;subst e4;clear H N e3 U;change wpList _ _ _ _ _ _
   go_upto_region 6 with(refine Aa (vs:=Ae s6 a6 n6 c6) rfl rfl rfl rfl rfl Am hA2 rfl (Ao _ _ _ _) ?_;intro w6 b6 X)
   have D:Ext w4 w6:=j.grownR X l6;have bd:=hA1.kept X (by simpa using A);have bg:=az.kept hA2 (AL _ _ _ _) X;have bh:=aA.kept hA2 (AL _ _ _ _) X;clear hA1 hA2 A j az aA X;have W:=ae.trans D;have y0:=D.cell r0;have y1:=D.cell r1;have y2:=D.cell r2;have y3:=D.cell r3;have v0:=D.cell u0;have v1:=D.cell u1;have v2:=D.cell u2;have v3:=D.cell u3;have aP:=bf.ext D
   have Q:=fun(f:World) (j:Ext w6 f)=>qh (And.intro (j.cell y0) (And.intro (j.cell y1) (And.intro (j.cell y2) (And.intro (j.cell y3) (And.intro (j.cell v0) (And.intro (j.cell v1) (And.intro (j.cell v2) (j.cell v3))))))))
   refine DQ (by kernel_rfl) (fun f=>Ext w6 f)
    [he (.pointer (some ⟨(w.heap.size+1),0,none⟩)),
 he (.agg #[.bool J,.slice F I G]),
 he (.agg #[.bool s,.slice a n c,.bool false,.slice b m d]),
 hp (fun v f=>NI ((p.den:Int)) v f),
 hp (fun v f=>NII (q.num.tdiv ((Nat.gcd q.num.natAbs p.den:Nat):Int)) (((p.den/Nat.gcd q.num.natAbs p.den:Nat):Int)) v f),
 hp (fun v f=>NII (q.num.tdiv ((Nat.gcd q.num.natAbs p.den:Nat):Int)) (((p.den/Nat.gcd q.num.natAbs p.den:Nat):Int)) v f),
 hp (fun v f=>NI (q.num.tdiv ((Nat.gcd q.num.natAbs p.den:Nat):Int)) v f),
 hp (fun v f=>NI (((p.den/Nat.gcd q.num.natAbs p.den:Nat):Int)) v f),
 hp (NP w6.heap.size),
 hp (NP w6.heap.size),
 hmp (fun _ _=>True)]
    (by kernel_rfl) (fun _ _ e h=>h.trans e) ((Ext.refl w6).drew) ⟨trivial,trivial,trivial,NI.x _,NII.x _ _,NII.x _ _,NI.x _,NI.x _,NP.x _,NP.x _,NT.x,trivial⟩ ⟨?o0,?o1,?o2,?o3,?o4,?o5,?o6,?o7,?o8,?o9,?o10,trivial⟩ 8 9 10 6 123 (Ae false none 0 0) ⟨by simp,by simp,by simp,by simp⟩ (by omega) ?hk ?hs1 ?hp1 ?hnm Am ?hj1 ?fin
   case o0=>exact ofa (d:=0)
   case o1=>exact ol2
   case o2=>exact ol4
   case o3 =>
    refine Ai rfl fun C f j l B h => ?_;have H:_=_:=h.2.1;obtain⟨k0,k1,k2,k3,k4,k5,k6,k7⟩:=(Q f j).out;refine⟨143,#[.agg #[.bool s,.slice a n c,.bool false,.slice b m d]],by go_simp,((aT f (W.trans j)).out).mono ?_⟩;rintro e w' ⟨J,F,I,G,rfl,y,L,K⟩;exact⟨_,rfl,y,J,F,I,G,rfl,L,K⟩
   case o4 =>
    refine Ai rfl fun C f j l B h => ?_;have H:_=_:=h.2.1;obtain⟨v2,N,s2,a2,n2,c2,rfl,i2,j2⟩:=h.2.2.1;obtain⟨k0,k1,k2,k3,k4,k5,k6,k7⟩:=(Q f j).out;refine⟨142,#[.agg #[.bool J,.slice F I G],.agg (Ae s2 a2 n2 c2).toArray],by go_simp,((aS f (W.trans j) _ ⟨s2,a2,n2,c2,rfl,i2,j2⟩).out).mono ?_⟩;rintro e w' ⟨J,F,I,G,t',b',m',d',rfl,y,h1,h2⟩;exact⟨_,rfl,y,J,F,I,G,t',b',m',d',rfl,h1,h2⟩
   case o5 =>
    refine Bj rfl ?_;intro C f hp j h;have l:=hp.const;have B:=hp.func;obtain⟨v0,e0,s0,a0,n0,c0,t0,b0,m0,d0,rfl,Z,j0⟩:=h.1;obtain⟨k0,k1,k2,k3,k4,k5,k6,k7⟩:=(Q f j).out;exact⟨_,f,by go_simp,Ext.refl _,s0,a0,n0,c0,t0,b0,m0,d0,rfl,Z,j0⟩
   case o6 =>
    refine Bj rfl ?_;intro C f hp j h;have l:=hp.const;have B:=hp.func;obtain⟨v0,e0,s0,a0,n0,c0,t0,b0,m0,d0,rfl,Z,j0⟩:=h.1;obtain⟨k0,k1,k2,k3,k4,k5,k6,k7⟩:=(Q f j).out;exact⟨_,f,by go_simp,Ext.refl _,s0,a0,n0,c0,rfl,Z.1,Z.2⟩
   case o7 =>
    refine Bj rfl ?_;intro C f hp j h;have l:=hp.const;have B:=hp.func;obtain⟨v0,e0,s0,a0,n0,c0,t0,b0,m0,d0,rfl,Z,j0⟩:=h.1;obtain⟨k0,k1,k2,k3,k4,k5,k6,k7⟩:=(Q f j).out;exact⟨_,f,by go_simp,Ext.refl _,t0,b0,m0,d0,rfl,j0.1,j0.2⟩
   case o8 =>
    exact CF rfl rfl (fun _ h=>h.size)
   case o9 =>
    exact CF rfl rfl (fun _ h=>h.size)
   case o10 =>
    exact GK (base:=w6.heap.size) (z:=q.num.tdiv ((Nat.gcd q.num.natAbs p.den:Nat):Int)) rfl rfl ⟨trivial,trivial,trivial,NI.i _,NII.i _ _,NII.i _ _,NI.i _,NI.i _,NP.i _,NP.i _,NT.i,trivial⟩ (fun w w' g h hb hg=>h.grownR hg hb) (fun C w _ _ h=>⟨h.1,h.2.1⟩)
   case hk =>
    rintro k (rfl|rfl) o ho
    · cases ho;exact⟨rfl,rfl,fun C f=>CE rfl C f⟩
    · cases ho;exact⟨rfl,rfl,fun C f=>CE rfl C f⟩
   case hs1 =>
    intro o ho;cases ho;exact⟨rfl,rfl,_,_,rfl,rfl,rfl⟩
   case hp1=>exact⟨ii.1 (by kernel_rfl),ii.1 (by kernel_rfl)⟩
   case hnm =>
    intro i hi A;simp only[fP,jU]at hi
    match i,hi,A with
    | 0,_,_=>rfl
    | 1,_,_=>rfl
    | 2,_,_=>rfl
    | 3,_,_=>rfl
    | 4,_,_=>rfl
    | 5,_,_=>rfl
    | 6,_,_=>rfl
    | 7,_,_=>rfl
    | 8,_,_=>rfl
    | 9,_,_=>rfl
    | 10,_,A=>exact absurd rfl A
   case hj1 =>
    refine⟨rfl,fun v w h => ?_⟩;obtain⟨s,a,n,c,rfl,_,_⟩:=h;exact⟨Ae s a n c,rfl,rfl,Ao _ _ _ _⟩
   case fin =>
    intro f j;rintro _ ⟨c3,bJ,bW,bN,rfl,bB,bF⟩;rintro _ ⟨_,_,_,_,_,_,_,_,rfl,_,_⟩;rintro _ ⟨_,_,_,_,_,_,_,_,rfl,_,_⟩;rintro _ ⟨s7,a7,n7,c7,rfl,aX,aB⟩;rintro _ ⟨s8,a8,n8,c8,rfl,aY,aC⟩;rintro _ ⟨g7,bS,rfl,_,_,_,_⟩;rintro _ ⟨g8,bT,rfl,_,_,_,_⟩;rintro _ _;simp only[lq,lw,lj,lk,Act.put,lC,lD,lE,BA,Be,kW,jA,iW,jt];rintro⟨ga,gb,R,H,N,l7,l8,A,e3,hA1,hA2⟩
    have S:Value.pointer (some ⟨g7,0,none⟩) = .pointer (some ⟨ga,0,none⟩):=H;have T:Value.pointer (some ⟨g8,0,none⟩) = .pointer (some ⟨gb,0,none⟩):=N;have U:Value.agg (Ae s7 a7 n7 c7).toArray = .agg R.toArray:=e3;simp only[kG,fc,gz,ij]at S T;have e4:R=Ae s7 a7 n7 c7:=by simpa using U.symm
    subst S;subst T;subst e4;clear H N e3 U;change wpList _ _ _ _ _ _
    go_upto_region 7 with(refine Aa (vs:=Ae s8 a8 n8 c8) rfl rfl rfl rfl rfl Am hA2 rfl (Ao _ _ _ _) ?_;intro w8 b7 Y)
    have O:Ext w6 w8:=j.grownR Y l8;have be:=hA1.kept Y (by simpa using A);have bi:=aB.kept hA2 (AL _ _ _ _) Y;have bj:=aC.kept hA2 (AL _ _ _ _) Y;clear hA1 hA2 A j aB aC Y;have aO:=W.trans O;have aQ:=aP.ext O;have ak:Arr w8 g5 123 (Ae s5 a5 n5 c5):=bd.ext O;have br:=ak.c 0 rfl;have bs:=ak.c 1 rfl;have al:Arr w8 g6 123 (Ae s6 a6 n6 c6):=b6.ext O;have bt:=al.c 0 rfl;have bu:=al.c 1 rfl;have am:Arr w8 g7 123 (Ae s7 a7 n7 c7):=be;have bv:=am.c 0 rfl;have bw:=am.c 1 rfl;have an:Arr w8 g8 123 (Ae s8 a8 n8 c8):=b7
    have bx:=an.c 0 rfl;have bz:=an.c 1 rfl;have i5:AQ w8 (.agg (Ae s5 a5 n5 c5).toArray) (p.num.tdiv ((Nat.gcd p.num.natAbs q.den:Nat):Int)):=⟨s5,a5,n5,c5,rfl,aV,bg.ext O⟩;have i6:AQ w8 (.agg (Ae s6 a6 n6 c6).toArray) (((q.den/Nat.gcd p.num.natAbs q.den:Nat):Int)):=⟨s6,a6,n6,c6,rfl,aW,bh.ext O⟩;have i7:AQ w8 (.agg (Ae s7 a7 n7 c7).toArray) (q.num.tdiv ((Nat.gcd q.num.natAbs p.den:Nat):Int)):=⟨s7,a7,n7,c7,rfl,aX,bi⟩;have i8:AQ w8 (.agg (Ae s8 a8 n8 c8).toArray) (((p.den/Nat.gcd q.num.natAbs p.den:Nat):Int)):=⟨s8,a8,n8,c8,rfl,aY,bj⟩
    have ad:=fun(f:World) (j:Ext w8 f)=>qh (And.intro (j.cell br) (And.intro (j.cell bs) (And.intro (j.cell bt) (And.intro (j.cell bu) (And.intro (j.cell bv) (And.intro (j.cell bw) (And.intro (j.cell bx) (j.cell bz))))))))
    refine Ad
     [he (.agg #[.bool s5,.slice a5 n5 c5]),he (.agg #[.bool s7,.slice a7 n7 c7]),hp (fun v f=>NI ((p*q).num) v f),he (.agg #[.bool s8,.slice a8 n8 c8]),he (.agg #[.bool s6,.slice a6 n6 c6]),hp (fun v f=>NI (((p*q).den:Int)) v f),hp (fun v f=>∃ cs,v = .agg cs.toArray/\GH f cs (p*q))]
     ⟨NI.x _,NI.x _,fun v w w' e ⟨cs,h1,h2⟩=>⟨cs,h1,h2.ext e⟩,trivial⟩ ⟨?o0,?o1,?o2,?o3,?o4,?o5,?o6,trivial⟩ ?fin
    case o0 | o1 | o3 | o4=>exact ol2
    case o2 =>
     refine Ai rfl fun C f j l B h => ?_;have H:_=_:=h.2.1;have N:_=_:=h.2.2.1;obtain⟨aG,aH,aI,aJ,aK,aL,aM,aN⟩:=(ad f j).out;refine⟨93,#[.agg #[.bool s5,.slice a5 n5 c5],.agg #[.bool s7,.slice a7 n7 c7]],by go_simp,((ah f _ _ (i5.ext j) (i7.ext j)).out).mono ?_⟩;rintro e w' ⟨J,F,I,G,rfl,y,L,K⟩;exact⟨_,rfl,y,J,F,I,G,rfl,L,K⟩
    case o5 =>
     refine Ai rfl fun C f j l B h => ?_;have H:_=_:=h.2.1;have N:_=_:=h.2.2.1;obtain⟨aG,aH,aI,aJ,aK,aL,aM,aN⟩:=(ad f j).out;refine⟨93,#[.agg #[.bool s8,.slice a8 n8 c8],.agg #[.bool s6,.slice a6 n6 c6]],by go_simp,((ai f _ _ (i8.ext j) (i6.ext j)).out).mono ?_⟩;rintro e w' ⟨J,F,I,G,rfl,y,L,K⟩;exact⟨_,rfl,y,J,F,I,G,rfl,L,K⟩
    case o6 =>
     refine Ai rfl fun C f j l B h => ?_;obtain⟨v1,H,s1,a1,n1,c1,rfl,i1,j1⟩:=h.2.1;obtain⟨v2,N,s2,a2,n2,c2,rfl,i2,j2⟩:=h.2.2.1;obtain⟨aG,aH,aI,aJ,aK,aL,aM,aN⟩:=(ad f j).out;refine⟨97,#[.agg (Ae s1 a1 n1 c1).toArray,.agg (Ae s2 a2 n2 c2).toArray],by go_simp,(DU (q:=p*q) ⟨s1,a1,n1,c1,rfl,i1,j1⟩ ⟨s2,a2,n2,c2,rfl,i2,j2⟩).mono ?_⟩;rintro e w' ⟨cs,rfl,y,bl⟩;exact⟨_,rfl,y,cs,rfl,bl⟩
    case fin =>
     intro f j;rintro _ ⟨c4,bK,bX,bO,rfl,bC,bG⟩;rintro _ ⟨ca,bL,bY,bP,rfl,bD,bH⟩;rintro _ ⟨_,rfl,s9,a9,n9,c9,b9,m9,d9,rfl,aZ,bn,bp⟩;change wpList _ _ _ _ _ _;simp only[CB];have ao:=aQ.ext j;have bU:(As s9 a9 n9 c9 false b9 m9 d9).toArray=#[.bool s9,.slice a9 n9 c9,.bool false,.slice b9 m9 d9]:=rfl
     go_wp2_with(refine Aa (vs:=As s9 a9 n9 c9 false b9 m9 d9) rfl rfl rfl rfl rfl Ac ao rfl (Aq _ _ _ _ _ _ _ _) ?_;intro w9 b8 bk)
     exact fh (At rfl Ac rfl b8) rfl (BJ (aO.trans j) ao (AM _ _ _ _ _ _ _ _) bk (by omega) aZ bn bp)
theorem Ic(h:BI w v p)(K:BI w v' q)(h0:p=0\/q=0):Calls prog 103 #[v,v'] w (Ib w (p*q)):=by
 obtain⟨_,rfl,s,a,n,c,b,m,d,rfl,J,L,V⟩:=h;obtain⟨_,rfl,s',R,X,T,S,W,U,rfl,A,D,M⟩:=K;have F:=fun(G:World) (C:Ext w G)=>qh (Av (r:=decide (p.num=0)) (AZ J (L.ext C)) rfl);have z:=fun(G:World) (C:Ext w G)=>qh (Av (r:=decide (q.num=0)) (AZ A (D.ext C)) rfl);have x:Hid (p*q=0):=by
  show _=_;rcases h0 with h|h
  · rw[h,Rat.zero_mul]
  · rw[h,Rat.mul_zero]
 go_enter func103,ntmps103
 go_upto_region 1 with(fail)
 refine IG ?_;intro P l j k B E;have Y:=j.c 0 rfl;have Z:=j.c 1 rfl;have p2:=j.c 2 rfl;have p3:=j.c 3 rfl;have N:=k.c 0 rfl;have O:=k.c 1 rfl;have q2:=k.c 2 rfl;have q3:=k.c 3 rfl;have H:Arr P (w.heap.size+2) 125 (As false none 0 0 false none 0 0):=B;clear E
 go_wp2_with fail
 refine(F _ l).out.mono ?_;rintro e w1 ⟨rfl,f⟩;by_cases i:p.num=0
 · rw[gn i];have g:=H.ext f;clear i h0
   go_wp2_with(refine Aa (vs:=As false none 0 0 false none 0 0) rfl rfl rfl rfl rfl Ac g rfl (Aq _ _ _ _ _ _ _ _) ?_;intro Q o t)
   refine fh (At rfl Ac rfl o) rfl ?_;rw[x.out];exact BJ (l.trans f) g (AM _ _ _ _ _ _ _ _) t (by omega) (qh rfl) (Wd.nil _) (Wd.nil _)
 · rw[fK i];have I:q.num=0:=by
    rcases h0 with h|h
    · exact absurd (Pl.rat_num_den_zero.2 h) i
    · exact Pl.rat_num_den_zero.2 h
   rw[gn I]at z;have r0:=f.cell N;have r1:=f.cell O;clear i h0 I
   go_wp2_with fail
   refine(z _ (l.trans f)).out.mono ?_;rintro e w2 ⟨rfl,y⟩;have g:=(H.ext f).ext y
   go_wp2_with(refine Aa (vs:=As false none 0 0 false none 0 0) rfl rfl rfl rfl rfl Ac g rfl (Aq _ _ _ _ _ _ _ _) ?_;intro Q o t)
   refine fh (At rfl Ac rfl o) rfl ?_;rw[x.out];exact BJ ((l.trans f).trans y) g (AM _ _ _ _ _ _ _ _) t (by omega) (qh rfl) (Wd.nil _) (Wd.nil _)
theorem Lm(h:BI w v p)(h':BI w v' q)(H:p.num.natAbs<P2 2400)(b3:q.num.natAbs<P2 2400)(B:p≠0)(C:q≠0)(J:p.den=1)(K:q.den=1):Calls prog 103 #[v,v'] w (Ib w (p*q)):=by
 obtain⟨_,rfl,s,a,n,c,b,m,d,rfl,HS,hx,hy⟩:=h;obtain⟨_,rfl,s',a',n',c',b',m',d',rfl,y,D,T⟩:=h';have V:=fun(x:World) (k:Ext w x)=>qh (Av (r:=false) (AZ HS (hx.ext k)) (fK (mt Pl.rat_num_den_zero.1 B)));have W:=fun(x:World) (k:Ext w x)=>qh (Av (r:=false) (AZ y (D.ext k)) (fK (mt Pl.rat_num_den_zero.1 C)));have X:=fun(x:World) (k:Ext w x)=>qh (Av (r:=true) (Bp (hy.ext k)) (gn (AJ.2 J)))
 have Y:=fun(x:World) (k:Ext w x)=>qh (Av (r:=true) (Bp (T.ext k)) (gn (AJ.2 K)));have R:=fun(x:World) (k:Ext w x)=>qh (DC (AZ HS (hx.ext k)) (AZ y (D.ext k)) (Ak H (by omega)) (Ak b3 (by omega)) (Or.inl (Ak H (by omega))));have E:=qh (Pl.rat_mul_whole p q J K);clear H b3 B C J K
 go_enter func103,ntmps103
 go_upto_region 1 with(fail)
 refine IG ?_;intro w0 j l o L U;have p0:=l.c 0 rfl;have p1:=l.c 1 rfl;have p2:=l.c 2 rfl;have p3:=l.c 3 rfl;have q0:=o.c 0 rfl;have q1:=o.c 1 rfl;have q2:=o.c 2 rfl;have q3:=o.c 3 rfl;have hR:Arr w0 (w.heap.size+2) 125 (As false none 0 0 false none 0 0):=L;clear U
 go_wp2_with fail
 refine(V _ j).out.mono ?_;rintro e w1 ⟨rfl,t⟩;have r0:=t.cell q0;have r1:=t.cell q1
 go_wp2_with fail
 refine(W _ (j.trans t)).out.mono ?_;rintro e w2 ⟨rfl,N⟩;have g:=t.trans N;have t2:=g.cell p2;have t3:=g.cell p3;clear r0 r1
 go_wp2_with fail
 refine(X _ (j.trans g)).out.mono ?_;rintro e w3 ⟨rfl,O⟩;have i:=g.trans O;have r2:=i.cell q2;have r3:=i.cell q3;clear t2 t3
 go_wp2_with fail
 refine(Y _ (j.trans i)).out.mono ?_;rintro e w4 ⟨rfl,P⟩;have f:=i.trans P;have t0:=f.cell p0;have t1:=f.cell p1;have u0:=f.cell q0;have u1:=f.cell q1;clear r2 r3
 go_wp2_with fail
 refine(R _ (j.trans f)).out.mono ?_;rintro e w5 ⟨s1,G,Z,I,rfl,z,F,S⟩;have a0:(Ae s1 G Z I).toArray=#[.bool s1,.slice G Z I]:=rfl;have A:=(hR.ext f).ext z
 go_wp2_with(refine Aa (vs:=As s1 G Z I false none 0 0) rfl rfl rfl rfl rfl Ac A rfl (Aq _ _ _ _ _ _ _ _) ?_;intro w9 M Q)
 exact fh (At rfl Ac rfl M) rfl (BJ ((j.trans f).trans z) A (AM _ _ _ _ _ _ _ _) Q (by omega) (by rw[E.out.1];exact F) (by rw[E.out.1];exact S) (by rw[AJ.2 E.out.2];exact Wd.nil _))
theorem VN(k:Bk w)(h:BI w v p)(c:BI w v' q)(d:p.num.natAbs<P2 2400)(f:p.den<P2 2400)(e:q.num.natAbs<P2 2400)(g:q.den<P2 2400):Calls prog 103 #[v,v'] w (Ib w (p*q)):=by
 by_cases a:p=0
 · exact Ic h c (Or.inl a)
 by_cases b:q=0
 · exact Ic h c (Or.inr b)
 by_cases i:p.den=1
 · by_cases j:q.den=1
   · exact Lm h c d e a b i j
   · exact Jh k h c d f e g a b (Or.inr j)
 · exact Jh k h c d f e g a b (Or.inl i)
theorem Nc(h:p.den=1):(p+q).num=p.num*(q.den:Int)+q.num/\(p+q).den=q.den:=by
 have:=Pl.rat_add_parts p q;rw[h,Nat.gcd_one_left]at this;simpa using this
theorem UH(h:q.den=1):(p+q).num=q.num*(p.den:Int)+p.num/\(p+q).den=p.den:=by
 rw[Rat.add_comm];exact Nc h
theorem W9(h:p.den=1)(a:q.den=1):(p+q).num=p.num+q.num/\(p+q).den=1:=by
 have:=Nc (q:=q) h;rw[a]at this;simpa using this
theorem K0(h:p.den=q.den):Bo p=Bo q:=by unfold Bo;rw[h]
theorem PX(h:BI w v p)(U:BI w v' q)(R:p.num.natAbs<P2 2400)(S:q.num.natAbs<P2 2400)(D:p.den=1)(E:q.den=1):Calls prog 61 #[v,v'] w (Ib w (p+q)):=by
 obtain⟨_,rfl,s,a,n,c,b,m,d,rfl,T,X,Y⟩:=h;obtain⟨_,rfl,s',a',n',c',b',m',d',rfl,z,K,M⟩:=U;have O:=fun(x:World) (l:Ext w x)=>qh (Av (r:=true) (Bp (Y.ext l)) (gn (AJ.2 D)));have P:=fun(x:World) (l:Ext w x)=>qh (Av (r:=true) (Bp (M.ext l)) (gn (AJ.2 E)));have I:=fun(x:World) (l:Ext w x)=>qh (JN (AZ T (X.ext l)) (AZ z (K.ext l)) (Ak R (by omega)) (Ak S (by omega)));have y:=qh (W9 D E);clear R S D E
 go_enter func61,ntmps61
 go_upto_region 1 with(fail)
 refine IG ?_;intro w0 j g i F N;have Z:=g.c 0 rfl;have p1:=g.c 1 rfl;have p2:=g.c 2 rfl;have p3:=g.c 3 rfl;have q0:=i.c 0 rfl;have q1:=i.c 1 rfl;have q2:=i.c 2 rfl;have q3:=i.c 3 rfl;have V:Arr w0 (w.heap.size+2) 125 (As false none 0 0 false none 0 0):=F;clear N
 go_wp2_with fail
 refine(O _ j).out.mono ?_;rintro e w1 ⟨rfl,k⟩;have r2:=k.cell q2;have r3:=k.cell q3
 go_wp2_with fail
 refine(P _ (j.trans k)).out.mono ?_;rintro e w2 ⟨rfl,H⟩;have f:=k.trans H;have t0:=f.cell Z;have t1:=f.cell p1;have u0:=f.cell q0;have u1:=f.cell q1;clear r2 r3
 go_wp2_with fail
 refine(I _ (j.trans f)).out.mono ?_;rintro e w5 ⟨s1,B,Q,C,rfl,o,A,L⟩;have W:(Ae s1 B Q C).toArray=#[.bool s1,.slice B Q C]:=rfl;have t:=(V.ext f).ext o
 go_wp2_with(refine Aa (vs:=As s1 B Q C false none 0 0) rfl rfl rfl rfl rfl Ac t rfl (Aq _ _ _ _ _ _ _ _) ?_;intro w9 G J)
 exact fh (At rfl Ac rfl G) rfl (BJ ((j.trans f).trans o) t (AM _ _ _ _ _ _ _ _) J (by omega) (by rw[y.out.1];exact A) (by rw[y.out.1];exact L) (by rw[AJ.2 y.out.2];exact Wd.nil _))
theorem PY(h:BI w v p)(h':BI w v' q)(R:p.num.natAbs<P2 2400)(b3:q.num.natAbs<P2 2400)(Y:q.den<P2 2400)(T:p.den=1)(L:q.den≠1):Calls prog 61 #[v,v'] w (Ib w (p+q)):=by
 obtain⟨_,rfl,s,a,n,c,b,m,d,rfl,HS,hx,hy⟩:=h;obtain⟨_,rfl,J,D,H,F,Q,U,S,rfl,W,aa,C⟩:=h';have P:=fun(i:World) (g:Ext w i)=>qh (Av (r:=true) (Bp (hy.ext g)) (gn (AJ.2 T)));have ad:=fun(i:World) (g:Ext w i)=>qh (Av (r:=false) (Bp (C.ext g)) (fK (mt AJ.1 L)));have a9:=fun(i:World) (g:Ext w i)=>qh (DC (AZ HS (hx.ext g)) (Bp (C.ext g)) (Ak R (by omega)) (by rw[DR L];exact Ak Y (by omega)) (Or.inl (Ak R (by omega))))
 have O:(p.num*Bo q).natAbs<P2 9600:=by rw[ia,DR L];exact Ak (CD R Y) (by omega)
 have a6:=fun(i:World) (g:Ext w i) (x:Value) (hv:AQ i x (p.num*Bo q))=>qh (JN hv (AZ W (aa.ext g)) O (Ak b3 (by omega)));have V:=qh (Nc (q:=q) T);rw[<-EW L]at V;have HD:Hid (Bo (p+q)=Bo q):=qh (K0 (by have:=(Nc (q:=q) T).2;exact this));clear R Y b3 O T L
 go_enter func61,ntmps61
 go_upto_region 1 with(fail)
 refine IG ?_;intro w0 o k l a0 ac;have p0:=k.c 0 rfl;have p1:=k.c 1 rfl;have p2:=k.c 2 rfl;have p3:=k.c 3 rfl;have q0:=l.c 0 rfl;have q1:=l.c 1 rfl;have q2:=l.c 2 rfl;have q3:=l.c 3 rfl;have hR:Arr w0 (w.heap.size+2) 125 (As false none 0 0 false none 0 0):=a0;clear ac
 go_wp2_with fail
 refine(P _ o).out.mono ?_;rintro e w1 ⟨rfl,t⟩;have Z:=t.cell q2;have f3:=t.cell q3
 go_wp2_with fail
 refine(ad _ (o.trans t)).out.mono ?_;rintro e w2 ⟨rfl,a3⟩;have j:=t.trans a3;clear Z f3;have Z:=j.cell p2;have f3:=j.cell p3
 go_wp2_with fail
 refine(P _ (o.trans j)).out.mono ?_;rintro e w3 ⟨rfl,a4⟩;have f:=j.trans a4;clear Z f3;have r0:=f.cell p0;have r1:=f.cell p1;have r2:=f.cell p2;have r3:=f.cell p3;have u0:=f.cell q0;have u1:=f.cell q1;have u2:=f.cell q2;have u3:=f.cell q3;have y:=o.trans f;have a5:=hR.ext f;clear p0 p1 p2 p3 q0 q1 q2 q3;go_wp2;have K:=fun(i:World) (g:Ext w3 i)=>qh (And.intro (g.cell r0) (And.intro (g.cell r1) (And.intro (g.cell r2) (And.intro (g.cell r3) (And.intro (g.cell u0) (And.intro (g.cell u1) (And.intro (g.cell u2) (g.cell u3))))))))
 refine Ad
  [hdP w.heap.size 0,he (.agg #[.bool s,.slice a n c]),hdP (w.heap.size+1) 2,he (.agg #[.bool false,.slice Q U S]),hp (fun v i=>NI (p.num*Bo q) v i),hdP (w.heap.size+1) 0,he (.agg #[.bool J,.slice D H F]),hp (fun v i=>NI (p.num*Bo q+q.num) v i),hdP (w.heap.size+1) 2,he (.agg #[.bool false,.slice Q U S])]
  ⟨NI.x _,NI.x _,trivial⟩ ⟨?o0,?o1,?o2,?o3,?o4,?o5,?o6,?o7,?o8,?o9,trivial⟩ ?fin
 case o0 | o5=>exact ofa (d:=0)
 case o1 | o3 | o6 | o9=>exact ol2
 case o2 | o8=>exact ofa (d:=2)
 case o4 =>
  refine Ai rfl fun ρ i g N a7 h => ?_;have e1:_=_:=h.2.1;have e2:_=_:=h.2.2.1;obtain⟨k0,k1,k2,k3,ae,af,ag,ah⟩:=(K i g).out;refine⟨93,#[.agg #[.bool s,.slice a n c],.agg #[.bool false,.slice Q U S]],by go_simp,((a9 i (y.trans g)).out).mono ?_⟩;rintro e w' ⟨J,D,H,F,rfl,z,B,A⟩;exact⟨_,rfl,z,J,D,H,F,rfl,B,A⟩
 case o7 =>
  refine Ai rfl fun ρ i g N a7 h => ?_;obtain⟨v1,e1,s1,E,I,G,rfl,i1,j1⟩:=h.2.1;have e2:_=_:=h.2.2.1;obtain⟨k0,k1,k2,k3,ae,af,ag,ah⟩:=(K i g).out;refine⟨92,#[.agg (Ae s1 E I G).toArray,.agg #[.bool J,.slice D H F]],by go_simp,((a6 i (y.trans g) _ ⟨s1,E,I,G,rfl,i1,j1⟩).out).mono ?_⟩;rintro e w' ⟨J,D,H,F,rfl,z,B,A⟩;exact⟨_,rfl,z,J,D,H,F,rfl,B,A⟩
 case fin =>
  intro i g;rintro _ ⟨ao,ak,an,al,rfl,ai,aj⟩;rintro _ ⟨s1,E,I,G,rfl,X,ab⟩;change wpList _ _ _ _ _ _;simp only[CB];have M:=a5.ext g;have am:(Ae s1 E I G).toArray=#[.bool s1,.slice E I G]:=rfl
  go_wp2_with(refine Aa (vs:=As s1 E I G false Q U S) rfl rfl rfl rfl rfl Ac M rfl (Aq _ _ _ _ _ _ _ _) ?_;intro w9 a2 a8)
  exact fh (At rfl Ac rfl a2) rfl (BJ (y.trans g) M (AM _ _ _ _ _ _ _ _) a8 (by omega) (by rw[V.out.1];exact X) (by rw[V.out.1];exact ab) (by rw[HD.out];exact C.ext (y.trans g)))
theorem PZ(h:BI w v p)(h':BI w v' q)(b1:p.num.natAbs<P2 2400)(P:q.num.natAbs<P2 2400)(U:p.den<P2 2400)(K:p.den≠1)(Q:q.den=1):Calls prog 61 #[v,v'] w (Ib w (p+q)):=by
 obtain⟨_,rfl,s,a,n,c,b,m,d,rfl,HS,hx,hy⟩:=h;obtain⟨_,rfl,I,C,G,E,b',m',d',rfl,S,a7,a9⟩:=h';have O:=fun(i:World) (g:Ext w i)=>qh (Av (r:=false) (Bp (hy.ext g)) (fK (mt AJ.1 K)));have ab:=fun(i:World) (g:Ext w i)=>qh (Av (r:=true) (Bp (a9.ext g)) (gn (AJ.2 Q)));have a6:=fun(i:World) (g:Ext w i)=>qh (DC (AZ S (a7.ext g)) (Bp (hy.ext g)) (Ak P (by omega)) (by rw[DR K];exact Ak U (by omega)) (Or.inl (Ak P (by omega))))
 have N:(q.num*Bo p).natAbs<P2 9600:=by rw[ia,DR K];exact Ak (CD P U) (by omega)
 have a3:=fun(i:World) (g:Ext w i) (x:Value) (hv:AQ i x (q.num*Bo p))=>qh (JN hv (AZ HS (hx.ext g)) N (Ak b1 (by omega)));have R:=qh (UH (p:=p) Q);rw[<-EW K]at R;have HD:Hid (Bo (p+q)=Bo p):=qh (K0 (by have:=(UH (p:=p) Q).2;exact this));clear b1 U P N K Q
 go_enter func61,ntmps61
 go_upto_region 1 with(fail)
 refine IG ?_;intro w0 o k l X aa;have p0:=k.c 0 rfl;have p1:=k.c 1 rfl;have p2:=k.c 2 rfl;have p3:=k.c 3 rfl;have q0:=l.c 0 rfl;have q1:=l.c 1 rfl;have q2:=l.c 2 rfl;have q3:=l.c 3 rfl;have hR:Arr w0 (w.heap.size+2) 125 (As false none 0 0 false none 0 0):=X;clear aa
 go_wp2_with fail
 refine(O _ o).out.mono ?_;rintro e w1 ⟨rfl,t⟩;have V:=t.cell p2;have W:=t.cell p3
 go_wp2_with fail
 refine(O _ (o.trans t)).out.mono ?_;rintro e w2 ⟨rfl,Z⟩;have j:=t.trans Z;clear V W;have V:=j.cell q2;have W:=j.cell q3
 go_wp2_with fail
 refine(ab _ (o.trans j)).out.mono ?_;rintro e w3 ⟨rfl,a0⟩;have f:=j.trans a0;clear V W;have r0:=f.cell p0;have r1:=f.cell p1;have r2:=f.cell p2;have r3:=f.cell p3;have u0:=f.cell q0;have u1:=f.cell q1;have u2:=f.cell q2;have u3:=f.cell q3;have y:=o.trans f;have a2:=hR.ext f;clear p0 p1 p2 p3 q0 q1 q2 q3;go_wp2;have J:=fun(i:World) (g:Ext w3 i)=>qh (And.intro (g.cell r0) (And.intro (g.cell r1) (And.intro (g.cell r2) (And.intro (g.cell r3) (And.intro (g.cell u0) (And.intro (g.cell u1) (And.intro (g.cell u2) (g.cell u3))))))))
 refine Ad
  [hdP (w.heap.size+1) 0,he (.agg #[.bool I,.slice C G E]),hdP w.heap.size 2,he (.agg #[.bool false,.slice b m d]),hp (fun v i=>NI (q.num*Bo p) v i),hdP w.heap.size 0,he (.agg #[.bool s,.slice a n c]),hp (fun v i=>NI (q.num*Bo p+p.num) v i),hdP w.heap.size 2,he (.agg #[.bool false,.slice b m d])]
  ⟨NI.x _,NI.x _,trivial⟩ ⟨?o0,?o1,?o2,?o3,?o4,?o5,?o6,?o7,?o8,?o9,trivial⟩ ?fin
 case o0 | o5=>exact ofa (d:=0)
 case o1 | o3 | o6 | o9=>exact ol2
 case o2 | o8=>exact ofa (d:=2)
 case o4 =>
  refine Ai rfl fun ρ i g M a4 h => ?_;have e1:_=_:=h.2.1;have e2:_=_:=h.2.2.1;obtain⟨k0,k1,k2,k3,ac,ad,ae,af⟩:=(J i g).out;refine⟨93,#[.agg #[.bool I,.slice C G E],.agg #[.bool false,.slice b m d]],by go_simp,((a6 i (y.trans g)).out).mono ?_⟩;rintro e w' ⟨I,C,G,E,rfl,z,B,A⟩;exact⟨_,rfl,z,I,C,G,E,rfl,B,A⟩
 case o7 =>
  refine Ai rfl fun ρ i g M a4 h => ?_;obtain⟨v1,e1,s1,D,H,F,rfl,i1,j1⟩:=h.2.1;have e2:_=_:=h.2.2.1;obtain⟨k0,k1,k2,k3,ac,ad,ae,af⟩:=(J i g).out;refine⟨92,#[.agg (Ae s1 D H F).toArray,.agg #[.bool s,.slice a n c]],by go_simp,((a3 i (y.trans g) _ ⟨s1,D,H,F,rfl,i1,j1⟩).out).mono ?_⟩;rintro e w' ⟨I,C,G,E,rfl,z,B,A⟩;exact⟨_,rfl,z,I,C,G,E,rfl,B,A⟩
 case fin =>
  intro i g;rintro _ ⟨am,ai,al,aj,rfl,ag,ah⟩;rintro _ ⟨s1,D,H,F,rfl,T,a8⟩;change wpList _ _ _ _ _ _;simp only[CB];have L:=a2.ext g;have ak:(Ae s1 D H F).toArray=#[.bool s1,.slice D H F]:=rfl
  go_wp2_with(refine Aa (vs:=As s1 D H F false b m d) rfl rfl rfl rfl rfl Ac L rfl (Aq _ _ _ _ _ _ _ _) ?_;intro w9 Y a5)
  exact fh (At rfl Ac rfl Y) rfl (BJ (y.trans g) L (AM _ _ _ _ _ _ _ _) a5 (by omega) (by rw[R.out.1];exact T) (by rw[R.out.1];exact a8) (by rw[HD.out];exact hy.ext (y.trans g)))
theorem OU(hT:Bk w)(h:BI w v p)(h':BI w v' q)(b1:p.num.natAbs<P2 2400)(b2:p.den<P2 2400)(b3:q.num.natAbs<P2 2400)(b4:q.den<P2 2400)(d1:p.den≠1)(d2:q.den≠1):Calls prog 61 #[v,v'] w (Ib w (p+q)):=by
 obtain⟨_,rfl,s,a,n,c,b,m,d,rfl,HS,hx,hy⟩:=h;obtain⟨_,rfl,s',a',n',c',b',m',d',rfl,bS,cn,bx⟩:=h';have aT:=fun(j:World) (f:Ext w j)=>qh (Av (r:=false) (Bp (hy.ext f)) (fK (mt AJ.1 d1)));have bz:=fun(j:World) (f:Ext w j)=>qh (Av (r:=false) (Bp (bx.ext f)) (fK (mt AJ.1 d2)));have al:=fun(j:World) (f:Ext w j)=>Bp (hy.ext f);have aa:=fun(j:World) (f:Ext w j)=>Bp (bx.ext f);rw[EW d1]at al;rw[EW d2]at aa;obtain⟨G,hG⟩:∃ G,G=Nat.gcd p.den q.den:=⟨_,rfl⟩
 obtain⟨L,hL⟩:∃ L,L=q.den/G:=⟨_,rfl⟩;obtain⟨R,ai⟩:∃ R,R=p.den/G:=⟨_,rfl⟩;obtain⟨N,hN⟩:∃ N:Int,N=p.num*(L:Int)+q.num*(R:Int):=⟨_,rfl⟩;obtain⟨K,hK⟩:∃ K,K=N.natAbs.gcd G:=⟨_,rfl⟩;have hs:=Pl.rat_add_parts p q;rw[<-hG,<-hL,<-ai,<-hN,<-hK]at hs;have aJ:0<G:=by rw[hG];exact mD _ (jM p.den_nz)
 have cd:0<K:=by rw[hK];exact lH _ aJ
 have bG:G<P2 2400:=fI (by rw[hG];exact Nat.gcd_le_left _ (jM p.den_nz)) b2;have bK:K<P2 2400:=fI (by rw[hK];exact Nat.gcd_le_right _ aJ) bG;have bL:L<P2 2400:=fI (by rw[hL];exact gy _ _) b4;have bR:R<P2 2400:=fI (by rw[ai];exact gy _ _) b2;have aG:(p.num*(L:Int)).natAbs<P2 4800:=by rw[ia];exact CD b1 bL
 have aH:(q.num*(R:Int)).natAbs<P2 4800:=by rw[ia];exact CD b3 bR
 have bN:N.natAbs<P2 9600:=Ak (fI (by rw[hN];exact m6 _ _) (Ur aG aH)) (by omega);have bq:(((q.den/K:Nat):Int)).natAbs<P2 2400:=fI (gy _ _) b4;have td:∀ x y:Nat,((x:Int)).tdiv (y:Int)=((x/y:Nat):Int):=fun x y=>by rw[iZ (by omega)];push_cast;rfl
 have aM:=fun(j:World) (f:Ext w j)=>qh (FV (hT.ext f) (al j f) (aa j f) (Ak b2 (by omega)) (Ak b4 (by omega)));simp only[gF,<-hG]at aM;have aO:=fun(j:World) (f:Ext w j) (g:Value) (hg:AQ j g (G:Int))=>qh (FW (aa j f) hg (Ak b4 (by omega)) (Ak bG (by omega)) (by omega));have aP:=fun(j:World) (f:Ext w j) (g:Value) (hg:AQ j g (G:Int))=>qh (FW (al j f) hg (Ak b2 (by omega)) (Ak bG (by omega)) (by omega));rw[td,<-hL]at aO;rw[td,<-ai]at aP
 have bp:=fun(j:World) (f:Ext w j) (g:Value) (hg:AQ j g (L:Int))=>qh (DC (AZ HS (hx.ext f)) hg (Ak b1 (by omega)) (Ak bL (by omega)) (Or.inl (Ak b1 (by omega))));have br:=fun(j:World) (f:Ext w j) (g:Value) (hg:AQ j g (R:Int))=>qh (DC (AZ bS (cn.ext f)) hg (Ak b3 (by omega)) (Ak bR (by omega)) (Or.inl (Ak b3 (by omega))));have aK:=fun(j:World) (x1 x2:Value) (h1:AQ j x1 (p.num*(L:Int))) (h2:AQ j x2 (q.num*(R:Int)))=>qh (JN h1 h2 (Ak aG (by omega)) (Ak aH (by omega)));rw[<-hN]at aK
 have ct:=fun(j:World) (x:Value) (hv:AQ j x N)=>qh (Av (r:=decide (N=0)) hv rfl);have ci:=fun(j:World) (x:Value) (hv:AQ j x (G:Int))=>qh (Dd (r:=decide (G=1)) hv (jJ.2 (by omega)));have aN:=fun(j:World) (f:Ext w j)=>qh (DC (al j f) (aa j f) (Ak b2 (by omega)) (Ak b4 (by omega)) (Or.inl (Ak b2 (by omega))));have bo:=fun(j:World) (f:Ext w j) (x y:Value) (hv:AQ j x N) (a0:AQ j y (G:Int))=>qh (FV (hT.ext f) hv a0 bN (Ak bG (by omega)));simp only[gF,<-hK]at bo
 have bt:=fun(j:World) (x y:Value) (hv:AQ j x N) (a0:AQ j y (K:Int))=>qh (FW hv a0 bN (Ak bK (by omega)) (by omega));have bu:=fun(j:World) (f:Ext w j) (y:Value) (a0:AQ j y (K:Int))=>qh (FW (aa j f) a0 (Ak b4 (by omega)) (Ak bK (by omega)) (by omega));rw[td]at bu;have bs:=fun(j:World) (x y:Value) (hv:AQ j x (R:Int)) (a0:AQ j y ((q.den/K:Nat):Int))=>qh (DC hv a0 (Ak bR (by omega)) (Ak bq (by omega)) (Or.inl (Ak bR (by omega))));rw[<-fU,<-hs.2]at bs;rw[<-hs.1]at bt;rw[<-fU]at aN
 have HZ:N=0->Hid (p+q=0):=fun h=>qh (Pl.rat_num_den_zero.1 (by rw[hs.1,h];exact Int.zero_tdiv _))
 have HO:G=1->Hid ((p+q).num=N/\(p+q).den=p.den*q.den):=fun h=>by
  refine qh ⟨?_,?_⟩
  · rw[hs.1,hK,h,jC];exact md _
  · rw[hs.2,hK,h,jC,mq,ai,h,mq]
 clear b1 b2 b3 b4 d1 d2 hs hG hL ai hN hK aJ cd bG bK bL bR aG aH bN bq td al aa
 go_enter func61,ntmps61
 go_upto_region 1 with(fail)
 refine IG ?_;intro w0 ae au av c4 cr;have p0:=au.c 0 rfl;have p1:=au.c 1 rfl;have p2:=au.c 2 rfl;have p3:=au.c 3 rfl;have q0:=av.c 0 rfl;have q1:=av.c 1 rfl;have q2:=av.c 2 rfl;have q3:=av.c 3 rfl;have hR:Arr w0 (w.heap.size+2) 125 (As false none 0 0 false none 0 0):=c4;clear cr
 go_wp2_with fail
 refine(aT _ ae).out.mono ?_;rintro e w1 ⟨rfl,aw⟩;have f2:=aw.cell p2;have f3:=aw.cell p3
 go_wp2_with fail
 refine(aT _ (ae.trans aw)).out.mono ?_;rintro e w2 ⟨rfl,ca⟩;have aq:=aw.trans ca;clear f2 f3;have f2:=aq.cell q2;have f3:=aq.cell q3
 go_wp2_with fail
 refine(bz _ (ae.trans aq)).out.mono ?_;rintro e w3 ⟨rfl,cb⟩;have B:=aq.trans cb;clear f2 f3;have f0:=B.cell p0;have f1:=B.cell p1;have f2:=B.cell p2;have f3:=B.cell p3;have g0:=B.cell q0;have g1:=B.cell q1;have g2:=B.cell q2;have g3:=B.cell q3
 go_wp2_with fail
 refine(aM _ (ae.trans B)).out.mono ?_;rintro e w4 ⟨s3,a3,n3,c3,rfl,aI,bT,co⟩;have cj:(Ae s3 a3 n3 c3).toArray=#[.bool s3,.slice a3 n3 c3]:=rfl;have hY:=Arr.new w4 123 (Ae false none 0 0)
 go_upto_region 8 with(refine Aa (vs:=Ae s3 a3 n3 c3) rfl rfl rfl rfl rfl Am hY rfl (Ao _ _ _ _) ?_;intro w5 bi cg)
 have ax:Ext w4 w5:=((Ext.refl w4).alloc _).grownR cg (lrf _);have aC:=((ae.trans B).trans aI).trans ax;have bO:=((hR.ext B).ext aI).ext ax;have H:=aI.trans ax;have r0:=H.cell f0;have r1:=H.cell f1;have r2:=H.cell f2;have r3:=H.cell f3;have u0:=H.cell g0;have u1:=H.cell g1;have u2:=H.cell g2;have u3:=H.cell g3;have am:=bi.c 0 rfl;have an:=bi.c 1 rfl;have iG:AQ w5 (.agg (Ae s3 a3 n3 c3).toArray) (G:Int):=⟨s3,a3,n3,c3,rfl,bT,co.ext ax⟩;clear cj p0 p1 p2 p3 q0 q1 q2 q3 f0 f1 f2 f3 g0 g1 g2 g3 aT bz aM hY
 have b6:=fun(j:World) (f:Ext w5 j)=>qh (And.intro (f.cell r0) (And.intro (f.cell r1) (And.intro (f.cell r2) (And.intro (f.cell r3) (And.intro (f.cell u0) (And.intro (f.cell u1) (And.intro (f.cell u2) (And.intro (f.cell u3) (And.intro (f.cell am) (f.cell an))))))))))
 refine DQ (by kernel_rfl) (fun j=>Ext w5 j)
  [he (.pointer (some ⟨(w.heap.size+1),2,none⟩)),
 he (.agg #[.bool false,.slice b' m' d']),
 he (.agg #[.bool s3,.slice a3 n3 c3]),
 hp (fun v j=>NI ((L:Int)) v j),
 he (.pointer (some ⟨w.heap.size,2,none⟩)),
 he (.agg #[.bool false,.slice b m d]),
 he (.agg #[.bool s3,.slice a3 n3 c3]),
 hp (fun v j=>NI ((R:Int)) v j),
 hp (NP w5.heap.size),
 hp (NP w5.heap.size),
 hmp (fun _ _=>True)]
  (by kernel_rfl) (fun _ _ e h=>h.trans e) ((Ext.refl w5).drew) ⟨trivial,trivial,trivial,NI.x _,trivial,trivial,trivial,NI.x _,NP.x _,NP.x _,NT.x,trivial⟩ ⟨?o0,?o1,?o2,?o3,?o4,?o5,?o6,?o7,?o8,?o9,?o10,trivial⟩ 8 9 10 3 123 (Ae false none 0 0) ⟨by simp,by simp,by simp,by simp⟩ (by omega) ?hk ?hs1 ?hp1 ?hnm Am ?hj1 ?fin
 case o0 | o4=>exact ofa (d:=2)
 case o1 | o2 | o5 | o6=>exact ol2
 case o3 =>
  refine Ai rfl fun ρ j f E Q h => ?_;have e1:_=_:=h.2.1;have e2:_=_:=h.2.2.1;obtain⟨S,T,U,V,W,X,Y,Z,am,an⟩:=(b6 j f).out;refine⟨95,#[.agg #[.bool false,.slice b' m' d'],.agg #[.bool s3,.slice a3 n3 c3]],by go_simp,((aO j (aC.trans f) _ (iG.ext f)).out).mono ?_⟩;rintro e w' ⟨s',a',n',c',rfl,A,D,C⟩;exact⟨_,rfl,A,s',a',n',c',rfl,D,C⟩
 case o7 =>
  refine Ai rfl fun ρ j f E Q h => ?_;have e1:_=_:=h.2.1;have e2:_=_:=h.2.2.1;obtain⟨S,T,U,V,W,X,Y,Z,am,an⟩:=(b6 j f).out;refine⟨95,#[.agg #[.bool false,.slice b m d],.agg #[.bool s3,.slice a3 n3 c3]],by go_simp,((aP j (aC.trans f) _ (iG.ext f)).out).mono ?_⟩;rintro e w' ⟨s',a',n',c',rfl,A,D,C⟩;exact⟨_,rfl,A,s',a',n',c',rfl,D,C⟩
 case o8 =>
  exact CF rfl rfl (fun _ h=>h.size)
 case o9 =>
  exact CF rfl rfl (fun _ h=>h.size)
 case o10 =>
  exact GK (base:=w5.heap.size) (z:=(L:Int)) rfl rfl ⟨trivial,trivial,trivial,NI.i _,trivial,trivial,trivial,NI.i _,NP.i _,NP.i _,NT.i,trivial⟩ (fun w w' g h hb hg=>h.grownR hg hb) (fun ρ w _ _ h=>⟨h.1,h.2.1⟩)
 case hk =>
  rintro k (rfl|rfl) o ho
  · cases ho;exact⟨rfl,rfl,fun ρ j=>CE rfl ρ j⟩
  · cases ho;exact⟨rfl,rfl,fun ρ j=>CE rfl ρ j⟩
 case hs1 =>
  intro o ho;cases ho;exact⟨rfl,rfl,_,_,rfl,rfl,rfl⟩
 case hp1=>exact⟨ii.1 (by kernel_rfl),ii.1 (by kernel_rfl)⟩
 case hnm =>
  intro i hi ab;simp only[fP,jU]at hi
  match i,hi,ab with
  | 0,_,_=>rfl
  | 1,_,_=>rfl
  | 2,_,_=>rfl
  | 3,_,_=>rfl
  | 4,_,_=>rfl
  | 5,_,_=>rfl
  | 6,_,_=>rfl
  | 7,_,_=>rfl
  | 8,_,_=>rfl
  | 9,_,_=>rfl
  | 10,_,ab=>exact absurd rfl ab
 case hj1 =>
  refine⟨rfl,fun v w h => ?_⟩;obtain⟨s,a,n,c,rfl,_,_⟩:=h;exact⟨Ae s a n c,rfl,rfl,Ao _ _ _ _⟩
 case fin =>
  intro j f;rintro _ ⟨s5,a5,n5,c5,rfl,bU,bv⟩;rintro _ ⟨s6,a6,n6,c6,rfl,bV,bw⟩;rintro _ ⟨g5,cB,rfl,_,_,_,_⟩;rintro _ ⟨g6,cC,rfl,_,_,_,_⟩;rintro _ _;simp only[lq,lw,lj,lk,Act.put,lC,lD,lE,BA,Be,kW,jA,iW,jt];rintro⟨ga,gb,bc,e1,e2,l5,l6,ab,e3,hA1,hA2⟩;have bd:Value.pointer (some ⟨g5,0,none⟩) = .pointer (some ⟨ga,0,none⟩):=e1
  have be:Value.pointer (some ⟨g6,0,none⟩) = .pointer (some ⟨gb,0,none⟩):=e2;have bf:Value.agg (Ae s5 a5 n5 c5).toArray = .agg bc.toArray:=e3;simp only[kG,fc,gz,ij]at bd be;have e4:bc=Ae s5 a5 n5 c5:=by simpa using bf.symm
  subst bd;subst be;subst e4;clear e1 e2 e3 bf;change wpList _ _ _ _ _ _
  go_upto_region 9 with(refine Aa (vs:=Ae s6 a6 n6 c6) rfl rfl rfl rfl rfl Am hA2 rfl (Ao _ _ _ _) ?_;intro w6 bj aj)
  have F:Ext w5 w6:=f.grownR aj l6;have bn:=hA1.kept aj (by simpa using ab);have ce:=bv.kept hA2 (AL _ _ _ _) aj;have cf:=bw.kept hA2 (AL _ _ _ _) aj;clear hA1 hA2 ab f bv bw aj;have y0:=F.cell r0;have y1:=F.cell r1;have y2:=F.cell r2;have y3:=F.cell r3;have z0:=F.cell u0;have z1:=F.cell u1;have z2:=F.cell u2;have z3:=F.cell u3;have ac:=aC.trans F;have aD:=bO.ext F;have bA:=iG.ext F;have bg:=F.cell am;have bh:=F.cell an;have ay:=bn.c 0 rfl;have az:=bn.c 1 rfl;have O:=bj.c 0 rfl;have P:=bj.c 1 rfl
  have iL:AQ w6 (.agg (Ae s5 a5 n5 c5).toArray) (L:Int):=⟨s5,a5,n5,c5,rfl,bU,ce⟩;have iR:AQ w6 (.agg (Ae s6 a6 n6 c6).toArray) (R:Int):=⟨s6,a6,n6,c6,rfl,bV,cf⟩;clear r0 r1 r2 r3 u0 u1 u2 u3 am an aO aP;have aE:=fun(j:World) (f:Ext w6 j)=>qh (And.intro (f.cell y0) (And.intro (f.cell y1) (And.intro (f.cell y2) (And.intro (f.cell y3) (And.intro (f.cell z0) (And.intro (f.cell z1) (And.intro (f.cell z2) (And.intro (f.cell z3) (And.intro (f.cell ay) (And.intro (f.cell az) (And.intro (f.cell O) (f.cell P))))))))))))
  refine Ad
   [hdP w.heap.size 0,he (.agg #[.bool s,.slice a n c]),he (.agg #[.bool s5,.slice a5 n5 c5]),hp (fun v j=>NI (p.num*(L:Int)) v j),hdP (w.heap.size+1) 0,he (.agg #[.bool s',.slice a' n' c']),he (.agg #[.bool s6,.slice a6 n6 c6]),hp (fun v j=>NI (q.num*(R:Int)) v j),hp (fun v j=>NI (N) v j),hp (NP w6.heap.size)]
   ⟨NI.x _,NI.x _,NI.x _,NP.x _,trivial⟩ ⟨?o0,?o1,?o2,?o3,?o4,?o5,?o6,?o7,?o8,?o9,trivial⟩ ?fin
  case o0 | o4=>exact ofa (d:=0)
  case o1 | o2 | o5 | o6=>exact ol2
  case o3 =>
   refine Ai rfl fun ρ j f E Q h => ?_;have e1:_=_:=h.2.1;have e2:_=_:=h.2.2.1;obtain⟨S,T,U,V,W,X,Y,Z,ay,az,O,P⟩:=(aE j f).out;refine⟨93,#[.agg #[.bool s,.slice a n c],.agg #[.bool s5,.slice a5 n5 c5]],by go_simp,((bp j (ac.trans f) _ (iL.ext f)).out).mono ?_⟩;rintro e w' ⟨s',a',n',c',rfl,A,D,C⟩;exact⟨_,rfl,A,s',a',n',c',rfl,D,C⟩
  case o7 =>
   refine Ai rfl fun ρ j f E Q h => ?_;have e1:_=_:=h.2.1;have e2:_=_:=h.2.2.1;obtain⟨S,T,U,V,W,X,Y,Z,ay,az,O,P⟩:=(aE j f).out;refine⟨93,#[.agg #[.bool s',.slice a' n' c'],.agg #[.bool s6,.slice a6 n6 c6]],by go_simp,((br j (ac.trans f) _ (iR.ext f)).out).mono ?_⟩;rintro e w' ⟨s',a',n',c',rfl,A,D,C⟩;exact⟨_,rfl,A,s',a',n',c',rfl,D,C⟩
  case o8 =>
   refine Ai rfl fun ρ j f E Q h => ?_;obtain⟨v1,e1,s1,a1,n1,c1,rfl,i1,j1⟩:=h.2.1;obtain⟨v2,e2,s2,a2,n2,c2,rfl,i2,j2⟩:=h.2.2.1;obtain⟨S,T,U,V,W,X,Y,Z,ay,az,O,P⟩:=(aE j f).out;refine⟨92,#[.agg (Ae s1 a1 n1 c1).toArray,.agg (Ae s2 a2 n2 c2).toArray],by go_simp,((aK j _ _ ⟨s1,a1,n1,c1,rfl,i1,j1⟩ ⟨s2,a2,n2,c2,rfl,i2,j2⟩).out).mono ?_⟩;rintro e w' ⟨s',a',n',c',rfl,A,D,C⟩;exact⟨_,rfl,A,s',a',n',c',rfl,D,C⟩
  case o9 =>
   exact CF rfl rfl (fun _ h=>h.size)
  case fin =>
   intro j f;rintro _ ⟨bC,ba,bB,bb,rfl,aX,b5⟩;rintro _ ⟨cv,bZ,cu,c0,rfl,bI,bP⟩;rintro _ ⟨s7,a7,n7,c7,rfl,bW,cp⟩;rintro _ ⟨g7,cD,rfl,l7,A7,k7,U7⟩;change wpList _ _ _ _ _ _;simp only[CB];have ck:(Ae s7 a7 n7 c7).toArray=#[.bool s7,.slice a7 n7 c7]:=rfl
   go_upto_region 10 with(refine Aa (vs:=Ae s7 a7 n7 c7) rfl rfl rfl rfl rfl Am A7 k7 (Ao _ _ _ _) ?_;intro w7 bk aL)
   have cc:Ext w6 w7:=f.grownR aL l7;have iN:AQ w7 (.agg (Ae s7 a7 n7 c7).toArray) N:=⟨s7,a7,n7,c7,rfl,bW,cp.kept A7 U7 aL⟩;have I:=bk.c 0 rfl;have J:=bk.c 1 rfl;clear ck bp br aK f aL A7 U7 k7 l7
   go_wp2_with fail
   refine(ct _ _ iN).out.mono ?_;rintro e w8 ⟨rfl,bm⟩;have a4:=cc.trans bm;have bM:=ac.trans a4;have b0:=aD.ext a4;by_cases ag:N=0
   · have bY:=HZ ag;rw[gn ag];clear ag HZ HO
     go_wp2_with(refine Aa (vs:=As false none 0 0 false none 0 0) rfl rfl rfl rfl rfl Ac b0 rfl (Aq _ _ _ _ _ _ _ _) ?_;intro w9 ad ak)
     refine fh (At rfl Ac rfl ad) rfl ?_;rw[bY.out];exact BJ bM b0 (AM _ _ _ _ _ _ _ _) ak (by omega) (qh rfl) (Wd.nil _) (Wd.nil _)
   · rw[fK ag];clear ag HZ;have bD:=a4.cell bg;have bE:=a4.cell bh
     go_wp2_with fail
     refine(ci _ _ (bA.ext a4)).out.mono ?_;rintro e cw ⟨rfl,aY⟩;have l:=a4.trans aY;have aA:=bm.trans aY;have aB:=ac.trans l;have bF:=aD.ext l;have I:=aA.cell I;have J:=aA.cell J;have iN:=iN.ext aA;clear bD bE;have r0:=l.cell y0;have r1:=l.cell y1;have r2:=l.cell y2;have r3:=l.cell y3;have u0:=l.cell z0;have u1:=l.cell z1;have u2:=l.cell z2;have u3:=l.cell z3;by_cases af:G=1
     · have b8:=HO af;rw[gn af];rw[<-b8.out.1]at iN;rw[<-b8.out.2]at aN;clear af HO;go_wp2;have b7:=fun(j:World) (f:Ext cw j)=>qh (And.intro (f.cell r0) (And.intro (f.cell r1) (And.intro (f.cell r2) (And.intro (f.cell r3) (And.intro (f.cell u0) (And.intro (f.cell u1) (And.intro (f.cell u2) (And.intro (f.cell u3) (And.intro (f.cell I) (f.cell J))))))))))
       refine Ad
        [he (.agg #[.bool s7,.slice a7 n7 c7]),hdP w.heap.size 2,he (.agg #[.bool false,.slice b m d]),hdP (w.heap.size+1) 2,he (.agg #[.bool false,.slice b' m' d']),hp (fun v j=>NI (((p+q).den:Int)) v j),hp (fun v j=>∃ cs,v = .agg cs.toArray/\GH j cs (p+q))]
        ⟨NI.x _,fun v w w' e ⟨cs,h1,h2⟩=>⟨cs,h1,h2.ext e⟩,trivial⟩ ⟨?o0,?o1,?o2,?o3,?o4,?o5,?o6,trivial⟩ ?fin
       case o0 | o2 | o4=>exact ol2
       case o1 | o3=>exact ofa (d:=2)
       case o5 =>
        refine Ai rfl fun ρ j f E Q h => ?_;have e1:_=_:=h.2.1;have e2:_=_:=h.2.2.1;obtain⟨S,T,U,V,W,X,Y,Z,I,J⟩:=(b7 j f).out;refine⟨93,#[.agg #[.bool false,.slice b m d],.agg #[.bool false,.slice b' m' d']],by go_simp,((aN j (aB.trans f)).out).mono ?_⟩;rintro e w' ⟨s',a',n',c',rfl,A,D,C⟩;exact⟨_,rfl,A,s',a',n',c',rfl,D,C⟩
       case o6 =>
        refine Ai rfl fun ρ j f E Q h => ?_;have e1:_=_:=h.2.1;obtain⟨v2,e2,s2,a2,n2,c2,rfl,i2,j2⟩:=h.2.2.1;obtain⟨S,T,U,V,W,X,Y,Z,I,J⟩:=(b7 j f).out;refine⟨97,#[.agg #[.bool s7,.slice a7 n7 c7],.agg (Ae s2 a2 n2 c2).toArray],by go_simp,(DU (q:=p+q) (iN.ext f) ⟨s2,a2,n2,c2,rfl,i2,j2⟩).mono ?_⟩;rintro e w' ⟨cs,rfl,A,aQ⟩;exact⟨_,rfl,A,cs,rfl,aQ⟩
       case fin =>
        intro j f;rintro _ ⟨bC,ba,bB,bb,rfl,aX,b5⟩;rintro _ ⟨_,rfl,s9,a9,n9,c9,b9,m9,d9,rfl,aF,aR,aS⟩;change wpList _ _ _ _ _ _;simp only[CB];have ah:=bF.ext f;have cm:(As s9 a9 n9 c9 false b9 m9 d9).toArray=#[.bool s9,.slice a9 n9 c9,.bool false,.slice b9 m9 d9]:=rfl
        go_wp2_with(refine Aa (vs:=As s9 a9 n9 c9 false b9 m9 d9) rfl rfl rfl rfl rfl Ac ah rfl (Aq _ _ _ _ _ _ _ _) ?_;intro w9 ad ak)
        exact fh (At rfl Ac rfl ad) rfl (BJ (aB.trans f) ah (AM _ _ _ _ _ _ _ _) ak (by omega) aF aR aS)
     · rw[fK af];have bD:=l.cell bg;have bE:=l.cell bh;clear af HO
       go_wp2_with fail
       refine(bo _ aB _ _ iN (bA.ext l)).out.mono ?_;rintro e aU ⟨s8,a8,n8,c8,rfl,bJ,bX,cq⟩;have cl:(Ae s8 a8 n8 c8).toArray=#[.bool s8,.slice a8 n8 c8]:=rfl;have hY:=Arr.new aU 123 (Ae false none 0 0)
       go_upto_region 15 with(refine Aa (vs:=Ae s8 a8 n8 c8) rfl rfl rfl rfl rfl Am hY rfl (Ao _ _ _ _) ?_;intro aV bl ch)
       have aZ:Ext aU aV:=((Ext.refl aU).alloc _).grownR ch (lrf _);have M:=bJ.trans aZ;have t:=l.trans M;have aW:=ac.trans t;have bH:=aD.ext t;have I:=M.cell I;have J:=M.cell J;have iN:=iN.ext M;have bQ:=iR.ext t;have O:=t.cell O;have P:=t.cell P;have iK:AQ aV (.agg (Ae s8 a8 n8 c8).toArray) (K:Int):=⟨s8,a8,n8,c8,rfl,bX,cq.ext aZ⟩;have ao:=bl.c 0 rfl;have ap:=bl.c 1 rfl;have y0:=t.cell y0;have y1:=t.cell y1;have y2:=t.cell y2;have y3:=t.cell y3;have z0:=t.cell z0
       have z1:=t.cell z1;have z2:=t.cell z2;have z3:=t.cell z3;clear cl hY;have ar:=fun(j:World) (f:Ext aV j)=>qh (And.intro (f.cell y0) (And.intro (f.cell y1) (And.intro (f.cell y2) (And.intro (f.cell y3) (And.intro (f.cell z0) (And.intro (f.cell z1) (And.intro (f.cell z2) (And.intro (f.cell z3) (And.intro (f.cell O) (And.intro (f.cell P) (And.intro (f.cell I) (And.intro (f.cell J) (And.intro (f.cell ao) (f.cell ap))))))))))))))
       refine Ad
        [he (.agg #[.bool s7,.slice a7 n7 c7]),he (.agg #[.bool s8,.slice a8 n8 c8]),hp (fun v j=>NI ((p+q).num) v j),he (.agg #[.bool s6,.slice a6 n6 c6]),hdP (w.heap.size+1) 2,he (.agg #[.bool false,.slice b' m' d']),he (.agg #[.bool s8,.slice a8 n8 c8]),hp (fun v j=>NI (((q.den/K:Nat):Int)) v j),hp (fun v j=>NI (((p+q).den:Int)) v j),hp (fun v j=>∃ cs,v = .agg cs.toArray/\GH j cs (p+q))]
        ⟨NI.x _,NI.x _,NI.x _,fun v w w' e ⟨cs,h1,h2⟩=>⟨cs,h1,h2.ext e⟩,trivial⟩ ⟨?o0,?o1,?o2,?o3,?o4,?o5,?o6,?o7,?o8,?o9,trivial⟩ ?fin
       case o0 | o1 | o3 | o5 | o6=>exact ol2
       case o4=>exact ofa (d:=2)
       case o2 =>
        refine Ai rfl fun ρ j f E Q h => ?_;have e1:_=_:=h.2.1;have e2:_=_:=h.2.2.1;obtain⟨S,T,U,V,W,X,Y,Z,O,P,I,J,ao,ap⟩:=(ar j f).out;refine⟨95,#[.agg #[.bool s7,.slice a7 n7 c7],.agg #[.bool s8,.slice a8 n8 c8]],by go_simp,((bt j _ _ (iN.ext f) (iK.ext f)).out).mono ?_⟩;rintro e w' ⟨s',a',n',c',rfl,A,D,C⟩;exact⟨_,rfl,A,s',a',n',c',rfl,D,C⟩
       case o7 =>
        refine Ai rfl fun ρ j f E Q h => ?_;have e1:_=_:=h.2.1;have e2:_=_:=h.2.2.1;obtain⟨S,T,U,V,W,X,Y,Z,O,P,I,J,ao,ap⟩:=(ar j f).out;refine⟨95,#[.agg #[.bool false,.slice b' m' d'],.agg #[.bool s8,.slice a8 n8 c8]],by go_simp,((bu j (aW.trans f) _ (iK.ext f)).out).mono ?_⟩;rintro e w' ⟨s',a',n',c',rfl,A,D,C⟩;exact⟨_,rfl,A,s',a',n',c',rfl,D,C⟩
       case o8 =>
        refine Ai rfl fun ρ j f E Q h => ?_;have e1:_=_:=h.2.1;obtain⟨v2,e2,s2,a2,n2,c2,rfl,i2,j2⟩:=h.2.2.1;obtain⟨S,T,U,V,W,X,Y,Z,O,P,I,J,ao,ap⟩:=(ar j f).out;refine⟨93,#[.agg #[.bool s6,.slice a6 n6 c6],.agg (Ae s2 a2 n2 c2).toArray],by go_simp,((bs j _ _ (bQ.ext f) ⟨s2,a2,n2,c2,rfl,i2,j2⟩).out).mono ?_⟩;rintro e w' ⟨s',a',n',c',rfl,A,D,C⟩;exact⟨_,rfl,A,s',a',n',c',rfl,D,C⟩
       case o9 =>
        refine Ai rfl fun ρ j f E Q h => ?_;obtain⟨v1,e1,s1,a1,n1,c1,rfl,i1,j1⟩:=h.2.1;obtain⟨v2,e2,s2,a2,n2,c2,rfl,i2,j2⟩:=h.2.2.1;obtain⟨S,T,U,V,W,X,Y,Z,O,P,I,J,ao,ap⟩:=(ar j f).out;refine⟨97,#[.agg (Ae s1 a1 n1 c1).toArray,.agg (Ae s2 a2 n2 c2).toArray],by go_simp,(DU (q:=p+q) ⟨s1,a1,n1,c1,rfl,i1,j1⟩ ⟨s2,a2,n2,c2,rfl,i2,j2⟩).mono ?_⟩;rintro e w' ⟨cs,rfl,A,aQ⟩;exact⟨_,rfl,A,cs,rfl,aQ⟩
       case fin =>
        intro j f;rintro _ ⟨bC,ba,bB,bb,rfl,aX,b5⟩;rintro _ ⟨cv,bZ,cu,c0,rfl,bI,bP⟩;rintro _ ⟨cF,cz,cE,cA,rfl,cx,cy⟩;rintro _ ⟨_,rfl,s9,a9,n9,c9,b9,m9,d9,rfl,aF,aR,aS⟩;change wpList _ _ _ _ _ _;simp only[CB];have ah:=bH.ext f;have cm:(As s9 a9 n9 c9 false b9 m9 d9).toArray=#[.bool s9,.slice a9 n9 c9,.bool false,.slice b9 m9 d9]:=rfl
        go_wp2_with(refine Aa (vs:=As s9 a9 n9 c9 false b9 m9 d9) rfl rfl rfl rfl rfl Ac ah rfl (Aq _ _ _ _ _ _ _ _) ?_;intro w9 ad ak)
        exact fh (At rfl Ac rfl ad) rfl (BJ (aW.trans f) ah (AM _ _ _ _ _ _ _ _) ak (by omega) aF aR aS)
theorem QV(i:Bk w)(h:BI w v p)(e:BI w v' q)(b:p.num.natAbs<P2 2400)(f:p.den<P2 2400)(c:q.num.natAbs<P2 2400)(g:q.den<P2 2400):Calls prog 61 #[v,v'] w (Ib w (p+q)):=by
 by_cases d:p.den=1
 · by_cases a:q.den=1
   · exact PX h e b c d a
   · exact PY h e b c g d a
 · by_cases a:q.den=1
   · exact PZ h e b c f d a
   · exact OU i h e b f c g d a
def NR(q:Rat)(v:Value)(w:World):Prop:=∃ cs,v = .agg cs.toArray/\GH w cs q
theorem NR.x(q:Rat):StX (NR q):=fun _ _ _ e ⟨a,h1,h2⟩=>⟨a,h1,h2.ext e⟩
theorem OV(h:BI w v q):Calls prog 104 #[v] w (Ib w q⁻¹):=by
 have a4:=fun(f:World) (g:Ext w f)=>qh (Na (h.ext g));obtain⟨_,rfl,s,a,n,c,b,m,d,rfl,HS,hx,hy⟩:=h;have af:=fun(f:World) (g:Ext w f)=>qh (Ut (r:=q.num.sign) (AZ HS (hx.ext g)) rfl);have V:=fun(f:World) (g:Ext w f)=>qh (M6 (AZ HS (hx.ext g)));have ae:=fun(f:World) (g:Ext w f)=>AZ HS (hx.ext g)
 go_enter func104,ntmps104
 go_upto_region 1 with(fail)
 refine PK ?_;intro w0 a3 I ac ag;have p0:=I.c 0 rfl;have p1:=I.c 1 rfl;have p2:=I.c 2 rfl;have p3:=I.c 3 rfl;have hR:Arr w0 (w.heap.size+1) 125 (As false none 0 0 false none 0 0):=ac;clear ag
 go_wp2_with fail
 refine(af _ a3).out.mono ?_;rintro e w1 ⟨rfl,p⟩;have k:=a3.trans p;have J:=hR.ext p;have r0:=p.cell p0;have r1:=p.cell p1;have r2:=p.cell p2;have r3:=p.cell p3;clear p0 p1 p2 p3;rcases Int.lt_trichotomy q.num 0 with C|C|C
 · have N:=qh (Pl.rat_inv_neg C);rw[ms C];have z : -q.num=((q.num.natAbs:Nat):Int):=by omega
   rw[z]at V;rw[<-N.out.2]at V;clear C z;go_wp2;have H:=fun(f:World) (g:Ext w1 f)=>qh (And.intro (g.cell r0) (And.intro (g.cell r1) (And.intro (g.cell r2) (g.cell r3))))
   refine Ad
    [he (.agg #[.bool s,.slice a n c,.bool false,.slice b m d]),hp (fun v f=>NI ((q.den:Int)) v f),hp (fun v f=>NI (-(q.den:Int)) v f),hdP w.heap.size 0,he (.agg #[.bool s,.slice a n c]),hp (fun v f=>NI (((q⁻¹).den:Int)) v f),hp (fun v f=>NR (q⁻¹) v f)]
    ⟨NI.x _,NI.x _,NI.x _,NR.x _,trivial⟩ ⟨?o0,?o1,?o2,?o3,?o4,?o5,?o6,trivial⟩ ?fin
   case o0=>exact ol4
   case o3=>exact ofa (d:=0)
   case o4=>exact ol2
   case o1 =>
    refine Ai rfl fun ρ f g j A h => ?_;have e1:_=_:=h.2.1;obtain⟨D,E,F,G⟩:=(H f g).out;refine⟨143,#[.agg #[.bool s,.slice a n c,.bool false,.slice b m d]],by go_simp,((a4 f (k.trans g)).out).mono ?_⟩;rintro e w' ⟨s',P,n',S,rfl,i,o,l⟩;exact⟨_,rfl,i,s',P,n',S,rfl,o,l⟩
   case o2 =>
    refine Ai rfl fun ρ f g j A h => ?_;obtain⟨v1,e1,s1,K,M,L,rfl,i1,j1⟩:=h.2.1;obtain⟨D,E,F,G⟩:=(H f g).out;refine⟨106,#[.agg (Ae s1 K M L).toArray],by go_simp,(M6 ⟨s1,K,M,L,rfl,i1,j1⟩).mono ?_⟩;rintro e w' ⟨s',P,n',S,rfl,i,o,l⟩;exact⟨_,rfl,i,s',P,n',S,rfl,o,l⟩
   case o5 =>
    refine Ai rfl fun ρ f g j A h => ?_;have e1:_=_:=h.2.1;obtain⟨D,E,F,G⟩:=(H f g).out;refine⟨106,#[.agg #[.bool s,.slice a n c]],by go_simp,((V f (k.trans g)).out).mono ?_⟩;rintro e w' ⟨s',P,n',S,rfl,i,o,l⟩;exact⟨_,rfl,i,s',P,n',S,rfl,o,l⟩
   case o6 =>
    refine Ai rfl fun ρ f g j A h => ?_;obtain⟨v1,e1,s1,K,M,L,rfl,i1,j1⟩:=h.2.1;obtain⟨v2,e2,s2,a2,n2,c2,rfl,i2,j2⟩:=h.2.2.1;obtain⟨D,E,F,G⟩:=(H f g).out;refine⟨97,#[.agg (Ae s1 K M L).toArray,.agg (Ae s2 a2 n2 c2).toArray],by go_simp,(DU (q:=q⁻¹) (by rw[N.out.1];exact⟨s1,K,M,L,rfl,i1,j1⟩) ⟨s2,a2,n2,c2,rfl,i2,j2⟩).mono ?_⟩;rintro e w' ⟨cs,rfl,i,W⟩;exact⟨_,rfl,i,cs,rfl,W⟩
   case fin =>
    intro f g;rintro _ ⟨ai,aa,ah,ab,rfl,a6,a8⟩;rintro _ ⟨av,an,ar,ap,rfl,aj,al⟩;rintro _ ⟨aw,ao,au,aq,rfl,ak,am⟩;rintro _ ⟨_,rfl,s9,Q,n9,T,R,Z,U,rfl,O,X,Y⟩;change wpList _ _ _ _ _ _;simp only[CB];have y:=J.ext g;have ad:(As s9 Q n9 T false R Z U).toArray=#[.bool s9,.slice Q n9 T,.bool false,.slice R Z U]:=rfl
    go_wp2_with(refine Aa (vs:=As s9 Q n9 T false R Z U) rfl rfl rfl rfl rfl Ac y rfl (Aq _ _ _ _ _ _ _ _) ?_;intro w9 t B)
    exact fh (At rfl Ac rfl t) rfl (BJ (k.trans g) y (AM _ _ _ _ _ _ _ _) B (by omega) O X Y)
 · have N:Hid (q⁻¹=0):=qh (by rw[Pl.rat_num_den_zero.1 C];exact Pl.rat_inv_zero);rw[C];have a5:Int.sign 0=0:=rfl;rw[a5];clear C a5
   go_wp2_with(refine Aa (vs:=As false none 0 0 false none 0 0) rfl rfl rfl rfl rfl Ac J rfl (Aq _ _ _ _ _ _ _ _) ?_;intro w9 t B)
   refine fh (At rfl Ac rfl t) rfl ?_;rw[N.out];exact BJ k J (AM _ _ _ _ _ _ _ _) B (by omega) (qh rfl) (Wd.nil _) (Wd.nil _)
 · have N:=qh (Pl.rat_inv_pos C);rw[mE C];have z:q.num=((q.num.natAbs:Nat):Int):=by omega
   have a7:∀ (f:World),Ext w f->AQ f (.agg (Ae s a n c).toArray) ((q⁻¹).den:Int):=by
    intro f g;rw[N.out.2,<-z];exact ae f g
   clear C z;go_wp2;have a0:=fun(f:World) (g:Ext w1 f)=>qh (And.intro (g.cell r0) (And.intro (g.cell r1) (And.intro (g.cell r2) (g.cell r3))))
   refine Ad
    [he (.agg #[.bool s,.slice a n c,.bool false,.slice b m d]),hp (fun v f=>NI ((q.den:Int)) v f),hdP w.heap.size 0,he (.agg #[.bool s,.slice a n c]),hp (fun v f=>NR (q⁻¹) v f)]
    ⟨NI.x _,NR.x _,trivial⟩ ⟨?o0,?o1,?o2,?o3,?o4,trivial⟩ ?fin
   case o0=>exact ol4
   case o2=>exact ofa (d:=0)
   case o3=>exact ol2
   case o1 =>
    refine Ai rfl fun ρ f g j A h => ?_;have e1:_=_:=h.2.1;obtain⟨D,E,F,G⟩:=(a0 f g).out;refine⟨143,#[.agg #[.bool s,.slice a n c,.bool false,.slice b m d]],by go_simp,((a4 f (k.trans g)).out).mono ?_⟩;rintro e w' ⟨s',P,n',S,rfl,i,o,l⟩;exact⟨_,rfl,i,s',P,n',S,rfl,o,l⟩
   case o4 =>
    refine Ai rfl fun ρ f g j A h => ?_;obtain⟨v1,e1,s1,K,M,L,rfl,i1,j1⟩:=h.2.1;have e2:_=_:=h.2.2.1;obtain⟨D,E,F,G⟩:=(a0 f g).out;refine⟨97,#[.agg (Ae s1 K M L).toArray,.agg #[.bool s,.slice a n c]],by go_simp,(DU (q:=q⁻¹) (by rw[N.out.1];exact⟨s1,K,M,L,rfl,i1,j1⟩) (a7 f (k.trans g))).mono ?_⟩;rintro e w' ⟨cs,rfl,i,W⟩;exact⟨_,rfl,i,cs,rfl,W⟩
   case fin =>
    intro f g;rintro _ ⟨ai,aa,ah,ab,rfl,a6,a8⟩;rintro _ ⟨_,rfl,s9,Q,n9,T,R,Z,U,rfl,O,X,Y⟩;change wpList _ _ _ _ _ _;simp only[CB];have y:=J.ext g;have ad:(As s9 Q n9 T false R Z U).toArray=#[.bool s9,.slice Q n9 T,.bool false,.slice R Z U]:=rfl
    go_wp2_with(refine Aa (vs:=As s9 Q n9 T false R Z U) rfl rfl rfl rfl rfl Ac y rfl (Aq _ _ _ _ _ _ _ _) ?_;intro w9 t B)
    exact fh (At rfl Ac rfl t) rfl (BJ (k.trans g) y (AM _ _ _ _ _ _ _ _) B (by omega) O X Y)
theorem Es{k:Nat}:∀ (a:List (List Value)),(∀ r∈a,r.length=k)->∀ i j,j<k->a.flatten[i*k+j]?=(a[i]?).bind (·[j]?)
 | [],_,i,j,_=>by simp
 | r :: rest,h,0,j,hj=>by
  have hr:r.length=k:=h r (by simp);simp only[iE,fZ,jV,iW,jt];rw[fj (by omega)]
 | r :: rest,h,i+1,j,hj=>by
  have hr:r.length=k:=h r (by simp);have c:=Es rest (fun x b=>h x (by simp[b])) i j hj;simp only[jV,jA];have e:(i+1)*k+j=k+(i*k+j):=by rw[ip];omega
  rw[e,gd (by omega),hr,kN,c]
theorem Cm{k:Nat}:∀ (a:List (List Value)),(∀ r∈a,r.length=k)->a.flatten.length=a.length*k
 | [],_=>by simp
 | r :: rest,h=>by
  have hr:r.length=k:=h r (by simp);have c:=Cm rest (fun x b=>h x (by simp[b]));simp only[jV,fo,fP,c,hr,ip];omega
theorem OW{k:Nat}:∀ (a:List (List Value)),(∀ r∈a,r.length=k)->∀ i (vs:List Value),vs.length=k->i<a.length ->
 a.flatten.take (i*k) ++ vs ++ a.flatten.drop (i*k+k)=(a.set i vs).flatten
 | [],_,i,vs,_,hi=>by simp at hi
 | r :: rest,h,0,vs,hv,_=>by
  have hr:r.length=k:=h r (by simp);simp only[iE,jc,iM,fZ,jV,jO];rw[lM,hr,jo,gP,List.drop_eq_nil_of_le (by omega),iM]
 | r :: rest,h,i+1,vs,hv,hi=>by
  have hr:r.length=k:=h r (by simp);have f:=OW rest (fun x d=>h x (by simp[d])) i vs hv (by simpa using hi);have e:(i+1)*k=k+i*k:=by rw[ip];omega
  simp only[jV,jr,e];rw[List.take_append,lM,f9 (by omega),List.drop_eq_nil_of_le (by omega),iM,hr];have b:k+i*k-k=i*k:=by omega
  have c:k+i*k+k-k=i*k+k:=by omega
  rw[b,c,<-f];simp
theorem OX{a N:Nat}(c:vs.length=k)(h1:a+k<=N)(h2:N<=L.length):(L.take a ++ vs ++ L.drop (a+k)).take N=(L.take N).take a ++ vs ++ (L.take N).drop (a+k):=by
 have b:(L.take a ++ vs).length=a+k:=by simp[c];omega
 rw[lU,jf (by omega),List.drop_take,List.take_append,f9 (by omega),b]
theorem P0{a:Nat}(b:vs.length=k)(h:a+k<=L.length):(L.take a ++ vs ++ L.drop (a+k)).length=L.length:=by
 simp[b];omega
structure SlK(w:World)(k:Nat)(a:Option Addr)(n c:Nat)(rows:List (List Value)):Prop where
 len:rows.length=n
 cap:n<=c
 max:c<=maxLen
 wid:∀ r∈rows,r.length=k
 rd:0<n->∃ b off,a=some ⟨b,off,none⟩/\∀ i,i<n->∀ j,j<k->w.cell? ⟨b,off+i*k+j,none⟩=some ((rows.getD i []).getD j undef)
theorem SlK.ext(h:SlK w k a n c rows)(e:Ext w w'):SlK w' k a n c rows :=
 ⟨h.len,h.cap,h.max,h.wid,fun h0=>let ⟨b,off,ha,hc⟩:=h.rd h0;⟨b,off,ha,fun i d j f=>e.cell (hc i d j f)⟩⟩
theorem SlK.nil(w:World)(k:Nat):SlK w k none 0 0 []:=⟨rfl,lrf _,fu _,(fun _ h=>by cases h),fun h=>absurd h (by omega)⟩
theorem SlK.le(h:SlK w k a n c rows):n<=9223372036854775807:=by
 have h1:=h.cap;have h2:=h.max;unfold maxLen at h2;omega
theorem SlK.row(h:SlK w k a n c rows){i:Nat}(hi:i<n):(rows.getD i []).length=k:=by
 have b:i<rows.length:=by rw[h.len];exact hi
 refine h.wid _ ?_;rw[gqq,eZ b];simp
def AE(w:World)(base:Nat)(e:TypeId)(k:Nat)(a:Option Addr)(n c:Nat)(rows:List (List Value)):Prop:=(∀ r∈rows,r.length=k)/\w.ownsRow base e k (.slice a n c) n rows.flatten
section
variable {w w':World} {base:Nat} {e:TypeId} {k:Nat} {a:Option Addr} {n c:Nat} {rows:List (List Value)}
theorem AE.ext(h:AE w base e k a n c rows)(x:Ext w w'):AE w' base e k a n c rows:=⟨h.1,Nh h.2 x⟩
theorem AE.nil(w:World)(base:Nat)(e:TypeId)(k:Nat):AE w base e k none 0 0 []:=⟨(fun _ h=>by cases h),World.ownsRow_nil w base e k⟩
theorem AE.mono(h:AE w base e k a n c rows)(i:base'<=base):AE w base' e k a n c rows:=by
 obtain⟨h0,h1,h2⟩:=h;refine⟨h0,h1,?_⟩;rcases h2 with h2|⟨g,b,d,f,j,r⟩
 · exact Or.inl h2
 · exact Or.inr ⟨g,b,d,f,by omega,r⟩
theorem AE.kept{row:Option Nat}(h:AE w base e k a n c rows)(f:w.grownBy w' row)(d:blk a=none\/blk a≠row):AE w' base e k a n c rows:=by
 refine⟨h.1,World.ownsRow.kept h.2 f ?_⟩;cases a with
 | none=>left;rfl
 | some b=>right;rcases d with h | h
           · simp[blk]at h
           · simpa[blk,Value.ownBlock]using h
theorem AE.lt(h:AE w base e k a n c rows){g:Nat}(d:blk a=some g):base<=g/\g<w.heap.size:=by
 refine World.ownsRow.lt h.2 g ?_;cases a with
 | none=>simp[blk]at d
 | some b=>simpa[blk,Value.ownBlock]using d
theorem AE.place(h:AE w base e k a n c rows)(l:0<n):∃ g,a=some ⟨g,0,none⟩/\base<=g/\g<w.heap.size:=by
 rcases h.2.2 with⟨_,h0⟩|⟨g,d,f,b,i,j,_⟩
 · omega
 · simp only[fd]at b;refine⟨g,b.1,i,?_⟩;rcases fS g w.heap.size with h|h
   · exact h
   · simp[gQ h]at j
theorem AE.len(b:0<k)(h:AE w base e k a n c rows):rows.length=n:=by
 have h1:=h.2.1;rw[Cm rows h.1]at h1;exact ky b h1
theorem AE.slk(v:0<k)(h:AE w base e k a n c rows):SlK w k a n c rows:=by
 have q:=h.len v;obtain⟨h0,h1,h2⟩:=h;rcases h2 with⟨f,A⟩|⟨g,r,d,f,z,s,m,x,B,y⟩
 · simp only[fd]at f;obtain⟨rfl,rfl,rfl⟩:=f;have:rows=[]:=fk q;subst this;exact SlK.nil w k
 · simp only[fd,kf]at f;obtain⟨rfl,rfl⟩:=f;refine⟨q,m,x,h0,fun _=>⟨g,0,rfl,fun i t j p => ?_⟩⟩;have b:i<rows.length:=by omega
   have o:(rows[i]).length=k:=h0 _ (fE b);have h3:=Es rows h0 i j p;rw[eZ b,jt,<-y,List.getElem?_take]at h3;have l:i*k+j<n*k:=by
    have:(i+1)*k<=n*k:=fa k t;rw[ip]at this;omega
   rw[fG l]at h3;rw[fZ,lW w g _ d e (0,0) s];have h4:d[i*k+j]?=(rows[i])[j]?:=by rw[<-h3];simp
   rw[h4,eZ (by omega)];simp[b,o,p]
end
section
variable {P:Program} {w:World}
theorem VO{b a i:Nat}(s:Agg P ty k)(h:SlK w k (some ⟨b,a,none⟩) n c rows)(hi:i<n) :
 (Instr.loadAt ty (.pointer (some ⟨b,a+i*k,none⟩))).run P w = .ok (.agg (rows.getD i []).toArray) w:=by
 obtain⟨d,hu,A,f⟩:=s.parts;obtain⟨z,r,e,t⟩:=h.rd (by omega);simp only[fc,gz,ij]at e;obtain⟨rfl,rfl⟩:=e;have o:=h.row hi;have q:(loadCells ⟨b,a+i*k,none⟩ (rows.getD i []).length).run P w = .ok (rows.getD i []).toArray w:=by
  refine run_loadCells_list (P:=P) w _ (rows.getD i []) (fun j v p => ?_);have x:j<k:=by
   rcases fS j k with h|h
   · exact h
   · rw[fH (by omega)]at p;cases p
  have g:(⟨b,a+i*k,none⟩:Addr).add j=⟨b,a+i*k+j,none⟩:=by unfold Addr.add;split <;> simp_all
  rw[g,t i hi j x,gqq,p];rfl
 rw[o]at q;cases m:P.info? ty with
 | none=>simp[m]at f
 | some inf =>
  have y:inf.size=k:=by simpa[m]using f
  have l:(isAgg ty).run P w = .ok true w:=by
   cases d <;> simp_all [isAgg,fT hu]
  simp[Instr.loadAt,Instr.sureAddr,loadVar,l,Go.sizeOf,typeInfo,m,y,q]
theorem Dz{x:Operand}(e:o.guard=none)(l:o.op = .load ty x)
 {k:Nat} {b a n c i:Nat} {rows:List (List Value)} (j:Agg P ty k) (m:f.eval x = .pointer (some ⟨b,a+i*k,none⟩)) (h:SlK w k (some ⟨b,a,none⟩) n c rows) (hi:i<n)
 (g:wpList P ops Q rest (f.put o.dst (.agg (rows.getD i []).toArray)) w):wpList P ops Q (o :: rest) f w:=by
 refine gI e fun K d => ?_;unfold Oper.wp execOp;simp only[l,m,fC,VO j h hi,fe,fQ,Oper.upon];exact d _ _ g
theorem VP{ty:TypeId}{k base:Nat}{e:TypeId}{g n c i:Nat}{rows:List (List Value)}{vs:List Value}(G:0<k)(C:Agg P ty k)(h:AE w base e k (some ⟨g,0,none⟩) n c rows)(hi:i<n)(j:vs.length=k)(h1:∀ v∈vs,v.oneCell'=true) :
 ∃ z,(Instr.storeAt ty (.pointer (some ⟨g,i*k,none⟩)) (.agg vs.toArray)).run P w = .ok () z/\AE z base e k (some ⟨g,0,none⟩) n c (rows.set i vs)/\w.grownBy z (some g):=by
 obtain⟨d,hu,K,f⟩:=C.parts;have o:=h.len G;obtain⟨h0,F,h2⟩:=h;rcases h2 with⟨t,_⟩|⟨J,B,b,t,D,A,p,H,q,I⟩
 · simp at t
 simp only[fd,fc,gz,ij,kf]at t;obtain⟨rfl,rfl⟩:=t;have x:i*k+k<=n*k:=by
  have:(i+1)*k<=n*k:=fa k hi;rw[ip]at this;omega
 have E:n*k<=c*k:=fa k p;have l:=run_storeCells_at (P:=P) g (i*k) e vs 0 b w A (by rw[j];omega) h1;rw[gE,j]at l;refine⟨w.setRow g (b.toList.take (i*k) ++ vs ++ b.toList.drop (i*k+k)).toArray,?_,⟨?_,?_⟩,BH w g _⟩
 · cases y:P.info? ty with
   | none=>simp[y]at f
   | some inf =>
    have q:inf.size=k:=by simpa[y]using f
    simp[Instr.storeAt,Instr.sureAddr,storeVar,Go.sizeOf,typeInfo,y,Value.cells,q,j,l]
 · intro r m;rcases j7 m with m|rfl
   · exact h0 r m
   · exact j
 · have s:=OW rows h0 i vs j (by omega);refine⟨by rw[Cm _ (fun r m=>by rcases j7 m with m | rfl;exact h0 r m;exact j)];simp[o],Or.inr ⟨g,c,(b.toList.take (i*k) ++ vs ++ b.toList.drop (i*k+k)).toArray,rfl,D,by simp[World.setRow,iA,A],p,H,?_,?_⟩⟩
   · have:=P0 (L:=b.toList) (a:=i*k) j (by simp[q];omega);simpa[q]using this
   · rw[<-s,<-I];exact OX j x (by simp[q];omega)
theorem Xa{x:Operand}(j:o.guard=none)(s:o.op = .store ty x y)
 {k base:Nat} {e:TypeId} {g n c i:Nat} {rows:List (List Value)} {vs:List Value} {va:Array Value} (q:0<k) (p:Agg P ty k) (t:f.eval x = .pointer (some ⟨g,i*k,none⟩)) (z:f.eval y = .agg va) (l:va=vs.toArray)
 (h:AE w base e k (some ⟨g,0,none⟩) n c rows) (hi:i<n) (r:vs.length=k) (h1:∀ v∈vs,v.oneCell'=true)
 (m:∀ b,AE b base e k (some ⟨g,0,none⟩) n c (rows.set i vs)->w.grownBy b (some g)->wpList P ops Q rest (f.put o.dst undef) b):wpList P ops Q (o :: rest) f w:=by
 subst l;obtain⟨b,a,h2,h3⟩:=VP q p h hi r h1;refine gI j fun K d => ?_;unfold Oper.wp execOp;simp only[s,t,z,fC,a,fe,fQ,Oper.upon];exact d _ _ (m _ h2 h3)
def Cq(P:Program)(e:TypeId)(zs:List Value)(k bytes:Nat):Prop :=
 (P.info? e).map (fun i=>(i.zero,i.size,i.bytes))=some (some (.agg zs.toArray),k,bytes)/\zs.length=k/\0<k
theorem Cq.parts{P:Program}{e:TypeId}(h:Cq P e zs k bytes):∃ i,P.info? e=some i/\i.zero=some (.agg zs.toArray)/\i.size=k/\i.bytes=bytes:=by
 obtain⟨h,_,_⟩:=h;cases a:P.info? e with
 | none=>rw[a]at h;cases h
 | some i =>
  rw[a]at h;simp only[ic,fc,jk]at h;exact⟨i,rfl,h.1,h.2.1,h.2.2⟩
theorem K1{e:TypeId}{base:Nat} 
 (U:P.underlying t=some (.slice e)) (f:Cq P e zs k bytes) (v:AE w base e k a n c rows) (d:SlK w k (some ad) m cx news)
 (h1:∀ r∈news,∀ u∈r,u.oneCell'=true) (h63:n+m<=maxLen) (p:(n+m)*bytes<=140737488355328) (y:base<=w.heap.size) :
 ∃ E N A,(Builtin.append_ #[t,t] ty #[.slice a n c,.slice (some ad) m cx]).run P w = .ok (.slice E (n+m) N) A/\AE A base e k E (n+m) N (rows ++ news) /\
  w.grownBy A (blk a)/\(blk E=blk a\/blk E=some w.heap.size):=by
 obtain⟨i,T,V,z,G⟩:=f.parts;have I:=f.2.2;have M:(Value.agg zs.toArray).cells.size=k:=by simp[Value.cells,f.2.1]
 have s:(Value.slice a n c).ownBlock=blk a:=by cases a <;> rfl
 have q:∀ j u,news.flatten[j]?=some u->w.cell? (ad.add j)=some u:=by
  intro j u hu;have H:j<news.flatten.length:=by
   rcases fS j news.flatten.length with h|h
   · exact h
   · simp[fH h]at hu
  rw[Cm news d.wid,d.len]at H;have J:0<m:=by rcases fF m with h | h;(rw[h,iE]at H;omega);exact h
  obtain⟨b,o,h,S⟩:=d.rd J;injection h with h;subst h;have B:j/k<m:=(ie I).2 H;have D:j%k<k:=gx _ I;have C:j=j/k*k+j%k:=by rw[fJ];exact(gM j k).symm
  have h2:=S (j/k) B (j%k) D;have h3:=Es news d.wid (j/k) (j%k) D;rw[<-C,hu]at h3;have O:j/k<news.length:=by rw[d.len];exact B
  rw[eZ O,jt]at h3;have h4:(news.getD (j/k) []).getD (j%k) undef=u:=by
   rw[gqq (l:=news),eZ O,fW,gqq,<-h3];rfl
  rw[h4,iU,<-C]at h2;rw[<-h2];unfold Addr.add;by_cases h0:j=0 <;> simp[h0]
 obtain⟨W,A,x,h2,h3,_,h5⟩:=run_append_own_at (P:=P) w base t ty e i (.agg zs.toArray) k bytes U T V z G M I (.slice a n c) n rows.flatten v.2 ad m cx news.flatten (by rw[Cm news d.wid,d.len]) q (by intro u hu;obtain⟨r,K,hu⟩:=kc.1 hu;exact h1 r K u hu) h63 p y;rw[<-List.flatten_append]at h2;have Q:∀ r∈rows ++ news,r.length=k:=fun r K=>(fL.1 K).elim (v.1 r) (d.wid r);rcases h2.2 with⟨L,h0⟩|⟨g,F,R,L,_⟩
 · subst L;refine⟨none,0,A,by rw[x,h0],⟨Q,?_⟩,by rw[<-s];exact h3,by rw[<-s];exact h5⟩;rw[h0]at h2 |-;exact h2
 · subst L;exact⟨_,F,A,x,⟨Q,h2⟩,by rw[<-s];exact h3,by rw[<-s];exact h5⟩
theorem Nd{s x:Operand}(v:o.guard=none)
 (C:o.op = .call { callee := .builtin .append,args:=#[s,x],argTypes:=#[t,t] })
 {e:TypeId} {zs:List Value} {k bytes base:Nat} {a:Option Addr} {n c:Nat} {rows:List (List Value)} {z:Addr} {m A:Nat} {news:List (List Value)}
 (E:P.underlying t=some (.slice e)) (g:Cq P e zs k bytes) (D:f.eval s = .slice a n c) (j:AE w base e k a n c rows) (F:f.eval x = .slice (some z) m A) (y:SlK w k (some z) m A news)
 (h1:∀ r∈news,∀ u∈r,u.oneCell'=true) (h63:n+m<=maxLen) (b:(n+m)*bytes<=140737488355328) (d:base<=w.heap.size)
 (h:∀ i q p,AE p base e k i (n+m) q (rows ++ news)->w.grownBy p (blk a)->(blk i=blk a\/blk i=some w.heap.size)->wpList P ops Q rest (f.put o.dst (.slice i (n+m) q)) p) :
 wpList P ops Q (o :: rest) f w:=by
 refine gI v fun _ B => ?_;obtain⟨i,q,p,l,h2,h3,h4⟩:=K1 (P:=P) (ty:=o.type) E g j y h1 h63 b d;unfold Oper.wp execOp;simp only[C,resolve,invoke,builtin,fC,fQ,fe,iP,gD,iF,D,F,l];exact B _ _ (h i q p h2 h3 h4)
theorem Me(f:zs.length=k)(e:0<k):(madeCells zs.toArray (n*k)).toList=(List.replicate n zs).flatten:=by
 have g:∀ r∈List.replicate n zs,r.length=k:=fun r i=>by rw[(gR.1 i).2];exact f
 refine iw fun j => ?_;by_cases d:j<n*k
 · have c:j=j/k*k+j%k:=by rw[fJ];exact(gM j k).symm
   have b:j/k<n:=(ie e).2 d;have a:j%k<k:=gx _ e;have h3:=Es (List.replicate n zs) g (j/k) (j%k) a;rw[<-c]at h3;rw[h3];simp[madeCells,d,f,b,a]
 · have h1:(madeCells zs.toArray (n*k)).toList.length<=j:=by simp[size_madeCells];omega
   have h2:(List.replicate n zs).flatten.length<=j:=by rw[Cm _ g];simp;omega
   rw[fH h1,fH h2]
theorem P3{l c:Operand}(x:o.guard=none)(p:o.op=Op.makeSlice t l c)
 {e:TypeId} {zs:List Value} {k bytes n:Nat} (B:P.underlying t=some (.slice e)) (a:Cq P e zs k bytes) (z:f.eval l = .int .i64 n) (v:f.eval c = .int .i64 n)
 (s:bytes*n<=281474976710656) (h63:n<=maxLen)
 (q:∀ g,AE g w.heap.size e k (some ⟨w.heap.size,0,none⟩) n n (List.replicate n zs)->Ext w g->wpList P ops Q rest (f.put o.dst (.slice (some ⟨w.heap.size,0,none⟩) n n)) g) :
 wpList P ops Q (o :: rest) f w:=by
 refine gI x fun K j => ?_;obtain⟨i,y,C,b,m⟩:=a.parts;obtain⟨g,d,h2,h3⟩:=run_make_full (P:=P) w w.heap.size t e i (.agg zs.toArray) k B y C b .i64 .i64 n (by rw[m];exact s) h63 (lrf _);have h4:(Value.agg zs.toArray).cells=zs.toArray:=rfl;rw[h4,Me a.2.1 a.2.2]at h2;unfold Oper.wp execOp;simp only[p,fC,fQ,fe,z,v,d,Oper.upon];exact j _ _ (q g ⟨fun r A=>by rw[(gR.1 A).2];exact a.2.1,h2⟩ ((Ext.refl w).grown h3 (by simp)))
end
theorem Nf{a:Nat}(b:0<a)(c:0<d):0<a*(d/Nat.gcd a d) :=
 jj b (Nat.div_pos (kL c (jb _ _)) (mD _ b))
def Id(l:List Rat):Nat:=l.foldl (fun a q=>a*(q.den/Nat.gcd a q.den)) 1
theorem OY(l:List Rat):0<Id l:=by
 have:∀ (l:List Rat) (a:Nat),0<a->0<l.foldl (fun a q=>a*(q.den/Nat.gcd a q.den)) a:=by
  intro l
  induction l with
  | nil=>intro a h;exact h
  | cons q r ih=>intro a h;exact ih _ (Nf h (jM q.den_nz))
 exact this l 1 (by omega)
theorem AX:Agg prog 135 10:=⟨by kernel_rfl,by kernel_rfl⟩
def Ar(e:List Int)(s:Bool)(a:Option Addr)(n c:Nat)(b:Option Addr)(m d:Nat):List Value:=e.map (Value.int .i64) ++ As s a n c false b m d
theorem Df:Cq prog 135 (Ar [0,0,0,0,0,0] false none 0 0 none 0 0) 10 112:=⟨by kernel_rfl,rfl,by omega⟩
def Cn(w:World)(row:List Value)(t:Pl.Tm):Prop:=∃ s a n c b m d,row=Ar t.1 s a n c b m d/\t.1.length=6/\GH w (As s a n c false b m d) t.2
theorem Cn.ext{w f:World}{row:List Value}{t:Pl.Tm}(h:Cn w row t)(e:Ext w f):Cn f row t:=by
 obtain⟨s,a,n,c,b,m,d,h1,h2,h3⟩:=h;exact⟨s,a,n,c,b,m,d,h1,h2,h3.ext e⟩
def CV(w:World)(a:Option Addr)(n c:Nat)(l:List Pl.Tm):Prop:=∃ rows,SlK w 10 a n c rows/\l.length=n/\∀ i,i<n->Cn w (rows.getD i []) (l.getD i ([],0))
theorem CV.ext{w d:World}{a:Option Addr}{n c:Nat}{l:List Pl.Tm}(h:CV w a n c l)(e:Ext w d):CV d a n c l:=by
 obtain⟨b,h1,h2,h3⟩:=h;exact⟨b,h1.ext e,h2,fun i f=>(h3 i f).ext e⟩
theorem BO :∀ v∈Ar e s a n c b m d,v.oneCell'=true:=by
 intro v f;rcases fL.1 f with f|f
 · obtain⟨x,_,rfl⟩:=fy.1 f;rfl
 · exact Aq _ _ _ _ _ _ _ _ v f
theorem FE(h:e.length=6):∃ a b c d f g,e=[a,b,c,d,f,g]:=by
 match e,h with
 | [a,b,c,d,f,g],_=>exact⟨a,b,c,d,f,g,rfl⟩
def Ng(c:UInt8):Bool:=decide (48<=c.toNat) && decide (c.toNat<=57)
theorem K2{c:UInt8}:Ng c=true<->W.isDig c:=by simp[Ng,W.isDig]
def pre(l:List UInt8):List UInt8:=l.takeWhile Ng
def suf(l:List UInt8):List UInt8:=l.dropWhile Ng
theorem FY(l:List UInt8):pre l ++ suf l=l:=List.takeWhile_append_dropWhile
theorem K3(l:List UInt8):W.digs (pre l):=fun c a=>by
 induction l with
 | nil=>simp[pre]at a
 | cons x r ih =>
  unfold pre at a ih;rw[List.takeWhile_cons]at a;split at a
  · rename_i h;rcases fV.1 a with rfl|a
    · exact K2.1 h
    · exact ih a
  · simp at a
theorem QW{d:List UInt8}(a:W.digs d)(e:∀ c,r.head?=some c->¬ W.isDig c):pre (d ++ r)=d/\suf (d ++ r)=r:=by
 induction d with
 | nil =>
  cases r with
  | nil=>exact⟨rfl,rfl⟩
  | cons c t =>
   have:Ng c=false:=by
    cases h:Ng c with
    | false=>rfl
    | true=>exact absurd (K2.1 h) (e c rfl)
   simp[pre,suf,this]
 | cons x t ih =>
  have f:Ng x=true:=K2.2 (a x (by simp));have:=ih (fun c b=>a c (by simp[b]));unfold pre suf at *
  simp[f,this]
def CG(l:List UInt8):(Bool×List UInt8×List UInt8)×Bool :=
 let neg:Bool:=decide (l.head?=some 45)
 let r1:=if neg=true then l.tail else l
 let num:=pre r1
 let r2:=suf r1
 if num=[48]then((neg,num,[]),!neg && decide (r2=[]))
 else if num=[]\/num.head?=some 48 then((neg,num,[]),false)
 else if r2=[]then((neg,num,[]),true)
 else if r2.head?≠some 47 then((neg,num,[]),false)
 else((neg,num,pre r2.tail),decide (suf r2.tail=[]) && decide (pre r2.tail≠[]) && decide ((pre r2.tail).head?≠some 48) && decide (pre r2.tail≠[49]))
structure Spl(l:List UInt8)(neg:Bool)(num den:List UInt8):Prop where
 eq:l=(if neg=true then [45]else []) ++ (num ++ (if den=[]then []else 47 :: den))
 dn:W.digs num
 dd:W.digs den
 ne:num≠[]
 z:num.head?=some 48->num=[48]/\neg=false/\den=[]
 nd:den.head?≠some 48
 n1:den≠[49]
theorem XP:¬ W.isDig 45:=by simp[W.isDig]
theorem XQ:¬ W.isDig 47:=by simp[W.isDig]
theorem Spl.split{l f a:List UInt8}{neg:Bool}(h:Spl l neg f a):CG l=((neg,f,a),true):=by
 obtain⟨rfl,h1,h2,h3,h4,h5,h6⟩:=h;obtain⟨c,t,rfl⟩:=iY h3;have q:c≠45:=by rintro rfl;exact XP (h1 45 (by simp))
 have e:decide (((if neg=true then [45]else []) ++ ((c :: t) ++ (if a=[]then []else 47 :: a))).head?=some 45)=neg:=by
  cases neg <;> simp[q]
 have k:(if neg=true then((if neg=true then [45]else []) ++ ((c :: t) ++ (if a=[]then []else 47 :: a))).tail else(if neg=true then [45]else []) ++ ((c :: t) ++ (if a=[]then []else 47 :: a)))=(c :: t) ++ (if a=[]then []else 47 :: a):=by
  cases neg <;> simp
 have hp:=QW (d:=c :: t) (r:=if a=[]then []else 47 :: a) h1 (by
  intro x g;split at g
  · simp at g
  · simp only[List.head?_cons,fc]at g
    subst g;exact XQ)
 unfold CG;simp only[e,k,hp.1,hp.2];by_cases m:c=48
 · subst m;obtain⟨n,o,p⟩:=h4 rfl;subst o p;rw[fG n];simp
 · have j:¬ (c :: t=[48]):=by intro h;simp at h;exact m h.1
   rw[fl j,fl (by simp[m])];by_cases i:a=[]
   · subst i;simp
   · simp only[fl i];rw[fl (by simp),fl (by simp)];have b:=QW (d:=a) (r:=[]) h2 (by simp);rw[iO]at b;simp only[lV,b.1,b.2];simp[i,h5,h6]
theorem FZ(h:CG l=((neg,num,den),true)):Spl l neg num den:=by
 unfold CG at h;simp only at h;generalize b:decide (l.head?=some 45)=k at h;generalize a:(if k=true then l.tail else l)=i at h;have j:l=(if k=true then [45]else []) ++ i:=by
  cases k with
  | true =>
   simp only[gV]at b;simp only[ke]at a |-;cases l with
   | nil=>simp at b
   | cons c t=>simp at b a;rw[b,a];rfl
  | false=>simp at a |-; exact a
 have f:=FY i;have e:=K3 i;generalize pre i=n at *
 generalize suf i=m at *
 split at h
 · rename_i h0;simp only[jk,gY,mN,gV]at h;obtain⟨⟨rfl,rfl,rfl⟩,rfl,rfl⟩:=h;subst h0;exact⟨by rw[j,<-f];simp,e,by simp[W.digs],by simp,fun _=>⟨rfl,rfl,rfl⟩,by simp,by simp⟩
 · split at h
   · simp at h
   · rename_i h0 h1;simp only[not_or]at h1;split at h
     · rename_i h2;simp only[jk,ij]at h;obtain⟨rfl,rfl,rfl⟩:=h;subst h2;exact⟨by rw[j,<-f];simp,e,by simp[W.digs],h1.1,fun h=>absurd h h1.2,by simp,by simp⟩
     · split at h
       · simp at h
       · rename_i h2 h3;have g:m.head?=some 47:=fR h3;obtain⟨c,t,rfl⟩:=iY h2;simp only[List.head?_cons,fc]at g;subst g;simp only[lV,jk,gY]at h;obtain⟨⟨rfl,rfl,rfl⟩,⟨⟨h4,h5⟩,h6⟩,h7⟩:=h;have h4:=gX h4;have h5:=gX h5;have h6:=gX h6;have h7:=gX h7;have d:=FY t;rw[h4,iO]at d;refine⟨?_,e,K3 t,h1.1,fun h=>absurd h h1.2,h6,h7⟩;rw[j,<-f,fl h5,d]
theorem QX(z:Int):Lib.itoa z=(if z<0 then [45]else []) ++ Lib.decDigits z.natAbs:=by
 unfold Lib.itoa;split
 · rfl
 · rw[show z.toNat=z.natAbs by omega];rfl
theorem QY(h:(Lib.decDigits n).head?=some 48):n=0:=by
 rcases fF n with h0|h0
 · exact h0
 · obtain⟨c,r,e,a⟩:=W.dec_head h0;rw[e]at h;simp at h;exact absurd h a
def Bn(l:List UInt8):Option Rat :=
 let p:=CG l
 if p.2=true then
  let n:Int:=if p.1.1=true then -(W.decV p.1.2.1:Int)else W.decV p.1.2.1
  if p.1.2.2=[]then some (mkRat n 1)else if n.natAbs.gcd (W.decV p.1.2.2)=1 then some (mkRat n (W.decV p.1.2.2))else none
 else none
theorem VQ(q:Rat):Spl (txt q) (decide (q.num<0)) (Lib.decDigits q.num.natAbs) (if q.den=1 then []else Lib.decDigits q.den):=by
 have a:=q.den_nz;refine⟨?_,W.digs_dec _,?_,W.dec_ne _,?_,?_,?_⟩
 · unfold txt;rw[QX];by_cases h:q.den=1
   · simp[h]
   · simp[h,W.dec_ne]
 · split
   · simp[W.digs]
   · exact W.digs_dec _
 · intro h;have h0:=QY h;have b:q.num=0:=by omega
   have c:=Pl.rat_num_den_zero.1 b;refine⟨by rw[h0,W.dec_zero],by simp[b],?_⟩;subst c;rfl
 · split
   · simp
   · intro h;exact a (QY h)
 · split
   · simp
   · rename_i h1;intro h;have:=fM W.decV h;rw[W.decV_dec]at this;exact h1 (by rw[this];rfl)
theorem A6(q:Rat):Bn (txt q)=some q:=by
 have h:=(VQ q).split;unfold Bn;simp only[h,ke];have a:(if decide (q.num<0)=true then -((W.decV (Lib.decDigits q.num.natAbs):Nat):Int)else((W.decV (Lib.decDigits q.num.natAbs):Nat):Int))=q.num:=by
  rw[W.decV_dec];by_cases h:q.num<0
  · simp only[h,kQ,ke];omega
  · simp only[h,ll];simp;omega
 rw[a];by_cases h1:q.den=1
 · simp only[h1,ke];have:=mw q;rw[h1]at this;rw[this]
 · simp only[fl h1,fl (W.dec_ne _),W.decV_dec];rw[fG q.reduced,mw]
theorem Ie(h:Bn l=some q):l=txt q:=by
 unfold Bn at h;generalize hp:CG l=p at h;obtain⟨⟨j,a,b⟩,y⟩:=p;simp only at h;cases y with
 | false=>simp at h
 | true =>
  have i:=FZ hp;simp only[ke]at h;generalize w:(if j=true then -((W.decV a:Nat):Int)else((W.decV a:Nat):Int))=n at h
  have g:Lib.decDigits (W.decV a)=a:=W.dec_of_digs i.dn i.ne (fun c r e s=>by
   have:=(i.z (by rw[e,s];rfl)).1;rw[e]at this;simp at this
   exact this.2)
  have k:n.natAbs=W.decV a:=by rw[<-w];split <;> omega
  have v:n<0<->j=true:=by
   rw[<-w];cases j with
   | false=>simp
   | true =>
    simp only[ke,iff_true];have h0:W.decV a≠0:=by
     intro h0;rw[h0,W.dec_zero]at g;have:=(i.z (by rw[<-g];rfl)).2.1;simp at this
    omega
  have o:Lib.itoa n=(if j=true then [45]else []) ++ a:=by
   rw[QX,k,g];simp only[v]
  by_cases m:b=[]
  · rw[fG m]at h;simp only[fc]at h;have:=Pl.rat_eq_mk (q:=q) (n:=n) (d:=1) (by omega) (jC _) h.symm;rw[i.eq,txt,this.1,this.2,o,m];simp
  · rw[fl m]at h;split at h
    · rename_i x;simp only[fc]at h
      have f:Lib.decDigits (W.decV b)=b:=W.dec_of_digs i.dd m (fun c r e s=>by
       have:=i.nd;rw[e,s]at this
       simp at this)
      have hd0:W.decV b≠0:=by
       intro h0;rw[h0,W.dec_zero]at f;have:=i.nd;rw[<-f]at this;simp at this
      have t:W.decV b≠1:=by
       intro h0;rw[h0]at f;have:=i.n1;rw[<-f]at this;exact this (by rw[Lib.decDigits];rfl)
      have:=Pl.rat_eq_mk (q:=q) (n:=n) (d:=W.decV b) hd0 x h.symm;rw[i.eq,txt,this.1,this.2,o,fl m,fl t,f];simp
    · simp at h
end Go.Proofs.YthdbingomfdeoaaGreatDoor
