/- Part Pa8. -/
import Derived.Test.YthdbingomfdeoaaGreatDoorPa7
import Derived.Deep.CutBlock
import Derived.Deep.LoopGhost
set_option linter.all false
set_option maxRecDepth 100000
set_option maxHeartbeats 100000000
namespace Go.Proofs.YthdbingomfdeoaaGreatDoor
open Tryz Go Go.RowKit
def jw:=@List.cons.injEq
def ko:=@Nat.div_one
variable {s:ByteArray} {y y0 z z0:Int} {rows:List (List Value)} {ps:List Nat} {d l r:List UInt8} {cs xs ys zs:List Value} {N T b0 base base' bytes c g k n x:Nat} {a a':Option Addr} {row:Option Nat} {P:Program} {p q:Rat} {e e' t:TypeId} {v v':Value} {w w':World}
def FrS(w:World)(Z Y:Int)(wx:World):Prop:=∃ s a n c b m d,Ext w wx/\Arr wx w.heap.size 107 (Aj s a n c)/\Arr wx (w.heap.size+1) 107 (Aj false b m d)/\Arr wx (w.heap.size+2) 109 (Ar false none 0 0 false none 0 0)/\w.heap.size+2<wx.heap.size/\Hid (decide (Z<0)=s)/\Mg wx a n c Z.natAbs/\Mg wx b m d Y.natAbs
theorem Pc(h:ZR w v z0)(h':ZR w v' y0)(b9:z0.natAbs<P2 3200000)(b8:y0.natAbs<P2 3200000)(aF:y0≠0){q:Rat}(bl:q=mkRat (y0.sign*z0) y0.natAbs):Calls prog 123 #[v,v'] w (LA w q):=by
 obtain⟨z,hz⟩:∃ z,y0.sign*z0=z:=⟨_,rfl⟩;obtain⟨y,hy⟩:∃ y:Int,(y0.natAbs:Int)=y:=⟨_,rfl⟩;have aQ:y.natAbs=y0.natAbs:=by rw[<-hy];rfl
 have bt:z.natAbs=z0.natAbs:=by rw[<-hz,iD,Int.natAbs_sign_of_ne_zero aF,ii]
 have hq:q=mkRat z y.natAbs:=by rw[bl,hz,aQ]
 have bz:z.natAbs<P2 3200000:=by rw[bt];exact b9
 have aH:y.natAbs<P2 3200000:=by rw[aQ];exact b8
 have bQ:0<y:=by omega
 have b2:0<y0->z0=z/\y0=y:=fun hp=>⟨by rw[<-hz,jT hp,Int.one_mul],by omega⟩;have aY:y0<0 -> -z0=z /\ -y0=y:=fun hp=>⟨by rw[<-hz,lO hp,Int.neg_one_mul],by omega⟩;clear hz hy bl;have bi:y.natAbs≠0:=by omega
 have c6:0<Int.gcd z y:=Nat.gcd_pos_of_pos_right _ (by omega);have HP:=qh (Pl.rat_frac (n:=z) bi);rw[<-hq]at HP;have bN:(Int.gcd z y)<=y.natAbs:=Nat.gcd_le_right _ (by omega);have Z:z.tdiv ((Int.gcd z y:Nat):Int)=q.num:=HP.out.1.symm;have e2:y.tdiv ((Int.gcd z y:Nat):Int)=(q.den:Int):=by
  rw[HP.out.2];have W:y=(y.natAbs:Int):=by omega
  rw[W,fJ];rfl
 have I:(q.den:Int).natAbs<P2 3200000:=by
  have:=HP.out.2;have h2:=gh y.natAbs (Nat.gcd z.natAbs y.natAbs);omega
 have aA:=qh (fun(i:World) (u u':Value) (g1:ZR i u z) (g2:ZR i u' y)=>Ti g1 g2 bz aH);have U:=qh (fun(i:World) (vg:Value) (hg:ZR i vg (Int.gcd z y:Nat))=>Jd hg (by rw[fJ];omega));have K:=qh (fun(i:World) (u vg:Value) (g1:ZR i u z) (hg:ZR i vg (Int.gcd z y:Nat))=>Jc g1 hg bz (by omega));have L:=qh (fun(i:World) (u vg:Value) (g1:ZR i u y) (hg:ZR i vg (Int.gcd z y:Nat))=>Jc g1 hg aH (by omega));rw[Z]at K;rw[e2]at L;have E1:=qh Z;have E2:=qh e2;have BD:=qh I;have aX:Int.gcd z y=1->z=q.num/\y=(q.den:Int):=by
  intro h1;rw[h1]at Z e2;simp at Z e2;exact⟨Z,e2⟩
 have HK:=qh aX;have a4:Hid (decide (y<0)=false):=qh (fw (by omega));clear Z e2 I aX HP hq bi bN E1 E2 bz aH bQ b9 b8 aQ bt;generalize Int.gcd z y=g at *
 have H1:=h;have H2:=h';obtain⟨s0,a0,n0,c0,rfl,b6,bo⟩:=h;obtain⟨t0,b0,m0,d0,rfl,b7,W⟩:=h';have aZ:=qh (fun(i:World) (x:Ext w i)=>O8 (H1.ext x));have b1:=qh (fun(i:World) (x:Ext w i)=>O8 (H2.ext x));have bA:=qh b2;have bx:=qh aY;have bB:=qh aF;clear H1 H2 b2 aY aF
 go_enter func123,ntmps123
 go_upto_region 1 with(fail)
 refine Ln ?_;intro w0 H ak al ba bs;have X:=ak.c 0 rfl;have Y:=ak.c 1 rfl;have M:=al.c 0 rfl;have N:=al.c 1 rfl;have hR:Arr w0 (w.heap.size+2) 109 (Ar false none 0 0 false none 0 0):=ba;have C:Arr w0 w.heap.size 107 (Aj s0 a0 n0 c0):=ak;have A:Arr w0 (w.heap.size+1) 107 (Aj t0 b0 m0 d0):=al;have an:w.heap.size+2<w0.heap.size:=by rw[bs];omega
 clear bs ak al ba
 go_upto_if 7 with(fail)
 go_cut [] from 8 to 36 (fun i=>FrS w z y i)
 case first =>
  clear HK a4 aA U K L BD;cases t0 with
  | false =>
   go_wp2_with fail
   go_meet
   obtain⟨Z,e2⟩:=bA.out (by have h1:=b7.out;have h2:=bB.out;simp at h1;omega);rw[Z]at b6 bo;rw[e2]at W;exact⟨s0,a0,n0,c0,b0,m0,d0,H,C,A,hR,an,b6,bo.ext H,W.ext H⟩
  | true =>
   go_upto_region 2 with(fail)
   have b5:=fun(i:World) (x:Ext w0 i)=>qh (And.intro (x.cell X) (And.intro (x.cell Y) (And.intro (x.cell M) (x.cell N))))
   refine Ac
    [he (.agg #[.bool s0,.slice a0 n0 c0]),hp (fun v i=>ZR i v (-z0)),he (.agg #[.bool true,.slice b0 m0 d0]),hp (fun v i=>ZR i v (-y0))]
    ⟨fun v w w' e h=>ZR.ext h e,fun v w w' e h=>ZR.ext h e,trivial⟩ ⟨?o0,?o1,?o2,?o3,trivial⟩ ?fin
   case o0 | o2=>exact ol2
   case o1 =>
    refine Ah rfl fun ρ i x bC bM h => ?_;have Z:_=_:=h.2.1;obtain⟨bV,bW,bX,bY⟩:=(b5 i x).out;refine⟨158,#[.agg #[.bool s0,.slice a0 n0 c0]],by go_simp,(aZ.out i (H.trans x)).mono ?_⟩;rintro e w' ⟨s',a',n',c',rfl,aJ,aM,aL⟩;exact⟨_,rfl,aJ,s',a',n',c',rfl,aM,aL⟩
   case o3 =>
    refine Ah rfl fun ρ i x bC bM h => ?_;have Z:_=_:=h.2.1;obtain⟨bV,bW,bX,bY⟩:=(b5 i x).out;refine⟨158,#[.agg #[.bool true,.slice b0 m0 d0]],by go_simp,(b1.out i (H.trans x)).mono ?_⟩;rintro e w' ⟨s',a',n',c',rfl,aJ,aM,aL⟩;exact⟨_,rfl,aJ,s',a',n',c',rfl,aM,aL⟩
   case fin =>
    intro i x;rintro _ ⟨au,af,aq,ai,rfl,aU,aB⟩;rintro _ ⟨aT,ah,ar,aj,rfl,aV,aC⟩;change wpList _ _ _ _ _ _;simp only[Bs];have c4:(Aj au af aq ai).toArray=#[.bool au,.slice af aq ai]:=rfl;have c5:(Aj aT ah ar aj).toArray=#[.bool aT,.slice ah ar aj]:=rfl;have N1:=C.ext x;have D1:=A.ext x;have R1:=hR.ext x;have aa:=H.trans x;clear X Y M N aZ b1;have W:y0<0:=by simpa using b7.out
    obtain⟨Z,e2⟩:=bx.out W;obtain rfl:aT=false:=aV.out.symm.trans (fw (by omega));rw[Z]at aU aB;rw[e2]at aC;have bI:=qh aB;have bJ:=qh aC;clear aB aC Z e2 W aV
    go_wp2_with(first | (have hq:=N1;clear N1;refine Aa (vs:=Aj au af aq ai) rfl rfl rfl rfl rfl Az hq rfl (Ai _ _ _ _) ?_;intro w2 N2 J;have aI:=D1.kept J (by simp);clear D1) | (refine Aa (vs:=Aj false ah ar aj) rfl rfl rfl rfl rfl Az aI rfl (Ai _ _ _ _) ?_;intro w3 D3 ae))
    go_meet
    have bc:=(R1.kept J (by simp)).kept ae (by simp);exact⟨au,af,aq,ai,ah,ar,aj,(aa.grownR J (lrf _)).grownR ae (by omega),N2.kept ae (by simp),D3,bc,bc.lt,aU,(bI.out.keptA hq (by decide) J).keptA aI (by decide) ae,(bJ.out.keptA hq (by decide) J).keptA aI (by decide) ae⟩
 case rest =>
  obtain⟨s,a,n,c,b,m,d,H,C,A,hR,an,HS,hx,hy⟩:=hcut;have HT:=a4;have X:=C.c 0 rfl;have Y:=C.c 1 rfl;have M:=A.c 0 rfl;have N:=A.c 1 rfl
  go_wp2_with fail
  refine(aA.out _ _ _ ⟨s,a,n,c,rfl,HS,hx⟩ ⟨false,b,m,d,rfl,a4,hy⟩).mono ?_;rintro e w1 ⟨sg,ag,ng,cg,rfl,aa,aG,bp⟩
  go_upto_region 4 with(refine Aa (vs:=Aj sg ag ng cg) rfl rfl rfl rfl rfl Az (Arr.new _ _ _) rfl (Ai _ _ _ _) ?_;intro w2 hG J)
  have aK:Ext w1 w2:=((Ext.refl w1).alloc _).grownR J (lrf _);have j:=aa.trans aK;have aN:=hx.ext j;have aP:=hy.ext j;have bL:=H.trans j;have c7:w.heap.size+2<w1.heap.size:=fG an aa.size;have aD:Mg w2 ag ng cg ((g:Nat):Int).natAbs:=bp.ext aK;have q0:=hG.c 0 rfl;have q1:=hG.c 1 rfl;have N2:=C.ext j;have D2:=A.ext j;have R2:=hR.ext j;clear C A hR X Y M N J aA aa aK j bp an;generalize w1.heap.size=G at *
  go_wp2_with fail
  refine(U.out _ _ ⟨sg,ag,ng,cg,rfl,aG,aD⟩).mono ?_;rintro e w3 ⟨kk,rfl,B,c8,-,am⟩;have az:=bL.trans B;have p:=aN.ext B;have ap:=aP.ext B;have N3:=N2.ext B;have D3:=D2.ext B;have R3:=R2.ext B;have aR:=B.cell q0;have aS:=B.cell q1;have aE:=aD.ext B;have X:=N3.c 0 rfl;have Y:=N3.c 1 rfl;have M:=D3.c 0 rfl;have N:=D3.c 1 rfl;clear N2 D2 R2 q0 q1 aD U hG;by_cases bh:1<g
  · have bD:(1:Int)<kk:=by have:=am.2 (by simpa using bh);omega
    clear am HK
    go_wp2_with fail
    refine(K.out _ _ _ ⟨s,a,n,c,rfl,HS,p⟩ ⟨sg,ag,ng,cg,rfl,aG,aE⟩).mono ?_;rintro e w4 ⟨s1,a1,n1,c1,_,_,_,_,rfl,r,⟨O,t⟩,_⟩;have N4:=N3.ext r;clear X Y;have bE:=r.cell M;have bG:=r.cell N;have bv:=r.cell aR;have bw:=r.cell aS
    go_upto_region 6 with(refine Aa (vs:=Aj s1 a1 n1 c1) rfl rfl rfl rfl rfl Az N4 rfl (Ai _ _ _ _) ?_;intro w5 N5 E)
    have bK:=(az.trans r).grownR E (by omega);have D5:=(D3.ext r).kept E (by simp);have R5:=(R3.ext r).kept E (by simp);have bq:=(ap.ext r).keptA N4 (by decide) E;have b3:=t.keptA N4 (by decide) E;have b4:=(aE.ext r).keptA N4 (by decide) E;have bF:=D5.c 0 rfl;have bH:=D5.c 1 rfl;have bZ:=E.cell (a:=⟨G,0,none⟩) bv (by simp;omega);have c2:=E.cell (a:=⟨G,1,none⟩) bw (by simp;omega);clear M N aR aS bE bG bv bw N3 D3 R3 aE K E N4 t
    go_wp2_with fail
    refine(L.out _ _ _ ⟨false,b,m,d,rfl,a4,bq⟩ ⟨sg,ag,ng,cg,rfl,aG,b4⟩).mono ?_;rintro e w6 ⟨s3,a3,n3,c3,_,_,_,_,rfl,ab,⟨P,p⟩,_⟩;have D6:=D5.ext ab;clear bF bH bZ c2
    go_upto_region 7 with(refine Aa (vs:=Aj s3 a3 n3 c3) rfl rfl rfl rfl rfl Az D6 rfl (Ai _ _ _ _) ?_;intro wt A a2)
    have bb:=(bK.trans ab).grownR a2 (by omega);have C:=(N5.ext ab).kept a2 (by simp);have hR:=(R5.ext ab).kept a2 (by simp);have t:=(b3.ext ab).keptA D6 (by decide) a2;have p:=p.keptA D6 (by decide) a2;clear N5 R5 D5 D6 a2 L b4 b3 aN aP ap bq hx hy;have I:=qh (Jd (v := .agg (Aj s3 a3 n3 c3).toArray) ⟨s3,a3,n3,c3,rfl,P,p⟩ BD.out);clear BD;have a5:=C.c 0 rfl;have a6:=C.c 1 rfl;have a7:=A.c 0 rfl;have a8:=A.c 1 rfl
    go_wp2_with fail
    refine I.out.mono ?_;rintro e w7 ⟨kd,rfl,f,bP,D,-⟩;have ac:=C.ext f;have R:=A.ext f;have T:=hR.ext f;have av:=f.cell a5;have aw:=f.cell a6;have ax:=f.cell a7;have ay:=f.cell a8;clear a5 a6 a7 a8 C A hR I;by_cases F:kd=1
    · have o:q.den=1:=by have:=D.1 F;omega
      have HQ:=qh (BQ o);subst F;clear D o
      go_upto_region 9 with(refine Aa (vs:=Aj false none 0 0) rfl rfl rfl rfl rfl Az R rfl (Ai _ _ _ _) ?_;intro w8 a9 l)
      have ad:=ac.kept l (by simp);have k:=T.kept l (by simp);have bR:=ad.c 0 rfl;have bS:=ad.c 1 rfl;have bT:=a9.c 0 rfl;have bU:=a9.c 1 rfl;have S:=(bb.trans f).grownR l (by omega);have aO:=(t.ext f).keptA R (by decide) l;clear av aw ax ay ac R T l
      go_wp2_with(refine Aa (vs:=Ar s1 a1 n1 c1 false none 0 0) rfl rfl rfl rfl rfl A5 k rfl (Ao _ _ _ _ _ _ _ _) ?_;intro w9 Q V)
      exact eZ (Aq rfl A5 rfl Q) rfl (D8 S k (by decide) V (by omega) O aO (by rw[HQ.out];exact Mg.nil _))
    · have o:q.den≠1:=fun h=>F (D.2 (by omega));have HQ:=qh (Bt o);have bO:((kd:Int) == 1)=false:=by simp;omega
      have HF:Hid (s3=false):=qh (by have:=P.out;rw[<-this];exact fw (by omega));clear D o F;have k:=T;have S:=bb.trans f
      go_wp2_with(refine Aa (vs:=Ar s1 a1 n1 c1 s3 a3 n3 c3) rfl rfl rfl rfl rfl A5 k rfl (Ao _ _ _ _ _ _ _ _) ?_;intro w9 Q V)
      refine eZ (Aq rfl A5 rfl Q) rfl ?_;rw[HF.out];exact D8 S k (by decide) V (by omega) O (t.ext f) (by rw[HQ.out];exact p.ext f)
  · have aW:g=1:=by omega
    obtain⟨bu,br⟩:=HK.out aW;have bD:¬ (1:Int)<kk:=by have:=mt am.1 (by simp;omega);omega
    have C:=N3;have A:=D3;have hR:=R3;have O:=HS;have P:=HT;have t:=p;have ao:=ap;rw[bu]at O t;rw[br]at P ao;clear N3 D3 R3 X Y M N aR aS am HK K L bh aW bu br hx hy HS HT aN aP p ap a4;obtain⟨s1,bm⟩:∃ s1,s1=s:=⟨_,rfl⟩;obtain⟨s3,bn⟩:∃ s3,s3=false:=⟨_,rfl⟩;obtain⟨a1,bd⟩:∃ a1,a1=a:=⟨_,rfl⟩;obtain⟨n1,bj⟩:∃ n1,n1=n:=⟨_,rfl⟩;obtain⟨c1,bf⟩:∃ c1,c1=c:=⟨_,rfl⟩;obtain⟨a3,be⟩:∃ a3,a3=b:=⟨_,rfl⟩;obtain⟨n3,bk⟩:∃ n3,n3=m:=⟨_,rfl⟩;obtain⟨c3,bg⟩:∃ c3,c3=d:=⟨_,rfl⟩;rw[<-bm]at O C;rw[<-bd,<-bj,<-bf]at t C;rw[<-bn]at P A
    rw[<-be,<-bk,<-bg]at ao A;clear bm bn bd bj bf be bk bg;have p:=ao;clear ao;have I:=qh (Jd (v := .agg (Aj s3 a3 n3 c3).toArray) ⟨s3,a3,n3,c3,rfl,P,p⟩ BD.out);clear BD;have a5:=C.c 0 rfl;have a6:=C.c 1 rfl;have a7:=A.c 0 rfl;have a8:=A.c 1 rfl
    go_wp2_with fail
    refine I.out.mono ?_;rintro e w7 ⟨kd,rfl,f,bP,D,-⟩;have ac:=C.ext f;have R:=A.ext f;have T:=hR.ext f;have av:=f.cell a5;have aw:=f.cell a6;have ax:=f.cell a7;have ay:=f.cell a8;clear a5 a6 a7 a8 C A hR I;by_cases F:kd=1
    · have o:q.den=1:=by have:=D.1 F;omega
      have HQ:=qh (BQ o);subst F;clear D o
      go_upto_region 9 with(refine Aa (vs:=Aj false none 0 0) rfl rfl rfl rfl rfl Az R rfl (Ai _ _ _ _) ?_;intro w8 a9 l)
      have ad:=ac.kept l (by simp);have k:=T.kept l (by simp);have bR:=ad.c 0 rfl;have bS:=ad.c 1 rfl;have bT:=a9.c 0 rfl;have bU:=a9.c 1 rfl;have S:=(az.trans f).grownR l (by omega);have aO:=(t.ext f).keptA R (by decide) l;clear av aw ax ay ac R T l
      go_wp2_with(refine Aa (vs:=Ar s1 a1 n1 c1 false none 0 0) rfl rfl rfl rfl rfl A5 k rfl (Ao _ _ _ _ _ _ _ _) ?_;intro w9 Q V)
      exact eZ (Aq rfl A5 rfl Q) rfl (D8 S k (by decide) V (by omega) O aO (by rw[HQ.out];exact Mg.nil _))
    · have o:q.den≠1:=fun h=>F (D.2 (by omega));have HQ:=qh (Bt o);have bO:((kd:Int) == 1)=false:=by simp;omega
      have HF:Hid (s3=false):=qh (by have:=P.out;rw[<-this];exact fw (by omega));clear D o F;have k:=T;have S:=az.trans f
      go_wp2_with(refine Aa (vs:=Ar s1 a1 n1 c1 s3 a3 n3 c3) rfl rfl rfl rfl rfl A5 k rfl (Ao _ _ _ _ _ _ _ _) ?_;intro w9 Q V)
      refine eZ (Aq rfl A5 rfl Q) rfl ?_;rw[HF.out];exact D8 S k (by decide) V (by omega) O (t.ext f) (by rw[HQ.out];exact p.ext f)
theorem Ig(h:ZR w v z)(d:ZR w v' y)(c:z.natAbs<P2 3200000)(a:y.natAbs<P2 3200000)(b:0<y){q:Rat}(e:q=mkRat z y.natAbs):Calls prog 123 #[v,v'] w (LA w q) :=
 Pc h d c a (by omega) (by rw[e,jT b,Int.one_mul])
theorem MQ(h:p.den=1)(b:q.den=1):p*q=((p.num*q.num:Int):Rat):=by
 have a:=Pl.rat_mul_whole p q h b;exact Rat.ext a.1 a.2
theorem MR(h:p.den=1)(c:q.den=1):p+q=((p.num+q.num:Int):Rat):=by
 have a:p=(p.num:Rat):=Rat.ext rfl h;have b:q=(q.num:Rat):=Rat.ext rfl c;rw[Rat.intCast_add,<-a,<-b]
theorem Ql(h:QV w v p)(h':QV w v' q)(bp:Pl.RB 1000000 p)(bq:Pl.RB 1000000 q):Calls prog 125 #[v,v'] w (LA w (p*q)):=by
 have h0:=h;have a4:=h';obtain⟨s,a,n,c,b,m,d,rfl,HS,hx,hy⟩:=h;obtain⟨A,r,z,t,b',m',d',rfl,a3,I,J⟩:=h';by_cases hw:p.den=1/\q.den=1
 · obtain⟨h1,h2⟩:=hw;have ag:m=0:=hy.zero.2 (BQ h1);have a8:m'=0:=J.zero.2 (BQ h2);have HV:Hid (p*q=((p.num*q.num:Int):Rat)):=qh (MQ h1 h2);have ak:=qh (fun(f:World) (g:Ext w f)=>EY (v := .agg #[.bool s,.slice a n c]) (v' := .agg #[.bool A,.slice r z t]) ⟨s,a,n,c,rfl,HS,hx.ext g⟩ ⟨A,r,z,t,rfl,a3,I.ext g⟩ (AO bp.1 (by omega)) (AO bq.1 (by omega)));subst ag a8;clear h1 h2 bp bq hx hy I J
   go_enter func125,ntmps125
   go_upto_region 1 with(fail)
   refine Ln ?_;intro w0 B i j W Z;have p0:=i.c 0 rfl;have p1:=i.c 1 rfl;have p2:=i.c 2 rfl;have p3:=i.c 3 rfl;have q0:=j.c 0 rfl;have q1:=j.c 1 rfl;have q2:=j.c 2 rfl;have q3:=j.c 3 rfl;have hR:Arr w0 (w.heap.size+2) 109 (Ar false none 0 0 false none 0 0):=W;clear Z
   go_wp2_with fail
   refine(ak.out _ B).mono ?_;rintro e w1 ⟨s1,F,S,G,rfl,a5,aa,am⟩;have E:=hR.ext a5;have aH:(Aj s1 F S G).toArray=#[.bool s1,.slice F S G]:=rfl
   go_wp2_with(refine Aa (vs:=Ar s1 F S G false none 0 0) rfl rfl rfl rfl rfl A5 E rfl (Ao _ _ _ _ _ _ _ _) ?_;intro w9 X Y)
   refine eZ (Aq rfl A5 rfl X) rfl ?_;rw[HV.out];exact Jm (B.trans a5) E (by decide) Y (by omega) aa am
 · have H0:=h0;have a0:=a4;have al:((m:Int) == 0)=true/\((m':Int) == 0)=false\/((m:Int) == 0)=false:=by
    rcases fj m with h1|h1
    · refine Or.inl ⟨by simp[h1],?_⟩;have h4:m'≠0:=fun h2=>hw ⟨?_,?_⟩
      · simpa using h4
      · exact fk fun h3=>p.den_nz (by have:=hy.zero.1 h1;rw[Bt h3]at this;exact this)
      · exact fk fun h3=>q.den_nz (by have:=J.zero.1 h2;rw[Bt h3]at this;exact this)
    · exact Or.inr (by simp;omega)
   have ac:=qh (fun(f:World) (g:Ext w f)=>Ic (H0.ext g));have ad:=qh (fun(f:World) (g:Ext w f)=>Ic (a0.ext g));have U:((p.den:Int)).natAbs<P2 1000000:=by rw[fJ];exact bp.2
   have V:((q.den:Int)).natAbs<P2 1000000:=by rw[fJ];exact bq.2
   have up:=fun {x:Nat} (h:x<P2 1000000)=>AO (b:=3200000) h (by omega);have mb:=fun {x y:Int} (h:x.natAbs<P2 1000000) (h':y.natAbs<P2 1000000)=>(show(x*y).natAbs<P2 (1000000+1000000) by rw[iD];exact DY h h');have a7:0<(p.den:Int)*(q.den:Int):=Int.mul_pos (by have:=p.den_pos;omega) (by have:=q.den_pos;omega);have a6:((p.den:Int)*(q.den:Int)).natAbs=p.den*q.den:=by rw[iD,fJ,fJ]
   have ah:=qh (fun(f:World) (g:Ext w f)=>EY (v := .agg #[.bool s,.slice a n c]) (v' := .agg #[.bool A,.slice r z t]) ⟨s,a,n,c,rfl,HS,hx.ext g⟩ ⟨A,r,z,t,rfl,a3,I.ext g⟩ (up bp.1) (up bq.1));have ai:=qh (fun(f:World) (x y:Value) (h1:ZR f x (p.den:Int)) (h2:ZR f y (q.den:Int))=>EY h1 h2 (up U) (up V));have ae:=qh (fun(f:World) (x y:Value) (h1:ZR f x (p.num*q.num)) (h2:ZR f y ((p.den:Int)*(q.den:Int)))=>Ig h1 h2 (AO (mb bp.1 bq.1) (by omega)) (AO (mb U V) (by omega)) a7 (q:=p*q) (by rw[a6];exact Rat.mul_def' p q))
   clear hx hy I J hw H0 a0 h0 a4 bp bq U V up mb a7 a6
   go_enter func125,ntmps125
   go_upto_region 1 with(fail)
   refine Ln ?_;intro w0 B i j W Z;have p0:=i.c 0 rfl;have p1:=i.c 1 rfl;have p2:=i.c 2 rfl;have p3:=i.c 3 rfl;have q0:=j.c 0 rfl;have q1:=j.c 1 rfl;have q2:=j.c 2 rfl;have q3:=j.c 3 rfl;have hR:Arr w0 (w.heap.size+2) 109 (Ar false none 0 0 false none 0 0):=W;clear Z;rcases al with⟨aj,aI⟩|aj
   all_goals
    go_upto_region 3 with(fail)
    have D:=fun(f:World) (g:Ext w0 f)=>qh (And.intro (g.cell p0) (And.intro (g.cell p1) (And.intro (g.cell p2) (And.intro (g.cell p3) (And.intro (g.cell q0) (And.intro (g.cell q1) (And.intro (g.cell q2) (g.cell q3))))))))
    refine Ac
     [hdP w.heap.size 0,he (.agg #[.bool s,.slice a n c]),hdP (w.heap.size+1) 0,he (.agg #[.bool A,.slice r z t]),hp (fun v f=>ZR f v (p.num*q.num)),he (.agg #[.bool s,.slice a n c,.bool false,.slice b m d]),hp (fun v f=>ZR f v ((p.den:Int))),he (.agg #[.bool A,.slice r z t,.bool false,.slice b' m' d']),hp (fun v f=>ZR f v ((q.den:Int))),hp (fun v f=>ZR f v ((p.den:Int)*(q.den:Int))),hp (fun v f=>QV f v (p*q))]
     ⟨fun v w T e h=>ZR.ext h e,fun v w T e h=>ZR.ext h e,fun v w T e h=>ZR.ext h e,fun v w T e h=>ZR.ext h e,fun v w T e h=>QV.ext h e,trivial⟩ ⟨?o0,?o1,?o2,?o3,?o4,?o5,?o6,?o7,?o8,?o9,?o10,trivial⟩ ?fin
    case o0 | o2=>exact ofa (d:=0)
    case o1 | o3=>exact ol2
    case o5 | o7=>exact ol4
    case o4 =>
     refine Ah rfl fun ρ f g C H h => ?_;have e1:_=_:=h.2.1;have e2:_=_:=h.2.2.1;obtain⟨K,L,M,N,O,P,Q,R⟩:=(D f g).out;refine⟨163,#[.agg #[.bool s,.slice a n c],.agg #[.bool A,.slice r z t]],by go_simp,(ah.out f (B.trans g)).mono ?_⟩;rintro e T ⟨A,r,z,t,rfl,k,o,l⟩;exact⟨_,rfl,k,A,r,z,t,rfl,o,l⟩
    case o6 =>
     refine Ah rfl fun ρ f g C H h => ?_;have e1:_=_:=h.2.1;obtain⟨K,L,M,N,O,P,Q,R⟩:=(D f g).out;refine⟨164,#[.agg #[.bool s,.slice a n c,.bool false,.slice b m d]],by go_simp,(ac.out f (B.trans g)).mono ?_⟩;rintro e T ⟨A,r,z,t,rfl,k,o,l⟩;exact⟨_,rfl,k,A,r,z,t,rfl,o,l⟩
    case o8 =>
     refine Ah rfl fun ρ f g C H h => ?_;have e1:_=_:=h.2.1;obtain⟨K,L,M,N,O,P,Q,R⟩:=(D f g).out;refine⟨164,#[.agg #[.bool A,.slice r z t,.bool false,.slice b' m' d']],by go_simp,(ad.out f (B.trans g)).mono ?_⟩;rintro e T ⟨A,r,z,t,rfl,k,o,l⟩;exact⟨_,rfl,k,A,r,z,t,rfl,o,l⟩
    case o9 =>
     refine Ah rfl fun ρ f g C H h => ?_;obtain⟨v1,e1,s1,F,S,G,rfl,i1,j1⟩:=h.2.1;obtain⟨v2,e2,s2,a2,n2,c2,rfl,i2,j2⟩:=h.2.2.1;obtain⟨K,L,M,N,O,P,Q,R⟩:=(D f g).out;refine⟨163,#[.agg (Aj s1 F S G).toArray,.agg (Aj s2 a2 n2 c2).toArray],by go_simp,(ai.out f _ _ ⟨s1,F,S,G,rfl,i1,j1⟩ ⟨s2,a2,n2,c2,rfl,i2,j2⟩).mono ?_⟩;rintro e T ⟨A,r,z,t,rfl,k,o,l⟩;exact⟨_,rfl,k,A,r,z,t,rfl,o,l⟩
    case o10 =>
     refine Ah rfl fun ρ f g C H h => ?_;obtain⟨v1,e1,s1,F,S,G,rfl,i1,j1⟩:=h.2.1;obtain⟨v2,e2,s2,a2,n2,c2,rfl,i2,j2⟩:=h.2.2.1;obtain⟨K,L,M,N,O,P,Q,R⟩:=(D f g).out;refine⟨123,#[.agg (Aj s1 F S G).toArray,.agg (Aj s2 a2 n2 c2).toArray],by go_simp,(ae.out f _ _ ⟨s1,F,S,G,rfl,i1,j1⟩ ⟨s2,a2,n2,c2,rfl,i2,j2⟩).mono ?_⟩;rintro e T ⟨A,r,z,t,b',m',d',rfl,k,o,l,af⟩;exact⟨_,rfl,k,A,r,z,t,b',m',d',rfl,o,l,af⟩
    case fin =>
     intro f g;rintro _ ⟨aN,az,aJ,aD,rfl,ap,av⟩;rintro _ ⟨aO,aA,aK,aE,rfl,aq,aw⟩;rintro _ ⟨aP,aB,aL,aF,rfl,ar,ax⟩;rintro _ ⟨aQ,aC,aM,aG,rfl,au,ay⟩;rintro _ ⟨s9,a9,n9,c9,b9,m9,d9,rfl,ab,an,ao⟩;change wpList _ _ _ _ _ _;simp only[Bs];have E:=hR.ext g
     go_wp2_with(refine Aa (vs:=Ar s9 a9 n9 c9 false b9 m9 d9) rfl rfl rfl rfl rfl A5 E rfl (Ao _ _ _ _ _ _ _ _) ?_;intro w9 X Y)
     exact eZ (Aq rfl A5 rfl X) rfl (D8 (B.trans g) E (by decide) Y (by omega) ab an ao)
theorem Qm(h:QV w v p)(h':QV w v' q)(bp:Pl.RB 1000000 p)(bq:Pl.RB 1000000 q):Calls prog 128 #[v,v'] w (LA w (p+q)):=by
 have h0:=h;have a8:=h';obtain⟨s,a,n,c,b,m,d,rfl,HS,hx,hy⟩:=h;obtain⟨t,l,r,o,b',m',d',rfl,a7,Y,Z⟩:=h';by_cases hw:p.den=1/\q.den=1
 · obtain⟨h1,h2⟩:=hw;have al:m=0:=hy.zero.2 (BQ h1);have af:m'=0:=Z.zero.2 (BQ h2);have HV:Hid (p+q=((p.num+q.num:Int):Rat)):=qh (MR h1 h2);have aq:=qh (fun(f:World) (g:Ext w f)=>OQ (v := .agg #[.bool s,.slice a n c]) (v' := .agg #[.bool t,.slice l r o]) ⟨s,a,n,c,rfl,HS,hx.ext g⟩ ⟨t,l,r,o,rfl,a7,Y.ext g⟩ (AO bp.1 (by omega)) (AO bq.1 (by omega)));subst al af;clear h1 h2 bp bq hx hy Y Z
   go_enter func128,ntmps128
   go_upto_region 1 with(fail)
   refine Ln ?_;intro w0 A C D a0 a5;have p0:=C.c 0 rfl;have p1:=C.c 1 rfl;have p2:=C.c 2 rfl;have p3:=C.c 3 rfl;have q0:=D.c 0 rfl;have q1:=D.c 1 rfl;have q2:=D.c 2 rfl;have q3:=D.c 3 rfl;have hR:Arr w0 (w.heap.size+2) 109 (Ar false none 0 0 false none 0 0):=a0;clear a5
   go_wp2_with fail
   refine(aq.out _ A).mono ?_;rintro e w1 ⟨s1,U,W,V,rfl,aa,ag,au⟩;have X:=hR.ext aa;have b3:(Aj s1 U W V).toArray=#[.bool s1,.slice U W V]:=rfl
   go_wp2_with(refine Aa (vs:=Ar s1 U W V false none 0 0) rfl rfl rfl rfl rfl A5 X rfl (Ao _ _ _ _ _ _ _ _) ?_;intro w9 a3 a4)
   refine eZ (Aq rfl A5 rfl a3) rfl ?_;rw[HV.out];exact Jm (A.trans aa) X (by decide) a4 (by omega) ag au
 · have H0:=h0;have a6:=a8;have ar:((m:Int) == 0)=true/\((m':Int) == 0)=false\/((m:Int) == 0)=false:=by
    rcases fj m with h1|h1
    · refine Or.inl ⟨by simp[h1],?_⟩;have h4:m'≠0:=fun h2=>hw ⟨?_,?_⟩
      · simpa using h4
      · exact fk fun h3=>p.den_nz (by have:=hy.zero.1 h1;rw[Bt h3]at this;exact this)
      · exact fk fun h3=>q.den_nz (by have:=Z.zero.1 h2;rw[Bt h3]at this;exact this)
    · exact Or.inr (by simp;omega)
   have ad:=qh (fun(f:World) (g:Ext w f)=>Ic (H0.ext g));have ae:=qh (fun(f:World) (g:Ext w f)=>Ic (a6.ext g));have S:((p.den:Int)).natAbs<P2 1000000:=by rw[fJ];exact bp.2
   have T:((q.den:Int)).natAbs<P2 1000000:=by rw[fJ];exact bq.2
   have up:=fun {x:Nat} (h:x<P2 1000000)=>AO (b:=3200000) h (by omega);have mb:=fun {x y:Int} (h:x.natAbs<P2 1000000) (h':y.natAbs<P2 1000000)=>(show(x*y).natAbs<P2 (1000000+1000000) by rw[iD];exact DY h h');have ac:0<(p.den:Int)*(q.den:Int):=Int.mul_pos (by have:=p.den_pos;omega) (by have:=q.den_pos;omega);have ab:((p.den:Int)*(q.den:Int)).natAbs=p.den*q.den:=by rw[iD,fJ,fJ]
   have am:=qh (fun(f:World) (g:Ext w f) (x:Value) (h1:ZR f x (q.den:Int))=>EY (v := .agg #[.bool s,.slice a n c]) ⟨s,a,n,c,rfl,HS,hx.ext g⟩ h1 (up bp.1) (up T));have ao:=qh (fun(f:World) (g:Ext w f) (x:Value) (h1:ZR f x (p.den:Int))=>EY (v := .agg #[.bool t,.slice l r o]) ⟨t,l,r,o,rfl,a7,Y.ext g⟩ h1 (up bq.1) (up S));have an:=qh (fun(f:World) (x y:Value) (h1:ZR f x (p.den:Int)) (h2:ZR f y (q.den:Int))=>EY h1 h2 (up S) (up T))
   have ai:=qh (fun(f:World) (x y:Value) (h1:ZR f x (p.num*(q.den:Int))) (h2:ZR f y (q.num*(p.den:Int)))=>OQ h1 h2 (AO (mb bp.1 T) (by omega)) (AO (mb bq.1 S) (by omega)));have aj:=qh (fun(f:World) (x y:Value) (h1:ZR f x (p.num*(q.den:Int)+q.num*(p.den:Int))) (h2:ZR f y ((p.den:Int)*(q.den:Int)))=>Ig h1 h2 (AO (fU (lr _ _) (RO (mb bp.1 T) (mb bq.1 S))) (by omega)) (AO (mb S T) (by omega)) ac (q:=p+q) (by rw[ab];exact Rat.add_def' p q));clear hx hy Y Z hw H0 a6 h0 a8 bp bq S T up mb ac ab
   go_enter func128,ntmps128
   go_upto_region 1 with(fail)
   refine Ln ?_;intro w0 A C D a0 a5;have p0:=C.c 0 rfl;have p1:=C.c 1 rfl;have p2:=C.c 2 rfl;have p3:=C.c 3 rfl;have q0:=D.c 0 rfl;have q1:=D.c 1 rfl;have q2:=D.c 2 rfl;have q3:=D.c 3 rfl;have hR:Arr w0 (w.heap.size+2) 109 (Ar false none 0 0 false none 0 0):=a0;clear a5;rcases ar with⟨ap,b4⟩|ap
   all_goals
    go_upto_region 3 with(fail)
    have B:=fun(f:World) (g:Ext w0 f)=>qh (And.intro (g.cell p0) (And.intro (g.cell p1) (And.intro (g.cell p2) (And.intro (g.cell p3) (And.intro (g.cell q0) (And.intro (g.cell q1) (And.intro (g.cell q2) (g.cell q3))))))))
    refine Ac
     [hdP w.heap.size 0,he (.agg #[.bool s,.slice a n c]),he (.agg #[.bool t,.slice l r o,.bool false,.slice b' m' d']),hp (fun v f=>ZR f v ((q.den:Int))),hp (fun v f=>ZR f v (p.num*(q.den:Int))),hdP (w.heap.size+1) 0,he (.agg #[.bool t,.slice l r o]),he (.agg #[.bool s,.slice a n c,.bool false,.slice b m d]),hp (fun v f=>ZR f v ((p.den:Int))),hp (fun v f=>ZR f v (q.num*(p.den:Int))),hp (fun v f=>ZR f v (p.num*(q.den:Int)+q.num*(p.den:Int))),he (.agg #[.bool s,.slice a n c,.bool false,.slice b m d]),hp (fun v f=>ZR f v ((p.den:Int))),he (.agg #[.bool t,.slice l r o,.bool false,.slice b' m' d']),hp (fun v f=>ZR f v ((q.den:Int))),hp (fun v f=>ZR f v ((p.den:Int)*(q.den:Int))),hp (fun v f=>QV f v (p+q))]
     ⟨fun v w N e h=>ZR.ext h e,fun v w N e h=>ZR.ext h e,fun v w N e h=>ZR.ext h e,fun v w N e h=>ZR.ext h e,fun v w N e h=>ZR.ext h e,fun v w N e h=>ZR.ext h e,fun v w N e h=>ZR.ext h e,fun v w N e h=>ZR.ext h e,fun v w N e h=>QV.ext h e,trivial⟩ ⟨?o0,?o1,?o2,?o3,?o4,?o5,?o6,?o7,?o8,?o9,?o10,?o11,?o12,?o13,?o14,?o15,?o16,trivial⟩ ?fin
    case o0 | o5=>exact ofa (d:=0)
    case o1 | o6=>exact ol2
    case o2 | o7 | o11 | o13=>exact ol4
    case o3 =>
     refine Ah rfl fun ρ f g z E h => ?_;have e1:_=_:=h.2.1;obtain⟨F,G,H,I,J,K,L,M⟩:=(B f g).out;refine⟨164,#[.agg #[.bool t,.slice l r o,.bool false,.slice b' m' d']],by go_simp,(ae.out f (A.trans g)).mono ?_⟩;rintro e N ⟨t,l,r,o,rfl,i,k,j⟩;exact⟨_,rfl,i,t,l,r,o,rfl,k,j⟩
    case o4 =>
     refine Ah rfl fun ρ f g z E h => ?_;have e1:_=_:=h.2.1;obtain⟨v2,e2,R,O,Q,P,rfl,i2,j2⟩:=h.2.2.1;obtain⟨F,G,H,I,J,K,L,M⟩:=(B f g).out;refine⟨163,#[.agg #[.bool s,.slice a n c],.agg (Aj R O Q P).toArray],by go_simp,(am.out f (A.trans g) _ ⟨R,O,Q,P,rfl,i2,j2⟩).mono ?_⟩;rintro e N ⟨t,l,r,o,rfl,i,k,j⟩;exact⟨_,rfl,i,t,l,r,o,rfl,k,j⟩
    case o8 =>
     refine Ah rfl fun ρ f g z E h => ?_;have e1:_=_:=h.2.1;obtain⟨F,G,H,I,J,K,L,M⟩:=(B f g).out;refine⟨164,#[.agg #[.bool s,.slice a n c,.bool false,.slice b m d]],by go_simp,(ad.out f (A.trans g)).mono ?_⟩;rintro e N ⟨t,l,r,o,rfl,i,k,j⟩;exact⟨_,rfl,i,t,l,r,o,rfl,k,j⟩
    case o9 =>
     refine Ah rfl fun ρ f g z E h => ?_;have e1:_=_:=h.2.1;obtain⟨v2,e2,R,O,Q,P,rfl,i2,j2⟩:=h.2.2.1;obtain⟨F,G,H,I,J,K,L,M⟩:=(B f g).out;refine⟨163,#[.agg #[.bool t,.slice l r o],.agg (Aj R O Q P).toArray],by go_simp,(ao.out f (A.trans g) _ ⟨R,O,Q,P,rfl,i2,j2⟩).mono ?_⟩;rintro e N ⟨t,l,r,o,rfl,i,k,j⟩;exact⟨_,rfl,i,t,l,r,o,rfl,k,j⟩
    case o10 =>
     refine Ah rfl fun ρ f g z E h => ?_;obtain⟨v1,e1,s1,U,W,V,rfl,i1,j1⟩:=h.2.1;obtain⟨v2,e2,R,O,Q,P,rfl,i2,j2⟩:=h.2.2.1;obtain⟨F,G,H,I,J,K,L,M⟩:=(B f g).out;refine⟨165,#[.agg (Aj s1 U W V).toArray,.agg (Aj R O Q P).toArray],by go_simp,(ai.out f _ _ ⟨s1,U,W,V,rfl,i1,j1⟩ ⟨R,O,Q,P,rfl,i2,j2⟩).mono ?_⟩;rintro e N ⟨t,l,r,o,rfl,i,k,j⟩;exact⟨_,rfl,i,t,l,r,o,rfl,k,j⟩
    case o12 =>
     refine Ah rfl fun ρ f g z E h => ?_;have e1:_=_:=h.2.1;obtain⟨F,G,H,I,J,K,L,M⟩:=(B f g).out;refine⟨164,#[.agg #[.bool s,.slice a n c,.bool false,.slice b m d]],by go_simp,(ad.out f (A.trans g)).mono ?_⟩;rintro e N ⟨t,l,r,o,rfl,i,k,j⟩;exact⟨_,rfl,i,t,l,r,o,rfl,k,j⟩
    case o14 =>
     refine Ah rfl fun ρ f g z E h => ?_;have e1:_=_:=h.2.1;obtain⟨F,G,H,I,J,K,L,M⟩:=(B f g).out;refine⟨164,#[.agg #[.bool t,.slice l r o,.bool false,.slice b' m' d']],by go_simp,(ae.out f (A.trans g)).mono ?_⟩;rintro e N ⟨t,l,r,o,rfl,i,k,j⟩;exact⟨_,rfl,i,t,l,r,o,rfl,k,j⟩
    case o15 =>
     refine Ah rfl fun ρ f g z E h => ?_;obtain⟨v1,e1,s1,U,W,V,rfl,i1,j1⟩:=h.2.1;obtain⟨v2,e2,R,O,Q,P,rfl,i2,j2⟩:=h.2.2.1;obtain⟨F,G,H,I,J,K,L,M⟩:=(B f g).out;refine⟨163,#[.agg (Aj s1 U W V).toArray,.agg (Aj R O Q P).toArray],by go_simp,(an.out f _ _ ⟨s1,U,W,V,rfl,i1,j1⟩ ⟨R,O,Q,P,rfl,i2,j2⟩).mono ?_⟩;rintro e N ⟨t,l,r,o,rfl,i,k,j⟩;exact⟨_,rfl,i,t,l,r,o,rfl,k,j⟩
    case o16 =>
     refine Ah rfl fun ρ f g z E h => ?_;obtain⟨v1,e1,s1,U,W,V,rfl,i1,j1⟩:=h.2.1;obtain⟨v2,e2,R,O,Q,P,rfl,i2,j2⟩:=h.2.2.1;obtain⟨F,G,H,I,J,K,L,M⟩:=(B f g).out;refine⟨123,#[.agg (Aj s1 U W V).toArray,.agg (Aj R O Q P).toArray],by go_simp,(aj.out f _ _ ⟨s1,U,W,V,rfl,i1,j1⟩ ⟨R,O,Q,P,rfl,i2,j2⟩).mono ?_⟩;rintro e N ⟨t,l,r,o,b',m',d',rfl,i,k,j,ak⟩;exact⟨_,rfl,i,t,l,r,o,b',m',d',rfl,k,j,ak⟩
    case fin =>
     intro f g;rintro _ ⟨be,aN,b5,aV,rfl,ax,aF⟩;rintro _ ⟨bf,aO,b6,aW,rfl,ay,aG⟩;rintro _ ⟨bg,aP,b7,aX,rfl,az,aH⟩;rintro _ ⟨bh,aQ,b8,aY,rfl,aA,aI⟩;rintro _ ⟨bi,aR,ba,aZ,rfl,aB,aJ⟩;rintro _ ⟨bj,aS,bb,b0,rfl,aC,aK⟩;rintro _ ⟨bk,aT,bc,b1,rfl,aD,aL⟩;rintro _ ⟨bl,aU,bd,b2,rfl,aE,aM⟩;rintro _ ⟨s9,a9,n9,c9,b9,m9,d9,rfl,ah,av,aw⟩;change wpList _ _ _ _ _ _;simp only[Bs];have X:=hR.ext g
     go_wp2_with(refine Aa (vs:=Ar s9 a9 n9 c9 false b9 m9 d9) rfl rfl rfl rfl rfl A5 X rfl (Ao _ _ _ _ _ _ _ _) ?_;intro w9 a3 a4)
     exact eZ (Aq rfl A5 rfl a3) rfl (D8 (A.trans g) X (by decide) a4 (by omega) ah av aw)
def pL(v:Int)(a:Option Addr)(n c:Nat):List Value:=[.int .i64 v,.slice a n c]
theorem AX(v:Int)(a:Option Addr)(n c:Nat):∀ x∈pL v a n c,x.oneCell'=true:=by
 intro x b;simp only[pL,fS,ia,jL]at b;rcases b with rfl|rfl <;> rfl
def Qn(w:World)(b0:Nat)(vars:Int)(N:Nat)(l:List Pl.Tm)(e:Ending)(w':World):Prop:=∃ a n c out,e = .returned (.agg (pL vars a n c).toArray)/\Ext w w'/\TO w' b0 w.heap.size a n c out/\n<=l.length/\Pl.Canon N out/\∀ x,Pl.coef out x=Pl.coef l x
theorem TO.keptA{l:List Pl.Tm}(h:TO w b0 base a n c l)(d:Arr w g t cs)(h1:111≠t)(h2:3≠t)(h3:187≠t)(m:b0<=g)(f:w.grownBy w' (some g)):TO w' b0 base a n c l:=by
 obtain⟨b,j,p,r⟩:=h;refine⟨b,j.kept f ?_,p,fun i o=>(r i o).kept d h2 h3 m f⟩;cases e:blk a with
 | none=>exact .inl rfl
 | some q =>
  refine .inr fun he => ?_;obtain⟨k,s,h4⟩:=j.ty e;injection he with he;subst he;unfold Arr at d;rw[d]at h4;simp only[fc,jp]at h4;exact h1 h4.2.1.symm
theorem AE.ne(h:AE w base e k a n c rows)(b:Arr w g t cs)(f:e≠t):some g≠blk a:=fun he=>by
 obtain⟨d,i,h4⟩:=h.ty he.symm;unfold Arr at b;rw[b]at h4;simp only[fc,jp]at h4;exact f h4.2.1.symm
theorem Gt{r0 r1 r2 r3 r4:Value}(j:P.underlying t=some (.slice e))(a:Bu P e zs 5 bytes) :
 (Instr.buildSlice t 1 #[(0,.agg #[r0,r1,r2,r3,r4])]).run P w = .ok (.slice (some ⟨w.heap.size,0,none⟩) 1 1) (w.alloc (.cells #[r0,r1,r2,r3,r4] e)):=by
 obtain⟨i,f,c,b,d⟩:=a.parts;have g:=a.2.1
 match zs,g,c with
 | [z0,z1,z2,z3,z4],_,c =>
 simp[Instr.buildSlice,fQ j,sizeOf,typeInfo,f,b,Instr.fill,zeroValue,c,newRow,Value.cells,show Array.range 5=#[0,1,2,3,4] by decide]
theorem GV(h:q≠0):q.num.sign≠0:=fun h1=>h (Rat.num_eq_zero.1 (Int.sign_eq_zero_iff_zero.1 h1))
theorem JP(hN:N<=12){vars:Int}{a:Option Addr}{n c:Nat}{l:List Pl.Tm}{w:World}(h:TSl w b0 a n c l)(hb:TB N l)(hw:b0<=w.heap.size)(hn:n<=100000)(hs:Pl.SubOK l) :
 Calls prog 84 #[.int .i64 vars,.slice a n c] w (Qn w b0 vars N l):=by
 have bm:=h.len
 go_enter func84,ntmps84
 go_upto_region 1 with(fail)
 refine AK ?_;intro w0 am b6 cu;have bp:=qh (LE hN n (h.ext am) hb (eW hw am.size) hn);have bc:Arr w0 w.heap.size 65 (pL 0 none 0 0):=b6;clear b6 cu h
 go_wp2_with fail
 refine bp.out.mono ?_;rintro e w1 ⟨a1,B,c1,E,rfl,aG,t1,p1,d1⟩;have a3:=hb.perm p1;have bo:=hs.perm p1;have aS:=am.trans aG;have bd:=bc.ext aG;have cS:B<=100000:=by
  have W:B=n:=by rw[<-t1.len,p1.length_eq,bm]
  omega
 have HG:Hid (Pl.Canon N (Pl.grp E)/\∀ x,Pl.coef (Pl.grp E) x=Pl.coef l x):=qh (Pl.grp_sum (fun t ht=>(hb t ht).1) p1 d1);have aP:=eW hw aS.size;have aY:Hid (w.heap.size<w1.heap.size):=qh bd.lt;have bG:Hid (B=l.length):=by show B=l.length;rw[<-t1.len,p1.length_eq]
 clear bp hb hs bm p1 d1 am aG bc hn;have hY:=Arr.new w1 65 (pL 0 none 0 0)
 go_upto_region 3 with(refine Aa (vs:=pL vars none 0 0) rfl rfl rfl rfl rfl Av hY rfl (AX _ _ _ _) ?_;intro w2 aq bi)
 have b8:Ext w1 w2:=((Ext.refl w1).alloc _).grownR bi (lrf _);have aw:Hid (TO w2 b0 w1.heap.size none 0 0 []):=qh (TO.nil _ _ _);have aj:Hid (Pl.SS E [] 0):=qh (Pl.SS.start E);clear hY bi;obtain⟨PB,af⟩:∃ PB,w1.heap.size=PB:=⟨_,rfl⟩;rw[af]at aq aw aY;simp only[af];have ay:=qh af;rw[af]at aP;clear af;go_wp2
 go_loopg [7] B (fun gk iv wr=>∃ (i:Nat) (ao:Option Addr) (V co:Nat) (G:List Pl.Tm),iv = .int .i64 i/\i<=B/\B<=i+gk/\V<=i/\Ext w1 wr/\Arr wr PB 65 (pL vars ao V co)/\Hid (TO wr b0 PB ao V co G)/\Hid (Pl.SS E G i))
 case atStart=>exact⟨0,none,0,0,[],rfl,f8 _,by omega,lrf _,b8,aq,aw,aj⟩
 case round =>
  clear aw aj aq b8;obtain⟨i,ao,V,co,G,rfl,cR,cQ,cT,hE,ap,HO,HS⟩:=hrel;by_cases hi:i<B
  case neg =>
   have cd:¬ (i:Int)<B:=by omega
   have bl:G=Pl.grp E:=by
    have h1:=HS.out;rw[show i=E.length by rw[t1.len];omega]at h1;exact h1.done
   have z0:=ap.c 0 rfl;have z1:=ap.c 1 rfl;have be:=bd.ext hE;have HX:Hid (Pl.Canon N G/\∀ x,Pl.coef G x=Pl.coef l x):=by rw[bl];exact HG
   clear bl HG HS ap
   go_wp2_with(refine Aa (vs:=pL vars ao V co) rfl rfl rfl rfl rfl Av be rfl (AX _ _ _ _) ?_;intro w9 bU a8)
   have c8:=(HO.out.keptA be (by decide) (by decide) (by decide) hw a8).mono (jt aY.out);exact eZ (Aq rfl Av rfl bU) rfl ⟨ao,V,co,G,rfl,(aS.trans hE).grownR a8 (lrf _),c8,by have:=bG.out;omega,HX.out.1,HX.out.2⟩
  have cd:(i:Int)<B:=by omega
  have X:i<E.length:=by rw[t1.len];exact hi
  obtain⟨f,m,cJ,s1,x1,m1,d1,y1,g1,h1,F,cv,f1,rfl,a4,C,aX,bn,bh,aQ⟩:=(t1.ext hE).row hi;have bx:N=cv:=by have q1:=aQ.1.len;have q2:=(a3.get (i:=i) X).1;omega
  subst bx;have bQ:wr.cell? ⟨f,m+i*5,none⟩=some (.bool s1):=by have:=a4.cl hi (j:=0) (by omega);rw[C]at this;exact this
  have bR:wr.cell? ⟨f,m+i*5+1,none⟩=some (.slice x1 m1 d1):=by have:=a4.cl hi (j:=1) (by omega);rw[C]at this;exact this
  have bS:wr.cell? ⟨f,m+i*5+2,none⟩=some (.bool false):=by have:=a4.cl hi (j:=2) (by omega);rw[C]at this;exact this
  have bT:wr.cell? ⟨f,m+i*5+3,none⟩=some (.slice y1 g1 h1):=by have:=a4.cl hi (j:=3) (by omega);rw[C]at this;exact this
  have aZ:wr.cell? ⟨f,m+i*5+4,none⟩=some (.slice F N f1):=by have:=a4.cl hi (j:=4) (by omega);rw[C]at this;exact this
  have bf:=Arr.new wr 109 (Ar false none 0 0 false none 0 0);have av:Hid (Pl.SI E i (i+1) (E.getD i tz) (E.getD i tz).2):=qh (Pl.SI.start (getD_some X));clear a4 C
  go_upto_region 6 with(refine Aa (vs:=Ar s1 x1 m1 d1 false y1 g1 h1) rfl rfl rfl rfl rfl A5 bf rfl (Ao _ _ _ _ _ _ _ _) ?_;intro wa al bj)
  have ac:Ext wr wa:=((Ext.refl wr).alloc _).grownR bj (lrf _);have az:Hid (QV wa (.agg (Ar s1 x1 m1 d1 false y1 g1 h1).toArray) (E.getD i tz).2):=qh ⟨s1,x1,m1,d1,y1,g1,h1,rfl,aX,bn.ext ac,bh.ext ac⟩;have bE:Hid (w1.heap.size<=wr.heap.size):=qh hE.size;obtain⟨CB,ak⟩:∃ CB,wr.heap.size=CB:=⟨_,rfl⟩;simp only[ak]at al bE;simp only[ak];have cL:Hid (CB<=CB):=qh (lrf _);have bD:Hid (wr.heap.size<=CB):=qh (kV ak);clear bf bj aX bn bh ak bQ bR bS bT;have bw:i+1<=B:=hi
  go_upto_block 2 with(fail)
  go_cut [9] from 25 to 54 (fun kv o=>∃ (k:Nat) (U:Rat) (M:Bool) (O:Option Addr) (L I:Nat) (P:Option Addr) (J K:Nat),kv = .int .i64 k/\k<=B/\i<k/\Ext wr o/\Arr o CB 109 (Ar M O L I false P J K)/\Hid (QV o (.agg (Ar M O L I false P J K).toArray) U)/\Hid (Pl.SS E (if U=0 then G else G ++ [((E.getD i tz).1,U)]) k))
  case first =>
   go_wp2_with fail
   go_loopw[9] (fun kv o=>∃ (k:Nat) (U:Rat) (M:Bool) (O:Option Addr) (L I:Nat) (P:Option Addr) (J K:Nat),kv = .int .i64 k/\k<=B/\i<k/\Ext wr o/\Arr o CB 109 (Ar M O L I false P J K)/\Hid (QV o (.agg (Ar M O L I false P J K).toArray) U)/\Hid (Pl.SI E i k (E.getD i tz) U)) (fun kv _=>B-(intOf kv).toNat)
   case atStart=>exact⟨i+1,_,s1,x1,m1,d1,y1,g1,h1,by go_num,bw,Nat.lt_succ_self _,ac,al,az,av⟩
   case round =>
    clear ac al az av;obtain⟨k,U,M,O,L,I,P,J,K,rfl,ag,aN,A,s,HV,HI⟩:=hrel;have ad:=hE.trans A;have gi:=A.cell aZ;by_cases hk:k<B
    case neg =>
     have ce:¬ (k:Int)<B:=by omega
     go_upto_region 7 with(fail)
     go_quiet (fail)
     have b:Ext wr (wr.drewN nq):=(Qt.drewN (Qt.refl wr) nq).ext;generalize wr.drewN nq=o at *
     have R:=qh (HI.out.stop HS.out (fun y hy=>by rw[fi (by rw[t1.len];omega)]at hy;cases hy));have aH:=A.trans b;have aE:=s.ext b;have aA:=qh (HV.out.ext b);clear HV HI A s b gi ad
     go_wp2_with fail
     go_meet
     exact⟨k,U,M,O,L,I,P,J,K,rfl,ag,aN,aH,aE,aA,R⟩
    have ce:(k:Int)<B:=by omega
    have H:k<E.length:=by rw[t1.len];exact hk
    obtain⟨cO,cV,cK,s2,x2,m2,d2,y2,g2,h2,aa,cw,f2,bg,a5,D,aj,cg,cb,bq⟩:=(t1.ext ad).row hk;simp only[fc,gV,iL]at bg;obtain⟨rfl,rfl⟩:=bg;have bz:N=cw:=by have q1:=bq.1.len;have q2:=(a3.get (i:=k) H).1;omega
    subst bz;have b2:wr.cell? ⟨f,m+k*5,none⟩=some (.bool s2):=by have:=a5.cl hk (j:=0) (by omega);rw[D]at this;exact this
    have b3:wr.cell? ⟨f,m+k*5+1,none⟩=some (.slice x2 m2 d2):=by have:=a5.cl hk (j:=1) (by omega);rw[D]at this;exact this
    have b4:wr.cell? ⟨f,m+k*5+2,none⟩=some (.bool false):=by have:=a5.cl hk (j:=2) (by omega);rw[D]at this;exact this
    have b5:wr.cell? ⟨f,m+k*5+3,none⟩=some (.slice y2 g2 h2):=by have:=a5.cl hk (j:=3) (by omega);rw[D]at this;exact this
    have aD:wr.cell? ⟨f,m+k*5+4,none⟩=some (.slice aa N f2):=by have:=a5.cl hk (j:=4) (by omega);rw[D]at this;exact this
    have au:=qh (fun(wy:World) (b:Ext wr wy)=>EJ ((aQ.ext A).1.ext b) (bq.1.ext b) hN (a3.get (i:=i) X).2 (a3.get (i:=k) H).2);obtain⟨r,hr⟩:∃ r,Pl.ordE (E.getD i tz).1 (E.getD k tz).1=r:=⟨_,rfl⟩;have HR:=qh hr;rw[hr]at au;clear hr a5 D;by_cases ah:r=0
    · have bA:(r == 0)=true:=by simp[ah]
      go_upto_region 7 with(fail)
      have S:=fun(o:World) (b:Ext wr o)=>qh (And.intro (b.cell gi) (b.cell aD))
      refine Ac
       [hdI k,hdS (some ⟨f,m,none⟩) B c1,hdI B,hdB true,hdB true,hdS (some ⟨f,m,none⟩) B c1,hdI i,hdP f (m+i*5),hdP f ((m+i*5)+4),hdS F N f1,hdS (some ⟨f,m,none⟩) B c1,hdI k,hdP f (m+k*5),hdP f ((m+k*5)+4),hdS aa N f2,hp (fun v o=>v = .int .i64 r),hdB true,hdB true]
       ⟨fun v w w' e h=>h,trivial⟩ ⟨?o0,?o1,?o2,?o3,?o4,?o5,?o6,?o7,?o8,?o9,?o10,?o11,?o12,?o13,?o14,?o15,?o16,?o17,trivial⟩ ?fin
      case o0 | o1 | o4 | o5 | o6 | o10 | o11=>exact omv
      case o8 | o13=>exact ofa (d:=4)
      case o9 | o14=>exact ol
      case o2 =>
       refine Ae rfl fun Q o b p h => ?_;have e0:_=_:=h.1;obtain⟨kx,ky⟩:=(S o b).out;go_simp
      case o3 =>
       refine Ae rfl fun Q o b p h => ?_;have e0:_=_:=h.1;have W:_=_:=h.2.1;obtain⟨kx,ky⟩:=(S o b).out;go_simp
       try (first | (intros;omega) | exact eT _ (by omega))
      case o7 =>
       refine Ae rfl fun Q o b p h => ?_;have e0:_=_:=h.1;have W:_=_:=h.2.1;obtain⟨kx,ky⟩:=(S o b).out;go_simp
       try (first | (intros;omega) | exact eT _ (by omega))
      case o12 =>
       refine Ae rfl fun Q o b p h => ?_;have e0:_=_:=h.1;have W:_=_:=h.2.1;obtain⟨kx,ky⟩:=(S o b).out;go_simp
       try (first | (intros;omega) | exact eT _ (by omega))
      case o15 =>
       refine Ah rfl fun Q o b p aL h => ?_;have W:_=_:=h.2.1;have e2:_=_:=h.2.2.1;obtain⟨kx,ky⟩:=(S o b).out;refine⟨79,#[.slice F N f1,.slice aa N f2],by go_simp,(au.out o b).mono ?_⟩;rintro e w' ⟨rfl,aK⟩;exact⟨_,rfl,aK.ext,rfl⟩
      case o16 =>
       refine Ae rfl fun Q o b p h => ?_;obtain⟨v0,e0,rfl⟩:=h.1;obtain⟨kx,ky⟩:=(S o b).out;go_simp
       try (first | (intros;omega) | exact eT _ (by omega))
      case o17 =>
       refine Ae rfl fun Q o b p h => ?_;have e0:_=_:=h.1;have W:_=_:=h.2.1;obtain⟨kx,ky⟩:=(S o b).out;go_simp
      case fin =>
       intro o b;rintro _ rfl;change wpList _ _ _ _ _ _;simp only[Bs];generalize cr:o=wz at *
       clear cr;have ab:=b;have Y:=s.c 0 rfl;have Z:=s.c 1 rfl;have a0:=s.c 2 rfl;have a2:=s.c 3 rfl;have he:(E.getD i tz).1=(E.getD k tz).1:=Pl.ordE_eq (by rw[(a3.get (i:=i) X).1,(a3.get (i:=k) H).1]) (by rw[HR.out];exact ah);have bF:=qh (HI.out.step (getD_some H) he);have aT:=HI.out.rb bo;have aU:=bo.one (gT (getD_some H))
       have bv:=qh (fun(wy:World) (b:Ext wz wy)=>Qm (HV.out.ext (ab.trans b)) (v' := .agg #[.bool s2,.slice x2 m2 d2,.bool false,.slice y2 g2 h2]) (q:=(E.getD k tz).2) ⟨s2,x2,m2,d2,y2,g2,h2,rfl,aj,cg.ext (ab.trans b),cb.ext (ab.trans b)⟩ aT aU);have q0:=b.cell Y;have q1:=b.cell Z;have q2:=b.cell a0;have q3:=b.cell a2;have r0:=b.cell b2;have r1:=b.cell b3;have r2:=b.cell b4;have r3:=b.cell b5;have b7:=s.ext b;have ae:=A.trans b;clear aT aU Y Z a0 a2 b2 b3 b4 b5 aD gi he ah
       go_upto_region 8 with(fail)
       have aW:=fun(o:World) (b:Ext wz o)=>qh (And.intro (b.cell q0) (And.intro (b.cell q1) (And.intro (b.cell q2) (And.intro (b.cell q3) (And.intro (b.cell r0) (And.intro (b.cell r1) (And.intro (b.cell r2) (b.cell r3))))))))
       refine Ac
        [he (.agg #[.bool M,.slice O L I,.bool false,.slice P J K]),hdS (some ⟨f,m,none⟩) B c1,hdI k,hdP f (m+k*5),hdP f (m+k*5),he (.agg #[.bool s2,.slice x2 m2 d2,.bool false,.slice y2 g2 h2]),hp (fun v o=>QV o v (U+(E.getD k tz).2))]
        ⟨fun v w w' e h=>QV.ext h e,trivial⟩ ⟨?o0,?o1,?o2,?o3,?o4,?o5,?o6,trivial⟩ ?fin
       case o0 | o5=>exact ol4
       case o1 | o2=>exact omv
       case o4=>exact ofa (d:=0)
       case o3 =>
        refine Ae rfl fun Q o b p h => ?_;have e0:_=_:=h.1;have W:_=_:=h.2.1;obtain⟨cx,cy,cz,cA,cB,cC,cD,cE⟩:=(aW o b).out;go_simp
        try (first | (intros;omega) | exact eT _ (by omega))
       case o6 =>
        refine Ah rfl fun Q o b p aL h => ?_;have W:_=_:=h.2.1;have e2:_=_:=h.2.2.1;obtain⟨cx,cy,cz,cA,cB,cC,cD,cE⟩:=(aW o b).out;refine⟨128,#[.agg #[.bool M,.slice O L I,.bool false,.slice P J K],.agg #[.bool s2,.slice x2 m2 d2,.bool false,.slice y2 g2 h2]],by go_simp,(bv.out o b).mono ?_⟩;rintro e w' ⟨s',a',n',c',b',m',d',rfl,bW,ck,ci,cf⟩;exact⟨_,rfl,bW,s',a',n',c',b',m',d',rfl,ck,ci,cf⟩
       case fin =>
        intro o b;rintro _ ⟨s9,a9,n9,c9,b9,m9,d9,rfl,bL,cs,ct⟩;change wpList _ _ _ _ _ _;simp only[Bs];have aF:=b7.ext b;have bZ:=ae.trans b
        go_wp2_with(refine Aa (vs:=Ar s9 a9 n9 c9 false b9 m9 d9) rfl rfl rfl rfl rfl A5 aF rfl (Ao _ _ _ _ _ _ _ _) ?_;intro w9 bV a8)
        have bB:=cs.keptA aF (by decide) a8;have bC:=ct.keptA aF (by decide) a8;go_roundw
        case rel=>exact⟨k+1,_,s9,a9,n9,c9,b9,m9,d9,by go_num,by omega,by omega,bZ.grownR a8 bD.out,bV,qh ⟨s9,a9,n9,c9,b9,m9,d9,rfl,bL,bB,bC⟩,bF⟩
        case measure=>simp[intOf];omega
    · have bA:(r == 0)=false:=by simpa using ah
      go_upto_region 7 with(fail)
      have T:=fun(o:World) (b:Ext wr o)=>qh (And.intro (b.cell gi) (b.cell aD))
      refine Ac
       [hdI k,hdS (some ⟨f,m,none⟩) B c1,hdI B,hdB true,hdB true,hdS (some ⟨f,m,none⟩) B c1,hdI i,hdP f (m+i*5),hdP f ((m+i*5)+4),hdS F N f1,hdS (some ⟨f,m,none⟩) B c1,hdI k,hdP f (m+k*5),hdP f ((m+k*5)+4),hdS aa N f2,hp (fun v o=>v = .int .i64 r),hdB false,hdB false]
       ⟨fun v w w' e h=>h,trivial⟩ ⟨?o0,?o1,?o2,?o3,?o4,?o5,?o6,?o7,?o8,?o9,?o10,?o11,?o12,?o13,?o14,?o15,?o16,?o17,trivial⟩ ?fin
      case o0 | o1 | o4 | o5 | o6 | o10 | o11=>exact omv
      case o8 | o13=>exact ofa (d:=4)
      case o9 | o14=>exact ol
      case o2 =>
       refine Ae rfl fun Q o b p h => ?_;have e0:_=_:=h.1;obtain⟨kx,ky⟩:=(T o b).out;go_simp
      case o3 =>
       refine Ae rfl fun Q o b p h => ?_;have e0:_=_:=h.1;have W:_=_:=h.2.1;obtain⟨kx,ky⟩:=(T o b).out;go_simp
       try (first | (intros;omega) | exact eT _ (by omega))
      case o7 =>
       refine Ae rfl fun Q o b p h => ?_;have e0:_=_:=h.1;have W:_=_:=h.2.1;obtain⟨kx,ky⟩:=(T o b).out;go_simp
       try (first | (intros;omega) | exact eT _ (by omega))
      case o12 =>
       refine Ae rfl fun Q o b p h => ?_;have e0:_=_:=h.1;have W:_=_:=h.2.1;obtain⟨kx,ky⟩:=(T o b).out;go_simp
       try (first | (intros;omega) | exact eT _ (by omega))
      case o15 =>
       refine Ah rfl fun Q o b p aL h => ?_;have W:_=_:=h.2.1;have e2:_=_:=h.2.2.1;obtain⟨kx,ky⟩:=(T o b).out;refine⟨79,#[.slice F N f1,.slice aa N f2],by go_simp,(au.out o b).mono ?_⟩;rintro e w' ⟨rfl,aK⟩;exact⟨_,rfl,aK.ext,rfl⟩
      case o16 =>
       refine Ae rfl fun Q o b p h => ?_;obtain⟨v0,e0,rfl⟩:=h.1;obtain⟨kx,ky⟩:=(T o b).out;go_simp
       try (first | (intros;omega) | exact eT _ (by omega))
      case o17 =>
       refine Ae rfl fun Q o b p h => ?_;have e0:_=_:=h.1;have W:_=_:=h.2.1;obtain⟨kx,ky⟩:=(T o b).out;go_simp
      case fin =>
       intro o b;rintro _ rfl;change wpList _ _ _ _ _ _;simp only[Bs];have R:=qh (HI.out.stop HS.out (fun y hy he=>by rw[getD_some H]at hy;rw[<-fe hy]at he;rw[he,Pl.ordE_self]at HR;exact ah HR.out.symm));have aH:=A.trans b;have aE:=s.ext b;have aA:=qh (HV.out.ext b);clear HV HI A s b gi ad
       go_wp2_with fail
       go_meet
       exact⟨k,U,M,O,L,I,P,J,K,rfl,ag,aN,aH,aE,aA,R⟩
  case rest =>
   clear ac al az av;obtain⟨k,U,M,O,L,I,P,J,K,rfl,ag,aN,A,s,HV,R⟩:=hcut;have ad:=hE.trans A;have gi:=A.cell aZ;have c6:=ap.ext A;have bJ:=qh (HO.out.ext A);have Y:=s.c 0 rfl;have Z:=s.c 1 rfl;have a0:=s.c 2 rfl;have a2:=s.c 3 rfl;have b:=Ext.refl wc;have ab:=b;have ae:=ad.trans b;have aJ:=c6.ext b;have ax:=qh (bJ.out.ext b);have b7:=s.ext b;have aB:=qh (HV.out.ext b);have q0:=b.cell Y;have q1:=b.cell Z;have q2:=b.cell a0;have q3:=b.cell a2;have b1:=b.cell gi;obtain⟨sg,ai⟩:∃ sg,U.num.sign=sg:=⟨_,rfl⟩
   have aR:=qh (KG aB.out ai);by_cases a6:U=0
   · have cm:sg=0:=by rw[<-ai,a6];rfl
     have HN:Hid (Pl.SS E G k):=by have:=R.out;rw[fE a6]at this;exact qh this
     subst cm;clear ai a6 R Y Z a0 a2 gi
     go_wp2_with fail
     refine aR.out.mono ?_;rintro e w5 ⟨rfl,z⟩;have ar:V<=k:=by omega
     go_wp2
     go_roundg (B-k)
     case rel=>exact⟨k,ao,V,co,G,rfl,ag,by omega,ar,ae.trans z,aJ.ext z,qh (ax.out.ext z),HN⟩
     case measure=>omega
   · have cn:¬ sg=0:=by rw[<-ai];exact GV a6
     have cU:((sg:Int) == 0)=false:=by simpa using cn
     have HN:Hid (Pl.SS E (G ++ [((E.getD i tz).1,U)]) k):=by have:=R.out;rw[fl a6]at this;exact qh this
     clear ai a6 R Y Z a0 a2 gi
     go_wp2_with fail
     refine aR.out.mono ?_;rintro e w5 ⟨rfl,z⟩;have ba:=aJ.ext z;have bK:=qh (ax.out.ext z);have bN:=qh (aB.out.ext z);have u0:=z.cell q0;have u1:=z.cell q1;have u2:=z.cell q2;have u3:=z.cell q3;have aC:=z.cell b1;have pp:=ba.c 1 rfl;clear q0 q1 q2 q3 b1 aJ ax aB
     go_upto_region 11 with(fail)
     refine Ac
      [hdP PB 1,hdS ao V co,he (.agg #[.bool M,.slice O L I,.bool false,.slice P J K]),hdS (some ⟨f,m,none⟩) B c1,hdI i,hdP f (m+i*5),hdP f ((m+i*5)+4),hdS F N f1,he (.agg #[.bool M,.slice O L I,.bool false,.slice P J K,.slice F N f1]),hp (fun v wc=>∃ g,v = .slice (some ⟨g,0,none⟩) 1 1/\Arr wc g 111 (tL M O L I P J K F N f1))]
      ⟨fun v w w' e ⟨g,h1,h2⟩=>⟨g,h1,h2.ext e⟩,trivial⟩ ⟨?o0,?o1,?o2,?o3,?o4,?o5,?o6,?o7,?o8,?o9,trivial⟩ ?fin
     case o0=>exact ofa (d:=1)
     case o1 | o7=>exact ol
     case o2=>exact ol4
     case o3 | o4=>exact omv
     case o6=>exact ofa (d:=4)
     case o5 =>
      refine A8 rfl ?_;intro Q wc hp b h;have p:=hp.const;have e0:_=_:=h.1;have W:_=_:=h.2.1;have br:=b.cell u0;have bs:=b.cell u1;have bt:=b.cell u2;have bu:=b.cell u3;have kg:=b.cell aC;have kp:=b.cell pp;go_simp
      try (first | (intros;omega) | exact eT _ (by omega))
     case o8 =>
      refine A8 rfl ?_;intro Q wc hp b h;have p:=hp.const;have e0:_=_:=h.1;have W:_=_:=h.2.1;have br:=b.cell u0;have bs:=b.cell u1;have bt:=b.cell u2;have bu:=b.cell u3;have kg:=b.cell aC;have kp:=b.cell pp;go_simp
     case o9 =>
      refine Cv rfl ?_;intro Q wc hp b h;have p:=hp.const;have aL:=hp.func;have e0:_=_:=h.1;have br:=b.cell u0;have bs:=b.cell u1;have bt:=b.cell u2;have bu:=b.cell u3;have kg:=b.cell aC;have kp:=b.cell pp;refine⟨_,_,?_,(Ext.refl wc).alloc (.cells (tL M O L I P J K F N f1).toArray 111),wc.heap.size,rfl,Arr.new wc 111 (tL M O L I P J K F N f1)⟩;simp[execOp,e0,Gt underlying63 BZ];rfl
     case fin =>
      intro wc b;rintro _ ⟨g9,rfl,c0⟩;change wpList _ _ _ _ _ _;simp only[Bs];obtain⟨cN,hK,c3,c2⟩:=bK.out;have aI:=hK.ext b;have hL:=BA (k:=5) c0 rfl;have bb:=ba.ext b;have cj:=aI.ne bb (by decide);have cM:=(ae.trans (z.trans b)).size;have cp:PB<=wc.heap.size:=by have:=ay.out;omega
      go_wp2_with(refine CC rfl rfl underlying63 BZ rfl aI rfl hL (by intro r hr u hu;rw[eV.1 hr]at hu;exact FF u hu) (by unfold maxLen;omega) (by omega) cp ?_;intro a7 c7 w7 c4 aM cP;have an:=bb.kept aM cj;have cX:=an.frozen 1;have cW:w7.cell? ⟨PB,1,none⟩=some (.slice ao V co):=an.cell (i:=1) (by simp[pL]))
      obtain⟨cG,cH,cF,bO,cI,bP,ca,aO,bM,ch,cc⟩:=bN.out;have aV:(Ar M O L I false P J K)=(Ar cG cH cF bO false cI bP ca):=by injection aO with aO;exact List.toArray_inj aO
      simp only[Ar,Aj,iT,iI,jw,Value.bool.injEq,eY,iL,kX]at aV;obtain⟨rfl,⟨rfl,rfl,rfl⟩,rfl,rfl,rfl⟩:=aV;have bH:=TO.grow aI c3 (fun j hj=>(c2 j hj).ext b) (⟨M,O,L,I,P,J,K,F,N,f1,rfl,bM,ch.ext b,cc.ext b,aQ.ext ((A.trans ab).trans (z.trans b))⟩:TC _ b0 (tL M O L I P J K F N f1) ((E.getD i tz).1,U)) aP c4 aM;have bX:Ext w1 w7:=(ae.trans (z.trans b)).grown aM (fun k hk=>by have:=(hK.lt hk).1;rw[ay.out];exact this);have bk:=Ab w7 PB 1 (.slice a7 (V+1) c7)
      have c5:Arr (w7.setCell ⟨PB,1,none⟩ (.slice a7 (V+1) c7)) PB 65 (pL vars a7 (V+1) c7):=an.set 1 _;have bI:=bH.keptA an (by decide) (by decide) (by decide) aP bk;have bY:=bX.grownR bk (kV ay.out);have ar:V+1<=k:=by omega
      go_roundg (B-k)
      case rel=>exact⟨k,a7,V+1,c7,_,rfl,ag,by omega,ar,bY,c5,qh bI,HN⟩
      case measure=>omega
def nD(v:Nat):List UInt8:=if v=0 then []else Lib.decDigits v
theorem N7:nD 0=[]:=fE rfl
theorem KN{v:Nat}(h:0<v):nD v=Lib.decDigits v:=fl (by omega)
theorem TN{v:Nat}:nD v=[]<->v=0:=by
 unfold nD;split
 · simp[*]
 · simp[*,W.dec_ne]
theorem Sk{v d:Nat}(a:d<10):nD (10*v+d)=if v=0/\d=0 then []else nD v ++ [UInt8.ofNat (48+d)]:=by
 by_cases h0:v=0
 · subst h0;by_cases h1:d=0
   · subst h1;rfl
   · rw[fl (by omega),N7,KN (by omega),Lib.decDigits,dif_pos (by omega)];simp
 · rw[fl (by omega),KN (by omega),KN (by omega),Lib.decDigits,dif_neg (by omega)];have h1:(10*v+d)/10=v:=by omega
   have h2:(10*v+d)%10=d:=by omega
   rw[h1,h2]
theorem Sm{H p j:Nat}(a:j<=8):H*10^(j+1)+p/10^(8-j)=10*(H*10^j+p/10^(9-j))+p/10^(8-j)%10:=by
 have h1:10^(9-j)=10^(8-j)*10:=by rw[<-fT];congr 1;omega
 have h2:H*10^(j+1)=10*(H*10^j):=by rw[fT];grind
 rw[h1,<-jm,h2];generalize p/10^(8-j)=t;generalize H*10^j=u;omega
def dD(j:Nat):Nat:=if j<=8 then 10^(8-j)else 0
theorem TP(j:Nat):dD (j+1)=dD j/10:=by
 unfold dD;by_cases h:j<=7
 · rw[fE (by omega),fE (by omega)];have h1:10^(8-j)=10^(8-(j+1))*10:=by rw[<-fT];congr 1;omega
   rw[h1];omega
 · by_cases h8:j=8
   · subst h8;rfl
   · rw[fl (by omega),fl (by omega)]
def Eh(l:List UInt8):Option Nat:=if(!l.isEmpty && l.all JM)=true then some (W.decV l)else none
theorem Gu(h:W.digs l)(a:l≠[]):Eh l=some (W.decV l):=by
 unfold Eh;rw[fE];simp only[gJ,lu,List.isEmpty_eq_false_iff,il];exact⟨a,fun c b=>Dz.2 (h c b)⟩
def LH(l:List UInt8):Option Rat :=
 let neg:Bool:=decide (l.head?=some 45)
 let t:=if neg=true then l.tail else l
 let a:=t.takeWhile (· != 47)
 let b:=t.dropWhile (· != 47)
 match Eh a with
 | none=>none
 | some n =>
  if b=[]then some (mkRat (if neg=true then -(n:Int)else n) 1)
  else match Eh b.tail with
   | none=>none
   | some d=>if d=0 then none else some (mkRat (if neg=true then -(n:Int)else n) d)
theorem UL(a:W.digs d)(e:∀ c,r.head?=some c->c=47):(d ++ r).takeWhile (· != 47)=d/\(d ++ r).dropWhile (· != 47)=r:=by
 induction d with
 | nil =>
  cases r with
  | nil=>exact⟨rfl,rfl⟩
  | cons c t =>
   have:=e c rfl;subst this;exact⟨rfl,rfl⟩
 | cons x t ih =>
  have f:(x != 47)=true:=by
   simp only[m5,ne_eq];rintro rfl;exact TM (a 47 (by simp))
  have:=ih (fun c b=>a c (by simp[b]));simp[f,this]
theorem Qo(q:Rat):LH (txt q)=some q:=by
 have o:=O4 q;have l:=W.digs_dec q.num.natAbs;have e:=W.dec_ne q.num.natAbs;rw[o.eq];generalize f:decide (q.num<0)=a;have g:(if a=true then -(q.num.natAbs:Int)else(q.num.natAbs:Int))=q.num:=by
  subst f;by_cases h:q.num<0
  · simp only[h,jU,j0];omega
  · simp only[h,kD];simp;omega
 obtain⟨c,t,d⟩:=iq e;have m:c≠45:=by rintro rfl;exact TL (l 45 (by rw[d];simp))
 generalize j:(if(if q.den=1 then []else Lib.decDigits q.den)=[]then []else 47 :: (if q.den=1 then []else Lib.decDigits q.den))=R;have n:decide (((if a=true then [45]else []) ++ (Lib.decDigits q.num.natAbs ++ R)).head?=some 45)=a:=by
  rw[d];cases a <;> simp[m]
 have p:(if a=true then((if a=true then [45]else []) ++ (Lib.decDigits q.num.natAbs ++ R)).tail else(if a=true then [45]else []) ++ (Lib.decDigits q.num.natAbs ++ R))=Lib.decDigits q.num.natAbs ++ R:=by
  cases a <;> simp
 have hcut:=UL (r:=R) l (by
  intro x i;rw[<-j]at i;split at i
  · simp at i
  · simpa[W.dec_ne]using i.symm)
 unfold LH;simp only[n,p,hcut.1,hcut.2,Gu l e,W.decV_dec,g];by_cases h1:q.den=1
 · have k:R=[]:=by rw[<-j];simp[h1]
   rw[fE k];have:=kG q;rw[h1]at this;rw[this]
 · have b:R=47 :: Lib.decDigits q.den:=by rw[<-j];simp[h1,W.dec_ne]
   rw[fl (by rw[b];simp),b,kJ,Gu (W.digs_dec _) (W.dec_ne _),W.decV_dec];simp only[fl q.den_nz,kG]
theorem Gv(h:AZ l=some q):LH l=some q:=by rw[DA h];exact Qo q
theorem Sn{r:Rat}(h:LH l=some r):(AZ l).isSome=decide (txt r=l):=by
 by_cases a:txt r=l
 · rw[<-a,E0];simp
 · cases b:AZ l with
   | none=>simp[a]
   | some q =>
    have h1:=Gv b;rw[h]at h1;injection h1 with h1;subst h1;exact absurd (DA b).symm a
theorem Gw(h:LH l=none):AZ l=none:=by
 cases a:AZ l with
 | none=>rfl
 | some q=>rw[Gv a]at h;cases h
theorem Pd{k c':Nat}(h:Own w base e a n c xs)(f:Own w base' e' a' k c' ys)(he:e≠e'):blk a=none\/blk a≠blk a':=by
 cases i:blk a with
 | none=>exact .inl rfl
 | some g =>
  refine .inr fun j => ?_;obtain⟨l,m,h1⟩:=Own.ty h g i;obtain⟨b,d,h2⟩:=Own.ty f g j.symm;rw[h1]at h2;simp only[fc,jp]at h2;exact he h2.2.1
theorem Mg.apart(h:Mg w a n c x)(d:w.grownBy w' row)(b:blk a=none\/blk a≠row):Mg w' a n c x:=by
 obtain⟨e,h1,h2,h3⟩:=h;exact⟨e,h1.kept d b,h2,h3.kept d b⟩
theorem JQ(h:1000000000^n<=x)(a:x<P2 (32*k)):n<=2*k:=by
 refine kR fun b => ?_;unfold P2 at a;have h1:2^(29*n)<=1000000000^n:=by rw[j9];exact iM (by omega) _
 have h2:2^(32*k)<=2^(29*n):=fd (by omega) (by omega);omega
theorem Gx:x/T^n/T=x/T^(n+1):=by rw[jm,fT]
theorem MT(a:ps.length=n)(h:∀ i,i<n->ps.getD i 0=x/T^i%T):∀ i,i<n+1->(ps ++ [x/T^n%T]).getD i 0=x/T^i%T:=by
 intro i b;by_cases h1:i<n
 · rw[gqq,f4 (by omega),<-gqq];exact h i h1
 · have:i=n:=by omega
   subst this;rw[gqq,fF (by omega),a,iW];rfl
structure DS(w wr:World)(x:Nat)(ps:List Nat)(a:Option Addr)(n c:Nat)(b:Option Addr)(m d:Nat):Prop where
 ext:Ext w wr
 own:Own wr w.heap.size 187 a n c (ps.map (Bk .u32))
 mg:Mg wr b m d (x/1000000000^n)
 ap:blk a=none\/blk b=none\/blk b≠blk a
 ps:∀ i,i<n->ps.getD i 0=x/1000000000^i%1000000000
 low:n=0\/1000000000^(n-1)<=x
structure DW(w wr:World)(x:Nat)(ps:List Nat)(a:Option Addr)(n c:Nat)(b:Option Addr)(m d:Nat)(l:List UInt8):Prop where
 ext:Ext w wr
 own:Own wr w.heap.size 187 a n c (ps.map (Bk .u32))
 out:Own wr w.heap.size 5 b m d (l.map AA)
theorem Ih(h:ZR w v z)(bz:z.natAbs<P2 3200000) :
 Calls prog 162 #[v] w fun e w'=>e = .returned (.string ⟨(Lib.decDigits z.natAbs).toArray⟩)/\Ext w w':=by
 obtain⟨s,a,n,c,rfl,HS,hx⟩:=h;have K:=hx.zero;generalize z.natAbs=x at *
 clear HS;by_cases h0:n=0
 · have L:x=0:=K.1 h0;subst h0;subst L;have o:Hid ((⟨(Lib.decDigits 0).toArray⟩:ByteArray)={ data:=#[48] }):=by show _=_;rw[W.dec_zero]
   clear K bz
   go_enter func162,ntmps162
   go_upto_region 1 with(fail)
   refine AK ?_;intro w0 y G af;have aC:=G.c 1 rfl;go_wp2;go_ret;exact⟨by rw[o.out];rfl,y⟩
 · have ae:x≠0:=fun h=>h0 (K.2 h);have ad:((n:Int) == 0)=false:=by simpa using h0
   have a5:=qh ae;have F:=qh bz;clear K h0 bz ae
   go_enter func162,ntmps162
   go_upto_region 1 with(fail)
   refine AK ?_;intro w0 y G af;have aC:=G.c 1 rfl;have L:=hx.ext y;have a0:Hid (DS w w0 x [] none 0 0 a n c):=qh ⟨y,Own.nil _ _ _,by rw[iP,ko];exact L,.inl rfl,fun i hi=>by omega,.inl rfl⟩;clear G af hx L;go_wp2
   go_loopg [3,4] x (fun gk pv mv wr=>∃ (a:Option Addr) (n c:Nat) (b:Option Addr) (m d:Nat) (M:List Nat),pv = .slice a n c/\mv = .slice b m d/\x/1000000000^n<=gk/\Hid (DS w wr x M a n c b m d))
   case atStart=>exact⟨none,0,0,a,n,c,[],rfl,rfl,by rw[iP,ko];exact lrf _,a0⟩
   case round =>
    clear a0 y;obtain⟨a,n,c,b,m,d,M,rfl,rfl,aK,o⟩:=hrel;by_cases hm:0<m
    · have ap:(0:Int)<m:=by omega
      have g:0<x/1000000000^n:=by
       have:=o.out.mg.zero;refine iE fun h => ?_;have:=this.2 h;omega
      have U:1000000000^n<=x:=by
       refine kR fun hc => ?_;rw[gX hc]at g;omega
      have aw:n<=200000:=JQ (k:=100000) U F.out;have au:m<=100000:=o.out.mg.len (k:=100000) (fU (gh _ _) F.out);have az:=qh (Fl o.out.mg au (dd:=1000000000) (by omega) (by omega));have A:=o.out.ext;have l:=o.out.own;have aj:=qh U;have P:=qh g;clear U g ad
      go_wp2_with fail
      refine az.out.mono ?_;rintro e w3 ⟨n3,c3,rfl,S,aq⟩;have aA:=S.size;have aF:=A.size;have al:=l.ext S;obtain⟨r,hr⟩:∃ r,x/1000000000^n%1000000000=r:=⟨_,rfl⟩;rw[hr];have hA:=al.alloc (.cells #[.int .u32 (r:Int)] 187);have hL:=(Ag w3 w.heap.size 187 #[.int .u32 (r:Int)] 1 rfl (by omega) (by omega)).sl;have I:=(Ext.refl w3).alloc (.cells #[.int .u32 (r:Int)] 187);have ar:=aq.ext I;have C:∀ k,blk a=some k->w.heap.size<=k/\k<wr.heap.size:=fun k Z=>Own.lt l Z
      go_wp2_with(refine AU rfl rfl underlying105 Br rfl rfl hA rfl hL (by simp[Value.oneCell']) (by unfold maxLen;omega) (by omega) (by simp;omega) ?_;intro a7 c7 w7 T E a6)
      go_roundg (x/1000000000^(n+1))
      case rel =>
       refine⟨a7,n+1,c7,_,n3,c3,M ++ [r],rfl,rfl,lrf _,qh ⟨((A.trans S).trans I).grown E (fun k Z=>(C k Z).1),?_,?_,?_,?_,.inr (by rw[iG];exact aj.out)⟩⟩
       · rw[fM];exact T
       · rw[<-Gx];refine ar.apart E (.inr fun h => ?_);have h9:w.heap.size<=wr.heap.size/\wr.heap.size<wr.heap.size:=C wr.heap.size h.symm;omega
       · refine .inr (.inr fun h => ?_);rcases a6 with h7|h7
         · rw[h7]at h;have h9:w.heap.size<=wr.heap.size/\wr.heap.size<wr.heap.size:=C wr.heap.size h.symm;omega
         · rw[h7]at h;have h8:wr.heap.size=(w3.alloc (.cells #[.int .u32 (r:Int)] 187)).heap.size:=fe h;simp at h8;omega
       · rw[<-hr];exact MT (by have:=l.len;simpa using this) o.out.ps
      case measure =>
       have h1:=P.out;have h2:x/1000000000^(n+1)<x/1000000000^n:=by rw[<-Gx];exact Nat.div_lt_self h1 (by omega)
       omega
    · have ap:¬ (0:Int)<m:=by omega
      have g:x/1000000000^n=0:=o.out.mg.zero.1 (by omega);have ax:0<n:=by
       refine iE fun h => ?_;subst h;rw[iP,ko]at g;exact a5.out g
      have aw:n<=200001:=by
       rcases o.out.low with h|h
       · omega
       · have:=JQ (k:=100000) h F.out;omega
      have A:=o.out.ext;have l:=o.out.own;have P:=qh g;have q:Hid (DW w wr x M a n c none 0 0 []):=qh ⟨A,l,Own.nil _ _ _⟩;have ai:=qh o.out.ps;obtain⟨ab,ao,rfl,_⟩:=(show SlN .u32 wr a n c M from l.sl).at (j:=0) ax;have aS:IntKind.i64.wrap ((n:Int)-1)=(n:Int)-1:=eT _ (by omega);clear g o A l ad F;go_wp2
      go_loopw[7,8] (fun ov iv wr=>∃ (k:Nat) (b:Option Addr) (m d:Nat),ov = .slice b m d/\iv = .int .i64 ((k:Int)-1)/\k<=n/\m<=9*(n-k)/\Hid (DW w wr x M (some ⟨ab,ao,none⟩) n c b m d (nD (x/1000000000^k)))) (fun _ iv _=>(intOf iv+1).toNat)
      case atStart=>exact⟨n,none,0,0,rfl,rfl,lrf _,by omega,by rw[P.out,N7];exact q⟩
      case round =>
       clear q;obtain⟨k,b,m,d,rfl,rfl,Z,ac,q⟩:=hrel;cases k with
       | zero =>
        have B:=q.out.out;have R:=q.out.ext;have HT:Hid (nD (x/1000000000^0)=Lib.decDigits x):=by show _=_;rw[iP,ko,KN (iE a5.out)]
        rw[HT.out]at B;clear q
        go_wp2_with(refine D4 rfl rfl underlying159 underlying5 underlying9 rfl B.sl ?_)
        go_ret;exact⟨rfl,R⟩
       | succ i =>
        have aB:((i+1:Nat):Int)-1=i:=by omega
        rw[aB];go_wp2
        go_loopw[7,9] (fun ov dv wr=>∃ (j:Nat) (b:Option Addr) (m d:Nat),ov = .slice b m d/\dv = .int .u32 ((dD j:Nat):Int)/\j<=9/\m<=9*(n-(i+1))+j/\Hid (DW w wr x M (some ⟨ab,ao,none⟩) n c b m d (nD (x/1000000000^(i+1)*10^j+x/1000000000^i%1000000000/10^(9-j))))) (fun _ dv _=>(intOf dv).toNat)
        case atStart=>exact⟨0,b,m,d,rfl,rfl,by omega,ac,by rw[iP,iN,j8,gX (show x/1000000000^i%1000000000<10^9 from fN _ (by omega)),gd];exact q⟩
        case round =>
         clear q ac;obtain⟨j,b,m,d,rfl,rfl,hj,aO,q⟩:=hrel;have R:=q.out.ext;have B:=q.out.out;have hP:=q.out.own;clear q;by_cases J:j<=8
         · have aJ:0<dD j:=by unfold dD;rw[fE J];exact iu (by omega)
           have aI:dD j<=100000000:=by unfold dD;rw[fE J];exact fd (n:=10) (by omega) (show 8-j<=8 by omega)
           have ah:Hid (dD j=10^(8-j)):=by show _=_;unfold dD;rw[fE J]
           have N:Hid (dD (j+1)=dD j/10):=qh (TP j);obtain⟨p,hp⟩:∃ p,x/1000000000^i%1000000000=p:=⟨_,rfl⟩;obtain⟨H,hH⟩:∃ H,x/1000000000^(i+1)=H:=⟨_,rfl⟩;have ay:p<1000000000:=by rw[<-hp];exact fN _ (by omega)
           obtain⟨bv,ov,a8,a9⟩:=(show SlN .u32 wr _ n c M from hP.sl).at (j:=i) (by omega);simp only[fc,gV,iL]at a8;obtain⟨rfl,rfl⟩:=a8;have g1:=a9 i (by omega);rw[ai.out i (by omega),hp]at g1;obtain⟨dd,X⟩:∃ dd,p/10^(8-j)%10=dd:=⟨_,rfl⟩;have aH:dd<=9:=by omega
           have a3:Hid (nD (H*10^(j+1)+p/10^(9-(j+1)))=if H*10^j+p/10^(9-j)=0/\dd=0 then []else nD (H*10^j+p/10^(9-j)) ++ [UInt8.ofNat (48+dd)]):=by
            show _=_;rw[show 9-(j+1)=8-j by omega,Sm J,X];exact Sk (by omega)
           have O:=qh (TN (v:=H*10^j+p/10^(9-j)));rw[hp,hH]at B;generalize hv:H * 10^j+p/10^(9-j)=vv at *
           have e1:(p:Int).tdiv ((dD j:Nat):Int)=((p/dD j:Nat):Int):=by rw[gE (by omega)];rfl
           have e2:((p/dD j:Nat):Int).tmod 10=(dd:Int):=by rw[gP (jR _),ah.out,<-X];rfl
           have e3:((dD j:Nat):Int).tdiv 10=((dD (j+1):Nat):Int):=by rw[gE (by omega),N.out];rfl
           have g:¬ ((dD j:Nat):Int)=0:=by omega
           have aQ:(((dD j:Nat):Int) == 0)=false:=by simp;omega
           have aP:p/dD j<1000000000:=fU (gh _ _) ay;have aE:(0:Int)<((dD j:Nat):Int):=by omega
           have e4:IntKind.u32.wrap (48+(dd:Int))=48+(dd:Int):=by show _%4294967296=_;omega
           have e5:IntKind.u8.wrap (48+(dd:Int))=48+(dd:Int):=by show _%256=_;omega
           have e6:(48+(dd:Int))%256=48+(dd:Int):=by omega
           have aL:(0:Int)<=(i:Int):=by omega
           have aM:(i:Int)<n:=by omega
           generalize dD j=D at *
           obtain⟨D1,Q⟩:∃ D1,dD (j+1)=D1:=⟨_,rfl⟩;rw[Q]at e3 N;have a1:=qh Q;have a4:=qh hp;have a2:=qh hH;clear Q;generalize p/D=pd at *
           have aG:D1<D:=by have:=N.out;omega
           have Y:m=(nD vv).length:=by have:=B.len;simpa using this.symm
           have aN:m<=1800009:=by omega
           have C:∀ k,blk b=some k->w.heap.size<=k:=fun k Z=>(Own.lt B Z).1;have ak:=Pd hP B (by decide);have V:AA (UInt8.ofNat (48+dd)) = .int .u8 (48+(dd:Int)):=by
            have h1:(UInt8.ofNat (48+dd)).toNat=48+dd:=by rw[UInt8.toNat_ofNat'];omega
            unfold AA;rw[h1];rfl
           clear hp hH X hv a9;by_cases f:vv=0/\dd=0
           · have aa:m=0:=by rw[Y,O.out.2 f.1];rfl
             have hd0:dd=0:=f.2;have HS:Hid (nD (H*10^(j+1)+p/10^(9-(j+1)))=nD vv):=by show _=_;rw[a3.out,fE f,O.out.2 f.1]
             subst aa;subst hd0;clear f Y;go_wp2;go_roundw
             case rel=>exact⟨j+1,b,0,d,rfl,by rw[a1.out],by omega,by omega,by rw[a4.out,a2.out,HS.out];exact qh ⟨R,hP,B⟩⟩
             case measure=>simp[intOf];omega
           · have HS:Hid (nD (H*10^(j+1)+p/10^(9-(j+1)))=nD vv ++ [UInt8.ofNat (48+dd)]):=by show _=_;rw[a3.out,fl f]
             have hA:=B.alloc (.cells #[.int .u8 (48+(dd:Int))] 5);have am:=hP.alloc (.cells #[.int .u8 (48+(dd:Int))] 5);have hL:=(Ag wr w.heap.size 5 #[.int .u8 (48+(dd:Int))] 1 rfl R.size (by omega)).sl;have I:=R.alloc (.cells #[.int .u8 (48+(dd:Int))] 5);have aA:=R.size;by_cases aa:0<m
             case' neg =>
              have hd0:0<dd:=by
               refine iE fun h=>f ⟨O.out.1 ?_,h⟩;exact fa (by omega)
              have av:m=0:=by omega
              have ag:((48+(dd:Int)) == 48)=false:=by simp;omega
              have aD:¬ (48+(dd:Int))=48:=by omega
              subst av
             all_goals
              clear f Y
              go_wp2_with(refine AU rfl rfl underlying159 Df rfl rfl hA rfl hL (by simp[Value.oneCell']) (by unfold maxLen;omega) (by omega) (by simp;omega) ?_;intro a7 c7 w7 T E a6)
              go_roundw
              case rel =>
               refine⟨j+1,a7,_,c7,rfl,by rw[a1.out],by omega,by omega,?_⟩;rw[a4.out,a2.out,HS.out];refine qh ⟨I.grown E C,am.kept E ak,?_⟩;rw[fM,List.map_singleton,V];exact T
              case measure=>simp[intOf];omega
         · have an:j=9:=by omega
           subst an;have hd0:dD 9=0:=rfl;have ag:¬ (0:Int)<((dD 9:Nat):Int):=by rw[hd0];decide
           have HN:Hid (x/1000000000^(i+1)*10^9+x/1000000000^i%1000000000/10^(9-9)=x/1000000000^i):=by
            show _=_;rw[<-Gx,iW,iP,ko];generalize x/1000000000^i=t;omega
           rw[HN.out]at B;have aR:IntKind.i64.wrap ((i:Int)-1)=(i:Int)-1:=eT _ (by omega);go_wp2;go_roundw
           case rel=>exact⟨i,b,m,d,rfl,rfl,by omega,by omega,qh ⟨R,hP,B⟩⟩
           case measure=>first | (simp[intOf];done) | (simp[intOf];omega)
def UM(w:World)(o:Option Nat)(e:Ending)(w':World):Prop:=∃ s a n c,e = .returned (.tuple #[.agg (Aj s a n c).toArray,.bool o.isSome])/\Ext w w'/\∀ x,o=some x->s=false/\Mg w' a n c x
theorem TQ(h0:0<x)(c:x<4294967296):Mg (w.alloc (.cells #[.int .u32 (x:Int)] 187)) (some ⟨w.heap.size,0,none⟩) 1 1 x:=by
 have b:=Ag w w.heap.size 187 #[.int .u32 (x:Int)] 1 rfl (lrf _) (by omega);have a:SlN .u32 (w.alloc (.cells #[.int .u32 (x:Int)] 187)) (some ⟨w.heap.size,0,none⟩) 1 1 [x]:=b.sl;exact⟨[x],a,⟨fun z d=>by rw[eV.1 d];exact c,W.nrm_single (by omega),by simp[W.val]⟩,b.ty⟩
theorem JR(h:k<s.size):(Ad s).take (k+1)=(Ad s).take k ++ [s[k]]:=by
 have h1:k<(Ad s).length:=by rw[Al];exact h
 rw[eU h1];have:=Ea h;rw[gqq,eQ h1,fC]at this;rw[this]
theorem Qp(a:W.digs l):Eh l=if l=[]then none else some (W.decV l):=by
 by_cases h:l=[]
 · subst h;rfl
 · rw[fl h,Gu a h]
theorem Qq(h:k<s.size)(b:¬ W.isDig s[k]):Eh (Ad s)=none:=by
 unfold Eh;rw[fl];simp only[gJ,il,not_and];intro _ a;have h1:s[k]∈Ad s:=by
  have h2:k<(Ad s).length:=by rw[Al];exact h
  have:=Ea h;rw[gqq,eQ h2,fC]at this;rw[<-this];exact fu h2
 exact b (Dz.1 (a _ h1))
theorem KO(h:W.digs l){k:Nat}(a:l.length<=k):W.decV l<P2 (4*k):=by
 refine fG (W.decV_lt h) ?_;refine eW (fd (by omega) a) ?_;unfold P2;rw[j9];exact iM (by omega) _
structure FSt(w wr:World)(l:List UInt8)(k:Nat)(a:Option Addr)(n c:Nat):Prop where
 ext:Ext w wr
 res:Arr wr w.heap.size 107 (Aj false none 0 0)
 m:Mg wr a n c (W.decV (l.take k))
 ok:W.digs (l.take k)
theorem Ei(hs:s.size<=100000):Calls prog 120 #[.string s] w (UM w (Eh (Ad s))):=by
 have ak:=Al s
 go_enter func120,ntmps120
 go_upto_region 1 with(fail)
 refine AK ?_;intro w0 J I ah;have F:Hid (FSt w w0 (Ad s) 0 none 0 0):=qh ⟨J,I,by rw[gZ];exact Mg.nil w0,by rw[gZ];intro c P;cases P⟩;clear ah I J;go_wp2
 go_loopg [4,5] s.size (fun gk mv iv wr=>∃ (k n c:Nat) (a:Option Addr),mv = .slice a n c/\iv = .int .i64 k/\k<=s.size/\s.size<=k+gk/\Hid (FSt w wr (Ad s) k a n c))
 case atStart=>exact⟨0,0,0,none,rfl,rfl,f8 _,by omega,F⟩
 case round =>
  clear F;obtain⟨k,n,c,a,rfl,rfl,hk,an,b⟩:=hrel;by_cases aa:k<s.size
  · go_wp2
    go_loop[6,7,5,8] (fun vv fv iv jv=>∃ j v f:Nat,vv = .int .u32 v/\fv = .int .u32 f/\iv = .int .i64 ((k+j:Nat):Int)/\jv = .int .i64 j/\j<=9/\k+j<=s.size/\v<f/\Hid (f=10^j/\W.digs ((Ad s).take (k+j))/\W.decV ((Ad s).take (k+j))=W.decV ((Ad s).take k)*f+v)) (fun _ _ _ jv=>9-(intOf jv).toNat)
    case atStart=>exact⟨0,0,1,rfl,rfl,rfl,rfl,by omega,by omega,by omega,qh ⟨rfl,b.out.ok,by simp⟩⟩
    case round =>
     obtain⟨j,v,f,rfl,rfl,rfl,rfl,hj,a8,ar,p⟩:=hrel;by_cases P:j<9/\k+j<s.size
     · obtain⟨ap,D⟩:=P;have a7:f<=100000000:=by
        rw[p.out.1];have:=fd (n:=10) (by omega) (show j<=8 by omega);omega
       have aj:((k+j:Nat):Int)<s.size:=by omega
       have ai:(j:Int)<9:=by omega
       by_cases A:W.isDig s[k+j]
       · have a2:¬ ((s[k+j].toNat:Nat):Int)<48:=by have:=A.1;omega
         have a4:¬ (57:Int)<((s[k+j].toNat:Nat):Int):=by have:=A.2;omega
         have Z:Hid (10*f=10^(j+1)/\W.digs ((Ad s).take (k+(j+1)))/\W.decV ((Ad s).take (k+(j+1)))=W.decV ((Ad s).take k)*(10*f)+(10*v+(s[k+j].toNat-48))):=by
          refine qh ⟨by rw[fT,<-p.out.1];omega,?_,?_⟩
          · rw[<-i7,JR D];intro x g;rcases fo.1 g with g|g
            · exact p.out.2.1 x g
            · rw[eV.1 g];exact A
          · rw[<-i7,JR D,W.decV_snoc,p.out.2.2]
            grind
         obtain⟨d,Q⟩:∃ d,s[k+j].toNat-48=d:=⟨_,rfl⟩;have am:d<=9:=by have:=A.2;omega
         have e1:IntKind.u8.wrap (((s[k+j].toNat:Nat):Int)-48)=(d:Int):=by
          have:=A.1;show _%256=_;omega
         have e2:IntKind.u32.wrap ((v:Int)*10)=((10*v:Nat):Int):=by show _%4294967296=_;omega
         have e3:IntKind.u32.wrap ((f:Int)*10)=((10*f:Nat):Int):=by show _%4294967296=_;omega
         have e4:IntKind.u32.wrap (((10*v:Nat):Int)+(d:Int))=((10*v+d:Nat):Int):=by show _%4294967296=_;omega
         rw[Q]at Z;clear A Q;go_wp2;go_round
         case rel=>exact⟨j+1,10*v+d,10*f,by go_num,by go_num,by go_num,by go_num,by omega,by omega,by omega,Z⟩
         case measure=>simp[intOf];omega
       · have HB:=qh (Qq D A);have hR:=b.out.res;have hE:=b.out.ext;by_cases a2:((s[k+j].toNat:Nat):Int)<48
         case' neg =>
          have a4:(57:Int)<((s[k+j].toNat:Nat):Int):=by
           have:¬ (48<=s[k+j].toNat/\s[k+j].toNat<=57):=A;omega
         all_goals
          clear A p
          go_wp2_with(refine Aa (vs:=Aj false none 0 0) rfl rfl rfl rfl rfl Az hR rfl (Ai _ _ _ _) ?_;intro w9 l i)
          refine eZ (Ap rfl Az rfl rfl l) rfl ⟨false,none,0,0,by rw[HB.out];rfl,hE.grownR i (by omega),fun x g=>by rw[HB.out]at g;cases g⟩
     · have a6:0<f:=by omega
       have a7:f<=1000000000:=by
        rw[p.out.1];have:=fd (n:=10) (by omega) hj;omega
       have E:¬ (j:Int)<9\/(j:Int)<9/\¬ ((k+j:Nat):Int)<s.size:=by omega
       have ao:0<j:=by
        rcases fj j with h|h
        · subst h;exact absurd ⟨by omega,aa⟩ P
        · exact h
       have ad:n<=100000:=b.out.m.len (k:=100000) (AO (KO b.out.ok (k:=100000) (by rw[go];omega)) (by omega));clear P;have HM:=b.out.m;have y:=b.out.res;have q:=b.out.ext;clear b;rcases E with E|⟨E,al⟩
       all_goals
        go_upto_region 12 with(fail)
        have hf:=TQ (w:=wr) a6 (show f<4294967296 by omega);have M:=(Ext.refl wr).alloc (.cells #[.int .u32 (f:Int)] 187);have U:=qh (I4 (HM.ext M) hf ad (by omega))
        go_wp2_with fail
        refine U.out.mono ?_;rintro e Y ⟨a3,n3,c3,rfl,a0,S⟩;have V:=Ag Y Y.heap.size 187 #[.int .u32 (v:Int)] 1 rfl (lrf _) (by omega);have X:SlN .u32 (Y.alloc (.cells #[.int .u32 (v:Int)] 187)) (some ⟨Y.heap.size,0,none⟩) 1 1 [v]:=V.sl;have N:=(Ext.refl Y).alloc (.cells #[.int .u32 (v:Int)] 187);have af:=V.ty
        go_wp2_with fail
        refine(Bl X).mono ?_;rintro e w4 ⟨kq,rfl,rfl,a9,ht⟩;have hv:=Cw X af a9 ht (fun z hz=>by rw[eV.1 hz];omega) (v:=v) (by simp[W.val]);have K:=(M.trans a0).trans N;have ae:n3<=100000:=by
         refine S.len (k:=100000) ?_;have h0:=p.out.2.2;refine fU (eW (iK _ v) (kV h0.symm)) ?_;exact AO (KO p.out.2.1 (k:=100000) (by rw[go];omega)) (by omega)
        have O:=qh (I2 (S.ext N) hv ae (by omega))
        go_wp2_with fail
        refine O.out.mono ?_;rintro e w5 ⟨a5,n5,c5,rfl,L,ab⟩;have Z:Hid (FSt w w5 (Ad s) (k+j) a5 n5 c5):=qh ⟨(q.trans K).trans L,(y.ext K).ext L,by rw[p.out.2.2];exact ab,p.out.2.1⟩;go_wp2
        go_roundg (s.size-(k+j))
        case rel=>exact⟨k+j,n5,c5,a5,rfl,rfl,a8,by omega,Z⟩
        case measure=>omega
  · have aq:k=s.size:=by omega
    have B:(Ad s).take k=Ad s:=eR (by omega);have hM:=b.out.m;have C:=b.out.ok;have y:=b.out.res;have q:=b.out.ext;rw[B]at hM C;have HQ:=qh (Qp C);have T:=qh (I9 (neg:=false) hM (z:=(W.decV (Ad s):Int)) (by simp));clear b B hM C;by_cases he:s=({ data:=#[] }:ByteArray)
    · have a1:s.toList.isEmpty=true:=by rw[jI,he];rfl
      have G:Hid (Eh (Ad s)=none):=by show _=_;rw[HQ.out,fE (by rw[he];rfl)]
      clear HQ he
      go_wp2_with fail
      refine T.out.mono ?_;rintro e w2 ⟨s1,rfl,o,H,R⟩;have r:=y.ext o
      go_wp2_with(refine Aa (vs:=Aj s1 a n c) rfl rfl rfl rfl rfl Az r rfl (Ai _ _ _ _) ?_;intro w9 l i)
      refine eZ (Ap rfl Az rfl rfl l) rfl ⟨s1,a,n,c,by rw[G.out];rfl,(q.trans o).grownR i (lrf _),fun x g=>by rw[G.out]at g;cases g⟩
    · have a1:s.toList.isEmpty=false:=by
       rw[jI];cases h:s.data.toList with
       | nil=>exact absurd (De (s:=s) (t:=({ data:=#[] }:ByteArray)) h) he
       | cons=>rfl
      have G:Hid (Eh (Ad s)=some (W.decV (Ad s))):=by show _=_;rw[HQ.out,fl (show ¬ Ad s=[] from fun h=>he (De (s:=s) (t:=({ data:=#[] }:ByteArray)) h))]
      clear HQ he
      go_wp2_with fail
      refine T.out.mono ?_;rintro e w2 ⟨s1,rfl,o,H,R⟩;have r:=y.ext o
      go_wp2_with(refine Aa (vs:=Aj s1 a n c) rfl rfl rfl rfl rfl Az r rfl (Ai _ _ _ _) ?_;intro w9 l i)
      have ac:=R.keptA r (by decide) i;refine eZ (Ap rfl Az rfl rfl l) rfl ⟨s1,a,n,c,by rw[G.out];rfl,(q.trans o).grownR i (lrf _),fun x g => ?_⟩;rw[G.out]at g;have ag:=fe g;subst ag;exact⟨by rw[<-H.out];exact fw (by omega),ac⟩
end Go.Proofs.YthdbingomfdeoaaGreatDoor
