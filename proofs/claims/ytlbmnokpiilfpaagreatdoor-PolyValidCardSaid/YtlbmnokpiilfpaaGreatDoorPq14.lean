/- Part Pq14. -/
import Derived.Test.YtlbmnokpiilfpaaGreatDoorPq13

set_option linter.all false
set_option maxRecDepth 100000
set_option maxHeartbeats 100000000
namespace Go.Proofs.YtlbmnokpiilfpaaGreatDoor
open Tryz Go Go.RowKit
def iA:=@decide_eq_true
def kZ:=@Nat.gcd_one_right
def mr:=@Nat.gcd_pos_of_pos_right
def oQ:=@Nat.gcd_le_right
variable {k:Nat} {p q:Rat} {v v':Value} {w:World}
theorem MO(h:p.den=1):(p+q).num=p.num*(q.den:Int)+q.num/\(p+q).den=q.den:=by
 have:=Pl.rat_add_parts p q;rw[h,Nat.gcd_one_left]at this;simpa using this
theorem Tw(h:q.den=1):(p+q).num=q.num*(p.den:Int)+p.num/\(p+q).den=p.den:=by
 rw[Rat.add_comm];exact MO h
theorem W0(h:p.den=1)(a:q.den=1):(p+q).num=p.num+q.num/\(p+q).den=1:=by
 have:=MO (q:=q) h;rw[a]at this;simpa using this
theorem JY(h:p.den=q.den):A9 p=A9 q:=by unfold A9;rw[h]
theorem PM(h:BU w v p)(U:BU w v' q)(R:p.num.natAbs<P2 2400)(S:q.num.natAbs<P2 2400)(D:p.den=1)(E:q.den=1):Calls prog 146 #[v,v'] w (GN w (p+q)):=by
 obtain⟨_,rfl,s,a,n,c,b,m,d,rfl,T,X,Y⟩:=h;obtain⟨_,rfl,s',a',n',c',b',m',d',rfl,z,K,M⟩:=U;have O:=fun(x:World) (l:Ext w x)=>qh (AA (r:=true) (Bh (Y.ext l)) (iA (AG.2 D)));have P:=fun(x:World) (l:Ext w x)=>qh (AA (r:=true) (Bh (M.ext l)) (iA (AG.2 E)));have I:=fun(x:World) (l:Ext w x)=>qh (JC (A8 T (X.ext l)) (A8 z (K.ext l)) (Af R (by omega)) (Af S (by omega)));have y:=qh (W0 D E);clear R S D E
 go_enter func146,ntmps146
 go_upto_region 1 with(fail)
 refine CO ?_;intro w0 j g i F N;have Z:=g.c 0 rfl;have p1:=g.c 1 rfl;have p2:=g.c 2 rfl;have p3:=g.c 3 rfl;have q0:=i.c 0 rfl;have q1:=i.c 1 rfl;have q2:=i.c 2 rfl;have q3:=i.c 3 rfl;have V:Arr w0 (w.heap.size+2) 85 (Al false none 0 0 false none 0 0):=F;clear N
 go_wp2_with fail
 refine(O _ j).out.mono ?_;rintro e w1 ⟨rfl,k⟩;have r2:=k.cell q2;have r3:=k.cell q3
 go_wp2_with fail
 refine(P _ (j.trans k)).out.mono ?_;rintro e w2 ⟨rfl,H⟩;have f:=k.trans H;have t0:=f.cell Z;have t1:=f.cell p1;have u0:=f.cell q0;have u1:=f.cell q1;clear r2 r3
 go_wp2_with fail
 refine(I _ (j.trans f)).out.mono ?_;rintro e w5 ⟨s1,B,Q,C,rfl,o,A,L⟩;have W:(Ac s1 B Q C).toArray=#[.bool s1,.slice B Q C]:=rfl;have t:=(V.ext f).ext o
 go_wp2_with(refine Aa (vs:=Al s1 B Q C false none 0 0) rfl rfl rfl rfl rfl Ak t rfl (Aq _ _ _ _ _ _ _ _) ?_;intro w9 G J)
 exact gF (Ap rfl Ak rfl G) rfl (BG ((j.trans f).trans o) t (AO _ _ _ _ _ _ _ _) J (by omega) (by rw[y.out.1];exact A) (by rw[y.out.1];exact L) (by rw[AG.2 y.out.2];exact Wd.nil _))
theorem PN(h:BU w v p)(h':BU w v' q)(T:p.num.natAbs<P2 2400)(b3:q.num.natAbs<P2 2400)(Z:q.den<P2 2400)(U:p.den=1)(N:q.den≠1):Calls prog 146 #[v,v'] w (GN w (p+q)):=by
 obtain⟨_,rfl,s,a,n,c,b,m,d,rfl,HS,hx,hy⟩:=h;obtain⟨_,rfl,G,z,F,A,L,S,M,rfl,X,aa,E⟩:=h';have R:=fun(i:World) (g:Ext w i)=>qh (AA (r:=true) (Bh (hy.ext g)) (iA (AG.2 U)));have ad:=fun(i:World) (g:Ext w i)=>qh (AA (r:=false) (Bh (E.ext g)) (gR (mt AG.1 N)));have a9:=fun(i:World) (g:Ext w i)=>qh (CA (A8 HS (hx.ext g)) (Bh (E.ext g)) (Af T (by omega)) (by rw[Bi N];exact Af Z (by omega)) (Or.inl (Af T (by omega))))
 have Q:(p.num*A9 q).natAbs<P2 9600:=by rw[jC,Bi N];exact Af (BJ T Z) (by omega)
 have a6:=fun(i:World) (g:Ext w i) (x:Value) (hv:AF i x (p.num*A9 q))=>qh (JC hv (A8 X (aa.ext g)) Q (Af b3 (by omega)));have W:=qh (MO (q:=q) U);rw[<-DI N]at W;have HD:Hid (A9 (p+q)=A9 q):=qh (JY (by have:=(MO (q:=q) U).2;exact this));clear T Z b3 Q U N
 go_enter func146,ntmps146
 go_upto_region 1 with(fail)
 refine CO ?_;intro w0 o k l a0 ac;have p0:=k.c 0 rfl;have p1:=k.c 1 rfl;have p2:=k.c 2 rfl;have p3:=k.c 3 rfl;have q0:=l.c 0 rfl;have q1:=l.c 1 rfl;have q2:=l.c 2 rfl;have q3:=l.c 3 rfl;have hR:Arr w0 (w.heap.size+2) 85 (Al false none 0 0 false none 0 0):=a0;clear ac
 go_wp2_with fail
 refine(R _ o).out.mono ?_;rintro e w1 ⟨rfl,t⟩;have f2:=t.cell q2;have f3:=t.cell q3
 go_wp2_with fail
 refine(ad _ (o.trans t)).out.mono ?_;rintro e w2 ⟨rfl,a3⟩;have j:=t.trans a3;clear f2 f3;have f2:=j.cell p2;have f3:=j.cell p3
 go_wp2_with fail
 refine(R _ (o.trans j)).out.mono ?_;rintro e w3 ⟨rfl,a4⟩;have f:=j.trans a4;clear f2 f3;have r0:=f.cell p0;have r1:=f.cell p1;have r2:=f.cell p2;have r3:=f.cell p3;have u0:=f.cell q0;have u1:=f.cell q1;have u2:=f.cell q2;have u3:=f.cell q3;have y:=o.trans f;have a5:=hR.ext f;clear p0 p1 p2 p3 q0 q1 q2 q3;go_wp2;have K:=fun(i:World) (g:Ext w3 i)=>qh (And.intro (g.cell r0) (And.intro (g.cell r1) (And.intro (g.cell r2) (And.intro (g.cell r3) (And.intro (g.cell u0) (And.intro (g.cell u1) (And.intro (g.cell u2) (g.cell u3))))))))
 refine Ab (by kernel_rfl) (fun i=>Ext w3 i)
  [he (.pointer (some ⟨w.heap.size,0,none⟩)),
 he (.agg #[.bool s,.slice a n c]),
 he (.pointer (some ⟨(w.heap.size+1),2,none⟩)),
 he (.agg #[.bool false,.slice L S M]),
 hp (fun v i=>NI (p.num*A9 q) v i),
 he (.pointer (some ⟨(w.heap.size+1),0,none⟩)),
 he (.agg #[.bool G,.slice z F A]),
 hp (fun v i=>NI (p.num*A9 q+q.num) v i),
 he (.pointer (some ⟨(w.heap.size+1),2,none⟩)),
 he (.agg #[.bool false,.slice L S M])]
  (by kernel_rfl) (fun _ _ e h=>h.trans e) ((Ext.refl w3).drew) ⟨trivial,trivial,trivial,trivial,NI.x _,trivial,trivial,NI.x _,trivial,trivial,trivial⟩ ⟨?o0,?o1,?o2,?o3,?o4,?o5,?o6,?o7,?o8,?o9,trivial⟩ ?fin
 case o0 | o5=>exact ofa (d:=0)
 case o1 | o3 | o6 | o9=>exact ol2
 case o2 | o8=>exact ofa (d:=2)
 case o4 =>
  refine Ag rfl fun V i g P a7 h => ?_;have e1:V (.tmp 30)=(.agg #[.bool s,.slice a n c]):=h.2.1;have e2:V (.tmp 32)=(.agg #[.bool false,.slice L S M]):=h.2.2.1;obtain⟨k0,k1,k2,k3,ae,af,ag,ah⟩:=(K i g).out;refine⟨163,#[.agg #[.bool s,.slice a n c],.agg #[.bool false,.slice L S M]],by go_simp,((a9 i (y.trans g)).out).mono ?_⟩;rintro e w' ⟨G,z,F,A,rfl,B,D,C⟩;exact⟨_,rfl,B,G,z,F,A,rfl,D,C⟩
 case o7 =>
  refine Ag rfl fun V i g P a7 h => ?_;obtain⟨v1,e1,s1,H,J,I,rfl,i1,j1⟩:=h.2.1;have e2:V (.tmp 35)=(.agg #[.bool G,.slice z F A]):=h.2.2.1;obtain⟨k0,k1,k2,k3,ae,af,ag,ah⟩:=(K i g).out;refine⟨208,#[.agg (Ac s1 H J I).toArray,.agg #[.bool G,.slice z F A]],by go_simp,((a6 i (y.trans g) _ ⟨s1,H,J,I,rfl,i1,j1⟩).out).mono ?_⟩;rintro e w' ⟨G,z,F,A,rfl,B,D,C⟩;exact⟨_,rfl,B,G,z,F,A,rfl,D,C⟩
 case fin =>
  intro i g;rintro _ ⟨ao,ak,an,al,rfl,ai,aj⟩;rintro _ ⟨s1,H,J,I,rfl,Y,ab⟩;change wpList _ _ _ _ _ _;simp only[lq,lw,lx,lz,Act.put,lj,lk,ly];have O:=a5.ext g;have am:(Ac s1 H J I).toArray=#[.bool s1,.slice H J I]:=rfl
  go_wp2_with(refine Aa (vs:=Al s1 H J I false L S M) rfl rfl rfl rfl rfl Ak O rfl (Aq _ _ _ _ _ _ _ _) ?_;intro w9 a2 a8)
  exact gF (Ap rfl Ak rfl a2) rfl (BG (y.trans g) O (AO _ _ _ _ _ _ _ _) a8 (by omega) (by rw[W.out.1];exact Y) (by rw[W.out.1];exact ab) (by rw[HD.out];exact E.ext (y.trans g)))
theorem PO(h:BU w v p)(h':BU w v' q)(b1:p.num.natAbs<P2 2400)(P:q.num.natAbs<P2 2400)(V:p.den<P2 2400)(K:p.den≠1)(Q:q.den=1):Calls prog 146 #[v,v'] w (GN w (p+q)):=by
 obtain⟨_,rfl,s,a,n,c,b,m,d,rfl,HS,hx,hy⟩:=h;obtain⟨_,rfl,F,z,E,A,b',m',d',rfl,T,a8,aa⟩:=h';have O:=fun(i:World) (g:Ext w i)=>qh (AA (r:=false) (Bh (hy.ext g)) (gR (mt AG.1 K)));have ac:=fun(i:World) (g:Ext w i)=>qh (AA (r:=true) (Bh (aa.ext g)) (iA (AG.2 Q)));have a7:=fun(i:World) (g:Ext w i)=>qh (CA (A8 T (a8.ext g)) (Bh (hy.ext g)) (Af P (by omega)) (by rw[Bi K];exact Af V (by omega)) (Or.inl (Af P (by omega))))
 have N:(q.num*A9 p).natAbs<P2 9600:=by rw[jC,Bi K];exact Af (BJ P V) (by omega)
 have a4:=fun(i:World) (g:Ext w i) (x:Value) (hv:AF i x (q.num*A9 p))=>qh (JC hv (A8 HS (hx.ext g)) N (Af b1 (by omega)));have S:=qh (Tw (p:=p) Q);rw[<-DI K]at S;have HD:Hid (A9 (p+q)=A9 p):=qh (JY (by have:=(Tw (p:=p) Q).2;exact this));clear b1 V P N K Q
 go_enter func146,ntmps146
 go_upto_region 1 with(fail)
 refine CO ?_;intro w0 o k l Y ab;have p0:=k.c 0 rfl;have p1:=k.c 1 rfl;have p2:=k.c 2 rfl;have p3:=k.c 3 rfl;have q0:=l.c 0 rfl;have q1:=l.c 1 rfl;have q2:=l.c 2 rfl;have q3:=l.c 3 rfl;have hR:Arr w0 (w.heap.size+2) 85 (Al false none 0 0 false none 0 0):=Y;clear ab
 go_wp2_with fail
 refine(O _ o).out.mono ?_;rintro e w1 ⟨rfl,t⟩;have W:=t.cell p2;have X:=t.cell p3
 go_wp2_with fail
 refine(O _ (o.trans t)).out.mono ?_;rintro e w2 ⟨rfl,a0⟩;have j:=t.trans a0;clear W X;have W:=j.cell q2;have X:=j.cell q3
 go_wp2_with fail
 refine(ac _ (o.trans j)).out.mono ?_;rintro e w3 ⟨rfl,a2⟩;have f:=j.trans a2;clear W X;have r0:=f.cell p0;have r1:=f.cell p1;have r2:=f.cell p2;have r3:=f.cell p3;have u0:=f.cell q0;have u1:=f.cell q1;have u2:=f.cell q2;have u3:=f.cell q3;have y:=o.trans f;have a3:=hR.ext f;clear p0 p1 p2 p3 q0 q1 q2 q3;go_wp2;have J:=fun(i:World) (g:Ext w3 i)=>qh (And.intro (g.cell r0) (And.intro (g.cell r1) (And.intro (g.cell r2) (And.intro (g.cell r3) (And.intro (g.cell u0) (And.intro (g.cell u1) (And.intro (g.cell u2) (g.cell u3))))))))
 refine Ab (by kernel_rfl) (fun i=>Ext w3 i)
  [he (.pointer (some ⟨(w.heap.size+1),0,none⟩)),
 he (.agg #[.bool F,.slice z E A]),
 he (.pointer (some ⟨w.heap.size,2,none⟩)),
 he (.agg #[.bool false,.slice b m d]),
 hp (fun v i=>NI (q.num*A9 p) v i),
 he (.pointer (some ⟨w.heap.size,0,none⟩)),
 he (.agg #[.bool s,.slice a n c]),
 hp (fun v i=>NI (q.num*A9 p+p.num) v i),
 he (.pointer (some ⟨w.heap.size,2,none⟩)),
 he (.agg #[.bool false,.slice b m d])]
  (by kernel_rfl) (fun _ _ e h=>h.trans e) ((Ext.refl w3).drew) ⟨trivial,trivial,trivial,trivial,NI.x _,trivial,trivial,NI.x _,trivial,trivial,trivial⟩ ⟨?o0,?o1,?o2,?o3,?o4,?o5,?o6,?o7,?o8,?o9,trivial⟩ ?fin
 case o0 | o5=>exact ofa (d:=0)
 case o1 | o3 | o6 | o9=>exact ol2
 case o2 | o8=>exact ofa (d:=2)
 case o4 =>
  refine Ag rfl fun R i g M a5 h => ?_;have e1:R (.tmp 45)=(.agg #[.bool F,.slice z E A]):=h.2.1;have e2:R (.tmp 47)=(.agg #[.bool false,.slice b m d]):=h.2.2.1;obtain⟨k0,k1,k2,k3,ad,ae,af,ag⟩:=(J i g).out;refine⟨163,#[.agg #[.bool F,.slice z E A],.agg #[.bool false,.slice b m d]],by go_simp,((a7 i (y.trans g)).out).mono ?_⟩;rintro e w' ⟨F,z,E,A,rfl,B,D,C⟩;exact⟨_,rfl,B,F,z,E,A,rfl,D,C⟩
 case o7 =>
  refine Ag rfl fun R i g M a5 h => ?_;obtain⟨v1,e1,s1,G,I,H,rfl,i1,j1⟩:=h.2.1;have e2:R (.tmp 50)=(.agg #[.bool s,.slice a n c]):=h.2.2.1;obtain⟨k0,k1,k2,k3,ad,ae,af,ag⟩:=(J i g).out;refine⟨208,#[.agg (Ac s1 G I H).toArray,.agg #[.bool s,.slice a n c]],by go_simp,((a4 i (y.trans g) _ ⟨s1,G,I,H,rfl,i1,j1⟩).out).mono ?_⟩;rintro e w' ⟨F,z,E,A,rfl,B,D,C⟩;exact⟨_,rfl,B,F,z,E,A,rfl,D,C⟩
 case fin =>
  intro i g;rintro _ ⟨an,aj,am,ak,rfl,ah,ai⟩;rintro _ ⟨s1,G,I,H,rfl,U,a9⟩;change wpList _ _ _ _ _ _;simp only[lq,lw,lx,lz,Act.put,lj,lk,ly];have L:=a3.ext g;have al:(Ac s1 G I H).toArray=#[.bool s1,.slice G I H]:=rfl
  go_wp2_with(refine Aa (vs:=Al s1 G I H false b m d) rfl rfl rfl rfl rfl Ak L rfl (Aq _ _ _ _ _ _ _ _) ?_;intro w9 Z a6)
  exact gF (Ap rfl Ak rfl Z) rfl (BG (y.trans g) L (AO _ _ _ _ _ _ _ _) a6 (by omega) (by rw[S.out.1];exact U) (by rw[S.out.1];exact a9) (by rw[HD.out];exact hy.ext (y.trans g)))
theorem N7(hT:AM w)(h:BU w v p)(h':BU w v' q)(b1:p.num.natAbs<P2 2400)(b2:p.den<P2 2400)(b3:q.num.natAbs<P2 2400)(b4:q.den<P2 2400)(d1:p.den≠1)(d2:q.den≠1):Calls prog 146 #[v,v'] w (GN w (p+q)):=by
 obtain⟨_,rfl,s,a,n,c,b,m,d,rfl,HS,hx,hy⟩:=h;obtain⟨_,rfl,s',S,n',T,b',m',d',rfl,bW,cr,bC⟩:=h';have aX:=fun(f:World) (j:Ext w f)=>qh (AA (r:=false) (Bh (hy.ext j)) (gR (mt AG.1 d1)));have bD:=fun(f:World) (j:Ext w f)=>qh (AA (r:=false) (Bh (bC.ext j)) (gR (mt AG.1 d2)));have ao:=fun(f:World) (j:Ext w f)=>Bh (hy.ext j);have ad:=fun(f:World) (j:Ext w f)=>Bh (bC.ext j);rw[DI d1]at ao;rw[DI d2]at ad;obtain⟨G,hG⟩:∃ G,G=Nat.gcd p.den q.den:=⟨_,rfl⟩
 obtain⟨L,hL⟩:∃ L,L=q.den/G:=⟨_,rfl⟩;obtain⟨R,al⟩:∃ R,R=p.den/G:=⟨_,rfl⟩;obtain⟨N,hN⟩:∃ N:Int,N=p.num*(L:Int)+q.num*(R:Int):=⟨_,rfl⟩;obtain⟨K,hK⟩:∃ K,K=N.natAbs.gcd G:=⟨_,rfl⟩;have hs:=Pl.rat_add_parts p q;rw[<-hG,<-hL,<-al,<-hN,<-hK]at hs;have aN:0<G:=by rw[hG];exact nQ _ (jM p.den_nz)
 have ch:0<K:=by rw[hK];exact mr _ aN
 have bG:G<P2 2400:=gN (by rw[hG];exact Nat.gcd_le_left _ (jM p.den_nz)) b2;have bK:K<P2 2400:=gN (by rw[hK];exact oQ _ aN) bG;have bL:L<P2 2400:=gN (by rw[hL];exact iI _ _) b4;have bR:R<P2 2400:=gN (by rw[al];exact iI _ _) b2;have aK:(p.num*(L:Int)).natAbs<P2 4800:=by rw[jC];exact BJ b1 bL
 have aL:(q.num*(R:Int)).natAbs<P2 4800:=by rw[jC];exact BJ b3 bR
 have bN:N.natAbs<P2 9600:=Af (gN (by rw[hN];exact mK _ _) (KX aK aL)) (by omega);have bq:(((q.den/K:Nat):Int)).natAbs<P2 2400:=gN (iI _ _) b4;have td:∀ x y:Nat,((x:Int)).tdiv (y:Int)=((x/y:Nat):Int):=fun x y=>by rw[j3 (by omega)];push_cast;rfl
 have aQ:=fun(f:World) (j:Ext w f)=>qh (Gf (hT.ext j) (ao f j) (ad f j) (Af b2 (by omega)) (Af b4 (by omega)));simp only[il,<-hG]at aQ;have aS:=fun(f:World) (j:Ext w f) (g:Value) (hg:AF f g (G:Int))=>qh (Ep (ad f j) hg (Af b4 (by omega)) (Af bG (by omega)) (by omega));have aT:=fun(f:World) (j:Ext w f) (g:Value) (hg:AF f g (G:Int))=>qh (Ep (ao f j) hg (Af b2 (by omega)) (Af bG (by omega)) (by omega));rw[td,<-hL]at aS;rw[td,<-al]at aT
 have bu:=fun(f:World) (j:Ext w f) (g:Value) (hg:AF f g (L:Int))=>qh (CA (A8 HS (hx.ext j)) hg (Af b1 (by omega)) (Af bL (by omega)) (Or.inl (Af b1 (by omega))));have bv:=fun(f:World) (j:Ext w f) (g:Value) (hg:AF f g (R:Int))=>qh (CA (A8 bW (cr.ext j)) hg (Af b3 (by omega)) (Af bR (by omega)) (Or.inl (Af b3 (by omega))));have aO:=fun(f:World) (x1 x2:Value) (h1:AF f x1 (p.num*(L:Int))) (h2:AF f x2 (q.num*(R:Int)))=>qh (JC h1 h2 (Af aK (by omega)) (Af aL (by omega)));rw[<-hN]at aO
 have cx:=fun(f:World) (x:Value) (hv:AF f x N)=>qh (AA (r:=decide (N=0)) hv rfl);have cm:=fun(f:World) (x:Value) (hv:AF f x (G:Int))=>qh (CY (r:=decide (G=1)) hv (kj.2 (by omega)));have aR:=fun(f:World) (j:Ext w f)=>qh (CA (ao f j) (ad f j) (Af b2 (by omega)) (Af b4 (by omega)) (Or.inl (Af b2 (by omega))));have bt:=fun(f:World) (j:Ext w f) (x y:Value) (hv:AF f x N) (ab:AF f y (G:Int))=>qh (Gf (hT.ext j) hv ab bN (Af bG (by omega)));simp only[il,<-hK]at bt
 have bx:=fun(f:World) (x y:Value) (hv:AF f x N) (ab:AF f y (K:Int))=>qh (Ep hv ab bN (Af bK (by omega)) (by omega));have bz:=fun(f:World) (j:Ext w f) (y:Value) (ab:AF f y (K:Int))=>qh (Ep (ad f j) ab (Af b4 (by omega)) (Af bK (by omega)) (by omega));rw[td]at bz;have bw:=fun(f:World) (x y:Value) (hv:AF f x (R:Int)) (ab:AF f y ((q.den/K:Nat):Int))=>qh (CA hv ab (Af bR (by omega)) (Af bq (by omega)) (Or.inl (Af bR (by omega))));rw[<-ir,<-hs.2]at bw;rw[<-hs.1]at bx;rw[<-ir]at aR
 have HZ:N=0->Hid (p+q=0):=fun h=>qh (Pl.rat_num_den_zero.1 (by rw[hs.1,h];exact Int.zero_tdiv _))
 have HO:G=1->Hid ((p+q).num=N/\(p+q).den=p.den*q.den):=fun h=>by
  refine qh ⟨?_,?_⟩
  · rw[hs.1,hK,h,kZ];exact oh _
  · rw[hs.2,hK,h,kZ,lf,al,h,lf]
 clear b1 b2 b3 b4 d1 d2 hs hG hL al hN hK aN ch bG bK bL bR aK aL bN bq td ao ad
 go_enter func146,ntmps146
 go_upto_region 1 with(fail)
 refine CO ?_;intro w0 ah ay az cd cw;have p0:=ay.c 0 rfl;have p1:=ay.c 1 rfl;have p2:=ay.c 2 rfl;have p3:=ay.c 3 rfl;have q0:=az.c 0 rfl;have q1:=az.c 1 rfl;have q2:=az.c 2 rfl;have q3:=az.c 3 rfl;have hR:Arr w0 (w.heap.size+2) 85 (Al false none 0 0 false none 0 0):=cd;clear cw
 go_wp2_with fail
 refine(aX _ ah).out.mono ?_;rintro e w1 ⟨rfl,aA⟩;have f2:=aA.cell p2;have f3:=aA.cell p3
 go_wp2_with fail
 refine(aX _ (ah.trans aA)).out.mono ?_;rintro e w2 ⟨rfl,ce⟩;have aw:=aA.trans ce;clear f2 f3;have f2:=aw.cell q2;have f3:=aw.cell q3
 go_wp2_with fail
 refine(bD _ (ah.trans aw)).out.mono ?_;rintro e w3 ⟨rfl,cf⟩;have B:=aw.trans cf;clear f2 f3;have f0:=B.cell p0;have f1:=B.cell p1;have f2:=B.cell p2;have f3:=B.cell p3;have g0:=B.cell q0;have g1:=B.cell q1;have g2:=B.cell q2;have g3:=B.cell q3
 go_wp2_with fail
 refine(aQ _ (ah.trans B)).out.mono ?_;rintro e w4 ⟨s3,a3,n3,c3,rfl,aM,bX,ct⟩;have cn:(Ac s3 a3 n3 c3).toArray=#[.bool s3,.slice a3 n3 c3]:=rfl;have hY:=Arr.new w4 83 (Ac false none 0 0)
 go_upto_region 8 with(refine Aa (vs:=Ac s3 a3 n3 c3) rfl rfl rfl rfl rfl Ai hY rfl (Ae _ _ _ _) ?_;intro w5 bm ck)
 have aB:Ext w4 w5:=((Ext.refl w4).alloc _).grownR ck (lrf _);have aG:=((ah.trans B).trans aM).trans aB;have bT:=((hR.ext B).ext aM).ext aB;have I:=aM.trans aB;have r0:=I.cell f0;have r1:=I.cell f1;have r2:=I.cell f2;have r3:=I.cell f3;have u0:=I.cell g0;have u1:=I.cell g1;have u2:=I.cell g2;have u3:=I.cell g3;have ap:=bm.c 0 rfl;have aq:=bm.c 1 rfl;have iG:AF w5 (.agg (Ac s3 a3 n3 c3).toArray) (G:Int):=⟨s3,a3,n3,c3,rfl,bX,ct.ext aB⟩;clear cn p0 p1 p2 p3 q0 q1 q2 q3 f0 f1 f2 f3 g0 g1 g2 g3 aX bD aQ hY
 have bb:=fun(f:World) (j:Ext w5 f)=>qh (And.intro (j.cell r0) (And.intro (j.cell r1) (And.intro (j.cell r2) (And.intro (j.cell r3) (And.intro (j.cell u0) (And.intro (j.cell u1) (And.intro (j.cell u2) (And.intro (j.cell u3) (And.intro (j.cell ap) (j.cell aq))))))))))
 refine DR (by kernel_rfl) (fun f=>Ext w5 f)
  [he (.pointer (some ⟨(w.heap.size+1),2,none⟩)),
 he (.agg #[.bool false,.slice b' m' d']),
 he (.agg #[.bool s3,.slice a3 n3 c3]),
 hp (fun v f=>NI ((L:Int)) v f),
 he (.pointer (some ⟨w.heap.size,2,none⟩)),
 he (.agg #[.bool false,.slice b m d]),
 he (.agg #[.bool s3,.slice a3 n3 c3]),
 hp (fun v f=>NI ((R:Int)) v f),
 hp (NP w5.heap.size),
 hp (NP w5.heap.size),
 hmp (fun _ _=>True)]
  (by kernel_rfl) (fun _ _ e h=>h.trans e) ((Ext.refl w5).drew) ⟨trivial,trivial,trivial,NI.x _,trivial,trivial,trivial,NI.x _,NP.x _,NP.x _,NT.x,trivial⟩ ⟨?o0,?o1,?o2,?o3,?o4,?o5,?o6,?o7,?o8,?o9,?o10,trivial⟩ 8 9 10 3 83 (Ac false none 0 0) ⟨by simp,by simp,by simp,by simp⟩ (by omega) ?hk ?hs1 ?hp1 ?hnm Ai ?hj1 ?fin
 case o0 | o4=>exact ofa (d:=2)
 case o1 | o2 | o5 | o6=>exact ol2
 case o3 =>
  refine Ag rfl fun F f j E U h => ?_;have e1:F (.tmp 61)=(.agg #[.bool false,.slice b' m' d']):=h.2.1;have e2:F (.tmp 62)=(.agg #[.bool s3,.slice a3 n3 c3]):=h.2.2.1;obtain⟨V,W,X,Y,Z,a0,a4,aa,ap,aq⟩:=(bb f j).out;refine⟨209,#[.agg #[.bool false,.slice b' m' d'],.agg #[.bool s3,.slice a3 n3 c3]],by go_simp,((aS f (aG.trans j) _ (iG.ext j)).out).mono ?_⟩;rintro e w' ⟨s',S,n',T,rfl,A,D,C⟩;exact⟨_,rfl,A,s',S,n',T,rfl,D,C⟩
 case o7 =>
  refine Ag rfl fun F f j E U h => ?_;have e1:F (.tmp 65)=(.agg #[.bool false,.slice b m d]):=h.2.1;have e2:F (.tmp 66)=(.agg #[.bool s3,.slice a3 n3 c3]):=h.2.2.1;obtain⟨V,W,X,Y,Z,a0,a4,aa,ap,aq⟩:=(bb f j).out;refine⟨209,#[.agg #[.bool false,.slice b m d],.agg #[.bool s3,.slice a3 n3 c3]],by go_simp,((aT f (aG.trans j) _ (iG.ext j)).out).mono ?_⟩;rintro e w' ⟨s',S,n',T,rfl,A,D,C⟩;exact⟨_,rfl,A,s',S,n',T,rfl,D,C⟩
 case o8 =>
  exact CL rfl rfl (fun _ h=>h.size)
 case o9 =>
  exact CL rfl rfl (fun _ h=>h.size)
 case o10 =>
  exact Gv (base:=w5.heap.size) (z:=(L:Int)) rfl rfl ⟨trivial,trivial,trivial,NI.i _,trivial,trivial,trivial,NI.i _,NP.i _,NP.i _,NT.i,trivial⟩ (fun w w' g h hb hg=>h.grownR hg hb) (fun F w _ _ h=>⟨h.1,h.2.1⟩)
 case hk =>
  rintro k (rfl|rfl) o ho
  · cases ho;exact⟨rfl,rfl,fun F f=>CK rfl F f⟩
  · cases ho;exact⟨rfl,rfl,fun F f=>CK rfl F f⟩
 case hs1 =>
  intro o ho;cases ho;exact⟨rfl,rfl,_,_,rfl,rfl,rfl⟩
 case hp1=>exact⟨jA.1 (by kernel_rfl),jA.1 (by kernel_rfl)⟩
 case hnm =>
  intro i hi ae;simp only[j8,mE]at hi
  match i,hi,ae with
  | 0,_,_=>rfl
  | 1,_,_=>rfl
  | 2,_,_=>rfl
  | 3,_,_=>rfl
  | 4,_,_=>rfl
  | 5,_,_=>rfl
  | 6,_,_=>rfl
  | 7,_,_=>rfl
  | 8,_,_=>rfl
  | 9,_,_=>rfl
  | 10,_,ae=>exact absurd rfl ae
 case hj1 =>
  refine⟨rfl,fun v w h => ?_⟩;obtain⟨s,a,n,c,rfl,_,_⟩:=h;exact⟨Ac s a n c,rfl,rfl,Ae _ _ _ _⟩
 case fin =>
  intro f j;rintro _ ⟨s5,a5,n5,c5,rfl,bY,bA⟩;rintro _ ⟨s6,a6,n6,c6,rfl,bZ,bB⟩;rintro _ ⟨g5,cE,rfl,_,_,_,_⟩;rintro _ ⟨g6,cF,rfl,_,_,_,_⟩;rintro _ _;simp only[lq,lw,lx,lz,Act.put,lj,lk,ly,AX,Bf,mP,lO,kl,kK];rintro⟨ga,gb,bg,e1,e2,l5,l6,ae,e3,hA1,hA2⟩;have bh:Value.pointer (some ⟨g5,0,none⟩) = .pointer (some ⟨ga,0,none⟩):=e1
  have bi:Value.pointer (some ⟨g6,0,none⟩) = .pointer (some ⟨gb,0,none⟩):=e2;have bj:Value.agg (Ac s5 a5 n5 c5).toArray = .agg bg.toArray:=e3;simp only[l4,gK,iV,jp]at bh bi;have e4:bg=Ac s5 a5 n5 c5:=by simpa using bj.symm
  subst bh;subst bi;subst e4;clear e1 e2 e3 bj;change wpList _ _ _ _ _ _
  go_upto_region 9 with(refine Aa (vs:=Ac s6 a6 n6 c6) rfl rfl rfl rfl rfl Ai hA2 rfl (Ae _ _ _ _) ?_;intro w6 bn am)
  have H:Ext w5 w6:=j.grownR am l6;have bs:=hA1.kept am (by simpa using ae);have ci:=bA.kept hA2 (Ax _ _ _ _) am;have cj:=bB.kept hA2 (Ax _ _ _ _) am;clear hA1 hA2 ae j bA bB am;have y0:=H.cell r0;have y1:=H.cell r1;have y2:=H.cell r2;have y3:=H.cell r3;have z0:=H.cell u0;have z1:=H.cell u1;have z2:=H.cell u2;have z3:=H.cell u3;have af:=aG.trans H;have aH:=bT.ext H;have bE:=iG.ext H;have bk:=H.cell ap;have bl:=H.cell aq;have aC:=bs.c 0 rfl;have aD:=bs.c 1 rfl;have P:=bn.c 0 rfl;have Q:=bn.c 1 rfl
  have iL:AF w6 (.agg (Ac s5 a5 n5 c5).toArray) (L:Int):=⟨s5,a5,n5,c5,rfl,bY,ci⟩;have iR:AF w6 (.agg (Ac s6 a6 n6 c6).toArray) (R:Int):=⟨s6,a6,n6,c6,rfl,bZ,cj⟩;clear r0 r1 r2 r3 u0 u1 u2 u3 ap aq aS aT;have aI:=fun(f:World) (j:Ext w6 f)=>qh (And.intro (j.cell y0) (And.intro (j.cell y1) (And.intro (j.cell y2) (And.intro (j.cell y3) (And.intro (j.cell z0) (And.intro (j.cell z1) (And.intro (j.cell z2) (And.intro (j.cell z3) (And.intro (j.cell aC) (And.intro (j.cell aD) (And.intro (j.cell P) (j.cell Q))))))))))))
  refine Ab (by kernel_rfl) (fun f=>Ext w6 f)
   [he (.pointer (some ⟨w.heap.size,0,none⟩)),
 he (.agg #[.bool s,.slice a n c]),
 he (.agg #[.bool s5,.slice a5 n5 c5]),
 hp (fun v f=>NI (p.num*(L:Int)) v f),
 he (.pointer (some ⟨(w.heap.size+1),0,none⟩)),
 he (.agg #[.bool s',.slice S n' T]),
 he (.agg #[.bool s6,.slice a6 n6 c6]),
 hp (fun v f=>NI (q.num*(R:Int)) v f),
 hp (fun v f=>NI (N) v f),
 hp (NP w6.heap.size)]
   (by kernel_rfl) (fun _ _ e h=>h.trans e) ((Ext.refl w6).drew) ⟨trivial,trivial,trivial,NI.x _,trivial,trivial,trivial,NI.x _,NI.x _,NP.x _,trivial⟩ ⟨?o0,?o1,?o2,?o3,?o4,?o5,?o6,?o7,?o8,?o9,trivial⟩ ?fin
  case o0 | o4=>exact ofa (d:=0)
  case o1 | o2 | o5 | o6=>exact ol2
  case o3 =>
   refine Ag rfl fun F f j E U h => ?_;have e1:F (.tmp 69)=(.agg #[.bool s,.slice a n c]):=h.2.1;have e2:F (.tmp 70)=(.agg #[.bool s5,.slice a5 n5 c5]):=h.2.2.1;obtain⟨V,W,X,Y,Z,a0,a4,aa,aC,aD,P,Q⟩:=(aI f j).out;refine⟨163,#[.agg #[.bool s,.slice a n c],.agg #[.bool s5,.slice a5 n5 c5]],by go_simp,((bu f (af.trans j) _ (iL.ext j)).out).mono ?_⟩;rintro e w' ⟨s',S,n',T,rfl,A,D,C⟩;exact⟨_,rfl,A,s',S,n',T,rfl,D,C⟩
  case o7 =>
   refine Ag rfl fun F f j E U h => ?_;have e1:F (.tmp 73)=(.agg #[.bool s',.slice S n' T]):=h.2.1;have e2:F (.tmp 74)=(.agg #[.bool s6,.slice a6 n6 c6]):=h.2.2.1;obtain⟨V,W,X,Y,Z,a0,a4,aa,aC,aD,P,Q⟩:=(aI f j).out;refine⟨163,#[.agg #[.bool s',.slice S n' T],.agg #[.bool s6,.slice a6 n6 c6]],by go_simp,((bv f (af.trans j) _ (iR.ext j)).out).mono ?_⟩;rintro e w' ⟨s',S,n',T,rfl,A,D,C⟩;exact⟨_,rfl,A,s',S,n',T,rfl,D,C⟩
  case o8 =>
   refine Ag rfl fun F f j E U h => ?_;obtain⟨v1,e1,s1,a1,n1,c1,rfl,i1,j1⟩:=h.2.1;obtain⟨v2,e2,s2,a2,n2,c2,rfl,i2,j2⟩:=h.2.2.1;obtain⟨V,W,X,Y,Z,a0,a4,aa,aC,aD,P,Q⟩:=(aI f j).out;refine⟨208,#[.agg (Ac s1 a1 n1 c1).toArray,.agg (Ac s2 a2 n2 c2).toArray],by go_simp,((aO f _ _ ⟨s1,a1,n1,c1,rfl,i1,j1⟩ ⟨s2,a2,n2,c2,rfl,i2,j2⟩).out).mono ?_⟩;rintro e w' ⟨s',S,n',T,rfl,A,D,C⟩;exact⟨_,rfl,A,s',S,n',T,rfl,D,C⟩
  case o9 =>
   exact CL rfl rfl (fun _ h=>h.size)
  case fin =>
   intro f j;rintro _ ⟨bH,be,bF,bf,rfl,b5,ba⟩;rintro _ ⟨cz,cb,cy,cc,rfl,bP,bU⟩;rintro _ ⟨s7,a7,n7,c7,rfl,c0,cu⟩;rintro _ ⟨g7,cG,rfl,l7,A7,k7,U7⟩;change wpList _ _ _ _ _ _;simp only[lq,lw,lx,lz,Act.put,lj,lk,ly];have co:(Ac s7 a7 n7 c7).toArray=#[.bool s7,.slice a7 n7 c7]:=rfl
   go_upto_region 10 with(refine Aa (vs:=Ac s7 a7 n7 c7) rfl rfl rfl rfl rfl Ai A7 k7 (Ae _ _ _ _) ?_;intro w7 bo aP)
   have cg:Ext w6 w7:=j.grownR aP l7;have iN:AF w7 (.agg (Ac s7 a7 n7 c7).toArray) N:=⟨s7,a7,n7,c7,rfl,c0,cu.kept A7 U7 aP⟩;have J:=bo.c 0 rfl;have M:=bo.c 1 rfl;clear co bu bv aO j aP A7 U7 k7 l7
   go_wp2_with fail
   refine(cx _ _ iN).out.mono ?_;rintro e w8 ⟨rfl,br⟩;have ac:=cg.trans br;have bS:=af.trans ac;have b8:=aH.ext ac;by_cases aj:N=0
   · have ca:=HZ aj;rw[iA aj];clear aj HZ HO
     go_wp2_with(refine Aa (vs:=Al false none 0 0 false none 0 0) rfl rfl rfl rfl rfl Ak b8 rfl (Aq _ _ _ _ _ _ _ _) ?_;intro w9 ag an)
     refine gF (Ap rfl Ak rfl ag) rfl ?_;rw[ca.out];exact BG bS b8 (AO _ _ _ _ _ _ _ _) an (by omega) (qh rfl) (Wd.nil _) (Wd.nil _)
   · rw[gR aj];clear aj HZ;have bI:=ac.cell bk;have bJ:=ac.cell bl
     go_wp2_with fail
     refine(cm _ _ (bE.ext ac)).out.mono ?_;rintro e aY ⟨rfl,b6⟩;have l:=ac.trans b6;have aE:=br.trans b6;have aF:=af.trans l;have bM:=aH.ext l;have J:=aE.cell J;have M:=aE.cell M;have iN:=iN.ext aE;clear bI bJ;have r0:=l.cell y0;have r1:=l.cell y1;have r2:=l.cell y2;have r3:=l.cell y3;have u0:=l.cell z0;have u1:=l.cell z1;have u2:=l.cell z2;have u3:=l.cell z3;by_cases ai:G=1
     · have bd:=HO ai;rw[iA ai];rw[<-bd.out.1]at iN;rw[<-bd.out.2]at aR;clear ai HO;go_wp2;have bc:=fun(f:World) (j:Ext aY f)=>qh (And.intro (j.cell r0) (And.intro (j.cell r1) (And.intro (j.cell r2) (And.intro (j.cell r3) (And.intro (j.cell u0) (And.intro (j.cell u1) (And.intro (j.cell u2) (And.intro (j.cell u3) (And.intro (j.cell J) (j.cell M))))))))))
       refine Ab (by kernel_rfl) (fun f=>Ext aY f)
        [he (.agg #[.bool s7,.slice a7 n7 c7]),
 he (.pointer (some ⟨w.heap.size,2,none⟩)),
 he (.agg #[.bool false,.slice b m d]),
 he (.pointer (some ⟨(w.heap.size+1),2,none⟩)),
 he (.agg #[.bool false,.slice b' m' d']),
 hp (fun v f=>NI (((p+q).den:Int)) v f),
 hp (fun v f=>∃ cs,v = .agg cs.toArray/\CJ f cs (p+q))]
        (by kernel_rfl) (fun _ _ e h=>h.trans e) ((Ext.refl aY).drew) ⟨trivial,trivial,trivial,trivial,trivial,NI.x _,fun v w w' e ⟨cs,h1,h2⟩=>⟨cs,h1,h2.ext e⟩,trivial⟩ ⟨?o0,?o1,?o2,?o3,?o4,?o5,?o6,trivial⟩ ?fin
       case o0 | o2 | o4=>exact ol2
       case o1 | o3=>exact ofa (d:=2)
       case o5 =>
        refine Ag rfl fun F f j E U h => ?_;have e1:F (.tmp 84)=(.agg #[.bool false,.slice b m d]):=h.2.1;have e2:F (.tmp 86)=(.agg #[.bool false,.slice b' m' d']):=h.2.2.1;obtain⟨V,W,X,Y,Z,a0,a4,aa,J,M⟩:=(bc f j).out;refine⟨163,#[.agg #[.bool false,.slice b m d],.agg #[.bool false,.slice b' m' d']],by go_simp,((aR f (aF.trans j)).out).mono ?_⟩;rintro e w' ⟨s',S,n',T,rfl,A,D,C⟩;exact⟨_,rfl,A,s',S,n',T,rfl,D,C⟩
       case o6 =>
        refine Ag rfl fun F f j E U h => ?_;have e1:F (.tmp 82)=(.agg #[.bool s7,.slice a7 n7 c7]):=h.2.1;obtain⟨v2,e2,s2,a2,n2,c2,rfl,i2,j2⟩:=h.2.2.1;obtain⟨V,W,X,Y,Z,a0,a4,aa,J,M⟩:=(bc f j).out;refine⟨166,#[.agg #[.bool s7,.slice a7 n7 c7],.agg (Ac s2 a2 n2 c2).toArray],by go_simp,(DV (q:=p+q) (iN.ext j) ⟨s2,a2,n2,c2,rfl,i2,j2⟩).mono ?_⟩;rintro e w' ⟨cs,rfl,A,aU⟩;exact⟨_,rfl,A,cs,rfl,aU⟩
       case fin =>
        intro f j;rintro _ ⟨bH,be,bF,bf,rfl,b5,ba⟩;rintro _ ⟨_,rfl,s9,a9,n9,c9,b9,m9,d9,rfl,aJ,aV,aW⟩;change wpList _ _ _ _ _ _;simp only[lq,lw,lx,lz,Act.put,lj,lk,ly];have ak:=bM.ext j;have cq:(Al s9 a9 n9 c9 false b9 m9 d9).toArray=#[.bool s9,.slice a9 n9 c9,.bool false,.slice b9 m9 d9]:=rfl
        go_wp2_with(refine Aa (vs:=Al s9 a9 n9 c9 false b9 m9 d9) rfl rfl rfl rfl rfl Ak ak rfl (Aq _ _ _ _ _ _ _ _) ?_;intro w9 ag an)
        exact gF (Ap rfl Ak rfl ag) rfl (BG (aF.trans j) ak (AO _ _ _ _ _ _ _ _) an (by omega) aJ aV aW)
     · rw[gR ai];have bI:=l.cell bk;have bJ:=l.cell bl;clear ai HO
       go_wp2_with fail
       refine(bt _ aF _ _ iN (bE.ext l)).out.mono ?_;rintro e aZ ⟨s8,a8,n8,c8,rfl,bQ,c4,cv⟩;have cp:(Ac s8 a8 n8 c8).toArray=#[.bool s8,.slice a8 n8 c8]:=rfl;have hY:=Arr.new aZ 83 (Ac false none 0 0)
       go_upto_region 15 with(refine Aa (vs:=Ac s8 a8 n8 c8) rfl rfl rfl rfl rfl Ai hY rfl (Ae _ _ _ _) ?_;intro av bp cl)
       have b7:Ext aZ av:=((Ext.refl aZ).alloc _).grownR cl (lrf _);have O:=bQ.trans b7;have t:=l.trans O;have b0:=af.trans t;have bO:=aH.ext t;have J:=O.cell J;have M:=O.cell M;have iN:=iN.ext O;have bV:=iR.ext t;have P:=t.cell P;have Q:=t.cell Q;have iK:AF av (.agg (Ac s8 a8 n8 c8).toArray) (K:Int):=⟨s8,a8,n8,c8,rfl,c4,cv.ext b7⟩;have ar:=bp.c 0 rfl;have au:=bp.c 1 rfl;have y0:=t.cell y0;have y1:=t.cell y1;have y2:=t.cell y2;have y3:=t.cell y3;have z0:=t.cell z0
       have z1:=t.cell z1;have z2:=t.cell z2;have z3:=t.cell z3;clear cp hY;have ax:=fun(f:World) (j:Ext av f)=>qh (And.intro (j.cell y0) (And.intro (j.cell y1) (And.intro (j.cell y2) (And.intro (j.cell y3) (And.intro (j.cell z0) (And.intro (j.cell z1) (And.intro (j.cell z2) (And.intro (j.cell z3) (And.intro (j.cell P) (And.intro (j.cell Q) (And.intro (j.cell J) (And.intro (j.cell M) (And.intro (j.cell ar) (j.cell au))))))))))))))
       refine Ab (by kernel_rfl) (fun f=>Ext av f)
        [he (.agg #[.bool s7,.slice a7 n7 c7]),
 he (.agg #[.bool s8,.slice a8 n8 c8]),
 hp (fun v f=>NI ((p+q).num) v f),
 he (.agg #[.bool s6,.slice a6 n6 c6]),
 he (.pointer (some ⟨(w.heap.size+1),2,none⟩)),
 he (.agg #[.bool false,.slice b' m' d']),
 he (.agg #[.bool s8,.slice a8 n8 c8]),
 hp (fun v f=>NI (((q.den/K:Nat):Int)) v f),
 hp (fun v f=>NI (((p+q).den:Int)) v f),
 hp (fun v f=>∃ cs,v = .agg cs.toArray/\CJ f cs (p+q))]
        (by kernel_rfl) (fun _ _ e h=>h.trans e) ((Ext.refl av).drew) ⟨trivial,trivial,NI.x _,trivial,trivial,trivial,trivial,NI.x _,NI.x _,fun v w w' e ⟨cs,h1,h2⟩=>⟨cs,h1,h2.ext e⟩,trivial⟩ ⟨?o0,?o1,?o2,?o3,?o4,?o5,?o6,?o7,?o8,?o9,trivial⟩ ?fin
       case o0 | o1 | o3 | o5 | o6=>exact ol2
       case o4=>exact ofa (d:=2)
       case o2 =>
        refine Ag rfl fun F f j E U h => ?_;have e1:F (.tmp 92)=(.agg #[.bool s7,.slice a7 n7 c7]):=h.2.1;have e2:F (.tmp 93)=(.agg #[.bool s8,.slice a8 n8 c8]):=h.2.2.1;obtain⟨V,W,X,Y,Z,a0,a4,aa,P,Q,J,M,ar,au⟩:=(ax f j).out;refine⟨209,#[.agg #[.bool s7,.slice a7 n7 c7],.agg #[.bool s8,.slice a8 n8 c8]],by go_simp,((bx f _ _ (iN.ext j) (iK.ext j)).out).mono ?_⟩;rintro e w' ⟨s',S,n',T,rfl,A,D,C⟩;exact⟨_,rfl,A,s',S,n',T,rfl,D,C⟩
       case o7 =>
        refine Ag rfl fun F f j E U h => ?_;have e1:F (.tmp 97)=(.agg #[.bool false,.slice b' m' d']):=h.2.1;have e2:F (.tmp 98)=(.agg #[.bool s8,.slice a8 n8 c8]):=h.2.2.1;obtain⟨V,W,X,Y,Z,a0,a4,aa,P,Q,J,M,ar,au⟩:=(ax f j).out;refine⟨209,#[.agg #[.bool false,.slice b' m' d'],.agg #[.bool s8,.slice a8 n8 c8]],by go_simp,((bz f (b0.trans j) _ (iK.ext j)).out).mono ?_⟩;rintro e w' ⟨s',S,n',T,rfl,A,D,C⟩;exact⟨_,rfl,A,s',S,n',T,rfl,D,C⟩
       case o8 =>
        refine Ag rfl fun F f j E U h => ?_;have e1:F (.tmp 95)=(.agg #[.bool s6,.slice a6 n6 c6]):=h.2.1;obtain⟨v2,e2,s2,a2,n2,c2,rfl,i2,j2⟩:=h.2.2.1;obtain⟨V,W,X,Y,Z,a0,a4,aa,P,Q,J,M,ar,au⟩:=(ax f j).out;refine⟨163,#[.agg #[.bool s6,.slice a6 n6 c6],.agg (Ac s2 a2 n2 c2).toArray],by go_simp,((bw f _ _ (bV.ext j) ⟨s2,a2,n2,c2,rfl,i2,j2⟩).out).mono ?_⟩;rintro e w' ⟨s',S,n',T,rfl,A,D,C⟩;exact⟨_,rfl,A,s',S,n',T,rfl,D,C⟩
       case o9 =>
        refine Ag rfl fun F f j E U h => ?_;obtain⟨v1,e1,s1,a1,n1,c1,rfl,i1,j1⟩:=h.2.1;obtain⟨v2,e2,s2,a2,n2,c2,rfl,i2,j2⟩:=h.2.2.1;obtain⟨V,W,X,Y,Z,a0,a4,aa,P,Q,J,M,ar,au⟩:=(ax f j).out;refine⟨166,#[.agg (Ac s1 a1 n1 c1).toArray,.agg (Ac s2 a2 n2 c2).toArray],by go_simp,(DV (q:=p+q) ⟨s1,a1,n1,c1,rfl,i1,j1⟩ ⟨s2,a2,n2,c2,rfl,i2,j2⟩).mono ?_⟩;rintro e w' ⟨cs,rfl,A,aU⟩;exact⟨_,rfl,A,cs,rfl,aU⟩
       case fin =>
        intro f j;rintro _ ⟨bH,be,bF,bf,rfl,b5,ba⟩;rintro _ ⟨cz,cb,cy,cc,rfl,bP,bU⟩;rintro _ ⟨cI,cC,cH,cD,rfl,cA,cB⟩;rintro _ ⟨_,rfl,s9,a9,n9,c9,b9,m9,d9,rfl,aJ,aV,aW⟩;change wpList _ _ _ _ _ _;simp only[lq,lw,lx,lz,Act.put,lj,lk,ly];have ak:=bO.ext j;have cq:(Al s9 a9 n9 c9 false b9 m9 d9).toArray=#[.bool s9,.slice a9 n9 c9,.bool false,.slice b9 m9 d9]:=rfl
        go_wp2_with(refine Aa (vs:=Al s9 a9 n9 c9 false b9 m9 d9) rfl rfl rfl rfl rfl Ak ak rfl (Aq _ _ _ _ _ _ _ _) ?_;intro w9 ag an)
        exact gF (Ap rfl Ak rfl ag) rfl (BG (b0.trans j) ak (AO _ _ _ _ _ _ _ _) an (by omega) aJ aV aW)
theorem QS(i:AM w)(h:BU w v p)(e:BU w v' q)(b:p.num.natAbs<P2 2400)(f:p.den<P2 2400)(c:q.num.natAbs<P2 2400)(g:q.den<P2 2400):Calls prog 146 #[v,v'] w (GN w (p+q)):=by
 by_cases d:p.den=1
 · by_cases a:q.den=1
   · exact PM h e b c d a
   · exact PN h e b c g d a
 · by_cases a:q.den=1
   · exact PO h e b c f d a
   · exact N7 i h e b f c g d a
def NR(q:Rat)(v:Value)(w:World):Prop:=∃ cs,v = .agg cs.toArray/\CJ w cs q
theorem NR.x(q:Rat):StX (NR q):=fun _ _ _ e ⟨a,h1,h2⟩=>⟨a,h1,h2.ext e⟩
def XZ(S:Nat->Prop)(v:Value):Prop:=∀ s a n c b m d,v = .agg (Al s a n c false b m d).toArray->0<n->∀ g,blk a=some g->S g
theorem IE{S:Nat->Prop}(h:BU w v q)(h':AF w v' (k:Int))(N:q.num.natAbs<P2 2400)(b2:q.den<P2 9600)(W:k<P2 9600)(a3:XZ S v)(T:Ix S v'):Calls prog 187 #[v,v'] w (KZ w S (q.num*((k/q.den:Nat):Int))):=by
 obtain⟨_,rfl,s,a,n,c,b,m,d,rfl,HS,hx,hy⟩:=h;have V:Ix S (.agg (Ac s a n c).toArray):=DM (a3 s a n c b m d rfl);have ad:=fun(j:World) (i:Ext w j)=>qh (AA (r:=decide (q.den=1)) (Bh (hy.ext i)) (kj.2 AG));have a8:=fun(j:World) (i:Ext w j)=>qh (K0 (A8 HS (hx.ext i)) (h'.ext i) (Af N (by omega)) W (Or.inl (Af N (by omega))) V T);have K:q.den≠1->∀ (j:World) (i:Ext w j),Hid (Calls prog 209 #[v',.agg (Ac false b m d).toArray] j (KZ j S ((k/q.den:Nat):Int))):=by
  intro D j i;have:=O9 (h'.ext i) (Bh (hy.ext i)) W (by rw[Bi D];exact b2) (mt AG.1 D) T;rw[DI D,j3 (by omega),<-mS]at this;exact qh this
 have a9:=fun(j:World) (i:Ext w j) (x:Value) (hv:AF j x ((k/q.den:Nat):Int)) (hsx:Ix (fun g=>w.heap.size<=g\/S g) x)=>qh (K0 (A8 HS (hx.ext i)) hv (Af N (by omega)) (gN (iI _ _) W) (Or.inl (Af N (by omega))) (fun B o z A he h0 g hg=>Or.inr (V B o z A he h0 g hg)) hsx);clear N b2 W;obtain⟨t,e,l,f,rfl,HT,hv⟩:=h'
 go_enter func187,ntmps187
 go_upto_region 1 with(fail)
 refine CO ?_;intro w0 P E O a0 ac;have p0:=E.c 0 rfl;have p1:=E.c 1 rfl;have p2:=E.c 2 rfl;have p3:=E.c 3 rfl;have p4:=O.c 0 rfl;have p5:=O.c 1 rfl;have hR:Arr w0 (w.heap.size+2) 83 (Ac false none 0 0):=a0;clear ac
 go_wp2_with fail
 refine(ad _ P).out.mono ?_;rintro e w1 ⟨rfl,p⟩;have y:=P.trans p;have R:=hR.ext p;have r0:=p.cell p0;have r1:=p.cell p1;have r2:=p.cell p2;have r3:=p.cell p3;have r4:=p.cell p4;have r5:=p.cell p5;clear p0 p1 p2 p3 p4 p5;by_cases D:q.den=1
 · rw[iA D];have HV:Hid (q.num*((k/q.den:Nat):Int)=q.num*(k:Int)):=qh (by rw[D,lf]);clear D
   go_wp2_with fail
   refine(a8 _ y).out.mono ?_;rintro e w2 ⟨s1,a1,n1,c1,rfl,Q,Y,aa,a4⟩;have ap:(Ac s1 a1 n1 c1).toArray=#[.bool s1,.slice a1 n1 c1]:=rfl;have C:=R.ext Q
   go_wp2_with(refine Aa (vs:=Ac s1 a1 n1 c1) rfl rfl rfl rfl rfl Ai C rfl (Ae _ _ _ _) ?_;intro w9 F I)
   refine gF (Ap rfl Ai rfl F) rfl ?_;rw[HV.out];exact FX (y.trans Q) C (Ax _ _ _ _) I (by omega) Y aa (a4.of y.size (fun _ h=>Or.inr h))
 · rw[gR D];have K:=K D;clear D;go_wp2;have M:=fun(j:World) (i:Ext w1 j)=>qh (And.intro (i.cell r0) (And.intro (i.cell r1) (And.intro (i.cell r2) (And.intro (i.cell r3) (And.intro (i.cell r4) (i.cell r5))))))
   refine Ab (by kernel_rfl) (fun j=>Ext w1 j)
    [he (.pointer (some ⟨w.heap.size,0,none⟩)),
 he (.agg #[.bool s,.slice a n c]),
 he (.agg #[.bool t,.slice e l f]),
 he (.pointer (some ⟨w.heap.size,2,none⟩)),
 he (.agg #[.bool false,.slice b m d]),
 hp (fun v j=>∃ B o z A,v = .agg (Ac B o z A).toArray/\Hid (decide (((k/q.den:Nat):Int)<0)=B)/\Wd j o z A (((k/q.den:Nat):Int)).natAbs/\Hg w.heap.size S o z),
 hp (fun v j=>∃ B o z A,v = .agg (Ac B o z A).toArray/\Hid (decide (q.num*((k/q.den:Nat):Int)<0)=B)/\Wd j o z A (q.num*((k/q.den:Nat):Int)).natAbs/\Hg w.heap.size S o z)]
    (by kernel_rfl) (fun _ _ e h=>h.trans e) ((Ext.refl w1).drew) ⟨trivial,trivial,trivial,trivial,trivial,fun v w w' e ⟨B,o,z,A,h1,h2,h3,h4⟩=>⟨B,o,z,A,h1,h2,h3.ext e,h4⟩,fun v w w' e ⟨B,o,z,A,h1,h2,h3,h4⟩=>⟨B,o,z,A,h1,h2,h3.ext e,h4⟩,trivial⟩ ⟨?o0,?o1,?o2,?o3,?o4,?o5,?o6,trivial⟩ ?fin
   case o0=>exact ofa (d:=0)
   case o1 | o2 | o4=>exact ol2
   case o3=>exact ofa (d:=2)
   case o5 =>
    refine Ag rfl fun X j i U a7 h => ?_;have e1:X (.tmp 14)=(.agg #[.bool t,.slice e l f]):=h.2.1;have e2:X (.tmp 16)=(.agg #[.bool false,.slice b m d]):=h.2.2.1;obtain⟨ae,af,ag,ah,ai,aj⟩:=(M j i).out;refine⟨209,#[.agg #[.bool t,.slice e l f],.agg #[.bool false,.slice b m d]],by go_simp,((K j (y.trans i)).out).mono ?_⟩;rintro e w' ⟨B,o,z,A,rfl,G,L,J,H⟩;exact⟨_,rfl,G,B,o,z,A,rfl,L,J,H.of (y.trans i).size (fun _ h=>Or.inr h)⟩
   case o6 =>
    refine Ag rfl fun X j i U a7 h => ?_;have e1:X (.tmp 13)=(.agg #[.bool s,.slice a n c]):=h.2.1;obtain⟨v2,e2,s2,a2,n2,c2,rfl,i2,j2,f2⟩:=h.2.2.1;obtain⟨ae,af,ag,ah,ai,aj⟩:=(M j i).out;refine⟨163,#[.agg #[.bool s,.slice a n c],.agg (Ac s2 a2 n2 c2).toArray],by go_simp,((a9 j (y.trans i) _ ⟨s2,a2,n2,c2,rfl,i2,j2⟩ (DM f2)).out).mono ?_⟩;rintro e w' ⟨B,o,z,A,rfl,G,L,J,H⟩;exact⟨_,rfl,G,B,o,z,A,rfl,L,J,H.of (y.trans i).size (fun _ h=>h)⟩
   case fin =>
    intro j i;rintro _ ⟨au,an,ar,ao,rfl,ak,am,al⟩;rintro _ ⟨s5,a5,n5,c5,rfl,Z,ab,a6⟩;change wpList _ _ _ _ _ _;simp only[lq,lw,lx,lz,Act.put,lj,lk,ly];have C:=R.ext i;have aq:(Ac s5 a5 n5 c5).toArray=#[.bool s5,.slice a5 n5 c5]:=rfl
    go_wp2_with(refine Aa (vs:=Ac s5 a5 n5 c5) rfl rfl rfl rfl rfl Ai C rfl (Ae _ _ _ _) ?_;intro w9 F I)
    exact gF (Ap rfl Ai rfl F) rfl (FX (y.trans i) C (Ax _ _ _ _) I (by omega) Z ab a6)
theorem JZ(h:BU w v q)(d:AF w v' (k:Int))(a:q.num.natAbs<P2 2400)(b:q.den<P2 9600)(c:k<P2 9600):Calls prog 187 #[v,v'] w (EP w (q.num*((k/q.den:Nat):Int))) :=
 (IE (S:=fun _=>True) h d a b c (fun _ _ _ _ _ _ _ _ _ _ _=>trivial) (fun _ _ _ _ _ _ _ _=>trivial)).mono fun _ _ h=>h.plain
theorem GO{x:Int}(hT:AM w)(h:AF w v x)(h':AF w v' (k:Int))(bx:x.natAbs<P2 9600)(bk:k<P2 9600)(hk:k≠0):Calls prog 191 #[v,v'] w (GN w (mkRat x k)):=by
 have aW:=fun(j:World) (f:Ext w j)=>qh (AA (r:=false) (h'.ext f) (gR (by omega)));have aX:=fun(j:World) (f:Ext w j)=>qh (AA (r:=decide (x=0)) (h.ext f) rfl);have aR:=fun(j:World) (f:Ext w j)=>qh (UB (r:=1) (h'.ext f) (mI (by omega)));have aO:=fun(j:World) (f:Ext w j)=>qh (CY (r:=decide (k=1)) (h'.ext f) (kj.2 (by omega)));have hs:=Pl.rat_frac (n:=x) hk;obtain⟨G,hG⟩:∃ G,G=Nat.gcd x.natAbs k:=⟨_,rfl⟩;rw[<-hG]at hs;have aJ:0<G:=by rw[hG];exact mr _ (jM hk)
 have bG:G<P2 9600:=gN (by rw[hG];exact oQ _ (jM hk)) bk;have au:=fun(j:World) (f:Ext w j)=>qh (Gf (hT.ext f) (h.ext f) (h'.ext f) bx bk);simp only[il,<-hG]at au;have aP:=fun(j:World) (y:Value) (hv:AF j y (G:Int))=>qh (CY (r:=decide (G=1)) hv (kj.2 (by omega)));have av:=fun(j:World) (f:Ext w j) (g:Value) (hg:AF j g (G:Int))=>qh (Ep (h.ext f) hg bx bG (by omega))
 have aw:=fun(j:World) (f:Ext w j) (g:Value) (hg:AF j g (G:Int))=>qh (Ep (h'.ext f) hg bk bG (by omega));rw[<-hs.1]at av;rw[j3 (by omega),<-mS,<-hs.2]at aw;have HZ:x=0->Hid (mkRat x k=0):=fun e=>qh (by rw[e];exact Rat.zero_mkRat k)
 have HK:k=1->Hid ((mkRat x k).num=x/\(mkRat x k).den=1):=fun e=>by
  refine qh ?_;rw[hs.1,hs.2,hG,e,kZ];exact⟨oh _,rfl⟩
 have HO:G=1->Hid ((mkRat x k).num=x/\(mkRat x k).den=k):=fun e=>by
  refine qh ?_;rw[hs.1,hs.2,e];exact⟨oh _,lf _⟩
 have hI:=fun(j:World) (f:Ext w j)=>h.ext f;have aK:=fun(j:World) (f:Ext w j)=>h'.ext f;clear bx bk hk hs hG aJ bG;obtain⟨s,a,n,c,rfl,HS,hx⟩:=h;obtain⟨t,b,m,d,rfl,HT,hy⟩:=h'
 go_enter func191,ntmps191
 go_upto_region 1 with(fail)
 refine CO ?_;intro w0 A a6 a7 aE aV;have aj:=a6.c 0 rfl;have ak:=a6.c 1 rfl;have Z:=a7.c 0 rfl;have a0:=a7.c 1 rfl;have hA0:Arr w0 w.heap.size 83 (Ac s a n c):=a6;have hA1:Arr w0 (w.heap.size+1) 83 (Ac t b m d):=a7;have hR:Arr w0 (w.heap.size+2) 85 (Al false none 0 0 false none 0 0):=aE;clear aV
 go_wp2_with fail
 refine(aW _ A).out.mono ?_;rintro e w1 ⟨rfl,X⟩;have T:=X.cell aj;have U:=X.cell ak
 go_wp2_with fail
 refine(aX _ (A.trans X)).out.mono ?_;rintro e w2 ⟨rfl,aF⟩;have p:=X.trans aF;clear T U;by_cases R:x=0
 · have aD:=HZ R;rw[iA R];have O:=hR.ext p;clear HZ HK HO R
   go_wp2_with(refine Aa (vs:=Al false none 0 0 false none 0 0) rfl rfl rfl rfl rfl Ak O rfl (Aq _ _ _ _ _ _ _ _) ?_;intro w9 L B)
   refine gF (Ap rfl Ak rfl L) rfl ?_;rw[aD.out];exact BG (A.trans p) O (AO _ _ _ _ _ _ _ _) B (by omega) (qh rfl) (Wd.nil _) (Wd.nil _)
 rw[gR R];clear HZ R;have E:=p.cell Z;have F:=p.cell a0
 go_wp2_with fail
 refine(aR _ (A.trans p)).out.mono ?_;rintro e w3 ⟨rfl,aG⟩;have H:=p.trans aG;clear E F;have E:=H.cell Z;have F:=H.cell a0
 go_wp2_with fail
 refine(aO _ (A.trans H)).out.mono ?_;rintro e w4 ⟨rfl,aH⟩;have l:=H.trans aH;clear E F;have T:=l.cell aj;have U:=l.cell ak;have E:=l.cell Z;have F:=l.cell a0;by_cases Q:k=1
 · have a4:=HK Q;rw[iA Q];have O:=hR.ext l;clear HK HO Q
   go_wp2_with(refine Aa (vs:=Al s a n c false none 0 0) rfl rfl rfl rfl rfl Ak O rfl (Aq _ _ _ _ _ _ _ _) ?_;intro w9 L B)
   exact gF (Ap rfl Ak rfl L) rfl (BG (A.trans l) O (AO _ _ _ _ _ _ _ _) B (by omega) (by rw[a4.out.1];exact HS) (by rw[a4.out.1];exact hx.ext (A.trans l)) (by rw[AG.2 a4.out.2];exact Wd.nil _))
 rw[gR Q];clear HK Q
 go_wp2_with fail
 refine(au _ (A.trans l)).out.mono ?_;rintro e w5 ⟨V,I,S,J,rfl,aI,aC,aU⟩;have bd:(Ac V I S J).toArray=#[.bool V,.slice I S J]:=rfl;have hY:=Arr.new w5 83 (Ac false none 0 0)
 go_upto_region 8 with(refine Aa (vs:=Ac V I S J) rfl rfl rfl rfl rfl Ai hY rfl (Ae _ _ _ _) ?_;intro w6 aq aN)
 have ar:Ext w5 w6:=((Ext.refl w5).alloc _).grownR aN (lrf _);have ah:=aq.c 0 rfl;have ai:=aq.c 1 rfl;have iG:AF w6 (.agg (Ac V I S J).toArray) (G:Int):=⟨V,I,S,J,rfl,aC,aU.ext ar⟩
 go_wp2_with fail
 refine(aP _ _ iG).out.mono ?_;rintro e w7 ⟨rfl,Y⟩;have ay:=(aI.trans ar).trans Y;have o:=l.trans ay;have z:=A.trans o;have an:=hR.ext o;have ah:=Y.cell ah;have ai:=Y.cell ai;have iG:=iG.ext Y;have hA0:=hA0.ext o;have hA1:=hA1.ext o;clear T U E F;have T:=o.cell aj;have U:=o.cell ak;have E:=o.cell Z;have F:=o.cell a0;by_cases M:G=1
 · have ap:=HO M;rw[iA M];clear HO M;have i1:=hI _ z;have i2:=aK _ z;rw[<-ap.out.1]at i1;rw[<-ap.out.2]at i2
   go_wp2_with fail
   refine(DV (q:=mkRat x k) i1 i2).mono ?_;rintro e b4 ⟨cs,rfl,C,s9,a9,n9,c9,b9,m9,d9,rfl,a5,af,ag⟩;have aQ:(Al s9 a9 n9 c9 false b9 m9 d9).toArray=#[.bool s9,.slice a9 n9 c9,.bool false,.slice b9 m9 d9]:=rfl;have N:=an.ext C
   go_wp2_with(refine Aa (vs:=Al s9 a9 n9 c9 false b9 m9 d9) rfl rfl rfl rfl rfl Ak N rfl (Aq _ _ _ _ _ _ _ _) ?_;intro b5 K P)
   exact gF (Ap rfl Ak rfl K) rfl (BG (z.trans C) N (AO _ _ _ _ _ _ _ _) P (by omega) a5 af ag)
 · rw[gR M];clear HO M;go_wp2;have ao:=fun(j:World) (f:Ext w7 j)=>qh (And.intro (f.cell T) (And.intro (f.cell U) (And.intro (f.cell E) (And.intro (f.cell F) (And.intro (f.cell ah) (f.cell ai))))))
   refine Ab (by kernel_rfl) (fun j=>Ext w7 j)
    [he (.agg #[.bool s,.slice a n c]),
 he (.agg #[.bool V,.slice I S J]),
 hp (fun v j=>NI ((mkRat x k).num) v j),
 he (.agg #[.bool t,.slice b m d]),
 he (.agg #[.bool V,.slice I S J]),
 hp (fun v j=>NI (((mkRat x k).den:Int)) v j)]
    (by kernel_rfl) (fun _ _ e h=>h.trans e) ((Ext.refl w7).drew) ⟨trivial,trivial,NI.x _,trivial,trivial,NI.x _,trivial⟩ ⟨?o0,?o1,?o2,?o3,?o4,?o5,trivial⟩ ?fin
   case o0 | o1 | o3 | o4=>exact ol2
   case o2 =>
    refine Ag rfl fun ρ j f az aM h => ?_;have e1:ρ (.tmp 30)=(.agg #[.bool s,.slice a n c]):=h.2.1;have e2:ρ (.tmp 31)=(.agg #[.bool V,.slice I S J]):=h.2.2.1;obtain⟨aY,aZ,b0,b1,b2,b3⟩:=(ao j f).out;refine⟨209,#[.agg #[.bool s,.slice a n c],.agg #[.bool V,.slice I S J]],by go_simp,((av j (z.trans f) _ (iG.ext f)).out).mono ?_⟩;rintro e w' ⟨s',a',n',c',rfl,a8,ae,ad⟩;exact⟨_,rfl,a8,s',a',n',c',rfl,ae,ad⟩
   case o5 =>
    refine Ag rfl fun ρ j f az aM h => ?_;have e1:ρ (.tmp 33)=(.agg #[.bool t,.slice b m d]):=h.2.1;have e2:ρ (.tmp 34)=(.agg #[.bool V,.slice I S J]):=h.2.2.1;obtain⟨aY,aZ,b0,b1,b2,b3⟩:=(ao j f).out;refine⟨209,#[.agg #[.bool t,.slice b m d],.agg #[.bool V,.slice I S J]],by go_simp,((aw j (z.trans f) _ (iG.ext f)).out).mono ?_⟩;rintro e w' ⟨s',a',n',c',rfl,a8,ae,ad⟩;exact⟨_,rfl,a8,s',a',n',c',rfl,ae,ad⟩
   case fin =>
    intro j f;rintro _ ⟨s1,a1,n1,c1,rfl,aA,aS⟩;rintro _ ⟨s2,a2,n2,c2,rfl,aB,aT⟩;change wpList _ _ _ _ _ _;simp only[lq,lw,lx,lz,Act.put,lj,lk,ly];have aa:=hA0.ext f;have aL:=hA1.ext f;have ac:=an.ext f;have bb:(Ac s1 a1 n1 c1).toArray=#[.bool s1,.slice a1 n1 c1]:=rfl;have bc:(Ac s2 a2 n2 c2).toArray=#[.bool s2,.slice a2 n2 c2]:=rfl
    go_upto_region 10 with(first
     | (refine Aa (vs:=Ac s1 a1 n1 c1) rfl rfl rfl rfl rfl Ai aa rfl (Ae _ _ _ _) ?_;intro w9 L B;have ab:=aL.kept B (by simp))
     | (refine Aa (vs:=Ac s2 a2 n2 c2) rfl rfl rfl rfl rfl Ai ab rfl (Ae _ _ _ _) ?_;intro W al D))
    have am:=L.kept D (by simp);have ac:=(ac.kept B (by simp)).kept D (by simp);have ax:Ext w W:=((z.trans f).grownR B (lrf _)).grownR D (by omega);have i1:AF W (.agg (Ac s1 a1 n1 c1).toArray) (mkRat x k).num:=⟨s1,a1,n1,c1,rfl,aA,(aS.kept aa (Ax _ _ _ _) B).kept ab (Ax _ _ _ _) D⟩;have i2:AF W (.agg (Ac s2 a2 n2 c2).toArray) ((mkRat x k).den:Int):=⟨s2,a2,n2,c2,rfl,aB,(aT.kept aa (Ax _ _ _ _) B).kept ab (Ax _ _ _ _) D⟩;have b6:W.cell? ⟨w.heap.size,0,none⟩=some (.bool s1):=am.cell (i:=0) (by simp[Ac])
    have b7:W.cell? ⟨w.heap.size,1,none⟩=some (.slice a1 n1 c1):=am.cell (i:=1) (by simp[Ac]);have b8:=al.c 0 rfl;have ba:=al.c 1 rfl
    go_wp2_with fail
    refine(DV (q:=mkRat x k) i1 i2).mono ?_;rintro e b4 ⟨cs,rfl,C,s9,a9,n9,c9,b9,m9,d9,rfl,a5,af,ag⟩;have aQ:(Al s9 a9 n9 c9 false b9 m9 d9).toArray=#[.bool s9,.slice a9 n9 c9,.bool false,.slice b9 m9 d9]:=rfl;have N:=ac.ext C
    go_wp2_with(refine Aa (vs:=Al s9 a9 n9 c9 false b9 m9 d9) rfl rfl rfl rfl rfl Ak N rfl (Aq _ _ _ _ _ _ _ _) ?_;intro b5 K P)
    exact gF (Ap rfl Ak rfl K) rfl (BG (ax.trans C) N (AO _ _ _ _ _ _ _ _) P (by omega) a5 af ag)
end Go.Proofs.YtlbmnokpiilfpaaGreatDoor
