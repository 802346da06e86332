/- Part PzLGp. -/
import Derived.Test.YtlbmnokpiilfpaaGreatDoorPzMvg
import Derived.Test.YtlbmnokpiilfpaaGreatDoorPzRvg
import Derived.Test.YtlbmnokpiilfpaaGreatDoorPzMadg

set_option linter.all false
set_option maxRecDepth 100000
set_option maxHeartbeats 100000000
namespace Go.Proofs.YtlbmnokpiilfpaaGreatDoor
open Tryz Go Go.RowKit
variable {use:Bool} {n vp:Int} {ls:List (List Int)} {xs ys zs:List Int} {a l x y z:Option Addr} {w:World}
theorem ew{nx Y ny cy nz cz na ca nl cl:Nat}{tp:List Tx}(hT:AM w)(hx:SlI w x nx Y xs)(hy:SlI w y ny cy ys)(hm:SlI w z nz cz zs)(ha:AH w a na ca tp)(hl:SlL w l nl cl ls) :
 Calls prog 7 #[.int .i64 n,.slice x nx Y,.slice y ny cy,.slice z nz cz,.agg #[.int .i64 vp,.slice a na ca],.slice l nl cl,.bool use] w (Jz w):=by
 have HL:=qh hl.len
 go_enter func7,ntmps7
 go_upto_region 1 with(fail)
 refine AP ?_;intro w0 V a2 ac
 have s1:=Bu (w:=w0) (cs:=#[.slice x nx Y,.slice y ny cy,.slice z nz cz]) (xss:=[xs,ys,zs]) (n:=3) rfl (by omega) rfl (by
  intro i hi;have:i=0\/i=1\/i=2:=by omega
  rcases this with rfl|rfl|rfl
  · exact⟨_,_,_,rfl,hx.ext V⟩
  · exact⟨_,_,_,rfl,hy.ext V⟩
  · exact⟨_,_,_,rfl,hm.ext V⟩)
 have f:=PBx.one V a2 ha;clear a2 ac ha
 go_wp2_with fail
 refine(j3 s1).mono ?_;rintro e w1 ⟨rfl,rfl⟩;have hF:Ext w0 (w0.alloc (.cells #[.slice x nx Y,.slice y ny cy,.slice z nz cz] 24)):=(Ext.refl w0).alloc _;replace f:=f.ext hF;clear hF s1;generalize w0.alloc (.cells #[.slice x nx Y,.slice y ny cy,.slice z nz cz] 24)=w2 at *
 generalize [xs,ys,zs].all (fun x=>decide (x.length<=20))=fw;cases fw with
 | false =>
  go_wp2_with fail
  refine Z7.mono ?_;rintro e bl ⟨rfl,hF⟩;go_wp2;go_ret;exact⟨rfl,f.e.trans hF⟩
 | true =>
  by_cases s1:Av tp 6 8;rotate_left
  · obtain⟨o,s⟩:=f.c (i:=0) rfl;have b:=qh (Ea (va:=vp) (nt:=6) (d:=8) (f.t (i:=0) rfl));rw[pN s1]at b;clear s1
    go_wp2_with fail
    refine b.out.mono ?_;rintro e bm ⟨rfl,hF⟩;replace f:=f.ext hF;clear b hF o s
    go_wp2_with fail
    refine Z7.mono ?_;rintro e bn ⟨rfl,hF⟩;go_wp2;go_ret;exact⟨rfl,f.e.trans hF⟩
  obtain⟨o,s⟩:=f.c (i:=0) rfl;have b:=qh (Ea (va:=vp) (nt:=6) (d:=8) (f.t (i:=0) rfl));rw[qC s1]at b;have U:=qh s1;clear s1
  go_wp2_with fail
  refine b.out.mono ?_;rintro e bo ⟨rfl,hF⟩;replace f:=f.ext hF;clear b hF o s;have N:=qh (cY (p:=6) (q:=8) (hl.ext f.e));cases M:ZL ls 6 8 with
  | false =>
   rw[M]at N
   go_wp2_with fail
   refine N.out.mono ?_;rintro e w5 ⟨rfl,rfl⟩;clear N
   go_wp2_with fail
   refine Z7.mono ?_;rintro e bp ⟨rfl,hF⟩;go_wp2;go_ret;exact⟨rfl,f.e.trans hF⟩
  | true =>
   have bb:nl<=6:=by
    unfold ZL at M;rw[qQ,qX]at M;have h1:=M.1;rw[HL.out]at h1;omega
   rw[M]at N
   go_wp2_with fail
   refine N.out.mono ?_;rintro e w5 ⟨rfl,rfl⟩;clear N M
   go_wp2_with fail
   refine(je (hx.ext f.e) (hy.ext f.e)).mono ?_;rintro e w6 ⟨ps,a6,n6,c6,ap,mm,rfl,hF,a0,a3,a4,I,a7,a5⟩;replace f:=f.ext hF;have a1:=qh I;have T:=qh a7;have k:=gP a0 a3 a4;have S:=qh a0;clear hF a0 a3 a4 I a7
   go_wp2_with fail
   refine(Z4 (hx.ext f.e) (by omega)).mono ?_;rintro e w7 ⟨aA,cA,A,rfl,hF,hA,pA,lA⟩;replace f:=f.ext hF;replace k:=k.ext hF;clear hF;cases use
   case' false =>
    have j:SlI w7 aA mm cA A:=hA;have H:isG ps->n6<=24:=fun _=>by have h1:=T.out;have h2:=S.out;omega
    have I:n6<=1000:=by have h1:=T.out;have h2:=S.out;omega
    obtain⟨G,hG⟩:∃ G,ps=G:=⟨_,rfl⟩;obtain⟨X,hX⟩:∃ X,A=X:=⟨_,rfl⟩;rw[hG]at k H;rw[hX]at j;obtain⟨ga,E⟩:∃ v,a6=v:=⟨_,rfl⟩;obtain⟨gn,C⟩:∃ v,n6=v:=⟨_,rfl⟩;obtain⟨gc,F⟩:∃ v,c6=v:=⟨_,rfl⟩;obtain⟨xa,J⟩:∃ v,aA=v:=⟨_,rfl⟩;obtain⟨xn,L⟩:∃ v,mm=v:=⟨_,rfl⟩;obtain⟨xc,K⟩:∃ v,cA=v:=⟨_,rfl⟩
    go_upto_region 7 with(fail)
    rw[E,C,F]at k;rw[C]at H I;rw[J,L,K]at j
    try simp only[E,C,F,J,L,K]
    clear E C F J L K hG hX hA pA lA a1 T S a5
   case' true =>
    have j:SlI w7 x nx Y xs:=hx.ext f.e;have W:SlL w7 l nl cl ls:=hl.ext f.e;have H:isG ls->nl<=24:=fun _=>by omega
    have I:nl<=1000:=by omega
    clear k hA pA lA a1 T S a5;obtain⟨G,hG⟩:∃ G,ls=G:=⟨_,rfl⟩;obtain⟨X,hX⟩:∃ X,xs=X:=⟨_,rfl⟩;rw[hG]at W H;rw[hX]at j;obtain⟨ga,E⟩:∃ v,l=v:=⟨_,rfl⟩;obtain⟨gn,C⟩:∃ v,nl=v:=⟨_,rfl⟩;obtain⟨gc,F⟩:∃ v,cl=v:=⟨_,rfl⟩;obtain⟨xa,J⟩:∃ v,x=v:=⟨_,rfl⟩;obtain⟨xn,L⟩:∃ v,nx=v:=⟨_,rfl⟩;obtain⟨xc,K⟩:∃ v,Y=v:=⟨_,rfl⟩
    go_upto_region 7 with(fail)
    rw[E,C,F]at W;rw[C]at H I;rw[J,L,K]at j
    try simp only[E,C,F,J,L,K]
    have k:=W;clear E C F J L K hG hX W
   all_goals
    obtain⟨⟨mv,me⟩,Z⟩:∃ r,Zp X zs=r:=⟨_,rfl⟩;have R:=hm.ext f.e;have h1:=ig j R;rw[Z]at h1;have b:=qh h1;clear h1
    go_wp2_with fail
    refine b.out.mono ?_;rintro e bv ⟨b3,bj,b9,rfl,hF,hq⟩;replace f:=f.ext hF;replace j:=j.ext hF;replace k:=k.ext hF;replace R:=R.ext hF;have m:=hq.sl;clear hF b hq;have h1:=ie j R;rw[Z]at h1;have b:=qh h1;clear h1
    go_wp2_with fail
    refine b.out.mono ?_;rintro e bx ⟨b4,bk,ba,rfl,hF,hq⟩;replace f:=f.ext hF;replace j:=j.ext hF;replace k:=k.ext hF;replace m:=m.ext hF;have B:=hq.sl;clear hF b hq Z R;obtain⟨⟨v1,t1,e1⟩,h1⟩:∃ r,actG vp X (rdP vp tp)=r:=⟨_,rfl⟩;have H1:=qh h1;clear h1;obtain⟨⟨v2,t2,e2⟩,h2⟩:∃ r,avG vp G (rdP vp tp)=r:=⟨_,rfl⟩;have H2:=qh h2;clear h2;obtain⟨o,s⟩:=f.c (i:=0) rfl;have b:=qh (eI H1.out (hT.ext f.e) j (f.t (i:=0) rfl) U.out)
    go_wp2_with fail
    refine b.out.mono ?_;rintro e a8 ⟨ay,bd,b5,rfl,hF,P⟩;have Q:=Arr.new a8 28 (Ah 0 none 0 0);clear b o s
    go_upto_region 10 with(refine Bo rfl rfl rfl rfl Q rfl ?_;intro aq O D)
    have g:=hF.trans (((Ext.refl a8).alloc _).grownR D (lrf _));replace f:=f.new hF P O D;replace j:=j.ext g;replace k:=k.ext g;replace m:=m.ext g;replace B:=B.ext g;clear Q O D hF P g;obtain⟨o,s⟩:=f.c (i:=0) rfl;have b:=qh (fE H1.out j (f.t (i:=0) rfl) U.out)
    go_wp2_with fail
    refine b.out.mono ?_;rintro e a9 ⟨b0,bf,b6,rfl,hF,P⟩;have Q:=Arr.new a9 28 (Ah 0 none 0 0);clear b o s
    go_upto_region 11 with(refine Bo rfl rfl rfl rfl Q rfl ?_;intro ar O D)
    have g:=hF.trans (((Ext.refl a9).alloc _).grownR D (lrf _));replace f:=f.new hF P O D;replace j:=j.ext g;replace k:=k.ext g;replace m:=m.ext g;replace B:=B.ext g;clear Q O D hF P g;obtain⟨o,s⟩:=f.c (i:=0) rfl;have b:=qh (df H2.out (hT.ext f.e) k H I (f.t (i:=0) rfl) U.out)
    go_wp2_with fail
    refine b.out.mono ?_;rintro e aa ⟨b1,bg,b7,rfl,hF,P⟩;have Q:=Arr.new aa 28 (Ah 0 none 0 0);clear b o s
    go_upto_region 12 with(refine Bo rfl rfl rfl rfl Q rfl ?_;intro av O D)
    have g:=hF.trans (((Ext.refl aa).alloc _).grownR D (lrf _));replace f:=f.new hF P O D;replace j:=j.ext g;replace k:=k.ext g;replace m:=m.ext g;replace B:=B.ext g;clear Q O D hF P g;obtain⟨o,s⟩:=f.c (i:=0) rfl;have b:=qh (eA H2.out k H (f.t (i:=0) rfl) U.out)
    go_wp2_with fail
    refine b.out.mono ?_;rintro e ab ⟨b2,bi,b8,rfl,hF,P⟩;have Q:=Arr.new ab 28 (Ah 0 none 0 0);clear b o s
    go_upto_region 13 with(refine Bo rfl rfl rfl rfl Q rfl ?_;intro ax O D)
    have g:=hF.trans (((Ext.refl ab).alloc _).grownR D (lrf _));replace f:=f.new hF P O D;replace j:=j.ext g;replace k:=k.ext g;replace m:=m.ext g;replace B:=B.ext g;clear Q O D hF P g;have q1:(me == me)=true:=by simp
    have q2:(e1 == e1)=true:=by simp
    have q3:(e2 == e2)=true:=by simp
    have b:=qh (LT m B);rw[qC (show mv=mv from rfl)]at b
    go_wp2_with fail
    refine b.out.mono ?_;rintro e bz ⟨rfl,hF⟩;replace f:=f.ext hF.ext;clear b hF m B j k;obtain⟨ad,ag⟩:=f.c (i:=1) rfl;obtain⟨ah,ai⟩:=f.c (i:=2) rfl;have b:=qh (B9 (va:=v1) (vb:=v1) (f.t (i:=1) rfl) (f.t (i:=2) rfl));rw[show decide (v1=v1/\t1=t1)=true by simp]at b
    go_wp2_with fail
    refine b.out.mono ?_;rintro e bq ⟨rfl,hF⟩;replace f:=f.ext hF;clear b hF ad ag ah ai;obtain⟨aj,ak⟩:=f.c (i:=3) rfl;obtain⟨al,ao⟩:=f.c (i:=4) rfl;have b:=qh (B9 (va:=v2) (vb:=v2) (f.t (i:=3) rfl) (f.t (i:=4) rfl));rw[show decide (v2=v2/\t2=t2)=true by simp]at b
    go_wp2_with fail
    refine b.out.mono ?_;rintro e bs ⟨rfl,hF⟩;replace f:=f.ext hF;clear b hF aj ak al ao
    go_wp2_with fail
    refine Z7.mono ?_;rintro e bt ⟨rfl,hF⟩;go_wp2;go_ret;exact⟨rfl,f.e.trans hF⟩
end Go.Proofs.YtlbmnokpiilfpaaGreatDoor
