/- Part PaLau. -/
import Derived.Test.YthdbingomfdeoaaGreatDoorPa1
import Derived.Test.YthdbingomfdeoaaGreatDoorPaRau
import Derived.Test.YthdbingomfdeoaaGreatDoorPaSmp

set_option linter.all false
set_option maxRecDepth 100000
set_option maxHeartbeats 100000000
namespace Go.Proofs.YthdbingomfdeoaaGreatDoor
open Tryz Go Go.RowKit
variable {vp:Int} {c n:Nat} {a x1 x2:Option Addr} {w w':World}
theorem E6{ps:List (Int×List Tx)}(h:PSl w a n c ps)(e:Ext w w'):PSl w' a n c ps:=by
 obtain⟨b,h1,h2,h3⟩:=h;exact⟨b,h1.ext e,h2,fun i f=>by obtain⟨A,m,d,g,j⟩:=h3 i f;exact⟨A,m,d,g,j.ext e⟩⟩
theorem Eb{na ca V c1 W c2:Nat}{Z:List Tx}{ps qs:List (Int×List Tx)}(hT:BE w)(hp:CS w a na ca Z)(h1:PSl w x1 V c1 ps)(h2:PSl w x2 W c2 qs) :
 Calls prog 3 #[.agg #[.int .i64 vp,.slice a na ca],.slice x1 V c1,.slice x2 W c2] w (SH w):=by
 have O:ps.length=V:=by obtain⟨_,_,h,_⟩:=h1;exact h
 have P:qs.length=W:=by obtain⟨_,_,h,_⟩:=h2;exact h
 have K:=qh (And.intro O P);have A:=qh (And.intro hT (And.intro hp (And.intro h1 h2)));clear O P hT hp h1 h2
 go_enter func3,ntmps3
 go_upto_region 1 with(fail)
 refine AK ?_;intro w0 f F a6;have g:=F.c 0 rfl;have i:=F.c 1 rfl;clear F a6;have l:=qh (fun(E:World) (m:Ext w E)=>Ep (va:=vp) (nt:=6) (d:=6) (A.out.2.1.ext m));have n:=qh (fun(E:World) (m:Ext w E)=>Ee (k0:=3) (nt:=3) (dd:=6) (E6 A.out.2.2.1 m));have z:=qh (fun(E:World) (m:Ext w E)=>Ee (k0:=3) (nt:=3) (dd:=6) (E6 A.out.2.2.2 m));obtain⟨b1,G⟩:∃ b,decide (Bp Z 6 6)=b:=⟨_,rfl⟩;obtain⟨b2,H⟩:∃ b,decide (ps.length<=3/\∀ p∈ps,Bp p.2 3 6)=b:=⟨_,rfl⟩
 obtain⟨b3,I⟩:∃ b,decide (qs.length<=3/\∀ p∈qs,Bp p.2 3 6)=b:=⟨_,rfl⟩;rw[G]at l;rw[H]at n;rw[I]at z;have HB:=qh (And.intro G (And.intro H I));clear G H I;cases b1 with
 | false =>
  go_wp2_with fail
  refine(l.out _ f).mono ?_;rintro e R ⟨rfl,hF⟩;replace f:=f.trans hF;have j:=hF.cell g;have k:=hF.cell i;clear hF g i;have g:=j;have i:=k;clear j k
  go_wp2_with fail
  refine B8.mono ?_;rintro e S ⟨rfl,hF⟩;go_wp2;go_ret;exact⟨rfl,f.trans hF⟩
 | true =>
 cases b2 with
 | false =>
  go_wp2_with fail
  refine(l.out _ f).mono ?_;rintro e R ⟨rfl,hF⟩;replace f:=f.trans hF;have j:=hF.cell g;have k:=hF.cell i;clear hF g i;have g:=j;have i:=k;clear j k
  go_wp2_with fail
  refine(n.out _ f).mono ?_;rintro e w2 ⟨rfl,hF⟩;replace f:=f.trans hF;have j:=hF.cell g;have k:=hF.cell i;clear hF g i;have g:=j;have i:=k;clear j k
  go_wp2_with fail
  refine B8.mono ?_;rintro e S ⟨rfl,hF⟩;go_wp2;go_ret;exact⟨rfl,f.trans hF⟩
 | true =>
 cases b3 with
 | false =>
  go_wp2_with fail
  refine(l.out _ f).mono ?_;rintro e R ⟨rfl,hF⟩;replace f:=f.trans hF;have j:=hF.cell g;have k:=hF.cell i;clear hF g i;have g:=j;have i:=k;clear j k
  go_wp2_with fail
  refine(n.out _ f).mono ?_;rintro e w2 ⟨rfl,hF⟩;replace f:=f.trans hF;have j:=hF.cell g;have k:=hF.cell i;clear hF g i;have g:=j;have i:=k;clear j k
  go_wp2_with fail
  refine(z.out _ f).mono ?_;rintro e w3 ⟨rfl,hF⟩;replace f:=f.trans hF;have j:=hF.cell g;have k:=hF.cell i;clear hF g i;have g:=j;have i:=k;clear j k
  go_wp2_with fail
  refine B8.mono ?_;rintro e S ⟨rfl,hF⟩;go_wp2;go_ret;exact⟨rfl,f.trans hF⟩
 | true =>
 by_cases U:vp<=4\/6<vp
 case neg =>
  have a3:(4:Int)<vp:=by omega
  have a4:vp<=6:=by omega
  go_wp2_with fail
  refine(l.out _ f).mono ?_;rintro e R ⟨rfl,hF⟩;replace f:=f.trans hF;have j:=hF.cell g;have k:=hF.cell i;clear hF g i;have g:=j;have i:=k;clear j k
  go_wp2_with fail
  refine(n.out _ f).mono ?_;rintro e w2 ⟨rfl,hF⟩;replace f:=f.trans hF;have j:=hF.cell g;have k:=hF.cell i;clear hF g i;have g:=j;have i:=k;clear j k
  go_wp2_with fail
  refine(z.out _ f).mono ?_;rintro e w3 ⟨rfl,hF⟩;replace f:=f.trans hF;have j:=hF.cell g;have k:=hF.cell i;clear hF g i;have g:=j;have i:=k;clear j k
  go_wp2_with fail
  refine B8.mono ?_;rintro e S ⟨rfl,hF⟩;go_wp2;go_ret;exact⟨rfl,f.trans hF⟩
 have t1:=gC HB.out.1;have X:=gC HB.out.2.1;have Y:=gC HB.out.2.2;have a7:V<=3:=by rw[<-K.out.1];exact X.1
 have a8:W<=3:=by rw[<-K.out.2];exact Y.1
 have B:Hid (∀ p∈(vp,Z) :: (ps ++ qs),p.2.length<=6/\∀ t∈p.2,t.1.length<=6):=qh (fun p hp=>by
  rcases fS.1 hp with rfl|h
  · exact⟨t1.1,fun t C=>(t1.2 t C).1⟩
  · rcases fo.1 h with h|h
    · exact⟨by have:=(X.2 p h).1;omega,fun t C=>((X.2 p h).2 t C).1⟩
    · exact⟨by have:=(Y.2 p h).1;omega,fun t C=>((Y.2 p h).2 t C).1⟩)
 have M:=qh (fun(E:World) (m:Ext w E)=>Fa (va:=vp) (A.out.1.ext m) (A.out.2.1.ext m) (E6 A.out.2.2.1 m) (E6 A.out.2.2.2 m) (fun p hp=>⟨by have:=(B.out p hp).1;omega,fun t C=>by have:=(B.out p hp).2 t C;omega⟩) (by omega) (by omega) U);have N:=qh (fun(E:World) (m:Ext w E)=>Fd (va:=vp) (A.out.2.1.ext m) (E6 A.out.2.2.1 m) (E6 A.out.2.2.2 m) (fun p hp=>⟨by have:=(B.out p hp).1;omega,fun t C=>by have:=(B.out p hp).2 t C;omega⟩) (by omega) (by omega) U);clear t1 X Y
 obtain⟨rs,Q⟩:∃ r,autR vp Z ps qs=r:=⟨_,rfl⟩;rw[Q]at M N;clear Q;obtain⟨L,T⟩:=rs;have D:vp<=4\/(4<vp/\6<vp):=by omega
 rcases D with D|⟨D,a5⟩
 · have a3:¬ (4:Int)<vp:=by omega
   clear D U
   go_wp2_with fail
   refine(l.out _ f).mono ?_;rintro e R ⟨rfl,hF⟩;replace f:=f.trans hF;have j:=hF.cell g;have k:=hF.cell i;clear hF g i;have g:=j;have i:=k;clear j k
   go_wp2_with fail
   refine(n.out _ f).mono ?_;rintro e w2 ⟨rfl,hF⟩;replace f:=f.trans hF;have j:=hF.cell g;have k:=hF.cell i;clear hF g i;have g:=j;have i:=k;clear j k
   go_wp2_with fail
   refine(z.out _ f).mono ?_;rintro e w3 ⟨rfl,hF⟩;replace f:=f.trans hF;have j:=hF.cell g;have k:=hF.cell i;clear hF g i;have g:=j;have i:=k;clear j k
   go_wp2_with fail
   refine(M.out _ f).mono ?_;rintro e w4 ⟨r1,k1,d1,a0,rfl,hF,rfl,o,s⟩;replace f:=f.trans hF;have j:=hF.cell g;have k:=hF.cell i;clear hF g i M
   go_wp2_with fail
   refine(N.out _ f).mono ?_;rintro e w5 ⟨r2,k2,d2,a1,rfl,hF,rfl,q,v⟩;replace f:=f.trans hF;have x:=GH rfl (o.ext hF) (s.ext hF);have y:=GH rfl q v;clear hF N o s q v j k;have J:=qh (Ft x y);rw[gl (rfl:L=L)]at J;have a2:(T == T)=true:=by simp
   go_wp2_with fail
   refine J.out.mono ?_;rintro e w6 ⟨rfl,hF⟩;replace f:=f.trans hF.ext;clear J hF x y
   go_wp2_with fail
   refine B8.mono ?_;rintro e S ⟨rfl,hF⟩;go_wp2;go_ret;exact⟨rfl,f.trans hF⟩
 · have a4:¬ vp<=6:=by omega
   clear a5 U
   go_wp2_with fail
   refine(l.out _ f).mono ?_;rintro e R ⟨rfl,hF⟩;replace f:=f.trans hF;have j:=hF.cell g;have k:=hF.cell i;clear hF g i;have g:=j;have i:=k;clear j k
   go_wp2_with fail
   refine(n.out _ f).mono ?_;rintro e w2 ⟨rfl,hF⟩;replace f:=f.trans hF;have j:=hF.cell g;have k:=hF.cell i;clear hF g i;have g:=j;have i:=k;clear j k
   go_wp2_with fail
   refine(z.out _ f).mono ?_;rintro e w3 ⟨rfl,hF⟩;replace f:=f.trans hF;have j:=hF.cell g;have k:=hF.cell i;clear hF g i;have g:=j;have i:=k;clear j k
   go_wp2_with fail
   refine(M.out _ f).mono ?_;rintro e w4 ⟨r1,k1,d1,a0,rfl,hF,rfl,o,s⟩;replace f:=f.trans hF;have j:=hF.cell g;have k:=hF.cell i;clear hF g i M
   go_wp2_with fail
   refine(N.out _ f).mono ?_;rintro e w5 ⟨r2,k2,d2,a1,rfl,hF,rfl,q,v⟩;replace f:=f.trans hF;have x:=GH rfl (o.ext hF) (s.ext hF);have y:=GH rfl q v;clear hF N o s q v j k;have J:=qh (Ft x y);rw[gl (rfl:L=L)]at J;have a2:(T == T)=true:=by simp
   go_wp2_with fail
   refine J.out.mono ?_;rintro e w6 ⟨rfl,hF⟩;replace f:=f.trans hF.ext;clear J hF x y
   go_wp2_with fail
   refine B8.mono ?_;rintro e S ⟨rfl,hF⟩;go_wp2;go_ret;exact⟨rfl,f.trans hF⟩
end Go.Proofs.YthdbingomfdeoaaGreatDoor
