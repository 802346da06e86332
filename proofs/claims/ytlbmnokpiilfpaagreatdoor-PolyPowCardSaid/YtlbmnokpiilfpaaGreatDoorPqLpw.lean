/- Part PqLpw. -/
import Derived.Test.YtlbmnokpiilfpaaGreatDoorPqRpo

set_option linter.all false
set_option maxRecDepth 100000
set_option maxHeartbeats 100000000
namespace Go.Proofs.YtlbmnokpiilfpaaGreatDoor
open Tryz Go Go.RowKit
variable {err k v va:Int} {c ca n na:Nat} {w w':World}
theorem QD.a{ol:Option (List Pl.Tm)}{e:Ending}(h:QD w va k ol e w'):Cd w (powA va k ol) e w':=by
 rcases h with⟨rfl,h⟩|⟨l,rfl,h⟩
 · exact h
 · show Cd w (if 0<=k/\k<=24 then(if 24<Bu l*k then((0:Int),([]:List Tx),(2:Int))else resQ va (Pl.powT l k.toNat))else((0:Int),([]:List Tx),(3:Int))) e w';rcases h with⟨h1,h⟩|⟨h1,h2,h⟩|⟨h1,h2,h⟩
   · rw[gT h1];exact h
   · rw[gY h1,gY h2];exact h
   · rw[gY h1,gT h2];exact h
theorem WN{ts:List Tx}{l:List Pl.Tm}(h:rdP va ts=some l)(c:Av ts 3 4)(n:va<=2)(b:0<=k)(g:k<=24)(m:¬ 24<Bu l*k):∃ D,PwH va.toNat D l k.toNat:=by
 obtain⟨D,e,f,a⟩:=T8 h c (d:=4) (nt:=3) (B:=14) (by omega) (by unfold P2;decide);have j:=Pv.of h;refine⟨D,by omega,j.inv,by rw[BH h];exact c.1,a,e,f,by omega,fun t i => ?_⟩;have h1:=jh (Fs i) b;rw[Int.toNat_of_nonneg b];omega
theorem Tb{a:Option Addr}{b:List Tx}{t:List Tx}(i:powA va k (rdP va b)=(v,t,err))(f:AM w)(g:AH w a n c b)(d:Av b 3 4)(m:va<=2) :
 Calls prog 38 #[.agg #[.int .i64 va,.slice a n c],.int .i64 k] w (Jc w v t err) :=
 (UX f g (fun t j=>gJ (d.2 t j).1 (by omega)) (fun l h h0 h1 h2=>by obtain⟨D,H⟩:=WN h d m h0 h1 h2;exact H.ok)).mono fun e o h=>by
  have h:=h.a;rw[i]at h;exact Cl.v h
theorem QG{a:Option Addr}{d:List Tx}{t:List Tx}(o:powA va k (rdP va d)=(v,t,err))(l:AH w a n c d)(g:Av d 3 4)(p:va<=2) :
 Calls prog 39 #[.agg #[.int .i64 va,.slice a n c],.int .i64 k] w (Jc w v t err) :=
 (Tf l (fun t j=>gJ (g.2 t j).1 (by omega)) (by have:=l.len;have:=g.1;omega) (fun q h h0 h1 h2 i m r b f=>by
  have hp:rdP va d=some (AC q):=by rw[FT,h];rfl
  rw[Vc h]at h2;obtain⟨D,H⟩:=WN hp g p h0 h1 h2
  exact H.ref (fun t j=>(Dk h).len t j) m b f)).mono fun e s h=>by
  rw[o]at h;exact Cl.v h
theorem Pr{a:Option Addr}{A:List Tx}(K:AM w)(L:AH w a na ca A) :
 Calls prog 6 #[.agg #[.int .i64 va,.slice a na ca],.int .i64 k] w (Jz w):=by
 have l:=fun(wx:World) (T:Ext w wx)=>qh (F9 (K.ext T))
 go_enter func6,ntmps6
 go_upto_region 1 with(fail)
 refine AP ?_;intro w0 o n z;have f:=PBx.one o n L;clear o n z L;by_cases v:Av A 3 4;rotate_left
 · obtain⟨g,j⟩:=f.c (i:=0) rfl;have b:=qh (Ea (va:=va) (nt:=3) (d:=4) (f.t (i:=0) rfl));rw[gR v]at b
   go_wp2_with fail
   refine b.out.mono ?_;rintro e X ⟨rfl,hF⟩;replace f:=f.ext hF;clear b hF;replace g:=(f.c (i:=0) rfl).1;replace j:=(f.c (i:=0) rfl).2;clear v
   go_wp2_with fail
   refine(l _ f.e).out.mono ?_;rintro e Y ⟨rfl,hF⟩;go_wp2;go_ret;exact⟨rfl,f.e.trans hF⟩
 have J:=qh v;obtain⟨g,j⟩:=f.c (i:=0) rfl;have b:=qh (Ea (va:=va) (nt:=3) (d:=4) (f.t (i:=0) rfl));rw[iA v]at b
 go_wp2_with fail
 refine b.out.mono ?_;rintro e Z ⟨rfl,hF⟩;replace f:=f.ext hF;clear b hF;replace g:=(f.c (i:=0) rfl).1;replace j:=(f.c (i:=0) rfl).2;clear v;by_cases U:va<=2;rotate_left
 · have y:(2:Int)<va:=by omega
   go_wp2_with fail
   refine(l _ f.e).out.mono ?_;rintro e a0 ⟨rfl,hF⟩;go_wp2;go_ret;exact⟨rfl,f.e.trans hF⟩
 have y:¬ (2:Int)<va:=by omega
 have I:=qh U;clear g j;obtain⟨⟨x,M,e1⟩,h1⟩:∃ r,powA va k (rdP va A)=r:=⟨_,rfl⟩;have H:=qh h1;clear h1;obtain⟨g,j⟩:=f.c (i:=0) rfl;have b:=qh (Tb H.out (K.ext f.e) (f.t (i:=0) rfl) J.out I.out)
 go_wp2_with fail
 refine b.out.mono ?_;rintro e B ⟨P,V,R,rfl,hF,p⟩;have q:=Arr.new B 28 (Ah 0 none 0 0);clear b g j
 go_upto_region 4 with(refine Bo rfl rfl rfl rfl q rfl ?_;intro N m s)
 replace f:=f.new hF p m s;clear q m s hF p;obtain⟨g,j⟩:=f.c (i:=0) rfl;have b:=qh (QG H.out (f.t (i:=0) rfl) J.out I.out)
 go_wp2_with fail
 refine b.out.mono ?_;rintro e C ⟨Q,W,S,rfl,hF,p⟩;have q:=Arr.new C 28 (Ah 0 none 0 0);clear b g j
 go_upto_region 5 with(refine Bo rfl rfl rfl rfl q rfl ?_;intro O m s)
 replace f:=f.new hF p m s;clear q m s hF p;obtain⟨D,E⟩:=f.c (i:=1) rfl;obtain⟨F,G⟩:=f.c (i:=2) rfl;have b:=qh (B9 (va:=x) (vb:=x) (f.t (i:=1) rfl) (f.t (i:=2) rfl));rw[show decide (x=x/\M=M)=true by simp]at b
 go_wp2_with fail
 refine b.out.mono ?_;rintro e a1 ⟨rfl,hF⟩;replace f:=f.ext hF;clear b hF D E F G
 go_wp2_with fail
 refine(l _ f.e).out.mono ?_;rintro e a2 ⟨rfl,hF⟩;go_wp2;go_ret;exact⟨rfl,f.e.trans hF⟩
end Go.Proofs.YtlbmnokpiilfpaaGreatDoor
