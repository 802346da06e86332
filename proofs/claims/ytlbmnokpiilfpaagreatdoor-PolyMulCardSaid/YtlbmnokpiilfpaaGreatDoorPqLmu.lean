/- Part PqLmu. -/
import Derived.Test.YtlbmnokpiilfpaaGreatDoorPqMuo

set_option linter.all false
set_option maxRecDepth 100000
set_option maxHeartbeats 100000000
namespace Go.Proofs.YtlbmnokpiilfpaaGreatDoor
open Tryz Go Go.RowKit
variable {va vb:Int} {a b:Option Addr} {w:World}
theorem Ci{a b:List Tx}:(∀ p∈[(va,a),(vb,b)],Av p.2 8 12)<->Av a 8 12/\Av b 8 12:=by simp
theorem Ws{f:List Tx}(s1:Av f 8 12)(i:Int):∀ l,rdP va f=some l->0<=i->i<va->Cj (Pl.derT i.toNat l):=fun l h h0 h1=>by
 have n:l.length<=8:=by rw[BH h];exact s1.1
 have m:=EU i.toNat l
 have j:∀ t∈Pl.derT i.toNat l,Pl.RB 96 t.2:=fun t a=>by
  obtain⟨s,c,hp,rfl⟩:=Cv a;have h6:=A5 h s c;have g:=(AW h).1;have d:=h6.2 _ (Y6 (by rw[h6.1];omega:i.toNat<s.1.length));exact Pl.RB.mul (Eu h (k:=12) (fun t a=>(s1.2 t a).1) s c) (show Pl.RB 48 ((s.1.getD i.toNat 0:Int):Rat) from⟨ib (show(s.1.getD i.toNat 0).natAbs<P2 21 by rw[WO];omega) (Hq (by omega)),Cu (by omega)⟩)
 refine⟨fun e he=>⟨RB.str (Pl.RB.coef (b:=96) (by omega) e j) (by omega),?_⟩,by omega⟩;obtain⟨t,a,rfl⟩:=Pl.coef_present he;obtain⟨s,c,hp,rfl⟩:=Cv a;have h6:=A5 h s c;have g:=(AW h).1;refine⟨by show(Pl.decE _ _).length=6;unfold Pl.decE;rw[kA];exact h6.1,fun x d => ?_⟩;have:=Ve h6.2 hp x d;omega
theorem Pq{i:Int}{C ca D cb:Nat}{E K:List Tx}(I:AM w)(ha:AH w a C ca E)(hb:AH w b D cb K) :
 Calls prog 4 #[.agg #[.int .i64 va,.slice a C ca],.agg #[.int .i64 vb,.slice b D cb],.int .i64 i] w (Jz w):=by
 have B:=fun(wx:World) (hC:Ext w wx)=>qh (F9 (I.ext hC))
 go_enter func4,ntmps4
 go_upto_region 1 with(fail)
 refine Cf ?_;intro L v z A J;have f:=(PBx.one v z ha).app (PBx.one v A hb);clear v z A J ha hb;have m:Ext L (L.alloc (.cells #[.int .i64 va,.slice a C ca,.int .i64 vb,.slice b D cb] 28)):=(Ext.refl _).alloc _;have d:=qh (Iy (n:=2) (PSl.two (Arr.new L 28 (Ah va a C ca ++ Ah vb b D cb)) ((f.t (i:=0) rfl).ext m) ((f.t (i:=1) rfl).ext m)) (by omega));by_cases y:Av E 8 12/\Av K 8 12;rotate_left
 · obtain⟨g,j⟩:=f.c (i:=0) rfl;obtain⟨k,l⟩:=f.c (i:=1) rfl;rw[gR (fun h=>y (Ci.1 h))]at d
   go_wp2_with(refine Dx rfl rfl underlying75 C0 rfl rfl ?_)
   refine d.out.mono ?_;rintro e ag ⟨rfl,hF⟩;replace f:=f.ext (m.trans hF);clear d hF m g j k l;clear y
   go_wp2_with fail
   refine(B _ f.e).out.mono ?_;rintro e ah ⟨rfl,hF⟩;go_wp2;go_ret;exact⟨rfl,f.e.trans hF⟩
 have x:=qh y.1;have H:=qh y.2;obtain⟨g,j⟩:=f.c (i:=0) rfl;obtain⟨k,l⟩:=f.c (i:=1) rfl;rw[iA (Ci.2 y)]at d
 go_wp2_with(refine Dx rfl rfl underlying75 C0 rfl rfl ?_)
 refine d.out.mono ?_;rintro e ai ⟨rfl,hF⟩;replace f:=f.ext (m.trans hF);clear d hF m g j k l;clear y;obtain⟨⟨F,t1,e1⟩,h1⟩:∃ r,mulA va vb (rdP va E) (rdP vb K)=r:=⟨_,rfl⟩;have Y:=qh h1;clear h1;obtain⟨⟨G,t2,e2⟩,h2⟩:∃ r,derA va i (rdP va E)=r:=⟨_,rfl⟩;have Z:=qh h2;clear h2;obtain⟨g,j⟩:=f.c (i:=0) rfl;obtain⟨k,l⟩:=f.c (i:=1) rfl;have d:=qh (S5 Y.out (I.ext f.e) (f.t (i:=0) rfl) (f.t (i:=1) rfl) (Bz x.out (by omega)) (Bz H.out (by omega)) (fun _ _ h1 h2 _=>Wu h1 h2 x.out H.out))
 go_wp2_with fail
 refine d.out.mono ?_;rintro e M ⟨a4,ac,a8,rfl,hF,p⟩;have q:=Arr.new M 28 (Ah 0 none 0 0);clear d g j k l
 go_upto_region 4 with(refine Bo rfl rfl rfl rfl q rfl ?_;intro a0 o s)
 replace f:=f.new hF p o s;clear q o s hF p;obtain⟨g,j⟩:=f.c (i:=0) rfl;obtain⟨k,l⟩:=f.c (i:=1) rfl;have d:=qh (QH Y.out (f.t (i:=0) rfl) (f.t (i:=1) rfl) x.out H.out)
 go_wp2_with fail
 refine d.out.mono ?_;rintro e N ⟨a5,ad,a9,rfl,hF,p⟩;have q:=Arr.new N 28 (Ah 0 none 0 0);clear d g j k l
 go_upto_region 5 with(refine Bo rfl rfl rfl rfl q rfl ?_;intro a1 o s)
 replace f:=f.new hF p o s;clear q o s hF p;obtain⟨g,j⟩:=f.c (i:=0) rfl;have d:=qh (Nz Z.out (I.ext f.e) (f.t (i:=0) rfl) (Bz x.out (by omega)) (Ws x.out i))
 go_wp2_with fail
 refine d.out.mono ?_;rintro e O ⟨a6,ae,aa,rfl,hF,p⟩;have q:=Arr.new O 28 (Ah 0 none 0 0);clear d g j
 go_upto_region 6 with(refine Bo rfl rfl rfl rfl q rfl ?_;intro a2 o s)
 replace f:=f.new hF p o s;clear q o s hF p;obtain⟨g,j⟩:=f.c (i:=0) rfl;have d:=qh (Lz Z.out (f.t (i:=0) rfl) x.out)
 go_wp2_with fail
 refine d.out.mono ?_;rintro e P ⟨a7,af,ab,rfl,hF,p⟩;have q:=Arr.new P 28 (Ah 0 none 0 0);clear d g j
 go_upto_region 7 with(refine Bo rfl rfl rfl rfl q rfl ?_;intro a3 o s)
 replace f:=f.new hF p o s;clear q o s hF p;obtain⟨Q,R⟩:=f.c (i:=2) rfl;obtain⟨S,T⟩:=f.c (i:=3) rfl;have d:=qh (B9 (va:=F) (vb:=F) (f.t (i:=2) rfl) (f.t (i:=3) rfl));rw[show decide (F=F/\t1=t1)=true by simp]at d
 go_wp2_with fail
 refine d.out.mono ?_;rintro e aj ⟨rfl,hF⟩;replace f:=f.ext hF;clear d hF Q R S T;obtain⟨U,V⟩:=f.c (i:=4) rfl;obtain⟨W,X⟩:=f.c (i:=5) rfl;have d:=qh (B9 (va:=G) (vb:=G) (f.t (i:=4) rfl) (f.t (i:=5) rfl));rw[show decide (G=G/\t2=t2)=true by simp]at d
 go_wp2_with fail
 refine d.out.mono ?_;rintro e ak ⟨rfl,hF⟩;replace f:=f.ext hF;clear d hF U V W X
 go_wp2_with fail
 refine(B _ f.e).out.mono ?_;rintro e al ⟨rfl,hF⟩;go_wp2;go_ret;exact⟨rfl,f.e.trans hF⟩
end Go.Proofs.YtlbmnokpiilfpaaGreatDoor
