/- Part PqLL. -/
import Derived.Test.YtlbmnokpiilfpaaGreatDoorPqLin

set_option linter.all false
set_option maxRecDepth 100000
set_option maxHeartbeats 100000000
namespace Go.Proofs.YtlbmnokpiilfpaaGreatDoor
open Tryz Go Go.RowKit
variable {s:ByteArray} {va vb:Int} {a b:Option Addr} {w:World}
theorem Ci{a b:List Tx}:(∀ p∈[(va,a),(vb,b)],Av p.2 8 12)<->Av a 8 12/\Av b 8 12:=by simp
theorem K8{na ca nb cb:Nat}{A tb:List Tx}(P:AM w)(ha:AH w a na ca A)(hb:AH w b nb cb tb) :
 Calls prog 8 #[.agg #[.int .i64 va,.slice a na ca],.agg #[.int .i64 vb,.slice b nb cb],.string s] w (Jz w):=by
 have L:=fun(wx:World) (hC:Ext w wx)=>qh (F9 (P.ext hC))
 go_enter func8,ntmps8
 go_upto_region 1 with(fail)
 refine Cf ?_;intro w0 O a1 a2 a6;have f:=(PBx.one O a1 ha).app (PBx.one O a2 hb);clear O a1 a2 a6 ha hb;have y:Ext w0 (w0.alloc (.cells #[.int .i64 va,.slice a na ca,.int .i64 vb,.slice b nb cb] 28)):=(Ext.refl _).alloc _;have d:=qh (Iy (n:=2) (PSl.two (Arr.new w0 28 (Ah va a na ca ++ Ah vb b nb cb)) ((f.t (i:=0) rfl).ext y) ((f.t (i:=1) rfl).ext y)) (by omega));by_cases N:Av A 8 12/\Av tb 8 12;rotate_left
 · obtain⟨g,j⟩:=f.c (i:=0) rfl;obtain⟨q,v⟩:=f.c (i:=1) rfl;rw[gR (fun h=>N (Ci.1 h))]at d
   go_wp2_with(refine Dx rfl rfl underlying75 C0 rfl rfl ?_)
   refine d.out.mono ?_;rintro e bg ⟨rfl,hF⟩;replace f:=f.ext (y.trans hF);clear d hF y g j q v;clear N
   go_wp2_with fail
   refine(L _ f.e).out.mono ?_;rintro e bh ⟨rfl,hF⟩;go_wp2;go_ret;exact⟨rfl,f.e.trans hF⟩
 by_cases hz:s.size<=12;rotate_left
 · have a5:(12:Int)<s.size:=by omega
   obtain⟨g,j⟩:=f.c (i:=0) rfl;obtain⟨q,v⟩:=f.c (i:=1) rfl;rw[iA (Ci.2 N)]at d
   go_wp2_with(refine Dx rfl rfl underlying75 C0 rfl rfl ?_)
   refine d.out.mono ?_;rintro e bi ⟨rfl,hF⟩;replace f:=f.ext (y.trans hF);clear d hF y g j q v;clear N hz
   go_wp2_with fail
   refine(L _ f.e).out.mono ?_;rintro e bj ⟨rfl,hF⟩;go_wp2;go_ret;exact⟨rfl,f.e.trans hF⟩
 have a5:¬ (12:Int)<s.size:=by omega
 have x:=qh N.1;have S2:=qh N.2;have HZ:=qh hz;obtain⟨g,j⟩:=f.c (i:=0) rfl;obtain⟨q,v⟩:=f.c (i:=1) rfl;rw[iA (Ci.2 N)]at d
 go_wp2_with(refine Dx rfl rfl underlying75 C0 rfl rfl ?_)
 refine d.out.mono ?_;rintro e bk ⟨rfl,hF⟩;replace f:=f.ext (y.trans hF);clear d hF y g j q v;clear N hz;obtain⟨⟨v1,t1,e1⟩,h1⟩:∃ r,addA va vb (rdP va A) (rdP vb tb)=r:=⟨_,rfl⟩;have H1:=qh h1;clear h1;obtain⟨⟨v2,t2,e2⟩,h2⟩:∃ r,addA va vb (rdP va A) ((rdP vb tb).map (BO (-1)))=r:=⟨_,rfl⟩;have H2:=qh h2;clear h2;obtain⟨⟨S,t3,e3⟩,h3⟩:∃ r,sclA va (-1) (rdP va A)=r:=⟨_,rfl⟩;have H3:=qh h3;clear h3;obtain⟨⟨v4,t4,e4⟩,h4⟩:∃ r,sclB va (AD (An s)) (rdP va A)=r:=⟨_,rfl⟩;have H4:=qh h4;clear h4
 have G1:Hid (cmbA va vb (rdP va A) (AD (An ⟨#[49]⟩)) (rdP vb tb)=(v1,t1,e1)):=qh (by rw[XM,UY];exact H1.out);have G2:Hid (cmbA va vb (rdP va A) (AD (An ⟨#[45,49]⟩)) (rdP vb tb)=(v2,t2,e2)):=qh (by rw[WM,UZ];exact H2.out);obtain⟨g,j⟩:=f.c (i:=0) rfl;obtain⟨q,v⟩:=f.c (i:=1) rfl;have d:=qh (SW H1.out (P.ext f.e) (f.t (i:=0) rfl) (f.t (i:=1) rfl) (Bz x.out (by omega)) (Bz S2.out (by omega)) (fun _ _ h1 h2 _=>XN h1 h2 x.out S2.out))
 go_wp2_with fail
 refine d.out.mono ?_;rintro e a9 ⟨aG,b4,aS,rfl,hF,p⟩;have m:=Arr.new a9 28 (Ah 0 none 0 0);clear d g j q v
 go_upto_region 4 with(refine Bo rfl rfl rfl rfl m rfl ?_;intro au k o)
 replace f:=f.new hF p k o;clear m k o hF p;obtain⟨g,j⟩:=f.c (i:=0) rfl;obtain⟨q,v⟩:=f.c (i:=1) rfl;have d:=qh (B0 (s:=⟨#[49]⟩) G1.out (f.t (i:=0) rfl) (f.t (i:=1) rfl) x.out S2.out (by decide))
 go_wp2_with fail
 refine d.out.mono ?_;rintro e aa ⟨aH,b5,aT,rfl,hF,p⟩;have m:=Arr.new aa 28 (Ah 0 none 0 0);clear d g j q v
 go_upto_region 5 with(refine Bo rfl rfl rfl rfl m rfl ?_;intro av k o)
 replace f:=f.new hF p k o;clear m k o hF p;obtain⟨g,j⟩:=f.c (i:=0) rfl;obtain⟨q,v⟩:=f.c (i:=1) rfl;have d:=qh (Ta H2.out (P.ext f.e) (f.t (i:=0) rfl) (f.t (i:=1) rfl) x.out S2.out)
 go_wp2_with fail
 refine d.out.mono ?_;rintro e ab ⟨aI,b6,aU,rfl,hF,p⟩;have m:=Arr.new ab 28 (Ah 0 none 0 0);clear d g j q v
 go_upto_region 6 with(refine Bo rfl rfl rfl rfl m rfl ?_;intro aw k o)
 replace f:=f.new hF p k o;clear m k o hF p;obtain⟨g,j⟩:=f.c (i:=0) rfl;obtain⟨q,v⟩:=f.c (i:=1) rfl;have d:=qh (B0 (s:=⟨#[45,49]⟩) G2.out (f.t (i:=0) rfl) (f.t (i:=1) rfl) x.out S2.out (by decide))
 go_wp2_with fail
 refine d.out.mono ?_;rintro e ac ⟨aJ,b7,aV,rfl,hF,p⟩;have m:=Arr.new ac 28 (Ah 0 none 0 0);clear d g j q v
 go_upto_region 7 with(refine Bo rfl rfl rfl rfl m rfl ?_;intro ax k o)
 replace f:=f.new hF p k o;clear m k o hF p;obtain⟨ak,al⟩:=f.c (i:=2) rfl;obtain⟨am,an⟩:=f.c (i:=3) rfl;have d:=qh (B9 (va:=v1) (vb:=v1) (f.t (i:=2) rfl) (f.t (i:=3) rfl));rw[show decide (v1=v1/\t1=t1)=true by simp]at d
 go_wp2_with fail
 refine d.out.mono ?_;rintro e bl ⟨rfl,hF⟩;replace f:=f.ext hF;clear d hF ak al am an;have a7:(e1 != e1)=false:=by simp
 obtain⟨ao,ap⟩:=f.c (i:=4) rfl;obtain⟨aq,ar⟩:=f.c (i:=5) rfl;have d:=qh (B9 (va:=v2) (vb:=v2) (f.t (i:=4) rfl) (f.t (i:=5) rfl));rw[show decide (v2=v2/\t2=t2)=true by simp]at d
 go_wp2_with fail
 refine d.out.mono ?_;rintro e ad ⟨rfl,hF⟩;replace f:=f.ext hF;clear d hF ao ap aq ar;have a8:(e2 != e2)=false:=by simp
 obtain⟨g,j⟩:=f.c (i:=0) rfl;clear a7
 go_upto_region 9 with(fail)
 clear a8;have m:=Arr.new ad 28 (Ah 0 none 0 0)
 go_upto_region 10 with(refine Bo rfl rfl rfl rfl m rfl ?_;intro wz k o)
 replace f:=f.new (Ext.refl _) (AH.nil _) k o;clear m k o g j;by_cases M:(rdP va A).isSome=true
 · have G3:Hid (cmbA va va (rdP va []) (AD (An ⟨#[45,49]⟩)) (rdP va A)=(S,t3,e3)):=qh (by
    obtain⟨l,hl⟩:=iY.1 M;rw[WM,U1 hl,Pm M,S9]
    exact H3.out)
   have G4:Hid (cmbA va va (rdP va []) (AD (An s)) (rdP va A)=(v4,t4,e4)):=qh (by
    obtain⟨l,hl⟩:=iY.1 M;rw[U1 hl,Pm M]
    exact H4.out)
   have HK:=qh M;clear M;have SZ:Hid (Av [] 8 12):=qh ⟨gO _,fun t I=>by cases I⟩;obtain⟨g,j⟩:=f.c (i:=0) rfl;have d:=qh (Mz H3.out (P.ext f.e) (f.t (i:=0) rfl) (Bz x.out (by omega)) (fun l h=>QF h x.out QE))
   go_wp2_with fail
   refine d.out.mono ?_;rintro e ae ⟨aK,b8,aW,rfl,hF,p⟩;have m:=Arr.new ae 28 (Ah 0 none 0 0);clear d g j
   go_upto_region 11 with(refine Bo rfl rfl rfl rfl m rfl ?_;intro ay k o)
   replace f:=f.new hF p k o;clear m k o hF p;obtain⟨g,j⟩:=f.c (i:=0) rfl;obtain⟨B,C⟩:=f.c (i:=6) rfl;have d:=qh (B0 (s:=⟨#[45,49]⟩) G3.out (f.t (i:=6) rfl) (f.t (i:=0) rfl) SZ.out x.out (by decide))
   go_wp2_with fail
   refine d.out.mono ?_;rintro e af ⟨aL,b9,aX,rfl,hF,p⟩;have m:=Arr.new af 28 (Ah 0 none 0 0);clear d g j B C
   go_upto_region 12 with(refine Bo rfl rfl rfl rfl m rfl ?_;intro az k o)
   replace f:=f.new hF p k o;clear m k o hF p;obtain⟨g,j⟩:=f.c (i:=0) rfl;have d:=qh (Dy (vars:=va) (f.t (i:=0) rfl) (fun t I=>gJ (x.out.2 t I).1 (by omega)));rw[BQ,HK.out]at d
   go_wp2_with fail
   refine d.out.mono ?_;rintro e bm ⟨rfl,hF⟩;replace f:=f.ext hF;clear d hF g j;obtain⟨g,j⟩:=f.c (i:=0) rfl;have d:=qh (I0 H4.out (P.ext f.e) (f.t (i:=0) rfl) x.out HZ.out)
   go_wp2_with fail
   refine d.out.mono ?_;rintro e ag ⟨aM,ba,aY,rfl,hF,p⟩;have m:=Arr.new ag 28 (Ah 0 none 0 0);clear d g j
   go_upto_region 15 with(refine Bo rfl rfl rfl rfl m rfl ?_;intro aA k o)
   replace f:=f.new hF p k o;clear m k o hF p;obtain⟨g,j⟩:=f.c (i:=0) rfl;obtain⟨B,C⟩:=f.c (i:=6) rfl;have d:=qh (B0 (s:=s) G4.out (f.t (i:=6) rfl) (f.t (i:=0) rfl) SZ.out x.out HZ.out)
   go_wp2_with fail
   refine d.out.mono ?_;rintro e ah ⟨aN,bb,aZ,rfl,hF,p⟩;have m:=Arr.new ah 28 (Ah 0 none 0 0);clear d g j B C
   go_upto_region 16 with(refine Bo rfl rfl rfl rfl m rfl ?_;intro aB k o)
   replace f:=f.new hF p k o;clear m k o hF p;obtain⟨g,j⟩:=f.c (i:=0) rfl;have d:=qh (Dy (vars:=va) (f.t (i:=0) rfl) (fun t I=>gJ (x.out.2 t I).1 (by omega)));rw[BQ,HK.out]at d
   go_wp2_with fail
   refine d.out.mono ?_;rintro e bn ⟨rfl,hF⟩;replace f:=f.ext hF;clear d hF g j;obtain⟨V,W⟩:=f.c (i:=7) rfl;obtain⟨X,Y⟩:=f.c (i:=8) rfl;have d:=qh (B9 (va:=S) (vb:=S) (f.t (i:=7) rfl) (f.t (i:=8) rfl));rw[show decide (S=S/\t3=t3)=true by simp]at d
   go_wp2_with fail
   refine d.out.mono ?_;rintro e bo ⟨rfl,hF⟩;replace f:=f.ext hF;clear d hF V W X Y;obtain⟨Z,a0⟩:=f.c (i:=9) rfl;obtain⟨J,K⟩:=f.c (i:=10) rfl;have d:=qh (B9 (va:=v4) (vb:=v4) (f.t (i:=9) rfl) (f.t (i:=10) rfl));rw[show decide (v4=v4/\t4=t4)=true by simp]at d
   go_wp2_with fail
   refine d.out.mono ?_;rintro e bp ⟨rfl,hF⟩;replace f:=f.ext hF;clear d hF Z a0 J K
   go_wp2_with fail
   refine(L _ f.e).out.mono ?_;rintro e bq ⟨rfl,hF⟩;go_wp2;go_ret;exact⟨rfl,f.e.trans hF⟩
 · have H:(rdP va A).isSome=false:=by simpa using M
   have HK:=qh H;obtain⟨rfl,rfl,rfl⟩:S=0/\t3=[]/\e3=1:=by
    have h1:=H3.out;cases hr:rdP va A with
    | some l=>rw[hr]at H;cases H
    | none =>
     rw[hr]at h1;have h2:((0:Int),([]:List Tx),(1:Int))=(S,t3,e3):=h1;injection h2 with h3 h4;injection h4 with h4 h5;exact⟨h3.symm,h4.symm,h5.symm⟩
   obtain⟨rfl,rfl,rfl⟩:v4=0/\t4=[]/\e4=1:=by
    have h1:=H4.out;rw[U0 H]at h1;injection h1 with h3 h4;injection h4 with h4 h5;exact⟨h3.symm,h4.symm,h5.symm⟩
   clear M H;have SZ:Hid (Av [] 8 12):=qh ⟨gO _,fun t I=>by cases I⟩;obtain⟨⟨v5,t5,e5⟩,h5⟩:∃ r,cmbA va va (rdP va []) (AD (An ⟨#[45,49]⟩)) (rdP va A)=r:=⟨_,rfl⟩;have H5:=qh h5;clear h5;obtain⟨⟨v6,t6,e6⟩,h6⟩:∃ r,cmbA va va (rdP va []) (AD (An s)) (rdP va A)=r:=⟨_,rfl⟩;have H6:=qh h6;clear h6;obtain⟨g,j⟩:=f.c (i:=0) rfl;have d:=qh (Mz H3.out (P.ext f.e) (f.t (i:=0) rfl) (Bz x.out (by omega)) (fun l h=>QF h x.out QE))
   go_wp2_with fail
   refine d.out.mono ?_;rintro e ai ⟨aO,bc,b0,rfl,hF,p⟩;have m:=Arr.new ai 28 (Ah 0 none 0 0);clear d g j
   go_upto_region 11 with(refine Bo rfl rfl rfl rfl m rfl ?_;intro aC k o)
   replace f:=f.new hF p k o;clear m k o hF p;obtain⟨g,j⟩:=f.c (i:=0) rfl;obtain⟨B,C⟩:=f.c (i:=6) rfl;have d:=qh (B0 (s:=⟨#[45,49]⟩) H5.out (f.t (i:=6) rfl) (f.t (i:=0) rfl) SZ.out x.out (by decide))
   go_wp2_with fail
   refine d.out.mono ?_;rintro e T ⟨aP,bd,b1,rfl,hF,p⟩;have m:=Arr.new T 28 (Ah 0 none 0 0);clear d g j B C
   go_upto_region 12 with(refine Bo rfl rfl rfl rfl m rfl ?_;intro a3 k o)
   have R:Ext T a3:=((Ext.refl T).alloc _).grownR o (lrf _);have z:=f.ext (hF.trans R);obtain⟨g,j⟩:=z.c (i:=0) rfl;have d:=qh (Dy (vars:=va) (z.t (i:=0) rfl) (fun t I=>gJ (x.out.2 t I).1 (by omega)));rw[BQ,HK.out]at d;clear z m o p
   go_wp2_with fail
   refine d.out.mono ?_;rintro e br ⟨rfl,Q⟩;have D:=k.ext Q;clear d k g j
   go_upto_region 14 with(refine Bo rfl rfl rfl rfl D rfl ?_;intro aD E G)
   have F:=(R.trans Q).grownR G (lrf _);replace f:=f.ext (hF.trans F);replace f:=f.app (PBx.one f.e E (AH.nil _));clear D E G F R Q hF;obtain⟨g,j⟩:=f.c (i:=0) rfl;have d:=qh (I0 H4.out (P.ext f.e) (f.t (i:=0) rfl) x.out HZ.out)
   go_wp2_with fail
   refine d.out.mono ?_;rintro e aj ⟨aQ,be,b2,rfl,hF,p⟩;have m:=Arr.new aj 28 (Ah 0 none 0 0);clear d g j
   go_upto_region 15 with(refine Bo rfl rfl rfl rfl m rfl ?_;intro aE k o)
   replace f:=f.new hF p k o;clear m k o hF p;obtain⟨g,j⟩:=f.c (i:=0) rfl;obtain⟨B,C⟩:=f.c (i:=6) rfl;have d:=qh (B0 (s:=s) H6.out (f.t (i:=6) rfl) (f.t (i:=0) rfl) SZ.out x.out HZ.out)
   go_wp2_with fail
   refine d.out.mono ?_;rintro e U ⟨aR,bf,b3,rfl,hF,p⟩;have m:=Arr.new U 28 (Ah 0 none 0 0);clear d g j B C
   go_upto_region 16 with(refine Bo rfl rfl rfl rfl m rfl ?_;intro a4 k o)
   have R:Ext U a4:=((Ext.refl U).alloc _).grownR o (lrf _);have z:=f.ext (hF.trans R);obtain⟨g,j⟩:=z.c (i:=0) rfl;have d:=qh (Dy (vars:=va) (z.t (i:=0) rfl) (fun t I=>gJ (x.out.2 t I).1 (by omega)));rw[BQ,HK.out]at d;clear z m o p
   go_wp2_with fail
   refine d.out.mono ?_;rintro e bs ⟨rfl,Q⟩;have D:=k.ext Q;clear d k g j
   go_upto_region 18 with(refine Bo rfl rfl rfl rfl D rfl ?_;intro aF E G)
   have F:=(R.trans Q).grownR G (lrf _);replace f:=f.ext (hF.trans F);replace f:=f.app (PBx.one f.e E (AH.nil _));clear D E G F R Q hF;obtain⟨V,W⟩:=f.c (i:=7) rfl;obtain⟨X,Y⟩:=f.c (i:=8) rfl;have d:=qh (B9 (va:=(0:Int)) (vb:=(0:Int)) (f.t (i:=7) rfl) (f.t (i:=8) rfl));rw[show decide ((0:Int)=(0:Int)/\([]:List Tx)=([]:List Tx))=true by simp]at d
   go_wp2_with fail
   refine d.out.mono ?_;rintro e bt ⟨rfl,hF⟩;replace f:=f.ext hF;clear d hF V W X Y;obtain⟨Z,a0⟩:=f.c (i:=9) rfl;obtain⟨J,K⟩:=f.c (i:=10) rfl;have d:=qh (B9 (va:=(0:Int)) (vb:=(0:Int)) (f.t (i:=9) rfl) (f.t (i:=10) rfl));rw[show decide ((0:Int)=(0:Int)/\([]:List Tx)=([]:List Tx))=true by simp]at d
   go_wp2_with fail
   refine d.out.mono ?_;rintro e bu ⟨rfl,hF⟩;replace f:=f.ext hF;clear d hF Z a0 J K
   go_wp2_with fail
   refine(L _ f.e).out.mono ?_;rintro e bv ⟨rfl,hF⟩;go_wp2;go_ret;exact⟨rfl,f.e.trans hF⟩
end Go.Proofs.YtlbmnokpiilfpaaGreatDoor
