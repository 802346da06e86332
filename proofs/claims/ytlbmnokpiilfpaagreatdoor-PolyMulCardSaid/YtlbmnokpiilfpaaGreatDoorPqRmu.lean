/- Part PqRmu. -/
import Derived.Test.YtlbmnokpiilfpaaGreatDoorPqCx1

set_option linter.all false
set_option maxRecDepth 100000
set_option maxHeartbeats 100000000
namespace Go.Proofs.YtlbmnokpiilfpaaGreatDoor
open Tryz Go Go.RowKit
variable {va vb:Int} {a b:Option Addr} {w:World}
noncomputable def mulR (va vb:Int) (oa ob:Option (List Pl.Tm)):Int×List Tx×Int :=
 match oa,ob with
 | some la,some lb=>if va=vb then resQ va (Pl.prodT la lb)else(0,[],4)
 | _,_=>(0,[],1)
theorem Vb{oa ob:Option (List Pl.Tm)}(h:¬ (oa.isSome=true/\ob.isSome=true)):mulR va vb (oa.map AC) (ob.map AC)=(0,[],1):=by
 cases oa <;> cases ob <;> simp at h <;> rfl
theorem Te{n c m d:Nat}{ta tb:List Tx}(ha:AH w a n c ta)(hb:AH w b m d tb)(sa:∀ t∈ta,t.1.length<=12)(sb:∀ t∈tb,t.1.length<=12)(na:n<=100)(nb:m<=100) :
 Calls prog 21 #[.agg #[.int .i64 va,.slice a n c],.agg #[.int .i64 vb,.slice b m d]] w (Cd w (mulR va vb (rdP va ta) (rdP vb tb))):=by
 rw[FT va ta,FT vb tb];obtain⟨oa,K⟩:∃ o,rdR va ta=o:=⟨_,rfl⟩;obtain⟨ob,L⟩:∃ o,rdR vb tb=o:=⟨_,rfl⟩;have p:=qh K;have H:=qh L;rw[K,L];obtain⟨r,hr⟩:∃ r,mulR va vb (oa.map AC) (ob.map AC)=r:=⟨_,rfl⟩;have HR:=qh hr;rw[hr];clear hr;have ao:=qh sa;have ap:=qh sb;have X:=qh ha.len;have Y:=qh hb.len;have aK:∀ t∈ta,t.1.length<=10000:=fun t f=>gJ (sa t f) (by omega);have aL:∀ t∈tb,t.1.length<=10000:=fun t f=>gJ (sb t f) (by omega);clear sa sb
 go_enter func21,ntmps21
 go_upto_region 1 with(fail)
 refine CO ?_;intro w0 a4 a0 a3 aw aW;have J:Arr w0 (w.heap.size+2) 28 (Ah 0 none 0 0):=aw;have p0:=a0.c 0 rfl;have p1:=a0.c 1 rfl;have q0:=a3.c 0 rfl;have q1:=a3.c 1 rfl;have ai:=Ext.refl w0;clear a0 a3 aw aW;have A:=qh (Bv (vars:=va) ha (a4.trans ai) aK);rw[K]at A;clear K
 go_wp2_with fail
 refine A.out.mono ?_;rintro e M ⟨a1,T,c1,rfl,ax,aE⟩;obtain⟨x1,ag⟩:∃ y,(if oa.isSome=true then va else 0)=y:=⟨_,rfl⟩;obtain⟨k1,ab⟩:∃ y,oa.isSome=y:=⟨_,rfl⟩;rw[ag,ab];have au:=qh ag;have V:=qh ab;have hY:=Arr.new M 44 (pL 0 none 0 0);have ad:(pL x1 a1 T c1).toArray=#[.int .i64 x1,.slice a1 T c1]:=rfl;clear ag ab A
 go_upto_region 2 with(refine Aa (vs:=pL x1 a1 T c1) rfl rfl rfl rfl rfl AJ hY rfl (AT _ _ _ _) ?_;intro aY I hg)
 have hF:Ext M aY:=((Ext.refl M).alloc _).grownR hg (lrf _);have G:=ax.trans hF;have P:=ai.trans G;have aq:=qh (aE.ext hF);obtain⟨Y1,z⟩:∃ x,M.heap.size=x:=⟨_,rfl⟩;rw[z]at I |-;have aM:=I.c 0 rfl;have aN:=I.c 1 rfl;replace q0:=G.cell q0;replace q1:=G.cell q1;clear hY ad hg I z aE hF G ax;clear p0 p1;have B:=qh (Bv (vars:=vb) hb (a4.trans P) aL);rw[L]at B;clear L
 go_wp2_with fail
 refine B.out.mono ?_;rintro e O ⟨a2,U,c2,rfl,ay,aF⟩;obtain⟨x2,ah⟩:∃ y,(if ob.isSome=true then vb else 0)=y:=⟨_,rfl⟩;obtain⟨k2,ac⟩:∃ y,ob.isSome=y:=⟨_,rfl⟩;rw[ah,ac];have av:=qh ah;have W:=qh ac;have hY:=Arr.new O 44 (pL 0 none 0 0);have ad:(pL x2 a2 U c2).toArray=#[.int .i64 x2,.slice a2 U c2]:=rfl;clear ah ac B
 go_upto_region 3 with(refine Aa (vs:=pL x2 a2 U c2) rfl rfl rfl rfl rfl AJ hY rfl (AT _ _ _ _) ?_;intro aZ I hg)
 have hF:Ext O aZ:=((Ext.refl O).alloc _).grownR hg (lrf _);have G:=ay.trans hF;have Q:=P.trans G;have ar:=qh (aF.ext hF);obtain⟨Y2,z⟩:∃ x,O.heap.size=x:=⟨_,rfl⟩;rw[z]at I |-;have b3:=I.c 0 rfl;have b4:=I.c 1 rfl;replace aM:=G.cell aM;replace aN:=G.cell aN;have S:=qh (aq.out.ext G);clear hY ad hg I z aF hF G ay;clear q0 q1;have hR:=J.ext Q;have l:=qh (a4.trans Q);have g:=fun h=>qh (Vb (va:=va) (vb:=vb) (oa:=oa) (ob:=ob) h);have a9:(k1=false\/k1=true/\k2=false)\/k1=true/\k2=true:=by
  cases k1 <;> cases k2 <;> simp
 rcases a9 with a9|⟨rfl,rfl⟩
 · rcases a9 with rfl|⟨rfl,rfl⟩
   all_goals
    have Z:=g (by intro h;first | exact Bool.noConfusion (h.1.symm.trans V.out) | exact Bool.noConfusion (h.2.symm.trans W.out));clear g J
    go_wp2_with(refine Aa (vs:=Ah 0 none 0 0) rfl rfl rfl rfl rfl Ad hR rfl (Am _ _ _ _) ?_;intro w9 v j)
    refine gF (Ao rfl Ad rfl rfl v) rfl ?_;have af:=HR.out.symm.trans Z.out;subst af;exact⟨none,0,0,rfl,l.out.grownR j (by omega),TmO.nil _ _⟩
 obtain⟨E,aQ⟩:=iY.1 V.out;obtain⟨F,aR⟩:=iY.1 W.out;subst aQ aR;have aU:va=x1:=au.out;have aV:vb=x2:=av.out;subst aU aV;by_cases hv:va=vb
 case neg =>
  have aT:(va != vb)=true:=by simpa using hv
  have Z:Hid (mulR va vb ((some E).map AC) ((some F).map AC)=(0,[],4)):=qh (by show(if va=vb then resQ va (Pl.prodT (AC E) (AC F))else((0:Int),([]:List Tx),(4:Int)))=_;exact gT hv);clear g J hv
  go_wp2_with(refine Aa (vs:=Ah 0 none 0 0) rfl rfl rfl rfl rfl Ad hR rfl (Am _ _ _ _) ?_;intro w9 v j)
  refine gF (Ao rfl Ad rfl rfl v) rfl ?_;have af:=HR.out.symm.trans Z.out;subst af;exact⟨none,0,0,rfl,l.out.grownR j (by omega),TmO.nil _ _⟩
 subst hv;have aT:(va != va)=false:=by simp
 obtain⟨h1,h2,h3,h4,-⟩:=AU p.out;obtain⟨g1,g2,-⟩:=AU H.out;obtain⟨N,rfl⟩:∃ k:Nat,va=(k:Int):=⟨va.toNat,by omega⟩;have C:=Y7 p.out;have D:=Y7 H.out;have a6:=Dk p.out;rw[jc]at C D a6;have aA:N<=6:=by omega
 have t1:=S.out;have t2:=ar.out;have l1:T=n:=by have h5:=t1.sl.len;simp only[gP]at h5;rw[h1,iM,X.out]at h5;exact h5.symm
 have l2:U=m:=by have h5:=t2.sl.len;simp only[gP]at h5;rw[g1,iM,Y.out]at h5;exact h5.symm
 have r1:=Et p.out ao.out;have r2:=Et H.out ap.out;have ae:U*T<=100*100:=j5 (by omega) (by omega);have aJ:=qh (I1 (N:=N) (b0:=w.heap.size) (b:=96) (by omega) t1.sl t2.sl C D (by omega) l.out.size ae (by omega) (by omega) (Eq a6) (fun s hs=>(r1 s hs).mono (by omega)) (fun t f=>(r2 t f).mono (by omega)) (by omega) (fun s hs t f=>Pl.RB.mul (r1 s hs) (r2 t f)) (by omega))
 have al:Hid (∀ t∈tmU E F,t.1.length=N):=qh (fun t f=>by
  obtain⟨u,hu,f⟩:=jS.1 f;obtain⟨s,hs,rfl⟩:=ie.1 f
  exact DN (C s hs).1 (D u hu).1)
 have R:Hid (∀ e,Pl.RB 1000000 (Pl.coef (tmU E F) e)):=qh (fun e=>by
  have hr:∀ t∈tmU E F,Pl.RB 96 t.2:=fun t f=>by
   obtain⟨u,hu,f⟩:=jS.1 f;obtain⟨s,hs,rfl⟩:=ie.1 f;exact Pl.RB.mul (r1 s hs) (r2 u hu)
  have aO:(tmU E F).length<=100*100:=by
   have h5:=RU E F;have h6:E.length<=100:=by rw[h1,iM];have:=X.out;omega
   have h7:F.length<=100:=by rw[g1,iM];have:=Y.out;omega
   have h8:=j5 h7 h6;omega
  exact(Pl.RB.coef (by omega) e hr).mono (by have:=gH (96+1) aO;omega))
 have ak:Hid (U*T<=100*100):=qh ae;have am:=qh aA
 have aj:Hid (mulR (N:Int) (N:Int) ((some E).map AC) ((some F).map AC)=resQ (N:Int) (AC (tmU E F))):=qh (by
  show(if(N:Int)=(N:Int)then resQ (N:Int) (Pl.prodT (AC E) (AC F))else((0:Int),([]:List Tx),(4:Int)))=_;rw[gY rfl,Vk (fun t f=>(C t f).1) (fun t f=>(D t f).1)]
  exact Fr fun e=>(PC _ _ e).symm)
 have an:=qh (HR.out.symm.trans aj.out);have e1:(pL (N:Int) a1 T c1).toArray=#[.int .i64 (N:Int),.slice a1 T c1]:=rfl;have e2:(pL (N:Int) a2 U c2).toArray=#[.int .i64 (N:Int),.slice a2 U c2]:=rfl;clear h1 h2 h3 h4 g1 g2 C D a6 aA t1 t2 l1 l2 r1 r2 ae g aq ar S au av V W p H ao ap X Y J aK aL
 go_wp2_with fail
 refine aJ.out.mono ?_;rintro e w7 ⟨a7,n7,c7,aX,rfl,a5,aB,aG,i,aa⟩
 have aI:=qh (Fq (vars:=(N:Int)) aB.sl (fun t f=>by
  have h1:=Pl.coef_canon i f;rw[<-h1,aa]
  exact R.out t.1) (fun t f=>by have:=i.len t f;have:=am.out;omega) (gJ aG (gJ ak.out (by omega))))
 have HQ:=qh (fun e w' (h:Mi w7 (N:Int) aX e w')=>h.q am.out i al.out aa);have aC:=hR.ext a5;have b1:(pL (N:Int) a7 n7 c7).toArray=#[.int .i64 (N:Int),.slice a7 n7 c7]:=rfl;clear aJ i aa aB aG hR e1 e2;rw[<-an.out]at HQ;clear an HR aj al R ak;obtain⟨rv,rt,re⟩:=r
 go_wp2_with fail
 refine aI.out.mono ?_;intro e w8 aH;obtain⟨a8,n8,c8,rfl,az,aP⟩:=HQ.out _ _ aH;have aD:=aC.ext az;have aS:BS rv a8 n8 c8 = .agg #[.int .i64 rv,.slice a8 n8 c8]:=rfl;rw[aS];have b2:(Ah rv a8 n8 c8).toArray=#[.int .i64 rv,.slice a8 n8 c8]:=rfl;clear aI aH aC
 go_wp2_with(refine Aa (vs:=Ah rv a8 n8 c8) rfl rfl rfl rfl rfl Ad aD rfl (Am _ _ _ _) ?_;intro w9 v j)
 exact gF (Ao rfl Ad rfl rfl v) rfl ⟨a8,n8,c8,rfl,((l.out.trans a5).trans az).grownR j (by omega),(aP.mono ((l.out.trans a5).size)).keptU aD (by decide) (by decide) j⟩
end Go.Proofs.YtlbmnokpiilfpaaGreatDoor
