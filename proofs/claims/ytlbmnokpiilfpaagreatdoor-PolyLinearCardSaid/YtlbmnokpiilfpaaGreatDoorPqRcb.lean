/- Part PqRcb. -/
import Derived.Test.YtlbmnokpiilfpaaGreatDoorPqAx1

set_option linter.all false
set_option maxRecDepth 100000
set_option maxHeartbeats 100000000
namespace Go.Proofs.YtlbmnokpiilfpaaGreatDoor
open Tryz Go Go.RowKit
variable {s:ByteArray} {va vb:Int} {a b:Option Addr} {w:World}
noncomputable def cmbA (va vb:Int) (oa:Option (List Pl.Tm)) (oq:Option Rat) (ob:Option (List Pl.Tm)):Int×List Tx×Int :=
 match oa,ob,oq with
 | some la,some lb,some q=>if va=vb then resQ va (la ++ Pl.scl q lb)else(0,[],4)
 | _,_,_=>(0,[],1)
theorem U8{oa:Option (List Pl.Tm)}{oq:Option Rat}{ob:Option (List Pl.Tm)}(h:¬ (oa.isSome=true/\ob.isSome=true/\oq.isSome=true)):cmbA va vb (oa.map AC) oq (ob.map AC)=(0,[],1):=by
 cases oa <;> cases ob <;> cases oq <;> simp at h <;> rfl
theorem U9(q:Rat)(l:List Pl.Tm):AC (Pl.scl q l)=Pl.scl q (AC l):=by
 unfold AC Pl.scl;rw[jO,jO];rfl
theorem LC{n c m d:Nat}{ta tb:List Tx}(ha:AH w a n c ta)(hb:AH w b m d tb)(sa:∀ t∈ta,t.1.length<=1000)(sb:∀ t∈tb,t.1.length<=1000)(bk:s.size<=1000)(aQ:∀ j f q,rdR va ta=some j->rdR vb tb=some f->AD (An s)=some q->va=vb->Pl.RB 1000000 q/\(∀ t∈f,Pl.RB 1000000 t.2)/\Pl.SubOK (j ++ Pl.scl q f)) :
 Calls prog 52 #[.agg #[.int .i64 va,.slice a n c],.string s,.agg #[.int .i64 vb,.slice b m d]] w (Cd w (cmbA va vb (rdP va ta) (AD (An s)) (rdP vb tb))):=by
 rw[FT va ta,FT vb tb];obtain⟨oa,D⟩:∃ o,rdR va ta=o:=⟨_,rfl⟩;obtain⟨ob,E⟩:∃ o,rdR vb tb=o:=⟨_,rfl⟩;have a9:=qh D;have aa:=qh E;rw[D,E];obtain⟨oq,G⟩:∃ o,AD (An s)=o:=⟨_,rfl⟩;have b6:=qh G;rw[G];obtain⟨r,hr⟩:∃ r,cmbA va vb (oa.map AC) oq (ob.map AC)=r:=⟨_,rfl⟩;have HR:=qh hr;rw[hr];clear hr;have aw:Hid (∀ j f q,oa=some j->ob=some f->oq=some q->va=vb->Pl.RB 1000000 q/\(∀ t∈f,Pl.RB 1000000 t.2)/\Pl.SubOK (j ++ Pl.scl q f)):=qh (fun j f q h1 h2 h3=>aQ j f q (D.trans h1) (E.trans h2) (G.trans h3));clear aQ
 have aW:∀ t∈ta,t.1.length<=10000:=fun t O=>gJ (sa t O) (by omega);have aX:∀ t∈tb,t.1.length<=10000:=fun t O=>gJ (sb t O) (by omega);clear sa sb
 go_enter func52,ntmps52
 go_upto_region 1 with(fail)
 refine CO ?_;intro w0 ad ab ac aD bf;have M:Arr w0 (w.heap.size+2) 28 (Ah 0 none 0 0):=aD;have p0:=ab.c 0 rfl;have p1:=ab.c 1 rfl;have q0:=ac.c 0 rfl;have q1:=ac.c 1 rfl;have ap:=Ext.refl w0;clear ab ac aD bf;have H:=qh (Bv (vars:=va) ha (ad.trans ap) aW);rw[D]at H;clear D
 go_wp2_with fail
 refine H.out.mono ?_;rintro e R ⟨a1,n1,c1,rfl,aE,aM⟩;obtain⟨x1,an⟩:∃ y,(if oa.isSome=true then va else 0)=y:=⟨_,rfl⟩;obtain⟨k1,ah⟩:∃ y,oa.isSome=y:=⟨_,rfl⟩;rw[an,ah];have aB:=qh an;have a0:=qh ah;have hY:=Arr.new R 44 (pL 0 none 0 0);have ak:(pL x1 a1 n1 c1).toArray=#[.int .i64 x1,.slice a1 n1 c1]:=rfl;clear an ah H
 go_upto_region 2 with(refine Aa (vs:=pL x1 a1 n1 c1) rfl rfl rfl rfl rfl AJ hY rfl (AT _ _ _ _) ?_;intro bh l hg)
 have hF:Ext R bh:=((Ext.refl R).alloc _).grownR hg (lrf _);have g:=aE.trans hF;have W:=ap.trans g;have az:=qh (aM.ext hF);obtain⟨Y1,i⟩:∃ x,R.heap.size=x:=⟨_,rfl⟩;rw[i]at l |-;have U:=l.c 0 rfl;have V:=l.c 1 rfl;replace q0:=g.cell q0;replace q1:=g.cell q1;clear hY ak hg l i aM hF g aE;clear p0 p1;have I:=qh (Bv (vars:=vb) hb (ad.trans W) aX);rw[E]at I;clear E
 go_wp2_with fail
 refine I.out.mono ?_;rintro e S ⟨a2,n2,c2,rfl,aF,aN⟩;obtain⟨x2,ao⟩:∃ y,(if ob.isSome=true then vb else 0)=y:=⟨_,rfl⟩;obtain⟨k2,ai⟩:∃ y,ob.isSome=y:=⟨_,rfl⟩;rw[ao,ai];have aC:=qh ao;have a4:=qh ai;have hY:=Arr.new S 44 (pL 0 none 0 0);have ak:(pL x2 a2 n2 c2).toArray=#[.int .i64 x2,.slice a2 n2 c2]:=rfl;clear ao ai I
 go_upto_region 3 with(refine Aa (vs:=pL x2 a2 n2 c2) rfl rfl rfl rfl rfl AJ hY rfl (AT _ _ _ _) ?_;intro aY l hg)
 have hF:Ext S aY:=((Ext.refl S).alloc _).grownR hg (lrf _);have g:=aF.trans hF;have b2:=W.trans g;have aA:=qh (aN.ext hF);obtain⟨Y2,i⟩:∃ x,S.heap.size=x:=⟨_,rfl⟩;rw[i]at l |-;have aZ:=l.c 0 rfl;have b1:=l.c 1 rfl;replace U:=g.cell U;replace V:=g.cell V;have Z:=qh (az.out.ext g);clear hY ak hg l i aN hF g aF;clear q0 q1;have J:=qh (OO (w:=aY) (s:=s) (by omega));rw[G]at J;clear G
 go_wp2_with fail
 refine J.out.mono ?_;rintro e T ⟨s3,a3,n3,c3,b3,m3,d3,rfl,aG,aT⟩;have aO:=qh aT;obtain⟨k3,aj⟩:∃ y,oq.isSome=y:=⟨_,rfl⟩;rw[aj];have a5:=qh aj;have hY:=Arr.new T 99 (Al false none 0 0 false none 0 0);have b8:(Al s3 a3 n3 c3 false b3 m3 d3).toArray=#[.bool s3,.slice a3 n3 c3,.bool false,.slice b3 m3 d3]:=rfl;clear aj aT J
 go_upto_region 4 with(refine Aa (vs:=Al s3 a3 n3 c3 false b3 m3 d3) rfl rfl rfl rfl rfl By hY rfl (Aq _ _ _ _ _ _ _ _) ?_;intro bi l hg)
 have L:Ext T bi:=((Ext.refl T).alloc _).grownR hg (lrf _);have g:=aG.trans L;have X:=b2.trans g;obtain⟨Y3,i⟩:∃ x,T.heap.size=x:=⟨_,rfl⟩;rw[i]at l |-;have bl:=l.c 0 rfl;have bm:=l.c 1 rfl;have bn:=l.c 2 rfl;have bo:=l.c 3 rfl;replace U:=g.cell U;replace V:=g.cell V;replace aZ:=g.cell aZ;replace b1:=g.cell b1;clear hY b8 l i;have F:=g;clear g hg;have hR:=M.ext X;have B:=qh (ad.trans X);have p:=fun h=>qh (U8 (va:=va) (vb:=vb) (oa:=oa) (oq:=oq) (ob:=ob) h)
 have af:(k1=false\/k1=true/\k2=false\/k1=true/\k2=true/\k3=false)\/k1=true/\k2=true/\k3=true:=by
  cases k1 <;> cases k2 <;> cases k3 <;> simp
 rcases af with af|⟨rfl,rfl,rfl⟩
 · rcases af with rfl|⟨rfl,rfl⟩|⟨rfl,rfl,rfl⟩
   all_goals
    have a6:=p (by intro h;first | exact Bool.noConfusion (h.1.symm.trans a0.out) | exact Bool.noConfusion (h.2.1.symm.trans a4.out) | exact Bool.noConfusion (h.2.2.symm.trans a5.out));clear p M
    go_wp2_with(refine Aa (vs:=Ah 0 none 0 0) rfl rfl rfl rfl rfl Ad hR rfl (Am _ _ _ _) ?_;intro w9 C A)
    refine gF (Ao rfl Ad rfl rfl C) rfl ?_;have am:=HR.out.symm.trans a6.out;subst am;exact⟨none,0,0,rfl,B.out.grownR A (by omega),TmO.nil _ _⟩
 obtain⟨j,b9⟩:=iY.1 a0.out;obtain⟨f,ba⟩:=iY.1 a4.out;obtain⟨q,hq⟩:=iY.1 a5.out;subst b9 ba hq;have bd:va=x1:=aB.out;have be:vb=x2:=aC.out;subst bd be;by_cases hv:va=vb
 case neg =>
  have bc:(va != vb)=true:=by simpa using hv
  have a6:Hid (cmbA va vb ((some j).map AC) (some q) ((some f).map AC)=(0,[],4)):=qh (by show(if va=vb then resQ va (AC j ++ Pl.scl q (AC f))else((0:Int),([]:List Tx),(4:Int)))=_;exact gT hv);clear p M hv
  go_wp2_with(refine Aa (vs:=Ah 0 none 0 0) rfl rfl rfl rfl rfl Ad hR rfl (Am _ _ _ _) ?_;intro w9 C A)
  refine gF (Ao rfl Ad rfl rfl C) rfl ?_;have am:=HR.out.symm.trans a6.out;subst am;exact⟨none,0,0,rfl,B.out.grownR A (by omega),TmO.nil _ _⟩
 subst hv;have bc:(va != va)=false:=by simp
 obtain⟨h1,h2,h3,h4,-⟩:=AU a9.out;obtain⟨N,rfl⟩:∃ k:Nat,va=(k:Int):=⟨va.toNat,by omega⟩;have P:=Qr a9.out;have Q:=Qr aa.out;rw[jc]at P Q;obtain⟨rq,rb,K⟩:=aw.out j f q rfl rfl rfl rfl;have aI:N<=6:=by omega
 have t1:=Z.out.ext F;have t2:=aA.out.ext F;obtain⟨ay,aU,aV⟩:=aO.out q rfl;have b4:j.length<=4096:=by rw[h1,iM];exact h2
 have b5:f.length<=4096:=by have:=AU aa.out;rw[this.1,iM];exact this.2.1
 have al:=qh (K3 (N:=N) (b0:=w.heap.size) (va:=(N:Int)) (vb:=(N:Int)) (by omega) t1.sl (v := .agg #[.bool s3,.slice a3 n3 c3,.bool false,.slice b3 m3 d3]) (q:=q) ⟨s3,a3,n3,c3,b3,m3,d3,rfl,ay,aU.ext L,aV.ext L⟩ t2.sl P Q B.out.size (by have:=t1.sl.len;simp only[gP]at this;omega) (by have:=t2.sl.len;simp only[gP]at this;omega) rq rb K);have au:Hid (∀ t∈j ++ Pl.scl q f,t.1.length=N):=qh (fun t O=>(P.app (Q.scl_ q) t O).1);have Y:=qh K
 have ar:Hid ((j ++ Pl.scl q f).length<=10000):=qh (by rw[iD,Wk];omega);have av:=qh aI;have aq:Hid (cmbA (N:Int) (N:Int) ((some j).map AC) (some q) ((some f).map AC)=resQ (N:Int) (AC (j ++ Pl.scl q f))):=qh (by show(if(N:Int)=(N:Int)then resQ (N:Int) (AC j ++ Pl.scl q (AC f))else((0:Int),([]:List Tx),(4:Int)))=_;rw[gY rfl,UQ,U9]);have ax:=qh (HR.out.symm.trans aq.out);have e1:(pL (N:Int) a1 n1 c1).toArray=#[.int .i64 (N:Int),.slice a1 n1 c1]:=rfl
 have e2:(pL (N:Int) a2 n2 c2).toArray=#[.int .i64 (N:Int),.slice a2 n2 c2]:=rfl;clear h1 h2 h3 h4 P Q rq rb K aI t1 t2 ay aU aV b4 b5 p aO az aA Z aB aC a0 a4 a5 a9 aa b6 aw M L F aG aW aX
 go_wp2_with fail
 refine al.out.mono ?_;rintro e w7 ⟨a7,n7,c7,bg,rfl,ae,aJ,aP,z,ag⟩
 have aS:=qh (Fq (vars:=(N:Int)) aJ.sl (fun t O=>by
  have h1:=Pl.coef_canon z O;rw[<-h1,ag]
  exact Y.out _ [] (by simp) t.1) (fun t O=>by have:=z.len t O;have:=av.out;omega) (gJ aP (gJ ar.out (by omega))))
 have HQ:=qh (fun e w' (h:Mi w7 (N:Int) bg e w')=>h.q av.out z au.out ag);have aK:=hR.ext ae;have bj:(pL (N:Int) a7 n7 c7).toArray=#[.int .i64 (N:Int),.slice a7 n7 c7]:=rfl;clear al z ag aJ aP hR e1 e2;rw[<-ax.out]at HQ;clear ax HR aq au Y ar;obtain⟨rv,rt,re⟩:=r
 go_wp2_with fail
 refine aS.out.mono ?_;intro e w8 aR;obtain⟨a8,n8,c8,rfl,aH,b7⟩:=HQ.out _ _ aR;have aL:=aK.ext aH;have bb:BS rv a8 n8 c8 = .agg #[.int .i64 rv,.slice a8 n8 c8]:=rfl;rw[bb];have al:(Ah rv a8 n8 c8).toArray=#[.int .i64 rv,.slice a8 n8 c8]:=rfl;clear aS aR aK
 go_wp2_with(refine Aa (vs:=Ah rv a8 n8 c8) rfl rfl rfl rfl rfl Ad aL rfl (Am _ _ _ _) ?_;intro w9 C A)
 exact gF (Ao rfl Ad rfl rfl C) rfl ⟨a8,n8,c8,rfl,((B.out.trans ae).trans aH).grownR A (by omega),(b7.mono ((B.out.trans ae).size)).keptU aL (by decide) (by decide) A⟩
end Go.Proofs.YtlbmnokpiilfpaaGreatDoor
