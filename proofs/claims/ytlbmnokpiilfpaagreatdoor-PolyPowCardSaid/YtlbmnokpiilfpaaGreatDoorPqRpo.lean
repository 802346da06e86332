/- Part PqRpo. -/
import Derived.Test.YtlbmnokpiilfpaaGreatDoorPqPwo
import Derived.Test.YtlbmnokpiilfpaaGreatDoorPqBDx1

set_option linter.all false
set_option maxRecDepth 100000
set_option maxHeartbeats 100000000
namespace Go.Proofs.YtlbmnokpiilfpaaGreatDoor
open Tryz Go Go.RowKit
variable {k va:Int} {c n:Nat} {a:Option Addr} {w:World}
theorem Vc{ts:List Tx}{la:List Pl.Tm}(h:rdR va ts=some la):Lb la=Bu (AC la):=by
 have h1:=Vm va ts;rw[h,gP]at h1;rw[h1,Wq (show rdP va ts=some (AC la) by rw[FT,h];rfl)]
theorem Tf{V:List Tx}(ha:AH w a n c V)(sa:∀ t∈V,t.1.length<=12)(na:n<=3)
 (ay:∀ f,rdR va V=some f->0<=k->k<=24->¬ 24<Lb f*k->∀ i,i<=k.toNat->∀ g,Pl.Canon va.toNat g->(∀ e,Pl.coef g e=Pl.coef (Jg va.toNat f i) e)->PwS va.toNat 1034 f g) :
 Calls prog 39 #[.agg #[.int .i64 va,.slice a n c],.int .i64 k] w (Cd w (powA va k (rdP va V))):=by
 rw[FT va V];obtain⟨oa,G⟩:∃ o,rdR va V=o:=⟨_,rfl⟩;have B:=qh G;have aa:=qh (fun f (h:oa=some f)=>ay f (G.trans h));clear ay;rw[G];obtain⟨r,hr⟩:∃ r,powA va k (oa.map AC)=r:=⟨_,rfl⟩;have HR:=qh hr;rw[hr];clear hr;have ae:=qh sa;have a9:=qh ha.len;have aC:∀ t∈V,t.1.length<=10000:=fun t ht=>gJ (sa t ht) (by omega);clear sa
 go_enter func39,ntmps39
 go_upto_region 1 with(fail)
 refine Cf ?_;intro w0 ak X aj aP;have ao:Arr w0 (w.heap.size+1) 28 (Ah 0 none 0 0):=aj;have p0:=X.c 0 rfl;have p1:=X.c 1 rfl;have a5:=Ext.refl w0;clear X aj aP;have I:=qh (Bv (vars:=va) ha (ak.trans a5) aC);rw[G]at I;clear G
 go_wp2_with fail
 refine I.out.mono ?_;rintro e R ⟨a1,U,c1,rfl,al,ar⟩;obtain⟨x1,a4⟩:∃ y,(if oa.isSome=true then va else 0)=y:=⟨_,rfl⟩;obtain⟨k1,a3⟩:∃ y,oa.isSome=y:=⟨_,rfl⟩;rw[a4,a3];have ai:=qh a4;have W:=qh a3;have hY:=Arr.new R 44 (pL 0 none 0 0);have aJ:(pL x1 a1 U c1).toArray=#[.int .i64 x1,.slice a1 U c1]:=rfl;clear a4 a3 I
 go_upto_region 2 with(refine Aa (vs:=pL x1 a1 U c1) rfl rfl rfl rfl rfl AJ hY rfl (AT _ _ _ _) ?_;intro aD hB hg)
 have hF:Ext R aD:=((Ext.refl R).alloc _).grownR hg (lrf _);have hG:=al.trans hF;have S:=a5.trans hG;have af:=qh (ar.ext hF);obtain⟨Y1,au⟩:∃ x,R.heap.size=x:=⟨_,rfl⟩;rw[au]at hB |-;have aE:=hB.c 0 rfl;have aF:=hB.c 1 rfl;clear hY aJ hg hB au ar hF hG al;have hR:=ao.ext S;have M:=qh (ak.trans S);clear p0 p1 ao;cases k1 with
 | false =>
  have E:Hid (powA va k (oa.map AC)=(0,[],1)):=qh (by
   have h1:=W.out;cases oa with
   | none=>rfl
   | some l=>cases h1)
  go_wp2_with(refine Aa (vs:=Ah 0 none 0 0) rfl rfl rfl rfl rfl Ad hR rfl (Am _ _ _ _) ?_;intro w9 p m)
  refine gF (Ao rfl Ad rfl rfl p) rfl ?_;have H:=HR.out.symm.trans E.out;subst H;exact⟨none,0,0,rfl,M.out.grownR m (by omega),TmO.nil _ _⟩
 | true =>
  obtain⟨f,aK⟩:=iY.1 W.out;subst aK;have aO:va=x1:=ai.out;subst aO;have L:=qh (Vc B.out);have P:Hid (powA va k ((some f).map AC)=if 0<=k/\k<=24 then(if 24<Bu (AC f)*k then((0:Int),([]:List Tx),(2:Int))else resQ va (Pl.powT (AC f) k.toNat))else((0:Int),([]:List Tx),(3:Int))):=qh rfl;by_cases hi:0<=k/\k<=24
  case neg =>
   have E:Hid (powA va k ((some f).map AC)=(0,[],3)):=qh (P.out.trans (gT hi));have aI:k<0\/¬ k<0/\24<k:=by omega
   clear hi;rcases aI with q1|⟨q1,q2⟩
   all_goals
    go_wp2_with(refine Aa (vs:=Ah 0 none 0 0) rfl rfl rfl rfl rfl Ad hR rfl (Am _ _ _ _) ?_;intro w9 p m)
    refine gF (Ao rfl Ad rfl rfl p) rfl ?_;have H:=HR.out.symm.trans E.out;subst H;exact⟨none,0,0,rfl,M.out.grownR m (by omega),TmO.nil _ _⟩
  obtain⟨av,aw⟩:=hi;obtain⟨h1,h2,h3,h4,-⟩:=AU B.out;obtain⟨N,rfl⟩:∃ j:Nat,va=(j:Int):=⟨va.toNat,by omega⟩;obtain⟨K,rfl⟩:∃ j:Nat,k=(j:Int):=⟨k.toNat,by omega⟩;have J:=Y7 B.out;rw[jc]at J;have t1:=af.out;have l1:U=n:=by have h5:=t1.sl.len;simp only[gP]at h5;rw[h1,iM,a9.out]at h5;exact h5.symm
  have r1:=Et B.out ae.out;have A:=qh (And.intro av aw);have O:Hid (N<=6):=qh (by omega);have q1:¬ ((K:Int)<0):=by omega
  have q2:¬ ((24:Int)<(K:Int)):=by omega
  have a2:=qh (ME (N:=N) (l:=f) (by omega) t1.sl (J.tb (by omega)));have Q : -1<=Lb f/\Lb f<=24:=by
   rw[L.out];have hp:rdP (N:Int) V=some (AC f):=by rw[FT,B.out];rfl
   exact⟨(FF (MA hp)).1,Wp hp⟩
  have e1:(pL (N:Int) a1 U c1).toArray=#[.int .i64 (N:Int),.slice a1 U c1]:=rfl;have ah:=qh J;have HT:Hid (TSl aD w.heap.size a1 U c1 f):=qh t1.sl;have a6:Hid (U<=3):=qh (by omega);have ac:Hid (∀ s∈f,Pl.RB 1000000 s.2):=qh (fun s hs=>(r1 s hs).mono (by omega));have T:Hid (∀ t∈f,t.1.length=N):=qh (fun t ht=>(J t ht).1);clear h1 h2 h3 h4 J t1 l1 r1 av aw af ai W ae a9 aC;obtain⟨d,hd⟩:∃ d,Lb f=d:=⟨_,rfl⟩;rw[hd]at a2 Q;have HD:=qh hd;clear hd;have aL : -24<=(K:Int)*d/\(K:Int)*d<=576:=by
   have g1:=jd Q.1 (show(0:Int)<=K by omega);have g2:=jd Q.2 (show(0:Int)<=K by omega);omega
  have hw:IntKind.i64.wrap ((K:Int)*d)=(K:Int)*d:=gI _ (by omega);have D:Hid ((K:Int)*d=Lb f*K):=qh (by rw[HD.out,Int.mul_comm]);obtain⟨md,ax⟩:∃ x,(K:Int)*d=x:=⟨_,rfl⟩;rw[ax]at hw D;have aG:=qh ax;clear Q aL
  go_wp2_with fail
  refine a2.out.mono ?_;rintro e w3 ⟨rfl,C⟩;have Z:=hR.ext C;have v:=qh (M.out.trans C);replace aE:=C.cell aE;replace aF:=C.cell aF;have ag:=qh (HT.out.ext C);clear a2 hR M HT C;by_cases h24:24<md
  case pos =>
   have E:Hid (powA (N:Int) (K:Int) ((some f).map AC)=(0,[],2)):=qh (by
    rw[P.out,gY A.out,gY (by rw[<-L.out,<-D.out];exact h24)])
   go_wp2_with(refine Aa (vs:=Ah 0 none 0 0) rfl rfl rfl rfl rfl Ad Z rfl (Am _ _ _ _) ?_;intro w9 p m)
   refine gF (Ao rfl Ad rfl rfl p) rfl ?_;have H:=HR.out.symm.trans E.out;subst H;exact⟨none,0,0,rfl,v.out.grownR m (by omega),TmO.nil _ _⟩
  have ab:Hid (powA (N:Int) (K:Int) ((some f).map AC)=resQ (N:Int) (Pl.powT (AC f) K)):=qh (by
   rw[P.out,gY A.out,gT (by rw[<-L.out,<-D.out];exact h24),jc])
  have F:Hid (∀ i,i<=K->∀ g,Pl.Canon N g->(∀ e,Pl.coef g e=Pl.coef (Jg N f i) e)->PwS N 1034 f g):=qh (by
   have h9:=aa.out f rfl A.out.1 A.out.2 (by rw[<-D.out];omega)
   rwa[jc,jc]at h9)
  have az:=qh (Py (N:=N) (b0:=w.heap.size) (b:=1034) (K:=K) (w:=w3) (by have:=O.out;omega) ag.out ah.out v.out.size a6.out ac.out (by omega) (by omega) (by have:=A.out;omega) (fun i hi=>F.out i (by omega)));have ad:Hid (r=resQ (N:Int) (AC (Jg N f K))):=qh (by rw[IA O.out T.out];exact HR.out.symm.trans ab.out);clear ab P aa L D aG HD A B ah ag a6 ac
  go_wp2_with fail
  refine az.out.mono ?_;rintro e w7 ⟨a7,n7,c7,g,rfl,Y,an,aM,z,a0⟩;have hS:=F.out K (lrf _) g z a0;have aB:=qh (Fq (vars:=(N:Int)) an.sl hS.rb (fun t ht=>by have:=z.len t ht;have:=O.out;omega) (by omega));have HQ:=qh (fun e w' (h:Mi w7 (N:Int) g e w')=>h.q O.out z (Hx T.out K) a0);have ap:=Z.ext Y;have aQ:(pL (N:Int) a7 n7 c7).toArray=#[.int .i64 (N:Int),.slice a7 n7 c7]:=rfl;clear az z a0 an aM Z e1 hS F;rw[<-ad.out]at HQ;clear ad HR;obtain⟨rv,rt,re⟩:=r
  go_wp2_with fail
  refine aB.out.mono ?_;intro e w8 aA;obtain⟨a8,n8,c8,rfl,am,aH⟩:=HQ.out _ _ aA;have aq:=ap.ext am;have aN:BS rv a8 n8 c8 = .agg #[.int .i64 rv,.slice a8 n8 c8]:=rfl;rw[aN];have aR:(Ah rv a8 n8 c8).toArray=#[.int .i64 rv,.slice a8 n8 c8]:=rfl;clear aB aA ap
  go_wp2_with(refine Aa (vs:=Ah rv a8 n8 c8) rfl rfl rfl rfl rfl Ad aq rfl (Am _ _ _ _) ?_;intro w9 p m)
  exact gF (Ao rfl Ad rfl rfl p) rfl ⟨a8,n8,c8,rfl,((v.out.trans Y).trans am).grownR m (by omega),(aH.mono ((v.out.trans Y).size)).keptU aq (by decide) (by decide) m⟩
end Go.Proofs.YtlbmnokpiilfpaaGreatDoor
