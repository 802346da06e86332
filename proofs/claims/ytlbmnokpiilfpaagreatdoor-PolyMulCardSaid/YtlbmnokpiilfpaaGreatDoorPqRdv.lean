/- Part PqRdv. -/
import Derived.Test.YtlbmnokpiilfpaaGreatDoorPqRpt

set_option linter.all false
set_option maxRecDepth 100000
set_option maxHeartbeats 100000000
namespace Go.Proofs.YtlbmnokpiilfpaaGreatDoor
open Tryz Go Go.RowKit
variable {va:Int} {x:List Int} {I N c i n:Nat} {a:Option Addr} {w:World}
theorem MD(x:List Int)(i:Nat):(AY x).getD i 0=x.getD i 0:=by
 unfold AY;rw[gqq,gqq,List.getElem?_append];split
 · rfl
 · rename_i h;rw[ig (by omega:x.length<=i),List.getElem?_replicate];split <;> rfl
theorem Va(hi:i<x.length):AY (Pl.decE i x)=Pl.decE i (AY x):=by
 unfold Pl.decE;rw[MD];unfold AY;rw[kA,List.set_append_left _ _ hi]
theorem Px{l:List Pl.Tm}(h:∀ t∈l,t.1.length=N)(hi:i<N):AC (Pl.derT i l)=Pl.derT i (AC l):=by
 induction l with
 | nil=>rfl
 | cons t r ih =>
  have h1:AC (t :: r)=(AY t.1,t.2) :: AC r:=rfl;have h2:∀ a b:List Pl.Tm,AC (a ++ b)=AC a ++ AC b:=fun a b=>iJ;rw[h1,Pl.derT_cons,Pl.derT_cons,h2,ih (fun s c=>h s (by simp[c]))];congr 1;show AC (if 0<t.1.getD i 0 then [(Pl.decE i t.1,t.2*((t.1.getD i 0:Int):Rat))]else [])=if 0<(AY t.1).getD i 0 then [(Pl.decE i (AY t.1),t.2*(((AY t.1).getD i 0:Int):Rat))]else []
  rw[MD];split
  · show [(AY (Pl.decE i t.1),_)]=_;rw[Va (by rw[h t (by simp)];exact hi)]
  · rfl
theorem Wv{ts:List Tx}{l:List Pl.Tm}(h:rdP va ts=some l):∀ t∈l,t.1.sum<=24:=by
 have a:=BW h;have b:=Jo h;cases l with
 | nil=>intro t d;cases d
 | cons t r =>
  intro s c;have h1:=DQ a s c;have h2:=(CN.1 (b.2 t r rfl)).2.2;omega
theorem XT{ts:List Tx}{la out:List Pl.Tm}(h:rdR (N:Int) ts=some la)(i:I<N)(b:Pl.Canon N out)(f:∀ e,Pl.coef out e=Pl.coef (Pl.derT I la) e):derA (N:Int) (I:Int) ((some la).map AC)=((N:Int),wrU out,0):=by
 have j:=(AU h).2.2.2.1;have hp:rdP (N:Int) ts=some (AC la):=by rw[FT,h];rfl
 have a:=(Dk h).len;rw[jc]at a
 have h1:=OS (n:=N) (by omega) b (p:=AC (Pl.derT I la)) (KM b.len (fun t g=>by
  obtain⟨s,d,-,rfl⟩:=Cv g;show(Pl.decE I s.1).length=N;unfold Pl.decE;rw[kA]
  exact a s d) (fun e _=>f e))
 have h2:derA (N:Int) (I:Int) ((some la).map AC)=resQ (N:Int) (AC (Pl.derT I la)):=by
  show(if 0<=(I:Int)/\(I:Int)<(N:Int)then resQ (N:Int) (Pl.derT (I:Int).toNat (AC la))else((0:Int),([]:List Tx),(3:Int)))=_;rw[gY (by omega),jc,Px a i]
 have c:Pv (N:Int) (AC la):=Pv.of hp
 have h3:=S4 (v:=(N:Int)) (p:=Pl.derT I (AC la)) (Hv c (by omega)) (by
  have h4:=EU I (AC la);have h5:=(AU h).2.1;have h6:(AC la).length=ts.length:=by rw[show(AC la).length=la.length from iM _,(AU h).1,iM]
  omega) (fun t g=>by
  obtain⟨s,d,h0,rfl⟩:=Cv g;have h4:=Wv hp s d;have h5:=(Pi (c.inv s d) (by omega) h0).2;show(Pl.decE I s.1).sum<=24
  omega)
 rw[<-Px a i]at h3;rw[h2];rcases h1 with⟨_,h4⟩|⟨_,h4⟩
 · exact h4
 · rw[h4]at h3;cases h3
theorem NE{i:Int}{X:List Tx}(ha:AH w a n c X)(sa:∀ t∈X,t.1.length<=12)(na:n<=100) :
 Calls prog 23 #[.agg #[.int .i64 va,.slice a n c],.int .i64 i] w (Cd w (derA va i (rdP va X))):=by
 rw[FT va X];obtain⟨oa,A⟩:∃ o,rdR va X=o:=⟨_,rfl⟩;have g:=qh A;rw[A];obtain⟨r,hr⟩:∃ r,derA va i (oa.map AC)=r:=⟨_,rfl⟩;have HR:=qh hr;rw[hr];clear hr;have a0:=qh sa;have J:=qh ha.len;have ak:∀ t∈X,t.1.length<=10000:=fun t R=>gJ (sa t R) (by omega);clear sa
 go_enter func23,ntmps23
 go_upto_region 1 with(fail)
 refine Cf ?_;intro w0 a5 L a4 aA;have ac:Arr w0 (w.heap.size+1) 28 (Ah 0 none 0 0):=a4;have p0:=L.c 0 rfl;have p1:=L.c 1 rfl;have Y:=Ext.refl w0;clear L a4 aA;have m:=qh (Bv (vars:=va) ha (a5.trans Y) ak);rw[A]at m;clear A
 go_wp2_with fail
 refine m.out.mono ?_;rintro e C ⟨a1,V,c1,rfl,a6,af⟩;obtain⟨x1,S⟩:∃ y,(if oa.isSome=true then va else 0)=y:=⟨_,rfl⟩;obtain⟨k1,P⟩:∃ y,oa.isSome=y:=⟨_,rfl⟩;rw[S,P];have a3:=qh S;have H:=qh P;have hY:=Arr.new C 44 (pL 0 none 0 0);have av:(pL x1 a1 V c1).toArray=#[.int .i64 x1,.slice a1 V c1]:=rfl;clear S P m
 go_upto_region 2 with(refine Aa (vs:=pL x1 a1 V c1) rfl rfl rfl rfl rfl AJ hY rfl (AT _ _ _ _) ?_;intro aB hB hg)
 have hF:Ext C aB:=((Ext.refl C).alloc _).grownR hg (lrf _);have hG:=a6.trans hF;have D:=Y.trans hG;have a2:=qh (af.ext hF);obtain⟨Y1,ag⟩:∃ x,C.heap.size=x:=⟨_,rfl⟩;rw[ag]at hB |-;have aF:=hB.c 0 rfl;have aG:=hB.c 1 rfl;clear hY av hg hB ag af hF hG a6;have hR:=ac.ext D;have v:=qh (a5.trans D);clear p0 p1 ac;cases k1 with
 | false =>
  have K:Hid (derA va i (oa.map AC)=(0,[],1)):=qh (by
   have h1:=H.out;cases oa with
   | none=>rfl
   | some l=>cases h1)
  go_wp2_with(refine Aa (vs:=Ah 0 none 0 0) rfl rfl rfl rfl rfl Ad hR rfl (Am _ _ _ _) ?_;intro w9 j f)
  refine gF (Ao rfl Ad rfl rfl j) rfl ?_;have Q:=HR.out.symm.trans K.out;subst Q;exact⟨none,0,0,rfl,v.out.grownR f (by omega),TmO.nil _ _⟩
 | true =>
  obtain⟨q,aw⟩:=iY.1 H.out;subst aw;have az:va=x1:=a3.out;subst az;by_cases hi:0<=i/\i<va
  case neg =>
   have K:Hid (derA va i ((some q).map AC)=(0,[],3)):=qh (by
    show(if 0<=i/\i<va then resQ va (Pl.derT i.toNat (AC q))else((0:Int),([]:List Tx),(3:Int)))=_
    exact gT hi)
   have aq:i<0\/¬ i<0/\va<=i:=by omega
   clear hi;rcases aq with q1|⟨q1,q2⟩
   all_goals
    go_wp2_with(refine Aa (vs:=Ah 0 none 0 0) rfl rfl rfl rfl rfl Ad hR rfl (Am _ _ _ _) ?_;intro w9 j f)
    refine gF (Ao rfl Ad rfl rfl j) rfl ?_;have Q:=HR.out.symm.trans K.out;subst Q;exact⟨none,0,0,rfl,v.out.grownR f (by omega),TmO.nil _ _⟩
  obtain⟨ar,au⟩:=hi;obtain⟨h1,h2,h3,h4,-⟩:=AU g.out;obtain⟨N,rfl⟩:∃ k:Nat,va=(k:Int):=⟨va.toNat,by omega⟩;obtain⟨I,rfl⟩:∃ k:Nat,i=(k:Int):=⟨i.toNat,by omega⟩;have p:=Y7 g.out;rw[jc]at p;have z:I<N:=by omega
  have q1:¬ ((I:Int)<0):=by omega
  have q2:¬ ((N:Int)<=(I:Int)):=by omega
  have t1:=a2.out;have l1:V=n:=by have h5:=t1.sl.len;simp only[gP]at h5;rw[h1,iM,J.out]at h5;exact h5.symm
  have r1:=Et g.out a0.out
  have O:∀ t∈Pl.derT I q,Pl.RB 96 t.2:=fun t R=>by
   obtain⟨s,hs,h0,rfl⟩:=Cv R;have hx:=(p s hs).2 _ (Y6 (by rw[(p s hs).1];exact z));exact Pl.RB.mul (r1 s hs) (show Pl.RB 48 ((s.1.getD I 0:Int):Rat) from⟨ib (show(s.1.getD I 0).natAbs<P2 21 by rw[WO];omega) (Hq (by omega)),Cu (by omega)⟩)
  have F:q.length<=100:=by rw[h1,iM];have:=J.out;omega
  have G:Pl.SubOK (Pl.derT I q):=Pl.SubOK.of_rb (b:=96) (by omega) O (by have:=EU I q;omega);have Z:Hid (∀ e,Pl.RB 1000000 (Pl.coef (Pl.derT I q) e)):=qh (fun e=>(Pl.RB.coef (b:=96) (by omega) e O).mono (by have:=EU I q;omega));have an:Hid (N<=6):=qh (by omega);have am:Hid ((Pl.derT I q).length<=100):=qh (gJ (EU I q) F);have al:=qh z;have ai:=qh (LD (N:=N) (I:=I) (b0:=w.heap.size) (B:=1048576) (by omega) t1.sl p z (by omega) v.out.size (by omega) (fun s hs=>(r1 s hs).mono (by omega)) G)
  have e1:(pL (N:Int) a1 V c1).toArray=#[.int .i64 (N:Int),.slice a1 V c1]:=rfl;clear h1 h2 h3 h4 p t1 l1 r1 O F G z a2 a3 H a0 J ak ar au
  go_wp2_with fail
  refine ai.out.mono ?_;rintro e w7 ⟨a7,n7,c7,aE,rfl,a9,ab,ah,d,M⟩
  have aj:=qh (IZ (vars:=(N:Int)) ab.sl (fun t R=>by
   have h1:=Pl.coef_canon d R;rw[<-h1,M]
   exact Z.out t.1) (fun t R=>by have:=d.len t R;have:=an.out;omega) (gJ ah (gJ am.out (by omega))))
  have ao:=qh (HR.out.symm.trans (XT g.out al.out d M));have ad:=hR.ext a9;have E:=v.out.trans a9;have aC:(pL (N:Int) a7 n7 c7).toArray=#[.int .i64 (N:Int),.slice a7 n7 c7]:=rfl;clear ai d M ab ah hR e1 HR Z g
  go_wp2_with fail
  refine aj.out.mono ?_;rintro e w8 ⟨T,W,U,rfl,aa,ap⟩;have ae:=ad.ext aa;have ax:BS (N:Int) T W U = .agg #[.int .i64 (N:Int),.slice T W U]:=rfl;rw[ax];have aD:(Ah (N:Int) T W U).toArray=#[.int .i64 (N:Int),.slice T W U]:=rfl;clear aj ad
  go_wp2_with(refine Aa (vs:=Ah (N:Int) T W U) rfl rfl rfl rfl rfl Ad ae rfl (Am _ _ _ _) ?_;intro w9 j f)
  refine gF (Ao rfl Ad rfl rfl j) rfl ?_;have ay:=ao.out;subst ay;exact⟨T,W,U,rfl,(E.trans aa).grownR f (by omega),(ap.mono E.size).keptU ae (by decide) (by decide) f⟩
end Go.Proofs.YtlbmnokpiilfpaaGreatDoor
