/- Part PzRap. -/
import Derived.Test.YtlbmnokpiilfpaaGreatDoorPzRac
import Derived.Test.YtlbmnokpiilfpaaGreatDoorPz18

set_option linter.all false
set_option maxRecDepth 100000
set_option maxHeartbeats 100000000
namespace Go.Proofs.YtlbmnokpiilfpaaGreatDoor
open Tryz Go Go.RowKit
variable {va:Int} {xs:List Int} {N c cx n nx:Nat} {a x:Option Addr} {w:World}
noncomputable def actG (va:Int) (xs:List Int) (o:Option (List Pl.Tm)):Int×List Tx×Int:=match o with
 | some l=>if G1 xs=true then(if(xs.length:Int)=va then resQ va (ZC va.toNat xs l)else(0,[],4))else(0,[],1)
 | none=>(0,[],1)
theorem jg(va:Int)(xs:List Int):actG va xs none=(0,[],1):=rfl
theorem gI{l:List Pl.Tm}(h:G1 xs=false):actG va xs (some l)=(0,[],1):=pC (by rw[h];simp)
theorem ey{l:List Pl.Tm}(h:G1 xs=true)(h2:¬ (xs.length:Int)=va):actG va xs (some l)=(0,[],4):=(pP h).trans (pC h2)
theorem iD{l:List Pl.Tm}(h:G1 xs=true)(h2:(xs.length:Int)=va):actG va xs (some l)=resQ va (ZC va.toNat xs l):=(pP h).trans (pP h2)
theorem lM{ts:List Tx}{l:List Pl.Tm}(h:rdP va ts=some l):∀ t∈l,t.1.sum<=24:=am h
theorem kZ{ts:List Tx}{la out:List Pl.Tm}(h:rdR (N:Int) ts=some la)(hp:G1 xs=true)(k:xs.length=N)(a:Pl.Canon N out)(g:∀ e,Pl.coef out e=Pl.coef (actU xs la) e):actG (N:Int) xs ((some la).map AC)=((N:Int),wrU out,0):=by
 have m:=(AU h).2.2.2.1;have c:rdP (N:Int) ts=some (AC la):=by rw[FT,h];rfl
 have b:=(Dk h).len;rw[qZ]at b
 have h1:=OS (n:=N) (by omega) a (p:=AC (actU xs la)) (KM a.len (fun t j=>by
  obtain⟨s,d,rfl⟩:=pU.1 j;show(mvd xs s.1).length=N;rw[H5]
  exact b s d) (fun e _=>g e))
 have h2:actG (N:Int) xs ((some la).map AC)=resQ (N:Int) (ZC N xs (AC la)):=by
  have h3:=iD (va:=(N:Int)) (l:=AC la) hp (by omega);rw[qZ]at h3;exact h3
 have i:Pv (N:Int) (AC la):=Pv.of c;have f:=i.inv;rw[qZ]at f
 have h3:=S4 (v:=(N:Int)) (p:=ZC N xs (AC la)) (by rw[qZ];exact dh hp k (by omega) f) (by
  have h5:=(AU h).2.1;have h6:(AC la).length=ts.length:=by rw[show(AC la).length=la.length from pH _,(AU h).1,pH]
  rw[fd];omega) (fun t j=>by
  obtain⟨s,d,rfl⟩:=dg j;show(mp N xs s.1).sum<=24;rw[fa hp k (by omega) (f s d)]
  exact am c s d)
 rw[<-eU b]at h3 h2;rw[h2];rcases h1 with⟨_,h4⟩|⟨_,h4⟩
 · exact h4
 · rw[h4]at h3;cases h3
theorem gJ{X:List Tx}(hx:SlI w x nx cx xs)(ha:AH w a n c X)(sa:∀ t∈X,t.1.length<=12)(na:n<=100) :
 Calls prog 48 #[.slice x nx cx,.agg #[.int .i64 va,.slice a n c]] w (Cd w (actG va xs (rdP va X))):=by
 rw[FT va X];obtain⟨oa,A⟩:∃ o,rdR va X=o:=⟨_,rfl⟩;have p:=qh A;rw[A];obtain⟨r,hr⟩:∃ r,actG va xs (oa.map AC)=r:=⟨_,rfl⟩;have HR:=qh hr;rw[hr];clear hr;have a2:=qh sa;have J:=qh ha.len;have a0:=qh hx.len;have aq:∀ t∈X,t.1.length<=10000:=fun t P=>pD (sa t P) (by omega);clear sa
 go_enter func48,ntmps48
 go_upto_region 1 with(fail)
 refine Cf ?_;intro w0 a9 K a6 b9;have ag:Arr w0 (w.heap.size+1) 28 (Ah 0 none 0 0):=a6;have p0:=K.c 0 rfl;have p1:=K.c 1 rfl;have Y:=Ext.refl w0;clear K a6 b9;have z:=qh (Bv (vars:=va) ha (a9.trans Y) aq);rw[A]at z;clear A
 go_wp2_with fail
 refine z.out.mono ?_;rintro e C ⟨a1,V,c1,rfl,aa,aj⟩;obtain⟨x1,R⟩:∃ y,(if oa.isSome=true then va else 0)=y:=⟨_,rfl⟩;obtain⟨k1,O⟩:∃ y,oa.isSome=y:=⟨_,rfl⟩;rw[R,O];have a5:=qh R;have I:=qh O;have hY:=Arr.new C 44 (pL 0 none 0 0);have b3:(pL x1 a1 V c1).toArray=#[.int .i64 x1,.slice a1 V c1]:=rfl;clear R O z
 go_upto_region 2 with(refine Aa (vs:=pL x1 a1 V c1) rfl rfl rfl rfl rfl AJ hY rfl (AT _ _ _ _) ?_;intro ba hB hg)
 have hF:Ext C ba:=((Ext.refl C).alloc _).grownR hg (lrf _);have hG:=aa.trans hF;have D:=Y.trans hG;have a3:=qh (aj.ext hF);obtain⟨Y1,ak⟩:∃ x,C.heap.size=x:=⟨_,rfl⟩;rw[ak]at hB |-;have ar:=hB.c 0 rfl;have av:=hB.c 1 rfl;clear hY b3 hg hB ak aj hF hG aa;have hR:=ag.ext D;have d:=qh (a9.trans D);clear p0 p1 ag;cases k1 with
 | false =>
  have m:Hid (actG va xs (oa.map AC)=(0,[],1)):=qh (by
   have h1:=I.out;cases oa with
   | none=>rfl
   | some l=>cases h1)
  go_wp2_with(refine Aa (vs:=Ah 0 none 0 0) rfl rfl rfl rfl rfl Ad hR rfl (Am _ _ _ _) ?_;intro w9 i g)
  refine py (Ao rfl Ad rfl rfl i) rfl ?_;have v:=HR.out.symm.trans m.out;subst v;exact⟨none,0,0,rfl,d.out.grownR g (by omega),TmO.nil _ _⟩
 | true =>
  obtain⟨U,b4⟩:=sP.1 I.out;subst b4;have b8:va=x1:=a5.out;subst b8;have B:=hx.ext d.out;cases j:G1 xs with
  | false =>
   have m:Hid (actG va xs ((some U).map AC)=(0,[],1)):=qh (gI j)
   go_wp2_with fail
   refine(S1 B).mono ?_;rintro e w5 ⟨rfl,f⟩;rw[j];have q:=hR.ext f;replace d:=qh (d.out.trans f)
   go_wp2_with(refine Aa (vs:=Ah 0 none 0 0) rfl rfl rfl rfl rfl Ad q rfl (Am _ _ _ _) ?_;intro w9 i g)
   refine py (Ao rfl Ad rfl rfl i) rfl ?_;have v:=HR.out.symm.trans m.out;subst v;exact⟨none,0,0,rfl,d.out.grownR g (by omega),TmO.nil _ _⟩
  | true =>
   go_wp2_with fail
   refine(S1 B).mono ?_;rintro e w5 ⟨rfl,f⟩;rw[j];have q:=hR.ext f;replace ar:=f.cell ar;replace av:=f.cell av;have H:=B.ext f;replace d:=qh (d.out.trans f);have a4:=qh (a3.out.ext f);clear a3 B hR f;by_cases hi:(nx:Int)=va
   case neg =>
    have m:Hid (actG va xs ((some U).map AC)=(0,[],4)):=qh (ey j (by rw[a0.out];exact hi));have b5:((nx:Int) != va)=true:=by simp;omega
    go_wp2_with(refine Aa (vs:=Ah 0 none 0 0) rfl rfl rfl rfl rfl Ad q rfl (Am _ _ _ _) ?_;intro w9 i g)
    refine py (Ao rfl Ad rfl rfl i) rfl ?_;have v:=HR.out.symm.trans m.out;subst v;exact⟨none,0,0,rfl,d.out.grownR g (by omega),TmO.nil _ _⟩
   have b5:((nx:Int) != va)=false:=by simp;omega
   obtain⟨h1,h2,h3,h4,-⟩:=AU p.out;subst hi;have Q:=Y7 p.out;rw[qZ]at Q;have t1:=a4.out;have l1:V=n:=by have h5:=t1.sl.len;simp only[pY]at h5;rw[h1,pH,J.out]at h5;exact h5.symm
   have r1:=Et p.out a2.out
   have M:∀ t∈actU xs U,Pl.RB 48 t.2:=fun t P=>by
    obtain⟨s,hs,rfl⟩:=pU.1 P;exact r1 s hs
   have F:(actU xs U).length<=100:=by rw[aE,h1,pH];have:=J.out;omega
   have G:Pl.SubOK (actU xs U):=Pl.SubOK.of_rb (b:=48) (by omega) M (by omega);have Z:Hid (∀ e,Pl.RB 1000000 (Pl.coef (actU xs U) e)):=qh (fun e=>(Pl.RB.coef (b:=48) (by omega) e M).mono (by omega));have ay:Hid (nx<=6):=qh (by omega);have ax:=qh F;have aA:=qh j;have al:=qh (eV (N:=nx) (b0:=w.heap.size) (by omega) H j t1.sl (Q.tb (by omega)) d.out.size (by omega) G);have e1:(pL (nx:Int) a1 V c1).toArray=#[.int .i64 (nx:Int),.slice a1 V c1]:=rfl;clear h1 h2 h3 h4 Q t1 l1 r1 M F G a4 a5 I a2 J aq j H
   go_wp2_with fail
   refine al.out.mono ?_;rintro e w7 ⟨a7,n7,c7,bf,rfl,ab,ad,ao,k,L⟩
   have ap:=qh (IZ (vars:=(nx:Int)) ad.sl (fun t P=>by
    have h1:=Pl.coef_canon k P;rw[<-h1,L]
    exact Z.out t.1) (fun t P=>by have:=k.len t P;have:=ay.out;omega) (pD ao (pD ax.out (by omega))))
   have b1:=qh (HR.out.symm.trans (kZ p.out aA.out a0.out k L));have ah:=q.ext ab;have E:=d.out.trans ab;have bb:(pL (nx:Int) a7 n7 c7).toArray=#[.int .i64 (nx:Int),.slice a7 n7 c7]:=rfl;clear al k L ad ao q e1 HR Z p
   go_wp2_with fail
   refine ap.out.mono ?_;rintro e w8 ⟨S,W,T,rfl,ac,b2⟩;have ai:=ah.ext ac;have b6:BS (nx:Int) S W T = .agg #[.int .i64 (nx:Int),.slice S W T]:=rfl;rw[b6];have bd:(Ah (nx:Int) S W T).toArray=#[.int .i64 (nx:Int),.slice S W T]:=rfl;clear ap ah
   go_wp2_with(refine Aa (vs:=Ah (nx:Int) S W T) rfl rfl rfl rfl rfl Ad ai rfl (Am _ _ _ _) ?_;intro w9 i g)
   refine py (Ao rfl Ad rfl rfl i) rfl ?_;have b7:=b1.out;subst b7;exact⟨S,W,T,rfl,(E.trans ac).grownR g (by omega),(b2.mono E.size).keptU ai (by decide) (by decide) g⟩
theorem fD{ts:List Tx}(K:AM w)(G:SlI w x nx cx xs)(L:AH w a n c ts)(sa:∀ t∈ts,t.1.length<=570)(B:∀ l,rdP va ts=some l->G1 xs=true->(xs.length:Int)=va->EH (ZC va.toNat xs l)) :
 Calls prog 47 #[.slice x nx cx,.agg #[.int .i64 va,.slice a n c]] w (Cd w (actG va xs (rdP va ts))):=by
 have D:=G.len;cases E:rdP va ts with
 | some l =>
  cases f:G1 xs with
  | true =>
   by_cases P:(nx:Int)=va
   · subst P;have h1:=iD (va:=(nx:Int)) (l:=l) f (by omega);have h2:=fR K G f L E sa (by have:=B l E f (by omega);rw[qZ]at this;exact this);rw[h1];exact h2
   · have F:=qh (fun(O:World) (H:Ext w O)=>D7 (vars:=va) (K.ext H) (L.ext H) sa);have Q:((nx:Int) != va)=true:=by simp;omega
     have v:=qh (ey (l:=l) f (show ¬ (xs.length:Int)=va by omega));have C:Hid ((rdP va ts).isSome=true):=qh (by rw[E];rfl);clear B E D
     go_enter func47,ntmps47
     go_upto_region 1 with(fail)
     refine Cf ?_;intro J d g i I;have y:=g.c 0 rfl;have z:=g.c 1 rfl;have A:Arr J (w.heap.size+1) 28 (Ah 0 none 0 0):=i;clear g i
     go_wp2_with fail
     refine(G4 (G.ext d)).mono ?_;rintro e M ⟨rfl,b⟩;rw[f];have j:=d.trans b;have r:=b.cell y;have s:=b.cell z
     go_wp2_with fail
     refine(F.out _ j).mono ?_;rintro e T ⟨rfl,o⟩;rw[C.out];have k:=qh (j.trans o);have p:=A.ext (b.trans o);have R:=o.cell r;have S:=o.cell s;clear y z r s A
     go_wp2_with(refine Aa (vs:=Ah 0 none 0 0) rfl rfl rfl rfl rfl Ad p rfl (Am _ _ _ _) ?_;intro N m q)
     refine py (Ao rfl Ad rfl rfl m) rfl ?_;rw[v.out];exact⟨none,0,0,rfl,k.out.grownR q (by omega),TmO.nil _ _⟩
  | false =>
   have v:=qh (gI (va:=va) (l:=l) f);clear B E D
   go_enter func47,ntmps47
   go_upto_region 1 with(fail)
   refine Cf ?_;intro J d g i I;have A:Arr J (w.heap.size+1) 28 (Ah 0 none 0 0):=i;clear g i
   go_wp2_with fail
   refine(G4 (G.ext d)).mono ?_;rintro e M ⟨rfl,b⟩;rw[f];have k:=qh (d.trans b);have p:=A.ext b;clear A
   go_wp2_with(refine Aa (vs:=Ah 0 none 0 0) rfl rfl rfl rfl rfl Ad p rfl (Am _ _ _ _) ?_;intro N m q)
   refine py (Ao rfl Ad rfl rfl m) rfl ?_;rw[v.out];exact⟨none,0,0,rfl,k.out.grownR q (by omega),TmO.nil _ _⟩
 | none =>
  have F:=qh (fun(O:World) (H:Ext w O)=>D7 (vars:=va) (K.ext H) (L.ext H) sa);have C:Hid ((rdP va ts).isSome=false):=qh (by rw[E];rfl);have v:=qh (jg va xs);clear B E D
  go_enter func47,ntmps47
  go_upto_region 1 with(fail)
  refine Cf ?_;intro J d g i I;have y:=g.c 0 rfl;have z:=g.c 1 rfl;have A:Arr J (w.heap.size+1) 28 (Ah 0 none 0 0):=i;clear g i;cases f:G1 xs with
  | true =>
   go_wp2_with fail
   refine(G4 (G.ext d)).mono ?_;rintro e M ⟨rfl,b⟩;rw[f];have j:=d.trans b;have r:=b.cell y;have s:=b.cell z
   go_wp2_with fail
   refine(F.out _ j).mono ?_;rintro e T ⟨rfl,o⟩;rw[C.out];have k:=qh (j.trans o);have p:=A.ext (b.trans o);clear y z r s A
   go_wp2_with(refine Aa (vs:=Ah 0 none 0 0) rfl rfl rfl rfl rfl Ad p rfl (Am _ _ _ _) ?_;intro N m q)
   refine py (Ao rfl Ad rfl rfl m) rfl ?_;rw[v.out];exact⟨none,0,0,rfl,k.out.grownR q (by omega),TmO.nil _ _⟩
  | false =>
   go_wp2_with fail
   refine(G4 (G.ext d)).mono ?_;rintro e M ⟨rfl,b⟩;rw[f];have k:=qh (d.trans b);have p:=A.ext b;clear y z A
   go_wp2_with(refine Aa (vs:=Ah 0 none 0 0) rfl rfl rfl rfl rfl Ad p rfl (Am _ _ _ _) ?_;intro N m q)
   refine py (Ao rfl Ad rfl rfl m) rfl ?_;rw[v.out];exact⟨none,0,0,rfl,k.out.grownR q (by omega),TmO.nil _ _⟩
end Go.Proofs.YtlbmnokpiilfpaaGreatDoor
