/- Part PzRav. -/
import Derived.Test.YtlbmnokpiilfpaaGreatDoorPzAvu
import Derived.Test.YtlbmnokpiilfpaaGreatDoorPzRap
import Derived.Test.YtlbmnokpiilfpaaGreatDoorPzZdv

set_option linter.all false
set_option maxRecDepth 100000
set_option maxHeartbeats 100000000
namespace Go.Proofs.YtlbmnokpiilfpaaGreatDoor
open Tryz Go Go.RowKit
variable {va:Int} {gs:List (List Int)} {N i q:Nat} {a ag:Option Addr} {w:World}
open Classical in
noncomputable def avG (va:Int) (gs:List (List Int)) (o:Option (List Pl.Tm)):Int×List Tx×Int:=match o with
 | some l=>if isG gs then(if((gs.getD 0 []).length:Int)=va then resQ va (avP gs va.toNat l)else(0,[],4))else(0,[],1)
 | none=>(0,[],1)
theorem jT(va:Int)(gs:List (List Int)):avG va gs none=(0,[],1):=rfl
theorem iE{l:List Pl.Tm}(h:¬ isG gs):avG va gs (some l)=(0,[],1):=pC h
theorem eW{l:List Pl.Tm}(h:isG gs)(h2:¬ ((gs.getD 0 []).length:Int)=va):avG va gs (some l)=(0,[],4):=(pP h).trans (pC h2)
theorem jU{l:List Pl.Tm}(h:isG gs)(h2:((gs.getD 0 []).length:Int)=va):avG va gs (some l)=resQ va (avP gs va.toNat l):=(pP h).trans (pP h2)
def cZ(q:Nat):Rat:=(((1:Int):Rat))/((((q:Nat):Int):Rat))
theorem iF(q:Nat):cZ q=(((q:Nat):Int):Rat)⁻¹:=by
 unfold cZ;rw[Rat.div_def];exact Rat.one_mul _
theorem kF(h0:0<q)(h:q<=24):Pl.RB 5 (cZ q):=by
 rw[iF];have h1:∀ m,m<25->0<m->((((m:Nat):Int):Rat)⁻¹).num.natAbs<=1/\((((m:Nat):Int):Rat)⁻¹).den<=24:=by decide +kernel
 obtain⟨h2,h3⟩:=h1 q (by omega) h0;have h4:24<P2 5:=by unfold P2;decide
 exact⟨by omega,by omega⟩
section
variable {gs:List (List Int)} {la:List Pl.Tm} {f:Rat}
theorem jV(m:gs.length<=24)(c:la.length<=6)(a:Pl.RB 5 f)(d:∀ t∈la,Pl.RB 32 t.2)(i:Nat)(e:List Int):Pl.RB 5500 (Pl.coef (avU f (gs.take i) la) e):=by
 have h1:∀ t∈avU f (gs.take i) la,Pl.RB 37 t.2:=fun t k=>by
  obtain⟨g,l,s,j,rfl⟩:=fC k;exact Pl.RB.mul a (d s j)
 refine(Pl.RB.coef (b:=37) (by omega) e h1).mono ?_;rw[cC,qg];have h2:min i gs.length*la.length<=24*6:=qK (by omega) c;have h3:min i gs.length*la.length*(37+1)<=24*6*(37+1):=px _ h2;omega
theorem kG(f:la.length<=6)(a:∀ t∈la,Pl.RB 32 t.2)(g:List Int)(e:List Int):Pl.RB 250 (Pl.coef (actU g la) e):=by
 have h1:∀ t∈actU g la,Pl.RB 32 t.2:=fun t d=>by
  obtain⟨s,c,rfl⟩:=pU.1 d;exact a s c
 refine(Pl.RB.coef (b:=32) (by omega) e h1).mono ?_;rw[aE];omega
theorem ld{o3 a:List Pl.Tm}(n:gs.length<=24)(d:la.length<=6)(j:Pl.RB 5 f)(k:∀ t∈la,Pl.RB 32 t.2){g:List Int}(l:Pl.Canon N o3)(r:∀ e,Pl.coef o3 e=Pl.coef (avU f (gs.take i) la) e)(p:o3.length<=(avU f (gs.take i) la).length)(m:Pl.Canon N a)(v:∀ e,Pl.coef a e=Pl.coef (actU g la) e)(q:a.length<=(actU g la).length):(∀ t∈a,Pl.RB 1000000 t.2)/\Pl.SubOK (o3 ++ Pl.scl f a):=by
 have h5:∀ t∈a,Pl.RB 250 t.2:=fun t c=>by
  rw[<-Pl.coef_canon m c,v];exact kG d k g _
 refine⟨fun t c=>(h5 t c).mono (by omega),Pl.SubOK.of_rb (b:=5500) (by omega) (fun t c => ?_) ?_⟩
 · rcases qd.1 c with h|h
   · rw[<-Pl.coef_canon l h,r];exact jV n d j k i _
   · obtain⟨s,o,rfl⟩:=pU.1 h;exact(Pl.RB.mul j (h5 s o)).mono (by omega)
 · rw[pZ,show(Pl.scl f a).length=a.length from pH _];rw[cC,qg]at p;rw[aE]at q;have h2:min i gs.length*la.length<=24*6:=qK (by omega) d;have h3:(o3.length+a.length)*(5500+1)<=150*(5500+1):=px _ (by omega);omega
theorem kH{o3 a:List Pl.Tm}(hi:i<gs.length)(b:∀ e,Pl.coef o3 e=Pl.coef (avU f (gs.take i) la) e)(c:∀ e,Pl.coef a e=Pl.coef (actU (gs.getD i []) la) e)(e:List Int):Pl.coef (o3 ++ Pl.scl f a) e=Pl.coef (avU f (gs.take (i+1)) la) e:=by
 rw[gF hi,Pl.coef_app,Pl.coef_app,Pl.coef_scl,Pl.coef_scl,b,c]
theorem lf{o3 a:List Pl.Tm}(hi:i<gs.length)(b:o3.length<=(avU f (gs.take i) la).length)(c:a.length<=(actU (gs.getD i []) la).length):(o3 ++ Pl.scl f a).length<=(avU f (gs.take (i+1)) la).length:=by
 rw[gF hi,pZ,pZ,show(Pl.scl f a).length=a.length from pH _,show(Pl.scl f (actU (gs.getD i []) la)).length=(actU (gs.getD i []) la).length from pH _];omega
theorem lN{ts:List Tx}{out:List Pl.Tm}(h:rdR (N:Int) ts=some la)(G:GNs gs N)(a:Pl.Canon N out)(c:∀ e,Pl.coef out e=Pl.coef (avU (cZ gs.length) gs la) e):(okU out/\avG (N:Int) gs ((some la).map AC)=((N:Int),wrU out,0))\/(¬ okU out/\avG (N:Int) gs ((some la).map AC)=(0,[],2)):=by
 have m:=(AU h).2.2.2.1;have d:rdP (N:Int) ts=some (AC la):=by rw[FT,h];rfl
 have b:=(Dk h).len;rw[qZ]at b;have f:Pv (N:Int) (AC la):=Pv.of d;have i:=f.inv;rw[qZ]at i;have h2:avG (N:Int) gs ((some la).map AC)=resQ (N:Int) (avP gs N (AC la)):=by
  have h3:=jU (va:=(N:Int)) (l:=AC la) G.g (by rw[G.l]);rw[qZ]at h3;exact h3
 rw[h2];refine OS (n:=N) (by omega) a fun e => ?_
 rw[KM a.len (fun t k=>by
  obtain⟨g,o,s,j,rfl⟩:=fC k;show(mvd g s.1).length=N;rw[H5]
  exact b s j) (fun e _=>c e) e,gG b,iF]
 exact kD G i e
end
theorem eH{cg n c:Nat}{ta:List Tx}(hg:SlL w ag q cg gs)(de:isG gs->q<=24)(ha:AH w a n c ta)(sa:∀ t∈ta,t.1.length<=8)(na:n<=6) :
 Calls prog 50 #[.slice ag q cg,.agg #[.int .i64 va,.slice a n c]] w (Cd w (avG va gs (rdP va ta))):=by
 rw[FT va ta];obtain⟨oa,ad⟩:∃ o,rdR va ta=o:=⟨_,rfl⟩;have ac:=qh ad;rw[ad];obtain⟨r,hr⟩:∃ r,avG va gs (oa.map AC)=r:=⟨_,rfl⟩;have HR:=qh hr;rw[hr];clear hr;have ei:=qh sa;have c2:=qh ha.len;have c4:=qh hg.len;have ca:=qh de;have fv:∀ t∈ta,t.1.length<=10000:=fun t Z=>pD (sa t Z) (by omega);clear sa de
 go_enter func50,ntmps50
 go_upto_region 1 with(fail)
 refine Cf ?_;intro w0 cl b5 ck fu;have cr:Arr w0 (w.heap.size+1) 28 (Ah 0 none 0 0):=ck;have p0:=b5.c 0 rfl;have p1:=b5.c 1 rfl;have bN:=Ext.refl w0;clear b5 ck fu;have aq:=qh (Bv (vars:=va) ha (cl.trans bN) fv);rw[ad]at aq;clear ad
 go_wp2_with fail
 refine aq.out.mono ?_;rintro e ak ⟨a1,n1,c1,rfl,cn,ct⟩;obtain⟨x1,bn⟩:∃ y,(if oa.isSome=true then va else 0)=y:=⟨_,rfl⟩;obtain⟨k1,bi⟩:∃ y,oa.isSome=y:=⟨_,rfl⟩;rw[bn,bi];have ej:=qh bn;have c0:=qh bi;have hY:=Arr.new ak 44 (pL 0 none 0 0);have eC:(pL x1 a1 n1 c1).toArray=#[.int .i64 x1,.slice a1 n1 c1]:=rfl;clear bn bi aq
 go_upto_region 2 with(refine Aa (vs:=pL x1 a1 n1 c1) rfl rfl rfl rfl rfl AJ hY rfl (AT _ _ _ _) ?_;intro fw hB hg)
 have hF:Ext ak fw:=((Ext.refl ak).alloc _).grownR hg (lrf _);have hG:=cn.trans hF;have bq:=bN.trans hG;have cc:=qh (ct.ext hF);obtain⟨Y1,cy⟩:∃ x,ak.heap.size=x:=⟨_,rfl⟩;rw[cy]at hB |-;have Q:=hB.c 0 rfl;have R:=hB.c 1 rfl;clear hY eC hg hB cy ct hF hG cn;have hR:=cr.ext bq;have m:=qh (cl.trans bq);clear p0 p1 cr;cases k1 with
 | false =>
  have M:Hid (avG va gs (oa.map AC)=(0,[],1)):=qh (by
   have h1:=c0.out;cases oa with
   | none=>rfl
   | some l=>cases h1)
  go_wp2_with(refine Aa (vs:=Ah 0 none 0 0) rfl rfl rfl rfl rfl Ad hR rfl (Am _ _ _ _) ?_;intro w9 J H)
  refine py (Ao rfl Ad rfl rfl J) rfl ?_;have P:=HR.out.symm.trans M.out;subst P;exact⟨none,0,0,rfl,m.out.grownR H (by omega),TmO.nil _ _⟩
 | true =>
  obtain⟨la,f6⟩:=sP.1 c0.out;subst f6;have fs:va=x1:=ej.out;subst fs;have ah:=hg.ext m.out;have V:=qh (gu ah);by_cases hG:isG gs
  case neg =>
   have M:Hid (avG va gs ((some la).map AC)=(0,[],1)):=qh (iE hG);rw[X1 hG]at V;clear hG
   go_wp2_with fail
   refine V.out.mono ?_;rintro e w5 ⟨rfl,k⟩;have K:=hR.ext k;replace m:=qh (m.out.trans k);clear V ah
   go_wp2_with(refine Aa (vs:=Ah 0 none 0 0) rfl rfl rfl rfl rfl Ad K rfl (Am _ _ _ _) ?_;intro w9 J H)
   refine py (Ao rfl Ad rfl rfl J) rfl ?_;have P:=HR.out.symm.trans M.out;subst P;exact⟨none,0,0,rfl,m.out.grownR H (by omega),TmO.nil _ _⟩
  rw[au hG]at V;have ay:=qh hG;have ap:=ca.out hG;have da:0<q:=by have h1:=hG.pos;have h2:=c4.out;omega
  clear hG ca
  go_wp2_with fail
  refine V.out.mono ?_;rintro e w5 ⟨rfl,k⟩;have K:=hR.ext k;replace Q:=k.cell Q;replace R:=k.cell R;have C:=ah.ext k;replace m:=qh (m.out.trans k);have T:=qh (cc.out.ext k);clear cc ah hR k V;obtain⟨bg,og,fN,j,fO,rfl,ch,dB⟩:=C.at da;have ax:=qh dB.len;rw[qy]at ch;clear dB
  go_upto_region 4 with(fail)
  go_region
  have L:Ext w5 w5.drew:=(Ext.refl w5).drew;obtain⟨w6,dj⟩:∃ w6,w5.drew=w6:=⟨_,rfl⟩;rw[dj]at L |-;replace K:=K.ext L;replace Q:=L.cell Q;replace R:=L.cell R;replace C:=C.ext L;replace m:=qh (m.out.trans L);replace T:=qh (T.out.ext L);clear dj L ch;by_cases hi:(j:Int)=va
  case neg =>
   have M:Hid (avG va gs ((some la).map AC)=(0,[],4)):=qh (eW ay.out (by rw[ax.out];exact hi));have d6:((j:Int) != va)=true:=by simp;omega
   go_wp2_with(refine Aa (vs:=Ah 0 none 0 0) rfl rfl rfl rfl rfl Ad K rfl (Am _ _ _ _) ?_;intro w9 J H)
   refine py (Ao rfl Ad rfl rfl J) rfl ?_;have P:=HR.out.symm.trans M.out;subst P;exact⟨none,0,0,rfl,m.out.grownR H (by omega),TmO.nil _ _⟩
  have d6:((j:Int) != va)=false:=by simp;omega
  obtain⟨h1,h2,h3,h4,-⟩:=AU ac.out;subst hi;have bm:=Qr ac.out;rw[qZ]at bm;have b3:=qh bm;have l1:n1=n:=by have h5:=T.out.sl.len;simp only[pY]at h5;rw[h1,pH,c2.out]at h5;exact h5.symm
  have S:Hid (la.length<=6):=qh (by rw[h1,pH,c2.out];exact na);have b2:=qh (Et ac.out ei.out);have aA:Hid (GNs gs j):=qh ⟨ay.out,by rw[<-ax.out];exact ay.out.perms,ax.out,by omega⟩;have O:Hid (gs.length=q):=c4;have g4:j<=6:=by omega
  have g7:n1<=6:=by omega
  have b1:=qh (kF da ap);have W:q<P2 5:=by
   have h5:24<P2 5:=by unfold P2;decide
   omega
  have cb:Hid (q<P2 1000000):=qh (pS W (Hq (by omega)));clear W;have dc:=qh (fun(G:World) (v v':Value) (h:QV G v ((1:Int):Rat)) (h':QV G v' ((q:Int):Rat))=>jX h h' ⟨Cu (by omega),Cu (by omega)⟩ ⟨cb.out,Cu (by omega)⟩ (show 0<(q:Int) by omega));clear h1 h2 h3 h4 bm l1 d6 na cb
  go_wp2_with fail
  refine(RI (z:=1) (by omega)).mono ?_;rintro e w7 ⟨s7,a7,n7,c7,b7,m7,d7,rfl,co,i7,j7,k7⟩;have bK:QV w7 (.agg (Al s7 a7 n7 c7 false b7 m7 d7).toArray) ((1:Int):Rat):=⟨s7,a7,n7,c7,b7,m7,d7,rfl,i7,j7,k7⟩;have eD:(Al s7 a7 n7 c7 false b7 m7 d7).toArray=#[.bool s7,.slice a7 n7 c7,.bool false,.slice b7 m7 d7]:=rfl;clear i7 j7 k7
  go_wp2_with fail
  refine(RI (z:=(q:Int)) (by omega)).mono ?_;rintro e w8 ⟨s8,a8,n8,c8,b8,m8,d8,rfl,b6,i8,j8,k8⟩;have bL:QV w8 (.agg (Al s8 a8 n8 c8 false b8 m8 d8).toArray) ((q:Int):Rat):=⟨s8,a8,n8,c8,b8,m8,d8,rfl,i8,j8,k8⟩;have eX:(Al s8 a8 n8 c8 false b8 m8 d8).toArray=#[.bool s8,.slice a8 n8 c8,.bool false,.slice b8 m8 d8]:=rfl;have d0:=qh (dc.out w8 _ _ (bK.ext b6) bL);clear i8 j8 k8 bK bL dc
  go_wp2_with fail
  refine d0.out.mono ?_;rintro e aj ⟨s9,a9,n9,c9,b9,m9,d9,rfl,bs,i9,j9,k9⟩;have dd:QV aj (.agg (Al s9 a9 n9 c9 false b9 m9 d9).toArray) (cZ q):=⟨s9,a9,n9,c9,b9,m9,d9,rfl,i9,j9,k9⟩;have f5:(Al s9 a9 n9 c9 false b9 m9 d9).toArray=#[.bool s9,.slice a9 n9 c9,.bool false,.slice b9 m9 d9]:=rfl;have hY:=Arr.new aj 99 (Al false none 0 0 false none 0 0);have hE:=(co.trans b6).trans bs;clear i9 j9 k9 d0 eD eX
  go_upto_region 7 with(refine Aa (vs:=Al s9 a9 n9 c9 false b9 m9 d9) rfl rfl rfl rfl rfl By hY rfl (Aq _ _ _ _ _ _ _ _) ?_;intro ab U d3)
  have hF:=((Ext.refl aj).alloc _).grownR d3 (lrf _);obtain⟨F,cp⟩:∃ x,aj.heap.size=x:=⟨_,rfl⟩;rw[cp]at U |-;have f0:=U.c 0 rfl;have f1:=U.c 1 rfl;have f2:=U.c 2 rfl;have f3:=U.c 3 rfl;have k:=hE.trans hF;have bG:=dd.ext hF;replace K:=K.ext k;replace Q:=k.cell Q;replace R:=k.cell R;replace C:=C.ext k;replace m:=qh (m.out.trans k);replace T:=qh (T.out.ext k);clear hY f5 d3 U hF hE k co b6 bs cp dd;have hY:=Arr.new ab 44 (pL 0 none 0 0)
  have f7:(pL (j:Int) none 0 0).toArray=#[.int .i64 (j:Int),.slice none 0 0]:=rfl
  go_upto_region 8 with(refine Aa (vs:=pL (j:Int) none 0 0) rfl rfl rfl rfl rfl AJ hY rfl (AT _ _ _ _) ?_;intro g8 bb d2)
  have hF:=((Ext.refl ab).alloc _).grownR d2 (lrf _);obtain⟨X,bd⟩:∃ x,ab.heap.size=x:=⟨_,rfl⟩;rw[bd]at bb |-;have ek:Hid (w.heap.size+2<=X):=qh (by have:=K.lt;omega);have e7:ab.heap.size<=X:=vj bd;clear hY f7 d2 bd;have ed:=qh bG;clear bG;go_wp2
  go_loopw[10] (fun iv wr=>∃ (i:Nat) (a3:Option Addr) (Y c3:Nat) (D:List Pl.Tm),iv = .int .i64 i/\i<=q/\Ext ab wr/\Arr wr X 44 (pL (j:Int) a3 Y c3)/\TO wr w.heap.size w.heap.size a3 Y c3 D/\Hid (Y<=(avU (cZ q) (gs.take i) la).length/\Pl.Canon j D/\∀ e,Pl.coef D e=Pl.coef (avU (cZ q) (gs.take i) la) e)) (fun iv _=>q-(intOf iv).toNat)
  case atStart=>exact⟨0,none,0,0,[],rfl,pE _,hF,bb,TO.nil _ _ _,qh ⟨pE _,Pl.Canon.nil _,fun e=>by rw[rf];rfl⟩⟩
  case round =>
   clear bb hF;obtain⟨i,a3,Y,c3,D,rfl,hi,E,hX,a4,A⟩:=hrel;have a2:=m.out.trans E;have z0:=E.cell Q;have z1:=E.cell R;have g0:=E.cell f0;have g1:=E.cell f1;have g2:=E.cell f2;have g3:=E.cell f3;have x0:=hX.c 0 rfl;have x1:=hX.c 1 rfl;by_cases aa:i<q
   · have e6:(i:Int)<q:=by omega
     obtain⟨b4,bo,cd,d,ce,cP,el,bp⟩:=(C.ext E).at aa;obtain⟨er,es⟩:b4=bg/\bo=og:=by injection cP with h;injection h with h1 h2 h3;exact⟨h1.symm,h2.symm⟩
     subst er es;have ai:G1 (gs.getD i [])=true/\(gs.getD i []).length=j:=aA.out.p _ (H6 (by rw[O.out];exact aa));have fb:d=j:=by have h1:=bp.len;omega
     subst fb;have ao:=a4.sl.len
     have cz:=qh (fun(G:World) (B:Ext wr G)=>eV (N:=d) (b0:=w.heap.size) (by omega) (bp.ext B) ai.1 (T.out.sl.ext (E.trans B)) b3.out (a2.trans B).size (by omega) (Pl.SubOK.of_rb (b:=32) (by omega) (fun t Z=>by
      obtain⟨s,hs,rfl⟩:=pU.1 Z
      exact b2.out s hs) (by have:=S.out;simp only[pY,aE];omega)))
     have bl:=qh (fun(G:World) (B:Ext wr G) (v:Value) (h:NSm w.heap.size w.heap.size d (actU (gs.getD i []) la) v G)=>(show ∃ a5 n5 c5,v = .agg (pL (d:Int) a5 n5 c5).toArray/\Calls prog 119 #[.agg (pL (d:Int) a3 Y c3).toArray,.agg (Al s9 a9 n9 c9 false b9 m9 d9).toArray,.agg (pL (d:Int) a5 n5 c5).toArray] G fun e w'=>∃ v',e = .returned v'/\Ext G w'/\NSm w.heap.size w.heap.size d (avU (cZ q) (gs.take (i+1)) la) v' w' from by
      obtain⟨a5,n5,c5,fA,rfl,cq,bk,cQ,W⟩:=h;have d4:=cq.sl.len;have hs:=ld (i:=i) (gs:=gs) (la:=la) (f:=cZ q) (g:=gs.getD i []) (by rw[O.out];exact ap) S.out b1.out b2.out A.out.2.1 A.out.2.2 (by rw[ao];exact A.out.1) cQ W (by rw[d4];exact bk);have fe:Y<=144:=by
       have h1:=A.out.1;rw[cC,qg]at h1;have h2:min i gs.length*la.length<=24*6:=qK (by omega) S.out;omega
      have cv:∀ {o:List Pl.Tm} {l:List Pl.Tm},Pl.Canon d o->(∀ e,Pl.coef o e=Pl.coef l e)->TB d l->TB d o:=fun {o l} hc hq hl t Z=>by
       have h1:=Pl.coef_canon hc Z;rw[hq]at h1;have h2:t.2≠0:=hc.nz t Z;obtain⟨u,hu,e⟩:=Pl.coef_present (l:=l) (e:=t.1) (by rw[h1];exact h2);have:=hl u hu;rw[e]at this;exact this
      have ep:TB d (actU (gs.getD i []) la):=b3.out.actU ai.1 ai.2
      have eq:TB d (avU (cZ q) (gs.take i) la):=fun t Z=>by
       obtain⟨g,ex,s,fn,rfl⟩:=fC Z;obtain⟨p1,p2⟩:=aA.out.p g (rF ex);exact b3.out.actU p1 p2 (mvd g s.1,s.2) (pU.2 ⟨s,fn,rfl⟩)
      refine⟨a5,n5,c5,rfl,?_⟩;refine(K3 (N:=d) (b0:=w.heap.size) (by omega) (va:=(d:Int)) (vb:=(d:Int)) (a4.sl.ext B) (ed.out.ext (E.trans B)) cq.sl (cv A.out.2.1 A.out.2.2 eq) (cv cQ W ep) (a2.trans B).size (by omega) (by rw[aE]at bk;have:=S.out;omega) (b1.out.mono (by omega)) hs.1 hs.2).mono ?_;rintro e w' ⟨a',n',c',ar,rfl,a0,ba,bj,dI,dT⟩;refine⟨_,rfl,a0,a',n',c',ar,rfl,ba.mono (a2.trans B).size,?_,dI,fun e => ?_⟩
      · exact pD bj (lf (by rw[O.out];exact aa) (by rw[ao];exact A.out.1) (by rw[d4];exact bk))
      · rw[dT]
        exact kH (by rw[O.out];exact aa) A.out.2.2 W e))
     generalize gs.getD i []=gi at *
     have e3:(pL (d:Int) a3 Y c3).toArray=#[.int .i64 (d:Int),.slice a3 Y c3]:=rfl;have e4:(pL (d:Int) a1 n1 c1).toArray=#[.int .i64 (d:Int),.slice a1 n1 c1]:=rfl;clear ai bp a4 A ao C cP
     go_upto_region 11 with(fail)
     have av:=fun(G:World) (B:Ext wr G)=>qh (And.intro (B.cell x0) (And.intro (B.cell x1) (And.intro (B.cell z0) (And.intro (B.cell z1) (And.intro (B.cell g0) (And.intro (B.cell g1) (And.intro (B.cell g2) (And.intro (B.cell g3) (B.cell el)))))))))
     refine B0
      [he (.agg #[.int .i64 (d:Int),.slice a3 Y c3]),he (.agg #[.bool s9,.slice a9 n9 c9,.bool false,.slice b9 m9 d9]),hdS (some ⟨b4,bo,none⟩) q cg,hdI i,hdP b4 (bo+i),hdS cd d ce,he (.agg #[.int .i64 (d:Int),.slice a1 n1 c1]),hp (fun v G=>NSm w.heap.size w.heap.size d (actU gi la) v G),hp (fun v G=>NSm w.heap.size w.heap.size d (avU (cZ q) (gs.take (i+1)) la) v G)]
      ⟨NSm.x _ _ _ _,NSm.x _ _ _ _,trivial⟩ ⟨?o0,?o1,?o2,?o3,?o4,?o5,?o6,?o7,?o8,trivial⟩ ?fin
     case o0 | o6=>exact ol2
     case o1=>exact ol4
     case o2 | o3=>exact omv
     case o5=>exact ol
     case o4 =>
      refine Aj rfl fun ρ G B bx h => ?_;have e0:_=_:=h.1;have e1:_=_:=h.2.1;obtain⟨dw,dx,dy,dA,dn,dq,ds,dt,dv⟩:=(av G B).out;go_simp
      try (first | (intros;omega) | exact pq _ (by omega))
     case o7 =>
      refine Ag rfl fun ρ G B bx ev h => ?_;have e1:_=_:=h.2.1;have e2:_=_:=h.2.2.1;obtain⟨dw,dx,dy,dA,dn,dq,ds,dt,dv⟩:=(av G B).out;refine⟨108,#[.slice cd d ce,.agg #[.int .i64 (d:Int),.slice a1 n1 c1]],by go_simp,(cz.out G B).mono ?_⟩;rintro e w' ⟨a',n',c',ar,rfl,a0,ba,bj,et,fg⟩;exact⟨_,rfl,a0,a',n',c',ar,rfl,ba.mono (a2.trans B).size,bj,et,fg⟩
     case o8 =>
      refine Ag rfl fun ρ G B bx ev h => ?_;have e1:_=_:=h.2.1;have e2:_=_:=h.2.2.1;obtain⟨v3,e3,i3⟩:=h.2.2.2.1;obtain⟨dw,dx,dy,dA,dn,dq,ds,dt,dv⟩:=(av G B).out;obtain⟨a',n',c',fr,eu⟩:=bl.out G B _ i3;subst fr;have e5:(pL (d:Int) a' n' c').toArray=#[.int .i64 (d:Int),.slice a' n' c']:=rfl;refine⟨119,#[.agg #[.int .i64 (d:Int),.slice a3 Y c3],.agg #[.bool s9,.slice a9 n9 c9,.bool false,.slice b9 m9 d9],.agg #[.int .i64 (d:Int),.slice a' n' c']],by go_simp,?_⟩;refine eu.mono ?_;rintro e w' ⟨v',rfl,a0,em⟩;exact⟨_,rfl,a0,em⟩
     case fin =>
      intro G B;rintro _ _;rintro _ ⟨a6,n6,c6,e8,rfl,en,d5,cR,db⟩;change wpList _ _ _ _ _ _;simp only[Ci];have cx:=hX.ext B;have g6:(pL (d:Int) a6 n6 c6).toArray=#[.int .i64 (d:Int),.slice a6 n6 c6]:=rfl;have g5:=ek.out;have e9:=qh (And.intro d5 (And.intro cR db));clear d5 cR db hX cz bl
      go_wp2_with(refine Aa (vs:=pL (d:Int) a6 n6 c6) rfl rfl rfl rfl rfl AJ cx rfl (AT _ _ _ _) ?_;intro gb dJ bz)
      go_roundw
      case rel=>exact⟨i+1,a6,n6,c6,e8,by go_num,by omega,(E.trans B).grownR bz e7,dJ,en.keptA cx (by decide) (by decide) (by decide) (by omega) bz,e9⟩
      case measure=>simp[intOf];omega
   · have e6:¬ (i:Int)<q:=by omega
     have eb:Hid (i=q):=qh (by omega);have cs:=K.ext E;have d1:=qh (Qv (vars:=(j:Int)) a4.sl);have e3:(pL (j:Int) a3 Y c3).toArray=#[.int .i64 (j:Int),.slice a3 Y c3]:=rfl
     have cT:∀ e,Pl.coef D e=Pl.coef (avU (cZ gs.length) gs la) e:=fun e=>by
      rw[A.out.2.2 e,eb.out,<-O.out,wl]
     have bR:=qh (lN ac.out aA.out A.out.2.1 cT);have fe:Y<=144:=by
      have h1:=A.out.1;rw[cC,qg]at h1;have h2:min i gs.length*la.length<=24*6:=qK (by have:=O.out;omega) S.out;omega
     have ef:Hid (∀ t∈D,Pl.RB 1000000 t.2):=qh fun t Z=>by
      rw[<-Pl.coef_canon A.out.2.1 Z,A.out.2.2];exact(jV (by rw[O.out];exact ap) S.out b1.out b2.out i _).mono (by omega)
     have ec:Hid (∀ t∈D,t.1.length<=12):=qh fun t Z=>by rw[A.out.2.1.len t Z];omega
     have ea:=qh a2;clear cT A hX C aa
     go_wp2_with fail
     refine d1.out.mono ?_;rintro e g9 ⟨bf,rfl,cA,I⟩;have al:=cs.ext I;replace x0:=I.cell x0;replace x1:=I.cell x1;have dl:=qh (IZ (vars:=(j:Int)) (a4.sl.ext I) ef.out ec.out (by omega));replace m:=qh (ea.out.trans I);have bW:=qh cA;clear d1 cs cA I;cases bf with
     | false =>
      have M:Hid (avG (j:Int) gs ((some la).map AC)=(0,[],2)):=qh (by
       rcases bR.out with⟨h1,_⟩|⟨_,h2⟩
       · have:=bW.out.2 h1;cases this
       · exact h2)
      go_wp2_with(refine Aa (vs:=Ah 0 none 0 0) rfl rfl rfl rfl rfl Ad al rfl (Am _ _ _ _) ?_;intro w9 J H)
      refine py (Ao rfl Ad rfl rfl J) rfl ?_;have P:=HR.out.symm.trans M.out;subst P;exact⟨none,0,0,rfl,m.out.grownR H (by omega),TmO.nil _ _⟩
     | true =>
      have eg:=qh (HR.out.symm.trans (show avG (j:Int) gs ((some la).map AC)=((j:Int),wrU D,0) by
       rcases bR.out with⟨_,h2⟩|⟨h1,_⟩
       · exact h2
       · exact absurd (bW.out.1 rfl) h1))
      go_wp2_with fail
      refine dl.out.mono ?_;rintro e ga ⟨a8,n8,c8,rfl,bt,eo⟩;have bv:=al.ext bt;have ff:BS (j:Int) a8 n8 c8 = .agg #[.int .i64 (j:Int),.slice a8 n8 c8]:=rfl;rw[ff];have bl:(Ah (j:Int) a8 n8 c8).toArray=#[.int .i64 (j:Int),.slice a8 n8 c8]:=rfl;clear dl al
      go_wp2_with(refine Aa (vs:=Ah (j:Int) a8 n8 c8) rfl rfl rfl rfl rfl Ad bv rfl (Am _ _ _ _) ?_;intro w9 J H)
      refine py (Ao rfl Ad rfl rfl J) rfl ?_;have fk:=eg.out;subst fk;exact⟨a8,n8,c8,rfl,(m.out.trans bt).grownR H (by omega),(eo.mono m.out.size).keptU bv (by decide) (by decide) H⟩
end Go.Proofs.YtlbmnokpiilfpaaGreatDoor
