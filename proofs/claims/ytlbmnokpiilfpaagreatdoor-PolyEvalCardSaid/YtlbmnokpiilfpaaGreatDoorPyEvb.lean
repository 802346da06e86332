/- Part PyEvb. -/
import Derived.Test.YtlbmnokpiilfpaaGreatDoorPy14

set_option linter.all false
set_option maxRecDepth 100000
set_option maxHeartbeats 100000000
namespace Go.Proofs.YtlbmnokpiilfpaaGreatDoor
open Go Go.RowKit
variable {va:Int} {a b:Nat} {q x:Rat}
def D10(k:Nat):Nat:=10^k
theorem SP(h:a<=b):10^a<=D10 b:=oT (by omega) h
structure J3(q:Rat):Prop where
 n:q.num.natAbs<10^12
 d:q.den<10^10
 m:q.den=1\/q.num.natAbs<10^10
theorem J3.of(h:(txt q).length<=12):J3 q:=by
 have h1:=Ga q.num.natAbs;have h2:(Lib.decDigits q.num.natAbs).length<=(Lib.itoa q.num).length:=by
  unfold Lib.itoa;split
  · simp
  · have e:q.num.toNat=q.num.natAbs:=by omega
    simp[e]
 have h0:0<(Lib.decDigits q.num.natAbs).length:=List.length_pos_iff.2 (W.dec_ne _);have c:∀ {x a b:Nat},x<10^a->a<=b->x<10^b:=fun g d=>ph g (oT (by omega) d);unfold txt at h;rw[iD]at h;by_cases f:q.den=1
 · exact⟨c h1 (by omega),by rw[f];decide,Or.inl f⟩
 · have h3:=Ga q.den;have h4:0<(Lib.decDigits q.den).length:=List.length_pos_iff.2 (W.dec_ne _);rw[pf f,io]at h;exact⟨c h1 (by omega),c h3 (by omega),Or.inr (c h1 (by omega))⟩
def sgf(g:Nat->Nat):Nat->Nat
 | 0=>0
 | k+1=>sgf g k+g k
theorem T6(h:J3 x){g e:Nat}(he:e<=g):(Pl.pwz x g e).natAbs<=10^(10*g+2*e):=by
 unfold Pl.pwz;rw[iq,Int.natAbs_pow,Int.natAbs_pow,pe];rcases h.m with a|b
 · rw[a,Nat.one_pow,px];refine oS (iV (jc h.n) e) ?_;rw[<-jO];exact oT (by omega) (by omega)
 · refine oS (iu (iV (jc b) e) (iV (jc h.d) (g-e))) ?_;rw[<-jO,<-jO,<-iW];exact oT (by omega) (by omega)
section
variable {d:Nat} {g:Nat->Nat} {pt:List Rat} {t:Pl.Tm} {l:List Pl.Tm}
theorem PP(a:∀ v,v<pt.length->J3 (pt.getD v 0)):∀ k,k<=pt.length->(∀ v,v<k->(t.1.getD v 0).toNat<=g v)->(Pl.zev d g pt t k).natAbs<=(Pl.zsc t.2 d).natAbs*10^(10*sgf g k+2*sgf (fun v=>(t.1.getD v 0).toNat) k)
 | 0,_,_=>by
  show(Pl.zsc t.2 d).natAbs<=(Pl.zsc t.2 d).natAbs*1;omega
 | k+1,hk,he=>by
  unfold Pl.zev;rw[iq];refine oS (iu (PP a k (by omega) fun v b=>he v (by omega)) (T6 (a k (by omega)) (he k (by omega)))) ?_;rw[iQ,<-iW];refine kZ (gR _ (gR _ ?_));show _=10*(sgf g k+g k)+2*(sgf (fun v=>(t.1.getD v 0).toNat) k+(t.1.getD k 0).toNat);omega
theorem PQ(a:∀ v,v<pt.length->J3 (pt.getD v 0)):∀ k,k<=pt.length->Pl.dev d g pt k<=d*10^(10*sgf g k)
 | 0,_=>by
  show d<=d*1;omega
 | k+1,hk=>by
  unfold Pl.dev;refine oS (iu (PQ a k (by omega)) (iV (jc (a k (by omega)).d) (g k))) ?_;rw[iQ,<-jO,<-iW];refine kZ (gR _ (gR _ ?_));show _=10*(sgf g k+g k);omega
theorem OL{f:Nat->Nat}{B:Nat}(h:∀ v,f v<=B):∀ k,sgf f k<=k*B
 | 0=>by simp[sgf]
 | k+1=>by
  have h1:=OL h k;have h2:=h k;rw[Nat.succ_mul];unfold sgf;omega
theorem Nl{B:Nat}(f:Pl.Tm->Int):∀ (l:List Pl.Tm),(∀ t∈l,(f t).natAbs<=B)->(l.foldr (fun t a=>f t+a) 0).natAbs<=l.length*B
 | [],_=>by simp
 | t :: r,h=>by
  have h1:=Nl f r fun s b=>h s (by simp[b]);have h2:=h t (by simp);rw[mZ,io,Nat.succ_mul];omega
end
theorem V9{ts:List Tx}{l:List Pl.Tm}{pt:List Rat}(h:rdP va ts=some l)(J:Bf ts 8 12)(p:∀ q∈pt,J3 q)(T:pt.length<=6):EvB l pt/\Da (Pl.evq pt l):=by
 have C:=Dd h;have h5:l.length<=8:=by rw[C];exact J.1
 have I:=NV h (k:=12) fun t c=>(J.2 t c).1;have o:=Dm h
 have j:∀ v,v<pt.length->J3 (pt.getD v 0):=fun v i=>by
  rw[gqq,oN i];exact p _ (iF _)
 have M:∀ t∈l,∀ v,(t.1.getD v 0).toNat<=24:=fun t c v=>by
  have h1:=(F9 (v:=v) (o t c).2).1;have h2:=Gc h t c;have h3:=GY fun x p=>((o t c).2 x p).1;rcases gQ v t.1.length with i|i
  · have h4:=h3.2 _ (iF i);rw[gqq,oN i,pg];omega
  · rw[gqq,pu i];simp
 have E:∀ v,Pl.grt l v<=24:=fun v=>NO l 0 (oY _) fun t c=>M t c v
 have N:∀ k,k<=pt.length->sgf (Pl.grt l) k<=144:=fun k f=>by
  have h1:=OL E k;have h3:k*24<=6*24:=oO _ (by omega);omega
 have F:∀ t∈l,∀ k,k<=pt.length->sgf (fun v=>(t.1.getD v 0).toNat) k<=144:=fun t c k f=>by
  have h1:=OL (fun v=>M t c v) k;have h3:k*24<=6*24:=oO _ (by omega);omega
 have A:∀ t∈l,t.2.num.natAbs<10^12/\t.2.den<P2 40:=fun t c=>by
  obtain⟨m,G,Q⟩:=Eq h c;have h1:=Du (Bp Q).1;have h2:=Lq t.2;have h3:(txt t.2).length<=12:=by rw[<-h1];exact(J.2 m G).1
  have h4:10^(txt t.2).length<=10^12:=oT (by omega) h3;have h5:10^12<=P2 40:=by unfold P2;decide
  exact⟨by omega,by omega⟩
 obtain⟨L,r⟩:∃ L,Bi (l.map (·.2))=L:=⟨_,rfl⟩
 have z:∀ k,Bi ((l.map (·.2)).take k)<P2 321:=fun k=>by
  have h1:=MA (l:=(l.map (·.2)).take k) (b:=40) fun q s=>by
   obtain⟨t,c,rfl⟩:=gT.1 (iZ s);exact(A t c).2
  refine Aj h1 ?_;have:((l.map (·.2)).take k).length<=8:=by rw[gO,iM];omega
  omega
 have y:L<P2 321:=by
  have:=z (l.map (·.2)).length;rw[kw,r]at this;exact this
 have D:∀ t∈l,∀ k,k<=pt.length->(Pl.zev L (Pl.grt l) pt t k).natAbs<=10^12*P2 321*D10 1728:=fun t c k f=>by
  refine oS (PP j k f fun v _=>Pl.le_grt v c) (iu ?_ (SP ?_))
  · unfold Pl.zsc;rw[iq];exact iu (jc (A t c).1) (oS (gM _ _) (jc y))
  · have h1:=N k f;have h2:=F t c k f;omega
 have R:(Pl.zsum (fun t=>Pl.zev L (Pl.grt l) pt t pt.length) l).natAbs<=8*(10^12*P2 321*D10 1728):=by
  unfold Pl.zsum;rw[Pl.zsum_foldl,Int.zero_add];exact oS (Nl _ l fun t c=>D t c _ (lrf _)) (oO _ h5)
 have B:∀ k,k<=pt.length->Pl.dev L (Pl.grt l) pt k<=P2 321*D10 1440:=fun k f =>
  oS (PQ j k f) (iu (jc y) (SP (by have:=N k f;omega)))
 have U:8*(10^12*P2 321*D10 1728)<P2 8064:=by unfold P2 D10;decide +kernel
 have V:P2 321*D10 1440<P2 8064:=by unfold P2 D10;decide +kernel
 have O:∀ x e,x<10^12->e<=24->x^e<P2 1200:=fun x e p he=>by
  refine oR (iV (jc p) e) ?_;rw[<-jO];refine oR (m:=10^288) (oT (by omega) (by omega)) ?_;unfold P2;decide +kernel
 have K:∀ q∈pt,Pl.RB 40 q:=fun q s=>by
  have S:10^12<=P2 40:=by unfold P2;decide
  have h1:=(p q s).n;have h2:=(p q s).d;exact⟨by omega,by omega⟩
 have P:∀ t∈l,t.2.den∣L:=fun t c=>by
  rw[<-r];exact F6 (gT.2 ⟨t,c,rfl⟩)
 have w:L≠0:=by rw[<-r];exact Nat.ne_of_gt (BU _)
 refine⟨⟨fun t c=>(I t c).mono (by omega),fun q s=>(K q s).mono (by omega),fun t c=>(o t c).2,fun k=>Aj (z k) (by omega),fun v i e he=>O _ _ (j v i).n (oS he (E v)),fun v i e he=>O _ _ (by have:=(j v i).d;omega) (oS he (E v)),?_,?_,?_⟩,?_⟩
 · intro t c k f;rw[r];have:=D t c k f;exact Aj (a:=8064) (by omega) (by omega)
 · intro k f;rw[r];have:=B k f;exact Aj (a:=8064) (by omega) (by omega)
 · rw[r];exact Aj (a:=8064) (by omega) (by omega)
 · have he:=Pl.ev_done (pt:=pt) w P;have H:=Pl.dev_ne (g:=Pl.grt l) (pt:=pt) w pt.length;have G:=Pl.mkRat_le (n:=Pl.zsum (fun t=>Pl.zev L (Pl.grt l) pt t pt.length) l) H;rw[he]at G;have:=B _ (lrf pt.length);exact T7 (by omega) (by omega)
end Go.Proofs.YtlbmnokpiilfpaaGreatDoor
