/- Part PcCpb. -/
import Derived.Test.YtidknnkgdniopaaGreatDoorPcNu6
import Derived.Test.YtidknnkgdniopaaGreatDoorPc15
set_option linter.all false
set_option maxRecDepth 100000
set_option maxHeartbeats 0
namespace Go.Proofs.YtidknnkgdniopaaGreatDoor
open Go Go.RowKit
variable {e:List Int} {k n v:Nat} {q:Rat}
namespace Pl
def cst(f:Nat->Nat)(v e:Nat):Nat->Nat:=fun i=>if i<v then f i else if i=v then e else 0
structure CW(ps:List (List Tm))(P:List Tm)(F:(Nat->Nat)->Tm->Prop):Prop where
 six:∀c u,F c u->u.1.length=6
 leaf:∀t∈P,F (cst (fun i=>(t.1.getD i 0).toNat) ps.length 0) (List.replicate 6 0,t.2)
 step:∀i,i<ps.length->∀c k,c i=k+1->∀u,F c u->∀s∈ps.getD i [],F (fun j=>if j=i then k else c j) (plE u.1 s.1,u.2*s.2)
section
variable {ps:List (List Tm)} {P:List Tm} {F:(Nat->Nat)->Tm->Prop}
theorem CW.pwF(W:CW ps P F){i:Nat}(hi:i<ps.length):∀(k e:Nat) (c:Nat->Nat),c i=e+k->∀y,F c y->∀x∈powT (ps.getD i []) k,F (fun j=>if j=i then e else c j) (plE x.1 y.1,x.2*y.2)
|0,e,c,hc,y,hy,x,hx=>by (rw[powT_zero]at hx;rw[gK.1 hx];show F _ (plE (List.replicate 6 0) y.1,1*y.2);rw[plE_zero (W.six c y hy),mJ];have:(fun j=>if j=i then e else c j)=c:=by funext j;by_cases h:j=i;{rw[gX h,h,hc];rfl};rw[gQ h]);rw[this];exact hy
|k+1,e,c,hc,y,hy,x,hx=>by (obtain⟨a,b,hx⟩:=j8.1 hx;obtain⟨s,l,rfl⟩:=gY.1 hx;have h1:=W.step i hi c (e+k) (by rw[hc];omega) y hy s l;have h2:=W.pwF hi k e _ (by rw[gX rfl]) _ h1 a b;have d:(fun j=>if j=i then e else if j=i then e+k else c j)=fun j=>if j=i then e else c j:=by funext j;by_cases h:j=i;{rw[gX h,gX h]};rw[gQ h,gQ h,gQ h]);(rw[d]at h2;have f:plE (plE a.1 s.1) y.1=plE a.1 (plE y.1 s.1):=by rw[Iv,plE_comm s.1 y.1]);(have g:a.2*s.2*y.2=a.2*(y.2*s.2):=by grind);show F _ (plE (plE a.1 s.1) y.1,a.2*s.2*y.2);rw[f,g];exact h2
theorem N9{f:Nat->Nat}{e:Nat}:(fun j=>if j=v then e else cst f (v+1) 0 j)=cst f v e:=by funext j;unfold cst;by_cases h:j=v;{subst h;rw[gX rfl,gQ (by omega),gX rfl]};rw[gQ h];by_cases h2:j<v;{rw[gX (by omega),gX h2]};rw[gQ (by omega),gQ h2,gQ h];split<;>rfl
theorem Gt{f g:Nat->Nat}{e:Nat}(h:∀i,i<v->f i=g i):cst f v e=cst g v e:=by funext j;unfold cst;by_cases h2:j<v;{rw[gX h2,gX h2,h j h2]};rw[gQ h2,gQ h2]
def exf(t:Tm):Nat->Nat:=fun i=>(t.1.getD i 0).toNat
theorem CW.cmF(W:CW ps P F){t:Tm}(c:t∈P):∀(a:List (List Tm)) (v:Nat),v+a.length=ps.length->(∀i,i<a.length->ps.getD (v+i) []=a.getD i [])->∀u∈cmpS a v [t],F (cst (exf t) v 0) u
|[],v,hv,_,u,hu=>by obtain⟨s,hs,rfl⟩:=gY.1 hu;rw[gK.1 hs];have h1:=W.leaf t c;rw[<-hv]at h1;exact h1
|p::a,v,hv,hq,u,hu=>by (obtain⟨g,b,hu⟩:=j8.1 hu;rw[gK.1 b]at hu;obtain⟨x,d,hu⟩:=j8.1 hu;obtain⟨y,e,rfl⟩:=gY.1 hu;have h1:=W.cmF c a (v+1) (by simp at hv;omega) (fun i f=>by have:=hq (i+1) (by simp;omega);rw[show v+1+i=v+(i+1) by omega,this];rfl) y e;have hp:ps.getD v []=p:=by have:=hq 0 (by simp);simpa using this);have h2:=W.pwF (i:=v) (by simp at hv;omega) (exf t v) 0 (cst (exf t) (v+1) 0) (by unfold cst;rw[gX (by omega)];omega) y h1 x (by rw[hp];exact d);rw[N9]at h2;exact h2
theorem Lg{qs:List (List Tm)}{v:Nat}{u:Tm}:∀{l:List Tm},u∈cmpS qs v l->∃t∈l,u∈cmpS qs v [t]
|[],h=>by rw[cmpS_nil]at h;cases h
|t::l,h=>by rw[cmpS_cons]at h;rcases iA.1 h with h|h;{exact⟨t,by simp,h⟩};obtain⟨s,hs,h⟩:=Lg h;exact⟨s,by simp[hs],h⟩
variable {p:List Tm} {qs:List (List Tm)} {v:Nat} {l:List Tm} {f:Nat->Nat}
structure Grp(P:List Tm)(v:Nat)(f:Nat->Nat)(l:List Tm):Prop where
 sub:∀t∈l,t∈P
 pre:∀t∈l,∀i,i<v->exf t i=f i
 ln:l.length<=4
structure Prt(ps:List (List Tm))(v:Nat)(qs:List (List Tm)):Prop where
 ln:v+qs.length=ps.length
 at_:∀i,i<qs.length->ps.getD (v+i) []=qs.getD i []
theorem Prt.tl(h:Prt ps v (p::qs)):Prt ps (v+1) qs:=⟨by have:=h.ln;simp at this;omega,fun i a=>by have:=h.at_ (i+1) (by simp;omega);rw[show v+1+i=v+(i+1) by omega,this];rfl⟩
theorem Prt.hd(h:Prt ps v (p::qs)):v<ps.length/\ps.getD v []=p:=⟨by have:=h.ln;simp at this;omega,by have:=h.at_ 0 (by simp);simpa using this⟩
theorem CW.hrF(W:CW ps P F)(a:Prt ps v (p::qs))(b:Grp P v f l)(e:Nat):∀u∈hrn p qs v l e,F (cst f v e) u:=by intro u hu;obtain⟨t,c,hu⟩:=j8.1 hu;by_cases he:e<=(t.1.getD v 0).toNat;{rw[gX he]at hu;obtain⟨x,g,hu⟩:=j8.1 hu;obtain⟨y,j,rfl⟩:=gY.1 hu;have h1:=W.cmF (b.sub t c) qs (v+1) a.tl.ln a.tl.at_ y j;have h2:=W.pwF (i:=v) a.hd.1 ((t.1.getD v 0).toNat-e) e (cst (exf t) (v+1) 0) (by unfold cst;rw[gX (by omega)];unfold exf;omega) y h1 x (by rw[a.hd.2];exact g);rw[N9,Gt (fun i d=>b.pre t c i d)]at h2;exact h2};rw[gQ he]at hu;cases hu
theorem CW.prF(W:CW ps P F)(a:Prt ps v (p::qs))(c:Grp P v f l)(e:Nat):∀u∈hrn p qs v l (e+1),∀s∈p,F (cst f v e) (plE u.1 s.1,u.2*s.2):=by (intro u hu s d;have h1:=W.step v a.hd.1 (cst f v (e+1)) e (by unfold cst;rw[gQ (by omega),gX rfl]) u (W.hrF a c (e+1) u hu) s (by rw[a.hd.2];exact d);have b:(fun j=>if j=v then e else cst f v (e+1) j)=cst f v e:=by funext j;unfold cst;by_cases h:j=v;{rw[gX h,gQ (by omega),gX h]};rw[gQ h,gQ h,gQ h]);rw[b]at h1;exact h1
theorem CW.grF(W:CW ps P F)(c:Prt ps v (p::qs))(b:Grp P v f l)(e:Nat):∀u∈cmpS qs (v+1) (grpS v l e),F (cst f v e) u:=by (intro u hu;obtain⟨t,a,hu⟩:=Lg hu;obtain⟨a,he⟩:=lG.1 a;have h1:=W.cmF (b.sub t a) qs (v+1) c.tl.ln c.tl.at_ u hu;have d:cst (exf t) (v+1) 0=cst f v e:=by rw[<-Gt (fun i g=>b.pre t a i g),<-N9 (f:=exf t) (v:=v) (e:=e)];funext j;by_cases h:j=v;{rw[gX h,h];unfold cst;rw[gX (by omega)];exact mc.1 he};rw[gQ h]);rw[d]at h1;exact h1
theorem Grp.next(h:Grp P v f l)(e:Nat):Grp P (v+1) (fun i=>if i<v then f i else e) (grpS v l e) := ⟨fun t a=>h.sub t (lG.1 a).1,fun t a i b=>by obtain⟨a,he⟩:=lG.1 a;by_cases h1:i<v;{simp only[gX h1];exact h.pre t a i h1};(have:i=v:=by omega);subst this;simp only[gQ h1];exact mc.1 he,gH (OW v l e) h.ln⟩
def smN(f:Nat->Nat)(v:Nat):Nat->Nat
| 0=>0
| n+1=>f v+smN f (v+1) n
theorem smN_app(f:Nat->Nat):∀(n v m:Nat),smN f v (n+m)=smN f v n+smN f (v+n) m
|0,v,m=>by rw[iy];show _=0+smN f v m;omega
|n+1,v,m=>by rw[show n+1+m=n+m+1 by omega];show f v+smN f (v+1) (n+m)=f v+smN f (v+1) n+_;rw[smN_app f n (v+1) m,show v+1+n=v+(n+1) by omega];omega
theorem smN_le(f:Nat->Nat){v n:Nat}(h:v+n<=6):smN f v n<=smN f 0 6:=by have h1:=smN_app f v 0 (6-v);have h2:=smN_app f n v (6-v-n);rw[show v+(6-v)=6 by omega,iy]at h1;rw[show n+(6-v-n)=6-v by omega]at h2;omega
theorem Oa{t:Tm}:∀(a:List (List Tm)) (v:Nat),(∀q∈a,q.length<=3)->(cmpS a v [t]).length<=3^smN (exf t) v a.length
|[],v,_=>by show 1<=1;omega
|p::a,v,h=>by have h1:=Oa (t:=t) a (v+1) fun q b=>h q (by simp[b]);show([t].flatMap fun t=>prodT (powT p (t.1.getD v 0).toNat) (cmpS a (v+1) [t])).length<=3^(exf t v+smN (exf t) (v+1) a.length);rw[jI,List.flatMap_nil,jo,BW,EH,jz];exact iz (jN (h p (by simp)) _) h1
theorem pow_hi(h:k<=n):3^k<=3^n:=gW (by omega) h
theorem flat_len{a c:Type}{g:a->List c}{B:Nat}:∀{l:List a},(∀t∈l,(g t).length<=B)->(l.flatMap g).length<=l.length*B
|[],_=>by simp
|t::l,h=>by rw[jI,iI,iJ,iV];have h1:=h t (by simp);have h2:=flat_len (g:=g) (B:=B) (l:=l) fun s b=>h s (by simp[b]);omega
theorem Sk(h3:∀q∈p::qs,q.length<=3)(b:∀t∈l,smN (exf t) v (qs.length+1)<=24)(e:Nat):(hrn p qs v l e).length<=l.length*3^24:=by refine flat_len fun t c=>?_;by_cases he:e<=(t.1.getD v 0).toNat;{rw[gX he,BW,EH];refine gH (iz (gH (jN (h3 p (by simp)) _) (pow_hi (Nat.sub_le _ _))) (Oa qs (v+1) fun q a=>h3 q (by simp[a]))) ?_;rw[<-jz];exact pow_hi (b t c)};rw[gQ he];exact gP _
theorem Lh(h3:∀q∈qs,q.length<=3):∀{l:List Tm},(∀t∈l,smN (exf t) v qs.length<=24)->(cmpS qs v l).length<=l.length*3^24
|[],_=>by rw[cmpS_nil];simp
|t::l,hs=>by rw[cmpS_cons,iI,iJ,iV];have h1:=gH (Oa (t:=t) qs v h3) (pow_hi (hs t (by simp)));have h2:=Lh h3 (l:=l) fun s h=>hs s (by simp[h]);omega
theorem P2_43:4*3^24<=P2 43:=by unfold P2;decide
theorem QB.at_{D Y:Nat}{e:List Int}{q:Rat}:∀{L:List Tm},(∀u∈L,u.1=e->QB D Y (u.2*q))->QB D (L.length*Y) (coef L e*q)
|[],_=>by show QB D (0*Y) (0*q);rw[Rat.zero_mul];exact QB.zero _ _
|t::r,h=>by (have h1:QB D Y ((if t.1=e then t.2 else 0)*q):=by split;{rename_i b;exact h t (by simp) b};rw[Rat.zero_mul];exact QB.zero _ _);(have h2:=QB.add h1 (QB.at_ (L:=r) fun s c=>h s (by simp[c]));have a:coef (t::r) e*q=(if t.1=e then t.2 else 0)*q+coef r e*q:=by show((if t.1=e then t.2 else 0)+coef r e)*q=_;rw[Rat.add_mul]);rw[a];exact h2.mono (by rw[iJ,iV];omega)
structure CQ(ps:List (List Tm))(P:List Tm)(F:(Nat->Nat)->Tm->Prop)(A:(Nat->Nat)->List Int->Nat):Prop extends CW ps P F where
 inv:∀c u,F c u->InV 3 u.1/\u.1.sum<=24
 qb:∀c u,F c u->QB (A c u.1) (P2 2332) u.2/\0<A c u.1/\A c u.1<P2 2073
 lam:∀c,∃L,0<L/\L<P2 9600/\∀u,F c u->A c u.1∣L
structure FL(F:(Nat->Nat)->Tm->Prop)(c:Nat->Nat)(L:List Tm):Prop where
 el:∀u∈L,F c u
 ln:L.length<=P2 43
end
end Pl
def YE:List (List Int):=(List.range 25).flatMap fun(a:Nat)=>(List.range (25-a)).flatMap fun(b:Nat)=>(List.range (25-a-b)).map fun(c:Nat)=>[(a:Int),(b:Int),(c:Int),0,0,0]
theorem VH:YE.length=2925:=by decide +kernel
theorem VI(hi:InV 3 e)(m:e.sum<=24):e∈YE:=by obtain⟨h6,i,hp⟩:=hi;match e,h6 with|[a,b,c,d,f,g],_=>(have n:d=0/\f=0/\g=0:=by simp[AF]at hp;omega);obtain⟨rfl,rfl,rfl⟩:=n;have j:=i a (by simp);have k:=i b (by simp);have l:=i c (by simp);simp at m;refine j8.2 ⟨a.toNat,kw.2 (by omega),j8.2 ⟨b.toNat,kw.2 (by omega),gY.2 ⟨c.toNat,kw.2 (by omega),?_⟩⟩⟩;rw[Int.toNat_of_nonneg j,Int.toNat_of_nonneg k,Int.toNat_of_nonneg l]
section
variable {ps:List (List Pl.Tm)} {P:List Pl.Tm} {F:(Nat->Nat)->Pl.Tm->Prop} {A:(Nat->Nat)->List Int->Nat} {c:Nat->Nat} {L out:List Pl.Tm}
open Pl in
theorem FL.qb(W:CQ ps P F A)(h:FL F c L){e:List Int}(he:coef L e≠0):QB (A c e) (P2 2375) (coef L e)/\0<A c e/\A c e<P2 2073/\InV 3 e/\e.sum<=24:=by obtain⟨u,hu,rfl⟩:=coef_present he;have h1:=W.qb c u (h.el u hu);(have h2:=QB.at_ (D:=A c u.1) (Y:=P2 2332) (e:=u.1) (q:=1) (L:=L) fun s a e=>by rw[lZ,<-e];exact(W.qb c s (h.el s a)).1);rw[lZ]at h2;refine⟨h2.mono ?_,h1.2.1,h1.2.2,W.inv c u (h.el u hu)⟩;rw[show 2375=43+2332 by rfl,AH];exact gG _ h.ln
theorem FL.rb(W:Pl.CQ ps P F A)(h:Pl.FL F c L)(e:List Int):Pl.RB 2400 (Pl.coef L e):=by by_cases he:Pl.coef L e=0;{rw[he];exact Pl.RB.zero (by omega)};obtain⟨h1,h2,h3,_⟩:=FL.qb W h he;exact h1.rb h2 (Ae h3 (by omega)) (BP (by omega))
structure OL(F:(Nat->Nat)->Pl.Tm->Prop)(A:(Nat->Nat)->List Int->Nat)(c:Nat->Nat)(L out:List Pl.Tm):Prop where
 len:out.length<=2925
 qb:∀t∈out,Pl.QB (A c t.1) (P2 2375) t.2/\0<A c t.1/\A c t.1<P2 2073
 iv:∀t∈out,InV 3 t.1/\t.1.sum<=24
 co:∀t∈out,Pl.coef L t.1=t.2/\∃u∈L,u.1=t.1
theorem OL.of(W:Pl.CQ ps P F A)(h:Pl.FL F c L)(f:Pl.Nrm out)(g:∀x,Pl.coef out x=Pl.coef L x):OL F A c L out:=by (have b:∀t∈out,Pl.coef L t.1=t.2/\Pl.coef L t.1≠0:=fun t a=>by have h1:=Dn f g a;exact⟨h1,by rw[h1];exact f.nz t a⟩);have d:=fun t a=>FL.qb W h (b t a).2;refine⟨?_,fun t a=>?_,fun t a=>(d t a).2.2.2,fun t a=>⟨(b t a).1,Pl.coef_present (b t a).2⟩⟩;{have h1:=Pl.nodup_le (out.map (·.1)) YE f.nodup (fun e he=>by obtain⟨t,a,rfl⟩:=gY.1 he;exact VI (d t a).2.2.2.1 (d t a).2.2.2.2);rw[iX,VH]at h1;exact h1};have:=d t a;rw[(b t a).1]at this;exact⟨this.1,this.2.1,this.2.2.1⟩
theorem OL.rb(h:OL F A c L out):∀t∈out,Pl.RB 2400 t.2:=fun t a=>(h.qb t a).1.rb (h.qb t a).2.1 (Ae (h.qb t a).2.2 (by omega)) (BP (by omega))
theorem TU(h:InV 3 e/\e.sum<=24):e.length=6/\∀x∈e,0<=x/\x<=24:=sbe h
theorem OL.small(h:OL F A c L out):Bg out:=fun t a=>⟨(TU (h.iv t a)).1,fun x b=>by have:=(TU (h.iv t a)).2 x b;omega⟩
theorem Xu{D m:Nat}(h:Pl.QB D (n*P2 2375) q)(c:n<=P2 m)(d:m<=24)(a:0<D)(b:D<P2 2073):Pl.RB 2400 q:=by refine h.rb a (Ae b (by omega)) (gO (gG _ c) ?_);rw[<-AH];exact BP (by omega)
theorem OL.col{i d:List Pl.Tm}(h:OL F A c L out)(h2:OL F A c i d):Xi out d:=by (have f:∀t∈out++d,Pl.QB (A c t.1) (P2 2375) t.2/\0<A c t.1/\A c t.1<P2 2073:=fun t a=>(iA.1 a).elim (h.qb t) (h2.qb t);have j:(out++d).length<=5850:=by rw[iI];have:=h.len;have:=h2.len;omega);(refine⟨by omega,fun p s e x=>?_,fun t a=>(iA.1 a).elim (h.rb t) (h2.rb t)⟩;have hp:∀t∈p,t∈out++d:=fun t a=>by rw[<-e];simp[a]);by_cases g:Pl.coef p x=0;{rw[g];exact Pl.RB.zero (by omega)};obtain⟨u,hu,rfl⟩:=Pl.coef_present g;have b:=f u (hp u hu);(have h3:=Pl.QB.at_ (D:=A c u.1) (Y:=P2 2375) (e:=u.1) (q:=1) (L:=p) fun t a e=>by rw[lZ,<-e];exact(f t (hp t a)).1);(rw[lZ]at h3;refine Xu h3 (m:=15) ?_ (by omega) b.2.1 b.2.2;have h4:p.length<=5850:=by have:=iT List.length e;rw[iI]at this;omega);exact gH h4 (by unfold P2;decide)
structure PtB(p:List Pl.Tm):Prop where
 ln:p.length<=3
 rb:∀s∈p,Pl.RB 1000 s.2
 ex:Bg p
 lc:Bc (p.map (·.2))<P2 9600
theorem OL.mul{c':Nat->Nat}{p:List Pl.Tm}(W:Pl.CQ ps P F A)(h:OL F A c L out)(hF:Pl.FL F c L)(hp:PtB p)(w:∀u∈L,∀s∈p,F c' (Pl.plE u.1 s.1,u.2*s.2)):Dx out p:=by (have n:∀t∈out,∀s∈p,Pl.QB (A c' (Pl.plE t.1 s.1)) (P2 2375) (t.2*s.2)/\0<A c' (Pl.plE t.1 s.1)/\A c' (Pl.plE t.1 s.1)<P2 2073/\InV 3 (Pl.plE t.1 s.1)/\(Pl.plE t.1 s.1).sum<=24:=fun t f s d=>by obtain⟨h1,u,hu,j⟩:=h.co t f;have h2:=w u hu s d;rw[j]at h2;(have h3:=Pl.QB.at_ (D:=A c' (Pl.plE t.1 s.1)) (Y:=P2 2332) (e:=t.1) (q:=s.2) (L:=L) fun x k e=>by have h4:=(W.qb c' _ (w x k s d)).1;rw[e]at h4;exact h4);rw[h1]at h3;refine⟨h3.mono ?_,(W.qb c' _ h2).2.1,(W.qb c' _ h2).2.2,W.inv c' _ h2⟩;rw[show 2375=43+2332 by rfl,AH];exact gG _ hF.ln);(have v:(Pl.prodT out p).length<=8775:=by rw[BW];exact iz h.len hp.ln);(have i:∀u∈Pl.prodT out p,Pl.QB (A c' u.1) (P2 2375) u.2/\0<A c' u.1/\A c' u.1<P2 2073/\InV 3 u.1/\u.1.sum<=24:=fun u hu=>by obtain⟨t,f,hu⟩:=j8.1 hu;obtain⟨s,d,rfl⟩:=gY.1 hu;exact n t f s d);(have g:∀a b,a++b=Pl.prodT out p->∀e,Pl.RB 2400 (Pl.coef a e):=fun a b e x=>by (have r:∀t∈a,t∈Pl.prodT out p:=fun t f=>by rw[<-e];simp[f]);by_cases k:Pl.coef a x=0;{rw[k];exact Pl.RB.zero (by omega)};obtain⟨u,hu,rfl⟩:=Pl.coef_present k;have l:=i u (r u hu);(have h3:=Pl.QB.at_ (D:=A c' u.1) (Y:=P2 2375) (e:=u.1) (q:=1) (L:=a) fun t f e=>by rw[lZ,<-e];exact(i t (r t f)).1);(rw[lZ]at h3;refine Xu h3 (m:=16) ?_ (by omega) l.2.1 l.2.2.1;have h4:a.length<=8775:=by have:=iT List.length e;rw[iI]at this;omega);exact gH h4 (by unfold P2;decide));refine Dx.ofG h.rb hp.rb h.small hp.ex ?_ hp.lc (by have:=h.len;omega) (by have:=hp.ln;omega) g (fun t f s d=>(n t f s d).1.rb (n t f s d).2.1 (Ae (n t f s d).2.2.1 (by omega)) (BP (by omega))) ⟨fun e he=>⟨?_,?_⟩,by omega⟩;{obtain⟨X,y,z,B⟩:=W.lam c;refine gO (m7 y (Pl.lcmD_min fun q o=>?_)) z;obtain⟨t,f,rfl⟩:=gY.1 o;obtain⟨_,u,hu,j⟩:=h.co t f;refine li ((h.qb t f).1.parts (h.qb t f).2.1).2 ?_;rw[<-j];exact B u (hF.el u hu)};{have:=g (Pl.prodT out p) [] (by simp) e;exact MV (Ae this.1 (by omega)) (Ae this.2 (by omega))};obtain⟨u,hu,rfl⟩:=Pl.coef_present he;have h3:=TU (i u hu).2.2.2;exact⟨h3.1,fun x k=>by have:=h3.2 x k;omega⟩
open Pl in
theorem Pl.Prt.mem{qs:List (List Tm)}(h:Prt ps v qs){q:List Tm}(b:q∈qs):q∈ps:=by (obtain⟨i,a,rfl⟩:=jt b;have h1:=h.at_ i a;have h2:v+i<ps.length:=by have:=h.ln;omega);rw[gqq,gD h2,ib,gqq,gD a,ib]at h1;rw[<-h1];exact il _
structure PtP(P:List Pl.Tm):Prop where
 ex:∀t∈P,t.1.length=6/\∀x∈t.1,0<=x/\x<=1048576
 sm:∀t∈P,Pl.smN (Pl.exf t) 0 6<=24
theorem YF:4*3^24*3<=P2 43:=by unfold P2;decide
open Pl in
theorem VJ(W:CQ ps P F A)(b:∀q∈ps,PtB q)(m:PtP P)(h6:ps.length<=6):∀(c:List (List Tm)) (v:Nat) (f:Nat->Nat) (l:List Tm),Prt ps v c->Grp P v f l->Me c v l
|[],v,f,l,hp,hg=>by (have hv:v=ps.length:=by have:=hp.ln;simpa using this);(have d:∀t∈l,F (cst f v 0) (List.replicate 6 0,t.2):=fun t a=>by have h1:F (cst (exf t) ps.length 0) (List.replicate 6 0,t.2):=W.leaf t (hg.sub t a);rw[<-hv,Gt (g:=f) (fun i E=>hg.pre t a i E)]at h1;exact h1);refine⟨by have:=hg.ln;omega,fun k=>?_,fun t a=>?_⟩;{have h1:FL F (cst f v 0) (cmpS [] v (l.take k)):=⟨fun u hu=>by obtain⟨s,C,rfl⟩:=gY.1 hu;exact d s (k8 C),by (have:(cmpS [] v (l.take k)).length<=4:=by show((l.take k).map _).length<=4;rw[iX,iq];have:=hg.ln;omega);exact gH this (gH (by decide) P2_43)⟩;have h2:=FL.rb W h1 (List.replicate 6 0);rw[cmpS_end,gX rfl]at h2;exact h2};have h1:=W.qb _ _ (d t a);exact h1.1.rb h1.2.1 (Ae h1.2.2 (by omega)) (BP (by omega))
|p::c,v,f,l,hp,hg=>by have h3:∀q∈p::c,q.length<=3:=fun q j=>(b q (hp.mem j)).ln;have y:=hp.ln;rw[iJ]at y;have h24:∀t∈l,smN (exf t) v (c.length+1)<=24:=fun t a=>gH (smN_le _ (by omega)) (m.sm t (hg.sub t a));refine⟨⟨by have:=hg.ln;omega,fun t a=>m.ex t (hg.sub t a),fun t a=>((b p (hp.mem (by simp))).ex t a).1,fun q j t a=>((b q (hp.mem (by simp[j]))).ex t a).1⟩,fun e=>⟨VJ W b m h6 c (v+1) _ _ hp.tl (hg.next e),?_,?_⟩⟩;{intro I G D _;have hF:FL F (cst f v (e+1)) (hrn p c v l (e+1)):=⟨W.hrF hp hg (e+1),gH (Sk h3 h24 (e+1)) (gH (gG _ hg.ln) P2_43)⟩;exact(OL.of W hF G D).mul W hF (b p (hp.mem (by simp))) (W.prF hp hg e)};intro J K z r B w;have n:FL F (cst f v e) (prodT (hrn p c v l (e+1)) p):=⟨fun u hu=>by obtain⟨x,H,hu⟩:=j8.1 hu;obtain⟨s,C,rfl⟩:=gY.1 hu;exact W.prF hp hg e x H s C,by rw[BW];exact gH (iz (gH (Sk h3 h24 (e+1)) (gG _ hg.ln)) (h3 p (by simp))) YF⟩;have o:FL F (cst f v e) (cmpS c (v+1) (grpS v l e)):=⟨W.grF hp hg e,by refine gH (Lh (fun q j=>h3 q (by simp[j])) fun t a=>?_) (gH (gG _ (hg.next e).ln) P2_43);exact gH (smN_le _ (by omega)) (m.sm t ((hg.next e).sub t a))⟩;exact(OL.of W n z r).col (OL.of W o B w)
end
section
variable {ps:List (List Pl.Tm)} {P:List Pl.Tm} {F:(Nat->Nat)->Pl.Tm->Prop} {A:(Nat->Nat)->List Int->Nat}
open Pl in
theorem WZ(W:CQ ps P F A)(c:∀q∈ps,PtB q)(d:PtP P)(h6:ps.length<=6)(h4:P.length<=4){out:List Tm}(k:Nrm out)(f:∀e,coef out e=coef (cmpS ps 0 P) e):Bg out/\(∀t∈out,Dl t.2)/\out.length<=1000000:=by have hF:FL F (cst (fun _=>0) 0 0) (cmpS ps 0 P):=⟨fun u hu=>by obtain⟨t,a,hu⟩:=Lg hu;have h1:=W.cmF a ps 0 (by omega) (fun i j=>by rw[iy]) u hu;rw[Gt (g:=fun _=>0) (fun i j=>by omega)]at h1;exact h1,gH (Lh (fun q l=>(c q l).ln) fun t a=>gH (smN_le _ (by omega)) (d.sm t a)) (gH (gG _ h4) P2_43)⟩;have b:=OL.of W hF k f;exact⟨b.small,fun t a=>MV (Ae (b.rb t a).1 (by omega)) (Ae (b.rb t a).2 (by omega)),by have:=b.len;omega⟩
def sbT(ps:List (List Pl.Tm))(t:Pl.Tm):Nat->List Pl.Tm
| 0=>[(List.replicate 6 0,t.2)]
| k+1=>Pl.prodT (sbT ps t k) (Pl.powT (ps.getD k []) (Pl.exf t k))
def GZ(ps:List (List Pl.Tm))(t:Pl.Tm)(k:Nat):Nat->Nat:=fun i=>if i<k then 0 else if i<ps.length then Pl.exf t i else 0
theorem TV{t:Pl.Tm}:(fun j=>if j=k then 0 else GZ ps t k j)=GZ ps t (k+1):=by funext j;unfold GZ;by_cases h:j=k;{rw[gX h,gX (by omega)]};rw[gQ h];by_cases h2:j<k;{rw[gX h2,gX (by omega)]};rw[gQ h2,gQ (show ¬j<k+1 by omega)]
theorem TW{t:Pl.Tm}:Pl.cst (Pl.exf t) ps.length 0=GZ ps t 0:=by funext j;unfold GZ Pl.cst;rw[gQ (show ¬j<0 by omega)];by_cases h:j<ps.length;{rw[gX h,gX h]};rw[gQ h,gQ h];split<;>rfl
theorem CW.refP(W:Pl.CW ps P F){t:Pl.Tm}{k:Nat}(a:k<ps.length){y:Pl.Tm}(b:F (GZ ps t k) y){z:Pl.Tm}(c:z∈Pl.powT (ps.getD k []) (Pl.exf t k)):F (GZ ps t (k+1)) (Pl.plE y.1 z.1,y.2*z.2):=by have h1:=W.pwF a (Pl.exf t k) 0 (GZ ps t k) (by unfold GZ;rw[gQ (by omega),gX a];omega) y b z c;rw[TV,Pl.plE_comm,mZ]at h1;exact h1
theorem CW.ref(W:Pl.CW ps P F){t:Pl.Tm}(a:t∈P):∀k,k<=ps.length->∀u∈sbT ps t k,F (GZ ps t k) u
|0,_,u,hu=>by rw[gK.1 hu,<-TW];exact W.leaf t a
|k+1,hk,u,hu=>by obtain⟨y,hy,hu⟩:=j8.1 hu;obtain⟨z,b,rfl⟩:=gY.1 hu;exact CW.refP W (by omega) (CW.ref W a k (by omega) y hy) b
theorem JZ{t:Pl.Tm}(h3:∀q∈ps,q.length<=3):∀k,k<=ps.length->(sbT ps t k).length<=3^Pl.smN (Pl.exf t) 0 k
|0,_=>by show 1<=1;omega
|k+1,hk=>by (have h1:=JZ (t:=t) h3 k (by omega);have a:(ps.getD k []).length<=3:=by refine h3 _ ?_;rw[gqq,gD (by omega)];exact il _);show(Pl.prodT (sbT ps t k) (Pl.powT (ps.getD k []) (Pl.exf t k))).length<=_;rw[BW,EH,Pl.smN_app (Pl.exf t) k 0 1,jz];refine iz h1 (gH (jN a _) (Pl.pow_hi ?_));show _<=Pl.exf t (0+k)+0;rw[iy];exact lrf _
theorem YG(W:Pl.CQ ps P F A)(h3:∀q∈ps,q.length<=3)(p:PtP P)(h6:ps.length<=6){t:Pl.Tm}(o:t∈P){k:Nat}(s:k<ps.length){e1 e2:List Int}(h1:Pl.coef (sbT ps t k) e1≠0)(h2:Pl.coef (Pl.powT (ps.getD k []) (Pl.exf t k)) e2≠0):Pl.RB 2400 (Pl.coef (sbT ps t k) e1*Pl.coef (Pl.powT (ps.getD k []) (Pl.exf t k)) e2):=by obtain⟨b,i,rfl⟩:=Pl.coef_present h1;obtain⟨d,m,rfl⟩:=Pl.coef_present h2;have hF:=CW.ref W.toCW o k (by omega);obtain⟨c,r⟩:∃c,GZ ps t (k+1)=c:=⟨_,rfl⟩;(have a:∀y∈sbT ps t k,∀z∈Pl.powT (ps.getD k []) (Pl.exf t k),F c (Pl.plE y.1 z.1,y.2*z.2):=fun y g z l=>by rw[<-r];exact CW.refP W.toCW s (hF y g) l);have h0:=W.qb c _ (a b i d m);(have f:∀y∈sbT ps t k,y.1=b.1->Pl.QB (A c (Pl.plE b.1 d.1)) ((Pl.powT (ps.getD k []) (Pl.exf t k)).length*P2 2332) (y.2*Pl.coef (Pl.powT (ps.getD k []) (Pl.exf t k)) d.1):=fun y g j=>by rw[mZ];refine Pl.QB.at_ fun z l n=>?_;have h4:=(W.qb c _ (a y g z l)).1;rw[j,n]at h4;rw[mZ];exact h4);(have h5:=Pl.QB.at_ (e:=b.1) (q:=Pl.coef (Pl.powT (ps.getD k []) (Pl.exf t k)) d.1) (L:=sbT ps t k) f;refine h5.rb h0.2.1 (Ae h0.2.2 (by omega)) ?_;rw[<-jC];have h7:(sbT ps t k).length*(Pl.powT (ps.getD k []) (Pl.exf t k)).length<=P2 43:=by have h8:=JZ (t:=t) h3 (k+1) (by omega);have h9:(sbT ps t (k+1)).length=(sbT ps t k).length*(Pl.powT (ps.getD k []) (Pl.exf t k)).length:=BW _ _;rw[h9]at h8;refine gH h8 (gH (Pl.pow_hi (gH (Pl.smN_le _ (by omega)) (p.sm t o))) (gH (by decide) Pl.P2_43)));refine gO (gG _ h7) ?_;rw[<-AH];exact BP (by omega)
theorem YH(W:Pl.CQ ps P F A)(h3:∀q∈ps,q.length<=3)(c:PtP P)(h6:ps.length<=6){t:Pl.Tm}(b:t∈P){k:Nat}(a:k<=ps.length){out:List Pl.Tm}(f:Pl.Nrm out)(d:∀e,Pl.coef out e=Pl.coef (sbT ps t k) e):OL F A (GZ ps t k) (sbT ps t k) out := OL.of W ⟨CW.ref W.toCW b k a,gH (JZ h3 k a) (gH (Pl.pow_hi (gH (Pl.smN_le _ (by omega)) (c.sm t b))) (gH (by decide) Pl.P2_43))⟩ f d
theorem W0(W:Pl.CQ ps P F A)(h3:∀q∈ps,q.length<=3)(c:PtP P)(h6:ps.length<=6){l:List Pl.Tm}(b:∀t∈l,t∈P)(h4:l.length<=4){out:List Pl.Tm}(f:Pl.Nrm out)(d:∀e,Pl.coef out e=Pl.coef (l.flatMap fun t=>sbT ps t ps.length) e):OL F A (fun _=>0) (l.flatMap fun t=>sbT ps t ps.length) out:=by refine OL.of W ⟨fun u hu=>?_,?_⟩ f d;{(obtain⟨t,a,hu⟩:=j8.1 hu;have h1:=CW.ref W.toCW (b t a) ps.length (lrf _) u hu;have h2:GZ ps t ps.length=fun _=>0:=by funext j;unfold GZ;by_cases h:j<ps.length;{rw[gX h]};rw[gQ h,gQ h]);rw[h2]at h1;exact h1};refine gH (Pl.flat_len fun t a=>gH (JZ h3 ps.length (lrf _)) (Pl.pow_hi (gH (Pl.smN_le _ (by omega)) (c.sm t (b t a))))) (gH (gG _ h4) Pl.P2_43)
end
structure TBs(q:List Pl.Tm):Prop where
 ln:q.length<=3
 iv:∀s∈q,InV 3 s.1/\s.1.sum<=24
 nd:(q.map (·.1)).Nodup
 nm:∀s∈q,s.2.num.natAbs<=P2 20
 dn:∀s∈q,s.2.den<=P2 14
theorem Sm{b:Nat}:∀{l:List Rat},(∀q∈l,q.den<=P2 b)->Bc l<=P2 (b*l.length):=by (have e:∀(l:List Rat) (a c:Nat),a<=P2 c->(∀q∈l,q.den<=P2 b)->l.foldl (fun a q=>a*(q.den/Nat.gcd a q.den)) a<=P2 (b*l.length+c):=by intro l;induction l with|nil=>{intro a c d _;simpa using d}|cons q r ih=>(intro a c d h;rw[lI];have h1:a*(q.den/Nat.gcd a q.den)<=P2 (c+b):=by rw[AH];exact iz d (gH (iF _ _) (h q (by simp))));have h2:=ih _ (c+b) h1 (fun s f=>h s (by simp[f]));rw[iJ,jm,k9,show b*r.length+b+c=b*r.length+(c+b) by omega];exact h2);intro l h;have h1:=e l 1 0 (Dw 0) h;exact h1
theorem TBs.lcm{q:List Pl.Tm}(h:TBs q):Bc (q.map (·.2))<=P2 42:=by refine gH (Sm (b:=14) fun x c=>?_) (D7 ?_);{obtain⟨t,a,rfl⟩:=gY.1 c;exact h.dn t a};rw[iX];have:=h.ln;omega
theorem TBs.b{q:List Pl.Tm}(h:TBs q):PtB q := ⟨h.ln,fun s a=>⟨gO (h.nm s a) (BP (by omega)),gO (h.dn s a) (BP (by omega))⟩,fun s a=>⟨(TU (h.iv s a)).1,fun x c=>by have:=(TU (h.iv s a)).2 x c;omega⟩,gO h.lcm (BP (by omega))⟩
structure PB(n:Nat)(P:List Pl.Tm):Prop where
 ln:P.length<=4
 iv:∀t∈P,InV n t.1/\t.1.sum<=24
 sb:∃D,0<D/\D<=P2 56/\Pl.SB D (P2 76) P
theorem W2(h6:e.length=6)(h0:∀x∈e,0<=x):(Pl.smN (fun i=>(e.getD i 0).toNat) 0 6:Int)=e.sum:=by match e,h6 with|[a,b,c,d,f,g],_=>have j:=h0 a (by simp);have k:=h0 b (by simp);have l:=h0 c (by simp);have m:=h0 d (by simp);have n:=h0 f (by simp);have o:=h0 g (by simp);show((a.toNat+(b.toNat+(c.toNat+(d.toNat+(f.toNat+(g.toNat+0))))):Nat):Int)=a+(b+(c+(d+(f+(g+0)))));omega
theorem PB.p{P:List Pl.Tm}(h:PB n P):PtP P := ⟨fun t a=>⟨(h.iv t a).1.1,fun x b=>by have:=(sbe (h.iv t a)).2 x b;omega⟩,fun t a=>by have h1:=W2 (h.iv t a).1.1 (h.iv t a).1.2.1;have h2:=(h.iv t a).2;show Pl.smN (fun i=>(t.1.getD i 0).toNat) 0 6<=24;omega⟩
theorem MJ{f g:Nat->Nat}:∀{n v:Nat},(∀i,v<=i->i<v+n->f i=g i)->Pl.smN f v n=Pl.smN g v n
|0,_,_=>rfl
|n+1,v,h=>by show f v+Pl.smN f (v+1) n=g v+Pl.smN g (v+1) n;rw[h v (lrf _) (by omega),MJ fun i h1 h2=>h i (by omega) (by omega)]
theorem Ob{c:Nat->Nat}{i k:Nat}(a:c i=k+1):∀{n v:Nat},v<=i->i<v+n->Pl.smN (fun j=>if j=i then k else c j) v n+1=Pl.smN c v n
|0,v,h1,h2=>by omega
|n+1,v,h1,h2=>by show(if v=i then k else c v)+Pl.smN _ (v+1) n+1=c v+Pl.smN c (v+1) n;by_cases hv:v=i;{subst hv;rw[gX rfl,MJ (g:=c) fun j h3 h4=>gQ (by omega)];omega};rw[gQ hv];have:=Ob a (n:=n) (v:=v+1) (by omega) (by omega);omega
theorem Sn{t:Pl.Tm}(h:InV n t.1):Pl.cst (fun i=>(t.1.getD i 0).toNat) n 0=fun i=>(t.1.getD i 0).toNat:=by funext i;unfold Pl.cst;by_cases h1:i<n;{rw[gX h1]};(rw[gQ h1];have h2:(t.1.getD i 0).toNat=0:=by obtain⟨h6,_,hp⟩:=h;rw[<-hp];unfold AF;rw[gqq];by_cases h3:i<6;{rw[io (by rw[iq];omega),List.getElem?_replicate];split<;>rfl};rw[ic (by simp;omega)];rfl);rw[h2];split<;>rfl
end Go.Proofs.YtidknnkgdniopaaGreatDoor
