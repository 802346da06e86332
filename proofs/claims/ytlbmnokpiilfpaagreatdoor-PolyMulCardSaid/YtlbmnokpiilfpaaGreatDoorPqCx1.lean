/- Part PqCx1. -/
import Derived.Test.YtlbmnokpiilfpaaGreatDoorPqCDx1
import Derived.Test.YtlbmnokpiilfpaaGreatDoorPqACx1

set_option linter.all false
set_option maxRecDepth 100000
set_option maxHeartbeats 100000000
namespace Go.Proofs.YtlbmnokpiilfpaaGreatDoor
open Go Go.RowKit
variable {v:Int} {a b c:List Int} {N n vars:Nat}
namespace Pl
theorem Pd:∀ {a b:List Int} (x y:Int),a.length=b.length->plE (a ++ [x]) (b ++ [y])=plE a b ++ [x+y]
 | [],[],x,y,_=>rfl
 | u :: a,v :: b,x,y,h=>by
  have:=Pd (a:=a) (b:=b) x y (by simpa using h);unfold plE at this |-;simp only[jT,List.zipWith_cons_cons,this]
theorem Ny:∀ {a b:List Int},a.length=b.length->(plE a b).reverse=plE a.reverse b.reverse
 | [],[],_=>rfl
 | x :: a,y :: b,h=>by
  have h':a.length=b.length:=by simpa using h
  have:=Ny (a:=a) (b:=b) h';rw[List.reverse_cons,List.reverse_cons,Pd x y (by simpa using h'),<-this];unfold plE;rw[List.zipWith_cons_cons,List.reverse_cons]
theorem Pe:∀ {a b c:List Int},a.length=b.length->b.length=c.length->ordR (plE a c) (plE b c)=ordR a b
 | [],[],[],_,_=>rfl
 | x :: a,y :: b,z :: c,h1,h2=>by
  have:=Pe (a:=a) (b:=b) (c:=c) (by simpa using h1) (by simpa using h2);unfold plE at this |-;simp only[List.zipWith_cons_cons,ordR,this];by_cases h:x=y
  · rw[gY h,gY (by omega)]
  · rw[gT h,gT (by omega)];unfold cmpI;split <;> (try split) <;> (try split) <;> omega
theorem Pf(h1:a.length=b.length)(h2:b.length=c.length):ordE (plE a c) (plE b c)=ordE a b:=by
 unfold ordE;rw[plE_sum (h1.trans h2),plE_sum h2,Ny (h1.trans h2),Ny h2,Pe (by simpa using h1) (by simpa using h2)];by_cases h:a.sum=b.sum
 · rw[gY h,gY (by omega)]
 · rw[gT h,gT (by omega)];unfold cmpI;split <;> (try split) <;> (try split) <;> omega
theorem prod_lead{t s:Tm}{r q:List Tm}(d:Canon n (t :: r))(b:Canon n (s :: q)):coef (prodT (t :: r) (s :: q)) (plE t.1 s.1)=t.2*s.2:=by
 have v:=d.len t (by simp);have p:=b.len s (by simp);have e:∀ u∈t :: r,∀ m∈s :: q,(u=t/\m=s)\/0<ordE (plE t.1 s.1) (plE u.1 m.1):=by
  intro u hu m a;have w:=d.len u hu;have o:=b.len m a;have g:ordE (plE t.1 s.1) (plE u.1 s.1)=ordE t.1 u.1:=Pf (by omega) (by omega);have f:ordE (plE u.1 s.1) (plE u.1 m.1)=ordE s.1 m.1:=by
   rw[plE_comm u.1 s.1,plE_comm u.1 m.1];exact Pf (by omega) (by omega)
  rcases iE.1 hu with rfl|hu
  · rcases iE.1 a with rfl|a
    · exact Or.inl ⟨rfl,rfl⟩
    · exact Or.inr (by rw[f];exact(j9.1 b.desc).1 m a)
  · have h1:0<ordE (plE t.1 s.1) (plE u.1 s.1):=by rw[g];exact(j9.1 d.desc).1 u hu
    rcases iE.1 a with rfl|a
    · exact Or.inr h1
    · exact Or.inr (ordE_trans h1 (by rw[f];exact(j9.1 b.desc).1 m a))
 have c:∀ u∈t :: r,∀ m∈s :: q,¬ (u=t/\m=s)->plE u.1 m.1≠plE t.1 s.1:=by
  intro u hu m a i he;rcases e u hu m a with h|h
  · exact i h
  · rw[he,ordE_self]at h;omega
 have k:t ∉ r:=fun h=>by
  have:=(j9.1 d.desc).1 t h;rw[ordE_self]at this;omega
 have j:s ∉ q:=fun h=>by
  have:=(j9.1 b.desc).1 s h;rw[ordE_self]at this;omega
 rw[ET];show t.2*lin (fun m=>if plE t.1 m=plE t.1 s.1 then 1 else 0) (s :: q)+lin (fun u=>lin (fun m=>if plE u m=plE t.1 s.1 then 1 else 0) (s :: q)) r=_;rw[Hu (l:=r) (fun u hu=>Hu fun m a=>gT (c u (by simp[hu]) m a (fun h=>k (h.1 ▸ hu))))];show t.2*(s.2*(if plE t.1 s.1=plE t.1 s.1 then 1 else 0)+lin (fun m=>if plE t.1 m=plE t.1 s.1 then 1 else 0) q)+0=_;rw[gY rfl,Hu (l:=q) (fun m a=>gT (c t (by simp) m (by simp[a]) (fun h=>j (h.2 ▸ a))))]
 grind
end Pl
theorem S3{la lb:List Pl.Tm}(a:Pl.Canon 6 la)(b:Pl.Canon 6 lb)(g:∀ t∈la,InV vars t.1)(i:∀ t∈lb,InV vars t.1)(w:la≠[])(z:lb≠[]):cnP (Pl.prodT la lb)≠[]/\Bu (cnP (Pl.prodT la lb))=Bu la+Bu lb:=by
 obtain⟨t,r,rfl⟩:=je w;obtain⟨s,q,rfl⟩:=je z;have p:=a.len t (by simp);have o:=b.len s (by simp);have h6:∀ u∈Pl.prodT (t :: r) (s :: q),∃ x∈t :: r,∃ y∈s :: q,u.1=Pl.plE x.1 y.1:=by
  intro u hu;obtain⟨x,c,h⟩:=jS.1 hu;obtain⟨y,d,rfl⟩:=ie.1 h;exact⟨x,c,y,d,rfl⟩
 have f:∀ u∈Pl.prodT (t :: r) (s :: q),u.1.length=6:=by
  intro u hu;obtain⟨x,c,y,d,e⟩:=h6 u hu;rw[e,Pl.plE_len (by rw[a.len x c,b.len y d])];exact a.len x c
 obtain⟨E,k⟩:=Dv f;have h1:Pl.coef (cnP (Pl.prodT (t :: r) (s :: q))) (Pl.plE t.1 s.1)≠0:=by
  rw[k,Pl.prod_lead a b];intro h;rcases mY.1 h with h|h
  · exact a.nz t (by simp) h
  · exact b.nz s (by simp) h
 obtain⟨u,hu,he⟩:=Pl.coef_present h1;have A:=Gg a (by have:=(Dj (g t (by simp)).2.1).1;omega);have B:=Gg b (by have:=(Dj (i s (by simp)).2.1).1;omega);have F:(Pl.plE t.1 s.1).sum=t.1.sum+s.1.sum:=Pl.plE_sum (by rw[p,o]);have G:=(Dj (g t (by simp)).2.1).1;have H:=(Dj (i s (by simp)).2.1).1;refine⟨(fun h=>by rw[h]at hu;cases hu),Int.le_antisymm (JD (by omega) fun v n => ?_) ?_⟩
 · obtain⟨m,l,e⟩:=Jp f n;obtain⟨x,c,y,d,j⟩:=h6 m l;rw[<-e,j,Pl.plE_sum (by rw[a.len x c,b.len y d])];have C:=DQ a x c;have D:=DQ b y d;omega
 · have:=Fs hu;rw[he]at this;omega
theorem S4{p:List Pl.Tm}(hi:∀ t∈p,InV v.toNat t.1)(c:p.length<=4096)(d:∀ t∈p,t.1.sum<=24):(resQ v p).2.2=0:=by
 have h6:∀ t∈p,t.1.length=6:=fun t f=>(hi t f).1;unfold resQ;rw[gY];refine⟨gJ (Jr h6) c,fun t r e => ?_⟩;obtain⟨s,a,b⟩:=Jp h6 (t:=t) (by rw[e];simp);rw[<-b];exact CN.2 ⟨by rw[h6 s a];omega,(hi s a).2.1,d s a⟩
section
variable {va vb:Int} {a b:Option Addr} {n c m d:Nat} {ta tb:List Tx} {w:World} {v err:Int} {t:List Tx}
theorem S5(o:mulA va vb (rdP va ta) (rdP vb tb)=(v,t,err))(j:AM w)(k:AH w a n c ta)(l:AH w b m d tb)(sa:∀ t∈ta,t.1.length<=570)(sb:∀ t∈tb,t.1.length<=570)
 (f:∀ g i,rdP va ta=some g->rdP vb tb=some i->va=vb->CF g i) :
 Calls Tryz.prog 20 #[.agg #[.int .i64 va,.slice a n c],.agg #[.int .i64 vb,.slice b m d]] w (Jc w v t err) :=
 (OA j k l sa sb f).mono fun e p h=>by
  have h:=h.a;rw[o]at h;exact Cl.v h
end
theorem RU(la:List Pl.Tm):∀ a:List Pl.Tm,(tmU la a).length=a.length*la.length
 | []=>by simp[tmU]
 | t :: r=>by
  have h:=RU la r;unfold tmU at h |-;rw[lF,iD,h,NG,j8,iW];omega
theorem Zg{la:List Pl.Tm}{t:Pl.Tm}(a:∀ t∈la,t.1.length=N)(c:t.1.length=N):AC (shf t la)=shf (AY t.1,t.2) (AC la):=by
 unfold AC shf;rw[jO,jO];refine kh fun s b => ?_;show(AY (Pl.plE s.1 t.1),s.2*t.2)=(Pl.plE (AY s.1) (AY t.1),s.2*t.2);rw[RV (a s b) c]
theorem Vk{N:Nat}{la:List Pl.Tm}(a:∀ t∈la,t.1.length=N):∀ {lb:List Pl.Tm},(∀ t∈lb,t.1.length=N)->AC (tmU la lb)=tmU (AC la) (AC lb)
 | [],_=>rfl
 | t :: r,hb=>by
  have h1:tmU la (t :: r)=shf t la ++ tmU la r:=by simp[tmU]
  have h2:tmU (AC la) (AC (t :: r))=shf (AY t.1,t.2) (AC la) ++ tmU (AC la) (AC r):=by simp[tmU,AC]
  rw[h1,h2,UQ,Zg a (hb t (by simp)),Vk a (fun s b=>hb s (by simp[b]))]
end Go.Proofs.YtlbmnokpiilfpaaGreatDoor
namespace Go.Proofs.YtlbmnokpiilfpaaGreatDoor.Pl
def decE(i:Nat)(m:List Int):List Int:=m.set i (m.getD i 0-1)
def derT(i:Nat)(l:List Tm):List Tm:=(l.filter (fun t=>decide (0<t.1.getD i 0))).map (fun t=>(decE i t.1,t.2*((t.1.getD i 0:Int):Rat)))
theorem derT_cons(i:Nat)(t:Tm)(r:List Tm):derT i (t :: r)=(if 0<t.1.getD i 0 then [(decE i t.1,t.2*((t.1.getD i 0:Int):Rat))]else []) ++ derT i r:=by
 unfold derT;by_cases h:0<t.1.getD i 0
 · rw[List.filter_cons_of_pos (by simpa using h),ja,gY h];rfl
 · rw[List.filter_cons_of_neg (by simpa using h),gT h];rfl
theorem derT_snoc(i:Nat)(l:List Tm)(t:Tm):derT i (l ++ [t])=derT i l ++ (if 0<t.1.getD i 0 then [(decE i t.1,t.2*((t.1.getD i 0:Int):Rat))]else []):=by
 unfold derT;rw[List.filter_append,iJ];congr 1;by_cases h:0<t.1.getD i 0
 · rw[List.filter_cons_of_pos (by simpa using h),gY h];rfl
 · rw[List.filter_cons_of_neg (by simpa using h),gT h];rfl
end Go.Proofs.YtlbmnokpiilfpaaGreatDoor.Pl
namespace Go.Proofs.YtlbmnokpiilfpaaGreatDoor
open Tryz Go Go.RowKit
variable {f:Act} {ad:Addr} {ops:Array Oper} {s' s1:Bool} {Q:Exit->Act->World->Prop} {err v va x:Int} {news rows:List (List Value)} {b e:List Int} {rest:List Oper} {cs zs:List Value} {X base c cx g i k m n:Nat} {o:Oper} {s:Operand} {a a' a1 b' b1:Option Addr} {q:Rat} {t ty:TypeId} {w w':World}
theorem SlK.flatCells(a:SlK w k (some ad) m cx news)(i:0<k):∀ j u,news.flatten[j]?=some u->w.cell? (ad.add j)=some u:=by
 intro j u hu;have f:j<news.flatten.length:=by
  rcases iH j news.flatten.length with h|h
  · exact h
  · simp[ig h]at hu
 rw[BM news a.wid,a.len]at f;have g:0<m:=by rcases gX m with h | h;(rw[h,jg]at f;omega);exact h
 obtain⟨b,o,h,p⟩:=a.rd g;injection h with h;subst h;have c:j/k<m:=(jm i).2 f;have e:j%k<k:=io _ i;have d:j=j/k*k+j%k:=by rw[gV];exact(j6 j k).symm
 have h2:=p (j/k) c (j%k) e;have h3:=DX news a.wid (j/k) (j%k) e;rw[<-d,hu]at h3;have n:j/k<news.length:=by rw[a.len];exact c
 rw[gD n,kK]at h3;have h4:(news.getD (j/k) []).getD (j%k) undef=u:=by
  rw[gqq (l:=news),gD n,gP,gqq,<-h3];rfl
 rw[h4,jR,<-d]at h2;rw[<-h2];unfold Addr.add;by_cases h0:j=0 <;> simp[h0]
section
variable {P:Program} {w:World}
theorem Gq{v:Value}(b:0<zs.length)(h:v∈(Builtin.zeroCells zs.toArray n).toList):v∈zs:=by
 unfold Builtin.zeroCells at h;simp only[Array.toList_map,ie]at h;obtain⟨i,_,rfl⟩:=h;have a:i%zs.toArray.size<zs.length:=by simpa using io i (by simpa using b)
 rw[getElem!_pos zs.toArray (i%zs.toArray.size) (by simpa using a)];simp
theorem US{cs:Array Value}{a:Nat×Nat}(b:w'.heap[g]?=some (.cells cs t a))(h:∀ v∈cs.toList,∀ i,v ≠ .int .u64 i):NoU w' g:=by
 intro j i he;rw[mX w' g _ cs t a b]at he;exact h _ (by rw[Array.mem_toList_iff];exact Array.mem_of_getElem? he) i rfl
theorem S6{e:TypeId}{bytes:Nat} 
 (M:P.underlying t=some (.slice e)) (b:BV P e zs k bytes) (O:∀ v∈zs,∀ i,v ≠ .int .u64 i) (o:AR w base e k a n c rows) (Z:∀ g,blk a=some g->NoU w g) (V:nuR rows) (z:SlK w k (some ad) m cx news)
 (h1:∀ r∈news,∀ u∈r,u.oneCell'=true) (F:nuR news) (h0:0<m) (h63:n+m<=maxLen) (d:(n+m)*bytes<=140737488355328) (p:base<=w.heap.size) :
 ∃ B H A,(Builtin.append_ #[t,t] ty #[.slice a n c,.slice (some ad) m cx]).run P w = .ok (.slice B (n+m) H) A/\AR A base e k B (n+m) H (rows ++ news)/\(∀ g,blk B=some g->NoU A g) /\
  w.grownBy A (blk a)/\(blk B=blk a\/blk B=some w.heap.size):=by
 obtain⟨i,W,X,x,I⟩:=b.parts;have S:=b.2.2;have y:=z.flatCells S;have D:=BM news z.wid;rw[z.len]at D;have K:((n+m:Nat):Int)<=9223372036854775807:=by unfold maxLen at h63;omega
 rcases o.2.2 with⟨l,he⟩|⟨g,Y,C,l,hb,hh,U,hm,hs,N⟩
 · simp only[gW]at l;obtain⟨rfl,rfl,rfl⟩:=l;obtain⟨B,H,A,f,h2,h3,h4⟩:=FD (P:=P) (ty:=ty) M b o z h1 h63 d p;have s:=run_append_nil (P:=P) w t ty e i (.agg zs.toArray) M W X ad m cx news.flatten (by rw[D,x]) y h0 (by omega) (by rw[I];rw[iz]at d;omega);refine⟨B,H,A,f,h2,fun g J => ?_,h3,h4⟩;rw[f]at s;simp only[Result.ok.injEq,gW]at s;obtain⟨⟨rfl,_,_⟩,rfl⟩:=s;have E:w.heap.size=g:=by simpa[blk]using J
   subst E;refine US (mM w.drew _) fun v l q he => ?_;subst he;simp only[Array.toList_append,iw]at l;rcases l with l|l
   · obtain⟨r,L,hu⟩:=kM.1 (by simpa using l);exact F r L _ hu q rfl
   · exact O _ (Gq (zs:=zs) (by rw[b.2.1];exact S) l) q rfl
 · simp only[gW]at l;obtain⟨rfl,_,rfl⟩:=l;by_cases G:n+m<=c
   · obtain⟨A,f,⟨h2,h3⟩,h4⟩:=Oc (P:=P) (ty:=ty) M b ⟨o,Z g rfl⟩ z h1 F G d p;refine⟨_,c,A,f,h2,fun R J => ?_,h4,Or.inl rfl⟩;have:g=R:=by simpa[blk]using J
     subst this;exact h3
   · obtain⟨B,H,A,f,h2,h3,h4⟩:=FD (P:=P) (ty:=ty) M b o z h1 h63 d p;have T:rows.flatten.length=n*k:=by
      have:=BM rows o.1;have h5:=iP List.length N;rw[iq]at h5;have h6:n*k<=C.size:=by rw[hs];exact gH _ U
      have:C.toList.length=C.size:=by simp
      omega
     have s:=run_append_grow (P:=P) w t ty e i (.agg zs.toArray) M W X ⟨g,0,none⟩ n c rows.flatten (by rw[T,x]) (fun j v Q=>by
      have h7:(⟨g,0,none⟩:Addr).add j=⟨g,j,none⟩:=by unfold Addr.add;split <;> simp_all
      rw[h7,mX w g j C e (0,0) hh];rw[<-N,List.getElem?_take]at Q;split at Q
      · simpa using Q
      · cases Q) ad m cx news.flatten (by rw[D,x]) y (by omega) K (by
        have h8:=nextslicecap_le (need:=n+m) (old:=c) (by omega);have h9:=gH bytes h8;rw[kB]at h9;rw[I]
        omega)
     refine⟨B,H,A,f,h2,fun R J => ?_,h3,h4⟩;rw[f]at s;simp only[Result.ok.injEq,gW]at s;obtain⟨⟨rfl,_,_⟩,rfl⟩:=s;have E:w.heap.size=R:=by simpa[blk]using J
     subst E;refine US (mM w.drew _) fun v l q he => ?_;subst he;simp only[Array.toList_append,iw]at l;rcases l with(l|l) | l
     · obtain⟨r,L,hu⟩:=kM.1 (by simpa using l);exact V r L _ hu q rfl
     · obtain⟨r,L,hu⟩:=kM.1 (by simpa using l);exact F r L _ hu q rfl
     · exact O _ (Gq (zs:=zs) (by rw[b.2.1];exact S) l) q rfl
end
noncomputable def derA (va i:Int) (o:Option (List Pl.Tm)):Int×List Tx×Int :=
 match o with
 | some l=>if 0<=i/\i<va then resQ va (Pl.derT i.toNat l)else(0,[],3)
 | none=>(0,[],1)
theorem XF(h:x.natAbs<16777216):(x:Rat).num.natAbs<P2 2400:=by
 have e:P2 24=16777216:=by unfold P2;decide
 exact Af (a:=24) (by show x.natAbs<_;omega) (by omega)
theorem Wl(x:Int):(x:Rat).den<P2 2400:=by
 have e:P2 1=2:=rfl;exact Af (a:=1) (by show(1:Nat)<_;omega) (by omega)
theorem Pg(i:Nat)(m:List Int):(Pl.decE i m).length=m.length:=by simp[Pl.decE]
theorem UT{a:List Int}(f:a.length=b.length)(h:Pl.decE i a=Pl.decE i b):a=b:=by
 by_cases e:i<a.length
 · have h1:(Pl.decE i a).getD i 0=(Pl.decE i b).getD i 0:=by rw[h]
   have d:i<b.length:=by omega
   unfold Pl.decE at h h1;have h2:a.getD i 0=b.getD i 0:=by
    simp[e,d]at h1 |-;omega
   refine mR f fun j h3 h4 => ?_;by_cases c:i=j
   · subst c;simpa[h3,h4]using h2
   · have:=iP (fun l:List Int=>l[j]?) h;simp only[iT c]at this;simpa[h3,h4]using this
 · unfold Pl.decE at h
   rwa[List.set_eq_of_length_le (by omega),List.set_eq_of_length_le (by omega)]at h
theorem Cv{l:List Pl.Tm}{u:Pl.Tm}(h:u∈Pl.derT i l):∃ t∈l,0<t.1.getD i 0/\u=(Pl.decE i t.1,t.2*((t.1.getD i 0:Int):Rat)):=by
 obtain⟨t,a,rfl⟩:=ie.1 h;obtain⟨h1,h2⟩:=mD.1 a;exact⟨t,h1,by simpa using h2,rfl⟩
theorem EU(i:Nat)(l:List Pl.Tm):(Pl.derT i l).length<=l.length:=by
 unfold Pl.derT;rw[iM];exact List.length_filter_le _ _
theorem RL{l:List Pl.Tm}(h:Pl.Nrm l):Pl.Nrm (Pl.derT i l) where
 len:=fun u hu=>by
  obtain⟨t,f,_,rfl⟩:=Cv hu;rw[Pg];exact h.len t f
 nz:=fun u hu=>by
  obtain⟨t,f,hp,rfl⟩:=Cv hu;intro h0;rcases mY.1 h0 with h1|h1
  · exact h.nz t f h1
  · have:=Rat.intCast_eq_zero_iff.1 h1;omega
 nodup:=by
  have g:∀ l:List Pl.Tm,(∀ t∈l,t.1.length=6)->(l.map (·.1)).Nodup->((Pl.derT i l).map (·.1)).Nodup:=by
   intro l
   induction l with
   | nil=>intro _ _;exact List.nodup_nil
   | cons t r ih =>
    intro h6 k;have a:=kf.1 k;have b:=ih (fun s c=>h6 s (by simp[c])) a.2;rw[Pl.derT_cons];by_cases hp:0<t.1.getD i 0
    · rw[gY hp,List.singleton_append,ja];refine kf.2 ⟨fun j => ?_,b⟩;obtain⟨u,hu,e⟩:=ie.1 j;obtain⟨s,c,_,rfl⟩:=Cv hu;have d:s.1=t.1:=UT (by rw[h6 s (by simp[c]),h6 t (by simp)]) e;exact a.1 (by show t.1∈_;rw[<-d];exact jk c)
    · rw[gT hp];exact b
  exact g l h.len h.nodup
section
variable {w:World} {X:Nat} {te:List Int} {s:Bool} {a b:Option Addr} {n c m d:Nat}
theorem XG(h:Arr w X 92 (As te s a n c b m d))(h6:te.length=6):w.cell? ⟨X,6,none⟩=some (.bool s)/\w.cell? ⟨X,7,none⟩=some (.slice a n c)/\w.cell? ⟨X,8,none⟩=some (.bool false)/\w.cell? ⟨X,9,none⟩=some (.slice b m d):=by
 obtain⟨e,f,g,j,k,l,rfl⟩:=Bt h6;exact⟨h.cell (i:=6) (by simp[As,Al,Ac]),h.cell (i:=7) (by simp[As,Al,Ac]),h.cell (i:=8) (by simp[As,Al,Ac]),h.cell (i:=9) (by simp[As,Al,Ac])⟩
theorem UU(h:Arr w X 92 (As te s a n c b m d)){i:Nat}(hi:i<te.length):w.cell? ⟨X,i,none⟩=some (.int .i64 (te.getD i 0)):=by
 have h1:=h.cell (i:=i) (by rw[BC];omega);rw[h1];unfold As;simp[gZ,hi]
theorem UV(e:List Int)(i:Nat)(hi:i<e.length)(v:Int):(As e s a n c b m d).take i ++ [Value.int .i64 v] ++ (As e s a n c b m d).drop (i+[Value.int .i64 v].length)=As (e.set i v) s a n c b m d:=by
 unfold As;rw[List.take_append_of_le_length (by simp;omega),List.drop_append_of_le_length (by simp;omega),mw,List.set_eq_take_append_cons_drop];simp[hi]
theorem UW{g c' f e:Nat}(h6:te.length=6):(As te s a n c b m d).take 6 ++ Al s' a' g c' false b' f e ++ (As te s a n c b m d).drop (6+(Al s' a' g c' false b' f e).length)=As te s' a' g c' b' f e:=by
 obtain⟨i,j,k,l,o,p,rfl⟩:=Bt h6;rfl
end
theorem C1.keptX{l:List Pl.Tm}(h:C1 w base a n c l)(m:Arr w X t cs)(k:∀ v∈cs,∀ i,v ≠ .int .u64 i)(d:∀ g,blk a=some g->g≠X)(j:w.grownBy w' (some X)):C1 w' base a n c l:=by
 obtain⟨f,h1,h2,h3,h4⟩:=h;refine⟨f,h1.kept j (Or.inr fun e=>d X e rfl),fun g b=>(h2 g b).kept (h1.lt b).2 j (fun e=>d g b (by injection e)),h3,fun i o=>(h4 i o).keptU (m.noU k) j⟩
theorem WK(h:CJ w cs q)(d:∀ g,blk a=some g->NoU w g)(b:w.grownBy w' (blk a)):CJ w' cs q:=by
 cases c:blk a with
 | none=>rw[c]at b;exact h.ext ((Ext.refl w).grown b (fun k e=>by cases e))
 | some g=>rw[c]at b;exact h.keptU (d g c) b
theorem S7{x:Operand}{m c1 k j:Nat}{l:List Pl.Tm}(E:o.guard=none)
 (ho:o.op = .call { callee := .builtin .append,args:=#[s,x],argTypes:=#[80,80] }) (hs:f.eval s = .slice a n c) (hx:f.eval x = .slice (some ⟨g,0,none⟩) 1 1) (Y:C1 w base a n c l)
 (X:Arr w g 92 (As e s1 a1 m c1 b1 k j)) (h6:e.length=6) (d:CJ w (Al s1 a1 m c1 false b1 k j) q) (hn:n<=100000) (Z:base<=w.heap.size)
 (W:∀ p t A,C1 A base p (n+1) t (l ++ [(e,q)])->w.grownBy A (blk a)->wpList prog ops Q rest (f.put o.dst (.slice p (n+1) t)) A):wpList prog ops Q (o :: rest) f w:=by
 obtain⟨rows,h1,h2,h3,h4⟩:=Y;have H:SlK w 10 (some ⟨g,0,none⟩) 1 1 [As e s1 a1 m c1 b1 k j]:=(Arr.ownK (base:=0) (n:=1) (rows:=[As e s1 a1 m c1 b1 k j]) (by simpa using X) (by intro r d;rw[gL.1 d,BC,h6]) rfl (gO _) (by unfold maxLen;omega)).slk (by omega);have y:rows.length=n:=h1.len (by omega);have G:nuR rows:=by
  intro r d v J;obtain⟨i,I,rfl⟩:=jX.1 d;obtain⟨K,p,n',t,b',m',d',B,_,_⟩:=h4 i (by omega);have R:rows.getD i []=rows[i]:=by simp[I]
  rw[<-R,B]at J;exact AV v J
 have F:nuR [As e s1 a1 m c1 b1 k j]:=by intro r d;rw[gL.1 d];exact AV
 refine jf E fun _ D => ?_;obtain⟨p,t,A,z,U,V,C,_⟩:=S6 (P:=prog) (ty:=o.type) underlying80 Bs AV h1 h2 G H (by intro r d;rw[gL.1 d];exact AI) F (by omega) (by unfold maxLen;omega) (by omega) Z;unfold Oper.wp execOp;simp only[ho,resolve,invoke,builtin,ij,iF,gS,jH,ja,jE,hs,hx,z];refine D _ _ (W p t A ⟨rows ++ [As e s1 a1 m c1 b1 k j],U,V,by simp[h3],fun i I => ?_⟩ C);by_cases b:i<n
 · obtain⟨K,L,n2,N,M,m2,O,B,S,T⟩:=h4 i b;refine⟨K,L,n2,N,M,m2,O,?_,?_,?_⟩
   · rw[<-show(l.getD i ([],0))=(l ++ [(e,q)]).getD i ([],0) by simp[gZ,h3,b],<-B];simp[gZ,y,b]
   · rw[<-show(l.getD i ([],0))=(l ++ [(e,q)]).getD i ([],0) by simp[gZ,h3,b]];exact S
   · rw[<-show(l.getD i ([],0))=(l ++ [(e,q)]).getD i ([],0) by simp[gZ,h3,b]];exact WK T h2 C
 · have:i=n:=by omega
   subst this;refine⟨s1,a1,m,c1,b1,k,j,?_,?_,?_⟩
   · simp[<-h3,y]
   · simp[<-h3,h6]
   · have:(l ++ [(e,q)]).getD i ([],0)=(e,q):=by simp[<-h3]
     rw[this];exact WK d h2 C
theorem Ph{i:Int}{ts:List Tx}(hT:AM w)(ha:AH w a n c ts)(sa:∀ t∈ts,t.1.length<=570)
 (aP:∀ l,rdP va ts=some l->0<=i->i<va->Cj (Pl.derT i.toNat l)) :
 Calls prog 22 #[.agg #[.int .i64 va,.slice a n c],.int .i64 i] w (Cd w (derA va i (rdP va ts))):=by
 have an:=fun(b:World) (m:Ext w b)=>qh (Db (vars:=va) (hT.ext m) (ha.ext m) sa)
 have HB:Hid (∀ l,rdP va ts=some l->(∀ t∈l,Pl.RB 2280 t.2)/\Pl.Nrm l/\l.length<=4096/\(0<=va/\va<=6)/\∀ t∈l,t.1.length=6/\∀ x∈t.1,0<=x/\x<=1048576):=qh (fun l h2=>by
  refine⟨fun t ht=>(Eu h2 sa t ht).mono (by omega),Dh (BW h2),?_,(AW h2).1,A5 h2⟩
  rw[BH h2];exact(AW h2).2.1)
 have ac:=qh aP;obtain⟨ol,aQ⟩:∃ o,rdP va ts=o:=⟨_,rfl⟩;rw[aQ]at an HB ac |-;clear aQ sa ha aP
 go_enter func22,ntmps22
 go_upto_region 1 with(fail)
 refine Cf ?_;intro w0 W af aC bn;have a6:=af.c 0 rfl;have bo:=af.c 1 rfl;have hR:Arr w0 (w.heap.size+1) 28 (Ah 0 none 0 0):=aC;have bC:(Ah 0 none 0 0).toArray=#[.int .i64 0,.slice none 0 0]:=rfl;clear af aC bn;have bD:=W.size
 go_wp2_with fail
 refine(an _ W).out.mono ?_;rintro e w3 ⟨a3,n3,c3,rfl,Y,ai⟩;have A:=W.trans Y;have N:=hR.ext Y;have a6:=Y.cell a6;clear bo hR an W Y;cases ol with
 | none =>
  simp only[jz]
  go_wp2_with(refine Aa (vs:=Ah 0 none 0 0) rfl rfl rfl rfl rfl Ad N rfl (Am _ _ _ _) ?_;intro w9 M O)
  refine gF (Ao rfl Ad rfl rfl M) rfl ?_;exact⟨none,0,0,rfl,A.grownR O (by omega),TmO.nil _ _⟩
 | some l =>
  simp only[jr,gP]at ai |-;have s:=qh (HB.out l rfl);have a5:=s.out.2.2.2.1;by_cases hi:0<=i/\i<va
  · obtain⟨vn,rfl⟩:∃ j:Nat,va=(j:Int):=⟨va.toNat,by omega⟩;obtain⟨f,rfl⟩:∃ j:Nat,i=(j:Int):=⟨i.toNat,by omega⟩;have b8:f<6:=by omega
    have bt:(f:Int)<6:=by omega
    have ba:¬ ((vn:Int)<=(f:Int)):=by omega
    have bu:¬ ((f:Int)<0):=by omega
    have au:=qh (ac.out l rfl hi.1 hi.2);have S:Hid (derA (vn:Int) (f:Int) (some l)=resQ (vn:Int) (Pl.derT f l)):=qh (by unfold derA;simp only;rw[gY hi,jc]);rw[jc]at au;have bd:=ai.len;have bz:n3<=4096:=by have:=s.out.2.2.1;omega
    obtain⟨bq,hS,aq,aM⟩:=ai;have HR:=qh aM;have T:=qh aq;clear aM aq bd HB ac hi a5;have aH:C1 w3 w3.heap.size none 0 0 (Pl.derT f (l.take 0)):=C1.nil _ _;go_wp2
    go_loopw[8,30] (fun rv iv wr=>∃ (k:Nat) (a':Option Addr) (n' c':Nat),rv = .slice a' n' c'/\iv = .int .i64 k/\k<=n3/\n'<=k/\Ext w3 wr/\C1 wr w3.heap.size a' n' c' (Pl.derT f (l.take k))) (fun _ iv _=>n3-(intOf iv).toNat)
    case atStart=>exact⟨0,none,0,0,rfl,rfl,gO _,lrf _,Ext.refl _,aH⟩
    case round =>
     clear aH;obtain⟨k,a',n',c',rfl,rfl,hk,bA,hE,hO⟩:=hrel;by_cases P:k<n3
     · have aj:=hS.ext hE;obtain⟨bb,bE,rfl,_⟩:=aj.rd (by omega);obtain⟨sx,ax,nx,cx,bx,mx,dx,R,h6,am⟩:=HR.out k P;have Q:l.getD k ([],0)∈l:=by simp[T.out,P]
       have ad:=qh (s.out.1 _ Q);have ak:=s.out.2.2.2.2 _ Q;have ae:Hid (l.take (k+1)=l.take k ++ [l.getD k ([],0)]):=qh (by rw[gM (by rw[T.out];exact P)];simp[T.out,P]);clear Q;generalize l.getD k ([],0)=t at *
       obtain⟨B,tq⟩:=t;simp only at h6 R am ad ak ae;have aV:B.getD f 0∈B:=by simp[h6,b8]
       have ao:=ak.2 _ aV;have bl:=ao.1;have bm:=ao.2;have aa:=qh (Pl.derT_snoc f (l.take k) (B,tq));have b3:(As [0,0,0,0,0,0] false none 0 0 none 0 0).length=(As B sx ax nx cx bx mx dx).length:=by rw[BC B,h6];rfl
       have aZ:Agg prog 92 (As B sx ax nx cx bx mx dx).length:=by rw[BC B,h6];exact At
       have hY:=Arr.new wr 92 (As [0,0,0,0,0,0] false none 0 0 none 0 0)
       go_upto_region 10 with(first
        | (refine Bg rfl rfl At rfl aj P ?_;rw[R])
        | (refine Aa (vs:=As B sx ax nx cx bx mx dx) rfl rfl rfl rfl rfl aZ hY b3 AI ?_;intro w4 U aO))
       have ah:Ext wr w4:=((Ext.refl wr).alloc _).grownR aO (lrf _);have aI:=hO.ext ah;have D:=hE.trans ah;have aY:=am.ext D;have bw:=U.lt;have bj:wr.heap.size<=wr.heap.size:=lrf _
       have ar:∀ g,blk a'=some g->g≠wr.heap.size:=fun g hg=>by
        obtain⟨rr,h1,_⟩:=hO;have:=(h1.lt hg).2;omega
       have aN:=hE.size;have aA:=UU U (i:=f) (by omega);obtain⟨c6,c7,c8,C⟩:=XG U h6;clear hY aO hO hE ah R aj am ak aV ao bj;obtain⟨x,hx⟩:∃ x,B.getD f 0=x:=⟨_,rfl⟩;rw[hx]at aA bl bm;simp only[hx]at aa;have HX:=qh hx;clear hx;generalize wr.heap.size=X at *
       by_cases E:0<x
       · have b6:decide ((0:Int)<x)=true:=iA E;have bk:=fun(b:World) (hq:Ext w4 b)=>qh (F0 (z:=x) (w:=b) (by omega) (by omega));have aX:=fun(b:World) (hq:Ext w4 b) (v:Value) (hv:BU b v (x:Rat))=>qh (Nx (((hT.ext A).ext D).ext hq) (v := .agg #[.bool sx,.slice ax nx cx,.bool false,.slice bx mx dx]) (p:=tq) ⟨Al sx ax nx cx false bx mx dx,rfl,aY.ext hq⟩ hv (Af ad.out.1 (by omega)) (Af ad.out.2 (by omega)) (XF (by omega)) (Wl x));go_wp2
         have ab:=fun(b:World) (m:Ext w4 b)=>qh (And.intro (m.cell aA) (And.intro (m.cell c6) (And.intro (m.cell c7) (And.intro (m.cell c8) (m.cell C)))))
         refine Ab (by kernel_rfl) (fun b=>Ext w4 b)
          [he (.pointer (some ⟨X,6,none⟩)),
 he (.agg #[.bool sx,.slice ax nx cx,.bool false,.slice bx mx dx]),
 he (.int .i64 (f:Int)),
 he (.pointer (some ⟨X,0,none⟩)),
 he (.pointer (some ⟨X,f,none⟩)),
 he (.int .i64 x),
 hp (fun v b=>NR (x:Rat) v b),
 hp (fun v b=>NR (tq*(x:Rat)) v b)]
          (by kernel_rfl) (fun _ _ e h=>h.trans e) ((Ext.refl w4).drew) ⟨trivial,trivial,trivial,trivial,trivial,trivial,NR.x _,NR.x _,trivial⟩ ⟨?o0,?o1,?o2,?o3,?o4,?o5,?o6,?o7,trivial⟩ ?fin
         case o0=>exact ofa (d:=6)
         case o1=>exact ol4
         case o2=>exact omv
         case o3=>exact ofa (d:=0)
         case o5=>exact ol
         case o4 =>
          refine Aj rfl fun ρ b m ap h => ?_;have e0:ρ (.tmp 42)=(.pointer (some ⟨X,0,none⟩)):=h.1;have e1:ρ (.tmp 41)=(.int .i64 (f:Int)):=h.2.1;obtain⟨kx,k6,k7,k8,k9⟩:=(ab b m).out;go_simp
          try (first | (intros;omega) | exact gI _ (by omega))
         case o6 =>
          refine Ag rfl fun ρ b m ap b7 h => ?_;have e1:ρ (.tmp 44)=(.int .i64 x):=h.2.1;obtain⟨kx,k6,k7,k8,k9⟩:=(ab b m).out;refine⟨78,#[.int .i64 x],by go_simp,((bk b m).out).mono ?_⟩;rintro e w' ⟨cs,rfl,ag,al⟩;exact⟨_,rfl,ag,cs,rfl,al⟩
         case o7 =>
          refine Ag rfl fun ρ b m ap b7 h => ?_;have e1:ρ (.tmp 40)=(.agg #[.bool sx,.slice ax nx cx,.bool false,.slice bx mx dx]):=h.2.1;obtain⟨v2,e2,az,rfl,r2⟩:=h.2.2.1;obtain⟨kx,k6,k7,k8,k9⟩:=(ab b m).out;refine⟨85,#[.agg #[.bool sx,.slice ax nx cx,.bool false,.slice bx mx dx],.agg az.toArray],by go_simp,((aX b m _ ⟨az,rfl,r2⟩).out).mono ?_⟩;rintro e w' ⟨cs,rfl,ag,al⟩;exact⟨_,rfl,ag,cs,rfl,al⟩
         case fin =>
          intro b m;rintro _ ⟨_,rfl,_⟩;rintro _ ⟨_,rfl,K,F,J,C,G,I,H,rfl,z9⟩;change wpList _ _ _ _ _ _;simp only[lq,lw,lx,lz,Act.put,lj,lk,ly];have V:=U.ext m;have aK:=aI.ext m;have aG:=D.trans m;have bv:(Al K F J C false G I H).toArray=#[.bool K,.slice F J C,.bool false,.slice G I H]:=rfl;have aS:CJ b (Al K F J C false G I H) (tq*(x:Rat)):=⟨K,F,J,C,G,I,H,rfl,z9⟩
          go_upto_region 12 with(refine CD rfl rfl (Al K F J C false G I H) (As B K F J C G I H) (by kernel_rfl) rfl rfl (by rfl) V (by rw[BC,h6];simp[Al,Ac]) (Aq _ _ _ _ _ _ _ _) (UW h6) ?_;intro w5 L a1)
          have aJ:=aK.keptX V AV ar a1;have aR:=aS.keptU (V.noU AV) a1;have aE:=aG.grownR a1 aN;have aB:=UU L (i:=f) (by omega);rw[HX.out]at aB;clear aK aS aG a1 V m z9
          go_upto_region 13 with(refine CD rfl rfl [.int .i64 (x-1)] (As (B.set f (x-1)) K F J C G I H) (by kernel_rfl) rfl rfl rfl L (by rw[BC,h6];simp;omega) (by simp[Value.oneCell']) (UV B f (by omega) (x-1)) ?_;intro w6 aD a2)
          have b4:=aJ.keptX L AV ar a2;have bg:=aR.keptU (L.noU AV) a2;have aF:=aE.grownR a2 aN;have aw:Hid (Pl.decE f B=B.set f (x-1)):=qh (by unfold Pl.decE;rw[HX.out]);obtain⟨y0,y1,y2,y3,y4,y5,aT⟩:=Bt (show(B.set f (x-1)).length=6 by simp[h6]);rw[aT]at aD aw;clear aT aJ aR aE L a2 aB;have bp:(As [y0,y1,y2,y3,y4,y5] K F J C G I H).toArray=#[.int .i64 y0,.int .i64 y1,.int .i64 y2,.int .i64 y3,.int .i64 y4,.int .i64 y5,.bool K,.slice F J C,.bool false,.slice G I H]:=rfl
          have y:=(Ext.refl w6).alloc (.cells (As [y0,y1,y2,y3,y4,y5] K F J C G I H).toArray 92);have Z:=b4.ext y;have bh:=bg.ext y;have b2:=Arr.new w6 92 (As [y0,y1,y2,y3,y4,y5] K F J C G I H);have bi:=(aF.trans y).size;have aW:=aF.trans y
          go_upto_region 14 with(first | (refine Ev (cs:=As [y0,y1,y2,y3,y4,y5] K F J C G I H) rfl rfl At rfl aD ?_) | (refine S7 rfl rfl rfl rfl Z b2 rfl bh (by omega) bi ?_;intro a8 c8 w8 b5 a4))
          have b1:=aW.grown a4 (fun k hk=>by obtain⟨rr,h1,_⟩:=Z;exact(h1.lt hk).1);go_wp2;go_roundw
          case rel=>exact⟨k+1,a8,n'+1,c8,rfl,by go_num,by omega,by omega,b1,by rw[ae.out,aa.out,gY E,aw.out];exact b5⟩
          case measure=>simp[intOf];omega
       · have b6:decide ((0:Int)<x)=false:=gR E;go_wp2;go_roundw
         case rel=>exact⟨k+1,a',n',c',rfl,by go_num,by omega,by omega,D,by rw[ae.out,aa.out,gT E,jL];exact aI⟩
         case measure=>simp[intOf];omega
     · have bc:k=n3:=by omega
       have ay:Hid (l.take k=l):=qh (gG (by rw[T.out];omega));rw[ay.out]at hO;clear bc ay;have a0:=qh (au.out.out (RL s.out.2.1) (fun _=>rfl));have be:=hO.len;have a5:=s.out.2.2.2.1;have aU:=qh (B6 (vars:=vn) (w0:=w3) (hT.ext A) hE hO (by omega) a0.out.1 a0.out.2.1 (by have:=a0.out.2.2;omega));have a6:=hE.cell a6;have br:=N.ext hE;clear be a5
       go_wp2_with fail
       refine aU.out.mono ?_;intro e w7 hw;have hq:=Fw.q (p:=Pl.derT f l) hw (RL s.out.2.1) (fun _=>rfl);obtain⟨rr,av⟩:∃ r,Hid (resQ (vn:Int) (Pl.derT f l)=r):=⟨_,qh rfl⟩;rw[av.out]at hq;obtain⟨a7,n7,c7,rfl,y,Z⟩:=hq;have bf:BS rr.1 a7 n7 c7 = .agg #[.int .i64 rr.1,.slice a7 n7 c7]:=rfl;rw[bf];have bB:(Ah rr.1 a7 n7 c7).toArray=#[.int .i64 rr.1,.slice a7 n7 c7]:=rfl;have aL:=N.ext y;clear hw aU a0
       go_wp2_with(refine Aa (vs:=Ah rr.1 a7 n7 c7) rfl rfl rfl rfl rfl Ad aL rfl (Am _ _ _ _) ?_;intro w8 b0 a4)
       refine gF (Ao rfl Ad rfl rfl b0) rfl ?_;show Cd _ (derA _ _ _) _ _;rw[S.out,av.out];exact⟨a7,n7,c7,rfl,(A.trans y).grownR a4 (by omega),(Z.mono A.size).keptA aL a4⟩
  · have S:Hid (derA va i (some l)=(0,[],3)):=qh (by unfold derA;simp only;rw[gT hi]);have a5:=s.out.2.2.2.1;by_cases bs:i<0
    · clear hi
      go_wp2_with(refine Aa (vs:=Ah 0 none 0 0) rfl rfl rfl rfl rfl Ad N rfl (Am _ _ _ _) ?_;intro w9 M O)
      refine gF (Ao rfl Ad rfl rfl M) rfl ?_;show Cd _ (derA _ _ _) _ _;rw[S.out];exact⟨none,0,0,rfl,A.grownR O (by omega),TmO.nil _ _⟩
    · have ba:va<=i:=by omega
      clear hi
      go_wp2_with(refine Aa (vs:=Ah 0 none 0 0) rfl rfl rfl rfl rfl Ad N rfl (Am _ _ _ _) ?_;intro w9 M O)
      refine gF (Ao rfl Ad rfl rfl M) rfl ?_;show Cd _ (derA _ _ _) _ _;rw[S.out];exact⟨none,0,0,rfl,A.grownR O (by omega),TmO.nil _ _⟩
theorem Pi(h:InV n e)(hi:i<n)(hp:0<e.getD i 0):InV n (Pl.decE i e)/\(Pl.decE i e).sum=e.sum-1:=by
 obtain⟨h6,g,a⟩:=h;have b:∀ (i:Nat) (e:List Int) (v:Int),i<e.length->(e.set i v).sum=e.sum-e.getD i 0+v:=by
  intro i
  induction i with
  | zero =>
   intro e v h;cases e with
   | nil=>simp at h
   | cons x r=>simp only[lV,lr,kD];omega
  | succ i ih =>
   intro e v h;cases e with
   | nil=>simp at h
   | cons x r =>
    simp only[lu,lr,kQ];rw[ih r v (by simpa using h)];omega
 have d:i<e.length:=by
  rcases iH i e.length with h|h
  · exact h
  · rw[gqq,ig h]at hp;simp at hp
 refine⟨⟨by rw[Pg,h6],fun x c => ?_,?_⟩,?_⟩
 · unfold Pl.decE at c;rcases j7 c with c|rfl
   · exact g x c
   · omega
 · unfold AY at a |-;have f:(Pl.decE i e).take n=(e.take n).set i (e.getD i 0-1):=by unfold Pl.decE;rw[List.take_set]
   rw[f,kA];unfold Pl.decE
   conv=>rhs;rw[<-a]
   rw[List.set_append_left _ _ (by rw[iq];omega)];congr 2;rw[a]
 · unfold Pl.decE;rw[b i e _ d];omega
section
variable {va vb vc:Int} {ta tb tc:List Tx}
theorem Hv{l:List Pl.Tm}(h:Pv v l)(hi:(i:Int)<v):∀ t∈Pl.derT i l,InV v.toNat t.1:=by
 intro u hu;obtain⟨t,a,hp,rfl⟩:=Cv hu;exact(Pi (h.inv t a) (by omega) hp).1
theorem Pv.der{l:List Pl.Tm}(h:Pv v l)(hi:(i:Int)<v):Pv v (cnP (Pl.derT i l)) :=
 ⟨h.v0,(Dv fun t a=>(Hv h hi t a).1).1,Jq (Hv h hi)⟩
end
theorem Nz{i:Int}{b:List Tx}{t:List Tx}(j:derA va i (rdP va b)=(v,t,err))(f:AM w)(g:AH w a n c b)(sa:∀ t∈b,t.1.length<=570)
 (d:∀ l,rdP va b=some l->0<=i->i<va->Cj (Pl.derT i.toNat l)) :
 Calls prog 22 #[.agg #[.int .i64 va,.slice a n c],.int .i64 i] w (Jc w v t err) :=
 (Ph f g sa d).mono fun e k h=>by
  rw[j]at h;exact Cl.v h
end Go.Proofs.YtlbmnokpiilfpaaGreatDoor
