/- Part PqPwo. -/
import Derived.Test.YtlbmnokpiilfpaaGreatDoorPqPIb
import Derived.Test.YtlbmnokpiilfpaaGreatDoorPqDx1

set_option linter.all false
set_option maxRecDepth 100000
set_option maxHeartbeats 100000000
namespace Go.Proofs.YtlbmnokpiilfpaaGreatDoor
open Go Go.RowKit
variable {e:List Int} {N v:Nat}
theorem MC{v:Nat}{S:Int}{l:List Pl.Tm}(hi:∀ t∈l,InV v t.1/\t.1.sum<=S):∀ i:Nat,∀ t∈Pl.powT l i,InV v t.1/\t.1.sum<=S*i
 | 0,t,ht=>by
  have h1:t.1=List.replicate 6 0:=by
   have h2:Pl.powT l 0=[(List.replicate 6 0,1)]:=by show CQ 1=_;unfold CQ;rw[gT (by decide)];rfl
   rw[h2]at ht;rw[gL.1 ht]
  rw[h1];refine⟨⟨rfl,by intro x d;rw[List.eq_of_mem_replicate d];omega,?_⟩,by simp⟩;unfold AY;rw[List.take_replicate,List.length_replicate,List.replicate_append_replicate];congr 1;omega
 | i+1,t,ht=>by
  obtain⟨u,hu,ht⟩:=jS.1 ht;obtain⟨s,c,rfl⟩:=ie.1 ht;obtain⟨h1,h2⟩:=MC hi i u hu;obtain⟨h3,h4⟩:=hi s c;refine⟨EI (a:=[u]) (b:=[s]) (by intro t ht;rw[gL.1 ht];exact h1) (by intro t ht;rw[gL.1 ht];exact h3) _ (by simp[Pl.prodT]),?_⟩;show(Pl.plE u.1 s.1).sum<=_;rw[Pl.plE_sum (by rw[h1.1,h3.1])];have:S*((i+1:Nat):Int)=S*i+S:=by rw[iy];simp[Int.mul_add]
  omega
theorem RP{D Y:Nat}{l:List Pl.Tm}(h:Pl.SB D Y l):∀ i:Nat,Pl.SB (D^i) (Y^i) (Pl.powT l i)
 | 0=>fun t a=>by
  have h2:Pl.powT l 0=[(List.replicate 6 0,1)]:=by show CQ 1=_;unfold CQ;rw[gT (by decide)];rfl
  rw[h2]at a;rw[gL.1 a];exact⟨1,by simp,by simp⟩
 | i+1=>by
  have h1:=(RP h i).prod h
  rwa[<-ip,<-ip]at h1
theorem Pw(l:List Pl.Tm):∀ i:Nat,(Pl.powT l i).length=l.length^i
 | 0=>by show(CQ 1).length=1;unfold CQ;rw[gT (by decide)];rfl
 | i+1=>by
  show(Pl.prodT (Pl.powT l i) l).length=_;rw[Dg,Pw l i,ip]
theorem NC{x a:Nat}(h:x<=P2 a):∀ i:Nat,x^i<=P2 (a*i)
 | 0=>by rw[kn,kY];exact KW 0
 | i+1=>by
  rw[ip,jB,km,Bw];exact j5 (NC h i) h
def XS:List (List Int):=(List.range 25).flatMap fun(a:Nat)=>(List.range 25).map fun(b:Nat)=>[(a:Int),(b:Int),0,0,0,0]
theorem U5:XS.length=625:=by decide +kernel
theorem U6(n:v<=2)(hi:InV v e)(l:e.sum<=24):e∈XS:=by
 obtain⟨h6,i,hp⟩:=hi
 match e,h6 with
 | [a,b,c,d,f,g],_ =>
 have m:c=0/\d=0/\f=0/\g=0:=by
  have h02:v=0\/v=1\/v=2:=by omega
  rcases h02 with rfl|rfl|rfl <;> simp[AY]at hp <;> omega
 obtain⟨rfl,rfl,rfl,rfl⟩:=m;have j:=i a (by simp);have k:=i b (by simp);simp at l;refine jS.2 ⟨a.toNat,lQ.2 (by omega),ie.2 ⟨b.toNat,lQ.2 (by omega),?_⟩⟩;rw[Int.toNat_of_nonneg j,Int.toNat_of_nonneg k]
structure PwH(v:Nat)(D:Nat)(l:List Pl.Tm)(k:Nat):Prop where
 v2:v<=2
 inv:∀ t∈l,InV v t.1
 ln:l.length<=3
 sb:Pl.SB D (P2 39) l
 d0:0<D
 d1:D<P2 25
 k24:k<=24
 dg:∀ t∈l,t.1.sum*k<=24
section
variable {v D k i:Nat} {l out:List Pl.Tm}
theorem PwH.sum(H:PwH v D l k)(hi:i<=k):∀ t∈Pl.powT l i,InV v t.1/\t.1.sum<=24:=by
 have h0:∀ t∈l,0<=t.1.sum:=fun t a=>(Dj (H.inv t a).2.1).1;have f:∃ S:Int,0<=S/\S*k<=24/\∀ t∈l,t.1.sum<=S:=by
  by_cases b:l=[]
  · exact⟨0,by omega,by omega,fun t a=>by rw[b]at a;cases a⟩
  · refine⟨Bu l,?_,?_,fun t a=>Fs a⟩
    · obtain⟨t,r,rfl⟩:=je b;have:=Fs (l:=t :: r) (t:=t) (by simp);have:=h0 t (by simp);omega
    · obtain⟨t,a,he⟩:∃ t∈l,Bu l<=t.1.sum:=by
       refine ia fun g => ?_;obtain⟨t,r,e⟩:=je b;have c:t∈l:=by rw[e];simp
       have h1:Bu l<=Bu l-1:=JD (by have:=Fs c;have:=h0 t c;omega) (fun s d=>by
        have h2:=Fs d;have h3:¬ Bu l<=s.1.sum:=fun h=>g ⟨s,d,h⟩
        omega)
       omega
      have h1:=H.dg t a;have h2:=jh he (show(0:Int)<=k by omega);omega
 obtain⟨S,j,s1,m⟩:=f;intro t a;obtain⟨h1,h2⟩:=MC (fun t a=>⟨H.inv t a,m t a⟩) i t a;refine⟨h1,?_⟩;have h3:=jd (show(i:Int)<=k by omega) j;omega
theorem PwH.fct(H:PwH v D l k)(hi:i<=k)(c:Pl.Nrm out)(f:∀ e,Pl.coef out e=Pl.coef (Pl.powT l i) e):out.length<=625/\Pl.SB (D^i) (P2 (41*i)) out/\∀ t∈out,InV v t.1/\t.1.sum<=24:=by
 have d:∀ t∈out,Pl.coef (Pl.powT l i) t.1=t.2:=fun t a=>Kj c f a
 have b:∀ t∈out,InV v t.1/\t.1.sum<=24:=fun t a=>by
  obtain⟨s,g,e⟩:=Pl.coef_present (show Pl.coef (Pl.powT l i) t.1≠0 by rw[d t a];exact c.nz t a);rw[<-e];exact H.sum hi s g
 refine⟨?_,fun t a => ?_,b⟩
 · have h1:=Pl.nodup_le (out.map (·.1)) XS c.nodup (fun e he=>by
    obtain⟨t,a,rfl⟩:=ie.1 he
    exact U6 H.v2 (b t a).1 (b t a).2)
   rw[iM,U5]at h1;exact h1
 · have h1:=(RP H.sb i).coef t.1;rw[d t a,Pw]at h1;refine h1.mono ?_;have h2:l.length^i<=P2 (2*i):=NC (gJ H.ln (by unfold P2;decide)) i;have h3:=NC (lrf (P2 39)) i;rw[show 41*i=2*i+39*i by omega,Bw];exact j5 h2 h3
theorem PwH.den(H:PwH v D l k)(hi:i<=k):0<D^i/\D^i<P2 601:=by
 refine⟨kG H.d0,gN (NC (ko H.d1) i) (DC ?_)⟩;have:=H.k24;omega
theorem sbe(h:InV v e/\e.sum<=24):e.length=6/\∀ x∈e,0<=x/\x<=24:=by
 have h1:=Dj h.1.2.1;exact⟨h.1.1,fun x a=>by have:=h.1.2.1 x a;have:=h1.2 x a;omega⟩
theorem PwH.mul(H:PwH v D l k)(hi:i<k)(B:Pl.Nrm out)(z:∀ e,Pl.coef out e=Pl.coef (Pl.powT l i) e):CF out l:=by
 obtain⟨h1,h2,h3⟩:=H.fct (ko hi) B z;obtain⟨d,f⟩:=H.den (ko hi);have C:=H.k24;have g:=H.ln;have m:P2 (41*i)<P2 944:=DC (by omega);have hp:=h2.prod H.sb;have o:(Pl.prodT out l).length<=1875:=by rw[Dg];exact j5 h1 g
 have b:∀ p s,p ++ s=Pl.prodT out l->∀ e,Pl.RB 1000 (Pl.coef p e):=fun p s e x=>by
  have j:Pl.SB (D^i*D) (P2 (41*i)*P2 39) p:=fun t a=>hp t (by rw[<-e];simp[a]);have A:p.length<=P2 11:=gJ (show p.length<=1875 by have:=iP List.length e;rw[iD]at this;omega) (by unfold P2;decide);refine(j.coef x).rb (m6 d H.d0) (Af (BJ f H.d1) (by omega)) ?_;refine gN (gH _ A) ?_;rw[<-Bw,<-Bw];exact DC (by omega)
 have n:∀ t∈l,InV v t.1/\t.1.sum<=24:=fun t a=>⟨H.inv t a,by
  have h4:=H.dg t a;have h5:=(Dj (H.inv t a).2.1).1;have h6:=jd (show(1:Int)<=k by omega) h5
  omega⟩
 have w:Bp out:=fun t a=>⟨(sbe (h3 t a)).1,fun x c=>by have:=(sbe (h3 t a)).2 x c;omega⟩;have y:Bp l:=fun t a=>⟨(sbe (n t a)).1,fun x c=>by have:=(sbe (n t a)).2 x c;omega⟩
 refine CF.ofF (fun t a=>(h2 t a).rb d (Af f (by omega)) (Af m (by omega))) (fun t a=>(H.sb t a).rb H.d0 (Af H.d1 (by omega)) (DC (by omega))) w y (gN (h2.lcm d) (Af f (by omega))) (gN (H.sb.lcm H.d0) (Af H.d1 (by omega))) (by omega) (by omega) (fun p s e x=>(b p s e x).mono (by omega)) ⟨fun e h=>⟨RB.str (b (Pl.prodT out l) [] (by simp) e) (by omega),?_⟩,by omega⟩;obtain⟨u,hu,rfl⟩:=Pl.coef_present h;obtain⟨s,j,hu⟩:=jS.1 hu;obtain⟨t,a,rfl⟩:=ie.1 hu;have q:=sbe (h3 s j);have r:=sbe (n t a)
 exact⟨DN q.1 r.1,fun x c=>by have:=RT q.2 r.2 x c;omega⟩
theorem PwH.ok(H:PwH v D l k):WL l k where
 step:=fun i j e d c=>H.mul j d c
 fits:=fun e d c=>by
  obtain⟨h1,h2,h3⟩:=H.fct (lrf k) d c;obtain⟨f,g⟩:=H.den (lrf k);have n:=H.k24;exact⟨fun t a=>⟨(sbe (h3 t a)).1,fun x m=>by have:=(sbe (h3 t a)).2 x m;omega⟩,fun t a=>RB.str ((h2 t a).rb (b:=985) f (Af g (by omega)) (DC (by omega))) (by omega),by omega⟩
end
theorem Zf{s:Pl.Tm}{b:List Pl.Tm}(c:s.1.length=N)(a:∀ t∈b,t.1.length=N):AC (b.map (fun t=>(Pl.plE s.1 t.1,s.2*t.2)))=(AC b).map (fun t=>(Pl.plE (AY s.1) t.1,s.2*t.2)):=by
 unfold AC;rw[jO,jO];refine kh fun t d => ?_;show(AY (Pl.plE s.1 t.1),s.2*t.2)=(Pl.plE (AY s.1) (AY t.1),s.2*t.2);rw[RV c (a t d)]
theorem Td{N:Nat}{b:List Pl.Tm}(c:∀ t∈b,t.1.length=N):∀ {a:List Pl.Tm},(∀ t∈a,t.1.length=N)->AC (Pl.prodT a b)=Pl.prodT (AC a) (AC b)
 | [],_=>rfl
 | s :: r,ha=>by
  have h1:Pl.prodT (s :: r) b=b.map (fun t=>(Pl.plE s.1 t.1,s.2*t.2)) ++ Pl.prodT r b:=by simp[Pl.prodT]
  have h2:Pl.prodT (AC (s :: r)) (AC b)=(AC b).map (fun t=>(Pl.plE (AY s.1) t.1,s.2*t.2)) ++ Pl.prodT (AC r) (AC b):=by simp[Pl.prodT,AC]
  rw[h1,h2,UQ,Zf (ha s (by simp)) c,Td c (fun t d=>ha t (by simp[d]))]
theorem Hx{N:Nat}{l:List Pl.Tm}(h:∀ t∈l,t.1.length=N):∀ i:Nat,∀ t∈Jg N l i,t.1.length=N
 | 0,t,ht=>by rw[gL.1 ht];exact List.length_replicate
 | i+1,t,ht=>by
  obtain⟨s,hs,ht⟩:=jS.1 ht;obtain⟨u,hu,rfl⟩:=ie.1 ht;exact DN (Hx h i s hs) (h u hu)
theorem IA{N:Nat}(a:N<=6){l:List Pl.Tm}(h:∀ t∈l,t.1.length=N):∀ i:Nat,AC (Jg N l i)=Pl.powT (AC l) i
 | 0=>by
  show [(AY (List.replicate N 0),(1:Rat))]=CQ 1;unfold CQ AY;rw[gT (by decide),List.length_replicate,List.replicate_append_replicate,show N+(6-N)=6 by omega];rfl
 | i+1=>by
  show AC (Pl.prodT (Jg N l i) l)=Pl.prodT (Pl.powT (AC l) i) (AC l);rw[Td h (Hx h i),IA a h i]
theorem PwH.ref{D k i:Nat}{la out:List Pl.Tm}(l:∀ t∈la,t.1.length=N)(H:PwH N D (AC la) k)(hi:i<=k)(a:Pl.Canon N out)(p:∀ e,Pl.coef out e=Pl.coef (Jg N la i) e):PwS N 1034 la out:=by
 have r:=H.v2;have v:=H.k24;have hp:=KN (n:=N) (by omega) a
 have c:∀ e,Pl.coef (AC out) e=Pl.coef (Pl.powT (AC la) i) e:=fun e=>by
  rw[<-IA (by omega) l i];exact KM a.len (Hx l i) (fun e _=>p e) e
 obtain⟨h1,h2,h3⟩:=H.fct hi (Dh hp) c;obtain⟨g,j⟩:=H.den hi;rw[OR]at h1;have m:∀ t∈out,(AY t.1,t.2)∈AC out:=fun t b=>ie.2 ⟨t,b,rfl⟩;have o:∀ t∈out,Pl.QB (D^i) (P2 (41*i)) t.2:=fun t b=>h2 (AY t.1,t.2) (m t b);have d:∀ t∈la,Pl.QB D (P2 39) t.2:=fun t b=>H.sb (AY t.1,t.2) (ie.2 ⟨t,b,rfl⟩)
 refine⟨by omega,fun t b=>⟨a.len t b,fun x q => ?_⟩,fun s f=>(o s f).rb g (Af j (by omega)) (DC (by omega)),fun s f t b=>((o s f).mul (d t b)).rb (m6 g H.d0) (Af (BJ j H.d1) (by omega)) (by rw[<-Bw];exact DC (by omega))⟩;have h4:=(sbe (h3 _ (m t b))).2 x (List.mem_append_left _ q);omega
end Go.Proofs.YtlbmnokpiilfpaaGreatDoor
