/- Part Pz13. -/
import Derived.Test.YtlbmnokpiilfpaaGreatDoorPz12

set_option linter.all false
set_option maxRecDepth 100000
set_option maxHeartbeats 100000000
namespace Go.Proofs.YtlbmnokpiilfpaaGreatDoor
open Go Go.RowKit
variable {D Y n:Nat} {q:Rat}
theorem lG:∀ m,m<25->0<m->m∣5354228880:=by decide
theorem gd:5354228880<P2 33:=by unfold P2;decide
theorem jD{m:Nat}(h:Pl.QB D Y q)(h0:0<m)(h1:m<=24):Pl.QB (D*5354228880) (Y*5354228880) (q*(((m:Nat):Int):Rat)⁻¹):=by
 obtain⟨z,e,i⟩:=h;obtain⟨c,a⟩:=lG m (by omega) h0;refine⟨z*(c:Int),?_,?_⟩
 · have b:(((m:Nat):Int):Rat)≠0:=fun h=>by
    have:=q9 Rat.num h;simp at this;omega
   rw[a,vS,vS,wC,<-e];have d:((m:Nat):Rat)=(((m:Nat):Int):Rat):=rfl;have f:((c:Nat):Rat)=(((c:Nat):Int):Rat):=rfl;rw[d,f];obtain⟨M,g⟩:∃ M,(((m:Nat):Int):Rat)=M:=⟨_,rfl⟩;rw[g]at b |-;have h5:=Rat.inv_mul_cancel _ b;generalize (((c:Nat):Int):Rat)=C;generalize (D:Rat)=E
   calc q*M⁻¹*(E*(M*C))=q*E*C*(M⁻¹*M):=by grind
    _=q*E*C:=by rw[h5,wU]
 · rw[qW,pX,a];exact qK i (Nat.le_mul_of_pos_left _ h0)
theorem fj{D Y:Nat}{c:List Int->Prop}[∀ e,Decidable (c e)]:∀ {l:List Pl.Tm},Pl.SB D Y l->Pl.QB D (l.length*Y) (Pl.lin (fun e=>if c e then 1 else 0) l)
 | [],_=>Pl.QB.zero _ _
 | t :: r,h=>by
  have h1:Pl.QB D Y (t.2*(if c t.1 then 1 else 0)):=by
   split
   · rw[wU];exact h t (by simp)
   · rw[Rat.mul_zero];exact Pl.QB.zero _ _
  have h2:=Pl.QB.add h1 (fj (c:=c) (l:=r) (fun s a=>h s (by simp[a])));exact h2.mono (by rw[qk,qJ];omega)
theorem jE{b:Nat}{p:List Pl.Tm}(h:Pl.SB D Y p)(d:0<D)(h1:D<P2 b)(h2:p.length*Y<P2 b)(j:b<=1920)(g:Lo p)(l:p.length<=4096):EH p where
 pre:=fun a s e x=>by
  have i:Pl.SB D Y a:=fun t c=>h t (by rw[<-e];simp[c]);have f:a.length<=p.length:=by rw[<-e];simp
  exact((i.coef x).rb d h1 (pJ (px _ f) h2)).mono (by omega)
 each:=fun t c=>((h t c).rb d h1 (pJ (by
  have:1<=p.length:=rj c;have:=px Y this
  omega) h2)).mono (by omega)
 fits:=Rn h d h1 h2 j (fun t c=>⟨(g t c).1,fun x k=>by have:=(g t c).2 x k;omega⟩) (by omega)
theorem JQ{p:List Pl.Tm}(h:∀ t∈p,InV n t.1){e:List Int}(he:¬ InV n e):Pl.coef p e=0 :=
 Pl.coef_absent fun t a h1=>he (by rw[<-h1];exact h t a)
section
variable {gs:List (List Int)} {n N d y:Nat} {l:List Pl.Tm}
theorem bO(gs:List (List Int))(n:Nat)(l:List Pl.Tm):((sumK gs n l).map (·.1)).Nodup:=by
 have b:∀ (l a:List Pl.Tm),(a.map (·.1)).Nodup->((l.foldl (fun a t=>Pl.putK a (rk gs n t.1) (Pl.getK 0 a (rk gs n t.1)+t.2)) a).map (·.1)).Nodup:=by
  intro l
  induction l with
  | nil=>exact fun a h=>h
  | cons t r ih=>exact fun a h=>ih _ (Pl.putK_nodup _ _ _ h)
 exact b l [] (by simp)
theorem ge(G:GNs gs n)(a:∀ t∈l,InV n t.1){x:List Int}(c:x.length=n):Pl.coef (avP gs n l) (AY x)=Pl.lin (fun e=>if rk gs n e=AY (Yg gs x)then 1 else 0) l*(oN gs x)⁻¹:=by
 unfold avP;rw[iq G c (fun p hp => ?_) (bO gs n l),bZ];obtain⟨t,b,e⟩:=dS gs n l p hp;have h:=(a t b).tk G.n6;exact⟨Yg gs (t.1.take n),by rw[br,h],e,jy G h⟩
theorem fl(G:GNs gs n)(z:∀ t∈l,InV n t.1){t:Tx}(c:t∈avT gs n (sumK gs n l)):∃ s∈l,∃ a,G1 a=true/\a.length=n/\AY t.2=mp n a s.1/\t.2.length=n/\∃ k m,t.1=txt (Pl.getK 0 (sumK gs n l) k*(((m:Nat):Int):Rat)⁻¹)/\0<m/\m<=gs.length:=by
 obtain⟨p,hp,c⟩:=tO.1 c;obtain⟨s,i,e⟩:=dS gs n l p hp;have b:=(z s i).tk G.n6;unfold orbT at c;split at c
 · cases c
 · obtain⟨x,d,rfl⟩:=pU.1 c;rw[(bX _).mem_iff]at d;obtain⟨g,w,q⟩:=aK.1 d;obtain⟨h,y,r⟩:=aJ G.g (b.trans G.l.symm);obtain⟨j,B⟩:=G.p g w;obtain⟨o,A⟩:=G.p h y;have v:p.1.take n=mvd h (s.1.take n):=by
    have h1:=Zn (l:=Yg gs (s.1.take n));rw[br,b]at h1;rw[e];unfold rk;rw[h1,r]
   have f:x=mvd (comp g h) (s.1.take n):=by
    rw[<-q,v,fp j o (by omega) (by omega)]
   refine⟨s,i,comp g h,aD j o (by omega),by rw[Y3,A],?_,?_,p.1,_,?_,rj d,dp _⟩
   · show AY x=AY _;rw[f]
   · show x.length=n;rw[f,H5,b]
   · rw[Pl.getK_coef _ _ (bO gs n l),Pl.coef_mem (bO gs n l) hp]
theorem fm(G:GNs gs n)(c:∀ t∈l,InV n t.1){u:Pl.Tm}(hu:u∈avP gs n l):∃ s∈l,∃ a,G1 a=true/\a.length=n/\u.1=mp n a s.1/\∃ k m,u.2=Pl.getK 0 (sumK gs n l) k*(((m:Nat):Int):Rat)⁻¹/\0<m/\m<=gs.length:=by
 obtain⟨t,f,rfl⟩:=pU.1 hu;obtain⟨s,d,a,i,g,e,_,k,m,b,h1,h2⟩:=fl G c f;refine⟨s,d,a,i,g,e,k,m,?_,h1,h2⟩;show(AD t.1).getD 0=_;rw[b,Cx];rfl
theorem dr(G:GNs gs n)(b:∀ t∈l,InV n t.1):∀ u∈avP gs n l,InV n u.1:=fun u hu=>by
 obtain⟨s,c,a,f,d,e,_⟩:=fm G b hu;rw[e];exact eZ f d G.n6 (b s c)
theorem ko(G:GNs gs n)(b:∀ t∈l,InV n t.1)(h24:∀ t∈l,t.1.sum<=24):∀ u∈avP gs n l,u.1.sum<=24:=fun u hu=>by
 obtain⟨s,c,a,f,d,e,_⟩:=fm G b hu;rw[e,fa f d G.n6 (b s c)];exact h24 s c
theorem iz(h24:gs.length<=24):(avT gs n (sumK gs n l)).length<=l.length*24:=by
 have a:∀ K:List Pl.Tm,(avT gs n K).length<=K.length*24:=by
  intro K
  induction K with
  | nil=>simp[avT]
  | cons p r ih =>
   have b:avT gs n (p :: r)=orbT gs n p ++ avT gs n r:=by simp[avT]
   have h1:(orbT gs n p).length<=24:=by
    unfold orbT;split
    · simp
    · rw[pH,(bX _).length_eq];exact pD (dp _) h24
   rw[b,pZ,qk];omega
 exact pD (a _) (px _ (dR gs n l))
theorem Lo.avP(G:GNs gs n)(a:∀ t∈l,InV n t.1)(h24:∀ t∈l,t.1.sum<=24):Lo (avP gs n l):=fun u hu=>by
 have h1:=dr G a u hu;have h2:=ko G a h24 u hu;exact⟨h1.1,fun x b=>⟨h1.2.1 x b,by have:=(Dj h1.2.1).2 x b;show x<=_;omega⟩⟩
theorem SB.avP(G:GNs gs n)(b:∀ t∈l,InV n t.1)(a:gs.length<=24){D Y:Nat}(h:Pl.SB D Y l):Pl.SB (D*5354228880) (l.length*Y*5354228880) (avP gs n l):=fun u hu=>by
 obtain⟨_,_,_,_,_,_,k,m,e,h1,h2⟩:=fm G b hu;rw[e,bZ];exact jD (fj h) h1 (by omega)
theorem lH(G:GNs gs n)(o:gs.length<=24)(h:Bd (n:Int) N d y l)(h24:∀ t∈l,t.1.sum<=24)(J:N<=128)(Q:d<=300)(R:y<=300):kR gs n l:=by
 have j:=h.pv.inv;obtain⟨D,r,v,w⟩:=h.sb;have h7:l.length<=P2 7:=pD h.len (pD J (by unfold P2;decide));have F:l.length*P2 y<P2 308:=by
  refine pJ (px _ h7) ?_;rw[<-Bw];exact DC (by omega)
 have H:l.length*P2 y*5354228880<P2 341:=BJ F gd
 have M:∀ k e,Pl.RB 400 (Pl.getK 0 (sumK gs n (l.take k)) e):=fun k e=>by
  have h1:=fj (c:=fun f=>rk gs n f=e) (l:=l.take k) (fun t i=>w t (rF i));rw[bZ];refine h1.rb r (Af v (by omega)) (Af (pJ (px _ ?_) F) (by omega));rw[qg];omega
 have p:∀ q,Pl.RB 400 q->(txt q).length<=570:=fun q h=>by have:=VJ h;omega
 have L:=iz (gs:=gs) (n:=n) (l:=l) o;have K:l.length*24<=128*24:=px _ (pD h.len J);refine⟨M,fun t i=>(w t i).rb r (Af v (by omega)) (DC (by omega)),p,by omega,by omega,fun t i => ?_,fun t i => ?_,?_⟩
 · obtain⟨s,A,a,E,C,e,g,k,m,z,_⟩:=fl G j i;have I:=eZ E C G.n6 (j s A);have B:=fa E C G.n6 (j s A);rw[<-e]at I B;rw[M3]at B;refine⟨by rw[z,Cx];rfl,by rw[g],CN.2 ⟨by have:=G.n6;omega,fun x O=>I.2.1 x (List.mem_append_left _ O),by rw[B];exact h24 s A⟩⟩
 · obtain⟨s,A,a,E,C,e,g,k,m,z,h1,h2⟩:=fl G j i;rw[z,bZ];refine p _ ((jD (fj w) h1 (by omega)).rb (tA r (by omega)) (Af (BJ v gd) (by omega)) (Af H (by omega)))
 · refine jE (b:=400) (SB.avP G j o w) (tA r (by omega)) (Af (BJ v gd) (by omega)) ?_ (by omega) (Lo.avP G j h24) (by rw[pH];omega);have h12:(avP gs n l).length<=P2 12:=by
    have P:(avP gs n l).length=(avT gs n (sumK gs n l)).length:=pH ..;have z:4096<=P2 12:=by unfold P2;decide
    omega
   have h3:(avP gs n l).length*(l.length*P2 y*5354228880)<=P2 12*P2 341:=qK h12 (sI H);rw[<-Bw]at h3;exact pJ h3 (DC (by omega))
theorem Bd.avP(G:GNs gs n)(a:gs.length<=24)(h:Bd (n:Int) N d y l)(h24:∀ t∈l,t.1.sum<=24){k:Nat}(m:N*(N*24)<=P2 k):Bd (n:Int) (N*24) (d+33) (k+(y+33)) (cnP (avP gs n l)):=by
 have c:=dr G h.pv.inv;have h6:∀ t∈Go.Proofs.YtlbmnokpiilfpaaGreatDoor.avP gs n l,t.1.length=6:=fun t b=>(c t b).1;have p:(Go.Proofs.YtlbmnokpiilfpaaGreatDoor.avP gs n l).length<=l.length*24:=by unfold Go.Proofs.YtlbmnokpiilfpaaGreatDoor.avP;rw[pH];exact iz a
 have o:l.length*24<=N*24:=px _ h.len;obtain⟨D,f,g,i⟩:=h.sb;refine⟨⟨h.pv.v0,(Dv h6).1,Jq c⟩,fun t b => ?_,pD (Jr h6) (by omega),D*5354228880,tA f (by omega),BJ g gd,(SB.cn h6 (SB.avP G h.pv.inv a i)).mono ?_⟩
 · obtain⟨s,q,e⟩:=Jp h6 b;rw[<-e];exact Lo.avP G h.pv.inv h24 s q
 · have h3:(Go.Proofs.YtlbmnokpiilfpaaGreatDoor.avP gs n l).length*(l.length*P2 y*5354228880)<=N*24*(N*P2 y*P2 33):=qK (by omega) (qK (px _ h.len) (sI gd));refine pD h3 ?_;have j:N*24*(N*P2 y*P2 33)=N*(N*24)*(P2 y*P2 33):=by
    rw[rT N (P2 y),<-rT,rT N 24 N,pM 24 N]
   rw[j,Bw,Bw];exact px _ m
theorem kX(G:GNs gs n)(o:∀ t∈l,InV n t.1){a:List Int}(r:a∈gs)(e:List Int):Pl.coef (ZC n a (cnP (avP gs n l))) e=Pl.coef (avP gs n l) e:=by
 obtain⟨i,b⟩:=G.p a r;have m:=dr G o;have h6:∀ t∈avP gs n l,t.1.length=6:=fun t d=>(m t d).1;have g:=Jq m;by_cases he:InV n e
 · have s:=aX i;have w:(Zr a a.length).length=n:=by rw[Zu,b]
   have j:=eZ s w G.n6 he;have q:mp n a (mp n (Zr a a.length) e)=e:=by
    rw[kJ i s b w G.n6 he,aC i];unfold mp;have d:=he.tk G.n6;have h1:mvd (idn a.length) (e.take n)=e.take n:=by
     refine(fh (dV (by rw[b];exact G.n6)) (by rw[ZJ,d,b]) (by rw[ZJ,d,b])).2 ?_;rw[b]
     conv=>rhs;rw[<-d]
     rw[d]
     conv=>rhs;rw[show idn n=idn (e.take n).length by rw[d]]
     rw[ZU]
    rw[h1,he.2.2]
   generalize mp n (Zr a a.length) e=f at j q;subst q;rw[jo i b G.n6 g j,(Dv h6).2];have k:=j.tk G.n6;have x:AY (f.take n)=f:=j.2.2;have y:mp n a f=AY (mvd a (f.take n)):=rfl;have c:(mvd a (f.take n)).length=n:=by rw[H5,k]
   have v:=(aB G k c).1 ⟨a,r,rfl⟩;rw[y]
   conv=>lhs;rw[<-x]
   rw[ge G o k,ge G o c,<-v];unfold oN;rw[bY G k c v]
 · rw[JQ m he,JQ (dh i b G.n6 g) he]
end
end Go.Proofs.YtlbmnokpiilfpaaGreatDoor
