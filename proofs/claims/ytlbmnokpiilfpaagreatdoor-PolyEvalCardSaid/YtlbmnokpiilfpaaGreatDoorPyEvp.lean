/- Part PyEvp. -/
import Derived.Test.YtlbmnokpiilfpaaGreatDoorPyRpr
import Derived.Test.YtlbmnokpiilfpaaGreatDoorPyEvb

set_option linter.all false
set_option maxRecDepth 100000
set_option maxHeartbeats 100000000
namespace Go.Proofs.YtlbmnokpiilfpaaGreatDoor
open Tryz Go Go.RowKit
variable {va:Int} {es:List Int} {m:Nat} {q:Rat}
theorem Nm{xs:List (List UInt8)}{pt:List Rat}(h:rdAll xs=some pt)(e:∀ x∈xs,x.length<=12):∀ q∈pt,J3 q:=by
 unfold rdAll at h;split at h
 · rename_i h1;cases h;intro q d;obtain⟨x,b,rfl⟩:=gT.1 d;obtain⟨i,a,rfl⟩:=kI b;have h2:=h1 i a;rw[gqq,oN a,pg]at h2;obtain⟨z,c⟩:=je.1 h2;rw[c,pg];exact J3.of (by rw[<-Du c];exact e _ b)
 · cases h
theorem J3.rb(h:J3 q):Pl.RB 40 q:=by
 have a:10^12<=P2 40:=by unfold P2;decide
 have h1:=h.n;have h2:=h.d;exact⟨by omega,by omega⟩
theorem PR{pt:List Rat}{a:List Int}(hp:∀ v,v<pt.length->Pl.RB 40 (pt.getD v 0))(he:∀ v,(a.getD v 0).toNat<=24):∀ k,k<=pt.length->Pl.RB (961*k+1) (Pl.valE pt a k)
 | 0,_=>⟨Dr (by omega),Dr (by omega)⟩
 | k+1,hk=>by
  unfold Pl.valE;have h1:=he k;exact(Pl.RB.mul (PR hp he k (by omega)) (RB.pow (hp k (by omega)) ((a.getD k 0).toNat))).mono (by omega)
theorem SQ{b:Nat}{pt:List Rat}:∀ {l:List Pl.Tm},(∀ t∈l,Pl.RB b (t.2*Pl.valE pt t.1 pt.length))->Pl.RB ((b+1)*l.length+1) (Pl.evq pt l)
 | [],_=>⟨Ha _,Dr (by omega)⟩
 | t :: r,h=>by
  show Pl.RB _ (t.2*Pl.valE pt t.1 pt.length+Pl.evq pt r);refine(Pl.RB.add (h t (by simp)) (SQ fun s a=>h s (by simp[a]))).mono ?_;rw[io,iE];omega
theorem Nn{ts:List Tx}{l:List Pl.Tm}(h:rdR va ts=some l):∀ t∈l,∀ x∈t.1,0<=x/\x<=24:=fun t b x a=>by
 have h1:rdP va ts=some (A8 l):=by rw[Ju,h];rfl
 have h2:(BA t.1,t.2)∈A8 l:=gT.2 ⟨t,b,rfl⟩;have h3:=Gc h1 _ h2;have h4:=GY fun x a=>((Dm h1 _ h2).2 x a).1;have h5:x∈BA t.1:=List.mem_append_left _ a;have h6:=h4.2 x h5;exact⟨((Dm h1 _ h2).2 x h5).1,by omega⟩
theorem T8(h:∀ x∈es,0<=x/\x<=24)(v:Nat):(es.getD v 0).toNat<=24:=by
 rcases gQ v es.length with a|a
 · have:=h _ (Jp a);omega
 · rw[gqq,pu a];simp
theorem Wa{ts:List Tx}{xs:List (List UInt8)}{l:List Pl.Tm}{pt:List Rat}(h:rdR va ts=some l)(hp:rdAll xs=some pt)(i:Bf ts 8 12)(f:∀ x∈xs,x.length<=12)(o:pt.length=m)(p:(m:Int)=va):AtB pt l:=by
 have h1:=BP h;have d:va.toNat=pt.length:=by omega
 have n:=Nm hp f
 have c:∀ v,v<pt.length->Pl.RB 40 (pt.getD v 0):=fun v d=>by
  rw[gqq,oN d];exact(n _ (iF d)).rb
 have j:=Og h (k:=12) fun t a=>(i.2 t a).1;have g:l.length<=8:=by rw[h1.1,iM];exact i.1
 have a:∀ t∈l,∀ k,k<=pt.length->Pl.RB 6000 (t.2*Pl.valE pt t.1 k):=fun t a k e =>
  (Pl.RB.mul (j t a) (PR c (T8 (Nn h t a)) k e)).mono (by omega)
 refine⟨fun t a=>⟨by rw[(TG h t a).1];exact d,fun x f=>by have:=Nn h t a x f;omega⟩,fun v d=>(c v d).mono (by omega),fun t h2 k e=>(a t h2 k e).mono (by omega),fun k => ?_⟩;refine(SQ (b:=6000) fun t h2=>a t (iZ h2) _ (lrf _)).mono ?_;rw[gO];omega
theorem T9{ts:List Tx}{l:List Pl.Tm}(h:rdR va ts=some l)(f:Bf ts 8 12):(∀ k,Pl.RB 1000000 (Dy (l.take k)))/\∀ t∈l,Pl.RB 1000000 t.2:=by
 have h1:=BP h;have d:=Og h (k:=12) fun t a=>(f.2 t a).1;have e:l.length<=8:=by rw[h1.1,iM];exact f.1
 refine⟨fun k=>(IG (b:=48) (l.take k) (c:=1) (Pl.RB.zero (by omega)) (fun t a=>d t (iZ a))).mono (by rw[gO];omega),fun t a=>(d t a).mono (by omega)⟩
theorem Wb:10^12<=P2 40:=by unfold P2;decide
theorem PS{ts:List Tx}{l:List Pl.Tm}(h:rdP va ts=some l)(d:Bf ts 8 12):CP l/\DD (BH (primF l) l):=by
 have a:=Bd.of h d (by omega) Wb;have c:=Bd.cont a (by omega) (by omega);have h1:=Bd.crb a (b:=400) (by omega) (by omega);have h2:=RB.inv h1 (by omega);have h3:Pl.RB 400 (primF l):=by
  unfold primF;split
  · exact⟨by rw[Rat.neg_num,ki];exact h2.1,by rw[Rat.neg_den];exact h2.2⟩
  · exact h2
 exact⟨c,Rb.fits (Bd.rbs a h (b:=400) (by omega) (by omega) (by omega)) h3 (by omega)⟩
section
variable {va:Int} {a b:Option Addr} {n c m d:Nat} {ta:List Tx} {xs:List (List UInt8)} {w:World} {tv:List UInt8} {ev v err:Int} {t:List Tx}
theorem OM(j:evA va m (rdP va ta) (rdAll xs)=(tv,ev))(g:AV w)(i:Be w a n c ta)(f:Db w b m d xs)(sa:Bf ta 8 12)(sb:∀ x∈xs,x.length<=12)(p:m<=10) :
 Calls prog 57 #[.agg #[.int .i64 va,.slice a n c],.slice b m d] w (Cl w tv ev):=by
 have o:xs.length=m:=by obtain⟨_,_,h,_⟩:=f;exact h
 refine(Ky g i f (Jc sa (by omega)) (fun x k=>oS (sb x k) (by omega)) (by omega) (fun l q h1 h2 h3 => ?_)).mono fun e r h => ?_
 · have h4:=Fh h2;have h5:=Bl h1;exact V9 h1 sa (Nm h2 sb) (by have:=h5.1;omega)
 · have h:=h.a;rw[j]at h;exact h
theorem Np(i:evA va m (rdP va ta) (rdAll xs)=(tv,ev))(f:Be w a n c ta)(g:Db w b m d xs)(sa:Bf ta 8 12)(sb:∀ x∈xs,x.length<=12)(o:m<=10) :
 Calls prog 58 #[.agg #[.int .i64 va,.slice a n c],.slice b m d] w (Cl w tv ev):=by
 have e:xs.length=m:=by obtain⟨_,_,h,_⟩:=g;exact h
 have p:n<=8:=by have:=f.len;have:=sa.1;omega
 have h0:=ON (va:=va) f g (fun t j=>oS (sa.2 t j).1 (by omega)) (fun x k=>oS (sb x k) (by omega)) (by omega) (by omega) (fun l q h1 h2 h3=>Wa h1 h2 sa sb (by rw[Fh h2,e]) h3);rw[i]at h0;exact h0
theorem Kq(e:contA (rdP va ta)=(tv,ev))(b:AV w)(d:Be w a n c ta)(sa:Bf ta 8 12) :
 Calls prog 59 #[.agg #[.int .i64 va,.slice a n c]] w (Cl w tv ev):=by
 have h0:=LA (va:=va) b d (Jc sa (by omega)) (fun l h=>(PS h sa).1);rw[e]at h0;exact h0
theorem J4(d:contA (rdP va ta)=(tv,ev))(b:Be w a n c ta)(sa:Bf ta 8 12) :
 Calls prog 60 #[.agg #[.int .i64 va,.slice a n c]] w (Cl w tv ev):=by
 have f:n<=8:=by have:=b.len;have:=sa.1;omega
 have h0:=Kr (va:=va) b (fun t e=>oS (sa.2 t e).1 (by omega)) (by omega) (fun l h=>T9 h sa);rw[d]at h0;exact h0
theorem Is(f:primA va (rdP va ta)=(v,t,err))(b:AV w)(d:Be w a n c ta)(sa:Bf ta 8 12) :
 Calls prog 61 #[.agg #[.int .i64 va,.slice a n c]] w (UT w v t err) :=
 (Je b d (Jc sa (by omega)) (fun l h=>PS h sa)).mono fun e g h=>by
  rw[f]at h;exact EH.v h
theorem Hl(d:primA va (rdP va ta)=(v,t,err))(b:Be w a n c ta)(sa:Bf ta 8 12) :
 Calls prog 62 #[.agg #[.int .i64 va,.slice a n c]] w (UT w v t err) :=
 (It b (fun t f=>(sa.2 t f).1) (by have:=b.len;have:=sa.1;omega)).mono fun e g h=>by
  rw[d]at h;exact EH.v h
end
end Go.Proofs.YtlbmnokpiilfpaaGreatDoor
