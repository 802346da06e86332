/- Part PzAvu. -/
import Derived.Test.YtlbmnokpiilfpaaGreatDoorPz13
import Derived.Test.YtlbmnokpiilfpaaGreatDoorPzRac

set_option linter.all false
set_option maxRecDepth 100000
set_option maxHeartbeats 100000000
namespace Go.Proofs.YtlbmnokpiilfpaaGreatDoor
open Go Go.RowKit
variable {a b gs:List (List Int)} {e m:List Int} {k n:Nat} {f:Rat}
def avU(f:Rat)(gs:List (List Int))(l:List Pl.Tm):List Pl.Tm:=gs.flatMap fun g=>Pl.scl f (actU g l)
def avL(f:Rat)(gs:List (List Int))(n:Nat)(l:List Pl.Tm):List Pl.Tm:=gs.flatMap fun g=>Pl.scl f (ZC n g l)
theorem gF{l:List Pl.Tm}(h:k<gs.length):avU f (gs.take (k+1)) l=avU f (gs.take k) l ++ Pl.scl f (actU (gs.getD k []) l):=by
 unfold avU;rw[pB h,List.flatMap_append];simp[h]
theorem fC{l:List Pl.Tm}{t:Pl.Tm}(h:t∈avU f gs l):∃ g∈gs,∃ s∈l,t=(mvd g s.1,f*s.2):=by
 obtain⟨g,a,h1⟩:=tO.1 h;obtain⟨u,hu,rfl⟩:=pU.1 h1;obtain⟨s,b,rfl⟩:=pU.1 hu;exact⟨g,a,s,b,rfl⟩
theorem cC(f:Rat)(l:List Pl.Tm):∀ a:List (List Int),(avU f a l).length=a.length*l.length
 | []=>by simp[avU]
 | g :: r=>by
  have e1:avU f (g :: r) l=Pl.scl f (actU g l) ++ avU f r l:=by simp[avU]
  rw[e1,pZ,cC f l r,qk,qJ,sk,show(Pl.scl f (actU g l)).length=(actU g l).length from pH _,aE,rO]
theorem gG{f:Rat}{n:Nat}{l:List Pl.Tm}(h:∀ t∈l,t.1.length=n):∀ a:List (List Int),AC (avU f a l)=avL f a n (AC l)
 | []=>rfl
 | g :: r=>by
  have e1:avU f (g :: r) l=Pl.scl f (actU g l) ++ avU f r l:=by simp[avU]
  have b:avL f (g :: r) n (AC l)=Pl.scl f (ZC n g (AC l)) ++ avL f r n (AC l):=by simp[avL]
  have c:AC (Pl.scl f (actU g l))=Pl.scl f (AC (actU g l)):=by
   unfold AC Pl.scl;rw[sn,sn];rfl
  rw[e1,b,UQ,gG h r,c,eU h]
def aZ(n:Nat)(e m:List Int):List (List Int)->Rat
 | []=>0
 | g :: r=>(if mp n g m=e then 1 else 0)+aZ n e m r
theorem jc(h:a.Perm b):aZ n e m a=aZ n e m b:=by
 induction h with
 | nil=>rfl
 | cons x _ ih=>show _+_=_+_;rw[ih]
 | swap x y l=>show _+(_+_)=_+(_+_);rw[<-Rat.add_assoc,<-Rat.add_assoc,Rat.add_comm (if mp n y m=e then 1 else 0)]
 | trans _ _ h1 h2=>rw[h1,h2]
theorem eh(f:Rat)(n:Nat)(l:List Pl.Tm)(e:List Int):∀ a:List (List Int),Pl.coef (avL f a n l) e=f*Pl.lin (fun m=>aZ n e m a) l
 | []=>by
  show(0:Rat)=_;rw[Pl.lin_zer (F:=fun m=>aZ n e m []) fun t _=>rfl,Rat.mul_zero]
 | g :: r=>by
  have e2:avL f (g :: r) n l=Pl.scl f (ZC n g l) ++ avL f r n l:=by simp[avL]
  have b:Pl.lin (fun m=>aZ n e m (g :: r)) l=Pl.lin (fun m=>if mp n g m=e then 1 else 0) l+Pl.lin (fun m=>aZ n e m r) l:=Pl.lin_add _ _ l;rw[e2,Pl.coef_app,Pl.coef_scl,eh f n l e r,b,Rat.mul_add,Pl.coef_lin,fc]
section
variable {gs:List (List Int)} {n:Nat} {l:List Pl.Tm}
theorem iC(G:GNs gs n){a b:List Int}(c:a∈gs)(d:b∈gs):comp a b∈gs:=by
 obtain⟨i,e,rfl⟩:=Z2 c;obtain⟨k,f,rfl⟩:=Z2 d;exact G.g.comp e f
theorem jd(G:GNs gs n){a:List Int}(k:a∈gs):(gs.map fun g=>comp g a).Perm gs:=by
 have m:=G.g.sort.nodup;obtain⟨q,r⟩:=G.p a k;have c:=aX q
 have d:∀ g∈gs,comp (comp g a) (Zr a a.length)=g:=fun g f=>by
  obtain⟨t,s⟩:=G.p g f;have h1:=(G3 c).2.1;rw[Zu]at h1;rw[ZH h1,aC q,r,<-s,ZU]
 have l:(gs.map fun g=>comp g a).Nodup:=by
  rw[List.nodup_iff_pairwise_ne,sC];refine List.Pairwise.imp_of_mem ?_ (List.nodup_iff_pairwise_ne.1 m);intro x y b j i e;exact i (by rw[<-d x b,<-d y j,e])
 have o:∀ x∈gs.map fun g=>comp g a,x∈gs:=fun x b=>by
  obtain⟨g,f,rfl⟩:=pU.1 b;exact iC G f k
 refine Pl.perm_mem l m fun y=>⟨o y,fun j => ?_⟩;refine pQ fun h => ?_
 have h1:=Pl.nodup_le (y :: gs.map fun g=>comp g a) gs (qL.2 ⟨h,l⟩) fun x b=>by
  rcases qj.1 b with rfl|b
  · exact j
  · exact o x b
 rw[qk,pH]at h1;omega
theorem gH(G:GNs gs n){a e m:List Int}(b:a∈gs)(c:InV n m):∀ L:List (List Int),(∀ g∈L,g∈gs)->aZ n e (mp n a m) L=aZ n e m (L.map fun g=>comp g a)
 | [],_=>rfl
 | g :: r,h=>by
  obtain⟨pa,la⟩:=G.p a b;obtain⟨i,f⟩:=G.p g (h g (by simp));show(if mp n g (mp n a m)=e then 1 else 0)+aZ n e (mp n a m) r=(if mp n (comp g a) m=e then 1 else 0)+aZ n e m (r.map fun g=>comp g a);rw[gH G b c r (fun x d=>h x (by simp[d])),kJ i pa f la G.n6 c]
theorem kC(G:GNs gs n)(e:List Int)(f:∀ x:List Int,x.length=n->InV n (AY x)\/∀ g∈gs,mp n g (AY x)≠e):gS gs n fun m=>aZ n e m gs:=by
 intro x d a c;obtain⟨q,v⟩:=G.p a c;have j:AY (mvd a x)=mp n a (AY x):=by
  have h1:=Zn (l:=x);rw[d]at h1;unfold mp;rw[h1]
 show aZ n e (AY (mvd a x)) gs=aZ n e (AY x) gs;rw[j];rcases f x d with h|h
 · rw[gH G c h gs (fun _ h=>h),jc (jd G c)]
 · have b:∀ (y:List Int) (L:List (List Int)),(∀ g∈L,mp n g y≠e)->aZ n e y L=0:=by
    intro y L
    induction L with
    | nil=>exact fun _=>rfl
    | cons g r ih =>
     intro h;show(if mp n g y=e then 1 else 0)+aZ n e y r=0;rw[pC (h g (by simp)),ih fun s o=>h s (by simp[o]),Rat.zero_add]
   rw[b (AY x) gs h,b _ gs fun g i => ?_];have k:mp n g (mp n a (AY x))=mp n (comp g a) (AY x):=by
    obtain⟨t,w⟩:=G.p g i;have h1:=Zn (l:=x);rw[d]at h1;have h2:=Zn (l:=mvd a x);rw[H5,d]at h2;show AY (mvd g ((AY (mvd a ((AY x).take n))).take n))=AY (mvd (comp g a) ((AY x).take n));rw[h1,h2,fp t q (by omega) (by omega)]
   rw[k];exact h _ (iC G i c)
theorem cD(f:Rat)(n:Nat)(l:List Pl.Tm)(e:List Int)(c:Rat):∀ a:List (List Int),(∀ g∈a,Pl.coef (ZC n g l) e=c)->Pl.coef (avL f a n l) e=f*(((a.length:Nat):Int):Rat)*c
 | [],_=>by
  show(0:Rat)=f*0*c;rw[Rat.mul_zero,Rat.zero_mul]
 | g :: r,h=>by
  have e2:avL f (g :: r) n l=Pl.scl f (ZC n g l) ++ avL f r n l:=by simp[avL]
  rw[e2,Pl.coef_app,Pl.coef_scl,cD f n l e c r (fun x b=>h x (by simp[b])),h g (by simp),qk];rw[show(((r.length+1:Nat):Int):Rat)=(((r.length:Nat):Int):Rat)+1 by rw[qe,vU];rfl]
  grind
theorem kD(G:GNs gs n)(b:∀ t∈l,InV n t.1)(e:List Int):Pl.coef (avL (((gs.length:Nat):Int):Rat)⁻¹ gs n l) e=Pl.coef (avP gs n l) e:=by
 have i:=dr G b;have h6:∀ t∈avP gs n l,t.1.length=6:=fun t d=>(i t d).1
 have c:(((gs.length:Nat):Int):Rat)≠0:=fun h=>by
  have h2:((gs.length:Nat):Int)=0:=q9 Rat.num h;have h1:=G.g.pos;omega
 by_cases he:InV n e
 · have q:gS gs n fun m=>aZ n e m gs:=kC G e fun x k=>by
    by_cases j:InV n (AY x)
    · exact .inl j
    · refine .inr fun g a h=>j ?_;obtain⟨f,o⟩:=G.p g a;have h1:=Zn (l:=x);rw[k]at h1;refine InV.pad k G.n6 fun y r => ?_;have h2:AY (mvd g x)=e:=by
       have h3:=h;unfold mp at h3;rw[h1]at h3;exact h3
      have h3:=(dY f (m:=x) (by omega)).mem_iff.2 r;have h4:y∈AY (mvd g x):=List.mem_append_left _ h3;rw[h2]at h4;exact he.2.1 y h4
   rw[eh,<-km G q b,Pl.lin_ext (fun x=>((Dv h6).2 x).symm),<-eh,cD _ n (cnP (avP gs n l)) e (Pl.coef (avP gs n l) e) gs fun g a=>kX G b a e,Rat.inv_mul_cancel _ c,Rat.one_mul]
 · rw[JQ i he,JQ (n:=n) (fun t d => ?_) he];obtain⟨g,a,h1⟩:=tO.1 d;obtain⟨u,hu,rfl⟩:=pU.1 h1;obtain⟨f,o⟩:=G.p g a;exact dh f o G.n6 b u hu
end
end Go.Proofs.YtlbmnokpiilfpaaGreatDoor
