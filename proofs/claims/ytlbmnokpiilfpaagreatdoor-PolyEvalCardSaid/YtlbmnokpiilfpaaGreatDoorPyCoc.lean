/- Part PyCoc. -/
import Derived.Test.YtlbmnokpiilfpaaGreatDoorPyRco

set_option linter.all false
set_option maxRecDepth 100000
set_option maxHeartbeats 100000000
namespace Go.Proofs.YtlbmnokpiilfpaaGreatDoor
open Go Go.RowKit
variable {c d:Rat}
theorem SO(p q:Rat):rgc p q*((p.den*q.den:Nat):Rat)=((Int.gcd (p.num*(q.den:Int)) (q.num*(p.den:Int)):Nat):Rat):=by
 have h0:((p.den*q.den:Nat):Rat)≠0:=Pl.natR_ne (kF p.den_pos q.den_pos);unfold rgc;rw[Rat.mkRat_eq_div,Rat.div_def,iB,Rat.inv_mul_cancel _ h0,kO,Rat.intCast_natCast]
theorem Us(p q:Rat):p*((p.den*q.den:Nat):Rat)=((p.num*(q.den:Int):Int):Rat):=by
 rw[kl,<-iB,Pl.q_den,oH,Rat.intCast_natCast]
theorem Ut(p q:Rat):q*((p.den*q.den:Nat):Rat)=((q.num*(p.den:Int):Int):Rat):=by
 rw[oU,kl,<-iB,Pl.q_den,oH,Rat.intCast_natCast]
theorem GH{x y:Rat}(h:d≠0)(e:x*d=y*d):x=y:=by
 have h1:x*d*d⁻¹=y*d*d⁻¹:=by rw[e]
 rwa[iB,iB,lM _ h,kO,kO]at h1
theorem PO(p q:Rat):Pl.Mlt (rgc p q) p/\Pl.Mlt (rgc p q) q:=by
 have h0:((p.den*q.den:Nat):Rat)≠0:=Pl.natR_ne (kF p.den_pos q.den_pos);have c:=SO p q;have a:=Us p q;have b:=Ut p q;obtain⟨x,d⟩:=Int.gcd_dvd_left (p.num*(q.den:Int)) (q.num*(p.den:Int));obtain⟨y,e⟩:=Int.gcd_dvd_right (p.num*(q.den:Int)) (q.num*(p.den:Int));generalize Int.gcd (p.num * (q.den:Int)) (q.num * (p.den:Int))=G at *
 rw[d]at a;rw[e]at b;rw[oH,Rat.intCast_natCast,<-c]at a b;constructor
 · exact⟨x,GH h0 (by rw[a,iB,iB,kY (x:Rat)])⟩
 · exact⟨y,GH h0 (by rw[b,iB,iB,kY (y:Rat)])⟩
theorem T5{p q:Rat}(h:Pl.Mlt d p)(k:Pl.Mlt d q):Pl.Mlt d (rgc p q):=by
 have h0:((p.den*q.den:Nat):Rat)≠0:=Pl.natR_ne (kF p.den_pos q.den_pos);have hd0:((d.den:Nat):Rat)≠0:=Pl.natR_ne d.den_pos;have g:=SO p q;have i:=Us p q;have j:=Ut p q;have b:=Pl.q_den d;obtain⟨x,l⟩:=h;obtain⟨y,m⟩:=k
 have a:∀ (A:Int) (u:Int) (z:Rat),z=d*(u:Rat)->z*((p.den*q.den:Nat):Rat)=(A:Rat)->(d.num*((p.den*q.den:Nat):Int))∣A*(d.den:Int):=fun A u z e f=>by
  refine⟨u,Rat.intCast_inj.1 ?_⟩;rw[oH,oH,oH,<-f,e,<-b,Rat.intCast_natCast,Rat.intCast_natCast];generalize ((p.den*q.den:Nat):Rat)=D;generalize ((d.den:Nat):Rat)=E;generalize (u:Rat)=U
  grind
 have o:=a _ x p l i;have r:=a _ y q m j;have c:=Int.dvd_coe_gcd o r;rw[Int.gcd_mul_right,pe]at c;generalize Int.gcd (p.num * (q.den:Int)) (q.num * (p.den:Int))=G at *
 obtain⟨z,n⟩:=c;refine⟨z,GH h0 (GH hd0 ?_)⟩;rw[g];have h9:((G*d.den:Nat):Rat)=(d.num:Rat)*((p.den*q.den:Nat):Rat)*(z:Rat):=by
  rw[<-Rat.intCast_natCast,n,oH,oH,Rat.intCast_natCast]
 rw[kl]at h9;rw[h9,<-b];generalize ((p.den*q.den:Nat):Rat)=D;generalize ((d.den:Nat):Rat)=E;generalize (z:Rat)=U
 grind
theorem Vq(p q:Rat):0<=rgc p q:=by
 unfold rgc;rw[Rat.mkRat_eq_div,Rat.div_def];exact Rat.mul_nonneg (by rw[Rat.intCast_natCast];exact Rat.natCast_nonneg) (Rat.le_of_lt (Rat.inv_pos.2 (Rat.natCast_pos.2 (kF p.den_pos q.den_pos))))
theorem Lc:∀ (l:List Pl.Tm) (g:Rat),0<=g->0<=l.foldl (fun g t=>rgc g t.2) g/\Pl.Mlt (l.foldl (fun g t=>rgc g t.2) g) g/\(∀ t∈l,Pl.Mlt (l.foldl (fun g t=>rgc g t.2) g) t.2)/\∀ d,Pl.Mlt d g->(∀ t∈l,Pl.Mlt d t.2)->Pl.Mlt d (l.foldl (fun g t=>rgc g t.2) g)
 | [],g,hg=>⟨hg,Pl.Mlt.refl g,by simp,fun d h _=>h⟩
 | t :: r,g,_=>by
  obtain⟨h1,h2,h3,h4⟩:=Lc r (rgc g t.2) (Vq _ _);rw[kT];refine⟨h1,h2.trans (PO g t.2).1,fun s a => ?_,fun d c b=>h4 d (T5 c (b t (by simp))) fun s a=>b s (by simp[a])⟩;rcases gV.1 a with rfl|a
  · exact h2.trans (PO g s.2).2
  · exact h3 s a
theorem Vr(e:0<=c)(f:0<=d)(h:Pl.Mlt c d)(k:Pl.Mlt d c):c=d:=by
 obtain⟨x,a⟩:=h;obtain⟨y,b⟩:=k;by_cases h0:c=0
 · rw[h0]at a;rw[h0,a,Rat.zero_mul]
 · have h1:c*(1:Rat)=c*((x*y:Int):Rat):=by
    rw[kO,oH,<-iB,<-a,<-b]
   have h2:((1:Int):Rat)=((x*y:Int):Rat):=by
    refine GH h0 ?_;rw[kY _ c,kY _ c];exact h1
   have h3:(1:Int)=x*y:=Rat.intCast_inj.1 h2;have h6:x.natAbs*y.natAbs=1:=by rw[<-iq,<-h3];rfl
   rcases Int.natAbs_eq x with h|h <;> rw[Nat.eq_one_of_mul_eq_one_right h6]at h
   · rw[a,h];simp
   · exfalso;rw[h]at a;have h4:d = -c:=by rw[a];simp[Rat.mul_neg]
     have h5:c=0:=by grind
     exact h0 h5
theorem Ld{l:List Pl.Tm}(c:∀ t∈l,t.2≠0):Dy l=Pl.cont l:=by
 obtain⟨h1,_,h3,h4⟩:=Lc l 0 (by decide);have b:0<=Pl.cont l:=by
  rw[Pl.cont_is];exact Rat.mul_nonneg Rat.natCast_nonneg (Rat.le_of_lt (Rat.inv_pos.2 (Rat.natCast_pos.2 (BU _))))
 exact Vr h1 b (Pl.cont_min fun t a=>⟨c t a,h3 t a⟩) (h4 _ (Pl.Mlt.zero _) fun t a=>Pl.cont_all a)
theorem RB.rgc{a b:Nat}{p q:Rat}(hp:Pl.RB a p)(c:Pl.RB b q):Pl.RB (a+b) (rgc p q):=by
 obtain⟨h1,h2⟩:=Pl.mkRat_le (n:=((Int.gcd (p.num*(q.den:Int)) (q.num*(p.den:Int)):Nat):Int)) (d:=p.den*q.den) (mW p.den_nz q.den_nz);refine⟨oR h1 ?_,oR h2 (BF hp.2 c.2)⟩;rw[pe];by_cases h0:p.num*(q.den:Int)=0
 · rw[h0,Int.gcd_zero_left,iq,pe,oU];exact BF hp.2 c.1
 · refine oR (Nat.gcd_le_left _ (by omega)) ?_;rw[iq,pe];exact BF hp.1 c.2
theorem IG{b:Nat}:∀ (l:List Pl.Tm) {c:Nat} {g:Rat},Pl.RB c g->(∀ t∈l,Pl.RB b t.2)->Pl.RB (c+b*l.length) (l.foldl (fun g t=>Go.Proofs.YtlbmnokpiilfpaaGreatDoor.rgc g t.2) g)
 | [],c,g,hg,_=>hg.mono (by omega)
 | t :: r,c,g,hg,h=>by
  rw[kT];refine(IG r (RB.rgc hg (h t (by simp))) fun s a=>h s (by simp[a])).mono ?_;rw[io,iE,px];omega
end Go.Proofs.YtlbmnokpiilfpaaGreatDoor
