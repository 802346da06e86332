/- Part Pa3. -/
import Derived.Test.YthdbingomfdeoaaGreatDoorPa2
import Derived.Shelf.LaysM
import Derived.Shelf.Lays7
import Derived.Shelf.Lays
import Derived.Test.YthdbingomfdeoaaGreatDoorProg
import Derived.Shelf.Spec.TrailingZeros
import Derived.Shelf.Strconv.AppendInt10
import Derived.Shelf.Strconv.Itoa4
set_option linter.all false
set_option maxRecDepth 100000
set_option maxHeartbeats 100000000
namespace Go.Proofs.YthdbingomfdeoaaGreatDoor
open Tryz Go Go.RowKit
def eZ:=@bodyPost_ret
def fU:=@Nat.lt_of_le_of_lt
def iJ:=@List.getElem?_drop
def iK:=@Nat.le_add_right
def iP:=@Nat.pow_zero
def iW:=@Nat.sub_self
def iX:=@Nat.gcd_comm
def ia:=@List.not_mem_nil
def j0:=@if_true
def jG:=@Int.dvd_mul_left
def jK:=@Nat.lt_trans
def jL:=@or_false
def jN:=@Nat.gcd_zero_right
def jO:=@Nat.add_sub_cancel_left
def jR:=@Int.natCast_nonneg
def jS:=@Int.natCast_dvd_natCast
def jU:=@decide_true
def jf:=@Int.le_of_lt
def jg:=@Nat.dvd_trans
def jh:=@Nat.gcd_dvd_left
def jm:=@Nat.div_div_eq_div_mul
def jr:=@Nat.mul_pos
def jz:=@Nat.gcd_dvd_right
def kH:=@Nat.lt_of_mul_lt_mul_left
def kI:=@Nat.eq_of_mul_eq_mul_left
def kK:=@List.drop_drop
def kZ:=@List.take_take
def kl:=@Int.dvd_trans
def kw:=@List.take_set_of_le
def lK:=@Nat.gcd_rec
def ld:=@Nat.le_of_dvd
variable {ds l ls qs xs ys zs:List Nat} {B D M N P Q T V V' V1 V2 Wn Z c cy d d2 g i lo lo' m n ov p r s t u v w3 x y:Nat} {a b:Option Addr} {w:World}
theorem JB{hi q:Nat}(m:y<18446744073709551616)(a:lo<18446744073709551616)(k:hi<y)(l:r<y)(h:hi*18446744073709551616+lo=q*y+r) :
 Calls prog 211 #[.int .u64 hi,.int .u64 lo,.int .u64 y] w fun e f=>e = .returned (.tuple #[.int .u64 (q:Int),.int .u64 (r:Int)])/\Qt w f:=by
 refine(DP m a k).mono ?_;rintro e f ⟨c,d,rfl,_,b,h2,j⟩;rw[h]at h2;have g:r=d:=by
  have:(q*y+r)%y=(c*y+d)%y:=by rw[h2]
  rw[f9,jb,gW l,f9,jb,gW b]at this;exact this
 subst g;have i:q=c:=jB (show 0<y by omega) (by omega);subst i;exact⟨rfl,j⟩
theorem RH{b y1 y0 U:Nat}(a:g*y1+r=U)(c:g*y0<=b*r+u):g*(y1*b+y0)<=U*b+u:=by
 have h2:g*(y1*b+y0)=g*y1*b+g*y0:=by grind
 have h3:U*b=g*y1*b+r*b:=by rw[<-a];grind
 have h4:b*r=r*b:=f9 _ _;omega
theorem PY{W q f t1 t0:Nat}(j:W=w3*P+lo)(i:D=d2*P+lo')(e:lo' < P)(c:w3=(f*B+t1)*B+t0)(a:d2=f*B+s)(g:s<B)(d:B<=2*f)(l:W<(q+1)*D):B<=q+2:=by
 refine fk fun k => ?_;have b:q+1+2<=B:=by omega
 have h1:(q+1)*D<=(q+1)*(d2*P+P):=fx _ (by omega);have h2:(q+1)*(d2*P+P)=(q+1)*(d2+1)*P:=by grind
 have h3:w3*P<(q+1)*(d2+1)*P:=by omega
 have h4:w3<(q+1)*(d2+1):=i6 h3;have h5:(q+1)*(d2+1)+2*(d2+1)<=B*(d2+1):=by
  rw[<-gA];exact eS _ b
 have h6:B*(d2+1)=f*B*B+s*B+B:=by rw[a];grind
 have h7:w3=f*B*B+t1*B+t0:=by rw[c];grind
 have h8:s*B+B<=B*B:=by
  have:=eS B (show s+1<=B from g);rw[gA]at this;omega
 have h9:B*B<=2*f*B:=eS _ d;have h10:2*(d2+1)=2*f*B+2*s+2:=by rw[a];grind
 omega
theorem S9(_ht:t<18446744073709551616)(h:p/18446744073709551616<r\/(p/18446744073709551616=r/\p%18446744073709551616<=t)):p<=18446744073709551616*r+t:=by omega
theorem Ta(_ht:t<18446744073709551616)(h:r<p/18446744073709551616\/(p/18446744073709551616=r/\t<p%18446744073709551616)):18446744073709551616*r+t<p:=by omega
theorem Ll{q:Nat}(hl:SlN .u64 w a (n+1) c ls)(hd:SlN .u64 w b n d ds)(bl:W.bnd 18446744073709551616 ls)(bd:W.bnd 18446744073709551616 ds)(h2:n=m+2)(hn:n<=1000000)(hf:9223372036854775808<=ds.getD (m+1) 0)
 (G:w3=(ls.getD (m+2) 0*18446744073709551616+ls.getD (m+1) 0)*18446744073709551616+ls.getD m 0) (z:d2=ds.getD (m+1) 0*18446744073709551616+ds.getD m 0)
 (hW:W.val 18446744073709551616 ls=w3*P+lo) (hD:W.val 18446744073709551616 ds=d2*P+lo') (a9:lo<P) (D:lo' < P) (aa:q*W.val 18446744073709551616 ds<=W.val 18446744073709551616 ls) (I:W.val 18446744073709551616 ls<(q+1)*W.val 18446744073709551616 ds) (ab:q<18446744073709551616) :
 Calls prog 227 #[.slice a (n+1) c,.slice b n d] w fun e w'=>∃ g:Nat,e = .returned (.int .u64 (g:Int))/\q<=g/\g<=q+1/\g<18446744073709551616/\Qt w w':=by
 subst h2;have k1:=W.digit_hi hW a9 hD aa;have ah:=W.bnd_at bd (i:=m+1) (by rw[hd.len];omega);have ad:=W.bnd_at bd (i:=m) (by rw[hd.len];omega);have aq:=W.bnd_at bl (i:=m+2) (by rw[hl.len];omega);have ai:=W.bnd_at bl (i:=m+1) (by rw[hl.len];omega);have T:=W.bnd_at bl (i:=m) (by rw[hl.len];omega);obtain⟨b1,o1,rfl,H⟩:=hl.at (j:=0) (by omega);obtain⟨b2,o2,rfl,N⟩:=hd.at (j:=0) (by omega);have g0:=H m (by omega);have g1:=H (m+1) (by omega);have o:=H (m+2) (by omega);have g3:=N (m+1) (by omega);have g4:=N m (by omega);have k2:18446744073709551616<=d2:=by
  rw[z];have h1:1*18446744073709551616<=ds.getD (m+1) 0*18446744073709551616:=eS _ (by omega);rw[ii]at h1;exact eW h1 (iK _ _)
 have J:Hid (ls.getD (m+2) 0=ds.getD (m+1) 0->18446744073709551616<=q+2):=by
  show _->_;intro he;exact PY (B:=18446744073709551616) hW hD D (by rw[G,he]) z ad (by omega) I
 have a1:Hid (∀ e,e*d2<=w3->e<=q+1):=by
  show ∀ e,e*d2<=w3->e<=q+1;intro e he;exact W.digit_lo (by omega) hW hD D I he (by omega)
 have a0:Hid (ls.getD (m+2) 0<=ds.getD (m+1) 0):=by
  show _<=_;refine fk fun hc => ?_;have h1:W.val 18446744073709551616 ls<18446744073709551616*W.val 18446744073709551616 ds:=fG I (eS _ ab);have h3:18446744073709551616*W.val 18446744073709551616 ds<18446744073709551616*((d2+1)*P):=Nat.mul_lt_mul_of_pos_left (by rw[hD];grind) (by omega);have h4:w3*P<18446744073709551616*((d2+1)*P):=by omega
  have h5:18446744073709551616*((d2+1)*P)=(18446744073709551616*(d2+1))*P:=by grind
  rw[h5]at h4;have h6:=i6 h4;rw[G,z]at h6;generalize ls.getD (m+2) 0=k at *
  generalize ls.getD (m+1) 0=p at *
  generalize ls.getD m 0=v at *
  generalize ds.getD (m+1) 0=f at *
  generalize ds.getD m 0=s at *
  have h7:(f+1)*18446744073709551616*18446744073709551616<=k*18446744073709551616*18446744073709551616:=eS _ (eS _ (by omega));omega
 clear hW hD aa I a9 D H N bl bd hl hd;generalize ls.getD (m+2) 0=k at *
 generalize ls.getD (m+1) 0=p at *
 generalize ls.getD m 0=v at *
 generalize ds.getD (m+1) 0=f at *
 generalize ds.getD m 0=s at *
 have au:IntKind.i64.wrap ((m:Int)+2)=(m:Int)+2:=eT _ (by omega);have al:IntKind.i64.wrap ((m:Int)+2-1)=(m:Int)+1:=by rw[show(m:Int)+2-1=(m:Int)+1 by omega];exact eT _ (by omega)
 have am:IntKind.i64.wrap ((m:Int)+2-2)=(m:Int):=by rw[show(m:Int)+2-2=(m:Int) by omega];exact eT _ (by omega)
 have ae:=a0.out;by_cases ht:k<f
 · -- the guess by the first words
   obtain⟨V,O⟩:∃ V,(k*18446744073709551616+p)/f=V:=⟨_,rfl⟩;obtain⟨Z,R⟩:∃ Z,(k*18446744073709551616+p)%f=Z:=⟨_,rfl⟩;have he:k*18446744073709551616+p=V*f+Z:=by
    have:=fY (k*18446744073709551616+p) f;rw[O,R,f9]at this;exact this.symm
   have S:Z<f:=by rw[<-R];exact fN _ (by omega)
   have C:V<18446744073709551616:=by
    rw[<-O,gG (by omega)];have:(k+1)*18446744073709551616<=f*18446744073709551616:=eS _ ht;rw[f9 18446744073709551616 f];omega
   have a8:=fun wx:World=>JB (w:=wx) ah ai ht S he;have K:=eP he.symm;have M:Hid (q*(f*18446744073709551616+s)<=(k*18446744073709551616+p)*18446744073709551616+v):=by show _<=_;rw[<-G,<-z];exact k1
   have HQ:=eP (W.guess_hi (b:=18446744073709551616) (y1:=f) (y0:=s) (U:=k*18446744073709551616+p) (u:=v) (q:=q) (g:=V) (r:=Z) K.out M.out T S);have af:Hid (∀ g r,g*f+r=k*18446744073709551616+p->18446744073709551616*r+v<g*s->q<g):=by
    show ∀ g r,g*f+r=k*18446744073709551616+p->18446744073709551616*r+v<g*s->q<g;exact fun g r h1 h2=>W.guess_down (b:=18446744073709551616) (y1:=f) (y0:=s) (U:=k*18446744073709551616+p) (u:=v) (q:=q) (g:=g) (r:=r) h1 M.out ab (Or.inr h2)
   have a2:Hid (∀ g r,g*f+r=k*18446744073709551616+p->g*s<=18446744073709551616*r+v->g<=q+1):=by
    show ∀ g r,g*f+r=k*18446744073709551616+p->g*s<=18446744073709551616*r+v->g<=q+1;intro g r h1 h2;refine a1.out g ?_;rw[G,z];exact RH h1 h2
   clear O R he M a1 J a0 ae G z k1 k2
   go_enter func227,ntmps227
   go_wp2
   go_quiet (fail)
   have a4:(w.drewN nq).cell? ⟨b1,o1+m,none⟩=some (.int .u64 (v:Int)):=g0;have ag:(w.drewN nq).cell? ⟨b1,o1+(m+1),none⟩=some (.int .u64 (p:Int)):=g1;have a5:(w.drewN nq).cell? ⟨b1,o1+(m+2),none⟩=some (.int .u64 (k:Int)):=o;have a6:Qt w (w.drewN nq):=(Qt.refl w).drewN _;generalize w.drewN nq=w2 at *
   clear g0 g1 o g3 g4
   go_wp2_with fail
   go_quiet ((exact jl (a8 _)))
   have g0:(w2.drewN nq).cell? ⟨b1,o1+m,none⟩=some (.int .u64 (v:Int)):=a4;have a7:Qt w (w2.drewN nq):=a6.drewN _;generalize w2.drewN nq=w3 at *
   clear a4 ag a5 a6 a8;go_wp2;rw[show decide (f<=k)=false by simp;omega]
   go_loopw[8,9] (fun gv rv wr=>∃ g r:Nat,gv = .int .u64 (g:Int)/\rv = .int .u64 (r:Int)/\Hid (g*f+r=k*18446744073709551616+p)/\Hid (q<=g)/\g<18446744073709551616/\r<18446744073709551616/\wr=w3) (fun gv _ _=>(intOf gv).toNat)
   case atStart=>exact⟨V,Z,rfl,rfl,K,HQ,C,by omega,rfl⟩
   case round =>
    clear K HQ C S;obtain⟨g,r,rfl,rfl,K,HQ,C,ap,rfl⟩:=hrel;have t:=H7 (x:=g) (y:=s) C ad;obtain⟨A,E⟩:∃ A,g*s/18446744073709551616=A:=⟨_,rfl⟩;obtain⟨X,F⟩:∃ X,g*s%18446744073709551616=X:=⟨_,rfl⟩;rw[E,F]at t;by_cases hc:A<r\/(A=r/\X<=v)
    · have HF:Hid (g<=q+1):=a2.out g r K.out (S9 T (by rw[E,F];exact hc));have l:(A:Int)<r\/((r:Int)<=(A:Int)/\((A:Int) == (r:Int))=true/\(X:Int)<=v):=by
       rcases hc with h|⟨h1,h2⟩
       · left;omega
       · right;exact⟨by omega,by simp;omega,by omega⟩
      clear hc E F;rcases l with h1|⟨h1,h2,h3⟩
      all_goals
       go_wp2_with(go_at_call 205;refine(t _).mono ?_;rintro e w1 ⟨rfl,rfl⟩)
       go_ret;exact⟨g,rfl,HQ.out,HF.out,C,a7⟩
    · have hp:r<A\/(A=r/\v<X):=by omega
      have HD:=eP (af.out g r K.out (Ta T (by rw[E,F];exact hp)));obtain⟨o,rfl⟩:∃ o,g=o+1:=⟨g-1,by have:=HD.out;omega⟩;have ar:IntKind.u64.wrap ((o:Int)+1-1)=o:=Af (by omega) (by omega);have L:Hid (o*f+(r+f)=k*18446744073709551616+p):=by
       have h1:=K.out;show _=_;rw[<-h1]
       grind
      have ak:IntKind.u64.wrap (o:Int)=o:=Af (by omega) (by omega);have a3:Hid (q<=o):=by have:=HD.out;show _<=_;omega
      have l:((r:Int)<=(A:Int)/\((A:Int) == (r:Int))=false)\/((r:Int)<=(A:Int)/\((A:Int) == (r:Int))=true/\(v:Int)<X):=by
       rcases hp with h|⟨h1,h2⟩
       · left;exact⟨by omega,by simp;omega⟩
       · right;exact⟨by omega,by simp;omega,by omega⟩
      clear hc hp E F;by_cases Q:r+f<18446744073709551616
      · obtain⟨Y,ac⟩:∃ Y,r+f=Y:=⟨_,rfl⟩;rw[ac]at L Q;have aj:IntKind.u64.wrap ((r:Int)+(f:Int))=(Y:Int):=Af (by omega) Q;have an:(f:Int)<=(Y:Int):=by omega
        clear ac;rcases l with⟨h1,h2⟩|⟨h1,h2,h3⟩
        all_goals
         go_wp2_with(go_at_call 205;refine(t _).mono ?_;rintro e w1 ⟨rfl,rfl⟩)
         go_roundw
         case rel=>exact⟨o,Y,by go_num,rfl,L,a3,by omega,Q,trivial⟩
         case measure=>simp[intOf]
      · have HF:Hid (o<=q+1):=a2.out o (r+f) L.out (by
         have h1:o*s<=18446744073709551616*s:=eS _ (by omega);have h2:18446744073709551616*s<=18446744073709551616*(r+f):=fx _ (by omega)
         omega)
        have aj:IntKind.u64.wrap ((r:Int)+(f:Int))=((r+f-18446744073709551616:Nat):Int):=by
         rw[gY];omega
        have ao:((r+f-18446744073709551616:Nat):Int)<f:=by omega
        generalize r+f-18446744073709551616=Y at *
        rcases l with⟨h1,h2⟩|⟨h1,h2,h3⟩
        all_goals
         go_wp2_with(go_at_call 205;refine(t _).mono ?_;rintro e w1 ⟨rfl,rfl⟩)
         go_ret;exact⟨o,rfl,a3.out,HF.out,by omega,a7⟩
 · have he:k=f:=by omega
   have hB:=J.out he;subst he
   go_enter func227,ntmps227
   go_wp2
   go_quiet (fail)
   have a5:(w.drewN nq).cell? ⟨b1,o1+(m+2),none⟩=some (.int .u64 (k:Int)):=o;have hQ:Qt w (w.drewN nq):=(Qt.refl w).drewN _;generalize w.drewN nq=w2 at *
   go_wp2;go_ret;exact⟨18446744073709551615,rfl,by omega,by omega,by omega,hQ⟩
theorem DQ(b:0<B){l:List Nat}{p j:Nat}(h:W.val B l<B^p)(c:p<=j):l.getD j 0=0:=by
 refine fk fun a => ?_;have d:j<l.length:=by
  refine fk fun e=>a ?_;rw[gqq,fi (by omega)];rfl
 have h1:=W.val_split (B:=B) l j (by omega);rw[Cy d]at h1;simp only[W.val]at h1;generalize l.getD j 0=x at *
 have h2:B^j*1<=B^j*(x+B*W.val B (l.drop (j+1))):=fx _ (by omega);have h3:B^p<=B^j:=fd b c;omega
theorem Mv{B:Nat}:∀ {l:List Nat},(∀ j,l.getD j 0=0)->W.val B l=0
 | [],_=>rfl
 | x :: l,h=>by
  have h0:=h 0;simp at h0;have h1:W.val B l=0:=Mv fun j=>by have:=h (j+1);simpa using this
  simp[W.val,h0,h1]
theorem Kq(l:List Nat)(p j:Nat):(l.drop p).getD j 0=l.getD (p+j) 0:=by
 simp[iJ]
theorem GM(hp:p<=l.length)(h:∀ j,p<=j->l.getD j 0=0):W.val B l=W.val B (l.take p):=by
 rw[W.val_split (B:=B) l p hp,Mv (l:=l.drop p),jq,gd];intro j;rw[Kq];exact h _ (by omega)
theorem Ge(hp:p<=l.length)(a:W.bnd B l)(h:∀ j,p<=j->l.getD j 0=0):W.val B l<B^p:=by
 rw[GM hp h];have:=W.val_lt (W.bnd_take a p);rw[go,iF hp]at this;exact this
theorem NJ(a:0<B){l:List Nat}{i m:Nat}(c:i+m<=l.length)(h:W.val B l<B^(i+m)):W.val B l=W.val B (l.take i)+B^i*W.val B ((l.drop i).take m):=by
 rw[W.val_split (B:=B) l i (by omega)];congr 2;refine GM (by simp;omega) fun j b => ?_;rw[Kq];exact DQ a h (by omega)
theorem EC{j:Nat}(a:j<m):((l.drop i).take m).getD j 0=l.getD (i+j) 0:=by
 simp[iJ,a]
theorem Gf(a:l.length=m+2):W.val B l=(l.getD (m+1) 0*B+l.getD m 0)*B^m+W.val B (l.take m):=by
 rw[W.val_split (B:=B) l m (by omega),Cy (by omega),Cy (xs:=l) (k:=m+1) (by omega),fK (by omega)];simp only[W.val]
 grind
theorem Mw(a:l.length=m+3):W.val B l=((l.getD (m+2) 0*B+l.getD (m+1) 0)*B+l.getD m 0)*B^m+W.val B (l.take m):=by
 rw[W.val_split (B:=B) l m (by omega),Cy (by omega),Cy (xs:=l) (k:=m+1) (by omega),Cy (xs:=l) (k:=m+1+1) (by omega),fK (by omega)];simp only[W.val]
 grind
theorem Bz(a:W.bnd B l){m:Nat}(b:m<=l.length):W.val B (l.take m)<B^m:=by
 have:=W.val_lt (W.bnd_take a m);rw[go,iF b]at this;exact this
theorem Kr{q:Nat}(f:V=lo+P*Wn)(d:lo<P)(h1:V'+g*D*P=V)(b:Wn<(q+1)*D)(c:q<=g):g=q/\V' < P*D:=by
 have h2:g*D*P<P*(Wn+1):=by rw[gS,iN];omega
 have h3:g*D<Wn+1:=by
  rw[f9]at h2;exact kH h2
 have h4:g<q+1:=i6 (a:=D) (by omega);have e:g=q:=by omega
 refine⟨e,?_⟩;subst e;have h5:P*(Wn+1)<=P*((g+1)*D):=fx _ b;have h6:P*((g+1)*D)=g*D*P+P*D:=by grind
 rw[gS,iN]at h5;omega
theorem Mx{q:Nat}(j:V=lo+P*Wn)(i:lo<P)(h1:V1+g*D*P=V+T)(k:V1<T)(a:q*D<=Wn)(b:Wn<(q+1)*D)(m:g<=q+1)(h2:V2+ov*T=V1+D*P)(f:V2<T)(d:D*P<T):g=q+1/\V2+q*D*P=V/\V2<P*D:=by
 have h3:V<g*D*P:=by omega
 have h4:P*Wn<P*(g*D):=by rw[f9 P (g*D)];omega
 have h5:Wn<g*D:=kH h4;have h6:q<g:=by
  refine fk fun l => ?_;have:g*D<=q*D:=eS _ (by omega);omega
 have e:g=q+1:=by omega
 subst e;have h7:(q+1)*D*P=q*D*P+D*P:=by grind
 have h9:q*D*P<=V:=by
  have:q*D*P<=Wn*P:=eS _ a;rw[f9 Wn P]at this;omega
 have h8:ov=1:=by
  have h10:V1+D*P=(V-q*D*P)+T:=by omega
  rcases fL ov 1 with h|h
  · have:ov=0:=by omega
    subst this;omega
  · rcases fL 1 ov with c | c
    · exfalso;have h11:2*T<=ov*T:=eS _ c;omega
    · omega
 subst h8;rw[ii]at h2;have h10:V2+q*D*P=V:=by omega
 refine⟨rfl,h10,?_⟩;have h5:P*(Wn+1)<=P*((q+1)*D):=fx _ b;have h6:P*((q+1)*D)=q*D*P+P*D:=by grind
 rw[gS,iN]at h5;omega
def TI(k:IntKind)(B:Nat)(w:World)(q r:Nat)(e:Ending)(w':World):Prop:=∃ a n c xs a' n' c' ys,e = .returned (.tuple #[.slice a n c,.slice a' n' c'])/\Ext w w'/\SlN k w' a n c xs/\Num B xs q/\SlN k w' a' n' c' ys/\Num B ys r/\NG w.heap.size (fun _=>False) a n
def FB(ax:Option Addr)(k:IntKind)(B:Nat)(w:World)(q r:Nat)(e:Ending)(w':World):Prop:=∃ a n c xs a' n' c' ys,e = .returned (.tuple #[.slice a n c,.slice a' n' c'])/\Ext w w'/\SlN k w' a n c xs/\Num B xs q/\SlN k w' a' n' c' ys/\Num B ys r/\NG w.heap.size (fun _=>False) a n/\NG w.heap.size (fun g=>blk ax=some g) a' n'
theorem FB.q{f:Option Addr}{k:IntKind}{B:Nat}{w b:World}{q r:Nat}{e:Ending}(h:FB f k B w q r e b):TI k B w q r e b:=by
 obtain⟨a,n,c,j,d,i,g,l,h1,h2,h3,h4,h5,h6,h7,_⟩:=h;exact⟨a,n,c,j,d,i,g,l,h1,h2,h3,h4,h5,h6,h7⟩
theorem C2:AQ (x:Int) (y:Int)<0<->x<y:=by
 unfold AQ;split
 · constructor <;> intro _ <;> omega
 · split
   · constructor <;> intro _ <;> omega
   · constructor <;> intro _ <;> omega
theorem DR(p:SlN .u64 w a n c xs)(t:SlN .u64 w b m d ys)(j:Num 18446744073709551616 xs x)(q:Num 18446744073709551616 ys y)(f:x<y) :
 Calls prog 208 #[.slice a n c,.slice b m d] w (FB a .u64 18446744073709551616 w (x/y) (x%y)):=by
 have k:Hid (AQ (x:Int) (y:Int)<0):=eP (C2.2 f);have i:=fun v:World=>fun(h1:Ext w v)=>Bw (p.ext h1) (t.ext h1) j q;have r:=eP j;have l:=eP f;clear j q f
 go_enter func208,ntmps208
 go_wp2_with fail
 refine(i _ (Ext.refl w)).mono ?_;rintro e B ⟨rfl,o⟩;have A:=k.out;generalize AQ (x:Int) (y:Int)=z at *
 clear k;go_wp2
 go_ret2
 refine⟨none,0,0,[],a,n,c,xs,rfl,o.ext,SlN.nil _ _,?_,p.ext o.ext,?_,fun h=>absurd h (by omega),fun _ g s=>Or.inr s⟩
 · rw[gX l.out];exact Num.nil _
 · rw[gW l.out];exact r.out
theorem Ef(M:SlN .u64 w a n c xs)(B:SlN .u64 w b 1 d ys)(G:Num 18446744073709551616 xs x)(s:Num 18446744073709551616 ys y)(X:n<=1000000)(V:y<=x)(h0:0<y) :
 Calls prog 208 #[.slice a n c,.slice b 1 d] w (FB a .u64 18446744073709551616 w (x/y) (x%y)):=by
 have K:Hid (¬ AQ (x:Int) (y:Int)<0):=eP (by rw[C2];omega);have t:=fun I:World=>fun(h1:Ext w I)=>Bw (M.ext h1) (B.ext h1) G s;have L:=eP G;have F:ys.getD 0 0=y/\y<18446744073709551616:=by
  have h1:=s.val;obtain⟨z,q⟩:=List.length_eq_one_iff.1 B.len;have h2:=s.bnd z (by rw[q];simp);rw[q]at h1;simp[W.val]at h1;rw[q];simp;omega
 obtain⟨C,E⟩:=F;clear G s
 go_enter func208,ntmps208
 go_wp2_with fail
 refine(t _ (Ext.refl w)).mono ?_;rintro e w1 ⟨rfl,k⟩;have hc:=K.out;have T:(0:Int)<=AQ (x:Int) (y:Int):=by omega
 generalize AQ (x:Int) (y:Int)=cv at *
 clear K;obtain⟨b1,o1,rfl,l⟩:=(B.ext k.ext).at (j:=0) (by omega);have S:=l 0 (by omega);rw[C,gd]at S;clear l
 go_wp2_with fail
 refine(I1 (M.ext k.ext) L.out.bnd L.out.val E h0 X).mono ?_;rintro e w2 ⟨O,Y,Q,zs,rfl,f,q,nz,p⟩;have o:x%y<18446744073709551616:=by have:=fN x h0;omega
 have m:=fun I:World=>Fj (w:=I) o;obtain⟨r,v⟩:∃ r,x%y=r:=⟨_,rfl⟩;rw[v]at m |-;have N:=eP v;clear v o
 go_wp2_with fail
 refine(m _).mono ?_;rintro e w3 ⟨P,Z,R,J,rfl,i,D,H,A⟩;go_wp2
 go_ret2
 exact⟨O,Y,Q,zs,P,Z,R,J,rfl,(k.ext.trans f).trans i,q.ext i,nz,D,by rw[N.out];exact H,p.of k.ext.size (fun _ h=>h.elim),fun _ g U=>(A g U).imp (fun h=>eW (k.ext.trans f).size h) (fun h=>h.elim)⟩
theorem Dq(a:l.length=m+1):W.val B l=l.getD m 0*B^m+W.val B (l.take m):=by
 rw[W.val_split (B:=B) l m (by omega),Cy (by omega),fK (by omega)];simp only[W.val]
 grind
theorem Hp(g:Num 18446744073709551616 ys y)(l:ys.length=m+1)(e:s<=63)(h1:9223372036854775808<=ys.getD m 0*2^s)(h2:ys.getD m 0*2^s<18446744073709551616)(b:Num 18446744073709551616 ds (y*2^s)):ds.length=m+1/\9223372036854775808<=ds.getD m 0:=by
 have c:=Dq (B:=18446744073709551616) l;rw[g.val]at c;have i:=Bz g.bnd (m:=m) (by omega);generalize ys.getD m 0=u at *
 generalize W.val 18446744073709551616 (ys.take m)=v at *
 have d:y*2^s=u*2^s*18446744073709551616^m+v*2^s:=by rw[c];grind
 have h3:u*2^s+2^s<=18446744073709551616:=by
  have h4:u<2^(64-s):=by
   refine i6 (a:=2^s) ?_;rw[B9 e];exact h2
  have h5:(u+1)*2^s<=2^(64-s)*2^s:=eS _ h4;rw[B9 e,gA,ii]at h5;exact h5
 have h6:y*2^s<18446744073709551616^(m+1):=by
  rw[d,fT];have h7:v*2^s<18446744073709551616^m*2^s:=gK i (fy s);have h8:(u*2^s+2^s)*18446744073709551616^m<=18446744073709551616*18446744073709551616^m:=eS _ h3;rw[gA]at h8;rw[f9 (18446744073709551616^m) (2^s)]at h7;rw[f9 (18446744073709551616^m) 18446744073709551616];omega
 have h9:9223372036854775808*18446744073709551616^m<=y*2^s:=by
  rw[d];exact eW (eS _ h1) (iK _ _)
 have o:ds.length<=m+1:=W.nrm_len (B:=18446744073709551616) (by omega) b.nrm (by rw[b.val];exact h6);have p:m+1<=ds.length:=by
  refine fk fun k => ?_;have h10:=W.val_lt b.bnd;rw[b.val]at h10;have h11:18446744073709551616^ds.length<=18446744073709551616^m:=fd (by omega) (by omega);have h12:1*18446744073709551616^m<=9223372036854775808*18446744073709551616^m:=eS _ (by omega);rw[ii]at h12;omega
 have f:ds.length=m+1:=by omega
 refine⟨f,?_⟩;have j:=Dq (B:=18446744073709551616) f;rw[b.val]at j;have n:=Bz b.bnd (m:=m) (by omega);generalize ds.getD m 0=t at *
 refine fk fun k => ?_;have h13:(t+1)*18446744073709551616^m<=9223372036854775808*18446744073709551616^m:=eS _ (by omega);rw[gA,ii]at h13;omega
theorem PZ{t:TypeId}(h:Arr w g t ((List.map (Bk .u64) (List.replicate N 0)).take 0 ++ xs.map (Bk .u64) ++ (List.map (Bk .u64) (List.replicate N 0)).drop (0+xs.length))):BC .u64 w g t (xs ++ List.replicate (N-xs.length) 0):=Uo h
theorem OD{R:Nat}(d:0<y)(h:x*2^s=Q*(y*2^s)+R)(a:R<y*2^s):x/y=Q/\R/2^s=x%y:=by
 have hp:=fy s;have c:2^s∣R:=by
  have h1:2^s∣x*2^s:=j5 _ _;rw[h]at h1;exact(ll ⟨Q*y,by grind⟩).1 h1
 obtain⟨r,rfl⟩:=c;have e:x=Q*y+r:=by
  apply jB hp;rw[h]
  grind
 have b:r<y:=by
  rw[f9]at a;exact i6 a
 rw[jM _ hp,e];exact⟨by rw[f9,j3 d,gX b,gd],by rw[f9,jb,gW b]⟩
theorem P0(c:x<18446744073709551616^n)(b:18446744073709551616^m<=y)(a:m+1<=n):x*2^s<18446744073709551616^(n-(m+1)+1)*(y*2^s):=by
 have h1:18446744073709551616^(n-(m+1)+1)*18446744073709551616^m=18446744073709551616^n:=by rw[<-ig];congr 1;omega
 have h2:18446744073709551616^(n-(m+1)+1)*18446744073709551616^m<=18446744073709551616^(n-(m+1)+1)*y:=fx _ b;have h3:x*2^s<18446744073709551616^(n-(m+1)+1)*y*2^s:=gK (by omega) (fy s);rw[<-im];exact h3
theorem OE{q:Nat}(hi:i<qs.length)(h0:qs.getD i 0=0)(a:P=18446744073709551616^i)(h:Q=W.val 18446744073709551616 qs*D+V)(h1:V'+q*D*P=V):Q=W.val 18446744073709551616 (qs.set i q)*D+V':=by
 have h2:=W.val_set (B:=18446744073709551616) (xs:=qs) (i:=i) (v:=q) hi;rw[h0,jq,gd]at h2;rw[h2,h,<-h1,a]
 grind
theorem H8{q:Nat}(h:∀ j,j<i+1->qs.getD j 0=0):∀ j,j<i->(qs.set i q).getD j 0=0:=by
 intro j a;have h1:=h j (by omega);have h2:¬ i=j:=by omega
 simpa[h2]using h1
theorem Ks(p:0<B){ls:List Nat}{D i b:Nat}(o:W.bnd B ls)(k:i+(b+1)<=ls.length)(r:D<B^b)(g:0<D)(n:W.val B ls<B^(i+1)*D) :
 ∃ q,q<B/\q*D<=W.val B ((ls.drop i).take (b+1))/\W.val B ((ls.drop i).take (b+1))<(q+1)*D/\W.val B ls=W.val B (ls.take i)+B^i*W.val B ((ls.drop i).take (b+1))/\W.val B (ls.take i)<B^i/\W.val B ls<B^(i+(b+1)):=by
 have e:W.val B ls<B^(i+(b+1)):=by
  have h3:B^(i+1)*D<=B^(i+1)*B^b:=fx _ (by omega);rw[<-ig,show i+1+b=i+(b+1) by omega]at h3;omega
 have d:=NJ (B:=B) p k e;have l:=Bz o (m:=i) (by omega);have j:W.val B ((ls.drop i).take (b+1))<B*D:=by
  rw[fT,im,d]at n;have h2:B^i*W.val B ((ls.drop i).take (b+1))<B^i*(B*D):=by omega
  exact kH h2
 generalize W.val B ((ls.drop i).take (b+1))=c at *
 have f:c/D*D<=c:=l4 _ _;refine⟨c/D,?_,f,?_,d,l,e⟩
 · exact i6 (a:=D) (fU f j)
 · rw[gA,ii];have h1:=fY c D;have h2:=fN c g;rw[f9]at h1;omega
theorem My{q:Nat}(b:V=lo+P*Wn)(h1:V1+g*D*P=V+T)(c:V1<T)(a:q*D<=Wn):q<g:=by
 refine fk fun d => ?_;have h2:g*D*P<=q*D*P:=eS _ (eS _ (by omega));have h3:q*D*P<=Wn*P:=eS _ a;rw[f9 Wn P]at h3;omega
theorem RI(h1:V'+M*t=Z+M*v)(h2:Z+g*D*P=V+cy*M)(h3:v+cy=t):V'+g*D*P=V:=by
 subst h3;rw[gS,f9 M cy]at h1;omega
theorem Kt(h1:V'+M*t=Z+M*v)(h2:Z+g*D*P=V+cy*M)(h3:v+cy=t+B):V'+g*D*P=V+M*B:=by
 have h4:M*(v+cy)=M*(t+B):=by rw[h3]
 rw[gS,gS,f9 M cy]at h4;omega
theorem Mz{z:Nat}(h1:V2+M*u=Z+M*z)(h2:Z+c*M=V1+1*D*P)(h3:z+B*ov=u+c):V2+ov*(M*B)=V1+D*P:=by
 have h4:M*(z+B*ov)=M*(u+c):=by rw[h3]
 rw[gS,gS,f9 M c,<-im]at h4;rw[ii]at h2;rw[f9 ov];omega
theorem Ku(h:∀ j,p<=j->zs.getD j 0=ls.getD j 0)(h0:∀ j,p+1<=j->ls.getD j 0=0):∀ j,p+1<=j->(zs.set p v).getD j 0=0:=by
 intro j a;have h1:=h j (by omega);rw[h0 j a]at h1;have h2:¬ p=j:=by omega
 simpa[h2]using h1
theorem Eg(hx:SlN .u64 w a n c xs)(hy:SlN .u64 w b m d ys)(X:Num 18446744073709551616 xs x)(ny:Num 18446744073709551616 ys y)(hn:n<=100000)(cz:y<=x){mm:Nat}(bp:m=mm+2) :
 Calls prog 208 #[.slice a n c,.slice b m d] w (FB a .u64 18446744073709551616 w (x/y) (x%y)):=by
 have HC:Hid (¬ AQ (x:Int) (y:Int)<0):=eP (by rw[C2];omega);have bf:=fun C:World=>fun(h1:Ext w C)=>Bw (hx.ext h1) (hy.ext h1) X ny;have HX:=eP hx.len;have HY:=eP hy.len;have cH:m<=n:=by
  refine fk fun hc => ?_;have:=W.len_lt (B:=18446744073709551616) (by omega) X.bnd ny.nrm (by rw[HX.out,HY.out];omega);rw[X.val,ny.val]at this;omega
 have ac:ys≠[]:=by intro h;have:=HY.out;rw[h]at this;simp at this;omega
 have ab:=W.nrm_pos (B:=18446744073709551616) (by omega) ny.nrm ac;rw[HY.out,ny.val]at ab;have aP:0<ys.getD (m-1) 0:=by
  have h1:=ny.nrm ac;rw[iV]at h1;have h2:ys.length-1=m-1:=by rw[HY.out]
  have h3:m-1<ys.length:=by rw[HY.out];omega
  have h4:ys.getD (m-1) 0=ys[ys.length-1]'(by omega):=by
   simp[h2,h3]
  omega
 have a7:=W.bnd_at ny.bnd (i:=m-1) (by rw[HY.out];omega);obtain⟨s,hs,bo,az,aA⟩:=Li aP a7;have aZ:Hid (∀ J,Num 18446744073709551616 J (y*2^s)->J.length=m/\9223372036854775808<=J.getD (mm+1) 0):=by
  show ∀ J,Num 18446744073709551616 J (y*2^s)->J.length=m/\9223372036854775808<=J.getD (mm+1) 0;intro J nd;have h1:m-1=mm+1:=by omega
  rw[h1]at az aA;have:=Hp (m:=mm+1) ny (by rw[HY.out];omega) hs az aA nd;exact⟨by omega,this.2⟩
 have NX:=eP X;have NY:=eP ny;have ak:=eP ab;have a2:=eP bp;have cG:2<=m:=by omega
 clear X ny bp az aA ac ab
 go_enter func208,ntmps208
 go_wp2_with fail
 refine(bf _ (Ext.refl w)).mono ?_;rintro e w1 ⟨rfl,hQ⟩;have hc:=HC.out;have cu:(0:Int)<=AQ (x:Int) (y:Int):=by omega
 generalize AQ (x:Int) (y:Int)=cv at *
 clear HC;obtain⟨b1,o1,rfl,a5⟩:=(hy.ext hQ.ext).at (j:=0) (by omega);have g1:=a5 (m-1) (by omega);have bI:((m:Int) == 1)=false:=by simp;omega
 have ch:IntKind.i64.wrap ((m:Int)-1)=((m-1:Nat):Int):=by rw[show(m:Int)-1=((m-1:Nat):Int) by omega];exact eT _ (by omega)
 have bL:((m-1:Nat):Int)<(m:Int):=by omega
 have K:=fun C:World=>NH a7 C;rw[bo]at K;generalize ys.getD (m-1) 0=yt at *
 have bT:Hid (m-1+1=m):=by show _=_;omega
 generalize m-1=m1 at *
 clear a5 bo aP bf
 go_wp2_with fail
 refine(K _).mono ?_;rintro e w2 ⟨rfl,rfl⟩;clear g1
 go_wp2_with fail
 refine(Fk (hy.ext hQ.ext) NY.out hs (by omega)).mono ?_;rintro e r ⟨bd,f,cd,J,rfl,b6,hd,nd⟩;obtain⟨bg,bi⟩:=aZ.out J nd;have c6:f=m:=by rw[<-hd.len,bg]
 subst c6;have a4:=hQ.ext.trans b6;have bN:=eP bi;have Z:=eP nd;obtain⟨D,hD⟩:∃ D,y*2^s=D:=⟨_,rfl⟩;rw[hD]at Z;have HD:=eP hD;clear aZ bi nd bg hD b6
 go_upto_region 10 with(at_make;refine CJ (n:=n+1) rfl rfl underlying98 AG rfl rfl rfl (by omega) (by unfold maxLen;omega) ?_;intro w3 b8 ao)
 have aJ:=a4.trans ao
 go_wp2_with fail
 refine(Fk (hx.ext aJ) NX.out hs (by omega)).mono ?_;rintro e w4 ⟨ax,X,cx,us,rfl,ap,hu,nu⟩;have bC:us.length<=n+1:=by
  refine W.nrm_len (B:=18446744073709551616) (by omega) nu.nrm ?_;rw[nu.val,fT];have h1:=W.val_lt NX.out.bnd;rw[NX.out.val,HX.out]at h1;have h2:2^s<=18446744073709551616:=by
   have:=fd (n:=2) (by omega) (show s<=64 by omega);exact this
  calc x*2^s<18446744073709551616^n*2^s:=gK h1 (fy s)
   _<=18446744073709551616^n*18446744073709551616:=fx _ h2
 have c7:X<=n+1:=by rw[<-hu.len];exact bC
 have hA4:=(Am.of_zeros b8).arr.ext ap;have NU:=eP nu;have HU:=eP hu.len;clear nu bC
 go_upto_region 11 with(refine Rt (sT:=98) rfl rfl underlying98 AG rfl rfl hA4 hu (by omega) (by simp;omega) (S5 _) ?_;intro N b2 bj)
 have aw:Am .u64 N r.heap.size 101 r.heap.size (n+1) (n+1) (us ++ List.replicate (n+1-X) 0):=by
  have h1:BC .u64 N r.heap.size 101 (us ++ List.replicate (n+1-us.length) 0):=by
   refine PZ ?_;rw[HU.out];exact b2
  rw[HU.out]at h1;have hl:(us ++ List.replicate (n+1-X) 0).length=n+1:=by simp[HU.out];omega
  have:=BC.own h1 (lrf r.heap.size) (by rw[hl];unfold maxLen;omega);rw[hl]at this;exact this
 have b5:Ext r N:=(ao.trans ap).grownR bj (lrf _);have bD:W.val 18446744073709551616 (us ++ List.replicate (n+1-X) 0)=x*2^s:=by rw[Oz,NU.out.val]
 have bc:W.bnd 18446744073709551616 (us ++ List.replicate (n+1-X) 0):=OA (by omega) NU.out.bnd _;have bx:x*2^s<18446744073709551616^(n-f+1)*D:=by
  have h1:=W.val_lt NX.out.bnd;rw[NX.out.val,HX.out]at h1;have h2:=bT.out;have:=P0 (s:=s) (m:=m1) h1 ak.out (by omega);rw[h2,HD.out]at this;exact this
 have h51:=aw.lt;generalize us ++ List.replicate (n+1-X) 0=ck at *
 have ah:=eP bD;have ag:=eP bx;clear b2 bj hA4 b8 ao ap aJ hu c7 NU HU bD bx;have bh:D<18446744073709551616^f:=by
  have h1:=W.val_lt Z.out.bnd;rw[Z.out.val,hd.len]at h1;exact h1
 have aT:=eP bh;have b3:0<D:=by
  rw[<-HD.out];refine jr ?_ (fy s);have h1:=ak.out;have:=iu (n:=m1) (show 0<18446744073709551616 by omega);omega
 have bM:=eP b3;clear bh b3;have bE:IntKind.i64.wrap ((n:Int)-f)=(((n-f:Nat):Int)):=by rw[show(n:Int)-f=((n-f:Nat):Int) by omega];exact eT _ (by omega)
 obtain⟨nq,br⟩:∃ nq,n-f=nq:=⟨_,rfl⟩;rw[br]at bE ag;have cp:nq<=n:=by omega
 have bU:Hid (n=nq+f):=by show _=_;omega
 clear br
 go_upto_region 12 with(at_make;refine CJ (n:=nq+1) rfl rfl underlying98 AG rfl rfl rfl (by omega) (by unfold maxLen;omega) ?_;intro w6 b9 aq)
 have aK:=aw.ext aq;have aI:=b5.trans aq;go_wp2;rw[show decide (cv<0)=false by simp;omega]
 go_loopw[13] (fun iv wr=>∃ (k:Nat) (V qs:List Nat),iv = .int .i64 ((k:Int)-1)/\k<=nq+1/\Ext r wr/\Am .u64 wr r.heap.size 101 r.heap.size (n+1) (n+1) V/\Am .u64 wr N.heap.size 101 N.heap.size (nq+1) (nq+1) qs/\W.bnd 18446744073709551616 V/\W.bnd 18446744073709551616 qs/\Hid (x*2^s=W.val 18446744073709551616 qs*D+W.val 18446744073709551616 V)/\Hid (∀ j,j<k->qs.getD j 0=0)/\Hid (W.val 18446744073709551616 V<18446744073709551616^k*D)) (fun iv _=>(intOf iv+1).toNat)
 case atStart =>
  refine⟨nq+1,ck,List.replicate (nq+1) 0,by go_num,lrf _,aI,aK,Am.of_zeros b9,bc,fun z hz=>by rw[(gQ.1 hz).2];omega,eP ?_,eP (fun j _=>EB _ j),eP ?_⟩
  · rw[W.val_zeros,ic,fP,ah.out]
  · rw[ah.out];exact ag.out
 case round =>
  clear b9 aq aK aI aw b5 bc ah ag bE ch bL K bI a7;obtain⟨k,V,qs,rfl,hk,hE,hz,hq,bz,bq,HV,HJ,HB⟩:=hrel;cases k with
  | zero =>
   have aM:x/y=W.val 18446744073709551616 qs/\W.val 18446744073709551616 V/2^s=x%y:=by
    have h1:=HV.out;have h2:=HB.out;rw[iP,ii]at h2;rw[<-HD.out]at h1 h2;refine OD ?_ h1 h2;have h3:=ak.out;have:=iu (n:=m1) (show 0<18446744073709551616 by omega);omega
   have aE:=eP aM;clear aM
   go_wp2_with fail
   refine(BO hq.sl).mono ?_;rintro e w7 ⟨q1,rfl,rfl,R,bA⟩;obtain⟨t1,t2⟩:=Cg hq.sl R bA bq aE.out.1.symm;clear bA R
   go_wp2_with fail
   refine(BO hz.sl).mono ?_;rintro e w8 ⟨q2,rfl,rfl,a0,bB⟩;obtain⟨t3,t4⟩:=Cg (v:=W.val 18446744073709551616 V) hz.sl a0 bB bz rfl;have bw:=Ho t3 t4 hs (by omega);have T1:=eP t1;have T2:=eP t2;have bV:=eP bw;clear bB t1 t2 t3 t4 bw
   go_wp2_with fail
   refine bV.out.mono ?_;rintro e w9 ⟨a9,n9,c9,cl,rfl,E,ci,bH,cb⟩;rw[aE.out.2]at bH;go_wp2
   go_ret2
   exact⟨_,q1,_,_,a9,n9,c9,cl,rfl,(a4.trans hE).trans E,T1.out.ext E,T2.out,ci,bH,fun _ g h=>Or.inl (by have:=a4.size;cases h;show w.heap.size<=N.heap.size;omega),fun _ g h=>(cb g h).imp (fun h=>eW (a4.trans hE).size h) (fun h=>h.elim)⟩
  | succ i =>
   have cf:((i+1:Nat):Int)-1=i:=by omega
   rw[cf];have cA:i<=nq:=by omega
   have cC:i+f<=n:=by have:=bU.out;omega
   have c5:i+(f+1)<=V.length:=by rw[hz.len];omega
   obtain⟨q,bt,R,a0,ba,bn,bm⟩:=Ks (by omega) bz c5 aT.out bM.out HB.out;have bb:((V.drop i).take (f+1)).length=mm+3:=by simp;have:=a2.out;omega
   have bW:W.bnd 18446744073709551616 ((V.drop i).take (f+1)):=W.bnd_take (W.bnd_drop bz _) _;have bu:=hz.arr.part (o:=i) (n:=f+1) (c:=n+1-i) (by omega) (by omega) (by unfold maxLen;omega);have aN:=fun(C:World) (bF:Qt wr C)=>Ll (w:=C) (n:=f) (m:=mm) (q:=q) (bu.ext bF.ext) ((hd.ext hE).ext bF.ext) bW Z.out.bnd a2.out (by omega) bN.out rfl rfl (Mw bb) (Gf (by rw[hd.len];exact a2.out)) (Bz bW (by omega)) (Bz Z.out.bnd (by rw[hd.len];have:=a2.out;omega)) (by rw[Z.out.val];exact R) (by rw[Z.out.val];exact a0) bt
   have bJ:∀ C:World,(Instr.sliceAt 98 (.slice (some ⟨r.heap.size,0,none⟩) (n+1) (n+1)) (some (.int .i64 i)) (some (.int .i64 ((i:Int)+f+1))) none).run prog C = .ok (.slice (some ⟨r.heap.size,i,none⟩) (f+1) (n+1-i)) C:=fun C=>by
    have:=Cx (P:=prog) (w:=C) (g:=r.heap.size) (n:=n+1) (c:=n+1) (lo:=i) (hi:=i+f+1) underlying98 AG (by omega) (by omega) (by omega);rw[show i+f+1-i=f+1 by omega,fI,fI]at this;exact this
   have bK:∀ C:World,(Instr.sliceAt 98 (.slice (some ⟨r.heap.size,0,none⟩) (n+1) (n+1)) (some (.int .i64 i)) (some (.int .i64 ((i:Int)+f))) none).run prog C = .ok (.slice (some ⟨r.heap.size,i,none⟩) f (n+1-i)) C:=fun C=>by
    have:=Cx (P:=prog) (w:=C) (g:=r.heap.size) (n:=n+1) (c:=n+1) (lo:=i) (hi:=i+f) underlying98 AG (by omega) (by omega) (by omega);rw[jO,fI]at this;exact this
   have cM:IntKind.i64.wrap ((i:Int)+f)=(i:Int)+f:=eT _ (by omega);have cr:IntKind.i64.wrap ((i:Int)+f+1)=(i:Int)+f+1:=eT _ (by omega);have cI:((i:Int)+f).toNat=i+f:=by omega
   have aj:=eP ba;have aW:=eP bn;have aX:=eP R;have aY:=eP a0;have bS:=eP bm;clear ba bn R a0 bm bu bW bb
   go_wp2_with fail
   refine(aN wr (Qt.refl _)).mono ?_;rintro e w7 ⟨g,rfl,c4,cn,bk,ay⟩;have bG:=hz.ext ay.ext;have bs:=hq.ext ay.ext;have ar:=hE.trans ay.ext;have bv:=Fb (w:=w7) (o:=i) (c':=n+1-i) (wd:=g) bG (hd.ext ar) (Or.inr (hd.fresh (lrf _) (by omega))) (by omega) bz Z.out.bnd bk
   go_wp2_with fail
   refine bv.mono ?_;rintro e w8 ⟨cy,G,rfl,cw,aC,L,am,aD,bl⟩;clear aN bv bJ bK;have S:=bs.kept aC (by simp;omega);have au:=ar.grownR aC (lrf _);have bZ:=L.cell (i:=i+f) (by omega);have c0:=L.frozen (i+f);have a7:G.getD (i+f) 0<18446744073709551616:=W.bnd_at am (by rw[L.len];omega);rw[Z.out.val]at aD;have ai:=eP aD;have bR:=eP bl;have Y:Hid (∀ v,W.val 18446744073709551616 (G.set (i+f) v)+18446744073709551616^(i+f)*G.getD (i+f) 0=W.val 18446744073709551616 G+18446744073709551616^(i+f)*v):=by
    show ∀ v,_;intro v;exact W.val_set (by rw[L.len];omega)
   clear aD bl bG bs aC hz hq;have bX:Hid (∀ j,i+f+1<=j->V.getD j 0=0):=by
    show ∀ j,i+f+1<=j->V.getD j 0=0;exact fun j hj=>DQ (by omega) bS.out (by omega)
   by_cases aL:cy<=G.getD (i+f) 0
   · obtain⟨v,hv⟩:∃ v,v+cy=G.getD (i+f) 0:=⟨G.getD (i+f) 0-cy,by omega⟩;have hR:=RI (Y.out v) ai.out hv;obtain⟨e1,e2⟩:=Kr aj.out aW.out hR aY.out c4;subst e1;have af:=eP (OE (qs:=qs) (i:=i) (q:=g) (by rw[S.len];omega) (HJ.out i (by omega)) rfl HV.out hR);have ae:=eP (H8 (q:=g) HJ.out);have bO:=eP e2;have cg:IntKind.u64.wrap (((G.getD (i+f) 0:Nat):Int)-cy)=(v:Int):=Af (by omega) (by omega);have cE:(cy:Int)<=((G.getD (i+f) 0:Nat):Int):=by omega
     have an:=S.cell (i:=i) (by omega);have bY:=S.frozen i;rw[HJ.out i (by omega)]at an;have U:=L.set (i+f) v;have T:=(S.kept (Ab w8 r.heap.size (i+f) (.int .u64 (v:Int))) (by simp;omega)).set i g;have ad:=U.kept (Ab (w8.setCell ⟨r.heap.size,i+f,none⟩ (.int .u64 (v:Int))) N.heap.size i (.int .u64 (g:Int))) (by simp;omega);have E:=(au.setCell (p:=⟨r.heap.size,i+f,none⟩) (lrf _) (.int .u64 (v:Int))).setCell (p:=⟨N.heap.size,i,none⟩) (by show r.heap.size<=N.heap.size;omega) (.int .u64 (g:Int))
     have O:=W.bnd_set (i:=i+f) am (show v<18446744073709551616 by omega);have al:=W.bnd_set (i:=i) bq bk;clear hR e2 hv aL;generalize G.getD (i+f) 0=t at *
     go_wp2;go_roundw
     case rel=>exact⟨i,G.set (i+f) v,qs.set i g,by go_num,by omega,E,ad,T,O,al,af,ae,bO⟩
     case measure=>simp[intOf]
   · obtain⟨v,hv⟩:∃ v,v+cy=G.getD (i+f) 0+18446744073709551616:=⟨G.getD (i+f) 0+18446744073709551616-cy,by omega⟩;have ce:v<18446744073709551616:=by omega
     have hR:=Kt (B:=18446744073709551616) (Y.out v) ai.out hv;have aB:=Ku (v:=v) bR.out bX.out;have O:=W.bnd_set (i:=i+f) am ce;have U:=L.set (i+f) v;have aa:W.val 18446744073709551616 (G.set (i+f) v)<18446744073709551616^(i+f+1):=Ge (by rw[U.len];omega) O aB;rw[<-fT]at hR;have co:q<g:=My aj.out hR aa aX.out;obtain⟨Q,rfl⟩:∃ Q,g=Q+1:=⟨g-1,by omega⟩;have c3:Q=q:=by omega
     subst c3;have HR:=eP hR;have aF:=eP aa;have aS:=eP aB;have cg:IntKind.u64.wrap (((G.getD (i+f) 0:Nat):Int)-cy)=(v:Int):=by
      rw[gY];omega
     have cF:((G.getD (i+f) 0:Nat):Int)<(cy:Int):=by omega
     have cK:IntKind.u64.wrap ((Q:Int)+1-1)=(Q:Int):=Af (by omega) (by omega);have cq:IntKind.u64.wrap (Q:Int)=(Q:Int):=Af (by omega) (by omega);have E:=au.setCell (p:=⟨r.heap.size,i+f,none⟩) (lrf _) (.int .u64 (v:Int));have T:=S.kept (Ab w8 r.heap.size (i+f) (.int .u64 (v:Int))) (by simp;omega);clear hR aa aB hv aL ai Y L S au;generalize G.getD (i+f) 0=t at *
     obtain⟨I,aR⟩:∃ I,G.set (i+f) v=I:=⟨_,rfl⟩;rw[aR]at HR aF aS O U;clear aR;go_wp2;generalize w8.setCell ⟨r.heap.size,i+f,none⟩ (.int .u64 (v:Int))=w9 at *
     go_loopw[17,115] (fun cv iv C=>∃ (k H:Nat) (F:List Nat),cv = .int .u64 H/\iv = .int .i64 k/\k<=f/\H<=1/\Ext r C/\Am .u64 C r.heap.size 101 r.heap.size (n+1) (n+1) F/\Am .u64 C N.heap.size 101 N.heap.size (nq+1) (nq+1) qs/\W.bnd 18446744073709551616 F/\Hid (W.val 18446744073709551616 F+H*18446744073709551616^(i+k)=W.val 18446744073709551616 I+1*W.val 18446744073709551616 (J.take k)*18446744073709551616^i)/\Hid (∀ j,i+f<=j->F.getD j 0=I.getD j 0)) (fun _ iv _=>f-(intOf iv).toNat)
     case atStart=>exact⟨0,0,I,rfl,rfl,f8 _,by omega,E,U,T,O,eP (by simp[W.val]),eP (fun _ _=>rfl)⟩
     case round =>
      clear U T O E ar hE;obtain⟨k,H,F,rfl,rfl,cD,c2,av,A,a1,a3,HL,aV⟩:=hrel;by_cases a6:k<f
      · obtain⟨b7,o7,rfl,be⟩:=(hd.ext av).at (j:=k) a6;have g1:=be k a6;have ct:=A.cell (i:=i+k) (by omega);have g3:=A.frozen (i+k);have cN:=W.bnd_at a3 (i:=i+k) (by rw[A.len];omega);have cO:=W.bnd_at Z.out.bnd (i:=k) (by rw[hd.len];exact a6);have HS:=eP (Kk (B:=18446744073709551616) (l:=F) (xs:=J) (k:=k) (o:=i) (w:=1) (s:=(F.getD (i+k) 0+J.getD k 0+H)%18446744073709551616) (c':=(F.getD (i+k) 0+J.getD k 0+H)/18446744073709551616) (by rw[A.len];omega) (by rw[hd.len];exact a6) HL.out (by rw[iN];exact iQ _ _))
        have cm:=Do (F.getD (i+k) 0) (J.getD k 0) H c2;have bQ:Hid (∀ s j,i+f<=j->(F.set (i+k) s).getD j 0=I.getD j 0):=by
         show ∀ s j,i+f<=j->(F.set (i+k) s).getD j 0=I.getD j 0;intro s j hj;have h1:=aV.out j hj;have h2:¬ i+k=j:=by omega
         rw[<-h1];simp[h2]
        have cB:((i:Int)+k).toNat=i+k:=by omega
        have cs:IntKind.i64.wrap ((i:Int)+k)=(i:Int)+k:=eT _ (by omega);generalize F.getD (i+k) 0=u at *
        generalize J.getD k 0=dv at *
        have ca:(u+dv+H)%18446744073709551616<18446744073709551616:=fN _ (by omega);have a5:(u+dv+H)/18446744073709551616<=1:=by omega
        generalize (u+dv+H)%18446744073709551616=s1 at *
        generalize (u+dv+H)/18446744073709551616=c1 at *
        have c8:=a1.kept (Ab wr r.heap.size (i+k) (.int .u64 (s1:Int))) (by simp;omega);clear be;go_wp2;go_roundw
        case rel=>exact⟨k+1,c1,F.set (i+k) s1,rfl,by go_num,by omega,a5,av.setCell (lrf _) _,A.set (i+k) s1,c8,W.bnd_set a3 ca,HS,eP (bQ.out s1)⟩
        case measure=>simp[intOf];omega
      · have ek:k=f:=by omega
        have aU:Hid (W.val 18446744073709551616 F+H*18446744073709551616^(i+f)=W.val 18446744073709551616 I+1*D*18446744073709551616^i):=by
         show _=_;have h1:=HL.out;rw[ek,eR (by rw[hd.len];exact lrf _),Z.out.val]at h1;exact h1
        have bZ:=A.cell (i:=i+f) (by omega);have c0:=A.frozen (i+f);have cJ:=W.bnd_at a3 (i:=i+f) (by rw[A.len];omega);have b0:=eP (fun z=>W.val_set (B:=18446744073709551616) (xs:=F) (i:=i+f) (v:=z) (by rw[A.len];omega));have aH:=fun z=>Ku (v:=z) aV.out aS.out;generalize F.getD (i+f) 0=u at *
        obtain⟨z,a8⟩:∃ z,(u+H)%18446744073709551616=z:=⟨_,rfl⟩;have cj:z<18446744073709551616:=by rw[<-a8];exact fN _ (by omega)
        have h3:z+18446744073709551616*((u+H)/18446744073709551616)=u+H:=by rw[<-a8];exact iQ _ _
        have hT:=Mz (B:=18446744073709551616) (b0.out z) aU.out h3;rw[<-fT]at hT;have aG:=W.bnd_set (i:=i+f) a3 cj;have aQ:=A.set (i+f) z;have aO:W.val 18446744073709551616 (F.set (i+f) z)<18446744073709551616^(i+f+1):=Ge (by rw[aQ.len];omega) aG (aH z);have b4:D*18446744073709551616^i<18446744073709551616^(i+f+1):=by
         have h4:D*18446744073709551616^i<18446744073709551616^f*18446744073709551616^i:=gK aT.out (iu (by omega));rw[<-ig]at h4;exact fG h4 (fd (by omega) (by omega))
        obtain⟨_,f2,f3⟩:=Mx aj.out aW.out HR.out aF.out aX.out aY.out (lrf _) hT aO b4;have af:=eP (OE (qs:=qs) (i:=i) (q:=Q) (by rw[a1.len];omega) (HJ.out i (by omega)) rfl HV.out f2);have ae:=eP (H8 (q:=Q) HJ.out);have bP:=eP f3;have cL:IntKind.u64.wrap ((u:Int)+(H:Int))=(z:Int):=by
         have:=Gb (x:=u+H) (M:=z) a8;rw[fI]at this;exact this
        have an:=a1.cell (i:=i) (by omega);have bY:=a1.frozen i;rw[HJ.out i (by omega)]at an;have T:=(a1.kept (Ab wr r.heap.size (i+f) (.int .u64 (z:Int))) (by simp;omega)).set i Q;have ad:=aQ.kept (Ab (wr.setCell ⟨r.heap.size,i+f,none⟩ (.int .u64 (z:Int))) N.heap.size i (.int .u64 (Q:Int))) (by simp;omega);have E:=(av.setCell (p:=⟨r.heap.size,i+f,none⟩) (lrf _) (.int .u64 (z:Int))).setCell (p:=⟨N.heap.size,i,none⟩) (by show r.heap.size<=N.heap.size;omega) (.int .u64 (Q:Int));have al:=W.bnd_set (i:=i) bq bt
        clear hT aO b4 f2 f3 h3 a8 b0 aH HL aU;go_wp2;go_roundw
        case rel=>exact⟨i,F.set (i+f) z,qs.set i Q,by go_num,by omega,E,ad,T,aG,al,af,ae,bP⟩
        case measure=>simp[intOf]
def H9(w:World)(q r:Nat)(e:Ending)(w':World):Prop:=∃ a n c b m d,e = .returned (.tuple #[.slice a n c,.slice b m d])/\Ext w w'/\Mg w' a n c q/\Mg w' b m d r
theorem JC(l:Mg w a n c x)(J:Mg w b m d y)(N:n<=100000)(i:x<y) :
 Calls prog 198 #[.slice a n c,.slice b m d] w (H9 w (x/y) (x%y)):=by
 have r:=eP (DO l J);have G:AQ (x:Int) (y:Int)<0:=C2.2 i;rw[gX i,gW i]
 go_enter func198,ntmps198
 go_wp2_with fail
 refine r.out.mono ?_;rintro e o ⟨rfl,D⟩;generalize AQ (x:Int) (y:Int)=O at *
 have F:=fun L:World=>RC (P:=prog) (w:=L) underlying105 Br;obtain⟨M,l,K,-⟩:=l;have f:=D.ext;have t:=l.ext (f.trans ((Ext.refl o).alloc (.cells #[] 187)));have q:=Ag o o.heap.size 187 #[] 0 rfl (lrf _) (by omega)
 go_wp2_with(refine AU rfl rfl underlying105 Br rfl rfl q rfl t (by intro v I;obtain⟨z,_,rfl⟩:=fh.1 I;rfl) (by unfold maxLen;omega) (by omega) (by simp) ?_;intro B C A k s E)
 have j:=(Ext.refl o).alloc (.cells #[] 187)
 have p:Ext w A:=(f.trans j).grown s fun g h=>by
  simp only[blk,i8,fc]at h;have:=f.size;have:=j.size;omega
 have H:Mg A B n C x:=⟨M,by have h1:=k.sl;rw[fP]at h1;exact h1,K,k.ty⟩
 go_ret2
 exact⟨none,0,0,B,n,C,rfl,p,Mg.nil A,H⟩
theorem I5(E:Mg w a n c x)(C:Mg w b 1 d y)(F:n<=100000)(L:y<=x)(h0:0<y) :
 Calls prog 198 #[.slice a n c,.slice b 1 d] w (H9 w (x/y) (x%y)):=by
 have A:=eP (DO E C);have J:¬ AQ (x:Int) (y:Int)<0:=by rw[C2];omega
 have m:y<4294967296:=by
  obtain⟨D,h1,h2,-⟩:=C;have h3:=W.val_lt h2.bnd;rw[h2.val,h1.len]at h3;exact h3
 obtain⟨f,o,rfl,G⟩:∃ f o,b=some ⟨f,o,none⟩/\w.cell? ⟨f,o,none⟩=some (.int .u32 (y:Int)):=by
  obtain⟨D,h1,h2,-⟩:=C;obtain⟨f,o,rfl,I⟩:=h1.at (j:=0) (by omega);refine⟨f,o,rfl,?_⟩;have h3:=I 0 (by omega);have h4:D.getD 0 0=y:=by
   have h5:=h1.len
   match D,h5 with
   | [z],_=>have h6:=h2.val;simp[W.val]at h6;simpa using h6
  rw[h4]at h3;exact h3
 go_enter func198,ntmps198
 go_wp2_with fail
 refine A.out.mono ?_;rintro e V ⟨rfl,s⟩;generalize AQ (x:Int) (y:Int)=T at *
 have H:=s.ext.cell G;have B:=eP (Lk (E.ext s.ext) F h0 m)
 go_wp2_with fail
 refine B.out.mono ?_;rintro e p ⟨R,U,S,rfl,q,N⟩;have O:x%y<4294967296:=jK (fN _ h0) m;generalize x%y=r at *
 go_upto_region 5 with(fail)
 have i:=(Ag p p.heap.size 187 #[.int .u32 (r:Int)] 1 rfl (lrf _) (by omega));have l:SlN .u32 (p.alloc (.cells #[.int .u32 (r:Int)] 187)) (some ⟨p.heap.size,0,none⟩) 1 1 [r]:=i.sl
 go_wp2_with fail
 refine(Bl l).mono ?_;rintro e X ⟨k,rfl,rfl,K,P⟩;have t:W.bnd 4294967296 [r]:=fun z Q=>by rw[eV.1 Q];exact O
 have M:=Cw l i.ty K P t (v:=r) (by simp[W.val]);have g:=(Ext.refl p).alloc (.cells #[.int .u32 (r:Int)] 187);go_wp2
 go_ret2
 exact⟨_,_,_,_,_,_,rfl,(s.ext.trans q).trans g,N.ext g,M⟩
end Go.Proofs.YthdbingomfdeoaaGreatDoor
namespace Go.Proofs.YthdbingomfdeoaaGreatDoor.W
variable {odd:Bool} {B D M P X Y a b c1 c2 k p s u1 u2 v1 v2 x y:Nat}
theorem gcd_two_right(a:x%2=1):Nat.gcd x (2^k*y)=Nat.gcd x y:=by
 have h2:Nat.Coprime x 2:=by
  rw[Nat.coprime_comm];rw[Nat.coprime_iff_gcd_eq_one];rw[lK,a];rfl
 have h:Nat.Coprime x (2^k):=Nat.Coprime.pow_right k h2;exact Nat.Coprime.gcd_mul_left_cancel_right y h.symm
theorem Lm(a:y%2=1):Nat.gcd (2^k*x) y=Nat.gcd x y:=by
 rw[iX,gcd_two_right a,iX]
theorem RJ:2^k∣(x ||| y)<->2^k∣x/\2^k∣y:=by
 simp only[Nat.dvd_iff_mod_eq_zero];rw[Nat.or_mod_two_pow];exact Nat.or_eq_zero_iff
theorem gcd_split{f m:Nat}(i:X=2^a*f)(t:f%2=1)(d:X ||| Y=2^s*(2*m+1)):Nat.gcd X Y=2^s*Nat.gcd f Y:=by
 have h1:=(RJ (x:=X) (y:=Y) (k:=s)).1 ⟨2*m+1,d⟩;obtain⟨⟨g,b⟩,⟨o,c⟩⟩:=h1;have h2:¬ 2^(s+1)∣(X ||| Y):=by
  rintro⟨q,e⟩;rw[d,fT,im]at e;have:=kI (fy s) e;omega
 have r:s<=a:=by
  refine fk fun p => ?_;have h3:2^(a+1)∣X:=jg (Nat.pow_dvd_pow 2 (by omega:a+1<=s)) ⟨g,b⟩;obtain⟨q,e⟩:=h3;rw[i,fT,im]at e;have:=kI (fy a) e;omega
 have n:g=2^(a-s)*f:=by
  have:2^s*g=2^s*(2^(a-s)*f):=by
   rw[<-b,i,<-im,<-ig];congr 2;omega
  exact kI (fy s) this
 rw[b,c,Nat.gcd_mul_left,gcd_two_right t];congr 1;by_cases l:a=s
 · subst l;rw[n,iW,iP,ii]
 · have j:o % 2=1:=by
    refine fk fun p=>h2 (RJ.2 ⟨?_,?_⟩)
    · rw[i];exact jg (Nat.pow_dvd_pow 2 (by omega)) (Nat.dvd_mul_right _ _)
    · rw[c,fT];exact Nat.mul_dvd_mul_left _ (by omega)
   rw[n];exact Lm j
theorem gcd_swap(h:x<=y):Nat.gcd x (y-x)=Nat.gcd x y:=by
 rw[Nat.gcd_sub_self_right h]
structure Steps(a b u0 u1 v0 v1:Nat)(odd:Bool)(p q:Nat):Prop where
 ep:if odd=true then p+v0*b=u0*a else p+u0*a=v0*b
 eq:if odd=true then q+u1*a=v1*b else q+v1*b=u1*a
 gcd:Nat.gcd p q=Nat.gcd a b
 lt:q<p
 le:p<=b
theorem MA{q:Nat}(h1:v2*p+v1*q=a)(h2:u2*p+u1*q=b)(s:Int)(hp:(p:Int)=s*(u1*a-v1*b))(e:(q:Int) = -(s*(u2*a-v2*b))):Nat.gcd p q=Nat.gcd a b:=by
 apply Nat.dvd_antisymm
 · apply Nat.dvd_gcd
   · rw[<-h1];exact Nat.dvd_add (jg (jh p q) (j5 _ _)) (jg (jz p q) (j5 _ _))
   · rw[<-h2];exact Nat.dvd_add (jg (jh p q) (j5 _ _)) (jg (jz p q) (j5 _ _))
 · have c:((Nat.gcd a b:Nat):Int)∣(a:Int):=jS.2 (jh a b);have d:((Nat.gcd a b:Nat):Int)∣(b:Int):=jS.2 (jz a b);apply Nat.dvd_gcd
   · apply jS.1;rw[hp];exact kl (Int.dvd_sub (kl c (jG _ _)) (kl d (jG _ _))) (jG _ _)
   · apply jS.1;rw[e];exact Int.dvd_neg.2 (kl (Int.dvd_sub (kl c (jG _ _)) (kl d (jG _ _))) (jG _ _))
theorem Leh.good{A o P r t f g s:Int}(h:Leh a b A o P r t f g u1 u2 v1 v2 s)(k:(v2:Int)<=g)(l:(v1:Int)+v2<=f-g)(hu:(u1:Int)<=v1\/((u1:Int)=1/\(v1:Int)=0/\(u2:Int)=0/\s=1))(c:(u1:Int)*v2-u2*v1=s)(m:1<=u2) :
 ∃ p q,Steps a b u1 u2 v1 v2 (decide (s=1)) p q:=by
 have h1:=h.sec k;have h2:=h.gap l hu;have n:=h.sg;obtain⟨q,d⟩:=Int.eq_ofNat_of_zero_le h1;obtain⟨p,hp⟩:=Int.eq_ofNat_of_zero_le (lB h1 (jf h2));have e:s*s=1:=by rcases n with rfl | rfl <;> rfl
 have v:((v2*p+v1*q:Nat):Int)=(a:Int):=by
  rw[fI,fH,fH,<-hp,<-d];have:(v2:Int)*(s*(u1*a-v1*b))+v1 * -(s*(u2*a-v2*b))=s*(u1*v2-u2*v1)*a:=by grind
  rw[this,c,e,Int.one_mul]
 have w:((u2*p+u1*q:Nat):Int)=(b:Int):=by
  rw[fI,fH,fH,<-hp,<-d];have:(u2:Int)*(s*(u1*a-v1*b))+u1 * -(s*(u2*a-v2*b))=s*(u1*v2-u2*v1)*b:=by grind
  rw[this,c,e,Int.one_mul]
 have i:v2*p+v1*q=a:=by omega
 have j:u2*p+u1*q=b:=by omega
 refine⟨p,q,?_,?_,MA i j s hp.symm d.symm,by omega,?_⟩
 · rcases n with rfl|rfl
   · simp only[jU,j0];have:((p+v1*b:Nat):Int)=((u1*a:Nat):Int):=by
      rw[fI,fH,fH,<-hp];omega
     omega
   · rw[fl (by simp)];have:((p+u1*a:Nat):Int)=((v1*b:Nat):Int):=by
      rw[fI,fH,fH,<-hp];omega
     omega
 · rcases n with rfl|rfl
   · simp only[jU,j0];have:((q+u2*a:Nat):Int)=((v2*b:Nat):Int):=by
      rw[fI,fH,fH,<-d];omega
     omega
   · rw[fl (by simp)];have:((q+v2*b:Nat):Int)=((u2*a:Nat):Int):=by
      rw[fI,fH,fH,<-d];omega
     omega
 · have h3:1*p<=u2*p:=eS _ m;omega
theorem head_of{t1 t0 lo r:Nat}(c:B=2^s*r)(h0:0<r)(d:a=(t1*B+t0)*M+lo)(b:lo<M) :
 a/(M*r)=t1*2^s+t0/r:=by
 have h1:a/M=t1*B+t0:=by
  rw[d,f9,j3 (by omega),gX b,gd]
 rw[<-jm,h1,c,show t1*(2^s*r)=r*(t1*2^s) by grind,j3 h0]
theorem P3(d:0<P)(c:b<=a):Leh (a:Int) (b:Int) ((a/P:Nat):Int) ((b/P:Nat):Int) (P:Int) ((a%P:Nat):Int) ((b%P:Nat):Int) ((a/P:Nat):Int) ((b/P:Nat):Int) 1 0 0 1 1:=by
 have h1:=fY a P;have h2:=fY b P;have h3:=fN a d;have h4:=fN b d;have h5:b/P<=a/P:=Nat.div_le_div_right c;refine Leh.start ?_ ?_ (jR _) (Int.ofNat_lt.2 h3) (jR _) (Int.ofNat_lt.2 h4) (jR _) (Int.ofNat_le.2 h5)
 · rw[f9]at h1;rw[<-fH,<-fI];omega
 · rw[f9]at h2;rw[<-fH,<-fI];omega
structure Sim(a b A Bb P α β f g u0 u1 u2 v0 v1 v2:Nat)(odd:Bool):Prop where
 leh:Leh (a:Int) b A Bb P α β f g u1 u2 v1 v2 (if odd=true then -1 else 1)
 hu:(u1<=v1)\/(u1=1/\v1=0/\u2=0/\odd=false)
 det:(u1:Int)*v2-u2*v1=(if odd=true then -1 else 1)
 good:v0=0\/∃ p q,Steps a b u0 u1 v0 v1 odd p q
 u20:u2=0->v1=0
theorem Sim.start(d:0<P)(c:b<=a):Sim a b (a/P) (b/P) P (a%P) (b%P) (a/P) (b/P) 0 1 0 0 0 1 false :=
 ⟨P3 d c,Or.inr ⟨rfl,rfl,rfl,rfl⟩,by simp,Or.inl rfl,fun _=>rfl⟩
theorem Sim.bound{A c j k f g u0 i:Nat}(h:Sim a b A c P j k f g u0 u1 u2 i v1 v2 odd)(d:1<=g):v1+v2<=A/\u1<=A+1/\u2<=A:=by
 have e:=h.leh.sv;have o:=h.leh.vv;have n:=h.leh.uv;have m:=h.leh.gf;have l:v2*f+v1*g=A:=by
  have:((v2*f+v1*g:Nat):Int)=(A:Int):=by rw[fI,fH,fH];exact e
  omega
 have h1:v2*1<=v2*f:=fx _ (by omega);have h2:v1*1<=v1*g:=fx _ d;rcases h.hu with hu|⟨rfl,rfl,rfl,_⟩ <;> omega
theorem Sim.step{a b A r P t v f g u0 u1 u2 B v1 v2:Nat}{c:Bool}(h:Sim a b A r P t v f g u0 u1 u2 B v1 v2 c)(J:v2<=g)(I:v1+v2<=f-g) :
 Sim a b A r P t v g (f%g) u1 u2 (u1+f/g*u2) v1 v2 (v1+f/g*v2) (!c)/\v1+f/g*v2<=A/\u1+f/g*u2<=A/\f%g<g:=by
 have C:=h.leh.v2p;have H:=h.leh.gf;have l:1<=g:=by omega
 obtain⟨D,E,F⟩:=h.bound l;have x:(f:Int)=((f/g:Nat):Int)*(g:Int)+((f%g:Nat):Int):=by
  have:=fY f g;rw[f9]at this;rw[<-fH,<-fI];omega
 have z:=fN f (show 0<g by omega);have y:1<=f/g:=(Nat.le_div_iff_mul_le (by omega)).2 (by omega);have n:(u1:Int)<=v1\/((u1:Int)=1/\(v1:Int)=0/\(u2:Int)=0/\(if c=true then -1 else 1:Int)=1):=by
  rcases h.hu with hu|⟨rfl,rfl,rfl,rfl⟩
  · left;omega
  · right;simp
 have d:=h.leh.step x (by omega) (by omega) (by omega) n;have i : -(if c=true then -1 else 1:Int)=(if(!c)=true then -1 else 1:Int):=by cases c <;> rfl
 rw[i]at d;have j:Leh (a:Int) b A r P t v g ((f%g:Nat):Int) u2 ((u1+f/g*u2:Nat):Int) v2 ((v1+f/g*v2:Nat):Int) (if(!c)=true then -1 else 1):=by
  rw[fI,fI,fH,fH];exact d
 have e:=j.sv;have L:=j.uv;have G:(v1+f/g*v2)*g+v2*(f%g)=A:=by
  have:(((v1+f/g*v2)*g+v2*(f%g):Nat):Int)=(A:Int):=by rw[fI,fH,fH];exact e
  omega
 have K:(v1+f/g*v2)*1<=(v1+f/g*v2)*g:=fx _ l;refine⟨⟨j,?_,?_,?_,?_⟩,by omega,by omega,z⟩
 · left;have:=h.leh.uv;omega
 · have w:=h.det;have:(u2:Int)*((v1+f/g*v2:Nat):Int)-((u1+f/g*u2:Nat):Int)*v2 = -((u1:Int)*v2-u2*v1):=by
    rw[fI,fI,fH,fH]
    grind
   rw[this,w,i]
 · by_cases h0:v1=0
   · exact Or.inl h0
   · right;have k:1<=u2:=by
      rcases fj u2 with h2|h2
      · exact absurd (h.u20 h2) h0
      · exact h2
     obtain⟨p,q,m⟩:=h.leh.good (by omega) (by omega) n h.det k;refine⟨p,q,?_⟩;have:decide ((if c=true then -1 else 1:Int)=1) = !c:=by cases c <;> rfl
     rw[this]at m;exact m
 · intro h0;have s:u1=0:=by omega
   have k:f/g*u2=0:=by omega
   have o:u2=0:=by
    rcases Nat.mul_eq_zero.1 k with h3|h3
    · omega
    · exact h3
   subst s;subst o;have:=h.det;cases c <;> simp at this
theorem comb_step{U V d c1' c2':Nat}(h:D+U+c1*M=V+c2*M)(e:d+x+c2+B*c1'=y+c1+B*c2') :
 D+M*d+(U+M*x)+c1'*(M*B)=V+M*y+c2'*(M*B):=by
 have a:M*(d+x+c2+B*c1')=M*(y+c1+B*c2'):=by rw[e]
 grind
theorem comb_end{T:Nat}(h:D+X+c1*T=Y+c2*T)(hp:p+X=Y)(b:D<T)(a:p<T):D=p:=by
 have h1:D+c1*T=p+c2*T:=by omega
 have h2:=fV (· % T) h1;simp only[Nat.add_mul_mod_self_right]at h2
 rwa[gW b,gW a]at h2
end Go.Proofs.YthdbingomfdeoaaGreatDoor.W
namespace Go.Proofs.YthdbingomfdeoaaGreatDoor
open Go.Shelf
def P4:Go.Shelf.Ren:=⟨fun | 29=>210 | n=>n,fun | 22=>101 | 3=>3 | 4=>4 | 25=>144 | 54=>279 | 0=>0 | 5=>5 | n=>n,fun | 1=>1 | n=>n⟩
theorem UZ:Go.Proofs.Lays7.n29 Tryz.prog P4:={
 mixed:=by kernel_rfl
 f29:=Tryz.func210.trans (fV some (by kernel_rfl))
 t0:=Tryz.underlying0
 a0:=Tryz.isAgg0
 z0:=Tryz.sizeOf0
 v0:=Tryz.zeroValue0
 i0:=by kernel_rfl
 t3:=Tryz.underlying3
 a3:=Tryz.isAgg3
 z3:=Tryz.sizeOf3
 v3:=Tryz.zeroValue3
 i3:=by kernel_rfl
 t4:=Tryz.underlying4
 a4:=Tryz.isAgg4
 z4:=Tryz.sizeOf4
 v4:=Tryz.zeroValue4
 i4:=by kernel_rfl
 t5:=Tryz.underlying5
 a5:=Tryz.isAgg5
 z5:=Tryz.sizeOf5
 v5:=Tryz.zeroValue5
 i5:=by kernel_rfl
 t22:=Tryz.underlying101
 a22:=Tryz.isAgg101
 z22:=Tryz.sizeOf101
 v22:=Tryz.zeroValue101
 i22:=by kernel_rfl
 t25:=Tryz.underlying144
 a25:=Tryz.isAgg144
 z25:=Tryz.sizeOf144
 v25:=Tryz.zeroValue144
 i25:=by kernel_rfl
 t54:=Tryz.underlying279
 a54:=Tryz.isAgg279
 z54:=Tryz.sizeOf279
 g1:=by kernel_rfl }
end Go.Proofs.YthdbingomfdeoaaGreatDoor
namespace Go.Proofs.YthdbingomfdeoaaGreatDoor
open Tryz Go Go.RowKit
variable {cs cs' cs'' cs3:Array Value} {xs ys zs:List Nat} {B base c d g k m n s x y:Nat} {a b:Option Addr} {e t t' t'' t3 ty ty':TypeId} {w w':World}
structure BE(w:World):Prop where
 tz:TabAt 1 Lib.deBruijn64tab w
theorem BE.ext(h:BE w)(e:Ext w w'):BE w' :=
 ⟨fun j a=>e.cell (h.tz j a)⟩
theorem NK(h0:0<x)(a:x<18446744073709551616):∃ k m,k<64/\x=2^k*(2*m+1)/\∀ w,BE w->Calls prog 210 #[.int .u64 x] w fun e b=>e = .returned (.int .i64 (k:Nat))/\w=b:=by
 obtain⟨m,h1,h2⟩:=Lib.ctzFrom_spec 64 x h0 a;have h3:Lib.ctz 64 x=Lib.ctzFrom 64 x:=by unfold Lib.ctz;rw[fl (by omega)]
 refine⟨_,m,h2,h1,fun w c => ?_⟩;refine(Any7.bits_TrailingZeros64 UZ x a w (fun _=>c.tz)).mono ?_;rintro e b ⟨rfl,rfl⟩;rw[h3];exact⟨rfl,rfl⟩
theorem OH(h:x=2^k*(2*m+1)):x/2^k=2*m+1:=by
 rw[h,jM _ (fy k)]
theorem MC(I:BE w)(P:x<18446744073709551616)(R:y<18446744073709551616) :
 Calls prog 178 #[.int .u64 x,.int .u64 y] w fun e w'=>e = .returned (.int .u64 (Nat.gcd x y:Nat))/\w=w':=by
 have c:=kN x y P R;by_cases h0:x=0
 · subst h0;have A:bits BinOp.or IntKind.u64 0 (y:Int)=(y:Int):=by
    rw[Nat.zero_or]at c;exact c
   rw[Nat.gcd_zero_left];clear c
   go_enter func178,ntmps178
   go_wp2;go_ret;exact⟨rfl,rfl⟩
 by_cases h1:y=0
 · subst h1;have A:bits BinOp.or IntKind.u64 (x:Int) 0=(x:Int):=by
    rw[Nat.or_zero]at c;exact c
   rw[jN];have Y:((x:Int) == 0)=false:=by simpa using h0
   clear c
   go_enter func178,ntmps178
   go_wp2;go_ret;exact⟨rfl,rfl⟩
 have Y:((x:Int) == 0)=false:=by simpa using h0
 have L:((y:Int) == 0)=false:=by simpa using h1
 have z:x ||| y<18446744073709551616:=Lj P R
 have v:0<x ||| y:=by
  rcases fj (x ||| y)with h|h
  · exact absurd (Nat.or_eq_zero_iff.1 h).1 h0
  · exact h
 obtain⟨s,m,hs,C,n⟩:=NK v z;obtain⟨a,d,Z,i,r⟩:=NK (x:=x) (by omega) P;have E:Hid (Nat.gcd x y=2^s*Nat.gcd (2*d+1) y):=eP (W.gcd_split i (by omega) C);have Q:(x:Int)/2^a=((2*d+1:Nat):Int):=by
  have:=OH i;rw[<-this];push_cast;rfl
 have D:2*d+1<18446744073709551616:=by
  have:1*(2*d+1)<=2^a*(2*d+1):=eS _ (fy a);omega
 clear C i;generalize x ||| y=o at *
 go_enter func178,ntmps178
 go_wp2_with fail
 refine(n _ I).mono ?_;rintro e S ⟨rfl,rfl⟩
 go_wp2_with fail
 refine(r _ I).mono ?_;rintro e S ⟨rfl,rfl⟩;go_wp2;have M:Hid (Nat.gcd (2*d+1) y=Nat.gcd (2*d+1) y):=eP rfl;obtain⟨G,H⟩:∃ G,Nat.gcd (2*d+1) y=G:=⟨_,rfl⟩;have j:=eP H;have K:2^s*G<18446744073709551616:=by
  rw[<-H,<-E.out];have:=ld (by omega) (jh x y);omega
 rw[H]at E;clear M H n r Q c
 go_loop[0,1] (fun T U=>∃ p q:Nat,T = .int .u64 (2*(p:Int)+1)/\U = .int .u64 q/\2*p+1<18446744073709551616/\q<18446744073709551616/\Hid (Nat.gcd (2*p+1) q=G)) (fun T U=>(intOf T+intOf U).toNat)
 case atStart=>exact⟨d,y,rfl,rfl,D,R,j⟩
 case round =>
  clear j D Y L h0 h1 z v Z;obtain⟨p,q,rfl,rfl,hp,hq,F⟩:=hrel;by_cases B:q=0
  · subst B;have V:Hid (2*p+1=G):=by show _=_;have:=F.out;rw[jN]at this;exact this
    have O:IntKind.u64.wrap ((2*(p:Int)+1)*2^s)=((Nat.gcd x y:Nat):Int):=by
     have h1:(2*(p:Int)+1)*2^s=((2^s*G:Nat):Int):=by
      rw[<-V.out];push_cast;exact Int.mul_comm _ _
     rw[h1,E.out];exact Af rfl K
    obtain⟨X,f⟩:∃ X,Nat.gcd x y=X:=⟨_,rfl⟩;rw[f]at O;have J:=eP f;clear F V E f;go_wp2;go_ret;exact⟨by rw[J.out];rfl,rfl⟩
  · obtain⟨k,b,hk,g,t⟩:=NK (x:=q) (by omega) hq;have a2:((q:Int) != 0)=true:=by simpa using B
    have a3:(q:Int)/2^k=2*(b:Int)+1:=by
     have:=OH g;have h2:(q:Int)/2^k=((q/2^k:Nat):Int):=by push_cast;rfl
     rw[h2,this];push_cast;rfl
    have a1:2*b+1<=q:=by
     have:1*(2*b+1)<=2^k*(2*b+1):=eS _ (fy k);omega
    have l:Hid (Nat.gcd (2*p+1) (2*b+1)=G):=by
     show _=_;have:=F.out;rw[g,W.gcd_two_right (by omega)]at this;exact this
    clear F g;by_cases a0:b<p
    · have N:2*(b:Int)+1<2*(p:Int)+1:=by omega
      have hw:IntKind.u64.wrap (2*(p:Int)+1-(2*(b:Int)+1))=((2*(p-b):Nat):Int):=by
       rw[gY];omega
      go_wp2_with fail
      refine(t _ I).mono ?_;rintro e S ⟨rfl,rfl⟩;go_wp2;go_round
      case rel =>
       refine⟨b,2*(p-b),rfl,rfl,by omega,by omega,eP ?_⟩;rw[<-l.out,iX (2*p+1),show 2*(p-b)=2*p+1-(2*b+1) by omega];exact W.gcd_swap (by omega)
      case measure=>simp[intOf];omega
    · have N:¬ (2*(b:Int)+1<2*(p:Int)+1):=by omega
      have hw:IntKind.u64.wrap (2*(b:Int)+1-(2*(p:Int)+1))=((2*(b-p):Nat):Int):=by
       rw[gY];omega
      go_wp2_with fail
      refine(t _ I).mono ?_;rintro e S ⟨rfl,rfl⟩;go_wp2;go_round
      case rel =>
       refine⟨p,2*(b-p),rfl,rfl,by omega,by omega,eP ?_⟩;rw[<-l.out,show 2*(b-p)=2*b+1-(2*p+1) by omega];exact W.gcd_swap (by omega)
      case measure=>simp[intOf];omega
section
variable {P:Program} {c:Code} {Q:Exit->Act->World->Prop} {f:Act} {w:World}
theorem AK(h:∀ a,Ext w a->Arr a w.heap.size t cs.toList->a.heap.size=w.heap.size+1->Code.wp P c Q f a):Code.wp P c Q f (w.alloc (.cells cs t)) :=
 h _ ((Ext.refl w).alloc _) (Arr.new w t cs.toList) (by simp)
theorem I6(h:∀ a,Ext w a->Arr a w.heap.size t cs.toList->Arr a (w.heap.size+1) t' cs'.toList->a.heap.size=w.heap.size+2->Code.wp P c Q f a):Code.wp P c Q f ((w.alloc (.cells cs t)).alloc (.cells cs' t')) :=
 h _ (((Ext.refl w).alloc _).alloc _) ((Arr.new w t cs.toList).alloc _) (by have:=Arr.new (w.alloc (.cells cs t)) t' cs'.toList;simpa using this) (by simp)
theorem Ln(h:∀ a,Ext w a->Arr a w.heap.size t cs.toList->Arr a (w.heap.size+1) t' cs'.toList->Arr a (w.heap.size+2) t'' cs''.toList->a.heap.size=w.heap.size+3->Code.wp P c Q f a):Code.wp P c Q f (((w.alloc (.cells cs t)).alloc (.cells cs' t')).alloc (.cells cs'' t'')) :=
 h _ ((((Ext.refl w).alloc _).alloc _).alloc _) (((Arr.new w t cs.toList).alloc _).alloc _) (by have:=(Arr.new (w.alloc (.cells cs t)) t' cs'.toList).alloc (.cells cs'' t'');simpa using this) (by have:=Arr.new ((w.alloc (.cells cs t)).alloc (.cells cs' t')) t'' cs''.toList;simpa using this) (by simp)
theorem U0(h:∀ a,Ext w a->Arr a w.heap.size t cs.toList->Arr a (w.heap.size+1) t' cs'.toList->Arr a (w.heap.size+2) t'' cs''.toList->Arr a (w.heap.size+3) t3 cs3.toList->a.heap.size=w.heap.size+4->Code.wp P c Q f a):Code.wp P c Q f ((((w.alloc (.cells cs t)).alloc (.cells cs' t')).alloc (.cells cs'' t'')).alloc (.cells cs3 t3)) :=
 h _ (((((Ext.refl w).alloc _).alloc _).alloc _).alloc _) ((((Arr.new w t cs.toList).alloc _).alloc _).alloc _) (by have:=((Arr.new (w.alloc (.cells cs t)) t' cs'.toList).alloc (.cells cs'' t'')).alloc (.cells cs3 t3);simpa using this) (by have:=(Arr.new ((w.alloc (.cells cs t)).alloc (.cells cs' t')) t'' cs''.toList).alloc (.cells cs3 t3);simpa using this) (by have:=Arr.new (((w.alloc (.cells cs t)).alloc (.cells cs' t')).alloc (.cells cs'' t'')) t3 cs3.toList;simpa using this) (by simp)
end
section
variable {P:Program} {w:World}
theorem NL{cs:List Value}(a:Agg P ty cs.length)(h:Arr w g t cs):(loadVar ty ⟨g,0,none⟩).run P w = .ok (.agg cs.toArray) w:=by
 obtain⟨d,hu,b,c⟩:=a.parts;exact run_loadVar_row (P:=P) w g t ty cs.toArray (0,0) d h hu (by cases d <;> first | rfl | exact absurd b (by simp)) (by simpa using c)
theorem Us{f:Func}{p q:Tmp}(l:f.results=#[.cell p ty,.cell q ty']){a:Array Value}{g b:Nat}{t t':TypeId}{cs cs':List Value}(j:Agg P ty cs.length)(c:Agg P ty' cs'.length)
 (hp:a.getD p undef = .pointer (some ⟨g,0,none⟩)) (k:a.getD q undef = .pointer (some ⟨b,0,none⟩)) (h:Arr w g t cs) (i:Arr w b t' cs'):(results f a).run P w = .ok (.tuple #[.agg cs.toArray,.agg cs'.toArray]) w:=by
 have d:a[p]?.getD undef = .pointer (some ⟨g,0,none⟩):=by simpa using hp
 have e:a[q]?.getD undef = .pointer (some ⟨b,0,none⟩):=by simpa using k
 simp[results,l,d,e,asAddr,NL j h,NL c i]
theorem Ap{d:Func}{p q:Tmp}(i:d.results=#[.cell p ty,.tmp q]){a:Array Value}{g:Nat}{t:TypeId}{cs:List Value}{v:Value}(e:Agg P ty cs.length)
 (hp:a.getD p undef = .pointer (some ⟨g,0,none⟩)) (f:a.getD q undef=v) (h:Arr w g t cs):(results d a).run P w = .ok (.tuple #[.agg cs.toArray,v]) w:=by
 have b:a[p]?.getD undef = .pointer (some ⟨g,0,none⟩):=by simpa using hp
 have c:a[q]?.getD undef=v:=by simpa using f
 simp[results,i,b,c,asAddr,NL e h]
end
theorem Cm:Agg prog 236 5:=⟨by kernel_rfl,by kernel_rfl⟩
def Cn(u0 u1 v0 v1:Nat)(odd:Bool):List Value:=[.int .u64 u0,.int .u64 u1,.int .u64 v0,.int .u64 v1,.bool odd]
theorem FC(u0 u1 c v1:Nat)(a:Bool):∀ v∈Cn u0 u1 c v1 a,v.oneCell'=true:=by
 intro v b;simp only[Cn,fS,ia,jL]at b;rcases b with rfl|rfl|rfl|rfl|rfl <;> rfl
theorem EX(a:s<=63):18446744073709551616=2^s*2^(64-s):=by rw[<-ig,show s+(64-s)=64 by omega]
theorem Lp{t1 t0:Nat}(a:s<=63)(h0:t0<18446744073709551616):t1*2^s ||| t0/2^(64-s)=t1*2^s+t0/2^(64-s):=by
 have h:t0/2^(64-s)<2^s:=by
  rw[gG (fy _),<-EX a];exact h0
 have:=Nat.shiftLeft_add_eq_or_of_lt h t1;rw[Nat.shiftLeft_eq]at this;exact this.symm
def Vm(w:World)(x y:Nat)(e:Ending)(w':World):Prop :=
 ∃ u0 u1 v0 v1 odd,e = .returned (.agg (Cn u0 u1 v0 v1 odd).toArray)/\Ext w w'/\u0<18446744073709551616/\u1<18446744073709551616/\v0<18446744073709551616/\v1<18446744073709551616/\(v0=0\/∃ p q,W.Steps x y u0 u1 v0 v1 odd p q)
theorem Lq(hx:SlN .u64 w a n c xs)(hy:SlN .u64 w b m d ys)(nx:Num 18446744073709551616 xs x)(ny:Num 18446744073709551616 ys y)(hn:n<=100000)(ar:y<=x){nn:Nat}(av:n=nn+2) :
 Calls prog 174 #[.slice a n c,.slice b m d] w (Vm w x y):=by
 have HX:=eP hx.len;have HY:=eP hy.len;have bg:m<=n:=by
  refine fk fun hc => ?_;have:=W.len_lt (B:=18446744073709551616) (by omega) nx.bnd ny.nrm (by rw[HX.out,HY.out];omega);rw[nx.val,ny.val]at this;omega
 have ah:xs≠[]:=by intro h;have:=HX.out;rw[h]at this;simp at this;omega
 have ag:0<xs.getD (nn+1) 0:=by
  have h1:=nx.nrm ah;rw[iV]at h1;have h2:xs.length-1=nn+1:=by rw[HX.out];omega
  have h3:nn+1<xs.length:=by rw[HX.out];omega
  have h4:xs.getD (nn+1) 0=xs[xs.length-1]'(by omega):=by
   simp[h2,h3]
  omega
 have ax:=W.bnd_at nx.bnd (i:=nn+1) (by rw[HX.out];omega);have aw:=W.bnd_at nx.bnd (i:=nn) (by rw[HX.out];omega);obtain⟨s,hs,au,aO,a9⟩:=Li ag ax;have D:=fun wx:World=>NH ax wx;rw[au]at D;obtain⟨P,hP⟩:∃ P,18446744073709551616^nn*2^(64-s)=P:=⟨_,rfl⟩;have am:0<P:=by rw[<-hP];exact jr (iu (by omega)) (fy _)
 have hA:x/P=xs.getD (nn+1) 0*2^s+xs.getD nn 0/2^(64-s):=by
  rw[<-hP];refine W.head_of (EX hs) (fy _) (lo:=W.val 18446744073709551616 (xs.take nn)) ?_ ?_
  · rw[<-nx.val];exact Gf (by rw[HX.out];omega)
  · exact Bz nx.bnd (by rw[HX.out];omega)
 have aj:xs.getD (nn+1) 0*2^s+xs.getD nn 0/2^(64-s)<18446744073709551616:=by
  rw[<-Lp hs aw];exact Lj a9 (by have:=gh (xs.getD nn 0) (2^(64-s));omega)
 have ak:y/P<=x/P:=Nat.div_le_div_right ar;have O:m=nn+2->y/P=ys.getD (nn+1) 0*2^s+ys.getD nn 0/2^(64-s):=by
  intro J;rw[<-hP];refine W.head_of (EX hs) (fy _) (lo:=W.val 18446744073709551616 (ys.take nn)) ?_ ?_
  · rw[<-ny.val];exact Gf (by rw[HY.out];omega)
  · exact Bz ny.bnd (by rw[HY.out];omega)
 have Q:m=nn+1->y/P=ys.getD nn 0/2^(64-s):=by
  intro J;rw[<-hP]
  have:=W.head_of (t1:=0) (EX hs) (fy _) (a:=y) (t0:=ys.getD nn 0) (M:=18446744073709551616^nn) (lo:=W.val 18446744073709551616 (ys.take nn)) (by
   rw[<-ny.val,ic,fP];have:=Dq (B:=18446744073709551616) (l:=ys) (m:=nn) (by rw[HY.out];omega)
   rw[this]) (Bz ny.bnd (by rw[HY.out];omega))
  rw[this,ic,fP]
 have R:m<=nn->y/P=0:=by
  intro J;apply gX;have h1:=W.val_lt ny.bnd;rw[ny.val,HY.out]at h1;have h2:18446744073709551616^m<=18446744073709551616^nn:=fd (by omega) J;have h3:18446744073709551616^nn*1<=18446744073709551616^nn*2^(64-s):=fx _ (fy _);omega
 have a8:=eP (W.Sim.start am ar);obtain⟨A,a3⟩:∃ A,x/P=A:=⟨_,rfl⟩;obtain⟨Bb,a5⟩:∃ Bb,y/P=Bb:=⟨_,rfl⟩;rw[a3,a5]at a8;rw[a3]at hA ak;rw[a5]at ak O Q R;generalize x%P=α at *
 generalize y%P=β at *
 clear a3 a5 hP am ah;have aZ:A<18446744073709551616:=by rw[hA];exact aj
 have b0:Bb<18446744073709551616:=by omega
 obtain⟨b1,o1,rfl,H⟩:=hx.at (j:=0) (by omega);have g1:=H (nn+1) (by omega);have g0:=H nn (by omega);have fA:bits BinOp.or IntKind.u64 ((xs.getD (nn+1) 0*2^s:Nat):Int) ((xs.getD nn 0/2^(64-s):Nat):Int)=(A:Int):=by
  rw[kN _ _ a9 (by have:=gh (xs.getD nn 0) (2^(64-s));omega),Lp hs aw,hA]
 have a0:IntKind.u64.wrap (((xs.getD (nn+1) 0:Nat):Int)*2^s)=((xs.getD (nn+1) 0*2^s:Nat):Int):=Af (by push_cast;rfl) a9;have N:((xs.getD nn 0:Nat):Int)/2^(64-s)=((xs.getD nn 0/2^(64-s):Nat):Int):=by push_cast;rfl
 generalize xs.getD nn 0/2^(64-s)=q0 at *
 generalize xs.getD (nn+1) 0 * 2^s=q1 at *
 generalize xs.getD (nn+1) 0=t1 at *
 generalize xs.getD nn 0=t0 at *
 have aV:IntKind.i64.wrap ((n:Int)-1)=((nn+1:Nat):Int):=by rw[show(n:Int)-1=((nn+1:Nat):Int) by omega];exact eT _ (by omega)
 have bh:IntKind.i64.wrap ((n:Int)-2)=((nn:Nat):Int):=by rw[show(n:Int)-2=((nn:Nat):Int) by omega];exact eT _ (by omega)
 have aQ:((nn+1:Nat):Int)<(n:Int):=by omega
 have bd:((nn:Nat):Int)<(n:Int):=by omega
 have bj:IntKind.u64.wrap (64-(s:Int))=((64-s:Nat):Int):=by rw[gY];omega
 have HN:Hid (n=nn+2):=eP av;obtain⟨N1,a7⟩:∃ N1,nn+1=N1:=⟨_,rfl⟩;rw[a7]at g1 aV aQ;have L:=eP a7;clear H au hA aj aO ag av a7
 go_enter func174,ntmps174
 go_upto_region 1 with(fail)
 refine AK ?_;intro w0 T an aB;have aI:=T.cell g1;have aH:=T.cell g0;have aA:=hy.ext T;clear g1 g0 hx hy
 go_wp2_with fail
 refine(D _).mono ?_;rintro e w2 ⟨rfl,rfl⟩;go_wp2
 go_quiet (fail)
 have E:=T.drewN nq;have F:=an.drewN nq;have Z:=aA.ext ((Ext.refl w2).drewN nq);have aC:(w2.drewN nq).heap.size=w.heap.size+1:=aB;generalize w2.drewN nq=w3 at *
 clear aA T an aB aI aH fA a0 N D;have z:w.heap.size<w3.heap.size:=by omega
 have ba:=eP aC;clear aC;have aE:m=nn+2\/m=nn+1\/m<=nn:=by have:=HN.out;omega
 rcases aE with J|J|J
 case' inl =>
  obtain⟨b2,o2,rfl,C⟩:=Z.at (j:=0) (by omega);have e1:=O J;have k1:=W.bnd_at ny.bnd (i:=nn+1) (by rw[HY.out];omega);have k0:=W.bnd_at ny.bnd (i:=nn) (by rw[HY.out];omega);have g1:=C (nn+1) (by omega);have g0:=C nn (by omega);rw[L.out]at g1;have aa:ys.getD (nn+1) 0*2^s<18446744073709551616:=by
   have h1:ys.getD (nn+1) 0*2^s<=Bb:=by rw[e1];exact iK _ _
   omega
  have fA:bits BinOp.or IntKind.u64 ((ys.getD (nn+1) 0*2^s:Nat):Int) ((ys.getD nn 0/2^(64-s):Nat):Int)=(Bb:Int):=by
   rw[kN _ _ aa (by have:=gh (ys.getD nn 0) (2^(64-s));omega),Lp hs k0,e1]
  have a0:IntKind.u64.wrap (((ys.getD (nn+1) 0:Nat):Int)*2^s)=((ys.getD (nn+1) 0*2^s:Nat):Int):=Af (by push_cast;rfl) aa;have N:((ys.getD nn 0:Nat):Int)/2^(64-s)=((ys.getD nn 0/2^(64-s):Nat):Int):=by push_cast;rfl
  rw[L.out]at fA a0;clear e1 aa O Q R;generalize ys.getD nn 0/2^(64-s)=p0 at *
  generalize ys.getD N1 0 * 2^s=p1 at *
  generalize ys.getD N1 0=y1 at *
  generalize ys.getD nn 0=y0 at *
  have X:((m:Int) == (n:Int))=true:=by have:=HN.out;simp;omega
  have aR:((N1:Nat):Int)<(m:Int):=by have:=L.out;omega
  have ac:((nn:Nat):Int)<(m:Int):=by omega
  clear J C;go_wp2
  go_quiet (fail)
  go_upto_region 10 with(fail)
  have a1:=E.drewN nq;have a2:=F.drewN nq;have aD:w.heap.size<(w3.drewN nq).heap.size:=z;generalize w3.drewN nq=w4 at *
  clear g1 g0 fA a0 N X aR ac k0 k1 E F z Z;have E1:Hid True:=eP trivial
 case' inr.inl =>
  obtain⟨b2,o2,rfl,C⟩:=Z.at (j:=0) (by omega);have e1:=Q J;have g0:=C nn (by omega);have N:((ys.getD nn 0:Nat):Int)/2^(64-s)=(Bb:Int):=by rw[e1];push_cast;rfl
  clear e1 O Q R;generalize ys.getD nn 0=y0 at *
  have X:((m:Int) == (n:Int))=false:=by have:=HN.out;simp;omega
  have Y:((m:Int) == ((N1:Nat):Int))=true:=by have:=L.out;simp;omega
  have ac:((nn:Nat):Int)<(m:Int):=by omega
  clear J C
  go_upto_region 10 with(fail)
  have a1:=E;have a2:=F;have aD:=z;clear g0 N X Y ac E F z Z;generalize hw:w3=w4 at *
  clear hw;have E1:Hid True:=eP trivial
 case' inr.inr =>
  have E1:=eP (R J);clear O Q R;have X:((m:Int) == (n:Int))=false:=by have:=HN.out;simp;omega
  have Y:((m:Int) == ((N1:Nat):Int))=false:=by have:=L.out;simp;omega
  clear J
  go_upto_region 10 with(fail)
  have a1:=E;have a2:=F;have aD:=z;clear X Y E F z Z;generalize hw:w3=w4 at *
  clear hw
 all_goals
  go_wp2;refine AK ?_;intro w5 a6 ap aW;have ao:Arr w5 w.heap.size 236 (Cn 0 0 0 0 false):=a2.ext a6;have aq:Arr w5 w4.heap.size 236 (Cn 0 1 0 0 false):=ap;have al:=a1.trans a6;clear a2 ap a1 a6;generalize I:w4.heap.size=S at *
  have b9:=eP I;clear I aW
  go_loopw[7,8,10,11] (fun fv gv uv vv wr=>∃ (f g u0 u1 u2 v0 t k:Nat) (o:Bool),fv = .int .u64 f/\gv = .int .u64 g/\uv = .int .u64 u2/\vv = .int .u64 k/\Ext w wr/\Arr wr w.heap.size 236 (Cn 0 0 0 0 false)/\Arr wr S 236 (Cn u0 u1 v0 t o)/\Hid (W.Sim x y A Bb P α β f g u0 u1 u2 v0 t k o)/\(f<18446744073709551616/\g<18446744073709551616)/\(u0<18446744073709551616/\u1<18446744073709551616/\u2<18446744073709551616)/\(v0<18446744073709551616/\t<18446744073709551616/\k<18446744073709551616)) (fun _ gv _ _ _=>(intOf gv).toNat)
  case atStart=>exact⟨A,Bb,0,1,0,0,0,1,false,rfl,by first | rfl | rw[E1.out];rfl,rfl,rfl,al,ao,aq,a8,⟨by omega,by omega⟩,⟨by omega,by omega,by omega⟩,⟨by omega,by omega,by omega⟩⟩
  case round =>
   clear al ao aq a8;obtain⟨f,g,u0,u1,u2,v0,t,k,o,rfl,rfl,rfl,rfl,hE,hR,I,HS,⟨hf,hg⟩,⟨ay,ad,aT⟩,⟨az,ae,aU⟩⟩:=hrel;have b7:=HS.out.leh.v2p;have bc:=HS.out.leh.gf;have af:(v0=0\/∃ p q,W.Steps x y u0 u1 v0 t o p q):=HS.out.good;have K:=eP af;clear af;have s0:=I.c 0 rfl;have s1:=I.c 1 rfl;have s2:=I.c 2 rfl;have s3:=I.c 3 rfl;have s4:=I.c 4 rfl;by_cases H:k<=g
   · obtain⟨k1,k2,k3⟩:=HS.out.bound (by omega);have bk:IntKind.u64.wrap ((t:Int)+k)=((t+k:Nat):Int):=Af (by push_cast;rfl) (by omega);have b8:IntKind.u64.wrap ((f:Int)-g)=((f-g:Nat):Int):=Af (by omega) (by omega);have be:(k:Int)<=(g:Int):=by omega
     by_cases C:t+k<=f-g
     · obtain⟨ai,kv,ku,bf⟩:=HS.out.step H C;have bb:((g:Int) == 0)=false:=by simp;omega
       have b5:(f:Int).tdiv g=((f/g:Nat):Int):=by rw[gE (by omega)];push_cast;rfl
       have aX:(f:Int)/g=((f/g:Nat):Int):=by push_cast;rfl
       have b6:(f:Int).tmod g=((f%g:Nat):Int):=by rw[gP (by omega)];push_cast;rfl
       have aY:(f:Int)%g=((f%g:Nat):Int):=by push_cast;rfl
       have b4:((t+k:Nat):Int)<=((f-g:Nat):Int):=by omega
       have aG:=eP ai;have aS:f/g<=f:=gh _ _;clear ai HS K;generalize f/g=q at *
       generalize f%g=r at *
       have bi:IntKind.u64.wrap (q:Int)=(q:Int):=Af rfl (by omega);have m1:IntKind.u64.wrap ((q:Int)*u2)=((q*u2:Nat):Int):=Af (by push_cast;rfl) (by omega);have m2:IntKind.u64.wrap ((q:Int)*k)=((q*k:Nat):Int):=Af (by push_cast;rfl) (by omega);have m3:IntKind.u64.wrap ((u1:Int)+((q*u2:Nat):Int))=((u1+q*u2:Nat):Int):=Af (by omega) (by omega);have m4:IntKind.u64.wrap ((t:Int)+((q*k:Nat):Int))=((t+q*k:Nat):Int):=Af (by omega) (by omega);generalize hU:u1+q * u2=U at *
       generalize hV:t+q * k=V at *
       generalize q * u2=qu at *
       generalize q * k=qv at *
       generalize t+k=vs at *
       generalize f-g=fg at *
       clear hU hV aS;go_wp2
       go_quiet (fail)
       have G:=I.drewN nq;have aM:=hR.drewN nq;have aK:=hE.drewN nq;have t0:(wr.drewN nq).cell? ⟨S,0,none⟩=_:=s0;have t1:(wr.drewN nq).cell? ⟨S,1,none⟩=_:=s1;have t2:(wr.drewN nq).cell? ⟨S,2,none⟩=_:=s2;have t3:(wr.drewN nq).cell? ⟨S,3,none⟩=_:=s3;have t4:(wr.drewN nq).cell? ⟨S,4,none⟩=_:=s4;generalize wr.drewN nq=wq at *
       clear s0 s1 s2 s3 s4 I hR hE;have aN:=((((G.set 0 (.int .u64 u1)).set 1 (.int .u64 u2)).set 2 (.int .u64 t)).set 3 (.int .u64 k)).set 4 (.bool (!o));have aL:=((((aM.far (p:=⟨S,0,none⟩) (by show w.heap.size≠S;omega) (.int .u64 u1)).far (p:=⟨S,1,none⟩) (by show w.heap.size≠S;omega) (.int .u64 u2)).far (p:=⟨S,2,none⟩) (by show w.heap.size≠S;omega) (.int .u64 t)).far (p:=⟨S,3,none⟩) (by show w.heap.size≠S;omega) (.int .u64 k)).far (p:=⟨S,4,none⟩) (by show w.heap.size≠S;omega) (.bool (!o))
       have aJ:=((((aK.setCell (p:=⟨S,0,none⟩) (by show w.heap.size<=S;omega) (.int .u64 u1)).setCell (p:=⟨S,1,none⟩) (by show w.heap.size<=S;omega) (.int .u64 u2)).setCell (p:=⟨S,2,none⟩) (by show w.heap.size<=S;omega) (.int .u64 t)).setCell (p:=⟨S,3,none⟩) (by show w.heap.size<=S;omega) (.int .u64 k)).setCell (p:=⟨S,4,none⟩) (by show w.heap.size<=S;omega) (.bool (!o));have z0:=G.frozen 0;have z1:=G.frozen 1;have z2:=G.frozen 2;have z3:=G.frozen 3;have z4:=G.frozen 4;go_wp2;go_roundw
       case rel=>exact⟨g,r,u1,u2,U,t,k,V,!o,rfl,rfl,rfl,rfl,aJ,aL,aN,aG,⟨hg,by omega⟩,⟨ad,aT,by omega⟩,⟨ae,aU,by omega⟩⟩
       case measure=>simp[intOf];omega
     · have aP:¬ (((t+k:Nat):Int)<=((f-g:Nat):Int)):=by omega
       have aF:((f-g:Nat):Int)<((t+k:Nat):Int):=by omega
       have b3:decide (t+k<=f-g)=false:=by simp;omega
       generalize t+k=vs at *
       generalize f-g=fg at *
       clear C HS
       go_upto_region 19 with(fail)
       go_wp2_with(first
        | (refine CK rfl rfl Cm rfl I ?_)
        | (refine Aa rfl rfl rfl rfl rfl Cm hR rfl (FC _ _ _ _ _) ?_;intro w9 a4 ab))
       refine eZ (v := .agg (Cn u0 u1 v0 t o).toArray) (Aq rfl Cm rfl a4) rfl ⟨u0,u1,v0,t,o,rfl,hE.grownR ab (lrf _),ay,ad,az,ae,K.out⟩
   · have aP:¬ ((k:Int)<=(g:Int)):=by omega
     have aF:(g:Int)<(k:Int):=by omega
     clear H HS
     go_upto_region 19 with(fail)
     go_wp2_with(first
      | (refine CK rfl rfl Cm rfl I ?_)
      | (refine Aa rfl rfl rfl rfl rfl Cm hR rfl (FC _ _ _ _ _) ?_;intro w9 a4 ab))
     refine eZ (v := .agg (Cn u0 u1 v0 t o).toArray) (Aq rfl Cm rfl a4) rfl ⟨u0,u1,v0,t,o,rfl,hE.grownR ab (lrf _),ay,ad,az,ae,K.out⟩
theorem Own.upto{cs:List Value}(h:Own w base e a n c cs){k:Nat}(r:k<=n):Own w base e a k c (cs.take k):=by
 have s:=h.len;refine⟨by simp;omega,?_⟩;rcases h.2 with⟨b,h0⟩|⟨g,d,f,b,j,l,o,m,p,q⟩
 · subst h0;have i:k=0:=by omega
   subst i;simp only[eY]at b;exact Or.inl ⟨by rw[b.1,b.2.2],rfl⟩
 · simp only[eY]at b;refine Or.inr ⟨g,d,f,by rw[b.1,b.2.2],j,l,by omega,m,p,?_⟩;rw[<-q,kZ];congr 1;omega
theorem Am.upto{k:IntKind}{w:World}{base:Nat}{e:TypeId}{g n c:Nat}{xs:List Nat}(h:Am k w base e g n c xs){m:Nat}(a:m<=n):Am k w base e g m c (xs.take m):=by
 have:=Own.upto h a;rw[<-lR]at this;exact this
def U1(x y c:Nat)(w:World)(e:Ending)(w':World):Prop:=∃ l h:Nat,e = .returned (.tuple #[.int .u64 l,.int .u64 h])/\w=w'/\l<18446744073709551616/\h<18446744073709551616/\l+18446744073709551616*h=x*y+c
theorem Bm(r:x<18446744073709551616)(s:y<18446744073709551616)(t:c<18446744073709551616) :
 Calls prog 209 #[.int .u64 x,.int .u64 y,.int .u64 c] w (U1 x y c w):=by
 have p:=H7 r s;have hp:x*y<=18446744073709551615*18446744073709551615:=gO (by omega) (by omega);have i:Hid (x*y%18446744073709551616+18446744073709551616*(x*y/18446744073709551616)=x*y):=eP (iQ _ _);have z:x*y%18446744073709551616<18446744073709551616:=fN _ (by omega);have v:x*y/18446744073709551616<=18446744073709551614:=by omega
 generalize x * y/18446744073709551616=d at *
 generalize x * y%18446744073709551616=a at *
 have k:∀ f:World,(callFunc 202 #[.int .u64 (a:Int),.int .u64 (c:Int),.int .u64 0]).run prog f = .ok (.value (.tuple #[.int .u64 (((a+c+0)%18446744073709551616:Nat):Int),.int .u64 (((a+c+0)/18446744073709551616:Nat):Int)])) f:=fun f=>Do a c 0 (by omega) f;have j:Hid ((a+c+0)%18446744073709551616+18446744073709551616*((a+c+0)/18446744073709551616)=a+c):=eP (iQ _ _);have q:(a+c+0)%18446744073709551616<18446744073709551616:=fN _ (by omega);have n:(a+c+0)/18446744073709551616<=1:=by omega
 generalize (a+c+0)%18446744073709551616=l at *
 generalize (a+c+0)/18446744073709551616=b at *
 have A:IntKind.u64.wrap ((d:Int)+(b:Int))=((d+b:Nat):Int):=Af (by omega) (by omega);have m:Hid (l+18446744073709551616*(d+b)=x*y+c):=by show _=_;have h1:=i.out;have h2:=j.out;omega
 have o:d+b<18446744073709551616:=by omega
 generalize d+b=g at *
 clear i j hp
 go_enter func209,ntmps209
 go_wp2_with fail
 refine(p _).mono ?_;rintro e B ⟨rfl,rfl⟩;go_wp2
 go_ret2
 exact⟨l,g,rfl,rfl,q,o,m.out⟩
theorem Gg{u v c1 c2 c1' c2':Nat}(a:k<zs.length)(g:k<xs.length)(i:k<ys.length)(h:W.val B (zs.take k)+u*W.val B (xs.take k)+c1*B^k=v*W.val B (ys.take k)+c2*B^k)(e:d+xs.getD k 0*u+c2+B*c1'=ys.getD k 0*v+c1+B*c2') :
 W.val B ((zs.set k d).take (k+1))+u*W.val B (xs.take (k+1))+c1'*B^(k+1)=v*W.val B (ys.take (k+1))+c2'*B^(k+1):=by
 have h1:=W.comb_step h e;have b:W.val B ((zs.set k d).take (k+1))=W.val B (zs.take k)+B^k*d:=by
  rw[W.val_take_succ (by simpa using a)];congr 1
  · rw[kw (lrf _)]
  · simp[a]
 rw[b,W.val_take_succ g,W.val_take_succ i,fT];have c:u*(W.val B (xs.take k)+B^k*xs.getD k 0)=u*W.val B (xs.take k)+B^k*(xs.getD k 0*u):=by grind
 have f:v*(W.val B (ys.take k)+B^k*ys.getD k 0)=v*W.val B (ys.take k)+B^k*(ys.getD k 0*v):=by grind
 rw[c,f];exact h1
theorem Dr(h:zs.drop k=xs.drop k):(zs.set k d).drop (k+1)=xs.drop (k+1):=by
 rw[List.drop_set_of_lt (by omega),<-kK,<-kK,h]
theorem DU(h:zs.drop k=xs.drop k):zs.getD k 0=xs.getD k 0:=by
 have:=fV (fun l:List Nat=>l.getD 0 0) h;simpa using this
end Go.Proofs.YthdbingomfdeoaaGreatDoor
