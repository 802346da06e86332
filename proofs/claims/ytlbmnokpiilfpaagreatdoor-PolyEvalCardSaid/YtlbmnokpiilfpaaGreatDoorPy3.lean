/- Part Py3. -/
import Derived.Test.YtlbmnokpiilfpaaGreatDoorPy2
import Derived.Shelf.LaysM
import Derived.Shelf.Lays7
import Derived.Shelf.Lays
import Derived.Test.YtlbmnokpiilfpaaGreatDoorProg
import Derived.Shelf.Spec.TrailingZeros
import Derived.Shelf.Strconv.AppendInt10
import Derived.Shelf.Strconv.Itoa4
set_option linter.all false
set_option maxRecDepth 100000
set_option maxHeartbeats 100000000
namespace Go.Proofs.YtlbmnokpiilfpaaGreatDoor
open Tryz Go Go.RowKit
def jA:=@Nat.gcd_dvd_right
def jE:=@Nat.pow_zero
def jF:=@Nat.gcd_comm
def jM:=@Nat.gcd_dvd_left
def jN:=@List.not_mem_nil
def jY:=@Nat.div_div_eq_div_mul
def jt:=@Nat.sub_self
def kF:=@Nat.mul_pos
def kJ:=@if_true
def kM:=@Nat.le_of_dvd
def kh:=@Nat.dvd_trans
def lI:=@Int.dvd_mul_left
def lL:=@Int.le_of_lt
def lQ:=@List.getElem?_drop
def lR:=@Int.natCast_dvd_natCast
def li:=@Nat.gcd_zero_right
def mA:=@Nat.lt_of_mul_lt_mul_left
def mB:=@Nat.eq_of_mul_eq_mul_left
def mK:=@decide_true
def mN:=@Nat.gcd_rec
def me:=@or_false
def mf:=@Int.dvd_trans
def mh:=@List.take_set_of_le
def nA:=@List.take_take
def nB:=@List.drop_drop
def oM:=@bodyPost_ret
def oR:=@Nat.lt_of_le_of_lt
def py:=@Int.natCast_nonneg
variable {ds l ls qs xs ys zs:List Nat} {B D M N P Q T V V' V1 V2 Wn Z c cy d g i lo m n ov p s v x y:Nat} {a b:Option Addr} {t:TypeId} {w:World}
theorem Ev(b:0<B){l:List Nat}{p j:Nat}(h:W.val B l<B^p)(c:p<=j):l.getD j 0=0:=by
 refine pm fun a => ?_;have d:j<l.length:=by
  refine pm fun e=>a ?_;rw[gqq,pu (by omega)];rfl
 have h1:=W.val_split (B:=B) l j (by omega);rw[CY d]at h1;simp only[W.val]at h1;generalize l.getD j 0=x at *
 have h2:B^j*1<=B^j*(x+B*W.val B (l.drop (j+1))):=gD _ (by omega);have h3:B^p<=B^j:=oT b c;omega
theorem MQ{B:Nat}:∀ {l:List Nat},(∀ j,l.getD j 0=0)->W.val B l=0
 | [],_=>rfl
 | x :: l,h=>by
  have h0:=h 0;simp at h0;have h1:W.val B l=0:=MQ fun j=>by have:=h (j+1);simpa using this
  simp[W.val,h0,h1]
theorem KO(l:List Nat)(p j:Nat):(l.drop p).getD j 0=l.getD (p+j) 0:=by
 simp[lQ]
theorem G7(hp:p<=l.length)(h:∀ j,p<=j->l.getD j 0=0):W.val B l=W.val B (l.take p):=by
 rw[W.val_split (B:=B) l p hp,MQ (l:=l.drop p),km,gP];intro j;rw[KO];exact h _ (by omega)
theorem Gp(hp:p<=l.length)(a:W.bnd B l)(h:∀ j,p<=j->l.getD j 0=0):W.val B l<B^p:=by
 rw[G7 hp h];have:=W.val_lt (W.bnd_take a p);rw[gO,jn hp]at this;exact this
theorem Ou(a:0<B){l:List Nat}{i m:Nat}(c:i+m<=l.length)(h:W.val B l<B^(i+m)):W.val B l=W.val B (l.take i)+B^i*W.val B ((l.drop i).take m):=by
 rw[W.val_split (B:=B) l i (by omega)];congr 2;refine G7 (by simp;omega) fun j b => ?_;rw[KO];exact Ev a h (by omega)
theorem EX{j:Nat}(a:j<m):((l.drop i).take m).getD j 0=l.getD (i+j) 0:=by
 simp[lQ,a]
theorem Gq(a:l.length=m+2):W.val B l=(l.getD (m+1) 0*B+l.getD m 0)*B^m+W.val B (l.take m):=by
 rw[W.val_split (B:=B) l m (by omega),CY (by omega),CY (xs:=l) (k:=m+1) (by omega),gZ (by omega)];simp only[W.val]
 grind
theorem MR(a:l.length=m+3):W.val B l=((l.getD (m+2) 0*B+l.getD (m+1) 0)*B+l.getD m 0)*B^m+W.val B (l.take m):=by
 rw[W.val_split (B:=B) l m (by omega),CY (by omega),CY (xs:=l) (k:=m+1) (by omega),CY (xs:=l) (k:=m+1+1) (by omega),gZ (by omega)];simp only[W.val]
 grind
theorem Cb(a:W.bnd B l){m:Nat}(b:m<=l.length):W.val B (l.take m)<B^m:=by
 have:=W.val_lt (W.bnd_take a m);rw[gO,jn b]at this;exact this
theorem KP{q:Nat}(f:V=lo+P*Wn)(d:lo<P)(h1:V'+g*D*P=V)(b:Wn<(q+1)*D)(c:q<=g):g=q/\V' < P*D:=by
 have h2:g*D*P<P*(Wn+1):=by rw[iE,px];omega
 have h3:g*D<Wn+1:=by
  rw[oU]at h2;exact mA h2
 have h4:g<q+1:=jh (a:=D) (by omega);have e:g=q:=by omega
 refine⟨e,?_⟩;subst e;have h5:P*(Wn+1)<=P*((g+1)*D):=gD _ b;have h6:P*((g+1)*D)=g*D*P+P*D:=by grind
 rw[iE,px]at h5;omega
theorem MT{q:Nat}(j:V=lo+P*Wn)(i:lo<P)(h1:V1+g*D*P=V+T)(k:V1<T)(a:q*D<=Wn)(b:Wn<(q+1)*D)(m:g<=q+1)(h2:V2+ov*T=V1+D*P)(f:V2<T)(d:D*P<T):g=q+1/\V2+q*D*P=V/\V2<P*D:=by
 have h3:V<g*D*P:=by omega
 have h4:P*Wn<P*(g*D):=by rw[oU P (g*D)];omega
 have h5:Wn<g*D:=mA h4;have h6:q<g:=by
  refine pm fun l => ?_;have:g*D<=q*D:=oO _ (by omega);omega
 have e:g=q+1:=by omega
 subst e;have h7:(q+1)*D*P=q*D*P+D*P:=by grind
 have h9:q*D*P<=V:=by
  have:q*D*P<=Wn*P:=oO _ a;rw[oU Wn P]at this;omega
 have h8:ov=1:=by
  have h10:V1+D*P=(V-q*D*P)+T:=by omega
  rcases gQ ov 1 with h|h
  · have:ov=0:=by omega
    subst this;omega
  · rcases gQ 1 ov with c | c
    · exfalso;have h11:2*T<=ov*T:=oO _ c;omega
    · omega
 subst h8;rw[jy]at h2;have h10:V2+q*D*P=V:=by omega
 refine⟨rfl,h10,?_⟩;have h5:P*(Wn+1)<=P*((q+1)*D):=gD _ b;have h6:P*((q+1)*D)=q*D*P+P*D:=by grind
 rw[iE,px]at h5;omega
def Ui(k:IntKind)(B:Nat)(w:World)(q r:Nat)(e:Ending)(w':World):Prop:=∃ a n c xs a' n' c' ys,e = .returned (.tuple #[.slice a n c,.slice a' n' c'])/\Ext w w'/\SlN k w' a n c xs/\Num B xs q/\SlN k w' a' n' c' ys/\Num B ys r/\Ft w.heap.size (fun _=>False) a n
def FP(ax:Option Addr)(k:IntKind)(B:Nat)(w:World)(q r:Nat)(e:Ending)(w':World):Prop:=∃ a n c xs a' n' c' ys,e = .returned (.tuple #[.slice a n c,.slice a' n' c'])/\Ext w w'/\SlN k w' a n c xs/\Num B xs q/\SlN k w' a' n' c' ys/\Num B ys r/\Ft w.heap.size (fun _=>False) a n/\Ft w.heap.size (fun g=>blk ax=some g) a' n'
theorem FP.q{f:Option Addr}{k:IntKind}{B:Nat}{w b:World}{q r:Nat}{e:Ending}(h:FP f k B w q r e b):Ui k B w q r e b:=by
 obtain⟨a,n,c,j,d,i,g,l,h1,h2,h3,h4,h5,h6,h7,_⟩:=h;exact⟨a,n,c,j,d,i,g,l,h1,h2,h3,h4,h5,h6,h7⟩
theorem C3:AW (x:Int) (y:Int)<0<->x<y:=by
 unfold AW;split
 · constructor <;> intro _ <;> omega
 · split
   · constructor <;> intro _ <;> omega
   · constructor <;> intro _ <;> omega
theorem Ew(p:SlN .u64 w a n c xs)(t:SlN .u64 w b m d ys)(j:Num 18446744073709551616 xs x)(q:Num 18446744073709551616 ys y)(f:x<y) :
 Calls prog 289 #[.slice a n c,.slice b m d] w (FP a .u64 18446744073709551616 w (x/y) (x%y)):=by
 have k:Hid (AW (x:Int) (y:Int)<0):=oK (C3.2 f);have i:=fun v:World=>fun(h1:Ext w v)=>Bh (p.ext h1) (t.ext h1) j q;have r:=oK j;have l:=oK f;clear j q f
 go_enter func289,ntmps289
 go_wp2_with fail
 refine(i _ (Ext.refl w)).mono ?_;rintro e B ⟨rfl,o⟩;have A:=k.out;generalize AW (x:Int) (y:Int)=z at *
 clear k;go_wp2
 go_ret2
 refine⟨none,0,0,[],a,n,c,xs,rfl,o.ext,SlN.nil _ _,?_,p.ext o.ext,?_,fun h=>absurd h (by omega),fun _ g s=>Or.inr s⟩
 · rw[j8 l.out];exact Num.nil _
 · rw[jd l.out];exact r.out
theorem EJ(M:SlN .u64 w a n c xs)(B:SlN .u64 w b 1 d ys)(G:Num 18446744073709551616 xs x)(s:Num 18446744073709551616 ys y)(X:n<=1000000)(V:y<=x)(h0:0<y) :
 Calls prog 289 #[.slice a n c,.slice b 1 d] w (FP a .u64 18446744073709551616 w (x/y) (x%y)):=by
 have K:Hid (¬ AW (x:Int) (y:Int)<0):=oK (by rw[C3];omega);have t:=fun I:World=>fun(h1:Ext w I)=>Bh (M.ext h1) (B.ext h1) G s;have L:=oK G;have F:ys.getD 0 0=y/\y<18446744073709551616:=by
  have h1:=s.val;obtain⟨z,q⟩:=mV.1 B.len;have h2:=s.bnd z (by rw[q];simp);rw[q]at h1;simp[W.val]at h1;rw[q];simp;omega
 obtain⟨C,E⟩:=F;clear G s
 go_enter func289,ntmps289
 go_wp2_with fail
 refine(t _ (Ext.refl w)).mono ?_;rintro e w1 ⟨rfl,k⟩;have hc:=K.out;have T:(0:Int)<=AW (x:Int) (y:Int):=by omega
 generalize AW (x:Int) (y:Int)=cv at *
 clear K;obtain⟨b1,o1,rfl,l⟩:=(B.ext k.ext).at (j:=0) (by omega);have S:=l 0 (by omega);rw[C,gP]at S;clear l
 go_wp2_with fail
 refine(Jy (M.ext k.ext) L.out.bnd L.out.val E h0 X).mono ?_;rintro e w2 ⟨O,Y,Q,zs,rfl,f,q,nz,p⟩;have o:x%y<18446744073709551616:=by have:=gE x h0;omega
 have m:=fun I:World=>Fy (w:=I) o;obtain⟨r,v⟩:∃ r,x%y=r:=⟨_,rfl⟩;rw[v]at m |-;have N:=oK v;clear v o
 go_wp2_with fail
 refine(m _).mono ?_;rintro e w3 ⟨P,Z,R,J,rfl,i,D,H,A⟩;go_wp2
 go_ret2
 exact⟨O,Y,Q,zs,P,Z,R,J,rfl,(k.ext.trans f).trans i,q.ext i,nz,D,by rw[N.out];exact H,p.of k.ext.size (fun _ h=>h.elim),fun _ g U=>(A g U).imp (fun h=>oS (k.ext.trans f).size h) (fun h=>h.elim)⟩
theorem DY(a:l.length=m+1):W.val B l=l.getD m 0*B^m+W.val B (l.take m):=by
 rw[W.val_split (B:=B) l m (by omega),CY (by omega),gZ (by omega)];simp only[W.val]
 grind
theorem Il(g:Num 18446744073709551616 ys y)(l:ys.length=m+1)(e:s<=63)(h1:9223372036854775808<=ys.getD m 0*2^s)(h2:ys.getD m 0*2^s<18446744073709551616)(b:Num 18446744073709551616 ds (y*2^s)):ds.length=m+1/\9223372036854775808<=ds.getD m 0:=by
 have c:=DY (B:=18446744073709551616) l;rw[g.val]at c;have i:=Cb g.bnd (m:=m) (by omega);generalize ys.getD m 0=u at *
 generalize W.val 18446744073709551616 (ys.take m)=v at *
 have d:y*2^s=u*2^s*18446744073709551616^m+v*2^s:=by rw[c];grind
 have h3:u*2^s+2^s<=18446744073709551616:=by
  have h4:u<2^(64-s):=by
   refine jh (a:=2^s) ?_;rw[Cu e];exact h2
  have h5:(u+1)*2^s<=2^(64-s)*2^s:=oO _ h4;rw[Cu e,iy,jy]at h5;exact h5
 have h6:y*2^s<18446744073709551616^(m+1):=by
  rw[d,gG];have h7:v*2^s<18446744073709551616^m*2^s:=iX i (gJ s);have h8:(u*2^s+2^s)*18446744073709551616^m<=18446744073709551616*18446744073709551616^m:=oO _ h3;rw[iy]at h8;rw[oU (18446744073709551616^m) (2^s)]at h7;rw[oU (18446744073709551616^m) 18446744073709551616];omega
 have h9:9223372036854775808*18446744073709551616^m<=y*2^s:=by
  rw[d];exact oS (oO _ h1) (jU _ _)
 have o:ds.length<=m+1:=W.nrm_len (B:=18446744073709551616) (by omega) b.nrm (by rw[b.val];exact h6);have p:m+1<=ds.length:=by
  refine pm fun k => ?_;have h10:=W.val_lt b.bnd;rw[b.val]at h10;have h11:18446744073709551616^ds.length<=18446744073709551616^m:=oT (by omega) (by omega);have h12:1*18446744073709551616^m<=9223372036854775808*18446744073709551616^m:=oO _ (by omega);rw[jy]at h12;omega
 have f:ds.length=m+1:=by omega
 refine⟨f,?_⟩;have j:=DY (B:=18446744073709551616) f;rw[b.val]at j;have n:=Cb b.bnd (m:=m) (by omega);generalize ds.getD m 0=t at *
 refine pm fun k => ?_;have h13:(t+1)*18446744073709551616^m<=9223372036854775808*18446744073709551616^m:=oO _ (by omega);rw[iy,jy]at h13;omega
theorem KQ(h:Arr w g t ((List.map (Bt .u64) (List.replicate N 0)).take 0 ++ xs.map (Bt .u64) ++ (List.map (Bt .u64) (List.replicate N 0)).drop (0+xs.length))):BG .u64 w g t (xs ++ List.replicate (N-xs.length) 0):=Oo h
theorem Pi{R:Nat}(d:0<y)(h:x*2^s=Q*(y*2^s)+R)(a:R<y*2^s):x/y=Q/\R/2^s=x%y:=by
 have hp:=gJ s;have c:2^s∣R:=by
  have h1:2^s∣x*2^s:=kK _ _;rw[h]at h1;exact(nJ ⟨Q*y,by grind⟩).1 h1
 obtain⟨r,rfl⟩:=c;have e:x=Q*y+r:=by
  apply lC hp;rw[h]
  grind
 have b:r<y:=by
  rw[oU]at a;exact jh a
 rw[lN _ hp,e];exact⟨by rw[oU,kG d,j8 b,gP],by rw[oU,kQ,jd b]⟩
theorem Qx(c:x<18446744073709551616^n)(b:18446744073709551616^m<=y)(a:m+1<=n):x*2^s<18446744073709551616^(n-(m+1)+1)*(y*2^s):=by
 have h1:18446744073709551616^(n-(m+1)+1)*18446744073709551616^m=18446744073709551616^n:=by rw[<-iW];congr 1;omega
 have h2:18446744073709551616^(n-(m+1)+1)*18446744073709551616^m<=18446744073709551616^(n-(m+1)+1)*y:=gD _ b;have h3:x*2^s<18446744073709551616^(n-(m+1)+1)*y*2^s:=iX (by omega) (gJ s);rw[<-iQ];exact h3
theorem Pj{q:Nat}(hi:i<qs.length)(h0:qs.getD i 0=0)(a:P=18446744073709551616^i)(h:Q=W.val 18446744073709551616 qs*D+V)(h1:V'+q*D*P=V):Q=W.val 18446744073709551616 (qs.set i q)*D+V':=by
 have h2:=W.val_set (B:=18446744073709551616) (xs:=qs) (i:=i) (v:=q) hi;rw[h0,km,gP]at h2;rw[h2,h,<-h1,a]
 grind
theorem IC{q:Nat}(h:∀ j,j<i+1->qs.getD j 0=0):∀ j,j<i->(qs.set i q).getD j 0=0:=by
 intro j a;have h1:=h j (by omega);have h2:¬ i=j:=by omega
 simpa[h2]using h1
theorem KR(p:0<B){ls:List Nat}{D i b:Nat}(o:W.bnd B ls)(k:i+(b+1)<=ls.length)(r:D<B^b)(g:0<D)(n:W.val B ls<B^(i+1)*D) :
 ∃ q,q<B/\q*D<=W.val B ((ls.drop i).take (b+1))/\W.val B ((ls.drop i).take (b+1))<(q+1)*D/\W.val B ls=W.val B (ls.take i)+B^i*W.val B ((ls.drop i).take (b+1))/\W.val B (ls.take i)<B^i/\W.val B ls<B^(i+(b+1)):=by
 have e:W.val B ls<B^(i+(b+1)):=by
  have h3:B^(i+1)*D<=B^(i+1)*B^b:=gD _ (by omega);rw[<-iW,show i+1+b=i+(b+1) by omega]at h3;omega
 have d:=Ou (B:=B) p k e;have l:=Cb o (m:=i) (by omega);have j:W.val B ((ls.drop i).take (b+1))<B*D:=by
  rw[gG,iQ,d]at n;have h2:B^i*W.val B ((ls.drop i).take (b+1))<B^i*(B*D):=by omega
  exact mA h2
 generalize W.val B ((ls.drop i).take (b+1))=c at *
 have f:c/D*D<=c:=nE _ _;refine⟨c/D,?_,f,?_,d,l,e⟩
 · exact jh (a:=D) (oR f j)
 · rw[iy,jy];have h1:=ij c D;have h2:=gE c g;rw[oU]at h1;omega
theorem MU{q:Nat}(b:V=lo+P*Wn)(h1:V1+g*D*P=V+T)(c:V1<T)(a:q*D<=Wn):q<g:=by
 refine pm fun d => ?_;have h2:g*D*P<=q*D*P:=oO _ (oO _ (by omega));have h3:q*D*P<=Wn*P:=oO _ a;rw[oU Wn P]at h3;omega
theorem Se{t:Nat}(h1:V'+M*t=Z+M*v)(h2:Z+g*D*P=V+cy*M)(h3:v+cy=t):V'+g*D*P=V:=by
 subst h3;rw[iE,oU M cy]at h1;omega
theorem KS{t:Nat}(h1:V'+M*t=Z+M*v)(h2:Z+g*D*P=V+cy*M)(h3:v+cy=t+B):V'+g*D*P=V+M*B:=by
 have h4:M*(v+cy)=M*(t+B):=by rw[h3]
 rw[iE,iE,oU M cy]at h4;omega
theorem MV{u z:Nat}(h1:V2+M*u=Z+M*z)(h2:Z+c*M=V1+1*D*P)(h3:z+B*ov=u+c):V2+ov*(M*B)=V1+D*P:=by
 have h4:M*(z+B*ov)=M*(u+c):=by rw[h3]
 rw[iE,iE,oU M c,<-iQ]at h4;rw[jy]at h2;rw[oU ov];omega
theorem KT(h:∀ j,p<=j->zs.getD j 0=ls.getD j 0)(h0:∀ j,p+1<=j->ls.getD j 0=0):∀ j,p+1<=j->(zs.set p v).getD j 0=0:=by
 intro j a;have h1:=h j (by omega);rw[h0 j a]at h1;have h2:¬ p=j:=by omega
 simpa[h2]using h1
theorem EK(hx:SlN .u64 w a n c xs)(hy:SlN .u64 w b m d ys)(X:Num 18446744073709551616 xs x)(ny:Num 18446744073709551616 ys y)(hn:n<=100000)(cz:y<=x){mm:Nat}(bp:m=mm+2) :
 Calls prog 289 #[.slice a n c,.slice b m d] w (FP a .u64 18446744073709551616 w (x/y) (x%y)):=by
 have HC:Hid (¬ AW (x:Int) (y:Int)<0):=oK (by rw[C3];omega);have bf:=fun C:World=>fun(h1:Ext w C)=>Bh (hx.ext h1) (hy.ext h1) X ny;have HX:=oK hx.len;have HY:=oK hy.len;have cH:m<=n:=by
  refine pm fun hc => ?_;have:=W.len_lt (B:=18446744073709551616) (by omega) X.bnd ny.nrm (by rw[HX.out,HY.out];omega);rw[X.val,ny.val]at this;omega
 have ac:ys≠[]:=by intro h;have:=HY.out;rw[h]at this;simp at this;omega
 have ab:=W.nrm_pos (B:=18446744073709551616) (by omega) ny.nrm ac;rw[HY.out,ny.val]at ab;have aP:0<ys.getD (m-1) 0:=by
  have h1:=ny.nrm ac;rw[kB]at h1;have h2:ys.length-1=m-1:=by rw[HY.out]
  have h3:m-1<ys.length:=by rw[HY.out];omega
  have h4:ys.getD (m-1) 0=ys[ys.length-1]'(by omega):=by
   simp[h2,h3]
  omega
 have a7:=W.bnd_at ny.bnd (i:=m-1) (by rw[HY.out];omega);obtain⟨s,hs,bo,az,aA⟩:=LK aP a7;have aZ:Hid (∀ J,Num 18446744073709551616 J (y*2^s)->J.length=m/\9223372036854775808<=J.getD (mm+1) 0):=by
  show ∀ J,Num 18446744073709551616 J (y*2^s)->J.length=m/\9223372036854775808<=J.getD (mm+1) 0;intro J nd;have h1:m-1=mm+1:=by omega
  rw[h1]at az aA;have:=Il (m:=mm+1) ny (by rw[HY.out];omega) hs az aA nd;exact⟨by omega,this.2⟩
 have NX:=oK X;have NY:=oK ny;have ak:=oK ab;have a2:=oK bp;have cG:2<=m:=by omega
 clear X ny bp az aA ac ab
 go_enter func289,ntmps289
 go_wp2_with fail
 refine(bf _ (Ext.refl w)).mono ?_;rintro e w1 ⟨rfl,hQ⟩;have hc:=HC.out;have cu:(0:Int)<=AW (x:Int) (y:Int):=by omega
 generalize AW (x:Int) (y:Int)=cv at *
 clear HC;obtain⟨b1,o1,rfl,a5⟩:=(hy.ext hQ.ext).at (j:=0) (by omega);have g1:=a5 (m-1) (by omega);have bI:((m:Int) == 1)=false:=by simp;omega
 have ch:IntKind.i64.wrap ((m:Int)-1)=((m-1:Nat):Int):=by rw[show(m:Int)-1=((m-1:Nat):Int) by omega];exact oP _ (by omega)
 have bL:((m-1:Nat):Int)<(m:Int):=by omega
 have K:=fun C:World=>Oq a7 C;rw[bo]at K;generalize ys.getD (m-1) 0=yt at *
 have bT:Hid (m-1+1=m):=by show _=_;omega
 generalize m-1=m1 at *
 clear a5 bo aP bf
 go_wp2_with fail
 refine(K _).mono ?_;rintro e w2 ⟨rfl,rfl⟩;clear g1
 go_wp2_with fail
 refine(FB (hy.ext hQ.ext) NY.out hs (by omega)).mono ?_;rintro e r ⟨bd,f,cd,J,rfl,b6,hd,nd⟩;obtain⟨bg,bi⟩:=aZ.out J nd;have c6:f=m:=by rw[<-hd.len,bg]
 subst c6;have a4:=hQ.ext.trans b6;have bN:=oK bi;have Z:=oK nd;obtain⟨D,hD⟩:∃ D,y*2^s=D:=⟨_,rfl⟩;rw[hD]at Z;have HD:=oK hD;clear aZ bi nd bg hD b6
 go_upto_region 10 with(at_make;refine C1 (n:=n+1) rfl rfl underlying81 AF rfl rfl rfl (by omega) (by unfold maxLen;omega) ?_;intro w3 b8 ao)
 have aJ:=a4.trans ao
 go_wp2_with fail
 refine(FB (hx.ext aJ) NX.out hs (by omega)).mono ?_;rintro e w4 ⟨ax,X,cx,us,rfl,ap,hu,nu⟩;have bC:us.length<=n+1:=by
  refine W.nrm_len (B:=18446744073709551616) (by omega) nu.nrm ?_;rw[nu.val,gG];have h1:=W.val_lt NX.out.bnd;rw[NX.out.val,HX.out]at h1;have h2:2^s<=18446744073709551616:=by
   have:=oT (n:=2) (by omega) (show s<=64 by omega);exact this
  calc x*2^s<18446744073709551616^n*2^s:=iX h1 (gJ s)
   _<=18446744073709551616^n*18446744073709551616:=gD _ h2
 have c7:X<=n+1:=by rw[<-hu.len];exact bC
 have hA4:=(Av.of_zeros b8).arr.ext ap;have NU:=oK nu;have HU:=oK hu.len;clear nu bC
 go_upto_region 11 with(refine Ks (sT:=81) rfl rfl underlying81 AF rfl rfl hA4 hu (by omega) (by simp;omega) (IA _) ?_;intro N b2 bj)
 have aw:Av .u64 N r.heap.size 238 r.heap.size (n+1) (n+1) (us ++ List.replicate (n+1-X) 0):=by
  have h1:BG .u64 N r.heap.size 238 (us ++ List.replicate (n+1-us.length) 0):=by
   refine KQ ?_;rw[HU.out];exact b2
  rw[HU.out]at h1;have hl:(us ++ List.replicate (n+1-X) 0).length=n+1:=by simp[HU.out];omega
  have:=BG.own h1 (lrf r.heap.size) (by rw[hl];unfold maxLen;omega);rw[hl]at this;exact this
 have b5:Ext r N:=(ao.trans ap).grownR bj (lrf _);have bD:W.val 18446744073709551616 (us ++ List.replicate (n+1-X) 0)=x*2^s:=by rw[Gj,NU.out.val]
 have bc:W.bnd 18446744073709551616 (us ++ List.replicate (n+1-X) 0):=IB (by omega) NU.out.bnd _;have bx:x*2^s<18446744073709551616^(n-f+1)*D:=by
  have h1:=W.val_lt NX.out.bnd;rw[NX.out.val,HX.out]at h1;have h2:=bT.out;have:=Qx (s:=s) (m:=m1) h1 ak.out (by omega);rw[h2,HD.out]at this;exact this
 have h51:=aw.lt;generalize us ++ List.replicate (n+1-X) 0=ck at *
 have ah:=oK bD;have ag:=oK bx;clear b2 bj hA4 b8 ao ap aJ hu c7 NU HU bD bx;have bh:D<18446744073709551616^f:=by
  have h1:=W.val_lt Z.out.bnd;rw[Z.out.val,hd.len]at h1;exact h1
 have aT:=oK bh;have b3:0<D:=by
  rw[<-HD.out];refine kF ?_ (gJ s);have h1:=ak.out;have:=jx (n:=m1) (show 0<18446744073709551616 by omega);omega
 have bM:=oK b3;clear bh b3;have bE:IntKind.i64.wrap ((n:Int)-f)=(((n-f:Nat):Int)):=by rw[show(n:Int)-f=((n-f:Nat):Int) by omega];exact oP _ (by omega)
 obtain⟨nq,br⟩:∃ nq,n-f=nq:=⟨_,rfl⟩;rw[br]at bE ag;have cp:nq<=n:=by omega
 have bU:Hid (n=nq+f):=by show _=_;omega
 clear br
 go_upto_region 12 with(at_make;refine C1 (n:=nq+1) rfl rfl underlying81 AF rfl rfl rfl (by omega) (by unfold maxLen;omega) ?_;intro w6 b9 aq)
 have aK:=aw.ext aq;have aI:=b5.trans aq;go_wp2;rw[show decide (cv<0)=false by simp;omega]
 go_loopw[13] (fun iv wr=>∃ (k:Nat) (V qs:List Nat),iv = .int .i64 ((k:Int)-1)/\k<=nq+1/\Ext r wr/\Av .u64 wr r.heap.size 238 r.heap.size (n+1) (n+1) V/\Av .u64 wr N.heap.size 238 N.heap.size (nq+1) (nq+1) qs/\W.bnd 18446744073709551616 V/\W.bnd 18446744073709551616 qs/\Hid (x*2^s=W.val 18446744073709551616 qs*D+W.val 18446744073709551616 V)/\Hid (∀ j,j<k->qs.getD j 0=0)/\Hid (W.val 18446744073709551616 V<18446744073709551616^k*D)) (fun iv _=>(intOf iv+1).toNat)
 case atStart =>
  refine⟨nq+1,ck,List.replicate (nq+1) 0,by go_num,lrf _,aI,aK,Av.of_zeros b9,bc,fun z hz=>by rw[(ir.1 hz).2];omega,oK ?_,oK (fun j _=>EW _ j),oK ?_⟩
  · rw[W.val_zeros,pw,gL,ah.out]
  · rw[ah.out];exact ag.out
 case round =>
  clear b9 aq aK aI aw b5 bc ah ag bE ch bL K bI a7;obtain⟨k,V,qs,rfl,hk,hE,hz,hq,bz,bq,HV,HJ,HB⟩:=hrel;cases k with
  | zero =>
   have aM:x/y=W.val 18446744073709551616 qs/\W.val 18446744073709551616 V/2^s=x%y:=by
    have h1:=HV.out;have h2:=HB.out;rw[jE,jy]at h2;rw[<-HD.out]at h1 h2;refine Pi ?_ h1 h2;have h3:=ak.out;have:=jx (n:=m1) (show 0<18446744073709551616 by omega);omega
   have aE:=oK aM;clear aM
   go_wp2_with fail
   refine(Bk hq.sl).mono ?_;rintro e w7 ⟨q1,rfl,rfl,R,bA⟩;obtain⟨t1,t2⟩:=Bq hq.sl R bA bq aE.out.1.symm;clear bA R
   go_wp2_with fail
   refine(Bk hz.sl).mono ?_;rintro e w8 ⟨q2,rfl,rfl,a0,bB⟩;obtain⟨t3,t4⟩:=Bq (v:=W.val 18446744073709551616 V) hz.sl a0 bB bz rfl;have bw:=Ik t3 t4 hs (by omega);have T1:=oK t1;have T2:=oK t2;have bV:=oK bw;clear bB t1 t2 t3 t4 bw
   go_wp2_with fail
   refine bV.out.mono ?_;rintro e w9 ⟨a9,n9,c9,cl,rfl,E,ci,bH,cb⟩;rw[aE.out.2]at bH;go_wp2
   go_ret2
   exact⟨_,q1,_,_,a9,n9,c9,cl,rfl,(a4.trans hE).trans E,T1.out.ext E,T2.out,ci,bH,fun _ g h=>Or.inl (by have:=a4.size;cases h;show w.heap.size<=N.heap.size;omega),fun _ g h=>(cb g h).imp (fun h=>oS (a4.trans hE).size h) (fun h=>h.elim)⟩
  | succ i =>
   have cf:((i+1:Nat):Int)-1=i:=by omega
   rw[cf];have cA:i<=nq:=by omega
   have cC:i+f<=n:=by have:=bU.out;omega
   have c5:i+(f+1)<=V.length:=by rw[hz.len];omega
   obtain⟨q,bt,R,a0,ba,bn,bm⟩:=KR (by omega) bz c5 aT.out bM.out HB.out;have bb:((V.drop i).take (f+1)).length=mm+3:=by simp;have:=a2.out;omega
   have bW:W.bnd 18446744073709551616 ((V.drop i).take (f+1)):=W.bnd_take (W.bnd_drop bz _) _;have bu:=hz.arr.part (o:=i) (n:=f+1) (c:=n+1-i) (by omega) (by omega) (by unfold maxLen;omega);have aN:=fun(C:World) (bF:Qt wr C)=>LM (w:=C) (n:=f) (m:=mm) (q:=q) (bu.ext bF.ext) ((hd.ext hE).ext bF.ext) bW Z.out.bnd a2.out (by omega) bN.out rfl rfl (MR bb) (Gq (by rw[hd.len];exact a2.out)) (Cb bW (by omega)) (Cb Z.out.bnd (by rw[hd.len];have:=a2.out;omega)) (by rw[Z.out.val];exact R) (by rw[Z.out.val];exact a0) bt
   have bJ:∀ C:World,(Instr.sliceAt 81 (.slice (some ⟨r.heap.size,0,none⟩) (n+1) (n+1)) (some (.int .i64 i)) (some (.int .i64 ((i:Int)+f+1))) none).run prog C = .ok (.slice (some ⟨r.heap.size,i,none⟩) (f+1) (n+1-i)) C:=fun C=>by
    have:=Cg (P:=prog) (w:=C) (g:=r.heap.size) (n:=n+1) (c:=n+1) (lo:=i) (hi:=i+f+1) underlying81 AF (by omega) (by omega) (by omega);rw[show i+f+1-i=f+1 by omega,gK,gK]at this;exact this
   have bK:∀ C:World,(Instr.sliceAt 81 (.slice (some ⟨r.heap.size,0,none⟩) (n+1) (n+1)) (some (.int .i64 i)) (some (.int .i64 ((i:Int)+f))) none).run prog C = .ok (.slice (some ⟨r.heap.size,i,none⟩) f (n+1-i)) C:=fun C=>by
    have:=Cg (P:=prog) (w:=C) (g:=r.heap.size) (n:=n+1) (c:=n+1) (lo:=i) (hi:=i+f) underlying81 AF (by omega) (by omega) (by omega);rw[l4,gK]at this;exact this
   have cM:IntKind.i64.wrap ((i:Int)+f)=(i:Int)+f:=oP _ (by omega);have cr:IntKind.i64.wrap ((i:Int)+f+1)=(i:Int)+f+1:=oP _ (by omega);have cI:((i:Int)+f).toNat=i+f:=by omega
   have aj:=oK ba;have aW:=oK bn;have aX:=oK R;have aY:=oK a0;have bS:=oK bm;clear ba bn R a0 bm bu bW bb
   go_wp2_with fail
   refine(aN wr (Qt.refl _)).mono ?_;rintro e w7 ⟨g,rfl,c4,cn,bk,ay⟩;have bG:=hz.ext ay.ext;have bs:=hq.ext ay.ext;have ar:=hE.trans ay.ext;have bv:=Fu (w:=w7) (o:=i) (c':=n+1-i) (wd:=g) bG (hd.ext ar) (Or.inr (hd.fresh (lrf _) (by omega))) (by omega) bz Z.out.bnd bk
   go_wp2_with fail
   refine bv.mono ?_;rintro e w8 ⟨cy,G,rfl,cw,aC,L,am,aD,bl⟩;clear aN bv bJ bK;have S:=bs.kept aC (by simp;omega);have au:=ar.grownR aC (lrf _);have bZ:=L.cell (i:=i+f) (by omega);have c0:=L.frozen (i+f);have a7:G.getD (i+f) 0<18446744073709551616:=W.bnd_at am (by rw[L.len];omega);rw[Z.out.val]at aD;have ai:=oK aD;have bR:=oK bl;have Y:Hid (∀ v,W.val 18446744073709551616 (G.set (i+f) v)+18446744073709551616^(i+f)*G.getD (i+f) 0=W.val 18446744073709551616 G+18446744073709551616^(i+f)*v):=by
    show ∀ v,_;intro v;exact W.val_set (by rw[L.len];omega)
   clear aD bl bG bs aC hz hq;have bX:Hid (∀ j,i+f+1<=j->V.getD j 0=0):=by
    show ∀ j,i+f+1<=j->V.getD j 0=0;exact fun j hj=>Ev (by omega) bS.out (by omega)
   by_cases aL:cy<=G.getD (i+f) 0
   · obtain⟨v,hv⟩:∃ v,v+cy=G.getD (i+f) 0:=⟨G.getD (i+f) 0-cy,by omega⟩;have hR:=Se (Y.out v) ai.out hv;obtain⟨e1,e2⟩:=KP aj.out aW.out hR aY.out c4;subst e1;have af:=oK (Pj (qs:=qs) (i:=i) (q:=g) (by rw[S.len];omega) (HJ.out i (by omega)) rfl HV.out hR);have ae:=oK (IC (q:=g) HJ.out);have bO:=oK e2;have cg:IntKind.u64.wrap (((G.getD (i+f) 0:Nat):Int)-cy)=(v:Int):=Aq (by omega) (by omega);have cE:(cy:Int)<=((G.getD (i+f) 0:Nat):Int):=by omega
     have an:=S.cell (i:=i) (by omega);have bY:=S.frozen i;rw[HJ.out i (by omega)]at an;have U:=L.set (i+f) v;have T:=(S.kept (Am w8 r.heap.size (i+f) (.int .u64 (v:Int))) (by simp;omega)).set i g;have ad:=U.kept (Am (w8.setCell ⟨r.heap.size,i+f,none⟩ (.int .u64 (v:Int))) N.heap.size i (.int .u64 (g:Int))) (by simp;omega);have E:=(au.setCell (p:=⟨r.heap.size,i+f,none⟩) (lrf _) (.int .u64 (v:Int))).setCell (p:=⟨N.heap.size,i,none⟩) (by show r.heap.size<=N.heap.size;omega) (.int .u64 (g:Int))
     have O:=W.bnd_set (i:=i+f) am (show v<18446744073709551616 by omega);have al:=W.bnd_set (i:=i) bq bk;clear hR e2 hv aL;generalize G.getD (i+f) 0=t at *
     go_wp2;go_roundw
     case rel=>exact⟨i,G.set (i+f) v,qs.set i g,by go_num,by omega,E,ad,T,O,al,af,ae,bO⟩
     case measure=>simp[intOf]
   · obtain⟨v,hv⟩:∃ v,v+cy=G.getD (i+f) 0+18446744073709551616:=⟨G.getD (i+f) 0+18446744073709551616-cy,by omega⟩;have ce:v<18446744073709551616:=by omega
     have hR:=KS (B:=18446744073709551616) (Y.out v) ai.out hv;have aB:=KT (v:=v) bR.out bX.out;have O:=W.bnd_set (i:=i+f) am ce;have U:=L.set (i+f) v;have aa:W.val 18446744073709551616 (G.set (i+f) v)<18446744073709551616^(i+f+1):=Gp (by rw[U.len];omega) O aB;rw[<-gG]at hR;have co:q<g:=MU aj.out hR aa aX.out;obtain⟨Q,rfl⟩:∃ Q,g=Q+1:=⟨g-1,by omega⟩;have c3:Q=q:=by omega
     subst c3;have HR:=oK hR;have aF:=oK aa;have aS:=oK aB;have cg:IntKind.u64.wrap (((G.getD (i+f) 0:Nat):Int)-cy)=(v:Int):=by
      rw[jq];omega
     have cF:((G.getD (i+f) 0:Nat):Int)<(cy:Int):=by omega
     have cK:IntKind.u64.wrap ((Q:Int)+1-1)=(Q:Int):=Aq (by omega) (by omega);have cq:IntKind.u64.wrap (Q:Int)=(Q:Int):=Aq (by omega) (by omega);have E:=au.setCell (p:=⟨r.heap.size,i+f,none⟩) (lrf _) (.int .u64 (v:Int));have T:=S.kept (Am w8 r.heap.size (i+f) (.int .u64 (v:Int))) (by simp;omega);clear hR aa aB hv aL ai Y L S au;generalize G.getD (i+f) 0=t at *
     obtain⟨I,aR⟩:∃ I,G.set (i+f) v=I:=⟨_,rfl⟩;rw[aR]at HR aF aS O U;clear aR;go_wp2;generalize w8.setCell ⟨r.heap.size,i+f,none⟩ (.int .u64 (v:Int))=w9 at *
     go_loopw[17,115] (fun cv iv C=>∃ (k H:Nat) (F:List Nat),cv = .int .u64 H/\iv = .int .i64 k/\k<=f/\H<=1/\Ext r C/\Av .u64 C r.heap.size 238 r.heap.size (n+1) (n+1) F/\Av .u64 C N.heap.size 238 N.heap.size (nq+1) (nq+1) qs/\W.bnd 18446744073709551616 F/\Hid (W.val 18446744073709551616 F+H*18446744073709551616^(i+k)=W.val 18446744073709551616 I+1*W.val 18446744073709551616 (J.take k)*18446744073709551616^i)/\Hid (∀ j,i+f<=j->F.getD j 0=I.getD j 0)) (fun _ iv _=>f-(intOf iv).toNat)
     case atStart=>exact⟨0,0,I,rfl,rfl,oY _,by omega,E,U,T,O,oK (by simp[W.val]),oK (fun _ _=>rfl)⟩
     case round =>
      clear U T O E ar hE;obtain⟨k,H,F,rfl,rfl,cD,c2,av,A,a1,a3,HL,aV⟩:=hrel;by_cases a6:k<f
      · obtain⟨b7,o7,rfl,be⟩:=(hd.ext av).at (j:=k) a6;have g1:=be k a6;have ct:=A.cell (i:=i+k) (by omega);have g3:=A.frozen (i+k);have cN:=W.bnd_at a3 (i:=i+k) (by rw[A.len];omega);have cO:=W.bnd_at Z.out.bnd (i:=k) (by rw[hd.len];exact a6);have HS:=oK (KK (B:=18446744073709551616) (l:=F) (xs:=J) (k:=k) (o:=i) (w:=1) (s:=(F.getD (i+k) 0+J.getD k 0+H)%18446744073709551616) (c':=(F.getD (i+k) 0+J.getD k 0+H)/18446744073709551616) (by rw[A.len];omega) (by rw[hd.len];exact a6) HL.out (by rw[px];exact jR _ _))
        have cm:=Ca (F.getD (i+k) 0) (J.getD k 0) H c2;have bQ:Hid (∀ s j,i+f<=j->(F.set (i+k) s).getD j 0=I.getD j 0):=by
         show ∀ s j,i+f<=j->(F.set (i+k) s).getD j 0=I.getD j 0;intro s j hj;have h1:=aV.out j hj;have h2:¬ i+k=j:=by omega
         rw[<-h1];simp[h2]
        have cB:((i:Int)+k).toNat=i+k:=by omega
        have cs:IntKind.i64.wrap ((i:Int)+k)=(i:Int)+k:=oP _ (by omega);generalize F.getD (i+k) 0=u at *
        generalize J.getD k 0=dv at *
        have ca:(u+dv+H)%18446744073709551616<18446744073709551616:=gE _ (by omega);have a5:(u+dv+H)/18446744073709551616<=1:=by omega
        generalize (u+dv+H)%18446744073709551616=s1 at *
        generalize (u+dv+H)/18446744073709551616=c1 at *
        have c8:=a1.kept (Am wr r.heap.size (i+k) (.int .u64 (s1:Int))) (by simp;omega);clear be;go_wp2;go_roundw
        case rel=>exact⟨k+1,c1,F.set (i+k) s1,rfl,by go_num,by omega,a5,av.setCell (lrf _) _,A.set (i+k) s1,c8,W.bnd_set a3 ca,HS,oK (bQ.out s1)⟩
        case measure=>simp[intOf];omega
      · have ek:k=f:=by omega
        have aU:Hid (W.val 18446744073709551616 F+H*18446744073709551616^(i+f)=W.val 18446744073709551616 I+1*D*18446744073709551616^i):=by
         show _=_;have h1:=HL.out;rw[ek,oL (by rw[hd.len];exact lrf _),Z.out.val]at h1;exact h1
        have bZ:=A.cell (i:=i+f) (by omega);have c0:=A.frozen (i+f);have cJ:=W.bnd_at a3 (i:=i+f) (by rw[A.len];omega);have b0:=oK (fun z=>W.val_set (B:=18446744073709551616) (xs:=F) (i:=i+f) (v:=z) (by rw[A.len];omega));have aH:=fun z=>KT (v:=z) aV.out aS.out;generalize F.getD (i+f) 0=u at *
        obtain⟨z,a8⟩:∃ z,(u+H)%18446744073709551616=z:=⟨_,rfl⟩;have cj:z<18446744073709551616:=by rw[<-a8];exact gE _ (by omega)
        have h3:z+18446744073709551616*((u+H)/18446744073709551616)=u+H:=by rw[<-a8];exact jR _ _
        have hT:=MV (B:=18446744073709551616) (b0.out z) aU.out h3;rw[<-gG]at hT;have aG:=W.bnd_set (i:=i+f) a3 cj;have aQ:=A.set (i+f) z;have aO:W.val 18446744073709551616 (F.set (i+f) z)<18446744073709551616^(i+f+1):=Gp (by rw[aQ.len];omega) aG (aH z);have b4:D*18446744073709551616^i<18446744073709551616^(i+f+1):=by
         have h4:D*18446744073709551616^i<18446744073709551616^f*18446744073709551616^i:=iX aT.out (jx (by omega));rw[<-iW]at h4;exact ph h4 (oT (by omega) (by omega))
        obtain⟨_,f2,f3⟩:=MT aj.out aW.out HR.out aF.out aX.out aY.out (lrf _) hT aO b4;have af:=oK (Pj (qs:=qs) (i:=i) (q:=Q) (by rw[a1.len];omega) (HJ.out i (by omega)) rfl HV.out f2);have ae:=oK (IC (q:=Q) HJ.out);have bP:=oK f3;have cL:IntKind.u64.wrap ((u:Int)+(H:Int))=(z:Int):=by
         have:=Gm (x:=u+H) (M:=z) a8;rw[gK]at this;exact this
        have an:=a1.cell (i:=i) (by omega);have bY:=a1.frozen i;rw[HJ.out i (by omega)]at an;have T:=(a1.kept (Am wr r.heap.size (i+f) (.int .u64 (z:Int))) (by simp;omega)).set i Q;have ad:=aQ.kept (Am (wr.setCell ⟨r.heap.size,i+f,none⟩ (.int .u64 (z:Int))) N.heap.size i (.int .u64 (Q:Int))) (by simp;omega);have E:=(av.setCell (p:=⟨r.heap.size,i+f,none⟩) (lrf _) (.int .u64 (z:Int))).setCell (p:=⟨N.heap.size,i,none⟩) (by show r.heap.size<=N.heap.size;omega) (.int .u64 (Q:Int));have al:=W.bnd_set (i:=i) bq bt
        clear hT aO b4 f2 f3 h3 a8 b0 aH HL aU;go_wp2;go_roundw
        case rel=>exact⟨i,F.set (i+f) z,qs.set i Q,by go_num,by omega,E,ad,T,aG,al,af,ae,bP⟩
        case measure=>simp[intOf]
end Go.Proofs.YtlbmnokpiilfpaaGreatDoor
namespace Go.Proofs.YtlbmnokpiilfpaaGreatDoor.W
variable {odd:Bool} {B D M P X Y a b c1 c2 k p s u1 u2 v1 v2 x y:Nat}
theorem gcd_two_right(a:x%2=1):Nat.gcd x (2^k*y)=Nat.gcd x y:=by
 have h2:Nat.Coprime x 2:=by
  rw[Nat.coprime_comm];rw[Nat.coprime_iff_gcd_eq_one];rw[mN,a];rfl
 have h:Nat.Coprime x (2^k):=Nat.Coprime.pow_right k h2;exact Nat.Coprime.gcd_mul_left_cancel_right y h.symm
theorem LN(a:y%2=1):Nat.gcd (2^k*x) y=Nat.gcd x y:=by
 rw[jF,gcd_two_right a,jF]
theorem Sf:2^k∣(x ||| y)<->2^k∣x/\2^k∣y:=by
 simp only[Nat.dvd_iff_mod_eq_zero];rw[Nat.or_mod_two_pow];exact Nat.or_eq_zero_iff
theorem gcd_split{f m:Nat}(i:X=2^a*f)(t:f%2=1)(d:X ||| Y=2^s*(2*m+1)):Nat.gcd X Y=2^s*Nat.gcd f Y:=by
 have h1:=(Sf (x:=X) (y:=Y) (k:=s)).1 ⟨2*m+1,d⟩;obtain⟨⟨g,b⟩,⟨o,c⟩⟩:=h1;have h2:¬ 2^(s+1)∣(X ||| Y):=by
  rintro⟨q,e⟩;rw[d,gG,iQ]at e;have:=mB (gJ s) e;omega
 have r:s<=a:=by
  refine pm fun p => ?_;have h3:2^(a+1)∣X:=kh (Nat.pow_dvd_pow 2 (by omega:a+1<=s)) ⟨g,b⟩;obtain⟨q,e⟩:=h3;rw[i,gG,iQ]at e;have:=mB (gJ a) e;omega
 have n:g=2^(a-s)*f:=by
  have:2^s*g=2^s*(2^(a-s)*f):=by
   rw[<-b,i,<-iQ,<-iW];congr 2;omega
  exact mB (gJ s) this
 rw[b,c,Nat.gcd_mul_left,gcd_two_right t];congr 1;by_cases l:a=s
 · subst l;rw[n,jt,jE,jy]
 · have j:o % 2=1:=by
    refine pm fun p=>h2 (Sf.2 ⟨?_,?_⟩)
    · rw[i];exact kh (Nat.pow_dvd_pow 2 (by omega)) (Nat.dvd_mul_right _ _)
    · rw[c,gG];exact Nat.mul_dvd_mul_left _ (by omega)
   rw[n];exact LN j
theorem gcd_swap(h:x<=y):Nat.gcd x (y-x)=Nat.gcd x y:=by
 rw[Nat.gcd_sub_self_right h]
structure Steps(a b u0 u1 v0 v1:Nat)(odd:Bool)(p q:Nat):Prop where
 ep:if odd=true then p+v0*b=u0*a else p+u0*a=v0*b
 eq:if odd=true then q+u1*a=v1*b else q+v1*b=u1*a
 gcd:Nat.gcd p q=Nat.gcd a b
 lt:q<p
 le:p<=b
theorem MW{q:Nat}(h1:v2*p+v1*q=a)(h2:u2*p+u1*q=b)(s:Int)(hp:(p:Int)=s*(u1*a-v1*b))(e:(q:Int) = -(s*(u2*a-v2*b))):Nat.gcd p q=Nat.gcd a b:=by
 apply Nat.dvd_antisymm
 · apply Nat.dvd_gcd
   · rw[<-h1];exact Nat.dvd_add (kh (jM p q) (kK _ _)) (kh (jA p q) (kK _ _))
   · rw[<-h2];exact Nat.dvd_add (kh (jM p q) (kK _ _)) (kh (jA p q) (kK _ _))
 · have c:((Nat.gcd a b:Nat):Int)∣(a:Int):=lR.2 (jM a b);have d:((Nat.gcd a b:Nat):Int)∣(b:Int):=lR.2 (jA a b);apply Nat.dvd_gcd
   · apply lR.1;rw[hp];exact mf (Int.dvd_sub (mf c (lI _ _)) (mf d (lI _ _))) (lI _ _)
   · apply lR.1;rw[e];exact Int.dvd_neg.2 (mf (Int.dvd_sub (mf c (lI _ _)) (mf d (lI _ _))) (lI _ _))
theorem Leh.good{A o P r t f g s:Int}(h:Leh a b A o P r t f g u1 u2 v1 v2 s)(k:(v2:Int)<=g)(l:(v1:Int)+v2<=f-g)(hu:(u1:Int)<=v1\/((u1:Int)=1/\(v1:Int)=0/\(u2:Int)=0/\s=1))(c:(u1:Int)*v2-u2*v1=s)(m:1<=u2) :
 ∃ p q,Steps a b u1 u2 v1 v2 (decide (s=1)) p q:=by
 have h1:=h.sec k;have h2:=h.gap l hu;have n:=h.sg;obtain⟨q,d⟩:=Int.eq_ofNat_of_zero_le h1;obtain⟨p,hp⟩:=Int.eq_ofNat_of_zero_le (nR h1 (lL h2));have e:s*s=1:=by rcases n with rfl | rfl <;> rfl
 have v:((v2*p+v1*q:Nat):Int)=(a:Int):=by
  rw[gK,gH,gH,<-hp,<-d];have:(v2:Int)*(s*(u1*a-v1*b))+v1 * -(s*(u2*a-v2*b))=s*(u1*v2-u2*v1)*a:=by grind
  rw[this,c,e,Int.one_mul]
 have w:((u2*p+u1*q:Nat):Int)=(b:Int):=by
  rw[gK,gH,gH,<-hp,<-d];have:(u2:Int)*(s*(u1*a-v1*b))+u1 * -(s*(u2*a-v2*b))=s*(u1*v2-u2*v1)*b:=by grind
  rw[this,c,e,Int.one_mul]
 have i:v2*p+v1*q=a:=by omega
 have j:u2*p+u1*q=b:=by omega
 refine⟨p,q,?_,?_,MW i j s hp.symm d.symm,by omega,?_⟩
 · rcases n with rfl|rfl
   · simp only[mK,kJ];have:((p+v1*b:Nat):Int)=((u1*a:Nat):Int):=by
      rw[gK,gH,gH,<-hp];omega
     omega
   · rw[pf (by simp)];have:((p+u1*a:Nat):Int)=((v1*b:Nat):Int):=by
      rw[gK,gH,gH,<-hp];omega
     omega
 · rcases n with rfl|rfl
   · simp only[mK,kJ];have:((q+u2*a:Nat):Int)=((v2*b:Nat):Int):=by
      rw[gK,gH,gH,<-d];omega
     omega
   · rw[pf (by simp)];have:((q+v2*b:Nat):Int)=((u2*a:Nat):Int):=by
      rw[gK,gH,gH,<-d];omega
     omega
 · have h3:1*p<=u2*p:=oO _ m;omega
theorem head_of{t1 t0 lo r:Nat}(c:B=2^s*r)(h0:0<r)(d:a=(t1*B+t0)*M+lo)(b:lo<M) :
 a/(M*r)=t1*2^s+t0/r:=by
 have h1:a/M=t1*B+t0:=by
  rw[d,oU,kG (by omega),j8 b,gP]
 rw[<-jY,h1,c,show t1*(2^s*r)=r*(t1*2^s) by grind,kG h0]
theorem Qy(d:0<P)(c:b<=a):Leh (a:Int) (b:Int) ((a/P:Nat):Int) ((b/P:Nat):Int) (P:Int) ((a%P:Nat):Int) ((b%P:Nat):Int) ((a/P:Nat):Int) ((b/P:Nat):Int) 1 0 0 1 1:=by
 have h1:=ij a P;have h2:=ij b P;have h3:=gE a d;have h4:=gE b d;have h5:b/P<=a/P:=Nat.div_le_div_right c;refine Leh.start ?_ ?_ (py _) (Int.ofNat_lt.2 h3) (py _) (Int.ofNat_lt.2 h4) (py _) (Int.ofNat_le.2 h5)
 · rw[oU]at h1;rw[<-gH,<-gK];omega
 · rw[oU]at h2;rw[<-gH,<-gK];omega
structure Sim(a b A Bb P α β f g u0 u1 u2 v0 v1 v2:Nat)(odd:Bool):Prop where
 leh:Leh (a:Int) b A Bb P α β f g u1 u2 v1 v2 (if odd=true then -1 else 1)
 hu:(u1<=v1)\/(u1=1/\v1=0/\u2=0/\odd=false)
 det:(u1:Int)*v2-u2*v1=(if odd=true then -1 else 1)
 good:v0=0\/∃ p q,Steps a b u0 u1 v0 v1 odd p q
 u20:u2=0->v1=0
theorem Sim.start(d:0<P)(c:b<=a):Sim a b (a/P) (b/P) P (a%P) (b%P) (a/P) (b/P) 0 1 0 0 0 1 false :=
 ⟨Qy d c,Or.inr ⟨rfl,rfl,rfl,rfl⟩,by simp,Or.inl rfl,fun _=>rfl⟩
theorem Sim.bound{A c j k f g u0 i:Nat}(h:Sim a b A c P j k f g u0 u1 u2 i v1 v2 odd)(d:1<=g):v1+v2<=A/\u1<=A+1/\u2<=A:=by
 have e:=h.leh.sv;have o:=h.leh.vv;have n:=h.leh.uv;have m:=h.leh.gf;have l:v2*f+v1*g=A:=by
  have:((v2*f+v1*g:Nat):Int)=(A:Int):=by rw[gK,gH,gH];exact e
  omega
 have h1:v2*1<=v2*f:=gD _ (by omega);have h2:v1*1<=v1*g:=gD _ d;rcases h.hu with hu|⟨rfl,rfl,rfl,_⟩ <;> omega
theorem Sim.step{a b A r P t v f g u0 u1 u2 B v1 v2:Nat}{c:Bool}(h:Sim a b A r P t v f g u0 u1 u2 B v1 v2 c)(J:v2<=g)(I:v1+v2<=f-g) :
 Sim a b A r P t v g (f%g) u1 u2 (u1+f/g*u2) v1 v2 (v1+f/g*v2) (!c)/\v1+f/g*v2<=A/\u1+f/g*u2<=A/\f%g<g:=by
 have C:=h.leh.v2p;have H:=h.leh.gf;have l:1<=g:=by omega
 obtain⟨D,E,F⟩:=h.bound l;have x:(f:Int)=((f/g:Nat):Int)*(g:Int)+((f%g:Nat):Int):=by
  have:=ij f g;rw[oU]at this;rw[<-gH,<-gK];omega
 have z:=gE f (show 0<g by omega);have y:1<=f/g:=(Nat.le_div_iff_mul_le (by omega)).2 (by omega);have n:(u1:Int)<=v1\/((u1:Int)=1/\(v1:Int)=0/\(u2:Int)=0/\(if c=true then -1 else 1:Int)=1):=by
  rcases h.hu with hu|⟨rfl,rfl,rfl,rfl⟩
  · left;omega
  · right;simp
 have d:=h.leh.step x (by omega) (by omega) (by omega) n;have i : -(if c=true then -1 else 1:Int)=(if(!c)=true then -1 else 1:Int):=by cases c <;> rfl
 rw[i]at d;have j:Leh (a:Int) b A r P t v g ((f%g:Nat):Int) u2 ((u1+f/g*u2:Nat):Int) v2 ((v1+f/g*v2:Nat):Int) (if(!c)=true then -1 else 1):=by
  rw[gK,gK,gH,gH];exact d
 have e:=j.sv;have L:=j.uv;have G:(v1+f/g*v2)*g+v2*(f%g)=A:=by
  have:(((v1+f/g*v2)*g+v2*(f%g):Nat):Int)=(A:Int):=by rw[gK,gH,gH];exact e
  omega
 have K:(v1+f/g*v2)*1<=(v1+f/g*v2)*g:=gD _ l;refine⟨⟨j,?_,?_,?_,?_⟩,by omega,by omega,z⟩
 · left;have:=h.leh.uv;omega
 · have w:=h.det;have:(u2:Int)*((v1+f/g*v2:Nat):Int)-((u1+f/g*u2:Nat):Int)*v2 = -((u1:Int)*v2-u2*v1):=by
    rw[gK,gK,gH,gH]
    grind
   rw[this,w,i]
 · by_cases h0:v1=0
   · exact Or.inl h0
   · right;have k:1<=u2:=by
      rcases oV u2 with h2|h2
      · exact absurd (h.u20 h2) h0
      · exact h2
     obtain⟨p,q,m⟩:=h.leh.good (by omega) (by omega) n h.det k;refine⟨p,q,?_⟩;have:decide ((if c=true then -1 else 1:Int)=1) = !c:=by cases c <;> rfl
     rw[this]at m;exact m
 · intro h0;have s:u1=0:=by omega
   have k:f/g*u2=0:=by omega
   have o:u2=0:=by
    rcases Nat.mul_eq_zero.1 k with h3|h3
    · omega
    · exact h3
   subst s;subst o;have:=h.det;cases c <;> simp at this
theorem comb_step{U V d c1' c2':Nat}(h:D+U+c1*M=V+c2*M)(e:d+x+c2+B*c1'=y+c1+B*c2') :
 D+M*d+(U+M*x)+c1'*(M*B)=V+M*y+c2'*(M*B):=by
 have a:M*(d+x+c2+B*c1')=M*(y+c1+B*c2'):=by rw[e]
 grind
theorem comb_end{T:Nat}(h:D+X+c1*T=Y+c2*T)(hp:p+X=Y)(b:D<T)(a:p<T):D=p:=by
 have h1:D+c1*T=p+c2*T:=by omega
 have h2:=gR (· % T) h1;simp only[Nat.add_mul_mod_self_right]at h2
 rwa[jd b,jd a]at h2
end Go.Proofs.YtlbmnokpiilfpaaGreatDoor.W
namespace Go.Proofs.YtlbmnokpiilfpaaGreatDoor
open Go.Shelf
def Qz:Go.Shelf.Ren:=⟨fun | 29=>292 | n=>n,fun | 22=>238 | 3=>3 | 4=>4 | 25=>222 | 54=>330 | 0=>0 | 5=>5 | n=>n,fun | 1=>1 | n=>n⟩
theorem VQ:Go.Proofs.Lays7.n29 Tryz.prog Qz:={
 mixed:=by kernel_rfl
 f29:=Tryz.func292.trans (gR some (by kernel_rfl))
 t0:=Tryz.underlying0
 a0:=Tryz.isAgg0
 z0:=Tryz.sizeOf0
 v0:=Tryz.zeroValue0
 i0:=by kernel_rfl
 t3:=Tryz.underlying3
 a3:=Tryz.isAgg3
 z3:=Tryz.sizeOf3
 v3:=Tryz.zeroValue3
 i3:=by kernel_rfl
 t4:=Tryz.underlying4
 a4:=Tryz.isAgg4
 z4:=Tryz.sizeOf4
 v4:=Tryz.zeroValue4
 i4:=by kernel_rfl
 t5:=Tryz.underlying5
 a5:=Tryz.isAgg5
 z5:=Tryz.sizeOf5
 v5:=Tryz.zeroValue5
 i5:=by kernel_rfl
 t22:=Tryz.underlying238
 a22:=Tryz.isAgg238
 z22:=Tryz.sizeOf238
 v22:=Tryz.zeroValue238
 i22:=by kernel_rfl
 t25:=Tryz.underlying222
 a25:=Tryz.isAgg222
 z25:=Tryz.sizeOf222
 v25:=Tryz.zeroValue222
 i25:=by kernel_rfl
 t54:=Tryz.underlying330
 a54:=Tryz.isAgg330
 z54:=Tryz.sizeOf330
 g1:=by kernel_rfl }
def MX:Go.Shelf.Ren:=⟨fun | 173=>181 | 246=>228 | 283=>269 | 284=>270 | 285=>271 | 286=>272 | 129=>253 | 317=>303 | 318=>304 | 319=>305 | 320=>306 | 337=>322 | 338=>292 | n=>n,fun | 2=>2 | 3=>3 | 9=>9 | 4=>4 | 171=>294 | 0=>0 | 53=>238 | 37=>228 | 5=>5 | 173=>296 | 212=>319 | 51=>241 | 20=>20 | 213=>320 | 46=>222 | 232=>338 | 233=>330 | n=>n,fun | 17=>0 | 18=>4 | 19=>1 | n=>n⟩
theorem TM:Go.Proofs.LaysM.n173 Tryz.prog MX:={
 mixed:=by kernel_rfl
 f129:=Tryz.func253.trans (gR some (by kernel_rfl))
 f173:=Tryz.func181.trans (gR some (by kernel_rfl))
 f246:=Tryz.func228.trans (gR some (by kernel_rfl))
 f283:=Tryz.func269.trans (gR some (by kernel_rfl))
 f284:=Tryz.func270.trans (gR some (by kernel_rfl))
 f285:=Tryz.func271.trans (gR some (by kernel_rfl))
 f286:=Tryz.func272.trans (gR some (by kernel_rfl))
 f317:=Tryz.func303.trans (gR some (by kernel_rfl))
 f318:=Tryz.func304.trans (gR some (by kernel_rfl))
 f319:=Tryz.func305.trans (gR some (by kernel_rfl))
 f320:=Tryz.func306.trans (gR some (by kernel_rfl))
 f337:=Tryz.func322.trans (gR some (by kernel_rfl))
 f338:=Tryz.func292.trans (gR some (by kernel_rfl))
 t0:=Tryz.underlying0
 a0:=Tryz.isAgg0
 z0:=Tryz.sizeOf0
 v0:=Tryz.zeroValue0
 t2:=Tryz.underlying2
 a2:=Tryz.isAgg2
 z2:=Tryz.sizeOf2
 v2:=Tryz.zeroValue2
 t3:=Tryz.underlying3
 a3:=Tryz.isAgg3
 z3:=Tryz.sizeOf3
 v3:=Tryz.zeroValue3
 t4:=Tryz.underlying4
 a4:=Tryz.isAgg4
 z4:=Tryz.sizeOf4
 v4:=Tryz.zeroValue4
 t5:=Tryz.underlying5
 a5:=Tryz.isAgg5
 z5:=Tryz.sizeOf5
 v5:=Tryz.zeroValue5
 t9:=Tryz.underlying9
 a9:=Tryz.isAgg9
 z9:=Tryz.sizeOf9
 v9:=Tryz.zeroValue9
 t20:=Tryz.underlying20
 a20:=Tryz.isAgg20
 z20:=Tryz.sizeOf20
 v20:=Tryz.zeroValue20
 t37:=Tryz.underlying228
 a37:=Tryz.isAgg228
 z37:=Tryz.sizeOf228
 v37:=Tryz.zeroValue228
 t46:=Tryz.underlying222
 a46:=Tryz.isAgg222
 z46:=Tryz.sizeOf222
 v46:=Tryz.zeroValue222
 t51:=Tryz.underlying241
 a51:=Tryz.isAgg241
 z51:=Tryz.sizeOf241
 v51:=Tryz.zeroValue241
 t53:=Tryz.underlying238
 a53:=Tryz.isAgg238
 z53:=Tryz.sizeOf238
 v53:=Tryz.zeroValue238
 t171:=Tryz.underlying294
 a171:=Tryz.isAgg294
 z171:=Tryz.sizeOf294
 v171:=Tryz.zeroValue294
 t173:=Tryz.underlying296
 a173:=Tryz.isAgg296
 z173:=Tryz.sizeOf296
 v173:=Tryz.zeroValue296
 t212:=Tryz.underlying319
 a212:=Tryz.isAgg319
 z212:=Tryz.sizeOf319
 v212:=Tryz.zeroValue319
 t213:=Tryz.underlying320
 a213:=Tryz.isAgg320
 z213:=Tryz.sizeOf320
 t232:=Tryz.underlying338
 a232:=Tryz.isAgg338
 z232:=Tryz.sizeOf338
 v232:=Tryz.zeroValue338
 t233:=Tryz.underlying330
 a233:=Tryz.isAgg330
 z233:=Tryz.sizeOf330
 v233:=Tryz.zeroValue330
 g17:=by kernel_rfl
 g18:=by kernel_rfl
 g19:=by kernel_rfl
 i0:=by kernel_rfl
 i2:=by kernel_rfl
 i3:=by kernel_rfl
 i4:=by kernel_rfl
 i5:=by kernel_rfl
 i9:=by kernel_rfl
 i20:=by kernel_rfl
 i37:=by kernel_rfl
 i46:=by kernel_rfl
 i51:=by kernel_rfl
 i53:=by kernel_rfl
 i171:=by kernel_rfl
 i173:=by kernel_rfl
 i212:=by kernel_rfl
 i232:=by kernel_rfl
 i233:=by kernel_rfl
 m17:=by kernel_rfl
 m18:=by kernel_rfl
 m19:=by kernel_rfl }
def QA:Go.Shelf.Ren:=⟨fun | 288=>302 | 283=>269 | 284=>270 | 285=>271 | 286=>272 | 129=>253 | 317=>303 | 318=>304 | 319=>305 | 320=>306 | 337=>322 | 338=>292 | n=>n,fun | 37=>228 | 53=>238 | 3=>3 | 4=>4 | 9=>9 | 171=>294 | 0=>0 | 173=>296 | 212=>319 | 51=>241 | 5=>5 | 20=>20 | 213=>320 | 46=>222 | 232=>338 | 233=>330 | n=>n,fun | 17=>0 | 18=>4 | 19=>1 | n=>n⟩
theorem Pk:Go.Proofs.LaysM.n288 Tryz.prog QA:={
 mixed:=by kernel_rfl
 f129:=Tryz.func253.trans (gR some (by kernel_rfl))
 f283:=Tryz.func269.trans (gR some (by kernel_rfl))
 f284:=Tryz.func270.trans (gR some (by kernel_rfl))
 f285:=Tryz.func271.trans (gR some (by kernel_rfl))
 f286:=Tryz.func272.trans (gR some (by kernel_rfl))
 f288:=Tryz.func302.trans (gR some (by kernel_rfl))
 f317:=Tryz.func303.trans (gR some (by kernel_rfl))
 f318:=Tryz.func304.trans (gR some (by kernel_rfl))
 f319:=Tryz.func305.trans (gR some (by kernel_rfl))
 f320:=Tryz.func306.trans (gR some (by kernel_rfl))
 f337:=Tryz.func322.trans (gR some (by kernel_rfl))
 f338:=Tryz.func292.trans (gR some (by kernel_rfl))
 t0:=Tryz.underlying0
 a0:=Tryz.isAgg0
 z0:=Tryz.sizeOf0
 v0:=Tryz.zeroValue0
 t3:=Tryz.underlying3
 a3:=Tryz.isAgg3
 z3:=Tryz.sizeOf3
 v3:=Tryz.zeroValue3
 t4:=Tryz.underlying4
 a4:=Tryz.isAgg4
 z4:=Tryz.sizeOf4
 v4:=Tryz.zeroValue4
 t5:=Tryz.underlying5
 a5:=Tryz.isAgg5
 z5:=Tryz.sizeOf5
 v5:=Tryz.zeroValue5
 t9:=Tryz.underlying9
 a9:=Tryz.isAgg9
 z9:=Tryz.sizeOf9
 v9:=Tryz.zeroValue9
 t20:=Tryz.underlying20
 a20:=Tryz.isAgg20
 z20:=Tryz.sizeOf20
 v20:=Tryz.zeroValue20
 t37:=Tryz.underlying228
 a37:=Tryz.isAgg228
 z37:=Tryz.sizeOf228
 v37:=Tryz.zeroValue228
 t46:=Tryz.underlying222
 a46:=Tryz.isAgg222
 z46:=Tryz.sizeOf222
 v46:=Tryz.zeroValue222
 t51:=Tryz.underlying241
 a51:=Tryz.isAgg241
 z51:=Tryz.sizeOf241
 v51:=Tryz.zeroValue241
 t53:=Tryz.underlying238
 a53:=Tryz.isAgg238
 z53:=Tryz.sizeOf238
 v53:=Tryz.zeroValue238
 t171:=Tryz.underlying294
 a171:=Tryz.isAgg294
 z171:=Tryz.sizeOf294
 v171:=Tryz.zeroValue294
 t173:=Tryz.underlying296
 a173:=Tryz.isAgg296
 z173:=Tryz.sizeOf296
 v173:=Tryz.zeroValue296
 t212:=Tryz.underlying319
 a212:=Tryz.isAgg319
 z212:=Tryz.sizeOf319
 v212:=Tryz.zeroValue319
 t213:=Tryz.underlying320
 a213:=Tryz.isAgg320
 z213:=Tryz.sizeOf320
 t232:=Tryz.underlying338
 a232:=Tryz.isAgg338
 z232:=Tryz.sizeOf338
 v232:=Tryz.zeroValue338
 t233:=Tryz.underlying330
 a233:=Tryz.isAgg330
 z233:=Tryz.sizeOf330
 v233:=Tryz.zeroValue330
 g17:=by kernel_rfl
 g18:=by kernel_rfl
 g19:=by kernel_rfl
 i0:=by kernel_rfl
 i3:=by kernel_rfl
 i4:=by kernel_rfl
 i5:=by kernel_rfl
 i9:=by kernel_rfl
 i20:=by kernel_rfl
 i37:=by kernel_rfl
 i46:=by kernel_rfl
 i51:=by kernel_rfl
 i53:=by kernel_rfl
 i171:=by kernel_rfl
 i173:=by kernel_rfl
 i212:=by kernel_rfl
 i232:=by kernel_rfl
 i233:=by kernel_rfl
 m17:=by kernel_rfl
 m18:=by kernel_rfl
 m19:=by kernel_rfl }
end Go.Proofs.YtlbmnokpiilfpaaGreatDoor
namespace Go.Proofs.YtlbmnokpiilfpaaGreatDoor
open Tryz Go Go.RowKit
variable {cs cs' cs'' cs3:Array Value} {odd:Bool} {xs ys zs:List Nat} {B base c d g k m n s x y:Nat} {a b:Option Addr} {e t t' t'' t3 ty ty':TypeId} {w w' wb:World}
structure AV(w:World):Prop where
 tz:TabAt 1 Lib.deBruijn64tab w
 ten:Lib.TabIs prog w "internal/strconv.uint64pow10" .u64 Lib.pow10Tab
theorem AV.ext(h:AV w)(e:Ext w w'):AV w' :=
 ⟨fun j a=>e.cell (h.tz j a),Lib.tabBelow_of_tabIs h.ten w' e⟩
theorem Ov(h0:0<x)(a:x<18446744073709551616):∃ k m,k<64/\x=2^k*(2*m+1)/\∀ w,AV w->Calls prog 292 #[.int .u64 x] w fun e b=>e = .returned (.int .i64 (k:Nat))/\w=b:=by
 obtain⟨m,h1,h2⟩:=Lib.ctzFrom_spec 64 x h0 a;have h3:Lib.ctz 64 x=Lib.ctzFrom 64 x:=by unfold Lib.ctz;rw[pf (by omega)]
 refine⟨_,m,h2,h1,fun w c => ?_⟩;refine(Any7.bits_TrailingZeros64 VQ x a w (fun _=>c.tz)).mono ?_;rintro e b ⟨rfl,rfl⟩;rw[h3];exact⟨rfl,rfl⟩
theorem Pm(h:x=2^k*(2*m+1)):x/2^k=2*m+1:=by
 rw[h,lN _ (gJ k)]
theorem Hy(I:AV w)(P:x<18446744073709551616)(R:y<18446744073709551616) :
 Calls prog 242 #[.int .u64 x,.int .u64 y] w fun e w'=>e = .returned (.int .u64 (Nat.gcd x y:Nat))/\w=w':=by
 have c:=mE x y P R;by_cases h0:x=0
 · subst h0;have A:bits BinOp.or IntKind.u64 0 (y:Int)=(y:Int):=by
    rw[Nat.zero_or]at c;exact c
   rw[Nat.gcd_zero_left];clear c
   go_enter func242,ntmps242
   go_wp2;go_ret;exact⟨rfl,rfl⟩
 by_cases h1:y=0
 · subst h1;have A:bits BinOp.or IntKind.u64 (x:Int) 0=(x:Int):=by
    rw[Nat.or_zero]at c;exact c
   rw[li];have Y:((x:Int) == 0)=false:=by simpa using h0
   clear c
   go_enter func242,ntmps242
   go_wp2;go_ret;exact⟨rfl,rfl⟩
 have Y:((x:Int) == 0)=false:=by simpa using h0
 have L:((y:Int) == 0)=false:=by simpa using h1
 have z:x ||| y<18446744073709551616:=LL P R
 have v:0<x ||| y:=by
  rcases oV (x ||| y)with h|h
  · exact absurd (Nat.or_eq_zero_iff.1 h).1 h0
  · exact h
 obtain⟨s,m,hs,C,n⟩:=Ov v z;obtain⟨a,d,Z,i,r⟩:=Ov (x:=x) (by omega) P;have E:Hid (Nat.gcd x y=2^s*Nat.gcd (2*d+1) y):=oK (W.gcd_split i (by omega) C);have Q:(x:Int)/2^a=((2*d+1:Nat):Int):=by
  have:=Pm i;rw[<-this];push_cast;rfl
 have D:2*d+1<18446744073709551616:=by
  have:1*(2*d+1)<=2^a*(2*d+1):=oO _ (gJ a);omega
 clear C i;generalize x ||| y=o at *
 go_enter func242,ntmps242
 go_wp2_with fail
 refine(n _ I).mono ?_;rintro e S ⟨rfl,rfl⟩
 go_wp2_with fail
 refine(r _ I).mono ?_;rintro e S ⟨rfl,rfl⟩;go_wp2;have M:Hid (Nat.gcd (2*d+1) y=Nat.gcd (2*d+1) y):=oK rfl;obtain⟨G,H⟩:∃ G,Nat.gcd (2*d+1) y=G:=⟨_,rfl⟩;have j:=oK H;have K:2^s*G<18446744073709551616:=by
  rw[<-H,<-E.out];have:=kM (by omega) (jM x y);omega
 rw[H]at E;clear M H n r Q c
 go_loop[0,1] (fun T U=>∃ p q:Nat,T = .int .u64 (2*(p:Int)+1)/\U = .int .u64 q/\2*p+1<18446744073709551616/\q<18446744073709551616/\Hid (Nat.gcd (2*p+1) q=G)) (fun T U=>(intOf T+intOf U).toNat)
 case atStart=>exact⟨d,y,rfl,rfl,D,R,j⟩
 case round =>
  clear j D Y L h0 h1 z v Z;obtain⟨p,q,rfl,rfl,hp,hq,F⟩:=hrel;by_cases B:q=0
  · subst B;have V:Hid (2*p+1=G):=by show _=_;have:=F.out;rw[li]at this;exact this
    have O:IntKind.u64.wrap ((2*(p:Int)+1)*2^s)=((Nat.gcd x y:Nat):Int):=by
     have h1:(2*(p:Int)+1)*2^s=((2^s*G:Nat):Int):=by
      rw[<-V.out];push_cast;exact Int.mul_comm _ _
     rw[h1,E.out];exact Aq rfl K
    obtain⟨X,f⟩:∃ X,Nat.gcd x y=X:=⟨_,rfl⟩;rw[f]at O;have J:=oK f;clear F V E f;go_wp2;go_ret;exact⟨by rw[J.out];rfl,rfl⟩
  · obtain⟨k,b,hk,g,t⟩:=Ov (x:=q) (by omega) hq;have a2:((q:Int) != 0)=true:=by simpa using B
    have a3:(q:Int)/2^k=2*(b:Int)+1:=by
     have:=Pm g;have h2:(q:Int)/2^k=((q/2^k:Nat):Int):=by push_cast;rfl
     rw[h2,this];push_cast;rfl
    have a1:2*b+1<=q:=by
     have:1*(2*b+1)<=2^k*(2*b+1):=oO _ (gJ k);omega
    have l:Hid (Nat.gcd (2*p+1) (2*b+1)=G):=by
     show _=_;have:=F.out;rw[g,W.gcd_two_right (by omega)]at this;exact this
    clear F g;by_cases a0:b<p
    · have N:2*(b:Int)+1<2*(p:Int)+1:=by omega
      have hw:IntKind.u64.wrap (2*(p:Int)+1-(2*(b:Int)+1))=((2*(p-b):Nat):Int):=by
       rw[jq];omega
      go_wp2_with fail
      refine(t _ I).mono ?_;rintro e S ⟨rfl,rfl⟩;go_wp2;go_round
      case rel =>
       refine⟨b,2*(p-b),rfl,rfl,by omega,by omega,oK ?_⟩;rw[<-l.out,jF (2*p+1),show 2*(p-b)=2*p+1-(2*b+1) by omega];exact W.gcd_swap (by omega)
      case measure=>simp[intOf];omega
    · have N:¬ (2*(b:Int)+1<2*(p:Int)+1):=by omega
      have hw:IntKind.u64.wrap (2*(b:Int)+1-(2*(p:Int)+1))=((2*(b-p):Nat):Int):=by
       rw[jq];omega
      go_wp2_with fail
      refine(t _ I).mono ?_;rintro e S ⟨rfl,rfl⟩;go_wp2;go_round
      case rel =>
       refine⟨p,2*(b-p),rfl,rfl,by omega,by omega,oK ?_⟩;rw[<-l.out,show 2*(b-p)=2*b+1-(2*p+1) by omega];exact W.gcd_swap (by omega)
      case measure=>simp[intOf];omega
section
variable {P:Program} {c:Code} {Q:Exit->Act->World->Prop} {f:Act} {w:World}
theorem AM(h:∀ a,Ext w a->Arr a w.heap.size t cs.toList->a.heap.size=w.heap.size+1->Code.wp P c Q f a):Code.wp P c Q f (w.alloc (.cells cs t)) :=
 h _ ((Ext.refl w).alloc _) (Arr.new w t cs.toList) (by simp)
theorem Ch(h:∀ a,Ext w a->Arr a w.heap.size t cs.toList->Arr a (w.heap.size+1) t' cs'.toList->a.heap.size=w.heap.size+2->Code.wp P c Q f a):Code.wp P c Q f ((w.alloc (.cells cs t)).alloc (.cells cs' t')) :=
 h _ (((Ext.refl w).alloc _).alloc _) ((Arr.new w t cs.toList).alloc _) (by have:=Arr.new (w.alloc (.cells cs t)) t' cs'.toList;simpa using this) (by simp)
theorem CR(h:∀ a,Ext w a->Arr a w.heap.size t cs.toList->Arr a (w.heap.size+1) t' cs'.toList->Arr a (w.heap.size+2) t'' cs''.toList->a.heap.size=w.heap.size+3->Code.wp P c Q f a):Code.wp P c Q f (((w.alloc (.cells cs t)).alloc (.cells cs' t')).alloc (.cells cs'' t'')) :=
 h _ ((((Ext.refl w).alloc _).alloc _).alloc _) (((Arr.new w t cs.toList).alloc _).alloc _) (by have:=(Arr.new (w.alloc (.cells cs t)) t' cs'.toList).alloc (.cells cs'' t'');simpa using this) (by have:=Arr.new ((w.alloc (.cells cs t)).alloc (.cells cs' t')) t'' cs''.toList;simpa using this) (by simp)
theorem TN(h:∀ a,Ext w a->Arr a w.heap.size t cs.toList->Arr a (w.heap.size+1) t' cs'.toList->Arr a (w.heap.size+2) t'' cs''.toList->Arr a (w.heap.size+3) t3 cs3.toList->a.heap.size=w.heap.size+4->Code.wp P c Q f a):Code.wp P c Q f ((((w.alloc (.cells cs t)).alloc (.cells cs' t')).alloc (.cells cs'' t'')).alloc (.cells cs3 t3)) :=
 h _ (((((Ext.refl w).alloc _).alloc _).alloc _).alloc _) ((((Arr.new w t cs.toList).alloc _).alloc _).alloc _) (by have:=((Arr.new (w.alloc (.cells cs t)) t' cs'.toList).alloc (.cells cs'' t'')).alloc (.cells cs3 t3);simpa using this) (by have:=(Arr.new ((w.alloc (.cells cs t)).alloc (.cells cs' t')) t'' cs''.toList).alloc (.cells cs3 t3);simpa using this) (by have:=Arr.new (((w.alloc (.cells cs t)).alloc (.cells cs' t')).alloc (.cells cs'' t'')) t3 cs3.toList;simpa using this) (by simp)
end
section
variable {P:Program} {w:World}
theorem Ow{cs:List Value}(a:Agg P ty cs.length)(h:Arr w g t cs):(loadVar ty ⟨g,0,none⟩).run P w = .ok (.agg cs.toArray) w:=by
 obtain⟨d,hu,b,c⟩:=a.parts;exact run_loadVar_row (P:=P) w g t ty cs.toArray (0,0) d h hu (by cases d <;> first | rfl | exact absurd b (by simp)) (by simpa using c)
theorem LO{f:Func}{p q:Tmp}(l:f.results=#[.cell p ty,.cell q ty']){a:Array Value}{g b:Nat}{t t':TypeId}{cs cs':List Value}(j:Agg P ty cs.length)(c:Agg P ty' cs'.length)
 (hp:a.getD p undef = .pointer (some ⟨g,0,none⟩)) (k:a.getD q undef = .pointer (some ⟨b,0,none⟩)) (h:Arr w g t cs) (i:Arr w b t' cs'):(results f a).run P w = .ok (.tuple #[.agg cs.toArray,.agg cs'.toArray]) w:=by
 have d:a[p]?.getD undef = .pointer (some ⟨g,0,none⟩):=by simpa using hp
 have e:a[q]?.getD undef = .pointer (some ⟨b,0,none⟩):=by simpa using k
 simp[results,l,d,e,asAddr,Ow j h,Ow c i]
theorem Ar{d:Func}{p q:Tmp}(i:d.results=#[.cell p ty,.tmp q]){a:Array Value}{g:Nat}{t:TypeId}{cs:List Value}{v:Value}(e:Agg P ty cs.length)
 (hp:a.getD p undef = .pointer (some ⟨g,0,none⟩)) (f:a.getD q undef=v) (h:Arr w g t cs):(results d a).run P w = .ok (.tuple #[.agg cs.toArray,v]) w:=by
 have b:a[p]?.getD undef = .pointer (some ⟨g,0,none⟩):=by simpa using hp
 have c:a[q]?.getD undef=v:=by simpa using f
 simp[results,i,b,c,asAddr,Ow e h]
end
theorem Cv:Agg prog 268 5:=⟨by kernel_rfl,by kernel_rfl⟩
def CF(u0 u1 v0 v1:Nat)(odd:Bool):List Value:=[.int .u64 u0,.int .u64 u1,.int .u64 v0,.int .u64 v1,.bool odd]
theorem Ex(u0 u1 c v1:Nat)(a:Bool):∀ v∈CF u0 u1 c v1 a,v.oneCell'=true:=by
 intro v b;simp only[CF,gV,jN,me]at b;rcases b with rfl|rfl|rfl|rfl|rfl <;> rfl
theorem Fo(a:s<=63):18446744073709551616=2^s*2^(64-s):=by rw[<-iW,show s+(64-s)=64 by omega]
theorem LP{t1 t0:Nat}(a:s<=63)(h0:t0<18446744073709551616):t1*2^s ||| t0/2^(64-s)=t1*2^s+t0/2^(64-s):=by
 have h:t0/2^(64-s)<2^s:=by
  rw[iS (gJ _),<-Fo a];exact h0
 have:=Nat.shiftLeft_add_eq_or_of_lt h t1;rw[Nat.shiftLeft_eq]at this;exact this.symm
def Wl(w:World)(x y:Nat)(e:Ending)(w':World):Prop :=
 ∃ u0 u1 v0 v1 odd,e = .returned (.agg (CF u0 u1 v0 v1 odd).toArray)/\Ext w w'/\u0<18446744073709551616/\u1<18446744073709551616/\v0<18446744073709551616/\v1<18446744073709551616/\(v0=0\/∃ p q,W.Steps x y u0 u1 v0 v1 odd p q)
theorem Gr(hx:SlN .u64 w a n c xs)(hy:SlN .u64 w b m d ys)(nx:Num 18446744073709551616 xs x)(ny:Num 18446744073709551616 ys y)(hn:n<=100000)(ar:y<=x){nn:Nat}(av:n=nn+2) :
 Calls prog 239 #[.slice a n c,.slice b m d] w (Wl w x y):=by
 have HX:=oK hx.len;have HY:=oK hy.len;have bg:m<=n:=by
  refine pm fun hc => ?_;have:=W.len_lt (B:=18446744073709551616) (by omega) nx.bnd ny.nrm (by rw[HX.out,HY.out];omega);rw[nx.val,ny.val]at this;omega
 have ah:xs≠[]:=by intro h;have:=HX.out;rw[h]at this;simp at this;omega
 have ag:0<xs.getD (nn+1) 0:=by
  have h1:=nx.nrm ah;rw[kB]at h1;have h2:xs.length-1=nn+1:=by rw[HX.out];omega
  have h3:nn+1<xs.length:=by rw[HX.out];omega
  have h4:xs.getD (nn+1) 0=xs[xs.length-1]'(by omega):=by
   simp[h2,h3]
  omega
 have ax:=W.bnd_at nx.bnd (i:=nn+1) (by rw[HX.out];omega);have aw:=W.bnd_at nx.bnd (i:=nn) (by rw[HX.out];omega);obtain⟨s,hs,au,aO,a9⟩:=LK ag ax;have D:=fun wx:World=>Oq ax wx;rw[au]at D;obtain⟨P,hP⟩:∃ P,18446744073709551616^nn*2^(64-s)=P:=⟨_,rfl⟩;have am:0<P:=by rw[<-hP];exact kF (jx (by omega)) (gJ _)
 have hA:x/P=xs.getD (nn+1) 0*2^s+xs.getD nn 0/2^(64-s):=by
  rw[<-hP];refine W.head_of (Fo hs) (gJ _) (lo:=W.val 18446744073709551616 (xs.take nn)) ?_ ?_
  · rw[<-nx.val];exact Gq (by rw[HX.out];omega)
  · exact Cb nx.bnd (by rw[HX.out];omega)
 have aj:xs.getD (nn+1) 0*2^s+xs.getD nn 0/2^(64-s)<18446744073709551616:=by
  rw[<-LP hs aw];exact LL a9 (by have:=gM (xs.getD nn 0) (2^(64-s));omega)
 have ak:y/P<=x/P:=Nat.div_le_div_right ar;have O:m=nn+2->y/P=ys.getD (nn+1) 0*2^s+ys.getD nn 0/2^(64-s):=by
  intro J;rw[<-hP];refine W.head_of (Fo hs) (gJ _) (lo:=W.val 18446744073709551616 (ys.take nn)) ?_ ?_
  · rw[<-ny.val];exact Gq (by rw[HY.out];omega)
  · exact Cb ny.bnd (by rw[HY.out];omega)
 have Q:m=nn+1->y/P=ys.getD nn 0/2^(64-s):=by
  intro J;rw[<-hP]
  have:=W.head_of (t1:=0) (Fo hs) (gJ _) (a:=y) (t0:=ys.getD nn 0) (M:=18446744073709551616^nn) (lo:=W.val 18446744073709551616 (ys.take nn)) (by
   rw[<-ny.val,pw,gL];have:=DY (B:=18446744073709551616) (l:=ys) (m:=nn) (by rw[HY.out];omega)
   rw[this]) (Cb ny.bnd (by rw[HY.out];omega))
  rw[this,pw,gL]
 have R:m<=nn->y/P=0:=by
  intro J;apply j8;have h1:=W.val_lt ny.bnd;rw[ny.val,HY.out]at h1;have h2:18446744073709551616^m<=18446744073709551616^nn:=oT (by omega) J;have h3:18446744073709551616^nn*1<=18446744073709551616^nn*2^(64-s):=gD _ (gJ _);omega
 have a8:=oK (W.Sim.start am ar);obtain⟨A,a3⟩:∃ A,x/P=A:=⟨_,rfl⟩;obtain⟨Bb,a5⟩:∃ Bb,y/P=Bb:=⟨_,rfl⟩;rw[a3,a5]at a8;rw[a3]at hA ak;rw[a5]at ak O Q R;generalize x%P=α at *
 generalize y%P=β at *
 clear a3 a5 hP am ah;have aZ:A<18446744073709551616:=by rw[hA];exact aj
 have b0:Bb<18446744073709551616:=by omega
 obtain⟨b1,o1,rfl,H⟩:=hx.at (j:=0) (by omega);have g1:=H (nn+1) (by omega);have g0:=H nn (by omega);have fA:bits BinOp.or IntKind.u64 ((xs.getD (nn+1) 0*2^s:Nat):Int) ((xs.getD nn 0/2^(64-s):Nat):Int)=(A:Int):=by
  rw[mE _ _ a9 (by have:=gM (xs.getD nn 0) (2^(64-s));omega),LP hs aw,hA]
 have a0:IntKind.u64.wrap (((xs.getD (nn+1) 0:Nat):Int)*2^s)=((xs.getD (nn+1) 0*2^s:Nat):Int):=Aq (by push_cast;rfl) a9;have N:((xs.getD nn 0:Nat):Int)/2^(64-s)=((xs.getD nn 0/2^(64-s):Nat):Int):=by push_cast;rfl
 generalize xs.getD nn 0/2^(64-s)=q0 at *
 generalize xs.getD (nn+1) 0 * 2^s=q1 at *
 generalize xs.getD (nn+1) 0=t1 at *
 generalize xs.getD nn 0=t0 at *
 have aV:IntKind.i64.wrap ((n:Int)-1)=((nn+1:Nat):Int):=by rw[show(n:Int)-1=((nn+1:Nat):Int) by omega];exact oP _ (by omega)
 have bh:IntKind.i64.wrap ((n:Int)-2)=((nn:Nat):Int):=by rw[show(n:Int)-2=((nn:Nat):Int) by omega];exact oP _ (by omega)
 have aQ:((nn+1:Nat):Int)<(n:Int):=by omega
 have bd:((nn:Nat):Int)<(n:Int):=by omega
 have bj:IntKind.u64.wrap (64-(s:Int))=((64-s:Nat):Int):=by rw[jq];omega
 have HN:Hid (n=nn+2):=oK av;obtain⟨N1,a7⟩:∃ N1,nn+1=N1:=⟨_,rfl⟩;rw[a7]at g1 aV aQ;have L:=oK a7;clear H au hA aj aO ag av a7
 go_enter func239,ntmps239
 go_upto_region 1 with(fail)
 refine AM ?_;intro w0 T an aB;have aI:=T.cell g1;have aH:=T.cell g0;have aA:=hy.ext T;clear g1 g0 hx hy
 go_wp2_with fail
 refine(D _).mono ?_;rintro e w2 ⟨rfl,rfl⟩;go_wp2
 go_quiet (fail)
 have E:=T.drewN nq;have F:=an.drewN nq;have Z:=aA.ext ((Ext.refl w2).drewN nq);have aC:(w2.drewN nq).heap.size=w.heap.size+1:=aB;generalize w2.drewN nq=w3 at *
 clear aA T an aB aI aH fA a0 N D;have z:w.heap.size<w3.heap.size:=by omega
 have ba:=oK aC;clear aC;have aE:m=nn+2\/m=nn+1\/m<=nn:=by have:=HN.out;omega
 rcases aE with J|J|J
 case' inl =>
  obtain⟨b2,o2,rfl,C⟩:=Z.at (j:=0) (by omega);have e1:=O J;have k1:=W.bnd_at ny.bnd (i:=nn+1) (by rw[HY.out];omega);have k0:=W.bnd_at ny.bnd (i:=nn) (by rw[HY.out];omega);have g1:=C (nn+1) (by omega);have g0:=C nn (by omega);rw[L.out]at g1;have aa:ys.getD (nn+1) 0*2^s<18446744073709551616:=by
   have h1:ys.getD (nn+1) 0*2^s<=Bb:=by rw[e1];exact jU _ _
   omega
  have fA:bits BinOp.or IntKind.u64 ((ys.getD (nn+1) 0*2^s:Nat):Int) ((ys.getD nn 0/2^(64-s):Nat):Int)=(Bb:Int):=by
   rw[mE _ _ aa (by have:=gM (ys.getD nn 0) (2^(64-s));omega),LP hs k0,e1]
  have a0:IntKind.u64.wrap (((ys.getD (nn+1) 0:Nat):Int)*2^s)=((ys.getD (nn+1) 0*2^s:Nat):Int):=Aq (by push_cast;rfl) aa;have N:((ys.getD nn 0:Nat):Int)/2^(64-s)=((ys.getD nn 0/2^(64-s):Nat):Int):=by push_cast;rfl
  rw[L.out]at fA a0;clear e1 aa O Q R;generalize ys.getD nn 0/2^(64-s)=p0 at *
  generalize ys.getD N1 0 * 2^s=p1 at *
  generalize ys.getD N1 0=y1 at *
  generalize ys.getD nn 0=y0 at *
  have X:((m:Int) == (n:Int))=true:=by have:=HN.out;simp;omega
  have aR:((N1:Nat):Int)<(m:Int):=by have:=L.out;omega
  have ac:((nn:Nat):Int)<(m:Int):=by omega
  clear J C;go_wp2
  go_quiet (fail)
  go_upto_region 10 with(fail)
  have a1:=E.drewN nq;have a2:=F.drewN nq;have aD:w.heap.size<(w3.drewN nq).heap.size:=z;generalize w3.drewN nq=w4 at *
  clear g1 g0 fA a0 N X aR ac k0 k1 E F z Z;have E1:Hid True:=oK trivial
 case' inr.inl =>
  obtain⟨b2,o2,rfl,C⟩:=Z.at (j:=0) (by omega);have e1:=Q J;have g0:=C nn (by omega);have N:((ys.getD nn 0:Nat):Int)/2^(64-s)=(Bb:Int):=by rw[e1];push_cast;rfl
  clear e1 O Q R;generalize ys.getD nn 0=y0 at *
  have X:((m:Int) == (n:Int))=false:=by have:=HN.out;simp;omega
  have Y:((m:Int) == ((N1:Nat):Int))=true:=by have:=L.out;simp;omega
  have ac:((nn:Nat):Int)<(m:Int):=by omega
  clear J C
  go_upto_region 10 with(fail)
  have a1:=E;have a2:=F;have aD:=z;clear g0 N X Y ac E F z Z;generalize hw:w3=w4 at *
  clear hw;have E1:Hid True:=oK trivial
 case' inr.inr =>
  have E1:=oK (R J);clear O Q R;have X:((m:Int) == (n:Int))=false:=by have:=HN.out;simp;omega
  have Y:((m:Int) == ((N1:Nat):Int))=false:=by have:=L.out;simp;omega
  clear J
  go_upto_region 10 with(fail)
  have a1:=E;have a2:=F;have aD:=z;clear X Y E F z Z;generalize hw:w3=w4 at *
  clear hw
 all_goals
  go_wp2;refine AM ?_;intro w5 a6 ap aW;have ao:Arr w5 w.heap.size 268 (CF 0 0 0 0 false):=a2.ext a6;have aq:Arr w5 w4.heap.size 268 (CF 0 1 0 0 false):=ap;have al:=a1.trans a6;clear a2 ap a1 a6;generalize I:w4.heap.size=S at *
  have b9:=oK I;clear I aW
  go_loopw[7,8,10,11] (fun fv gv uv vv wr=>∃ (f g u0 u1 u2 v0 t k:Nat) (o:Bool),fv = .int .u64 f/\gv = .int .u64 g/\uv = .int .u64 u2/\vv = .int .u64 k/\Ext w wr/\Arr wr w.heap.size 268 (CF 0 0 0 0 false)/\Arr wr S 268 (CF u0 u1 v0 t o)/\Hid (W.Sim x y A Bb P α β f g u0 u1 u2 v0 t k o)/\(f<18446744073709551616/\g<18446744073709551616)/\(u0<18446744073709551616/\u1<18446744073709551616/\u2<18446744073709551616)/\(v0<18446744073709551616/\t<18446744073709551616/\k<18446744073709551616)) (fun _ gv _ _ _=>(intOf gv).toNat)
  case atStart=>exact⟨A,Bb,0,1,0,0,0,1,false,rfl,by first | rfl | rw[E1.out];rfl,rfl,rfl,al,ao,aq,a8,⟨by omega,by omega⟩,⟨by omega,by omega,by omega⟩,⟨by omega,by omega,by omega⟩⟩
  case round =>
   clear al ao aq a8;obtain⟨f,g,u0,u1,u2,v0,t,k,o,rfl,rfl,rfl,rfl,hE,hR,I,HS,⟨hf,hg⟩,⟨ay,ad,aT⟩,⟨az,ae,aU⟩⟩:=hrel;have b7:=HS.out.leh.v2p;have bc:=HS.out.leh.gf;have af:(v0=0\/∃ p q,W.Steps x y u0 u1 v0 t o p q):=HS.out.good;have K:=oK af;clear af;have s0:=I.c 0 rfl;have s1:=I.c 1 rfl;have s2:=I.c 2 rfl;have s3:=I.c 3 rfl;have s4:=I.c 4 rfl;by_cases H:k<=g
   · obtain⟨k1,k2,k3⟩:=HS.out.bound (by omega);have bk:IntKind.u64.wrap ((t:Int)+k)=((t+k:Nat):Int):=Aq (by push_cast;rfl) (by omega);have b8:IntKind.u64.wrap ((f:Int)-g)=((f-g:Nat):Int):=Aq (by omega) (by omega);have be:(k:Int)<=(g:Int):=by omega
     by_cases C:t+k<=f-g
     · obtain⟨ai,kv,ku,bf⟩:=HS.out.step H C;have bb:((g:Int) == 0)=false:=by simp;omega
       have b5:(f:Int).tdiv g=((f/g:Nat):Int):=by rw[ib (by omega)];push_cast;rfl
       have aX:(f:Int)/g=((f/g:Nat):Int):=by push_cast;rfl
       have b6:(f:Int).tmod g=((f%g:Nat):Int):=by rw[iJ (by omega)];push_cast;rfl
       have aY:(f:Int)%g=((f%g:Nat):Int):=by push_cast;rfl
       have b4:((t+k:Nat):Int)<=((f-g:Nat):Int):=by omega
       have aG:=oK ai;have aS:f/g<=f:=gM _ _;clear ai HS K;generalize f/g=q at *
       generalize f%g=r at *
       have bi:IntKind.u64.wrap (q:Int)=(q:Int):=Aq rfl (by omega);have m1:IntKind.u64.wrap ((q:Int)*u2)=((q*u2:Nat):Int):=Aq (by push_cast;rfl) (by omega);have m2:IntKind.u64.wrap ((q:Int)*k)=((q*k:Nat):Int):=Aq (by push_cast;rfl) (by omega);have m3:IntKind.u64.wrap ((u1:Int)+((q*u2:Nat):Int))=((u1+q*u2:Nat):Int):=Aq (by omega) (by omega);have m4:IntKind.u64.wrap ((t:Int)+((q*k:Nat):Int))=((t+q*k:Nat):Int):=Aq (by omega) (by omega);generalize hU:u1+q * u2=U at *
       generalize hV:t+q * k=V at *
       generalize q * u2=qu at *
       generalize q * k=qv at *
       generalize t+k=vs at *
       generalize f-g=fg at *
       clear hU hV aS;go_wp2
       go_quiet (fail)
       have G:=I.drewN nq;have aM:=hR.drewN nq;have aK:=hE.drewN nq;have t0:(wr.drewN nq).cell? ⟨S,0,none⟩=_:=s0;have t1:(wr.drewN nq).cell? ⟨S,1,none⟩=_:=s1;have t2:(wr.drewN nq).cell? ⟨S,2,none⟩=_:=s2;have t3:(wr.drewN nq).cell? ⟨S,3,none⟩=_:=s3;have t4:(wr.drewN nq).cell? ⟨S,4,none⟩=_:=s4;generalize wr.drewN nq=wq at *
       clear s0 s1 s2 s3 s4 I hR hE;have aN:=((((G.set 0 (.int .u64 u1)).set 1 (.int .u64 u2)).set 2 (.int .u64 t)).set 3 (.int .u64 k)).set 4 (.bool (!o));have aL:=((((aM.far (p:=⟨S,0,none⟩) (by show w.heap.size≠S;omega) (.int .u64 u1)).far (p:=⟨S,1,none⟩) (by show w.heap.size≠S;omega) (.int .u64 u2)).far (p:=⟨S,2,none⟩) (by show w.heap.size≠S;omega) (.int .u64 t)).far (p:=⟨S,3,none⟩) (by show w.heap.size≠S;omega) (.int .u64 k)).far (p:=⟨S,4,none⟩) (by show w.heap.size≠S;omega) (.bool (!o))
       have aJ:=((((aK.setCell (p:=⟨S,0,none⟩) (by show w.heap.size<=S;omega) (.int .u64 u1)).setCell (p:=⟨S,1,none⟩) (by show w.heap.size<=S;omega) (.int .u64 u2)).setCell (p:=⟨S,2,none⟩) (by show w.heap.size<=S;omega) (.int .u64 t)).setCell (p:=⟨S,3,none⟩) (by show w.heap.size<=S;omega) (.int .u64 k)).setCell (p:=⟨S,4,none⟩) (by show w.heap.size<=S;omega) (.bool (!o));have z0:=G.frozen 0;have z1:=G.frozen 1;have z2:=G.frozen 2;have z3:=G.frozen 3;have z4:=G.frozen 4;go_wp2;go_roundw
       case rel=>exact⟨g,r,u1,u2,U,t,k,V,!o,rfl,rfl,rfl,rfl,aJ,aL,aN,aG,⟨hg,by omega⟩,⟨ad,aT,by omega⟩,⟨ae,aU,by omega⟩⟩
       case measure=>simp[intOf];omega
     · have aP:¬ (((t+k:Nat):Int)<=((f-g:Nat):Int)):=by omega
       have aF:((f-g:Nat):Int)<((t+k:Nat):Int):=by omega
       have b3:decide (t+k<=f-g)=false:=by simp;omega
       generalize t+k=vs at *
       generalize f-g=fg at *
       clear C HS
       go_upto_region 19 with(fail)
       go_wp2_with(first
        | (refine EM rfl rfl Cv rfl I ?_)
        | (refine Aa rfl rfl rfl rfl rfl Cv hR rfl (Ex _ _ _ _ _) ?_;intro w9 a4 ab))
       refine oM (v := .agg (CF u0 u1 v0 t o).toArray) (Ai rfl Cv rfl a4) rfl ⟨u0,u1,v0,t,o,rfl,hE.grownR ab (lrf _),ay,ad,az,ae,K.out⟩
   · have aP:¬ ((k:Int)<=(g:Int)):=by omega
     have aF:(g:Int)<(k:Int):=by omega
     clear H HS
     go_upto_region 19 with(fail)
     go_wp2_with(first
      | (refine EM rfl rfl Cv rfl I ?_)
      | (refine Aa rfl rfl rfl rfl rfl Cv hR rfl (Ex _ _ _ _ _) ?_;intro w9 a4 ab))
     refine oM (v := .agg (CF u0 u1 v0 t o).toArray) (Ai rfl Cv rfl a4) rfl ⟨u0,u1,v0,t,o,rfl,hE.grownR ab (lrf _),ay,ad,az,ae,K.out⟩
theorem Own.upto{cs:List Value}(h:Own w base e a n c cs){k:Nat}(r:k<=n):Own w base e a k c (cs.take k):=by
 have s:=h.len;refine⟨by simp;omega,?_⟩;rcases h.2 with⟨b,h0⟩|⟨g,d,f,b,j,l,o,m,p,q⟩
 · subst h0;have i:k=0:=by omega
   subst i;simp only[pk]at b;exact Or.inl ⟨by rw[b.1,b.2.2],rfl⟩
 · simp only[pk]at b;refine Or.inr ⟨g,d,f,by rw[b.1,b.2.2],j,l,by omega,m,p,?_⟩;rw[<-q,nA];congr 1;omega
theorem Av.upto{k:IntKind}{w:World}{base:Nat}{e:TypeId}{g n c:Nat}{xs:List Nat}(h:Av k w base e g n c xs){m:Nat}(a:m<=n):Av k w base e g m c (xs.take m):=by
 have:=Own.upto h a;rw[<-oB]at this;exact this
def VR(x y c:Nat)(w:World)(e:Ending)(w':World):Prop:=∃ l h:Nat,e = .returned (.tuple #[.int .u64 l,.int .u64 h])/\w=w'/\l<18446744073709551616/\h<18446744073709551616/\l+18446744073709551616*h=x*y+c
theorem BQ(r:x<18446744073709551616)(s:y<18446744073709551616)(t:c<18446744073709551616) :
 Calls prog 290 #[.int .u64 x,.int .u64 y,.int .u64 c] w (VR x y c w):=by
 have p:=Iz r s;have hp:x*y<=18446744073709551615*18446744073709551615:=iu (by omega) (by omega);have i:Hid (x*y%18446744073709551616+18446744073709551616*(x*y/18446744073709551616)=x*y):=oK (jR _ _);have z:x*y%18446744073709551616<18446744073709551616:=gE _ (by omega);have v:x*y/18446744073709551616<=18446744073709551614:=by omega
 generalize x * y/18446744073709551616=d at *
 generalize x * y%18446744073709551616=a at *
 have k:∀ f:World,(callFunc 300 #[.int .u64 (a:Int),.int .u64 (c:Int),.int .u64 0]).run prog f = .ok (.value (.tuple #[.int .u64 (((a+c+0)%18446744073709551616:Nat):Int),.int .u64 (((a+c+0)/18446744073709551616:Nat):Int)])) f:=fun f=>Ca a c 0 (by omega) f;have j:Hid ((a+c+0)%18446744073709551616+18446744073709551616*((a+c+0)/18446744073709551616)=a+c):=oK (jR _ _);have q:(a+c+0)%18446744073709551616<18446744073709551616:=gE _ (by omega);have n:(a+c+0)/18446744073709551616<=1:=by omega
 generalize (a+c+0)%18446744073709551616=l at *
 generalize (a+c+0)/18446744073709551616=b at *
 have A:IntKind.u64.wrap ((d:Int)+(b:Int))=((d+b:Nat):Int):=Aq (by omega) (by omega);have m:Hid (l+18446744073709551616*(d+b)=x*y+c):=by show _=_;have h1:=i.out;have h2:=j.out;omega
 have o:d+b<18446744073709551616:=by omega
 generalize d+b=g at *
 clear i j hp
 go_enter func290,ntmps290
 go_wp2_with fail
 refine(p _).mono ?_;rintro e B ⟨rfl,rfl⟩;go_wp2
 go_ret2
 exact⟨l,g,rfl,rfl,q,o,m.out⟩
theorem Gs{u v c1 c2 c1' c2':Nat}(a:k<zs.length)(g:k<xs.length)(i:k<ys.length)(h:W.val B (zs.take k)+u*W.val B (xs.take k)+c1*B^k=v*W.val B (ys.take k)+c2*B^k)(e:d+xs.getD k 0*u+c2+B*c1'=ys.getD k 0*v+c1+B*c2') :
 W.val B ((zs.set k d).take (k+1))+u*W.val B (xs.take (k+1))+c1'*B^(k+1)=v*W.val B (ys.take (k+1))+c2'*B^(k+1):=by
 have h1:=W.comb_step h e;have b:W.val B ((zs.set k d).take (k+1))=W.val B (zs.take k)+B^k*d:=by
  rw[W.val_take_succ (by simpa using a)];congr 1
  · rw[mh (lrf _)]
  · simp[a]
 rw[b,W.val_take_succ g,W.val_take_succ i,gG];have c:u*(W.val B (xs.take k)+B^k*xs.getD k 0)=u*W.val B (xs.take k)+B^k*(xs.getD k 0*u):=by grind
 have f:v*(W.val B (ys.take k)+B^k*ys.getD k 0)=v*W.val B (ys.take k)+B^k*(ys.getD k 0*v):=by grind
 rw[c,f];exact h1
theorem D0(h:zs.drop k=xs.drop k):(zs.set k d).drop (k+1)=xs.drop (k+1):=by
 rw[List.drop_set_of_lt (by omega),<-nB,<-nB,h]
theorem Ey(h:zs.drop k=xs.drop k):zs.getD k 0=xs.getD k 0:=by
 have:=gR (fun l:List Nat=>l.getD 0 0) h;simpa using this
def Wm(wb:World)(ga n ca gb cb p q:Nat)(e:Ending)(w':World):Prop :=
 e = .returned (.tuple #[])/\Ext wb w'/\∃ zs ts,Av .u64 w' wb.heap.size 238 ga n ca zs/\Av .u64 w' wb.heap.size 238 gb n cb ts/\W.bnd 18446744073709551616 zs/\W.bnd 18446744073709551616 ts/\W.val 18446744073709551616 zs=p/\W.val 18446744073709551616 ts=q
theorem KU{g m ca cb u0 u1 V v1 p q:Nat}(ah:Ext wb w)(hx:Av .u64 w wb.heap.size 238 g n ca xs)(hy:Av .u64 w wb.heap.size 238 m n cb ys)(aT:g≠m)(bx:W.bnd 18446744073709551616 xs)(a1:W.bnd 18446744073709551616 ys)(vx:W.val 18446744073709551616 xs=x)(vy:W.val 18446744073709551616 ys=y)(aF:u0<18446744073709551616)(aG:u1<18446744073709551616)(aH:V<18446744073709551616)(aI:v1<18446744073709551616)(al:W.Steps x y u0 u1 V v1 odd p q)(hn:n<=1000000) :
 Calls prog 241 #[.agg (CF u0 u1 V v1 odd).toArray,.slice (some ⟨g,0,none⟩) n ca,.slice (some ⟨m,0,none⟩) n cb] w (Wm wb g n ca m cb p q):=by
 have HX:=oK hx.len;have HY:=oK hy.len;have ag:=oK vx;have a0:=oK vy;have K:=oK al;have BX:=oK bx;have BY:=oK a1;have aM:=hx.lt;have aN:=hy.lt;have ae:=hx.lo;have af:=hy.lo;clear vx vy al
 go_enter func241,ntmps241
 go_upto_region 1 with(fail)
 refine AM ?_;intro w1 R aj aJ;have ak:Arr w1 w.heap.size 268 (CF u0 u1 V v1 odd):=aj;have an:=hx.ext R;have ap:=hy.ext R;have ai:=ah.trans R;generalize ay:w.heap.size=S at *
 clear aj hx hy ah R aJ ay;go_wp2
 go_loopw[6,7,8,9,10,11,21] (fun a6 a7 a8 a9 aw ax iv wr=>∃ (k cP cQ cR cT b f:Nat) (zs j:List Nat),a6 = .int .u64 cP/\a7 = .int .u64 cQ/\a8 = .int .u64 cR/\a9 = .int .u64 cT/\aw = .int .u64 b/\ax = .int .u64 f/\iv = .int .i64 k/\k<=n/\(cP<18446744073709551616/\cQ<18446744073709551616/\cR<18446744073709551616/\cT<18446744073709551616)/\b<=1/\f<=1/\Ext wb wr/\Arr wr S 268 (CF u0 u1 V v1 odd)/\Av .u64 wr wb.heap.size 238 g n ca zs/\Av .u64 wr wb.heap.size 238 m n cb j/\W.bnd 18446744073709551616 zs/\W.bnd 18446744073709551616 j/\Hid (zs.drop k=xs.drop k)/\Hid (j.drop k=ys.drop k)/\Hid (if odd=true then W.val 18446744073709551616 (zs.take k)+V*W.val 18446744073709551616 (ys.take k)+cP*18446744073709551616^k=u0*W.val 18446744073709551616 (xs.take k)+(cQ+b)*18446744073709551616^k else W.val 18446744073709551616 (zs.take k)+u0*W.val 18446744073709551616 (xs.take k)+cQ*18446744073709551616^k=V*W.val 18446744073709551616 (ys.take k)+(cP+b)*18446744073709551616^k)/\Hid (if odd=true then W.val 18446744073709551616 (j.take k)+u1*W.val 18446744073709551616 (xs.take k)+cR*18446744073709551616^k=v1*W.val 18446744073709551616 (ys.take k)+(cT+f)*18446744073709551616^k else W.val 18446744073709551616 (j.take k)+v1*W.val 18446744073709551616 (ys.take k)+cT*18446744073709551616^k=u1*W.val 18446744073709551616 (xs.take k)+(cR+f)*18446744073709551616^k)) (fun _ _ _ _ _ _ iv _=>n-(intOf iv).toNat)
 case atStart=>exact⟨0,0,0,0,0,0,0,xs,ys,rfl,rfl,rfl,rfl,rfl,rfl,rfl,oY _,⟨by omega,by omega,by omega,by omega⟩,by omega,by omega,ai,ak,an,ap,bx,a1,oK rfl,oK rfl,oK (by simp[W.val]),oK (by simp[W.val])⟩
 case round =>
  clear ai ak an ap bx a1;obtain⟨k,cP,cQ,cR,cT,b,f,zs,j,rfl,rfl,rfl,rfl,rfl,rfl,rfl,hk,⟨az,aA,aB,aC⟩,T,U,hE,hS,J,I,bz,bt,DZ,DT,H1,H2⟩:=hrel;have aK:S≠g:=by omega
  have aL:S≠m:=by omega
  by_cases a:k<n
  · have c1:=J.cell (i:=k) a;have c2:=I.cell (i:=k) a;have f1:=J.frozen k;have f2:=I.frozen k;have s0:=hS.c 0 rfl;have s1:=hS.c 1 rfl;have s2:=hS.c 2 rfl;have s3:=hS.c 3 rfl;have s4:=hS.c 4 rfl;have b1:=W.bnd_at bz (i:=k) (by rw[J.len];exact a);have b2:=W.bnd_at bt (i:=k) (by rw[I.len];exact a);have ao:zs.getD k 0=xs.getD k 0:=Ey DZ.out;have aq:j.getD k 0=ys.getD k 0:=Ey DT.out;have L:=oK ao;have M:=oK aq;clear ao aq;generalize zs.getD k 0=xk at *
    generalize j.getD k 0=yk at *
    have aO:(k:Int)<n:=by omega
    go_wp2_with fail
    refine(BQ b1 aF az).mono ?_;rintro e w2 ⟨r,N,rfl,rfl,aP,X,E⟩;have E1:=oK E;clear E
    go_wp2_with fail
    refine(BQ b2 aH aA).mono ?_;rintro e w2 ⟨s,O,rfl,rfl,aQ,Y,E⟩;have E2:=oK E;clear E
    go_wp2_with fail
    refine(BQ b2 aI aB).mono ?_;rintro e w2 ⟨t,P,rfl,rfl,aR,Z,E⟩;have E3:=oK E;clear E
    go_wp2_with fail
    refine(BQ b1 aG aC).mono ?_;rintro e w2 ⟨z,Q,rfl,rfl,aS,ad,E⟩;have E4:=oK E;clear E;cases odd with
    | true =>
     have au:=CM r s b T;have av:=CM t z f U;have d1:=Rc (x:=r) (y:=s) (c:=b) (by omega) (by omega) T;have d2:=Rc (x:=t) (y:=z) (c:=f) (by omega) (by omega) U;have q1:(r+18446744073709551616-s-b)%18446744073709551616<18446744073709551616:=gE _ (by omega);have q2:(t+18446744073709551616-z-f)%18446744073709551616<18446744073709551616:=gE _ (by omega);have r1:=PY (x:=r) (y:=s) (c:=b);have r2:=PY (x:=t) (y:=z) (c:=f);generalize (r+18446744073709551616-s-b)%18446744073709551616=l at *
     generalize (t+18446744073709551616-z-f)%18446744073709551616=o at *
     generalize (if r<s+b then 1 else 0)=D at *
     generalize (if t<z+f then 1 else 0)=H at *
     have a2:=J.set k l;have a3:=(I.kept (Am wr g k (.int .u64 (l:Int))) (by simp;omega)).set k o;have a4:=a2.kept (Am (wr.setCell ⟨g,k,none⟩ (.int .u64 (l:Int))) m k (.int .u64 (o:Int))) (by simp;omega);have a5:=(hS.far (p:=⟨g,k,none⟩) (by show S≠g;omega) (.int .u64 (l:Int))).far (p:=⟨m,k,none⟩) (by show S≠m;omega) (.int .u64 (o:Int));have aa:=(hE.setCell (p:=⟨g,k,none⟩) ae (.int .u64 (l:Int))).setCell (p:=⟨m,k,none⟩) af (.int .u64 (o:Int))
     have A:=oK (Gs (B:=18446744073709551616) (zs:=zs) (xs:=ys) (ys:=xs) (k:=k) (d:=l) (u:=V) (v:=u0) (c1:=cP) (c2:=cQ+b) (c1':=N) (c2':=O+D) (by rw[J.len];exact a) (by rw[HY.out];exact a) (by rw[HX.out];exact a) (by have:=H1.out;rw[pq rfl]at this;exact this) (by rw[<-L.out,<-M.out];have:=E1.out;have:=E2.out;omega))
     have C:=oK (Gs (B:=18446744073709551616) (zs:=j) (xs:=xs) (ys:=ys) (k:=k) (d:=o) (u:=u1) (v:=v1) (c1:=cR) (c2:=cT+f) (c1':=P) (c2':=Q+H) (by rw[I.len];exact a) (by rw[HX.out];exact a) (by rw[HY.out];exact a) (by have:=H2.out;rw[pq rfl]at this;exact this) (by rw[<-L.out,<-M.out];have:=E3.out;have:=E4.out;omega));clear d1 d2 E1 E2 E3 E4 H1 H2;go_wp2;go_roundw
     case rel=>exact⟨k+1,N,O,P,Q,D,H,zs.set k l,j.set k o,rfl,rfl,rfl,rfl,rfl,rfl,by go_num,by omega,⟨X,Y,Z,ad⟩,r1,r2,aa,a5,a4,a3,W.bnd_set bz q1,W.bnd_set bt q2,oK (D0 DZ.out),oK (D0 DT.out),oK (by first | exact A.out | (rw[pq rfl];exact A.out)),oK (by first | exact C.out | (rw[pq rfl];exact C.out))⟩
     case measure=>simp[intOf];omega
    | false =>
     have au:=CM s r b T;have av:=CM z t f U;have d1:=Rc (x:=s) (y:=r) (c:=b) (by omega) (by omega) T;have d2:=Rc (x:=z) (y:=t) (c:=f) (by omega) (by omega) U;have q1:(s+18446744073709551616-r-b)%18446744073709551616<18446744073709551616:=gE _ (by omega);have q2:(z+18446744073709551616-t-f)%18446744073709551616<18446744073709551616:=gE _ (by omega);have r1:=PY (x:=s) (y:=r) (c:=b);have r2:=PY (x:=z) (y:=t) (c:=f);generalize (s+18446744073709551616-r-b)%18446744073709551616=l at *
     generalize (z+18446744073709551616-t-f)%18446744073709551616=o at *
     generalize (if s<r+b then 1 else 0)=D at *
     generalize (if z<t+f then 1 else 0)=H at *
     have a2:=J.set k l;have a3:=(I.kept (Am wr g k (.int .u64 (l:Int))) (by simp;omega)).set k o;have a4:=a2.kept (Am (wr.setCell ⟨g,k,none⟩ (.int .u64 (l:Int))) m k (.int .u64 (o:Int))) (by simp;omega);have a5:=(hS.far (p:=⟨g,k,none⟩) (by show S≠g;omega) (.int .u64 (l:Int))).far (p:=⟨m,k,none⟩) (by show S≠m;omega) (.int .u64 (o:Int));have aa:=(hE.setCell (p:=⟨g,k,none⟩) ae (.int .u64 (l:Int))).setCell (p:=⟨m,k,none⟩) af (.int .u64 (o:Int))
     have A:=oK (Gs (B:=18446744073709551616) (zs:=zs) (xs:=xs) (ys:=ys) (k:=k) (d:=l) (u:=u0) (v:=V) (c1:=cQ) (c2:=cP+b) (c1':=O) (c2':=N+D) (by rw[J.len];exact a) (by rw[HX.out];exact a) (by rw[HY.out];exact a) (by have:=H1.out;rw[pf (by simp)]at this;exact this) (by rw[<-L.out,<-M.out];have:=E1.out;have:=E2.out;omega))
     have C:=oK (Gs (B:=18446744073709551616) (zs:=j) (xs:=ys) (ys:=xs) (k:=k) (d:=o) (u:=v1) (v:=u1) (c1:=cT) (c2:=cR+f) (c1':=Q) (c2':=P+H) (by rw[I.len];exact a) (by rw[HY.out];exact a) (by rw[HX.out];exact a) (by have:=H2.out;rw[pf (by simp)]at this;exact this) (by rw[<-L.out,<-M.out];have:=E3.out;have:=E4.out;omega));clear d1 d2 E1 E2 E3 E4 H1 H2;go_wp2;go_roundw
     case rel=>exact⟨k+1,N,O,P,Q,D,H,zs.set k l,j.set k o,rfl,rfl,rfl,rfl,rfl,rfl,by go_num,by omega,⟨X,Y,Z,ad⟩,r1,r2,aa,a5,a4,a3,W.bnd_set bz q1,W.bnd_set bt q2,oK (D0 DZ.out),oK (D0 DT.out),oK (by first | exact A.out | (rw[pf (by simp)];exact A.out)),oK (by first | exact C.out | (rw[pf (by simp)];exact C.out))⟩
     case measure=>simp[intOf];omega
  · have ek:k=n:=by omega
    have ar:zs.take k=zs:=oL (by rw[J.len];omega);have am:j.take k=j:=oL (by rw[I.len];omega);have ab:xs.take k=xs:=oL (by rw[HX.out];omega);have ac:ys.take k=ys:=oL (by rw[HY.out];omega);have h1:=H1.out;have h2:=H2.out;rw[ar,ab,ac,ag.out,a0.out,ek]at h1;rw[am,ab,ac,ag.out,a0.out,ek]at h2;have l1:=W.val_lt bz;have l2:=W.val_lt bt;have l3:=W.val_lt BY.out;rw[J.len]at l1;rw[I.len]at l2;rw[HY.out,a0.out]at l3;have aD:=K.out.le;have aE:=K.out.lt;have F:=K.out.ep
    have G:=K.out.eq;have HF:Hid (W.val 18446744073709551616 zs=p/\W.val 18446744073709551616 j=q):=by
     show _/\_;cases odd with
     | true =>
      rw[pq rfl]at h1 h2 F G;exact⟨W.comb_end h1 F l1 (by omega),W.comb_end h2 G l2 (by omega)⟩
     | false =>
      rw[pf (by simp)]at h1 h2 F G;exact⟨W.comb_end h1 F l1 (by omega),W.comb_end h2 G l2 (by omega)⟩
    clear h1 h2 F G l1 l2 l3 ar am ab ac ek aD aE;go_wp2
    go_end0
    exact⟨rfl,hE,zs,j,J,I,bz,bt,HF.out.1,HF.out.2⟩
theorem G8(i:SlN .u64 w a n c xs)(e:SlN .u64 w b m d ys)(j:Num 18446744073709551616 xs x)(f:Num 18446744073709551616 ys y)(p:n<=100000)(h0:0<y) :
 Calls prog 289 #[.slice a n c,.slice b m d] w (FP a .u64 18446744073709551616 w (x/y) (x%y)):=by
 by_cases g:x<y
 · exact Ew i e j f g
 · have l:=e.len;rcases gQ m 2 with h2|h2
   · have o:m=1:=by
      rcases oV m with h|h
      · subst h;have:ys=[]:=oX l;have k:=f.val;rw[this]at k;simp only[W.val]at k;omega
      · omega
     subst o;exact EJ i e j f (by omega) (by omega) h0
   · exact EK i e j f p (by omega) (mm:=m-2) (by omega)
theorem D4(t:SlN .u64 w a n c xs)(v:SlN .u64 w b m d ys)(z:Num 18446744073709551616 xs x)(A:Num 18446744073709551616 ys y)(s:n<=100000)(D:m<=100000)(h0:0<y)(C:m<80\/n<m+80) :
 Calls prog 240 #[.slice a n c,.slice b m d] w (FP a .u64 18446744073709551616 w (x/y) (x%y)):=by
 have r:=G8 t v z A s h0;have q:=oK r;clear r;have E:IntKind.i64.wrap ((n:Int)-m)=(n:Int)-m:=oP _ (by omega);by_cases h1:m<80
 · have h2:¬ ((80:Int)<=(m:Int)):=by omega
   go_enter func240,ntmps240
   go_wp2_with fail
   refine q.out.mono ?_;rintro e B ⟨i,o,k,f,j,p,l,g,rfl,h⟩;have H:=oK h;clear h;go_wp2
   go_ret2
   exact⟨i,o,k,f,j,p,l,g,rfl,H.out⟩
 · have h2:(80:Int)<=(m:Int):=by omega
   have h3:¬ ((80:Int)<=(n:Int)-m):=by omega
   go_enter func240,ntmps240
   go_wp2_with fail
   refine q.out.mono ?_;rintro e B ⟨i,o,k,f,j,p,l,g,rfl,h⟩;have H:=oK h;clear h;go_wp2
   go_ret2
   exact⟨i,o,k,f,j,p,l,g,rfl,H.out⟩
theorem C7(i:SlN .u64 w a n c xs)(j:SlN .u64 w b m d ys)(k:Num 18446744073709551616 xs x)(l:Num 18446744073709551616 ys y)(g:n<=100000)(f:m<=100000)(h0:0<y)(e:m<80\/n<m+80) :
 Calls prog 240 #[.slice a n c,.slice b m d] w (Ui .u64 18446744073709551616 w (x/y) (x%y)) :=
 (D4 i j k l g f h0 e).mono fun _ _ h=>h.q
def Sg(w:World)(n:Nat)(xs:List Nat)(e:Ending)(w':World):Prop:=∃ a' c',e = .returned (.slice a' n c')/\Ext w w'/\Own w' w.heap.size 238 a' n c' (xs.map (Bt .u64))
theorem Cn(i:SlN .u64 w a n c xs)(y:n<=1000000) :
 Calls prog 238 #[.slice a n c] w (Sg w n xs):=by
 rcases oV n with h0|h0
 · subst h0;have j:xs=[]:=oX i.len;subst j;have v:=fun m:World=>Lib.run_eql_slice_nil (P:=prog) m 81 238 a 0 c 0 0 underlying81;cases a with
   | none =>
    go_enter func238,ntmps238
    go_wp2;go_ret;exact⟨none,0,rfl,Ext.refl w,Own.nil _ _ _⟩
   | some p =>
    go_enter func238,ntmps238
    go_upto_region 3 with(fail)
    have l:Ext w (w.alloc (.cells #[] 238)):=(Ext.refl w).alloc _;have b:=Ay w w.heap.size 238 #[] 0 rfl (lrf _) (by omega)
    go_wp2_with(refine BB (news:=[]) rfl rfl underlying81 AF rfl rfl b rfl (i.ext l) (by simp) (by unfold maxLen;omega) (by omega) (by simp) ?_;intro o r z d f t)
    go_ret;exact⟨o,r,rfl,l.grown f (fun k x=>(b.lt x).1),d⟩
 · refine(Sa i y h0).mono ?_;rintro e m ⟨g,q,rfl,s,b⟩;exact⟨_,q,rfl,s,b⟩
end Go.Proofs.YtlbmnokpiilfpaaGreatDoor
