/- Part Pj2. -/
import Derived.Test.YtpkijbkpjhpfmaaGreatDoorPj1
import Derived.WalkKit
set_option linter.all false
set_option maxRecDepth 100000
set_option maxHeartbeats 100000000
namespace Go.Proofs.YtpkijbkpjhpfmaaGreatDoor
open Go Go.RowKit
def gH:=@Nat.mul_le_mul_right
def gP:=@Nat.lt_of_lt_of_le
def gR:=@Nat.pow_le_pow_right
def iH:=@Nat.pow_succ
def iX:=@Addr.mk.injEq
def ia:=@Nat.le_trans
def ib:=@Nat.mul_comm
def ic:=@List.take_succ_eq_append_getElem
def ie:=@Classical.byContradiction
def il:=@Nat.mul_le_mul_left
def ip:=@List.length_take
def j6:=@List.getElem_mem
def j7:=@List.cons_append
def jN:=@List.take_append_drop
def jU:=@Nat.pow_pos
def jV:=@List.mem_or_eq_of_mem_set
def jZ:=@Nat.add_sub_cancel
def jf:=@Nat.add_mul
def ji:=@Int.mul_le_mul_of_nonneg_right
def jr:=@and_true
def ju:=@Int.mul_le_mul_of_nonneg_left
def jw:=@List.mem_of_mem_take
def kV:=@Int.mul_nonneg
def km:=@Nat.mul_assoc
def ko:=@List.getLast_eq_getElem
def lf:=@true_and
def m6:=@List.mem_of_mem_drop
def mN:=@List.take_length
def mi:=@List.replicate_succ
def mo:=@List.getD_cons_succ
def ms:=@List.map_set
def mw:=@List.map_replicate
def nQ:=@Int.le_trans
def nT:=@List.dropLast_concat_getLast
def oE:=@Nat.div_mul_le_self
def oy:=@List.map_take
end Go.Proofs.YtpkijbkpjhpfmaaGreatDoor
namespace Go.Proofs.YtpkijbkpjhpfmaaGreatDoor.W
variable {A Bb P a f u1 u2 v1 v2 α β:Int} {l xs ys:List Nat} {B D U V W b c c' d2 g i k lo lo' q r s u w3 x y0 y1:Nat}
def val(B:Nat):List Nat->Nat
| []=>0
| x::r=>x+B*val B r
def bnd(B:Nat)(xs:List Nat):Prop:=∀x∈xs,x<B
def nrm(xs:List Nat):Prop:=∀h:xs≠[],xs.getLast h≠0
theorem val_app(B:Nat):∀a b:List Nat,val B (a++b)=val B a+B^a.length*val B b
|[],b=>by simp[val]
|x::a,b=>by simp only[j7,val,val_app B a b,ig,iH];grind
theorem val_snoc(B:Nat)(xs:List Nat)(x:Nat):val B (xs++[x])=val B xs+B^xs.length*x:=by rw[val_app];simp[val]
theorem val_zeros(B:Nat):∀n,val B (List.replicate n 0)=0
|0=>rfl
|n+1=>by simp[mi,val,val_zeros B n]
theorem val_lt{B:Nat}:∀{xs:List Nat},bnd B xs->val B xs<B^xs.length
|[],_=>by simp[val]
|x::xs,h=>by have h1:x<B:=h x (by simp);have h2:=val_lt (xs:=xs) (fun y a=>h y (by simp[a]));simp only[val,ig,iH];have:B*(val B xs+1)<=B*B^xs.length:=il _ h2;grind
theorem val_set{B:Nat}:∀{xs:List Nat} {i:Nat} {v:Nat},i<xs.length->val B (xs.set i v)+B^i*xs.getD i 0=val B xs+B^i*v
|[],_,_,h=>by simp at h
|x::xs,0,v,_=>by simp[val];omega
|x::xs,i+1,v,h=>by have:=val_set (B:=B) (xs:=xs) (i:=i) (v:=v) (by simpa using h);simp only[kY,val,mo,iH];grind
theorem bnd_set(h:bnd B xs){i v:Nat}(a:v<B):bnd B (xs.set i v):=by intro x b;rcases jV b with h1|h1;{exact h x h1};rw[h1];exact a
theorem bnd_at(h:bnd B xs){i:Nat}(hi:i<xs.length):xs.getD i 0<B:=by rw[gqq,gG hi];exact h _ (j6 hi)
theorem bnd_app(h:bnd B xs)(k:bnd B ys):bnd B (xs++ys):=by intro x a;rcases List.mem_append.1 a with h1|h1;{exact h x h1};exact k x h1
theorem bnd_take(h:bnd B xs)(n:Nat):bnd B (xs.take n):=fun x a=>h x (jw a)
theorem bnd_drop(h:bnd B xs)(n:Nat):bnd B (xs.drop n):=fun x a=>h x (m6 a)
theorem val_take_succ(hi:i<xs.length):val B (xs.take (i+1))=val B (xs.take i)+B^i*xs.getD i 0:=by rw[ic hi,val_snoc,ip,jH (by omega),gqq,gG hi];rfl
theorem val_split(xs:List Nat)(n:Nat)(h:n<=xs.length):val B xs=val B (xs.take n)+B^n*val B (xs.drop n):=by (conv=>lhs;rw[<-jN n xs]);rw[val_app,ip,jH h]
def trimTo(xs:List Nat):Nat->List Nat
| 0=>[]
| n+1=>if xs.getD n 0=0 then trimTo xs n else xs.take (n+1)
def trim(xs:List Nat):List Nat:=trimTo xs xs.length
theorem Ip{B:Nat}{xs:List Nat}:∀{n:Nat},n<=xs.length->val B (trimTo xs n)=val B (xs.take n)
|0,_=>by simp[trimTo,val]
|n+1,h=>by unfold trimTo;split;{rename_i h0;rw[Ip (by omega),val_take_succ (by omega),h0];simp};rfl
theorem trim_val(xs:List Nat):val B (trim xs)=val B xs:=by rw[trim,Ip (lrf _),mN]
theorem Iq{xs:List Nat}:∀{n:Nat},n<=xs.length->nrm (trimTo xs n)
|0,_=>by intro h;simp[trimTo]at h
|n+1,h=>by unfold trimTo;split;{exact Iq (by omega)};(rename_i h0;intro hne;rw[ko];have hl:(xs.take (n+1)).length=n+1:=by rw[ip];omega);simp only[hl,jZ,List.getElem_take];simpa[gG (show n<xs.length by omega)]using h0
theorem trim_nrm(xs:List Nat):nrm (trim xs):=Iq (lrf _)
theorem trimTo_prefix{xs:List Nat}:∀{n:Nat},n<=xs.length->∃k,k<=n/\trimTo xs n=xs.take k
|0,_=>⟨0,lrf _,by simp[trimTo]⟩
|n+1,h=>by unfold trimTo;split;{obtain⟨k,h1,h2⟩:=trimTo_prefix (xs:=xs) (n:=n) (by omega);exact⟨k,by omega,h2⟩};exact⟨n+1,lrf _,rfl⟩
theorem bnd_trim(h:bnd B xs):bnd B (trim xs):=by obtain⟨k,_,e⟩:=trimTo_prefix (xs:=xs) (n:=xs.length) (lrf _);rw[trim,e];exact bnd_take h k
theorem nrm_pos(_hB:0<B){xs:List Nat}(h:nrm xs)(a:xs≠[]):B^(xs.length-1)<=val B xs:=by (have e:xs=xs.dropLast++[xs.getLast a]:=(nT a).symm;have b:=h a;have h1:val B xs=val B xs.dropLast+B^(xs.length-1)*xs.getLast a:=by (conv=>lhs;rw[e]);rw[val_snoc,List.length_dropLast]);have:B^(xs.length-1)*1<=B^(xs.length-1)*xs.getLast a:=il _ (by omega);omega
theorem nrm_zero(b:0<B){xs:List Nat}(h:nrm xs):val B xs=0<->xs=[]:=by constructor;{intro h0;refine ie fun a=>?_;have:=nrm_pos b h a;have:=jU (n:=xs.length-1) b;omega};rintro rfl;rfl
theorem len_lt(d:1<B){xs ys:List Nat}(b:bnd B xs)(c:nrm ys)(h:xs.length<ys.length):val B xs<val B ys:=by (have h1:=val_lt b;have a:ys≠[]:=by intro e;rw[e]at h;simp at h);have h2:=nrm_pos (B:=B) (by omega) c a;have h3:B^xs.length<=B^(ys.length-1):=gR (by omega) (by omega);omega
theorem nrm_len(b:1<B){xs:List Nat}(h:nrm xs){n:Nat}(c:val B xs<B^n):xs.length<=n:=by rcases ir n xs.length with h1|h1;{(have a:xs≠[]:=by intro e;rw[e]at h1;simp at h1);have h2:=nrm_pos (B:=B) (by omega) h a;have h3:B^n<=B^(xs.length-1):=gR (by omega) (by omega);omega};exact h1
theorem nrm_nil:nrm []:=fun h=>absurd rfl h
theorem nrm_single(h:x≠0):nrm [x]:=fun _=>h
section
variable {B:Nat}
theorem add_step(f:k<l.length)(g:k<ys.length)(h:val B l+c*B^k=V+val B (ys.take k))(e:s+B*c'=l.getD k 0+ys.getD k 0+c):val B (l.set k s)+c'*B^(k+1)=V+val B (ys.take (k+1)):=by have h1:=val_set (B:=B) (xs:=l) (i:=k) (v:=s) f;have h2:=val_take_succ (B:=B) g;rw[h2,iH];generalize l.getD k 0=x at*;generalize ys.getD k 0=y at*;generalize val B (l.set k s)=a at*;generalize val B l=b at*;generalize val B (ys.take k)=d at*;generalize B^k=p at*;grind
theorem add_step0(d:k<l.length)(h:val B l+c*B^k=V)(e:s+B*c'=l.getD k 0+c):val B (l.set k s)+c'*B^(k+1)=V:=by have h1:=val_set (B:=B) (xs:=l) (i:=k) (v:=s) d;rw[iH];generalize l.getD k 0=x at*;generalize val B (l.set k s)=a at*;generalize val B l=b at*;generalize B^k=p at*;grind
theorem sub_step(f:k<l.length)(g:k<ys.length)(h:val B l+val B (ys.take k)=V+c*B^k)(e:s+ys.getD k 0+c=l.getD k 0+B*c'):val B (l.set k s)+val B (ys.take (k+1))=V+c'*B^(k+1):=by have h1:=val_set (B:=B) (xs:=l) (i:=k) (v:=s) f;have h2:=val_take_succ (B:=B) g;rw[h2,iH];generalize l.getD k 0=x at*;generalize ys.getD k 0=y at*;generalize val B (l.set k s)=a at*;generalize val B l=b at*;generalize val B (ys.take k)=d at*;generalize B^k=p at*;grind
theorem sub_step0(d:k<l.length)(h:val B l=V+c*B^k)(e:s+c=l.getD k 0+B*c'):val B (l.set k s)=V+c'*B^(k+1):=by have h1:=val_set (B:=B) (xs:=l) (i:=k) (v:=s) d;rw[iH];generalize l.getD k 0=x at*;generalize val B (l.set k s)=a at*;generalize val B l=b at*;generalize B^k=p at*;grind
theorem digit_hi{P:Nat}(c:W=w3*P+lo)(a:lo<P)(b:D=d2*P+lo')(d:q*D<=W):q*d2<=w3:=by rcases ir w3 (q*d2)with h|h;{(exfalso;have h1:(w3+1)*P<=q*d2*P:=gH _ h;have h2:q*(d2*P)<=q*D:=il _ (by omega);have h3:q*(d2*P)=q*d2*P:=by rw[km]);(have h4:(w3+1)*P=w3*P+P:=by rw[jf];omega);omega};exact h
theorem digit_lo{e P:Nat}(_hP:0<P)(d:W=w3*P+lo)(c:D=d2*P+lo')(b:lo' < P)(f:W<(q+1)*D)(he:e*d2<=w3)(a:q+1<=d2):e<=q+1:=by rcases ir (q+1) e with h|h;{(exfalso;have h1:(q+2)*d2<=e*d2:=gH _ h;have h2:(q+2)*d2*P<=w3*P:=gH _ (by omega);have h3:(q+1)*D<=(q+1)*(d2*P+P):=il _ (by omega);have h4:(q+1)*(d2*P+P)=(q+1)*d2*P+(q+1)*P:=by grind);(have h5:(q+2)*d2*P=(q+1)*d2*P+d2*P:=by grind);have h6:(q+1)*P<=d2*P:=gH _ a;omega};exact h
end
structure Leh(a b A Bb P α β:Int)(f g u1 u2 v1 v2 s:Int):Prop where
 ha:a=A*P+α
 hb:b=Bb*P+β
 a0:0<=α
 a1:α<P
 b0:0<=β
 b1:β<P
 sg:s=1\/s=-1
 f0:0<=f
 g0:0<=g
 gf:g<=f
 ef:f=s*(u1*A-v1*Bb)
 eg:g=-(s*(u2*A-v2*Bb))
 sv:v2*f+v1*g=A
 su:u2*f+u1*g=Bb
 u1n:0<=u1
 u2n:0<=u2
 v1n:0<=v1
 v2p:1<=v2
 uv:u2<=v2
 vv:v1<=v2
theorem Leh.start{b:Int}(i:a=A*P+α)(j:b=Bb*P+β)(d:0<=α)(e:α<P)(b0:0<=β)(f:β<P)(g:0<=Bb)(c:Bb<=A):Leh a b A Bb P α β A Bb 1 0 0 1 1 := ⟨i,j,d,e,b0,f,Or.inl rfl,by omega,g,c,by simp,by simp,by simp,by simp,by omega,by omega,by omega,by omega,by omega,by omega⟩
theorem Leh.sec{b g s:Int}(h:Leh a b A Bb P α β f g u1 u2 v1 v2 s)(m:v2<=g):0 <= -(s*(u2*a-v2*b)):=by (obtain⟨k,l,d,q,i,r,n,_,_,_,_,j,_,_,_,c,_,p,o,_⟩:=h;have e:-(s*(u2*a-v2*b))=g*P-s*(u2*α-v2*β):=by rw[k,l,j];grind);(have v:u2*α<=v2*(P-1):=nQ (ji o d) (ju (by omega) (by omega));have w:v2*β<=v2*(P-1):=ju (by omega) (by omega);have B:0<=u2*α:=kV c d;have C:0<=v2*β:=kV (by omega) i;have D:v2*P<=g*P:=ji m (by omega);have E:v2*(P-1)=v2*P-v2:=by grind);rw[e];generalize u2 * α=x at*;generalize v2 * β=y at*;generalize v2 * P=z at*;generalize g * P=t at*;rcases n with rfl|rfl<;>omega
theorem Leh.gap{b g s:Int}(h:Leh a b A Bb P α β f g u1 u2 v1 v2 s)(q:v1+v2<=f-g)(hu:u1<=v1\/(u1=1/\v1=0/\u2=0/\s=1)):-(s*(u2*a-v2*b))<s*(u1*a-v1*b):=by (obtain⟨k,l,c,C,j,D,r,_,_,_,o,p,_,_,d,e,i,B,w,Q⟩:=h;have m:-(s*(u2*a-v2*b))=g*P-s*(u2*α-v2*β):=by rw[k,l,p];grind);(have n:s*(u1*a-v1*b)=f*P+s*(u1*α-v1*β):=by rw[k,l,o];grind);(have E:(v1+v2)*P<=(f-g)*P:=ji q (by omega);have F:(v1+v2)*P=v1*P+v2*P:=by grind);(have G:(f-g)*P=f*P-g*P:=by grind);(have H:0<=u2*α:=kV e c;have I:0<=v2*β:=kV (by omega) j;have J:0<=u1*α:=kV d c;have K:0<=v1*β:=kV i j;have L:v2*β<=v2*(P-1):=ju (by omega) (by omega);have M:v1*β<=v1*(P-1):=ju (by omega) (by omega);have N:u2*α<=v2*(P-1):=nQ (ji w c) (ju (by omega) (by omega));have R:v2*(P-1)=v2*P-v2:=by grind);(have S:v1*(P-1)=v1*P-v1:=by grind);rw[m,n];rcases hu with hu|⟨rfl,rfl,rfl,rfl⟩;{have O:u1*α<=v1*(P-1):=nQ (ji hu c) (ju (by omega) (by omega));generalize u2 * α=x at*;generalize v2 * β=y at*;generalize u1 * α=T at*;generalize v1 * β=U at*;generalize v2 * P=z at*;generalize v1 * P=V at*;generalize g * P=t at*;generalize f * P=v at*;rcases r with rfl|rfl<;>omega};simp at*;generalize v2 * β=y at*;generalize v2 * P=z at*;generalize g * P=t at*;generalize f * P=v at*;omega
theorem Leh.step{b g s q r:Int}(h:Leh a b A Bb P α β f g u1 u2 v1 v2 s)(E:f=q*g+r)(r0:0<=r)(I:r<g)(p:1<=q)(hu:u1<=v1\/(u1=1/\v1=0/\u2=0/\s=1)):Leh a b A Bb P α β g r u2 (u1+q*u2) v2 (v1+q*v2) (-s):=by (obtain⟨n,o,e,i,j,k,t,C,m,D,l,d,w,v,x,c,z,B,y,J⟩:=h;have F:0<=q*u2:=kV (by omega) c;have G:v2<=q*v2:=by have:=ji p (show 0<=v2 by omega);omega);have H:q*u2<=q*v2:=ju y (by omega);refine⟨n,o,e,i,j,k,by rcases t with rfl|rfl<;>simp,m,r0,by omega,by rw[d];grind,?_,?_,?_,c,by omega,by omega,by omega,?_,by omega⟩;{(have:r=f-q*g:=by omega);rw[this,l,d];grind};{(have:r=f-q*g:=by omega);rw[this,<-w];grind};{(have:r=f-q*g:=by omega);rw[this,<-v];grind};rcases hu with hu|⟨rfl,rfl,rfl,_⟩;{omega};simp;omega
theorem guess_le(h1:b<=2*y1)(h0:y0<b)(a:U<y1*b+y0):U/y1<=b+1:=by rcases ir (b+1) (U/y1)with h|h;{(exfalso;have h2:(b+2)*y1<=U/y1*y1:=gH _ h;have h3:U/y1*y1<=U:=oE _ _;have h4:(b+2)*y1=y1*b+2*y1:=by grind);omega};exact h
theorem guess_hi(a:g*y1+r=U)(d:q*(y1*b+y0)<=U*b+u)(hu:u<b)(c:r<y1):q<=g:=by rcases ir g q with h|h;{(exfalso;have h1:(g+1)*(y1*b+y0)<=q*(y1*b+y0):=gH _ h;have h2:(g+1)*(y1*b+y0)=g*y1*b+y1*b+(g+1)*y0:=by grind);(have h3:U*b=g*y1*b+r*b:=by rw[<-a];grind);(have h4:(r+1)*b<=y1*b:=gH _ c;have h5:(r+1)*b=r*b+b:=by grind);omega};exact h
theorem guess_down(c:g*y1+r=U)(e:q*(y1*b+y0)<=U*b+u)(d:q<b)(a:b<=g\/b*r+u<g*y0):q<g:=by rcases a with a|a;{omega};rcases ir q g with h|h;{exact h};(exfalso;have h1:g*(y1*b+y0)<=q*(y1*b+y0):=gH _ h;have h2:g*(y1*b+y0)=g*y1*b+g*y0:=by grind);(have h3:U*b=g*y1*b+r*b:=by rw[<-c];grind);have h4:b*r=r*b:=ib _ _;omega
theorem guess_done(a:g*y1+r=U)(c:U*b+u<(q+1)*(y1*b+y0))(d:g*y0<=b*r+u):g<=q:=by rcases ir q g with h|h;{(exfalso;have h1:(q+1)*(y1*b+y0)<=g*(y1*b+y0):=gH _ h;have h2:g*(y1*b+y0)=g*y1*b+g*y0:=by grind);(have h3:U*b=g*y1*b+r*b:=by rw[<-a];grind);have h4:b*r=r*b:=ib _ _;omega};exact h
theorem guess_over(c:b<=r)(a:g<=b)(h0:y0<b):g*y0<=b*r+u:=by have h1:g*y0<=b*y0:=gH _ a;have h2:b*y0<=b*r:=il _ (by omega);omega
theorem digit_lt{y:Nat}(a:U<y)(hu:u<b)(c:q*y<=U*b+u):q<b:=by rcases ir q b with h|h;{exact h};(exfalso;have h1:b*y<=q*y:=gH _ h;have h2:(U+1)*b<=y*b:=gH _ a;have h3:(U+1)*b=U*b+b:=by grind);have h4:b*y=y*b:=ib _ _;omega
end Go.Proofs.YtpkijbkpjhpfmaaGreatDoor.W
namespace Go.Proofs.YtpkijbkpjhpfmaaGreatDoor
open Go Go.RowKit
variable {cs:List Value} {base g n:Nat} {row:Option Nat} {e:TypeId} {a b c w w' w0 w1:World}
def Bv(k:IntKind)(x:Nat):Value := .int k (x:Int)
def SlN(k:IntKind)(w:World)(a:Option Addr)(n c:Nat)(xs:List Nat):Prop:=Sl w a n c (xs.map (Bv k))
def BG(k:IntKind)(w:World)(g:Nat)(t:TypeId)(xs:List Nat):Prop:=Arr w g t (xs.map (Bv k))
section
variable {k:IntKind} {w w':World} {a:Option Addr} {n c:Nat} {xs:List Nat}
theorem SlN.ext(h:SlN k w a n c xs)(e:Ext w w'):SlN k w' a n c xs:=Sl.ext h e
theorem SlN.len(h:SlN k w a n c xs):xs.length=n:=by have:=Sl.len h;simpa using this
theorem SlN.le(h:SlN k w a n c xs):n<=9223372036854775807:=by have h1:=Sl.cap h;have h2:=Sl.max h;unfold maxLen at h2;omega
theorem SlN.cap(h:SlN k w a n c xs):n<=c:=Sl.cap h
theorem SlN.nil(k:IntKind)(w:World):SlN k w none 0 0 []:=Sl.nil w
theorem SlN.at(h:SlN k w a n c xs){j:Nat}(m:j<n):∃b d,a=some ⟨b,d,none⟩/\∀i,i<n->w.cell? ⟨b,d+i,none⟩=some (.int k ((xs.getD i 0:Nat):Int)):=by (obtain⟨b,d,f,g⟩:=Sl.rd h (by omega);refine⟨b,d,f,fun i l=>?_⟩;rw[g i l];have o:=h.len;have e:i<xs.length:=by omega);simp[e,Bv]
theorem SlN.upto(h:SlN k w a n c xs){m:Nat}(b:m<=n):SlN k w a m c (xs.take m):=by have:=Sl.upto h b;rwa[<-oy]at this
theorem Sl.keptR(h:Sl w a n c cs)(j:w.grownBy w' row)(d:blk a=none\/blk a≠row):Sl w' a n c cs:=by refine⟨h.len,h.cap,h.max,fun h0=>?_⟩;obtain⟨b,e,rfl,g⟩:=h.rd h0;refine⟨b,e,rfl,fun i k=>?_⟩;have h1:=g i k;have f:b<w.heap.size:=je w ⟨b,e+i,none⟩ h1;rcases d with d|d;{simp[blk]at d};rw[jR (w:=w) (j.block b f d),h1]
theorem SlN.kept(h:SlN k w a n c xs)(d:w.grownBy w' row)(b:blk a=none\/blk a≠row):SlN k w' a n c xs:=Sl.keptR h d b
theorem SlN.fresh(h:SlN k w0 a n c xs){g:Nat}(i:w0.heap.size<=g)(h0:0<n):blk a≠some g:=by obtain⟨b,d,rfl,e⟩:=Sl.rd h h0;have f:b<w0.heap.size:=je w0 ⟨b,d+0,none⟩ (e 0 h0);simp[blk];omega
end
section
variable {k:IntKind} {w w':World} {g:Nat} {t:TypeId} {xs:List Nat}
theorem BG.lt(h:BG k w g t xs):g<w.heap.size:=Arr.lt h
theorem BG.cell(h:BG k w g t xs){i:Nat}(hi:i<xs.length):w.cell? ⟨g,i,none⟩=some (.int k ((xs.getD i 0:Nat):Int)):=by rw[Arr.cell h (by simpa using hi)];simp[hi,Bv]
theorem BG.frozen(h:BG k w g t xs)(i:Nat):w.frozen? ⟨g,i,none⟩=false:=Arr.frozen h i
theorem BG.set(h:BG k w g t xs)(i:Nat)(v:Nat):BG k (w.setCell ⟨g,i,none⟩ (.int k (v:Int))) g t (xs.set i v):=by have:=Arr.set h i (Bv k v);rwa[<-ms]at this
theorem BG.drewN(h:BG k w g t xs)(n:Nat):BG k (w.drewN n) g t xs:=Arr.drewN h n
theorem BG.ext(h:BG k w g t xs)(e:Ext w w'):BG k w' g t xs:=Arr.ext h e
theorem BG.alloc(h:BG k w g t xs)(o:Obj):BG k (w.alloc o) g t xs:=Arr.alloc h o
theorem BG.kept{row:Option Nat}(h:BG k w g t xs)(a:w.grownBy w' row)(b:some g≠row):BG k w' g t xs:=Arr.kept h a b
theorem BG.part(h:BG k w g t xs){o n c:Nat}(e:o+n<=xs.length)(a:n<=c)(d:c<=maxLen):SlN k w (some ⟨g,o,none⟩) n c ((xs.drop o).take n):=by (refine⟨by simp;omega,a,d,fun _=>⟨g,o,rfl,fun i b=>?_⟩⟩;rw[h.cell (i:=o+i) (by omega)];have h1:i<n:=b;have h2:o+i<xs.length:=by omega);simp[h1,h2,Bv]
theorem BG.sl(h:BG k w g t xs){n c:Nat}(d:n<=xs.length)(a:n<=c)(b:c<=maxLen):SlN k w (some ⟨g,0,none⟩) n c (xs.take n):=by have:=h.part (o:=0) (n:=n) (by omega) a b;simpa using this
end
theorem Own.arr(h:Own w base e (some ⟨g,0,none⟩) n n cs):Arr w g e cs:=by have k:=h.len;rcases h.2 with⟨a,_⟩|⟨j,c,b,a,_,d,_,_,f,i⟩;{simp at a};(simp only[gY,gJ,iX,jr,lf]at a;obtain⟨rfl,rfl⟩:=a;unfold Arr;rw[d];have:b.toList=cs:=by rw[<-i];exact(gK (by simp[f])).symm);rw[<-this]
structure Num(B:Nat)(xs:List Nat)(v:Nat):Prop where
 bnd:W.bnd B xs
 nrm:W.nrm xs
 val:W.val B xs=v
theorem Num.nil(B:Nat):Num B [] 0:=⟨fun x a=>(by simp at a),W.nrm_nil,rfl⟩
theorem Num.trim{B:Nat}{xs:List Nat}{v:Nat}(h:W.bnd B xs)(a:W.val B xs=v):Num B (W.trim xs) v:=⟨W.bnd_trim h,W.trim_nrm xs,by rw[W.trim_val];exact a⟩
def Jx(k:IntKind)(B:Nat)(w:World)(v:Nat)(e:Ending)(w':World):Prop:=∃a n c xs,e=.returned (.slice a n c)/\Ext w w'/\SlN k w' a n c xs/\Num B xs v
def AB(k:IntKind)(w:World)(base:Nat)(e:TypeId)(g n c:Nat)(xs:List Nat):Prop:=Own w base e (some ⟨g,0,none⟩) n c (xs.map (Bv k))
section
variable {k:IntKind} {w w':World} {base:Nat} {e:TypeId} {g n c:Nat} {xs:List Nat}
theorem AB.len(h:AB k w base e g n c xs):xs.length=n:=by have:=Own.len h;simpa using this
theorem AB.le(h:AB k w base e g n c xs):n<=9223372036854775807:=by have h1:=Own.cap h;have h2:=(Own.sl h).max;unfold maxLen at h2;omega
theorem AB.lo(h:AB k w base e g n c xs):base<=g:=(Own.lt h (k:=g) rfl).1
theorem AB.lt(h:AB k w base e g n c xs):g<w.heap.size:=(Own.lt h (k:=g) rfl).2
theorem AB.cell(h:AB k w base e g n c xs){i:Nat}(hi:i<n):w.cell? ⟨g,i,none⟩=some (.int k ((xs.getD i 0:Nat):Int)):=by (have b:=h.len;have a:i<xs.length:=by omega);rw[Own.cellAt h hi];simp[a,Bv]
theorem AB.frozen(h:AB k w base e g n c xs)(i:Nat):w.frozen? ⟨g,i,none⟩=false:=Own.frozenAt h i
theorem AB.set(h:AB k w base e g n c xs)(i v:Nat):AB k (w.setCell ⟨g,i,none⟩ (.int k (v:Int))) base e g n c (xs.set i v):=by have:=Own.stored h i (Bv k v);rwa[<-ms]at this
theorem AB.ext(h:AB k w base e g n c xs)(x:Ext w w'):AB k w' base e g n c xs:=Own.ext h x
theorem AB.drewN(h:AB k w base e g n c xs)(m:Nat):AB k (w.drewN m) base e g n c xs:=Own.drewN h m
theorem AB.mono{a:Nat}(h:AB k w base e g n c xs)(b:a<=base):AB k w a e g n c xs:=Own.mono h b
theorem AB.kept{row:Option Nat}(h:AB k w base e g n c xs)(b:w.grownBy w' row)(a:some g≠row):AB k w' base e g n c xs:=Own.kept h b (Or.inr a)
theorem AB.sl(h:AB k w base e g n c xs):SlN k w (some ⟨g,0,none⟩) n c xs:=Own.sl h
theorem AB.of_zeros(h:Own w base e (some ⟨g,0,none⟩) n c (List.replicate n (.int k 0))):AB k w base e g n c (List.replicate n 0):=by unfold AB;rw[mw];exact h
theorem AB.arr(h:AB k w base e g n n xs):BG k w g e xs:=Own.arr h
theorem BG.own(h:BG k w g e xs)(a:base<=g)(b:xs.length<=maxLen):AB k w base e g xs.length xs.length xs:=by refine⟨by simp,Or.inr ⟨g,xs.length,(xs.map (Bv k)).toArray,rfl,a,h,lrf _,b,by simp,?_⟩⟩;rw[jP];exact gK (by simp)
end
theorem BU(w:World)(row:Option Nat):w.grownBy w row:=nF w row
theorem Bg(h:a.grownBy b row)(k:b.grownBy c row):a.grownBy c row := ⟨k.os.trans h.os,k.tape.trans h.tape,k.output.trans h.output,ia h.size k.size,fun i e d=>(k.block i (gP e h.size) d).trans (h.block i e d)⟩
theorem C2(h:a.grownBy b row)(k:Ext b c):a.grownBy c row := ⟨k.os.trans h.os,k.tape.trans h.tape,k.output.trans h.output,ia h.size k.size,fun i e d=>(k.block (gP e h.size)).trans (h.block i e d)⟩
theorem C3(h:a.grownBy b (some g))(j:Nat)(u:Value):a.grownBy (b.setCell ⟨g,j,none⟩ u) (some g):=Bg h (At b g j u)
theorem C6(h:a.grownBy b row)(n:Nat):a.grownBy (b.drewN n) row:=C2 h ((Ext.refl b).drewN n)
theorem Ext.grownR(h:Ext w w1)(a:w1.grownBy w' (some g))(c:w.heap.size<=g):Ext w w':=h.grown a (fun k b=>by simp only[gJ]at b;omega)
end Go.Proofs.YtpkijbkpjhpfmaaGreatDoor
