/- Part Pa1. -/
import Derived.WalkKit
import Derived.Lib.Hide
import Derived.Deep.Draws
import Derived.Maps.AppendAt
import Derived.Deep.AppendLies
import Derived.RegionTactic
import Derived.OwnWalk
import Derived.Laws.Rows
import Derived.Laws.Tables
import Derived.Laws.CopyRow
import Derived.Laws.IdiomCopy
import Derived.Orders
import Derived.StillTail
import Derived.Shelf.Spec.BitsCarry
import Derived.Shelf.Bits.Mul64
import Derived.Shelf.Small.Bits
import Derived.Test.YthdbingomfdeoaaGreatDoorProg
import Derived.Deep.QuietTactic
import Derived.BigQuiet
set_option linter.all false
set_option maxRecDepth 100000
set_option maxHeartbeats 100000000
namespace Go.Proofs.YthdbingomfdeoaaGreatDoor
universe u
def eP:=@Lib.hid
def eQ:=@List.getElem?_eq_getElem
def eR:=@List.take_of_length_le
def eS:=@Nat.mul_le_mul_right
def eT:=@IntWalk.i64_in
def eU:=@List.take_succ_eq_append_getElem
def eV:=@List.mem_singleton
def eW:=@Nat.le_trans
def eX:=@Result.andThen_ok
def eY:=@Value.slice.injEq
def f8:=@Nat.zero_le
def f9:=@Nat.mul_comm
def fC:=@Option.getD_some
def fD:=@List.drop_eq_getElem_cons
def fE:=@if_pos
def fG:=@Nat.lt_of_lt_of_le
def fK:=@List.drop_of_length_le
def fL:=@Nat.lt_or_ge
def fN:=@Nat.mod_lt
def fO:=@Sem.run_pure
def fP:=@Nat.zero_add
def fQ:=@run_underlying
def fS:=@List.mem_cons
def fT:=@Nat.pow_succ
def fV:=@congrArg
def fW:=@List.length_cons
def fX:=@List.mem_cons_of_mem
def fa:=@List.eq_nil_of_length_eq_zero
def fc:=@Option.some.injEq
def fd:=@Nat.pow_le_pow_right
def fi:=@List.getElem?_eq_none
def fj:=@Nat.eq_zero_or_pos
def fk:=@Classical.byContradiction
def fl:=@if_neg
def fo:=@List.mem_append
def fq:=@Sem.run_bind
def fu:=@List.getElem_mem
def fx:=@Nat.mul_le_mul_left
def gA:=@Nat.add_mul
def gD:=@Option.isSome_iff_exists
def gF:=@World.block_lt_of_cell?
def gJ:=@Bool.and_eq_true
def gM:=@List.map_cons
def gN:=@Array.getElem?_eq_none
def gO:=@Nat.mul_le_mul
def gQ:=@List.mem_replicate
def gS:=@Nat.mul_add
def gV:=@Addr.mk.injEq
def gd:=@Nat.add_zero
def ge:=@List.getElem?_set_ne
def gm:=@List.drop_zero
def go:=@List.length_take
def gr:=@Array.getElem?_eq_some_iff
def gu:=@wpList_plain
def i7:=@Nat.add_assoc
def i8:=@Option.map_some
def iB:=@List.map_toArray
def iF:=@Nat.min_eq_left
def iG:=@Nat.add_sub_cancel
def iL:=@and_true
def iN:=@Nat.mul_one
def iR:=@List.take_append_drop
def iS:=@Array.getElem?_modify
def iT:=@List.cons_append
def iU:=@List.mem_of_mem_take
def iV:=@List.getLast_eq_getElem
def ib:=@Int.mul_le_mul_of_nonneg_left
def ic:=@Nat.zero_mul
def ie:=@Nat.add_comm
def ig:=@Nat.pow_add
def ii:=@Nat.one_mul
def ij:=@List.drop_succ_cons
def il:=@List.all_eq_true
def im:=@Nat.mul_assoc
def ir:=@World.cell?_of_block
def iu:=@Nat.pow_pos
def ix:=@List.map_nil
def iy:=@Int.mul_le_mul_of_nonneg_right
def iz:=@Bool.false_eq_true
def jC:=@List.setIfInBounds_toArray
def jE:=@List.mem_of_mem_drop
def jF:=@Option.bind_some
def jH:=@List.replicate_succ
def jJ:=@info_parts
def jQ:=@List.getElem?_cons_zero
def jZ:=@List.contains_iff_mem
def ja:=@if_false
def je:=@Array.getElem?_setIfInBounds_ne
def ji:=@heap_alloc_new
def jk:=@Int.mul_nonneg
def jl:=@Calls.quiet_of
def jn:=@List.set_cons_succ
def jo:=@List.map_replicate
def ju:=@List.map_set
def jy:=@Array.getD_eq_getD_getElem?
def kA:=@List.getD_cons_succ
def kC:=@Bool.or_eq_true
def kF:=@List.set_cons_zero
def kS:=@List.take_length
def kW:=@List.length_nil
def kX:=@true_and
def kh:=@getD_set_true
def l4:=@Nat.div_mul_le_self
def l6:=@mem_ready
def l7:=@World.grownBy.refl
def l9:=@Nat.lt_irrefl
def lB:=@Int.le_trans
def lE:=@List.dropLast_concat_getLast
def lF:=@getD_set_ne
def lR:=@List.map_take
def lZ:=@List.getD_cons_zero
def lg:=@Int.add_sub_cancel
def lh:=@beq_iff_eq
def lu:=@Bool.not_eq_true'
def m5:=@bne_iff_ne
def m6:=@World.ownsRow_lit
theorem lq{b:Type u}{a:b}{l:List b}:(a::l).length=l.length+1:=fW
theorem lw{a:Type u}:([]:List a).length=0:=kW
theorem lx{b:Type u}{a:b}{l:List b}{i:Nat}:(a::l).drop (i+1)=l.drop i:=ij
theorem lz{a:Type u}{l:List a}:l.drop 0=l:=gm
theorem lj{b:Type u}{a:b}{l:List b}{i:Nat}:l.toArray.setIfInBounds i a=(l.set i a).toArray:=jC _ _ _
theorem lk{b:Type u}{x a:b}{l:List b}{i:Nat}:(x::l).set (i+1) a=x::l.set i a:=jn
theorem lp{b:Type u}{x a:b}{l:List b}:(x::l).set 0 a=a::l:=kF
theorem gqq{a:Type u}{l:List a}{i:Nat}{d:a}:l.getD i d=l[i]?.getD d:=List.getD_eq_getElem?_getD
theorem lrf(n:Nat):n<=n:=Nat.le_refl n
end Go.Proofs.YthdbingomfdeoaaGreatDoor
namespace Go.Proofs.YthdbingomfdeoaaGreatDoor.W
variable {A Bb P a f s u1 u2 v1 v2 α β:Int} {xs ys:List Nat} {B D U W b d2 g i lo lo' q r u w3 x y0 y1:Nat}
def val(B:Nat):List Nat->Nat
 | []=>0
 | x :: r=>x+B*val B r
def bnd(B:Nat)(xs:List Nat):Prop:=∀ x∈xs,x<B
def nrm(xs:List Nat):Prop:=∀ h:xs≠[],xs.getLast h≠0
theorem val_app(B:Nat):∀ a b:List Nat,val B (a ++ b)=val B a+B^a.length*val B b
 | [],b=>by simp[val]
 | x :: a,b=>by
  simp only[iT,val,val_app B a b,fW,fT]
  grind
theorem val_snoc(B:Nat)(xs:List Nat)(x:Nat):val B (xs ++ [x])=val B xs+B^xs.length*x:=by
 rw[val_app];simp[val]
theorem val_zeros(B:Nat):∀ n,val B (List.replicate n 0)=0
 | 0=>rfl
 | n+1=>by simp[jH,val,val_zeros B n]
theorem val_lt{B:Nat}:∀ {xs:List Nat},bnd B xs->val B xs<B^xs.length
 | [],_=>by simp[val]
 | x :: xs,h=>by
  have h1:x<B:=h x (by simp);have h2:=val_lt (xs:=xs) (fun y a=>h y (by simp[a]));simp only[val,fW,fT];have:B*(val B xs+1)<=B*B^xs.length:=fx _ h2
  grind
theorem val_set{B:Nat}:∀ {xs:List Nat} {i:Nat} {v:Nat},i<xs.length->val B (xs.set i v)+B^i*xs.getD i 0=val B xs+B^i*v
 | [],_,_,h=>by simp at h
 | x :: xs,0,v,_=>by simp[val];omega
 | x :: xs,i+1,v,h=>by
  have:=val_set (B:=B) (xs:=xs) (i:=i) (v:=v) (by simpa using h);simp only[jn,val,kA,fT]
  grind
theorem bnd_set(h:bnd B xs){i v:Nat}(a:v<B):bnd B (xs.set i v):=by
 intro x b;rcases List.mem_or_eq_of_mem_set b with h1|h1
 · exact h x h1
 · rw[h1];exact a
theorem bnd_at(h:bnd B xs){i:Nat}(hi:i<xs.length):xs.getD i 0<B:=by
 rw[gqq,eQ hi];exact h _ (fu hi)
theorem bnd_app(h:bnd B xs)(k:bnd B ys):bnd B (xs ++ ys):=by
 intro x a;rcases fo.1 a with h1|h1
 · exact h x h1
 · exact k x h1
theorem bnd_take(h:bnd B xs)(n:Nat):bnd B (xs.take n):=fun x a=>h x (iU a)
theorem bnd_drop(h:bnd B xs)(n:Nat):bnd B (xs.drop n):=fun x a=>h x (jE a)
theorem val_take_succ(hi:i<xs.length):val B (xs.take (i+1))=val B (xs.take i)+B^i*xs.getD i 0:=by
 rw[eU hi,val_snoc,go,iF (by omega),gqq,eQ hi];rfl
theorem val_split(xs:List Nat)(n:Nat)(h:n<=xs.length):val B xs=val B (xs.take n)+B^n*val B (xs.drop n):=by
 conv=>lhs;rw[<-iR n xs]
 rw[val_app,go,iF h]
def trimTo(xs:List Nat):Nat->List Nat
 | 0=>[]
 | n+1=>if xs.getD n 0=0 then trimTo xs n else xs.take (n+1)
def trim(xs:List Nat):List Nat:=trimTo xs xs.length
theorem Id{B:Nat}{xs:List Nat}:∀ {n:Nat},n<=xs.length->val B (trimTo xs n)=val B (xs.take n)
 | 0,_=>by simp[trimTo,val]
 | n+1,h=>by
  unfold trimTo;split
  · rename_i h0;rw[Id (by omega),val_take_succ (by omega),h0];simp
  · rfl
theorem trim_val(xs:List Nat):val B (trim xs)=val B xs:=by
 rw[trim,Id (lrf _),kS]
theorem Ie{xs:List Nat}:∀ {n:Nat},n<=xs.length->nrm (trimTo xs n)
 | 0,_=>by intro h;simp[trimTo]at h
 | n+1,h=>by
  unfold trimTo;split
  · exact Ie (by omega)
  · rename_i h0;intro hne;rw[iV];have hl:(xs.take (n+1)).length=n+1:=by rw[go];omega
    simp only[hl,iG,List.getElem_take];simpa[eQ (show n<xs.length by omega)]using h0
theorem trim_nrm(xs:List Nat):nrm (trim xs):=Ie (lrf _)
theorem Fe{xs:List Nat}:∀ {n:Nat},n<=xs.length->∃ k,k<=n/\trimTo xs n=xs.take k
 | 0,_=>⟨0,lrf _,by simp[trimTo]⟩
 | n+1,h=>by
  unfold trimTo;split
  · obtain⟨k,h1,h2⟩:=Fe (xs:=xs) (n:=n) (by omega);exact⟨k,by omega,h2⟩
  · exact⟨n+1,lrf _,rfl⟩
theorem bnd_trim(h:bnd B xs):bnd B (trim xs):=by
 obtain⟨k,_,e⟩:=Fe (xs:=xs) (n:=xs.length) (lrf _);rw[trim,e];exact bnd_take h k
theorem nrm_pos(_hB:0<B){xs:List Nat}(h:nrm xs)(a:xs≠[]):B^(xs.length-1)<=val B xs:=by
 have e:xs=xs.dropLast ++ [xs.getLast a]:=(lE a).symm;have b:=h a;have h1:val B xs=val B xs.dropLast+B^(xs.length-1)*xs.getLast a:=by
  conv=>lhs;rw[e]
  rw[val_snoc,List.length_dropLast]
 have:B^(xs.length-1)*1<=B^(xs.length-1)*xs.getLast a:=fx _ (by omega);omega
theorem nrm_zero(b:0<B){xs:List Nat}(h:nrm xs):val B xs=0<->xs=[]:=by
 constructor
 · intro h0;refine fk fun a => ?_;have:=nrm_pos b h a;have:=iu (n:=xs.length-1) b;omega
 · rintro rfl;rfl
theorem len_lt(d:1<B){xs ys:List Nat}(b:bnd B xs)(c:nrm ys)(h:xs.length<ys.length):val B xs<val B ys:=by
 have h1:=val_lt b;have a:ys≠[]:=by intro e;rw[e]at h;simp at h
 have h2:=nrm_pos (B:=B) (by omega) c a;have h3:B^xs.length<=B^(ys.length-1):=fd (by omega) (by omega);omega
theorem nrm_len(b:1<B){xs:List Nat}(h:nrm xs){n:Nat}(c:val B xs<B^n):xs.length<=n:=by
 rcases fL n xs.length with h1|h1
 · have a:xs≠[]:=by intro e;rw[e]at h1;simp at h1
   have h2:=nrm_pos (B:=B) (by omega) h a;have h3:B^n<=B^(xs.length-1):=fd (by omega) (by omega);omega
 · exact h1
theorem nrm_nil:nrm []:=fun h=>absurd rfl h
theorem nrm_single(h:x≠0):nrm [x]:=fun _=>h
section
variable {B:Nat}
theorem digit_hi{P:Nat}(c:W=w3*P+lo)(a:lo<P)(b:D=d2*P+lo')(d:q*D<=W):q*d2<=w3:=by
 rcases fL w3 (q*d2)with h|h
 · exfalso;have h1:(w3+1)*P<=q*d2*P:=eS _ h;have h2:q*(d2*P)<=q*D:=fx _ (by omega);have h3:q*(d2*P)=q*d2*P:=by rw[im]
   have h4:(w3+1)*P=w3*P+P:=by rw[gA];omega
   omega
 · exact h
theorem digit_lo{e P:Nat}(_hP:0<P)(d:W=w3*P+lo)(c:D=d2*P+lo')(b:lo' < P)(f:W<(q+1)*D)(he:e*d2<=w3)(a:q+1<=d2):e<=q+1:=by
 rcases fL (q+1) e with h|h
 · exfalso;have h1:(q+2)*d2<=e*d2:=eS _ h;have h2:(q+2)*d2*P<=w3*P:=eS _ (by omega);have h3:(q+1)*D<=(q+1)*(d2*P+P):=fx _ (by omega);have h4:(q+1)*(d2*P+P)=(q+1)*d2*P+(q+1)*P:=by grind
   have h5:(q+2)*d2*P=(q+1)*d2*P+d2*P:=by grind
   have h6:(q+1)*P<=d2*P:=eS _ a;omega
 · exact h
end
structure Leh(a b A Bb P α β:Int)(f g u1 u2 v1 v2 s:Int):Prop where
 ha:a=A*P+α
 hb:b=Bb*P+β
 a0:0<=α
 a1:α<P
 b0:0<=β
 b1:β<P
 sg:s=1\/s = -1
 f0:0<=f
 g0:0<=g
 gf:g<=f
 ef:f=s*(u1*A-v1*Bb)
 eg:g = -(s*(u2*A-v2*Bb))
 sv:v2*f+v1*g=A
 su:u2*f+u1*g=Bb
 u1n:0<=u1
 u2n:0<=u2
 v1n:0<=v1
 v2p:1<=v2
 uv:u2<=v2
 vv:v1<=v2
theorem Leh.start{b:Int}(i:a=A*P+α)(j:b=Bb*P+β)(d:0<=α)(e:α<P)(b0:0<=β)(f:β<P)(g:0<=Bb)(c:Bb<=A):Leh a b A Bb P α β A Bb 1 0 0 1 1 :=
 ⟨i,j,d,e,b0,f,Or.inl rfl,by omega,g,c,by simp,by simp,by simp,by simp,by omega,by omega,by omega,by omega,by omega,by omega⟩
theorem Leh.sec{b g:Int}(h:Leh a b A Bb P α β f g u1 u2 v1 v2 s)(m:v2<=g):0 <= -(s*(u2*a-v2*b)):=by
 obtain⟨k,l,d,q,i,r,n,_,_,_,_,j,_,_,_,c,_,p,o,_⟩:=h;have e : -(s*(u2*a-v2*b))=g*P-s*(u2*α-v2*β):=by rw[k,l,j];grind
 have v:u2*α<=v2*(P-1):=lB (iy o d) (ib (by omega) (by omega));have w:v2*β<=v2*(P-1):=ib (by omega) (by omega);have B:0<=u2*α:=jk c d;have C:0<=v2*β:=jk (by omega) i;have D:v2*P<=g*P:=iy m (by omega);have E:v2*(P-1)=v2*P-v2:=by grind
 rw[e];generalize u2 * α=x at *
 generalize v2 * β=y at *
 generalize v2 * P=z at *
 generalize g * P=t at *
 rcases n with rfl|rfl <;> omega
theorem Leh.gap{b g:Int}(h:Leh a b A Bb P α β f g u1 u2 v1 v2 s)(q:v1+v2<=f-g)(hu:u1<=v1\/(u1=1/\v1=0/\u2=0/\s=1)) : -(s*(u2*a-v2*b))<s*(u1*a-v1*b):=by
 obtain⟨k,l,c,C,j,D,r,_,_,_,o,p,_,_,d,e,i,B,w,Q⟩:=h;have m : -(s*(u2*a-v2*b))=g*P-s*(u2*α-v2*β):=by rw[k,l,p];grind
 have n:s*(u1*a-v1*b)=f*P+s*(u1*α-v1*β):=by rw[k,l,o];grind
 have E:(v1+v2)*P<=(f-g)*P:=iy q (by omega);have F:(v1+v2)*P=v1*P+v2*P:=by grind
 have G:(f-g)*P=f*P-g*P:=by grind
 have H:0<=u2*α:=jk e c;have I:0<=v2*β:=jk (by omega) j;have J:0<=u1*α:=jk d c;have K:0<=v1*β:=jk i j;have L:v2*β<=v2*(P-1):=ib (by omega) (by omega);have M:v1*β<=v1*(P-1):=ib (by omega) (by omega);have N:u2*α<=v2*(P-1):=lB (iy w c) (ib (by omega) (by omega));have R:v2*(P-1)=v2*P-v2:=by grind
 have S:v1*(P-1)=v1*P-v1:=by grind
 rw[m,n];rcases hu with hu|⟨rfl,rfl,rfl,rfl⟩
 · have O:u1*α<=v1*(P-1):=lB (iy hu c) (ib (by omega) (by omega));generalize u2 * α=x at *
   generalize v2 * β=y at *
   generalize u1 * α=T at *
   generalize v1 * β=U at *
   generalize v2 * P=z at *
   generalize v1 * P=V at *
   generalize g * P=t at *
   generalize f * P=v at *
   rcases r with rfl|rfl <;> omega
 · simp at *
   generalize v2 * β=y at *
   generalize v2 * P=z at *
   generalize g * P=t at *
   generalize f * P=v at *
   omega
theorem Leh.step{b g q r:Int}(h:Leh a b A Bb P α β f g u1 u2 v1 v2 s)(E:f=q*g+r)(r0:0<=r)(I:r<g)(p:1<=q)(hu:u1<=v1\/(u1=1/\v1=0/\u2=0/\s=1)):Leh a b A Bb P α β g r u2 (u1+q*u2) v2 (v1+q*v2) (-s):=by
 obtain⟨n,o,e,i,j,k,t,C,m,D,l,d,w,v,x,c,z,B,y,J⟩:=h;have F:0<=q*u2:=jk (by omega) c;have G:v2<=q*v2:=by
  have:=iy p (show 0<=v2 by omega);omega
 have H:q*u2<=q*v2:=ib y (by omega);refine⟨n,o,e,i,j,k,by rcases t with rfl | rfl <;> simp,m,r0,by omega,by rw[d];grind,?_,?_,?_,c,by omega,by omega,by omega,?_,by omega⟩
 · have:r=f-q*g:=by omega
   rw[this,l,d];grind
 · have:r=f-q*g:=by omega
   rw[this,<-w];grind
 · have:r=f-q*g:=by omega
   rw[this,<-v];grind
 · rcases hu with hu|⟨rfl,rfl,rfl,_⟩
   · omega
   · simp;omega
theorem guess_le(h1:b<=2*y1)(h0:y0<b)(a:U<y1*b+y0):U/y1<=b+1:=by
 rcases fL (b+1) (U/y1)with h|h
 · exfalso;have h2:(b+2)*y1<=U/y1*y1:=eS _ h;have h3:U/y1*y1<=U:=l4 _ _;have h4:(b+2)*y1=y1*b+2*y1:=by grind
   omega
 · exact h
theorem guess_hi(a:g*y1+r=U)(d:q*(y1*b+y0)<=U*b+u)(hu:u<b)(c:r<y1):q<=g:=by
 rcases fL g q with h|h
 · exfalso;have h1:(g+1)*(y1*b+y0)<=q*(y1*b+y0):=eS _ h;have h2:(g+1)*(y1*b+y0)=g*y1*b+y1*b+(g+1)*y0:=by grind
   have h3:U*b=g*y1*b+r*b:=by rw[<-a];grind
   have h4:(r+1)*b<=y1*b:=eS _ c;have h5:(r+1)*b=r*b+b:=by grind
   omega
 · exact h
theorem guess_down(c:g*y1+r=U)(e:q*(y1*b+y0)<=U*b+u)(d:q<b)(a:b<=g\/b*r+u<g*y0):q<g:=by
 rcases a with a|a
 · omega
 · rcases fL q g with h|h
   · exact h
   · exfalso;have h1:g*(y1*b+y0)<=q*(y1*b+y0):=eS _ h;have h2:g*(y1*b+y0)=g*y1*b+g*y0:=by grind
     have h3:U*b=g*y1*b+r*b:=by rw[<-c];grind
     have h4:b*r=r*b:=f9 _ _;omega
theorem guess_done(a:g*y1+r=U)(c:U*b+u<(q+1)*(y1*b+y0))(d:g*y0<=b*r+u):g<=q:=by
 rcases fL q g with h|h
 · exfalso;have h1:(q+1)*(y1*b+y0)<=g*(y1*b+y0):=eS _ h;have h2:g*(y1*b+y0)=g*y1*b+g*y0:=by grind
   have h3:U*b=g*y1*b+r*b:=by rw[<-a];grind
   have h4:b*r=r*b:=f9 _ _;omega
 · exact h
theorem guess_over(c:b<=r)(a:g<=b)(h0:y0<b):g*y0<=b*r+u:=by
 have h1:g*y0<=b*y0:=eS _ a;have h2:b*y0<=b*r:=fx _ (by omega);omega
theorem digit_lt{y:Nat}(a:U<y)(hu:u<b)(c:q*y<=U*b+u):q<b:=by
 rcases fL q b with h|h
 · exact h
 · exfalso;have h1:b*y<=q*y:=eS _ h;have h2:(U+1)*b<=y*b:=eS _ a;have h3:(U+1)*b=U*b+b:=by grind
   have h4:b*y=y*b:=f9 _ _;omega
end Go.Proofs.YthdbingomfdeoaaGreatDoor.W
namespace Go.Proofs.YthdbingomfdeoaaGreatDoor
open Go Go.RowKit
variable {f:Act} {ops:Array Oper} {Q:Exit->Act->World->Prop} {xss:List (List Int)} {l:List Nat} {rest:List Oper} {cs cur news vs xs:List Value} {B D U V base base' bytes c' cx g h i j k m n p q r u y0 y1:Nat} {o:Oper} {d s x y:Operand} {A a:Option Addr} {cons row:Option Nat} {P:Program} {dT e sT t ty:TypeId} {v z:Value} {b w w' w0 w1:World}
theorem A4(xs:List Nat)(k:Nat):W.val B (xs.take (k+1))=W.val B (xs.take k)+B^k*xs.getD k 0:=by
 by_cases h:k<xs.length
 · exact W.val_take_succ h
 · rw[eR (by omega),eR (by omega),gqq,fi (by omega)];simp
theorem Hy{s c:Nat}(hp:p<l.length)(h:W.val B l+c*B^p=V)(e:s+B*c'=l.getD p 0+D+c):W.val B (l.set p s)+c'*B^(p+1)=V+D*B^p:=by
 have h1:=W.val_set (B:=B) (xs:=l) (i:=p) (v:=s) hp;have h2:B^p*(s+B*c')=B^p*(l.getD p 0+D+c):=by rw[e]
 rw[gS,gS,gS]at h2;have h3:B^p*(B*c')=c'*B^(p+1):=by rw[fT,<-im,f9]
 have h4:B^p*D=D*B^p:=f9 _ _;have h5:B^p*c=c*B^p:=f9 _ _;omega
theorem Ns{Y A s c:Nat}(hp:p<l.length)(h:W.val B l+Y=V+c*B^p)(e:s+D+c=l.getD p 0+A+B*c'):W.val B (l.set p s)+(Y+D*B^p)=(V+A*B^p)+c'*B^(p+1):=by
 have h1:=W.val_set (B:=B) (xs:=l) (i:=p) (v:=s) hp;have h2:B^p*(s+D+c)=B^p*(l.getD p 0+A+B*c'):=by rw[e]
 rw[gS,gS,gS,gS]at h2;have h3:B^p*(B*c')=c'*B^(p+1):=by rw[fT,<-im,f9]
 have h4:B^p*D=D*B^p:=f9 _ _;have h5:B^p*c=c*B^p:=f9 _ _;have h6:B^p*A=A*B^p:=f9 _ _;omega
theorem F5{s:Nat}(h:∀ j,k<=j->l.getD j 0=0):∀ j,k+1<=j->(l.set k s).getD j 0=0:=by
 intro j a;rw[gqq,ge (by omega),<-gqq];exact h j (by omega)
theorem Dn(n j:Nat):(List.replicate n 0).getD j 0=0:=by
 rw[gqq,List.getElem?_replicate];split <;> rfl
theorem EU(a:0<B)(n:Nat):W.bnd B (List.replicate n 0):=fun x b=>by rw[(gQ.1 b).2];exact a
theorem Ct{x:Nat}(h:x<18446744073709551616):IntKind.u64.wrap (x:Int)=(x:Int):=by
 show(x:Int)%18446744073709551616=x;omega
theorem Hz(x:Nat):IntKind.u32.wrap (x:Int)=((x%4294967296:Nat):Int):=by
 show(x:Int)%4294967296=_;omega
theorem UW{v o c:Nat}(hu:u<4294967296)(d:v<4294967296)(b:o<4294967296)(a:c<4294967296):u*v+o+c<18446744073709551616:=by
 have:u*v<=4294967295*4294967295:=gO (by omega) (by omega);omega
structure Est(b y1 U q h r:Nat):Prop where
 eq:h*y1+r=U
 lo:q<=h
 hi:h<=b+1
theorem Est.start{b:Nat}(h1:b<=2*y1)(h0:y0<b)(d:U<=y1*b+y0)(a:q*(y1*b+y0)<=U*b+u)(hu:u<b):Est b y1 U q (U/y1) (U%y1):=by
 have c:0<y1:=by omega
 have e:U/y1*y1+U%y1=U:=Nat.div_add_mod' U y1;refine⟨e,W.guess_hi e a hu (fN _ c),?_⟩;rcases fL (b+1) (U/y1)with h|h
 · exfalso;have h2:(b+2)*y1<=U/y1*y1:=eS _ h;have h4:(b+2)*y1=y1*b+2*y1:=by grind
   omega
 · exact h
theorem Est.down{b:Nat}(E:Est b y1 U q h r)(d:q*(y1*b+y0)<=U*b+u)(a:q<b)(c:b<=h\/b*r+u<h*y0):0<h/\h-1<=b/\Est b y1 U q (h-1) (r+y1):=by
 have h1:=W.guess_down E.eq d a c;have h2:=E.hi;refine⟨by omega,by omega,?_,by omega,by omega⟩;have h3:=E.eq;obtain⟨k,rfl⟩:∃ k,h=k+1:=⟨h-1,by omega⟩;rw[gA,ii]at h3;rw[iG];omega
theorem Est.done{b d P lo a:Nat}(E:Est b y1 U q h r)(k:h*y0<=b*r+u)(h1:b<=2*y1)(g:2<=b)(f:d=(U*b+u)*P+lo)(e:D=(y1*b+y0)*P+a)(c:a < P)(i:d<(q+1)*D)(j:q<b):h<=q+1:=by
 have h2:h*(y1*b+y0)<=U*b+u:=by
  have h2:h*(y1*b+y0)=h*y1*b+h*y0:=by grind
  have h3:U*b=h*y1*b+r*b:=by rw[<-E.eq];grind
  have h4:b*r=r*b:=f9 _ _;omega
 refine W.digit_lo (by omega) f e c i h2 ?_;have h3:1*b<=y1*b:=eS _ (by omega);omega
theorem Rs{xs:List Nat}{o s c w:Nat}(hp:o+k<l.length)(h:W.val B l+c*B^(o+k)=V+w*W.val B (xs.take k)*B^o)(e:s+B*c'=l.getD (o+k) 0+w*xs.getD k 0+c):W.val B (l.set (o+k) s)+c'*B^(o+(k+1))=V+w*W.val B (xs.take (k+1))*B^o:=by
 have h1:=Hy (D:=w*xs.getD k 0) hp h e;rw[A4,gS,gA];have h2:w*(B^k*xs.getD k 0)*B^o=w*xs.getD k 0*B^(o+k):=by rw[ig];grind
 rw[show o+(k+1)=o+k+1 by omega];omega
theorem Ue{xs:List Nat}{o s c w:Nat}(hp:o+k<l.length)(h:W.val B l+w*W.val B (xs.take k)*B^o=V+c*B^(o+k))(e:s+w*xs.getD k 0+c=l.getD (o+k) 0+B*c'):W.val B (l.set (o+k) s)+w*W.val B (xs.take (k+1))*B^o=V+c'*B^(o+(k+1)):=by
 have h1:=Ns (D:=w*xs.getD k 0) (A:=0) hp h (by omega);rw[A4,gS,gA];have h2:w*(B^k*xs.getD k 0)*B^o=w*xs.getD k 0*B^(o+k):=by rw[ig];grind
 rw[show o+(k+1)=o+k+1 by omega];rw[ic]at h1;omega
def Ext(w w':World):Prop:=Below w.heap.size w w'
theorem Ext.refl(w:World):Ext w w:=Below.refl _ _
theorem Ext.trans{a b c:World}(h:Ext a b)(k:Ext b c):Ext a c:=Below.trans h (Below.mono k h.size)
theorem Ext.size{w a:World}(h:Ext w a):w.heap.size<=a.heap.size:=Below.size h
theorem Ext.drewN{w a:World}(h:Ext w a)(n:Nat):Ext w (a.drewN n):=⟨h.os,h.tape,h.output,h.size,h.block⟩
theorem Ext.drew{w a:World}(h:Ext w a):Ext w a.drew:=⟨h.os,h.tape,h.output,h.size,h.block⟩
theorem Ext.alloc{w a:World}(h:Ext w a)(o:Obj):Ext w (a.alloc o):=Below.alloc h h.size o
theorem Ext.setCell{w a:World}(h:Ext w a){p:Addr}(hp:w.heap.size<=p.block)(u:Value):Ext w (a.setCell p u):=Below.setCell h hp u
theorem Ext.grown{w b a:World}{row:Option Nat}(h:Ext w b)(c:b.grownBy a row)(d:∀ k,row=some k->w.heap.size<=k):Ext w a :=
 Below.grown h c h.size d
theorem Ext.block{w a:World}(h:Ext w a){k:Nat}(b:k<w.heap.size):a.heap[k]?=w.heap[k]?:=Below.block h k b
theorem Ext.cell{w a:World}(h:Ext w a){p:Addr}{v:Value}(hp:w.cell? p=some v):a.cell? p=some v:=by
 rw[ir (w:=w) (h.block (gF w p hp)),hp]
def Qt(w w':World):Prop:=∃ n,w'=w.drewN n
theorem Qt.refl(w:World):Qt w w:=⟨0,rfl⟩
theorem Qt.drewN{w a:World}(h:Qt w a)(n:Nat):Qt w (a.drewN n):=by
 obtain⟨m,rfl⟩:=h;exact⟨m+n,by rw[World.drewN_drewN]⟩
theorem Qt.drew{w a:World}(h:Qt w a):Qt w a.drew:=h.drewN 1
theorem Qt.trans{a c:World}(h:Qt a b)(k:Qt b c):Qt a c:=by
 obtain⟨m,rfl⟩:=k;exact h.drewN m
theorem Qt.ext(h:Qt w w'):Ext w w':=by
 obtain⟨m,rfl⟩:=h;exact(Ext.refl w).drewN m
theorem Nt{a b:Bool}(h:b=a):Ending.returned (.bool a) = .returned (.bool b):=by rw[h]
theorem Cd{k:IntKind}{a b:Int}(h:b=a):Ending.returned (.int k a) = .returned (.int k b):=by rw[h]
structure Sl(w:World)(a:Option Addr)(n c:Nat)(cs:List Value):Prop where
 len:cs.length=n
 cap:n<=c
 max:c<=maxLen
 rd:0<n->∃ b off,a=some ⟨b,off,none⟩/\∀ i,i<n->w.cell? ⟨b,off+i,none⟩=some (cs.getD i undef)
theorem Sl.ext{c:Nat}(h:Sl w a n c cs)(e:Ext w w'):Sl w' a n c cs :=
 ⟨h.len,h.cap,h.max,fun h0=>let ⟨b,off,ha,hc⟩:=h.rd h0;⟨b,off,ha,fun i d=>e.cell (hc i d)⟩⟩
theorem Sl.nil(w:World):Sl w none 0 0 []:=⟨rfl,lrf _,f8 _,fun h=>absurd h (l9 _)⟩
def SlI(w:World)(a:Option Addr)(n c:Nat)(xs:List Int):Prop:=Sl w a n c (xs.map (Value.int .i64))
theorem SlI.ext{w b:World}{a:Option Addr}{n c:Nat}{xs:List Int}(h:SlI w a n c xs)(e:Ext w b):SlI b a n c xs:=Sl.ext h e
theorem SlI.len{w:World}{a:Option Addr}{n c:Nat}{xs:List Int}(h:SlI w a n c xs):xs.length=n:=by
 have:=Sl.len h;simpa using this
theorem SlI.le{c:Nat}{xs:List Int}(h:SlI w a n c xs):n<=9223372036854775807:=by
 have h1:=Sl.cap h;have h2:=Sl.max h;unfold maxLen at h2;omega
theorem SlI.at{c:Nat}{xs:List Int}(h:SlI w a n c xs){k:Nat}(l:k<n) :
 ∃ b d,a=some ⟨b,d,none⟩/\∀ i,i<n->w.cell? ⟨b,d+i,none⟩=some (.int .i64 (xs.getD i 0)):=by
 obtain⟨b,d,f,g⟩:=Sl.rd h (by omega);refine⟨b,d,f,fun i j => ?_⟩;rw[g i j];have m:=h.len;have e:i<xs.length:=by omega
 simp[e]
def SlL(w:World)(a:Option Addr)(n c:Nat)(xss:List (List Int)):Prop :=
 xss.length=n/\∃ cs,Sl w a n c cs/\∀ i,i<n->∃ a' n' c',cs.getD i undef = .slice a' n' c'/\SlI w a' n' c' (xss.getD i [])
theorem SlL.ext{w b:World}{a:Option Addr}{n c:Nat}{xss:List (List Int)}(h:SlL w a n c xss)(e:Ext w b):SlL b a n c xss:=by
 obtain⟨g,d,h1,h2⟩:=h;exact⟨g,d,h1.ext e,fun i f=>let ⟨a',n',c',h3,h4⟩:=h2 i f;⟨a',n',c',h3,h4.ext e⟩⟩
theorem SlL.len{c:Nat}(h:SlL w a n c xss):xss.length=n:=h.1
theorem SlL.le{c:Nat}(h:SlL w a n c xss):n<=9223372036854775807:=by
 obtain⟨_,b,h,_⟩:=h;have h1:=Sl.cap h;have h2:=Sl.max h;unfold maxLen at h2;omega
theorem SlL.at{c:Nat}(h:SlL w a n c xss){k:Nat}(i:k<n) :
 ∃ b d e g f,a=some ⟨b,d,none⟩/\w.cell? ⟨b,d+k,none⟩=some (.slice e g f)/\SlI w e g f (xss.getD k []):=by
 obtain⟨o,m,h1,h2⟩:=h;obtain⟨b,d,j,l⟩:=h1.rd (by omega);obtain⟨e,g,f,h3,h4⟩:=h2 k i;exact⟨b,d,e,g,f,j,by rw[l k i,h3],h4⟩
theorem Sl.of_owns{v c:Nat}(h:w.ownsRow base e 1 (.slice a n c) v cs):Sl w a n c cs:=by
 obtain⟨j,h⟩:=h;rcases h with⟨d,s⟩|⟨g,l,b,d,x,o,k,r,y,t⟩
 · simp only[eY]at d;obtain⟨rfl,rfl,rfl⟩:=d;subst s;have:cs=[]:=by simpa using j
   subst this;exact Sl.nil w
 · simp only[eY]at d;obtain⟨rfl,rfl,rfl⟩:=d;refine⟨by simpa using j,k,r,fun _=>⟨g,0,rfl,fun i p => ?_⟩⟩;have q:cs.length=n:=by simpa using j
   have m:cs.getD i undef=b.toList.getD i undef:=by
    rw[<-t];simp[p]
   have f:i<b.size:=by omega
   rw[m];simp[World.cell?,o,f]
theorem Mj{size:Nat}(h:w.ownsRow base e size v n xs)(k:Ext w w'):w'.ownsRow base e size v n xs:=by
 obtain⟨h1,h2⟩:=h;refine⟨h1,?_⟩;rcases h2 with h2|⟨g,a,b,i,f,d,r⟩
 · exact Or.inl h2
 · refine Or.inr ⟨g,a,b,i,f,?_,r⟩;have c:g<w.heap.size:=by
    rcases fL g w.heap.size with h|h
    · exact h
    · simp[gN h]at d
   rw[k.block c,d]
def Own(w:World)(base:Nat)(e:TypeId)(a:Option Addr)(n c:Nat)(cs:List Value):Prop:=w.ownsRow base e 1 (.slice a n c) n cs
def AR(P:Program)(e:TypeId)(z:Value)(bytes:Nat):Prop :=
 (P.info? e).map (fun i=>(i.zero,i.size,i.bytes))=some (some z,1,bytes)
def blk(a:Option Addr):Option Nat:=a.map (·.block)
section
variable {w w':World} {base:Nat} {e:TypeId} {a:Option Addr} {n c:Nat} {cs:List Value}
theorem Own.sl(h:Own w base e a n c cs):Sl w a n c cs:=Sl.of_owns h
theorem Own.ext(h:Own w base e a n c cs)(k:Ext w w'):Own w' base e a n c cs:=Mj h k
theorem Own.len(h:Own w base e a n c cs):cs.length=n:=h.sl.len
theorem Own.cap(h:Own w base e a n c cs):n<=c:=h.sl.cap
theorem Own.nil(w:World)(base:Nat)(e:TypeId):Own w base e none 0 0 []:=World.ownsRow_nil w base e 1
theorem Own.lt(h:Own w base e a n c cs){k:Nat}(d:blk a=some k):base<=k/\k<w.heap.size:=by
 refine World.ownsRow.lt h k ?_;cases a with
 | none=>simp[blk]at d
 | some b=>simpa[blk,Value.ownBlock]using d
theorem Own.mono(h:Own w base e a n c cs)(i:base'<=base):Own w base' e a n c cs:=by
 obtain⟨h1,h2⟩:=h;refine⟨h1,?_⟩;rcases h2 with h2|⟨g,b,d,f,j,r⟩
 · exact Or.inl h2
 · exact Or.inr ⟨g,b,d,f,by omega,r⟩
theorem Own.kept{row:Option Nat}(h:Own w base e a n c cs)(f:w.grownBy w' row)(d:blk a=none\/blk a≠row):Own w' base e a n c cs:=by
 refine World.ownsRow.kept h f ?_;cases a with
 | none=>left;rfl
 | some b=>right;rcases d with h | h
           · simp[blk]at h
           · simpa[blk,Value.ownBlock]using h
theorem Own.drewN(h:Own w base e a n c cs)(k:Nat):Own (w.drewN k) base e a n c cs:=h
theorem Own.alloc(h:Own w base e a n c cs)(o:Obj):Own (w.alloc o) base e a n c cs:=World.ownsRow.alloc h o
theorem Own.place(h:Own w base e a n c cs)(k:0<n):∃ g,a=some ⟨g,0,none⟩/\base<=g/\g<w.heap.size:=by
 rcases h.2 with⟨_,h0⟩|⟨g,d,f,b,i,j,_⟩
 · omega
 · simp only[eY]at b;refine⟨g,b.1,i,?_⟩;rcases fL g w.heap.size with h|h
   · exact h
   · simp[gN h]at j
end
section
variable {w:World} {base:Nat} {e:TypeId} {g n c:Nat} {cs:List Value}
theorem Own.cellAt(h:Own w base e (some ⟨g,0,none⟩) n c cs){j:Nat}(a:j<n):w.cell? ⟨g,j,none⟩=some (cs.getD j undef):=by
 have h1:=World.ownsRow.cellAt h j (by omega);have h2:j<cs.length:=by have:=h.len;omega
 rw[h1];simp[h2]
theorem Own.frozenAt(h:Own w base e (some ⟨g,0,none⟩) n c cs)(j:Nat):w.frozen? ⟨g,j,none⟩=false:=World.ownsRow.frozenAt h j
theorem Own.stored(h:Own w base e (some ⟨g,0,none⟩) n c cs)(j:Nat)(u:Value) :
 Own (w.setCell ⟨g,j,none⟩ u) base e (some ⟨g,0,none⟩) n c (cs.set j u):=(World.ownsRow.stored h j u).1
end
theorem Ag(w:World)(base:Nat)(e:TypeId)(cs:Array Value)(n:Nat)(b:cs.size=n)(a:base<=w.heap.size)(c:n<=1000000) :
 Own (w.alloc (.cells cs e)) base e (some ⟨w.heap.size,0,none⟩) n n cs.toList:=by
 subst b;exact m6 w cs cs.size a (by unfold maxLen;omega) (by omega)
theorem Own.drew{w:World}{base:Nat}{e:TypeId}{a:Option Addr}{n c:Nat}{cs:List Value}(h:Own w base e a n c cs):Own w.drew base e a n c cs:=h
theorem Sl.drew{w:World}{a:Option Addr}{n c:Nat}{cs:List Value}(h:Sl w a n c cs):Sl w.drew a n c cs:=h.ext (Ext.refl w).drew
theorem Sl.alloc{w:World}{a:Option Addr}{n c:Nat}{cs:List Value}(h:Sl w a n c cs)(o:Obj):Sl (w.alloc o) a n c cs:=h.ext ((Ext.refl w).alloc o)
theorem Sl.upto{c:Nat}(h:Sl w a n c cs){k:Nat}(j:k<=n):Sl w a k c (cs.take k):=by
 refine⟨by have:=h.len;simp;omega,by have:=h.cap;omega,h.max,fun h0 => ?_⟩;obtain⟨b,d,e,f⟩:=h.rd (by omega);refine⟨b,d,e,fun i g => ?_⟩;rw[f i (by omega)];simp[g]
theorem Sl.from{c:Nat}(h:Sl w a n c cs){k:Nat}(l:k<=n) :
 Sl w (if c=k then a else a.map (fun x=>x.add k)) (n-k) (c-k) (cs.drop k):=by
 refine⟨by have:=h.len;simp;omega,by have:=h.cap;omega,by have:=h.max;omega,fun h0 => ?_⟩;obtain⟨b,d,f,g⟩:=h.rd (by omega);subst f;have e:=h.cap;rw[fl (by omega)];refine⟨b,d+k,?_,fun i j => ?_⟩
 · simp only[i8,Addr.add];by_cases h0:k=0 <;> simp[h0]
 · rw[i7,g (k+i) (by omega)];simp
theorem Ab(w:World)(g j:Nat)(u:Value):w.grownBy (w.setCell ⟨g,j,none⟩ u) (some g) :=
 ⟨rfl,rfl,rfl,by simp[World.setCell],fun k _ a=>by
  simp only[World.setCell,iS]
  rw[fl (by rintro rfl;exact a rfl)]⟩
def Arr(w:World)(g:Nat)(t:TypeId)(cs:List Value):Prop:=w.heap[g]?=some (.cells cs.toArray t (0,0))
section
variable {w w':World} {g:Nat} {t:TypeId} {cs:List Value}
theorem Arr.lt(h:Arr w g t cs):g<w.heap.size:=by
 rcases fL g w.heap.size with b|a
 · exact b
 · unfold Arr at h;rw[gN a]at h;cases h
theorem Arr.cell(h:Arr w g t cs){i:Nat}(hi:i<cs.length):w.cell? ⟨g,i,none⟩=some (cs.getD i undef):=by
 unfold Arr at h;simp[World.cell?,h,hi]
theorem Arr.c(h:Arr w g t cs)(i:Nat){v:Value}(a:cs[i]?=some v):w.cell? ⟨g,i,none⟩=some v:=by
 rw[h.cell (i:=i) (by rcases fL i cs.length with h | h;exact h;simp[fi h]at a),gqq,a];rfl
theorem Arr.frozen(h:Arr w g t cs)(i:Nat):w.frozen? ⟨g,i,none⟩=false:=by
 unfold Arr at h;simp[World.frozen?,h]
theorem Arr.new(w:World)(t:TypeId)(cs:List Value):Arr (w.alloc (.cells cs.toArray t)) w.heap.size t cs:=ji w _
theorem Arr.set(h:Arr w g t cs)(i:Nat)(u:Value):Arr (w.setCell ⟨g,i,none⟩ u) g t (cs.set i u):=by
 unfold Arr at h |-;simp[World.setCell,iS,h]
theorem Arr.sl(h:Arr w g t cs){k:Nat}(b:k<=cs.length)(c:cs.length<=maxLen):Sl w (some ⟨g,0,none⟩) k cs.length (cs.take k):=by
 refine⟨by simp;omega,b,c,fun _=>⟨g,0,rfl,fun i a => ?_⟩⟩;rw[fP,h.cell (by omega)];simp[a]
theorem Arr.ext(h:Arr w g t cs)(k:Ext w w'):Arr w' g t cs:=(k.block h.lt).trans h
theorem Arr.kept(h:Arr w g t cs)(a:w.grownBy w' row)(b:some g≠row):Arr w' g t cs:=(a.block g h.lt b).trans h
theorem Arr.drewN(h:Arr w g t cs)(n:Nat):Arr (w.drewN n) g t cs:=h
theorem Arr.alloc(h:Arr w g t cs)(o:Obj):Arr (w.alloc o) g t cs:=(Below.heap_alloc w o g h.lt).trans h
theorem Arr.far(h:Arr w g t cs){p:Addr}(hp:g≠p.block)(u:Value):Arr (w.setCell p u) g t cs:=(Below.heap_setCell w p u g hp).trans h
end
section
variable {P:Program} {w:World}
theorem Ou{c:Nat} 
 (I:P.underlying t=some (.slice e)) (v:AR P e z bytes) (J:z.cells.size=1) (d:Own w base e a n c xs) (f:Sl w A m cx news)
 (h1:∀ u∈news,u.oneCell'=true) (h63:n+m<=maxLen) (k:(n+m)*bytes<=140737488355328) (s:base<=w.heap.size) :
 ∃ C L y,(Builtin.append_ #[t,t] ty #[.slice a n c,.slice A m cx]).run P w = .ok (.slice C (n+m) L) y/\Own y base e C (n+m) L (xs ++ news) /\
  w.grownBy y (blk a)/\(blk C=blk a\/blk C=some w.heap.size):=by
 obtain⟨i,F,Q,x,E⟩:=jJ v;have p:(Value.slice a n c).ownBlock=blk a:=by cases a <;> rfl
 rcases A with _|K
 · have N:m=0:=by
    rcases fj m with h0|h0
    · exact h0
    · obtain⟨b,o,h,_⟩:=f.rd h0;cases h
   subst N;have O:news=[]:=fa f.len;subst O;refine⟨a,c,w,?_,by simpa using d,l7 w _,.inl rfl⟩;rcases d.2 with⟨q,rfl⟩|⟨g,B,D,q,_,_,H,_⟩
   · simp only[eY]at q;obtain⟨rfl,_,rfl⟩:=q;simp[Builtin.append_,fQ I,sizeOf,typeInfo,F,Builtin.lenOf,Builtin.firstCells]
   · simp only[eY]at q;obtain⟨rfl,_,rfl⟩:=q;simp[Builtin.append_,fQ I,sizeOf,typeInfo,F,Builtin.lenOf,Builtin.firstCells,H,storeCells]
 · have l:∀ j u,news[j]?=some u->w.cell? (K.add j)=some u:=by
    intro j u hu;have R:j<news.length:=by
     rcases fL j news.length with h|h
     · exact h
     · simp[fi h]at hu
    have G:j<m:=by have:=f.len;omega
    obtain⟨b,o,h,M⟩:=f.rd (by omega);injection h with h;subst h;have h2:=M j G;have h3:news.getD j undef=u:=by rw[gqq,hu];rfl
    rw[h3]at h2;rw[<-h2];unfold Addr.add;by_cases h0:j=0 <;> simp[h0]
   obtain⟨S,y,r,h2,h3,_,h5⟩:=run_append_own_at (P:=P) w base t ty e i z 1 bytes I F Q x E J (by omega) (.slice a n c) n xs d K m cx news (by have:=f.len;omega) l h1 h63 k s;rcases h2.2 with⟨q,h0⟩|⟨g,B,D,q,_⟩
   · subst q;refine⟨none,0,y,by rw[r,h0],?_,by rw[<-p];exact h3,by rw[<-p];exact h5⟩;unfold Own;rw[h0]at h2 |-;exact h2
   · subst q;exact⟨_,B,y,r,h2,by rw[<-p];exact h3,by rw[<-p];exact h5⟩
theorem Uf{K:Act->World->Prop} 
 (y:o.op = .call { callee := .builtin .append,args:=#[s,x],argTypes:=#[t,t] })
 {e:TypeId} {z:Value} {bytes base:Nat} {a:Option Addr} {n c:Nat} {xs:List Value} {A:Option Addr} {m v:Nat} {news:List Value}
 (C:P.underlying t=some (.slice e)) (g:AR P e z bytes) (r:z.cells.size=1) (B:f.eval s = .slice a n c) (j:Own w base e a n c xs) (D:f.eval x = .slice A m v) (q:Sl w A m v news)
 (h1:∀ u∈news,u.oneCell'=true) (h63:n+m<=maxLen) (b:(n+m)*bytes<=140737488355328) (d:base<=w.heap.size)
 (h:∀ i p l,Own l base e i (n+m) p (xs ++ news)->w.grownBy l (blk a)->(blk i=blk a\/blk i=some w.heap.size)->K (f.put o.dst (.slice i (n+m) p)) l):o.wp P f w K Q:=by
 obtain⟨i,p,l,k,h2,h3,h4⟩:=Ou (P:=P) (ty:=o.type) C g r j q h1 h63 b d;unfold Oper.wp execOp;simp only[y,resolve,invoke,builtin,fq,fO,eX,iB,gM,ix,B,D,k];exact h i p l h2 h3 h4
theorem AU(p:o.guard=none)
 (B:o.op = .call { callee := .builtin .append,args:=#[s,x],argTypes:=#[t,t] })
 {e:TypeId} {z:Value} {bytes base:Nat} {a:Option Addr} {n c:Nat} {xs:List Value} {A:Option Addr} {m v:Nat} {news:List Value}
 (D:P.underlying t=some (.slice e)) (g:AR P e z bytes) (r:z.cells.size=1) (C:f.eval s = .slice a n c) (j:Own w base e a n c xs) (E:f.eval x = .slice A m v) (q:Sl w A m v news)
 (h1:∀ u∈news,u.oneCell'=true) (h63:n+m<=maxLen) (b:(n+m)*bytes<=140737488355328) (d:base<=w.heap.size)
 (h:∀ i l k,Own k base e i (n+m) l (xs ++ news)->w.grownBy k (blk a)->(blk i=blk a\/blk i=some w.heap.size)->wpList P ops Q rest (f.put o.dst (.slice i (n+m) l)) k) :
 wpList P ops Q (o :: rest) f w :=
 gu p fun _ y=>Uf B D g r C j E q h1 h63 b d fun i l k h2 h3 h4=>y _ _ (h i l k h2 h3 h4)
theorem Ug(k:P.underlying t=some (.slice e))(a:AR P e z bytes)(f:z.cells=#[z])(g:bytes*n<=281474976710656)(h63:n<=maxLen) :
 ∃ c,(Instr.makeSlice t (.int .i64 n) (.int .i64 n)).run P w = .ok (.slice (some ⟨w.heap.size,0,none⟩) n n) c/\Own c w.heap.size e (some ⟨w.heap.size,0,none⟩) n n (List.replicate n z)/\Ext w c:=by
 obtain⟨i,j,l,b,d⟩:=jJ a;obtain⟨c,h1,h2,h3⟩:=run_make_full (P:=P) w w.heap.size t e i z 1 k j l b .i64 .i64 n (by rw[d];exact g) h63 (lrf _);refine⟨c,h1,?_,(Ext.refl w).grown h3 (by simp)⟩;rw[iN,f,toList_madeCells_one]at h2;exact h2
theorem CJ{l c:Operand}(q:o.guard=none)(i:o.op=Op.makeSlice t l c)
 {e:TypeId} {z:Value} {bytes n:Nat} (s:P.underlying t=some (.slice e)) (a:AR P e z bytes) (j:z.cells=#[z]) (r:f.eval l = .int .i64 n) (p:f.eval c = .int .i64 n)
 (m:bytes*n<=281474976710656) (h63:n<=maxLen)
 (k:∀ d,Own d w.heap.size e (some ⟨w.heap.size,0,none⟩) n n (List.replicate n z)->Ext w d->wpList P ops Q rest (f.put o.dst (.slice (some ⟨w.heap.size,0,none⟩) n n)) d) :
 wpList P ops Q (o :: rest) f w:=by
 refine gu q fun K g => ?_;obtain⟨d,b,h2,h3⟩:=Ug (P:=P) (w:=w) s a j m h63;unfold Oper.wp execOp;simp only[i,fq,fO,eX,r,p,b,Oper.upon];exact g _ _ (k d h2 h3)
end
def Agg(P:Program)(ty:TypeId)(n:Nat):Prop :=
 (P.underlying ty).map (fun d=>match d with | .struct _ | .array _ _=>true | _=>false)=some true/\(P.info? ty).map (·.size)=some n
theorem Agg.parts(h:Agg P ty n) :
 ∃ d,P.underlying ty=some d/\(match d with | .struct _ | .array _ _=>true | _=>false)=true/\(P.info? ty).map (·.size)=some n:=by
 obtain⟨h1,h2⟩:=h;cases hu:P.underlying ty with
 | none=>rw[hu]at h1;cases h1
 | some d =>
  rw[hu]at h1;exact⟨d,rfl,by simpa using h1,h2⟩
theorem Ce(w:World)(g:Nat)(cs:Array Value):w.grownBy (w.setRow g cs) (some g):=by
 refine⟨rfl,rfl,rfl,by simp[World.setRow],fun k _ a => ?_⟩;simp only[World.setRow,iS];rw[fl (by rintro rfl;exact a rfl)]
theorem CZ(h:Arr w g t cs)(vs:List Value):Arr (w.setRow g vs.toArray) g t vs:=by
 unfold Arr at h |-;simp[World.setRow,iS,h]
section
variable {P:Program} {w:World}
theorem Ha(a:Agg P ty cs.length)(h:Arr w g t cs) :
 (Instr.loadAt ty (.pointer (some ⟨g,0,none⟩))).run P w = .ok (.agg cs.toArray) w:=by
 obtain⟨d,hu,b,c⟩:=a.parts;have:=run_loadVar_row (P:=P) w g t ty cs.toArray (0,0) d h hu (by cases d <;> first | rfl | exact absurd b (by simp)) (by simpa using c);simp[Instr.loadAt,Instr.sureAddr,this]
theorem F6(a:Agg P ty vs.length)(h:Arr w g t cs)(c:cs.length=vs.length)(h1:∀ v∈vs,v.oneCell'=true) :
 (Instr.storeAt ty (.pointer (some ⟨g,0,none⟩)) (.agg vs.toArray)).run P w = .ok () (w.setRow g vs.toArray):=by
 obtain⟨d,hu,e,b⟩:=a.parts;have:=run_storeVar_row (P:=P) w g t ty cs.toArray vs.toArray h (by simpa using b) (by simpa using c) (by simpa using h1);simp[Instr.storeAt,Instr.sureAddr,this]
theorem CK(b:o.guard=none)(e:o.op = .load ty x)
 {g:Nat} {t:TypeId} {cs:List Value} (d:Agg P ty cs.length) (i:f.eval x = .pointer (some ⟨g,0,none⟩)) (h:Arr w g t cs)
 (c:wpList P ops Q rest (f.put o.dst (.agg cs.toArray)) w):wpList P ops Q (o :: rest) f w:=by
 refine gu b fun K a => ?_;unfold Oper.wp execOp;simp only[e,i,fq,Ha d h,eX,fO,Oper.upon];exact a _ _ c
theorem Aa(b:o.guard=none)(k:o.op = .store ty x y)
 {g:Nat} {t:TypeId} {cs vs:List Value} {va:Array Value} (l:f.eval x = .pointer (some ⟨g,0,none⟩)) (m:f.eval y = .agg va) (c:va=vs.toArray) (i:Agg P ty vs.length) (h:Arr w g t cs)
 (j:cs.length=vs.length) (h1:∀ v∈vs,v.oneCell'=true)
 (e:∀ d,Arr d g t vs->w.grownBy d (some g)->wpList P ops Q rest (f.put o.dst undef) d):wpList P ops Q (o :: rest) f w:=by
 subst c;refine gu b fun K a => ?_;unfold Oper.wp execOp;simp only[k,l,m,fq,F6 i h j h1,eX,fO,Oper.upon];exact a _ _ (e _ (CZ h vs) (Ce w g _))
theorem Jz(l:P.underlying t=some (.array m e))(a:AR P e z bytes)(j:k<=m) :
 (Instr.sliceAt t (.pointer (some ⟨g,0,none⟩)) none (some (.int .i64 k)) none).run P w = .ok (.slice (some ⟨g,0,none⟩) k m) w:=by
 obtain⟨i,f,n,b,d⟩:=jJ a;have c:(if m=0 then(⟨g,0,none⟩:Addr)else(⟨g,0,none⟩:Addr).add 0)=⟨g,0,none⟩:=by
  split <;> rfl
 simp[Instr.sliceAt,Instr.sliceBounds,Instr.sliceBound,fQ l,asIntOf,sizeOf,typeInfo,f,j,Instr.sureAddr,c]
theorem Aq{b:Func}{p:Tmp}(i:b.results=#[.cell p ty]){a:Array Value}{g:Nat}{t:TypeId}{cs:List Value}(c:Agg P ty cs.length)
 (hp:a.getD p undef = .pointer (some ⟨g,0,none⟩)) (h:Arr w g t cs):(results b a).run P w = .ok (.agg cs.toArray) w:=by
 obtain⟨d,hu,e,f⟩:=c.parts;exact results_cell_row i a w g t cs.toArray (0,0) d hp h hu (by cases d <;> first | rfl | exact absurd e (by simp)) (by simpa using f)
theorem Uh{o l dc c:Nat}(y:P.underlying dT=some (.slice e))(f:AR P e z bytes)
 (h:Arr w g t cur) (x:Sl w A m c cs) (G:m<=l) (s:o+m<=cur.length) (h1:∀ v∈cs,v.oneCell'=true) :
 ∃ r,(Builtin.copy_ #[dT,sT] ty #[.slice (some ⟨g,o,none⟩) l dc,.slice A m c]).run P w = .ok (goInt m) r/\Arr r g t (cur.take o ++ cs ++ cur.drop (o+m))/\w.grownBy r (some g):=by
 obtain⟨i,F,I,k,D⟩:=jJ f;have p:(P.info? e).map (·.size)=some 1:=by simp[F,k]
 have d:=x.len;by_cases h0:m=0
 · subst h0;have:cs=[]:=fa d;subst this;refine⟨w,run_copy_none w dT sT ty e _ _ l dc 0 c y p (by simp),?_,⟨rfl,rfl,rfl,lrf _,fun _ _ _=>rfl⟩⟩;simpa using h
 · obtain⟨b,q,C,E⟩:=x.rd (by omega);subst C;have n:m.min l=m:=iF G
   have:=run_copy_row (P:=P) w dT sT ty e g o l dc ⟨b,q,none⟩ m c cur.toArray t cs y p h (by rw[n];exact d) (by
    intro j v B;have H:j<cs.length:=by
     rcases fL j cs.length with h|h
     · exact h
     · simp[fi h]at B
    have h2:=E j (by omega);rw[gqq,B]at h2;rw[<-fC (a:=v) (b:=undef),<-h2.symm.symm];unfold Addr.add
    by_cases h3:j=0 <;> simp[h3]at h2 |- <;> exact h2) (by simp;omega) h1
   refine⟨_,?_,CZ h _,Ce w g _⟩;rw[this,d]
theorem Rt(n:o.guard=none)
 (C:o.op = .call { callee := .builtin .copy,args:=#[d,s],argTypes:=#[dT,sT] })
 {e:TypeId} {z:Value} {bytes g p r dc m c:Nat} {A:Option Addr} {t:TypeId} {a cs:List Value} (E:P.underlying dT=some (.slice e)) (b:AR P e z bytes)
 (y:f.eval d = .slice (some ⟨g,p,none⟩) r dc) (q:f.eval s = .slice A m c)
 (h:Arr w g t a) (D:Sl w A m c cs) (B:m<=r) (i:p+m<=a.length) (h1:∀ v∈cs,v.oneCell'=true)
 (x:∀ k,Arr k g t (a.take p ++ cs ++ a.drop (p+m))->w.grownBy k (some g)->wpList P ops Q rest (f.put o.dst (goInt m)) k):wpList P ops Q (o :: rest) f w:=by
 refine gu n fun K l => ?_;obtain⟨k,j,h2,h3⟩:=Uh (P:=P) (ty:=o.type) (sT:=sT) (dc:=dc) E b h D B i h1;unfold Oper.wp execOp;simp only[C,resolve,invoke,builtin,fq,fO,eX,iB,gM,ix,y,q,j,Oper.upon];exact l _ _ (x k h2 h3)
end
def Bk(k:IntKind)(x:Nat):Value := .int k (x:Int)
def SlN(k:IntKind)(w:World)(a:Option Addr)(n c:Nat)(xs:List Nat):Prop:=Sl w a n c (xs.map (Bk k))
def BC(k:IntKind)(w:World)(g:Nat)(t:TypeId)(xs:List Nat):Prop:=Arr w g t (xs.map (Bk k))
section
variable {k:IntKind} {w w':World} {a:Option Addr} {n c:Nat} {xs:List Nat}
theorem SlN.ext(h:SlN k w a n c xs)(e:Ext w w'):SlN k w' a n c xs:=Sl.ext h e
theorem SlN.len(h:SlN k w a n c xs):xs.length=n:=by have:=Sl.len h;simpa using this
theorem SlN.le(h:SlN k w a n c xs):n<=9223372036854775807:=by
 have h1:=Sl.cap h;have h2:=Sl.max h;unfold maxLen at h2;omega
theorem SlN.cap(h:SlN k w a n c xs):n<=c:=Sl.cap h
theorem SlN.nil(k:IntKind)(w:World):SlN k w none 0 0 []:=Sl.nil w
theorem SlN.at(h:SlN k w a n c xs){j:Nat}(m:j<n) :
 ∃ b d,a=some ⟨b,d,none⟩/\∀ i,i<n->w.cell? ⟨b,d+i,none⟩=some (.int k ((xs.getD i 0:Nat):Int)):=by
 obtain⟨b,d,f,g⟩:=Sl.rd h (by omega);refine⟨b,d,f,fun i l => ?_⟩;rw[g i l];have o:=h.len;have e:i<xs.length:=by omega
 simp[e,Bk]
theorem SlN.upto(h:SlN k w a n c xs){m:Nat}(b:m<=n):SlN k w a m c (xs.take m):=by
 have:=Sl.upto h b
 rwa[<-lR]at this
theorem Sl.keptR(h:Sl w a n c cs)(j:w.grownBy w' row)(d:blk a=none\/blk a≠row):Sl w' a n c cs:=by
 refine⟨h.len,h.cap,h.max,fun h0 => ?_⟩;obtain⟨b,e,rfl,g⟩:=h.rd h0;refine⟨b,e,rfl,fun i k => ?_⟩;have h1:=g i k;have f:b<w.heap.size:=gF w ⟨b,e+i,none⟩ h1;rcases d with d|d
 · simp[blk]at d
 · rw[ir (w:=w) (j.block b f d),h1]
theorem SlN.kept(h:SlN k w a n c xs)(d:w.grownBy w' row)(b:blk a=none\/blk a≠row):SlN k w' a n c xs:=Sl.keptR h d b
theorem SlN.fresh(h:SlN k w0 a n c xs){g:Nat}(i:w0.heap.size<=g)(h0:0<n):blk a≠some g:=by
 obtain⟨b,d,rfl,e⟩:=Sl.rd h h0;have f:b<w0.heap.size:=gF w0 ⟨b,d+0,none⟩ (e 0 h0);simp[blk];omega
end
section
variable {k:IntKind} {w w':World} {g:Nat} {t:TypeId} {xs:List Nat}
theorem BC.lt(h:BC k w g t xs):g<w.heap.size:=Arr.lt h
theorem BC.cell(h:BC k w g t xs){i:Nat}(hi:i<xs.length):w.cell? ⟨g,i,none⟩=some (.int k ((xs.getD i 0:Nat):Int)):=by
 rw[Arr.cell h (by simpa using hi)];simp[hi,Bk]
theorem BC.frozen(h:BC k w g t xs)(i:Nat):w.frozen? ⟨g,i,none⟩=false:=Arr.frozen h i
theorem BC.set(h:BC k w g t xs)(i:Nat)(v:Nat):BC k (w.setCell ⟨g,i,none⟩ (.int k (v:Int))) g t (xs.set i v):=by
 have:=Arr.set h i (Bk k v)
 rwa[<-ju]at this
theorem BC.drewN(h:BC k w g t xs)(n:Nat):BC k (w.drewN n) g t xs:=Arr.drewN h n
theorem BC.ext(h:BC k w g t xs)(e:Ext w w'):BC k w' g t xs:=Arr.ext h e
theorem BC.alloc(h:BC k w g t xs)(o:Obj):BC k (w.alloc o) g t xs:=Arr.alloc h o
theorem BC.kept{row:Option Nat}(h:BC k w g t xs)(a:w.grownBy w' row)(b:some g≠row):BC k w' g t xs:=Arr.kept h a b
theorem BC.part(h:BC k w g t xs){o n c:Nat}(e:o+n<=xs.length)(a:n<=c)(d:c<=maxLen):SlN k w (some ⟨g,o,none⟩) n c ((xs.drop o).take n):=by
 refine⟨by simp;omega,a,d,fun _=>⟨g,o,rfl,fun i b => ?_⟩⟩;rw[h.cell (i:=o+i) (by omega)];have h1:i<n:=b;have h2:o+i<xs.length:=by omega
 simp[h1,h2,Bk]
theorem BC.sl(h:BC k w g t xs){n c:Nat}(d:n<=xs.length)(a:n<=c)(b:c<=maxLen):SlN k w (some ⟨g,0,none⟩) n c (xs.take n):=by
 have:=h.part (o:=0) (n:=n) (by omega) a b;simpa using this
end
theorem Own.arr(h:Own w base e (some ⟨g,0,none⟩) n n cs):Arr w g e cs:=by
 have k:=h.len;rcases h.2 with⟨a,_⟩|⟨j,c,b,a,_,d,_,_,f,i⟩
 · simp at a
 · simp only[eY,fc,gV,iL,kX]at a;obtain⟨rfl,rfl⟩:=a;unfold Arr;rw[d];have:b.toList=cs:=by
    rw[<-i];exact(eR (by simp[f])).symm
   rw[<-this]
structure Num(B:Nat)(xs:List Nat)(v:Nat):Prop where
 bnd:W.bnd B xs
 nrm:W.nrm xs
 val:W.val B xs=v
theorem Num.nil(B:Nat):Num B [] 0:=⟨fun x a=>(by simp at a),W.nrm_nil,rfl⟩
theorem Num.trim{B:Nat}{xs:List Nat}{v:Nat}(h:W.bnd B xs)(a:W.val B xs=v):Num B (W.trim xs) v:=⟨W.bnd_trim h,W.trim_nrm xs,by rw[W.trim_val];exact a⟩
def PU(k:IntKind)(B:Nat)(w:World)(v:Nat)(e:Ending)(w':World):Prop:=∃ a n c xs,e = .returned (.slice a n c)/\Ext w w'/\SlN k w' a n c xs/\Num B xs v
def Am(k:IntKind)(w:World)(base:Nat)(e:TypeId)(g n c:Nat)(xs:List Nat):Prop:=Own w base e (some ⟨g,0,none⟩) n c (xs.map (Bk k))
section
variable {k:IntKind} {w w':World} {base:Nat} {e:TypeId} {g n c:Nat} {xs:List Nat}
theorem Am.len(h:Am k w base e g n c xs):xs.length=n:=by have:=Own.len h;simpa using this
theorem Am.le(h:Am k w base e g n c xs):n<=9223372036854775807:=by
 have h1:=Own.cap h;have h2:=(Own.sl h).max;unfold maxLen at h2;omega
theorem Am.lo(h:Am k w base e g n c xs):base<=g:=(Own.lt h (k:=g) rfl).1
theorem Am.lt(h:Am k w base e g n c xs):g<w.heap.size:=(Own.lt h (k:=g) rfl).2
theorem Am.cell(h:Am k w base e g n c xs){i:Nat}(hi:i<n):w.cell? ⟨g,i,none⟩=some (.int k ((xs.getD i 0:Nat):Int)):=by
 have b:=h.len;have a:i<xs.length:=by omega
 rw[Own.cellAt h hi];simp[a,Bk]
theorem Am.frozen(h:Am k w base e g n c xs)(i:Nat):w.frozen? ⟨g,i,none⟩=false:=Own.frozenAt h i
theorem Am.set(h:Am k w base e g n c xs)(i v:Nat):Am k (w.setCell ⟨g,i,none⟩ (.int k (v:Int))) base e g n c (xs.set i v):=by
 have:=Own.stored h i (Bk k v)
 rwa[<-ju]at this
theorem Am.ext(h:Am k w base e g n c xs)(x:Ext w w'):Am k w' base e g n c xs:=Own.ext h x
theorem Am.drewN(h:Am k w base e g n c xs)(m:Nat):Am k (w.drewN m) base e g n c xs:=Own.drewN h m
theorem Am.mono{a:Nat}(h:Am k w base e g n c xs)(b:a<=base):Am k w a e g n c xs:=Own.mono h b
theorem Am.kept{row:Option Nat}(h:Am k w base e g n c xs)(b:w.grownBy w' row)(a:some g≠row):Am k w' base e g n c xs:=Own.kept h b (Or.inr a)
theorem Am.sl(h:Am k w base e g n c xs):SlN k w (some ⟨g,0,none⟩) n c xs:=Own.sl h
theorem Am.of_zeros(h:Own w base e (some ⟨g,0,none⟩) n c (List.replicate n (.int k 0))):Am k w base e g n c (List.replicate n 0):=by
 unfold Am;rw[jo];exact h
theorem Am.arr(h:Am k w base e g n n xs):BC k w g e xs:=Own.arr h
theorem BC.own(h:BC k w g e xs)(a:base<=g)(b:xs.length<=maxLen):Am k w base e g xs.length xs.length xs:=by
 refine⟨by simp,Or.inr ⟨g,xs.length,(xs.map (Bk k)).toArray,rfl,a,h,lrf _,b,by simp,?_⟩⟩;rw[iN];exact eR (by simp)
end
theorem C0(w:World)(row:Option Nat):w.grownBy w row:=l7 w row
theorem Ex{a c:World}(h:a.grownBy b row)(k:b.grownBy c row):a.grownBy c row :=
 ⟨k.os.trans h.os,k.tape.trans h.tape,k.output.trans h.output,eW h.size k.size,fun i e d=>(k.block i (fG e h.size) d).trans (h.block i e d)⟩
theorem CW{a c:World}(h:a.grownBy b row)(k:Ext b c):a.grownBy c row :=
 ⟨k.os.trans h.os,k.tape.trans h.tape,k.output.trans h.output,eW h.size k.size,fun i e d=>(k.block (fG e h.size)).trans (h.block i e d)⟩
theorem Kg{a:World}(h:a.grownBy b (some g))(j:Nat)(u:Value):a.grownBy (b.setCell ⟨g,j,none⟩ u) (some g):=Ex h (Ab b g j u)
theorem Ext.grownR(h:Ext w w1)(a:w1.grownBy w' (some g))(c:w.heap.size<=g):Ext w w':=h.grown a (fun k b=>by simp only[fc]at b;omega)
theorem DK(h:w.grownBy w' none):Ext w w':=(Ext.refl w).grown h (fun k a=>by cases a)
inductive Ty where
 | eq (c:Value)
 | pr (p:Value->World->Prop)
def Ty.ok:Ty->Value->World->Prop
 | .eq c,v,_=>v=c
 | .pr p,v,w=>p v w
structure Hd where
 mu:Bool
 ty:Ty
 cons:Option Nat
def he(c:Value):Hd:=⟨false,.eq c,none⟩
def hp(p:Value->World->Prop):Hd:=⟨false,.pr p,none⟩
def hu(k:Nat)(p:Value->World->Prop):Hd:=⟨false,.pr p,some k⟩
def hmp(p:Value->World->Prop):Hd:=⟨true,.pr p,none⟩
def hmu(k:Nat)(p:Value->World->Prop):Hd:=⟨true,.pr p,some k⟩
def Bq(o:Oper):List Nat:=(o.after.toList.filter (Region.binds .any ·)).map (·.on)
def Bf(ops:Array Oper)(j:Nat):Option Tmp:=(ops[j]?).bind (·.dst)
def Ov(ops:Array Oper)(o:Oper)(t:Tmp):Option Nat:=(Bq o).find? (fun j=>Bf ops j == some t)
def anc(ops:Array Oper):Nat->List Nat->List Nat
 | 0,l=>l
 | f+1,l=>l ++ anc ops f (l.flatMap fun j=>((ops[j]?).map Bq).getD [])
def Ru(o:Oper):List Tmp:=o.op.operands.toList.filterMap fun | .tmp t=>some t | _=>none
def EW(ops:Array Oper)(o:Oper):List Tmp:=Ru o ++ (match o.guard with | some (j,_)=>(Bf ops j).toList | none=>[])
def H4(ops:Array Oper)(o:Oper):Bool:=match o.guard with | some (j,_)=>(Bq o).contains j && (Bf ops j).isSome | none=>true
def Cu(ops:Array Oper)(j:Nat):List Nat:=((ops[j]?).map Bq).getD []
def Nu(ops:Array Oper)(cons:List (Option Nat))(n size:Nat)(i:Nat)(o:Oper):Bool :=
 (Bq o).all (· < i) && (o.dst.all (· < size)) && H4 ops o &&
 (EW ops o).all (fun t=>(List.range n).all fun j=>Bf ops j != some t || j == i || (Bq o).contains j || (Cu ops j).contains i) &&
 (List.range n).all (fun j=>j == i || Bf ops j != o.dst || o.dst == none) &&
 (Bq o).all (fun j=>match (cons[j]?).bind id with | some k=>k == i || (Cu ops k).contains i || !((EW ops o).any fun t=>Bf ops j == some t) | none=>true)
def hd0:Hd:=⟨false,.eq undef,none⟩
def A7(hs:List Hd)(j:Nat):Hd:=hs.getD j hd0
def Ey(ops:Array Oper)(hs:List Hd)(a0:Act)(o:Oper)(ρ:Operand->Value)(w:World):Operand->Prop
 | .tmp t=>match Ov ops o t with
  | some j=>match (A7 hs j).ty with
   | .eq c=>ρ (.tmp t)=c
   | .pr p=>∃ v,ρ (.tmp t)=v/\p v w
  | none=>ρ (.tmp t)=a0.eval (.tmp t)
 | _=>True
def Cf(ops:Array Oper)(hs:List Hd)(a0:Act)(o:Oper)(ρ:Operand->Value)(w:World):List Operand->Prop
 | []=>True
 | x :: r=>Ey ops hs a0 o ρ w x/\Cf ops hs a0 o ρ w r
structure Dd(ρ:Operand->Value):Prop where
 const:∀ v,ρ (.const v)=v
 global:∀ g,ρ (.global g) = .pointer (some ⟨g,0,none⟩)
 func:∀ f,ρ (.func f) = .func (.func f) #[] #[]
theorem Nv(a:Act):Dd a.eval:=⟨fun _=>rfl,fun _=>rfl,fun _=>rfl⟩
def La(P:Program)(R:Value->World->Prop):Result Next->Prop
 | .ok (.value u) w'=>R u w'
 | .ok .skip w'=>R undef w'
 | .ok (.enter f args) w'=>Calls P f args w' (fun e w''=>∃ u,e = .returned u/\R u w'')
 | _=>False
def Bg(hs:List Hd)(o:Oper):Option Bool :=
 match o.guard with
 | none=>some true
 | some (j,b)=>match (A7 hs j).ty with
  | .eq (.bool c)=>some (c == b)
  | .eq (.tuple _)=>some false
  | _=>none
def C1(ops:Array Oper)(hs:List Hd)(i:Nat)(o:Oper)(j:Nat):Bool :=
 j != i && (match (A7 hs j).ty with | .eq _=>false | .pr _=>true) && !(anc ops 3 (Cu ops j)).contains i &&
 !(match (A7 hs j).cons with | some k=>k == i || (anc ops 3 (Bq o)).contains k | none=>false)
def Hb(ops:Array Oper)(hs:List Hd)(i:Nat)(o:Oper)(w w':World):List Nat->Prop
 | []=>True
 | j :: r=>(if C1 ops hs i o j then ∀ v,(A7 hs j).ty.ok v w->(A7 hs j).ty.ok v w' else True)/\Hb ops hs i o w w' r
def Mk(C:World->Prop)(ops:Array Oper)(hs:List Hd)(i:Nat)(o:Oper)(h:Hd)(w:World)(u:Value)(w':World):Prop :=
 match h.ty with
 | .eq c=>w'=w/\u=c
 | .pr p=>if h.mu then C w'/\Hb ops hs i o w w' (List.range hs.length)/\p u w' else Ext w w'/\p u w'
def obl(P:Program)(C:World->Prop)(ops:Array Oper)(hs:List Hd)(a0:Act)(i:Nat)(o:Oper)(h:Hd):Prop :=
 match Bg hs o with
 | some true=>∀ ρ w,Dd ρ->C w->Cf ops hs a0 o ρ w o.op.operands.toList->La P (Mk C ops hs i o h w) ((execOp ρ o).run P w)
 | some false=>∀ w,C w->h.ty.ok undef w
 | none=>False
def Nw(P:Program)(C:World->Prop)(ops:Array Oper)(hs:List Hd)(a0:Act):Nat->List Oper->List Hd->Prop
 | _,_,[]=>True
 | i,o :: os,h :: r=>obl P C ops hs a0 i o h/\Nw P C ops hs a0 (i+1) os r
 | _,[],_ :: _=>False
theorem Rv{t:List Hd}{a:Act}(f:H4 ops o=true)(l:∀ j∈Bq o,∀ c,(A7 t j).ty = .eq c->∀ d,Bf ops j=some d->a.tmps.getD d undef=c):∀ b,Bg t o=some b->Region.wanted o (yielded ops a.tmps)=b:=by
 intro b e;unfold Bg at e;unfold Region.wanted;cases r:o.guard with
 | none =>
  rw[r]at e;simpa using e
 | some g =>
  obtain⟨j,w⟩:=g;rw[r]at e;simp only at e |-;unfold H4 at f;rw[r]at f;simp only[gJ,jZ]at f;obtain⟨s,q⟩:=f;obtain⟨d,v⟩:=gD.1 q;have n:(ops[j]?).bind (·.dst)=some d:=v;cases i:(A7 t j).ty with
  | pr p=>rw[i]at e;cases e
  | eq c =>
   rw[i]at e;have k:=l j s c i d v;rw[jy]at k;unfold yielded;rw[n,jF];cases c with
   | bool c =>
    simp only[fc]at e;have h1:a.tmps[d]?=some (.bool c):=by
     cases m:a.tmps[d]? with
     | none=>rw[m]at k;cases k
     | some y=>rw[m]at k;simpa using k
    rw[h1,<-e];cases c <;> cases w <;> rfl
   | tuple xs =>
    simp only[fc]at e;rw[<-e];cases m:a.tmps[d]? with
    | none=>rfl
    | some y =>
     rw[m,fC]at k;rw[k];rfl
   | _=>cases e
def F7(w:World)(K:Act->Prop):List Oper->List Hd->Act->Prop
 | o :: os,h :: r,a=>match h.ty with
  | .eq c=>F7 w K os r (a.put o.dst c)
  | .pr p=>match h.cons with
   | none=>∀ v,p v w->F7 w K os r (a.put o.dst v)
   | some _=>∀ v,F7 w K os r (a.put o.dst v)
 | _,_,a=>K a
def SX(h:Hd):Prop:=match h.ty with | .eq _=>True | .pr p=>∀ v w w',Ext w w'->p v w->p v w'
def IP:List Hd->Prop
 | []=>True
 | h :: r=>SX h/\IP r
/-! ### Soundness -/
section
variable {P:Program} {ops:Array Oper} {hs:List Hd} {a0:Act} {C:World->Prop} {Q:Exit->Act->World->Prop}
def Bo(ops:Array Oper)(j:Nat)(a:Act):Value:=match Bf ops j with | some d=>a.tmps.getD d undef | none=>undef
structure Rw(ops:Array Oper)(hs:List Hd)(a0:Act)(C:World->Prop)(listed:Array Bool)(a:Act)(w:World):Prop where
 size:listed.size=ops.size
 tailF:∀ j,hs.length<=j->listed.getD j false=false
 closed:∀ j,listed.getD j false=true->∀ p∈Cu ops j,listed.getD p false=true
 world:C w
 defers:a.defers=a0.defers
 tmps:a.tmps.size=a0.tmps.size
 frame:∀ t,(∀ j,j<hs.length->listed.getD j false=true->Bf ops j≠some t)->a.tmps.getD t undef=a0.tmps.getD t undef
 facts:∀ j,j<hs.length->listed.getD j false=true->(∀ k,(A7 hs j).cons=some k->listed.getD k false=false)->∃ v,(A7 hs j).ty.ok v w/\∀ d,Bf ops j=some d->a.tmps.getD d undef=v
 values:∀ j c,j<hs.length->listed.getD j false=true->(A7 hs j).ty = .eq c->∀ d,Bf ops j=some d->a.tmps.getD d undef=c
theorem DL{listed:Array Bool}(a:∀ j,listed.getD j false=true->∀ p∈Cu ops j,listed.getD p false=true) :
 ∀ (f:Nat) (l:List Nat),(∀ j∈l,listed.getD j false=true)->∀ j∈anc ops f l,listed.getD j false=true
 | 0,_,h,j,hj=>h j hj
 | f+1,l,h,j,hj=>by
  simp only[anc,fo]at hj;rcases hj with hj|hj
  · exact h j hj
  · refine DL a f _ ?_ j hj;intro k hk;rw[List.mem_flatMap]at hk;obtain⟨m,hm,hk⟩:=hk;exact a m (h m hm) k hk
theorem Kh :j∈Bq o<->∃ e∈o.after,Region.binds .any e=true/\e.on=j:=by
 simp[Bq,and_assoc]
theorem IQ{listed:Array Bool}(h:i∈Region.ready .any ops listed) :
 listed.getD i true=false/\∃ o,ops[i]?=some o/\∀ p∈Bq o,listed.getD p false=true:=by
 obtain⟨h0,o,c,a⟩:=l6.1 h;refine⟨h0,o,c,fun p hp => ?_⟩;obtain⟨e,he,b,rfl⟩:=Kh.1 hp;exact a e he b
theorem Rx{listed:Array Bool}(h0:listed.getD i true=false)(b:ops[i]?=some o)(h:∀ p∈Bq o,listed.getD p false=true):i∈Region.ready .any ops listed :=
 l6.2 ⟨h0,o,b,fun e he a=>h _ (Kh.2 ⟨e,he,a,rfl⟩)⟩
theorem Lb(a:ops[i]?=some o):Cu ops i=Bq o:=by simp[Cu,a]
theorem DM(a:ops[i]?=some o):Bf ops i=o.dst:=by simp[Bf,a]
theorem Ki{i:Nat}{o:Oper}{w a:World}:∀ {l:List Nat},Hb ops hs i o w a l->∀ j∈l,C1 ops hs i o j=true->∀ v,(A7 hs j).ty.ok v w->(A7 hs j).ty.ok v a
 | _ :: _,h,j,hj,hm,v,hv=>by
  rcases fS.1 hj with rfl|hj
  · have h1:=h.1;rw[fE hm]at h1;exact h1 v hv
  · exact Ki h.2 j hj hm v hv
theorem IR{i:Nat}{o:Oper}{w b:World}:∀ {l:List Nat},(∀ j∈l.filter (C1 ops hs i o),∀ v,(A7 hs j).ty.ok v w->(A7 hs j).ty.ok v b)->Hb ops hs i o w b l
 | [],_=>trivial
 | j :: r,h=>by
  refine⟨?_,IR fun k a=>h k (by
   rw[List.filter_cons];split
   · exact fX _ a
   · exact a)⟩
  by_cases hm:C1 ops hs i o j=true
  · rw[fE hm];exact h j (by rw[List.filter_cons,fE hm];simp)
  · rw[fl hm];trivial
theorem Nx(h:l.filter (C1 ops hs i o)=[]):Hb ops hs i o w w' l :=
 IR (by rw[h];intro j a;cases a)
theorem PV(h:l.filter (C1 ops hs i o)=[j])(b:∀ v,(A7 hs j).ty.ok v w->(A7 hs j).ty.ok v w'):Hb ops hs i o w w' l :=
 IR (by
  rw[h];intro k a;rw[eV]at a;subst a
  exact b)
theorem Kj:∀ {l:List Hd},IP l->∀ h∈l,SX h
 | _ :: _,hh,h,hm=>by
  rcases fS.1 hm with rfl|hm
  · exact hh.1
  · exact Kj hh.2 h hm
theorem SY{h:Hd}(a:SX h){v:Value}{w d:World}(e:Ext w d)(b:h.ty.ok v w):h.ty.ok v d:=by
 unfold SX at a;revert a b;cases h.ty with
 | eq c=>exact fun _ b=>b
 | pr p=>exact fun a b=>a v w d e b
theorem Lc{a:Act}{R:Value->World->Prop}{K:Act->World->Prop}(h:La P R ((execOp a.eval o).run P w))
 (c:∀ u b,R u b->K (a.put o.dst u) b):o.wp P a w K Q:=by
 unfold Oper.wp;generalize (execOp a.eval o).run P w=r at *
 cases r with
 | ok n b =>
  cases n <;> simp only[La]at h <;> simp only[Oper.upon]
  case value u=>exact c u b h
  case skip=>exact c undef b h
  case enter f args=>exact h.mono fun e d ⟨u,he,g⟩=>by subst he;exact c u d g
 | halt x b=>simp only[La]at h
theorem Ez{a:Act}{d t:Tmp}:(a.put (some d) v).tmps.getD t undef=if d=t/\d<a.tmps.size then v else a.tmps.getD t undef:=by
 simp only[Act.put,jy];by_cases h:d=t
 · subst h;by_cases h2:d<a.tmps.size
   · simp[h2]
   · simp[h2]
 · rw[je h];simp[h]
theorem IU{a:Act}{d:Option Tmp}:(a.put d v).tmps.size=a.tmps.size:=by cases d <;> simp[Act.put]
theorem IV{a:Act}{d:Option Tmp}:(a.put d v).defers=a.defers:=by cases d <;> rfl
def unl(listed:Array Bool):Nat->Nat
 | 0=>0
 | n+1=>unl listed n+(if listed.getD n false=true then 0 else 1)
theorem IW{listed:Array Bool}{i:Nat}:∀ {n:Nat},n<=i->unl (listed.setIfInBounds i true) n=unl listed n
 | 0,_=>rfl
 | n+1,h=>by rw[unl,unl,IW (by omega),lF false (by omega)]
theorem Ow{listed:Array Bool}{i:Nat}(b:i<listed.size)(a:listed.getD i false=false):∀ {n:Nat},i<n->unl (listed.setIfInBounds i true) n+1=unl listed n
 | 0,h=>by omega
 | n+1,h=>by
  rw[unl,unl];by_cases hi:i=n
  · subst hi;rw[IW (lrf _),a];have:(listed.setIfInBounds i true).getD i false=true:=by simp[b]
    rw[this];simp
  · rw[lF false hi,<-Ow b a (n:=n) (by omega)];omega
theorem IX{listed:Array Bool}:∀ {n:Nat},unl listed n=0->∀ j,j<n->listed.getD j false=true
 | 0,_,j,hj=>by omega
 | n+1,h,j,hj=>by
  rw[unl]at h;by_cases hj':j=n
  · subst hj';by_cases hx:listed.getD j false=true
    · exact hx
    · rw[fl hx]at h;omega
  · exact IX (n:=n) (by omega) j (by omega)
theorem Ld{listed:Array Bool}:∀ {n:Nat},unl listed n≠0->∃ j,j<n/\listed.getD j false=false/\∀ k,k<j->listed.getD k false=true
 | 0,h=>absurd rfl h
 | n+1,h=>by
  by_cases h0:unl listed n=0
  · refine⟨n,by omega,?_,fun k a=>IX h0 k a⟩;rw[unl,h0]at h;by_cases hx:listed.getD n false=true
    · rw[fE hx]at h;omega
    · simpa using hx
  · obtain⟨j,hj,h1,h2⟩:=Ld h0;exact⟨j,by omega,h1,h2⟩
theorem Ry(r:List Hd):∀ (a:List Oper) (b:Nat),Nw P C ops hs a0 b a r->∀ (k:Nat) (o:Oper),a[k]?=some o->k<r.length->obl P C ops hs a0 (b+k) o (r.getD k hd0):=by
 induction r with
 | nil=>intro a b _ k o _ d;simp at d
 | cons h r ih =>
  intro a b e k o c d;cases a with
  | nil=>simp at c
  | cons o' a =>
   cases k with
   | zero =>
    simp only[jQ,fc]at c;subst c;exact e.1
   | succ k =>
    have:=ih a (b+1) e.2 k o (by simpa using c) (by simpa using d);rw[i7,ie 1 k]at this;simpa using this
structure GL(ops:Array Oper)(cons:List (Option Nat))(n size:Nat)(i:Nat)(o:Oper):Prop where
 lt:∀ p∈Bq o,p<i
 dst:∀ d,o.dst=some d->d<size
 grd:H4 ops o=true
 look:∀ t∈EW ops o,∀ j,j<n->Bf ops j=some t->j=i\/j∈Bq o\/i∈Cu ops j
 apart:∀ j,j<n->j≠i->Bf ops j=o.dst->o.dst=none
 cons:∀ j∈Bq o,∀ k,(cons[j]?).bind id=some k->k=i\/i∈Cu ops k\/∀ t∈EW ops o,Bf ops j≠some t
theorem Ml{a:List (Option Nat)}{size:Nat}(h:Nu ops a n size i o=true):GL ops a n size i o:=by
 unfold Nu at h;simp only[gJ]at h;obtain⟨⟨⟨⟨⟨h1,h2⟩,h3⟩,h4⟩,h5⟩,h6⟩:=h;refine⟨?_,?_,h3,?_,?_,?_⟩
 · intro p hp;simpa using il.1 h1 p hp
 · intro d b;rw[b]at h2;simpa using h2
 · intro t g j c b;have:=il.1 (il.1 h4 t g) j (by simpa using c);simp only[kC,m5,ne_eq,lh,jZ]at this;rcases this with((h|h) | h) | h
   · exact absurd b h
   · exact Or.inl h
   · exact Or.inr (Or.inl h)
   · exact Or.inr (Or.inr h)
 · intro j c e b;have:=il.1 h5 j (by simpa using c);simp only[kC,m5,ne_eq,lh]at this;rcases this with(h|h) | h
   · exact absurd h e
   · exact absurd b h
   · exact h
 · intro j c k f;have:=il.1 h6 j c;rw[f]at this;simp only[kC,lh,jZ,lu,List.any_eq_false]at this;rcases this with(h|h) | h
   · exact Or.inl h
   · exact Or.inr (Or.inl h)
   · exact Or.inr (Or.inr h)
theorem Rz(a:j<hs.length):((hs.map (·.cons))[j]?).bind id=(A7 hs j).cons:=by
 simp[A7,a]
theorem Ny{t:Tmp}(h:Ov ops o t=some j):j∈Bq o/\Bf ops j=some t:=by
 have h1:=List.mem_of_find?_eq_some h;have h2:=List.find?_some h;exact⟨h1,by simpa using h2⟩
theorem Nz{t:Tmp}(h:Ov ops o t=none){j:Nat}(a:j∈Bq o):Bf ops j≠some t:=by
 have:=List.find?_eq_none.1 h j a;simpa using this
theorem Mm{o:Oper}{a:Operand->Value}{w:World}:∀ {l:List Operand},(∀ x∈l,Ey ops hs a0 o a w x)->Cf ops hs a0 o a w l
 | [],_=>trivial
 | x :: r,h=>⟨h x (by simp),Mm fun y b=>h y (by simp[b])⟩
theorem RA(a7:Nw P C ops hs a0 0 ops.toList hs)(ad:IP hs)(aa:∀ w n,Ext w n->C w->C n){listed:Array Bool}{a:Act}{w:World}
 (e:Rw ops hs a0 C listed a w) {i:Nat} (hi:i∈Region.ready .any ops listed) (a2:i<hs.length)
 (ac:∀ o,ops[i]?=some o->GL ops (hs.map (·.cons)) hs.length a0.tmps.size i o) {K:Act->World->Prop}
 (hK:∀ a' n,Rw ops hs a0 C (listed.setIfInBounds i true) a' n->K a' n):wpOp P ops Q i K a w:=by
 obtain⟨h0,o,V,L⟩:=IQ hi;have T:=ac o V;have a1:i<listed.size:=by
  rw[e.size];exact(gr.1 V).1
 have Z:listed.getD i false=false:=by
  simpa[a1]using h0
 have s:listed.getD i false≠true:=by rw[Z];simp
 have N:(listed.setIfInBounds i true).getD i false=true:=by simp[a1]
 have A:obl P C ops hs a0 i o (A7 hs i):=by
  have:=Ry hs ops.toList 0 a7 i o (by simpa using V) a2;simpa[A7]using this
 -- the operands
 have a8:Cf ops hs a0 o a.eval w o.op.operands.toList:=by
  refine Mm fun x hx => ?_;cases x with
  | tmp t =>
   have a6:t∈EW ops o:=by
    unfold EW Ru;rw[fo];left;rw[List.mem_filterMap];exact⟨_,hx,rfl⟩
   simp only[Ey];cases a5:Ov ops o t with
   | none =>
    simp only[Act.eval];refine e.frame t fun j g G m => ?_;rcases T.look t a6 j g m with h|h|h
    · subst h;exact s G
    · exact Nz a5 h m
    · exact s (e.closed j G i h)
   | some j =>
    obtain⟨S,O⟩:=Ny a5;have R:j<hs.length:=by have:=T.lt j S;omega
    have a3:=L j S;simp only;cases f:(A7 hs j).ty with
    | eq c=>exact e.values j c R a3 f t O
    | pr p =>
     obtain⟨v,y,X⟩:=e.facts j R a3 (by
      intro k B;have:=T.cons j S k (by rw[Rz R];exact B);rcases this with h|h|h
      · subst h;exact Z
      · by_cases D:listed.getD k false=true
        · exact absurd (e.closed k D i h) s
        · simpa using D
      · exact absurd O (h t a6))
     rw[f]at y;exact⟨v,X t O,y⟩
  | _=>trivial
 -- behind the operation
 have r:∀ u n,C n->(A7 hs i).ty.ok u n ->
  (∀ j,j<hs.length->j≠i->listed.getD j false=true->(∀ k,(A7 hs j).cons=some k->(listed.setIfInBounds i true).getD k false=false)->∀ v,(A7 hs j).ty.ok v w->(A7 hs j).ty.ok v n) ->
  Rw ops hs a0 C (listed.setIfInBounds i true) (a.put o.dst u) n:=by
  intro u n hC hu U;have F:∀ j,j<hs.length->j≠i->∀ d,Bf ops j=some d->(a.put o.dst u).tmps.getD d undef=a.tmps.getD d undef:=by
   intro j g z d m;cases J:o.dst with
   | none=>rfl
   | some d' =>
    rw[Ez];have:d'≠d:=by
     rintro rfl;have:=T.apart j g z (by rw[m,J]);rw[J]at this;cases this
    rw[fl (fun h=>this h.1)]
  have M:∀ d,Bf ops i=some d->(a.put o.dst u).tmps.getD d undef=u:=by
   intro d m;rw[DM V]at m;rw[m,Ez,fE ⟨rfl,by rw[e.tmps];exact T.dst d m⟩]
  have q:∀ j,j≠i->(listed.setIfInBounds i true).getD j false=true->listed.getD j false=true:=by
   intro j z h
   rwa[lF false (Ne.symm z)]at h
  refine⟨by rw[Array.size_setIfInBounds];exact e.size,?_,?_,hC,by rw[IV];exact e.defers,by rw[IU];exact e.tmps,?_,?_,?_⟩
  · intro j g;rw[lF false (by omega)];exact e.tailF j g
  · intro j g p hp;by_cases l:j=i
    · subst l;rw[Lb V]at hp;exact kh (L p hp)
    · exact kh (e.closed j (q j l g) p hp)
  · intro t ht;have h1:o.dst≠some t:=by
     have:=ht i a2 N
     rwa[DM V]at this
    have h2:a.tmps.getD t undef=a0.tmps.getD t undef:=e.frame t fun j g G=>ht j g (kh G);cases J:o.dst with
    | none=>exact h2
    | some d' =>
     rw[Ez,fl (fun h=>h1 (by rw[J,h.1]))];exact h2
  · intro j g G H;by_cases l:j=i
    · subst l;exact⟨u,hu,M⟩
    · have a4:=q j l G
      obtain⟨v,y,X⟩:=e.facts j g a4 (by
       intro k B;have:=H k B;by_cases D:listed.getD k false=true
       · rw[kh D]at this;cases this
       · simpa using D)
      exact⟨v,U j g l a4 H v y,fun d m=>by rw[F j g l d m];exact X d m⟩
  · intro j c g G f d m;by_cases l:j=i
    · subst l;rw[f]at hu;rw[M d m];exact hu
    · rw[F j g l d m];exact e.values j c g (q j l G) f d m
 -- the guard
 have Y:=Rv T.grd (fun j g c f d m=>e.values j c (by have:=T.lt j g;omega) (L j g) f d m);unfold wpOp;rw[V];simp only;unfold obl at A;cases hw:Bg hs o with
 | none=>rw[hw]at A;exact A.elim
 | some b =>
  rw[hw]at A;rw[Y b hw];cases b with
  | true =>
   rw[fE rfl];left;refine Lc (A a.eval w (Nv a) e.world a8) fun u n E=>hK _ _ ?_;unfold Mk at E;cases f:(A7 hs i).ty with
   | eq c =>
    rw[f]at E;obtain⟨rfl,rfl⟩:=E;exact r u n e.world (by rw[f];rfl) fun _ _ _ _ _ v y=>y
   | pr p =>
    rw[f]at E;simp only at E;by_cases hmu:(A7 hs i).mu=true
    · rw[fE hmu]at E;obtain⟨a9,ab,hp⟩:=E;refine r u n a9 (by rw[f];exact hp) fun j g z G H v y => ?_;cases W:(A7 hs j).ty with
      | eq c=>rw[W]at y;exact y
      | pr p' =>
       rw[<-W];refine Ki ab j (by simpa using g) ?_ v y;have c1:i ∉ anc ops 3 (Cu ops j):=fun h=>s (DL e.closed 3 _ (e.closed j G) i h);have c2:∀ k,(A7 hs j).cons=some k->k≠i/\k ∉ anc ops 3 (Bq o):=by
        intro k B;have I:=H k B;refine⟨?_,fun hm => ?_⟩
        · rintro rfl;rw[N]at I;cases I
        · rw[kh (DL e.closed 3 _ L k hm)]at I;cases I
       unfold C1;rw[W];cases hc:(A7 hs j).cons with
       | none=>simp[z,c1]
       | some k =>
        obtain⟨d1,d2⟩:=c2 k hc;simp[z,c1,d1,d2]
    · rw[fl hmu]at E
      exact r u n (aa w n E.1 e.world) (by rw[f];exact E.2) fun j g _ _ _ v y =>
       SY (Kj ad _ (by rw[A7,gqq,eQ g];simp)) E.1 y
  | false =>
   simp only[iz,ja];exact hK _ _ (r undef w e.world (A w e.world) fun _ _ _ _ _ v y=>y)
def CQ(vs:Nat->Value):Nat->List Oper->List Hd->Act->Act
 | i,o :: os,_ :: r,a=>CQ vs (i+1) os r (a.put o.dst (vs i))
 | _,_,_,a=>a
theorem NA{K:Act->Prop}{vs:Nat->Value}:∀ (r:List Hd) (d:List Oper) (i:Nat) (a:Act),F7 w K d r a ->
 (∀ k,k<r.length->∀ c,(r.getD k hd0).ty = .eq c->vs (i+k)=c) ->
 (∀ k,k<r.length->∀ p,(r.getD k hd0).ty = .pr p->(r.getD k hd0).cons=none->p (vs (i+k)) w)->K (CQ vs i d r a):=by
 intro r
 induction r with
 | nil =>
  intro d i a h _ _;cases d <;> exact h
 | cons h r ih =>
  intro d i a b h1 h2;cases d with
  | nil=>exact b
  | cons o d =>
   have g:∀ k,k<r.length->∀ c,(r.getD k hd0).ty = .eq c->vs (i+1+k)=c:=by
    intro k l c f;have:=h1 (k+1) (by simpa using l) c (by simpa using f)
    rwa[i7,ie 1 k]
   have j:∀ k,k<r.length->∀ p,(r.getD k hd0).ty = .pr p->(r.getD k hd0).cons=none->p (vs (i+1+k)) w:=by
    intro k l p hp f;have:=h2 (k+1) (by simpa using l) p (by simpa using hp) (by simpa using f)
    rwa[i7,ie 1 k]
   unfold F7 at b;unfold CQ;have m:=h1 0 (by simp);have n:=h2 0 (by simp);simp only[lZ,gd]at m n;cases e:h.ty with
   | eq c =>
    rw[e]at b;rw[m c e];exact ih d (i+1) _ b g j
   | pr p =>
    rw[e]at b;simp only at b;cases f:h.cons with
    | none =>
     rw[f]at b;exact ih d (i+1) _ (b _ (n p e f)) g j
    | some k =>
     rw[f]at b;exact ih d (i+1) _ (b _) g j
theorem Mn{vs:Nat->Value}:∀ (r:List Hd) (b:List Oper) (i:Nat) (a:Act),(CQ vs i b r a).tmps.size=a.tmps.size:=by
 intro r
 induction r with
 | nil=>intro b i a;cases b <;> rfl
 | cons h r ih =>
  intro b i a;cases b with
  | nil=>rfl
  | cons o b=>unfold CQ;rw[ih,IU]
theorem JA{vs:Nat->Value}:∀ (r:List Hd) (b:List Oper) (i:Nat) (a:Act),(CQ vs i b r a).defers=a.defers:=by
 intro r
 induction r with
 | nil=>intro b i a;cases b <;> rfl
 | cons h r ih =>
  intro b i a;cases b with
  | nil=>rfl
  | cons o b=>unfold CQ;rw[ih,IV]
theorem F8{vs:Nat->Value}{t:Tmp}:∀ (r:List Hd) (b:List Oper) (i:Nat) (a:Act),(∀ k o,k<r.length->b[k]?=some o->o.dst≠some t)->(CQ vs i b r a).tmps.getD t undef=a.tmps.getD t undef:=by
 intro r
 induction r with
 | nil=>intro b i a _;cases b <;> rfl
 | cons h r ih =>
  intro b i a c;cases b with
  | nil=>rfl
  | cons o b =>
   unfold CQ;rw[ih b (i+1) _ (fun k j f g=>c (k+1) j (by simpa using f) (by simpa using g))];have:=c 0 o (by simp) rfl;cases e:o.dst with
   | none=>rfl
   | some d=>rw[Ez,fl (fun h=>this (by rw[e,h.1]))]
theorem NB{vs:Nat->Value}{t:Tmp}:∀ (r:List Hd) (d:List Oper) (i:Nat) (a:Act) (k:Nat) (o:Oper),k<r.length->d[k]?=some o->o.dst=some t->t<a.tmps.size ->
 (∀ j n,j < r.length->d[j]?=some n->n.dst=some t->j=k)->(CQ vs i d r a).tmps.getD t undef=vs (i+k):=by
 intro r
 induction r with
 | nil=>intro d i a k o m;simp at m
 | cons h r ih =>
  intro d i a k o m l p q c;cases d with
  | nil=>simp at l
  | cons n d =>
   unfold CQ;cases k with
   | zero =>
    simp only[jQ,fc]at l;subst l
    rw[F8 r d (i+1) _ (fun k g f b e=>by
     have:=c (k+1) g (by simpa using f) (by simpa using b) e
     omega)]
    rw[p,Ez,fE ⟨rfl,q⟩,gd]
   | succ k =>
    rw[ih d (i+1) _ k o (by simpa using m) (by simpa using l) p (by rw[IU];exact q) (fun j g f b e=>by
     have:=c (j+1) g (by simpa using f) (by simpa using b) e
     omega)]
    rw[i7,ie 1 k]
theorem SZ{a b:Act}(h1:a.defers=b.defers)(h2:a.tmps.size=b.tmps.size)(h3:∀ t,a.tmps.getD t undef=b.tmps.getD t undef):a=b:=by
 cases a;cases b;simp only at h1 h2 h3;subst h1;congr 1;apply Array.ext h2;intro i c d;have:=h3 i;simpa[c,d]using this
end
/-! ### The operations' notes,kind by kind -/
section
variable {P:Program} {ops:Array Oper} {hs:List Hd} {a0:Act} {C:World->Prop} {i:Nat} {o:Oper}
theorem Ox{c:Value}(d:o.guard=none)(h:∀ a w,Dd a->C w->Cf ops hs a0 o a w o.op.operands.toList->(execOp a o).run P w = .ok (.value c) w) :
 obl P C ops hs a0 i o (he c):=by
 unfold obl Bg;rw[d];intro a w hp b e;rw[h a w hp b e];exact⟨rfl,rfl⟩
theorem Cv{p:Value->World->Prop}(d:o.guard=none)
 (h:∀ a w,Dd a->C w->Cf ops hs a0 o a w o.op.operands.toList->∃ v b,(execOp a o).run P w = .ok (.value v) b/\Ext w b/\p v b) :
 obl P C ops hs a0 i o ⟨false,.pr p,cons⟩:=by
 unfold obl Bg;rw[d];intro a w hp c f;obtain⟨v,b,e,h1,h2⟩:=h a w hp c f;rw[e];exact⟨h1,h2⟩
theorem S0{p:Value->World->Prop}(d:o.guard=none)
 (h:∀ b w,Dd b->C w->Cf ops hs a0 o b w o.op.operands.toList->∃ v a,(execOp b o).run P w = .ok (.value v) a/\C a/\Hb ops hs i o w a (List.range hs.length)/\p v a) :
 obl P C ops hs a0 i o ⟨true,.pr p,cons⟩:=by
 unfold obl Bg;rw[d];intro b w hp c f;obtain⟨v,a,e,h1,h2,h3⟩:=h b w hp c f;rw[e];exact⟨h1,h2,h3⟩
end
section
variable {P:Program} {w:World}
theorem DN{c:Nat}(m:P.underlying t=some (.slice e))(b:AR P e z bytes)(l:k<=c) :
 (Instr.sliceAt t (.slice a n c) none (some (.int .i64 k)) none).run P w = .ok (.slice a k c) w:=by
 obtain⟨i,j,o,d,g⟩:=jJ b;have f:(if c=0 then a else a.map (fun x=>x.add 0))=a:=by
  split
  · rfl
  · cases a <;> simp[Addr.add]
 have h0:(0:Int)<=k:=by omega
 have h1:(k:Int)<=c:=by omega
 simp[Instr.sliceAt,Instr.slice,Instr.sliceBounds,Instr.sliceBound,fQ m,asIntOf,sizeOf,typeInfo,j,l,f]
theorem IY{c:Nat}(l:P.underlying t=some (.slice e))(b:AR P e z bytes)(j:k<=n) :
 (Instr.sliceAt t (.slice a n c) (some (.int .i64 k)) none none).run P w = .ok (.slice (if c=k then a else a.map (fun x=>x.add k)) (n-k) (c-k)) w:=by
 obtain⟨i,g,m,d,f⟩:=jJ b;simp[Instr.sliceAt,Instr.slice,Instr.sliceBounds,Instr.sliceBound,fQ l,asIntOf,sizeOf,typeInfo,g,d,j]
theorem Ui:Array.range 0=#[]:=by decide
theorem RC(f:P.underlying t=some (.slice e))(a:AR P e z bytes) :
 (Instr.buildSlice t 0 #[]).run P w = .ok (.slice (some ⟨w.heap.size,0,none⟩) 0 0) (w.alloc (.cells #[] e)):=by
 obtain⟨i,d,g,b,c⟩:=jJ a;simp[Instr.buildSlice,fQ f,sizeOf,typeInfo,d,Instr.fill,newRow,Ui]
end
theorem BN(xs:List Int):∀ u∈xs.map (Value.int .i64),u.oneCell'=true:=ints_oneCell .i64 xs
end Go.Proofs.YthdbingomfdeoaaGreatDoor
namespace Go.Proofs.YthdbingomfdeoaaGreatDoor
open Go.Shelf
def NC:Go.Shelf.Ren:=⟨fun | 25=>202 | n=>n,fun | 22=>101 | n=>n,fun | n=>n⟩
theorem Uj:Go.Proofs.Lays7.n25 Tryz.prog NC:={
 mixed:=by kernel_rfl
 f25:=Tryz.func202.trans (fV some (by kernel_rfl))
 t22:=Tryz.underlying101
 a22:=Tryz.isAgg101
 z22:=Tryz.sizeOf101
 v22:=Tryz.zeroValue101
 i22:=by kernel_rfl }
def NE:Go.Shelf.Ren:=⟨fun | 26=>204 | n=>n,fun | 22=>101 | n=>n,fun | n=>n⟩
theorem Uk:Go.Proofs.Lays7.n26 Tryz.prog NE:={
 mixed:=by kernel_rfl
 f26:=Tryz.func204.trans (fV some (by kernel_rfl))
 t22:=Tryz.underlying101
 a22:=Tryz.isAgg101
 z22:=Tryz.sizeOf101
 v22:=Tryz.zeroValue101
 i22:=by kernel_rfl }
def NF:Go.Shelf.Ren:=⟨fun | 264=>205 | n=>n,fun | 53=>101 | 46=>144 | n=>n,fun | n=>n⟩
theorem Ul:Go.Proofs.Lays.n264 Tryz.prog NF:={
 mixed:=by kernel_rfl
 f264:=Tryz.func205.trans (fV some (by kernel_rfl))
 t46:=Tryz.underlying144
 a46:=Tryz.isAgg144
 z46:=Tryz.sizeOf144
 v46:=Tryz.zeroValue144
 t53:=Tryz.underlying101
 a53:=Tryz.isAgg101
 z53:=Tryz.sizeOf101
 v53:=Tryz.zeroValue101 }
def PW:Go.Shelf.Ren:=⟨fun | 134=>206 | 129=>119 | n=>n,fun | 53=>101 | 3=>3 | 4=>4 | 46=>144 | 5=>5 | 9=>9 | n=>n,fun | n=>n⟩
theorem UX:Go.Proofs.Lays.n134 Tryz.prog PW:={
 mixed:=by kernel_rfl
 f129:=Tryz.func119.trans (fV some (by kernel_rfl))
 f134:=Tryz.func206.trans (fV some (by kernel_rfl))
 t3:=Tryz.underlying3
 a3:=Tryz.isAgg3
 z3:=Tryz.sizeOf3
 v3:=Tryz.zeroValue3
 t4:=Tryz.underlying4
 a4:=Tryz.isAgg4
 z4:=Tryz.sizeOf4
 v4:=Tryz.zeroValue4
 t5:=Tryz.underlying5
 a5:=Tryz.isAgg5
 z5:=Tryz.sizeOf5
 v5:=Tryz.zeroValue5
 t9:=Tryz.underlying9
 a9:=Tryz.isAgg9
 z9:=Tryz.sizeOf9
 v9:=Tryz.zeroValue9
 t46:=Tryz.underlying144
 a46:=Tryz.isAgg144
 z46:=Tryz.sizeOf144
 v46:=Tryz.zeroValue144
 t53:=Tryz.underlying101
 a53:=Tryz.isAgg101
 z53:=Tryz.sizeOf101
 v53:=Tryz.zeroValue101 }
end Go.Proofs.YthdbingomfdeoaaGreatDoor
namespace Go.Proofs.YthdbingomfdeoaaGreatDoor
open Tryz Go Go.RowKit
variable {xs ys:List Nat} {B b b' c i m n v x y:Nat} {a:Option Addr} {w w':World}
theorem AG:AR prog 101 (.int .u64 0) 8:=by unfold AR;kernel_rfl
theorem Do(x y c:Nat)(a:c<=1)(w:World):(callFunc 202 #[.int .u64 x,.int .u64 y,.int .u64 c]).run prog w = .ok (.value (.tuple #[.int .u64 (((x+y+c)%18446744073709551616:Nat):Int),.int .u64 (((x+y+c)/18446744073709551616:Nat):Int)])) w:=Any7.bits_Add64 Uj x y c a w
theorem Dp(x y c:Nat)(a:c<=1)(w:World):(callFunc 204 #[.int .u64 x,.int .u64 y,.int .u64 c]).run prog w = .ok (.value (.tuple #[.int .u64 (((x+18446744073709551616-y-c)%18446744073709551616:Nat):Int),.int .u64 ((if x<y+c then 1 else 0:Nat):Int)])) w:=Any7.bits_Sub64 Uk x y c a w
theorem BO(g:SlN .u64 w a n c xs) :
 Calls prog 168 #[.slice a n c] w fun e A=>∃ m,e = .returned (.slice a m c)/\w=A/\m<=n/\W.trim xs=xs.take m:=by
 have q:=eP g.len;have t:=g.le;have p:=g.cap
 go_enter func168,ntmps168
 go_wp2
 go_loop[3] (fun v=>∃ k:Nat,k<=n/\v = .int .i64 k/\Hid (W.trim xs=W.trimTo xs k)) (fun v=>(intOf v).toNat)
 case atStart=>exact⟨n,lrf _,rfl,eP (by unfold W.trim;rw[q.out])⟩
 case round =>
  obtain⟨k,C,rfl,i⟩:=hrel;have x:=fun B:World=>DN (P:=prog) (w:=B) (a:=a) (n:=n) underlying98 AG (k:=k) (c:=c) (by omega);cases k with
  | zero =>
   go_wp2;go_ret;exact⟨0,rfl,rfl,by omega,by rw[i.out];rfl⟩
  | succ k =>
   obtain⟨b,o,rfl,l⟩:=g.at (j:=k) (by omega);have r:=l k (by omega);have D:IntKind.i64.wrap ((k:Int)+1-1)=k:=by rw[lg];exact eT _ (by omega)
   have z:IntKind.i64.wrap (k:Int)=k:=eT _ (by omega);by_cases f:xs.getD k 0=0
   · have d:Hid (W.trim xs=W.trimTo xs k):=by
      show _=_;rw[i.out];exact fE f
     rw[f]at r;clear f l;go_wp2;go_round
     case rel=>exact⟨k,by omega,rfl,d⟩
     case measure=>simp[intOf]
   · have d:Hid (W.trim xs=xs.take (k+1)):=by
      show _=_;rw[i.out];exact fl f
     have s:(((xs.getD k 0:Nat):Int) == 0)=false:=by simpa using f
     generalize xs.getD k 0=y at *
     clear f l;go_wp2;go_ret;exact⟨k+1,rfl,rfl,by omega,d.out⟩
theorem Cg(g:SlN .u64 w a n c xs)(d:m<=n)(e:W.trim xs=xs.take m)(b:W.bnd 18446744073709551616 xs)(f:W.val 18446744073709551616 xs=v):SlN .u64 w a m c (W.trim xs)/\Num 18446744073709551616 (W.trim xs) v :=
 ⟨by rw[e];exact g.upto d,Num.trim b f⟩
def Src(w:World)(S:Nat->Prop)(a:Option Addr):Prop:=∀ g,blk a=some g->w.heap.size<=g\/S g
def NG(b:Nat)(S:Nat->Prop)(a:Option Addr)(n:Nat):Prop:=0<n->∀ g,blk a=some g->b<=g\/S g
theorem NG.of{S S':Nat->Prop}(h:NG b S a n)(d:b'<=b)(c:∀ g,S g->b'<=g\/S' g):NG b' S' a n:=fun h0 g e=>(h h0 g e).elim (fun h=>Or.inl (eW d h)) (c g)
def Mo(k:IntKind)(B:Nat)(w:World)(S:Nat->Prop)(v:Nat)(e:Ending)(w':World):Prop:=∃ a n c xs,e = .returned (.slice a n c)/\Ext w w'/\SlN k w' a n c xs/\Num B xs v/\Src w S a
theorem Mo.plain{k:IntKind}{S:Nat->Prop}{e:Ending}(h:Mo k B w S v e w'):PU k B w v e w':=by
 obtain⟨a,n,c,b,h1,h2,h3,h4,_⟩:=h;exact⟨a,n,c,b,h1,h2,h3,h4⟩
theorem Fj(b:x<18446744073709551616):Calls prog 177 #[.int .u64 x] w (Mo .u64 18446744073709551616 w (fun _=>False) x):=by
 by_cases h0:x=0
 · subst h0
   go_enter func177,ntmps177
   go_wp2;go_ret;exact⟨none,0,0,[],rfl,Ext.refl w,SlN.nil _ _,Num.nil _,fun _ h=>by cases h⟩
 · have c:((x:Int) == 0)=false:=by simpa using h0
   go_enter func177,ntmps177
   go_wp2;go_ret;refine⟨_,1,1,[x],rfl,(Ext.refl w).alloc _,(Ag w w.heap.size 101 #[.int .u64 x] 1 rfl (lrf _) (by omega)).sl,⟨?_,W.nrm_single h0,by simp[W.val]⟩,fun g h=>Or.inl (by cases h;exact lrf _)⟩;intro y a;simp only[eV]at a;subst a;exact b
theorem Le(a:x<18446744073709551616):Calls prog 177 #[.int .u64 x] w (PU .u64 18446744073709551616 w x) :=
 (Fj a).mono fun _ _ h=>h.plain
theorem Fy(x:Int)(w:World):Calls prog 203 #[.int .u64 x] w fun e a=>e = .returned (.bool false)/\w=a:=by
 have h:(x != x)=false:=by simp
 go_enter func203,ntmps203
 go_wp2;go_ret;exact⟨rfl,rfl⟩
theorem Fz(x:Int)(w:World):Calls prog 109 #[.int .i64 x] w fun e a=>e = .returned (.bool false)/\w=a:=by
 have h:(x != x)=false:=by simp
 go_enter func109,ntmps109
 go_wp2;go_ret;exact⟨rfl,rfl⟩
def AQ(x y:Int):Int:=if x<y then -1 else if y<x then 1 else 0
theorem Lf(x y:Int)(w:World):Calls prog 169 #[.int .u64 x,.int .u64 y] w fun e b=>e = .returned (.int .i64 (AQ x y))/\w=b:=by
 by_cases h1:x<y
 · have H:Hid (AQ x y = -1):=by show _=_;simp[AQ,h1]
   go_enter func169,ntmps169
   go_wp2_with(go_at_call 203;refine(Fy _ _).mono ?_;rintro e a ⟨rfl,rfl⟩)
   go_ret;exact⟨Cd H.out,rfl⟩
 · by_cases h2:y<x
   · have H:Hid (AQ x y=1):=by show _=_;simp[AQ,h1,h2]
     go_enter func169,ntmps169
     go_wp2_with(go_at_call 203;refine(Fy _ _).mono ?_;rintro e a ⟨rfl,rfl⟩)
     go_ret;exact⟨Cd H.out,rfl⟩
   · have H:Hid (AQ x y=0):=by show _=_;simp[AQ,h1,h2]
     go_enter func169,ntmps169
     go_wp2_with(go_at_call 203;refine(Fy _ _).mono ?_;rintro e a ⟨rfl,rfl⟩)
     go_ret;exact⟨Cd H.out,rfl⟩
theorem Lg(x y:Int)(w:World):Calls prog 70 #[.int .i64 x,.int .i64 y] w fun e b=>e = .returned (.int .i64 (AQ x y))/\w=b:=by
 by_cases h1:x<y
 · have H:Hid (AQ x y = -1):=by show _=_;simp[AQ,h1]
   go_enter func70,ntmps70
   go_wp2_with(go_at_call 109;refine(Fz _ _).mono ?_;rintro e a ⟨rfl,rfl⟩)
   go_ret;exact⟨Cd H.out,rfl⟩
 · by_cases h2:y<x
   · have H:Hid (AQ x y=1):=by show _=_;simp[AQ,h1,h2]
     go_enter func70,ntmps70
     go_wp2_with(go_at_call 109;refine(Fz _ _).mono ?_;rintro e a ⟨rfl,rfl⟩)
     go_ret;exact⟨Cd H.out,rfl⟩
   · have H:Hid (AQ x y=0):=by show _=_;simp[AQ,h1,h2]
     go_enter func70,ntmps70
     go_wp2_with(go_at_call 109;refine(Fz _ _).mono ?_;rintro e a ⟨rfl,rfl⟩)
     go_ret;exact⟨Cd H.out,rfl⟩
theorem Lh(g:xs.length=ys.length)(hi:i<xs.length)(f:xs.drop (i+1)=ys.drop (i+1))(e:W.bnd B xs)(a:xs.getD i 0<ys.getD i 0):W.val B xs<W.val B ys:=by
 have b:=W.val_split (B:=B) xs (i+1) (by omega);have c:=W.val_split (B:=B) ys (i+1) (by omega);rw[W.val_take_succ hi]at b;rw[W.val_take_succ (by omega)]at c;have d:=W.val_lt (W.bnd_take e i);rw[go,iF (by omega)]at d;rw[b,c,f];have h1:B^i*(xs.getD i 0+1)<=B^i*ys.getD i 0:=fx _ a;have h2:B^i*(xs.getD i 0+1)=B^i*xs.getD i 0+B^i:=by rw[gS,iN]
 omega
theorem F9{x y:Int}(h:x<y):AQ x y = -1:=by simp[AQ,h]
theorem Ga{x y:Int}(h:y<x):AQ x y=1:=by
 have:¬ x<y:=by omega
 simp[AQ,h,this]
theorem Oy(x:Int):AQ x x=0:=by simp[AQ]
theorem H6(h:x≠y):(x<y/\AQ x y = -1)\/(y<x/\AQ x y=1):=by
 rcases Nat.lt_or_gt_of_ne h with h1|h1
 · exact Or.inl ⟨h1,F9 (by omega)⟩
 · exact Or.inr ⟨h1,Ga (by omega)⟩
theorem Mp{a:Nat}(h:a≠b):((a:Int) != (b:Int))=true:=by simp;omega
theorem Mq{a:Nat}(h:a=b):((a:Int) != (b:Int))=false:=by simp[h]
theorem Um(x y:Int)(w:World):Calls prog 169 #[.int .u64 x,.int .u64 y] w fun e a=>e = .returned (.int .i64 (AQ x y))/\Qt w a :=
 (Lf x y w).mono fun _ _ ⟨h1,h2⟩=>⟨h1,h2 ▸ Qt.refl _⟩
theorem Bw{b:Option Addr}{d:Nat}(H:SlN .u64 w a n c xs)(I:SlN .u64 w b m d ys)(L:Num 18446744073709551616 xs x)(M:Num 18446744073709551616 ys y) :
 Calls prog 133 #[.slice a n c,.slice b m d] w fun e V=>e = .returned (.int .i64 (AQ x y))/\Qt w V:=by
 have g:=eP H.len;have i:=eP I.len;have U:=H.le;have T:=I.le;have o:=eP L;have p:=eP M;clear L M;by_cases t:n=m
 · have F:((n:Int) != (m:Int))=false:=by simp[t]
   have A:=eP t;clear t
   go_enter func133,ntmps133
   go_wp2
   go_loopw[5] (fun v wr=>∃ k:Nat,k<=n/\v = .int .i64 ((k:Int)-1)/\Qt w wr/\Hid (xs.drop k=ys.drop k)) (fun v _=>(intOf v+1).toNat)
   case atStart=>exact⟨n,lrf _,by go_num,Qt.refl _,eP (by rw[fK (by rw[g.out];exact lrf _),fK (by rw[i.out,A.out];exact lrf _)])⟩
   case round =>
    obtain⟨k,Z,rfl,s,z⟩:=hrel;cases k with
    | zero =>
     have N:Hid (x=y):=by
      have:=z.out;rw[gm,gm]at this;show x=y;rw[<-o.out.val,<-p.out.val,this]
     go_wp2;go_ret;exact⟨Cd (by rw[N.out,Oy]),s⟩
    | succ k =>
     have f:k<m:=by have:=A.out;omega
     obtain⟨X,o1,rfl,q⟩:=(H.ext s.ext).at (j:=k) (by omega);obtain⟨Y,o2,rfl,r⟩:=(I.ext s.ext).at (j:=k) f;have J:=q k (by omega);have K:=r k f;have G:((k+1:Nat):Int)-1=k:=by omega
     rw[G];by_cases he:xs.getD k 0=ys.getD k 0
     · have Q:(((xs.getD k 0:Nat):Int) != ((ys.getD k 0:Nat):Int))=false:=Mq he;have D:Hid (xs.drop k=ys.drop k):=by
        show _=_;rw[fD (l:=xs) (by rw[g.out];omega),fD (l:=ys) (by rw[i.out];exact f),z.out];simp only[gqq,eQ (show k<xs.length by rw[g.out];omega),eQ (show k<ys.length by rw[i.out];exact f),fC]at he;rw[he]
       generalize xs.getD k 0=u at *
       generalize ys.getD k 0=v at *
       clear he q r;go_wp2
       go_quiet (fail)
       go_wp2;go_roundw
       case rel=>exact⟨k,by omega,by go_num,s.drewN _,D⟩
       case measure=>simp[intOf]
     · have Q:(((xs.getD k 0:Nat):Int) != ((ys.getD k 0:Nat):Int))=true:=Mp he;have C:Hid (AQ x y=AQ ((xs.getD k 0:Nat):Int) ((ys.getD k 0:Nat):Int)):=by
        show _=_;rcases H6 he with⟨h1,h2⟩|⟨h1,h2⟩
        · have:=Lh (B:=18446744073709551616) (by rw[g.out,i.out,A.out]) (by rw[g.out];omega) z.out o.out.bnd h1;rw[o.out.val,p.out.val]at this;rw[h2,F9 (by omega)]
        · have:=Lh (B:=18446744073709551616) (xs:=ys) (ys:=xs) (by rw[g.out,i.out,A.out]) (by rw[i.out];omega) z.out.symm p.out.bnd h1;rw[o.out.val,p.out.val]at this;rw[h2,Ga (by omega)]
       generalize xs.getD k 0=u at *
       generalize ys.getD k 0=v at *
       clear he q r;have S:(k:Int)<n:=by omega
       have R:(k:Int)<m:=by omega
       go_wp2
       go_quiet (fail)
       go_wp2;have O:(wr.drewN nq).cell? _=_:=J;have P:(wr.drewN nq).cell? _=_:=K;have E:=s.drewN nq;generalize wr.drewN nq=wq at *
       clear J K
       go_quiet ((go_at_call 169;exact jl (Um _ _ _)))
       go_wp2;go_ret;exact⟨Cd C.out,E.drewN _⟩
 · have F:((n:Int) != (m:Int))=true:=by simp;omega
   have C:Hid (AQ x y=AQ n m):=by
    show _=_;rcases H6 t with⟨h1,h2⟩|⟨h1,h2⟩
    · have:=W.len_lt (B:=18446744073709551616) (by omega) o.out.bnd p.out.nrm (by rw[g.out,i.out];exact h1);rw[o.out.val,p.out.val]at this;rw[h2,F9 (by omega)]
    · have:=W.len_lt (B:=18446744073709551616) (by omega) p.out.bnd o.out.nrm (by rw[g.out,i.out];exact h1);rw[o.out.val,p.out.val]at this;rw[h2,Ga (by omega)]
   clear t
   go_enter func133,ntmps133
   go_wp2_with fail
   refine(Lg _ _ _).mono ?_;rintro e w1 ⟨rfl,rfl⟩;go_wp2;go_ret;exact⟨Cd C.out,Qt.refl _⟩
theorem S3(b:x<18446744073709551616)(d:y<18446744073709551616)(a:c<=1):(x+18446744073709551616-y-c)%18446744073709551616+y+c=x+18446744073709551616*(if x<y+c then 1 else 0):=by
 split <;> omega
theorem S4:(if x<y+c then 1 else 0)<=1:=by split <;> omega
end Go.Proofs.YthdbingomfdeoaaGreatDoor
