/- Part Gan5. -/
import Derived.WalkKit
import Derived.Test.YtlpgonpfjbhmfaaGreatDoorGan3
import Derived.Shelf.Spec.BitsCarry
import Derived.Shelf.Bits.Mul64
import Derived.Shelf.Small.Bits
import Derived.Test.YtlpgonpfjbhmfaaGreatDoorProg
import Derived.Test.YtlpgonpfjbhmfaaGreatDoorGan2
import Derived.Deep.QuietTactic
import Derived.BigQuiet
set_option maxRecDepth 100000
set_option maxHeartbeats 100000000
namespace Go.Proofs.YtlpgonpfjbhmfaaGreatDoor.W
def val (B:Nat):List Nat→Nat
 | []=>0
 | x :: r=>x+B*val B r
def bnd (B:Nat) (xs:List Nat):Prop:=∀ x∈xs,x < B
def nrm (xs:List Nat):Prop:=∀ h:xs≠[],xs.getLast h≠0
theorem val_app (B:Nat):∀ xs ys:List Nat,val B (xs ++ ys)=val B xs+B^xs.length*val B ys
 | [],ys=>by simp [val]
 | x :: xs,ys=>by
  simp only [List.cons_append,val,val_app B xs ys,List.length_cons,Nat.pow_succ]
  grind
theorem val_snoc (B:Nat) (xs:List Nat) (x:Nat):val B (xs ++ [x])=val B xs+B^xs.length*x:=by
 rw [val_app]; simp [val]
theorem val_zeros (B:Nat):∀ n,val B (List.replicate n 0)=0
 | 0=>rfl
 | n+1=>by simp [List.replicate_succ,val,val_zeros B n]
theorem val_lt {B:Nat}:∀ {xs:List Nat},bnd B xs→val B xs < B^xs.length
 | [],_=>by simp [val]
 | x :: xs,h=>by
  have h1:x < B:=h x (by simp);have h2:=val_lt (xs:=xs) (fun y hy=>h y (by simp [hy]));simp only [val,List.length_cons,Nat.pow_succ];have:B*(val B xs+1)≤B*B^xs.length:=Nat.mul_le_mul_left _ h2
  grind
theorem val_set {B:Nat}:∀ {xs:List Nat} {i:Nat} {v:Nat},i < xs.length→val B (xs.set i v)+B^i*xs.getD i 0=val B xs+B^i*v
 | [],_,_,h=>by simp at h
 | x :: xs,0,v,_=>by simp [val]; omega
 | x :: xs,i+1,v,h=>by
  have:=val_set (B:=B) (xs:=xs) (i:=i) (v:=v) (by simpa using h);simp only [List.set_cons_succ,val,List.getD_cons_succ,Nat.pow_succ]
  grind
theorem bnd_set {B:Nat} {xs:List Nat} (h:bnd B xs) {i v:Nat} (hv:v < B):bnd B (xs.set i v):=by
 intro x hx;rcases List.mem_or_eq_of_mem_set hx with h1 | h1
 · exact h x h1
 · rw [h1]; exact hv
theorem bnd_at {B:Nat} {xs:List Nat} (h:bnd B xs) {i:Nat} (hi:i < xs.length):xs.getD i 0 < B:=by
 rw [List.getD_eq_getElem?_getD,List.getElem?_eq_getElem hi];exact h _ (List.getElem_mem hi)
theorem bnd_app {B:Nat} {xs ys:List Nat} (h:bnd B xs) (k:bnd B ys):bnd B (xs ++ ys):=by
 intro x hx;rcases List.mem_append.1 hx with h1 | h1
 · exact h x h1
 · exact k x h1
theorem bnd_take {B:Nat} {xs:List Nat} (h:bnd B xs) (n:Nat):bnd B (xs.take n):=fun x hx=>h x (List.mem_of_mem_take hx)
theorem bnd_drop {B:Nat} {xs:List Nat} (h:bnd B xs) (n:Nat):bnd B (xs.drop n):=fun x hx=>h x (List.mem_of_mem_drop hx)
theorem val_take_succ {B:Nat} {xs:List Nat} {i:Nat} (hi:i < xs.length):val B (xs.take (i+1))=val B (xs.take i)+B^i*xs.getD i 0:=by
 rw [List.take_succ_eq_append_getElem hi,val_snoc,List.length_take,Nat.min_eq_left (by omega),List.getD_eq_getElem?_getD,List.getElem?_eq_getElem hi];rfl
theorem val_split {B:Nat} (xs:List Nat) (n:Nat) (h:n≤xs.length):val B xs=val B (xs.take n)+B^n*val B (xs.drop n):=by
 conv=>lhs; rw [←List.take_append_drop n xs]
 rw [val_app,List.length_take,Nat.min_eq_left h]
def trimTo (xs:List Nat):Nat→List Nat
 | 0=>[]
 | n+1=>if xs.getD n 0=0 then trimTo xs n else xs.take (n+1)
def trim (xs:List Nat):List Nat:=trimTo xs xs.length
theorem trimTo_val {B:Nat} {xs:List Nat}:∀ {n:Nat},n≤xs.length→val B (trimTo xs n)=val B (xs.take n)
 | 0,_=>by simp [trimTo,val]
 | n+1,h=>by
  unfold trimTo;split
  · rename_i h0;rw [trimTo_val (by omega),val_take_succ (by omega),h0];simp
  · rfl
theorem trim_val {B:Nat} (xs:List Nat):val B (trim xs)=val B xs:=by
 rw [trim,trimTo_val (Nat.le_refl _),List.take_length]
theorem trimTo_nrm {xs:List Nat}:∀ {n:Nat},n≤xs.length→nrm (trimTo xs n)
 | 0,_=>by intro h; simp [trimTo] at h
 | n+1,h=>by
  unfold trimTo;split
  · exact trimTo_nrm (by omega)
  · rename_i h0;intro hne;rw [List.getLast_eq_getElem];have hl:(xs.take (n+1)).length=n+1:=by rw [List.length_take]; omega
    simp only [hl,Nat.add_sub_cancel,List.getElem_take];simpa [List.getD_eq_getElem?_getD,List.getElem?_eq_getElem (show n < xs.length by omega)] using h0
theorem trim_nrm (xs:List Nat):nrm (trim xs):=trimTo_nrm (Nat.le_refl _)
theorem trimTo_prefix {xs:List Nat}:∀ {n:Nat},n≤xs.length→∃ k,k≤n∧trimTo xs n=xs.take k
 | 0,_=>⟨0,Nat.le_refl _,by simp [trimTo]⟩
 | n+1,h=>by
  unfold trimTo;split
  · obtain ⟨k,h1,h2⟩:=trimTo_prefix (xs:=xs) (n:=n) (by omega);exact ⟨k,by omega,h2⟩
  · exact ⟨n+1,Nat.le_refl _,rfl⟩
theorem bnd_trim {B:Nat} {xs:List Nat} (h:bnd B xs):bnd B (trim xs):=by
 obtain ⟨k,_,e⟩:=trimTo_prefix (xs:=xs) (n:=xs.length) (Nat.le_refl _);rw [trim,e];exact bnd_take h k
theorem nrm_pos {B:Nat} (_hB:0 < B) {xs:List Nat} (h:nrm xs) (hne:xs≠[]):B^(xs.length - 1)≤val B xs:=by
 have e:xs=xs.dropLast ++ [xs.getLast hne]:=(List.dropLast_concat_getLast hne).symm;have hl:=h hne;have h1:val B xs=val B xs.dropLast+B^(xs.length - 1)*xs.getLast hne:=by
  conv=>lhs; rw [e]
  rw [val_snoc,List.length_dropLast]
 have:B^(xs.length - 1)*1≤B^(xs.length - 1)*xs.getLast hne:=Nat.mul_le_mul_left _ (by omega);omega
theorem nrm_zero {B:Nat} (hB:0 < B) {xs:List Nat} (h:nrm xs):val B xs=0↔xs=[]:=by
 constructor
 · intro h0;refine Classical.byContradiction fun hne => ?_;have:=nrm_pos hB h hne;have:=Nat.pow_pos (n:=xs.length - 1) hB;omega
 · rintro rfl; rfl
theorem len_lt {B:Nat} (hB:1 < B) {xs ys:List Nat} (hx:bnd B xs) (hy:nrm ys) (h:xs.length < ys.length):val B xs < val B ys:=by
 have h1:=val_lt hx;have hne:ys≠[]:=by intro e; rw [e] at h; simp at h
 have h2:=nrm_pos (B:=B) (by omega) hy hne;have h3:B^xs.length≤B^(ys.length - 1):=Nat.pow_le_pow_right (by omega) (by omega);omega
theorem nrm_len {B:Nat} (hB:1 < B) {xs:List Nat} (h:nrm xs) {n:Nat} (hv:val B xs < B^n):xs.length≤n:=by
 rcases Nat.lt_or_ge n xs.length with h1 | h1
 · have hne:xs≠[]:=by intro e; rw [e] at h1; simp at h1
   have h2:=nrm_pos (B:=B) (by omega) h hne;have h3:B^n≤B^(xs.length - 1):=Nat.pow_le_pow_right (by omega) (by omega);omega
 · exact h1
theorem nrm_nil:nrm []:=fun h=>absurd rfl h
theorem nrm_single {x:Nat} (h:x≠0):nrm [x]:=fun _=>h
section
variable {B:Nat}
theorem add_step {l ys:List Nat} {V c k s c':Nat} (hk:k < l.length) (hy:k < ys.length) (h:val B l+c*B^k=V+val B (ys.take k)) (e:s+B*c'=l.getD k 0+ys.getD k 0+c) :
 val B (l.set k s)+c'*B^(k+1)=V+val B (ys.take (k+1)):=by
 have h1:=val_set (B:=B) (xs:=l) (i:=k) (v:=s) hk;have h2:=val_take_succ (B:=B) hy;rw [h2,Nat.pow_succ];generalize l.getD k 0=x at *
 generalize ys.getD k 0=y at *
 generalize val B (l.set k s)=a at *
 generalize val B l=b at *
 generalize val B (ys.take k)=d at *
 generalize B^k=p at *
 grind
theorem add_step0 {l:List Nat} {V c k s c':Nat} (hk:k < l.length) (h:val B l+c*B^k=V) (e:s+B*c'=l.getD k 0+c) :
 val B (l.set k s)+c'*B^(k+1)=V:=by
 have h1:=val_set (B:=B) (xs:=l) (i:=k) (v:=s) hk;rw [Nat.pow_succ];generalize l.getD k 0=x at *
 generalize val B (l.set k s)=a at *
 generalize val B l=b at *
 generalize B^k=p at *
 grind
theorem sub_step {l ys:List Nat} {V c k s c':Nat} (hk:k < l.length) (hy:k < ys.length) (h:val B l+val B (ys.take k)=V+c*B^k) (e:s+ys.getD k 0+c=l.getD k 0+B*c') :
 val B (l.set k s)+val B (ys.take (k+1))=V+c'*B^(k+1):=by
 have h1:=val_set (B:=B) (xs:=l) (i:=k) (v:=s) hk;have h2:=val_take_succ (B:=B) hy;rw [h2,Nat.pow_succ];generalize l.getD k 0=x at *
 generalize ys.getD k 0=y at *
 generalize val B (l.set k s)=a at *
 generalize val B l=b at *
 generalize val B (ys.take k)=d at *
 generalize B^k=p at *
 grind
theorem sub_step0 {l:List Nat} {V c k s c':Nat} (hk:k < l.length) (h:val B l=V+c*B^k) (e:s+c=l.getD k 0+B*c') :
 val B (l.set k s)=V+c'*B^(k+1):=by
 have h1:=val_set (B:=B) (xs:=l) (i:=k) (v:=s) hk;rw [Nat.pow_succ];generalize l.getD k 0=x at *
 generalize val B (l.set k s)=a at *
 generalize val B l=b at *
 generalize B^k=p at *
 grind
theorem digit_hi {W D w3 d2 q P lo lo':Nat} (hW:W=w3*P+lo) (hlo:lo < P) (hD:D=d2*P+lo') (hq:q*D≤W):q*d2≤w3:=by
 rcases Nat.lt_or_ge w3 (q*d2) with h | h
 · exfalso;have h1:(w3+1)*P≤q*d2*P:=Nat.mul_le_mul_right _ h;have h2:q*(d2*P)≤q*D:=Nat.mul_le_mul_left _ (by omega);have h3:q*(d2*P)=q*d2*P:=by rw [Nat.mul_assoc]
   have h4:(w3+1)*P=w3*P+P:=by rw [Nat.add_mul]; omega
   omega
 · exact h
theorem digit_lo {W D w3 d2 q e P lo lo':Nat} (_hP:0 < P) (hW:W=w3*P+lo) (hD:D=d2*P+lo') (hlo:lo' < P) (hq:W < (q+1)*D) (he:e*d2≤w3) (hd:q+1≤d2):e≤q+1:=by
 rcases Nat.lt_or_ge (q+1) e with h | h
 · exfalso;have h1:(q+2)*d2≤e*d2:=Nat.mul_le_mul_right _ h;have h2:(q+2)*d2*P≤w3*P:=Nat.mul_le_mul_right _ (by omega);have h3:(q+1)*D≤(q+1)*(d2*P+P):=Nat.mul_le_mul_left _ (by omega);have h4:(q+1)*(d2*P+P)=(q+1)*d2*P+(q+1)*P:=by grind
   have h5:(q+2)*d2*P=(q+1)*d2*P+d2*P:=by grind
   have h6:(q+1)*P≤d2*P:=Nat.mul_le_mul_right _ hd;omega
 · exact h
end
structure Leh (a b A Bb P α β:Int) (f g u1 u2 v1 v2 s:Int):Prop where
 ha:a=A*P+α
 hb:b=Bb*P+β
 a0:0≤α
 a1:α < P
 b0:0≤β
 b1:β < P
 sg:s=1∨s = -1
 f0:0≤f
 g0:0≤g
 gf:g≤f
 ef:f=s*(u1*A - v1*Bb)
 eg:g = -(s*(u2*A - v2*Bb))
 sv:v2*f+v1*g=A
 su:u2*f+u1*g=Bb
 u1n:0≤u1
 u2n:0≤u2
 v1n:0≤v1
 v2p:1≤v2
 uv:u2≤v2
 vv:v1≤v2
theorem Leh.start {a b A Bb P α β:Int} (ha:a=A*P+α) (hb:b=Bb*P+β) (a0:0≤α) (a1:α < P) (b0:0≤β) (b1:β < P) (hA:0≤Bb) (hAB:Bb≤A):Leh a b A Bb P α β A Bb 1 0 0 1 1 :=
 ⟨ha,hb,a0,a1,b0,b1,Or.inl rfl,by omega,hA,hAB,by simp,by simp,by simp,by simp,by omega,by omega,by omega,by omega,by omega,by omega⟩
theorem Leh.sec {a b A Bb P α β f g u1 u2 v1 v2 s:Int} (h:Leh a b A Bb P α β f g u1 u2 v1 v2 s) (hc:v2≤g):0 ≤ -(s*(u2*a - v2*b)):=by
 obtain ⟨ha,hb,a0,a1,b0,b1,sg,_,_,_,_,eg,_,_,_,u2n,_,v2p,uv,_⟩:=h;have e : -(s*(u2*a - v2*b))=g*P - s*(u2*α - v2*β):=by rw [ha,hb,eg]; grind
 have k1:u2*α≤v2*(P - 1):=Int.le_trans (Int.mul_le_mul_of_nonneg_right uv a0) (Int.mul_le_mul_of_nonneg_left (by omega) (by omega));have k2:v2*β≤v2*(P - 1):=Int.mul_le_mul_of_nonneg_left (by omega) (by omega);have k3:0≤u2*α:=Int.mul_nonneg u2n a0;have k4:0≤v2*β:=Int.mul_nonneg (by omega) b0;have k5:v2*P≤g*P:=Int.mul_le_mul_of_nonneg_right hc (by omega);have k6:v2*(P - 1)=v2*P - v2:=by grind
 rw [e];generalize u2 * α=x at *
 generalize v2 * β=y at *
 generalize v2 * P=z at *
 generalize g * P=t at *
 rcases sg with rfl | rfl <;> omega
theorem Leh.gap {a b A Bb P α β f g u1 u2 v1 v2 s:Int} (h:Leh a b A Bb P α β f g u1 u2 v1 v2 s) (hc:v1+v2≤f - g) (hu:u1≤v1∨(u1=1∧v1=0∧u2=0∧s=1)) : -(s*(u2*a - v2*b)) < s*(u1*a - v1*b):=by
 obtain ⟨ha,hb,a0,a1,b0,b1,sg,_,_,_,ef,eg,_,_,u1n,u2n,v1n,v2p,uv,vv⟩:=h;have e1 : -(s*(u2*a - v2*b))=g*P - s*(u2*α - v2*β):=by rw [ha,hb,eg]; grind
 have e2:s*(u1*a - v1*b)=f*P+s*(u1*α - v1*β):=by rw [ha,hb,ef]; grind
 have k5:(v1+v2)*P≤(f - g)*P:=Int.mul_le_mul_of_nonneg_right hc (by omega);have k6:(v1+v2)*P=v1*P+v2*P:=by grind
 have k7:(f - g)*P=f*P - g*P:=by grind
 have m1:0≤u2*α:=Int.mul_nonneg u2n a0;have m2:0≤v2*β:=Int.mul_nonneg (by omega) b0;have m3:0≤u1*α:=Int.mul_nonneg u1n a0;have m4:0≤v1*β:=Int.mul_nonneg v1n b0;have n1:v2*β≤v2*(P - 1):=Int.mul_le_mul_of_nonneg_left (by omega) (by omega);have n2:v1*β≤v1*(P - 1):=Int.mul_le_mul_of_nonneg_left (by omega) (by omega);have n3:u2*α≤v2*(P - 1):=Int.le_trans (Int.mul_le_mul_of_nonneg_right uv a0) (Int.mul_le_mul_of_nonneg_left (by omega) (by omega));have w1:v2*(P - 1)=v2*P - v2:=by grind
 have w2:v1*(P - 1)=v1*P - v1:=by grind
 rw [e1,e2];rcases hu with hu | ⟨rfl,rfl,rfl,rfl⟩
 · have n4:u1*α≤v1*(P - 1):=Int.le_trans (Int.mul_le_mul_of_nonneg_right hu a0) (Int.mul_le_mul_of_nonneg_left (by omega) (by omega));generalize u2 * α=x at *
   generalize v2 * β=y at *
   generalize u1 * α=x1 at *
   generalize v1 * β=y1 at *
   generalize v2 * P=z at *
   generalize v1 * P=z1 at *
   generalize g * P=t at *
   generalize f * P=t1 at *
   rcases sg with rfl | rfl <;> omega
 · simp at *
   generalize v2 * β=y at *
   generalize v2 * P=z at *
   generalize g * P=t at *
   generalize f * P=t1 at *
   omega
theorem Leh.step {a b A Bb P α β f g u1 u2 v1 v2 s q r:Int} (h:Leh a b A Bb P α β f g u1 u2 v1 v2 s) (hq:f=q*g+r) (r0:0≤r) (rg:r < g) (q1:1≤q) (hu:u1≤v1∨(u1=1∧v1=0∧u2=0∧s=1)):Leh a b A Bb P α β g r u2 (u1+q*u2) v2 (v1+q*v2) (-s):=by
 obtain ⟨ha,hb,a0,a1,b0,b1,sg,f0,g0,gf,ef,eg,sv,su,u1n,u2n,v1n,v2p,uv,vv⟩:=h;have k1:0≤q*u2:=Int.mul_nonneg (by omega) u2n;have k2:v2≤q*v2:=by
  have:=Int.mul_le_mul_of_nonneg_right q1 (show 0≤v2 by omega);omega
 have k3:q*u2≤q*v2:=Int.mul_le_mul_of_nonneg_left uv (by omega);refine ⟨ha,hb,a0,a1,b0,b1,by rcases sg with rfl | rfl <;> simp,g0,r0,by omega,by rw [eg]; grind, ?_, ?_, ?_,u2n,by omega,by omega,by omega, ?_,by omega⟩
 · have:r=f - q*g:=by omega
   rw [this,ef,eg]; grind
 · have:r=f - q*g:=by omega
   rw [this,←sv]; grind
 · have:r=f - q*g:=by omega
   rw [this,←su]; grind
 · rcases hu with hu | ⟨rfl,rfl,rfl,_⟩
   · omega
   · simp; omega
theorem guess_le {b y1 y0 U:Nat} (h1:b≤2*y1) (h0:y0 < b) (hU:U < y1*b+y0):U / y1≤b+1:=by
 rcases Nat.lt_or_ge (b+1) (U / y1) with h | h
 · exfalso;have h2:(b+2)*y1≤U / y1*y1:=Nat.mul_le_mul_right _ h;have h3:U / y1*y1≤U:=Nat.div_mul_le_self _ _;have h4:(b+2)*y1=y1*b+2*y1:=by grind
   omega
 · exact h
theorem guess_hi {b y1 y0 U u q g r:Nat} (hg:g*y1+r=U) (hq:q*(y1*b+y0)≤U*b+u) (hu:u < b) (hr:r < y1):q≤g:=by
 rcases Nat.lt_or_ge g q with h | h
 · exfalso;have h1:(g+1)*(y1*b+y0)≤q*(y1*b+y0):=Nat.mul_le_mul_right _ h;have h2:(g+1)*(y1*b+y0)=g*y1*b+y1*b+(g+1)*y0:=by grind
   have h3:U*b=g*y1*b+r*b:=by rw [←hg]; grind
   have h4:(r+1)*b≤y1*b:=Nat.mul_le_mul_right _ hr;have h5:(r+1)*b=r*b+b:=by grind
   omega
 · exact h
theorem guess_down {b y1 y0 U u q g r:Nat} (hg:g*y1+r=U) (hq:q*(y1*b+y0)≤U*b+u) (hqb:q < b) (hc:b≤g∨b*r+u < g*y0):q < g:=by
 rcases hc with hc | hc
 · omega
 · rcases Nat.lt_or_ge q g with h | h
   · exact h
   · exfalso;have h1:g*(y1*b+y0)≤q*(y1*b+y0):=Nat.mul_le_mul_right _ h;have h2:g*(y1*b+y0)=g*y1*b+g*y0:=by grind
     have h3:U*b=g*y1*b+r*b:=by rw [←hg]; grind
     have h4:b*r=r*b:=Nat.mul_comm _ _;omega
theorem guess_done {b y1 y0 U u q g r:Nat} (hg:g*y1+r=U) (hq2:U*b+u < (q+1)*(y1*b+y0)) (hc:g*y0≤b*r+u):g≤q:=by
 rcases Nat.lt_or_ge q g with h | h
 · exfalso;have h1:(q+1)*(y1*b+y0)≤g*(y1*b+y0):=Nat.mul_le_mul_right _ h;have h2:g*(y1*b+y0)=g*y1*b+g*y0:=by grind
   have h3:U*b=g*y1*b+r*b:=by rw [←hg]; grind
   have h4:b*r=r*b:=Nat.mul_comm _ _;omega
 · exact h
theorem guess_over {b y0 u g r:Nat} (hr:b≤r) (hg:g≤b) (h0:y0 < b):g*y0≤b*r+u:=by
 have h1:g*y0≤b*y0:=Nat.mul_le_mul_right _ hg;have h2:b*y0≤b*r:=Nat.mul_le_mul_left _ (by omega);omega
theorem digit_lt {b y U u q:Nat} (hU:U < y) (hu:u < b) (hq:q*y≤U*b+u):q < b:=by
 rcases Nat.lt_or_ge q b with h | h
 · exact h
 · exfalso;have h1:b*y≤q*y:=Nat.mul_le_mul_right _ h;have h2:(U+1)*b≤y*b:=Nat.mul_le_mul_right _ hU;have h3:(U+1)*b=U*b+b:=by grind
   have h4:b*y=y*b:=Nat.mul_comm _ _;omega
end Go.Proofs.YtlpgonpfjbhmfaaGreatDoor.W
namespace Go.Proofs.YtlpgonpfjbhmfaaGreatDoor
open Go Go.RowKit
def natV (k:IntKind) (x:Nat):Value := .int k (x:Int)
def SlN (k:IntKind) (w:World) (a:Option Addr) (n c:Nat) (xs:List Nat):Prop:=Sl w a n c (xs.map (natV k))
def ArrN (k:IntKind) (w:World) (g:Nat) (t:TypeId) (xs:List Nat):Prop:=Arr w g t (xs.map (natV k))
section
variable {k:IntKind} {w w':World} {a:Option Addr} {n c:Nat} {xs:List Nat}
theorem SlN.ext (h:SlN k w a n c xs) (e:Ext w w'):SlN k w' a n c xs:=Sl.ext h e
theorem SlN.len (h:SlN k w a n c xs):xs.length=n:=by have:=Sl.len h; simpa using this
theorem SlN.le (h:SlN k w a n c xs):n≤9223372036854775807:=by
 have h1:=Sl.cap h; have h2:=Sl.max h; unfold maxLen at h2; omega
theorem SlN.cap (h:SlN k w a n c xs):n≤c:=Sl.cap h
theorem SlN.nil (k:IntKind) (w:World):SlN k w none 0 0 []:=Sl.nil w
theorem SlN.at (h:SlN k w a n c xs) {j:Nat} (hj:j < n) :
 ∃ b off,a=some ⟨b,off,none⟩∧∀ i,i < n→w.cell? ⟨b,off+i,none⟩=some (.int k ((xs.getD i 0:Nat):Int)):=by
 obtain ⟨b,off,ha,hc⟩:=Sl.rd h (by omega);refine ⟨b,off,ha,fun i hi => ?_⟩;rw [hc i hi];have hl:=h.len;have hi':i < xs.length:=by omega
 simp [List.getD_eq_getElem?_getD,hi',natV]
theorem SlN.upto (h:SlN k w a n c xs) {m:Nat} (hm:m≤n):SlN k w a m c (xs.take m):=by
 have:=Sl.upto h hm
 rwa [←List.map_take] at this
theorem Sl.keptR {row:Option Nat} {cs:List Value} (h:Sl w a n c cs) (hg:w.grownBy w' row) (hne:blk a=none∨blk a≠row):Sl w' a n c cs:=by
 refine ⟨h.len,h.cap,h.max,fun h0 => ?_⟩;obtain ⟨b,off,rfl,hc⟩:=h.rd h0;refine ⟨b,off,rfl,fun i hi => ?_⟩;have h1:=hc i hi;have hb:b < w.heap.size:=World.block_lt_of_cell? w ⟨b,off+i,none⟩ h1;rcases hne with hne | hne
 · simp [blk] at hne
 · rw [World.cell?_of_block (w:=w) (hg.block b hb hne),h1]
theorem SlN.kept {row:Option Nat} (h:SlN k w a n c xs) (hg:w.grownBy w' row) (hne:blk a=none∨blk a≠row):SlN k w' a n c xs:=Sl.keptR h hg hne
theorem SlN.fresh {w0:World} (h:SlN k w0 a n c xs) {g:Nat} (hg:w0.heap.size≤g) (h0:0 < n):blk a≠some g:=by
 obtain ⟨b,off,rfl,hc⟩:=Sl.rd h h0;have hb:b < w0.heap.size:=World.block_lt_of_cell? w0 ⟨b,off+0,none⟩ (hc 0 h0);simp [blk];omega
end
section
variable {k:IntKind} {w w':World} {g:Nat} {t:TypeId} {xs:List Nat}
theorem ArrN.lt (h:ArrN k w g t xs):g < w.heap.size:=Arr.lt h
theorem ArrN.cell (h:ArrN k w g t xs) {i:Nat} (hi:i < xs.length):w.cell? ⟨g,i,none⟩=some (.int k ((xs.getD i 0:Nat):Int)):=by
 rw [Arr.cell h (by simpa using hi)];simp [List.getD_eq_getElem?_getD,hi,natV]
theorem ArrN.frozen (h:ArrN k w g t xs) (i:Nat):w.frozen? ⟨g,i,none⟩=false:=Arr.frozen h i
theorem ArrN.set (h:ArrN k w g t xs) (i:Nat) (v:Nat):ArrN k (w.setCell ⟨g,i,none⟩ (.int k (v:Int))) g t (xs.set i v):=by
 have:=Arr.set h i (natV k v)
 rwa [←List.map_set] at this
theorem ArrN.drewN (h:ArrN k w g t xs) (n:Nat):ArrN k (w.drewN n) g t xs:=Arr.drewN h n
theorem ArrN.ext (h:ArrN k w g t xs) (e:Ext w w'):ArrN k w' g t xs:=Arr.ext h e
theorem ArrN.alloc (h:ArrN k w g t xs) (o:Obj):ArrN k (w.alloc o) g t xs:=Arr.alloc h o
theorem ArrN.kept {row:Option Nat} (h:ArrN k w g t xs) (hb:w.grownBy w' row) (hg:some g≠row):ArrN k w' g t xs:=Arr.kept h hb hg
theorem ArrN.part (h:ArrN k w g t xs) {o n c:Nat} (ho:o+n≤xs.length) (hc:n≤c) (hm:c≤maxLen):SlN k w (some ⟨g,o,none⟩) n c ((xs.drop o).take n):=by
 refine ⟨by simp; omega,hc,hm,fun _=>⟨g,o,rfl,fun i hi => ?_⟩⟩;rw [h.cell (i:=o+i) (by omega)];have h1:i < n:=hi;have h2:o+i < xs.length:=by omega
 simp [List.getD_eq_getElem?_getD,h1,h2,natV]
theorem ArrN.sl (h:ArrN k w g t xs) {n c:Nat} (hn:n≤xs.length) (hc:n≤c) (hm:c≤maxLen):SlN k w (some ⟨g,0,none⟩) n c (xs.take n):=by
 have:=h.part (o:=0) (n:=n) (by omega) hc hm;simpa using this
end
theorem Own.arr {w:World} {base:Nat} {e:TypeId} {g n:Nat} {cs:List Value} (h:Own w base e (some ⟨g,0,none⟩) n n cs):Arr w g e cs:=by
 have hl:=h.len;rcases h.2 with ⟨hv,_⟩ | ⟨g1,cap,cur,hv,_,hh,_,_,hs,ht⟩
 · simp at hv
 · simp only [Value.slice.injEq,Option.some.injEq,Addr.mk.injEq,and_true,true_and] at hv;obtain ⟨rfl,rfl⟩:=hv;unfold Arr;rw [hh];have:cur.toList=cs:=by
    rw [←ht];exact (List.take_of_length_le (by simp [hs])).symm
   rw [←this]
structure Num (B:Nat) (xs:List Nat) (v:Nat):Prop where
 bnd:W.bnd B xs
 nrm:W.nrm xs
 val:W.val B xs=v
theorem Num.nil (B:Nat):Num B [] 0:=⟨fun x hx=>(by simp at hx),W.nrm_nil,rfl⟩
theorem Num.trim {B:Nat} {xs:List Nat} {v:Nat} (h:W.bnd B xs) (hv:W.val B xs=v):Num B (W.trim xs) v:=⟨W.bnd_trim h,W.trim_nrm xs,by rw [W.trim_val]; exact hv⟩
def RetN (k:IntKind) (B:Nat) (w:World) (v:Nat) (e:Ending) (w':World):Prop:=∃ a n c xs,e = .returned (.slice a n c)∧Ext w w'∧SlN k w' a n c xs∧Num B xs v
def OwnN (k:IntKind) (w:World) (base:Nat) (e:TypeId) (g n c:Nat) (xs:List Nat):Prop:=Own w base e (some ⟨g,0,none⟩) n c (xs.map (natV k))
section
variable {k:IntKind} {w w':World} {base:Nat} {e:TypeId} {g n c:Nat} {xs:List Nat}
theorem OwnN.len (h:OwnN k w base e g n c xs):xs.length=n:=by have:=Own.len h; simpa using this
theorem OwnN.le (h:OwnN k w base e g n c xs):n≤9223372036854775807:=by
 have h1:=Own.cap h; have h2:=(Own.sl h).max; unfold maxLen at h2; omega
theorem OwnN.lo (h:OwnN k w base e g n c xs):base≤g:=(Own.lt h (k:=g) rfl).1
theorem OwnN.lt (h:OwnN k w base e g n c xs):g < w.heap.size:=(Own.lt h (k:=g) rfl).2
theorem OwnN.cell (h:OwnN k w base e g n c xs) {i:Nat} (hi:i < n):w.cell? ⟨g,i,none⟩=some (.int k ((xs.getD i 0:Nat):Int)):=by
 have hl:=h.len;have hi':i < xs.length:=by omega
 rw [Own.cellAt h hi];simp [List.getD_eq_getElem?_getD,hi',natV]
theorem OwnN.frozen (h:OwnN k w base e g n c xs) (i:Nat):w.frozen? ⟨g,i,none⟩=false:=Own.frozenAt h i
theorem OwnN.set (h:OwnN k w base e g n c xs) (i v:Nat):OwnN k (w.setCell ⟨g,i,none⟩ (.int k (v:Int))) base e g n c (xs.set i v):=by
 have:=Own.stored h i (natV k v)
 rwa [←List.map_set] at this
theorem OwnN.ext (h:OwnN k w base e g n c xs) (x:Ext w w'):OwnN k w' base e g n c xs:=Own.ext h x
theorem OwnN.drewN (h:OwnN k w base e g n c xs) (m:Nat):OwnN k (w.drewN m) base e g n c xs:=Own.drewN h m
theorem OwnN.mono {base':Nat} (h:OwnN k w base e g n c xs) (hb:base'≤base):OwnN k w base' e g n c xs:=Own.mono h hb
theorem OwnN.kept {row:Option Nat} (h:OwnN k w base e g n c xs) (hg:w.grownBy w' row) (hne:some g≠row):OwnN k w' base e g n c xs:=Own.kept h hg (Or.inr hne)
theorem OwnN.sl (h:OwnN k w base e g n c xs):SlN k w (some ⟨g,0,none⟩) n c xs:=Own.sl h
theorem OwnN.of_zeros (h:Own w base e (some ⟨g,0,none⟩) n c (List.replicate n (.int k 0))):OwnN k w base e g n c (List.replicate n 0):=by
 unfold OwnN;rw [List.map_replicate];exact h
theorem OwnN.arr (h:OwnN k w base e g n n xs):ArrN k w g e xs:=Own.arr h
theorem ArrN.own (h:ArrN k w g e xs) (hb:base≤g) (hm:xs.length≤maxLen):OwnN k w base e g xs.length xs.length xs:=by
 refine ⟨by simp,Or.inr ⟨g,xs.length,(xs.map (natV k)).toArray,rfl,hb,h,Nat.le_refl _,hm,by simp, ?_⟩⟩;rw [Nat.mul_one];exact List.take_of_length_le (by simp)
end
theorem grown_self (w:World) (row:Option Nat):w.grownBy w row:=World.grownBy.refl w row
theorem grown_tr {a b c:World} {row:Option Nat} (h:a.grownBy b row) (k:b.grownBy c row):a.grownBy c row :=
 ⟨k.os.trans h.os,k.tape.trans h.tape,k.output.trans h.output,Nat.le_trans h.size k.size,fun i hi hne=>(k.block i (Nat.lt_of_lt_of_le hi h.size) hne).trans (h.block i hi hne)⟩
theorem grown_ext {a b c:World} {row:Option Nat} (h:a.grownBy b row) (k:Ext b c):a.grownBy c row :=
 ⟨k.os.trans h.os,k.tape.trans h.tape,k.output.trans h.output,Nat.le_trans h.size k.size,fun i hi hne=>(k.block (Nat.lt_of_lt_of_le hi h.size)).trans (h.block i hi hne)⟩
theorem grown_set {a b:World} {g:Nat} (h:a.grownBy b (some g)) (j:Nat) (u:Value):a.grownBy (b.setCell ⟨g,j,none⟩ u) (some g):=grown_tr h (grown_setCell b g j u)
theorem Ext.grownR {w w1 w':World} {g:Nat} (h:Ext w w1) (hg:w1.grownBy w' (some g)) (hr:w.heap.size≤g):Ext w w':=h.grown hg (fun k hk=>by simp only [Option.some.injEq] at hk; omega)
end Go.Proofs.YtlpgonpfjbhmfaaGreatDoor
namespace Go.Proofs.YtlpgonpfjbhmfaaGreatDoor
open Go.Shelf
def add64L_ren:Go.Shelf.Ren:=⟨fun | 25=>203 | n=>n,fun | 22=>143 | n=>n,fun | n=>n⟩
theorem add64L:Go.Proofs.Lays7.n25 Tryz.prog add64L_ren:={
 mixed:=by kernel_rfl
 f25:=Tryz.func203.trans (congrArg some (by kernel_rfl))
 t22:=Tryz.underlying143
 a22:=Tryz.isAgg143
 z22:=Tryz.sizeOf143
 v22:=Tryz.zeroValue143
 i22:=by kernel_rfl }
def sub64L_ren:Go.Shelf.Ren:=⟨fun | 26=>179 | n=>n,fun | 22=>143 | n=>n,fun | n=>n⟩
theorem sub64L:Go.Proofs.Lays7.n26 Tryz.prog sub64L_ren:={
 mixed:=by kernel_rfl
 f26:=Tryz.func179.trans (congrArg some (by kernel_rfl))
 t22:=Tryz.underlying143
 a22:=Tryz.isAgg143
 z22:=Tryz.sizeOf143
 v22:=Tryz.zeroValue143
 i22:=by kernel_rfl }
def mul64L_ren:Go.Shelf.Ren:=⟨fun | 264=>204 | n=>n,fun | 53=>143 | 46=>147 | n=>n,fun | n=>n⟩
theorem mul64L:Go.Proofs.Lays.n264 Tryz.prog mul64L_ren:={
 mixed:=by kernel_rfl
 f264:=Tryz.func204.trans (congrArg some (by kernel_rfl))
 t46:=Tryz.underlying147
 a46:=Tryz.isAgg147
 z46:=Tryz.sizeOf147
 v46:=Tryz.zeroValue147
 t53:=Tryz.underlying143
 a53:=Tryz.isAgg143
 z53:=Tryz.sizeOf143
 v53:=Tryz.zeroValue143 }
def lz64L_ren:Go.Shelf.Ren:=⟨fun | 134=>175 | 129=>165 | n=>n,fun | 53=>143 | 3=>3 | 4=>4 | 46=>147 | 5=>5 | 9=>9 | n=>n,fun | n=>n⟩
theorem lz64L:Go.Proofs.Lays.n134 Tryz.prog lz64L_ren:={
 mixed:=by kernel_rfl
 f129:=Tryz.func165.trans (congrArg some (by kernel_rfl))
 f134:=Tryz.func175.trans (congrArg some (by kernel_rfl))
 t3:=Tryz.underlying3
 a3:=Tryz.isAgg3
 z3:=Tryz.sizeOf3
 v3:=Tryz.zeroValue3
 t4:=Tryz.underlying4
 a4:=Tryz.isAgg4
 z4:=Tryz.sizeOf4
 v4:=Tryz.zeroValue4
 t5:=Tryz.underlying5
 a5:=Tryz.isAgg5
 z5:=Tryz.sizeOf5
 v5:=Tryz.zeroValue5
 t9:=Tryz.underlying9
 a9:=Tryz.isAgg9
 z9:=Tryz.sizeOf9
 v9:=Tryz.zeroValue9
 t46:=Tryz.underlying147
 a46:=Tryz.isAgg147
 z46:=Tryz.sizeOf147
 v46:=Tryz.zeroValue147
 t53:=Tryz.underlying143
 a53:=Tryz.isAgg143
 z53:=Tryz.sizeOf143
 v53:=Tryz.zeroValue143 }
def len64L_ren:Go.Shelf.Ren:=⟨fun | 129=>165 | n=>n,fun | 53=>143 | 3=>3 | 4=>4 | 46=>147 | 5=>5 | 9=>9 | n=>n,fun | n=>n⟩
theorem len64L:Go.Proofs.Lays.n129 Tryz.prog len64L_ren:={
 mixed:=by kernel_rfl
 f129:=Tryz.func165.trans (congrArg some (by kernel_rfl))
 t3:=Tryz.underlying3
 a3:=Tryz.isAgg3
 z3:=Tryz.sizeOf3
 v3:=Tryz.zeroValue3
 t4:=Tryz.underlying4
 a4:=Tryz.isAgg4
 z4:=Tryz.sizeOf4
 v4:=Tryz.zeroValue4
 t5:=Tryz.underlying5
 a5:=Tryz.isAgg5
 z5:=Tryz.sizeOf5
 v5:=Tryz.zeroValue5
 t9:=Tryz.underlying9
 a9:=Tryz.isAgg9
 z9:=Tryz.sizeOf9
 v9:=Tryz.zeroValue9
 t46:=Tryz.underlying147
 a46:=Tryz.isAgg147
 z46:=Tryz.sizeOf147
 v46:=Tryz.zeroValue147
 t53:=Tryz.underlying143
 a53:=Tryz.isAgg143
 z53:=Tryz.sizeOf143
 v53:=Tryz.zeroValue143 }
end Go.Proofs.YtlpgonpfjbhmfaaGreatDoor
namespace Go.Proofs.YtlpgonpfjbhmfaaGreatDoor
open Go Go.RowKit
theorem info_u64:Elem1 Tryz.prog 143 (.int .u64 0) 8:=by unfold Elem1; kernel_rfl
theorem add64_run (x y c:Nat) (hc:c≤1) (w:World):(callFunc 203 #[.int .u64 x, .int .u64 y, .int .u64 c]).run Tryz.prog w = .ok (.value (.tuple #[.int .u64 (((x+y+c) % 18446744073709551616:Nat):Int), .int .u64 (((x+y+c) / 18446744073709551616:Nat):Int)])) w:=Any7.bits_Add64 add64L x y c hc w
theorem sub64_run (x y c:Nat) (hc:c≤1) (w:World):(callFunc 179 #[.int .u64 x, .int .u64 y, .int .u64 c]).run Tryz.prog w = .ok (.value (.tuple #[.int .u64 (((x+18446744073709551616 - y - c) % 18446744073709551616:Nat):Int), .int .u64 ((if x < y+c then 1 else 0:Nat):Int)])) w:=Any7.bits_Sub64 sub64L x y c hc w
theorem int_trim {a:Option Addr} {n c:Nat} {xs:List Nat} {w:World} (hx:SlN .u64 w a n c xs) :
 Calls Tryz.prog 140 #[.slice a n c] w fun e w'=>∃ m,e = .returned (.slice a m c)∧w=w'∧m≤n∧W.trim xs=xs.take m:=by
 have HX:=Lib.hid hx.len;have hnn:=hx.le;have hcap:=hx.cap
 go_enter Tryz.func140,Tryz.ntmps140
 go_wp2
 go_loop [3] (fun v=>∃ k:Nat,k≤n∧v = .int .i64 k∧Hid (W.trim xs=W.trimTo xs k)) (fun v=>(intOf v).toNat)
 case atStart=>exact ⟨n,Nat.le_refl _,rfl,Lib.hid (by unfold W.trim; rw [HX.out])⟩
 case round =>
  obtain ⟨k,hk,rfl,HT⟩:=hrel;have hsl:=fun wx:World=>run_slice_to (P:=Tryz.prog) (w:=wx) (a:=a) (n:=n) Tryz.underlying88 info_u64 (k:=k) (c:=c) (by omega);cases k with
  | zero =>
   go_wp2;go_ret;exact ⟨0,rfl,rfl,by omega,by rw [HT.out]; rfl⟩
  | succ k =>
   obtain ⟨b,o,rfl,hc⟩:=hx.at (j:=k) (by omega);have g1:=hc k (by omega);have hw:IntKind.i64.wrap ((k:Int)+1 - 1)=k:=by rw [Int.add_sub_cancel]; exact IntWalk.i64_in _ (by omega)
   have hw2:IntKind.i64.wrap (k:Int)=k:=IntWalk.i64_in _ (by omega);by_cases hz:xs.getD k 0=0
   · have HT2:Hid (W.trim xs=W.trimTo xs k):=by
      show _=_;rw [HT.out];exact if_pos hz
     rw [hz] at g1;clear hz hc;go_wp2;go_round
     case rel=>exact ⟨k,by omega,rfl,HT2⟩
     case measure=>simp [intOf]
   · have HT2:Hid (W.trim xs=xs.take (k+1)):=by
      show _=_;rw [HT.out];exact if_neg hz
     have hne:(((xs.getD k 0:Nat):Int) == 0)=false:=by simpa using hz
     generalize xs.getD k 0=y at *
     clear hz hc;go_wp2;go_ret;exact ⟨k+1,rfl,rfl,by omega,HT2.out⟩
theorem trim_num {w:World} {a:Option Addr} {n c m:Nat} {xs:List Nat} {v:Nat} (hx:SlN .u64 w a n c xs) (hm:m≤n) (ht:W.trim xs=xs.take m) (hb:W.bnd 18446744073709551616 xs) (hv:W.val 18446744073709551616 xs=v):SlN .u64 w a m c (W.trim xs)∧Num 18446744073709551616 (W.trim xs) v :=
 ⟨by rw [ht]; exact hx.upto hm,Num.trim hb hv⟩
theorem int_fromWord {x:Nat} {w:World} (hx:x < 18446744073709551616):Calls Tryz.prog 141 #[.int .u64 x] w (RetN .u64 18446744073709551616 w x):=by
 by_cases h0:x=0
 · subst h0
   go_enter Tryz.func141,Tryz.ntmps141
   go_wp2;go_ret;exact ⟨none,0,0,[],rfl,Ext.refl w,SlN.nil _ _,Num.nil _⟩
 · have hb:((x:Int) == 0)=false:=by simpa using h0
   go_enter Tryz.func141,Tryz.ntmps141
   go_wp2;go_ret;refine ⟨_,1,1,[x],rfl,(Ext.refl w).alloc _,(own_alloc w w.heap.size 143 #[.int .u64 x] 1 rfl (Nat.le_refl _) (by omega)).sl,⟨?_,W.nrm_single h0,by simp [W.val]⟩⟩;intro y hy;simp only [List.mem_singleton] at hy;subst hy;exact hx
theorem cmpU_isNaN (x:Int) (w:World):Calls Tryz.prog 205 #[.int .u64 x] w fun e w'=>e = .returned (.bool false)∧w=w':=by
 have h:(x != x)=false:=by simp
 go_enter Tryz.func205,Tryz.ntmps205
 go_wp2;go_ret;exact ⟨rfl,rfl⟩
theorem cmpI_isNaN (x:Int) (w:World):Calls Tryz.prog 155 #[.int .i64 x] w fun e w'=>e = .returned (.bool false)∧w=w':=by
 have h:(x != x)=false:=by simp
 go_enter Tryz.func155,Tryz.ntmps155
 go_wp2;go_ret;exact ⟨rfl,rfl⟩
def cmpZ (x y:Int):Int:=if x < y then -1 else if y < x then 1 else 0
theorem cmpU_Compare (x y:Int) (w:World):Calls Tryz.prog 174 #[.int .u64 x, .int .u64 y] w fun e w'=>e = .returned (.int .i64 (cmpZ x y))∧w=w':=by
 by_cases h1:x < y
 · have H:Hid (cmpZ x y = -1):=by show _=_; simp [cmpZ,h1]
   go_enter Tryz.func174,Tryz.ntmps174
   go_wp2_with (go_at_call 205; refine (cmpU_isNaN _ _).mono ?_; rintro e w1 ⟨rfl,rfl⟩)
   go_ret;exact ⟨retN H.out,rfl⟩
 · by_cases h2:y < x
   · have H:Hid (cmpZ x y=1):=by show _=_; simp [cmpZ,h1,h2]
     go_enter Tryz.func174,Tryz.ntmps174
     go_wp2_with (go_at_call 205; refine (cmpU_isNaN _ _).mono ?_; rintro e w1 ⟨rfl,rfl⟩)
     go_ret;exact ⟨retN H.out,rfl⟩
   · have H:Hid (cmpZ x y=0):=by show _=_; simp [cmpZ,h1,h2]
     go_enter Tryz.func174,Tryz.ntmps174
     go_wp2_with (go_at_call 205; refine (cmpU_isNaN _ _).mono ?_; rintro e w1 ⟨rfl,rfl⟩)
     go_ret;exact ⟨retN H.out,rfl⟩
theorem cmpI_Compare (x y:Int) (w:World):Calls Tryz.prog 124 #[.int .i64 x, .int .i64 y] w fun e w'=>e = .returned (.int .i64 (cmpZ x y))∧w=w':=by
 by_cases h1:x < y
 · have H:Hid (cmpZ x y = -1):=by show _=_; simp [cmpZ,h1]
   go_enter Tryz.func124,Tryz.ntmps124
   go_wp2_with (go_at_call 155; refine (cmpI_isNaN _ _).mono ?_; rintro e w1 ⟨rfl,rfl⟩)
   go_ret;exact ⟨retN H.out,rfl⟩
 · by_cases h2:y < x
   · have H:Hid (cmpZ x y=1):=by show _=_; simp [cmpZ,h1,h2]
     go_enter Tryz.func124,Tryz.ntmps124
     go_wp2_with (go_at_call 155; refine (cmpI_isNaN _ _).mono ?_; rintro e w1 ⟨rfl,rfl⟩)
     go_ret;exact ⟨retN H.out,rfl⟩
   · have H:Hid (cmpZ x y=0):=by show _=_; simp [cmpZ,h1,h2]
     go_enter Tryz.func124,Tryz.ntmps124
     go_wp2_with (go_at_call 155; refine (cmpI_isNaN _ _).mono ?_; rintro e w1 ⟨rfl,rfl⟩)
     go_ret;exact ⟨retN H.out,rfl⟩
theorem cmp_at {B:Nat} {xs ys:List Nat} {i:Nat} (hl:xs.length=ys.length) (hi:i < xs.length) (hd:xs.drop (i+1)=ys.drop (i+1)) (bx:W.bnd B xs) (hlt:xs.getD i 0 < ys.getD i 0):W.val B xs < W.val B ys:=by
 have e1:=W.val_split (B:=B) xs (i+1) (by omega);have e2:=W.val_split (B:=B) ys (i+1) (by omega);rw [W.val_take_succ hi] at e1;rw [W.val_take_succ (by omega)] at e2;have b1:=W.val_lt (W.bnd_take bx i);rw [List.length_take,Nat.min_eq_left (by omega)] at b1;rw [e1,e2,hd];have h1:B^i*(xs.getD i 0+1)≤B^i*ys.getD i 0:=Nat.mul_le_mul_left _ hlt;have h2:B^i*(xs.getD i 0+1)=B^i*xs.getD i 0+B^i:=by rw [Nat.mul_add,Nat.mul_one]
 omega
theorem cmpZ_lt {x y:Int} (h:x < y):cmpZ x y = -1:=by simp [cmpZ,h]
theorem cmpZ_gt {x y:Int} (h:y < x):cmpZ x y=1:=by
 have:¬ x < y:=by omega
 simp [cmpZ,h,this]
theorem cmpZ_eq (x:Int):cmpZ x x=0:=by simp [cmpZ]
theorem cmpZ_ne {x y:Nat} (h:x≠y):(x < y∧cmpZ x y = -1)∨(y < x∧cmpZ x y=1):=by
 rcases Nat.lt_or_gt_of_ne h with h1 | h1
 · exact Or.inl ⟨h1,cmpZ_lt (by omega)⟩
 · exact Or.inr ⟨h1,cmpZ_gt (by omega)⟩
theorem bne_natT {a b:Nat} (h:a≠b):((a:Int) != (b:Int))=true:=by simp; omega
theorem bne_natF {a b:Nat} (h:a=b):((a:Int) != (b:Int))=false:=by simp [h]
theorem beq_natF {a b:Nat} (h:a≠b):((a:Int) == (b:Int))=false:=by simp; omega
theorem cmpU_q (x y:Int) (w:World):Calls Tryz.prog 174 #[.int .u64 x, .int .u64 y] w fun e w'=>e = .returned (.int .i64 (cmpZ x y))∧Qt w w' :=
 (cmpU_Compare x y w).mono fun _ _ ⟨h1,h2⟩=>⟨h1,h2 ▸ Qt.refl _⟩
theorem int_compareWords {a b:Option Addr} {n c m d:Nat} {xs ys:List Nat} {x y:Nat} {w:World} (hx:SlN .u64 w a n c xs) (hy:SlN .u64 w b m d ys) (nx:Num 18446744073709551616 xs x) (ny:Num 18446744073709551616 ys y) :
 Calls Tryz.prog 135 #[.slice a n c, .slice b m d] w fun e w'=>e = .returned (.int .i64 (cmpZ x y))∧Qt w w':=by
 have HX:=Lib.hid hx.len;have HY:=Lib.hid hy.len;have hnn:=hx.le;have hmm:=hy.le;have NX:=Lib.hid nx;have NY:=Lib.hid ny;clear nx ny;by_cases hl:n=m
 · have hne:((n:Int) != (m:Int))=false:=by simp [hl]
   have HL:=Lib.hid hl;clear hl
   go_enter Tryz.func135,Tryz.ntmps135
   go_wp2
   go_loopw [5] (fun v wr=>∃ k:Nat,k≤n∧v = .int .i64 ((k:Int) - 1)∧Qt w wr∧Hid (xs.drop k=ys.drop k)) (fun v _=>(intOf v+1).toNat)
   case atStart=>exact ⟨n,Nat.le_refl _,by go_num,Qt.refl _,Lib.hid (by rw [List.drop_of_length_le (by rw [HX.out]; exact Nat.le_refl _),List.drop_of_length_le (by rw [HY.out,HL.out]; exact Nat.le_refl _)])⟩
   case round =>
    obtain ⟨k,hk,rfl,hQ,HD⟩:=hrel;cases k with
    | zero =>
     have HE:Hid (x=y):=by
      have:=HD.out;rw [List.drop_zero,List.drop_zero] at this;show x=y;rw [←NX.out.val,←NY.out.val,this]
     go_wp2;go_ret;exact ⟨retN (by rw [HE.out,cmpZ_eq]),hQ⟩
    | succ k =>
     have hk2:k < m:=by have:=HL.out; omega
     obtain ⟨b1,o1,rfl,hc1⟩:=(hx.ext hQ.ext).at (j:=k) (by omega);obtain ⟨b2,o2,rfl,hc2⟩:=(hy.ext hQ.ext).at (j:=k) hk2;have g1:=hc1 k (by omega);have g2:=hc2 k hk2;have hw0:((k+1:Nat):Int) - 1=k:=by omega
     rw [hw0];by_cases he:xs.getD k 0=ys.getD k 0
     · have hb:(((xs.getD k 0:Nat):Int) != ((ys.getD k 0:Nat):Int))=false:=bne_natF he;have HD2:Hid (xs.drop k=ys.drop k):=by
        show _=_;rw [List.drop_eq_getElem_cons (l:=xs) (by rw [HX.out]; omega),List.drop_eq_getElem_cons (l:=ys) (by rw [HY.out]; exact hk2),HD.out];simp only [List.getD_eq_getElem?_getD,List.getElem?_eq_getElem (show k < xs.length by rw [HX.out]; omega),List.getElem?_eq_getElem (show k < ys.length by rw [HY.out]; exact hk2),Option.getD_some] at he;rw [he]
       generalize xs.getD k 0=u at *
       generalize ys.getD k 0=v at *
       clear he hc1 hc2;go_wp2
       go_quiet (fail)
       go_wp2;go_roundw
       case rel=>exact ⟨k,by omega,by go_num,hQ.drewN _,HD2⟩
       case measure=>simp [intOf]
     · have hb:(((xs.getD k 0:Nat):Int) != ((ys.getD k 0:Nat):Int))=true:=bne_natT he;have HC:Hid (cmpZ x y=cmpZ ((xs.getD k 0:Nat):Int) ((ys.getD k 0:Nat):Int)):=by
        show _=_;rcases cmpZ_ne he with ⟨h1,h2⟩ | ⟨h1,h2⟩
        · have:=cmp_at (B:=18446744073709551616) (by rw [HX.out,HY.out,HL.out]) (by rw [HX.out]; omega) HD.out NX.out.bnd h1;rw [NX.out.val,NY.out.val] at this;rw [h2,cmpZ_lt (by omega)]
        · have:=cmp_at (B:=18446744073709551616) (xs:=ys) (ys:=xs) (by rw [HX.out,HY.out,HL.out]) (by rw [HY.out]; omega) HD.out.symm NY.out.bnd h1;rw [NX.out.val,NY.out.val] at this;rw [h2,cmpZ_gt (by omega)]
       generalize xs.getD k 0=u at *
       generalize ys.getD k 0=v at *
       clear he hc1 hc2;have hkn:(k:Int) < n:=by omega
       have hkm:(k:Int) < m:=by omega
       go_wp2
       go_quiet (fail)
       go_wp2;have g1q:(wr.drewN nq).cell? _=_:=g1;have g2q:(wr.drewN nq).cell? _=_:=g2;have hQq:=hQ.drewN nq;generalize wr.drewN nq=wq at *
       clear g1 g2
       go_quiet ((go_at_call 174; exact Calls.quiet_of (cmpU_q _ _ _)))
       go_wp2;go_ret;exact ⟨retN HC.out,hQq.drewN _⟩
 · have hne:((n:Int) != (m:Int))=true:=by simp; omega
   have HC:Hid (cmpZ x y=cmpZ n m):=by
    show _=_;rcases cmpZ_ne hl with ⟨h1,h2⟩ | ⟨h1,h2⟩
    · have:=W.len_lt (B:=18446744073709551616) (by omega) NX.out.bnd NY.out.nrm (by rw [HX.out,HY.out]; exact h1);rw [NX.out.val,NY.out.val] at this;rw [h2,cmpZ_lt (by omega)]
    · have:=W.len_lt (B:=18446744073709551616) (by omega) NY.out.bnd NX.out.nrm (by rw [HX.out,HY.out]; exact h1);rw [NX.out.val,NY.out.val] at this;rw [h2,cmpZ_gt (by omega)]
   clear hl
   go_enter Tryz.func135,Tryz.ntmps135
   go_wp2_with fail
   refine (cmpI_Compare _ _ _).mono ?_;rintro e w1 ⟨rfl,rfl⟩;go_wp2;go_ret;exact ⟨retN HC.out,Qt.refl _⟩
theorem addS {x y c:Nat}:(x+y+c) % 18446744073709551616+18446744073709551616*((x+y+c) / 18446744073709551616)=x+y+c:=Nat.mod_add_div _ _
theorem addC {x y c:Nat} (hx:x < 18446744073709551616) (hy:y < 18446744073709551616) (hc:c≤1):(x+y+c) / 18446744073709551616≤1:=by omega
theorem subS {x y c:Nat} (hx:x < 18446744073709551616) (hy:y < 18446744073709551616) (hc:c≤1):(x+18446744073709551616 - y - c) % 18446744073709551616+y+c=x+18446744073709551616*(if x < y+c then 1 else 0):=by
 split <;> omega
theorem subC {x y c:Nat}:(if x < y+c then 1 else 0)≤1:=by split <;> omega
theorem int_addInto {base g n c m d:Nat} {b:Option Addr} {xs ys:List Nat} {w:World} (hx:OwnN .u64 w base 143 g n c xs) (hy:SlN .u64 w b m d ys) (hne:blk b=none∨blk b≠some g) (bx:W.bnd 18446744073709551616 xs) (by_:W.bnd 18446744073709551616 ys) (hmn:m≤n) (hfit:W.val 18446744073709551616 xs+W.val 18446744073709551616 ys < 18446744073709551616^n) :
 Calls Tryz.prog 172 #[.slice (some ⟨g,0,none⟩) n c, .slice b m d] w fun e w'=>e = .returned (.tuple #[])∧w.grownBy w' (some g)∧∃ zs,OwnN .u64 w' base 143 g n c zs∧W.bnd 18446744073709551616 zs∧W.val 18446744073709551616 zs=W.val 18446744073709551616 xs+W.val 18446744073709551616 ys:=by
 have HX:=Lib.hid hx.len;have HY:=Lib.hid hy.len;have hnn:=hx.le;have hmm:=hy.le;have BY:=Lib.hid by_;have HF:=Lib.hid hfit;clear by_ hfit
 go_enter Tryz.func172,Tryz.ntmps172
 go_wp2
 go_loopw [4,10] (fun cv iv wr=>∃ (k cy:Nat) (zs:List Nat),cv = .int .u64 cy∧iv = .int .i64 k∧k≤m∧cy≤1∧w.grownBy wr (some g)∧OwnN .u64 wr base 143 g n c zs∧W.bnd 18446744073709551616 zs∧Hid (W.val 18446744073709551616 zs+cy*18446744073709551616^k=W.val 18446744073709551616 xs+W.val 18446744073709551616 (ys.take k))) (fun _ iv _=>m - (intOf iv).toNat)
 case atStart=>exact ⟨0,0,xs,rfl,rfl,Nat.zero_le _,by omega,grown_self _ _,hx,bx,Lib.hid (by simp [W.val])⟩
 case round =>
  obtain ⟨k,cy,zs,rfl,rfl,hk,hcy,hg,hz,bz,HE⟩:=hrel;by_cases hlt:k < m
  · obtain ⟨b1,o1,rfl,hc1⟩:=(hy.kept hg hne).at (j:=k) hlt;have g1:=hc1 k hlt;have g2:=hz.cell (i:=k) (by omega);have g3:=hz.frozen k;have hxk:=W.bnd_at bz (i:=k) (by rw [hz.len]; omega);have hyk:=W.bnd_at BY.out (i:=k) (by rw [HY.out]; exact hlt);have HS:=Lib.hid (W.add_step (B:=18446744073709551616) (l:=zs) (ys:=ys) (k:=k) (by rw [hz.len]; omega) (by rw [HY.out]; exact hlt) HE.out (addS (x:=zs.getD k 0) (y:=ys.getD k 0) (c:=cy)));have hadd:=add64_run (zs.getD k 0) (ys.getD k 0) cy hcy;have hC:=addC hxk hyk hcy;have hkn:(k:Int) < n:=by omega
    generalize zs.getD k 0=u at *
    generalize ys.getD k 0=v at *
    have hs:(u+v+cy) % 18446744073709551616 < 18446744073709551616:=Nat.mod_lt _ (by omega);generalize (u+v+cy) % 18446744073709551616=s at *
    generalize (u+v+cy) / 18446744073709551616=c2 at *
    clear hc1;go_wp2;go_roundw
    case rel=>exact ⟨k+1,c2,zs.set k s,rfl,by go_num,by omega,hC,grown_set hg _ _,hz.set k s,W.bnd_set bz hs,HS⟩
    case measure=>simp [intOf]; omega
  · have ek:k=m:=by omega
    have HE2:Hid (W.val 18446744073709551616 zs+cy*18446744073709551616^m=W.val 18446744073709551616 xs+W.val 18446744073709551616 ys):=by
     have:=HE.out;rw [ek,List.take_of_length_le (by rw [HY.out]; exact Nat.le_refl _)] at this;exact this
    clear HE ek;go_wp2
    go_loopw [4,7] (fun cv iv wr=>∃ (k cy:Nat) (zs:List Nat),cv = .int .u64 cy∧iv = .int .i64 k∧m≤k∧k≤n∧cy≤1∧w.grownBy wr (some g)∧OwnN .u64 wr base 143 g n c zs∧W.bnd 18446744073709551616 zs∧Hid (W.val 18446744073709551616 zs+cy*18446744073709551616^k=W.val 18446744073709551616 xs+W.val 18446744073709551616 ys)) (fun _ iv _=>n - (intOf iv).toNat)
    case atStart=>exact ⟨m,cy,zs,rfl,rfl,Nat.le_refl _,hmn,hcy,hg,hz,bz,HE2⟩
    case round =>
     clear hg hz bz HE2 hlt hk hcy;obtain ⟨k,cy,zs,rfl,rfl,hk0,hk,hcy,hg,hz,bz,HE⟩:=hrel;have hcy2:cy=0∨cy=1:=by omega
     rcases hcy2 with rfl | rfl
     · go_wp2
       go_end0
       exact ⟨rfl,hg,zs,hz,bz,by have:=HE.out; rw [Nat.zero_mul,Nat.add_zero] at this; exact this⟩
     · by_cases hlt:k < n
       · have g2:=hz.cell (i:=k) hlt;have g3:=hz.frozen k;have hxk:=W.bnd_at bz (i:=k) (by rw [hz.len]; exact hlt);have HS:=Lib.hid (W.add_step0 (B:=18446744073709551616) (l:=zs) (k:=k) (s:=(zs.getD k 0+0+1) % 18446744073709551616) (c':=(zs.getD k 0+0+1) / 18446744073709551616) (by rw [hz.len]; exact hlt) HE.out (by rw [addS]))
         have hadd:∀ wx:World,(callFunc 203 #[.int .u64 ((zs.getD k 0:Nat):Int), .int .u64 0, .int .u64 1]).run Tryz.prog wx = .ok (.value (.tuple #[.int .u64 (((zs.getD k 0+0+1) % 18446744073709551616:Nat):Int), .int .u64 (((zs.getD k 0+0+1) / 18446744073709551616:Nat):Int)])) wx:=fun wx=>add64_run (zs.getD k 0) 0 1 (by omega) wx;have hC:=addC hxk (y:=0) (c:=1) (by omega) (by omega);have hs:(zs.getD k 0+0+1) % 18446744073709551616 < 18446744073709551616:=Nat.mod_lt _ (by omega);generalize (zs.getD k 0+0+1) % 18446744073709551616=s at *
         generalize (zs.getD k 0+0+1) / 18446744073709551616=c2 at *
         generalize zs.getD k 0=u at *
         go_wp2;go_roundw
         case rel=>exact ⟨k+1,c2,zs.set k s,rfl,by go_num,by omega,by omega,hC,grown_set hg _ _,hz.set k s,W.bnd_set bz hs,HS⟩
         case measure=>simp [intOf]; omega
       · exfalso;have ek:k=n:=by omega
         have h1:=HE.out;have h2:=HF.out;rw [ek] at h1;omega
end Go.Proofs.YtlpgonpfjbhmfaaGreatDoor
