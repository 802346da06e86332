/- Part Gav12. -/
import Derived.Test.YtlpgonpfjbhmfaaGreatDoorGav7
import Derived.Shelf.LaysM
import Derived.Shelf.Lays7
import Derived.Shelf.Lays
import Derived.Test.YtlpgonpfjbhmfaaGreatDoorProg
import Derived.Test.YtlpgonpfjbhmfaaGreatDoorGav11
import Derived.Shelf.Spec.TrailingZeros
import Derived.Shelf.Strconv.AppendInt10
import Derived.Shelf.Strconv.Itoa4
import Derived.Test.YtlpgonpfjbhmfaaGreatDoorGav3
set_option maxRecDepth 100000
set_option maxHeartbeats 100000000
namespace Go.Proofs.YtlpgonpfjbhmfaaGreatDoor.W
variable {odd:Bool} {B D M P X Y a b c1 c2 k p s u1 u2 v1 v2 x y:Nat}
theorem gcd_two_right (hx:x % 2=1):Nat.gcd x (2^k*y)=Nat.gcd x y:=by
 have h2:Nat.Coprime x 2:=by
  rw [Nat.coprime_comm];rw [Nat.coprime_iff_gcd_eq_one];rw [Nat.gcd_rec,hx];rfl
 have h:Nat.Coprime x (2^k):=Nat.Coprime.pow_right k h2;exact Nat.Coprime.gcd_mul_left_cancel_right y h.symm
theorem LX (hy:y % 2=1):Nat.gcd (2^k*x) y=Nat.gcd x y:=by
 rw [Nat.gcd_comm,gcd_two_right hy,Nat.gcd_comm]
theorem RL:2^k∣(x ||| y)↔2^k∣x∧2^k∣y:=by
 simp only [Nat.dvd_iff_mod_eq_zero];rw [Nat.or_mod_two_pow];exact Nat.or_eq_zero_iff
theorem gcd_split {x0 m:Nat} (hX:X=2^a*x0) (hx:x0 % 2=1) (hor:X ||| Y=2^s*(2*m+1)):Nat.gcd X Y=2^s*Nat.gcd x0 Y:=by
 have h1:=(RL (x:=X) (y:=Y) (k:=s)).1 ⟨2*m+1,hor⟩;obtain ⟨⟨X',hX'⟩,⟨Y',hY'⟩⟩:=h1;have h2:¬ 2^(s+1)∣(X ||| Y):=by
  rintro ⟨q,hq⟩;rw [hor,Nat.pow_succ,Nat.mul_assoc] at hq;have:=Nat.eq_of_mul_eq_mul_left (Nat.two_pow_pos s) hq;omega
 have hsa:s≤a:=by
  refine Classical.byContradiction fun hc => ?_;have h3:2^(a+1)∣X:=Nat.dvd_trans (Nat.pow_dvd_pow 2 (by omega:a+1≤s)) ⟨X',hX'⟩;obtain ⟨q,hq⟩:=h3;rw [hX,Nat.pow_succ,Nat.mul_assoc] at hq;have:=Nat.eq_of_mul_eq_mul_left (Nat.two_pow_pos a) hq;omega
 have eX:X'=2^(a - s)*x0:=by
  have:2^s*X'=2^s*(2^(a - s)*x0):=by
   rw [←hX',hX,←Nat.mul_assoc,←Nat.pow_add];congr 2;omega
  exact Nat.eq_of_mul_eq_mul_left (Nat.two_pow_pos s) this
 rw [hX',hY',Nat.gcd_mul_left,gcd_two_right hx];congr 1;by_cases has:a=s
 · subst has;rw [eX,Nat.sub_self,Nat.pow_zero,Nat.one_mul]
 · have hY2:Y' % 2=1:=by
    refine Classical.byContradiction fun hc=>h2 (RL.2 ⟨?_, ?_⟩)
    · rw [hX];exact Nat.dvd_trans (Nat.pow_dvd_pow 2 (by omega)) (Nat.dvd_mul_right _ _)
    · rw [hY',Nat.pow_succ];exact Nat.mul_dvd_mul_left _ (by omega)
   rw [eX];exact LX hY2
theorem gcd_swap (h:x≤y):Nat.gcd x (y - x)=Nat.gcd x y:=by
 rw [Nat.gcd_sub_self_right h]
structure Steps (a b u0 u1 v0 v1:Nat) (odd:Bool) (p q:Nat):Prop where
 ep:if odd=true then p+v0*b=u0*a else p+u0*a=v0*b
 eq:if odd=true then q+u1*a=v1*b else q+v1*b=u1*a
 gcd:Nat.gcd p q=Nat.gcd a b
 lt:q < p
 le:p≤b
theorem M3 {q:Nat} (h1:v2*p+v1*q=a) (h2:u2*p+u1*q=b) (s:Int) (hp:(p:Int)=s*(u1*a - v1*b)) (hq:(q:Int) = -(s*(u2*a - v2*b))):Nat.gcd p q=Nat.gcd a b:=by
 apply Nat.dvd_antisymm
 · apply Nat.dvd_gcd
   · rw [←h1];exact Nat.dvd_add (Nat.dvd_trans (Nat.gcd_dvd_left p q) (Nat.dvd_mul_left _ _)) (Nat.dvd_trans (Nat.gcd_dvd_right p q) (Nat.dvd_mul_left _ _))
   · rw [←h2];exact Nat.dvd_add (Nat.dvd_trans (Nat.gcd_dvd_left p q) (Nat.dvd_mul_left _ _)) (Nat.dvd_trans (Nat.gcd_dvd_right p q) (Nat.dvd_mul_left _ _))
 · have da:((Nat.gcd a b:Nat):Int)∣(a:Int):=Int.natCast_dvd_natCast.2 (Nat.gcd_dvd_left a b);have db:((Nat.gcd a b:Nat):Int)∣(b:Int):=Int.natCast_dvd_natCast.2 (Nat.gcd_dvd_right a b);apply Nat.dvd_gcd
   · apply Int.natCast_dvd_natCast.1;rw [hp];exact Int.dvd_trans (Int.dvd_sub (Int.dvd_trans da (Int.dvd_mul_left _ _)) (Int.dvd_trans db (Int.dvd_mul_left _ _))) (Int.dvd_mul_left _ _)
   · apply Int.natCast_dvd_natCast.1;rw [hq];exact Int.dvd_neg.2 (Int.dvd_trans (Int.dvd_sub (Int.dvd_trans da (Int.dvd_mul_left _ _)) (Int.dvd_trans db (Int.dvd_mul_left _ _))) (Int.dvd_mul_left _ _))
theorem Leh.good {A Bb P α β f g s:Int} (h:Leh a b A Bb P α β f g u1 u2 v1 v2 s) (hc1:(v2:Int)≤g) (hc2:(v1:Int)+v2≤f - g) (hu:(u1:Int)≤v1∨((u1:Int)=1∧(v1:Int)=0∧(u2:Int)=0∧s=1)) (hdet:(u1:Int)*v2 - u2*v1=s) (hu2:1≤u2) :
 ∃ p q,Steps a b u1 u2 v1 v2 (decide (s=1)) p q:=by
 have h1:=h.sec hc1;have h2:=h.gap hc2 hu;have sg:=h.sg;obtain ⟨q,hq⟩:=Int.eq_ofNat_of_zero_le h1;obtain ⟨p,hp⟩:=Int.eq_ofNat_of_zero_le (Int.le_trans h1 (Int.le_of_lt h2));have hss:s*s=1:=by rcases sg with rfl | rfl <;> rfl
 have e1:((v2*p+v1*q:Nat):Int)=(a:Int):=by
  rw [Int.natCast_add,Int.natCast_mul,Int.natCast_mul,←hp,←hq];have:(v2:Int)*(s*(u1*a - v1*b))+v1 * -(s*(u2*a - v2*b))=s*(u1*v2 - u2*v1)*a:=by grind
  rw [this,hdet,hss,Int.one_mul]
 have e2:((u2*p+u1*q:Nat):Int)=(b:Int):=by
  rw [Int.natCast_add,Int.natCast_mul,Int.natCast_mul,←hp,←hq];have:(u2:Int)*(s*(u1*a - v1*b))+u1 * -(s*(u2*a - v2*b))=s*(u1*v2 - u2*v1)*b:=by grind
  rw [this,hdet,hss,Int.one_mul]
 have e1':v2*p+v1*q=a:=by omega
 have e2':u2*p+u1*q=b:=by omega
 refine ⟨p,q, ?_, ?_,M3 e1' e2' s hp.symm hq.symm,by omega, ?_⟩
 · rcases sg with rfl | rfl
   · simp only [decide_true,if_true];have:((p+v1*b:Nat):Int)=((u1*a:Nat):Int):=by
      rw [Int.natCast_add,Int.natCast_mul,Int.natCast_mul,←hp]; omega
     omega
   · rw [if_neg (by simp)];have:((p+u1*a:Nat):Int)=((v1*b:Nat):Int):=by
      rw [Int.natCast_add,Int.natCast_mul,Int.natCast_mul,←hp]; omega
     omega
 · rcases sg with rfl | rfl
   · simp only [decide_true,if_true];have:((q+u2*a:Nat):Int)=((v2*b:Nat):Int):=by
      rw [Int.natCast_add,Int.natCast_mul,Int.natCast_mul,←hq]; omega
     omega
   · rw [if_neg (by simp)];have:((q+v2*b:Nat):Int)=((u2*a:Nat):Int):=by
      rw [Int.natCast_add,Int.natCast_mul,Int.natCast_mul,←hq]; omega
     omega
 · have h3:1*p≤u2*p:=Nat.mul_le_mul_right _ hu2;omega
theorem head_of {t1 t0 lo r:Nat} (hB:B=2^s*r) (h0:0 < r) (ha:a=(t1*B+t0)*M+lo) (hlo:lo < M) :
 a / (M*r)=t1*2^s+t0 / r:=by
 have h1:a / M=t1*B+t0:=by
  rw [ha,Nat.mul_comm,Nat.mul_add_div (by omega),Nat.div_eq_of_lt hlo,Nat.add_zero]
 rw [←Nat.div_div_eq_div_mul,h1,hB,show t1*(2^s*r)=r*(t1*2^s) by grind,Nat.mul_add_div h0]
theorem Qs (hP:0 < P) (hab:b≤a):Leh (a:Int) (b:Int) ((a / P:Nat):Int) ((b / P:Nat):Int) (P:Int) ((a % P:Nat):Int) ((b % P:Nat):Int) ((a / P:Nat):Int) ((b / P:Nat):Int) 1 0 0 1 1:=by
 have h1:=Nat.div_add_mod a P;have h2:=Nat.div_add_mod b P;have h3:=Nat.mod_lt a hP;have h4:=Nat.mod_lt b hP;have h5:b / P≤a / P:=Nat.div_le_div_right hab;refine Leh.start ?_ ?_ (Int.natCast_nonneg _) (Int.ofNat_lt.2 h3) (Int.natCast_nonneg _) (Int.ofNat_lt.2 h4) (Int.natCast_nonneg _) (Int.ofNat_le.2 h5)
 · rw [Nat.mul_comm] at h1;rw [←Int.natCast_mul,←Int.natCast_add];omega
 · rw [Nat.mul_comm] at h2;rw [←Int.natCast_mul,←Int.natCast_add];omega
structure Sim (a b A Bb P α β f g u0 u1 u2 v0 v1 v2:Nat) (odd:Bool):Prop where
 leh:Leh (a:Int) b A Bb P α β f g u1 u2 v1 v2 (if odd=true then -1 else 1)
 hu:(u1≤v1)∨(u1=1∧v1=0∧u2=0∧odd=false)
 det:(u1:Int)*v2 - u2*v1=(if odd=true then -1 else 1)
 good:v0=0∨∃ p q,Steps a b u0 u1 v0 v1 odd p q
 u20:u2=0→v1=0
theorem Sim.start (hP:0 < P) (hab:b≤a):Sim a b (a / P) (b / P) P (a % P) (b % P) (a / P) (b / P) 0 1 0 0 0 1 false :=
 ⟨Qs hP hab,Or.inr ⟨rfl,rfl,rfl,rfl⟩,by simp,Or.inl rfl,fun _=>rfl⟩
theorem Sim.bound {A Bb α β f g u0 v0:Nat} (h:Sim a b A Bb P α β f g u0 u1 u2 v0 v1 v2 odd) (hg:1≤g):v1+v2≤A∧u1≤A+1∧u2≤A:=by
 have e:=h.leh.sv;have vv:=h.leh.vv;have uv:=h.leh.uv;have gf:=h.leh.gf;have e':v2*f+v1*g=A:=by
  have:((v2*f+v1*g:Nat):Int)=(A:Int):=by rw [Int.natCast_add,Int.natCast_mul,Int.natCast_mul]; exact e
  omega
 have h1:v2*1≤v2*f:=Nat.mul_le_mul_left _ (by omega);have h2:v1*1≤v1*g:=Nat.mul_le_mul_left _ hg;rcases h.hu with hu | ⟨rfl,rfl,rfl,_⟩ <;> omega
theorem Sim.step {a b A Bb P α β f g u0 u1 u2 v0 v1 v2:Nat} {odd:Bool} (h:Sim a b A Bb P α β f g u0 u1 u2 v0 v1 v2 odd) (hg:v2≤g) (hc:v1+v2≤f - g) :
 Sim a b A Bb P α β g (f % g) u1 u2 (u1+f / g*u2) v1 v2 (v1+f / g*v2) (!odd)∧v1+f / g*v2≤A∧u1+f / g*u2≤A∧f % g < g:=by
 have v2p:=h.leh.v2p;have gf:=h.leh.gf;have hg1:1≤g:=by omega
 obtain ⟨b1,b2,b3⟩:=h.bound hg1;have hq:(f:Int)=((f / g:Nat):Int)*(g:Int)+((f % g:Nat):Int):=by
  have:=Nat.div_add_mod f g;rw [Nat.mul_comm] at this;rw [←Int.natCast_mul,←Int.natCast_add];omega
 have hr:=Nat.mod_lt f (show 0 < g by omega);have hq1:1≤f / g:=(Nat.le_div_iff_mul_le (by omega)).2 (by omega);have hu':(u1:Int)≤v1∨((u1:Int)=1∧(v1:Int)=0∧(u2:Int)=0∧(if odd=true then -1 else 1:Int)=1):=by
  rcases h.hu with hu | ⟨rfl,rfl,rfl,rfl⟩
  · left; omega
  · right; simp
 have hstep:=h.leh.step hq (by omega) (by omega) (by omega) hu';have hneg : -(if odd=true then -1 else 1:Int)=(if (!odd)=true then -1 else 1:Int):=by cases odd <;> rfl
 rw [hneg] at hstep;have hs2:Leh (a:Int) b A Bb P α β g ((f % g:Nat):Int) u2 ((u1+f / g*u2:Nat):Int) v2 ((v1+f / g*v2:Nat):Int) (if (!odd)=true then -1 else 1):=by
  rw [Int.natCast_add,Int.natCast_add,Int.natCast_mul,Int.natCast_mul];exact hstep
 have e:=hs2.sv;have uv:=hs2.uv;have e':(v1+f / g*v2)*g+v2*(f % g)=A:=by
  have:(((v1+f / g*v2)*g+v2*(f % g):Nat):Int)=(A:Int):=by rw [Int.natCast_add,Int.natCast_mul,Int.natCast_mul]; exact e
  omega
 have k1:(v1+f / g*v2)*1≤(v1+f / g*v2)*g:=Nat.mul_le_mul_left _ hg1;refine ⟨⟨hs2, ?_, ?_, ?_, ?_⟩,by omega,by omega,hr⟩
 · left;have:=h.leh.uv;omega
 · have hd:=h.det;have:(u2:Int)*((v1+f / g*v2:Nat):Int) - ((u1+f / g*u2:Nat):Int)*v2 = -((u1:Int)*v2 - u2*v1):=by
    rw [Int.natCast_add,Int.natCast_add,Int.natCast_mul,Int.natCast_mul]
    grind
   rw [this,hd,hneg]
 · by_cases h0:v1=0
   · exact Or.inl h0
   · right;have hu2:1≤u2:=by
      rcases Nat.eq_zero_or_pos u2 with h2 | h2
      · exact absurd (h.u20 h2) h0
      · exact h2
     obtain ⟨p,q,hpq⟩:=h.leh.good (by omega) (by omega) hu' h.det hu2;refine ⟨p,q, ?_⟩;have:decide ((if odd=true then -1 else 1:Int)=1) = !odd:=by cases odd <;> rfl
     rw [this] at hpq;exact hpq
 · intro h0;have hu1:u1=0:=by omega
   have hu2:f / g*u2=0:=by omega
   have hu20:u2=0:=by
    rcases Nat.mul_eq_zero.1 hu2 with h3 | h3
    · omega
    · exact h3
   subst hu1; subst hu20;have:=h.det;cases odd <;> simp at this
theorem comb_step {U V d c1' c2':Nat} (h:D+U+c1*M=V+c2*M) (e:d+x+c2+B*c1'=y+c1+B*c2') :
 D+M*d+(U+M*x)+c1'*(M*B)=V+M*y+c2'*(M*B):=by
 have e2:M*(d+x+c2+B*c1')=M*(y+c1+B*c2'):=by rw [e]
 grind
theorem comb_end {T:Nat} (h:D+X+c1*T=Y+c2*T) (hp:p+X=Y) (hD:D < T) (hpT:p < T):D=p:=by
 have h1:D+c1*T=p+c2*T:=by omega
 have h2:=congrArg (· % T) h1;simp only [Nat.add_mul_mod_self_right] at h2
 rwa [Nat.mod_eq_of_lt hD,Nat.mod_eq_of_lt hpT] at h2
end Go.Proofs.YtlpgonpfjbhmfaaGreatDoor.W
namespace Go.Proofs.YtlpgonpfjbhmfaaGreatDoor
open Go.Shelf
def Qu:Go.Shelf.Ren:=⟨fun | 29=>180 | n=>n,fun | 22=>143 | 3=>3 | 4=>4 | 25=>147 | 54=>242 | 0=>0 | 5=>5 | n=>n,fun | 1=>0 | n=>n⟩
theorem VC:Go.Proofs.Lays7.n29 Tryz.prog Qu:={
 mixed:=by kernel_rfl
 f29:=Tryz.func180.trans (congrArg some (by kernel_rfl))
 t0:=Tryz.underlying0
 a0:=Tryz.isAgg0
 z0:=Tryz.sizeOf0
 v0:=Tryz.zeroValue0
 i0:=by kernel_rfl
 t3:=Tryz.underlying3
 a3:=Tryz.isAgg3
 z3:=Tryz.sizeOf3
 v3:=Tryz.zeroValue3
 i3:=by kernel_rfl
 t4:=Tryz.underlying4
 a4:=Tryz.isAgg4
 z4:=Tryz.sizeOf4
 v4:=Tryz.zeroValue4
 i4:=by kernel_rfl
 t5:=Tryz.underlying5
 a5:=Tryz.isAgg5
 z5:=Tryz.sizeOf5
 v5:=Tryz.zeroValue5
 i5:=by kernel_rfl
 t22:=Tryz.underlying143
 a22:=Tryz.isAgg143
 z22:=Tryz.sizeOf143
 v22:=Tryz.zeroValue143
 i22:=by kernel_rfl
 t25:=Tryz.underlying147
 a25:=Tryz.isAgg147
 z25:=Tryz.sizeOf147
 v25:=Tryz.zeroValue147
 i25:=by kernel_rfl
 t54:=Tryz.underlying242
 a54:=Tryz.isAgg242
 z54:=Tryz.sizeOf242
 g1:=by kernel_rfl }
def M4:Go.Shelf.Ren:=⟨fun | 173=>112 | 246=>149 | 283=>185 | 284=>186 | 285=>187 | 286=>188 | 129=>165 | 317=>216 | 318=>217 | 319=>218 | 320=>219 | 337=>225 | 338=>180 | n=>n,fun | 2=>2 | 3=>3 | 9=>9 | 4=>4 | 171=>220 | 0=>0 | 53=>143 | 37=>154 | 5=>5 | 173=>222 | 212=>248 | 51=>208 | 20=>20 | 213=>249 | 46=>147 | 232=>257 | 233=>242 | n=>n,fun | 17=>3 | 18=>4 | 19=>0 | n=>n⟩
theorem TG:Go.Proofs.LaysM.n173 Tryz.prog M4:={
 mixed:=by kernel_rfl
 f129:=Tryz.func165.trans (congrArg some (by kernel_rfl))
 f173:=Tryz.func112.trans (congrArg some (by kernel_rfl))
 f246:=Tryz.func149.trans (congrArg some (by kernel_rfl))
 f283:=Tryz.func185.trans (congrArg some (by kernel_rfl))
 f284:=Tryz.func186.trans (congrArg some (by kernel_rfl))
 f285:=Tryz.func187.trans (congrArg some (by kernel_rfl))
 f286:=Tryz.func188.trans (congrArg some (by kernel_rfl))
 f317:=Tryz.func216.trans (congrArg some (by kernel_rfl))
 f318:=Tryz.func217.trans (congrArg some (by kernel_rfl))
 f319:=Tryz.func218.trans (congrArg some (by kernel_rfl))
 f320:=Tryz.func219.trans (congrArg some (by kernel_rfl))
 f337:=Tryz.func225.trans (congrArg some (by kernel_rfl))
 f338:=Tryz.func180.trans (congrArg some (by kernel_rfl))
 t0:=Tryz.underlying0
 a0:=Tryz.isAgg0
 z0:=Tryz.sizeOf0
 v0:=Tryz.zeroValue0
 t2:=Tryz.underlying2
 a2:=Tryz.isAgg2
 z2:=Tryz.sizeOf2
 v2:=Tryz.zeroValue2
 t3:=Tryz.underlying3
 a3:=Tryz.isAgg3
 z3:=Tryz.sizeOf3
 v3:=Tryz.zeroValue3
 t4:=Tryz.underlying4
 a4:=Tryz.isAgg4
 z4:=Tryz.sizeOf4
 v4:=Tryz.zeroValue4
 t5:=Tryz.underlying5
 a5:=Tryz.isAgg5
 z5:=Tryz.sizeOf5
 v5:=Tryz.zeroValue5
 t9:=Tryz.underlying9
 a9:=Tryz.isAgg9
 z9:=Tryz.sizeOf9
 v9:=Tryz.zeroValue9
 t20:=Tryz.underlying20
 a20:=Tryz.isAgg20
 z20:=Tryz.sizeOf20
 v20:=Tryz.zeroValue20
 t37:=Tryz.underlying154
 a37:=Tryz.isAgg154
 z37:=Tryz.sizeOf154
 v37:=Tryz.zeroValue154
 t46:=Tryz.underlying147
 a46:=Tryz.isAgg147
 z46:=Tryz.sizeOf147
 v46:=Tryz.zeroValue147
 t51:=Tryz.underlying208
 a51:=Tryz.isAgg208
 z51:=Tryz.sizeOf208
 v51:=Tryz.zeroValue208
 t53:=Tryz.underlying143
 a53:=Tryz.isAgg143
 z53:=Tryz.sizeOf143
 v53:=Tryz.zeroValue143
 t171:=Tryz.underlying220
 a171:=Tryz.isAgg220
 z171:=Tryz.sizeOf220
 v171:=Tryz.zeroValue220
 t173:=Tryz.underlying222
 a173:=Tryz.isAgg222
 z173:=Tryz.sizeOf222
 v173:=Tryz.zeroValue222
 t212:=Tryz.underlying248
 a212:=Tryz.isAgg248
 z212:=Tryz.sizeOf248
 v212:=Tryz.zeroValue248
 t213:=Tryz.underlying249
 a213:=Tryz.isAgg249
 z213:=Tryz.sizeOf249
 t232:=Tryz.underlying257
 a232:=Tryz.isAgg257
 z232:=Tryz.sizeOf257
 v232:=Tryz.zeroValue257
 t233:=Tryz.underlying242
 a233:=Tryz.isAgg242
 z233:=Tryz.sizeOf242
 v233:=Tryz.zeroValue242
 g17:=by kernel_rfl
 g18:=by kernel_rfl
 g19:=by kernel_rfl
 i0:=by kernel_rfl
 i2:=by kernel_rfl
 i3:=by kernel_rfl
 i4:=by kernel_rfl
 i5:=by kernel_rfl
 i9:=by kernel_rfl
 i20:=by kernel_rfl
 i37:=by kernel_rfl
 i46:=by kernel_rfl
 i51:=by kernel_rfl
 i53:=by kernel_rfl
 i171:=by kernel_rfl
 i173:=by kernel_rfl
 i212:=by kernel_rfl
 i232:=by kernel_rfl
 i233:=by kernel_rfl
 m17:=by kernel_rfl
 m18:=by kernel_rfl
 m19:=by kernel_rfl }
def Qv:Go.Shelf.Ren:=⟨fun | 288=>189 | 283=>185 | 284=>186 | 285=>187 | 286=>188 | 129=>165 | 317=>216 | 318=>217 | 319=>218 | 320=>219 | 337=>225 | 338=>180 | n=>n,fun | 37=>154 | 53=>143 | 3=>3 | 4=>4 | 9=>9 | 171=>220 | 0=>0 | 173=>222 | 212=>248 | 51=>208 | 5=>5 | 20=>20 | 213=>249 | 46=>147 | 232=>257 | 233=>242 | n=>n,fun | 17=>3 | 18=>4 | 19=>0 | n=>n⟩
theorem Ps:Go.Proofs.LaysM.n288 Tryz.prog Qv:={
 mixed:=by kernel_rfl
 f129:=Tryz.func165.trans (congrArg some (by kernel_rfl))
 f283:=Tryz.func185.trans (congrArg some (by kernel_rfl))
 f284:=Tryz.func186.trans (congrArg some (by kernel_rfl))
 f285:=Tryz.func187.trans (congrArg some (by kernel_rfl))
 f286:=Tryz.func188.trans (congrArg some (by kernel_rfl))
 f288:=Tryz.func189.trans (congrArg some (by kernel_rfl))
 f317:=Tryz.func216.trans (congrArg some (by kernel_rfl))
 f318:=Tryz.func217.trans (congrArg some (by kernel_rfl))
 f319:=Tryz.func218.trans (congrArg some (by kernel_rfl))
 f320:=Tryz.func219.trans (congrArg some (by kernel_rfl))
 f337:=Tryz.func225.trans (congrArg some (by kernel_rfl))
 f338:=Tryz.func180.trans (congrArg some (by kernel_rfl))
 t0:=Tryz.underlying0
 a0:=Tryz.isAgg0
 z0:=Tryz.sizeOf0
 v0:=Tryz.zeroValue0
 t3:=Tryz.underlying3
 a3:=Tryz.isAgg3
 z3:=Tryz.sizeOf3
 v3:=Tryz.zeroValue3
 t4:=Tryz.underlying4
 a4:=Tryz.isAgg4
 z4:=Tryz.sizeOf4
 v4:=Tryz.zeroValue4
 t5:=Tryz.underlying5
 a5:=Tryz.isAgg5
 z5:=Tryz.sizeOf5
 v5:=Tryz.zeroValue5
 t9:=Tryz.underlying9
 a9:=Tryz.isAgg9
 z9:=Tryz.sizeOf9
 v9:=Tryz.zeroValue9
 t20:=Tryz.underlying20
 a20:=Tryz.isAgg20
 z20:=Tryz.sizeOf20
 v20:=Tryz.zeroValue20
 t37:=Tryz.underlying154
 a37:=Tryz.isAgg154
 z37:=Tryz.sizeOf154
 v37:=Tryz.zeroValue154
 t46:=Tryz.underlying147
 a46:=Tryz.isAgg147
 z46:=Tryz.sizeOf147
 v46:=Tryz.zeroValue147
 t51:=Tryz.underlying208
 a51:=Tryz.isAgg208
 z51:=Tryz.sizeOf208
 v51:=Tryz.zeroValue208
 t53:=Tryz.underlying143
 a53:=Tryz.isAgg143
 z53:=Tryz.sizeOf143
 v53:=Tryz.zeroValue143
 t171:=Tryz.underlying220
 a171:=Tryz.isAgg220
 z171:=Tryz.sizeOf220
 v171:=Tryz.zeroValue220
 t173:=Tryz.underlying222
 a173:=Tryz.isAgg222
 z173:=Tryz.sizeOf222
 v173:=Tryz.zeroValue222
 t212:=Tryz.underlying248
 a212:=Tryz.isAgg248
 z212:=Tryz.sizeOf248
 v212:=Tryz.zeroValue248
 t213:=Tryz.underlying249
 a213:=Tryz.isAgg249
 z213:=Tryz.sizeOf249
 t232:=Tryz.underlying257
 a232:=Tryz.isAgg257
 z232:=Tryz.sizeOf257
 v232:=Tryz.zeroValue257
 t233:=Tryz.underlying242
 a233:=Tryz.isAgg242
 z233:=Tryz.sizeOf242
 v233:=Tryz.zeroValue242
 g17:=by kernel_rfl
 g18:=by kernel_rfl
 g19:=by kernel_rfl
 i0:=by kernel_rfl
 i3:=by kernel_rfl
 i4:=by kernel_rfl
 i5:=by kernel_rfl
 i9:=by kernel_rfl
 i20:=by kernel_rfl
 i37:=by kernel_rfl
 i46:=by kernel_rfl
 i51:=by kernel_rfl
 i53:=by kernel_rfl
 i171:=by kernel_rfl
 i173:=by kernel_rfl
 i212:=by kernel_rfl
 i232:=by kernel_rfl
 i233:=by kernel_rfl
 m17:=by kernel_rfl
 m18:=by kernel_rfl
 m19:=by kernel_rfl }
end Go.Proofs.YtlpgonpfjbhmfaaGreatDoor
namespace Go.Proofs.YtlpgonpfjbhmfaaGreatDoor
open Tryz Go Go.RowKit
variable {cs cs' cs'' cs3:Array Value} {g x y:Nat} {t t' t'' t3 ty ty':TypeId} {w w':World}
structure A2 (w:World):Prop where
 tz:TabAt 0 Lib.deBruijn64tab w
 ten:Lib.TabIs prog w "internal/strconv.uint64pow10" .u64 Lib.pow10Tab
theorem A2.ext (h:A2 w) (e:Ext w w'):A2 w' :=
 ⟨fun j hj=>e.cell (h.tz j hj),Lib.tabBelow_of_tabIs h.ten w' e⟩
theorem Oy (h0:0 < x) (hx:x < 18446744073709551616):∃ k m,k < 64∧x=2^k*(2*m+1)∧∀ w,A2 w→Calls prog 180 #[.int .u64 x] w fun e w'=>e = .returned (.int .i64 (k:Nat))∧w=w':=by
 obtain ⟨m,h1,h2⟩:=Lib.ctzFrom_spec 64 x h0 hx;have h3:Lib.ctz 64 x=Lib.ctzFrom 64 x:=by unfold Lib.ctz; rw [if_neg (by omega)]
 refine ⟨_,m,h2,h1,fun w hT => ?_⟩;refine (Any7.bits_TrailingZeros64 VC x hx w (fun _=>hT.tz)).mono ?_;rintro e w' ⟨rfl,rfl⟩;rw [h3];exact ⟨rfl,rfl⟩
theorem Pt {k m:Nat} (h:x=2^k*(2*m+1)):x / 2^k=2*m+1:=by
 rw [h,Nat.mul_div_cancel_left _ (Nat.two_pow_pos k)]
theorem Ix (hT:A2 w) (hx:x < 18446744073709551616) (hy:y < 18446744073709551616) :
 Calls prog 142 #[.int .u64 x, .int .u64 y] w fun e w'=>e = .returned (.int .u64 (Nat.gcd x y:Nat))∧w=w':=by
 have hor:=u64_or_nat x y hx hy;by_cases h0:x=0
 · subst h0;have hor0:bits BinOp.or IntKind.u64 0 (y:Int)=(y:Int):=by
    rw [Nat.zero_or] at hor;exact hor
   rw [Nat.gcd_zero_left];clear hor
   go_enter func142,ntmps142
   go_wp2;go_ret;exact ⟨rfl,rfl⟩
 by_cases h1:y=0
 · subst h1;have hor0:bits BinOp.or IntKind.u64 (x:Int) 0=(x:Int):=by
    rw [Nat.or_zero] at hor;exact hor
   rw [Nat.gcd_zero_right];have hb:((x:Int) == 0)=false:=by simpa using h0
   clear hor
   go_enter func142,ntmps142
   go_wp2;go_ret;exact ⟨rfl,rfl⟩
 have hb:((x:Int) == 0)=false:=by simpa using h0
 have hb1:((y:Int) == 0)=false:=by simpa using h1
 have hob:x ||| y < 18446744073709551616:=LU hx hy
 have ho0:0 < x ||| y:=by
  rcases Nat.eq_zero_or_pos (x ||| y) with h | h
  · exact absurd (Nat.or_eq_zero_iff.1 h).1 h0
  · exact h
 obtain ⟨s,m,hs,hsm,hc1⟩:=Oy ho0 hob;obtain ⟨a,x0,ha,hxa,hc2⟩:=Oy (x:=x) (by omega) hx;have HG:Hid (Nat.gcd x y=2^s*Nat.gcd (2*x0+1) y):=Lib.hid (W.gcd_split hxa (by omega) hsm);have hxd:(x:Int) / 2^a=((2*x0+1:Nat):Int):=by
  have:=Pt hxa;rw [←this]; push_cast; rfl
 have hxb:2*x0+1 < 18446744073709551616:=by
  have:1*(2*x0+1)≤2^a*(2*x0+1):=Nat.mul_le_mul_right _ (Nat.two_pow_pos a);omega
 clear hsm hxa;generalize x ||| y=o at *
 go_enter func142,ntmps142
 go_wp2_with fail
 refine (hc1 _ hT).mono ?_;rintro e w1 ⟨rfl,rfl⟩
 go_wp2_with fail
 refine (hc2 _ hT).mono ?_;rintro e w1 ⟨rfl,rfl⟩;go_wp2;have hg0:Hid (Nat.gcd (2*x0+1) y=Nat.gcd (2*x0+1) y):=Lib.hid rfl;obtain ⟨G,hG⟩:∃ G,Nat.gcd (2*x0+1) y=G:=⟨_,rfl⟩;have HG2:=Lib.hid hG;have hGb:2^s*G < 18446744073709551616:=by
  rw [←hG,←HG.out];have:=Nat.le_of_dvd (by omega) (Nat.gcd_dvd_left x y);omega
 rw [hG] at HG;clear hg0 hG hc1 hc2 hxd hor
 go_loop [0,1] (fun xv yv=>∃ p q:Nat,xv = .int .u64 (2*(p:Int)+1)∧yv = .int .u64 q∧2*p+1 < 18446744073709551616∧q < 18446744073709551616∧Hid (Nat.gcd (2*p+1) q=G)) (fun xv yv=>(intOf xv+intOf yv).toNat)
 case atStart=>exact ⟨x0,y,rfl,rfl,hxb,hy,HG2⟩
 case round =>
  clear HG2 hxb hb hb1 h0 h1 hob ho0 ha;obtain ⟨p,q,rfl,rfl,hp,hq,HI⟩:=hrel;by_cases hq0:q=0
  · subst hq0;have HP:Hid (2*p+1=G):=by show _=_; have:=HI.out; rw [Nat.gcd_zero_right] at this; exact this
    have hsl:IntKind.u64.wrap ((2*(p:Int)+1)*2^s)=((Nat.gcd x y:Nat):Int):=by
     have h1:(2*(p:Int)+1)*2^s=((2^s*G:Nat):Int):=by
      rw [←HP.out]; push_cast; exact Int.mul_comm _ _
     rw [h1,HG.out];exact Ah rfl hGb
    obtain ⟨gg,hgg⟩:∃ gg,Nat.gcd x y=gg:=⟨_,rfl⟩;rw [hgg] at hsl;have HGG:=Lib.hid hgg;clear HI HP HG hgg;go_wp2;go_ret;exact ⟨by rw [HGG.out]; rfl,rfl⟩
  · obtain ⟨k,m2,hk,hqk,hc3⟩:=Oy (x:=q) (by omega) hq;have hqb:((q:Int) != 0)=true:=by simpa using hq0
    have hqd:(q:Int) / 2^k=2*(m2:Int)+1:=by
     have:=Pt hqk;have h2:(q:Int) / 2^k=((q / 2^k:Nat):Int):=by push_cast; rfl
     rw [h2,this]; push_cast; rfl
    have hm2:2*m2+1≤q:=by
     have:1*(2*m2+1)≤2^k*(2*m2+1):=Nat.mul_le_mul_right _ (Nat.two_pow_pos k);omega
    have HI2:Hid (Nat.gcd (2*p+1) (2*m2+1)=G):=by
     show _=_;have:=HI.out;rw [hqk,W.gcd_two_right (by omega)] at this;exact this
    clear HI hqk;by_cases hlt:m2 < p
    · have hgt:2*(m2:Int)+1 < 2*(p:Int)+1:=by omega
      have hw:IntKind.u64.wrap (2*(p:Int)+1 - (2*(m2:Int)+1))=((2*(p - m2):Nat):Int):=by
       rw [IntKind.wrap_u64]; omega
      go_wp2_with fail
      refine (hc3 _ hT).mono ?_;rintro e w1 ⟨rfl,rfl⟩;go_wp2;go_round
      case rel =>
       refine ⟨m2,2*(p - m2),rfl,rfl,by omega,by omega,Lib.hid ?_⟩;rw [←HI2.out,Nat.gcd_comm (2*p+1),show 2*(p - m2)=2*p+1 - (2*m2+1) by omega];exact W.gcd_swap (by omega)
      case measure=>simp [intOf]; omega
    · have hgt:¬ (2*(m2:Int)+1 < 2*(p:Int)+1):=by omega
      have hw:IntKind.u64.wrap (2*(m2:Int)+1 - (2*(p:Int)+1))=((2*(m2 - p):Nat):Int):=by
       rw [IntKind.wrap_u64]; omega
      go_wp2_with fail
      refine (hc3 _ hT).mono ?_;rintro e w1 ⟨rfl,rfl⟩;go_wp2;go_round
      case rel =>
       refine ⟨p,2*(m2 - p),rfl,rfl,by omega,by omega,Lib.hid ?_⟩;rw [←HI2.out,show 2*(m2 - p)=2*m2+1 - (2*p+1) by omega];exact W.gcd_swap (by omega)
      case measure=>simp [intOf]; omega
section
variable {P:Program} {c:Code} {Q:Exit→Act→World→Prop} {f:Act} {w:World}
theorem Bq (h:∀ w0,Ext w w0→Arr w0 w.heap.size t cs.toList→w0.heap.size=w.heap.size+1→Code.wp P c Q f w0):Code.wp P c Q f (w.alloc (.cells cs t)) :=
 h _ ((Ext.refl w).alloc _) (Arr.new w t cs.toList) (by simp)
theorem F0 (h:∀ w0,Ext w w0→Arr w0 w.heap.size t cs.toList→Arr w0 (w.heap.size+1) t' cs'.toList→w0.heap.size=w.heap.size+2→Code.wp P c Q f w0):Code.wp P c Q f ((w.alloc (.cells cs t)).alloc (.cells cs' t')) :=
 h _ (((Ext.refl w).alloc _).alloc _) ((Arr.new w t cs.toList).alloc _) (by have:=Arr.new (w.alloc (.cells cs t)) t' cs'.toList; simpa using this) (by simp)
theorem F3 (h:∀ w0,Ext w w0→Arr w0 w.heap.size t cs.toList→Arr w0 (w.heap.size+1) t' cs'.toList→Arr w0 (w.heap.size+2) t'' cs''.toList→w0.heap.size=w.heap.size+3→Code.wp P c Q f w0):Code.wp P c Q f (((w.alloc (.cells cs t)).alloc (.cells cs' t')).alloc (.cells cs'' t'')) :=
 h _ ((((Ext.refl w).alloc _).alloc _).alloc _) (((Arr.new w t cs.toList).alloc _).alloc _) (by have:=(Arr.new (w.alloc (.cells cs t)) t' cs'.toList).alloc (.cells cs'' t''); simpa using this) (by have:=Arr.new ((w.alloc (.cells cs t)).alloc (.cells cs' t')) t'' cs''.toList; simpa using this) (by simp)
theorem VD (h:∀ w0,Ext w w0→Arr w0 w.heap.size t cs.toList→Arr w0 (w.heap.size+1) t' cs'.toList→Arr w0 (w.heap.size+2) t'' cs''.toList→Arr w0 (w.heap.size+3) t3 cs3.toList→w0.heap.size=w.heap.size+4→Code.wp P c Q f w0):Code.wp P c Q f ((((w.alloc (.cells cs t)).alloc (.cells cs' t')).alloc (.cells cs'' t'')).alloc (.cells cs3 t3)) :=
 h _ (((((Ext.refl w).alloc _).alloc _).alloc _).alloc _) ((((Arr.new w t cs.toList).alloc _).alloc _).alloc _) (by have:=((Arr.new (w.alloc (.cells cs t)) t' cs'.toList).alloc (.cells cs'' t'')).alloc (.cells cs3 t3); simpa using this) (by have:=(Arr.new ((w.alloc (.cells cs t)).alloc (.cells cs' t')) t'' cs''.toList).alloc (.cells cs3 t3); simpa using this) (by have:=Arr.new (((w.alloc (.cells cs t)).alloc (.cells cs' t')).alloc (.cells cs'' t'')) t3 cs3.toList; simpa using this) (by simp)
end
section
variable {P:Program} {w:World}
theorem Js {cs:List Value} (ha:Agg P ty cs.length) (h:Arr w g t cs):(loadVar ty ⟨g,0,none⟩).run P w = .ok (.agg cs.toArray) w:=by
 obtain ⟨d,hu,hd,hi⟩:=ha.parts;exact run_loadVar_row (P:=P) w g t ty cs.toArray (0,0) d h hu (by cases d <;> first | rfl | exact absurd hd (by simp)) (by simpa using hi)
theorem Oz {fn:Func} {p q:Tmp} (hr:fn.results=#[.cell p ty, .cell q ty']) {tmps:Array Value} {g g':Nat} {t t':TypeId} {cs cs':List Value} (ha:Agg P ty cs.length) (ha':Agg P ty' cs'.length)
 (hp:tmps.getD p undef = .pointer (some ⟨g,0,none⟩)) (hq:tmps.getD q undef = .pointer (some ⟨g',0,none⟩)) (h:Arr w g t cs) (h':Arr w g' t' cs'):(results fn tmps).run P w = .ok (.tuple #[.agg cs.toArray, .agg cs'.toArray]) w:=by
 have hp':tmps[p]?.getD undef = .pointer (some ⟨g,0,none⟩):=by simpa using hp
 have hq':tmps[q]?.getD undef = .pointer (some ⟨g',0,none⟩):=by simpa using hq
 simp [results,hr,hp',hq',asAddr,Js ha h,Js ha' h']
theorem AH {fn:Func} {p q:Tmp} (hr:fn.results=#[.cell p ty, .tmp q]) {tmps:Array Value} {g:Nat} {t:TypeId} {cs:List Value} {v:Value} (ha:Agg P ty cs.length)
 (hp:tmps.getD p undef = .pointer (some ⟨g,0,none⟩)) (hq:tmps.getD q undef=v) (h:Arr w g t cs):(results fn tmps).run P w = .ok (.tuple #[.agg cs.toArray,v]) w:=by
 have hp':tmps[p]?.getD undef = .pointer (some ⟨g,0,none⟩):=by simpa using hp
 have hq':tmps[q]?.getD undef=v:=by simpa using hq
 simp [results,hr,hp',hq',asAddr,Js ha h]
end
end Go.Proofs.YtlpgonpfjbhmfaaGreatDoor
