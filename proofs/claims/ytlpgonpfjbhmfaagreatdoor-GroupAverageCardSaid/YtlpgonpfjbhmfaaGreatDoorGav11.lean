/- Part Gav11. -/
import Derived.Test.YtlpgonpfjbhmfaaGreatDoorGav10
set_option maxRecDepth 100000
set_option maxHeartbeats 100000000
namespace Go.Proofs.YtlpgonpfjbhmfaaGreatDoor
open Tryz Go Go.RowKit
variable {ds l ls qs xs ys zs:List Nat} {B D M N P Q T V V' V1 V2 Wn Z c cy d g i lo m n ov p q s v x y:Nat} {a b:Option Addr} {t:TypeId} {w:World}
theorem Jq (hB:0 < B) {l:List Nat} {p j:Nat} (h:W.val B l < B^p) (hj:p≤j):l.getD j 0=0:=by
 refine Classical.byContradiction fun hne => ?_;have hl:j < l.length:=by
  refine Classical.byContradiction fun hc=>hne ?_;rw [gqq,List.getElem?_eq_none (by omega)];rfl
 have h1:=W.val_split (B:=B) l j (by omega);rw [De hl] at h1;simp only [W.val] at h1;generalize l.getD j 0=x at *
 have h2:B^j*1≤B^j*(x+B*W.val B (l.drop (j+1))):=Nat.mul_le_mul_left _ (by omega);have h3:B^p≤B^j:=Nat.pow_le_pow_right hB hj;omega
theorem M0 {B:Nat}:∀ {l:List Nat},(∀ j,l.getD j 0=0)→W.val B l=0
 | [],_=>rfl
 | x :: l,h=>by
  have h0:=h 0;simp at h0;have h1:W.val B l=0:=M0 fun j=>by have:=h (j+1); simpa using this
  simp [W.val,h0,h1]
theorem Lc (l:List Nat) (p j:Nat):(l.drop p).getD j 0=l.getD (p+j) 0:=by
 simp [List.getElem?_drop]
theorem Ld (hp:p≤l.length) (h:∀ j,p≤j→l.getD j 0=0):W.val B l=W.val B (l.take p):=by
 rw [W.val_split (B:=B) l p hp,M0 (l:=l.drop p),Nat.mul_zero,Nat.add_zero];intro j;rw [Lc];exact h _ (by omega)
theorem M1 (hp:p≤l.length) (hb:W.bnd B l) (h:∀ j,p≤j→l.getD j 0=0):W.val B l < B^p:=by
 rw [Ld hp h];have:=W.val_lt (W.bnd_take hb p);rw [List.length_take,Nat.min_eq_left hp] at this;exact this
theorem Ox (hB:0 < B) {l:List Nat} {i m:Nat} (hl:i+m≤l.length) (h:W.val B l < B^(i+m)):W.val B l=W.val B (l.take i)+B^i*W.val B ((l.drop i).take m):=by
 rw [W.val_split (B:=B) l i (by omega)];congr 2;refine Ld (by simp; omega) fun j hj => ?_;rw [Lc];exact Jq hB h (by omega)
theorem Jr (hl:l.length=m+2):W.val B l=(l.getD (m+1) 0*B+l.getD m 0)*B^m+W.val B (l.take m):=by
 rw [W.val_split (B:=B) l m (by omega),De (by omega),De (xs:=l) (k:=m+1) (by omega),List.drop_of_length_le (by omega)];simp only [W.val]
 grind
theorem RH (hl:l.length=m+3):W.val B l=((l.getD (m+2) 0*B+l.getD (m+1) 0)*B+l.getD m 0)*B^m+W.val B (l.take m):=by
 rw [W.val_split (B:=B) l m (by omega),De (by omega),De (xs:=l) (k:=m+1) (by omega),De (xs:=l) (k:=m+1+1) (by omega),List.drop_of_length_le (by omega)];simp only [W.val]
 grind
theorem Dx (hb:W.bnd B l) {m:Nat} (hm:m≤l.length):W.val B (l.take m) < B^m:=by
 have:=W.val_lt (W.bnd_take hb m);rw [List.length_take,Nat.min_eq_left hm] at this;exact this
theorem Qo (hV:V=lo+P*Wn) (hlo:lo < P) (h1:V'+g*D*P=V) (hq2:Wn < (q+1)*D) (hgq:q≤g):g=q∧V' < P*D:=by
 have h2:g*D*P < P*(Wn+1):=by rw [Nat.mul_add,Nat.mul_one]; omega
 have h3:g*D < Wn+1:=by
  rw [Nat.mul_comm] at h2;exact Nat.lt_of_mul_lt_mul_left h2
 have h4:g < q+1:=Nat.lt_of_mul_lt_mul_right (a:=D) (by omega);have e:g=q:=by omega
 refine ⟨e, ?_⟩;subst e;have h5:P*(Wn+1)≤P*((g+1)*D):=Nat.mul_le_mul_left _ hq2;have h6:P*((g+1)*D)=g*D*P+P*D:=by grind
 rw [Nat.mul_add,Nat.mul_one] at h5;omega
theorem RI (hV:V=lo+P*Wn) (hlo:lo < P) (h1:V1+g*D*P=V+T) (hb:V1 < T) (hq1:q*D≤Wn) (hq2:Wn < (q+1)*D) (hg:g≤q+1) (h2:V2+ov*T=V1+D*P) (hb2:V2 < T) (hDP:D*P < T):g=q+1∧V2+q*D*P=V∧V2 < P*D:=by
 have h3:V < g*D*P:=by omega
 have h4:P*Wn < P*(g*D):=by rw [Nat.mul_comm P (g*D)]; omega
 have h5:Wn < g*D:=Nat.lt_of_mul_lt_mul_left h4;have h6:q < g:=by
  refine Classical.byContradiction fun hc => ?_;have:g*D≤q*D:=Nat.mul_le_mul_right _ (by omega);omega
 have e:g=q+1:=by omega
 subst e;have h7:(q+1)*D*P=q*D*P+D*P:=by grind
 have h9:q*D*P≤V:=by
  have:q*D*P≤Wn*P:=Nat.mul_le_mul_right _ hq1;rw [Nat.mul_comm Wn P] at this;omega
 have h8:ov=1:=by
  have h10:V1+D*P=(V - q*D*P)+T:=by omega
  rcases Nat.lt_or_ge ov 1 with h | h
  · have:ov=0:=by omega
    subst this;omega
  · rcases Nat.lt_or_ge 1 ov with h' | h'
    · exfalso;have h11:2*T≤ov*T:=Nat.mul_le_mul_right _ h';omega
    · omega
 subst h8;rw [Nat.one_mul] at h2;have h10:V2+q*D*P=V:=by omega
 refine ⟨rfl,h10, ?_⟩;have h5:P*(Wn+1)≤P*((q+1)*D):=Nat.mul_le_mul_left _ hq2;have h6:P*((q+1)*D)=q*D*P+P*D:=by grind
 rw [Nat.mul_add,Nat.mul_one] at h5;omega
def M2 (k:IntKind) (B:Nat) (w:World) (q r:Nat) (e:Ending) (w':World):Prop:=∃ a n c xs a' n' c' ys,e = .returned (.tuple #[.slice a n c, .slice a' n' c'])∧Ext w w'∧SlN k w' a n c xs∧Num B xs q∧SlN k w' a' n' c' ys∧Num B ys r∧Hx w.heap.size (fun _=>False) a n
theorem Fb:Ba (x:Int) (y:Int) < 0↔x < y:=by
 unfold Ba;split
 · constructor <;> intro _ <;> omega
 · split
   · constructor <;> intro _ <;> omega
   · constructor <;> intro _ <;> omega
theorem EC (hx:SlN .u64 w a n c xs) (hy:SlN .u64 w b m d ys) (nx:Num 18446744073709551616 xs x) (ny:Num 18446744073709551616 ys y) (hlt:x < y) :
 Calls prog 177 #[.slice a n c, .slice b m d] w (M2 .u64 18446744073709551616 w (x / y) (x % y)):=by
 have HC:Hid (Ba (x:Int) (y:Int) < 0):=Lib.hid (Fb.2 hlt);have hcw:=fun wx:World=>fun (h1:Ext w wx)=>Bi (hx.ext h1) (hy.ext h1) nx ny;have NX:=Lib.hid nx;have HL:=Lib.hid hlt;clear nx ny hlt
 go_enter func177,ntmps177
 go_wp2_with fail
 refine (hcw _ (Ext.refl w)).mono ?_;rintro e w1 ⟨rfl,hQ⟩;have hc:=HC.out;generalize Ba (x:Int) (y:Int)=cv at *
 clear HC;go_wp2
 go_ret2
 refine ⟨none,0,0,[],a,n,c,xs,rfl,hQ.ext,SlN.nil _ _, ?_,hx.ext hQ.ext, ?_,fun h=>absurd h (by omega)⟩
 · rw [Nat.div_eq_of_lt HL.out]; exact Num.nil _
 · rw [Nat.mod_eq_of_lt HL.out]; exact NX.out
theorem E7 (hx:SlN .u64 w a n c xs) (hy:SlN .u64 w b 1 d ys) (nx:Num 18446744073709551616 xs x) (ny:Num 18446744073709551616 ys y) (hn:n≤1000000) (hge:y≤x) (h0:0 < y) :
 Calls prog 177 #[.slice a n c, .slice b 1 d] w (M2 .u64 18446744073709551616 w (x / y) (x % y)):=by
 have HC:Hid (¬ Ba (x:Int) (y:Int) < 0):=Lib.hid (by rw [Fb]; omega);have hcw:=fun wx:World=>fun (h1:Ext w wx)=>Bi (hx.ext h1) (hy.ext h1) nx ny;have NX:=Lib.hid nx;have hyd:ys.getD 0 0=y∧y < 18446744073709551616:=by
  have h1:=ny.val;obtain ⟨z,hz⟩:=List.length_eq_one_iff.1 hy.len;have h2:=ny.bnd z (by rw [hz]; simp);rw [hz] at h1;simp [W.val] at h1;rw [hz];simp;omega
 obtain ⟨hy0,hyb⟩:=hyd;clear nx ny
 go_enter func177,ntmps177
 go_wp2_with fail
 refine (hcw _ (Ext.refl w)).mono ?_;rintro e w1 ⟨rfl,hQ⟩;have hc:=HC.out;have hc':(0:Int)≤Ba (x:Int) (y:Int):=by omega
 generalize Ba (x:Int) (y:Int)=cv at *
 clear HC;obtain ⟨b1,o1,rfl,hc1⟩:=(hy.ext hQ.ext).at (j:=0) (by omega);have g1:=hc1 0 (by omega);rw [hy0,Nat.add_zero] at g1;clear hc1
 go_wp2_with fail
 refine (Jo (hx.ext hQ.ext) NX.out.bnd NX.out.val hyb h0 hn).mono ?_;rintro e w2 ⟨a',n',c',zs,rfl,hE2,hz,nz,hsrc⟩;have hmb:x % y < 18446744073709551616:=by have:=Nat.mod_lt x h0; omega
 have hfw:=fun wx:World=>DH (w:=wx) hmb;obtain ⟨r,hr⟩:∃ r,x % y=r:=⟨_,rfl⟩;rw [hr] at hfw ⊢;have HR:=Lib.hid hr;clear hr hmb
 go_wp2_with fail
 refine (hfw _).mono ?_;rintro e w3 ⟨a3,n3,c3,ys3,rfl,hE3,hy3,ny3⟩;go_wp2
 go_ret2
 exact ⟨a',n',c',zs,a3,n3,c3,ys3,rfl,(hQ.ext.trans hE2).trans hE3,hz.ext hE3,nz,hy3,by rw [HR.out]; exact ny3,hsrc.of hQ.ext.size (fun _ h=>h.elim)⟩
theorem GF (hl:l.length=m+1):W.val B l=l.getD m 0*B^m+W.val B (l.take m):=by
 rw [W.val_split (B:=B) l m (by omega),De (by omega),List.drop_of_length_le (by omega)];simp only [W.val]
 grind
theorem IQ (ny:Num 18446744073709551616 ys y) (hl:ys.length=m+1) (hs:s≤63) (h1:9223372036854775808≤ys.getD m 0*2^s) (h2:ys.getD m 0*2^s < 18446744073709551616) (nd:Num 18446744073709551616 ds (y*2^s)):ds.length=m+1∧9223372036854775808≤ds.getD m 0:=by
 have e1:=GF (B:=18446744073709551616) hl;rw [ny.val] at e1;have b1:=Dx ny.bnd (m:=m) (by omega);generalize ys.getD m 0=u at *
 generalize W.val 18446744073709551616 (ys.take m)=v at *
 have e2:y*2^s=u*2^s*18446744073709551616^m+v*2^s:=by rw [e1]; grind
 have h3:u*2^s+2^s≤18446744073709551616:=by
  have h4:u < 2^(64 - s):=by
   refine Nat.lt_of_mul_lt_mul_right (a:=2^s) ?_;rw [CM hs];exact h2
  have h5:(u+1)*2^s≤2^(64 - s)*2^s:=Nat.mul_le_mul_right _ h4;rw [CM hs,Nat.add_mul,Nat.one_mul] at h5;exact h5
 have h6:y*2^s < 18446744073709551616^(m+1):=by
  rw [e2,Nat.pow_succ];have h7:v*2^s < 18446744073709551616^m*2^s:=Nat.mul_lt_mul_of_pos_right b1 (Nat.two_pow_pos s);have h8:(u*2^s+2^s)*18446744073709551616^m≤18446744073709551616*18446744073709551616^m:=Nat.mul_le_mul_right _ h3;rw [Nat.add_mul] at h8;rw [Nat.mul_comm (18446744073709551616^m) (2^s)] at h7;rw [Nat.mul_comm (18446744073709551616^m) 18446744073709551616];omega
 have h9:9223372036854775808*18446744073709551616^m≤y*2^s:=by
  rw [e2];exact Nat.le_trans (Nat.mul_le_mul_right _ h1) (Nat.le_add_right _ _)
 have l1:ds.length≤m+1:=W.nrm_len (B:=18446744073709551616) (by omega) nd.nrm (by rw [nd.val]; exact h6);have l2:m+1≤ds.length:=by
  refine Classical.byContradiction fun hc => ?_;have h10:=W.val_lt nd.bnd;rw [nd.val] at h10;have h11:18446744073709551616^ds.length≤18446744073709551616^m:=Nat.pow_le_pow_right (by omega) (by omega);have h12:1*18446744073709551616^m≤9223372036854775808*18446744073709551616^m:=Nat.mul_le_mul_right _ (by omega);rw [Nat.one_mul] at h12;omega
 have l3:ds.length=m+1:=by omega
 refine ⟨l3, ?_⟩;have e3:=GF (B:=18446744073709551616) l3;rw [nd.val] at e3;have b3:=Dx nd.bnd (m:=m) (by omega);generalize ds.getD m 0=t at *
 refine Classical.byContradiction fun hc => ?_;have h13:(t+1)*18446744073709551616^m≤9223372036854775808*18446744073709551616^m:=Nat.mul_le_mul_right _ (by omega);rw [Nat.add_mul,Nat.one_mul] at h13;omega
theorem Le (h:Arr w g t ((List.map (BO .u64) (List.replicate N 0)).take 0 ++ xs.map (BO .u64) ++ (List.map (BO .u64) (List.replicate N 0)).drop (0+xs.length))):BT .u64 w g t (xs ++ List.replicate (N - xs.length) 0):=Pi h
theorem TF {R:Nat} (hy:0 < y) (h:x*2^s=Q*(y*2^s)+R) (hR:R < y*2^s):x / y=Q∧R / 2^s=x % y:=by
 have hp:=Nat.two_pow_pos s;have hd:2^s∣R:=by
  have h1:2^s∣x*2^s:=Nat.dvd_mul_left _ _;rw [h] at h1;exact (Nat.dvd_add_right ⟨Q*y,by grind⟩).1 h1
 obtain ⟨r,rfl⟩:=hd;have e:x=Q*y+r:=by
  apply Nat.eq_of_mul_eq_mul_right hp;rw [h]
  grind
 have hr:r < y:=by
  rw [Nat.mul_comm] at hR;exact Nat.lt_of_mul_lt_mul_right hR
 rw [Nat.mul_div_cancel_left _ hp,e];exact ⟨by rw [Nat.mul_comm,Nat.mul_add_div hy,Nat.div_eq_of_lt hr,Nat.add_zero],by rw [Nat.mul_comm,Nat.mul_add_mod,Nat.mod_eq_of_lt hr]⟩
theorem Qp (hx:x < 18446744073709551616^n) (hy:18446744073709551616^m≤y) (hmn:m+1≤n):x*2^s < 18446744073709551616^(n - (m+1)+1)*(y*2^s):=by
 have h1:18446744073709551616^(n - (m+1)+1)*18446744073709551616^m=18446744073709551616^n:=by rw [←Nat.pow_add]; congr 1; omega
 have h2:18446744073709551616^(n - (m+1)+1)*18446744073709551616^m≤18446744073709551616^(n - (m+1)+1)*y:=Nat.mul_le_mul_left _ hy;have h3:x*2^s < 18446744073709551616^(n - (m+1)+1)*y*2^s:=Nat.mul_lt_mul_of_pos_right (by omega) (Nat.two_pow_pos s);rw [←Nat.mul_assoc];exact h3
theorem Pq (hi:i < qs.length) (h0:qs.getD i 0=0) (hP:P=18446744073709551616^i) (h:Q=W.val 18446744073709551616 qs*D+V) (h1:V'+q*D*P=V):Q=W.val 18446744073709551616 (qs.set i q)*D+V':=by
 have h2:=W.val_set (B:=18446744073709551616) (xs:=qs) (i:=i) (v:=q) hi;rw [h0,Nat.mul_zero,Nat.add_zero] at h2;rw [h2,h,←h1,hP]
 grind
theorem Pr (h:∀ j,j < i+1→qs.getD j 0=0):∀ j,j < i→(qs.set i q).getD j 0=0:=by
 intro j hj;have h1:=h j (by omega);have h2:¬ i=j:=by omega
 simpa [h2] using h1
theorem Qq (hB:0 < B) {ls:List Nat} {D i md:Nat} (bz:W.bnd B ls) (hll:i+(md+1)≤ls.length) (hDM:D < B^md) (hD0:0 < D) (HB:W.val B ls < B^(i+1)*D) :
 ∃ q,q < B∧q*D≤W.val B ((ls.drop i).take (md+1))∧W.val B ((ls.drop i).take (md+1)) < (q+1)*D∧W.val B ls=W.val B (ls.take i)+B^i*W.val B ((ls.drop i).take (md+1))∧W.val B (ls.take i) < B^i∧W.val B ls < B^(i+(md+1)):=by
 have hlT:W.val B ls < B^(i+(md+1)):=by
  have h3:B^(i+1)*D≤B^(i+1)*B^md:=Nat.mul_le_mul_left _ (by omega);rw [←Nat.pow_add,show i+1+md=i+(md+1) by omega] at h3;omega
 have hVW:=Ox (B:=B) hB hll hlT;have hlo:=Dx bz (m:=i) (by omega);have hWD:W.val B ((ls.drop i).take (md+1)) < B*D:=by
  rw [Nat.pow_succ,Nat.mul_assoc,hVW] at HB;have h2:B^i*W.val B ((ls.drop i).take (md+1)) < B^i*(B*D):=by omega
  exact Nat.lt_of_mul_lt_mul_left h2
 generalize W.val B ((ls.drop i).take (md+1))=Wn at *
 have hq1:Wn / D*D≤Wn:=Nat.div_mul_le_self _ _;refine ⟨Wn / D, ?_,hq1, ?_,hVW,hlo,hlT⟩
 · exact Nat.lt_of_mul_lt_mul_right (a:=D) (Nat.lt_of_le_of_lt hq1 hWD)
 · rw [Nat.add_mul,Nat.one_mul];have h1:=Nat.div_add_mod Wn D;have h2:=Nat.mod_lt Wn hD0;rw [Nat.mul_comm] at h1;omega
theorem RJ (hV:V=lo+P*Wn) (h1:V1+g*D*P=V+T) (hb:V1 < T) (hq1:q*D≤Wn):q < g:=by
 refine Classical.byContradiction fun hc => ?_;have h2:g*D*P≤q*D*P:=Nat.mul_le_mul_right _ (Nat.mul_le_mul_right _ (by omega));have h3:q*D*P≤Wn*P:=Nat.mul_le_mul_right _ hq1;rw [Nat.mul_comm Wn P] at h3;omega
theorem UU {t:Nat} (h1:V'+M*t=Z+M*v) (h2:Z+g*D*P=V+cy*M) (h3:v+cy=t):V'+g*D*P=V:=by
 subst h3;rw [Nat.mul_add,Nat.mul_comm M cy] at h1;omega
theorem Qr {t:Nat} (h1:V'+M*t=Z+M*v) (h2:Z+g*D*P=V+cy*M) (h3:v+cy=t+B):V'+g*D*P=V+M*B:=by
 have h4:M*(v+cy)=M*(t+B):=by rw [h3]
 rw [Nat.mul_add,Nat.mul_add,Nat.mul_comm M cy] at h4;omega
theorem RK {u z:Nat} (h1:V2+M*u=Z+M*z) (h2:Z+c*M=V1+1*D*P) (h3:z+B*ov=u+c):V2+ov*(M*B)=V1+D*P:=by
 have h4:M*(z+B*ov)=M*(u+c):=by rw [h3]
 rw [Nat.mul_add,Nat.mul_add,Nat.mul_comm M c,←Nat.mul_assoc] at h4;rw [Nat.one_mul] at h2;rw [Nat.mul_comm ov];omega
theorem Lf (h:∀ j,p≤j→zs.getD j 0=ls.getD j 0) (h0:∀ j,p+1≤j→ls.getD j 0=0):∀ j,p+1≤j→(zs.set p v).getD j 0=0:=by
 intro j hj;have h1:=h j (by omega);rw [h0 j hj] at h1;have h2:¬ p=j:=by omega
 simpa [h2] using h1
theorem E8 (hx:SlN .u64 w a n c xs) (hy:SlN .u64 w b m d ys) (nx:Num 18446744073709551616 xs x) (ny:Num 18446744073709551616 ys y) (hn:n≤100000) (hge:y≤x) {mm:Nat} (hm2:m=mm+2) :
 Calls prog 177 #[.slice a n c, .slice b m d] w (M2 .u64 18446744073709551616 w (x / y) (x % y)):=by
 have HC:Hid (¬ Ba (x:Int) (y:Int) < 0):=Lib.hid (by rw [Fb]; omega);have hcw:=fun wx:World=>fun (h1:Ext w wx)=>Bi (hx.ext h1) (hy.ext h1) nx ny;have HX:=Lib.hid hx.len;have HY:=Lib.hid hy.len;have hmn:m≤n:=by
  refine Classical.byContradiction fun hc => ?_;have:=W.len_lt (B:=18446744073709551616) (by omega) nx.bnd ny.nrm (by rw [HX.out,HY.out]; omega);rw [nx.val,ny.val] at this;omega
 have hyne:ys≠[]:=by intro h; have:=HY.out; rw [h] at this; simp at this; omega
 have hylo:=W.nrm_pos (B:=18446744073709551616) (by omega) ny.nrm hyne;rw [HY.out,ny.val] at hylo;have htop:0 < ys.getD (m - 1) 0:=by
  have h1:=ny.nrm hyne;rw [List.getLast_eq_getElem] at h1;have h2:ys.length - 1=m - 1:=by rw [HY.out]
  have h3:m - 1 < ys.length:=by rw [HY.out]; omega
  have h4:ys.getD (m - 1) 0=ys[ys.length - 1]'(by omega):=by
   simp [h2,h3]
  omega
 have htb:=W.bnd_at ny.bnd (i:=m - 1) (by rw [HY.out]; omega);obtain ⟨s,hs,hlz,hY1,hY2⟩:=MS htop htb;have HSD:Hid (∀ ds,Num 18446744073709551616 ds (y*2^s)→ds.length=m∧9223372036854775808≤ds.getD (mm+1) 0):=by
  show ∀ ds,Num 18446744073709551616 ds (y*2^s)→ds.length=m∧9223372036854775808≤ds.getD (mm+1) 0;intro ds nd;have h1:m - 1=mm+1:=by omega
  rw [h1] at hY1 hY2;have:=IQ (m:=mm+1) ny (by rw [HY.out]; omega) hs hY1 hY2 nd;exact ⟨by omega,this.2⟩
 have NX:=Lib.hid nx;have NY:=Lib.hid ny;have HYL:=Lib.hid hylo;have HM2:=Lib.hid hm2;have hm1:2≤m:=by omega
 clear nx ny hm2 hY1 hY2 hyne hylo
 go_enter func177,ntmps177
 go_wp2_with fail
 refine (hcw _ (Ext.refl w)).mono ?_;rintro e w1 ⟨rfl,hQ⟩;have hc:=HC.out;have hc':(0:Int)≤Ba (x:Int) (y:Int):=by omega
 generalize Ba (x:Int) (y:Int)=cv at *
 clear HC;obtain ⟨b1,o1,rfl,hc1⟩:=(hy.ext hQ.ext).at (j:=0) (by omega);have g1:=hc1 (m - 1) (by omega);have hm1b:((m:Int) == 1)=false:=by simp; omega
 have hwm:IntKind.i64.wrap ((m:Int) - 1)=((m - 1:Nat):Int):=by rw [show (m:Int) - 1=((m - 1:Nat):Int) by omega]; exact IntWalk.i64_in _ (by omega)
 have hwm2:((m - 1:Nat):Int) < (m:Int):=by omega
 have hlz64:=fun wx:World=>Pj htb wx;rw [hlz] at hlz64;generalize ys.getD (m - 1) 0=yt at *
 have HM1:Hid (m - 1+1=m):=by show _=_; omega
 generalize m - 1=m1 at *
 clear hc1 hlz htop hcw
 go_wp2_with fail
 refine (hlz64 _).mono ?_;rintro e w2 ⟨rfl,rfl⟩;clear g1
 go_wp2_with fail
 refine (F6 (hy.ext hQ.ext) NY.out hs (by omega)).mono ?_;rintro e wD ⟨bd,md,cd,ds,rfl,hED,hd,nd⟩;obtain ⟨hdl,hdt⟩:=HSD.out ds nd;have hmd:md=m:=by rw [←hd.len,hdl]
 subst hmd;have hEw:=hQ.ext.trans hED;have HDT:=Lib.hid hdt;have ND:=Lib.hid nd;obtain ⟨D,hD⟩:∃ D,y*2^s=D:=⟨_,rfl⟩;rw [hD] at ND;have HD:=Lib.hid hD;clear HSD hdt nd hdl hD hED
 go_upto_region 10 with (at_make; refine Eg (n:=n+1) rfl rfl underlying88 Ay rfl rfl rfl (by omega) (by unfold maxLen; omega) ?_; intro w3 hO3 hE3)
 have hEw3:=hEw.trans hE3
 go_wp2_with fail
 refine (F6 (hx.ext hEw3) NX.out hs (by omega)).mono ?_;rintro e w4 ⟨ax,nx,cx,us,rfl,hE4,hu,nu⟩;have hul:us.length≤n+1:=by
  refine W.nrm_len (B:=18446744073709551616) (by omega) nu.nrm ?_;rw [nu.val,Nat.pow_succ];have h1:=W.val_lt NX.out.bnd;rw [NX.out.val,HX.out] at h1;have h2:2^s≤18446744073709551616:=by
   have:=Nat.pow_le_pow_right (n:=2) (by omega) (show s≤64 by omega);exact this
  calc x*2^s < 18446744073709551616^n*2^s:=Nat.mul_lt_mul_of_pos_right h1 (Nat.two_pow_pos s)
   _≤18446744073709551616^n*18446744073709551616:=Nat.mul_le_mul_left _ h2
 have hnx:nx≤n+1:=by rw [←hu.len]; exact hul
 have hA4:=(Az.of_zeros hO3).arr.ext hE4;have NU:=Lib.hid nu;have HU:=Lib.hid hu.len;clear nu hul
 go_upto_region 11 with (refine Ka (sT:=88) rfl rfl underlying88 Ay rfl rfl hA4 hu (by omega) (by simp; omega) (Jk _) ?_; intro w5 hB5 hg5)
 have hO5:Az .u64 w5 wD.heap.size 143 wD.heap.size (n+1) (n+1) (us ++ List.replicate (n+1 - nx) 0):=by
  have h1:BT .u64 w5 wD.heap.size 143 (us ++ List.replicate (n+1 - us.length) 0):=by
   refine Le ?_;rw [HU.out];exact hB5
  rw [HU.out] at h1;have hl:(us ++ List.replicate (n+1 - nx) 0).length=n+1:=by simp [HU.out]; omega
  have:=BT.own h1 (lrf wD.heap.size) (by rw [hl]; unfold maxLen; omega);rw [hl] at this;exact this
 have hE5:Ext wD w5:=(hE3.trans hE4).grownR hg5 (lrf _);have hv5:W.val 18446744073709551616 (us ++ List.replicate (n+1 - nx) 0)=x*2^s:=by rw [Hv,NU.out.val]
 have hb5:W.bnd 18446744073709551616 (us ++ List.replicate (n+1 - nx) 0):=Jl (by omega) NU.out.bnd _;have hst:x*2^s < 18446744073709551616^(n - md+1)*D:=by
  have h1:=W.val_lt NX.out.bnd;rw [NX.out.val,HX.out] at h1;have h2:=HM1.out;have:=Qp (s:=s) (m:=m1) h1 HYL.out (by omega);rw [h2,HD.out] at this;exact this
 have h51:=hO5.lt;generalize us ++ List.replicate (n+1 - nx) 0=ls0 at *
 have HV5:=Lib.hid hv5;have HST:=Lib.hid hst;clear hB5 hg5 hA4 hO3 hE3 hE4 hEw3 hu hnx NU HU hv5 hst;have hdm:D < 18446744073709551616^md:=by
  have h1:=W.val_lt ND.out.bnd;rw [ND.out.val,hd.len] at h1;exact h1
 have HDM:=Lib.hid hdm;have hD0:0 < D:=by
  rw [←HD.out];refine Nat.mul_pos ?_ (Nat.two_pow_pos s);have h1:=HYL.out;have:=Nat.pow_pos (n:=m1) (show 0 < 18446744073709551616 by omega);omega
 have HD0:=Lib.hid hD0;clear hdm hD0;have hwq:IntKind.i64.wrap ((n:Int) - md)=(((n - md:Nat):Int)):=by rw [show (n:Int) - md=((n - md:Nat):Int) by omega]; exact IntWalk.i64_in _ (by omega)
 obtain ⟨nq,hnq⟩:∃ nq,n - md=nq:=⟨_,rfl⟩;rw [hnq] at hwq HST;have hnqn:nq≤n:=by omega
 have HNQ:Hid (n=nq+md):=by show _=_; omega
 clear hnq
 go_upto_region 12 with (at_make; refine Eg (n:=nq+1) rfl rfl underlying88 Ay rfl rfl rfl (by omega) (by unfold maxLen; omega) ?_; intro w6 hO6 hE6)
 have hO5':=hO5.ext hE6;have hE6':=hE5.trans hE6;go_wp2;rw [show decide (cv < 0)=false by simp; omega]
 go_loopw [13] (fun iv wr=>∃ (k:Nat) (ls qs:List Nat),iv = .int .i64 ((k:Int) - 1)∧k≤nq+1∧Ext wD wr∧Az .u64 wr wD.heap.size 143 wD.heap.size (n+1) (n+1) ls∧Az .u64 wr w5.heap.size 143 w5.heap.size (nq+1) (nq+1) qs∧W.bnd 18446744073709551616 ls∧W.bnd 18446744073709551616 qs∧Hid (x*2^s=W.val 18446744073709551616 qs*D+W.val 18446744073709551616 ls)∧Hid (∀ j,j < k→qs.getD j 0=0)∧Hid (W.val 18446744073709551616 ls < 18446744073709551616^k*D)) (fun iv _=>(intOf iv+1).toNat)
 case atStart =>
  refine ⟨nq+1,ls0,List.replicate (nq+1) 0,by go_num,lrf _,hE6',hO5',Az.of_zeros hO6,hb5,fun z hz=>by rw [(List.mem_replicate.1 hz).2]; omega,Lib.hid ?_,Lib.hid (fun j _=>FE _ j),Lib.hid ?_⟩
  · rw [W.val_zeros,Nat.zero_mul,Nat.zero_add,HV5.out]
  · rw [HV5.out]; exact HST.out
 case round =>
  clear hO6 hE6 hO5' hE6' hO5 hE5 hb5 HV5 HST hwq hwm hwm2 hlz64 hm1b htb;obtain ⟨k,ls,qs,rfl,hk,hE,hz,hq,bz,bq,HV,HJ,HB⟩:=hrel;cases k with
  | zero =>
   have hend:x / y=W.val 18446744073709551616 qs∧W.val 18446744073709551616 ls / 2^s=x % y:=by
    have h1:=HV.out;have h2:=HB.out;rw [Nat.pow_zero,Nat.one_mul] at h2;rw [←HD.out] at h1 h2;refine TF ?_ h1 h2;have h3:=HYL.out;have:=Nat.pow_pos (n:=m1) (show 0 < 18446744073709551616 by omega);omega
   have HEND:=Lib.hid hend;clear hend
   go_wp2_with fail
   refine (Bl hq.sl).mono ?_;rintro e w7 ⟨q1,rfl,rfl,hq1,ht1⟩;obtain ⟨t1,t2⟩:=BF hq.sl hq1 ht1 bq HEND.out.1.symm;clear ht1 hq1
   go_wp2_with fail
   refine (Bl hz.sl).mono ?_;rintro e w8 ⟨q2,rfl,rfl,hq2,ht2⟩;obtain ⟨t3,t4⟩:=BF (v:=W.val 18446744073709551616 ls) hz.sl hq2 ht2 bz rfl;have hsr:=Jp t3 t4 hs (by omega);have T1:=Lib.hid t1;have T2:=Lib.hid t2;have HSR:=Lib.hid hsr;clear ht2 t1 t2 t3 t4 hsr
   go_wp2_with fail
   refine HSR.out.mono ?_;rintro e w9 ⟨a9,n9,c9,ys9,rfl,hE9,hy9,ny9⟩;rw [HEND.out.2] at ny9;go_wp2
   go_ret2
   exact ⟨_,q1,_,_,a9,n9,c9,ys9,rfl,(hEw.trans hE).trans hE9,T1.out.ext hE9,T2.out,hy9,ny9,fun _ g h=>Or.inl (by have:=hEw.size; cases h; show w.heap.size≤w5.heap.size; omega)⟩
  | succ i =>
   have hw0:((i+1:Nat):Int) - 1=i:=by omega
   rw [hw0];have hib:i≤nq:=by omega
   have him:i+md≤n:=by have:=HNQ.out; omega
   have hll:i+(md+1)≤ls.length:=by rw [hz.len]; omega
   obtain ⟨q,hqb,hq1,hq2,hVW,hlo,hlT⟩:=Qq (by omega) bz hll HDM.out HD0.out HB.out;have hWl:((ls.drop i).take (md+1)).length=mm+3:=by simp; have:=HM2.out; omega
   have bW:W.bnd 18446744073709551616 ((ls.drop i).take (md+1)):=W.bnd_take (W.bnd_drop bz _) _;have hsW:=hz.arr.part (o:=i) (n:=md+1) (c:=n+1 - i) (by omega) (by omega) (by unfold maxLen; omega);have hest:=fun (wx:World) (hx1:Qt wr wx)=>LW (w:=wx) (n:=md) (m:=mm) (q:=q) (hsW.ext hx1.ext) ((hd.ext hE).ext hx1.ext) bW ND.out.bnd HM2.out (by omega) HDT.out rfl rfl (RH hWl) (Jr (by rw [hd.len]; exact HM2.out)) (Dx bW (by omega)) (Dx ND.out.bnd (by rw [hd.len]; have:=HM2.out; omega)) (by rw [ND.out.val]; exact hq1) (by rw [ND.out.val]; exact hq2) hqb
   have hsl1:∀ wx:World,(Instr.sliceAt 88 (.slice (some ⟨wD.heap.size,0,none⟩) (n+1) (n+1)) (some (.int .i64 i)) (some (.int .i64 ((i:Int)+md+1))) none).run prog wx = .ok (.slice (some ⟨wD.heap.size,i,none⟩) (md+1) (n+1 - i)) wx:=fun wx=>by
    have:=Cd (P:=prog) (w:=wx) (g:=wD.heap.size) (n:=n+1) (c:=n+1) (lo:=i) (hi:=i+md+1) underlying88 Ay (by omega) (by omega) (by omega);rw [show i+md+1 - i=md+1 by omega,Int.natCast_add,Int.natCast_add] at this;exact this
   have hsl2:∀ wx:World,(Instr.sliceAt 88 (.slice (some ⟨wD.heap.size,0,none⟩) (n+1) (n+1)) (some (.int .i64 i)) (some (.int .i64 ((i:Int)+md))) none).run prog wx = .ok (.slice (some ⟨wD.heap.size,i,none⟩) md (n+1 - i)) wx:=fun wx=>by
    have:=Cd (P:=prog) (w:=wx) (g:=wD.heap.size) (n:=n+1) (c:=n+1) (lo:=i) (hi:=i+md) underlying88 Ay (by omega) (by omega) (by omega);rw [Nat.add_sub_cancel_left,Int.natCast_add] at this;exact this
   have hwa:IntKind.i64.wrap ((i:Int)+md)=(i:Int)+md:=IntWalk.i64_in _ (by omega);have hwa1:IntKind.i64.wrap ((i:Int)+md+1)=(i:Int)+md+1:=IntWalk.i64_in _ (by omega);have hto:((i:Int)+md).toNat=i+md:=by omega
   have HVW:=Lib.hid hVW;have HLO:=Lib.hid hlo;have HQ1:=Lib.hid hq1;have HQ2:=Lib.hid hq2;have HLT:=Lib.hid hlT;clear hVW hlo hq1 hq2 hlT hsW bW hWl
   go_wp2_with fail
   refine (hest wr (Qt.refl _)).mono ?_;rintro e w7 ⟨g,rfl,hgq,hgq1,hgb,hQ7⟩;have hz7:=hz.ext hQ7.ext;have hq7:=hq.ext hQ7.ext;have hE7:=hE.trans hQ7.ext;have hsp:=FZ (w:=w7) (o:=i) (c':=n+1 - i) (wd:=g) hz7 (hd.ext hE7) (Or.inr (hd.fresh (lrf _) (by omega))) (by omega) bz ND.out.bnd hgb
   go_wp2_with fail
   refine hsp.mono ?_;rintro e w8 ⟨cy,zs,rfl,hcy,hg8,hz8,bz8,hv8,hj8⟩;clear hest hsp hsl1 hsl2;have hq8:=hq7.kept hg8 (by simp; omega);have hE8:=hE7.grownR hg8 (lrf _);have gt1:=hz8.cell (i:=i+md) (by omega);have gt2:=hz8.frozen (i+md);have htb:zs.getD (i+md) 0 < 18446744073709551616:=W.bnd_at bz8 (by rw [hz8.len]; omega);rw [ND.out.val] at hv8;have HV8:=Lib.hid hv8;have HJ8:=Lib.hid hj8;have HTOP:Hid (∀ v,W.val 18446744073709551616 (zs.set (i+md) v)+18446744073709551616^(i+md)*zs.getD (i+md) 0=W.val 18446744073709551616 zs+18446744073709551616^(i+md)*v):=by
    show ∀ v,_;intro v;exact W.val_set (by rw [hz8.len]; omega)
   clear hv8 hj8 hz7 hq7 hg8 hz hq;have HZ0:Hid (∀ j,i+md+1≤j→ls.getD j 0=0):=by
    show ∀ j,i+md+1≤j→ls.getD j 0=0;exact fun j hj=>Jq (by omega) HLT.out (by omega)
   by_cases hcy2:cy≤zs.getD (i+md) 0
   · obtain ⟨v,hv⟩:∃ v,v+cy=zs.getD (i+md) 0:=⟨zs.getD (i+md) 0 - cy,by omega⟩;have hR:=UU (HTOP.out v) HV8.out hv;obtain ⟨e1,e2⟩:=Qo HVW.out HLO.out hR HQ2.out hgq;subst e1;have HQS:=Lib.hid (Pq (qs:=qs) (i:=i) (q:=g) (by rw [hq8.len]; omega) (HJ.out i (by omega)) rfl HV.out hR);have HQL:=Lib.hid (Pr (q:=g) HJ.out);have HE2:=Lib.hid e2;have hw1:IntKind.u64.wrap (((zs.getD (i+md) 0:Nat):Int) - cy)=(v:Int):=Ah (by omega) (by omega);have hle:(cy:Int)≤((zs.getD (i+md) 0:Nat):Int):=by omega
     have gq1:=hq8.cell (i:=i) (by omega);have gq2:=hq8.frozen i;rw [HJ.out i (by omega)] at gq1;have hz9:=hz8.set (i+md) v;have hq9:=(hq8.kept (Ao w8 wD.heap.size (i+md) (.int .u64 (v:Int))) (by simp; omega)).set i g;have hz10:=hz9.kept (Ao (w8.setCell ⟨wD.heap.size,i+md,none⟩ (.int .u64 (v:Int))) w5.heap.size i (.int .u64 (g:Int))) (by simp; omega);have hE9:=(hE8.setCell (p:=⟨wD.heap.size,i+md,none⟩) (lrf _) (.int .u64 (v:Int))).setCell (p:=⟨w5.heap.size,i,none⟩) (by show wD.heap.size≤w5.heap.size; omega) (.int .u64 (g:Int))
     have bz9:=W.bnd_set (i:=i+md) bz8 (show v < 18446744073709551616 by omega);have bq9:=W.bnd_set (i:=i) bq hgb;clear hR e2 hv hcy2;generalize zs.getD (i+md) 0=t at *
     go_wp2;go_roundw
     case rel=>exact ⟨i,zs.set (i+md) v,qs.set i g,by go_num,by omega,hE9,hz10,hq9,bz9,bq9,HQS,HQL,HE2⟩
     case measure=>simp [intOf]
   · obtain ⟨v,hv⟩:∃ v,v+cy=zs.getD (i+md) 0+18446744073709551616:=⟨zs.getD (i+md) 0+18446744073709551616 - cy,by omega⟩;have hvb:v < 18446744073709551616:=by omega
     have hR:=Qr (B:=18446744073709551616) (HTOP.out v) HV8.out hv;have hab:=Lf (v:=v) HJ8.out HZ0.out;have bz9:=W.bnd_set (i:=i+md) bz8 hvb;have hz9:=hz8.set (i+md) v;have hlt9:W.val 18446744073709551616 (zs.set (i+md) v) < 18446744073709551616^(i+md+1):=M1 (by rw [hz9.len]; omega) bz9 hab;rw [←Nat.pow_succ] at hR;have hgq2:q < g:=RJ HVW.out hR hlt9 HQ1.out;obtain ⟨g2,rfl⟩:∃ g2,g=g2+1:=⟨g - 1,by omega⟩;have hg2:g2=q:=by omega
     subst hg2;have HR:=Lib.hid hR;have HLT9:=Lib.hid hlt9;have HAB:=Lib.hid hab;have hw1:IntKind.u64.wrap (((zs.getD (i+md) 0:Nat):Int) - cy)=(v:Int):=by
      rw [IntKind.wrap_u64];omega
     have hlt:((zs.getD (i+md) 0:Nat):Int) < (cy:Int):=by omega
     have hw2:IntKind.u64.wrap ((g2:Int)+1 - 1)=(g2:Int):=Ah (by omega) (by omega);have hw2':IntKind.u64.wrap (g2:Int)=(g2:Int):=Ah (by omega) (by omega);have hE9:=hE8.setCell (p:=⟨wD.heap.size,i+md,none⟩) (lrf _) (.int .u64 (v:Int));have hq9:=hq8.kept (Ao w8 wD.heap.size (i+md) (.int .u64 (v:Int))) (by simp; omega);clear hR hlt9 hab hv hcy2 HV8 HTOP hz8 hq8 hE8;generalize zs.getD (i+md) 0=t at *
     obtain ⟨zs9,hzs9⟩:∃ zs9,zs.set (i+md) v=zs9:=⟨_,rfl⟩;rw [hzs9] at HR HLT9 HAB bz9 hz9;clear hzs9;go_wp2;generalize w8.setCell ⟨wD.heap.size,i+md,none⟩ (.int .u64 (v:Int))=w9 at *
     go_loopw [17,115] (fun cv iv wx=>∃ (k cc:Nat) (zl:List Nat),cv = .int .u64 cc∧iv = .int .i64 k∧k≤md∧cc≤1∧Ext wD wx∧Az .u64 wx wD.heap.size 143 wD.heap.size (n+1) (n+1) zl∧Az .u64 wx w5.heap.size 143 w5.heap.size (nq+1) (nq+1) qs∧W.bnd 18446744073709551616 zl∧Hid (W.val 18446744073709551616 zl+cc*18446744073709551616^(i+k)=W.val 18446744073709551616 zs9+1*W.val 18446744073709551616 (ds.take k)*18446744073709551616^i)∧Hid (∀ j,i+md≤j→zl.getD j 0=zs9.getD j 0)) (fun _ iv _=>md - (intOf iv).toNat)
     case atStart=>exact ⟨0,0,zs9,rfl,rfl,Nat.zero_le _,by omega,hE9,hz9,hq9,bz9,Lib.hid (by simp [W.val]),Lib.hid (fun _ _=>rfl)⟩
     case round =>
      clear hz9 hq9 bz9 hE9 hE7 hE;obtain ⟨k,cc,zl,rfl,rfl,hkm,hcc,hEx,hzl,hqx,bzl,HL,HLJ⟩:=hrel;by_cases hkl:k < md
      · obtain ⟨b7,o7,rfl,hc7⟩:=(hd.ext hEx).at (j:=k) hkl;have g1:=hc7 k hkl;have g2c:=hzl.cell (i:=i+k) (by omega);have g3:=hzl.frozen (i+k);have hxk:=W.bnd_at bzl (i:=i+k) (by rw [hzl.len]; omega);have hyk:=W.bnd_at ND.out.bnd (i:=k) (by rw [hd.len]; exact hkl);have HS:=Lib.hid (LQ (B:=18446744073709551616) (l:=zl) (xs:=ds) (k:=k) (o:=i) (w:=1) (s:=(zl.getD (i+k) 0+ds.getD k 0+cc) % 18446744073709551616) (c':=(zl.getD (i+k) 0+ds.getD k 0+cc) / 18446744073709551616) (by rw [hzl.len]; omega) (by rw [hd.len]; exact hkl) HL.out (by rw [Nat.mul_one]; exact Nat.mod_add_div _ _))
        have hadd:=BS (zl.getD (i+k) 0) (ds.getD k 0) cc hcc;have HJ2:Hid (∀ s j,i+md≤j→(zl.set (i+k) s).getD j 0=zs9.getD j 0):=by
         show ∀ s j,i+md≤j→(zl.set (i+k) s).getD j 0=zs9.getD j 0;intro s j hj;have h1:=HLJ.out j hj;have h2:¬ i+k=j:=by omega
         rw [←h1];simp [h2]
        have hik:((i:Int)+k).toNat=i+k:=by omega
        have hwik:IntKind.i64.wrap ((i:Int)+k)=(i:Int)+k:=IntWalk.i64_in _ (by omega);generalize zl.getD (i+k) 0=u at *
        generalize ds.getD k 0=dv at *
        have hs1:(u+dv+cc) % 18446744073709551616 < 18446744073709551616:=Nat.mod_lt _ (by omega);have hc1:(u+dv+cc) / 18446744073709551616≤1:=by omega
        generalize (u+dv+cc) % 18446744073709551616=s1 at *
        generalize (u+dv+cc) / 18446744073709551616=c1 at *
        have hqy:=hqx.kept (Ao wr wD.heap.size (i+k) (.int .u64 (s1:Int))) (by simp; omega);clear hc7;go_wp2;go_roundw
        case rel=>exact ⟨k+1,c1,zl.set (i+k) s1,rfl,by go_num,by omega,hc1,hEx.setCell (lrf _) _,hzl.set (i+k) s1,hqy,W.bnd_set bzl hs1,HS,Lib.hid (HJ2.out s1)⟩
        case measure=>simp [intOf]; omega
      · have ek:k=md:=by omega
        have HL2:Hid (W.val 18446744073709551616 zl+cc*18446744073709551616^(i+md)=W.val 18446744073709551616 zs9+1*D*18446744073709551616^i):=by
         show _=_;have h1:=HL.out;rw [ek,List.take_of_length_le (by rw [hd.len]; exact lrf _),ND.out.val] at h1;exact h1
        have gt1:=hzl.cell (i:=i+md) (by omega);have gt2:=hzl.frozen (i+md);have hub:=W.bnd_at bzl (i:=i+md) (by rw [hzl.len]; omega);have HVS:=Lib.hid (fun z=>W.val_set (B:=18446744073709551616) (xs:=zl) (i:=i+md) (v:=z) (by rw [hzl.len]; omega));have hAB2:=fun z=>Lf (v:=z) HLJ.out HAB.out;generalize zl.getD (i+md) 0=u at *
        obtain ⟨z,hzz⟩:∃ z,(u+cc) % 18446744073709551616=z:=⟨_,rfl⟩;have hzb:z < 18446744073709551616:=by rw [←hzz]; exact Nat.mod_lt _ (by omega)
        have h3:z+18446744073709551616*((u+cc) / 18446744073709551616)=u+cc:=by rw [←hzz]; exact Nat.mod_add_div _ _
        have hT:=RK (B:=18446744073709551616) (HVS.out z) HL2.out h3;rw [←Nat.pow_succ] at hT;have bzl2:=W.bnd_set (i:=i+md) bzl hzb;have hzl2:=hzl.set (i+md) z;have hlt2:W.val 18446744073709551616 (zl.set (i+md) z) < 18446744073709551616^(i+md+1):=M1 (by rw [hzl2.len]; omega) bzl2 (hAB2 z);have hDP:D*18446744073709551616^i < 18446744073709551616^(i+md+1):=by
         have h4:D*18446744073709551616^i < 18446744073709551616^md*18446744073709551616^i:=Nat.mul_lt_mul_of_pos_right HDM.out (Nat.pow_pos (by omega));rw [←Nat.pow_add] at h4;exact Nat.lt_of_lt_of_le h4 (Nat.pow_le_pow_right (by omega) (by omega))
        obtain ⟨_,f2,f3⟩:=RI HVW.out HLO.out HR.out HLT9.out HQ1.out HQ2.out (lrf _) hT hlt2 hDP;have HQS:=Lib.hid (Pq (qs:=qs) (i:=i) (q:=g2) (by rw [hqx.len]; omega) (HJ.out i (by omega)) rfl HV.out f2);have HQL:=Lib.hid (Pr (q:=g2) HJ.out);have HF3:=Lib.hid f3;have hw3:IntKind.u64.wrap ((u:Int)+(cc:Int))=(z:Int):=by
         have:=Hz (x:=u+cc) (M:=z) hzz;rw [Int.natCast_add] at this;exact this
        have gq1:=hqx.cell (i:=i) (by omega);have gq2:=hqx.frozen i;rw [HJ.out i (by omega)] at gq1;have hq9:=(hqx.kept (Ao wr wD.heap.size (i+md) (.int .u64 (z:Int))) (by simp; omega)).set i g2;have hz10:=hzl2.kept (Ao (wr.setCell ⟨wD.heap.size,i+md,none⟩ (.int .u64 (z:Int))) w5.heap.size i (.int .u64 (g2:Int))) (by simp; omega);have hE9:=(hEx.setCell (p:=⟨wD.heap.size,i+md,none⟩) (lrf _) (.int .u64 (z:Int))).setCell (p:=⟨w5.heap.size,i,none⟩) (by show wD.heap.size≤w5.heap.size; omega) (.int .u64 (g2:Int));have bq9:=W.bnd_set (i:=i) bq hqb
        clear hT hlt2 hDP f2 f3 h3 hzz HVS hAB2 HL HL2;go_wp2;go_roundw
        case rel=>exact ⟨i,zl.set (i+md) z,qs.set i g2,by go_num,by omega,hE9,hz10,hq9,bzl2,bq9,HQS,HQL,HF3⟩
        case measure=>simp [intOf]
end Go.Proofs.YtlpgonpfjbhmfaaGreatDoor
