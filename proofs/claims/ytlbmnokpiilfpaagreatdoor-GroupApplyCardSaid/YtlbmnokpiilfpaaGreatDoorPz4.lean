/- Part Pz4. -/
import Derived.Test.YtlbmnokpiilfpaaGreatDoorPz3
import Derived.Shelf.LaysM
import Derived.Shelf.Lays7
import Derived.Shelf.Lays
import Derived.Test.YtlbmnokpiilfpaaGreatDoorProg
import Derived.Shelf.Spec.TrailingZeros
import Derived.Shelf.Strconv.AppendInt10
import Derived.Shelf.Strconv.Itoa4
set_option linter.all false
set_option maxRecDepth 100000
set_option maxHeartbeats 100000000
namespace Go.Proofs.YtlbmnokpiilfpaaGreatDoor
open Tryz Go Go.RowKit
def oK:=@List.set_set
def oX:=@Nat.or_comm
def pJ:=@Nat.lt_of_le_of_lt
def ro:=@Nat.sub_self
def rt:=@Int.tmod_eq_emod_of_nonneg
def sR:=@Nat.gcd_dvd_right
def sZ:=@Nat.gcd_dvd_left
def sd:=@Nat.gcd_comm
def sk:=@Nat.one_mul
def tA:=@Nat.mul_pos
def tE:=@Nat.pow_zero
def tM:=@if_true
def tQ:=@Nat.mul_zero
def tR:=@Nat.le_of_dvd
def tS:=@Nat.gcd_zero_right
def tT:=@Nat.dvd_trans
def vA:=@Nat.div_div_eq_div_mul
def vL:=@Int.dvd_mul_left
def vZ:=@Int.natCast_dvd_natCast
def vk:=@Int.le_of_lt
def vr:=@Nat.le_add_right
def wB:=@Int.dvd_trans
def wD:=@Nat.gcd_rec
def wJ:=@Int.natCast_nonneg
def wM:=@Nat.lt_of_mul_lt_mul_left
def wN:=@Nat.eq_of_mul_eq_mul_left
variable {ds l ls qs xs ys zs:List Nat} {B D L M N P Q T V V' V1 V2 Wn Z c cy d d2 g i k lo lo' m n ov p r s t u v w3 x y z:Nat} {a b:Option Addr} {w:World}
theorem OV(a:k+1<l.length)(b:k<xs.length)(h:W.val B l=W.val B (xs.take k)*2^s)(h0:l.getD (k+1) 0=0)(e:xs.getD k 0*2^s=V*B+L) :
 W.val B ((l.set k (l.getD k 0+L)).set (k+1) V)=W.val B (xs.take (k+1))*2^s:=by
 have h1:=W.val_set (B:=B) (xs:=l) (i:=k) (v:=l.getD k 0+L) (by omega);have h2:=W.val_set (B:=B) (xs:=l.set k (l.getD k 0+L)) (i:=k+1) (v:=V) (by simpa using a);have h3:(l.set k (l.getD k 0+L)).getD (k+1) 0=0:=by
  simpa using h0
 rw[h3]at h2;rw[W.val_take_succ b,qJ,rT,e];rw[qB]at h2;generalize l.getD k 0=z at *
 generalize W.val B ((l.set k (z+L)).set (k+1) V)=X at *
 generalize W.val B (l.set k (z+L))=Y at *
 generalize W.val B l=Z at *
 generalize W.val B (xs.take k) * 2^s=T at *
 generalize B^k=p at *
 grind
theorem CV(a:s<=63):2^(64-s)*2^s=18446744073709551616:=by rw[<-sG,show 64-s+s=64 by omega]
theorem V3(a:s<=63)(e:lo*2^s=V*18446744073709551616+L):L%2^s=0:=by
 have h1:=CV a;have h2:2^s∣V*18446744073709551616+L:=by rw[<-e];exact tN _ _
 have h3:2^s∣V*18446744073709551616:=by rw[<-h1];exact⟨V*2^(64-s),by grind⟩
 exact Nat.mod_eq_zero_of_dvd ((oG h3).1 h2)
theorem V4(c:s<=63)(b:L%2^s=0)(a:L<18446744073709551616)(d:z<2^s):z+L<18446744073709551616:=by
 have h1:=CV c;have h2:=qM L (2^s);rw[b,qy]at h2;have h3:L/2^s<2^(64-s):=by
  rw[re (qr s),h1];exact a
 have h4:2^s*(L/2^s+1)<=2^s*2^(64-s):=qp _ h3;rw[pM (2^s) (2^(64-s)),h1,rM,sH,h2]at h4;omega
theorem Gp(Y:SlN .u64 w a n c xs)(nx:Num 18446744073709551616 xs x)(G:s<=63)(hn:n<=1000000) :
 Calls prog 312 #[.slice a n c,.int .u64 s] w (Hy .u64 18446744073709551616 w (x*2^s)):=by
 have E:=lz Y.len;have p:=lz nx;clear nx;by_cases h0:n=0\/s=0
 · have HZ:Hid (x*2^s=x):=by
    show _=_;rcases h0 with h0|h0
    · have h1:xs=[]:=pG (by rw[E.out,h0]);have h2:=p.out.val;rw[h1]at h2;simp only[W.val]at h2;rw[<-h2];simp
    · rw[h0];simp
   have o:((n:Int) == 0)=true\/(((n:Int) == 0)=false/\((s:Int) == 0)=true):=by
    by_cases h1:n=0
    · left;simp[h1]
    · right;exact⟨by simpa using h1,by simp;omega⟩
   clear h0;rcases o with hp|⟨hp,a1⟩
   all_goals
    go_enter func312,ntmps312
    go_wp2;go_ret;exact⟨a,n,c,xs,rfl,Ext.refl w,Y,⟨p.out.bnd,p.out.nrm,by rw[p.out.val,HZ.out]⟩⟩
 · have R:((n:Int) == 0)=false:=by simp;omega
   have S:((s:Int) == 0)=false:=by simp;omega
   have F:(s:Int)/64=0:=by omega
   have U:(s:Int).tdiv 64=0:=by rw[qI (by omega)];exact F
   have hr:(s:Int)%64=s:=by omega
   have X:(s:Int).tmod 64=s:=by rw[rt (by omega)];exact hr
   clear h0
   go_enter func312,ntmps312
   go_upto_region 5 with(at_make;refine C6 (n:=n+1) rfl rfl underlying81 AK rfl rfl rfl (by omega) (by unfold maxLen;omega) ?_;intro w1 A r)
   clear F U hr X R S;go_wp2
   go_loopw[31] (fun iv wr=>∃ (k:Nat) (b:List Nat),iv = .int .i64 k/\k<=n/\Ext w wr/\Az .u64 wr w.heap.size 238 w.heap.size (n+1) (n+1) b/\W.bnd 18446744073709551616 b/\Hid (W.val 18446744073709551616 b=W.val 18446744073709551616 (xs.take k)*2^s)/\Hid (∀ j,k<j->b.getD j 0=0)/\Hid (b.getD k 0<2^s)) (fun iv _=>n-(intOf iv).toNat)
   case atStart=>exact⟨0,List.replicate (n+1) 0,rfl,pE _,r,Az.of_zeros A,fun z d=>by rw[(qS.1 d).2];omega,lz (by rw[W.val_zeros];simp[W.val]),lz (fun j _=>FR _ j),lz (by rw[FR];exact qr s)⟩
   case round =>
    clear A r;obtain⟨k,b,rfl,hk,O,d,N,HV,I,HP⟩:=hrel;by_cases f:k<n
    · obtain⟨b1,o1,rfl,D⟩:=(Y.ext O).at (j:=k) f;have g1:=D k f;have g2:=d.cell (i:=k) (by omega);have g3:=d.frozen k;have g4:=d.frozen (k+1);have g5:=d.cell (i:=k+1) (by omega);rw[I.out (k+1) (by omega)]at g5;have Z:=W.bnd_at p.out.bnd (i:=k) (by rw[E.out];exact f);obtain⟨L,V,m,t,C,P,y⟩:=Mk G Z;have g:=V3 G m;have HS:=lz (OV (B:=18446744073709551616) (l:=b) (xs:=xs) (k:=k) (s:=s) (L:=L) (V:=V) (by rw[d.len];omega) (by rw[E.out];exact f) HV.out (I.out _ (by omega)) m)
      have a0:b.getD k 0<18446744073709551616:=W.bnd_at N (i:=k) (by rw[d.len];omega);have T:=V4 G g t HP.out;have J:Hid (∀ v j,k+1<j->((b.set k v).set (k+1) V).getD j 0=0):=by
       show ∀ v j,k+1<j->((b.set k v).set (k+1) V).getD j 0=0;intro v j hj;have h0:=I.out j (by omega);have h1:¬ k=j:=by omega
       have h2:¬ k+1=j:=by omega
       simpa[h1,h2]using h0
      have K:Hid (∀ v,((b.set k v).set (k+1) V).getD (k+1) 0<2^s):=by
       show ∀ v,((b.set k v).set (k+1) V).getD (k+1) 0<2^s;intro v;have h1:k+1<b.length:=by rw[d.len];omega
       have h2:((b.set k v).set (k+1) V).getD (k+1) 0=V:=by simp[h1]
       rw[h2];exact P
      have e5:bits BinOp.or IntKind.u64 ((b.getD k 0:Nat):Int) (L:Int)=((b.getD k 0+L:Nat):Int):=by
       rw[wQ _ L a0 t,oX,oR s L (b.getD k 0) g HP.out,rO]
      generalize a2:b.getD k 0+L=H at *
      generalize b.getD k 0=z at *
      have e6:IntKind.u64.wrap (((xs.getD k 0:Nat):Int)*2^s)=(L:Int):=by
       have:=Hi (x:=xs.getD k 0*2^s) (M:=L) y.symm;push_cast at this;exact this
      have e7:((xs.getD k 0:Nat):Int)/2^(64-s)=(V:Int):=by rw[C];push_cast;rfl
      clear m y C;generalize xs.getD k 0=u at *
      have Q:V<18446744073709551616:=by
       have:=pR (n:=2) (by omega) (show s<=63 from G);omega
      clear D;go_wp2;go_roundw
      case rel=>exact⟨k+1,(b.set k H).set (k+1) V,by go_num,by omega,(O.setCell (lrf _) _).setCell (lrf _) _,(d.set k H).set (k+1) V,W.bnd_set (W.bnd_set N T) Q,HS,lz (J.out H),lz (K.out H)⟩
      case measure=>simp[intOf];omega
    · have ek:k=n:=by omega
      have hv:W.val 18446744073709551616 b=x*2^s:=by
       have h1:=HV.out;rw[ek,pu (by rw[E.out];exact lrf _),p.out.val]at h1;exact h1
      go_wp2_with fail
      refine(Bq d.sl).mono ?_;rintro e w4 ⟨q,rfl,rfl,F,ht⟩;obtain⟨t1,t2⟩:=BE d.sl F ht N hv;go_wp2;go_ret;exact⟨_,q,_,_,rfl,O,t1,t2⟩
theorem V5(a:s<=63):2^s*(x*2^(64-s)%18446744073709551616)=18446744073709551616*(x%2^s)/\x*2^(64-s)%18446744073709551616%2^(64-s)=0:=by
 have h1:=CV a;have h2:x*2^(64-s)%18446744073709551616=x%2^s*2^(64-s):=by
  rw[<-h1,pM (2^(64-s)) (2^s),Nat.mul_mod_mul_right]
 rw[h2];refine⟨?_,wW _ _⟩;rw[<-h1];generalize 2^(64-s)=p;generalize 2^s=q
 grind
theorem Xy(a:s<=63)(b:x<18446744073709551616):x/2^s<2^(64-s):=by
 rw[re (qr s),CV a];exact b
theorem Nm(a:x<18446744073709551616)(b:y<18446744073709551616):x ||| y<18446744073709551616:=Nat.or_lt_two_pow (n:=64) a b
theorem OW(a:s<=63)(b:x<18446744073709551616):∃ z:Nat,z<18446744073709551616/\x/2^s ||| (y*2^(64-s)%18446744073709551616)=z/\2^s*z+x%2^s=x+18446744073709551616*(y%2^s):=by
 obtain⟨h1,h2⟩:=V5 (x:=y) a;have h3:=Xy a b;have h4:=oR (64-s) (y*2^(64-s)%18446744073709551616) (x/2^s) h2 h3;refine⟨x/2^s ||| (y*2^(64-s)%18446744073709551616),Nm ?_ (qf _ (by omega)),rfl,?_⟩
 · have:=qE x (2^s);omega
 · rw[oX,h4,rM,h1];have:=qM x (2^s);generalize 2^s * (x/2^s)=p at *
   omega
theorem Hj(c:k<l.length)(d:k<xs.length)(h:2^s*W.val B (l.take k)+V=W.val B (xs.take k)+B^k*(xs.getD k 0%2^s))(e:2^s*z+xs.getD k 0%2^s=xs.getD k 0+B*(xs.getD (k+1) 0%2^s)) :
 2^s*W.val B ((l.set k z).take (k+1))+V=W.val B (xs.take (k+1))+B^(k+1)*(xs.getD (k+1) 0%2^s):=by
 have h1:=W.val_take_succ (B:=B) (xs:=l.set k z) (i:=k) (by simpa using c);have h2:(l.set k z).getD k 0=z:=by simp[c]
 have h3:(l.set k z).take k=l.take k:=by rw[List.take_set,List.set_eq_of_length_le (by simp;omega)]
 rw[h2,h3]at h1;rw[h1,W.val_take_succ d,qB];generalize xs.getD (k+1) 0%2^s=b at *
 generalize xs.getD k 0%2^s=a at *
 generalize xs.getD k 0=u at *
 generalize W.val B (l.take k)=A at *
 generalize W.val B (xs.take k)=X at *
 generalize B^k=p at *
 generalize 2^s=q at *
 grind
theorem CQ(hx:SlN .u64 w a n c xs)(nx:Num 18446744073709551616 xs x)(hs:s<=63)(hn:n<=1000000) :
 Calls prog 317 #[.slice a n c,.int .u64 s] w (Un .u64 18446744073709551616 w (fun _=>False) (x/2^s)):=by
 have r:=lz hx.len;have Q:=lz nx;clear nx;have O:(s:Int)/64=0:=by omega
 have Y:(s:Int).tdiv 64=0:=by rw[qI (by omega)];exact O
 have hr:(s:Int)%64=s:=by omega
 have Z:(s:Int).tmod 64=s:=by rw[rt (by omega)];exact hr
 by_cases h0:n=0
 · have HZ:Hid (x/2^s=0):=by
    show _=_;have h1:xs=[]:=pG (by rw[r.out,h0]);have h2:=Q.out.val;rw[h1]at h2;simp only[W.val]at h2;rw[<-h2];simp
   subst h0
   go_enter func317,ntmps317
   go_wp2;go_ret;exact⟨none,0,0,[],rfl,Ext.refl w,SlN.nil _ _,by rw[HZ.out];exact Num.nil _,fun _ h=>by cases h⟩
 · have X:(0:Int)<(n:Int):=by omega
   clear h0
   go_enter func317,ntmps317
   go_upto_region 5 with(at_make;refine C6 (n:=n) rfl rfl underlying81 AK rfl rfl rfl (by omega) (by unfold maxLen;omega) ?_;intro w1 F E)
   clear O Y hr Z X;go_wp2
   go_loopw[27] (fun iv wr=>∃ (k:Nat) (m:List Nat),iv = .int .i64 k/\k<=n/\Ext w wr/\Az .u64 wr w.heap.size 238 w.heap.size n n m/\W.bnd 18446744073709551616 m/\Hid (2^s*W.val 18446744073709551616 (m.take k)+xs.getD 0 0%2^s=W.val 18446744073709551616 (xs.take k)+18446744073709551616^k*(xs.getD k 0%2^s))) (fun iv _=>n-(intOf iv).toNat)
   case atStart=>exact⟨0,List.replicate n 0,rfl,pE _,E,Az.of_zeros F,fun z d=>by rw[(qS.1 d).2];omega,lz (by simp[W.val])⟩
   case round =>
    clear F E;obtain⟨k,m,rfl,hk,J,d,R,C⟩:=hrel;by_cases b:k<n
    · obtain⟨b1,o1,rfl,o⟩:=(hx.ext J).at (j:=k) b;have g1:=o k b;have g2:=d.cell (i:=k) b;have g3:=d.frozen k;have G:=W.bnd_at Q.out.bnd (i:=k) (by rw[r.out];exact b);by_cases t:k+1<n
      · have g4:=o (k+1) t;have a1:b1≠w.heap.size:=by have:=hx.fresh (lrf _) (by omega);simpa[blk]using this
        obtain⟨f,v,A,D⟩:=OW (y:=xs.getD (k+1) 0) hs G;have P:=lz (Hj (B:=18446744073709551616) (l:=m) (xs:=xs) (k:=k) (s:=s) (z:=f) (by rw[d.len];omega) (by rw[r.out];exact b) C.out D);obtain⟨L,K⟩:∃ L,xs.getD (k+1) 0*2^(64-s)%18446744073709551616=L:=⟨_,rfl⟩;obtain⟨V,N⟩:∃ V,xs.getD k 0/2^s=V:=⟨_,rfl⟩;have T:L<18446744073709551616:=by rw[<-K];exact qf _ (by omega)
        have U:V<18446744073709551616:=by rw[<-N];have:=qE (xs.getD k 0) (2^s);omega
        rw[K,N]at A;have f5:bits BinOp.or IntKind.u64 (V:Int) (L:Int)=(f:Int):=by rw[wQ V L U T,A]
        have f6:IntKind.u64.wrap (((xs.getD (k+1) 0:Nat):Int)*2^(64-s))=(L:Int):=by
         have:=Hi (x:=xs.getD (k+1) 0*2^(64-s)) (M:=L) K;push_cast at this;exact this
        have f7:((xs.getD k 0:Nat):Int)/2^s=(V:Int):=by rw[<-N];push_cast;rfl
        clear K N A D C;generalize a0:xs.getD (k+1) 0=y at *
        generalize xs.getD k 0=u at *
        generalize m.getD k 0=z at *
        clear o;go_wp2;have S:=((J.setCell (p:=⟨w.heap.size,k,none⟩) (lrf _) (.int .u64 (V:Int))).setCell (p:=⟨w.heap.size,k,none⟩) (lrf _) (.int .u64 (f:Int))).drewN 1;have I:=((d.set k V).set k f).drewN 1;rw[oK]at I
        go_region
        go_wp2;go_roundw
        case rel=>exact⟨k+1,m.set k f,by go_num,by omega,S,I,W.bnd_set R v,by rw[a0];exact P⟩
        case measure=>simp[intOf];omega
      · have H:xs.getD (k+1) 0=0:=by
         rw[gqq,pV (by rw[r.out];omega)];rfl
        obtain⟨f,v,A,D⟩:=OW (y:=0) hs G;have P:=lz (Hj (B:=18446744073709551616) (l:=m) (xs:=xs) (k:=k) (s:=s) (z:=f) (by rw[d.len];omega) (by rw[r.out];exact b) C.out (by rw[H];exact D));have e7:xs.getD k 0/2^s=f:=by rw[<-A];simp
        have f7:((xs.getD k 0:Nat):Int)/2^s=(f:Int):=by rw[<-e7];push_cast;rfl
        clear A D e7 C H;generalize xs.getD k 0=u at *
        generalize m.getD k 0=z at *
        clear o;go_wp2;go_roundw
        case rel=>exact⟨k+1,m.set k f,by go_num,by omega,J.setCell (lrf _) _,d.set k f,W.bnd_set R v,P⟩
        case measure=>simp[intOf];omega
    · have ek:k=n:=by omega
      have hv:W.val 18446744073709551616 m=x/2^s:=by
       have h1:=C.out;have h2:xs.getD n 0=0:=by
        rw[gqq,pV (by rw[r.out];omega)];rfl
       rw[ek,pu (by rw[d.len];exact lrf _),pu (by rw[r.out];exact lrf _),Q.out.val,h2,Nat.zero_mod,tQ,qy]at h1;rw[<-h1,tH (qr s),rH (qf _ (qr s)),qy]
      go_wp2_with fail
      refine(Bq d.sl).mono ?_;rintro e w4 ⟨q,rfl,rfl,O,ht⟩;obtain⟨t1,t2⟩:=BE d.sl O ht R hv;go_wp2;go_ret;exact⟨_,q,_,_,rfl,J,t1,t2,fun g h=>Or.inl (by cases h;exact lrf _)⟩
theorem Lt{hi q:Nat}(m:y<18446744073709551616)(a:lo<18446744073709551616)(k:hi<y)(l:r<y)(h:hi*18446744073709551616+lo=q*y+r) :
 Calls prog 293 #[.int .u64 hi,.int .u64 lo,.int .u64 y] w fun e f=>e = .returned (.tuple #[.int .u64 (q:Int),.int .u64 (r:Int)])/\Qt w f:=by
 refine(Fk m a k).mono ?_;rintro e f ⟨c,d,rfl,_,b,h2,j⟩;rw[h]at h2;have g:r=d:=by
  have:(q*y+r)%y=(c*y+d)%y:=by rw[h2]
  rw[pM,v8,rG l,pM,v8,rG b]at this;exact this
 subst g;have i:q=c:=vH (show 0<y by omega) (by omega);subst i;exact⟨rfl,j⟩
theorem Ut{b y1 y0 U:Nat}(a:g*y1+r=U)(c:g*y0<=b*r+u):g*(y1*b+y0)<=U*b+u:=by
 have h2:g*(y1*b+y0)=g*y1*b+g*y0:=by grind
 have h3:U*b=g*y1*b+r*b:=by rw[<-a];grind
 have h4:b*r=r*b:=pM _ _;omega
theorem SK{W q f t1 t0:Nat}(j:W=w3*P+lo)(i:D=d2*P+lo')(e:lo' < P)(c:w3=(f*B+t1)*B+t0)(a:d2=f*B+s)(g:s<B)(d:B<=2*f)(l:W<(q+1)*D):B<=q+2:=by
 refine pQ fun k => ?_;have b:q+1+2<=B:=by omega
 have h1:(q+1)*D<=(q+1)*(d2*P+P):=qp _ (by omega);have h2:(q+1)*(d2*P+P)=(q+1)*(d2+1)*P:=by grind
 have h3:w3*P<(q+1)*(d2+1)*P:=by omega
 have h4:w3<(q+1)*(d2+1):=rQ h3;have h5:(q+1)*(d2+1)+2*(d2+1)<=B*(d2+1):=by
  rw[<-qJ];exact px _ b
 have h6:B*(d2+1)=f*B*B+s*B+B:=by rw[a];grind
 have h7:w3=f*B*B+t1*B+t0:=by rw[c];grind
 have h8:s*B+B<=B*B:=by
  have:=px B (show s+1<=B from g);rw[qJ]at this;omega
 have h9:B*B<=2*f*B:=px _ d;have h10:2*(d2+1)=2*f*B+2*s+2:=by rw[a];grind
 omega
theorem V6(_ht:t<18446744073709551616)(h:p/18446744073709551616<r\/(p/18446744073709551616=r/\p%18446744073709551616<=t)):p<=18446744073709551616*r+t:=by omega
theorem V7(_ht:t<18446744073709551616)(h:r<p/18446744073709551616\/(p/18446744073709551616=r/\t<p%18446744073709551616)):18446744073709551616*r+t<p:=by omega
theorem Nn{q:Nat}(hl:SlN .u64 w a (n+1) c ls)(hd:SlN .u64 w b n d ds)(bl:W.bnd 18446744073709551616 ls)(bd:W.bnd 18446744073709551616 ds)(h2:n=m+2)(hn:n<=1000000)(hf:9223372036854775808<=ds.getD (m+1) 0)
 (G:w3=(ls.getD (m+2) 0*18446744073709551616+ls.getD (m+1) 0)*18446744073709551616+ls.getD m 0) (z:d2=ds.getD (m+1) 0*18446744073709551616+ds.getD m 0)
 (hW:W.val 18446744073709551616 ls=w3*P+lo) (hD:W.val 18446744073709551616 ds=d2*P+lo') (a9:lo<P) (D:lo' < P) (aa:q*W.val 18446744073709551616 ds<=W.val 18446744073709551616 ls) (I:W.val 18446744073709551616 ls<(q+1)*W.val 18446744073709551616 ds) (ab:q<18446744073709551616) :
 Calls prog 319 #[.slice a (n+1) c,.slice b n d] w fun e w'=>∃ g:Nat,e = .returned (.int .u64 (g:Int))/\q<=g/\g<=q+1/\g<18446744073709551616/\Qt w w':=by
 subst h2;have k1:=W.digit_hi hW a9 hD aa;have aj:=W.bnd_at bd (i:=m+1) (by rw[hd.len];omega);have ad:=W.bnd_at bd (i:=m) (by rw[hd.len];omega);have ay:=W.bnd_at bl (i:=m+2) (by rw[hl.len];omega);have ak:=W.bnd_at bl (i:=m+1) (by rw[hl.len];omega);have T:=W.bnd_at bl (i:=m) (by rw[hl.len];omega);obtain⟨b1,o1,rfl,H⟩:=hl.at (j:=0) (by omega);obtain⟨b2,o2,rfl,N⟩:=hd.at (j:=0) (by omega);have g0:=H m (by omega);have g1:=H (m+1) (by omega);have o:=H (m+2) (by omega);have g3:=N (m+1) (by omega);have g4:=N m (by omega);have k2:18446744073709551616<=d2:=by
  rw[z];have h1:1*18446744073709551616<=ds.getD (m+1) 0*18446744073709551616:=px _ (by omega);rw[sk]at h1;exact pD h1 (vr _ _)
 have J:Hid (ls.getD (m+2) 0=ds.getD (m+1) 0->18446744073709551616<=q+2):=by
  show _->_;intro he;exact SK (B:=18446744073709551616) hW hD D (by rw[G,he]) z ad (by omega) I
 have a1:Hid (∀ e,e*d2<=w3->e<=q+1):=by
  show ∀ e,e*d2<=w3->e<=q+1;intro e he;exact W.digit_lo (by omega) hW hD D I he (by omega)
 have a0:Hid (ls.getD (m+2) 0<=ds.getD (m+1) 0):=by
  show _<=_;refine pQ fun hc => ?_;have h1:W.val 18446744073709551616 ls<18446744073709551616*W.val 18446744073709551616 ds:=pS I (px _ ab);have h3:18446744073709551616*W.val 18446744073709551616 ds<18446744073709551616*((d2+1)*P):=Nat.mul_lt_mul_of_pos_left (by rw[hD];grind) (by omega);have h4:w3*P<18446744073709551616*((d2+1)*P):=by omega
  have h5:18446744073709551616*((d2+1)*P)=(18446744073709551616*(d2+1))*P:=by grind
  rw[h5]at h4;have h6:=rQ h4;rw[G,z]at h6;generalize ls.getD (m+2) 0=k at *
  generalize ls.getD (m+1) 0=p at *
  generalize ls.getD m 0=v at *
  generalize ds.getD (m+1) 0=f at *
  generalize ds.getD m 0=s at *
  have h7:(f+1)*18446744073709551616*18446744073709551616<=k*18446744073709551616*18446744073709551616:=px _ (px _ (by omega));omega
 clear hW hD aa I a9 D H N bl bd hl hd;generalize ls.getD (m+2) 0=k at *
 generalize ls.getD (m+1) 0=p at *
 generalize ls.getD m 0=v at *
 generalize ds.getD (m+1) 0=f at *
 generalize ds.getD m 0=s at *
 have b0:IntKind.i64.wrap ((m:Int)+2)=(m:Int)+2:=pq _ (by omega);have ap:IntKind.i64.wrap ((m:Int)+2-1)=(m:Int)+1:=by rw[show(m:Int)+2-1=(m:Int)+1 by omega];exact pq _ (by omega)
 have aq:IntKind.i64.wrap ((m:Int)+2-2)=(m:Int):=by rw[show(m:Int)+2-2=(m:Int) by omega];exact pq _ (by omega)
 have ag:=a0.out;by_cases ht:k<f
 · -- the guess by the first words
   obtain⟨V,O⟩:∃ V,(k*18446744073709551616+p)/f=V:=⟨_,rfl⟩;obtain⟨Z,R⟩:∃ Z,(k*18446744073709551616+p)%f=Z:=⟨_,rfl⟩;have he:k*18446744073709551616+p=V*f+Z:=by
    have:=qM (k*18446744073709551616+p) f;rw[O,R,pM]at this;exact this.symm
   have S:Z<f:=by rw[<-R];exact qf _ (by omega)
   have C:V<18446744073709551616:=by
    rw[<-O,re (by omega)];have:(k+1)*18446744073709551616<=f*18446744073709551616:=px _ ht;rw[pM 18446744073709551616 f];omega
   have a8:=fun wx:World=>Lt (w:=wx) aj ak ht S he;have K:=lz he.symm;have M:Hid (q*(f*18446744073709551616+s)<=(k*18446744073709551616+p)*18446744073709551616+v):=by show _<=_;rw[<-G,<-z];exact k1
   have HQ:=lz (W.guess_hi (b:=18446744073709551616) (y1:=f) (y0:=s) (U:=k*18446744073709551616+p) (u:=v) (q:=q) (g:=V) (r:=Z) K.out M.out T S);have ah:Hid (∀ g r,g*f+r=k*18446744073709551616+p->18446744073709551616*r+v<g*s->q<g):=by
    show ∀ g r,g*f+r=k*18446744073709551616+p->18446744073709551616*r+v<g*s->q<g;exact fun g r h1 h2=>W.guess_down (b:=18446744073709551616) (y1:=f) (y0:=s) (U:=k*18446744073709551616+p) (u:=v) (q:=q) (g:=g) (r:=r) h1 M.out ab (Or.inr h2)
   have a2:Hid (∀ g r,g*f+r=k*18446744073709551616+p->g*s<=18446744073709551616*r+v->g<=q+1):=by
    show ∀ g r,g*f+r=k*18446744073709551616+p->g*s<=18446744073709551616*r+v->g<=q+1;intro g r h1 h2;refine a1.out g ?_;rw[G,z];exact Ut h1 h2
   clear O R he M a1 J a0 ag G z k1 k2
   go_enter func319,ntmps319
   go_wp2
   go_quiet (fail)
   have a4:(w.drewN nq).cell? ⟨b1,o1+m,none⟩=some (.int .u64 (v:Int)):=g0;have ai:(w.drewN nq).cell? ⟨b1,o1+(m+1),none⟩=some (.int .u64 (p:Int)):=g1;have a5:(w.drewN nq).cell? ⟨b1,o1+(m+2),none⟩=some (.int .u64 (k:Int)):=o;have a6:Qt w (w.drewN nq):=(Qt.refl w).drewN _;generalize w.drewN nq=w2 at *
   clear g0 g1 o g3 g4
   go_wp2_with fail
   go_quiet ((exact sV (a8 _)))
   have g0:(w2.drewN nq).cell? ⟨b1,o1+m,none⟩=some (.int .u64 (v:Int)):=a4;have a7:Qt w (w2.drewN nq):=a6.drewN _;generalize w2.drewN nq=w3 at *
   clear a4 ai a5 a6 a8;go_wp2;rw[show decide (f<=k)=false by simp;omega]
   go_loopw[8,9] (fun gv rv wr=>∃ g r:Nat,gv = .int .u64 (g:Int)/\rv = .int .u64 (r:Int)/\Hid (g*f+r=k*18446744073709551616+p)/\Hid (q<=g)/\g<18446744073709551616/\r<18446744073709551616/\wr=w3) (fun gv _ _=>(intOf gv).toNat)
   case atStart=>exact⟨V,Z,rfl,rfl,K,HQ,C,by omega,rfl⟩
   case round =>
    clear K HQ C S;obtain⟨g,r,rfl,rfl,K,HQ,C,ax,rfl⟩:=hrel;have t:=Jw (x:=g) (y:=s) C ad;obtain⟨A,E⟩:∃ A,g*s/18446744073709551616=A:=⟨_,rfl⟩;obtain⟨X,F⟩:∃ X,g*s%18446744073709551616=X:=⟨_,rfl⟩;rw[E,F]at t;by_cases hc:A<r\/(A=r/\X<=v)
    · have HF:Hid (g<=q+1):=a2.out g r K.out (V6 T (by rw[E,F];exact hc));have l:(A:Int)<r\/((r:Int)<=(A:Int)/\((A:Int) == (r:Int))=true/\(X:Int)<=v):=by
       rcases hc with h|⟨h1,h2⟩
       · left;omega
       · right;exact⟨by omega,by simp;omega,by omega⟩
      clear hc E F;rcases l with h1|⟨h1,h2,h3⟩
      all_goals
       go_wp2_with(go_at_call 301;refine(t _).mono ?_;rintro e w1 ⟨rfl,rfl⟩)
       go_ret;exact⟨g,rfl,HQ.out,HF.out,C,a7⟩
    · have hp:r<A\/(A=r/\v<X):=by omega
      have HD:=lz (ah.out g r K.out (V7 T (by rw[E,F];exact hp)));obtain⟨o,rfl⟩:∃ o,g=o+1:=⟨g-1,by have:=HD.out;omega⟩;have aA:IntKind.u64.wrap ((o:Int)+1-1)=o:=Au (by omega) (by omega);have L:Hid (o*f+(r+f)=k*18446744073709551616+p):=by
       have h1:=K.out;show _=_;rw[<-h1]
       grind
      have ao:IntKind.u64.wrap (o:Int)=o:=Au (by omega) (by omega);have a3:Hid (q<=o):=by have:=HD.out;show _<=_;omega
      have l:((r:Int)<=(A:Int)/\((A:Int) == (r:Int))=false)\/((r:Int)<=(A:Int)/\((A:Int) == (r:Int))=true/\(v:Int)<X):=by
       rcases hp with h|⟨h1,h2⟩
       · left;exact⟨by omega,by simp;omega⟩
       · right;exact⟨by omega,by simp;omega,by omega⟩
      clear hc hp E F;by_cases Q:r+f<18446744073709551616
      · obtain⟨Y,ac⟩:∃ Y,r+f=Y:=⟨_,rfl⟩;rw[ac]at L Q;have al:IntKind.u64.wrap ((r:Int)+(f:Int))=(Y:Int):=Au (by omega) Q;have ar:(f:Int)<=(Y:Int):=by omega
        clear ac;rcases l with⟨h1,h2⟩|⟨h1,h2,h3⟩
        all_goals
         go_wp2_with(go_at_call 301;refine(t _).mono ?_;rintro e w1 ⟨rfl,rfl⟩)
         go_roundw
         case rel=>exact⟨o,Y,by go_num,rfl,L,a3,by omega,Q,trivial⟩
         case measure=>simp[intOf]
      · have HF:Hid (o<=q+1):=a2.out o (r+f) L.out (by
         have h1:o*s<=18446744073709551616*s:=px _ (by omega);have h2:18446744073709551616*s<=18446744073709551616*(r+f):=qp _ (by omega)
         omega)
        have al:IntKind.u64.wrap ((r:Int)+(f:Int))=((r+f-18446744073709551616:Nat):Int):=by
         rw[rz];omega
        have av:((r+f-18446744073709551616:Nat):Int)<f:=by omega
        generalize r+f-18446744073709551616=Y at *
        rcases l with⟨h1,h2⟩|⟨h1,h2,h3⟩
        all_goals
         go_wp2_with(go_at_call 301;refine(t _).mono ?_;rintro e w1 ⟨rfl,rfl⟩)
         go_ret;exact⟨o,rfl,a3.out,HF.out,by omega,a7⟩
 · have he:k=f:=by omega
   have hB:=J.out he;subst he
   go_enter func319,ntmps319
   go_wp2
   go_quiet (fail)
   have a5:(w.drewN nq).cell? ⟨b1,o1+(m+2),none⟩=some (.int .u64 (k:Int)):=o;have hQ:Qt w (w.drewN nq):=(Qt.refl w).drewN _;generalize w.drewN nq=w2 at *
   go_wp2;go_ret;exact⟨18446744073709551615,rfl,by omega,by omega,by omega,hQ⟩
theorem Fl(b:0<B){l:List Nat}{p j:Nat}(h:W.val B l<B^p)(c:p<=j):l.getD j 0=0:=by
 refine pQ fun a => ?_;have d:j<l.length:=by
  refine pQ fun e=>a ?_;rw[gqq,pV (by omega)];rfl
 have h1:=W.val_split (B:=B) l j (by omega);rw[Dq d]at h1;simp only[W.val]at h1;generalize l.getD j 0=x at *
 have h2:B^j*1<=B^j*(x+B*W.val B (l.drop (j+1))):=qp _ (by omega);have h3:B^p<=B^j:=pR b c;omega
theorem OX{B:Nat}:∀ {l:List Nat},(∀ j,l.getD j 0=0)->W.val B l=0
 | [],_=>rfl
 | x :: l,h=>by
  have h0:=h 0;simp at h0;have h1:W.val B l=0:=OX fun j=>by have:=h (j+1);simpa using this
  simp[W.val,h0,h1]
theorem Mp(l:List Nat)(p j:Nat):(l.drop p).getD j 0=l.getD (p+j) 0:=by
 simp[se]
theorem Iu(hp:p<=l.length)(h:∀ j,p<=j->l.getD j 0=0):W.val B l=W.val B (l.take p):=by
 rw[W.val_split (B:=B) l p hp,OX (l:=l.drop p),tQ,qy];intro j;rw[Mp];exact h _ (by omega)
theorem Hk(hp:p<=l.length)(a:W.bnd B l)(h:∀ j,p<=j->l.getD j 0=0):W.val B l<B^p:=by
 rw[Iu hp h];have:=W.val_lt (W.bnd_take a p);rw[qg,rA hp]at this;exact this
theorem Qn(a:0<B){l:List Nat}{i m:Nat}(c:i+m<=l.length)(h:W.val B l<B^(i+m)):W.val B l=W.val B (l.take i)+B^i*W.val B ((l.drop i).take m):=by
 rw[W.val_split (B:=B) l i (by omega)];congr 2;refine Iu (by simp;omega) fun j b => ?_;rw[Mp];exact Fl a h (by omega)
theorem FU{j:Nat}(a:j<m):((l.drop i).take m).getD j 0=l.getD (i+j) 0:=by
 simp[se,a]
theorem Hl(a:l.length=m+2):W.val B l=(l.getD (m+1) 0*B+l.getD m 0)*B^m+W.val B (l.take m):=by
 rw[W.val_split (B:=B) l m (by omega),Dq (by omega),Dq (xs:=l) (k:=m+1) (by omega),qm (by omega)];simp only[W.val]
 grind
theorem OY(a:l.length=m+3):W.val B l=((l.getD (m+2) 0*B+l.getD (m+1) 0)*B+l.getD m 0)*B^m+W.val B (l.take m):=by
 rw[W.val_split (B:=B) l m (by omega),Dq (by omega),Dq (xs:=l) (k:=m+1) (by omega),Dq (xs:=l) (k:=m+1+1) (by omega),qm (by omega)];simp only[W.val]
 grind
theorem Ck(a:W.bnd B l){m:Nat}(b:m<=l.length):W.val B (l.take m)<B^m:=by
 have:=W.val_lt (W.bnd_take a m);rw[qg,rA b]at this;exact this
theorem Mq{q:Nat}(f:V=lo+P*Wn)(d:lo<P)(h1:V'+g*D*P=V)(b:Wn<(q+1)*D)(c:q<=g):g=q/\V' < P*D:=by
 have h2:g*D*P<P*(Wn+1):=by rw[rM,sH];omega
 have h3:g*D<Wn+1:=by
  rw[pM]at h2;exact wM h2
 have h4:g<q+1:=rQ (a:=D) (by omega);have e:g=q:=by omega
 refine⟨e,?_⟩;subst e;have h5:P*(Wn+1)<=P*((g+1)*D):=qp _ b;have h6:P*((g+1)*D)=g*D*P+P*D:=by grind
 rw[rM,sH]at h5;omega
theorem OZ{q:Nat}(j:V=lo+P*Wn)(i:lo<P)(h1:V1+g*D*P=V+T)(k:V1<T)(a:q*D<=Wn)(b:Wn<(q+1)*D)(m:g<=q+1)(h2:V2+ov*T=V1+D*P)(f:V2<T)(d:D*P<T):g=q+1/\V2+q*D*P=V/\V2<P*D:=by
 have h3:V<g*D*P:=by omega
 have h4:P*Wn<P*(g*D):=by rw[pM P (g*D)];omega
 have h5:Wn<g*D:=wM h4;have h6:q<g:=by
  refine pQ fun l => ?_;have:g*D<=q*D:=px _ (by omega);omega
 have e:g=q+1:=by omega
 subst e;have h7:(q+1)*D*P=q*D*P+D*P:=by grind
 have h9:q*D*P<=V:=by
  have:q*D*P<=Wn*P:=px _ a;rw[pM Wn P]at this;omega
 have h8:ov=1:=by
  have h10:V1+D*P=(V-q*D*P)+T:=by omega
  rcases qx ov 1 with h|h
  · have:ov=0:=by omega
    subst this;omega
  · rcases qx 1 ov with c | c
    · exfalso;have h11:2*T<=ov*T:=px _ c;omega
    · omega
 subst h8;rw[sk]at h2;have h10:V2+q*D*P=V:=by omega
 refine⟨rfl,h10,?_⟩;have h5:P*(Wn+1)<=P*((q+1)*D):=qp _ b;have h6:P*((q+1)*D)=q*D*P+P*D:=by grind
 rw[rM,sH]at h5;omega
def O0(k:IntKind)(B:Nat)(w:World)(q r:Nat)(e:Ending)(w':World):Prop:=∃ a n c xs a' n' c' ys,e = .returned (.tuple #[.slice a n c,.slice a' n' c'])/\Ext w w'/\SlN k w' a n c xs/\Num B xs q/\SlN k w' a' n' c' ys/\Num B ys r/\Hg w.heap.size (fun _=>False) a n
def Cv(ax:Option Addr)(k:IntKind)(B:Nat)(w:World)(q r:Nat)(e:Ending)(w':World):Prop:=∃ a n c xs a' n' c' ys,e = .returned (.tuple #[.slice a n c,.slice a' n' c'])/\Ext w w'/\SlN k w' a n c xs/\Num B xs q/\SlN k w' a' n' c' ys/\Num B ys r/\Hg w.heap.size (fun _=>False) a n/\Hg w.heap.size (fun g=>blk ax=some g) a' n'
theorem Cv.q{f:Option Addr}{k:IntKind}{B:Nat}{w b:World}{q r:Nat}{e:Ending}(h:Cv f k B w q r e b):O0 k B w q r e b:=by
 obtain⟨a,n,c,j,d,i,g,l,h1,h2,h3,h4,h5,h6,h7,_⟩:=h;exact⟨a,n,c,j,d,i,g,l,h1,h2,h3,h4,h5,h6,h7⟩
theorem Dw:AZ (x:Int) (y:Int)<0<->x<y:=by
 unfold AZ;split
 · constructor <;> intro _ <;> omega
 · split
   · constructor <;> intro _ <;> omega
   · constructor <;> intro _ <;> omega
theorem Fm(p:SlN .u64 w a n c xs)(t:SlN .u64 w b m d ys)(j:Num 18446744073709551616 xs x)(q:Num 18446744073709551616 ys y)(f:x<y) :
 Calls prog 289 #[.slice a n c,.slice b m d] w (Cv a .u64 18446744073709551616 w (x/y) (x%y)):=by
 have k:Hid (AZ (x:Int) (y:Int)<0):=lz (Dw.2 f);have i:=fun v:World=>fun(h1:Ext w v)=>Bl (p.ext h1) (t.ext h1) j q;have r:=lz j;have l:=lz f;clear j q f
 go_enter func289,ntmps289
 go_wp2_with fail
 refine(i _ (Ext.refl w)).mono ?_;rintro e B ⟨rfl,o⟩;have A:=k.out;generalize AZ (x:Int) (y:Int)=z at *
 clear k;go_wp2
 go_ret2
 refine⟨none,0,0,[],a,n,c,xs,rfl,o.ext,SlN.nil _ _,?_,p.ext o.ext,?_,fun h=>absurd h (by omega),fun _ g s=>Or.inr s⟩
 · rw[rH l.out];exact Num.nil _
 · rw[rG l.out];exact r.out
theorem Fy(M:SlN .u64 w a n c xs)(B:SlN .u64 w b 1 d ys)(G:Num 18446744073709551616 xs x)(s:Num 18446744073709551616 ys y)(X:n<=1000000)(V:y<=x)(h0:0<y) :
 Calls prog 289 #[.slice a n c,.slice b 1 d] w (Cv a .u64 18446744073709551616 w (x/y) (x%y)):=by
 have K:Hid (¬ AZ (x:Int) (y:Int)<0):=lz (by rw[Dw];omega);have t:=fun I:World=>fun(h1:Ext w I)=>Bl (M.ext h1) (B.ext h1) G s;have L:=lz G;have F:ys.getD 0 0=y/\y<18446744073709551616:=by
  have h1:=s.val;obtain⟨z,q⟩:=wY.1 B.len;have h2:=s.bnd z (by rw[q];simp);rw[q]at h1;simp[W.val]at h1;rw[q];simp;omega
 obtain⟨C,E⟩:=F;clear G s
 go_enter func289,ntmps289
 go_wp2_with fail
 refine(t _ (Ext.refl w)).mono ?_;rintro e w1 ⟨rfl,k⟩;have hc:=K.out;have T:(0:Int)<=AZ (x:Int) (y:Int):=by omega
 generalize AZ (x:Int) (y:Int)=cv at *
 clear K;obtain⟨b1,o1,rfl,l⟩:=(B.ext k.ext).at (j:=0) (by omega);have S:=l 0 (by omega);rw[C,qy]at S;clear l
 go_wp2_with fail
 refine(KU (M.ext k.ext) L.out.bnd L.out.val E h0 X).mono ?_;rintro e w2 ⟨O,Y,Q,zs,rfl,f,q,nz,p⟩;have o:x%y<18446744073709551616:=by have:=qf x h0;omega
 have m:=fun I:World=>Ct (w:=I) o;obtain⟨r,v⟩:∃ r,x%y=r:=⟨_,rfl⟩;rw[v]at m |-;have N:=lz v;clear v o
 go_wp2_with fail
 refine(m _).mono ?_;rintro e w3 ⟨P,Z,R,J,rfl,i,D,H,A⟩;go_wp2
 go_ret2
 exact⟨O,Y,Q,zs,P,Z,R,J,rfl,(k.ext.trans f).trans i,q.ext i,nz,D,by rw[N.out];exact H,p.of k.ext.size (fun _ h=>h.elim),fun _ g U=>(A g U).imp (fun h=>pD (k.ext.trans f).size h) (fun h=>h.elim)⟩
theorem Ed(a:l.length=m+1):W.val B l=l.getD m 0*B^m+W.val B (l.take m):=by
 rw[W.val_split (B:=B) l m (by omega),Dq (by omega),qm (by omega)];simp only[W.val]
 grind
theorem Jd(g:Num 18446744073709551616 ys y)(l:ys.length=m+1)(e:s<=63)(h1:9223372036854775808<=ys.getD m 0*2^s)(h2:ys.getD m 0*2^s<18446744073709551616)(b:Num 18446744073709551616 ds (y*2^s)):ds.length=m+1/\9223372036854775808<=ds.getD m 0:=by
 have c:=Ed (B:=18446744073709551616) l;rw[g.val]at c;have i:=Ck g.bnd (m:=m) (by omega);generalize ys.getD m 0=u at *
 generalize W.val 18446744073709551616 (ys.take m)=v at *
 have d:y*2^s=u*2^s*18446744073709551616^m+v*2^s:=by rw[c];grind
 have h3:u*2^s+2^s<=18446744073709551616:=by
  have h4:u<2^(64-s):=by
   refine rQ (a:=2^s) ?_;rw[CV e];exact h2
  have h5:(u+1)*2^s<=2^(64-s)*2^s:=px _ h4;rw[CV e,qJ,sk]at h5;exact h5
 have h6:y*2^s<18446744073709551616^(m+1):=by
  rw[d,qB];have h7:v*2^s<18446744073709551616^m*2^s:=rh i (qr s);have h8:(u*2^s+2^s)*18446744073709551616^m<=18446744073709551616*18446744073709551616^m:=px _ h3;rw[qJ]at h8;rw[pM (18446744073709551616^m) (2^s)]at h7;rw[pM (18446744073709551616^m) 18446744073709551616];omega
 have h9:9223372036854775808*18446744073709551616^m<=y*2^s:=by
  rw[d];exact pD (px _ h1) (vr _ _)
 have o:ds.length<=m+1:=W.nrm_len (B:=18446744073709551616) (by omega) b.nrm (by rw[b.val];exact h6);have p:m+1<=ds.length:=by
  refine pQ fun k => ?_;have h10:=W.val_lt b.bnd;rw[b.val]at h10;have h11:18446744073709551616^ds.length<=18446744073709551616^m:=pR (by omega) (by omega);have h12:1*18446744073709551616^m<=9223372036854775808*18446744073709551616^m:=px _ (by omega);rw[sk]at h12;omega
 have f:ds.length=m+1:=by omega
 refine⟨f,?_⟩;have j:=Ed (B:=18446744073709551616) f;rw[b.val]at j;have n:=Ck b.bnd (m:=m) (by omega);generalize ds.getD m 0=t at *
 refine pQ fun k => ?_;have h13:(t+1)*18446744073709551616^m<=9223372036854775808*18446744073709551616^m:=px _ (by omega);rw[qJ,sk]at h13;omega
theorem Mr{t:TypeId}(h:Arr w g t ((List.map (BL .u64) (List.replicate N 0)).take 0 ++ xs.map (BL .u64) ++ (List.map (BL .u64) (List.replicate N 0)).drop (0+xs.length))):B3 .u64 w g t (xs ++ List.replicate (N-xs.length) 0):=Qg h
theorem Rx{R:Nat}(d:0<y)(h:x*2^s=Q*(y*2^s)+R)(a:R<y*2^s):x/y=Q/\R/2^s=x%y:=by
 have hp:=qr s;have c:2^s∣R:=by
  have h1:2^s∣x*2^s:=tN _ _;rw[h]at h1;exact(oG ⟨Q*y,by grind⟩).1 h1
 obtain⟨r,rfl⟩:=c;have e:x=Q*y+r:=by
  apply vH hp;rw[h]
  grind
 have b:r<y:=by
  rw[pM]at a;exact rQ a
 rw[vV _ hp,e];exact⟨by rw[pM,tH d,rH b,qy],by rw[pM,v8,rG b]⟩
theorem SL(c:x<18446744073709551616^n)(b:18446744073709551616^m<=y)(a:m+1<=n):x*2^s<18446744073709551616^(n-(m+1)+1)*(y*2^s):=by
 have h1:18446744073709551616^(n-(m+1)+1)*18446744073709551616^m=18446744073709551616^n:=by rw[<-sG];congr 1;omega
 have h2:18446744073709551616^(n-(m+1)+1)*18446744073709551616^m<=18446744073709551616^(n-(m+1)+1)*y:=qp _ b;have h3:x*2^s<18446744073709551616^(n-(m+1)+1)*y*2^s:=rh (by omega) (qr s);rw[<-rT];exact h3
theorem Ry{q:Nat}(hi:i<qs.length)(h0:qs.getD i 0=0)(a:P=18446744073709551616^i)(h:Q=W.val 18446744073709551616 qs*D+V)(h1:V'+q*D*P=V):Q=W.val 18446744073709551616 (qs.set i q)*D+V':=by
 have h2:=W.val_set (B:=18446744073709551616) (xs:=qs) (i:=i) (v:=q) hi;rw[h0,tQ,qy]at h2;rw[h2,h,<-h1,a]
 grind
theorem JB{q:Nat}(h:∀ j,j<i+1->qs.getD j 0=0):∀ j,j<i->(qs.set i q).getD j 0=0:=by
 intro j a;have h1:=h j (by omega);have h2:¬ i=j:=by omega
 simpa[h2]using h1
theorem Ms(p:0<B){ls:List Nat}{D i b:Nat}(o:W.bnd B ls)(k:i+(b+1)<=ls.length)(r:D<B^b)(g:0<D)(n:W.val B ls<B^(i+1)*D) :
 ∃ q,q<B/\q*D<=W.val B ((ls.drop i).take (b+1))/\W.val B ((ls.drop i).take (b+1))<(q+1)*D/\W.val B ls=W.val B (ls.take i)+B^i*W.val B ((ls.drop i).take (b+1))/\W.val B (ls.take i)<B^i/\W.val B ls<B^(i+(b+1)):=by
 have e:W.val B ls<B^(i+(b+1)):=by
  have h3:B^(i+1)*D<=B^(i+1)*B^b:=qp _ (by omega);rw[<-sG,show i+1+b=i+(b+1) by omega]at h3;omega
 have d:=Qn (B:=B) p k e;have l:=Ck o (m:=i) (by omega);have j:W.val B ((ls.drop i).take (b+1))<B*D:=by
  rw[qB,rT,d]at n;have h2:B^i*W.val B ((ls.drop i).take (b+1))<B^i*(B*D):=by omega
  exact wM h2
 generalize W.val B ((ls.drop i).take (b+1))=c at *
 have f:c/D*D<=c:=oA _ _;refine⟨c/D,?_,f,?_,d,l,e⟩
 · exact rQ (a:=D) (pJ f j)
 · rw[qJ,sk];have h1:=qM c D;have h2:=qf c g;rw[pM]at h1;omega
theorem O1{q:Nat}(b:V=lo+P*Wn)(h1:V1+g*D*P=V+T)(c:V1<T)(a:q*D<=Wn):q<g:=by
 refine pQ fun d => ?_;have h2:g*D*P<=q*D*P:=px _ (px _ (by omega));have h3:q*D*P<=Wn*P:=px _ a;rw[pM Wn P]at h3;omega
theorem Uu(h1:V'+M*t=Z+M*v)(h2:Z+g*D*P=V+cy*M)(h3:v+cy=t):V'+g*D*P=V:=by
 subst h3;rw[rM,pM M cy]at h1;omega
theorem Mt(h1:V'+M*t=Z+M*v)(h2:Z+g*D*P=V+cy*M)(h3:v+cy=t+B):V'+g*D*P=V+M*B:=by
 have h4:M*(v+cy)=M*(t+B):=by rw[h3]
 rw[rM,rM,pM M cy]at h4;omega
theorem O2(h1:V2+M*u=Z+M*z)(h2:Z+c*M=V1+1*D*P)(h3:z+B*ov=u+c):V2+ov*(M*B)=V1+D*P:=by
 have h4:M*(z+B*ov)=M*(u+c):=by rw[h3]
 rw[rM,rM,pM M c,<-rT]at h4;rw[sk]at h2;rw[pM ov];omega
theorem Mu(h:∀ j,p<=j->zs.getD j 0=ls.getD j 0)(h0:∀ j,p+1<=j->ls.getD j 0=0):∀ j,p+1<=j->(zs.set p v).getD j 0=0:=by
 intro j a;have h1:=h j (by omega);rw[h0 j a]at h1;have h2:¬ p=j:=by omega
 simpa[h2]using h1
theorem Fz(hx:SlN .u64 w a n c xs)(hy:SlN .u64 w b m d ys)(X:Num 18446744073709551616 xs x)(ny:Num 18446744073709551616 ys y)(hn:n<=100000)(f0:y<=x){mm:Nat}(cQ:m=mm+2) :
 Calls prog 289 #[.slice a n c,.slice b m d] w (Cv a .u64 18446744073709551616 w (x/y) (x%y)):=by
 have HC:Hid (¬ AZ (x:Int) (y:Int)<0):=lz (by rw[Dw];omega);have cn:=fun C:World=>fun(h1:Ext w C)=>Bl (hx.ext h1) (hy.ext h1) X ny;have HX:=lz hx.len;have HY:=lz hy.len;have fg:m<=n:=by
  refine pQ fun hc => ?_;have:=W.len_lt (B:=18446744073709551616) (by omega) X.bnd ny.nrm (by rw[HX.out,HY.out];omega);rw[X.val,ny.val]at this;omega
 have ac:ys≠[]:=by intro h;have:=HY.out;rw[h]at this;simp at this;omega
 have ab:=W.nrm_pos (B:=18446744073709551616) (by omega) ny.nrm ac;rw[HY.out,ny.val]at ab;have bt:0<ys.getD (m-1) 0:=by
  have h1:=ny.nrm ac;rw[sY]at h1;have h2:ys.length-1=m-1:=by rw[HY.out]
  have h3:m-1<ys.length:=by rw[HY.out];omega
  have h4:ys.getD (m-1) 0=ys[ys.length-1]'(by omega):=by
   simp[h2,h3]
  omega
 have a7:=W.bnd_at ny.bnd (i:=m-1) (by rw[HY.out];omega);obtain⟨s,hs,cP,b6,b8⟩:=Nl bt a7;have c3:Hid (∀ J,Num 18446744073709551616 J (y*2^s)->J.length=m/\9223372036854775808<=J.getD (mm+1) 0):=by
  show ∀ J,Num 18446744073709551616 J (y*2^s)->J.length=m/\9223372036854775808<=J.getD (mm+1) 0;intro J nd;have h1:m-1=mm+1:=by omega
  rw[h1]at b6 b8;have:=Jd (m:=mm+1) ny (by rw[HY.out];omega) hs b6 b8 nd;exact⟨by omega,this.2⟩
 have NX:=lz X;have NY:=lz ny;have ao:=lz ab;have a2:=lz cQ;have ff:2<=m:=by omega
 clear X ny cQ b6 b8 ac ab
 go_enter func289,ntmps289
 go_wp2_with fail
 refine(cn _ (Ext.refl w)).mono ?_;rintro e w1 ⟨rfl,hQ⟩;have hc:=HC.out;have eD:(0:Int)<=AZ (x:Int) (y:Int):=by omega
 generalize AZ (x:Int) (y:Int)=cv at *
 clear HC;obtain⟨b1,o1,rfl,a5⟩:=(hy.ext hQ.ext).at (j:=0) (by omega);have g1:=a5 (m-1) (by omega);have dd:((m:Int) == 1)=false:=by simp;omega
 have el:IntKind.i64.wrap ((m:Int)-1)=((m-1:Nat):Int):=by rw[show(m:Int)-1=((m-1:Nat):Int) by omega];exact pq _ (by omega)
 have dl:((m-1:Nat):Int)<(m:Int):=by omega
 have K:=fun C:World=>Qh a7 C;rw[cP]at K;generalize ys.getD (m-1) 0=yt at *
 have dB:Hid (m-1+1=m):=by show _=_;omega
 generalize m-1=m1 at *
 clear a5 cP bt cn
 go_wp2_with fail
 refine(K _).mono ?_;rintro e w2 ⟨rfl,rfl⟩;clear g1
 go_wp2_with fail
 refine(Gp (hy.ext hQ.ext) NY.out hs (by omega)).mono ?_;rintro e r ⟨bd,f,cd,J,rfl,ca,hd,nd⟩;obtain⟨co,cq⟩:=c3.out J nd;have ea:f=m:=by rw[<-hd.len,co]
 subst ea;have a4:=hQ.ext.trans ca;have dq:=lz cq;have Z:=lz nd;obtain⟨D,hD⟩:∃ D,y*2^s=D:=⟨_,rfl⟩;rw[hD]at Z;have HD:=lz hD;clear c3 cq nd co hD ca
 go_upto_region 10 with(at_make;refine C6 (n:=n+1) rfl rfl underlying81 AK rfl rfl rfl (by omega) (by unfold maxLen;omega) ?_;intro w3 cb av)
 have bl:=a4.trans av
 go_wp2_with fail
 refine(Gp (hx.ext bl) NX.out hs (by omega)).mono ?_;rintro e w4 ⟨ax,X,cx,us,rfl,ay,hu,nu⟩;have d7:us.length<=n+1:=by
  refine W.nrm_len (B:=18446744073709551616) (by omega) nu.nrm ?_;rw[nu.val,qB];have h1:=W.val_lt NX.out.bnd;rw[NX.out.val,HX.out]at h1;have h2:2^s<=18446744073709551616:=by
   have:=pR (n:=2) (by omega) (show s<=64 by omega);exact this
  calc x*2^s<18446744073709551616^n*2^s:=rh h1 (qr s)
   _<=18446744073709551616^n*18446744073709551616:=qp _ h2
 have eb:X<=n+1:=by rw[<-hu.len];exact d7
 have hA4:=(Az.of_zeros cb).arr.ext ay;have NU:=lz nu;have HU:=lz hu.len;clear nu d7
 go_upto_region 11 with(refine LF (sT:=81) rfl rfl underlying81 AK rfl rfl hA4 hu (by omega) (by simp;omega) (Jx _) ?_;intro N c5 cr)
 have b4:Az .u64 N r.heap.size 238 r.heap.size (n+1) (n+1) (us ++ List.replicate (n+1-X) 0):=by
  have h1:B3 .u64 N r.heap.size 238 (us ++ List.replicate (n+1-us.length) 0):=by
   refine Mr ?_;rw[HU.out];exact c5
  rw[HU.out]at h1;have hl:(us ++ List.replicate (n+1-X) 0).length=n+1:=by simp[HU.out];omega
  have:=B3.own h1 (lrf r.heap.size) (by rw[hl];unfold maxLen;omega);rw[hl]at this;exact this
 have c8:Ext r N:=(av.trans ay).grownR cr (lrf _);have d8:W.val 18446744073709551616 (us ++ List.replicate (n+1-X) 0)=x*2^s:=by rw[He,NU.out.val]
 have ck:W.bnd 18446744073709551616 (us ++ List.replicate (n+1-X) 0):=Jy (by omega) NU.out.bnd _;have d4:x*2^s<18446744073709551616^(n-f+1)*D:=by
  have h1:=W.val_lt NX.out.bnd;rw[NX.out.val,HX.out]at h1;have h2:=dB.out;have:=SL (s:=s) (m:=m1) h1 ao.out (by omega);rw[h2,HD.out]at this;exact this
 have h51:=b4.lt;generalize us ++ List.replicate (n+1-X) 0=eo at *
 have aj:=lz d8;have ai:=lz d4;clear c5 cr hA4 cb av ay bl hu eb NU HU d8 d4;have cp:D<18446744073709551616^f:=by
  have h1:=W.val_lt Z.out.bnd;rw[Z.out.val,hd.len]at h1;exact h1
 have bK:=lz cp;have c6:0<D:=by
  rw[<-HD.out];refine tA ?_ (qr s);have h1:=ao.out;have:=tw (n:=m1) (show 0<18446744073709551616 by omega);omega
 have dn:=lz c6;clear cp c6;have d9:IntKind.i64.wrap ((n:Int)-f)=(((n-f:Nat):Int)):=by rw[show(n:Int)-f=((n-f:Nat):Int) by omega];exact pq _ (by omega)
 obtain⟨nq,cR⟩:∃ nq,n-f=nq:=⟨_,rfl⟩;rw[cR]at d9 ai;have et:nq<=n:=by omega
 have dI:Hid (n=nq+f):=by show _=_;omega
 clear cR
 go_upto_region 12 with(at_make;refine C6 (n:=nq+1) rfl rfl underlying81 AK rfl rfl rfl (by omega) (by unfold maxLen;omega) ?_;intro w6 ce aA)
 have bm:=b4.ext aA;have bk:=c8.trans aA;go_wp2;rw[show decide (cv<0)=false by simp;omega]
 go_loopw[13] (fun iv wr=>∃ (k:Nat) (V qs:List Nat),iv = .int .i64 ((k:Int)-1)/\k<=nq+1/\Ext r wr/\Az .u64 wr r.heap.size 238 r.heap.size (n+1) (n+1) V/\Az .u64 wr N.heap.size 238 N.heap.size (nq+1) (nq+1) qs/\W.bnd 18446744073709551616 V/\W.bnd 18446744073709551616 qs/\Hid (x*2^s=W.val 18446744073709551616 qs*D+W.val 18446744073709551616 V)/\Hid (∀ j,j<k->qs.getD j 0=0)/\Hid (W.val 18446744073709551616 V<18446744073709551616^k*D)) (fun iv _=>(intOf iv+1).toNat)
 case atStart =>
  refine⟨nq+1,eo,List.replicate (nq+1) 0,by go_num,lrf _,bk,bm,Az.of_zeros ce,ck,fun z hz=>by rw[(qS.1 hz).2];omega,lz ?_,lz (fun j _=>FR _ j),lz ?_⟩
  · rw[W.val_zeros,r7,qA,aj.out]
  · rw[aj.out];exact ai.out
 case round =>
  clear ce aA bm bk b4 c8 ck aj ai d9 el dl K dd a7;obtain⟨k,V,qs,rfl,hk,hE,hz,hq,bz,bq,HV,HJ,HB⟩:=hrel;cases k with
  | zero =>
   have bo:x/y=W.val 18446744073709551616 qs/\W.val 18446744073709551616 V/2^s=x%y:=by
    have h1:=HV.out;have h2:=HB.out;rw[tE,sk]at h2;rw[<-HD.out]at h1 h2;refine Rx ?_ h1 h2;have h3:=ao.out;have:=tw (n:=m1) (show 0<18446744073709551616 by omega);omega
   have bf:=lz bo;clear bo
   go_wp2_with fail
   refine(Bq hq.sl).mono ?_;rintro e w7 ⟨q1,rfl,rfl,R,d5⟩;obtain⟨t1,t2⟩:=BE hq.sl R d5 bq bf.out.1.symm;clear d5 R
   go_wp2_with fail
   refine(Bq hz.sl).mono ?_;rintro e w8 ⟨q2,rfl,rfl,a0,d6⟩;obtain⟨t3,t4⟩:=BE (v:=W.val 18446744073709551616 V) hz.sl a0 d6 bz rfl;have d3:=CQ t3 t4 hs (by omega);have T1:=lz t1;have T2:=lz t2;have dJ:=lz d3;clear d6 t1 t2 t3 t4 d3
   go_wp2_with fail
   refine dJ.out.mono ?_;rintro e w9 ⟨a9,n9,c9,ep,rfl,E,em,dc,ef⟩;rw[bf.out.2]at dc;go_wp2
   go_ret2
   exact⟨_,q1,_,_,a9,n9,c9,ep,rfl,(a4.trans hE).trans E,T1.out.ext E,T2.out,em,dc,fun _ g h=>Or.inl (by have:=a4.size;cases h;show w.heap.size<=N.heap.size;omega),fun _ g h=>(ef g h).imp (fun h=>pD (a4.trans hE).size h) (fun h=>h.elim)⟩
  | succ i =>
   have ei:((i+1:Nat):Int)-1=i:=by omega
   rw[ei];have f1:i<=nq:=by omega
   have f6:i+f<=n:=by have:=dI.out;omega
   have e9:i+(f+1)<=V.length:=by rw[hz.len];omega
   obtain⟨q,d0,R,a0,cg,cA,cz⟩:=Ms (by omega) bz e9 bK.out dn.out HB.out;have ch:((V.drop i).take (f+1)).length=mm+3:=by simp;have:=a2.out;omega
   have bW:W.bnd 18446744073709551616 ((V.drop i).take (f+1)):=W.bnd_take (W.bnd_drop bz _) _;have d1:=hz.arr.part (o:=i) (n:=f+1) (c:=n+1-i) (by omega) (by omega) (by unfold maxLen;omega);have bp:=fun(C:World) (da:Qt wr C)=>Nn (w:=C) (n:=f) (m:=mm) (q:=q) (d1.ext da.ext) ((hd.ext hE).ext da.ext) bW Z.out.bnd a2.out (by omega) dq.out rfl rfl (OY ch) (Hl (by rw[hd.len];exact a2.out)) (Ck bW (by omega)) (Ck Z.out.bnd (by rw[hd.len];have:=a2.out;omega)) (by rw[Z.out.val];exact R) (by rw[Z.out.val];exact a0) d0
   have de:∀ C:World,(Instr.sliceAt 81 (.slice (some ⟨r.heap.size,0,none⟩) (n+1) (n+1)) (some (.int .i64 i)) (some (.int .i64 ((i:Int)+f+1))) none).run prog C = .ok (.slice (some ⟨r.heap.size,i,none⟩) (f+1) (n+1-i)) C:=fun C=>by
    have:=CH (P:=prog) (w:=C) (g:=r.heap.size) (n:=n+1) (c:=n+1) (lo:=i) (hi:=i+f+1) underlying81 AK (by omega) (by omega) (by omega);rw[show i+f+1-i=f+1 by omega,qe,qe]at this;exact this
   have dj:∀ C:World,(Instr.sliceAt 81 (.slice (some ⟨r.heap.size,0,none⟩) (n+1) (n+1)) (some (.int .i64 i)) (some (.int .i64 ((i:Int)+f))) none).run prog C = .ok (.slice (some ⟨r.heap.size,i,none⟩) f (n+1-i)) C:=fun C=>by
    have:=CH (P:=prog) (w:=C) (g:=r.heap.size) (n:=n+1) (c:=n+1) (lo:=i) (hi:=i+f) underlying81 AK (by omega) (by omega) (by omega);rw[vm,qe]at this;exact this
   have fu:IntKind.i64.wrap ((i:Int)+f)=(i:Int)+f:=pq _ (by omega);have ev:IntKind.i64.wrap ((i:Int)+f+1)=(i:Int)+f+1:=pq _ (by omega);have fk:((i:Int)+f).toNat=i+f:=by omega
   have al:=lz cg;have bR:=lz cA;have c0:=lz R;have c2:=lz a0;have dA:=lz cz;clear cg cA R a0 cz d1 bW ch
   go_wp2_with fail
   refine(bp wr (Qt.refl _)).mono ?_;rintro e w7 ⟨g,rfl,e8,er,cs,b5⟩;have db:=hz.ext b5.ext;have cT:=hq.ext b5.ext;have b0:=hE.trans b5.ext;have d2:=Gi (w:=w7) (o:=i) (c':=n+1-i) (wd:=g) db (hd.ext b0) (Or.inr (hd.fresh (lrf _) (by omega))) (by omega) bz Z.out.bnd cs
   go_wp2_with fail
   refine d2.mono ?_;rintro e w8 ⟨cy,G,rfl,eX,ba,L,aq,bb,ct⟩;clear bp d2 de dj;have S:=cT.kept ba (by simp;omega);have b2:=b0.grownR ba (lrf _);have e4:=L.cell (i:=i+f) (by omega);have e5:=L.frozen (i+f);have a7:G.getD (i+f) 0<18446744073709551616:=W.bnd_at aq (by rw[L.len];omega);rw[Z.out.val]at bb;have ak:=lz bb;have dy:=lz ct;have Y:Hid (∀ v,W.val 18446744073709551616 (G.set (i+f) v)+18446744073709551616^(i+f)*G.getD (i+f) 0=W.val 18446744073709551616 G+18446744073709551616^(i+f)*v):=by
    show ∀ v,_;intro v;exact W.val_set (by rw[L.len];omega)
   clear bb ct db cT ba hz hq;have dT:Hid (∀ j,i+f+1<=j->V.getD j 0=0):=by
    show ∀ j,i+f+1<=j->V.getD j 0=0;exact fun j hj=>Fl (by omega) dA.out (by omega)
   by_cases bn:cy<=G.getD (i+f) 0
   · obtain⟨v,hv⟩:∃ v,v+cy=G.getD (i+f) 0:=⟨G.getD (i+f) 0-cy,by omega⟩;have hR:=Uu (Y.out v) ak.out hv;obtain⟨e1,e2⟩:=Mq al.out bR.out hR c2.out e8;subst e1;have ah:=lz (Ry (qs:=qs) (i:=i) (q:=g) (by rw[S.len];omega) (HJ.out i (by omega)) rfl HV.out hR);have ag:=lz (JB (q:=g) HJ.out);have dt:=lz e2;have ej:IntKind.u64.wrap (((G.getD (i+f) 0:Nat):Int)-cy)=(v:Int):=Au (by omega) (by omega);have fb:(cy:Int)<=((G.getD (i+f) 0:Nat):Int):=by omega
     have ar:=S.cell (i:=i) (by omega);have e3:=S.frozen i;rw[HJ.out i (by omega)]at ar;have U:=L.set (i+f) v;have T:=(S.kept (Ar w8 r.heap.size (i+f) (.int .u64 (v:Int))) (by simp;omega)).set i g;have ad:=U.kept (Ar (w8.setCell ⟨r.heap.size,i+f,none⟩ (.int .u64 (v:Int))) N.heap.size i (.int .u64 (g:Int))) (by simp;omega);have E:=(b2.setCell (p:=⟨r.heap.size,i+f,none⟩) (lrf _) (.int .u64 (v:Int))).setCell (p:=⟨N.heap.size,i,none⟩) (by show r.heap.size<=N.heap.size;omega) (.int .u64 (g:Int))
     have O:=W.bnd_set (i:=i+f) aq (show v<18446744073709551616 by omega);have ap:=W.bnd_set (i:=i) bq cs;clear hR e2 hv bn;generalize G.getD (i+f) 0=t at *
     go_wp2;go_roundw
     case rel=>exact⟨i,G.set (i+f) v,qs.set i g,by go_num,by omega,E,ad,T,O,ap,ah,ag,dt⟩
     case measure=>simp[intOf]
   · obtain⟨v,hv⟩:∃ v,v+cy=G.getD (i+f) 0+18446744073709551616:=⟨G.getD (i+f) 0+18446744073709551616-cy,by omega⟩;have eg:v<18446744073709551616:=by omega
     have hR:=Mt (B:=18446744073709551616) (Y.out v) ak.out hv;have b9:=Mu (v:=v) dy.out dT.out;have O:=W.bnd_set (i:=i+f) aq eg;have U:=L.set (i+f) v;have aa:W.val 18446744073709551616 (G.set (i+f) v)<18446744073709551616^(i+f+1):=Hk (by rw[U.len];omega) O b9;rw[<-qB]at hR;have es:q<g:=O1 al.out hR aa c0.out;obtain⟨Q,rfl⟩:∃ Q,g=Q+1:=⟨g-1,by omega⟩;have e7:Q=q:=by omega
     subst e7;have HR:=lz hR;have bg:=lz aa;have bG:=lz b9;have ej:IntKind.u64.wrap (((G.getD (i+f) 0:Nat):Int)-cy)=(v:Int):=by
      rw[rz];omega
     have fe:((G.getD (i+f) 0:Nat):Int)<(cy:Int):=by omega
     have fr:IntKind.u64.wrap ((Q:Int)+1-1)=(Q:Int):=Au (by omega) (by omega);have eu:IntKind.u64.wrap (Q:Int)=(Q:Int):=Au (by omega) (by omega);have E:=b2.setCell (p:=⟨r.heap.size,i+f,none⟩) (lrf _) (.int .u64 (v:Int));have T:=S.kept (Ar w8 r.heap.size (i+f) (.int .u64 (v:Int))) (by simp;omega);clear hR aa b9 hv bn ak Y L S b2;generalize G.getD (i+f) 0=t at *
     obtain⟨I,bx⟩:∃ I,G.set (i+f) v=I:=⟨_,rfl⟩;rw[bx]at HR bg bG O U;clear bx;go_wp2;generalize w8.setCell ⟨r.heap.size,i+f,none⟩ (.int .u64 (v:Int))=w9 at *
     go_loopw[17,115] (fun cv iv C=>∃ (k H:Nat) (F:List Nat),cv = .int .u64 H/\iv = .int .i64 k/\k<=f/\H<=1/\Ext r C/\Az .u64 C r.heap.size 238 r.heap.size (n+1) (n+1) F/\Az .u64 C N.heap.size 238 N.heap.size (nq+1) (nq+1) qs/\W.bnd 18446744073709551616 F/\Hid (W.val 18446744073709551616 F+H*18446744073709551616^(i+k)=W.val 18446744073709551616 I+1*W.val 18446744073709551616 (J.take k)*18446744073709551616^i)/\Hid (∀ j,i+f<=j->F.getD j 0=I.getD j 0)) (fun _ iv _=>f-(intOf iv).toNat)
     case atStart=>exact⟨0,0,I,rfl,rfl,pE _,by omega,E,U,T,O,lz (by simp[W.val]),lz (fun _ _=>rfl)⟩
     case round =>
      clear U T O E b0 hE;obtain⟨k,H,F,rfl,rfl,f7,e6,b3,A,a1,a3,HL,bN⟩:=hrel;by_cases a6:k<f
      · obtain⟨b7,o7,rfl,cl⟩:=(hd.ext b3).at (j:=k) a6;have g1:=cl k a6;have eC:=A.cell (i:=i+k) (by omega);have g3:=A.frozen (i+k);have fv:=W.bnd_at a3 (i:=i+k) (by rw[A.len];omega);have fw:=W.bnd_at Z.out.bnd (i:=k) (by rw[hd.len];exact a6);have HS:=lz (Mj (B:=18446744073709551616) (l:=F) (xs:=J) (k:=k) (o:=i) (w:=1) (s:=(F.getD (i+k) 0+J.getD k 0+H)%18446744073709551616) (c':=(F.getD (i+k) 0+J.getD k 0+H)/18446744073709551616) (by rw[A.len];omega) (by rw[hd.len];exact a6) HL.out (by rw[sH];exact sX _ _))
        have eq:=Cz (F.getD (i+k) 0) (J.getD k 0) H e6;have dx:Hid (∀ s j,i+f<=j->(F.set (i+k) s).getD j 0=I.getD j 0):=by
         show ∀ s j,i+f<=j->(F.set (i+k) s).getD j 0=I.getD j 0;intro s j hj;have h1:=bN.out j hj;have h2:¬ i+k=j:=by omega
         rw[<-h1];simp[h2]
        have f5:((i:Int)+k).toNat=i+k:=by omega
        have ex:IntKind.i64.wrap ((i:Int)+k)=(i:Int)+k:=pq _ (by omega);generalize F.getD (i+k) 0=u at *
        generalize J.getD k 0=dv at *
        have ed:(u+dv+H)%18446744073709551616<18446744073709551616:=qf _ (by omega);have a5:(u+dv+H)/18446744073709551616<=1:=by omega
        generalize (u+dv+H)%18446744073709551616=s1 at *
        generalize (u+dv+H)/18446744073709551616=c1 at *
        have ec:=a1.kept (Ar wr r.heap.size (i+k) (.int .u64 (s1:Int))) (by simp;omega);clear cl;go_wp2;go_roundw
        case rel=>exact⟨k+1,c1,F.set (i+k) s1,rfl,by go_num,by omega,a5,b3.setCell (lrf _) _,A.set (i+k) s1,ec,W.bnd_set a3 ed,HS,lz (dx.out s1)⟩
        case measure=>simp[intOf];omega
      · have ek:k=f:=by omega
        have bL:Hid (W.val 18446744073709551616 F+H*18446744073709551616^(i+f)=W.val 18446744073709551616 I+1*D*18446744073709551616^i):=by
         show _=_;have h1:=HL.out;rw[ek,pu (by rw[hd.len];exact lrf _),Z.out.val]at h1;exact h1
        have e4:=A.cell (i:=i+f) (by omega);have e5:=A.frozen (i+f);have fn:=W.bnd_at a3 (i:=i+f) (by rw[A.len];omega);have c4:=lz (fun z=>W.val_set (B:=18446744073709551616) (xs:=F) (i:=i+f) (v:=z) (by rw[A.len];omega));have bj:=fun z=>Mu (v:=z) bN.out bG.out;generalize F.getD (i+f) 0=u at *
        obtain⟨z,a8⟩:∃ z,(u+H)%18446744073709551616=z:=⟨_,rfl⟩;have en:z<18446744073709551616:=by rw[<-a8];exact qf _ (by omega)
        have h3:z+18446744073709551616*((u+H)/18446744073709551616)=u+H:=by rw[<-a8];exact sX _ _
        have hT:=O2 (B:=18446744073709551616) (c4.out z) bL.out h3;rw[<-qB]at hT;have bi:=W.bnd_set (i:=i+f) a3 en;have bv:=A.set (i+f) z;have bs:W.val 18446744073709551616 (F.set (i+f) z)<18446744073709551616^(i+f+1):=Hk (by rw[bv.len];omega) bi (bj z);have c7:D*18446744073709551616^i<18446744073709551616^(i+f+1):=by
         have h4:D*18446744073709551616^i<18446744073709551616^f*18446744073709551616^i:=rh bK.out (tw (by omega));rw[<-sG]at h4;exact pS h4 (pR (by omega) (by omega))
        obtain⟨_,f2,f3⟩:=OZ al.out bR.out HR.out bg.out c0.out c2.out (lrf _) hT bs c7;have ah:=lz (Ry (qs:=qs) (i:=i) (q:=Q) (by rw[a1.len];omega) (HJ.out i (by omega)) rfl HV.out f2);have ag:=lz (JB (q:=Q) HJ.out);have dw:=lz f3;have fs:IntKind.u64.wrap ((u:Int)+(H:Int))=(z:Int):=by
         have:=Hi (x:=u+H) (M:=z) a8;rw[qe]at this;exact this
        have ar:=a1.cell (i:=i) (by omega);have e3:=a1.frozen i;rw[HJ.out i (by omega)]at ar;have T:=(a1.kept (Ar wr r.heap.size (i+f) (.int .u64 (z:Int))) (by simp;omega)).set i Q;have ad:=bv.kept (Ar (wr.setCell ⟨r.heap.size,i+f,none⟩ (.int .u64 (z:Int))) N.heap.size i (.int .u64 (Q:Int))) (by simp;omega);have E:=(b3.setCell (p:=⟨r.heap.size,i+f,none⟩) (lrf _) (.int .u64 (z:Int))).setCell (p:=⟨N.heap.size,i,none⟩) (by show r.heap.size<=N.heap.size;omega) (.int .u64 (Q:Int));have ap:=W.bnd_set (i:=i) bq d0
        clear hT bs c7 f2 f3 h3 a8 c4 bj HL bL;go_wp2;go_roundw
        case rel=>exact⟨i,F.set (i+f) z,qs.set i Q,by go_num,by omega,E,ad,T,bi,ap,ah,ag,dw⟩
        case measure=>simp[intOf]
end Go.Proofs.YtlbmnokpiilfpaaGreatDoor
namespace Go.Proofs.YtlbmnokpiilfpaaGreatDoor.W
variable {odd:Bool} {B D M P X Y a b c1 c2 k p s u1 u2 v1 v2 x y:Nat}
theorem gcd_two_right(a:x%2=1):Nat.gcd x (2^k*y)=Nat.gcd x y:=by
 have h2:Nat.Coprime x 2:=by
  rw[Nat.coprime_comm];rw[Nat.coprime_iff_gcd_eq_one];rw[wD,a];rfl
 have h:Nat.Coprime x (2^k):=Nat.Coprime.pow_right k h2;exact Nat.Coprime.gcd_mul_left_cancel_right y h.symm
theorem No(a:y%2=1):Nat.gcd (2^k*x) y=Nat.gcd x y:=by
 rw[sd,gcd_two_right a,sd]
theorem Uv:2^k∣(x ||| y)<->2^k∣x/\2^k∣y:=by
 simp only[Nat.dvd_iff_mod_eq_zero];rw[Nat.or_mod_two_pow];exact Nat.or_eq_zero_iff
theorem gcd_split{f m:Nat}(i:X=2^a*f)(t:f%2=1)(d:X ||| Y=2^s*(2*m+1)):Nat.gcd X Y=2^s*Nat.gcd f Y:=by
 have h1:=(Uv (x:=X) (y:=Y) (k:=s)).1 ⟨2*m+1,d⟩;obtain⟨⟨g,b⟩,⟨o,c⟩⟩:=h1;have h2:¬ 2^(s+1)∣(X ||| Y):=by
  rintro⟨q,e⟩;rw[d,qB,rT]at e;have:=wN (qr s) e;omega
 have r:s<=a:=by
  refine pQ fun p => ?_;have h3:2^(a+1)∣X:=tT (Nat.pow_dvd_pow 2 (by omega:a+1<=s)) ⟨g,b⟩;obtain⟨q,e⟩:=h3;rw[i,qB,rT]at e;have:=wN (qr a) e;omega
 have n:g=2^(a-s)*f:=by
  have:2^s*g=2^s*(2^(a-s)*f):=by
   rw[<-b,i,<-rT,<-sG];congr 2;omega
  exact wN (qr s) this
 rw[b,c,Nat.gcd_mul_left,gcd_two_right t];congr 1;by_cases l:a=s
 · subst l;rw[n,ro,tE,sk]
 · have j:o % 2=1:=by
    refine pQ fun p=>h2 (Uv.2 ⟨?_,?_⟩)
    · rw[i];exact tT (Nat.pow_dvd_pow 2 (by omega)) (Nat.dvd_mul_right _ _)
    · rw[c,qB];exact Nat.mul_dvd_mul_left _ (by omega)
   rw[n];exact No j
theorem gcd_swap(h:x<=y):Nat.gcd x (y-x)=Nat.gcd x y:=by
 rw[Nat.gcd_sub_self_right h]
structure Steps(a b u0 u1 v0 v1:Nat)(odd:Bool)(p q:Nat):Prop where
 ep:if odd=true then p+v0*b=u0*a else p+u0*a=v0*b
 eq:if odd=true then q+u1*a=v1*b else q+v1*b=u1*a
 gcd:Nat.gcd p q=Nat.gcd a b
 lt:q<p
 le:p<=b
theorem O3{q:Nat}(h1:v2*p+v1*q=a)(h2:u2*p+u1*q=b)(s:Int)(hp:(p:Int)=s*(u1*a-v1*b))(e:(q:Int) = -(s*(u2*a-v2*b))):Nat.gcd p q=Nat.gcd a b:=by
 apply Nat.dvd_antisymm
 · apply Nat.dvd_gcd
   · rw[<-h1];exact Nat.dvd_add (tT (sZ p q) (tN _ _)) (tT (sR p q) (tN _ _))
   · rw[<-h2];exact Nat.dvd_add (tT (sZ p q) (tN _ _)) (tT (sR p q) (tN _ _))
 · have c:((Nat.gcd a b:Nat):Int)∣(a:Int):=vZ.2 (sZ a b);have d:((Nat.gcd a b:Nat):Int)∣(b:Int):=vZ.2 (sR a b);apply Nat.dvd_gcd
   · apply vZ.1;rw[hp];exact wB (Int.dvd_sub (wB c (vL _ _)) (wB d (vL _ _))) (vL _ _)
   · apply vZ.1;rw[e];exact Int.dvd_neg.2 (wB (Int.dvd_sub (wB c (vL _ _)) (wB d (vL _ _))) (vL _ _))
theorem Leh.good{A n P o r f g s:Int}(h:Leh a b A n P o r f g u1 u2 v1 v2 s)(k:(v2:Int)<=g)(l:(v1:Int)+v2<=f-g)(hu:(u1:Int)<=v1\/((u1:Int)=1/\(v1:Int)=0/\(u2:Int)=0/\s=1))(c:(u1:Int)*v2-u2*v1=s)(m:1<=u2) :
 ∃ p q,Steps a b u1 u2 v1 v2 (decide (s=1)) p q:=by
 have h1:=h.sec k;have h2:=h.gap l hu;have sg:=h.sg;obtain⟨q,d⟩:=Int.eq_ofNat_of_zero_le h1;obtain⟨p,hp⟩:=Int.eq_ofNat_of_zero_le (oM h1 (vk h2));have e:s*s=1:=by rcases sg with rfl | rfl <;> rfl
 have t:((v2*p+v1*q:Nat):Int)=(a:Int):=by
  rw[qe,q7,q7,<-hp,<-d];have:(v2:Int)*(s*(u1*a-v1*b))+v1 * -(s*(u2*a-v2*b))=s*(u1*v2-u2*v1)*a:=by grind
  rw[this,c,e,Int.one_mul]
 have v:((u2*p+u1*q:Nat):Int)=(b:Int):=by
  rw[qe,q7,q7,<-hp,<-d];have:(u2:Int)*(s*(u1*a-v1*b))+u1 * -(s*(u2*a-v2*b))=s*(u1*v2-u2*v1)*b:=by grind
  rw[this,c,e,Int.one_mul]
 have i:v2*p+v1*q=a:=by omega
 have j:u2*p+u1*q=b:=by omega
 refine⟨p,q,?_,?_,O3 i j s hp.symm d.symm,by omega,?_⟩
 · rcases sg with rfl|rfl
   · simp only[vE,tM];have:((p+v1*b:Nat):Int)=((u1*a:Nat):Int):=by
      rw[qe,q7,q7,<-hp];omega
     omega
   · rw[pC (by simp)];have:((p+u1*a:Nat):Int)=((v1*b:Nat):Int):=by
      rw[qe,q7,q7,<-hp];omega
     omega
 · rcases sg with rfl|rfl
   · simp only[vE,tM];have:((q+u2*a:Nat):Int)=((v2*b:Nat):Int):=by
      rw[qe,q7,q7,<-d];omega
     omega
   · rw[pC (by simp)];have:((q+v2*b:Nat):Int)=((u2*a:Nat):Int):=by
      rw[qe,q7,q7,<-d];omega
     omega
 · have h3:1*p<=u2*p:=px _ m;omega
theorem head_of{t1 t0 lo r:Nat}(c:B=2^s*r)(h0:0<r)(d:a=(t1*B+t0)*M+lo)(b:lo<M) :
 a/(M*r)=t1*2^s+t0/r:=by
 have h1:a/M=t1*B+t0:=by
  rw[d,pM,tH (by omega),rH b,qy]
 rw[<-vA,h1,c,show t1*(2^s*r)=r*(t1*2^s) by grind,tH h0]
theorem SM(d:0<P)(c:b<=a):Leh (a:Int) (b:Int) ((a/P:Nat):Int) ((b/P:Nat):Int) (P:Int) ((a%P:Nat):Int) ((b%P:Nat):Int) ((a/P:Nat):Int) ((b/P:Nat):Int) 1 0 0 1 1:=by
 have h1:=qM a P;have h2:=qM b P;have h3:=qf a d;have h4:=qf b d;have h5:b/P<=a/P:=Nat.div_le_div_right c;refine Leh.start ?_ ?_ (wJ _) (Int.ofNat_lt.2 h3) (wJ _) (Int.ofNat_lt.2 h4) (wJ _) (Int.ofNat_le.2 h5)
 · rw[pM]at h1;rw[<-q7,<-qe];omega
 · rw[pM]at h2;rw[<-q7,<-qe];omega
structure Sim(a b A Bb P α β f g u0 u1 u2 v0 v1 v2:Nat)(odd:Bool):Prop where
 leh:Leh (a:Int) b A Bb P α β f g u1 u2 v1 v2 (if odd=true then -1 else 1)
 hu:(u1<=v1)\/(u1=1/\v1=0/\u2=0/\odd=false)
 det:(u1:Int)*v2-u2*v1=(if odd=true then -1 else 1)
 good:v0=0\/∃ p q,Steps a b u0 u1 v0 v1 odd p q
 u20:u2=0->v1=0
theorem Sim.start(d:0<P)(c:b<=a):Sim a b (a/P) (b/P) P (a%P) (b%P) (a/P) (b/P) 0 1 0 0 0 1 false :=
 ⟨SM d c,Or.inr ⟨rfl,rfl,rfl,rfl⟩,by simp,Or.inl rfl,fun _=>rfl⟩
theorem Sim.bound{A c j k f g u0 i:Nat}(h:Sim a b A c P j k f g u0 u1 u2 i v1 v2 odd)(d:1<=g):v1+v2<=A/\u1<=A+1/\u2<=A:=by
 have e:=h.leh.sv;have o:=h.leh.vv;have n:=h.leh.uv;have m:=h.leh.gf;have l:v2*f+v1*g=A:=by
  have:((v2*f+v1*g:Nat):Int)=(A:Int):=by rw[qe,q7,q7];exact e
  omega
 have h1:v2*1<=v2*f:=qp _ (by omega);have h2:v1*1<=v1*g:=qp _ d;rcases h.hu with hu|⟨rfl,rfl,rfl,_⟩ <;> omega
theorem Sim.step{a b A r P t v f g u0 u1 u2 B v1 v2:Nat}{c:Bool}(h:Sim a b A r P t v f g u0 u1 u2 B v1 v2 c)(J:v2<=g)(I:v1+v2<=f-g) :
 Sim a b A r P t v g (f%g) u1 u2 (u1+f/g*u2) v1 v2 (v1+f/g*v2) (!c)/\v1+f/g*v2<=A/\u1+f/g*u2<=A/\f%g<g:=by
 have C:=h.leh.v2p;have H:=h.leh.gf;have l:1<=g:=by omega
 obtain⟨D,E,F⟩:=h.bound l;have x:(f:Int)=((f/g:Nat):Int)*(g:Int)+((f%g:Nat):Int):=by
  have:=qM f g;rw[pM]at this;rw[<-q7,<-qe];omega
 have z:=qf f (show 0<g by omega);have y:1<=f/g:=(Nat.le_div_iff_mul_le (by omega)).2 (by omega);have n:(u1:Int)<=v1\/((u1:Int)=1/\(v1:Int)=0/\(u2:Int)=0/\(if c=true then -1 else 1:Int)=1):=by
  rcases h.hu with hu|⟨rfl,rfl,rfl,rfl⟩
  · left;omega
  · right;simp
 have d:=h.leh.step x (by omega) (by omega) (by omega) n;have i : -(if c=true then -1 else 1:Int)=(if(!c)=true then -1 else 1:Int):=by cases c <;> rfl
 rw[i]at d;have j:Leh (a:Int) b A r P t v g ((f%g:Nat):Int) u2 ((u1+f/g*u2:Nat):Int) v2 ((v1+f/g*v2:Nat):Int) (if(!c)=true then -1 else 1):=by
  rw[qe,qe,q7,q7];exact d
 have e:=j.sv;have L:=j.uv;have G:(v1+f/g*v2)*g+v2*(f%g)=A:=by
  have:(((v1+f/g*v2)*g+v2*(f%g):Nat):Int)=(A:Int):=by rw[qe,q7,q7];exact e
  omega
 have K:(v1+f/g*v2)*1<=(v1+f/g*v2)*g:=qp _ l;refine⟨⟨j,?_,?_,?_,?_⟩,by omega,by omega,z⟩
 · left;have:=h.leh.uv;omega
 · have w:=h.det;have:(u2:Int)*((v1+f/g*v2:Nat):Int)-((u1+f/g*u2:Nat):Int)*v2 = -((u1:Int)*v2-u2*v1):=by
    rw[qe,qe,q7,q7]
    grind
   rw[this,w,i]
 · by_cases h0:v1=0
   · exact Or.inl h0
   · right;have k:1<=u2:=by
      rcases pT u2 with h2|h2
      · exact absurd (h.u20 h2) h0
      · exact h2
     obtain⟨p,q,m⟩:=h.leh.good (by omega) (by omega) n h.det k;refine⟨p,q,?_⟩;have:decide ((if c=true then -1 else 1:Int)=1) = !c:=by cases c <;> rfl
     rw[this]at m;exact m
 · intro h0;have s:u1=0:=by omega
   have k:f/g*u2=0:=by omega
   have o:u2=0:=by
    rcases Nat.mul_eq_zero.1 k with h3|h3
    · omega
    · exact h3
   subst s;subst o;have:=h.det;cases c <;> simp at this
theorem comb_step{U V d c1' c2':Nat}(h:D+U+c1*M=V+c2*M)(e:d+x+c2+B*c1'=y+c1+B*c2') :
 D+M*d+(U+M*x)+c1'*(M*B)=V+M*y+c2'*(M*B):=by
 have a:M*(d+x+c2+B*c1')=M*(y+c1+B*c2'):=by rw[e]
 grind
theorem comb_end{T:Nat}(h:D+X+c1*T=Y+c2*T)(hp:p+X=Y)(b:D<T)(a:p<T):D=p:=by
 have h1:D+c1*T=p+c2*T:=by omega
 have h2:=q9 (· % T) h1;simp only[Nat.add_mul_mod_self_right]at h2
 rwa[rG b,rG a]at h2
end Go.Proofs.YtlbmnokpiilfpaaGreatDoor.W
namespace Go.Proofs.YtlbmnokpiilfpaaGreatDoor
open Go.Shelf
def SN:Go.Shelf.Ren:=⟨fun | 29=>292 | n=>n,fun | 22=>238 | 3=>3 | 4=>4 | 25=>222 | 54=>330 | 0=>0 | 5=>5 | n=>n,fun | 1=>1 | n=>n⟩
theorem Yq:Go.Proofs.Lays7.n29 Tryz.prog SN:={
 mixed:=by kernel_rfl
 f29:=Tryz.func292.trans (q9 some (by kernel_rfl))
 t0:=Tryz.underlying0
 a0:=Tryz.isAgg0
 z0:=Tryz.sizeOf0
 v0:=Tryz.zeroValue0
 i0:=by kernel_rfl
 t3:=Tryz.underlying3
 a3:=Tryz.isAgg3
 z3:=Tryz.sizeOf3
 v3:=Tryz.zeroValue3
 i3:=by kernel_rfl
 t4:=Tryz.underlying4
 a4:=Tryz.isAgg4
 z4:=Tryz.sizeOf4
 v4:=Tryz.zeroValue4
 i4:=by kernel_rfl
 t5:=Tryz.underlying5
 a5:=Tryz.isAgg5
 z5:=Tryz.sizeOf5
 v5:=Tryz.zeroValue5
 i5:=by kernel_rfl
 t22:=Tryz.underlying238
 a22:=Tryz.isAgg238
 z22:=Tryz.sizeOf238
 v22:=Tryz.zeroValue238
 i22:=by kernel_rfl
 t25:=Tryz.underlying222
 a25:=Tryz.isAgg222
 z25:=Tryz.sizeOf222
 v25:=Tryz.zeroValue222
 i25:=by kernel_rfl
 t54:=Tryz.underlying330
 a54:=Tryz.isAgg330
 z54:=Tryz.sizeOf330
 g1:=by kernel_rfl }
def O4:Go.Shelf.Ren:=⟨fun | 173=>181 | 246=>228 | 283=>269 | 284=>270 | 285=>271 | 286=>272 | 129=>253 | 317=>303 | 318=>304 | 319=>305 | 320=>306 | 337=>322 | 338=>292 | n=>n,fun | 2=>2 | 3=>3 | 9=>9 | 4=>4 | 171=>294 | 0=>0 | 53=>238 | 37=>228 | 5=>5 | 173=>296 | 212=>319 | 51=>241 | 20=>20 | 213=>320 | 46=>222 | 232=>338 | 233=>330 | n=>n,fun | 17=>0 | 18=>4 | 19=>1 | n=>n⟩
theorem V8:Go.Proofs.LaysM.n173 Tryz.prog O4:={
 mixed:=by kernel_rfl
 f129:=Tryz.func253.trans (q9 some (by kernel_rfl))
 f173:=Tryz.func181.trans (q9 some (by kernel_rfl))
 f246:=Tryz.func228.trans (q9 some (by kernel_rfl))
 f283:=Tryz.func269.trans (q9 some (by kernel_rfl))
 f284:=Tryz.func270.trans (q9 some (by kernel_rfl))
 f285:=Tryz.func271.trans (q9 some (by kernel_rfl))
 f286:=Tryz.func272.trans (q9 some (by kernel_rfl))
 f317:=Tryz.func303.trans (q9 some (by kernel_rfl))
 f318:=Tryz.func304.trans (q9 some (by kernel_rfl))
 f319:=Tryz.func305.trans (q9 some (by kernel_rfl))
 f320:=Tryz.func306.trans (q9 some (by kernel_rfl))
 f337:=Tryz.func322.trans (q9 some (by kernel_rfl))
 f338:=Tryz.func292.trans (q9 some (by kernel_rfl))
 t0:=Tryz.underlying0
 a0:=Tryz.isAgg0
 z0:=Tryz.sizeOf0
 v0:=Tryz.zeroValue0
 t2:=Tryz.underlying2
 a2:=Tryz.isAgg2
 z2:=Tryz.sizeOf2
 v2:=Tryz.zeroValue2
 t3:=Tryz.underlying3
 a3:=Tryz.isAgg3
 z3:=Tryz.sizeOf3
 v3:=Tryz.zeroValue3
 t4:=Tryz.underlying4
 a4:=Tryz.isAgg4
 z4:=Tryz.sizeOf4
 v4:=Tryz.zeroValue4
 t5:=Tryz.underlying5
 a5:=Tryz.isAgg5
 z5:=Tryz.sizeOf5
 v5:=Tryz.zeroValue5
 t9:=Tryz.underlying9
 a9:=Tryz.isAgg9
 z9:=Tryz.sizeOf9
 v9:=Tryz.zeroValue9
 t20:=Tryz.underlying20
 a20:=Tryz.isAgg20
 z20:=Tryz.sizeOf20
 v20:=Tryz.zeroValue20
 t37:=Tryz.underlying228
 a37:=Tryz.isAgg228
 z37:=Tryz.sizeOf228
 v37:=Tryz.zeroValue228
 t46:=Tryz.underlying222
 a46:=Tryz.isAgg222
 z46:=Tryz.sizeOf222
 v46:=Tryz.zeroValue222
 t51:=Tryz.underlying241
 a51:=Tryz.isAgg241
 z51:=Tryz.sizeOf241
 v51:=Tryz.zeroValue241
 t53:=Tryz.underlying238
 a53:=Tryz.isAgg238
 z53:=Tryz.sizeOf238
 v53:=Tryz.zeroValue238
 t171:=Tryz.underlying294
 a171:=Tryz.isAgg294
 z171:=Tryz.sizeOf294
 v171:=Tryz.zeroValue294
 t173:=Tryz.underlying296
 a173:=Tryz.isAgg296
 z173:=Tryz.sizeOf296
 v173:=Tryz.zeroValue296
 t212:=Tryz.underlying319
 a212:=Tryz.isAgg319
 z212:=Tryz.sizeOf319
 v212:=Tryz.zeroValue319
 t213:=Tryz.underlying320
 a213:=Tryz.isAgg320
 z213:=Tryz.sizeOf320
 t232:=Tryz.underlying338
 a232:=Tryz.isAgg338
 z232:=Tryz.sizeOf338
 v232:=Tryz.zeroValue338
 t233:=Tryz.underlying330
 a233:=Tryz.isAgg330
 z233:=Tryz.sizeOf330
 v233:=Tryz.zeroValue330
 g17:=by kernel_rfl
 g18:=by kernel_rfl
 g19:=by kernel_rfl
 i0:=by kernel_rfl
 i2:=by kernel_rfl
 i3:=by kernel_rfl
 i4:=by kernel_rfl
 i5:=by kernel_rfl
 i9:=by kernel_rfl
 i20:=by kernel_rfl
 i37:=by kernel_rfl
 i46:=by kernel_rfl
 i51:=by kernel_rfl
 i53:=by kernel_rfl
 i171:=by kernel_rfl
 i173:=by kernel_rfl
 i212:=by kernel_rfl
 i232:=by kernel_rfl
 i233:=by kernel_rfl
 m17:=by kernel_rfl
 m18:=by kernel_rfl
 m19:=by kernel_rfl }
def SO:Go.Shelf.Ren:=⟨fun | 288=>302 | 283=>269 | 284=>270 | 285=>271 | 286=>272 | 129=>253 | 317=>303 | 318=>304 | 319=>305 | 320=>306 | 337=>322 | 338=>292 | n=>n,fun | 37=>228 | 53=>238 | 3=>3 | 4=>4 | 9=>9 | 171=>294 | 0=>0 | 173=>296 | 212=>319 | 51=>241 | 5=>5 | 20=>20 | 213=>320 | 46=>222 | 232=>338 | 233=>330 | n=>n,fun | 17=>0 | 18=>4 | 19=>1 | n=>n⟩
theorem Rz:Go.Proofs.LaysM.n288 Tryz.prog SO:={
 mixed:=by kernel_rfl
 f129:=Tryz.func253.trans (q9 some (by kernel_rfl))
 f283:=Tryz.func269.trans (q9 some (by kernel_rfl))
 f284:=Tryz.func270.trans (q9 some (by kernel_rfl))
 f285:=Tryz.func271.trans (q9 some (by kernel_rfl))
 f286:=Tryz.func272.trans (q9 some (by kernel_rfl))
 f288:=Tryz.func302.trans (q9 some (by kernel_rfl))
 f317:=Tryz.func303.trans (q9 some (by kernel_rfl))
 f318:=Tryz.func304.trans (q9 some (by kernel_rfl))
 f319:=Tryz.func305.trans (q9 some (by kernel_rfl))
 f320:=Tryz.func306.trans (q9 some (by kernel_rfl))
 f337:=Tryz.func322.trans (q9 some (by kernel_rfl))
 f338:=Tryz.func292.trans (q9 some (by kernel_rfl))
 t0:=Tryz.underlying0
 a0:=Tryz.isAgg0
 z0:=Tryz.sizeOf0
 v0:=Tryz.zeroValue0
 t3:=Tryz.underlying3
 a3:=Tryz.isAgg3
 z3:=Tryz.sizeOf3
 v3:=Tryz.zeroValue3
 t4:=Tryz.underlying4
 a4:=Tryz.isAgg4
 z4:=Tryz.sizeOf4
 v4:=Tryz.zeroValue4
 t5:=Tryz.underlying5
 a5:=Tryz.isAgg5
 z5:=Tryz.sizeOf5
 v5:=Tryz.zeroValue5
 t9:=Tryz.underlying9
 a9:=Tryz.isAgg9
 z9:=Tryz.sizeOf9
 v9:=Tryz.zeroValue9
 t20:=Tryz.underlying20
 a20:=Tryz.isAgg20
 z20:=Tryz.sizeOf20
 v20:=Tryz.zeroValue20
 t37:=Tryz.underlying228
 a37:=Tryz.isAgg228
 z37:=Tryz.sizeOf228
 v37:=Tryz.zeroValue228
 t46:=Tryz.underlying222
 a46:=Tryz.isAgg222
 z46:=Tryz.sizeOf222
 v46:=Tryz.zeroValue222
 t51:=Tryz.underlying241
 a51:=Tryz.isAgg241
 z51:=Tryz.sizeOf241
 v51:=Tryz.zeroValue241
 t53:=Tryz.underlying238
 a53:=Tryz.isAgg238
 z53:=Tryz.sizeOf238
 v53:=Tryz.zeroValue238
 t171:=Tryz.underlying294
 a171:=Tryz.isAgg294
 z171:=Tryz.sizeOf294
 v171:=Tryz.zeroValue294
 t173:=Tryz.underlying296
 a173:=Tryz.isAgg296
 z173:=Tryz.sizeOf296
 v173:=Tryz.zeroValue296
 t212:=Tryz.underlying319
 a212:=Tryz.isAgg319
 z212:=Tryz.sizeOf319
 v212:=Tryz.zeroValue319
 t213:=Tryz.underlying320
 a213:=Tryz.isAgg320
 z213:=Tryz.sizeOf320
 t232:=Tryz.underlying338
 a232:=Tryz.isAgg338
 z232:=Tryz.sizeOf338
 v232:=Tryz.zeroValue338
 t233:=Tryz.underlying330
 a233:=Tryz.isAgg330
 z233:=Tryz.sizeOf330
 v233:=Tryz.zeroValue330
 g17:=by kernel_rfl
 g18:=by kernel_rfl
 g19:=by kernel_rfl
 i0:=by kernel_rfl
 i3:=by kernel_rfl
 i4:=by kernel_rfl
 i5:=by kernel_rfl
 i9:=by kernel_rfl
 i20:=by kernel_rfl
 i37:=by kernel_rfl
 i46:=by kernel_rfl
 i51:=by kernel_rfl
 i53:=by kernel_rfl
 i171:=by kernel_rfl
 i173:=by kernel_rfl
 i212:=by kernel_rfl
 i232:=by kernel_rfl
 i233:=by kernel_rfl
 m17:=by kernel_rfl
 m18:=by kernel_rfl
 m19:=by kernel_rfl }
end Go.Proofs.YtlbmnokpiilfpaaGreatDoor
namespace Go.Proofs.YtlbmnokpiilfpaaGreatDoor
open Tryz Go Go.RowKit
variable {cs cs' cs'' cs3:Array Value} {g x y:Nat} {t t' t'' t3 ty ty':TypeId} {w w':World}
structure AM(w:World):Prop where
 tz:TabAt 1 Lib.deBruijn64tab w
 ten:Lib.TabIs prog w "internal/strconv.uint64pow10" .u64 Lib.pow10Tab
theorem AM.ext(h:AM w)(e:Ext w w'):AM w' :=
 ⟨fun j a=>e.cell (h.tz j a),Lib.tabBelow_of_tabIs h.ten w' e⟩
theorem Qo(h0:0<x)(a:x<18446744073709551616):∃ k m,k<64/\x=2^k*(2*m+1)/\∀ w,AM w->Calls prog 292 #[.int .u64 x] w fun e b=>e = .returned (.int .i64 (k:Nat))/\w=b:=by
 obtain⟨m,h1,h2⟩:=Lib.ctzFrom_spec 64 x h0 a;have h3:Lib.ctz 64 x=Lib.ctzFrom 64 x:=by unfold Lib.ctz;rw[pC (by omega)]
 refine⟨_,m,h2,h1,fun w c => ?_⟩;refine(Any7.bits_TrailingZeros64 Yq x a w (fun _=>c.tz)).mono ?_;rintro e b ⟨rfl,rfl⟩;rw[h3];exact⟨rfl,rfl⟩
theorem RA{k m:Nat}(h:x=2^k*(2*m+1)):x/2^k=2*m+1:=by
 rw[h,vV _ (qr k)]
theorem IV(I:AM w)(P:x<18446744073709551616)(R:y<18446744073709551616) :
 Calls prog 242 #[.int .u64 x,.int .u64 y] w fun e w'=>e = .returned (.int .u64 (Nat.gcd x y:Nat))/\w=w':=by
 have c:=wQ x y P R;by_cases h0:x=0
 · subst h0;have A:bits BinOp.or IntKind.u64 0 (y:Int)=(y:Int):=by
    rw[Nat.zero_or]at c;exact c
   rw[Nat.gcd_zero_left];clear c
   go_enter func242,ntmps242
   go_wp2;go_ret;exact⟨rfl,rfl⟩
 by_cases h1:y=0
 · subst h1;have A:bits BinOp.or IntKind.u64 (x:Int) 0=(x:Int):=by
    rw[Nat.or_zero]at c;exact c
   rw[tS];have Y:((x:Int) == 0)=false:=by simpa using h0
   clear c
   go_enter func242,ntmps242
   go_wp2;go_ret;exact⟨rfl,rfl⟩
 have Y:((x:Int) == 0)=false:=by simpa using h0
 have L:((y:Int) == 0)=false:=by simpa using h1
 have z:x ||| y<18446744073709551616:=Nm P R
 have v:0<x ||| y:=by
  rcases pT (x ||| y)with h|h
  · exact absurd (Nat.or_eq_zero_iff.1 h).1 h0
  · exact h
 obtain⟨s,m,hs,C,n⟩:=Qo v z;obtain⟨a,d,Z,i,r⟩:=Qo (x:=x) (by omega) P;have E:Hid (Nat.gcd x y=2^s*Nat.gcd (2*d+1) y):=lz (W.gcd_split i (by omega) C);have Q:(x:Int)/2^a=((2*d+1:Nat):Int):=by
  have:=RA i;rw[<-this];push_cast;rfl
 have D:2*d+1<18446744073709551616:=by
  have:1*(2*d+1)<=2^a*(2*d+1):=px _ (qr a);omega
 clear C i;generalize x ||| y=o at *
 go_enter func242,ntmps242
 go_wp2_with fail
 refine(n _ I).mono ?_;rintro e S ⟨rfl,rfl⟩
 go_wp2_with fail
 refine(r _ I).mono ?_;rintro e S ⟨rfl,rfl⟩;go_wp2;have M:Hid (Nat.gcd (2*d+1) y=Nat.gcd (2*d+1) y):=lz rfl;obtain⟨G,H⟩:∃ G,Nat.gcd (2*d+1) y=G:=⟨_,rfl⟩;have j:=lz H;have K:2^s*G<18446744073709551616:=by
  rw[<-H,<-E.out];have:=tR (by omega) (sZ x y);omega
 rw[H]at E;clear M H n r Q c
 go_loop[0,1] (fun T U=>∃ p q:Nat,T = .int .u64 (2*(p:Int)+1)/\U = .int .u64 q/\2*p+1<18446744073709551616/\q<18446744073709551616/\Hid (Nat.gcd (2*p+1) q=G)) (fun T U=>(intOf T+intOf U).toNat)
 case atStart=>exact⟨d,y,rfl,rfl,D,R,j⟩
 case round =>
  clear j D Y L h0 h1 z v Z;obtain⟨p,q,rfl,rfl,hp,hq,F⟩:=hrel;by_cases B:q=0
  · subst B;have V:Hid (2*p+1=G):=by show _=_;have:=F.out;rw[tS]at this;exact this
    have O:IntKind.u64.wrap ((2*(p:Int)+1)*2^s)=((Nat.gcd x y:Nat):Int):=by
     have h1:(2*(p:Int)+1)*2^s=((2^s*G:Nat):Int):=by
      rw[<-V.out];push_cast;exact Int.mul_comm _ _
     rw[h1,E.out];exact Au rfl K
    obtain⟨X,f⟩:∃ X,Nat.gcd x y=X:=⟨_,rfl⟩;rw[f]at O;have J:=lz f;clear F V E f;go_wp2;go_ret;exact⟨by rw[J.out];rfl,rfl⟩
  · obtain⟨k,b,hk,g,t⟩:=Qo (x:=q) (by omega) hq;have a2:((q:Int) != 0)=true:=by simpa using B
    have a3:(q:Int)/2^k=2*(b:Int)+1:=by
     have:=RA g;have h2:(q:Int)/2^k=((q/2^k:Nat):Int):=by push_cast;rfl
     rw[h2,this];push_cast;rfl
    have a1:2*b+1<=q:=by
     have:1*(2*b+1)<=2^k*(2*b+1):=px _ (qr k);omega
    have l:Hid (Nat.gcd (2*p+1) (2*b+1)=G):=by
     show _=_;have:=F.out;rw[g,W.gcd_two_right (by omega)]at this;exact this
    clear F g;by_cases a0:b<p
    · have N:2*(b:Int)+1<2*(p:Int)+1:=by omega
      have hw:IntKind.u64.wrap (2*(p:Int)+1-(2*(b:Int)+1))=((2*(p-b):Nat):Int):=by
       rw[rz];omega
      go_wp2_with fail
      refine(t _ I).mono ?_;rintro e S ⟨rfl,rfl⟩;go_wp2;go_round
      case rel =>
       refine⟨b,2*(p-b),rfl,rfl,by omega,by omega,lz ?_⟩;rw[<-l.out,sd (2*p+1),show 2*(p-b)=2*p+1-(2*b+1) by omega];exact W.gcd_swap (by omega)
      case measure=>simp[intOf];omega
    · have N:¬ (2*(b:Int)+1<2*(p:Int)+1):=by omega
      have hw:IntKind.u64.wrap (2*(b:Int)+1-(2*(p:Int)+1))=((2*(b-p):Nat):Int):=by
       rw[rz];omega
      go_wp2_with fail
      refine(t _ I).mono ?_;rintro e S ⟨rfl,rfl⟩;go_wp2;go_round
      case rel =>
       refine⟨p,2*(b-p),rfl,rfl,by omega,by omega,lz ?_⟩;rw[<-l.out,show 2*(b-p)=2*b+1-(2*p+1) by omega];exact W.gcd_swap (by omega)
      case measure=>simp[intOf];omega
section
variable {P:Program} {c:Code} {Q:Exit->Act->World->Prop} {f:Act} {w:World}
theorem AP(h:∀ a,Ext w a->Arr a w.heap.size t cs.toList->a.heap.size=w.heap.size+1->Code.wp P c Q f a):Code.wp P c Q f (w.alloc (.cells cs t)) :=
 h _ ((Ext.refl w).alloc _) (Arr.new w t cs.toList) (by simp)
theorem Cf(h:∀ a,Ext w a->Arr a w.heap.size t cs.toList->Arr a (w.heap.size+1) t' cs'.toList->a.heap.size=w.heap.size+2->Code.wp P c Q f a):Code.wp P c Q f ((w.alloc (.cells cs t)).alloc (.cells cs' t')) :=
 h _ (((Ext.refl w).alloc _).alloc _) ((Arr.new w t cs.toList).alloc _) (by have:=Arr.new (w.alloc (.cells cs t)) t' cs'.toList;simpa using this) (by simp)
theorem CO(h:∀ a,Ext w a->Arr a w.heap.size t cs.toList->Arr a (w.heap.size+1) t' cs'.toList->Arr a (w.heap.size+2) t'' cs''.toList->a.heap.size=w.heap.size+3->Code.wp P c Q f a):Code.wp P c Q f (((w.alloc (.cells cs t)).alloc (.cells cs' t')).alloc (.cells cs'' t'')) :=
 h _ ((((Ext.refl w).alloc _).alloc _).alloc _) (((Arr.new w t cs.toList).alloc _).alloc _) (by have:=(Arr.new (w.alloc (.cells cs t)) t' cs'.toList).alloc (.cells cs'' t'');simpa using this) (by have:=Arr.new ((w.alloc (.cells cs t)).alloc (.cells cs' t')) t'' cs''.toList;simpa using this) (by simp)
theorem V9(h:∀ a,Ext w a->Arr a w.heap.size t cs.toList->Arr a (w.heap.size+1) t' cs'.toList->Arr a (w.heap.size+2) t'' cs''.toList->Arr a (w.heap.size+3) t3 cs3.toList->a.heap.size=w.heap.size+4->Code.wp P c Q f a):Code.wp P c Q f ((((w.alloc (.cells cs t)).alloc (.cells cs' t')).alloc (.cells cs'' t'')).alloc (.cells cs3 t3)) :=
 h _ (((((Ext.refl w).alloc _).alloc _).alloc _).alloc _) ((((Arr.new w t cs.toList).alloc _).alloc _).alloc _) (by have:=((Arr.new (w.alloc (.cells cs t)) t' cs'.toList).alloc (.cells cs'' t'')).alloc (.cells cs3 t3);simpa using this) (by have:=(Arr.new ((w.alloc (.cells cs t)).alloc (.cells cs' t')) t'' cs''.toList).alloc (.cells cs3 t3);simpa using this) (by have:=Arr.new (((w.alloc (.cells cs t)).alloc (.cells cs' t')).alloc (.cells cs'' t'')) t3 cs3.toList;simpa using this) (by simp)
end
section
variable {P:Program} {w:World}
theorem Qp{cs:List Value}(a:Agg P ty cs.length)(h:Arr w g t cs):(loadVar ty ⟨g,0,none⟩).run P w = .ok (.agg cs.toArray) w:=by
 obtain⟨d,hu,b,c⟩:=a.parts;exact run_loadVar_row (P:=P) w g t ty cs.toArray (0,0) d h hu (by cases d <;> first | rfl | exact absurd b (by simp)) (by simpa using c)
theorem Np{f:Func}{p q:Tmp}(l:f.results=#[.cell p ty,.cell q ty']){a:Array Value}{g b:Nat}{t t':TypeId}{cs cs':List Value}(j:Agg P ty cs.length)(c:Agg P ty' cs'.length)
 (hp:a.getD p undef = .pointer (some ⟨g,0,none⟩)) (k:a.getD q undef = .pointer (some ⟨b,0,none⟩)) (h:Arr w g t cs) (i:Arr w b t' cs'):(results f a).run P w = .ok (.tuple #[.agg cs.toArray,.agg cs'.toArray]) w:=by
 have d:a[p]?.getD undef = .pointer (some ⟨g,0,none⟩):=by simpa using hp
 have e:a[q]?.getD undef = .pointer (some ⟨b,0,none⟩):=by simpa using k
 simp[results,l,d,e,asAddr,Qp j h,Qp c i]
theorem Ao{d:Func}{p q:Tmp}(i:d.results=#[.cell p ty,.tmp q]){a:Array Value}{g:Nat}{t:TypeId}{cs:List Value}{v:Value}(e:Agg P ty cs.length)
 (hp:a.getD p undef = .pointer (some ⟨g,0,none⟩)) (f:a.getD q undef=v) (h:Arr w g t cs):(results d a).run P w = .ok (.tuple #[.agg cs.toArray,v]) w:=by
 have b:a[p]?.getD undef = .pointer (some ⟨g,0,none⟩):=by simpa using hp
 have c:a[q]?.getD undef=v:=by simpa using f
 simp[results,i,b,c,asAddr,Qp e h]
end
end Go.Proofs.YtlbmnokpiilfpaaGreatDoor
