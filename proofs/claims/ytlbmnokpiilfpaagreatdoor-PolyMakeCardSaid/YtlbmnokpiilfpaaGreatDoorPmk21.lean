/- Part Pmk21. -/
import Derived.Test.YtlbmnokpiilfpaaGreatDoorPmk20
import Derived.Test.YtlbmnokpiilfpaaGreatDoorPmk4
import Derived.Test.YtlbmnokpiilfpaaGreatDoorPmk5
import Derived.Test.YtlbmnokpiilfpaaGreatDoorPmk9
set_option maxRecDepth 100000
set_option maxHeartbeats 100000000
namespace Go.Proofs.YtlbmnokpiilfpaaGreatDoor
open Tryz Go Go.RowKit
variable {neg:Bool} {z:Int} {xs:List Nat} {cs:List Value} {R c d dd m n s u x y:Nat} {a b:Option Addr} {t:TypeId} {v v':Value} {w w' w1 w9:World}
theorem IK (U:Mg w a n c x) (V:Mg w b m d y) (bn:n<=100000) (bm:m<=100000) :
 Calls prog 211 #[.slice a n c, .slice b m d] w (QD w (x*y)):=by
 have z1:=U.zero;have z2:=V.zero;obtain ⟨xs,U,nx,-⟩:=U;obtain ⟨H,V,ny,-⟩:=V;by_cases h0:n=0\/m=0
 · have HZ:Hid (x*y=0):=by
    show _=_;rcases h0 with h0|h0
    · rw [z1.1 h0,Nat.zero_mul]
    · rw [z2.1 h0,Nat.mul_zero]
   have G:((n:Int) == 0)=true\/(((n:Int) == 0)=false/\((m:Int) == 0)=true):=by
    by_cases h1:n=0
    · left; simp [h1]
    · right; exact ⟨by simpa using h1,by simp; omega⟩
   clear h0 z1 z2;rcases G with hp|⟨hp,af⟩
   all_goals
    go_enter func211,ntmps211
    go_wp2;go_ret;exact ⟨none,0,0,rfl,Ext.refl w,by rw [HZ.out]; exact Mg.nil w⟩
 · have a1:((n:Int) == 0)=false:=by simp; omega
   have a2:((m:Int) == 0)=false:=by simp; omega
   have BX:=nx.bnd;have BY:=ny.bnd;have VX:=qh nx.val;have VY:=qh ny.val;have HX:=qh U.len;have HY:=qh V.len;clear h0 z1 z2 nx ny
   go_enter func211,ntmps211
   go_upto_region 4 with (at_make; refine Cs (n:=n+m) rfl rfl underlying95 BP rfl rfl rfl (by omega) (by unfold maxLen; omega) ?_; intro w1 M L)
   clear a1 a2;go_wp2
   go_loopw [6] (fun iv wr=>∃ (i:Nat) (f:List Nat),iv = .int .i64 i/\i<=n/\Ext w wr/\Av .u32 wr w.heap.size 241 w.heap.size (n+m) (n+m) f/\W.bnd 4294967296 f/\Hid (W.val 4294967296 f=W.val 4294967296 (xs.take i)*y)/\Hid (∀ j,i+m<=j->f.getD j 0=0)) (fun iv _=>n-(intOf iv).toNat)
   case atStart=>exact ⟨0,List.replicate (n+m) 0,rfl,Nat.zero_le _,L,Av.of_zeros M,ER (by omega) _,qh (by rw [W.val_zeros]; simp [W.val]),qh (fun j _=>DD _ j)⟩
   case round =>
    clear M L;obtain ⟨i,X,rfl,hi,D,r,C,A,I⟩:=hrel;by_cases F:i<n
    · have R:(i:Int)<n:=by omega
      obtain ⟨b1,o1,rfl,N⟩:=(U.ext (Ext.refl w)).at (j:=i) F;have gx:=N i F;have a7:=W.bnd_at BX (i:=i) (by rw [HX.out]; exact F);have HT:Hid (W.val 4294967296 (xs.take (i+1))=W.val 4294967296 (xs.take i)+4294967296^i*xs.getD i 0):=qh (Bf xs i);generalize xs.getD i 0=u at *
      clear N;go_wp2
      go_loopw [7,8] (fun cv kv wr=>∃ (k p:Nat) (f:List Nat),cv = .int .u64 p/\kv = .int .i64 k/\k<=m/\p<4294967296/\Ext w wr/\Av .u32 wr w.heap.size 241 w.heap.size (n+m) (n+m) f/\W.bnd 4294967296 f/\Hid (W.val 4294967296 f+p*4294967296^(i+k)=W.val 4294967296 (xs.take i)*y+u*W.val 4294967296 (H.take k)*4294967296^i)/\Hid (∀ j,i+m<=j->f.getD j 0=0)) (fun _ kv _=>m-(intOf kv).toNat)
      case atStart=>exact ⟨0,0,X,rfl,rfl,Nat.zero_le _,by omega,D,r,C,qh (by rw [A.out]; simp [W.val]),I⟩
      case round =>
       clear D r C A I;obtain ⟨k,p,f,rfl,rfl,hk,P,K,z,bz,Y,Z⟩:=hrel;by_cases E:k<m
       · have ab:(k:Int)<m:=by omega
         obtain ⟨b2,o2,rfl,O⟩:=(V.ext K).at (j:=k) E;have g1:=K.cell gx;have g2:=O k E;have g3:=z.cell (i:=i+k) (by omega);have g4:=z.frozen (i+k);have a8:=W.bnd_at BY (i:=k) (by rw [HY.out]; exact E);have a9:=W.bnd_at bz (i:=i+k) (by rw [z.len]; omega);have Q:=T0 a7 a8 a9 P;have HS:=qh (QC (B:=4294967296) (l:=f) (xs:=H) (k:=k) (o:=i) (w:=u) (s:=(u*H.getD k 0+f.getD (i+k) 0+p)%4294967296) (c':=(u*H.getD k 0+f.getD (i+k) 0+p)/4294967296) (by rw [z.len]; omega) Y.out (by rw [Nat.mod_add_div]; omega))
         have a6:IntKind.i64.wrap ((i:Int)+k)=((i+k:Nat):Int):=by rw [<-Int.natCast_add]; exact IntWalk.i64_in _ (by omega)
         obtain ⟨t,T⟩:∃ t,u*H.getD k 0+f.getD (i+k) 0+p=t:=⟨_,rfl⟩;rw [T] at HS Q;generalize H.getD k 0=v at *
         generalize f.getD (i+k) 0=o at *
         have a3:t/4294967296<4294967296:=by omega
         have a5:t%4294967296<4294967296:=Nat.mod_lt _ (by omega);have J:Hid (IntKind.u64.wrap ((p:Int)+IntKind.u64.wrap (IntKind.u64.wrap ((u:Int)*v)+o))=(t:Int)):=by
          show _=_;rw [<-Int.natCast_mul,CF (by omega),<-Int.natCast_add,CF (by omega),<-Int.natCast_add,Nat.add_comm,T,CF (by omega)]
         clear T O;have f1:(t:Int)%4294967296=((t%4294967296:Nat):Int):=by omega
         have f2:(t:Int)/4294967296=((t/4294967296:Nat):Int):=by omega
         have a4:(i:Int)+k<n+m:=by omega
         go_upto_region 11 with (fail)
         go_quiet (fail)
         rw [J.out];have a0:=K.drewN nq;have aa:=z.drewN nq;have ac:(wr.drewN nq).cell? _=_:=g3;have ad:(wr.drewN nq).frozen? _=_:=g4;generalize wr.drewN nq=wq at *
         generalize t%4294967296=s at *
         generalize t/4294967296=c2 at *
         clear J g1 g2 g3 g4 K z Y;go_wp2;go_roundw
         case rel=>exact ⟨k+1,c2,f.set (i+k) s,rfl,by go_num,by omega,a3,a0.setCell (lrf _) _,aa.set (i+k) s,W.bnd_set bz a5,HS,qh (fun j hj=>by rw [gqq,List.getElem?_set_ne (by omega),<-gqq]; exact Z.out j hj)⟩
         case measure=>simp [intOf]; omega
       · have S:k=m:=by omega
         subst S;have g3:=z.cell (i:=i+k) (by omega);have g4:=z.frozen (i+k);have g:=qh (Ol (by rw [z.len]; omega) (Z.out (i+k) (by omega)) Y.out);have a6:IntKind.i64.wrap ((i:Int)+k)=((i+k:Nat):Int):=by rw [<-Int.natCast_add]; exact IntWalk.i64_in _ (by omega)
         have a4:(i:Int)+k<n+k:=by omega
         have ae:(p:Int)%4294967296=(p:Int):=by omega
         go_wp2;go_roundw
         case rel =>
          refine ⟨i+1,f.set (i+k) p,by go_num,by omega,K.setCell (lrf _) _,z.set (i+k) p,W.bnd_set bz P, ?_,qh (fun j hj=>by rw [gqq,List.getElem?_set_ne (by omega),<-gqq]; exact Z.out j (by omega))⟩;show _=_;rw [g.out,HT.out,List.take_of_length_le (l:=H) (by rw [HY.out]; exact lrf _),VY.out,Nat.add_mul,Nat.mul_comm (4294967296^i) u,Nat.mul_right_comm]
         case measure=>simp [intOf]; omega
    · have R:i=n:=by omega
      subst R;have g:Hid (W.val 4294967296 X=x*y):=by
       show _=_;rw [A.out,List.take_of_length_le (by rw [HX.out]; exact lrf _),VX.out]
      go_wp2_with fail
      refine (BB r.sl).mono ?_;rintro e w6 ⟨q,rfl,rfl,hq,T⟩;go_wp2;go_ret;exact ⟨_,q,_,rfl,D,CG r.sl r.ty hq T C g.out⟩
theorem Tk {r:Nat} (a:r<4294967296) (hu:u<4294967296):bits BinOp.or IntKind.u64 ((r:Int)*4294967296) (u:Int)=((r*4294967296+u:Nat):Int):=by
 have h:=u64_or_nat (r*4294967296) u (by omega) (by omega);rw [nat_join 32 (r*4294967296) u (by omega) (by omega)] at h;rw [<-h,Int.natCast_mul];rfl
theorem E7 (v:Mg w a n c x) (bn:n<=100000) (h0:0<dd) (hd:dd<4294967296) :
 Calls prog 223 #[.slice a n c, .int .u32 dd] w fun e M=>∃ L K,e = .returned (.tuple #[.slice (some ⟨w.heap.size,0,none⟩) L K, .int .u32 ((x%dd:Nat):Int)])/\Ext w M/\Mg M (some ⟨w.heap.size,0,none⟩) L K (x/dd):=by
 obtain ⟨xs,v,I,-⟩:=v;have N:=I.bnd;have S:=qh I.val;have z:=qh v.len;have O:=qh h0;clear I
 go_enter func223,ntmps223
 go_upto_region 2 with (at_make; refine Cs (n:=n) rfl rfl underlying95 BP rfl rfl rfl (by omega) (by unfold maxLen; omega) ?_; intro w1 l g)
 go_wp2
 go_loopw [7,8] (fun Z H wr=>∃ (k r:Nat) (zs:List Nat),Z = .int .u64 r/\H = .int .i64 ((k:Int)-1)/\k<=n/\r<dd/\Ext w wr/\Av .u32 wr w.heap.size 241 w.heap.size n n zs/\W.bnd 4294967296 zs/\Hid (W.val 4294967296 (xs.drop k)=W.val 4294967296 (zs.drop k)*dd+r)) (fun _ H _=>(intOf H+1).toNat)
 case atStart=>exact ⟨n,0,List.replicate n 0,rfl,by go_num,lrf _,h0,g,Av.of_zeros l,ER (by omega) _,qh (by rw [List.drop_of_length_le (by rw [z.out]; exact lrf _),List.drop_of_length_le (by simp)]; simp [W.val])⟩
 case round =>
  clear l g;obtain ⟨k,r,zs,rfl,rfl,hk,D,A,f,J,s⟩:=hrel;cases k with
  | zero =>
   have C:W.val 4294967296 zs=x/dd/\r=x%dd:=by
    have h1:=s.out;rw [List.drop_zero,List.drop_zero,S.out] at h1;rw [h1];constructor
    · rw [Nat.mul_comm,Nat.mul_add_div (O.out),Nat.div_eq_of_lt D,Nat.add_zero]
    · rw [Nat.mul_comm,Nat.mul_add_mod,Nat.mod_eq_of_lt D]
   obtain ⟨o,b⟩:=C;have Q:=qh o;have R:=qh b;clear o b s;have X:(r:Int)%4294967296=(r:Int):=by omega
   go_wp2_with fail
   refine (BB f.sl).mono ?_;rintro e w6 ⟨q,rfl,rfl,C,p⟩;go_wp2
   go_ret2
   exact ⟨q,_,by rw [R.out]; rfl,A,CG f.sl f.ty C p J Q.out⟩
  | succ k =>
   obtain ⟨b1,o1,rfl,m⟩:=(v.ext A).at (j:=k) (by omega);have g1:=m k (by omega);have g3:=f.frozen k;have g4:=f.cell (i:=k) (by omega);have G:=W.bnd_at N (i:=k) (by rw [z.out]; omega);have F:((k+1:Nat):Int)-1=k:=by omega
   rw [F];have U:(k:Int)<n:=by omega
   generalize hu:xs.getD k 0=u at *
   clear m;obtain ⟨t,p⟩:∃ t,r*4294967296+u=t:=⟨_,rfl⟩;have e1:bits BinOp.or IntKind.u64 ((r:Int)*4294967296) (u:Int)=(t:Int):=by rw [Tk (by omega) G,p]
   have e2:(t:Int).tdiv (dd:Int)=((t/dd:Nat):Int):=by rw [Int.tdiv_eq_ediv_of_nonneg (by omega)]; rfl
   have e3:(t:Int).tmod (dd:Int)=((t%dd:Nat):Int):=by rw [Int.tmod_eq_emod_of_nonneg (by omega)]; rfl
   have hd0:((dd:Int) == 0)=false:=by simp; omega
   have T:¬ (dd:Int)=0:=by omega
   have E:t%dd<dd:=Nat.mod_lt _ h0;have b:t/dd<4294967296:=by
    refine Nat.div_lt_of_lt_mul ?_;have h1:(r+1)*4294967296<=dd*4294967296:=Nat.mul_le_mul_right _ D;omega
   have P:=qh (I5 (B:=4294967296) (xs:=xs) (zs:=zs) (k:=k) (q:=t/dd) (r':=t%dd) (d:=dd) (by rw [z.out]; omega) (by rw [f.len]; omega) s.out (by rw [hu,p,Nat.mul_comm]; exact (Nat.div_add_mod t dd).symm));generalize t%dd=Y at *
   generalize t/dd=y at *
   have V:(y:Int)%4294967296=(y:Int):=by omega
   clear p s hu;go_wp2;go_roundw
   case rel=>exact ⟨k,Y,zs.set k y,rfl,by go_num,by omega,E,A.setCell (lrf _) _,f.set k y,W.bnd_set J b,P⟩
   case measure=>simp [intOf]
theorem KJ (k:Mg w a n c x) (i:n<=100000) (h0:0<dd) (j:dd<4294967296) :
 Calls prog 223 #[.slice a n c, .int .u32 dd] w fun e g=>∃ f d b,e = .returned (.tuple #[.slice f d b, .int .u32 ((x%dd:Nat):Int)])/\Ext w g/\Mg g f d b (x/dd) :=
 (E7 k i h0 j).mono fun _ _ ⟨d,b,h⟩=>⟨_,d,b,h⟩
theorem JV (a:s<=32):2^(32-s)*2^s=4294967296:=by rw [<-Nat.pow_add,show 32-s+s=32 by omega]
theorem T3 (a:s<=31) (hu:u<4294967296):∃ L V:Nat,u*2^s=V*4294967296+L/\L<4294967296/\V<2^s/\L%2^s=0/\V=u*2^s/4294967296/\L=u*2^s%4294967296/\u*2^s<18446744073709551616:=by
 have hp:=JV (s:=s) (by omega);have h1:u*2^s<4294967296*2^s:=Nat.mul_lt_mul_of_pos_right hu (Nat.two_pow_pos s);have h2:2^s<=2^31:=Nat.pow_le_pow_right (by omega) a;have h3:4294967296*2^s<=4294967296*2^31:=Nat.mul_le_mul_left _ h2;refine ⟨u*2^s%4294967296,u*2^s/4294967296, ?_,Nat.mod_lt _ (by omega), ?_, ?_,rfl,rfl,by omega⟩
 · rw [Nat.mul_comm (u*2^s/4294967296)]; exact (Nat.div_add_mod _ _).symm
 · exact Nat.div_lt_of_lt_mul h1
 · rw [<-hp,Nat.mod_mul_left_mod,Nat.mul_mod_left]
theorem E8 (U:SlN .u32 w a n c xs) (Y:W.bnd 4294967296 xs) (bn:n<=100000) (hs:s<=31) :
 Calls prog 299 #[.slice a n c, .int .u64 s] w fun e X=>∃ b,e = .returned (.slice (some ⟨w.heap.size,0,none⟩) (n+1) (n+1))/\Ext w X/\Av .u32 X w.heap.size 241 w.heap.size (n+1) (n+1) b/\W.bnd 4294967296 b/\W.val 4294967296 b=W.val 4294967296 xs*2^s:=by
 have I:=qh U.len
 go_enter func299,ntmps299
 go_upto_region 2 with (at_make; refine Cs (n:=n+1) rfl rfl underlying95 BP rfl rfl rfl (by omega) (by unfold maxLen; omega) ?_; intro w1 r m)
 go_wp2
 go_loopw [6] (fun R wr=>∃ (k:Nat) (b:List Nat),R = .int .i64 k/\k<=n/\Ext w wr/\Av .u32 wr w.heap.size 241 w.heap.size (n+1) (n+1) b/\W.bnd 4294967296 b/\Hid (W.val 4294967296 b=W.val 4294967296 (xs.take k)*2^s)/\Hid (∀ j,k<j->b.getD j 0=0)/\Hid (b.getD k 0<2^s)) (fun R _=>n-(intOf R).toNat)
 case atStart=>exact ⟨0,List.replicate (n+1) 0,rfl,Nat.zero_le _,m,Av.of_zeros r,ER (by omega) _,qh (by rw [W.val_zeros]; simp [W.val]),qh (fun j _=>DD _ j),qh (by rw [DD]; exact Nat.two_pow_pos s)⟩
 case round =>
  clear r m;obtain ⟨k,b,rfl,hk,K,f,J,H,C,S⟩:=hrel;by_cases d:k<n
  · obtain ⟨b1,o1,rfl,y⟩:=(U.ext K).at (j:=k) d;have g1:=y k d;have g2:=f.cell (i:=k) (by omega);have g3:=f.frozen k;have g4:=f.frozen (k+1);have g5:=f.cell (i:=k+1) (by omega);rw [C.out (k+1) (by omega)] at g5;have P:=W.bnd_at Y (i:=k) (by rw [I.out]; exact d);obtain ⟨L,V,g,o,M,A,x,p,q⟩:=T3 hs P;have Z:=qh (Mx (B:=4294967296) (l:=b) (xs:=xs) (k:=k) (s:=s) (L:=L) (V:=V) (by rw [f.len]; omega) (by rw [I.out]; exact d) H.out (C.out _ (by omega)) g);have Q:b.getD k 0<4294967296:=W.bnd_at J (i:=k) (by rw [f.len]; omega)
    have F:Hid (∀ v j,k+1<j->((b.set k v).set (k+1) V).getD j 0=0):=by
     show ∀ v j,k+1<j->((b.set k v).set (k+1) V).getD j 0=0;intro v j hj;rw [gqq,List.getElem?_set_ne (by omega),List.getElem?_set_ne (by omega),<-gqq];exact C.out j (by omega)
    have G:Hid (∀ v,((b.set k v).set (k+1) V).getD (k+1) 0<2^s):=by
     show ∀ v,((b.set k v).set (k+1) V).getD (k+1) 0<2^s;intro v;rw [gqq,List.getElem?_set_self (by rw [List.length_set,f.len]; omega)];exact M
    have O:b.getD k 0+L<4294967296:=by
     have h1:=JV (s:=s) (by omega);have h2:L/2^s*2^s+L%2^s=L:=Nat.div_add_mod' L (2^s);have h3:L/2^s<2^(32-s):=Nat.div_lt_of_lt_mul (by rw [Nat.mul_comm,h1]; exact o);have h4:(L/2^s+1)*2^s<=2^(32-s)*2^s:=Nat.mul_le_mul_right _ h3;rw [Nat.add_mul,Nat.one_mul] at h4;have h5:=S.out;omega
    have e3:bits BinOp.or IntKind.u32 ((b.getD k 0:Nat):Int) (L:Int)=((b.getD k 0+L:Nat):Int):=by
     rw [u32_or_nat _ L Q o,Nat.or_comm,nat_join s L (b.getD k 0) A S.out,Nat.add_comm]
    generalize xs.getD k 0=u at *
    obtain ⟨t,D⟩:∃ t,u*2^s=t:=⟨_,rfl⟩;have e1:IntKind.u64.wrap ((u:Int)*2^s)=(t:Int):=by
     have:=CF q;rw [D] at this;rw [<-this,<-D];push_cast;rfl
    rw [D] at g x p q;have e2:(t:Int)%4294967296=(L:Int):=by omega
    have e4:(t:Int)/4294967296=(V:Int):=by omega
    have N:V<4294967296:=by omega
    have a0:(V:Int)%4294967296=(V:Int):=by omega
    generalize b.getD k 0+L=E at *
    generalize b.getD k 0=z at *
    have a1:(k:Int)<n:=by omega
    have T:(k:Int)<(n:Int)+1:=by omega
    clear y g x p D H C;go_wp2;go_roundw
    case rel=>exact ⟨k+1,(b.set k E).set (k+1) V,by go_num,by omega,(K.setCell (lrf _) _).setCell (lrf _) _,(f.set k E).set (k+1) V,W.bnd_set (W.bnd_set J O) N,Z,qh (F.out E),qh (G.out E)⟩
    case measure=>simp [intOf]; omega
  · have ek:k=n:=by omega
    have hv:W.val 4294967296 b=W.val 4294967296 xs*2^s:=by
     have h1:=H.out;rw [ek,List.take_of_length_le (by rw [I.out]; exact lrf _)] at h1;exact h1
    go_wp2;go_ret;exact ⟨b,rfl,K,f,J,hv⟩
def Hr (w:World) (q r:Nat) (e:Ending) (w':World):Prop:=∃ a n c b m d,e = .returned (.tuple #[.slice a n c, .slice b m d])/\Ext w w'/\Mg w' a n c q/\Mg w' b m d r
theorem Jq (l:Mg w a n c x) (J:Mg w b m d y) (N:n<=100000) (i:x<y) :
 Calls prog 258 #[.slice a n c, .slice b m d] w (Hr w (x/y) (x%y)):=by
 have r:=qh (Ea l J);have G:AN (x:Int) (y:Int)<0:=CP.2 i;rw [Nat.div_eq_of_lt i,Nat.mod_eq_of_lt i]
 go_enter func258,ntmps258
 go_wp2_with fail
 refine r.out.mono ?_;rintro e o ⟨rfl,D⟩;generalize AN (x:Int) (y:Int)=O at *
 have F:=fun L:World=>LX (P:=prog) (w:=L) underlying95 BP;obtain ⟨M,l,K,-⟩:=l;have f:=D.ext;have t:=l.ext (f.trans ((Ext.refl o).alloc (.cells #[] 241)));have q:=Az o o.heap.size 241 #[] 0 rfl (lrf _) (by omega)
 go_wp2_with (refine Bj rfl rfl underlying95 BP rfl rfl q rfl t (by intro v I; obtain ⟨z,_,rfl⟩:=List.mem_map.1 I; rfl) (by unfold maxLen; omega) (by omega) (by simp) ?_; intro B C A k s E)
 have j:=(Ext.refl o).alloc (.cells #[] 241)
 have p:Ext w A:=(f.trans j).grown s fun g h=>by
  simp only [blk,Option.map_some,Option.some.injEq] at h;have:=f.size;have:=j.size;omega
 have H:Mg A B n C x:=⟨M,by have h1:=k.sl; rw [Nat.zero_add] at h1; exact h1,K,k.ty⟩
 go_ret2
 exact ⟨none,0,0,B,n,C,rfl,p,Mg.nil A,H⟩
theorem IL (E:Mg w a n c x) (C:Mg w b 1 d y) (F:n<=100000) (L:y<=x) (h0:0<y) :
 Calls prog 258 #[.slice a n c, .slice b 1 d] w (Hr w (x/y) (x%y)):=by
 have A:=qh (Ea E C);have J:¬ AN (x:Int) (y:Int)<0:=by rw [CP]; omega
 have m:y<4294967296:=by
  obtain ⟨D,h1,h2,-⟩:=C;have h3:=W.val_lt h2.bnd;rw [h2.val,h1.len] at h3;exact h3
 obtain ⟨f,o,rfl,G⟩:∃ f o,b=some ⟨f,o,none⟩/\w.cell? ⟨f,o,none⟩=some (.int .u32 (y:Int)):=by
  obtain ⟨D,h1,h2,-⟩:=C;obtain ⟨f,o,rfl,I⟩:=h1.at (j:=0) (by omega);refine ⟨f,o,rfl, ?_⟩;have h3:=I 0 (by omega);have h4:D.getD 0 0=y:=by
   have h5:=h1.len
   match D,h5 with
   | [z],_=>have h6:=h2.val; simp [W.val] at h6; simpa using h6
  rw [h4] at h3;exact h3
 go_enter func258,ntmps258
 go_wp2_with fail
 refine A.out.mono ?_;rintro e V ⟨rfl,s⟩;generalize AN (x:Int) (y:Int)=T at *
 have H:=s.ext.cell G;have B:=qh (KJ (E.ext s.ext) F h0 m)
 go_wp2_with fail
 refine B.out.mono ?_;rintro e p ⟨R,U,S,rfl,q,N⟩;have O:x%y<4294967296:=Nat.lt_trans (Nat.mod_lt _ h0) m;generalize x%y=r at *
 go_upto_region 5 with (fail)
 have i:=(Az p p.heap.size 241 #[.int .u32 (r:Int)] 1 rfl (lrf _) (by omega));have l:SlN .u32 (p.alloc (.cells #[.int .u32 (r:Int)] 241)) (some ⟨p.heap.size,0,none⟩) 1 1 [r]:=i.sl
 go_wp2_with fail
 refine (BB l).mono ?_;rintro e X ⟨k,rfl,rfl,K,P⟩;have t:W.bnd 4294967296 [r]:=fun z Q=>by rw [List.mem_singleton.1 Q]; exact O
 have M:=CG l i.ty K P t (v:=r) (by simp [W.val]);have g:=(Ext.refl p).alloc (.cells #[.int .u32 (r:Int)] 241);go_wp2
 go_ret2
 exact ⟨_,_,_,_,_,_,rfl,(s.ext.trans q).trans g,N.ext g,M⟩
theorem AT:Agg prog 97 2:=⟨by kernel_rfl,by kernel_rfl⟩
theorem Mg.len {w:World} {a:Option Addr} {n c x:Nat} (h:Mg w a n c x) {k:Nat} (b:x<P2 (32*k)):n<=k:=by
 obtain ⟨d,h1,h2,-⟩:=h;unfold P2 at b;rw [Nat.pow_mul] at b;have h3:=W.nrm_len (B:=4294967296) (by omega) h2.nrm (by rw [h2.val]; exact b);rw [h1.len] at h3;exact h3
theorem Mg.pos (h:Mg w a n c x) (h0:0<x):0<n:=by
 have:=h.zero;omega
def ZR (w:World) (v:Value) (z:Int):Prop:=∃ s a n c,v = .agg (Ac s a n c).toArray/\Hid (decide (z<0)=s)/\Mg w a n c z.natAbs
theorem ZR.ext {w b:World} {v:Value} {z:Int} (h:ZR w v z) (e:Ext w b):ZR b v z:=by
 obtain ⟨s,a,n,c,h1,d,h2⟩:=h;exact ⟨s,a,n,c,h1,d,h2.ext e⟩
def KK (w:World) (z:Int) (e:Ending) (w':World):Prop:=∃ s a n c,e = .returned (.agg (Ac s a n c).toArray)/\Ext w w'/\Hid (decide (z<0)=s)/\Mg w' a n c z.natAbs
theorem KK.r {e:Ending} (h:KK w z e w'):∃ v,e = .returned v/\Ext w w'/\ZR w' v z:=by
 obtain ⟨s,a,n,c,h1,h2,h3,h4⟩:=h;exact ⟨_,h1,h2,s,a,n,c,rfl,h3,h4⟩
theorem CZ {s:Bool} (e:Ext w w1) (f:Arr w1 R t cs) (g:241≠t) (b:w1.grownBy w9 (some R)) (i:w.heap.size<=R) (d:Hid (decide (z<0)=s)) (j:Mg w1 a n c z.natAbs):KK w z (.returned (.agg (Ac s a n c).toArray)) w9 :=
 ⟨s,a,n,c,rfl,e.grownR b i,d,j.keptA f g b⟩
def T4 (w:World) (z y:Int) (e:Ending) (w':World):Prop:=∃ s a n c t b m d,e = .returned (.tuple #[.agg (Ac s a n c).toArray, .agg (Ac t b m d).toArray])/\Ext w w'/\(Hid (decide (z<0)=s)/\Mg w' a n c z.natAbs)/\(Hid (decide (y<0)=t)/\Mg w' b m d y.natAbs)
def T5 (w:World) (a:Option Addr) (n c:Nat) (z:Int) (e:Ending) (w':World):Prop:=∃ s,e = .returned (.agg (Ac s a n c).toArray)/\Ext w w'/\Hid (decide (z<0)=s)/\Mg w' a n c z.natAbs
theorem IM (k:Mg w a n c x) {z:Int} (i:z=if neg=true then -(x:Int) else x) :
 Calls prog 149 #[.bool neg, .slice a n c] w (T5 w a n c z):=by
 have g:=k.zero;have m:Hid (z.natAbs=x):=by show _=_; rw [i]; split <;> omega
 cases neg with
 | true =>
  have j:Hid (decide (z<0)=decide (0<n)):=by show _=_; rw [i,if_pos rfl]; apply decide_eq_decide.2; omega
  clear g i
  go_enter func149,ntmps149
  go_upto_region 1 with (fail)
  refine AE ?_;intro o b e l
  go_wp2_with (refine Aa (vs:=Ac _ a n c) rfl rfl rfl rfl rfl AT e rfl (Ad _ _ _ _) ?_; intro p f d)
  refine bodyPost_ret (v := .agg (Ac (decide (0<n)) a n c).toArray) (Al rfl AT rfl f) rfl ⟨_,rfl,b.grownR d (lrf _),j,by rw [m.out]; exact k.ext (b.grownR d (lrf _))⟩
 | false =>
  have j:Hid (decide (z<0)=false):=by show _=_; rw [i,if_neg (by simp)]; simp
  clear g i
  go_enter func149,ntmps149
  go_upto_region 1 with (fail)
  refine AE ?_;intro o b e l
  go_wp2_with (refine Aa (vs:=Ac _ a n c) rfl rfl rfl rfl rfl AT e rfl (Ad _ _ _ _) ?_; intro p f d)
  refine bodyPost_ret (v := .agg (Ac false a n c).toArray) (Al rfl AT rfl f) rfl ⟨_,rfl,b.grownR d (lrf _),j,by rw [m.out]; exact k.ext (b.grownR d (lrf _))⟩
theorem BF (b:Mg w a n c x) {z:Int} (d:z=if neg=true then -(x:Int) else x) :
 Calls prog 149 #[.bool neg, .slice a n c] w (KK w z) :=
 (IM b d).mono fun _ _ ⟨s,h1,h2,h3,h4⟩=>⟨s,a,n,c,h1,h2,h3,h4⟩
theorem IN (h:ZR w v z) {r:Int} (g:z.sign=r):Calls prog 150 #[v] w fun e y=>e = .returned (.int .i64 r)/\Ext w y:=by
 obtain ⟨s,a,n,c,rfl,o,x⟩:=h;have f:=x.zero;cases s with
 | true =>
  have j:z<0:=by simpa using o.out
  have i:Hid (r = -1):=by show _=_; rw [<-g,Int.sign_eq_neg_one_of_neg j]
  clear g j f
  go_enter func150,ntmps150
  go_upto_region 1 with (fail)
  refine AE ?_;intro p d b k;have l:=b.c 0 rfl;have m:=b.c 1 rfl;go_wp2;go_ret;exact ⟨by rw [i.out]; rfl,d⟩
 | false =>
  have j:¬ z<0:=by simpa using o.out
  by_cases h0:z=0
  · have q:n=0:=f.2 (by omega);have i:Hid (r=0):=by show _=_; rw [<-g,h0]; rfl
    subst q;clear g h0 f j
    go_enter func150,ntmps150
    go_upto_region 1 with (fail)
    refine AE ?_;intro p d b k;have l:=b.c 0 rfl;have m:=b.c 1 rfl;go_wp2;go_ret;exact ⟨by rw [i.out]; rfl,d⟩
  · have t:((n:Int) == 0)=false:=by
     have:n≠0:=fun h=>h0 (by have:=f.1 h; omega);simpa using this
    have i:Hid (r=1):=by show _=_; rw [<-g,Int.sign_eq_one_of_pos (by omega)]
    clear g j f h0
    go_enter func150,ntmps150
    go_upto_region 1 with (fail)
    refine AE ?_;intro p d b k;have l:=b.c 0 rfl;have m:=b.c 1 rfl;go_wp2;go_ret;exact ⟨by rw [i.out]; rfl,d⟩
theorem KL {y:Int} (h:ZR w v z) (h':ZR w v' y) (bz:z.natAbs<P2 3200000) (B:y.natAbs<P2 3200000):Calls prog 184 #[v,v'] w (KK w (z*y)):=by
 obtain ⟨s,a,n,c,rfl,HS,hx⟩:=h;obtain ⟨t,b,m,d,rfl,HT,hy⟩:=h';have F:=hx.len (k:=100000) bz;have G:=hy.len (k:=100000) B
 go_enter func184,ntmps184
 go_upto_region 1 with (fail)
 refine DF ?_;intro M r C D O U;have V:=C.c 0 rfl;have W:=C.c 1 rfl;have X:=D.c 0 rfl;have Y:=D.c 1 rfl;have hR:Arr M (w.heap.size+2) 97 (Ac false none 0 0):=O;have H:=fun (g:World) (f:Ext M g)=>qh (IK ((hx.ext r).ext f) ((hy.ext r).ext f) F G);clear U bz B F G;have p:=fun (g:World) (f:Ext M g)=>qh (And.intro (f.cell V) (And.intro (f.cell W) (And.intro (f.cell X) (f.cell Y))))
 refine Ab (by kernel_rfl) (fun g=>Ext M g)
  [he (.pointer (some ⟨w.heap.size,0,none⟩)),
 he (.bool s),
 he (.pointer (some ⟨(w.heap.size+1),0,none⟩)),
 he (.bool t),
 he (.bool (s != t)),
 he (.pointer (some ⟨w.heap.size,1,none⟩)),
 he (.slice a n c),
 he (.pointer (some ⟨(w.heap.size+1),1,none⟩)),
 he (.slice b m d),
 hp (fun v g=>∃ i o j,v = .slice i o j/\Mg g i o j (z.natAbs*y.natAbs)),
 hp (fun v g=>ZR g v (z*y))]
  (by kernel_rfl) (fun _ _ e h=>h.trans e) ((Ext.refl M).drew) ⟨trivial,trivial,trivial,trivial,trivial,trivial,trivial,trivial,trivial,fun v w Z e ⟨i,o,j,h1,h2⟩=>⟨i,o,j,h1,h2.ext e⟩,fun v w Z e h=>ZR.ext h e,trivial⟩ ⟨?o0, ?o1, ?o2, ?o3, ?o4, ?o5, ?o6, ?o7, ?o8, ?o9, ?o10,trivial⟩ ?fin
 case o0 | o2=>exact ofa (d:=0)
 case o1 | o3 | o6 | o8=>exact ol
 case o5 | o7=>exact ofa (d:=1)
 case o4 =>
  refine An rfl fun A g f l h => ?_;have e0:A (.tmp 6)=(.bool s):=h.1;have e1:A (.tmp 8)=(.bool t):=h.2.1;obtain ⟨I,J,K,L⟩:=(p g f).out;go_simp;cases s <;> cases t <;> rfl
 case o9 =>
  refine Am rfl fun A g f l Q h => ?_;have e1:A (.tmp 11)=(.slice a n c):=h.2.1;have e2:A (.tmp 13)=(.slice b m d):=h.2.2.1;obtain ⟨I,J,K,L⟩:=(p g f).out;refine ⟨211,#[.slice a n c, .slice b m d],by go_simp,((H g f).out).mono ?_⟩;rintro e Z ⟨i,o,j,rfl,q,x⟩;exact ⟨_,rfl,q,i,o,j,rfl,x⟩
 case o10 =>
  refine Am rfl fun A g f l Q h => ?_;have e1:A (.tmp 9)=(.bool (s != t)):=h.2.1;obtain ⟨v2,e2,a2,n2,c2,rfl,d2⟩:=h.2.2.1;obtain ⟨I,J,K,L⟩:=(p g f).out;refine ⟨149,#[.bool (s != t), .slice a2 n2 c2],by go_simp,(BF d2 (z:=z*y) (Li HS.out HT.out)).mono ?_⟩;rintro e Z ⟨s',i,o,j,rfl,q,S,x⟩;exact ⟨_,rfl,q,s',i,o,j,rfl,S,x⟩
 case fin =>
  intro g f;rintro _ ⟨_,_,_,rfl,_⟩;rintro _ ⟨s1,a1,n1,c1,rfl,N,T⟩;change wpList _ _ _ _ _ _;simp only [la,lb,ld,lz,Act.put,lq,ly,lx];have E:=hR.ext f
  go_wp2_with (refine Aa (vs:=Ac s1 a1 n1 c1) rfl rfl rfl rfl rfl AT E rfl (Ad _ _ _ _) ?_; intro w9 P R)
  exact bodyPost_ret (Al rfl AT rfl P) rfl (CZ (r.trans f) E (by decide) R (by omega) N T)
theorem Om {y:Int} (h:ZR w v z) (h':ZR w v' y) (bz:z.natAbs<P2 3200000) (Y:y.natAbs<P2 3200000):Calls prog 216 #[v,v'] w (KK w (z+y)):=by
 obtain ⟨s,a,n,c,rfl,HS,hx⟩:=h;obtain ⟨t,b,m,d,rfl,HT,hy⟩:=h';have P:=hx.len (k:=100000) bz;have Q:=hy.len (k:=100000) Y;have ae:=fun (g:World) (f:Ext w g)=>qh (II (hx.ext f) (hy.ext f) P Q);have ag:=fun (g:World) (f:Ext w g) (x:y.natAbs<=z.natAbs)=>qh (IJ (hx.ext f) (hy.ext f) P x);have ah:=fun (g:World) (f:Ext w g) (x:z.natAbs<=y.natAbs)=>qh (IJ (hy.ext f) (hx.ext f) Q x);have af:=fun (g:World) (f:Ext w g)=>qh (Ea (hx.ext f) (hy.ext f));clear bz Y P Q
 go_enter func216,ntmps216
 go_upto_region 1 with (fail)
 refine DF ?_;intro w0 M a0 a3 ai al;have a6:=a0.c 0 rfl;have a7:=a0.c 1 rfl;have a8:=a3.c 0 rfl;have a9:=a3.c 1 rfl;have hR:Arr w0 (w.heap.size+2) 97 (Ac false none 0 0):=ai;clear al;by_cases O:s=t
 · subst O;have aj:(s == s)=true:=by simp
   go_wp2;have T:=fun (g:World) (f:Ext w0 g)=>qh (And.intro (f.cell a6) (And.intro (f.cell a7) (And.intro (f.cell a8) (f.cell a9))))
   refine Ab (by kernel_rfl) (fun g=>Ext w0 g)
    [he (.pointer (some ⟨w.heap.size,0,none⟩)),
 he (.bool s),
 he (.pointer (some ⟨w.heap.size,1,none⟩)),
 he (.slice a n c),
 he (.pointer (some ⟨(w.heap.size+1),1,none⟩)),
 he (.slice b m d),
 hp (fun v g=>∃ i l j,v = .slice i l j/\Mg g i l j (z.natAbs+y.natAbs)),
 hp (fun v g=>ZR g v (z+y))]
    (by kernel_rfl) (fun _ _ e h=>h.trans e) ((Ext.refl w0).drew) ⟨trivial,trivial,trivial,trivial,trivial,trivial,fun v w L e ⟨i,l,j,h1,h2⟩=>⟨i,l,j,h1,h2.ext e⟩,fun v w L e h=>ZR.ext h e,trivial⟩ ⟨?o0, ?o1, ?o2, ?o3, ?o4, ?o5, ?o6, ?o7,trivial⟩ ?fin
   case o0=>exact ofa (d:=0)
   case o1 | o3 | o5=>exact ol
   case o2 | o4=>exact ofa (d:=1)
   case o6 =>
    refine Am rfl fun A g f r D h => ?_;have e1:A (.tmp 13)=(.slice a n c):=h.2.1;have e2:A (.tmp 15)=(.slice b m d):=h.2.2.1;obtain ⟨H,I,J,K⟩:=(T g f).out;refine ⟨210,#[.slice a n c, .slice b m d],by go_simp,((ae g (M.trans f)).out).mono ?_⟩;rintro e L ⟨i,l,j,rfl,o,p⟩;exact ⟨_,rfl,o,i,l,j,rfl,p⟩
   case o7 =>
    refine Am rfl fun A g f r D h => ?_;have e1:A (.tmp 11)=(.bool s):=h.2.1;obtain ⟨v2,e2,X,n2,c2,rfl,d2⟩:=h.2.2.1;obtain ⟨H,I,J,K⟩:=(T g f).out;refine ⟨149,#[.bool s, .slice X n2 c2],by go_simp,(BF d2 (z:=z+y) (Rx HS.out HT.out)).mono ?_⟩;rintro e L ⟨s',i,l,j,rfl,o,F,p⟩;exact ⟨_,rfl,o,s',i,l,j,rfl,F,p⟩
   case fin =>
    intro g f;rintro _ ⟨_,_,_,rfl,_⟩;rintro _ ⟨s1,W,n1,Z,rfl,B,G⟩;change wpList _ _ _ _ _ _;simp only [la,lb,ld,lz,Act.put,lq,ly,lx];have q:=hR.ext f
    go_wp2_with (refine Aa (vs:=Ac s1 W n1 Z) rfl rfl rfl rfl rfl AT q rfl (Ad _ _ _ _) ?_; intro w9 C E)
    exact bodyPost_ret (Al rfl AT rfl C) rfl (CZ (M.trans f) q (by decide) E (by omega) B G)
 · have aj:(s == t)=false:=by simpa using O
   go_wp2_with fail
   refine (af _ M).out.mono ?_;rintro e S ⟨rfl,R⟩;have N:=M.trans R.ext;have a4:=hR.ext R.ext;have aa:=R.ext.cell a6;have ab:=R.ext.cell a7;have ac:=R.ext.cell a8;have ad:=R.ext.cell a9;by_cases x:y.natAbs<=z.natAbs
   · have ak:(0:Int)<=AN (z.natAbs:Int) (y.natAbs:Int):=Cg.2 x;generalize AN (z.natAbs:Int) (y.natAbs:Int)=cv at *
     go_wp2;have U:=fun (g:World) (f:Ext S g)=>qh (And.intro (f.cell aa) (And.intro (f.cell ab) (And.intro (f.cell ac) (f.cell ad))))
     refine Ab (by kernel_rfl) (fun g=>Ext S g)
      [he (.pointer (some ⟨w.heap.size,0,none⟩)),
 he (.bool s),
 he (.pointer (some ⟨w.heap.size,1,none⟩)),
 he (.slice a n c),
 he (.pointer (some ⟨(w.heap.size+1),1,none⟩)),
 he (.slice b m d),
 hp (fun v g=>∃ i l j,v = .slice i l j/\Mg g i l j (z.natAbs-y.natAbs)),
 hp (fun v g=>ZR g v (z+y))]
      (by kernel_rfl) (fun _ _ e h=>h.trans e) ((Ext.refl S).drew) ⟨trivial,trivial,trivial,trivial,trivial,trivial,fun v w L e ⟨i,l,j,h1,h2⟩=>⟨i,l,j,h1,h2.ext e⟩,fun v w L e h=>ZR.ext h e,trivial⟩ ⟨?o0, ?o1, ?o2, ?o3, ?o4, ?o5, ?o6, ?o7,trivial⟩ ?fin
     case o0=>exact ofa (d:=0)
     case o1 | o3 | o5=>exact ol
     case o2 | o4=>exact ofa (d:=1)
     case o6 =>
      refine Am rfl fun A g f r D h => ?_;have e1:A (.tmp 27)=(.slice a n c):=h.2.1;have e2:A (.tmp 29)=(.slice b m d):=h.2.2.1;obtain ⟨H,I,J,K⟩:=(U g f).out;refine ⟨260,#[.slice a n c, .slice b m d],by go_simp,((ag g (N.trans f) x).out).mono ?_⟩;rintro e L ⟨i,l,j,rfl,o,p⟩;exact ⟨_,rfl,o,i,l,j,rfl,p⟩
     case o7 =>
      refine Am rfl fun A g f r D h => ?_;have e1:A (.tmp 25)=(.bool s):=h.2.1;obtain ⟨v2,e2,X,n2,c2,rfl,d2⟩:=h.2.2.1;obtain ⟨H,I,J,K⟩:=(U g f).out;refine ⟨149,#[.bool s, .slice X n2 c2],by go_simp,(BF d2 (z:=z+y) (OU HS.out HT.out O x)).mono ?_⟩;rintro e L ⟨s',i,l,j,rfl,o,F,p⟩;exact ⟨_,rfl,o,s',i,l,j,rfl,F,p⟩
     case fin =>
      intro g f;rintro _ ⟨_,_,_,rfl,_⟩;rintro _ ⟨s1,W,n1,Z,rfl,B,G⟩;change wpList _ _ _ _ _ _;simp only [la,lb,ld,lz,Act.put,lq,ly,lx];have q:=a4.ext f
      go_wp2_with (refine Aa (vs:=Ac s1 W n1 Z) rfl rfl rfl rfl rfl AT q rfl (Ad _ _ _ _) ?_; intro w9 C E)
      exact bodyPost_ret (Al rfl AT rfl C) rfl (CZ (N.trans f) q (by decide) E (by omega) B G)
   · have ak:AN (z.natAbs:Int) (y.natAbs:Int)<0:=by have:=mt Cg.1 x; omega
     have a5:z.natAbs<y.natAbs:=by omega
     generalize AN (z.natAbs:Int) (y.natAbs:Int)=cv at *
     go_wp2;have V:=fun (g:World) (f:Ext S g)=>qh (And.intro (f.cell aa) (And.intro (f.cell ab) (And.intro (f.cell ac) (f.cell ad))))
     refine Ab (by kernel_rfl) (fun g=>Ext S g)
      [he (.pointer (some ⟨(w.heap.size+1),0,none⟩)),
 he (.bool t),
 he (.pointer (some ⟨(w.heap.size+1),1,none⟩)),
 he (.slice b m d),
 he (.pointer (some ⟨w.heap.size,1,none⟩)),
 he (.slice a n c),
 hp (fun v g=>∃ i l j,v = .slice i l j/\Mg g i l j (y.natAbs-z.natAbs)),
 hp (fun v g=>ZR g v (z+y))]
      (by kernel_rfl) (fun _ _ e h=>h.trans e) ((Ext.refl S).drew) ⟨trivial,trivial,trivial,trivial,trivial,trivial,fun v w L e ⟨i,l,j,h1,h2⟩=>⟨i,l,j,h1,h2.ext e⟩,fun v w L e h=>ZR.ext h e,trivial⟩ ⟨?o0, ?o1, ?o2, ?o3, ?o4, ?o5, ?o6, ?o7,trivial⟩ ?fin
     case o0=>exact ofa (d:=0)
     case o1 | o3 | o5=>exact ol
     case o2 | o4=>exact ofa (d:=1)
     case o6 =>
      refine Am rfl fun A g f r D h => ?_;have e1:A (.tmp 35)=(.slice b m d):=h.2.1;have e2:A (.tmp 37)=(.slice a n c):=h.2.2.1;obtain ⟨H,I,J,K⟩:=(V g f).out;refine ⟨260,#[.slice b m d, .slice a n c],by go_simp,((ah g (N.trans f) (Nat.le_of_lt a5)).out).mono ?_⟩;rintro e L ⟨i,l,j,rfl,o,p⟩;exact ⟨_,rfl,o,i,l,j,rfl,p⟩
     case o7 =>
      refine Am rfl fun A g f r D h => ?_;have e1:A (.tmp 33)=(.bool t):=h.2.1;obtain ⟨v2,e2,X,n2,c2,rfl,d2⟩:=h.2.2.1;obtain ⟨H,I,J,K⟩:=(V g f).out;refine ⟨149,#[.bool t, .slice X n2 c2],by go_simp,(BF d2 (z:=z+y) (OV HS.out HT.out O a5)).mono ?_⟩;rintro e L ⟨s',i,l,j,rfl,o,F,p⟩;exact ⟨_,rfl,o,s',i,l,j,rfl,F,p⟩
     case fin =>
      intro g f;rintro _ ⟨_,_,_,rfl,_⟩;rintro _ ⟨s1,W,n1,Z,rfl,B,G⟩;change wpList _ _ _ _ _ _;simp only [la,lb,ld,lz,Act.put,lq,ly,lx];have q:=a4.ext f
      go_wp2_with (refine Aa (vs:=Ac s1 W n1 Z) rfl rfl rfl rfl rfl AT q rfl (Ad _ _ _ _) ?_; intro w9 C E)
      exact bodyPost_ret (Al rfl AT rfl C) rfl (CZ (N.trans f) q (by decide) E (by omega) B G)
end Go.Proofs.YtlbmnokpiilfpaaGreatDoor
