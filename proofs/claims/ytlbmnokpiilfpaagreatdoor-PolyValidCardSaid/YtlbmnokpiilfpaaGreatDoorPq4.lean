/- Part Pq4. -/
import Derived.Test.YtlbmnokpiilfpaaGreatDoorPq3

set_option linter.all false
set_option maxRecDepth 100000
set_option maxHeartbeats 100000000
namespace Go.Proofs.YtlbmnokpiilfpaaGreatDoor
open Tryz Go Go.RowKit
def jx:=@Int.tmod_eq_emod_of_nonneg
def jZ:=@Nat.one_mul
def kY:=@Nat.mul_zero
def lP:=@Nat.le_add_right
def mF:=@List.getElem?_drop
def nC:=@Nat.lt_of_mul_lt_mul_left
def oK:=@List.set_set
def oX:=@Nat.or_comm
variable {ds l ls xs ys zs:List Nat} {B D L P V Wn c c' d d2 g hi k lo lo' m n o p q r s t u w3 wd x y z:Nat} {a b:Option Addr} {w:World}
theorem Fk(f:y<18446744073709551616)(a:lo<18446744073709551616)(b:hi<y) :
 Calls prog 293 #[.int .u64 hi,.int .u64 lo,.int .u64 y] w fun e d=>∃ q r:Nat,e = .returned (.tuple #[.int .u64 (q:Int),.int .u64 (r:Int)])/\q<18446744073709551616/\r<y/\hi*18446744073709551616+lo=q*y+r/\Qt w d:=by
 rcases gX hi with h0|h0
 · subst h0;refine(Jb f a b).mono ?_;rintro e d ⟨rfl,c⟩;refine⟨lo/y,lo%y,rfl,?_,io _ b,?_,c⟩
   · have:=iI lo y;omega
   · have:=j6 lo y;rw[gV]at this;rw[jg,iz];exact this.symm
 · refine(KO f a b h0).mono ?_;rintro e d ⟨rfl,c⟩;refine⟨(hi*18446744073709551616+lo)/y,(hi*18446744073709551616+lo)%y,rfl,?_,io _ (by omega),?_,c⟩
   · rw[jm (by omega)];have:(hi+1)*18446744073709551616<=y*18446744073709551616:=gH _ b;omega
   · have:=j6 (hi*18446744073709551616+lo) y;rw[gV]at this;exact this.symm
theorem Dq(h:k<xs.length):xs.drop k=xs.getD k 0 :: xs.drop (k+1):=by
 rw[iU h,gqq,gD h];rfl
theorem drop_set{zs:List Nat}{k q:Nat}(h:k<zs.length):(zs.set k q).drop k=q :: zs.drop (k+1):=by
 rw[Dq (xs:=zs.set k q) (by simpa using h)];have h1:(zs.set k q).getD k 0=q:=by simp[h]
 have h2:(zs.set k q).drop (k+1)=zs.drop (k+1):=by rw[List.drop_set];simp
 rw[h1,h2]
theorem KT{r':Nat}(a:k<xs.length)(b:k<zs.length)(h:W.val B (xs.drop (k+1))=W.val B (zs.drop (k+1))*d+r)(e:r*B+xs.getD k 0=q*d+r') :
 W.val B (xs.drop k)=W.val B ((zs.set k q).drop k)*d+r':=by
 rw[Dq a,drop_set b];simp only[W.val];rw[h];generalize xs.getD k 0=x at *
 generalize W.val B (zs.drop (k+1))=Z at *
 have h1:x+B*(Z*d+r)=B*Z*d+(r*B+x):=by grind
 rw[h1,e]
 grind
theorem KU(R:SlN .u64 w a n c xs)(N:W.bnd 18446744073709551616 xs)(Q:W.val 18446744073709551616 xs=x)(Y:d<18446744073709551616)(h0:0<d)(hn:n<=1000000) :
 Calls prog 318 #[.slice a n c,.int .u64 d] w fun e S=>∃ A L P T,e = .returned (.tuple #[.slice A L P,.int .u64 ((x%d:Nat):Int)])/\Ext w S/\SlN .u64 S A L P T/\Num 18446744073709551616 T (x/d)/\Hg w.heap.size (fun _=>False) A L:=by
 have t:=gE R.len;have U:=gE N;have X:=gE Q;clear N Q
 go_enter func318,ntmps318
 go_upto_region 3 with(at_make;refine C6 (n:=n) rfl rfl underlying81 AK rfl rfl rfl (by omega) (by unfold maxLen;omega) ?_;intro w1 m l)
 go_wp2
 go_loopw[7,8] (fun rv iv wr=>∃ (k r:Nat) (zs:List Nat),k<=n/\rv = .int .u64 r/\iv = .int .i64 ((k:Int)-1)/\r<d/\Ext w wr/\Az .u64 wr w.heap.size 238 w.heap.size n n zs/\W.bnd 18446744073709551616 zs/\Hid (W.val 18446744073709551616 (xs.drop k)=W.val 18446744073709551616 (zs.drop k)*d+r)) (fun _ v _=>(intOf v+1).toNat)
 case atStart=>exact⟨n,0,List.replicate n 0,lrf _,rfl,by go_num,h0,l,Az.of_zeros m,fun z f=>by rw[(jb.1 f).2];omega,gE (by rw[iX (by rw[t.out];exact lrf _),iX (by simp)];simp[W.val])⟩
 case round =>
  clear m l;obtain⟨k,r,zs,hk,rfl,rfl,H,C,f,O,M⟩:=hrel;cases k with
  | zero =>
   have b:x/d=W.val 18446744073709551616 zs/\x%d=r:=by
    have h1:=M.out;rw[ji,ji,X.out]at h1;rw[h1,gV];exact⟨by rw[ld h0,jy H,iO],by rw[lC,jG H]⟩
   go_wp2_with fail
   refine(Bq f.sl).mono ?_;rintro e w4 ⟨q,rfl,rfl,G,Z⟩;obtain⟨t1,t2⟩:=BE f.sl G Z O b.1.symm;go_wp2
   go_ret2
   exact⟨_,q,_,_,by rw[b.2];rfl,C,t1,t2,fun _ g h=>Or.inl (by cases h;exact lrf _)⟩
  | succ k =>
   obtain⟨b1,o1,rfl,o⟩:=(R.ext C).at (j:=k) (by omega);have g1:=o k (by omega);have J:((k+1:Nat):Int)-1=k:=by omega
   rw[J];have K:=W.bnd_at U.out (i:=k) (by rw[t.out];omega);have s:=gE (fun q r'=>KT (B:=18446744073709551616) (xs:=xs) (zs:=zs) (k:=k) (q:=q) (r:=r) (r':=r') (d:=d) (by rw[t.out];omega) (by rw[f.len];omega) M.out);generalize xs.getD k 0=u at *
   have F:=fun wx:World=>Fk (w:=wx) (hi:=r) (lo:=u) (y:=d) Y K H;clear o
   go_wp2_with fail
   refine(F _).mono ?_;rintro e w2 ⟨q,r',rfl,G,I,he,E⟩;have g3:=(f.ext E.ext).frozen k;have V:=gE (s.out q r' he);have p:=f.ext E.ext;have D:=C.trans E.ext;have g4:=p.cell (i:=k) (by omega);clear he;go_wp2;go_roundw
   case rel=>exact⟨k,r',zs.set k q,by omega,rfl,by go_num,I,D.setCell (lrf _) _,p.set k q,W.bnd_set O G,V⟩
   case measure=>simp[intOf]
theorem Eo(E:SlN .u64 w a n c xs)(C:W.bnd 18446744073709551616 xs)(D:W.val 18446744073709551616 xs=x)(I:d<18446744073709551616)(h0:0<d)(R:n<=1000000) :
 Calls prog 243 #[.slice a n c,.int .u64 d] w fun e M=>e = .returned (.int .u64 ((x%d:Nat):Int))/\Qt w M:=by
 have o:=gE E.len;have F:=gE C;have H:=gE D;clear C D
 go_enter func243,ntmps243
 go_wp2
 go_loopw[5,6] (fun L K wr=>∃ (k r:Nat),k<=n/\L = .int .u64 r/\K = .int .i64 ((k:Int)-1)/\r<d/\Qt w wr/\Hid (W.val 18446744073709551616 (xs.drop k)%d=r)) (fun _ v _=>(intOf v+1).toNat)
 case atStart=>exact⟨n,0,lrf _,rfl,by go_num,h0,Qt.refl _,gE (by rw[iX (by rw[o.out];exact lrf _)];simp[W.val])⟩
 case round =>
  obtain⟨k,r,Q,rfl,rfl,J,p,B⟩:=hrel;cases k with
  | zero =>
   have l:x%d=r:=by
    have h1:=B.out;rw[ji,H.out]at h1;exact h1
   go_wp2;go_ret;exact⟨by rw[l];rfl,p⟩
  | succ k =>
   obtain⟨O,T,rfl,g⟩:=(E.ext p.ext).at (j:=k) (by omega);have P:=g k (by omega);have z:((k+1:Nat):Int)-1=k:=by omega
   rw[z];have A:=W.bnd_at F.out (i:=k) (by rw[o.out];omega);have m:Hid (∀ q b,r*18446744073709551616+xs.getD k 0=q*d+b->b < d->W.val 18446744073709551616 (xs.drop k)%d=b):=by
    show ∀ q b,r*18446744073709551616+xs.getD k 0=q*d+b->b < d->W.val 18446744073709551616 (xs.drop k)%d=b;intro q b e f;rw[Dq (by rw[o.out];omega)];simp only[W.val];have h1:=B.out;have h2:=j6 (W.val 18446744073709551616 (xs.drop (k+1))) d;rw[h1]at h2;rw[<-h2];generalize W.val 18446744073709551616 (xs.drop (k+1))/d=Z;generalize xs.getD k 0=u at *
    have h3:u+18446744073709551616*(d*Z+r)=d*(18446744073709551616*Z+q)+b:=by grind
    rw[h3,lC,jG f]
   generalize xs.getD k 0=u at *
   have t:=fun N:World=>Fk (w:=N) (hi:=r) (lo:=u) (y:=d) I A J;clear g
   go_wp2_with fail
   refine(t _).mono ?_;rintro e U ⟨q,b,rfl,S,f,he,s⟩;have G:=gE (m.out q b he f);clear he;go_wp2;go_roundw
   case rel=>exact⟨k,b,by omega,rfl,by go_num,f,p.trans s,G⟩
   case measure=>simp[intOf]
theorem SJ{w:Nat}(f:o+k<l.length)(g:k<xs.length)(h:W.val B l+w*W.val B (xs.take k)*B^o=V+c*B^(o+k))(e:s+xs.getD k 0*w+c=l.getD (o+k) 0+B*c') :
 W.val B (l.set (o+k) s)+w*W.val B (xs.take (k+1))*B^o=V+c'*B^(o+(k+1)):=by
 have h1:=W.val_set (B:=B) (xs:=l) (i:=o+k) (v:=s) f;have h2:=W.val_take_succ (B:=B) g;rw[h2,<-jR,ip];have h3:B^(o+k)=B^o*B^k:=jQ _ _ _;rw[h3]at h h1 |-;generalize l.getD (o+k) 0=x at *
 generalize xs.getD k 0=y at *
 generalize W.val B (l.set (o+k) s)=a at *
 generalize W.val B l=b at *
 generalize W.val B (xs.take k)=d at *
 generalize B^k=p at *
 generalize B^o=q at *
 grind
theorem Us{cy:Nat}(c:z<18446744073709551616)(hu:u<18446744073709551616)(b:wd<18446744073709551616)(a:cy<18446744073709551616) :
 u*wd/18446744073709551616+(u*wd%18446744073709551616+cy+0)/18446744073709551616<18446744073709551616/\u*wd/18446744073709551616+(u*wd%18446744073709551616+cy+0)/18446744073709551616+(if z<(u*wd%18446744073709551616+cy+0)%18446744073709551616+0 then 1 else 0)<18446744073709551616 /\
 (z+18446744073709551616-(u*wd%18446744073709551616+cy+0)%18446744073709551616-0)%18446744073709551616+u*wd+cy=z+18446744073709551616*(u*wd/18446744073709551616+(u*wd%18446744073709551616+cy+0)/18446744073709551616+(if z<(u*wd%18446744073709551616+cy+0)%18446744073709551616+0 then 1 else 0)):=by
 have:u*wd<=18446744073709551615*18446744073709551615:=j5 (by omega) (by omega);generalize u * wd=p at *
 split <;> omega
theorem Gi{base N C:Nat}(Q:Az .u64 w base 238 g N C zs)(P:SlN .u64 w a n d xs)(r:blk a=none\/blk a≠some g)(ho:o+n<=N)(Y:W.bnd 18446744073709551616 zs)(X:W.bnd 18446744073709551616 xs)(Z:wd<18446744073709551616) :
 Calls prog 320 #[.slice (some ⟨g,o,none⟩) n c',.slice a n d,.int .u64 wd] w fun e w'=>∃ (b:Nat) (p:List Nat),e = .returned (.int .u64 b)/\b<18446744073709551616/\w.grownBy w' (some g)/\Az .u64 w' base 238 g N C p/\W.bnd 18446744073709551616 p/\W.val 18446744073709551616 p+wd*W.val 18446744073709551616 xs*18446744073709551616^o=W.val 18446744073709551616 zs+b*18446744073709551616^(o+n)/\(∀ j,o+n<=j->p.getD j 0=zs.getD j 0):=by
 have HZ:=gE Q.len;have H:=gE P.len;have a1:=P.le;have BX:=gE X;clear X
 go_enter func320,ntmps320
 go_wp2
 go_loopw[7,16] (fun cv S wr=>∃ (k b:Nat) (c:List Nat),cv = .int .u64 b/\S = .int .i64 k/\k<=n/\b<18446744073709551616/\w.grownBy wr (some g)/\Az .u64 wr base 238 g N C c/\W.bnd 18446744073709551616 c/\Hid (W.val 18446744073709551616 c+wd*W.val 18446744073709551616 (xs.take k)*18446744073709551616^o=W.val 18446744073709551616 zs+b*18446744073709551616^(o+k))/\Hid (∀ j,o+n<=j->c.getD j 0=zs.getD j 0)) (fun _ S _=>n-(intOf S).toNat)
 case atStart=>exact⟨0,0,zs,rfl,rfl,gO _,by omega,C8 _ _,Q,Y,gE (by simp[W.val]),gE (fun _ _=>rfl)⟩
 case round =>
  clear Q Y;obtain⟨k,b,c,rfl,rfl,hk,D,L,v,I,U,V⟩:=hrel;by_cases f:k<n
  · obtain⟨b1,o1,rfl,y⟩:=(P.kept L r).at (j:=k) f;have g1:=y k f;have g2:=v.cell (i:=o+k) (by omega);have g3:=v.frozen (o+k);have R:=W.bnd_at I (i:=o+k) (by rw[v.len];omega);have F:=W.bnd_at BX.out (i:=k) (by rw[H.out];exact f);obtain⟨m1,m2,m3⟩:=Us R F Z D;have HS:=gE (SJ (B:=18446744073709551616) (l:=c) (xs:=xs) (k:=k) (o:=o) (w:=wd) (by rw[v.len];omega) (by rw[H.out];exact f) U.out m3);have a0:(k:Int)<n:=by omega
    have G:Hid (∀ s j,o+n<=j->(c.set (o+k) s).getD j 0=zs.getD j 0):=by
     show ∀ s j,o+n<=j->(c.set (o+k) s).getD j 0=zs.getD j 0;intro s j hj;rw[<-V.out j hj];have r:¬ o+k=j:=by omega
     simp[r]
    generalize c.getD (o+k) 0=z at *
    generalize xs.getD k 0=u at *
    have E:=Jw F Z;have J:∀ m:World,(callFunc 300 #[.int .u64 ((u*wd%18446744073709551616:Nat):Int),.int .u64 (b:Int),.int .u64 0]).run prog m = .ok (.value (.tuple #[.int .u64 (((u*wd%18446744073709551616+b+0)%18446744073709551616:Nat):Int),.int .u64 (((u*wd%18446744073709551616+b+0)/18446744073709551616:Nat):Int)])) m:=fun m=>Cz (u*wd%18446744073709551616) b 0 (by omega) m;generalize u * wd/18446744073709551616=t at *
    generalize u * wd%18446744073709551616=pl at *
    generalize M:(pl+b+0)%18446744073709551616=s1 at *
    generalize A:(pl+b+0)/18446744073709551616=q at *
    have K:∀ m:World,(callFunc 291 #[.int .u64 (z:Int),.int .u64 (s1:Int),.int .u64 0]).run prog m = .ok (.value (.tuple #[.int .u64 (((z+18446744073709551616-s1-0)%18446744073709551616:Nat):Int),.int .u64 ((if z<s1+0 then 1 else 0:Nat):Int)])) m:=fun m=>Df z s1 0 (by omega) m;have O:(z+18446744073709551616-s1-0)%18446744073709551616<18446744073709551616:=io _ (by omega);generalize (z+18446744073709551616-s1-0)%18446744073709551616=T at *
    generalize (if z<s1+0 then 1 else 0)=x at *
    have a2:IntKind.u64.wrap ((t:Int)+q)=((t+q:Nat):Int):=by rw[wrap_u64 (by omega) (by omega)];omega
    have a3:IntKind.u64.wrap (((t+q:Nat):Int)+x)=((t+q+x:Nat):Int):=by rw[wrap_u64 (by omega) (by omega)];omega
    have a4:IntKind.u64.wrap ((t:Int)+(q:Int)+x)=((t+q+x:Nat):Int):=by rw[wrap_u64 (by omega) (by omega)];omega
    clear y M A m3
    go_wp2_with(go_at_call 301;refine(E _).mono ?_;rintro e w1 ⟨rfl,rfl⟩)
    go_roundw
    case rel=>exact⟨k+1,t+q+x,c.set (o+k) T,by first | rfl | go_num,by go_num,by omega,m2,DP L _ _,v.set (o+k) T,W.bnd_set I O,HS,gE (G.out T)⟩
    case measure=>simp[intOf];omega
  · have ek:k=n:=by omega
    go_wp2;go_ret;have h1:=U.out;rw[ek,gG (by rw[H.out];exact lrf _)]at h1;exact⟨b,c,rfl,D,L,v,I,h1,V.out⟩
theorem OV(a:k+1<l.length)(b:k<xs.length)(h:W.val B l=W.val B (xs.take k)*2^s)(h0:l.getD (k+1) 0=0)(e:xs.getD k 0*2^s=V*B+L) :
 W.val B ((l.set k (l.getD k 0+L)).set (k+1) V)=W.val B (xs.take (k+1))*2^s:=by
 have h1:=W.val_set (B:=B) (xs:=l) (i:=k) (v:=l.getD k 0+L) (by omega);have h2:=W.val_set (B:=B) (xs:=l.set k (l.getD k 0+L)) (i:=k+1) (v:=V) (by simpa using a);have h3:(l.set k (l.getD k 0+L)).getD (k+1) 0=0:=by
  simpa using h0
 rw[h3]at h2;rw[W.val_take_succ b,iW,kB,e];rw[ip]at h2;generalize l.getD k 0=z at *
 generalize W.val B ((l.set k (z+L)).set (k+1) V)=X at *
 generalize W.val B (l.set k (z+L))=Y at *
 generalize W.val B l=Z at *
 generalize W.val B (xs.take k) * 2^s=T at *
 generalize B^k=p at *
 grind
theorem CV(a:s<=63):2^(64-s)*2^s=18446744073709551616:=by rw[<-jQ,show 64-s+s=64 by omega]
theorem V3(a:s<=63)(e:lo*2^s=V*18446744073709551616+L):L%2^s=0:=by
 have h1:=CV a;have h2:2^s∣V*18446744073709551616+L:=by rw[<-e];exact ll _ _
 have h3:2^s∣V*18446744073709551616:=by rw[<-h1];exact⟨V*2^(64-s),by grind⟩
 exact Nat.mod_eq_zero_of_dvd ((oG h3).1 h2)
theorem V4(c:s<=63)(b:L%2^s=0)(a:L<18446744073709551616)(d:z<2^s):z+L<18446744073709551616:=by
 have h1:=CV c;have h2:=j6 L (2^s);rw[b,iO]at h2;have h3:L/2^s<2^(64-s):=by
  rw[jm (iC s),h1];exact a
 have h4:2^s*(L/2^s+1)<=2^s*2^(64-s):=iB _ h3;rw[gV (2^s) (2^(64-s)),h1,jB,km,h2]at h4;omega
theorem Gp(Y:SlN .u64 w a n c xs)(nx:Num 18446744073709551616 xs x)(G:s<=63)(hn:n<=1000000) :
 Calls prog 312 #[.slice a n c,.int .u64 s] w (Hy .u64 18446744073709551616 w (x*2^s)):=by
 have E:=gE Y.len;have p:=gE nx;clear nx;by_cases h0:n=0\/s=0
 · have HZ:Hid (x*2^s=x):=by
    show _=_;rcases h0 with h0|h0
    · have h1:xs=[]:=gQ (by rw[E.out,h0]);have h2:=p.out.val;rw[h1]at h2;simp only[W.val]at h2;rw[<-h2];simp
    · rw[h0];simp
   have o:((n:Int) == 0)=true\/(((n:Int) == 0)=false/\((s:Int) == 0)=true):=by
    by_cases h1:n=0
    · left;simp[h1]
    · right;exact⟨by simpa using h1,by simp;omega⟩
   clear h0;rcases o with hp|⟨hp,a1⟩
   all_goals
    go_enter func312,ntmps312
    go_wp2;go_ret;exact⟨a,n,c,xs,rfl,Ext.refl w,Y,⟨p.out.bnd,p.out.nrm,by rw[p.out.val,HZ.out]⟩⟩
 · have R:((n:Int) == 0)=false:=by simp;omega
   have S:((s:Int) == 0)=false:=by simp;omega
   have F:(s:Int)/64=0:=by omega
   have U:(s:Int).tdiv 64=0:=by rw[j3 (by omega)];exact F
   have hr:(s:Int)%64=s:=by omega
   have X:(s:Int).tmod 64=s:=by rw[jx (by omega)];exact hr
   clear h0
   go_enter func312,ntmps312
   go_upto_region 5 with(at_make;refine C6 (n:=n+1) rfl rfl underlying81 AK rfl rfl rfl (by omega) (by unfold maxLen;omega) ?_;intro w1 A r)
   clear F U hr X R S;go_wp2
   go_loopw[31] (fun iv wr=>∃ (k:Nat) (b:List Nat),iv = .int .i64 k/\k<=n/\Ext w wr/\Az .u64 wr w.heap.size 238 w.heap.size (n+1) (n+1) b/\W.bnd 18446744073709551616 b/\Hid (W.val 18446744073709551616 b=W.val 18446744073709551616 (xs.take k)*2^s)/\Hid (∀ j,k<j->b.getD j 0=0)/\Hid (b.getD k 0<2^s)) (fun iv _=>n-(intOf iv).toNat)
   case atStart=>exact⟨0,List.replicate (n+1) 0,rfl,gO _,r,Az.of_zeros A,fun z d=>by rw[(jb.1 d).2];omega,gE (by rw[W.val_zeros];simp[W.val]),gE (fun j _=>FR _ j),gE (by rw[FR];exact iC s)⟩
   case round =>
    clear A r;obtain⟨k,b,rfl,hk,O,d,N,HV,I,HP⟩:=hrel;by_cases f:k<n
    · obtain⟨b1,o1,rfl,D⟩:=(Y.ext O).at (j:=k) f;have g1:=D k f;have g2:=d.cell (i:=k) (by omega);have g3:=d.frozen k;have g4:=d.frozen (k+1);have g5:=d.cell (i:=k+1) (by omega);rw[I.out (k+1) (by omega)]at g5;have Z:=W.bnd_at p.out.bnd (i:=k) (by rw[E.out];exact f);obtain⟨L,V,m,t,C,P,y⟩:=Mk G Z;have g:=V3 G m;have HS:=gE (OV (B:=18446744073709551616) (l:=b) (xs:=xs) (k:=k) (s:=s) (L:=L) (V:=V) (by rw[d.len];omega) (by rw[E.out];exact f) HV.out (I.out _ (by omega)) m)
      have a0:b.getD k 0<18446744073709551616:=W.bnd_at N (i:=k) (by rw[d.len];omega);have T:=V4 G g t HP.out;have J:Hid (∀ v j,k+1<j->((b.set k v).set (k+1) V).getD j 0=0):=by
       show ∀ v j,k+1<j->((b.set k v).set (k+1) V).getD j 0=0;intro v j hj;have h0:=I.out j (by omega);have h1:¬ k=j:=by omega
       have h2:¬ k+1=j:=by omega
       simpa[h1,h2]using h0
      have K:Hid (∀ v,((b.set k v).set (k+1) V).getD (k+1) 0<2^s):=by
       show ∀ v,((b.set k v).set (k+1) V).getD (k+1) 0<2^s;intro v;have h1:k+1<b.length:=by rw[d.len];omega
       have h2:((b.set k v).set (k+1) V).getD (k+1) 0=V:=by simp[h1]
       rw[h2];exact P
      have e5:bits BinOp.or IntKind.u64 ((b.getD k 0:Nat):Int) (L:Int)=((b.getD k 0+L:Nat):Int):=by
       rw[nG _ L a0 t,oX,oR s L (b.getD k 0) g HP.out,jW]
      generalize a2:b.getD k 0+L=H at *
      generalize b.getD k 0=z at *
      have e6:IntKind.u64.wrap (((xs.getD k 0:Nat):Int)*2^s)=(L:Int):=by
       have:=Hi (x:=xs.getD k 0*2^s) (M:=L) y.symm;push_cast at this;exact this
      have e7:((xs.getD k 0:Nat):Int)/2^(64-s)=(V:Int):=by rw[C];push_cast;rfl
      clear m y C;generalize xs.getD k 0=u at *
      have Q:V<18446744073709551616:=by
       have:=ic (n:=2) (by omega) (show s<=63 from G);omega
      clear D;go_wp2;go_roundw
      case rel=>exact⟨k+1,(b.set k H).set (k+1) V,by go_num,by omega,(O.setCell (lrf _) _).setCell (lrf _) _,(d.set k H).set (k+1) V,W.bnd_set (W.bnd_set N T) Q,HS,gE (J.out H),gE (K.out H)⟩
      case measure=>simp[intOf];omega
    · have ek:k=n:=by omega
      have hv:W.val 18446744073709551616 b=x*2^s:=by
       have h1:=HV.out;rw[ek,gG (by rw[E.out];exact lrf _),p.out.val]at h1;exact h1
      go_wp2_with fail
      refine(Bq d.sl).mono ?_;rintro e w4 ⟨q,rfl,rfl,F,ht⟩;obtain⟨t1,t2⟩:=BE d.sl F ht N hv;go_wp2;go_ret;exact⟨_,q,_,_,rfl,O,t1,t2⟩
theorem V5(a:s<=63):2^s*(x*2^(64-s)%18446744073709551616)=18446744073709551616*(x%2^s)/\x*2^(64-s)%18446744073709551616%2^(64-s)=0:=by
 have h1:=CV a;have h2:x*2^(64-s)%18446744073709551616=x%2^s*2^(64-s):=by
  rw[<-h1,gV (2^(64-s)) (2^s),Nat.mul_mod_mul_right]
 rw[h2];refine⟨?_,nR _ _⟩;rw[<-h1];generalize 2^(64-s)=p;generalize 2^s=q
 grind
theorem Xy(a:s<=63)(b:x<18446744073709551616):x/2^s<2^(64-s):=by
 rw[jm (iC s),CV a];exact b
theorem Nm(a:x<18446744073709551616)(b:y<18446744073709551616):x ||| y<18446744073709551616:=Nat.or_lt_two_pow (n:=64) a b
theorem OW(a:s<=63)(b:x<18446744073709551616):∃ z:Nat,z<18446744073709551616/\x/2^s ||| (y*2^(64-s)%18446744073709551616)=z/\2^s*z+x%2^s=x+18446744073709551616*(y%2^s):=by
 obtain⟨h1,h2⟩:=V5 (x:=y) a;have h3:=Xy a b;have h4:=oR (64-s) (y*2^(64-s)%18446744073709551616) (x/2^s) h2 h3;refine⟨x/2^s ||| (y*2^(64-s)%18446744073709551616),Nm ?_ (io _ (by omega)),rfl,?_⟩
 · have:=iI x (2^s);omega
 · rw[oX,h4,jB,h1];have:=j6 x (2^s);generalize 2^s * (x/2^s)=p at *
   omega
theorem Hj(c:k<l.length)(d:k<xs.length)(h:2^s*W.val B (l.take k)+V=W.val B (xs.take k)+B^k*(xs.getD k 0%2^s))(e:2^s*z+xs.getD k 0%2^s=xs.getD k 0+B*(xs.getD (k+1) 0%2^s)) :
 2^s*W.val B ((l.set k z).take (k+1))+V=W.val B (xs.take (k+1))+B^(k+1)*(xs.getD (k+1) 0%2^s):=by
 have h1:=W.val_take_succ (B:=B) (xs:=l.set k z) (i:=k) (by simpa using c);have h2:(l.set k z).getD k 0=z:=by simp[c]
 have h3:(l.set k z).take k=l.take k:=by rw[List.take_set,List.set_eq_of_length_le (by simp;omega)]
 rw[h2,h3]at h1;rw[h1,W.val_take_succ d,ip];generalize xs.getD (k+1) 0%2^s=b at *
 generalize xs.getD k 0%2^s=a at *
 generalize xs.getD k 0=u at *
 generalize W.val B (l.take k)=A at *
 generalize W.val B (xs.take k)=X at *
 generalize B^k=p at *
 generalize 2^s=q at *
 grind
theorem KV(Z:SlN .u64 w a n c xs)(nx:Num 18446744073709551616 xs x)(hs:s<=63)(hn:n<=1000000) :
 Calls prog 317 #[.slice a n c,.int .u64 s] w (Hy .u64 18446744073709551616 w (x/2^s)):=by
 have o:=gE Z.len;have P:=gE nx;clear nx;have N:(s:Int)/64=0:=by omega
 have X:(s:Int).tdiv 64=0:=by rw[j3 (by omega)];exact N
 have hr:(s:Int)%64=s:=by omega
 have Y:(s:Int).tmod 64=s:=by rw[jx (by omega)];exact hr
 by_cases h0:n=0
 · have HZ:Hid (x/2^s=0):=by
    show _=_;have h1:xs=[]:=gQ (by rw[o.out,h0]);have h2:=P.out.val;rw[h1]at h2;simp only[W.val]at h2;rw[<-h2];simp
   subst h0
   go_enter func317,ntmps317
   go_wp2;go_ret;exact⟨none,0,0,[],rfl,Ext.refl w,SlN.nil _ _,by rw[HZ.out];exact Num.nil _⟩
 · have U:(0:Int)<(n:Int):=by omega
   clear h0
   go_enter func317,ntmps317
   go_upto_region 5 with(at_make;refine C6 (n:=n) rfl rfl underlying81 AK rfl rfl rfl (by omega) (by unfold maxLen;omega) ?_;intro w1 E D)
   clear N X hr Y U;go_wp2
   go_loopw[27] (fun iv wr=>∃ (k:Nat) (g:List Nat),iv = .int .i64 k/\k<=n/\Ext w wr/\Az .u64 wr w.heap.size 238 w.heap.size n n g/\W.bnd 18446744073709551616 g/\Hid (2^s*W.val 18446744073709551616 (g.take k)+xs.getD 0 0%2^s=W.val 18446744073709551616 (xs.take k)+18446744073709551616^k*(xs.getD k 0%2^s))) (fun iv _=>n-(intOf iv).toNat)
   case atStart=>exact⟨0,List.replicate n 0,rfl,gO _,D,Az.of_zeros E,fun z d=>by rw[(jb.1 d).2];omega,gE (by simp[W.val])⟩
   case round =>
    clear E D;obtain⟨k,g,rfl,hk,I,d,Q,A⟩:=hrel;by_cases b:k<n
    · obtain⟨b1,o1,rfl,m⟩:=(Z.ext I).at (j:=k) b;have g1:=m k b;have g2:=d.cell (i:=k) b;have g3:=d.frozen k;have F:=W.bnd_at P.out.bnd (i:=k) (by rw[o.out];exact b);by_cases r:k+1<n
      · have g4:=m (k+1) r;have a1:b1≠w.heap.size:=by have:=Z.fresh (lrf _) (by omega);simpa[blk]using this
        obtain⟨f,t,v,C⟩:=OW (y:=xs.getD (k+1) 0) hs F;have O:=gE (Hj (B:=18446744073709551616) (l:=g) (xs:=xs) (k:=k) (s:=s) (z:=f) (by rw[d.len];omega) (by rw[o.out];exact b) A.out C);obtain⟨L,J⟩:∃ L,xs.getD (k+1) 0*2^(64-s)%18446744073709551616=L:=⟨_,rfl⟩;obtain⟨V,K⟩:∃ V,xs.getD k 0/2^s=V:=⟨_,rfl⟩;have S:L<18446744073709551616:=by rw[<-J];exact io _ (by omega)
        have T:V<18446744073709551616:=by rw[<-K];have:=iI (xs.getD k 0) (2^s);omega
        rw[J,K]at v;have f5:bits BinOp.or IntKind.u64 (V:Int) (L:Int)=(f:Int):=by rw[nG V L T S,v]
        have f6:IntKind.u64.wrap (((xs.getD (k+1) 0:Nat):Int)*2^(64-s))=(L:Int):=by
         have:=Hi (x:=xs.getD (k+1) 0*2^(64-s)) (M:=L) J;push_cast at this;exact this
        have f7:((xs.getD k 0:Nat):Int)/2^s=(V:Int):=by rw[<-K];push_cast;rfl
        clear J K v C A;generalize a0:xs.getD (k+1) 0=y at *
        generalize xs.getD k 0=u at *
        generalize g.getD k 0=z at *
        clear m;go_wp2;have R:=((I.setCell (p:=⟨w.heap.size,k,none⟩) (lrf _) (.int .u64 (V:Int))).setCell (p:=⟨w.heap.size,k,none⟩) (lrf _) (.int .u64 (f:Int))).drewN 1;have H:=((d.set k V).set k f).drewN 1;rw[oK]at H
        go_region
        go_wp2;go_roundw
        case rel=>exact⟨k+1,g.set k f,by go_num,by omega,R,H,W.bnd_set Q t,by rw[a0];exact O⟩
        case measure=>simp[intOf];omega
      · have G:xs.getD (k+1) 0=0:=by
         rw[gqq,ig (by rw[o.out];omega)];rfl
        obtain⟨f,t,v,C⟩:=OW (y:=0) hs F;have O:=gE (Hj (B:=18446744073709551616) (l:=g) (xs:=xs) (k:=k) (s:=s) (z:=f) (by rw[d.len];omega) (by rw[o.out];exact b) A.out (by rw[G];exact C));have e7:xs.getD k 0/2^s=f:=by rw[<-v];simp
        have f7:((xs.getD k 0:Nat):Int)/2^s=(f:Int):=by rw[<-e7];push_cast;rfl
        clear v C e7 A G;generalize xs.getD k 0=u at *
        generalize g.getD k 0=z at *
        clear m;go_wp2;go_roundw
        case rel=>exact⟨k+1,g.set k f,by go_num,by omega,I.setCell (lrf _) _,d.set k f,W.bnd_set Q t,O⟩
        case measure=>simp[intOf];omega
    · have ek:k=n:=by omega
      have hv:W.val 18446744073709551616 g=x/2^s:=by
       have h1:=A.out;have h2:xs.getD n 0=0:=by
        rw[gqq,ig (by rw[o.out];omega)];rfl
       rw[ek,gG (by rw[d.len];exact lrf _),gG (by rw[o.out];exact lrf _),P.out.val,h2,Nat.zero_mod,kY,iO]at h1;rw[<-h1,ld (iC s),jy (io _ (iC s)),iO]
      go_wp2_with fail
      refine(Bq d.sl).mono ?_;rintro e w4 ⟨q,rfl,rfl,N,ht⟩;obtain⟨t1,t2⟩:=BE d.sl N ht Q hv;go_wp2;go_ret;exact⟨_,q,_,_,rfl,I,t1,t2⟩
theorem Lt(m:y<18446744073709551616)(a:lo<18446744073709551616)(k:hi<y)(l:r<y)(h:hi*18446744073709551616+lo=q*y+r) :
 Calls prog 293 #[.int .u64 hi,.int .u64 lo,.int .u64 y] w fun e f=>e = .returned (.tuple #[.int .u64 (q:Int),.int .u64 (r:Int)])/\Qt w f:=by
 refine(Fk m a k).mono ?_;rintro e f ⟨c,d,rfl,_,b,h2,j⟩;rw[h]at h2;have g:r=d:=by
  have:(q*y+r)%y=(c*y+d)%y:=by rw[h2]
  rw[gV,lC,jG l,gV,lC,jG b]at this;exact this
 subst g;have i:q=c:=mf (show 0<y by omega) (by omega);subst i;exact⟨rfl,j⟩
theorem Ut{b y1 y0 U:Nat}(a:g*y1+r=U)(c:g*y0<=b*r+u):g*(y1*b+y0)<=U*b+u:=by
 have h2:g*(y1*b+y0)=g*y1*b+g*y0:=by grind
 have h3:U*b=g*y1*b+r*b:=by rw[<-a];grind
 have h4:b*r=r*b:=gV _ _;omega
theorem SK{W f t1 t0:Nat}(j:W=w3*P+lo)(i:D=d2*P+lo')(e:lo' < P)(c:w3=(f*B+t1)*B+t0)(a:d2=f*B+s)(g:s<B)(d:B<=2*f)(l:W<(q+1)*D):B<=q+2:=by
 refine ia fun k => ?_;have b:q+1+2<=B:=by omega
 have h1:(q+1)*D<=(q+1)*(d2*P+P):=iB _ (by omega);have h2:(q+1)*(d2*P+P)=(q+1)*(d2+1)*P:=by grind
 have h3:w3*P<(q+1)*(d2+1)*P:=by omega
 have h4:w3<(q+1)*(d2+1):=jP h3;have h5:(q+1)*(d2+1)+2*(d2+1)<=B*(d2+1):=by
  rw[<-iW];exact gH _ b
 have h6:B*(d2+1)=f*B*B+s*B+B:=by rw[a];grind
 have h7:w3=f*B*B+t1*B+t0:=by rw[c];grind
 have h8:s*B+B<=B*B:=by
  have:=gH B (show s+1<=B from g);rw[iW]at this;omega
 have h9:B*B<=2*f*B:=gH _ d;have h10:2*(d2+1)=2*f*B+2*s+2:=by rw[a];grind
 omega
theorem V6(_ht:t<18446744073709551616)(h:p/18446744073709551616<r\/(p/18446744073709551616=r/\p%18446744073709551616<=t)):p<=18446744073709551616*r+t:=by omega
theorem V7(_ht:t<18446744073709551616)(h:r<p/18446744073709551616\/(p/18446744073709551616=r/\t<p%18446744073709551616)):18446744073709551616*r+t<p:=by omega
theorem Nn(hl:SlN .u64 w a (n+1) c ls)(hd:SlN .u64 w b n d ds)(bl:W.bnd 18446744073709551616 ls)(bd:W.bnd 18446744073709551616 ds)(h2:n=m+2)(hn:n<=1000000)(hf:9223372036854775808<=ds.getD (m+1) 0)
 (G:w3=(ls.getD (m+2) 0*18446744073709551616+ls.getD (m+1) 0)*18446744073709551616+ls.getD m 0) (z:d2=ds.getD (m+1) 0*18446744073709551616+ds.getD m 0)
 (hW:W.val 18446744073709551616 ls=w3*P+lo) (hD:W.val 18446744073709551616 ds=d2*P+lo') (a9:lo<P) (D:lo' < P) (aa:q*W.val 18446744073709551616 ds<=W.val 18446744073709551616 ls) (I:W.val 18446744073709551616 ls<(q+1)*W.val 18446744073709551616 ds) (ab:q<18446744073709551616) :
 Calls prog 319 #[.slice a (n+1) c,.slice b n d] w fun e w'=>∃ g:Nat,e = .returned (.int .u64 (g:Int))/\q<=g/\g<=q+1/\g<18446744073709551616/\Qt w w':=by
 subst h2;have k1:=W.digit_hi hW a9 hD aa;have ah:=W.bnd_at bd (i:=m+1) (by rw[hd.len];omega);have ad:=W.bnd_at bd (i:=m) (by rw[hd.len];omega);have aq:=W.bnd_at bl (i:=m+2) (by rw[hl.len];omega);have ai:=W.bnd_at bl (i:=m+1) (by rw[hl.len];omega);have T:=W.bnd_at bl (i:=m) (by rw[hl.len];omega);obtain⟨b1,o1,rfl,H⟩:=hl.at (j:=0) (by omega);obtain⟨b2,o2,rfl,N⟩:=hd.at (j:=0) (by omega);have g0:=H m (by omega);have g1:=H (m+1) (by omega);have o:=H (m+2) (by omega);have g3:=N (m+1) (by omega);have g4:=N m (by omega);have k2:18446744073709551616<=d2:=by
  rw[z];have h1:1*18446744073709551616<=ds.getD (m+1) 0*18446744073709551616:=gH _ (by omega);rw[jZ]at h1;exact gJ h1 (lP _ _)
 have J:Hid (ls.getD (m+2) 0=ds.getD (m+1) 0->18446744073709551616<=q+2):=by
  show _->_;intro he;exact SK (B:=18446744073709551616) hW hD D (by rw[G,he]) z ad (by omega) I
 have a1:Hid (∀ e,e*d2<=w3->e<=q+1):=by
  show ∀ e,e*d2<=w3->e<=q+1;intro e he;exact W.digit_lo (by omega) hW hD D I he (by omega)
 have a0:Hid (ls.getD (m+2) 0<=ds.getD (m+1) 0):=by
  show _<=_;refine ia fun hc => ?_;have h1:W.val 18446744073709551616 ls<18446744073709551616*W.val 18446744073709551616 ds:=ib I (gH _ ab);have h3:18446744073709551616*W.val 18446744073709551616 ds<18446744073709551616*((d2+1)*P):=Nat.mul_lt_mul_of_pos_left (by rw[hD];grind) (by omega);have h4:w3*P<18446744073709551616*((d2+1)*P):=by omega
  have h5:18446744073709551616*((d2+1)*P)=(18446744073709551616*(d2+1))*P:=by grind
  rw[h5]at h4;have h6:=jP h4;rw[G,z]at h6;generalize ls.getD (m+2) 0=k at *
  generalize ls.getD (m+1) 0=p at *
  generalize ls.getD m 0=v at *
  generalize ds.getD (m+1) 0=f at *
  generalize ds.getD m 0=s at *
  have h7:(f+1)*18446744073709551616*18446744073709551616<=k*18446744073709551616*18446744073709551616:=gH _ (gH _ (by omega));omega
 clear hW hD aa I a9 D H N bl bd hl hd;generalize ls.getD (m+2) 0=k at *
 generalize ls.getD (m+1) 0=p at *
 generalize ls.getD m 0=v at *
 generalize ds.getD (m+1) 0=f at *
 generalize ds.getD m 0=s at *
 have au:IntKind.i64.wrap ((m:Int)+2)=(m:Int)+2:=gI _ (by omega);have al:IntKind.i64.wrap ((m:Int)+2-1)=(m:Int)+1:=by rw[show(m:Int)+2-1=(m:Int)+1 by omega];exact gI _ (by omega)
 have am:IntKind.i64.wrap ((m:Int)+2-2)=(m:Int):=by rw[show(m:Int)+2-2=(m:Int) by omega];exact gI _ (by omega)
 have ae:=a0.out;by_cases ht:k<f
 · -- the guess by the first words
   obtain⟨V,O⟩:∃ V,(k*18446744073709551616+p)/f=V:=⟨_,rfl⟩;obtain⟨Z,R⟩:∃ Z,(k*18446744073709551616+p)%f=Z:=⟨_,rfl⟩;have he:k*18446744073709551616+p=V*f+Z:=by
    have:=j6 (k*18446744073709551616+p) f;rw[O,R,gV]at this;exact this.symm
   have S:Z<f:=by rw[<-R];exact io _ (by omega)
   have C:V<18446744073709551616:=by
    rw[<-O,jm (by omega)];have:(k+1)*18446744073709551616<=f*18446744073709551616:=gH _ ht;rw[gV 18446744073709551616 f];omega
   have a8:=fun wx:World=>Lt (w:=wx) ah ai ht S he;have K:=gE he.symm;have M:Hid (q*(f*18446744073709551616+s)<=(k*18446744073709551616+p)*18446744073709551616+v):=by show _<=_;rw[<-G,<-z];exact k1
   have HQ:=gE (W.guess_hi (b:=18446744073709551616) (y1:=f) (y0:=s) (U:=k*18446744073709551616+p) (u:=v) (q:=q) (g:=V) (r:=Z) K.out M.out T S);have af:Hid (∀ g r,g*f+r=k*18446744073709551616+p->18446744073709551616*r+v<g*s->q<g):=by
    show ∀ g r,g*f+r=k*18446744073709551616+p->18446744073709551616*r+v<g*s->q<g;exact fun g r h1 h2=>W.guess_down (b:=18446744073709551616) (y1:=f) (y0:=s) (U:=k*18446744073709551616+p) (u:=v) (q:=q) (g:=g) (r:=r) h1 M.out ab (Or.inr h2)
   have a2:Hid (∀ g r,g*f+r=k*18446744073709551616+p->g*s<=18446744073709551616*r+v->g<=q+1):=by
    show ∀ g r,g*f+r=k*18446744073709551616+p->g*s<=18446744073709551616*r+v->g<=q+1;intro g r h1 h2;refine a1.out g ?_;rw[G,z];exact Ut h1 h2
   clear O R he M a1 J a0 ae G z k1 k2
   go_enter func319,ntmps319
   go_wp2
   go_quiet (fail)
   have a4:(w.drewN nq).cell? ⟨b1,o1+m,none⟩=some (.int .u64 (v:Int)):=g0;have ag:(w.drewN nq).cell? ⟨b1,o1+(m+1),none⟩=some (.int .u64 (p:Int)):=g1;have a5:(w.drewN nq).cell? ⟨b1,o1+(m+2),none⟩=some (.int .u64 (k:Int)):=o;have a6:Qt w (w.drewN nq):=(Qt.refl w).drewN _;generalize w.drewN nq=w2 at *
   clear g0 g1 o g3 g4
   go_wp2_with fail
   go_quiet ((exact lS (a8 _)))
   have g0:(w2.drewN nq).cell? ⟨b1,o1+m,none⟩=some (.int .u64 (v:Int)):=a4;have a7:Qt w (w2.drewN nq):=a6.drewN _;generalize w2.drewN nq=w3 at *
   clear a4 ag a5 a6 a8;go_wp2;rw[show decide (f<=k)=false by simp;omega]
   go_loopw[8,9] (fun gv rv wr=>∃ g r:Nat,gv = .int .u64 (g:Int)/\rv = .int .u64 (r:Int)/\Hid (g*f+r=k*18446744073709551616+p)/\Hid (q<=g)/\g<18446744073709551616/\r<18446744073709551616/\wr=w3) (fun gv _ _=>(intOf gv).toNat)
   case atStart=>exact⟨V,Z,rfl,rfl,K,HQ,C,by omega,rfl⟩
   case round =>
    clear K HQ C S;obtain⟨g,r,rfl,rfl,K,HQ,C,ap,rfl⟩:=hrel;have t:=Jw (x:=g) (y:=s) C ad;obtain⟨A,E⟩:∃ A,g*s/18446744073709551616=A:=⟨_,rfl⟩;obtain⟨X,F⟩:∃ X,g*s%18446744073709551616=X:=⟨_,rfl⟩;rw[E,F]at t;by_cases hc:A<r\/(A=r/\X<=v)
    · have HF:Hid (g<=q+1):=a2.out g r K.out (V6 T (by rw[E,F];exact hc));have l:(A:Int)<r\/((r:Int)<=(A:Int)/\((A:Int) == (r:Int))=true/\(X:Int)<=v):=by
       rcases hc with h|⟨h1,h2⟩
       · left;omega
       · right;exact⟨by omega,by simp;omega,by omega⟩
      clear hc E F;rcases l with h1|⟨h1,h2,h3⟩
      all_goals
       go_wp2_with(go_at_call 301;refine(t _).mono ?_;rintro e w1 ⟨rfl,rfl⟩)
       go_ret;exact⟨g,rfl,HQ.out,HF.out,C,a7⟩
    · have hp:r<A\/(A=r/\v<X):=by omega
      have HD:=gE (af.out g r K.out (V7 T (by rw[E,F];exact hp)));obtain⟨o,rfl⟩:∃ o,g=o+1:=⟨g-1,by have:=HD.out;omega⟩;have ar:IntKind.u64.wrap ((o:Int)+1-1)=o:=Au (by omega) (by omega);have L:Hid (o*f+(r+f)=k*18446744073709551616+p):=by
       have h1:=K.out;show _=_;rw[<-h1]
       grind
      have ak:IntKind.u64.wrap (o:Int)=o:=Au (by omega) (by omega);have a3:Hid (q<=o):=by have:=HD.out;show _<=_;omega
      have l:((r:Int)<=(A:Int)/\((A:Int) == (r:Int))=false)\/((r:Int)<=(A:Int)/\((A:Int) == (r:Int))=true/\(v:Int)<X):=by
       rcases hp with h|⟨h1,h2⟩
       · left;exact⟨by omega,by simp;omega⟩
       · right;exact⟨by omega,by simp;omega,by omega⟩
      clear hc hp E F;by_cases Q:r+f<18446744073709551616
      · obtain⟨Y,ac⟩:∃ Y,r+f=Y:=⟨_,rfl⟩;rw[ac]at L Q;have aj:IntKind.u64.wrap ((r:Int)+(f:Int))=(Y:Int):=Au (by omega) Q;have an:(f:Int)<=(Y:Int):=by omega
        clear ac;rcases l with⟨h1,h2⟩|⟨h1,h2,h3⟩
        all_goals
         go_wp2_with(go_at_call 301;refine(t _).mono ?_;rintro e w1 ⟨rfl,rfl⟩)
         go_roundw
         case rel=>exact⟨o,Y,by go_num,rfl,L,a3,by omega,Q,trivial⟩
         case measure=>simp[intOf]
      · have HF:Hid (o<=q+1):=a2.out o (r+f) L.out (by
         have h1:o*s<=18446744073709551616*s:=gH _ (by omega);have h2:18446744073709551616*s<=18446744073709551616*(r+f):=iB _ (by omega)
         omega)
        have aj:IntKind.u64.wrap ((r:Int)+(f:Int))=((r+f-18446744073709551616:Nat):Int):=by
         rw[jU];omega
        have ao:((r+f-18446744073709551616:Nat):Int)<f:=by omega
        generalize r+f-18446744073709551616=Y at *
        rcases l with⟨h1,h2⟩|⟨h1,h2,h3⟩
        all_goals
         go_wp2_with(go_at_call 301;refine(t _).mono ?_;rintro e w1 ⟨rfl,rfl⟩)
         go_ret;exact⟨o,rfl,a3.out,HF.out,by omega,a7⟩
 · have he:k=f:=by omega
   have hB:=J.out he;subst he
   go_enter func319,ntmps319
   go_wp2
   go_quiet (fail)
   have a5:(w.drewN nq).cell? ⟨b1,o1+(m+2),none⟩=some (.int .u64 (k:Int)):=o;have hQ:Qt w (w.drewN nq):=(Qt.refl w).drewN _;generalize w.drewN nq=w2 at *
   go_wp2;go_ret;exact⟨18446744073709551615,rfl,by omega,by omega,by omega,hQ⟩
theorem Fl(b:0<B){l:List Nat}{p j:Nat}(h:W.val B l<B^p)(c:p<=j):l.getD j 0=0:=by
 refine ia fun a => ?_;have d:j<l.length:=by
  refine ia fun e=>a ?_;rw[gqq,ig (by omega)];rfl
 have h1:=W.val_split (B:=B) l j (by omega);rw[Dq d]at h1;simp only[W.val]at h1;generalize l.getD j 0=x at *
 have h2:B^j*1<=B^j*(x+B*W.val B (l.drop (j+1))):=iB _ (by omega);have h3:B^p<=B^j:=ic b c;omega
theorem OX{B:Nat}:∀ {l:List Nat},(∀ j,l.getD j 0=0)->W.val B l=0
 | [],_=>rfl
 | x :: l,h=>by
  have h0:=h 0;simp at h0;have h1:W.val B l=0:=OX fun j=>by have:=h (j+1);simpa using this
  simp[W.val,h0,h1]
theorem Mp(l:List Nat)(p j:Nat):(l.drop p).getD j 0=l.getD (p+j) 0:=by
 simp[mF]
theorem Iu(hp:p<=l.length)(h:∀ j,p<=j->l.getD j 0=0):W.val B l=W.val B (l.take p):=by
 rw[W.val_split (B:=B) l p hp,OX (l:=l.drop p),kY,iO];intro j;rw[Mp];exact h _ (by omega)
theorem Hk(hp:p<=l.length)(a:W.bnd B l)(h:∀ j,p<=j->l.getD j 0=0):W.val B l<B^p:=by
 rw[Iu hp h];have:=W.val_lt (W.bnd_take a p);rw[iq,jK hp]at this;exact this
theorem Qn(a:0<B){l:List Nat}{i m:Nat}(c:i+m<=l.length)(h:W.val B l<B^(i+m)):W.val B l=W.val B (l.take i)+B^i*W.val B ((l.drop i).take m):=by
 rw[W.val_split (B:=B) l i (by omega)];congr 2;refine Iu (by simp;omega) fun j b => ?_;rw[Mp];exact Fl a h (by omega)
theorem FU{i j:Nat}(a:j<m):((l.drop i).take m).getD j 0=l.getD (i+j) 0:=by
 simp[mF,a]
theorem Hl(a:l.length=m+2):W.val B l=(l.getD (m+1) 0*B+l.getD m 0)*B^m+W.val B (l.take m):=by
 rw[W.val_split (B:=B) l m (by omega),Dq (by omega),Dq (xs:=l) (k:=m+1) (by omega),iX (by omega)];simp only[W.val]
 grind
theorem OY(a:l.length=m+3):W.val B l=((l.getD (m+2) 0*B+l.getD (m+1) 0)*B+l.getD m 0)*B^m+W.val B (l.take m):=by
 rw[W.val_split (B:=B) l m (by omega),Dq (by omega),Dq (xs:=l) (k:=m+1) (by omega),Dq (xs:=l) (k:=m+1+1) (by omega),iX (by omega)];simp only[W.val]
 grind
theorem Ck(a:W.bnd B l){m:Nat}(b:m<=l.length):W.val B (l.take m)<B^m:=by
 have:=W.val_lt (W.bnd_take a m);rw[iq,jK b]at this;exact this
theorem Mq{c:Nat}(i:V=lo+P*Wn)(f:lo<P)(h1:c+g*D*P=V)(b:Wn<(q+1)*D)(d:q<=g):g=q/\c < P*D:=by
 have h2:g*D*P<P*(Wn+1):=by rw[jB,km];omega
 have h3:g*D<Wn+1:=by
  rw[gV]at h2;exact nC h2
 have h4:g<q+1:=jP (a:=D) (by omega);have e:g=q:=by omega
 refine⟨e,?_⟩;subst e;have h5:P*(Wn+1)<=P*((g+1)*D):=iB _ b;have h6:P*((g+1)*D)=g*D*P+P*D:=by grind
 rw[jB,km]at h5;omega
theorem OZ{b a T ov:Nat}(l:V=lo+P*Wn)(k:lo<P)(h1:b+g*D*P=V+T)(m:b<T)(c:q*D<=Wn)(d:Wn<(q+1)*D)(o:g<=q+1)(h2:a+ov*T=b+D*P)(j:a<T)(i:D*P<T):g=q+1/\a+q*D*P=V/\a<P*D:=by
 have h3:V<g*D*P:=by omega
 have h4:P*Wn<P*(g*D):=by rw[gV P (g*D)];omega
 have h5:Wn<g*D:=nC h4;have h6:q<g:=by
  refine ia fun n => ?_;have:g*D<=q*D:=gH _ (by omega);omega
 have e:g=q+1:=by omega
 subst e;have h7:(q+1)*D*P=q*D*P+D*P:=by grind
 have h9:q*D*P<=V:=by
  have:q*D*P<=Wn*P:=gH _ c;rw[gV Wn P]at this;omega
 have h8:ov=1:=by
  have h10:b+D*P=(V-q*D*P)+T:=by omega
  rcases iH ov 1 with h|h
  · have:ov=0:=by omega
    subst this;omega
  · rcases iH 1 ov with f | f
    · exfalso;have h11:2*T<=ov*T:=gH _ f;omega
    · omega
 subst h8;rw[jZ]at h2;have h10:a+q*D*P=V:=by omega
 refine⟨rfl,h10,?_⟩;have h5:P*(Wn+1)<=P*((q+1)*D):=iB _ d;have h6:P*((q+1)*D)=q*D*P+P*D:=by grind
 rw[jB,km]at h5;omega
def O0(k:IntKind)(B:Nat)(w:World)(q r:Nat)(e:Ending)(w':World):Prop:=∃ a n c xs a' n' c' ys,e = .returned (.tuple #[.slice a n c,.slice a' n' c'])/\Ext w w'/\SlN k w' a n c xs/\Num B xs q/\SlN k w' a' n' c' ys/\Num B ys r/\Hg w.heap.size (fun _=>False) a n
theorem Dw:AZ (x:Int) (y:Int)<0<->x<y:=by
 unfold AZ;split
 · constructor <;> intro _ <;> omega
 · split
   · constructor <;> intro _ <;> omega
   · constructor <;> intro _ <;> omega
theorem Fm(o:SlN .u64 w a n c xs)(r:SlN .u64 w b m d ys)(i:Num 18446744073709551616 xs x)(p:Num 18446744073709551616 ys y)(f:x<y) :
 Calls prog 289 #[.slice a n c,.slice b m d] w (O0 .u64 18446744073709551616 w (x/y) (x%y)):=by
 have j:Hid (AZ (x:Int) (y:Int)<0):=gE (Dw.2 f);have g:=fun s:World=>fun(h1:Ext w s)=>Bl (o.ext h1) (r.ext h1) i p;have q:=gE i;have k:=gE f;clear i p f
 go_enter func289,ntmps289
 go_wp2_with fail
 refine(g _ (Ext.refl w)).mono ?_;rintro e z ⟨rfl,l⟩;have v:=j.out;generalize AZ (x:Int) (y:Int)=t at *
 clear j;go_wp2
 go_ret2
 refine⟨none,0,0,[],a,n,c,xs,rfl,l.ext,SlN.nil _ _,?_,o.ext l.ext,?_,fun h=>absurd h (by omega)⟩
 · rw[jy k.out];exact Num.nil _
 · rw[jG k.out];exact q.out
theorem Fy(K:SlN .u64 w a n c xs)(v:SlN .u64 w b 1 d ys)(E:Num 18446744073709551616 xs x)(p:Num 18446744073709551616 ys y)(T:n<=1000000)(S:y<=x)(h0:0<y) :
 Calls prog 289 #[.slice a n c,.slice b 1 d] w (O0 .u64 18446744073709551616 w (x/y) (x%y)):=by
 have I:Hid (¬ AZ (x:Int) (y:Int)<0):=gE (by rw[Dw];omega);have s:=fun G:World=>fun(h1:Ext w G)=>Bl (K.ext h1) (v.ext h1) E p;have J:=gE E;have D:ys.getD 0 0=y/\y<18446744073709551616:=by
  have h1:=p.val;obtain⟨z,m⟩:=nW.1 v.len;have h2:=p.bnd z (by rw[m];simp);rw[m]at h1;simp[W.val]at h1;rw[m];simp;omega
 obtain⟨A,C⟩:=D;clear E p
 go_enter func289,ntmps289
 go_wp2_with fail
 refine(s _ (Ext.refl w)).mono ?_;rintro e w1 ⟨rfl,o⟩;have hc:=I.out;have R:(0:Int)<=AZ (x:Int) (y:Int):=by omega
 generalize AZ (x:Int) (y:Int)=cv at *
 clear I;obtain⟨Z,o1,rfl,g⟩:=(v.ext o.ext).at (j:=0) (by omega);have Q:=g 0 (by omega);rw[A,iO]at Q;clear g
 go_wp2_with fail
 refine(KU (K.ext o.ext) J.out.bnd J.out.val C h0 T).mono ?_;rintro e w2 ⟨M,U,O,Y,rfl,q,m,X,l⟩;have k:x%y<18446744073709551616:=by have:=io x h0;omega
 have i:=fun G:World=>DJ (w:=G) k;obtain⟨r,t⟩:∃ r,x%y=r:=⟨_,rfl⟩;rw[t]at i |-;have L:=gE t;clear t k
 go_wp2_with fail
 refine(i _).mono ?_;rintro e w3 ⟨N,V,P,H,rfl,f,B,F⟩;go_wp2
 go_ret2
 exact⟨M,U,O,Y,N,V,P,H,rfl,(o.ext.trans q).trans f,m.ext f,X,B,by rw[L.out];exact F,l.of o.ext.size (fun _ h=>h.elim)⟩
theorem Ed(a:l.length=m+1):W.val B l=l.getD m 0*B^m+W.val B (l.take m):=by
 rw[W.val_split (B:=B) l m (by omega),Dq (by omega),iX (by omega)];simp only[W.val]
 grind
theorem Jd(g:Num 18446744073709551616 ys y)(l:ys.length=m+1)(e:s<=63)(h1:9223372036854775808<=ys.getD m 0*2^s)(h2:ys.getD m 0*2^s<18446744073709551616)(b:Num 18446744073709551616 ds (y*2^s)):ds.length=m+1/\9223372036854775808<=ds.getD m 0:=by
 have c:=Ed (B:=18446744073709551616) l;rw[g.val]at c;have i:=Ck g.bnd (m:=m) (by omega);generalize ys.getD m 0=u at *
 generalize W.val 18446744073709551616 (ys.take m)=v at *
 have d:y*2^s=u*2^s*18446744073709551616^m+v*2^s:=by rw[c];grind
 have h3:u*2^s+2^s<=18446744073709551616:=by
  have h4:u<2^(64-s):=by
   refine jP (a:=2^s) ?_;rw[CV e];exact h2
  have h5:(u+1)*2^s<=2^(64-s)*2^s:=gH _ h4;rw[CV e,iW,jZ]at h5;exact h5
 have h6:y*2^s<18446744073709551616^(m+1):=by
  rw[d,ip];have h7:v*2^s<18446744073709551616^m*2^s:=jt i (iC s);have h8:(u*2^s+2^s)*18446744073709551616^m<=18446744073709551616*18446744073709551616^m:=gH _ h3;rw[iW]at h8;rw[gV (18446744073709551616^m) (2^s)]at h7;rw[gV (18446744073709551616^m) 18446744073709551616];omega
 have h9:9223372036854775808*18446744073709551616^m<=y*2^s:=by
  rw[d];exact gJ (gH _ h1) (lP _ _)
 have o:ds.length<=m+1:=W.nrm_len (B:=18446744073709551616) (by omega) b.nrm (by rw[b.val];exact h6);have p:m+1<=ds.length:=by
  refine ia fun k => ?_;have h10:=W.val_lt b.bnd;rw[b.val]at h10;have h11:18446744073709551616^ds.length<=18446744073709551616^m:=ic (by omega) (by omega);have h12:1*18446744073709551616^m<=9223372036854775808*18446744073709551616^m:=gH _ (by omega);rw[jZ]at h12;omega
 have f:ds.length=m+1:=by omega
 refine⟨f,?_⟩;have j:=Ed (B:=18446744073709551616) f;rw[b.val]at j;have n:=Ck b.bnd (m:=m) (by omega);generalize ds.getD m 0=t at *
 refine ia fun k => ?_;have h13:(t+1)*18446744073709551616^m<=9223372036854775808*18446744073709551616^m:=gH _ (by omega);rw[iW,jZ]at h13;omega
end Go.Proofs.YtlbmnokpiilfpaaGreatDoor
