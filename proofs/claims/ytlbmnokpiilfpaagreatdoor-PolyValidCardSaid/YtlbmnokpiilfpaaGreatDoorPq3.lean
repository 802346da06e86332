/- Part Pq3. -/
import Derived.Test.YtlbmnokpiilfpaaGreatDoorPq2
import Derived.WalkSpells
import Derived.Deep.CutBlock
import Derived.Deep.DeepCutAuto
import Derived.Laws.BitsAllLaws
import Derived.Lib.ItoaNum
set_option linter.all false
set_option maxRecDepth 100000
set_option maxHeartbeats 100000000
namespace Go.Proofs.YtlbmnokpiilfpaaGreatDoor
open Tryz Go Go.RowKit
def ie:=@List.mem_map
def ir:=@Int.natCast_mul
def iy:=@Int.natCast_add
def iC:=@Nat.two_pow_pos
def iI:=@Nat.div_le_self
def iJ:=@List.map_append
def j3:=@Int.tdiv_eq_ediv_of_nonneg
def j5:=@Nat.mul_le_mul
def j6:=@Nat.div_add_mod
def jb:=@List.mem_replicate
def jc:=@Int.toNat_natCast
def jm:=@Nat.div_lt_iff_lt_mul
def jt:=@Nat.mul_lt_mul_of_pos_right
def jy:=@Nat.div_eq_of_lt
def jG:=@Nat.mod_eq_of_lt
def jP:=@Nat.lt_of_mul_lt_mul_right
def jQ:=@Nat.pow_add
def jU:=@IntKind.wrap_u64
def ld:=@Nat.mul_add_div
def ll:=@Nat.dvd_mul_left
def lC:=@Nat.mul_add_mod
def lM:=@Nat.add_sub_cancel_left
def mf:=@Nat.eq_of_mul_eq_mul_right
def mC:=@Nat.mul_div_cancel_left
def mO:=@Nat.and_two_pow_sub_one_eq_mod
def mS:=@Int.natCast_ediv
def nG:=@u64_or_nat
def nR:=@Nat.mul_mod_left
def nW:=@List.length_eq_one_iff
def oG:=@Nat.dvd_add_right
def oR:=@nat_join
variable {l xs ys zs zs':List Nat} {B M N U V Y b' base bytes c c' cy d g hi lo m n o s u v wd x y:Nat} {a b:Option Addr} {P:Program} {e t:TypeId} {z:Value} {w w':World}
theorem CH(k:P.underlying t=some (.slice e))(a:Ca P e z bytes)(h1:lo<=hi)(h2:hi<=c)(h3:lo<c) :
 (Instr.sliceAt t (.slice (some ⟨g,0,none⟩) n c) (some (.int .i64 lo)) (some (.int .i64 hi)) none).run P w = .ok (.slice (some ⟨g,lo,none⟩) (hi-lo) (c-lo)) w:=by
 obtain⟨i,d,l,b,j⟩:=nH a;have e0:¬ c=lo:=by omega
 have f:Addr.add ⟨g,0,none⟩ lo=⟨g,lo,none⟩:=by
  unfold Addr.add;by_cases h0:lo=0 <;> simp[h0]
 have m:(lo:Int)<=hi:=by omega
 have o:(hi:Int)<=c:=by omega
 simp[Instr.sliceAt,Instr.slice,Instr.sliceBounds,Instr.sliceBound,j4 k,asIntOf,sizeOf,typeInfo,d,b,h1,h2,e0,f]
theorem Yp(a:x<18446744073709551616):(x+18446744073709551616-0-1)%18446744073709551616+1=x+18446744073709551616*(if x<0+1 then 1 else 0):=by
 split <;> omega
theorem EM(T:Az .u64 w base 238 g n c xs)(U:SlN .u64 w b m d ys)(R:blk b=none\/blk b≠some g)(bx:W.bnd 18446744073709551616 xs)(F:W.bnd 18446744073709551616 ys)(Q:m<=n)(t:W.val 18446744073709551616 ys<=W.val 18446744073709551616 xs) :
 Calls prog 282 #[.slice (some ⟨g,0,none⟩) n c,.slice b m d] w fun e Y=>e = .returned (.tuple #[])/\w.grownBy Y (some g)/\∃ a,Az .u64 Y base 238 g n c a/\W.bnd 18446744073709551616 a/\W.val 18446744073709551616 a=W.val 18446744073709551616 xs-W.val 18446744073709551616 ys:=by
 have HX:=gE T.len;have M:=gE U.len;have a3:=T.le;have a2:=U.le;have Z:=gE F;have HF:=gE t;clear F t
 go_enter func282,ntmps282
 go_wp2
 go_loopw[4,10] (fun O D wr=>∃ (k f:Nat) (a:List Nat),O = .int .u64 f/\D = .int .i64 k/\k<=m/\f<=1/\w.grownBy wr (some g)/\Az .u64 wr base 238 g n c a/\W.bnd 18446744073709551616 a/\Hid (W.val 18446744073709551616 a+W.val 18446744073709551616 (ys.take k)=W.val 18446744073709551616 xs+f*18446744073709551616^k)) (fun _ D _=>m-(intOf D).toNat)
 case atStart=>exact⟨0,0,xs,rfl,rfl,gO _,by omega,C8 _ _,T,bx,gE (by simp[W.val])⟩
 case round =>
  obtain⟨k,f,a,rfl,rfl,X,q,A,p,r,z⟩:=hrel;by_cases o:k<m
  · obtain⟨b1,o1,rfl,H⟩:=(U.kept A R).at (j:=k) o;have g1:=H k o;have g2:=p.cell (i:=k) (by omega);have g3:=p.frozen k;have C:=W.bnd_at r (i:=k) (by rw[p.len];omega);have V:=W.bnd_at Z.out (i:=k) (by rw[M.out];exact o);have L:=gE (W.sub_step (B:=18446744073709551616) (l:=a) (ys:=ys) (k:=k) (by rw[p.len];omega) (by rw[M.out];exact o) z.out (TM (x:=a.getD k 0) (y:=ys.getD k 0) (c:=f) C V q));have G:=Df (a.getD k 0) (ys.getD k 0) f q;have P:=Ss (x:=a.getD k 0) (y:=ys.getD k 0) (c:=f);have a1:(k:Int)<n:=by omega
    generalize a.getD k 0=u at *
    generalize ys.getD k 0=v at *
    have S:(u+18446744073709551616-v-f)%18446744073709551616<18446744073709551616:=io _ (by omega);generalize (u+18446744073709551616-v-f)%18446744073709551616=s at *
    generalize (if u<v+f then 1 else 0)=N at *
    clear H;go_wp2;go_roundw
    case rel=>exact⟨k+1,N,a.set k s,rfl,by go_num,by omega,P,DP A _ _,p.set k s,W.bnd_set r S,L⟩
    case measure=>simp[intOf];omega
  · have J:k=m:=by omega
    have E:Hid (W.val 18446744073709551616 a=(W.val 18446744073709551616 xs-W.val 18446744073709551616 ys)+f*18446744073709551616^m):=by
     have:=z.out;rw[J,gG (by rw[M.out];exact lrf _)]at this;have h2:=HF.out;show _=_;omega
    clear z J;go_wp2
    go_loopw[4,7] (fun O D wr=>∃ (k f:Nat) (a:List Nat),O = .int .u64 f/\D = .int .i64 k/\m<=k/\k<=n/\f<=1/\w.grownBy wr (some g)/\Az .u64 wr base 238 g n c a/\W.bnd 18446744073709551616 a/\Hid (W.val 18446744073709551616 a=(W.val 18446744073709551616 xs-W.val 18446744073709551616 ys)+f*18446744073709551616^k)) (fun _ D _=>n-(intOf D).toNat)
    case atStart=>exact⟨m,f,a,rfl,rfl,lrf _,Q,q,A,p,r,E⟩
    case round =>
     clear A p r E o X q;obtain⟨k,f,a,rfl,rfl,a0,X,q,A,p,r,z⟩:=hrel;have I:f=0\/f=1:=by omega
     rcases I with rfl|rfl
     · go_wp2
       go_end0
       exact⟨rfl,A,a,p,r,by have:=z.out;rw[jg,iO]at this;exact this⟩
     · by_cases o:k<n
       · have g2:=p.cell (i:=k) o;have g3:=p.frozen k;have C:=W.bnd_at r (i:=k) (by rw[p.len];exact o);have L:=gE (W.sub_step0 (B:=18446744073709551616) (l:=a) (k:=k) (s:=(a.getD k 0+18446744073709551616-0-1)%18446744073709551616) (c':=if a.getD k 0<0+1 then 1 else 0) (by rw[p.len];exact o) z.out (Yp C))
         have G:∀ K:World,(callFunc 291 #[.int .u64 ((a.getD k 0:Nat):Int),.int .u64 0,.int .u64 1]).run prog K = .ok (.value (.tuple #[.int .u64 (((a.getD k 0+18446744073709551616-0-1)%18446744073709551616:Nat):Int),.int .u64 ((if a.getD k 0<0+1 then 1 else 0:Nat):Int)])) K:=fun K=>Df (a.getD k 0) 0 1 (by omega) K;have P:=Ss (x:=a.getD k 0) (y:=0) (c:=1);have S:(a.getD k 0+18446744073709551616-0-1)%18446744073709551616<18446744073709551616:=io _ (by omega);generalize (a.getD k 0+18446744073709551616-0-1)%18446744073709551616=s at *
         generalize (if a.getD k 0<0+1 then 1 else 0)=N at *
         generalize a.getD k 0=u at *
         go_wp2;go_roundw
         case rel=>exact⟨k+1,N,a.set k s,rfl,by go_num,by omega,by omega,P,DP A _ _,p.set k s,W.bnd_set r S,L⟩
         case measure=>simp[intOf];omega
       · exfalso;have J:k=n:=by omega
         have h1:=z.out;have h2:=W.val_lt r;rw[p.len]at h2;rw[J]at h1;omega
theorem Ul(s:SlN .u64 w a n c xs)(B:n<=1000000)(h0:0<n) :
 Calls prog 238 #[.slice a n c] w (fun e f=>∃ g m,e = .returned (.slice (some ⟨g,0,none⟩) n m)/\Ext w f/\Az .u64 f w.heap.size 238 g n m xs):=by
 obtain⟨b,o,rfl,_⟩:=s.at h0;have y:=fun f:World=>Lib.run_eql_slice_nil (P:=prog) f 81 238 (some ⟨b,o,none⟩) n c 0 0 underlying81
 go_enter func238,ntmps238
 go_upto_region 3 with(fail)
 have q:Ext w (w.alloc (.cells #[] 238)):=(Ext.refl w).alloc _;have r:=AB w w.heap.size 238 #[] 0 rfl (lrf _) (by omega);have i:∀ u∈xs.map (BL .u64),u.oneCell'=true:=by
  intro u hu;obtain⟨x,_,rfl⟩:=ie.1 hu;rfl
 go_wp2_with(refine B5 rfl rfl underlying81 AK rfl rfl r rfl (s.ext q) i (by unfold maxLen;omega) (by omega) (by simp) ?_;intro t p A j l v)
 go_ret;have d:Own A w.heap.size 238 t n p (xs.map (BL .u64)):=by simpa using j
 obtain⟨g,rfl,_,_⟩:=d.place h0;exact⟨g,p,rfl,q.grown l (fun k z=>(r.lt z).1),d⟩
theorem wrap_u64{x:Int}(h0:0<=x)(h1:x<18446744073709551616):IntKind.u64.wrap x=x:=by
 rw[jU];exact Int.emod_eq_of_lt h0 h1
theorem Jw(a:x<18446744073709551616)(b:y<18446744073709551616)(w:World):Calls prog 301 #[.int .u64 x,.int .u64 y] w fun e c=>e = .returned (.tuple #[.int .u64 ((x*y/18446744073709551616:Nat):Int),.int .u64 ((x*y%18446744073709551616:Nat):Int)])/\c=w:=Any.bits_Mul64 W6 x y a b w
theorem Mj{k w:Nat}(f:o+k<l.length)(g:k<xs.length)(h:W.val B l+c*B^(o+k)=V+w*W.val B (xs.take k)*B^o)(e:s+B*c'=l.getD (o+k) 0+xs.getD k 0*w+c) :
 W.val B (l.set (o+k) s)+c'*B^(o+(k+1))=V+w*W.val B (xs.take (k+1))*B^o:=by
 have h1:=W.val_set (B:=B) (xs:=l) (i:=o+k) (v:=s) f;have h2:=W.val_take_succ (B:=B) g;rw[h2,<-jR,ip];have h3:B^(o+k)=B^o*B^k:=jQ _ _ _;rw[h3]at h h1 |-;generalize l.getD (o+k) 0=x at *
 generalize xs.getD k 0=y at *
 generalize W.val B (l.set (o+k) s)=a at *
 generalize W.val B l=b at *
 generalize W.val B (xs.take k)=d at *
 generalize B^k=p at *
 generalize B^o=q at *
 grind
theorem Um{z:Nat}(c:z<18446744073709551616)(hu:u<18446744073709551616)(b:wd<18446744073709551616)(a:cy<18446744073709551616) :
 u*wd/18446744073709551616+(u*wd%18446744073709551616+cy+0)/18446744073709551616<18446744073709551616/\u*wd/18446744073709551616+(u*wd%18446744073709551616+cy+0)/18446744073709551616+(z+(u*wd%18446744073709551616+cy+0)%18446744073709551616+0)/18446744073709551616<18446744073709551616 /\
 (z+(u*wd%18446744073709551616+cy+0)%18446744073709551616+0)%18446744073709551616+18446744073709551616*(u*wd/18446744073709551616+(u*wd%18446744073709551616+cy+0)/18446744073709551616+(z+(u*wd%18446744073709551616+cy+0)%18446744073709551616+0)/18446744073709551616)=z+u*wd+cy:=by
 have:u*wd<=18446744073709551615*18446744073709551615:=j5 (by omega) (by omega);generalize u * wd=p at *
 omega
theorem Eb{C:Nat}(Q:Az .u64 w base 238 g N C zs)(P:SlN .u64 w a n d xs)(r:blk a=none\/blk a≠some g)(ho:o+n<=N)(Y:W.bnd 18446744073709551616 zs)(X:W.bnd 18446744073709551616 xs)(Z:wd<18446744073709551616) :
 Calls prog 264 #[.slice (some ⟨g,o,none⟩) n c',.slice a n d,.int .u64 wd] w fun e w'=>∃ (b:Nat) (p:List Nat),e = .returned (.int .u64 b)/\b<18446744073709551616/\w.grownBy w' (some g)/\Az .u64 w' base 238 g N C p/\W.bnd 18446744073709551616 p/\W.val 18446744073709551616 p+b*18446744073709551616^(o+n)=W.val 18446744073709551616 zs+wd*W.val 18446744073709551616 xs*18446744073709551616^o/\(∀ j,o+n<=j->p.getD j 0=zs.getD j 0):=by
 have HZ:=gE Q.len;have H:=gE P.len;have a1:=P.le;have BX:=gE X;clear X
 go_enter func264,ntmps264
 go_wp2
 go_loopw[7,16] (fun cv S wr=>∃ (k b:Nat) (c:List Nat),cv = .int .u64 b/\S = .int .i64 k/\k<=n/\b<18446744073709551616/\w.grownBy wr (some g)/\Az .u64 wr base 238 g N C c/\W.bnd 18446744073709551616 c/\Hid (W.val 18446744073709551616 c+b*18446744073709551616^(o+k)=W.val 18446744073709551616 zs+wd*W.val 18446744073709551616 (xs.take k)*18446744073709551616^o)/\Hid (∀ j,o+n<=j->c.getD j 0=zs.getD j 0)) (fun _ S _=>n-(intOf S).toNat)
 case atStart=>exact⟨0,0,zs,rfl,rfl,gO _,by omega,C8 _ _,Q,Y,gE (by simp[W.val]),gE (fun _ _=>rfl)⟩
 case round =>
  clear Q Y;obtain⟨k,b,c,rfl,rfl,hk,D,L,v,I,U,V⟩:=hrel;by_cases f:k<n
  · obtain⟨b1,o1,rfl,y⟩:=(P.kept L r).at (j:=k) f;have g1:=y k f;have g2:=v.cell (i:=o+k) (by omega);have g3:=v.frozen (o+k);have R:=W.bnd_at I (i:=o+k) (by rw[v.len];omega);have F:=W.bnd_at BX.out (i:=k) (by rw[H.out];exact f);obtain⟨m1,m2,m3⟩:=Um R F Z D;have HS:=gE (Mj (B:=18446744073709551616) (l:=c) (xs:=xs) (k:=k) (o:=o) (w:=wd) (by rw[v.len];omega) (by rw[H.out];exact f) U.out m3);have a0:(k:Int)<n:=by omega
    have G:Hid (∀ s j,o+n<=j->(c.set (o+k) s).getD j 0=zs.getD j 0):=by
     show ∀ s j,o+n<=j->(c.set (o+k) s).getD j 0=zs.getD j 0;intro s j hj;rw[<-V.out j hj];have r:¬ o+k=j:=by omega
     simp[r]
    generalize c.getD (o+k) 0=z at *
    generalize xs.getD k 0=u at *
    have E:=Jw F Z;have J:∀ m:World,(callFunc 300 #[.int .u64 ((u*wd%18446744073709551616:Nat):Int),.int .u64 (b:Int),.int .u64 0]).run prog m = .ok (.value (.tuple #[.int .u64 (((u*wd%18446744073709551616+b+0)%18446744073709551616:Nat):Int),.int .u64 (((u*wd%18446744073709551616+b+0)/18446744073709551616:Nat):Int)])) m:=fun m=>Cz (u*wd%18446744073709551616) b 0 (by omega) m;generalize u * wd/18446744073709551616=t at *
    generalize u * wd%18446744073709551616=pl at *
    generalize M:(pl+b+0)%18446744073709551616=s1 at *
    generalize A:(pl+b+0)/18446744073709551616=q at *
    have K:∀ m:World,(callFunc 300 #[.int .u64 (z:Int),.int .u64 (s1:Int),.int .u64 0]).run prog m = .ok (.value (.tuple #[.int .u64 (((z+s1+0)%18446744073709551616:Nat):Int),.int .u64 (((z+s1+0)/18446744073709551616:Nat):Int)])) m:=fun m=>Cz z s1 0 (by omega) m;have O:(z+s1+0)%18446744073709551616<18446744073709551616:=io _ (by omega);generalize (z+s1+0)%18446744073709551616=T at *
    generalize (z+s1+0)/18446744073709551616=x at *
    have a2:IntKind.u64.wrap ((t:Int)+q)=((t+q:Nat):Int):=by rw[wrap_u64 (by omega) (by omega)];omega
    have a3:IntKind.u64.wrap (((t+q:Nat):Int)+x)=((t+q+x:Nat):Int):=by rw[wrap_u64 (by omega) (by omega)];omega
    have a4:IntKind.u64.wrap ((t:Int)+(q:Int)+x)=((t+q+x:Nat):Int):=by rw[wrap_u64 (by omega) (by omega)];omega
    clear y M A m3
    go_wp2_with(go_at_call 301;refine(E _).mono ?_;rintro e w1 ⟨rfl,rfl⟩)
    go_roundw
    case rel=>exact⟨k+1,t+q+x,c.set (o+k) T,by first | rfl | go_num,by go_num,by omega,m2,DP L _ _,v.set (o+k) T,W.bnd_set I O,HS,gE (G.out T)⟩
    case measure=>simp[intOf];omega
  · have ek:k=n:=by omega
    go_wp2;go_ret;have h1:=U.out;rw[ek,gG (by rw[H.out];exact lrf _)]at h1;exact⟨b,c,rfl,D,L,v,I,h1,V.out⟩
theorem Jx(xs:List Nat):∀ v∈xs.map (BL .u64),v.oneCell'=true:=by
 intro u hu;obtain⟨x,_,rfl⟩:=ie.1 hu;rfl
theorem He(B:Nat)(xs:List Nat)(n:Nat):W.val B (xs ++ List.replicate n 0)=W.val B xs:=by
 rw[W.val_app,W.val_zeros];simp
theorem Jy(a:0<B){xs:List Nat}(h:W.bnd B xs)(n:Nat):W.bnd B (xs ++ List.replicate n 0):=by
 refine W.bnd_app h ?_;intro x b;rw[(jb.1 b).2];exact a
theorem Qg(h:Arr w g t ((List.map (BL .u64) (List.replicate N 0)).take 0 ++ xs.map (BL .u64) ++ (List.map (BL .u64) (List.replicate N 0)).drop (0+xs.length))):B3 .u64 w g t (xs ++ List.replicate (N-xs.length) 0):=by
 unfold B3;rw[iJ];simpa using h
theorem IU(t:SlN .u64 w a n c xs)(p:SlN .u64 w b m d ys)(q:Num 18446744073709551616 xs x)(r:Num 18446744073709551616 ys y)(l:m<=n)(E:n<=1000000)(h0:0<m){k:World}{g:Nat}(f:w.heap.size<=g)(i:Ext w k)(hA1:B3 .u64 k g 238 (xs ++ List.replicate 1 0)) :
 Calls prog 266 #[.slice (some ⟨g,0,none⟩) (n+1) (n+1),.slice b m d] k fun e v=>e = .returned (.tuple #[])/\Ext w v/\∃ j,Az .u64 v w.heap.size 238 g (n+1) (n+1) j/\W.bnd 18446744073709551616 j/\W.val 18446744073709551616 j=x+y:=by
 have s:(xs ++ List.replicate 1 0).length=n+1:=by simp[t.len]
 have A:Az .u64 k w.heap.size 238 g (n+1) (n+1) (xs ++ List.replicate 1 0):=by
  have:=B3.own hA1 f (by rw[s];unfold maxLen;omega);rw[s]at this;exact this
 have C:W.val 18446744073709551616 (xs ++ List.replicate 1 0)=x:=by rw[He,q.val]
 refine(Oy A (p.ext i) (Or.inr (p.fresh f h0)) (Jy (by omega) q.bnd 1) r.bnd (by omega) ?_).mono ?_
 · have h1:=W.val_lt q.bnd;have h2:=W.val_lt r.bnd;rw[t.len]at h1;rw[p.len]at h2;have h3:18446744073709551616^m<=18446744073709551616^n:=ic (by omega) l;have h4:18446744073709551616^(n+1)=18446744073709551616^n*18446744073709551616:=ip _ _;rw[He];omega
 · rintro e F ⟨rfl,B,j,D,z,o⟩;exact⟨rfl,i.grownR B f,j,D,z,by rw[o,C,r.val]⟩
theorem Nk(s:SlN .u64 w a n c xs)(t:SlN .u64 w b m d ys)(K:Num 18446744073709551616 xs x)(L:Num 18446744073709551616 ys y)(N:n<=1000000)(M:m<=1000000) :
 Calls prog 255 #[.slice a n c,.slice b m d] w (Hy .u64 18446744073709551616 w (x+y)):=by
 have A:=gE s.len;have B:=gE t.len;have p:=gE K;have r:=gE L;clear K L;by_cases S:n<m
 · go_enter func255,ntmps255
   by_cases h0:n=0
   · have C:Hid (x+y=y):=by
      show _=_;have h1:xs=[]:=gQ (by rw[A.out,h0]);have h2:=p.out.val;rw[h1]at h2;simp only[W.val]at h2;omega
     subst h0;go_wp2;go_ret;exact⟨b,m,d,ys,rfl,Ext.refl w,t,⟨r.out.bnd,r.out.nrm,by rw[r.out.val,C.out]⟩⟩
   · have E:((n:Int) == 0)=false:=by simp;omega
     have o:0<n:=by omega
     clear h0
     go_upto_region 6 with(at_make;refine C6 (n:=m+1) rfl rfl underlying81 AK rfl rfl rfl (by omega) (by unfold maxLen;omega) ?_;intro O i f)
     have hA1:=(Az.of_zeros i).arr
     go_upto_region 7 with(refine LF (sT:=81) rfl rfl underlying81 AK rfl rfl hA1 (t.ext f) (by omega) (by simp) (Jx _) ?_;intro z g j)
     have hA2:B3 .u64 z w.heap.size 238 (ys ++ List.replicate 1 0):=by
      rw[<-show m+1-ys.length=1 from by rw[B.out];omega];refine Qg ?_;rw[B.out];exact g
     have k:Ext w z:=f.grownR j (lrf _);clear i f hA1 g j
     go_wp2_with fail
     refine(IU t s r.out p.out (by omega) M o (lrf _) k hA2).mono ?_;rintro e P ⟨rfl,l,R,v,D,H⟩
     go_wp2_with fail
     refine(Bq v.sl).mono ?_;rintro e Q ⟨q,rfl,rfl,F,G⟩;obtain⟨I,J⟩:=BE v.sl F G D H;go_wp2;go_ret;exact⟨_,q,_,_,rfl,l,I,by rw[jW];exact J⟩
 · go_enter func255,ntmps255
   by_cases h0:m=0
   · have C:Hid (x+y=x):=by
      show _=_;have h1:ys=[]:=gQ (by rw[B.out,h0]);have h2:=r.out.val;rw[h1]at h2;simp only[W.val]at h2;omega
     subst h0;go_wp2;go_ret;exact⟨a,n,c,xs,rfl,Ext.refl w,s,⟨p.out.bnd,p.out.nrm,by rw[p.out.val,C.out]⟩⟩
   · have E:((m:Int) == 0)=false:=by simp;omega
     have o:0<m:=by omega
     clear h0
     go_upto_region 6 with(at_make;refine C6 (n:=n+1) rfl rfl underlying81 AK rfl rfl rfl (by omega) (by unfold maxLen;omega) ?_;intro O i f)
     have hA1:=(Az.of_zeros i).arr
     go_upto_region 7 with(refine LF (sT:=81) rfl rfl underlying81 AK rfl rfl hA1 (s.ext f) (by omega) (by simp) (Jx _) ?_;intro z g j)
     have hA2:B3 .u64 z w.heap.size 238 (xs ++ List.replicate 1 0):=by
      rw[<-show n+1-xs.length=1 from by rw[A.out];omega];refine Qg ?_;rw[A.out];exact g
     have k:Ext w z:=f.grownR j (lrf _);clear i f hA1 g j
     go_wp2_with fail
     refine(IU s t p.out r.out (by omega) N o (lrf _) k hA2).mono ?_;rintro e P ⟨rfl,l,R,v,D,H⟩
     go_wp2_with fail
     refine(Bq v.sl).mono ?_;rintro e Q ⟨q,rfl,rfl,F,G⟩;obtain⟨I,J⟩:=BE v.sl F G D H;go_wp2;go_ret;exact⟨_,q,_,_,rfl,l,I,by exact J⟩
theorem Hf(v:SlN .u64 w a n c xs)(z:SlN .u64 w b m d ys)(E:Num 18446744073709551616 xs x)(F:Num 18446744073709551616 ys y)(L:n<=1000000)(o:y<=x) :
 Calls prog 256 #[.slice a n c,.slice b m d] w (Hy .u64 18446744073709551616 w (x-y)):=by
 have G:=gE v.len;have A:=gE z.len;have f:=gE E;have i:=gE F;have j:=gE o;clear E F o
 go_enter func256,ntmps256
 by_cases h0:m=0
 · have H:Hid (x-y=x):=by
    show _=_;have h1:ys=[]:=gQ (by rw[A.out,h0]);have h2:=i.out.val;rw[h1]at h2;simp only[W.val]at h2;omega
   subst h0;go_wp2;go_ret;exact⟨a,n,c,xs,rfl,Ext.refl w,v,⟨f.out.bnd,f.out.nrm,by rw[f.out.val,H.out]⟩⟩
 · have J:((m:Int) == 0)=false:=by simp;omega
   have s:0<m:=by omega
   have t:m<=n:=by
    refine ia fun R => ?_;have:=W.len_lt (B:=18446744073709551616) (by omega) f.out.bnd i.out.nrm (by rw[G.out,A.out];omega);rw[f.out.val,i.out.val]at this;have:=j.out;omega
   clear h0
   go_wp2_with fail
   refine(Ul v L (by omega)).mono ?_;rintro e S ⟨g,Q,rfl,k,l⟩;have p:=l.lo
   go_wp2_with fail
   refine(EM l (z.ext k) (Or.inr (z.fresh p s)) f.out.bnd i.out.bnd t (by rw[f.out.val,i.out.val];exact j.out)).mono ?_;rintro e T ⟨rfl,K,V,D,I,C⟩;rw[f.out.val,i.out.val]at C;have r:=k.grownR K p
   go_wp2_with fail
   refine(Bq D.sl).mono ?_;rintro e U ⟨q,rfl,rfl,M,N⟩;obtain⟨O,P⟩:=BE D.sl M N I C;go_wp2;go_ret;exact⟨_,q,_,_,rfl,r,O,P⟩
theorem FR(n j:Nat):(List.replicate n 0).getD j 0=0:=by
 rw[gqq,List.getElem?_replicate];split <;> rfl
theorem OT{X i:Nat}(c:i+n<zs'.length)(e:W.val B zs=X*V)(h:W.val B zs'+cy*B^(i+n)=W.val B zs+wd*X*B^i)(h0:zs'.getD (i+n) 0=0) :
 W.val B (zs'.set (i+n) cy)=X*(V+B^i*wd):=by
 have h1:=W.val_set (B:=B) (xs:=zs') (i:=i+n) (v:=cy) c;rw[h0]at h1;generalize W.val B (zs'.set (i+n) cy)=a at *
 generalize W.val B zs'=b at *
 generalize W.val B zs=d at *
 generalize B^(i+n)=p at *
 generalize B^i=q at *
 grind
def Src(w:World)(S:Nat->Prop)(a:Option Addr):Prop:=∀ g,blk a=some g->w.heap.size<=g\/S g
def Hg(b:Nat)(S:Nat->Prop)(a:Option Addr)(n:Nat):Prop:=0<n->∀ g,blk a=some g->b<=g\/S g
theorem Hg.of{b:Nat}{S S':Nat->Prop}(h:Hg b S a n)(d:b'<=b)(c:∀ g,S g->b'<=g\/S' g):Hg b' S' a n:=fun h0 g e=>(h h0 g e).elim (fun h=>Or.inl (gJ d h)) (c g)
def Un(k:IntKind)(B:Nat)(w:World)(S:Nat->Prop)(v:Nat)(e:Ending)(w':World):Prop:=∃ a n c xs,e = .returned (.slice a n c)/\Ext w w'/\SlN k w' a n c xs/\Num B xs v/\Src w S a
theorem Un.plain{k:IntKind}{S:Nat->Prop}{e:Ending}(h:Un k B w S v e w'):Hy k B w v e w':=by
 obtain⟨a,n,c,b,h1,h2,h3,h4,_⟩:=h;exact⟨a,n,c,b,h1,h2,h3,h4⟩
theorem Ec(T:SlN .u64 w a n c xs)(U:SlN .u64 w b m d ys)(nx:Num 18446744073709551616 xs x)(ny:Num 18446744073709551616 ys y)(hn:n<=1000000)(hm:m<=1000000)(a7:n<40\/m<40) :
 Calls prog 222 #[.slice a n c,.slice b m d] w (Un .u64 18446744073709551616 w (fun g=>blk a=some g\/blk b=some g) (x*y)):=by
 have Z:=gE T.len;have HY:=gE U.len;have E:=gE nx;have F:=gE ny;clear nx ny;by_cases hs:n<m
 · go_enter func222,ntmps222
   by_cases h0:n=0
   · have J:Hid (x*y=0):=by
      show _=_;have h1:xs=[]:=gQ (by rw[Z.out,h0]);have h2:=E.out.val;rw[h1]at h2;simp only[W.val]at h2;rw[<-h2];simp
     subst h0;go_wp2;go_ret;exact⟨none,0,0,[],rfl,Ext.refl w,SlN.nil _ _,by rw[J.out];exact Num.nil _,fun g h=>by cases h⟩
   · have a0:((n:Int) == 0)=false:=by simp;omega
     have D:0<n:=by omega
     obtain⟨b0,o0,v,l⟩:=T.at D;have g0:=l 0 D;rw[iO]at g0;by_cases h1:n=1/\xs.getD 0 0=1
     · have J:Hid (x*y=y):=by
        show _=_;have h2:=E.out.val;obtain⟨z,r⟩:=nW.1 (Z.out.trans h1.1);have h3:=h1.2;rw[r]at h2 h3;simp[W.val]at h2 h3;subst h3;rw[<-h2];simp
       have e1:=h1.1;rw[h1.2]at g0;subst e1;subst v;clear l;go_wp2;go_ret;exact⟨b,m,d,ys,rfl,Ext.refl w,U,⟨F.out.bnd,F.out.nrm,by rw[F.out.val,J.out]⟩,fun g h=>Or.inr (Or.inr h)⟩
     · have p:(((n:Int) == 1)=false)\/(((n:Int) == 1)=true/\(((xs.getD 0 0:Nat):Int) == 1)=false):=by
        by_cases h2:n=1
        · exact Or.inr ⟨by simp[h2],Ki (b:=1) (fun h=>h1 ⟨h2,h⟩)⟩
        · exact Or.inl (by simp;omega)
       subst v;generalize xs.getD 0 0=y0 at *
       clear l h1 h0;have h40:(n:Int)<40:=by omega
       rcases p with hp|⟨hp,a3⟩
       all_goals
        go_upto_region 10 with(at_make;refine C6 (n:=m+n) rfl rfl underlying81 AK rfl rfl rfl (by omega) (by unfold maxLen;omega) ?_;intro w1 t s)
        go_wp2
        go_loopw[55] (fun S wr=>∃ (i:Nat) (zs:List Nat),S = .int .i64 i/\i<=n/\Ext w wr/\Az .u64 wr w.heap.size 238 w.heap.size (m+n) (m+n) zs/\W.bnd 18446744073709551616 zs/\Hid (W.val 18446744073709551616 zs=y*W.val 18446744073709551616 (xs.take i))/\Hid (∀ j,i+m<=j->zs.getD j 0=0)) (fun S _=>n-(intOf S).toNat)
        case atStart=>exact⟨0,List.replicate (m+n) 0,rfl,gO _,s,Az.of_zeros t,fun z r=>by rw[(jb.1 r).2];omega,gE (by rw[W.val_zeros];simp[W.val]),gE (fun j _=>FR _ j)⟩
        case round =>
         clear t s;obtain⟨i,zs,rfl,hi,G,r,bz,Y,V⟩:=hrel;by_cases f:i<n
         · obtain⟨b9,o9,e9,A⟩:=(T.ext G).at (j:=i) f;simp only[gK,iV,jp]at e9;obtain⟨rfl,rfl⟩:=e9;have g9:=A i f;have R:=W.bnd_at E.out.bnd (i:=i) (by rw[Z.out];exact f);have HT:=gE (W.val_take_succ (B:=18446744073709551616) (xs:=xs) (i:=i) (by rw[Z.out];exact f))
           have a4:∀ H:World,(Instr.sliceAt 81 (.slice (some ⟨w.heap.size,0,none⟩) (m+n) (m+n)) (some (.int .i64 i)) (some (.int .i64 ((i:Int)+m))) none).run prog H = .ok (.slice (some ⟨w.heap.size,i,none⟩) m (m+n-i)) H:=fun H=>by
            have:=CH (P:=prog) (w:=H) (g:=w.heap.size) (n:=m+n) (c:=m+n) (lo:=i) (hi:=i+m) underlying81 AK (by omega) (by omega) (by omega);rw[lM,iy]at this;exact this
           have a6:IntKind.i64.wrap ((i:Int)+m)=(i:Int)+m:=gI _ (by omega);generalize xs.getD i 0=wd at *
           have hp:=Eb (w:=wr) (o:=i) (c':=m+n-i) r (U.ext G) (Or.inr (U.fresh (lrf _) (by omega))) (by omega) bz F.out.bnd R;clear A
           go_wp2_with fail
           refine hp.mono ?_;rintro e w2 ⟨cy,zs',rfl,M,N,k,K,Q,C⟩;have a1:=k.cell (i:=i+m) (by omega);have a2:=k.frozen (i+m);have HS:=gE (OT (B:=18446744073709551616) (zs:=zs) (zs':=zs') (X:=y) (i:=i) (n:=m) (cy:=cy) (by rw[k.len];omega) Y.out (by rw[<-F.out.val];exact Q) (by rw[C _ (lrf _)];exact V.out _ (lrf _)));have I:Hid (∀ j,i+1+m<=j->(zs'.set (i+m) cy).getD j 0=0):=by
            show ∀ j,i+1+m<=j->(zs'.set (i+m) cy).getD j 0=0;intro j hj;have O:¬ i+m=j:=by omega
            have h1:=C j (by omega);rw[V.out j (by omega)]at h1;simpa[O]using h1
           have L:=G.grownR N (lrf _);have a5:((i:Int)+m).toNat=i+m:=by omega
           go_wp2;go_roundw
           case rel=>exact⟨i+1,zs'.set (i+m) cy,by go_num,by omega,L.setCell (lrf _) _,k.set (i+m) cy,W.bnd_set K M,gE (by rw[HT.out];exact HS.out),I⟩
           case measure=>simp[intOf];omega
         · have ei:i=n:=by omega
           have hv:W.val 18446744073709551616 zs=x*y:=by
            have h1:=Y.out;rw[ei,gG (by rw[Z.out];exact lrf _),E.out.val]at h1;rw[h1,gV]
           go_wp2_with fail
           refine(Bq r.sl).mono ?_;rintro e w4 ⟨q,rfl,rfl,hq,ht⟩;obtain⟨t1,t2⟩:=BE r.sl hq ht bz hv;go_wp2;go_ret;exact⟨_,q,_,_,rfl,G,t1,t2,fun g h=>Or.inl (by cases h;exact lrf _)⟩
 · go_enter func222,ntmps222
   by_cases h0:m=0
   · have J:Hid (x*y=0):=by
      show _=_;have h1:ys=[]:=gQ (by rw[HY.out,h0]);have h2:=F.out.val;rw[h1]at h2;simp only[W.val]at h2;rw[<-h2];simp
     subst h0;go_wp2;go_ret;exact⟨none,0,0,[],rfl,Ext.refl w,SlN.nil _ _,by rw[J.out];exact Num.nil _,fun g h=>by cases h⟩
   · have a0:((m:Int) == 0)=false:=by simp;omega
     have D:0<m:=by omega
     obtain⟨b0,o0,v,l⟩:=U.at D;have g0:=l 0 D;rw[iO]at g0;by_cases h1:m=1/\ys.getD 0 0=1
     · have J:Hid (x*y=x):=by
        show _=_;have h2:=F.out.val;obtain⟨z,r⟩:=nW.1 (HY.out.trans h1.1);have h3:=h1.2;rw[r]at h2 h3;simp[W.val]at h2 h3;subst h3;rw[<-h2];simp
       have e1:=h1.1;rw[h1.2]at g0;subst e1;subst v;clear l;go_wp2;go_ret;exact⟨a,n,c,xs,rfl,Ext.refl w,T,⟨E.out.bnd,E.out.nrm,by rw[E.out.val,J.out]⟩,fun g h=>Or.inr (Or.inl h)⟩
     · have p:(((m:Int) == 1)=false)\/(((m:Int) == 1)=true/\(((ys.getD 0 0:Nat):Int) == 1)=false):=by
        by_cases h2:m=1
        · exact Or.inr ⟨by simp[h2],Ki (b:=1) (fun h=>h1 ⟨h2,h⟩)⟩
        · exact Or.inl (by simp;omega)
       subst v;generalize ys.getD 0 0=y0 at *
       clear l h1 h0;have h40:(m:Int)<40:=by omega
       rcases p with hp|⟨hp,a3⟩
       all_goals
        go_upto_region 10 with(at_make;refine C6 (n:=n+m) rfl rfl underlying81 AK rfl rfl rfl (by omega) (by unfold maxLen;omega) ?_;intro w1 t s)
        go_wp2
        go_loopw[55] (fun S wr=>∃ (i:Nat) (zs:List Nat),S = .int .i64 i/\i<=m/\Ext w wr/\Az .u64 wr w.heap.size 238 w.heap.size (n+m) (n+m) zs/\W.bnd 18446744073709551616 zs/\Hid (W.val 18446744073709551616 zs=x*W.val 18446744073709551616 (ys.take i))/\Hid (∀ j,i+n<=j->zs.getD j 0=0)) (fun S _=>m-(intOf S).toNat)
        case atStart=>exact⟨0,List.replicate (n+m) 0,rfl,gO _,s,Az.of_zeros t,fun z r=>by rw[(jb.1 r).2];omega,gE (by rw[W.val_zeros];simp[W.val]),gE (fun j _=>FR _ j)⟩
        case round =>
         clear t s;obtain⟨i,zs,rfl,hi,G,r,bz,Y,V⟩:=hrel;by_cases f:i<m
         · obtain⟨b9,o9,e9,A⟩:=(U.ext G).at (j:=i) f;simp only[gK,iV,jp]at e9;obtain⟨rfl,rfl⟩:=e9;have g9:=A i f;have R:=W.bnd_at F.out.bnd (i:=i) (by rw[HY.out];exact f);have HT:=gE (W.val_take_succ (B:=18446744073709551616) (xs:=ys) (i:=i) (by rw[HY.out];exact f))
           have a4:∀ H:World,(Instr.sliceAt 81 (.slice (some ⟨w.heap.size,0,none⟩) (n+m) (n+m)) (some (.int .i64 i)) (some (.int .i64 ((i:Int)+n))) none).run prog H = .ok (.slice (some ⟨w.heap.size,i,none⟩) n (n+m-i)) H:=fun H=>by
            have:=CH (P:=prog) (w:=H) (g:=w.heap.size) (n:=n+m) (c:=n+m) (lo:=i) (hi:=i+n) underlying81 AK (by omega) (by omega) (by omega);rw[lM,iy]at this;exact this
           have a6:IntKind.i64.wrap ((i:Int)+n)=(i:Int)+n:=gI _ (by omega);generalize ys.getD i 0=wd at *
           have hp:=Eb (w:=wr) (o:=i) (c':=n+m-i) r (T.ext G) (Or.inr (T.fresh (lrf _) (by omega))) (by omega) bz E.out.bnd R;clear A
           go_wp2_with fail
           refine hp.mono ?_;rintro e w2 ⟨cy,zs',rfl,M,N,k,K,Q,C⟩;have a1:=k.cell (i:=i+n) (by omega);have a2:=k.frozen (i+n);have HS:=gE (OT (B:=18446744073709551616) (zs:=zs) (zs':=zs') (X:=x) (i:=i) (n:=n) (cy:=cy) (by rw[k.len];omega) Y.out (by rw[<-E.out.val];exact Q) (by rw[C _ (lrf _)];exact V.out _ (lrf _)));have I:Hid (∀ j,i+1+n<=j->(zs'.set (i+n) cy).getD j 0=0):=by
            show ∀ j,i+1+n<=j->(zs'.set (i+n) cy).getD j 0=0;intro j hj;have O:¬ i+n=j:=by omega
            have h1:=C j (by omega);rw[V.out j (by omega)]at h1;simpa[O]using h1
           have L:=G.grownR N (lrf _);have a5:((i:Int)+n).toNat=i+n:=by omega
           go_wp2;go_roundw
           case rel=>exact⟨i+1,zs'.set (i+n) cy,by go_num,by omega,L.setCell (lrf _) _,k.set (i+n) cy,W.bnd_set K M,gE (by rw[HT.out];exact HS.out),I⟩
           case measure=>simp[intOf];omega
         · have ei:i=m:=by omega
           have hv:W.val 18446744073709551616 zs=x*y:=by
            have h1:=Y.out;rw[ei,gG (by rw[HY.out];exact lrf _),F.out.val]at h1;exact h1
           go_wp2_with fail
           refine(Bq r.sl).mono ?_;rintro e w4 ⟨q,rfl,rfl,hq,ht⟩;obtain⟨t1,t2⟩:=BE r.sl hq ht bz hv;go_wp2;go_ret;exact⟨_,q,_,_,rfl,G,t1,t2,fun g h=>Or.inl (by cases h;exact lrf _)⟩
theorem Hh(i:SlN .u64 w a n c xs)(j:SlN .u64 w b m d ys)(k:Num 18446744073709551616 xs x)(l:Num 18446744073709551616 ys y)(g:n<=1000000)(f:m<=1000000)(e:n<40\/m<40) :
 Calls prog 222 #[.slice a n c,.slice b m d] w (Hy .u64 18446744073709551616 w (x*y)) :=
 (Ec i j k l g f e).mono fun _ _ h=>h.plain
theorem Qh(b:x<18446744073709551616)(w:World):Calls prog 287 #[.int .u64 x] w fun e a=>e = .returned (.int .i64 (64-Lib.bitLen x))/\a=w:=by
 have:=Any.bits_LeadingZeros64 X5 (x:Int) w (by omega) (by omega);rw[jc]at this;exact this
theorem Nl(h0:0<y)(a:y<18446744073709551616):∃ s:Nat,s<=63/\(64-(Lib.bitLen y:Int))=s/\9223372036854775808<=y*2^s/\y*2^s<18446744073709551616:=by
 obtain⟨h1,h2,h3⟩:=Lib.bitLenAux_bounds 64 y (by omega) (by omega);have h4:Lib.bitLenAux 64 y<=64:=Lib.bitLen_le y 64 (by omega) (by omega);refine⟨64-Lib.bitLen y,?_,?_,?_,?_⟩
 · unfold Lib.bitLen;omega
 · unfold Lib.bitLen;omega
 · unfold Lib.bitLen;generalize Lib.bitLenAux 64 y=k at *
   have e:2^(k-1)*2^(64-k)=2^63:=by rw[<-jQ];congr 1;omega
   have:=gH (2^(64-k)) h2;rw[e]at this;omega
 · unfold Lib.bitLen;generalize Lib.bitLenAux 64 y=k at *
   have e:2^k*2^(64-k)=2^64:=by rw[<-jQ];congr 1;omega
   have:=jt h3 (iC (64-k));rw[e]at this;omega
theorem Jb(g:y<18446744073709551616)(a:lo<18446744073709551616)(h0:0<y) :
 Calls prog 293 #[.int .u64 0,.int .u64 lo,.int .u64 y] w fun e d=>e = .returned (.tuple #[.int .u64 ((lo/y:Nat):Int),.int .u64 ((lo%y:Nat):Int)])/\Qt w d:=by
 have f:((y:Int) == 0)=false:=by simp;omega
 have b:IntKind.u64.wrap ((lo:Int)/(y:Int))=((lo/y:Nat):Int):=by
  rw[<-mS];have h1:=iI lo y;generalize lo/y=q at *
  exact wrap_u64 (by omega) (by omega)
 have c:(lo:Int)%(y:Int)=((lo%y:Nat):Int):=(Int.natCast_emod _ _).symm;generalize lo/y=q at *
 generalize lo%y=r at *
 go_enter func293,ntmps293
 go_wp2
 go_quiet (fail)
 go_wp2
 go_ret2
 exact⟨by rw[<-b,<-c];rfl,(Qt.refl w).drewN _⟩
theorem Qi{L u1 u0 Q1 R1 Q0 R0:Nat}(k:Y=y*2^s)(i:L=u1*4294967296+u0)(j:U*18446744073709551616+L=N*2^s)(f:U*4294967296+u1=Q1*Y+R1)(d:R1*4294967296+u0=Q0*Y+R0)(b:R0<Y) :
 N/y=Q1*4294967296+Q0/\N%y=R0/2^s:=by
 have hp:0<2^s:=iC s;have e:N*2^s=(Q1*4294967296+Q0)*Y+R0:=by
  rw[<-j,i];have h1:U*18446744073709551616+(u1*4294967296+u0)=(U*4294967296+u1)*4294967296+u0:=by grind
  rw[h1,f];have h2:(Q1*Y+R1)*4294967296+u0=Q1*Y*4294967296+(R1*4294967296+u0):=by grind
  rw[h2,d]
  grind
 subst k;have m:0<y:=by
  rcases gX y with h|h
  · rw[h]at b;simp at b
  · exact h
 -- the rest is a multiple of the power
 have l:2^s∣R0:=by
  have h1:2^s∣N*2^s:=ll _ _;rw[e]at h1;refine(oG ?_).1 h1;exact⟨(Q1*4294967296+Q0)*y,by grind⟩
 obtain⟨r,c⟩:=l;subst c;have g:N=(Q1*4294967296+Q0)*y+r:=by
  apply mf hp;rw[e]
  grind
 have c:r<y:=by
  rw[gV]at b;exact jP b
 rw[mC _ hp];generalize Q1*4294967296+Q0=q at g |-;subst g;refine⟨?_,?_⟩
 · rw[gV,ld m,jy c,iO]
 · rw[gV,lC,jG c]
theorem Mk(b:s<=63)(a:lo<18446744073709551616):∃ L V:Nat,lo*2^s=V*18446744073709551616+L/\L<18446744073709551616/\V=lo/2^(64-s)/\V<2^s/\L=lo*2^s%18446744073709551616:=by
 have e:2^(64-s)*2^s=18446744073709551616:=by rw[<-jQ,show 64-s+s=64 by omega]
 refine⟨lo*2^s%18446744073709551616,lo/2^(64-s),?_,io _ (by omega),rfl,?_,rfl⟩
 · have h1:lo*2^s/18446744073709551616=lo/2^(64-s):=by
    rw[<-e,Nat.mul_div_mul_right _ _ (iC s)]
   have h2:=j6 (lo*2^s) 18446744073709551616;rw[h1,gV 18446744073709551616]at h2;exact h2.symm
 · rw[jm (iC _),gV,e];exact a
theorem Hi(h:x%18446744073709551616=M):IntKind.u64.wrap (x:Int)=(M:Int):=by
 rw[jU,<-h];omega
theorem Ml{Q R:Nat}(h:U*4294967296+u=Q*Y+R)(b:R<18446744073709551616):IntKind.u64.wrap (IntKind.u64.wrap (IntKind.u64.wrap ((U:Int)*4294967296)+u)-IntKind.u64.wrap ((Q:Int)*Y))=(R:Int):=by
 have a:((Q*Y:Nat):Int)=(Q:Int)*Y:=ir Q Y;rw[<-a];generalize Q * Y=z at *
 simp only[jU];omega
theorem Mm{r:Nat}(h:U=g*y+r)(b:r<18446744073709551616):IntKind.u64.wrap ((U:Int)-IntKind.u64.wrap ((g:Int)*y))=(r:Int):=by
 have a:((g*y:Nat):Int)=(g:Int)*y:=ir g y;rw[<-a];generalize g * y=z at *
 simp only[jU];omega
theorem Au{x:Int}(h:x=(n:Int))(a:n<18446744073709551616):IntKind.u64.wrap x=(n:Int):=by
 rw[h];exact wrap_u64 (by omega) (by omega)
theorem KO(hy:y<18446744073709551616)(aJ:lo<18446744073709551616)(hh:hi<y)(h0:0<hi) :
 Calls prog 293 #[.int .u64 hi,.int .u64 lo,.int .u64 y] w fun e w'=>e = .returned (.tuple #[.int .u64 (((hi*18446744073709551616+lo)/y:Nat):Int),.int .u64 (((hi*18446744073709551616+lo)%y:Nat):Int)])/\Qt w w':=by
 have hb:((y:Int) == 0)=false:=by simp;omega
 have aZ:((hi:Int) == 0)=false:=by simp;omega
 obtain⟨s,hs,av,aI,a7⟩:=Nl (by omega) hy;obtain⟨Y,hY⟩:∃ Y,y*2^s=Y:=⟨_,rfl⟩;rw[hY]at aI a7;have e1:IntKind.u64.wrap ((y:Int)*2^s)=(Y:Int):=Au (by rw[<-hY];push_cast;rfl) a7;obtain⟨L,V,al,aF,ao,ap,am⟩:=Mk hs aJ;obtain⟨H,hH⟩:∃ H,hi*2^s=H:=⟨_,rfl⟩;have aE:H+2^s<=Y:=by
  rw[<-hH,<-hY];have:=gH (2^s) hh;rw[Nat.succ_mul]at this;exact this
 obtain⟨U,hU⟩:∃ U,H+V=U:=⟨_,rfl⟩;have e4:IntKind.u64.wrap ((hi:Int)*2^s)=(H:Int):=Au (by rw[<-hH];push_cast;rfl) (by omega);have e5:bits BinOp.or IntKind.u64 (H:Int) ((lo:Int)/2^(64-s))=(U:Int):=by
  have:(lo:Int)/2^(64-s)=(V:Int):=by rw[ao];push_cast;rfl
  rw[this,nG H V (by omega) (by omega),oR s H V (by rw[<-hH];exact nR _ _) ap,hU]
 have e6:IntKind.u64.wrap ((lo:Int)*2^s)=(L:Int):=by
  have:=Hi (x:=lo*2^s) (M:=L) am.symm;push_cast at this;exact this
 have hN:U*18446744073709551616+L=(hi*18446744073709551616+lo)*2^s:=by
  rw[<-hU,<-hH];have h1:(hi*18446744073709551616+lo)*2^s=hi*2^s*18446744073709551616+lo*2^s:=by grind
  rw[h1,al]
  grind
 obtain⟨y1,aL⟩:∃ y1,Y/4294967296=y1:=⟨_,rfl⟩;obtain⟨y0,aC⟩:∃ y0,Y%4294967296=y0:=⟨_,rfl⟩;obtain⟨u1,aK⟩:∃ u1,L/4294967296=u1:=⟨_,rfl⟩;obtain⟨u0,ax⟩:∃ u0,L%4294967296=u0:=⟨_,rfl⟩;have e2:(Y:Int)/4294967296=(y1:Int):=by omega
 have e3:bits BinOp.and IntKind.u64 (Y:Int) 4294967295=(y0:Int):=by
  have:=u64_and_nat Y 4294967295 a7 (by omega);rw[mO Y 32]at this;rw[<-aC];exact this
 have e7:(L:Int)/4294967296=(u1:Int):=by omega
 have e8:bits BinOp.and IntKind.u64 (L:Int) 4294967295=(u0:Int):=by
  have:=u64_and_nat L 4294967295 aF (by omega);rw[mO L 32]at this;rw[<-ax];exact this
 have aY:U<Y:=by omega
 have aU:2147483648<=y1/\y1<4294967296:=by omega
 have aT:y0<4294967296:=by omega
 have aS:u1<4294967296:=by omega
 have aR:u0<4294967296:=by omega
 have f:Hid (Y=y1*4294967296+y0):=by show _=_;omega
 obtain⟨Q1,ae⟩:∃ Q1,(U*4294967296+u1)/Y=Q1:=⟨_,rfl⟩;obtain⟨R1,S⟩:∃ R1,(U*4294967296+u1)%Y=R1:=⟨_,rfl⟩;have a6:U*4294967296+u1=Q1*Y+R1:=by
  have:=j6 (U*4294967296+u1) Y;rw[ae,S,gV]at this;exact this.symm
 have aX:R1<Y:=by rw[<-S];exact io _ (by omega)
 obtain⟨Q0,ad⟩:∃ Q0,(R1*4294967296+u0)/Y=Q0:=⟨_,rfl⟩;obtain⟨R0,P⟩:∃ R0,(R1*4294967296+u0)%Y=R0:=⟨_,rfl⟩;have a5:R1*4294967296+u0=Q0*Y+R0:=by
  have:=j6 (R1*4294967296+u0) Y;rw[ad,P,gV]at this;exact this.symm
 have aH:R0<Y:=by rw[<-P];exact io _ (by omega)
 obtain⟨f1,f2⟩:=Qi (N:=hi*18446744073709551616+lo) (y:=y) (Y:=Y) (U:=U) (L:=L) (s:=s) (u1:=u1) (u0:=u0) (Q1:=Q1) (R1:=R1) (Q0:=Q0) (R0:=R0) hY.symm (by omega) hN a6 a5 aH;obtain⟨QQ,aG⟩:∃ QQ,Q1*4294967296+Q0=QQ:=⟨_,rfl⟩;obtain⟨RR,an⟩:∃ RR,R0/2^s=RR:=⟨_,rfl⟩;rw[aG]at f1;rw[an]at f2;have F1:=gE f1;have F2:=gE f2;have kr:(R0:Int)/2^s=(RR:Int):=by rw[<-an];push_cast;rfl
 have aW:=gE a6;have aV:=gE a5;have n:Hid (Q1*(y1*4294967296+y0)<=U*4294967296+u1):=by show _<=_;rw[<-f.out];omega
 have F:Hid (U*4294967296+u1<(Q1+1)*(y1*4294967296+y0)):=by show _<_;rw[<-f.out,iW];omega
 have d:Hid (Q0*(y1*4294967296+y0)<=R1*4294967296+u0):=by show _<=_;rw[<-f.out];omega
 have m:Hid (R1*4294967296+u0<(Q0+1)*(y1*4294967296+y0)):=by show _<_;rw[<-f.out,iW];omega
 have ai:Hid (U<y1*4294967296+y0):=by show _<_;rw[<-f.out];omega
 have J:Hid (R1<y1*4294967296+y0):=by show _<_;rw[<-f.out];omega
 have aQ:=W.digit_lt (b:=4294967296) (y:=y1*4294967296+y0) (U:=U) (u:=u1) ai.out (by omega) n.out;have aP:=W.digit_lt (b:=4294967296) (y:=y1*4294967296+y0) (U:=R1) (u:=u0) J.out (by omega) d.out;have aO:IntKind.u64.wrap ((Q1:Int)*4294967296)=(Q1:Int)*4294967296:=wrap_u64 (by omega) (by omega);have kq:IntKind.u64.wrap ((Q1:Int)*4294967296+(Q0:Int))=(QQ:Int):=Au (by omega) (by omega);obtain⟨gU,Z⟩:∃ gU,U/y1=gU:=⟨_,rfl⟩;obtain⟨rU,a9⟩:∃ rU,U%y1=rU:=⟨_,rfl⟩;have aa:gU*y1+rU=U:=by rw[<-Z,<-a9,gV];exact j6 _ _
 have b1:rU<y1:=by rw[<-a9];exact io _ (by omega)
 have aM:gU<=U:=by rw[<-Z];exact iI _ _
 have k1:IntKind.u64.wrap ((U:Int)/(y1:Int))=(gU:Int):=Au (by rw[<-Z];exact(mS _ _).symm) (by omega);have b0:IntKind.u64.wrap ((U:Int).tdiv (y1:Int))=(gU:Int):=by rw[j3 (by omega)];exact k1
 have k2:IntKind.u64.wrap ((U:Int)-IntKind.u64.wrap ((gU:Int)*(y1:Int)))=(rU:Int):=Mm aa.symm (by omega);have aj:=gE aa;have aD:Hid (gU<=4294967297):=by have:=W.guess_le (b:=4294967296) (y1:=y1) (y0:=y0) (U:=U) (by omega) (by omega) (by rw[<-f.out];omega);rw[Z]at this;exact this
 clear aa aM Z a9;obtain⟨C,X⟩:∃ C,R1/y1=C:=⟨_,rfl⟩;obtain⟨rR,a8⟩:∃ rR,R1%y1=rR:=⟨_,rfl⟩;have ab:C*y1+rR=R1:=by rw[<-X,<-a8,gV];exact j6 _ _
 have b3:rR<y1:=by rw[<-a8];exact io _ (by omega)
 have aN:C<=R1:=by rw[<-X];exact iI _ _
 have k3:IntKind.u64.wrap ((R1:Int)/(y1:Int))=(C:Int):=Au (by rw[<-X];exact(mS _ _).symm) (by omega);have b2:IntKind.u64.wrap ((R1:Int).tdiv (y1:Int))=(C:Int):=by rw[j3 (by omega)];exact k3
 have k4:IntKind.u64.wrap ((R1:Int)-IntKind.u64.wrap ((C:Int)*(y1:Int)))=(rR:Int):=Mm ab.symm (by omega);have a4:=gE ab;have ac:Hid (C<=4294967297):=by have:=W.guess_le (b:=4294967296) (y1:=y1) (y0:=y0) (U:=R1) (by omega) (by omega) (by rw[<-f.out];omega);rw[X]at this;exact this
 clear ab aN X a8;have k5:=Ml (U:=U) (u:=u1) (Q:=Q1) (Y:=Y) (R:=R1) a6 (by omega);have k6:=Ml (U:=R1) (u:=u0) (Q:=Q0) (Y:=Y) (R:=R0) a5 (by omega);rw[f1,f2];clear al ao ap am hH aE hU hN aL aC aK ax ae S ad P f1 f2 hY
 go_enter func293,ntmps293
 generalize hK:(4294967296:Int)=K at aO kq k5 k6 |-;have o:=gE hK;clear hK
 go_wp2_with fail
 refine(Qh hy _).mono ?_;rintro e w1 ⟨rfl,rfl⟩;rw[av];clear av;clear a6 a5;go_wp2
 go_loop[15,16] (fun O rv=>∃ g r:Nat,O = .int .u64 g/\rv = .int .u64 r/\Hid (g*y1+r=U)/\Hid (Q1<=g)/\Hid (g<=4294967297/\r<4294967296)) (fun O _=>(intOf O).toNat)
 case atStart=>exact⟨gU,rU,rfl,rfl,aj,gE (W.guess_hi (b:=4294967296) (y1:=y1) (y0:=y0) (U:=U) (u:=u1) (q:=Q1) (g:=gU) (r:=rU) aj.out n.out (by omega) (by omega)),gE ⟨aD.out,by omega⟩⟩
 case round =>
  obtain⟨g,r,rfl,rfl,E,G,HB⟩:=hrel;obtain⟨ar,aw⟩:=HB.out;obtain⟨p,hp⟩:∃ p,g*y0=p:=⟨_,rfl⟩;obtain⟨l,B⟩:∃ l,4294967296*r+u1=l:=⟨_,rfl⟩;have aB:IntKind.u64.wrap (K*(r:Int))=K*(r:Int):=by rw[<-show(4294967296:Int)=K from o.out];exact wrap_u64 (by omega) (by omega)
  have ag:IntKind.u64.wrap (K*(r:Int)+(u1:Int))=(l:Int):=by rw[<-show(4294967296:Int)=K from o.out];exact Au (by omega) (by omega)
  have k:=gE hp;have v:=gE B;clear hp B;have I:Hid (Q1<4294967296):=W.digit_lt (b:=4294967296) (y:=y1*4294967296+y0) (U:=U) (u:=u1) ai.out (by omega) n.out;by_cases T:4294967296<=g\/(g<4294967296/\l<p)
  · have HD:Hid (Q1<g):=W.guess_down (b:=4294967296) (y1:=y1) (y0:=y0) (U:=U) (u:=u1) E.out n.out I.out (by rw[k.out,v.out];omega);obtain⟨a,rfl⟩:∃ a,g=a+1:=⟨g-1,by have:=HD.out;omega⟩;have ay:IntKind.u64.wrap ((a:Int)+1-1)=a:=Au (by omega) (by omega);have af:IntKind.u64.wrap (a:Int)=a:=Au (by omega) (by omega);obtain⟨i,j⟩:∃ i,r+y1=i:=⟨_,rfl⟩;have az:IntKind.u64.wrap ((r:Int)+(y1:Int))=(i:Int):=Au (by omega) (by omega);have t:Hid (a*y1+i=U):=by
     have h1:=E.out;show _=_;rw[<-j,<-h1]
     grind
    have z:Hid (Q1<=a):=by have:=HD.out;show _<=_;omega
    have ah:=gE j;clear j;have c:K<=(a:Int)+1\/((a:Int)+1<K/\IntKind.u64.wrap (((a:Int)+1)*(y0:Int))=(p:Int)/\(l:Int)<p):=by
     have ak:=o.out;rcases T with h|⟨h1,h2⟩
     · left;omega
     · right;refine⟨by omega,Au (by rw[<-k.out];push_cast;rfl) ?_,by omega⟩;rw[<-k.out];have:(a+1)*y0<=4294967295*4294967295:=j5 (by omega) (by omega);omega
    clear T;by_cases a3:4294967296<=i
    · have D:Hid (a=Q1):=by
       show _=_;have h1:=W.guess_done (b:=4294967296) (y1:=y1) (y0:=y0) (U:=U) (u:=u1) (q:=Q1) t.out F.out (W.guess_over a3 (by omega) (by omega));have h2:=z.out;omega
      have hF:=D.out;subst hF;have A:K<=(i:Int):=by have:=o.out;omega
      rcases c with hk|⟨a0,a1,a2⟩
      all_goals
       go_wp2
       go_loop[18,16] (fun O rv=>∃ g r:Nat,O = .int .u64 g/\rv = .int .u64 r/\Hid (g*y1+r=R1)/\Hid (Q0<=g)/\Hid (g<=4294967297/\r<4294967296)) (fun O _=>(intOf O).toNat)
       case atStart=>exact⟨C,rR,rfl,rfl,a4,gE (W.guess_hi (b:=4294967296) (y1:=y1) (y0:=y0) (U:=R1) (u:=u0) (q:=Q0) (g:=C) (r:=rR) a4.out d.out (by omega) (by omega)),gE ⟨ac.out,by omega⟩⟩
       case round =>
        obtain⟨g,r,rfl,rfl,E,G,HB⟩:=hrel;obtain⟨ar,aw⟩:=HB.out;obtain⟨p,hp⟩:∃ p,g*y0=p:=⟨_,rfl⟩;obtain⟨l,B⟩:∃ l,4294967296*r+u0=l:=⟨_,rfl⟩;have aB:IntKind.u64.wrap (K*(r:Int))=K*(r:Int):=by rw[<-show(4294967296:Int)=K from o.out];exact wrap_u64 (by omega) (by omega)
        have ag:IntKind.u64.wrap (K*(r:Int)+(u0:Int))=(l:Int):=by rw[<-show(4294967296:Int)=K from o.out];exact Au (by omega) (by omega)
        have k:=gE hp;have v:=gE B;clear hp B;have I:Hid (Q0<4294967296):=W.digit_lt (b:=4294967296) (y:=y1*4294967296+y0) (U:=R1) (u:=u0) J.out (by omega) d.out;by_cases T:4294967296<=g\/(g<4294967296/\l<p)
        · have HD:Hid (Q0<g):=W.guess_down (b:=4294967296) (y1:=y1) (y0:=y0) (U:=R1) (u:=u0) E.out d.out I.out (by rw[k.out,v.out];omega);obtain⟨a,rfl⟩:∃ a,g=a+1:=⟨g-1,by have:=HD.out;omega⟩;have ay:IntKind.u64.wrap ((a:Int)+1-1)=a:=Au (by omega) (by omega);have af:IntKind.u64.wrap (a:Int)=a:=Au (by omega) (by omega);obtain⟨i,j⟩:∃ i,r+y1=i:=⟨_,rfl⟩;have az:IntKind.u64.wrap ((r:Int)+(y1:Int))=(i:Int):=Au (by omega) (by omega);have t:Hid (a*y1+i=R1):=by
           have h1:=E.out;show _=_;rw[<-j,<-h1]
           grind
          have z:Hid (Q0<=a):=by have:=HD.out;show _<=_;omega
          have ah:=gE j;clear j;have c:K<=(a:Int)+1\/((a:Int)+1<K/\IntKind.u64.wrap (((a:Int)+1)*(y0:Int))=(p:Int)/\(l:Int)<p):=by
           have ak:=o.out;rcases T with h|⟨h1,h2⟩
           · left;omega
           · right;refine⟨by omega,Au (by rw[<-k.out];push_cast;rfl) ?_,by omega⟩;rw[<-k.out];have:(a+1)*y0<=4294967295*4294967295:=j5 (by omega) (by omega);omega
          clear T;by_cases a3:4294967296<=i
          · have D:Hid (a=Q0):=by
             show _=_;have h1:=W.guess_done (b:=4294967296) (y1:=y1) (y0:=y0) (U:=R1) (u:=u0) (q:=Q0) t.out m.out (W.guess_over a3 (by omega) (by omega));have h2:=z.out;omega
            have hF:=D.out;subst hF;have A:K<=(i:Int):=by have:=o.out;omega
            rcases c with hk|⟨a0,a1,a2⟩
            all_goals
             go_wp2
             go_ret2
             exact⟨rfl,Qt.refl _⟩
          · have A:(i:Int)<K:=by have:=o.out;omega
            rcases c with hk|⟨a0,a1,a2⟩
            all_goals
             go_wp2;go_round
             case rel=>exact⟨a,i,by go_num,rfl,t,z,gE ⟨by omega,by omega⟩⟩
             case measure=>simp[intOf]
        · have D:Hid (g=Q0):=by
           show _=_;have h1:=W.guess_done (b:=4294967296) (y1:=y1) (y0:=y0) (U:=R1) (u:=u0) (q:=Q0) E.out m.out (by rw[k.out,v.out];omega);have h2:=G.out;omega
          have aq:(g:Int)<K:=by have:=o.out;omega
          have aA:IntKind.u64.wrap ((g:Int)*(y0:Int))=(p:Int):=by
           refine Au (by rw[<-k.out];push_cast;rfl) ?_;rw[<-k.out];have:g*y0<=4294967295*4294967295:=j5 (by omega) (by omega);omega
          have au:(p:Int)<=(l:Int):=by omega
          have hF:=D.out;subst hF;clear T;go_wp2
          go_ret2
          exact⟨rfl,Qt.refl _⟩
    · have A:(i:Int)<K:=by have:=o.out;omega
      rcases c with hk|⟨a0,a1,a2⟩
      all_goals
       go_wp2;go_round
       case rel=>exact⟨a,i,by go_num,rfl,t,z,gE ⟨by omega,by omega⟩⟩
       case measure=>simp[intOf]
  · have D:Hid (g=Q1):=by
     show _=_;have h1:=W.guess_done (b:=4294967296) (y1:=y1) (y0:=y0) (U:=U) (u:=u1) (q:=Q1) E.out F.out (by rw[k.out,v.out];omega);have h2:=G.out;omega
    have aq:(g:Int)<K:=by have:=o.out;omega
    have aA:IntKind.u64.wrap ((g:Int)*(y0:Int))=(p:Int):=by
     refine Au (by rw[<-k.out];push_cast;rfl) ?_;rw[<-k.out];have:g*y0<=4294967295*4294967295:=j5 (by omega) (by omega);omega
    have au:(p:Int)<=(l:Int):=by omega
    have hF:=D.out;subst hF;clear T;go_wp2
    go_loop[18,16] (fun O rv=>∃ g r:Nat,O = .int .u64 g/\rv = .int .u64 r/\Hid (g*y1+r=R1)/\Hid (Q0<=g)/\Hid (g<=4294967297/\r<4294967296)) (fun O _=>(intOf O).toNat)
    case atStart=>exact⟨C,rR,rfl,rfl,a4,gE (W.guess_hi (b:=4294967296) (y1:=y1) (y0:=y0) (U:=R1) (u:=u0) (q:=Q0) (g:=C) (r:=rR) a4.out d.out (by omega) (by omega)),gE ⟨ac.out,by omega⟩⟩
    case round =>
     obtain⟨g,r,rfl,rfl,E,G,HB⟩:=hrel;obtain⟨ar,aw⟩:=HB.out;obtain⟨p,hp⟩:∃ p,g*y0=p:=⟨_,rfl⟩;obtain⟨l,B⟩:∃ l,4294967296*r+u0=l:=⟨_,rfl⟩;have aB:IntKind.u64.wrap (K*(r:Int))=K*(r:Int):=by rw[<-show(4294967296:Int)=K from o.out];exact wrap_u64 (by omega) (by omega)
     have ag:IntKind.u64.wrap (K*(r:Int)+(u0:Int))=(l:Int):=by rw[<-show(4294967296:Int)=K from o.out];exact Au (by omega) (by omega)
     have k:=gE hp;have v:=gE B;clear hp B;have I:Hid (Q0<4294967296):=W.digit_lt (b:=4294967296) (y:=y1*4294967296+y0) (U:=R1) (u:=u0) J.out (by omega) d.out;by_cases T:4294967296<=g\/(g<4294967296/\l<p)
     · have HD:Hid (Q0<g):=W.guess_down (b:=4294967296) (y1:=y1) (y0:=y0) (U:=R1) (u:=u0) E.out d.out I.out (by rw[k.out,v.out];omega);obtain⟨a,rfl⟩:∃ a,g=a+1:=⟨g-1,by have:=HD.out;omega⟩;have ay:IntKind.u64.wrap ((a:Int)+1-1)=a:=Au (by omega) (by omega);have af:IntKind.u64.wrap (a:Int)=a:=Au (by omega) (by omega);obtain⟨i,j⟩:∃ i,r+y1=i:=⟨_,rfl⟩;have az:IntKind.u64.wrap ((r:Int)+(y1:Int))=(i:Int):=Au (by omega) (by omega);have t:Hid (a*y1+i=R1):=by
        have h1:=E.out;show _=_;rw[<-j,<-h1]
        grind
       have z:Hid (Q0<=a):=by have:=HD.out;show _<=_;omega
       have ah:=gE j;clear j;have c:K<=(a:Int)+1\/((a:Int)+1<K/\IntKind.u64.wrap (((a:Int)+1)*(y0:Int))=(p:Int)/\(l:Int)<p):=by
        have ak:=o.out;rcases T with h|⟨h1,h2⟩
        · left;omega
        · right;refine⟨by omega,Au (by rw[<-k.out];push_cast;rfl) ?_,by omega⟩;rw[<-k.out];have:(a+1)*y0<=4294967295*4294967295:=j5 (by omega) (by omega);omega
       clear T;by_cases a3:4294967296<=i
       · have D:Hid (a=Q0):=by
          show _=_;have h1:=W.guess_done (b:=4294967296) (y1:=y1) (y0:=y0) (U:=R1) (u:=u0) (q:=Q0) t.out m.out (W.guess_over a3 (by omega) (by omega));have h2:=z.out;omega
         have hF:=D.out;subst hF;have A:K<=(i:Int):=by have:=o.out;omega
         rcases c with hk|⟨a0,a1,a2⟩
         all_goals
          go_wp2
          go_ret2
          exact⟨rfl,Qt.refl _⟩
       · have A:(i:Int)<K:=by have:=o.out;omega
         rcases c with hk|⟨a0,a1,a2⟩
         all_goals
          go_wp2;go_round
          case rel=>exact⟨a,i,by go_num,rfl,t,z,gE ⟨by omega,by omega⟩⟩
          case measure=>simp[intOf]
     · have D:Hid (g=Q0):=by
        show _=_;have h1:=W.guess_done (b:=4294967296) (y1:=y1) (y0:=y0) (U:=R1) (u:=u0) (q:=Q0) E.out m.out (by rw[k.out,v.out];omega);have h2:=G.out;omega
       have aq:(g:Int)<K:=by have:=o.out;omega
       have aA:IntKind.u64.wrap ((g:Int)*(y0:Int))=(p:Int):=by
        refine Au (by rw[<-k.out];push_cast;rfl) ?_;rw[<-k.out];have:g*y0<=4294967295*4294967295:=j5 (by omega) (by omega);omega
       have au:(p:Int)<=(l:Int):=by omega
       have hF:=D.out;subst hF;clear T;go_wp2
       go_ret2
       exact⟨rfl,Qt.refl _⟩
end Go.Proofs.YtlbmnokpiilfpaaGreatDoor
