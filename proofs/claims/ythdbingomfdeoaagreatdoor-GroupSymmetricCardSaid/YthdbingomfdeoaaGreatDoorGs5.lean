/- Part Gs5. -/
import Derived.Test.YthdbingomfdeoaaGreatDoorGs4
import Derived.Shelf.LaysM
import Derived.Shelf.Lays7
import Derived.Shelf.Lays
import Derived.Test.YthdbingomfdeoaaGreatDoorProg
import Derived.Shelf.Spec.TrailingZeros
import Derived.Shelf.Strconv.AppendInt10
import Derived.Shelf.Strconv.Itoa4
set_option linter.all false
set_option maxRecDepth 100000
set_option maxHeartbeats 100000000
namespace Go.Proofs.YthdbingomfdeoaaGreatDoor
open Tryz Go Go.RowKit
def fI:=@Nat.lt_of_le_of_lt
def jB:=@Nat.gcd_comm
def jK:=@Nat.gcd_dvd_left
def jb:=@Nat.gcd_dvd_right
def jj:=@Nat.mul_pos
def jo:=@Nat.sub_self
def jz:=@Nat.dvd_trans
def kF:=@Int.dvd_mul_left
def kL:=@Nat.le_of_dvd
def kM:=@Nat.gcd_zero_right
def kP:=@Int.natCast_dvd_natCast
def kV:=@Nat.pow_zero
def kZ:=@Int.dvd_trans
def ke:=@if_true
def lB:=@Nat.eq_of_mul_eq_mul_left
def lN:=@Nat.div_div_eq_div_mul
def lU:=@List.take_take
def ld:=@List.take_set_of_le
def lu:=@Int.natCast_nonneg
def mo:=@Nat.gcd_rec
variable {ls qs xs ys zs:List Nat} {B D M N P Q V V' V1 Z c cy g i m n p q s v x y:Nat} {a b:Option Addr} {t:TypeId} {w:World}
theorem R4(h:Arr w g t ((List.map (B7 .u64) (List.replicate N 0)).take 0 ++ xs.map (B7 .u64) ++ (List.map (B7 .u64) (List.replicate N 0)).drop (0+xs.length))):Ce .u64 w g t (xs ++ List.replicate (N-xs.length) 0):=PF h
theorem Vw{R:Nat}(d:0<y)(h:x*2^s=Q*(y*2^s)+R)(a:R<y*2^s):x/y=Q/\R/2^s=x%y:=by
 have hp:=gh s;have c:2^s∣R:=by
  have h1:2^s∣x*2^s:=jL _ _;rw[h]at h1;exact(m5 ⟨Q*y,by grind⟩).1 h1
 obtain⟨r,rfl⟩:=c;have e:x=Q*y+r:=by
  apply ky hp;rw[h]
  grind
 have b:r<y:=by
  rw[fJ]at a;exact iX a
 rw[kK _ hp,e];exact⟨by rw[fJ,kl d,jw b,gE],by rw[fJ,kk,j8 b]⟩
theorem R5(c:x<18446744073709551616^n)(b:18446744073709551616^m<=y)(a:m+1<=n):x*2^s<18446744073709551616^(n-(m+1)+1)*(y*2^s):=by
 have h1:18446744073709551616^(n-(m+1)+1)*18446744073709551616^m=18446744073709551616^n:=by rw[<-j9];congr 1;omega
 have h2:18446744073709551616^(n-(m+1)+1)*18446744073709551616^m<=18446744073709551616^(n-(m+1)+1)*y:=fX _ b;have h3:x*2^s<18446744073709551616^(n-(m+1)+1)*y*2^s:=jE (by omega) (gh s);rw[<-iH];exact h3
theorem QE(hi:i<qs.length)(h0:qs.getD i 0=0)(a:P=18446744073709551616^i)(h:Q=W.val 18446744073709551616 qs*D+V)(h1:V'+q*D*P=V):Q=W.val 18446744073709551616 (qs.set i q)*D+V':=by
 have h2:=W.val_set (B:=18446744073709551616) (xs:=qs) (i:=i) (v:=q) hi;rw[h0,lr,gE]at h2;rw[h2,h,<-h1,a]
 grind
theorem QF(h:∀ j,j<i+1->qs.getD j 0=0):∀ j,j<i->(qs.set i q).getD j 0=0:=by
 intro j a;have h1:=h j (by omega);have h2:¬ i=j:=by omega
 simpa[h2]using h1
theorem R6(p:0<B){ls:List Nat}{D i b:Nat}(o:W.bnd B ls)(k:i+(b+1)<=ls.length)(r:D<B^b)(g:0<D)(n:W.val B ls<B^(i+1)*D) :
 ∃ q,q<B/\q*D<=W.val B ((ls.drop i).take (b+1))/\W.val B ((ls.drop i).take (b+1))<(q+1)*D/\W.val B ls=W.val B (ls.take i)+B^i*W.val B ((ls.drop i).take (b+1))/\W.val B (ls.take i)<B^i/\W.val B ls<B^(i+(b+1)):=by
 have e:W.val B ls<B^(i+(b+1)):=by
  have h3:B^(i+1)*D<=B^(i+1)*B^b:=fX _ (by omega);rw[<-j9,show i+1+b=i+(b+1) by omega]at h3;omega
 have d:=PI (B:=B) p k e;have l:=DB o (m:=i) (by omega);have j:W.val B ((ls.drop i).take (b+1))<B*D:=by
  rw[gr,iH,d]at n;have h2:B^i*W.val B ((ls.drop i).take (b+1))<B^i*(B*D):=by omega
  exact lz h2
 generalize W.val B ((ls.drop i).take (b+1))=c at *
 have f:c/D*D<=c:=mI _ _;refine⟨c/D,?_,f,?_,d,l,e⟩
 · exact iX (a:=D) (fI f j)
 · rw[ip,k8];have h1:=gM c D;have h2:=gx c g;rw[fJ]at h1;omega
theorem Um{lo a T:Nat}(c:V=lo+P*a)(h1:V1+g*D*P=V+T)(d:V1<T)(b:q*D<=a):q<g:=by
 refine fR fun e => ?_;have h2:g*D*P<=q*D*P:=fa _ (fa _ (by omega));have h3:q*D*P<=a*P:=fa _ b;rw[fJ a P]at h3;omega
theorem WQ{t:Nat}(h1:V'+M*t=Z+M*v)(h2:Z+g*D*P=V+cy*M)(h3:v+cy=t):V'+g*D*P=V:=by
 subst h3;rw[jF,fJ M cy]at h1;omega
theorem R7{t:Nat}(h1:V'+M*t=Z+M*v)(h2:Z+g*D*P=V+cy*M)(h3:v+cy=t+B):V'+g*D*P=V+M*B:=by
 have h4:M*(v+cy)=M*(t+B):=by rw[h3]
 rw[jF,jF,fJ M cy]at h4;omega
theorem Un{a u z ov:Nat}(h1:a+M*u=Z+M*z)(h2:Z+c*M=V1+1*D*P)(h3:z+B*ov=u+c):a+ov*(M*B)=V1+D*P:=by
 have h4:M*(z+B*ov)=M*(u+c):=by rw[h3]
 rw[jF,jF,fJ M c,<-iH]at h4;rw[k8]at h2;rw[fJ ov];omega
theorem L7(h:∀ j,p<=j->zs.getD j 0=ls.getD j 0)(h0:∀ j,p+1<=j->ls.getD j 0=0):∀ j,p+1<=j->(zs.set p v).getD j 0=0:=by
 intro j a;have h1:=h j (by omega);rw[h0 j a]at h1;have h2:¬ p=j:=by omega
 simpa[h2]using h1
theorem Fa{d:Nat}(hx:SlN .u64 w a n c xs)(hy:SlN .u64 w b m d ys)(X:Num 18446744073709551616 xs x)(ny:Num 18446744073709551616 ys y)(hn:n<=100000)(cz:y<=x){mm:Nat}(bp:m=mm+2) :
 Calls prog 208 #[.slice a n c,.slice b m d] w (GC a .u64 18446744073709551616 w (x/y) (x%y)):=by
 have HC:Hid (¬ Bu (x:Int) (y:Int)<0):=f8 (by rw[H0];omega);have bf:=fun C:World=>fun(h1:Ext w C)=>BN (hx.ext h1) (hy.ext h1) X ny;have HX:=f8 hx.len;have HY:=f8 hy.len;have cH:m<=n:=by
  refine fR fun hc => ?_;have:=W.len_lt (B:=18446744073709551616) (by omega) X.bnd ny.nrm (by rw[HX.out,HY.out];omega);rw[X.val,ny.val]at this;omega
 have ac:ys≠[]:=by intro h;have:=HY.out;rw[h]at this;simp at this;omega
 have ab:=W.nrm_pos (B:=18446744073709551616) (by omega) ny.nrm ac;rw[HY.out,ny.val]at ab;have aP:0<ys.getD (m-1) 0:=by
  have h1:=ny.nrm ac;rw[ka]at h1;have h2:ys.length-1=m-1:=by rw[HY.out]
  have h3:m-1<ys.length:=by rw[HY.out];omega
  have h4:ys.getD (m-1) 0=ys[ys.length-1]'(by omega):=by
   simp[h2,h3]
  omega
 have a7:=W.bnd_at ny.bnd (i:=m-1) (by rw[HY.out];omega);obtain⟨s,hs,bo,az,aA⟩:=MY aP a7;have aZ:Hid (∀ J,Num 18446744073709551616 J (y*2^s)->J.length=m/\9223372036854775808<=J.getD (mm+1) 0):=by
  show ∀ J,Num 18446744073709551616 J (y*2^s)->J.length=m/\9223372036854775808<=J.getD (mm+1) 0;intro J nd;have h1:m-1=mm+1:=by omega
  rw[h1]at az aA;have:=Ju (m:=mm+1) ny (by rw[HY.out];omega) hs az aA nd;exact⟨by omega,this.2⟩
 have NX:=f8 X;have NY:=f8 ny;have ak:=f8 ab;have a2:=f8 bp;have cG:2<=m:=by omega
 clear X ny bp az aA ac ab
 go_enter func208,ntmps208
 go_wp2_with fail
 refine(bf _ (Ext.refl w)).mono ?_;rintro e w1 ⟨rfl,hQ⟩;have hc:=HC.out;have cu:(0:Int)<=Bu (x:Int) (y:Int):=by omega
 generalize Bu (x:Int) (y:Int)=cv at *
 clear HC;obtain⟨b1,o1,rfl,a5⟩:=(hy.ext hQ.ext).at (j:=0) (by omega);have g1:=a5 (m-1) (by omega);have bI:((m:Int) == 1)=false:=by simp;omega
 have ch:IntKind.i64.wrap ((m:Int)-1)=((m-1:Nat):Int):=by rw[show(m:Int)-1=((m-1:Nat):Int) by omega];exact fO _ (by omega)
 have bL:((m-1:Nat):Int)<(m:Int):=by omega
 have K:=fun C:World=>PG a7 C;rw[bo]at K;generalize ys.getD (m-1) 0=yt at *
 have bT:Hid (m-1+1=m):=by show _=_;omega
 generalize m-1=m1 at *
 clear a5 bo aP bf
 go_wp2_with fail
 refine(K _).mono ?_;rintro e w2 ⟨rfl,rfl⟩;clear g1
 go_wp2_with fail
 refine(Gl (hy.ext hQ.ext) NY.out hs (by omega)).mono ?_;rintro e r ⟨bd,f,cd,J,rfl,b6,hd,nd⟩;obtain⟨bg,bi⟩:=aZ.out J nd;have c6:f=m:=by rw[<-hd.len,bg]
 subst c6;have a4:=hQ.ext.trans b6;have bN:=f8 bi;have Z:=f8 nd;obtain⟨D,hD⟩:∃ D,y*2^s=D:=⟨_,rfl⟩;rw[hD]at Z;have HD:=f8 hD;clear aZ bi nd bg hD b6
 go_upto_region 10 with(at_make;refine EX (n:=n+1) rfl rfl underlying98 AP rfl rfl rfl (by omega) (by unfold maxLen;omega) ?_;intro w3 b8 ao)
 have aJ:=a4.trans ao
 go_wp2_with fail
 refine(Gl (hx.ext aJ) NX.out hs (by omega)).mono ?_;rintro e w4 ⟨ax,X,cx,us,rfl,ap,hu,nu⟩;have bC:us.length<=n+1:=by
  refine W.nrm_len (B:=18446744073709551616) (by omega) nu.nrm ?_;rw[nu.val,gr];have h1:=W.val_lt NX.out.bnd;rw[NX.out.val,HX.out]at h1;have h2:2^s<=18446744073709551616:=by
   have:=fx (n:=2) (by omega) (show s<=64 by omega);exact this
  calc x*2^s<18446744073709551616^n*2^s:=jE h1 (gh s)
   _<=18446744073709551616^n*18446744073709551616:=fX _ h2
 have c7:X<=n+1:=by rw[<-hu.len];exact bC
 have hA4:=(Ay.of_zeros b8).arr.ext ap;have NU:=f8 nu;have HU:=f8 hu.len;clear nu bC
 go_upto_region 11 with(refine LS (sT:=98) rfl rfl underlying98 AP rfl rfl hA4 hu (by omega) (by simp;omega) (MV _) ?_;intro N b2 bj)
 have aw:Ay .u64 N r.heap.size 101 r.heap.size (n+1) (n+1) (us ++ List.replicate (n+1-X) 0):=by
  have h1:Ce .u64 N r.heap.size 101 (us ++ List.replicate (n+1-us.length) 0):=by
   refine R4 ?_;rw[HU.out];exact b2
  rw[HU.out]at h1;have hl:(us ++ List.replicate (n+1-X) 0).length=n+1:=by simp[HU.out];omega
  have:=Ce.own h1 (lrf r.heap.size) (by rw[hl];unfold maxLen;omega);rw[hl]at this;exact this
 have b5:Ext r N:=(ao.trans ap).grownR bj (lrf _);have bD:W.val 18446744073709551616 (us ++ List.replicate (n+1-X) 0)=x*2^s:=by rw[JM,NU.out.val]
 have bc:W.bnd 18446744073709551616 (us ++ List.replicate (n+1-X) 0):=MW (by omega) NU.out.bnd _;have bx:x*2^s<18446744073709551616^(n-f+1)*D:=by
  have h1:=W.val_lt NX.out.bnd;rw[NX.out.val,HX.out]at h1;have h2:=bT.out;have:=R5 (s:=s) (m:=m1) h1 ak.out (by omega);rw[h2,HD.out]at this;exact this
 have h51:=aw.lt;generalize us ++ List.replicate (n+1-X) 0=ck at *
 have ah:=f8 bD;have ag:=f8 bx;clear b2 bj hA4 b8 ao ap aJ hu c7 NU HU bD bx;have bh:D<18446744073709551616^f:=by
  have h1:=W.val_lt Z.out.bnd;rw[Z.out.val,hd.len]at h1;exact h1
 have aT:=f8 bh;have b3:0<D:=by
  rw[<-HD.out];refine jj ?_ (gh s);have h1:=ak.out;have:=jd (n:=m1) (show 0<18446744073709551616 by omega);omega
 have bM:=f8 b3;clear bh b3;have bE:IntKind.i64.wrap ((n:Int)-f)=(((n-f:Nat):Int)):=by rw[show(n:Int)-f=((n-f:Nat):Int) by omega];exact fO _ (by omega)
 obtain⟨nq,br⟩:∃ nq,n-f=nq:=⟨_,rfl⟩;rw[br]at bE ag;have cp:nq<=n:=by omega
 have bU:Hid (n=nq+f):=by show _=_;omega
 clear br
 go_upto_region 12 with(at_make;refine EX (n:=nq+1) rfl rfl underlying98 AP rfl rfl rfl (by omega) (by unfold maxLen;omega) ?_;intro w6 b9 aq)
 have aK:=aw.ext aq;have aI:=b5.trans aq;go_wp2;rw[show decide (cv<0)=false by simp;omega]
 go_loopw[13] (fun iv wr=>∃ (k:Nat) (V qs:List Nat),iv = .int .i64 ((k:Int)-1)/\k<=nq+1/\Ext r wr/\Ay .u64 wr r.heap.size 101 r.heap.size (n+1) (n+1) V/\Ay .u64 wr N.heap.size 101 N.heap.size (nq+1) (nq+1) qs/\W.bnd 18446744073709551616 V/\W.bnd 18446744073709551616 qs/\Hid (x*2^s=W.val 18446744073709551616 qs*D+W.val 18446744073709551616 V)/\Hid (∀ j,j<k->qs.getD j 0=0)/\Hid (W.val 18446744073709551616 V<18446744073709551616^k*D)) (fun iv _=>(intOf iv+1).toNat)
 case atStart =>
  refine⟨nq+1,ck,List.replicate (nq+1) 0,by go_num,lrf _,aI,aK,Ay.of_zeros b9,bc,fun z hz=>by rw[(gR.1 hz).2];omega,f8 ?_,f8 (fun j _=>FA _ j),f8 ?_⟩
  · rw[W.val_zeros,iE,fZ,ah.out]
  · rw[ah.out];exact ag.out
 case round =>
  clear b9 aq aK aI aw b5 bc ah ag bE ch bL K bI a7;obtain⟨k,V,qs,rfl,hk,hE,hz,hq,bz,bq,HV,HJ,HB⟩:=hrel;cases k with
  | zero =>
   have aM:x/y=W.val 18446744073709551616 qs/\W.val 18446744073709551616 V/2^s=x%y:=by
    have h1:=HV.out;have h2:=HB.out;rw[kV,k8]at h2;rw[<-HD.out]at h1 h2;refine Vw ?_ h1 h2;have h3:=ak.out;have:=jd (n:=m1) (show 0<18446744073709551616 by omega);omega
   have aE:=f8 aM;clear aM
   go_wp2_with fail
   refine(BM hq.sl).mono ?_;rintro e w7 ⟨q1,rfl,rfl,R,bA⟩;obtain⟨t1,t2⟩:=B8 hq.sl R bA bq aE.out.1.symm;clear bA R
   go_wp2_with fail
   refine(BM hz.sl).mono ?_;rintro e w8 ⟨q2,rfl,rfl,a0,bB⟩;obtain⟨t3,t4⟩:=B8 (v:=W.val 18446744073709551616 V) hz.sl a0 bB bz rfl;have bw:=Jt t3 t4 hs (by omega);have T1:=f8 t1;have T2:=f8 t2;have bV:=f8 bw;clear bB t1 t2 t3 t4 bw
   go_wp2_with fail
   refine bV.out.mono ?_;rintro e w9 ⟨a9,n9,c9,cl,rfl,E,ci,bH,cb⟩;rw[aE.out.2]at bH;go_wp2
   go_ret2
   exact⟨_,q1,_,_,a9,n9,c9,cl,rfl,(a4.trans hE).trans E,T1.out.ext E,T2.out,ci,bH,fun _ g h=>Or.inl (by have:=a4.size;cases h;show w.heap.size<=N.heap.size;omega),fun _ g h=>(cb g h).imp (fun h=>ft (a4.trans hE).size h) (fun h=>h.elim)⟩
  | succ i =>
   have cf:((i+1:Nat):Int)-1=i:=by omega
   rw[cf];have cA:i<=nq:=by omega
   have cC:i+f<=n:=by have:=bU.out;omega
   have c5:i+(f+1)<=V.length:=by rw[hz.len];omega
   obtain⟨q,bt,R,a0,ba,bn,bm⟩:=R6 (by omega) bz c5 aT.out bM.out HB.out;have bb:((V.drop i).take (f+1)).length=mm+3:=by simp;have:=a2.out;omega
   have bW:W.bnd 18446744073709551616 ((V.drop i).take (f+1)):=W.bnd_take (W.bnd_drop bz _) _;have bu:=hz.arr.part (o:=i) (n:=f+1) (c:=n+1-i) (by omega) (by omega) (by unfold maxLen;omega);have aN:=fun(C:World) (bF:Qt wr C)=>M0 (w:=C) (n:=f) (m:=mm) (q:=q) (bu.ext bF.ext) ((hd.ext hE).ext bF.ext) bW Z.out.bnd a2.out (by omega) bN.out rfl rfl (Uk bb) (KL (by rw[hd.len];exact a2.out)) (DB bW (by omega)) (DB Z.out.bnd (by rw[hd.len];have:=a2.out;omega)) (by rw[Z.out.val];exact R) (by rw[Z.out.val];exact a0) bt
   have bJ:∀ C:World,(Instr.sliceAt 98 (.slice (some ⟨r.heap.size,0,none⟩) (n+1) (n+1)) (some (.int .i64 i)) (some (.int .i64 ((i:Int)+f+1))) none).run prog C = .ok (.slice (some ⟨r.heap.size,i,none⟩) (f+1) (n+1-i)) C:=fun C=>by
    have:=Dh (P:=prog) (w:=C) (g:=r.heap.size) (n:=n+1) (c:=n+1) (lo:=i) (hi:=i+f+1) underlying98 AP (by omega) (by omega) (by omega);rw[show i+f+1-i=f+1 by omega,gH,gH]at this;exact this
   have bK:∀ C:World,(Instr.sliceAt 98 (.slice (some ⟨r.heap.size,0,none⟩) (n+1) (n+1)) (some (.int .i64 i)) (some (.int .i64 ((i:Int)+f))) none).run prog C = .ok (.slice (some ⟨r.heap.size,i,none⟩) f (n+1-i)) C:=fun C=>by
    have:=Dh (P:=prog) (w:=C) (g:=r.heap.size) (n:=n+1) (c:=n+1) (lo:=i) (hi:=i+f) underlying98 AP (by omega) (by omega) (by omega);rw[kN,gH]at this;exact this
   have cM:IntKind.i64.wrap ((i:Int)+f)=(i:Int)+f:=fO _ (by omega);have cr:IntKind.i64.wrap ((i:Int)+f+1)=(i:Int)+f+1:=fO _ (by omega);have cI:((i:Int)+f).toNat=i+f:=by omega
   have aj:=f8 ba;have aW:=f8 bn;have aX:=f8 R;have aY:=f8 a0;have bS:=f8 bm;clear ba bn R a0 bm bu bW bb
   go_wp2_with fail
   refine(aN wr (Qt.refl _)).mono ?_;rintro e w7 ⟨g,rfl,c4,cn,bk,ay⟩;have bG:=hz.ext ay.ext;have bs:=hq.ext ay.ext;have ar:=hE.trans ay.ext;have bv:=F8 (w:=w7) (o:=i) (c':=n+1-i) (wd:=g) bG (hd.ext ar) (Or.inr (hd.fresh (lrf _) (by omega))) (by omega) bz Z.out.bnd bk
   go_wp2_with fail
   refine bv.mono ?_;rintro e w8 ⟨cy,G,rfl,cw,aC,L,am,aD,bl⟩;clear aN bv bJ bK;have S:=bs.kept aC (by simp;omega);have au:=ar.grownR aC (lrf _);have bZ:=L.cell (i:=i+f) (by omega);have c0:=L.frozen (i+f);have a7:G.getD (i+f) 0<18446744073709551616:=W.bnd_at am (by rw[L.len];omega);rw[Z.out.val]at aD;have ai:=f8 aD;have bR:=f8 bl;have Y:Hid (∀ v,W.val 18446744073709551616 (G.set (i+f) v)+18446744073709551616^(i+f)*G.getD (i+f) 0=W.val 18446744073709551616 G+18446744073709551616^(i+f)*v):=by
    show ∀ v,_;intro v;exact W.val_set (by rw[L.len];omega)
   clear aD bl bG bs aC hz hq;have bX:Hid (∀ j,i+f+1<=j->V.getD j 0=0):=by
    show ∀ j,i+f+1<=j->V.getD j 0=0;exact fun j hj=>KK (by omega) bS.out (by omega)
   by_cases aL:cy<=G.getD (i+f) 0
   · obtain⟨v,hv⟩:∃ v,v+cy=G.getD (i+f) 0:=⟨G.getD (i+f) 0-cy,by omega⟩;have hR:=WQ (Y.out v) ai.out hv;obtain⟨e1,e2⟩:=R3 aj.out aW.out hR aY.out c4;subst e1;have af:=f8 (QE (qs:=qs) (i:=i) (q:=g) (by rw[S.len];omega) (HJ.out i (by omega)) rfl HV.out hR);have ae:=f8 (QF (q:=g) HJ.out);have bO:=f8 e2;have cg:IntKind.u64.wrap (((G.getD (i+f) 0:Nat):Int)-cy)=(v:Int):=Al (by omega) (by omega);have cE:(cy:Int)<=((G.getD (i+f) 0:Nat):Int):=by omega
     have an:=S.cell (i:=i) (by omega);have bY:=S.frozen i;rw[HJ.out i (by omega)]at an;have U:=L.set (i+f) v;have T:=(S.kept (Aj w8 r.heap.size (i+f) (.int .u64 (v:Int))) (by simp;omega)).set i g;have ad:=U.kept (Aj (w8.setCell ⟨r.heap.size,i+f,none⟩ (.int .u64 (v:Int))) N.heap.size i (.int .u64 (g:Int))) (by simp;omega);have E:=(au.setCell (p:=⟨r.heap.size,i+f,none⟩) (lrf _) (.int .u64 (v:Int))).setCell (p:=⟨N.heap.size,i,none⟩) (by show r.heap.size<=N.heap.size;omega) (.int .u64 (g:Int))
     have O:=W.bnd_set (i:=i+f) am (show v<18446744073709551616 by omega);have al:=W.bnd_set (i:=i) bq bk;clear hR e2 hv aL;generalize G.getD (i+f) 0=t at *
     go_wp2;go_roundw
     case rel=>exact⟨i,G.set (i+f) v,qs.set i g,by go_num,by omega,E,ad,T,O,al,af,ae,bO⟩
     case measure=>simp[intOf]
   · obtain⟨v,hv⟩:∃ v,v+cy=G.getD (i+f) 0+18446744073709551616:=⟨G.getD (i+f) 0+18446744073709551616-cy,by omega⟩;have ce:v<18446744073709551616:=by omega
     have hR:=R7 (B:=18446744073709551616) (Y.out v) ai.out hv;have aB:=L7 (v:=v) bR.out bX.out;have O:=W.bnd_set (i:=i+f) am ce;have U:=L.set (i+f) v;have aa:W.val 18446744073709551616 (G.set (i+f) v)<18446744073709551616^(i+f+1):=OD (by rw[U.len];omega) O aB;rw[<-gr]at hR;have co:q<g:=Um aj.out hR aa aX.out;obtain⟨Q,rfl⟩:∃ Q,g=Q+1:=⟨g-1,by omega⟩;have c3:Q=q:=by omega
     subst c3;have HR:=f8 hR;have aF:=f8 aa;have aS:=f8 aB;have cg:IntKind.u64.wrap (((G.getD (i+f) 0:Nat):Int)-cy)=(v:Int):=by
      rw[gN];omega
     have cF:((G.getD (i+f) 0:Nat):Int)<(cy:Int):=by omega
     have cK:IntKind.u64.wrap ((Q:Int)+1-1)=(Q:Int):=Al (by omega) (by omega);have cq:IntKind.u64.wrap (Q:Int)=(Q:Int):=Al (by omega) (by omega);have E:=au.setCell (p:=⟨r.heap.size,i+f,none⟩) (lrf _) (.int .u64 (v:Int));have T:=S.kept (Aj w8 r.heap.size (i+f) (.int .u64 (v:Int))) (by simp;omega);clear hR aa aB hv aL ai Y L S au;generalize G.getD (i+f) 0=t at *
     obtain⟨I,aR⟩:∃ I,G.set (i+f) v=I:=⟨_,rfl⟩;rw[aR]at HR aF aS O U;clear aR;go_wp2;generalize w8.setCell ⟨r.heap.size,i+f,none⟩ (.int .u64 (v:Int))=w9 at *
     go_loopw[17,115] (fun cv iv C=>∃ (k H:Nat) (F:List Nat),cv = .int .u64 H/\iv = .int .i64 k/\k<=f/\H<=1/\Ext r C/\Ay .u64 C r.heap.size 101 r.heap.size (n+1) (n+1) F/\Ay .u64 C N.heap.size 101 N.heap.size (nq+1) (nq+1) qs/\W.bnd 18446744073709551616 F/\Hid (W.val 18446744073709551616 F+H*18446744073709551616^(i+k)=W.val 18446744073709551616 I+1*W.val 18446744073709551616 (J.take k)*18446744073709551616^i)/\Hid (∀ j,i+f<=j->F.getD j 0=I.getD j 0)) (fun _ iv _=>f-(intOf iv).toNat)
     case atStart=>exact⟨0,0,I,rfl,rfl,fu _,by omega,E,U,T,O,f8 (by simp[W.val]),f8 (fun _ _=>rfl)⟩
     case round =>
      clear U T O E ar hE;obtain⟨k,H,F,rfl,rfl,cD,c2,av,A,a1,a3,HL,aV⟩:=hrel;by_cases a6:k<f
      · obtain⟨b7,o7,rfl,be⟩:=(hd.ext av).at (j:=k) a6;have g1:=be k a6;have ct:=A.cell (i:=i+k) (by omega);have g3:=A.frozen (i+k);have cN:=W.bnd_at a3 (i:=i+k) (by rw[A.len];omega);have cO:=W.bnd_at Z.out.bnd (i:=k) (by rw[hd.len];exact a6);have HS:=f8 (LX (B:=18446744073709551616) (l:=F) (xs:=J) (k:=k) (o:=i) (w:=1) (s:=(F.getD (i+k) 0+J.getD k 0+H)%18446744073709551616) (c':=(F.getD (i+k) 0+J.getD k 0+H)/18446744073709551616) (by rw[A.len];omega) (by rw[hd.len];exact a6) HL.out (by rw[je];exact l4 _ _))
        have cm:=C9 (F.getD (i+k) 0) (J.getD k 0) H c2;have bQ:Hid (∀ s j,i+f<=j->(F.set (i+k) s).getD j 0=I.getD j 0):=by
         show ∀ s j,i+f<=j->(F.set (i+k) s).getD j 0=I.getD j 0;intro s j hj;have h1:=aV.out j hj;have h2:¬ i+k=j:=by omega
         rw[<-h1];simp[h2]
        have cB:((i:Int)+k).toNat=i+k:=by omega
        have cs:IntKind.i64.wrap ((i:Int)+k)=(i:Int)+k:=fO _ (by omega);generalize F.getD (i+k) 0=u at *
        generalize J.getD k 0=dv at *
        have ca:(u+dv+H)%18446744073709551616<18446744073709551616:=gx _ (by omega);have a5:(u+dv+H)/18446744073709551616<=1:=by omega
        generalize (u+dv+H)%18446744073709551616=s1 at *
        generalize (u+dv+H)/18446744073709551616=c1 at *
        have c8:=a1.kept (Aj wr r.heap.size (i+k) (.int .u64 (s1:Int))) (by simp;omega);clear be;go_wp2;go_roundw
        case rel=>exact⟨k+1,c1,F.set (i+k) s1,rfl,by go_num,by omega,a5,av.setCell (lrf _) _,A.set (i+k) s1,c8,W.bnd_set a3 ca,HS,f8 (bQ.out s1)⟩
        case measure=>simp[intOf];omega
      · have ek:k=f:=by omega
        have aU:Hid (W.val 18446744073709551616 F+H*18446744073709551616^(i+f)=W.val 18446744073709551616 I+1*D*18446744073709551616^i):=by
         show _=_;have h1:=HL.out;rw[ek,f9 (by rw[hd.len];exact lrf _),Z.out.val]at h1;exact h1
        have bZ:=A.cell (i:=i+f) (by omega);have c0:=A.frozen (i+f);have cJ:=W.bnd_at a3 (i:=i+f) (by rw[A.len];omega);have b0:=f8 (fun z=>W.val_set (B:=18446744073709551616) (xs:=F) (i:=i+f) (v:=z) (by rw[A.len];omega));have aH:=fun z=>L7 (v:=z) aV.out aS.out;generalize F.getD (i+f) 0=u at *
        obtain⟨z,a8⟩:∃ z,(u+H)%18446744073709551616=z:=⟨_,rfl⟩;have cj:z<18446744073709551616:=by rw[<-a8];exact gx _ (by omega)
        have h3:z+18446744073709551616*((u+H)/18446744073709551616)=u+H:=by rw[<-a8];exact l4 _ _
        have hT:=Un (B:=18446744073709551616) (b0.out z) aU.out h3;rw[<-gr]at hT;have aG:=W.bnd_set (i:=i+f) a3 cj;have aQ:=A.set (i+f) z;have aO:W.val 18446744073709551616 (F.set (i+f) z)<18446744073709551616^(i+f+1):=OD (by rw[aQ.len];omega) aG (aH z);have b4:D*18446744073709551616^i<18446744073709551616^(i+f+1):=by
         have h4:D*18446744073709551616^i<18446744073709551616^f*18446744073709551616^i:=jE aT.out (jd (by omega));rw[<-j9]at h4;exact fN h4 (fx (by omega) (by omega))
        obtain⟨_,f2,f3⟩:=Ul aj.out aW.out HR.out aF.out aX.out aY.out (lrf _) hT aO b4;have af:=f8 (QE (qs:=qs) (i:=i) (q:=Q) (by rw[a1.len];omega) (HJ.out i (by omega)) rfl HV.out f2);have ae:=f8 (QF (q:=Q) HJ.out);have bP:=f8 f3;have cL:IntKind.u64.wrap ((u:Int)+(H:Int))=(z:Int):=by
         have:=Hy (x:=u+H) (M:=z) a8;rw[gH]at this;exact this
        have an:=a1.cell (i:=i) (by omega);have bY:=a1.frozen i;rw[HJ.out i (by omega)]at an;have T:=(a1.kept (Aj wr r.heap.size (i+f) (.int .u64 (z:Int))) (by simp;omega)).set i Q;have ad:=aQ.kept (Aj (wr.setCell ⟨r.heap.size,i+f,none⟩ (.int .u64 (z:Int))) N.heap.size i (.int .u64 (Q:Int))) (by simp;omega);have E:=(av.setCell (p:=⟨r.heap.size,i+f,none⟩) (lrf _) (.int .u64 (z:Int))).setCell (p:=⟨N.heap.size,i,none⟩) (by show r.heap.size<=N.heap.size;omega) (.int .u64 (Q:Int));have al:=W.bnd_set (i:=i) bq bt
        clear hT aO b4 f2 f3 h3 a8 b0 aH HL aU;go_wp2;go_roundw
        case rel=>exact⟨i,F.set (i+f) z,qs.set i Q,by go_num,by omega,E,ad,T,aG,al,af,ae,bP⟩
        case measure=>simp[intOf]
end Go.Proofs.YthdbingomfdeoaaGreatDoor
namespace Go.Proofs.YthdbingomfdeoaaGreatDoor.W
variable {odd:Bool} {B D M P X Y a b c1 c2 k p s u1 u2 v1 v2 x y:Nat}
theorem gcd_two_right(a:x%2=1):Nat.gcd x (2^k*y)=Nat.gcd x y:=by
 have h2:Nat.Coprime x 2:=by
  rw[Nat.coprime_comm];rw[Nat.coprime_iff_gcd_eq_one];rw[mo,a];rfl
 have h:Nat.Coprime x (2^k):=Nat.Coprime.pow_right k h2;exact Nat.Coprime.gcd_mul_left_cancel_right y h.symm
theorem M1(a:y%2=1):Nat.gcd (2^k*x) y=Nat.gcd x y:=by
 rw[jB,gcd_two_right a,jB]
theorem Uo:2^k∣(x ||| y)<->2^k∣x/\2^k∣y:=by
 simp only[Nat.dvd_iff_mod_eq_zero];rw[Nat.or_mod_two_pow];exact Nat.or_eq_zero_iff
theorem gcd_split{f m:Nat}(i:X=2^a*f)(t:f%2=1)(d:X ||| Y=2^s*(2*m+1)):Nat.gcd X Y=2^s*Nat.gcd f Y:=by
 have h1:=(Uo (x:=X) (y:=Y) (k:=s)).1 ⟨2*m+1,d⟩;obtain⟨⟨g,b⟩,⟨o,c⟩⟩:=h1;have h2:¬ 2^(s+1)∣(X ||| Y):=by
  rintro⟨q,e⟩;rw[d,gr,iH]at e;have:=lB (gh s) e;omega
 have r:s<=a:=by
  refine fR fun p => ?_;have h3:2^(a+1)∣X:=jz (Nat.pow_dvd_pow 2 (by omega:a+1<=s)) ⟨g,b⟩;obtain⟨q,e⟩:=h3;rw[i,gr,iH]at e;have:=lB (gh a) e;omega
 have n:g=2^(a-s)*f:=by
  have:2^s*g=2^s*(2^(a-s)*f):=by
   rw[<-b,i,<-iH,<-j9];congr 2;omega
  exact lB (gh s) this
 rw[b,c,Nat.gcd_mul_left,gcd_two_right t];congr 1;by_cases l:a=s
 · subst l;rw[n,jo,kV,k8]
 · have j:o % 2=1:=by
    refine fR fun p=>h2 (Uo.2 ⟨?_,?_⟩)
    · rw[i];exact jz (Nat.pow_dvd_pow 2 (by omega)) (Nat.dvd_mul_right _ _)
    · rw[c,gr];exact Nat.mul_dvd_mul_left _ (by omega)
   rw[n];exact M1 j
theorem gcd_swap(h:x<=y):Nat.gcd x (y-x)=Nat.gcd x y:=by
 rw[Nat.gcd_sub_self_right h]
structure Steps(a b u0 u1 v0 v1:Nat)(odd:Bool)(p q:Nat):Prop where
 ep:if odd=true then p+v0*b=u0*a else p+u0*a=v0*b
 eq:if odd=true then q+u1*a=v1*b else q+v1*b=u1*a
 gcd:Nat.gcd p q=Nat.gcd a b
 lt:q<p
 le:p<=b
theorem OE{q:Nat}(h1:v2*p+v1*q=a)(h2:u2*p+u1*q=b)(s:Int)(hp:(p:Int)=s*(u1*a-v1*b))(e:(q:Int) = -(s*(u2*a-v2*b))):Nat.gcd p q=Nat.gcd a b:=by
 apply Nat.dvd_antisymm
 · apply Nat.dvd_gcd
   · rw[<-h1];exact Nat.dvd_add (jz (jK p q) (jL _ _)) (jz (jb p q) (jL _ _))
   · rw[<-h2];exact Nat.dvd_add (jz (jK p q) (jL _ _)) (jz (jb p q) (jL _ _))
 · have c:((Nat.gcd a b:Nat):Int)∣(a:Int):=kP.2 (jK a b);have d:((Nat.gcd a b:Nat):Int)∣(b:Int):=kP.2 (jb a b);apply Nat.dvd_gcd
   · apply kP.1;rw[hp];exact kZ (Int.dvd_sub (kZ c (kF _ _)) (kZ d (kF _ _))) (kF _ _)
   · apply kP.1;rw[e];exact Int.dvd_neg.2 (kZ (Int.dvd_sub (kZ c (kF _ _)) (kZ d (kF _ _))) (kF _ _))
theorem Leh.good{A n P o r f g s:Int}(h:Leh a b A n P o r f g u1 u2 v1 v2 s)(k:(v2:Int)<=g)(l:(v1:Int)+v2<=f-g)(hu:(u1:Int)<=v1\/((u1:Int)=1/\(v1:Int)=0/\(u2:Int)=0/\s=1))(c:(u1:Int)*v2-u2*v1=s)(m:1<=u2) :
 ∃ p q,Steps a b u1 u2 v1 v2 (decide (s=1)) p q:=by
 have h1:=h.sec k;have h2:=h.gap l hu;have sg:=h.sg;obtain⟨q,d⟩:=Int.eq_ofNat_of_zero_le h1;obtain⟨p,hp⟩:=Int.eq_ofNat_of_zero_le (me h1 (jY h2));have e:s*s=1:=by rcases sg with rfl | rfl <;> rfl
 have t:((v2*p+v1*q:Nat):Int)=(a:Int):=by
  rw[gH,fU,fU,<-hp,<-d];have:(v2:Int)*(s*(u1*a-v1*b))+v1 * -(s*(u2*a-v2*b))=s*(u1*v2-u2*v1)*a:=by grind
  rw[this,c,e,Int.one_mul]
 have v:((u2*p+u1*q:Nat):Int)=(b:Int):=by
  rw[gH,fU,fU,<-hp,<-d];have:(u2:Int)*(s*(u1*a-v1*b))+u1 * -(s*(u2*a-v2*b))=s*(u1*v2-u2*v1)*b:=by grind
  rw[this,c,e,Int.one_mul]
 have i:v2*p+v1*q=a:=by omega
 have j:u2*p+u1*q=b:=by omega
 refine⟨p,q,?_,?_,OE i j s hp.symm d.symm,by omega,?_⟩
 · rcases sg with rfl|rfl
   · simp only[kQ,ke];have:((p+v1*b:Nat):Int)=((u1*a:Nat):Int):=by
      rw[gH,fU,fU,<-hp];omega
     omega
   · rw[fl (by simp)];have:((p+u1*a:Nat):Int)=((v1*b:Nat):Int):=by
      rw[gH,fU,fU,<-hp];omega
     omega
 · rcases sg with rfl|rfl
   · simp only[kQ,ke];have:((q+u2*a:Nat):Int)=((v2*b:Nat):Int):=by
      rw[gH,fU,fU,<-d];omega
     omega
   · rw[fl (by simp)];have:((q+v2*b:Nat):Int)=((u2*a:Nat):Int):=by
      rw[gH,fU,fU,<-d];omega
     omega
 · have h3:1*p<=u2*p:=fa _ m;omega
theorem head_of{t1 t0 lo r:Nat}(c:B=2^s*r)(h0:0<r)(d:a=(t1*B+t0)*M+lo)(b:lo<M) :
 a/(M*r)=t1*2^s+t0/r:=by
 have h1:a/M=t1*B+t0:=by
  rw[d,fJ,kl (by omega),jw b,gE]
 rw[<-lN,h1,c,show t1*(2^s*r)=r*(t1*2^s) by grind,kl h0]
theorem R8(d:0<P)(c:b<=a):Leh (a:Int) (b:Int) ((a/P:Nat):Int) ((b/P:Nat):Int) (P:Int) ((a%P:Nat):Int) ((b%P:Nat):Int) ((a/P:Nat):Int) ((b/P:Nat):Int) 1 0 0 1 1:=by
 have h1:=gM a P;have h2:=gM b P;have h3:=gx a d;have h4:=gx b d;have h5:b/P<=a/P:=Nat.div_le_div_right c;refine Leh.start ?_ ?_ (lu _) (Int.ofNat_lt.2 h3) (lu _) (Int.ofNat_lt.2 h4) (lu _) (Int.ofNat_le.2 h5)
 · rw[fJ]at h1;rw[<-fU,<-gH];omega
 · rw[fJ]at h2;rw[<-fU,<-gH];omega
structure Sim(a b A Bb P α β f g u0 u1 u2 v0 v1 v2:Nat)(odd:Bool):Prop where
 leh:Leh (a:Int) b A Bb P α β f g u1 u2 v1 v2 (if odd=true then -1 else 1)
 hu:(u1<=v1)\/(u1=1/\v1=0/\u2=0/\odd=false)
 det:(u1:Int)*v2-u2*v1=(if odd=true then -1 else 1)
 good:v0=0\/∃ p q,Steps a b u0 u1 v0 v1 odd p q
 u20:u2=0->v1=0
theorem Sim.start(d:0<P)(c:b<=a):Sim a b (a/P) (b/P) P (a%P) (b%P) (a/P) (b/P) 0 1 0 0 0 1 false :=
 ⟨R8 d c,Or.inr ⟨rfl,rfl,rfl,rfl⟩,by simp,Or.inl rfl,fun _=>rfl⟩
theorem Sim.bound{A c j k f g u0 i:Nat}(h:Sim a b A c P j k f g u0 u1 u2 i v1 v2 odd)(d:1<=g):v1+v2<=A/\u1<=A+1/\u2<=A:=by
 have e:=h.leh.sv;have o:=h.leh.vv;have n:=h.leh.uv;have m:=h.leh.gf;have l:v2*f+v1*g=A:=by
  have:((v2*f+v1*g:Nat):Int)=(A:Int):=by rw[gH,fU,fU];exact e
  omega
 have h1:v2*1<=v2*f:=fX _ (by omega);have h2:v1*1<=v1*g:=fX _ d;rcases h.hu with hu|⟨rfl,rfl,rfl,_⟩ <;> omega
theorem Sim.step{a b A r P t v f g u0 u1 u2 B v1 v2:Nat}{c:Bool}(h:Sim a b A r P t v f g u0 u1 u2 B v1 v2 c)(J:v2<=g)(I:v1+v2<=f-g) :
 Sim a b A r P t v g (f%g) u1 u2 (u1+f/g*u2) v1 v2 (v1+f/g*v2) (!c)/\v1+f/g*v2<=A/\u1+f/g*u2<=A/\f%g<g:=by
 have C:=h.leh.v2p;have H:=h.leh.gf;have l:1<=g:=by omega
 obtain⟨D,E,F⟩:=h.bound l;have x:(f:Int)=((f/g:Nat):Int)*(g:Int)+((f%g:Nat):Int):=by
  have:=gM f g;rw[fJ]at this;rw[<-fU,<-gH];omega
 have z:=gx f (show 0<g by omega);have y:1<=f/g:=(Nat.le_div_iff_mul_le (by omega)).2 (by omega);have n:(u1:Int)<=v1\/((u1:Int)=1/\(v1:Int)=0/\(u2:Int)=0/\(if c=true then -1 else 1:Int)=1):=by
  rcases h.hu with hu|⟨rfl,rfl,rfl,rfl⟩
  · left;omega
  · right;simp
 have d:=h.leh.step x (by omega) (by omega) (by omega) n;have i : -(if c=true then -1 else 1:Int)=(if(!c)=true then -1 else 1:Int):=by cases c <;> rfl
 rw[i]at d;have j:Leh (a:Int) b A r P t v g ((f%g:Nat):Int) u2 ((u1+f/g*u2:Nat):Int) v2 ((v1+f/g*v2:Nat):Int) (if(!c)=true then -1 else 1):=by
  rw[gH,gH,fU,fU];exact d
 have e:=j.sv;have L:=j.uv;have G:(v1+f/g*v2)*g+v2*(f%g)=A:=by
  have:(((v1+f/g*v2)*g+v2*(f%g):Nat):Int)=(A:Int):=by rw[gH,fU,fU];exact e
  omega
 have K:(v1+f/g*v2)*1<=(v1+f/g*v2)*g:=fX _ l;refine⟨⟨j,?_,?_,?_,?_⟩,by omega,by omega,z⟩
 · left;have:=h.leh.uv;omega
 · have w:=h.det;have:(u2:Int)*((v1+f/g*v2:Nat):Int)-((u1+f/g*u2:Nat):Int)*v2 = -((u1:Int)*v2-u2*v1):=by
    rw[gH,gH,fU,fU]
    grind
   rw[this,w,i]
 · by_cases h0:v1=0
   · exact Or.inl h0
   · right;have k:1<=u2:=by
      rcases fF u2 with h2|h2
      · exact absurd (h.u20 h2) h0
      · exact h2
     obtain⟨p,q,m⟩:=h.leh.good (by omega) (by omega) n h.det k;refine⟨p,q,?_⟩;have:decide ((if c=true then -1 else 1:Int)=1) = !c:=by cases c <;> rfl
     rw[this]at m;exact m
 · intro h0;have s:u1=0:=by omega
   have k:f/g*u2=0:=by omega
   have o:u2=0:=by
    rcases Nat.mul_eq_zero.1 k with h3|h3
    · omega
    · exact h3
   subst s;subst o;have:=h.det;cases c <;> simp at this
theorem comb_step{U V d c1' c2':Nat}(h:D+U+c1*M=V+c2*M)(e:d+x+c2+B*c1'=y+c1+B*c2') :
 D+M*d+(U+M*x)+c1'*(M*B)=V+M*y+c2'*(M*B):=by
 have a:M*(d+x+c2+B*c1')=M*(y+c1+B*c2'):=by rw[e]
 grind
theorem comb_end{T:Nat}(h:D+X+c1*T=Y+c2*T)(hp:p+X=Y)(b:D<T)(a:p<T):D=p:=by
 have h1:D+c1*T=p+c2*T:=by omega
 have h2:=fM (· % T) h1;simp only[Nat.add_mul_mod_self_right]at h2
 rwa[j8 b,j8 a]at h2
end Go.Proofs.YthdbingomfdeoaaGreatDoor.W
namespace Go.Proofs.YthdbingomfdeoaaGreatDoor
open Go.Shelf
def R9:Go.Shelf.Ren:=⟨fun | 29=>210 | n=>n,fun | 22=>101 | 3=>3 | 4=>4 | 25=>144 | 54=>279 | 0=>0 | 5=>5 | n=>n,fun | 1=>1 | n=>n⟩
theorem XB:Go.Proofs.Lays7.n29 Tryz.prog R9:={
 mixed:=by kernel_rfl
 f29:=Tryz.func210.trans (fM some (by kernel_rfl))
 t0:=Tryz.underlying0
 a0:=Tryz.isAgg0
 z0:=Tryz.sizeOf0
 v0:=Tryz.zeroValue0
 i0:=by kernel_rfl
 t3:=Tryz.underlying3
 a3:=Tryz.isAgg3
 z3:=Tryz.sizeOf3
 v3:=Tryz.zeroValue3
 i3:=by kernel_rfl
 t4:=Tryz.underlying4
 a4:=Tryz.isAgg4
 z4:=Tryz.sizeOf4
 v4:=Tryz.zeroValue4
 i4:=by kernel_rfl
 t5:=Tryz.underlying5
 a5:=Tryz.isAgg5
 z5:=Tryz.sizeOf5
 v5:=Tryz.zeroValue5
 i5:=by kernel_rfl
 t22:=Tryz.underlying101
 a22:=Tryz.isAgg101
 z22:=Tryz.sizeOf101
 v22:=Tryz.zeroValue101
 i22:=by kernel_rfl
 t25:=Tryz.underlying144
 a25:=Tryz.isAgg144
 z25:=Tryz.sizeOf144
 v25:=Tryz.zeroValue144
 i25:=by kernel_rfl
 t54:=Tryz.underlying279
 a54:=Tryz.isAgg279
 z54:=Tryz.sizeOf279
 g1:=by kernel_rfl }
def OG:Go.Shelf.Ren:=⟨fun | 173=>66 | 246=>105 | 283=>145 | 284=>146 | 285=>147 | 286=>148 | 129=>119 | 317=>185 | 318=>186 | 319=>187 | 320=>188 | 337=>215 | 338=>210 | n=>n,fun | 2=>2 | 3=>3 | 9=>9 | 4=>4 | 171=>211 | 0=>0 | 53=>101 | 37=>159 | 5=>5 | 173=>213 | 212=>249 | 51=>187 | 20=>20 | 213=>250 | 46=>144 | 232=>283 | 233=>279 | n=>n,fun | 17=>0 | 18=>4 | 19=>1 | n=>n⟩
theorem Vx:Go.Proofs.LaysM.n173 Tryz.prog OG:={
 mixed:=by kernel_rfl
 f129:=Tryz.func119.trans (fM some (by kernel_rfl))
 f173:=Tryz.func66.trans (fM some (by kernel_rfl))
 f246:=Tryz.func105.trans (fM some (by kernel_rfl))
 f283:=Tryz.func145.trans (fM some (by kernel_rfl))
 f284:=Tryz.func146.trans (fM some (by kernel_rfl))
 f285:=Tryz.func147.trans (fM some (by kernel_rfl))
 f286:=Tryz.func148.trans (fM some (by kernel_rfl))
 f317:=Tryz.func185.trans (fM some (by kernel_rfl))
 f318:=Tryz.func186.trans (fM some (by kernel_rfl))
 f319:=Tryz.func187.trans (fM some (by kernel_rfl))
 f320:=Tryz.func188.trans (fM some (by kernel_rfl))
 f337:=Tryz.func215.trans (fM some (by kernel_rfl))
 f338:=Tryz.func210.trans (fM some (by kernel_rfl))
 t0:=Tryz.underlying0
 a0:=Tryz.isAgg0
 z0:=Tryz.sizeOf0
 v0:=Tryz.zeroValue0
 t2:=Tryz.underlying2
 a2:=Tryz.isAgg2
 z2:=Tryz.sizeOf2
 v2:=Tryz.zeroValue2
 t3:=Tryz.underlying3
 a3:=Tryz.isAgg3
 z3:=Tryz.sizeOf3
 v3:=Tryz.zeroValue3
 t4:=Tryz.underlying4
 a4:=Tryz.isAgg4
 z4:=Tryz.sizeOf4
 v4:=Tryz.zeroValue4
 t5:=Tryz.underlying5
 a5:=Tryz.isAgg5
 z5:=Tryz.sizeOf5
 v5:=Tryz.zeroValue5
 t9:=Tryz.underlying9
 a9:=Tryz.isAgg9
 z9:=Tryz.sizeOf9
 v9:=Tryz.zeroValue9
 t20:=Tryz.underlying20
 a20:=Tryz.isAgg20
 z20:=Tryz.sizeOf20
 v20:=Tryz.zeroValue20
 t37:=Tryz.underlying159
 a37:=Tryz.isAgg159
 z37:=Tryz.sizeOf159
 v37:=Tryz.zeroValue159
 t46:=Tryz.underlying144
 a46:=Tryz.isAgg144
 z46:=Tryz.sizeOf144
 v46:=Tryz.zeroValue144
 t51:=Tryz.underlying187
 a51:=Tryz.isAgg187
 z51:=Tryz.sizeOf187
 v51:=Tryz.zeroValue187
 t53:=Tryz.underlying101
 a53:=Tryz.isAgg101
 z53:=Tryz.sizeOf101
 v53:=Tryz.zeroValue101
 t171:=Tryz.underlying211
 a171:=Tryz.isAgg211
 z171:=Tryz.sizeOf211
 v171:=Tryz.zeroValue211
 t173:=Tryz.underlying213
 a173:=Tryz.isAgg213
 z173:=Tryz.sizeOf213
 v173:=Tryz.zeroValue213
 t212:=Tryz.underlying249
 a212:=Tryz.isAgg249
 z212:=Tryz.sizeOf249
 v212:=Tryz.zeroValue249
 t213:=Tryz.underlying250
 a213:=Tryz.isAgg250
 z213:=Tryz.sizeOf250
 t232:=Tryz.underlying283
 a232:=Tryz.isAgg283
 z232:=Tryz.sizeOf283
 v232:=Tryz.zeroValue283
 t233:=Tryz.underlying279
 a233:=Tryz.isAgg279
 z233:=Tryz.sizeOf279
 v233:=Tryz.zeroValue279
 g17:=by kernel_rfl
 g18:=by kernel_rfl
 g19:=by kernel_rfl
 i0:=by kernel_rfl
 i2:=by kernel_rfl
 i3:=by kernel_rfl
 i4:=by kernel_rfl
 i5:=by kernel_rfl
 i9:=by kernel_rfl
 i20:=by kernel_rfl
 i37:=by kernel_rfl
 i46:=by kernel_rfl
 i51:=by kernel_rfl
 i53:=by kernel_rfl
 i171:=by kernel_rfl
 i173:=by kernel_rfl
 i212:=by kernel_rfl
 i232:=by kernel_rfl
 i233:=by kernel_rfl
 m17:=by kernel_rfl
 m18:=by kernel_rfl
 m19:=by kernel_rfl }
def Sa:Go.Shelf.Ren:=⟨fun | 288=>166 | 283=>145 | 284=>146 | 285=>147 | 286=>148 | 129=>119 | 317=>185 | 318=>186 | 319=>187 | 320=>188 | 337=>215 | 338=>210 | n=>n,fun | 37=>159 | 53=>101 | 3=>3 | 4=>4 | 9=>9 | 171=>211 | 0=>0 | 173=>213 | 212=>249 | 51=>187 | 5=>5 | 20=>20 | 213=>250 | 46=>144 | 232=>283 | 233=>279 | n=>n,fun | 17=>0 | 18=>4 | 19=>1 | n=>n⟩
theorem QG:Go.Proofs.LaysM.n288 Tryz.prog Sa:={
 mixed:=by kernel_rfl
 f129:=Tryz.func119.trans (fM some (by kernel_rfl))
 f283:=Tryz.func145.trans (fM some (by kernel_rfl))
 f284:=Tryz.func146.trans (fM some (by kernel_rfl))
 f285:=Tryz.func147.trans (fM some (by kernel_rfl))
 f286:=Tryz.func148.trans (fM some (by kernel_rfl))
 f288:=Tryz.func166.trans (fM some (by kernel_rfl))
 f317:=Tryz.func185.trans (fM some (by kernel_rfl))
 f318:=Tryz.func186.trans (fM some (by kernel_rfl))
 f319:=Tryz.func187.trans (fM some (by kernel_rfl))
 f320:=Tryz.func188.trans (fM some (by kernel_rfl))
 f337:=Tryz.func215.trans (fM some (by kernel_rfl))
 f338:=Tryz.func210.trans (fM some (by kernel_rfl))
 t0:=Tryz.underlying0
 a0:=Tryz.isAgg0
 z0:=Tryz.sizeOf0
 v0:=Tryz.zeroValue0
 t3:=Tryz.underlying3
 a3:=Tryz.isAgg3
 z3:=Tryz.sizeOf3
 v3:=Tryz.zeroValue3
 t4:=Tryz.underlying4
 a4:=Tryz.isAgg4
 z4:=Tryz.sizeOf4
 v4:=Tryz.zeroValue4
 t5:=Tryz.underlying5
 a5:=Tryz.isAgg5
 z5:=Tryz.sizeOf5
 v5:=Tryz.zeroValue5
 t9:=Tryz.underlying9
 a9:=Tryz.isAgg9
 z9:=Tryz.sizeOf9
 v9:=Tryz.zeroValue9
 t20:=Tryz.underlying20
 a20:=Tryz.isAgg20
 z20:=Tryz.sizeOf20
 v20:=Tryz.zeroValue20
 t37:=Tryz.underlying159
 a37:=Tryz.isAgg159
 z37:=Tryz.sizeOf159
 v37:=Tryz.zeroValue159
 t46:=Tryz.underlying144
 a46:=Tryz.isAgg144
 z46:=Tryz.sizeOf144
 v46:=Tryz.zeroValue144
 t51:=Tryz.underlying187
 a51:=Tryz.isAgg187
 z51:=Tryz.sizeOf187
 v51:=Tryz.zeroValue187
 t53:=Tryz.underlying101
 a53:=Tryz.isAgg101
 z53:=Tryz.sizeOf101
 v53:=Tryz.zeroValue101
 t171:=Tryz.underlying211
 a171:=Tryz.isAgg211
 z171:=Tryz.sizeOf211
 v171:=Tryz.zeroValue211
 t173:=Tryz.underlying213
 a173:=Tryz.isAgg213
 z173:=Tryz.sizeOf213
 v173:=Tryz.zeroValue213
 t212:=Tryz.underlying249
 a212:=Tryz.isAgg249
 z212:=Tryz.sizeOf249
 v212:=Tryz.zeroValue249
 t213:=Tryz.underlying250
 a213:=Tryz.isAgg250
 z213:=Tryz.sizeOf250
 t232:=Tryz.underlying283
 a232:=Tryz.isAgg283
 z232:=Tryz.sizeOf283
 v232:=Tryz.zeroValue283
 t233:=Tryz.underlying279
 a233:=Tryz.isAgg279
 z233:=Tryz.sizeOf279
 v233:=Tryz.zeroValue279
 g17:=by kernel_rfl
 g18:=by kernel_rfl
 g19:=by kernel_rfl
 i0:=by kernel_rfl
 i3:=by kernel_rfl
 i4:=by kernel_rfl
 i5:=by kernel_rfl
 i9:=by kernel_rfl
 i20:=by kernel_rfl
 i37:=by kernel_rfl
 i46:=by kernel_rfl
 i51:=by kernel_rfl
 i53:=by kernel_rfl
 i171:=by kernel_rfl
 i173:=by kernel_rfl
 i212:=by kernel_rfl
 i232:=by kernel_rfl
 i233:=by kernel_rfl
 m17:=by kernel_rfl
 m18:=by kernel_rfl
 m19:=by kernel_rfl }
end Go.Proofs.YthdbingomfdeoaaGreatDoor
namespace Go.Proofs.YthdbingomfdeoaaGreatDoor
open Tryz Go Go.RowKit
variable {cs cs' cs'' cs3:Array Value} {odd:Bool} {xs ys zs:List Nat} {B base c d g k m n s x y:Nat} {a b:Option Addr} {e t t' t'' t3 ty ty':TypeId} {w w' wb:World}
structure Bk(w:World):Prop where
 tz:TabAt 1 Lib.deBruijn64tab w
 ten:Lib.TabIs prog w "internal/strconv.uint64pow10" .u64 Lib.pow10Tab
theorem Bk.ext(h:Bk w)(e:Ext w w'):Bk w' :=
 ⟨fun j a=>e.cell (h.tz j a),Lib.tabBelow_of_tabIs h.ten w' e⟩
theorem PJ(h0:0<x)(a:x<18446744073709551616):∃ k m,k<64/\x=2^k*(2*m+1)/\∀ w,Bk w->Calls prog 210 #[.int .u64 x] w fun e b=>e = .returned (.int .i64 (k:Nat))/\w=b:=by
 obtain⟨m,h1,h2⟩:=Lib.ctzFrom_spec 64 x h0 a;have h3:Lib.ctz 64 x=Lib.ctzFrom 64 x:=by unfold Lib.ctz;rw[fl (by omega)]
 refine⟨_,m,h2,h1,fun w c => ?_⟩;refine(Any7.bits_TrailingZeros64 XB x a w (fun _=>c.tz)).mono ?_;rintro e b ⟨rfl,rfl⟩;rw[h3];exact⟨rfl,rfl⟩
theorem QH(h:x=2^k*(2*m+1)):x/2^k=2*m+1:=by
 rw[h,kK _ (gh k)]
theorem OH(I:Bk w)(P:x<18446744073709551616)(R:y<18446744073709551616) :
 Calls prog 178 #[.int .u64 x,.int .u64 y] w fun e w'=>e = .returned (.int .u64 (Nat.gcd x y:Nat))/\w=w':=by
 have c:=lT x y P R;by_cases h0:x=0
 · subst h0;have A:bits BinOp.or IntKind.u64 0 (y:Int)=(y:Int):=by
    rw[Nat.zero_or]at c;exact c
   rw[Nat.gcd_zero_left];clear c
   go_enter func178,ntmps178
   go_wp2;go_ret;exact⟨rfl,rfl⟩
 by_cases h1:y=0
 · subst h1;have A:bits BinOp.or IntKind.u64 (x:Int) 0=(x:Int):=by
    rw[Nat.or_zero]at c;exact c
   rw[kM];have Y:((x:Int) == 0)=false:=by simpa using h0
   clear c
   go_enter func178,ntmps178
   go_wp2;go_ret;exact⟨rfl,rfl⟩
 have Y:((x:Int) == 0)=false:=by simpa using h0
 have L:((y:Int) == 0)=false:=by simpa using h1
 have z:x ||| y<18446744073709551616:=MZ P R
 have v:0<x ||| y:=by
  rcases fF (x ||| y)with h|h
  · exact absurd (Nat.or_eq_zero_iff.1 h).1 h0
  · exact h
 obtain⟨s,m,hs,C,n⟩:=PJ v z;obtain⟨a,d,Z,i,r⟩:=PJ (x:=x) (by omega) P;have E:Hid (Nat.gcd x y=2^s*Nat.gcd (2*d+1) y):=f8 (W.gcd_split i (by omega) C);have Q:(x:Int)/2^a=((2*d+1:Nat):Int):=by
  have:=QH i;rw[<-this];push_cast;rfl
 have D:2*d+1<18446744073709551616:=by
  have:1*(2*d+1)<=2^a*(2*d+1):=fa _ (gh a);omega
 clear C i;generalize x ||| y=o at *
 go_enter func178,ntmps178
 go_wp2_with fail
 refine(n _ I).mono ?_;rintro e S ⟨rfl,rfl⟩
 go_wp2_with fail
 refine(r _ I).mono ?_;rintro e S ⟨rfl,rfl⟩;go_wp2;have M:Hid (Nat.gcd (2*d+1) y=Nat.gcd (2*d+1) y):=f8 rfl;obtain⟨G,H⟩:∃ G,Nat.gcd (2*d+1) y=G:=⟨_,rfl⟩;have j:=f8 H;have K:2^s*G<18446744073709551616:=by
  rw[<-H,<-E.out];have:=kL (by omega) (jK x y);omega
 rw[H]at E;clear M H n r Q c
 go_loop[0,1] (fun T U=>∃ p q:Nat,T = .int .u64 (2*(p:Int)+1)/\U = .int .u64 q/\2*p+1<18446744073709551616/\q<18446744073709551616/\Hid (Nat.gcd (2*p+1) q=G)) (fun T U=>(intOf T+intOf U).toNat)
 case atStart=>exact⟨d,y,rfl,rfl,D,R,j⟩
 case round =>
  clear j D Y L h0 h1 z v Z;obtain⟨p,q,rfl,rfl,hp,hq,F⟩:=hrel;by_cases B:q=0
  · subst B;have V:Hid (2*p+1=G):=by show _=_;have:=F.out;rw[kM]at this;exact this
    have O:IntKind.u64.wrap ((2*(p:Int)+1)*2^s)=((Nat.gcd x y:Nat):Int):=by
     have h1:(2*(p:Int)+1)*2^s=((2^s*G:Nat):Int):=by
      rw[<-V.out];push_cast;exact Int.mul_comm _ _
     rw[h1,E.out];exact Al rfl K
    obtain⟨X,f⟩:∃ X,Nat.gcd x y=X:=⟨_,rfl⟩;rw[f]at O;have J:=f8 f;clear F V E f;go_wp2;go_ret;exact⟨by rw[J.out];rfl,rfl⟩
  · obtain⟨k,b,hk,g,t⟩:=PJ (x:=q) (by omega) hq;have a2:((q:Int) != 0)=true:=by simpa using B
    have a3:(q:Int)/2^k=2*(b:Int)+1:=by
     have:=QH g;have h2:(q:Int)/2^k=((q/2^k:Nat):Int):=by push_cast;rfl
     rw[h2,this];push_cast;rfl
    have a1:2*b+1<=q:=by
     have:1*(2*b+1)<=2^k*(2*b+1):=fa _ (gh k);omega
    have l:Hid (Nat.gcd (2*p+1) (2*b+1)=G):=by
     show _=_;have:=F.out;rw[g,W.gcd_two_right (by omega)]at this;exact this
    clear F g;by_cases a0:b<p
    · have N:2*(b:Int)+1<2*(p:Int)+1:=by omega
      have hw:IntKind.u64.wrap (2*(p:Int)+1-(2*(b:Int)+1))=((2*(p-b):Nat):Int):=by
       rw[gN];omega
      go_wp2_with fail
      refine(t _ I).mono ?_;rintro e S ⟨rfl,rfl⟩;go_wp2;go_round
      case rel =>
       refine⟨b,2*(p-b),rfl,rfl,by omega,by omega,f8 ?_⟩;rw[<-l.out,jB (2*p+1),show 2*(p-b)=2*p+1-(2*b+1) by omega];exact W.gcd_swap (by omega)
      case measure=>simp[intOf];omega
    · have N:¬ (2*(b:Int)+1<2*(p:Int)+1):=by omega
      have hw:IntKind.u64.wrap (2*(b:Int)+1-(2*(p:Int)+1))=((2*(b-p):Nat):Int):=by
       rw[gN];omega
      go_wp2_with fail
      refine(t _ I).mono ?_;rintro e S ⟨rfl,rfl⟩;go_wp2;go_round
      case rel =>
       refine⟨p,2*(b-p),rfl,rfl,by omega,by omega,f8 ?_⟩;rw[<-l.out,show 2*(b-p)=2*b+1-(2*p+1) by omega];exact W.gcd_swap (by omega)
      case measure=>simp[intOf];omega
section
variable {P:Program} {c:Code} {Q:Exit->Act->World->Prop} {f:Act} {w:World}
theorem Bv(h:∀ a,Ext w a->Arr a w.heap.size t cs.toList->a.heap.size=w.heap.size+1->Code.wp P c Q f a):Code.wp P c Q f (w.alloc (.cells cs t)) :=
 h _ ((Ext.refl w).alloc _) (Arr.new w t cs.toList) (by simp)
theorem PK(h:∀ a,Ext w a->Arr a w.heap.size t cs.toList->Arr a (w.heap.size+1) t' cs'.toList->a.heap.size=w.heap.size+2->Code.wp P c Q f a):Code.wp P c Q f ((w.alloc (.cells cs t)).alloc (.cells cs' t')) :=
 h _ (((Ext.refl w).alloc _).alloc _) ((Arr.new w t cs.toList).alloc _) (by have:=Arr.new (w.alloc (.cells cs t)) t' cs'.toList;simpa using this) (by simp)
theorem IG(h:∀ a,Ext w a->Arr a w.heap.size t cs.toList->Arr a (w.heap.size+1) t' cs'.toList->Arr a (w.heap.size+2) t'' cs''.toList->a.heap.size=w.heap.size+3->Code.wp P c Q f a):Code.wp P c Q f (((w.alloc (.cells cs t)).alloc (.cells cs' t')).alloc (.cells cs'' t'')) :=
 h _ ((((Ext.refl w).alloc _).alloc _).alloc _) (((Arr.new w t cs.toList).alloc _).alloc _) (by have:=(Arr.new (w.alloc (.cells cs t)) t' cs'.toList).alloc (.cells cs'' t'');simpa using this) (by have:=Arr.new ((w.alloc (.cells cs t)).alloc (.cells cs' t')) t'' cs''.toList;simpa using this) (by simp)
theorem XC(h:∀ a,Ext w a->Arr a w.heap.size t cs.toList->Arr a (w.heap.size+1) t' cs'.toList->Arr a (w.heap.size+2) t'' cs''.toList->Arr a (w.heap.size+3) t3 cs3.toList->a.heap.size=w.heap.size+4->Code.wp P c Q f a):Code.wp P c Q f ((((w.alloc (.cells cs t)).alloc (.cells cs' t')).alloc (.cells cs'' t'')).alloc (.cells cs3 t3)) :=
 h _ (((((Ext.refl w).alloc _).alloc _).alloc _).alloc _) ((((Arr.new w t cs.toList).alloc _).alloc _).alloc _) (by have:=((Arr.new (w.alloc (.cells cs t)) t' cs'.toList).alloc (.cells cs'' t'')).alloc (.cells cs3 t3);simpa using this) (by have:=(Arr.new ((w.alloc (.cells cs t)).alloc (.cells cs' t')) t'' cs''.toList).alloc (.cells cs3 t3);simpa using this) (by have:=Arr.new (((w.alloc (.cells cs t)).alloc (.cells cs' t')).alloc (.cells cs'' t'')) t3 cs3.toList;simpa using this) (by simp)
end
section
variable {P:Program} {w:World}
theorem KM{cs:List Value}(a:Agg P ty cs.length)(h:Arr w g t cs):(loadVar ty ⟨g,0,none⟩).run P w = .ok (.agg cs.toArray) w:=by
 obtain⟨d,hu,b,c⟩:=a.parts;exact run_loadVar_row (P:=P) w g t ty cs.toArray (0,0) d h hu (by cases d <;> first | rfl | exact absurd b (by simp)) (by simpa using c)
theorem PL{f:Func}{p q:Tmp}(l:f.results=#[.cell p ty,.cell q ty']){a:Array Value}{g b:Nat}{t t':TypeId}{cs cs':List Value}(j:Agg P ty cs.length)(c:Agg P ty' cs'.length)
 (hp:a.getD p undef = .pointer (some ⟨g,0,none⟩)) (k:a.getD q undef = .pointer (some ⟨b,0,none⟩)) (h:Arr w g t cs) (i:Arr w b t' cs'):(results f a).run P w = .ok (.tuple #[.agg cs.toArray,.agg cs'.toArray]) w:=by
 have d:a[p]?.getD undef = .pointer (some ⟨g,0,none⟩):=by simpa using hp
 have e:a[q]?.getD undef = .pointer (some ⟨b,0,none⟩):=by simpa using k
 simp[results,l,d,e,asAddr,KM j h,KM c i]
theorem Az{d:Func}{p q:Tmp}(i:d.results=#[.cell p ty,.tmp q]){a:Array Value}{g:Nat}{t:TypeId}{cs:List Value}{v:Value}(e:Agg P ty cs.length)
 (hp:a.getD p undef = .pointer (some ⟨g,0,none⟩)) (f:a.getD q undef=v) (h:Arr w g t cs):(results d a).run P w = .ok (.tuple #[.agg cs.toArray,v]) w:=by
 have b:a[p]?.getD undef = .pointer (some ⟨g,0,none⟩):=by simpa using hp
 have c:a[q]?.getD undef=v:=by simpa using f
 simp[results,i,b,c,asAddr,KM e h]
end
theorem Db:Agg prog 236 5:=⟨by kernel_rfl,by kernel_rfl⟩
def Dc(u0 u1 v0 v1:Nat)(odd:Bool):List Value:=[.int .u64 u0,.int .u64 u1,.int .u64 v0,.int .u64 v1,.bool odd]
theorem GD(u0 u1 c v1:Nat)(a:Bool):∀ v∈Dc u0 u1 c v1 a,v.oneCell'=true:=by
 intro v b;simp only[Dc,fV,ib,kx]at b;rcases b with rfl|rfl|rfl|rfl|rfl <;> rfl
theorem FU(a:s<=63):18446744073709551616=2^s*2^(64-s):=by rw[<-j9,show s+(64-s)=64 by omega]
theorem M2{t1 t0:Nat}(a:s<=63)(h0:t0<18446744073709551616):t1*2^s ||| t0/2^(64-s)=t1*2^s+t0/2^(64-s):=by
 have h:t0/2^(64-s)<2^s:=by
  rw[ie (gh _),<-FU a];exact h0
 have:=Nat.shiftLeft_add_eq_or_of_lt h t1;rw[Nat.shiftLeft_eq]at this;exact this.symm
def X3(w:World)(x y:Nat)(e:Ending)(w':World):Prop :=
 ∃ u0 u1 v0 v1 odd,e = .returned (.agg (Dc u0 u1 v0 v1 odd).toArray)/\Ext w w'/\u0<18446744073709551616/\u1<18446744073709551616/\v0<18446744073709551616/\v1<18446744073709551616/\(v0=0\/∃ p q,W.Steps x y u0 u1 v0 v1 odd p q)
theorem M3(hx:SlN .u64 w a n c xs)(hy:SlN .u64 w b m d ys)(nx:Num 18446744073709551616 xs x)(ny:Num 18446744073709551616 ys y)(hn:n<=100000)(ar:y<=x){nn:Nat}(av:n=nn+2) :
 Calls prog 174 #[.slice a n c,.slice b m d] w (X3 w x y):=by
 have HX:=f8 hx.len;have HY:=f8 hy.len;have bg:m<=n:=by
  refine fR fun hc => ?_;have:=W.len_lt (B:=18446744073709551616) (by omega) nx.bnd ny.nrm (by rw[HX.out,HY.out];omega);rw[nx.val,ny.val]at this;omega
 have ah:xs≠[]:=by intro h;have:=HX.out;rw[h]at this;simp at this;omega
 have ag:0<xs.getD (nn+1) 0:=by
  have h1:=nx.nrm ah;rw[ka]at h1;have h2:xs.length-1=nn+1:=by rw[HX.out];omega
  have h3:nn+1<xs.length:=by rw[HX.out];omega
  have h4:xs.getD (nn+1) 0=xs[xs.length-1]'(by omega):=by
   simp[h2,h3]
  omega
 have ax:=W.bnd_at nx.bnd (i:=nn+1) (by rw[HX.out];omega);have aw:=W.bnd_at nx.bnd (i:=nn) (by rw[HX.out];omega);obtain⟨s,hs,au,aO,a9⟩:=MY ag ax;have D:=fun wx:World=>PG ax wx;rw[au]at D;obtain⟨P,hP⟩:∃ P,18446744073709551616^nn*2^(64-s)=P:=⟨_,rfl⟩;have am:0<P:=by rw[<-hP];exact jj (jd (by omega)) (gh _)
 have hA:x/P=xs.getD (nn+1) 0*2^s+xs.getD nn 0/2^(64-s):=by
  rw[<-hP];refine W.head_of (FU hs) (gh _) (lo:=W.val 18446744073709551616 (xs.take nn)) ?_ ?_
  · rw[<-nx.val];exact KL (by rw[HX.out];omega)
  · exact DB nx.bnd (by rw[HX.out];omega)
 have aj:xs.getD (nn+1) 0*2^s+xs.getD nn 0/2^(64-s)<18446744073709551616:=by
  rw[<-M2 hs aw];exact MZ a9 (by have:=gy (xs.getD nn 0) (2^(64-s));omega)
 have ak:y/P<=x/P:=Nat.div_le_div_right ar;have O:m=nn+2->y/P=ys.getD (nn+1) 0*2^s+ys.getD nn 0/2^(64-s):=by
  intro J;rw[<-hP];refine W.head_of (FU hs) (gh _) (lo:=W.val 18446744073709551616 (ys.take nn)) ?_ ?_
  · rw[<-ny.val];exact KL (by rw[HY.out];omega)
  · exact DB ny.bnd (by rw[HY.out];omega)
 have Q:m=nn+1->y/P=ys.getD nn 0/2^(64-s):=by
  intro J;rw[<-hP]
  have:=W.head_of (t1:=0) (FU hs) (gh _) (a:=y) (t0:=ys.getD nn 0) (M:=18446744073709551616^nn) (lo:=W.val 18446744073709551616 (ys.take nn)) (by
   rw[<-ny.val,iE,fZ];have:=H4 (B:=18446744073709551616) (l:=ys) (m:=nn) (by rw[HY.out];omega)
   rw[this]) (DB ny.bnd (by rw[HY.out];omega))
  rw[this,iE,fZ]
 have R:m<=nn->y/P=0:=by
  intro J;apply jw;have h1:=W.val_lt ny.bnd;rw[ny.val,HY.out]at h1;have h2:18446744073709551616^m<=18446744073709551616^nn:=fx (by omega) J;have h3:18446744073709551616^nn*1<=18446744073709551616^nn*2^(64-s):=fX _ (gh _);omega
 have a8:=f8 (W.Sim.start am ar);obtain⟨A,a3⟩:∃ A,x/P=A:=⟨_,rfl⟩;obtain⟨Bb,a5⟩:∃ Bb,y/P=Bb:=⟨_,rfl⟩;rw[a3,a5]at a8;rw[a3]at hA ak;rw[a5]at ak O Q R;generalize x%P=α at *
 generalize y%P=β at *
 clear a3 a5 hP am ah;have aZ:A<18446744073709551616:=by rw[hA];exact aj
 have b0:Bb<18446744073709551616:=by omega
 obtain⟨b1,o1,rfl,H⟩:=hx.at (j:=0) (by omega);have g1:=H (nn+1) (by omega);have g0:=H nn (by omega);have fA:bits BinOp.or IntKind.u64 ((xs.getD (nn+1) 0*2^s:Nat):Int) ((xs.getD nn 0/2^(64-s):Nat):Int)=(A:Int):=by
  rw[lT _ _ a9 (by have:=gy (xs.getD nn 0) (2^(64-s));omega),M2 hs aw,hA]
 have a0:IntKind.u64.wrap (((xs.getD (nn+1) 0:Nat):Int)*2^s)=((xs.getD (nn+1) 0*2^s:Nat):Int):=Al (by push_cast;rfl) a9;have N:((xs.getD nn 0:Nat):Int)/2^(64-s)=((xs.getD nn 0/2^(64-s):Nat):Int):=by push_cast;rfl
 generalize xs.getD nn 0/2^(64-s)=q0 at *
 generalize xs.getD (nn+1) 0 * 2^s=q1 at *
 generalize xs.getD (nn+1) 0=t1 at *
 generalize xs.getD nn 0=t0 at *
 have aV:IntKind.i64.wrap ((n:Int)-1)=((nn+1:Nat):Int):=by rw[show(n:Int)-1=((nn+1:Nat):Int) by omega];exact fO _ (by omega)
 have bh:IntKind.i64.wrap ((n:Int)-2)=((nn:Nat):Int):=by rw[show(n:Int)-2=((nn:Nat):Int) by omega];exact fO _ (by omega)
 have aQ:((nn+1:Nat):Int)<(n:Int):=by omega
 have bd:((nn:Nat):Int)<(n:Int):=by omega
 have bj:IntKind.u64.wrap (64-(s:Int))=((64-s:Nat):Int):=by rw[gN];omega
 have HN:Hid (n=nn+2):=f8 av;obtain⟨N1,a7⟩:∃ N1,nn+1=N1:=⟨_,rfl⟩;rw[a7]at g1 aV aQ;have L:=f8 a7;clear H au hA aj aO ag av a7
 go_enter func174,ntmps174
 go_upto_region 1 with(fail)
 refine Bv ?_;intro w0 T an aB;have aI:=T.cell g1;have aH:=T.cell g0;have aA:=hy.ext T;clear g1 g0 hx hy
 go_wp2_with fail
 refine(D _).mono ?_;rintro e w2 ⟨rfl,rfl⟩;go_wp2
 go_quiet (fail)
 have E:=T.drewN nq;have F:=an.drewN nq;have Z:=aA.ext ((Ext.refl w2).drewN nq);have aC:(w2.drewN nq).heap.size=w.heap.size+1:=aB;generalize w2.drewN nq=w3 at *
 clear aA T an aB aI aH fA a0 N D;have z:w.heap.size<w3.heap.size:=by omega
 have ba:=f8 aC;clear aC;have aE:m=nn+2\/m=nn+1\/m<=nn:=by have:=HN.out;omega
 rcases aE with J|J|J
 case' inl =>
  obtain⟨b2,o2,rfl,C⟩:=Z.at (j:=0) (by omega);have e1:=O J;have k1:=W.bnd_at ny.bnd (i:=nn+1) (by rw[HY.out];omega);have k0:=W.bnd_at ny.bnd (i:=nn) (by rw[HY.out];omega);have g1:=C (nn+1) (by omega);have g0:=C nn (by omega);rw[L.out]at g1;have aa:ys.getD (nn+1) 0*2^s<18446744073709551616:=by
   have h1:ys.getD (nn+1) 0*2^s<=Bb:=by rw[e1];exact kb _ _
   omega
  have fA:bits BinOp.or IntKind.u64 ((ys.getD (nn+1) 0*2^s:Nat):Int) ((ys.getD nn 0/2^(64-s):Nat):Int)=(Bb:Int):=by
   rw[lT _ _ aa (by have:=gy (ys.getD nn 0) (2^(64-s));omega),M2 hs k0,e1]
  have a0:IntKind.u64.wrap (((ys.getD (nn+1) 0:Nat):Int)*2^s)=((ys.getD (nn+1) 0*2^s:Nat):Int):=Al (by push_cast;rfl) aa;have N:((ys.getD nn 0:Nat):Int)/2^(64-s)=((ys.getD nn 0/2^(64-s):Nat):Int):=by push_cast;rfl
  rw[L.out]at fA a0;clear e1 aa O Q R;generalize ys.getD nn 0/2^(64-s)=p0 at *
  generalize ys.getD N1 0 * 2^s=p1 at *
  generalize ys.getD N1 0=y1 at *
  generalize ys.getD nn 0=y0 at *
  have X:((m:Int) == (n:Int))=true:=by have:=HN.out;simp;omega
  have aR:((N1:Nat):Int)<(m:Int):=by have:=L.out;omega
  have ac:((nn:Nat):Int)<(m:Int):=by omega
  clear J C;go_wp2
  go_quiet (fail)
  go_upto_region 10 with(fail)
  have a1:=E.drewN nq;have a2:=F.drewN nq;have aD:w.heap.size<(w3.drewN nq).heap.size:=z;generalize w3.drewN nq=w4 at *
  clear g1 g0 fA a0 N X aR ac k0 k1 E F z Z;have E1:Hid True:=f8 trivial
 case' inr.inl =>
  obtain⟨b2,o2,rfl,C⟩:=Z.at (j:=0) (by omega);have e1:=Q J;have g0:=C nn (by omega);have N:((ys.getD nn 0:Nat):Int)/2^(64-s)=(Bb:Int):=by rw[e1];push_cast;rfl
  clear e1 O Q R;generalize ys.getD nn 0=y0 at *
  have X:((m:Int) == (n:Int))=false:=by have:=HN.out;simp;omega
  have Y:((m:Int) == ((N1:Nat):Int))=true:=by have:=L.out;simp;omega
  have ac:((nn:Nat):Int)<(m:Int):=by omega
  clear J C
  go_upto_region 10 with(fail)
  have a1:=E;have a2:=F;have aD:=z;clear g0 N X Y ac E F z Z;generalize hw:w3=w4 at *
  clear hw;have E1:Hid True:=f8 trivial
 case' inr.inr =>
  have E1:=f8 (R J);clear O Q R;have X:((m:Int) == (n:Int))=false:=by have:=HN.out;simp;omega
  have Y:((m:Int) == ((N1:Nat):Int))=false:=by have:=L.out;simp;omega
  clear J
  go_upto_region 10 with(fail)
  have a1:=E;have a2:=F;have aD:=z;clear X Y E F z Z;generalize hw:w3=w4 at *
  clear hw
 all_goals
  go_wp2;refine Bv ?_;intro w5 a6 ap aW;have ao:Arr w5 w.heap.size 236 (Dc 0 0 0 0 false):=a2.ext a6;have aq:Arr w5 w4.heap.size 236 (Dc 0 1 0 0 false):=ap;have al:=a1.trans a6;clear a2 ap a1 a6;generalize I:w4.heap.size=S at *
  have b9:=f8 I;clear I aW
  go_loopw[7,8,10,11] (fun fv gv uv vv wr=>∃ (f g u0 u1 u2 v0 t k:Nat) (o:Bool),fv = .int .u64 f/\gv = .int .u64 g/\uv = .int .u64 u2/\vv = .int .u64 k/\Ext w wr/\Arr wr w.heap.size 236 (Dc 0 0 0 0 false)/\Arr wr S 236 (Dc u0 u1 v0 t o)/\Hid (W.Sim x y A Bb P α β f g u0 u1 u2 v0 t k o)/\(f<18446744073709551616/\g<18446744073709551616)/\(u0<18446744073709551616/\u1<18446744073709551616/\u2<18446744073709551616)/\(v0<18446744073709551616/\t<18446744073709551616/\k<18446744073709551616)) (fun _ gv _ _ _=>(intOf gv).toNat)
  case atStart=>exact⟨A,Bb,0,1,0,0,0,1,false,rfl,by first | rfl | rw[E1.out];rfl,rfl,rfl,al,ao,aq,a8,⟨by omega,by omega⟩,⟨by omega,by omega,by omega⟩,⟨by omega,by omega,by omega⟩⟩
  case round =>
   clear al ao aq a8;obtain⟨f,g,u0,u1,u2,v0,t,k,o,rfl,rfl,rfl,rfl,hE,hR,I,HS,⟨hf,hg⟩,⟨ay,ad,aT⟩,⟨az,ae,aU⟩⟩:=hrel;have b7:=HS.out.leh.v2p;have bc:=HS.out.leh.gf;have af:(v0=0\/∃ p q,W.Steps x y u0 u1 v0 t o p q):=HS.out.good;have K:=f8 af;clear af;have s0:=I.c 0 rfl;have s1:=I.c 1 rfl;have s2:=I.c 2 rfl;have s3:=I.c 3 rfl;have s4:=I.c 4 rfl;by_cases H:k<=g
   · obtain⟨k1,k2,k3⟩:=HS.out.bound (by omega);have bk:IntKind.u64.wrap ((t:Int)+k)=((t+k:Nat):Int):=Al (by push_cast;rfl) (by omega);have b8:IntKind.u64.wrap ((f:Int)-g)=((f-g:Nat):Int):=Al (by omega) (by omega);have be:(k:Int)<=(g:Int):=by omega
     by_cases C:t+k<=f-g
     · obtain⟨ai,kv,ku,bf⟩:=HS.out.step H C;have bb:((g:Int) == 0)=false:=by simp;omega
       have b5:(f:Int).tdiv g=((f/g:Nat):Int):=by rw[iZ (by omega)];push_cast;rfl
       have aX:(f:Int)/g=((f/g:Nat):Int):=by push_cast;rfl
       have b6:(f:Int).tmod g=((f%g:Nat):Int):=by rw[ji (by omega)];push_cast;rfl
       have aY:(f:Int)%g=((f%g:Nat):Int):=by push_cast;rfl
       have b4:((t+k:Nat):Int)<=((f-g:Nat):Int):=by omega
       have aG:=f8 ai;have aS:f/g<=f:=gy _ _;clear ai HS K;generalize f/g=q at *
       generalize f%g=r at *
       have bi:IntKind.u64.wrap (q:Int)=(q:Int):=Al rfl (by omega);have m1:IntKind.u64.wrap ((q:Int)*u2)=((q*u2:Nat):Int):=Al (by push_cast;rfl) (by omega);have m2:IntKind.u64.wrap ((q:Int)*k)=((q*k:Nat):Int):=Al (by push_cast;rfl) (by omega);have m3:IntKind.u64.wrap ((u1:Int)+((q*u2:Nat):Int))=((u1+q*u2:Nat):Int):=Al (by omega) (by omega);have m4:IntKind.u64.wrap ((t:Int)+((q*k:Nat):Int))=((t+q*k:Nat):Int):=Al (by omega) (by omega);generalize hU:u1+q * u2=U at *
       generalize hV:t+q * k=V at *
       generalize q * u2=qu at *
       generalize q * k=qv at *
       generalize t+k=vs at *
       generalize f-g=fg at *
       clear hU hV aS;go_wp2
       go_quiet (fail)
       have G:=I.drewN nq;have aM:=hR.drewN nq;have aK:=hE.drewN nq;have t0:(wr.drewN nq).cell? ⟨S,0,none⟩=_:=s0;have t1:(wr.drewN nq).cell? ⟨S,1,none⟩=_:=s1;have t2:(wr.drewN nq).cell? ⟨S,2,none⟩=_:=s2;have t3:(wr.drewN nq).cell? ⟨S,3,none⟩=_:=s3;have t4:(wr.drewN nq).cell? ⟨S,4,none⟩=_:=s4;generalize wr.drewN nq=wq at *
       clear s0 s1 s2 s3 s4 I hR hE;have aN:=((((G.set 0 (.int .u64 u1)).set 1 (.int .u64 u2)).set 2 (.int .u64 t)).set 3 (.int .u64 k)).set 4 (.bool (!o));have aL:=((((aM.far (p:=⟨S,0,none⟩) (by show w.heap.size≠S;omega) (.int .u64 u1)).far (p:=⟨S,1,none⟩) (by show w.heap.size≠S;omega) (.int .u64 u2)).far (p:=⟨S,2,none⟩) (by show w.heap.size≠S;omega) (.int .u64 t)).far (p:=⟨S,3,none⟩) (by show w.heap.size≠S;omega) (.int .u64 k)).far (p:=⟨S,4,none⟩) (by show w.heap.size≠S;omega) (.bool (!o))
       have aJ:=((((aK.setCell (p:=⟨S,0,none⟩) (by show w.heap.size<=S;omega) (.int .u64 u1)).setCell (p:=⟨S,1,none⟩) (by show w.heap.size<=S;omega) (.int .u64 u2)).setCell (p:=⟨S,2,none⟩) (by show w.heap.size<=S;omega) (.int .u64 t)).setCell (p:=⟨S,3,none⟩) (by show w.heap.size<=S;omega) (.int .u64 k)).setCell (p:=⟨S,4,none⟩) (by show w.heap.size<=S;omega) (.bool (!o));have z0:=G.frozen 0;have z1:=G.frozen 1;have z2:=G.frozen 2;have z3:=G.frozen 3;have z4:=G.frozen 4;go_wp2;go_roundw
       case rel=>exact⟨g,r,u1,u2,U,t,k,V,!o,rfl,rfl,rfl,rfl,aJ,aL,aN,aG,⟨hg,by omega⟩,⟨ad,aT,by omega⟩,⟨ae,aU,by omega⟩⟩
       case measure=>simp[intOf];omega
     · have aP:¬ (((t+k:Nat):Int)<=((f-g:Nat):Int)):=by omega
       have aF:((f-g:Nat):Int)<((t+k:Nat):Int):=by omega
       have b3:decide (t+k<=f-g)=false:=by simp;omega
       generalize t+k=vs at *
       generalize f-g=fg at *
       clear C HS
       go_upto_region 19 with(fail)
       go_wp2_with(first
        | (refine Bm rfl rfl Db rfl I ?_)
        | (refine Aa rfl rfl rfl rfl rfl Db hR rfl (GD _ _ _ _ _) ?_;intro w9 a4 ab))
       refine fh (v := .agg (Dc u0 u1 v0 t o).toArray) (At rfl Db rfl a4) rfl ⟨u0,u1,v0,t,o,rfl,hE.grownR ab (lrf _),ay,ad,az,ae,K.out⟩
   · have aP:¬ ((k:Int)<=(g:Int)):=by omega
     have aF:(g:Int)<(k:Int):=by omega
     clear H HS
     go_upto_region 19 with(fail)
     go_wp2_with(first
      | (refine Bm rfl rfl Db rfl I ?_)
      | (refine Aa rfl rfl rfl rfl rfl Db hR rfl (GD _ _ _ _ _) ?_;intro w9 a4 ab))
     refine fh (v := .agg (Dc u0 u1 v0 t o).toArray) (At rfl Db rfl a4) rfl ⟨u0,u1,v0,t,o,rfl,hE.grownR ab (lrf _),ay,ad,az,ae,K.out⟩
theorem Own.upto{cs:List Value}(h:Own w base e a n c cs){k:Nat}(r:k<=n):Own w base e a k c (cs.take k):=by
 have s:=h.len;refine⟨by simp;omega,?_⟩;rcases h.2 with⟨b,h0⟩|⟨g,d,f,b,j,l,o,m,p,q⟩
 · subst h0;have i:k=0:=by omega
   subst i;simp only[fd]at b;exact Or.inl ⟨by rw[b.1,b.2.2],rfl⟩
 · simp only[fd]at b;refine Or.inr ⟨g,d,f,by rw[b.1,b.2.2],j,l,by omega,m,p,?_⟩;rw[<-q,lU];congr 1;omega
theorem Ay.upto{k:IntKind}{w:World}{base:Nat}{e:TypeId}{g n c:Nat}{xs:List Nat}(h:Ay k w base e g n c xs){m:Nat}(a:m<=n):Ay k w base e g m c (xs.take m):=by
 have:=Own.upto h a;rw[<-lL]at this;exact this
def XD(x y c:Nat)(w:World)(e:Ending)(w':World):Prop:=∃ l h:Nat,e = .returned (.tuple #[.int .u64 l,.int .u64 h])/\w=w'/\l<18446744073709551616/\h<18446744073709551616/\l+18446744073709551616*h=x*y+c
theorem Ca(r:x<18446744073709551616)(s:y<18446744073709551616)(t:c<18446744073709551616) :
 Calls prog 209 #[.int .u64 x,.int .u64 y,.int .u64 c] w (XD x y c w):=by
 have p:=JL r s;have hp:x*y<=18446744073709551615*18446744073709551615:=gL (by omega) (by omega);have i:Hid (x*y%18446744073709551616+18446744073709551616*(x*y/18446744073709551616)=x*y):=f8 (l4 _ _);have z:x*y%18446744073709551616<18446744073709551616:=gx _ (by omega);have v:x*y/18446744073709551616<=18446744073709551614:=by omega
 generalize x * y/18446744073709551616=d at *
 generalize x * y%18446744073709551616=a at *
 have k:∀ f:World,(callFunc 202 #[.int .u64 (a:Int),.int .u64 (c:Int),.int .u64 0]).run prog f = .ok (.value (.tuple #[.int .u64 (((a+c+0)%18446744073709551616:Nat):Int),.int .u64 (((a+c+0)/18446744073709551616:Nat):Int)])) f:=fun f=>C9 a c 0 (by omega) f;have j:Hid ((a+c+0)%18446744073709551616+18446744073709551616*((a+c+0)/18446744073709551616)=a+c):=f8 (l4 _ _);have q:(a+c+0)%18446744073709551616<18446744073709551616:=gx _ (by omega);have n:(a+c+0)/18446744073709551616<=1:=by omega
 generalize (a+c+0)%18446744073709551616=l at *
 generalize (a+c+0)/18446744073709551616=b at *
 have A:IntKind.u64.wrap ((d:Int)+(b:Int))=((d+b:Nat):Int):=Al (by omega) (by omega);have m:Hid (l+18446744073709551616*(d+b)=x*y+c):=by show _=_;have h1:=i.out;have h2:=j.out;omega
 have o:d+b<18446744073709551616:=by omega
 generalize d+b=g at *
 clear i j hp
 go_enter func209,ntmps209
 go_wp2_with fail
 refine(p _).mono ?_;rintro e B ⟨rfl,rfl⟩;go_wp2
 go_ret2
 exact⟨l,g,rfl,rfl,q,o,m.out⟩
theorem H6{u v c1 c2 c1' c2':Nat}(a:k<zs.length)(g:k<xs.length)(i:k<ys.length)(h:W.val B (zs.take k)+u*W.val B (xs.take k)+c1*B^k=v*W.val B (ys.take k)+c2*B^k)(e:d+xs.getD k 0*u+c2+B*c1'=ys.getD k 0*v+c1+B*c2') :
 W.val B ((zs.set k d).take (k+1))+u*W.val B (xs.take (k+1))+c1'*B^(k+1)=v*W.val B (ys.take (k+1))+c2'*B^(k+1):=by
 have h1:=W.comb_step h e;have b:W.val B ((zs.set k d).take (k+1))=W.val B (zs.take k)+B^k*d:=by
  rw[W.val_take_succ (by simpa using a)];congr 1
  · rw[ld (lrf _)]
  · simp[a]
 rw[b,W.val_take_succ g,W.val_take_succ i,gr];have c:u*(W.val B (xs.take k)+B^k*xs.getD k 0)=u*W.val B (xs.take k)+B^k*(xs.getD k 0*u):=by grind
 have f:v*(W.val B (ys.take k)+B^k*ys.getD k 0)=v*W.val B (ys.take k)+B^k*(ys.getD k 0*v):=by grind
 rw[c,f];exact h1
theorem En(h:zs.drop k=xs.drop k):(zs.set k d).drop (k+1)=xs.drop (k+1):=by
 rw[List.drop_set_of_lt (by omega),<-lF,<-lF,h]
theorem ER(h:zs.drop k=xs.drop k):zs.getD k 0=xs.getD k 0:=by
 have:=fM (fun l:List Nat=>l.getD 0 0) h;simpa using this
def X4(wb:World)(ga n ca gb cb p q:Nat)(e:Ending)(w':World):Prop :=
 e = .returned (.tuple #[])/\Ext wb w'/\∃ zs ts,Ay .u64 w' wb.heap.size 101 ga n ca zs/\Ay .u64 w' wb.heap.size 101 gb n cb ts/\W.bnd 18446744073709551616 zs/\W.bnd 18446744073709551616 ts/\W.val 18446744073709551616 zs=p/\W.val 18446744073709551616 ts=q
theorem Sb{g m ca cb u0 u1 V v1 p q:Nat}(ah:Ext wb w)(hx:Ay .u64 w wb.heap.size 101 g n ca xs)(hy:Ay .u64 w wb.heap.size 101 m n cb ys)(aT:g≠m)(bx:W.bnd 18446744073709551616 xs)(a1:W.bnd 18446744073709551616 ys)(vx:W.val 18446744073709551616 xs=x)(vy:W.val 18446744073709551616 ys=y)(aF:u0<18446744073709551616)(aG:u1<18446744073709551616)(aH:V<18446744073709551616)(aI:v1<18446744073709551616)(al:W.Steps x y u0 u1 V v1 odd p q)(hn:n<=1000000) :
 Calls prog 176 #[.agg (Dc u0 u1 V v1 odd).toArray,.slice (some ⟨g,0,none⟩) n ca,.slice (some ⟨m,0,none⟩) n cb] w (X4 wb g n ca m cb p q):=by
 have HX:=f8 hx.len;have HY:=f8 hy.len;have ag:=f8 vx;have a0:=f8 vy;have K:=f8 al;have BX:=f8 bx;have BY:=f8 a1;have aM:=hx.lt;have aN:=hy.lt;have ae:=hx.lo;have af:=hy.lo;clear vx vy al
 go_enter func176,ntmps176
 go_upto_region 1 with(fail)
 refine Bv ?_;intro w1 R aj aJ;have ak:Arr w1 w.heap.size 236 (Dc u0 u1 V v1 odd):=aj;have an:=hx.ext R;have ap:=hy.ext R;have ai:=ah.trans R;generalize ay:w.heap.size=S at *
 clear aj hx hy ah R aJ ay;go_wp2
 go_loopw[6,7,8,9,10,11,21] (fun a6 a7 a8 a9 aw ax iv wr=>∃ (k cP cQ cR cT b f:Nat) (zs j:List Nat),a6 = .int .u64 cP/\a7 = .int .u64 cQ/\a8 = .int .u64 cR/\a9 = .int .u64 cT/\aw = .int .u64 b/\ax = .int .u64 f/\iv = .int .i64 k/\k<=n/\(cP<18446744073709551616/\cQ<18446744073709551616/\cR<18446744073709551616/\cT<18446744073709551616)/\b<=1/\f<=1/\Ext wb wr/\Arr wr S 236 (Dc u0 u1 V v1 odd)/\Ay .u64 wr wb.heap.size 101 g n ca zs/\Ay .u64 wr wb.heap.size 101 m n cb j/\W.bnd 18446744073709551616 zs/\W.bnd 18446744073709551616 j/\Hid (zs.drop k=xs.drop k)/\Hid (j.drop k=ys.drop k)/\Hid (if odd=true then W.val 18446744073709551616 (zs.take k)+V*W.val 18446744073709551616 (ys.take k)+cP*18446744073709551616^k=u0*W.val 18446744073709551616 (xs.take k)+(cQ+b)*18446744073709551616^k else W.val 18446744073709551616 (zs.take k)+u0*W.val 18446744073709551616 (xs.take k)+cQ*18446744073709551616^k=V*W.val 18446744073709551616 (ys.take k)+(cP+b)*18446744073709551616^k)/\Hid (if odd=true then W.val 18446744073709551616 (j.take k)+u1*W.val 18446744073709551616 (xs.take k)+cR*18446744073709551616^k=v1*W.val 18446744073709551616 (ys.take k)+(cT+f)*18446744073709551616^k else W.val 18446744073709551616 (j.take k)+v1*W.val 18446744073709551616 (ys.take k)+cT*18446744073709551616^k=u1*W.val 18446744073709551616 (xs.take k)+(cR+f)*18446744073709551616^k)) (fun _ _ _ _ _ _ iv _=>n-(intOf iv).toNat)
 case atStart=>exact⟨0,0,0,0,0,0,0,xs,ys,rfl,rfl,rfl,rfl,rfl,rfl,rfl,fu _,⟨by omega,by omega,by omega,by omega⟩,by omega,by omega,ai,ak,an,ap,bx,a1,f8 rfl,f8 rfl,f8 (by simp[W.val]),f8 (by simp[W.val])⟩
 case round =>
  clear ai ak an ap bx a1;obtain⟨k,cP,cQ,cR,cT,b,f,zs,j,rfl,rfl,rfl,rfl,rfl,rfl,rfl,hk,⟨az,aA,aB,aC⟩,T,U,hE,hS,J,I,bz,bt,DZ,DT,H1,H2⟩:=hrel;have aK:S≠g:=by omega
  have aL:S≠m:=by omega
  by_cases a:k<n
  · have c1:=J.cell (i:=k) a;have c2:=I.cell (i:=k) a;have f1:=J.frozen k;have f2:=I.frozen k;have s0:=hS.c 0 rfl;have s1:=hS.c 1 rfl;have s2:=hS.c 2 rfl;have s3:=hS.c 3 rfl;have s4:=hS.c 4 rfl;have b1:=W.bnd_at bz (i:=k) (by rw[J.len];exact a);have b2:=W.bnd_at bt (i:=k) (by rw[I.len];exact a);have ao:zs.getD k 0=xs.getD k 0:=ER DZ.out;have aq:j.getD k 0=ys.getD k 0:=ER DT.out;have L:=f8 ao;have M:=f8 aq;clear ao aq;generalize zs.getD k 0=xk at *
    generalize j.getD k 0=yk at *
    have aO:(k:Int)<n:=by omega
    go_wp2_with fail
    refine(Ca b1 aF az).mono ?_;rintro e w2 ⟨r,N,rfl,rfl,aP,X,E⟩;have E1:=f8 E;clear E
    go_wp2_with fail
    refine(Ca b2 aH aA).mono ?_;rintro e w2 ⟨s,O,rfl,rfl,aQ,Y,E⟩;have E2:=f8 E;clear E
    go_wp2_with fail
    refine(Ca b2 aI aB).mono ?_;rintro e w2 ⟨t,P,rfl,rfl,aR,Z,E⟩;have E3:=f8 E;clear E
    go_wp2_with fail
    refine(Ca b1 aG aC).mono ?_;rintro e w2 ⟨z,Q,rfl,rfl,aS,ad,E⟩;have E4:=f8 E;clear E;cases odd with
    | true =>
     have au:=Da r s b T;have av:=Da t z f U;have d1:=Ue (x:=r) (y:=s) (c:=b) (by omega) (by omega) T;have d2:=Ue (x:=t) (y:=z) (c:=f) (by omega) (by omega) U;have q1:(r+18446744073709551616-s-b)%18446744073709551616<18446744073709551616:=gx _ (by omega);have q2:(t+18446744073709551616-z-f)%18446744073709551616<18446744073709551616:=gx _ (by omega);have r1:=RX (x:=r) (y:=s) (c:=b);have r2:=RX (x:=t) (y:=z) (c:=f);generalize (r+18446744073709551616-s-b)%18446744073709551616=l at *
     generalize (t+18446744073709551616-z-f)%18446744073709551616=o at *
     generalize (if r<s+b then 1 else 0)=D at *
     generalize (if t<z+f then 1 else 0)=H at *
     have a2:=J.set k l;have a3:=(I.kept (Aj wr g k (.int .u64 (l:Int))) (by simp;omega)).set k o;have a4:=a2.kept (Aj (wr.setCell ⟨g,k,none⟩ (.int .u64 (l:Int))) m k (.int .u64 (o:Int))) (by simp;omega);have a5:=(hS.far (p:=⟨g,k,none⟩) (by show S≠g;omega) (.int .u64 (l:Int))).far (p:=⟨m,k,none⟩) (by show S≠m;omega) (.int .u64 (o:Int));have aa:=(hE.setCell (p:=⟨g,k,none⟩) ae (.int .u64 (l:Int))).setCell (p:=⟨m,k,none⟩) af (.int .u64 (o:Int))
     have A:=f8 (H6 (B:=18446744073709551616) (zs:=zs) (xs:=ys) (ys:=xs) (k:=k) (d:=l) (u:=V) (v:=u0) (c1:=cP) (c2:=cQ+b) (c1':=N) (c2':=O+D) (by rw[J.len];exact a) (by rw[HY.out];exact a) (by rw[HX.out];exact a) (by have:=H1.out;rw[fG rfl]at this;exact this) (by rw[<-L.out,<-M.out];have:=E1.out;have:=E2.out;omega))
     have C:=f8 (H6 (B:=18446744073709551616) (zs:=j) (xs:=xs) (ys:=ys) (k:=k) (d:=o) (u:=u1) (v:=v1) (c1:=cR) (c2:=cT+f) (c1':=P) (c2':=Q+H) (by rw[I.len];exact a) (by rw[HX.out];exact a) (by rw[HY.out];exact a) (by have:=H2.out;rw[fG rfl]at this;exact this) (by rw[<-L.out,<-M.out];have:=E3.out;have:=E4.out;omega));clear d1 d2 E1 E2 E3 E4 H1 H2;go_wp2;go_roundw
     case rel=>exact⟨k+1,N,O,P,Q,D,H,zs.set k l,j.set k o,rfl,rfl,rfl,rfl,rfl,rfl,by go_num,by omega,⟨X,Y,Z,ad⟩,r1,r2,aa,a5,a4,a3,W.bnd_set bz q1,W.bnd_set bt q2,f8 (En DZ.out),f8 (En DT.out),f8 (by first | exact A.out | (rw[fG rfl];exact A.out)),f8 (by first | exact C.out | (rw[fG rfl];exact C.out))⟩
     case measure=>simp[intOf];omega
    | false =>
     have au:=Da s r b T;have av:=Da z t f U;have d1:=Ue (x:=s) (y:=r) (c:=b) (by omega) (by omega) T;have d2:=Ue (x:=z) (y:=t) (c:=f) (by omega) (by omega) U;have q1:(s+18446744073709551616-r-b)%18446744073709551616<18446744073709551616:=gx _ (by omega);have q2:(z+18446744073709551616-t-f)%18446744073709551616<18446744073709551616:=gx _ (by omega);have r1:=RX (x:=s) (y:=r) (c:=b);have r2:=RX (x:=z) (y:=t) (c:=f);generalize (s+18446744073709551616-r-b)%18446744073709551616=l at *
     generalize (z+18446744073709551616-t-f)%18446744073709551616=o at *
     generalize (if s<r+b then 1 else 0)=D at *
     generalize (if z<t+f then 1 else 0)=H at *
     have a2:=J.set k l;have a3:=(I.kept (Aj wr g k (.int .u64 (l:Int))) (by simp;omega)).set k o;have a4:=a2.kept (Aj (wr.setCell ⟨g,k,none⟩ (.int .u64 (l:Int))) m k (.int .u64 (o:Int))) (by simp;omega);have a5:=(hS.far (p:=⟨g,k,none⟩) (by show S≠g;omega) (.int .u64 (l:Int))).far (p:=⟨m,k,none⟩) (by show S≠m;omega) (.int .u64 (o:Int));have aa:=(hE.setCell (p:=⟨g,k,none⟩) ae (.int .u64 (l:Int))).setCell (p:=⟨m,k,none⟩) af (.int .u64 (o:Int))
     have A:=f8 (H6 (B:=18446744073709551616) (zs:=zs) (xs:=xs) (ys:=ys) (k:=k) (d:=l) (u:=u0) (v:=V) (c1:=cQ) (c2:=cP+b) (c1':=O) (c2':=N+D) (by rw[J.len];exact a) (by rw[HX.out];exact a) (by rw[HY.out];exact a) (by have:=H1.out;rw[fl (by simp)]at this;exact this) (by rw[<-L.out,<-M.out];have:=E1.out;have:=E2.out;omega))
     have C:=f8 (H6 (B:=18446744073709551616) (zs:=j) (xs:=ys) (ys:=xs) (k:=k) (d:=o) (u:=v1) (v:=u1) (c1:=cT) (c2:=cR+f) (c1':=Q) (c2':=P+H) (by rw[I.len];exact a) (by rw[HY.out];exact a) (by rw[HX.out];exact a) (by have:=H2.out;rw[fl (by simp)]at this;exact this) (by rw[<-L.out,<-M.out];have:=E3.out;have:=E4.out;omega));clear d1 d2 E1 E2 E3 E4 H1 H2;go_wp2;go_roundw
     case rel=>exact⟨k+1,N,O,P,Q,D,H,zs.set k l,j.set k o,rfl,rfl,rfl,rfl,rfl,rfl,by go_num,by omega,⟨X,Y,Z,ad⟩,r1,r2,aa,a5,a4,a3,W.bnd_set bz q1,W.bnd_set bt q2,f8 (En DZ.out),f8 (En DT.out),f8 (by first | exact A.out | (rw[fl (by simp)];exact A.out)),f8 (by first | exact C.out | (rw[fl (by simp)];exact C.out))⟩
     case measure=>simp[intOf];omega
  · have ek:k=n:=by omega
    have ar:zs.take k=zs:=f9 (by rw[J.len];omega);have am:j.take k=j:=f9 (by rw[I.len];omega);have ab:xs.take k=xs:=f9 (by rw[HX.out];omega);have ac:ys.take k=ys:=f9 (by rw[HY.out];omega);have h1:=H1.out;have h2:=H2.out;rw[ar,ab,ac,ag.out,a0.out,ek]at h1;rw[am,ab,ac,ag.out,a0.out,ek]at h2;have l1:=W.val_lt bz;have l2:=W.val_lt bt;have l3:=W.val_lt BY.out;rw[J.len]at l1;rw[I.len]at l2;rw[HY.out,a0.out]at l3;have aD:=K.out.le;have aE:=K.out.lt;have F:=K.out.ep
    have G:=K.out.eq;have HF:Hid (W.val 18446744073709551616 zs=p/\W.val 18446744073709551616 j=q):=by
     show _/\_;cases odd with
     | true =>
      rw[fG rfl]at h1 h2 F G;exact⟨W.comb_end h1 F l1 (by omega),W.comb_end h2 G l2 (by omega)⟩
     | false =>
      rw[fl (by simp)]at h1 h2 F G;exact⟨W.comb_end h1 F l1 (by omega),W.comb_end h2 G l2 (by omega)⟩
    clear h1 h2 F G l1 l2 l3 ar am ab ac ek aD aE;go_wp2
    go_end0
    exact⟨rfl,hE,zs,j,J,I,bz,bt,HF.out.1,HF.out.2⟩
theorem II(i:SlN .u64 w a n c xs)(e:SlN .u64 w b m d ys)(j:Num 18446744073709551616 xs x)(f:Num 18446744073709551616 ys y)(p:n<=100000)(h0:0<y) :
 Calls prog 208 #[.slice a n c,.slice b m d] w (GC a .u64 18446744073709551616 w (x/y) (x%y)):=by
 by_cases g:x<y
 · exact EQ i e j f g
 · have l:=e.len;rcases fS m 2 with h2|h2
   · have o:m=1:=by
      rcases fF m with h|h
      · subst h;have:ys=[]:=fk l;have k:=f.val;rw[this]at k;simp only[W.val]at k;omega
      · omega
     subst o;exact E9 i e j f (by omega) (by omega) h0
   · exact Fa i e j f p (by omega) (mm:=m-2) (by omega)
theorem Eo(t:SlN .u64 w a n c xs)(v:SlN .u64 w b m d ys)(z:Num 18446744073709551616 xs x)(A:Num 18446744073709551616 ys y)(s:n<=100000)(D:m<=100000)(h0:0<y)(C:m<80\/n<m+80) :
 Calls prog 175 #[.slice a n c,.slice b m d] w (GC a .u64 18446744073709551616 w (x/y) (x%y)):=by
 have r:=II t v z A s h0;have q:=f8 r;clear r;have E:IntKind.i64.wrap ((n:Int)-m)=(n:Int)-m:=fO _ (by omega);by_cases h1:m<80
 · have h2:¬ ((80:Int)<=(m:Int)):=by omega
   go_enter func175,ntmps175
   go_wp2_with fail
   refine q.out.mono ?_;rintro e B ⟨i,o,k,f,j,p,l,g,rfl,h⟩;have H:=f8 h;clear h;go_wp2
   go_ret2
   exact⟨i,o,k,f,j,p,l,g,rfl,H.out⟩
 · have h2:(80:Int)<=(m:Int):=by omega
   have h3:¬ ((80:Int)<=(n:Int)-m):=by omega
   go_enter func175,ntmps175
   go_wp2_with fail
   refine q.out.mono ?_;rintro e B ⟨i,o,k,f,j,p,l,g,rfl,h⟩;have H:=f8 h;clear h;go_wp2
   go_ret2
   exact⟨i,o,k,f,j,p,l,g,rfl,H.out⟩
theorem E7(i:SlN .u64 w a n c xs)(j:SlN .u64 w b m d ys)(k:Num 18446744073709551616 xs x)(l:Num 18446744073709551616 ys y)(g:n<=100000)(f:m<=100000)(h0:0<y)(e:m<80\/n<m+80) :
 Calls prog 175 #[.slice a n c,.slice b m d] w (V9 .u64 18446744073709551616 w (x/y) (x%y)) :=
 (Eo i j k l g f h0 e).mono fun _ _ h=>h.q
def Up(w:World)(n:Nat)(xs:List Nat)(e:Ending)(w':World):Prop:=∃ a' c',e = .returned (.slice a' n c')/\Ext w w'/\Own w' w.heap.size 101 a' n c' (xs.map (B7 .u64))
theorem ES(i:SlN .u64 w a n c xs)(y:n<=1000000) :
 Calls prog 170 #[.slice a n c] w (Up w n xs):=by
 rcases fF n with h0|h0
 · subst h0;have j:xs=[]:=fk i.len;subst j;have v:=fun m:World=>Lib.run_eql_slice_nil (P:=prog) m 98 101 a 0 c 0 0 underlying98;cases a with
   | none =>
    go_enter func170,ntmps170
    go_wp2;go_ret;exact⟨none,0,rfl,Ext.refl w,Own.nil _ _ _⟩
   | some p =>
    go_enter func170,ntmps170
    go_upto_region 3 with(fail)
    have l:Ext w (w.alloc (.cells #[] 101)):=(Ext.refl w).alloc _;have b:=Au w w.heap.size 101 #[] 0 rfl (lrf _) (by omega)
    go_wp2_with(refine BS (news:=[]) rfl rfl underlying98 AP rfl rfl b rfl (i.ext l) (by simp) (by unfold maxLen;omega) (by omega) (by simp) ?_;intro o r z d f t)
    go_ret;exact⟨o,r,rfl,l.grown f (fun k x=>(b.lt x).1),d⟩
 · refine(Uf i y h0).mono ?_;rintro e m ⟨g,q,rfl,s,b⟩;exact⟨_,q,rfl,s,b⟩
end Go.Proofs.YthdbingomfdeoaaGreatDoor
