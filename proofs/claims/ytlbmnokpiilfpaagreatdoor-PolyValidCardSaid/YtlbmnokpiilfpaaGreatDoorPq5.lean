/- Part Pq5. -/
import Derived.Test.YtlbmnokpiilfpaaGreatDoorPq4
import Derived.Shelf.LaysM
import Derived.Shelf.Lays7
import Derived.Shelf.Lays
import Derived.Test.YtlbmnokpiilfpaaGreatDoorProg
import Derived.Shelf.Spec.TrailingZeros
import Derived.Shelf.Strconv.AppendInt10
import Derived.Shelf.Strconv.Itoa4
set_option linter.all false
set_option maxRecDepth 100000
set_option maxHeartbeats 100000000
namespace Go.Proofs.YtlbmnokpiilfpaaGreatDoor
open Tryz Go Go.RowKit
def gN:=@Nat.lt_of_le_of_lt
def ju:=@Nat.sub_self
def kn:=@Nat.pow_zero
def kw:=@Nat.gcd_comm
def kF:=@Nat.gcd_dvd_right
def kL:=@Nat.gcd_dvd_left
def kO:=@Nat.div_div_eq_div_mul
def li:=@if_true
def lK:=@Nat.le_of_dvd
def lL:=@Nat.dvd_trans
def lU:=@Nat.gcd_zero_right
def m6:=@Nat.mul_pos
def mn:=@Int.dvd_mul_left
def mz:=@Int.le_of_lt
def mG:=@Int.natCast_dvd_natCast
def mW:=@Int.dvd_trans
def nA:=@Int.natCast_nonneg
def nE:=@Nat.eq_of_mul_eq_mul_left
def nL:=@decide_true
def nO:=@Nat.gcd_rec
variable {ls qs xs ys zs:List Nat} {B D M N P Q V V' V1 Z c cy g i m n p q s v x y:Nat} {a b:Option Addr} {t:TypeId} {w:World}
theorem Mr(h:Arr w g t ((List.map (BL .u64) (List.replicate N 0)).take 0 ++ xs.map (BL .u64) ++ (List.map (BL .u64) (List.replicate N 0)).drop (0+xs.length))):B3 .u64 w g t (xs ++ List.replicate (N-xs.length) 0):=Qg h
theorem Rx{R:Nat}(d:0<y)(h:x*2^s=Q*(y*2^s)+R)(a:R<y*2^s):x/y=Q/\R/2^s=x%y:=by
 have hp:=iC s;have c:2^s∣R:=by
  have h1:2^s∣x*2^s:=ll _ _;rw[h]at h1;exact(oG ⟨Q*y,by grind⟩).1 h1
 obtain⟨r,rfl⟩:=c;have e:x=Q*y+r:=by
  apply mf hp;rw[h]
  grind
 have b:r<y:=by
  rw[gV]at a;exact jP a
 rw[mC _ hp,e];exact⟨by rw[gV,ld d,jy b,iO],by rw[gV,lC,jG b]⟩
theorem SL(c:x<18446744073709551616^n)(b:18446744073709551616^m<=y)(a:m+1<=n):x*2^s<18446744073709551616^(n-(m+1)+1)*(y*2^s):=by
 have h1:18446744073709551616^(n-(m+1)+1)*18446744073709551616^m=18446744073709551616^n:=by rw[<-jQ];congr 1;omega
 have h2:18446744073709551616^(n-(m+1)+1)*18446744073709551616^m<=18446744073709551616^(n-(m+1)+1)*y:=iB _ b;have h3:x*2^s<18446744073709551616^(n-(m+1)+1)*y*2^s:=jt (by omega) (iC s);rw[<-kB];exact h3
theorem Ry(hi:i<qs.length)(h0:qs.getD i 0=0)(a:P=18446744073709551616^i)(h:Q=W.val 18446744073709551616 qs*D+V)(h1:V'+q*D*P=V):Q=W.val 18446744073709551616 (qs.set i q)*D+V':=by
 have h2:=W.val_set (B:=18446744073709551616) (xs:=qs) (i:=i) (v:=q) hi;rw[h0,kY,iO]at h2;rw[h2,h,<-h1,a]
 grind
theorem JB(h:∀ j,j<i+1->qs.getD j 0=0):∀ j,j<i->(qs.set i q).getD j 0=0:=by
 intro j a;have h1:=h j (by omega);have h2:¬ i=j:=by omega
 simpa[h2]using h1
theorem Ms(p:0<B){ls:List Nat}{D i b:Nat}(o:W.bnd B ls)(k:i+(b+1)<=ls.length)(r:D<B^b)(g:0<D)(n:W.val B ls<B^(i+1)*D) :
 ∃ q,q<B/\q*D<=W.val B ((ls.drop i).take (b+1))/\W.val B ((ls.drop i).take (b+1))<(q+1)*D/\W.val B ls=W.val B (ls.take i)+B^i*W.val B ((ls.drop i).take (b+1))/\W.val B (ls.take i)<B^i/\W.val B ls<B^(i+(b+1)):=by
 have e:W.val B ls<B^(i+(b+1)):=by
  have h3:B^(i+1)*D<=B^(i+1)*B^b:=iB _ (by omega);rw[<-jQ,show i+1+b=i+(b+1) by omega]at h3;omega
 have d:=Qn (B:=B) p k e;have l:=Ck o (m:=i) (by omega);have j:W.val B ((ls.drop i).take (b+1))<B*D:=by
  rw[ip,kB,d]at n;have h2:B^i*W.val B ((ls.drop i).take (b+1))<B^i*(B*D):=by omega
  exact nC h2
 generalize W.val B ((ls.drop i).take (b+1))=c at *
 have f:c/D*D<=c:=oA _ _;refine⟨c/D,?_,f,?_,d,l,e⟩
 · exact jP (a:=D) (gN f j)
 · rw[iW,jZ];have h1:=j6 c D;have h2:=io c g;rw[gV]at h1;omega
theorem O1{lo a T:Nat}(c:V=lo+P*a)(h1:V1+g*D*P=V+T)(d:V1<T)(b:q*D<=a):q<g:=by
 refine ia fun e => ?_;have h2:g*D*P<=q*D*P:=gH _ (gH _ (by omega));have h3:q*D*P<=a*P:=gH _ b;rw[gV a P]at h3;omega
theorem Uu{t:Nat}(h1:V'+M*t=Z+M*v)(h2:Z+g*D*P=V+cy*M)(h3:v+cy=t):V'+g*D*P=V:=by
 subst h3;rw[jB,gV M cy]at h1;omega
theorem Mt{t:Nat}(h1:V'+M*t=Z+M*v)(h2:Z+g*D*P=V+cy*M)(h3:v+cy=t+B):V'+g*D*P=V+M*B:=by
 have h4:M*(v+cy)=M*(t+B):=by rw[h3]
 rw[jB,jB,gV M cy]at h4;omega
theorem O2{a u z ov:Nat}(h1:a+M*u=Z+M*z)(h2:Z+c*M=V1+1*D*P)(h3:z+B*ov=u+c):a+ov*(M*B)=V1+D*P:=by
 have h4:M*(z+B*ov)=M*(u+c):=by rw[h3]
 rw[jB,jB,gV M c,<-kB]at h4;rw[jZ]at h2;rw[gV ov];omega
theorem Mu(h:∀ j,p<=j->zs.getD j 0=ls.getD j 0)(h0:∀ j,p+1<=j->ls.getD j 0=0):∀ j,p+1<=j->(zs.set p v).getD j 0=0:=by
 intro j a;have h1:=h j (by omega);rw[h0 j a]at h1;have h2:¬ p=j:=by omega
 simpa[h2]using h1
theorem Fz{d:Nat}(hx:SlN .u64 w a n c xs)(hy:SlN .u64 w b m d ys)(X:Num 18446744073709551616 xs x)(ny:Num 18446744073709551616 ys y)(hn:n<=100000)(cw:y<=x){mm:Nat}(bp:m=mm+2) :
 Calls prog 289 #[.slice a n c,.slice b m d] w (O0 .u64 18446744073709551616 w (x/y) (x%y)):=by
 have HC:Hid (¬ AZ (x:Int) (y:Int)<0):=gE (by rw[Dw];omega);have bf:=fun C:World=>fun(h1:Ext w C)=>Bl (hx.ext h1) (hy.ext h1) X ny;have HX:=gE hx.len;have HY:=gE hy.len;have cG:m<=n:=by
  refine ia fun hc => ?_;have:=W.len_lt (B:=18446744073709551616) (by omega) X.bnd ny.nrm (by rw[HX.out,HY.out];omega);rw[X.val,ny.val]at this;omega
 have ab:ys≠[]:=by intro h;have:=HY.out;rw[h]at this;simp at this;omega
 have aa:=W.nrm_pos (B:=18446744073709551616) (by omega) ny.nrm ab;rw[HY.out,ny.val]at aa;have aP:0<ys.getD (m-1) 0:=by
  have h1:=ny.nrm ab;rw[kI]at h1;have h2:ys.length-1=m-1:=by rw[HY.out]
  have h3:m-1<ys.length:=by rw[HY.out];omega
  have h4:ys.getD (m-1) 0=ys[ys.length-1]'(by omega):=by
   simp[h2,h3]
  omega
 have a6:=W.bnd_at ny.bnd (i:=m-1) (by rw[HY.out];omega);obtain⟨s,hs,bo,az,aA⟩:=Nl aP a6;have aZ:Hid (∀ J,Num 18446744073709551616 J (y*2^s)->J.length=m/\9223372036854775808<=J.getD (mm+1) 0):=by
  show ∀ J,Num 18446744073709551616 J (y*2^s)->J.length=m/\9223372036854775808<=J.getD (mm+1) 0;intro J nd;have h1:m-1=mm+1:=by omega
  rw[h1]at az aA;have:=Jd (m:=mm+1) ny (by rw[HY.out];omega) hs az aA nd;exact⟨by omega,this.2⟩
 have NX:=gE X;have NY:=gE ny;have aj:=gE aa;have a2:=gE bp;have cF:2<=m:=by omega
 clear X ny bp az aA ab aa
 go_enter func289,ntmps289
 go_wp2_with fail
 refine(bf _ (Ext.refl w)).mono ?_;rintro e w1 ⟨rfl,hQ⟩;have hc:=HC.out;have ct:(0:Int)<=AZ (x:Int) (y:Int):=by omega
 generalize AZ (x:Int) (y:Int)=cv at *
 clear HC;obtain⟨b1,o1,rfl,a4⟩:=(hy.ext hQ.ext).at (j:=0) (by omega);have g1:=a4 (m-1) (by omega);have bI:((m:Int) == 1)=false:=by simp;omega
 have cg:IntKind.i64.wrap ((m:Int)-1)=((m-1:Nat):Int):=by rw[show(m:Int)-1=((m-1:Nat):Int) by omega];exact gI _ (by omega)
 have bL:((m-1:Nat):Int)<(m:Int):=by omega
 have K:=fun C:World=>Qh a6 C;rw[bo]at K;generalize ys.getD (m-1) 0=yt at *
 have bT:Hid (m-1+1=m):=by show _=_;omega
 generalize m-1=m1 at *
 clear a4 bo aP bf
 go_wp2_with fail
 refine(K _).mono ?_;rintro e w2 ⟨rfl,rfl⟩;clear g1
 go_wp2_with fail
 refine(Gp (hy.ext hQ.ext) NY.out hs (by omega)).mono ?_;rintro e r ⟨bd,f,cd,J,rfl,b6,hd,nd⟩;obtain⟨bg,bi⟩:=aZ.out J nd;have c6:f=m:=by rw[<-hd.len,bg]
 subst c6;have au:=hQ.ext.trans b6;have bN:=gE bi;have Z:=gE nd;obtain⟨D,hD⟩:∃ D,y*2^s=D:=⟨_,rfl⟩;rw[hD]at Z;have HD:=gE hD;clear aZ bi nd bg hD b6
 go_upto_region 10 with(at_make;refine C6 (n:=n+1) rfl rfl underlying81 AK rfl rfl rfl (by omega) (by unfold maxLen;omega) ?_;intro w3 b8 an)
 have aJ:=au.trans an
 go_wp2_with fail
 refine(Gp (hx.ext aJ) NX.out hs (by omega)).mono ?_;rintro e w4 ⟨ax,X,cx,us,rfl,ao,hu,nu⟩;have bC:us.length<=n+1:=by
  refine W.nrm_len (B:=18446744073709551616) (by omega) nu.nrm ?_;rw[nu.val,ip];have h1:=W.val_lt NX.out.bnd;rw[NX.out.val,HX.out]at h1;have h2:2^s<=18446744073709551616:=by
   have:=ic (n:=2) (by omega) (show s<=64 by omega);exact this
  calc x*2^s<18446744073709551616^n*2^s:=jt h1 (iC s)
   _<=18446744073709551616^n*18446744073709551616:=iB _ h2
 have c7:X<=n+1:=by rw[<-hu.len];exact bC
 have hA4:=(Az.of_zeros b8).arr.ext ao;have NU:=gE nu;have HU:=gE hu.len;clear nu bC
 go_upto_region 11 with(refine LF (sT:=81) rfl rfl underlying81 AK rfl rfl hA4 hu (by omega) (by simp;omega) (Jx _) ?_;intro N b2 bj)
 have aw:Az .u64 N r.heap.size 238 r.heap.size (n+1) (n+1) (us ++ List.replicate (n+1-X) 0):=by
  have h1:B3 .u64 N r.heap.size 238 (us ++ List.replicate (n+1-us.length) 0):=by
   refine Mr ?_;rw[HU.out];exact b2
  rw[HU.out]at h1;have hl:(us ++ List.replicate (n+1-X) 0).length=n+1:=by simp[HU.out];omega
  have:=B3.own h1 (lrf r.heap.size) (by rw[hl];unfold maxLen;omega);rw[hl]at this;exact this
 have b5:Ext r N:=(an.trans ao).grownR bj (lrf _);have bD:W.val 18446744073709551616 (us ++ List.replicate (n+1-X) 0)=x*2^s:=by rw[He,NU.out.val]
 have bc:W.bnd 18446744073709551616 (us ++ List.replicate (n+1-X) 0):=Jy (by omega) NU.out.bnd _;have bx:x*2^s<18446744073709551616^(n-f+1)*D:=by
  have h1:=W.val_lt NX.out.bnd;rw[NX.out.val,HX.out]at h1;have h2:=bT.out;have:=SL (s:=s) (m:=m1) h1 aj.out (by omega);rw[h2,HD.out]at this;exact this
 have h51:=aw.lt;generalize us ++ List.replicate (n+1-X) 0=cj at *
 have ag:=gE bD;have af:=gE bx;clear b2 bj hA4 b8 an ao aJ hu c7 NU HU bD bx;have bh:D<18446744073709551616^f:=by
  have h1:=W.val_lt Z.out.bnd;rw[Z.out.val,hd.len]at h1;exact h1
 have aT:=gE bh;have b3:0<D:=by
  rw[<-HD.out];refine m6 ?_ (iC s);have h1:=aj.out;have:=kG (n:=m1) (show 0<18446744073709551616 by omega);omega
 have bM:=gE b3;clear bh b3;have bE:IntKind.i64.wrap ((n:Int)-f)=(((n-f:Nat):Int)):=by rw[show(n:Int)-f=((n-f:Nat):Int) by omega];exact gI _ (by omega)
 obtain⟨nq,br⟩:∃ nq,n-f=nq:=⟨_,rfl⟩;rw[br]at bE af;have co:nq<=n:=by omega
 have bU:Hid (n=nq+f):=by show _=_;omega
 clear br
 go_upto_region 12 with(at_make;refine C6 (n:=nq+1) rfl rfl underlying81 AK rfl rfl rfl (by omega) (by unfold maxLen;omega) ?_;intro w6 b9 ap)
 have aK:=aw.ext ap;have aI:=b5.trans ap;go_wp2;rw[show decide (cv<0)=false by simp;omega]
 go_loopw[13] (fun iv wr=>∃ (k:Nat) (V qs:List Nat),iv = .int .i64 ((k:Int)-1)/\k<=nq+1/\Ext r wr/\Az .u64 wr r.heap.size 238 r.heap.size (n+1) (n+1) V/\Az .u64 wr N.heap.size 238 N.heap.size (nq+1) (nq+1) qs/\W.bnd 18446744073709551616 V/\W.bnd 18446744073709551616 qs/\Hid (x*2^s=W.val 18446744073709551616 qs*D+W.val 18446744073709551616 V)/\Hid (∀ j,j<k->qs.getD j 0=0)/\Hid (W.val 18446744073709551616 V<18446744073709551616^k*D)) (fun iv _=>(intOf iv+1).toNat)
 case atStart =>
  refine⟨nq+1,cj,List.replicate (nq+1) 0,by go_num,lrf _,aI,aK,Az.of_zeros b9,bc,fun z hz=>by rw[(jb.1 hz).2];omega,gE ?_,gE (fun j _=>FR _ j),gE ?_⟩
  · rw[W.val_zeros,jg,iz,ag.out]
  · rw[ag.out];exact af.out
 case round =>
  clear b9 ap aK aI aw b5 bc ag af bE cg bL K bI a6;obtain⟨k,V,qs,rfl,hk,hE,hz,hq,bz,bq,HV,HJ,HB⟩:=hrel;cases k with
  | zero =>
   have aM:x/y=W.val 18446744073709551616 qs/\W.val 18446744073709551616 V/2^s=x%y:=by
    have h1:=HV.out;have h2:=HB.out;rw[kn,jZ]at h2;rw[<-HD.out]at h1 h2;refine Rx ?_ h1 h2;have h3:=aj.out;have:=kG (n:=m1) (show 0<18446744073709551616 by omega);omega
   have aE:=gE aM;clear aM
   go_wp2_with fail
   refine(Bq hq.sl).mono ?_;rintro e w7 ⟨q1,rfl,rfl,R,bA⟩;obtain⟨t1,t2⟩:=BE hq.sl R bA bq aE.out.1.symm;clear bA R
   go_wp2_with fail
   refine(Bq hz.sl).mono ?_;rintro e w8 ⟨q2,rfl,rfl,a0,bB⟩;obtain⟨t3,t4⟩:=BE (v:=W.val 18446744073709551616 V) hz.sl a0 bB bz rfl;have bw:=KV t3 t4 hs (by omega);have T1:=gE t1;have T2:=gE t2;have bV:=gE bw;clear bB t1 t2 t3 t4 bw
   go_wp2_with fail
   refine bV.out.mono ?_;rintro e w9 ⟨a9,n9,c9,ck,rfl,E,ch,bH⟩;rw[aE.out.2]at bH;go_wp2
   go_ret2
   exact⟨_,q1,_,_,a9,n9,c9,ck,rfl,(au.trans hE).trans E,T1.out.ext E,T2.out,ch,bH,fun _ g h=>Or.inl (by have:=au.size;cases h;show w.heap.size<=N.heap.size;omega)⟩
  | succ i =>
   have ce:((i+1:Nat):Int)-1=i:=by omega
   rw[ce];have cz:i<=nq:=by omega
   have cB:i+f<=n:=by have:=bU.out;omega
   have c5:i+(f+1)<=V.length:=by rw[hz.len];omega
   obtain⟨q,bt,R,a0,ba,bn,bm⟩:=Ms (by omega) bz c5 aT.out bM.out HB.out;have bb:((V.drop i).take (f+1)).length=mm+3:=by simp;have:=a2.out;omega
   have bW:W.bnd 18446744073709551616 ((V.drop i).take (f+1)):=W.bnd_take (W.bnd_drop bz _) _;have bu:=hz.arr.part (o:=i) (n:=f+1) (c:=n+1-i) (by omega) (by omega) (by unfold maxLen;omega);have aN:=fun(C:World) (bF:Qt wr C)=>Nn (w:=C) (n:=f) (m:=mm) (q:=q) (bu.ext bF.ext) ((hd.ext hE).ext bF.ext) bW Z.out.bnd a2.out (by omega) bN.out rfl rfl (OY bb) (Hl (by rw[hd.len];exact a2.out)) (Ck bW (by omega)) (Ck Z.out.bnd (by rw[hd.len];have:=a2.out;omega)) (by rw[Z.out.val];exact R) (by rw[Z.out.val];exact a0) bt
   have bJ:∀ C:World,(Instr.sliceAt 81 (.slice (some ⟨r.heap.size,0,none⟩) (n+1) (n+1)) (some (.int .i64 i)) (some (.int .i64 ((i:Int)+f+1))) none).run prog C = .ok (.slice (some ⟨r.heap.size,i,none⟩) (f+1) (n+1-i)) C:=fun C=>by
    have:=CH (P:=prog) (w:=C) (g:=r.heap.size) (n:=n+1) (c:=n+1) (lo:=i) (hi:=i+f+1) underlying81 AK (by omega) (by omega) (by omega);rw[show i+f+1-i=f+1 by omega,iy,iy]at this;exact this
   have bK:∀ C:World,(Instr.sliceAt 81 (.slice (some ⟨r.heap.size,0,none⟩) (n+1) (n+1)) (some (.int .i64 i)) (some (.int .i64 ((i:Int)+f))) none).run prog C = .ok (.slice (some ⟨r.heap.size,i,none⟩) f (n+1-i)) C:=fun C=>by
    have:=CH (P:=prog) (w:=C) (g:=r.heap.size) (n:=n+1) (c:=n+1) (lo:=i) (hi:=i+f) underlying81 AK (by omega) (by omega) (by omega);rw[lM,iy]at this;exact this
   have cL:IntKind.i64.wrap ((i:Int)+f)=(i:Int)+f:=gI _ (by omega);have cq:IntKind.i64.wrap ((i:Int)+f+1)=(i:Int)+f+1:=gI _ (by omega);have cH:((i:Int)+f).toNat=i+f:=by omega
   have ai:=gE ba;have aW:=gE bn;have aX:=gE R;have aY:=gE a0;have bS:=gE bm;clear ba bn R a0 bm bu bW bb
   go_wp2_with fail
   refine(aN wr (Qt.refl _)).mono ?_;rintro e w7 ⟨g,rfl,c4,cm,bk,ay⟩;have bG:=hz.ext ay.ext;have bs:=hq.ext ay.ext;have aq:=hE.trans ay.ext;have bv:=Gi (w:=w7) (o:=i) (c':=n+1-i) (wd:=g) bG (hd.ext aq) (Or.inr (hd.fresh (lrf _) (by omega))) (by omega) bz Z.out.bnd bk
   go_wp2_with fail
   refine bv.mono ?_;rintro e w8 ⟨cy,G,rfl,cu,aC,L,al,aD,bl⟩;clear aN bv bJ bK;have S:=bs.kept aC (by simp;omega);have ar:=aq.grownR aC (lrf _);have bZ:=L.cell (i:=i+f) (by omega);have c0:=L.frozen (i+f);have a6:G.getD (i+f) 0<18446744073709551616:=W.bnd_at al (by rw[L.len];omega);rw[Z.out.val]at aD;have ah:=gE aD;have bR:=gE bl;have Y:Hid (∀ v,W.val 18446744073709551616 (G.set (i+f) v)+18446744073709551616^(i+f)*G.getD (i+f) 0=W.val 18446744073709551616 G+18446744073709551616^(i+f)*v):=by
    show ∀ v,_;intro v;exact W.val_set (by rw[L.len];omega)
   clear aD bl bG bs aC hz hq;have bX:Hid (∀ j,i+f+1<=j->V.getD j 0=0):=by
    show ∀ j,i+f+1<=j->V.getD j 0=0;exact fun j hj=>Fl (by omega) bS.out (by omega)
   by_cases aL:cy<=G.getD (i+f) 0
   · obtain⟨v,hv⟩:∃ v,v+cy=G.getD (i+f) 0:=⟨G.getD (i+f) 0-cy,by omega⟩;have hR:=Uu (Y.out v) ah.out hv;obtain⟨e1,e2⟩:=Mq ai.out aW.out hR aY.out c4;subst e1;have ae:=gE (Ry (qs:=qs) (i:=i) (q:=g) (by rw[S.len];omega) (HJ.out i (by omega)) rfl HV.out hR);have ad:=gE (JB (q:=g) HJ.out);have bO:=gE e2;have cf:IntKind.u64.wrap (((G.getD (i+f) 0:Nat):Int)-cy)=(v:Int):=Au (by omega) (by omega);have cD:(cy:Int)<=((G.getD (i+f) 0:Nat):Int):=by omega
     have am:=S.cell (i:=i) (by omega);have bY:=S.frozen i;rw[HJ.out i (by omega)]at am;have U:=L.set (i+f) v;have T:=(S.kept (Ar w8 r.heap.size (i+f) (.int .u64 (v:Int))) (by simp;omega)).set i g;have ac:=U.kept (Ar (w8.setCell ⟨r.heap.size,i+f,none⟩ (.int .u64 (v:Int))) N.heap.size i (.int .u64 (g:Int))) (by simp;omega);have E:=(ar.setCell (p:=⟨r.heap.size,i+f,none⟩) (lrf _) (.int .u64 (v:Int))).setCell (p:=⟨N.heap.size,i,none⟩) (by show r.heap.size<=N.heap.size;omega) (.int .u64 (g:Int))
     have O:=W.bnd_set (i:=i+f) al (show v<18446744073709551616 by omega);have ak:=W.bnd_set (i:=i) bq bk;clear hR e2 hv aL;generalize G.getD (i+f) 0=t at *
     go_wp2;go_roundw
     case rel=>exact⟨i,G.set (i+f) v,qs.set i g,by go_num,by omega,E,ac,T,O,ak,ae,ad,bO⟩
     case measure=>simp[intOf]
   · obtain⟨v,hv⟩:∃ v,v+cy=G.getD (i+f) 0+18446744073709551616:=⟨G.getD (i+f) 0+18446744073709551616-cy,by omega⟩;have cb:v<18446744073709551616:=by omega
     have hR:=Mt (B:=18446744073709551616) (Y.out v) ah.out hv;have aB:=Mu (v:=v) bR.out bX.out;have O:=W.bnd_set (i:=i+f) al cb;have U:=L.set (i+f) v;have a8:W.val 18446744073709551616 (G.set (i+f) v)<18446744073709551616^(i+f+1):=Hk (by rw[U.len];omega) O aB;rw[<-ip]at hR;have cn:q<g:=O1 ai.out hR a8 aX.out;obtain⟨Q,rfl⟩:∃ Q,g=Q+1:=⟨g-1,by omega⟩;have c3:Q=q:=by omega
     subst c3;have HR:=gE hR;have aF:=gE a8;have aS:=gE aB;have cf:IntKind.u64.wrap (((G.getD (i+f) 0:Nat):Int)-cy)=(v:Int):=by
      rw[jU];omega
     have cE:((G.getD (i+f) 0:Nat):Int)<(cy:Int):=by omega
     have cJ:IntKind.u64.wrap ((Q:Int)+1-1)=(Q:Int):=Au (by omega) (by omega);have cp:IntKind.u64.wrap (Q:Int)=(Q:Int):=Au (by omega) (by omega);have E:=ar.setCell (p:=⟨r.heap.size,i+f,none⟩) (lrf _) (.int .u64 (v:Int));have T:=S.kept (Ar w8 r.heap.size (i+f) (.int .u64 (v:Int))) (by simp;omega);clear hR a8 aB hv aL ah Y L S ar;generalize G.getD (i+f) 0=t at *
     obtain⟨I,aR⟩:∃ I,G.set (i+f) v=I:=⟨_,rfl⟩;rw[aR]at HR aF aS O U;clear aR;go_wp2;generalize w8.setCell ⟨r.heap.size,i+f,none⟩ (.int .u64 (v:Int))=w9 at *
     go_loopw[17,115] (fun cv iv C=>∃ (k H:Nat) (F:List Nat),cv = .int .u64 H/\iv = .int .i64 k/\k<=f/\H<=1/\Ext r C/\Az .u64 C r.heap.size 238 r.heap.size (n+1) (n+1) F/\Az .u64 C N.heap.size 238 N.heap.size (nq+1) (nq+1) qs/\W.bnd 18446744073709551616 F/\Hid (W.val 18446744073709551616 F+H*18446744073709551616^(i+k)=W.val 18446744073709551616 I+1*W.val 18446744073709551616 (J.take k)*18446744073709551616^i)/\Hid (∀ j,i+f<=j->F.getD j 0=I.getD j 0)) (fun _ iv _=>f-(intOf iv).toNat)
     case atStart=>exact⟨0,0,I,rfl,rfl,gO _,by omega,E,U,T,O,gE (by simp[W.val]),gE (fun _ _=>rfl)⟩
     case round =>
      clear U T O E aq hE;obtain⟨k,H,F,rfl,rfl,cC,c2,av,A,a1,a3,HL,aV⟩:=hrel;by_cases a5:k<f
      · obtain⟨b7,o7,rfl,be⟩:=(hd.ext av).at (j:=k) a5;have g1:=be k a5;have cs:=A.cell (i:=i+k) (by omega);have g3:=A.frozen (i+k);have cM:=W.bnd_at a3 (i:=i+k) (by rw[A.len];omega);have cN:=W.bnd_at Z.out.bnd (i:=k) (by rw[hd.len];exact a5);have HS:=gE (Mj (B:=18446744073709551616) (l:=F) (xs:=J) (k:=k) (o:=i) (w:=1) (s:=(F.getD (i+k) 0+J.getD k 0+H)%18446744073709551616) (c':=(F.getD (i+k) 0+J.getD k 0+H)/18446744073709551616) (by rw[A.len];omega) (by rw[hd.len];exact a5) HL.out (by rw[km];exact kH _ _))
        have cl:=Cz (F.getD (i+k) 0) (J.getD k 0) H c2;have bQ:Hid (∀ s j,i+f<=j->(F.set (i+k) s).getD j 0=I.getD j 0):=by
         show ∀ s j,i+f<=j->(F.set (i+k) s).getD j 0=I.getD j 0;intro s j hj;have h1:=aV.out j hj;have h2:¬ i+k=j:=by omega
         rw[<-h1];simp[h2]
        have cA:((i:Int)+k).toNat=i+k:=by omega
        have cr:IntKind.i64.wrap ((i:Int)+k)=(i:Int)+k:=gI _ (by omega);generalize F.getD (i+k) 0=u at *
        generalize J.getD k 0=dv at *
        have ca:(u+dv+H)%18446744073709551616<18446744073709551616:=io _ (by omega);have a4:(u+dv+H)/18446744073709551616<=1:=by omega
        generalize (u+dv+H)%18446744073709551616=s1 at *
        generalize (u+dv+H)/18446744073709551616=c1 at *
        have c8:=a1.kept (Ar wr r.heap.size (i+k) (.int .u64 (s1:Int))) (by simp;omega);clear be;go_wp2;go_roundw
        case rel=>exact⟨k+1,c1,F.set (i+k) s1,rfl,by go_num,by omega,a4,av.setCell (lrf _) _,A.set (i+k) s1,c8,W.bnd_set a3 ca,HS,gE (bQ.out s1)⟩
        case measure=>simp[intOf];omega
      · have ek:k=f:=by omega
        have aU:Hid (W.val 18446744073709551616 F+H*18446744073709551616^(i+f)=W.val 18446744073709551616 I+1*D*18446744073709551616^i):=by
         show _=_;have h1:=HL.out;rw[ek,gG (by rw[hd.len];exact lrf _),Z.out.val]at h1;exact h1
        have bZ:=A.cell (i:=i+f) (by omega);have c0:=A.frozen (i+f);have cI:=W.bnd_at a3 (i:=i+f) (by rw[A.len];omega);have b0:=gE (fun z=>W.val_set (B:=18446744073709551616) (xs:=F) (i:=i+f) (v:=z) (by rw[A.len];omega));have aH:=fun z=>Mu (v:=z) aV.out aS.out;generalize F.getD (i+f) 0=u at *
        obtain⟨z,a7⟩:∃ z,(u+H)%18446744073709551616=z:=⟨_,rfl⟩;have ci:z<18446744073709551616:=by rw[<-a7];exact io _ (by omega)
        have h3:z+18446744073709551616*((u+H)/18446744073709551616)=u+H:=by rw[<-a7];exact kH _ _
        have hT:=O2 (B:=18446744073709551616) (b0.out z) aU.out h3;rw[<-ip]at hT;have aG:=W.bnd_set (i:=i+f) a3 ci;have aQ:=A.set (i+f) z;have aO:W.val 18446744073709551616 (F.set (i+f) z)<18446744073709551616^(i+f+1):=Hk (by rw[aQ.len];omega) aG (aH z);have b4:D*18446744073709551616^i<18446744073709551616^(i+f+1):=by
         have h4:D*18446744073709551616^i<18446744073709551616^f*18446744073709551616^i:=jt aT.out (kG (by omega));rw[<-jQ]at h4;exact ib h4 (ic (by omega) (by omega))
        obtain⟨_,f2,f3⟩:=OZ ai.out aW.out HR.out aF.out aX.out aY.out (lrf _) hT aO b4;have ae:=gE (Ry (qs:=qs) (i:=i) (q:=Q) (by rw[a1.len];omega) (HJ.out i (by omega)) rfl HV.out f2);have ad:=gE (JB (q:=Q) HJ.out);have bP:=gE f3;have cK:IntKind.u64.wrap ((u:Int)+(H:Int))=(z:Int):=by
         have:=Hi (x:=u+H) (M:=z) a7;rw[iy]at this;exact this
        have am:=a1.cell (i:=i) (by omega);have bY:=a1.frozen i;rw[HJ.out i (by omega)]at am;have T:=(a1.kept (Ar wr r.heap.size (i+f) (.int .u64 (z:Int))) (by simp;omega)).set i Q;have ac:=aQ.kept (Ar (wr.setCell ⟨r.heap.size,i+f,none⟩ (.int .u64 (z:Int))) N.heap.size i (.int .u64 (Q:Int))) (by simp;omega);have E:=(av.setCell (p:=⟨r.heap.size,i+f,none⟩) (lrf _) (.int .u64 (z:Int))).setCell (p:=⟨N.heap.size,i,none⟩) (by show r.heap.size<=N.heap.size;omega) (.int .u64 (Q:Int));have ak:=W.bnd_set (i:=i) bq bt
        clear hT aO b4 f2 f3 h3 a7 b0 aH HL aU;go_wp2;go_roundw
        case rel=>exact⟨i,F.set (i+f) z,qs.set i Q,by go_num,by omega,E,ac,T,aG,ak,ae,ad,bP⟩
        case measure=>simp[intOf]
end Go.Proofs.YtlbmnokpiilfpaaGreatDoor
namespace Go.Proofs.YtlbmnokpiilfpaaGreatDoor.W
variable {odd:Bool} {B D M P X Y a b c1 c2 k p s u1 u2 v1 v2 x y:Nat}
theorem gcd_two_right(a:x%2=1):Nat.gcd x (2^k*y)=Nat.gcd x y:=by
 have h2:Nat.Coprime x 2:=by
  rw[Nat.coprime_comm];rw[Nat.coprime_iff_gcd_eq_one];rw[nO,a];rfl
 have h:Nat.Coprime x (2^k):=Nat.Coprime.pow_right k h2;exact Nat.Coprime.gcd_mul_left_cancel_right y h.symm
theorem No(a:y%2=1):Nat.gcd (2^k*x) y=Nat.gcd x y:=by
 rw[kw,gcd_two_right a,kw]
theorem Uv:2^k∣(x ||| y)<->2^k∣x/\2^k∣y:=by
 simp only[Nat.dvd_iff_mod_eq_zero];rw[Nat.or_mod_two_pow];exact Nat.or_eq_zero_iff
theorem gcd_split{f m:Nat}(i:X=2^a*f)(t:f%2=1)(d:X ||| Y=2^s*(2*m+1)):Nat.gcd X Y=2^s*Nat.gcd f Y:=by
 have h1:=(Uv (x:=X) (y:=Y) (k:=s)).1 ⟨2*m+1,d⟩;obtain⟨⟨g,b⟩,⟨o,c⟩⟩:=h1;have h2:¬ 2^(s+1)∣(X ||| Y):=by
  rintro⟨q,e⟩;rw[d,ip,kB]at e;have:=nE (iC s) e;omega
 have r:s<=a:=by
  refine ia fun p => ?_;have h3:2^(a+1)∣X:=lL (Nat.pow_dvd_pow 2 (by omega:a+1<=s)) ⟨g,b⟩;obtain⟨q,e⟩:=h3;rw[i,ip,kB]at e;have:=nE (iC a) e;omega
 have n:g=2^(a-s)*f:=by
  have:2^s*g=2^s*(2^(a-s)*f):=by
   rw[<-b,i,<-kB,<-jQ];congr 2;omega
  exact nE (iC s) this
 rw[b,c,Nat.gcd_mul_left,gcd_two_right t];congr 1;by_cases l:a=s
 · subst l;rw[n,ju,kn,jZ]
 · have j:o % 2=1:=by
    refine ia fun p=>h2 (Uv.2 ⟨?_,?_⟩)
    · rw[i];exact lL (Nat.pow_dvd_pow 2 (by omega)) (Nat.dvd_mul_right _ _)
    · rw[c,ip];exact Nat.mul_dvd_mul_left _ (by omega)
   rw[n];exact No j
theorem gcd_swap(h:x<=y):Nat.gcd x (y-x)=Nat.gcd x y:=by
 rw[Nat.gcd_sub_self_right h]
structure Steps(a b u0 u1 v0 v1:Nat)(odd:Bool)(p q:Nat):Prop where
 ep:if odd=true then p+v0*b=u0*a else p+u0*a=v0*b
 eq:if odd=true then q+u1*a=v1*b else q+v1*b=u1*a
 gcd:Nat.gcd p q=Nat.gcd a b
 lt:q<p
 le:p<=b
theorem O3{q:Nat}(h1:v2*p+v1*q=a)(h2:u2*p+u1*q=b)(s:Int)(hp:(p:Int)=s*(u1*a-v1*b))(e:(q:Int) = -(s*(u2*a-v2*b))):Nat.gcd p q=Nat.gcd a b:=by
 apply Nat.dvd_antisymm
 · apply Nat.dvd_gcd
   · rw[<-h1];exact Nat.dvd_add (lL (kL p q) (ll _ _)) (lL (kF p q) (ll _ _))
   · rw[<-h2];exact Nat.dvd_add (lL (kL p q) (ll _ _)) (lL (kF p q) (ll _ _))
 · have c:((Nat.gcd a b:Nat):Int)∣(a:Int):=mG.2 (kL a b);have d:((Nat.gcd a b:Nat):Int)∣(b:Int):=mG.2 (kF a b);apply Nat.dvd_gcd
   · apply mG.1;rw[hp];exact mW (Int.dvd_sub (mW c (mn _ _)) (mW d (mn _ _))) (mn _ _)
   · apply mG.1;rw[e];exact Int.dvd_neg.2 (mW (Int.dvd_sub (mW c (mn _ _)) (mW d (mn _ _))) (mn _ _))
theorem Leh.good{A o P r t f g s:Int}(h:Leh a b A o P r t f g u1 u2 v1 v2 s)(k:(v2:Int)<=g)(l:(v1:Int)+v2<=f-g)(hu:(u1:Int)<=v1\/((u1:Int)=1/\(v1:Int)=0/\(u2:Int)=0/\s=1))(c:(u1:Int)*v2-u2*v1=s)(m:1<=u2) :
 ∃ p q,Steps a b u1 u2 v1 v2 (decide (s=1)) p q:=by
 have h1:=h.sec k;have h2:=h.gap l hu;have n:=h.sg;obtain⟨q,d⟩:=Int.eq_ofNat_of_zero_le h1;obtain⟨p,hp⟩:=Int.eq_ofNat_of_zero_le (oM h1 (mz h2));have e:s*s=1:=by rcases n with rfl | rfl <;> rfl
 have v:((v2*p+v1*q:Nat):Int)=(a:Int):=by
  rw[iy,ir,ir,<-hp,<-d];have:(v2:Int)*(s*(u1*a-v1*b))+v1 * -(s*(u2*a-v2*b))=s*(u1*v2-u2*v1)*a:=by grind
  rw[this,c,e,Int.one_mul]
 have w:((u2*p+u1*q:Nat):Int)=(b:Int):=by
  rw[iy,ir,ir,<-hp,<-d];have:(u2:Int)*(s*(u1*a-v1*b))+u1 * -(s*(u2*a-v2*b))=s*(u1*v2-u2*v1)*b:=by grind
  rw[this,c,e,Int.one_mul]
 have i:v2*p+v1*q=a:=by omega
 have j:u2*p+u1*q=b:=by omega
 refine⟨p,q,?_,?_,O3 i j s hp.symm d.symm,by omega,?_⟩
 · rcases n with rfl|rfl
   · simp only[nL,li];have:((p+v1*b:Nat):Int)=((u1*a:Nat):Int):=by
      rw[iy,ir,ir,<-hp];omega
     omega
   · rw[gT (by simp)];have:((p+u1*a:Nat):Int)=((v1*b:Nat):Int):=by
      rw[iy,ir,ir,<-hp];omega
     omega
 · rcases n with rfl|rfl
   · simp only[nL,li];have:((q+u2*a:Nat):Int)=((v2*b:Nat):Int):=by
      rw[iy,ir,ir,<-d];omega
     omega
   · rw[gT (by simp)];have:((q+v2*b:Nat):Int)=((u2*a:Nat):Int):=by
      rw[iy,ir,ir,<-d];omega
     omega
 · have h3:1*p<=u2*p:=gH _ m;omega
theorem head_of{t1 t0 lo r:Nat}(c:B=2^s*r)(h0:0<r)(d:a=(t1*B+t0)*M+lo)(b:lo<M) :
 a/(M*r)=t1*2^s+t0/r:=by
 have h1:a/M=t1*B+t0:=by
  rw[d,gV,ld (by omega),jy b,iO]
 rw[<-kO,h1,c,show t1*(2^s*r)=r*(t1*2^s) by grind,ld h0]
theorem SM(d:0<P)(c:b<=a):Leh (a:Int) (b:Int) ((a/P:Nat):Int) ((b/P:Nat):Int) (P:Int) ((a%P:Nat):Int) ((b%P:Nat):Int) ((a/P:Nat):Int) ((b/P:Nat):Int) 1 0 0 1 1:=by
 have h1:=j6 a P;have h2:=j6 b P;have h3:=io a d;have h4:=io b d;have h5:b/P<=a/P:=Nat.div_le_div_right c;refine Leh.start ?_ ?_ (nA _) (Int.ofNat_lt.2 h3) (nA _) (Int.ofNat_lt.2 h4) (nA _) (Int.ofNat_le.2 h5)
 · rw[gV]at h1;rw[<-ir,<-iy];omega
 · rw[gV]at h2;rw[<-ir,<-iy];omega
structure Sim(a b A Bb P α β f g u0 u1 u2 v0 v1 v2:Nat)(odd:Bool):Prop where
 leh:Leh (a:Int) b A Bb P α β f g u1 u2 v1 v2 (if odd=true then -1 else 1)
 hu:(u1<=v1)\/(u1=1/\v1=0/\u2=0/\odd=false)
 det:(u1:Int)*v2-u2*v1=(if odd=true then -1 else 1)
 good:v0=0\/∃ p q,Steps a b u0 u1 v0 v1 odd p q
 u20:u2=0->v1=0
theorem Sim.start(d:0<P)(c:b<=a):Sim a b (a/P) (b/P) P (a%P) (b%P) (a/P) (b/P) 0 1 0 0 0 1 false :=
 ⟨SM d c,Or.inr ⟨rfl,rfl,rfl,rfl⟩,by simp,Or.inl rfl,fun _=>rfl⟩
theorem Sim.bound{A c j k f g u0 i:Nat}(h:Sim a b A c P j k f g u0 u1 u2 i v1 v2 odd)(d:1<=g):v1+v2<=A/\u1<=A+1/\u2<=A:=by
 have e:=h.leh.sv;have o:=h.leh.vv;have n:=h.leh.uv;have m:=h.leh.gf;have l:v2*f+v1*g=A:=by
  have:((v2*f+v1*g:Nat):Int)=(A:Int):=by rw[iy,ir,ir];exact e
  omega
 have h1:v2*1<=v2*f:=iB _ (by omega);have h2:v1*1<=v1*g:=iB _ d;rcases h.hu with hu|⟨rfl,rfl,rfl,_⟩ <;> omega
theorem Sim.step{a b A r P t v f g u0 u1 u2 B v1 v2:Nat}{c:Bool}(h:Sim a b A r P t v f g u0 u1 u2 B v1 v2 c)(J:v2<=g)(I:v1+v2<=f-g) :
 Sim a b A r P t v g (f%g) u1 u2 (u1+f/g*u2) v1 v2 (v1+f/g*v2) (!c)/\v1+f/g*v2<=A/\u1+f/g*u2<=A/\f%g<g:=by
 have C:=h.leh.v2p;have H:=h.leh.gf;have l:1<=g:=by omega
 obtain⟨D,E,F⟩:=h.bound l;have x:(f:Int)=((f/g:Nat):Int)*(g:Int)+((f%g:Nat):Int):=by
  have:=j6 f g;rw[gV]at this;rw[<-ir,<-iy];omega
 have z:=io f (show 0<g by omega);have y:1<=f/g:=(Nat.le_div_iff_mul_le (by omega)).2 (by omega);have n:(u1:Int)<=v1\/((u1:Int)=1/\(v1:Int)=0/\(u2:Int)=0/\(if c=true then -1 else 1:Int)=1):=by
  rcases h.hu with hu|⟨rfl,rfl,rfl,rfl⟩
  · left;omega
  · right;simp
 have d:=h.leh.step x (by omega) (by omega) (by omega) n;have i : -(if c=true then -1 else 1:Int)=(if(!c)=true then -1 else 1:Int):=by cases c <;> rfl
 rw[i]at d;have j:Leh (a:Int) b A r P t v g ((f%g:Nat):Int) u2 ((u1+f/g*u2:Nat):Int) v2 ((v1+f/g*v2:Nat):Int) (if(!c)=true then -1 else 1):=by
  rw[iy,iy,ir,ir];exact d
 have e:=j.sv;have L:=j.uv;have G:(v1+f/g*v2)*g+v2*(f%g)=A:=by
  have:(((v1+f/g*v2)*g+v2*(f%g):Nat):Int)=(A:Int):=by rw[iy,ir,ir];exact e
  omega
 have K:(v1+f/g*v2)*1<=(v1+f/g*v2)*g:=iB _ l;refine⟨⟨j,?_,?_,?_,?_⟩,by omega,by omega,z⟩
 · left;have:=h.leh.uv;omega
 · have w:=h.det;have:(u2:Int)*((v1+f/g*v2:Nat):Int)-((u1+f/g*u2:Nat):Int)*v2 = -((u1:Int)*v2-u2*v1):=by
    rw[iy,iy,ir,ir]
    grind
   rw[this,w,i]
 · by_cases h0:v1=0
   · exact Or.inl h0
   · right;have k:1<=u2:=by
      rcases gX u2 with h2|h2
      · exact absurd (h.u20 h2) h0
      · exact h2
     obtain⟨p,q,m⟩:=h.leh.good (by omega) (by omega) n h.det k;refine⟨p,q,?_⟩;have:decide ((if c=true then -1 else 1:Int)=1) = !c:=by cases c <;> rfl
     rw[this]at m;exact m
 · intro h0;have s:u1=0:=by omega
   have k:f/g*u2=0:=by omega
   have o:u2=0:=by
    rcases Nat.mul_eq_zero.1 k with h3|h3
    · omega
    · exact h3
   subst s;subst o;have:=h.det;cases c <;> simp at this
theorem comb_step{U V d c1' c2':Nat}(h:D+U+c1*M=V+c2*M)(e:d+x+c2+B*c1'=y+c1+B*c2') :
 D+M*d+(U+M*x)+c1'*(M*B)=V+M*y+c2'*(M*B):=by
 have a:M*(d+x+c2+B*c1')=M*(y+c1+B*c2'):=by rw[e]
 grind
theorem comb_end{T:Nat}(h:D+X+c1*T=Y+c2*T)(hp:p+X=Y)(b:D<T)(a:p<T):D=p:=by
 have h1:D+c1*T=p+c2*T:=by omega
 have h2:=iP (· % T) h1;simp only[Nat.add_mul_mod_self_right]at h2
 rwa[jG b,jG a]at h2
end Go.Proofs.YtlbmnokpiilfpaaGreatDoor.W
namespace Go.Proofs.YtlbmnokpiilfpaaGreatDoor
open Go.Shelf
def SN:Go.Shelf.Ren:=⟨fun | 29=>292 | n=>n,fun | 22=>238 | 3=>3 | 4=>4 | 25=>222 | 54=>330 | 0=>0 | 5=>5 | n=>n,fun | 1=>1 | n=>n⟩
theorem Yq:Go.Proofs.Lays7.n29 Tryz.prog SN:={
 mixed:=by kernel_rfl
 f29:=Tryz.func292.trans (iP some (by kernel_rfl))
 t0:=Tryz.underlying0
 a0:=Tryz.isAgg0
 z0:=Tryz.sizeOf0
 v0:=Tryz.zeroValue0
 i0:=by kernel_rfl
 t3:=Tryz.underlying3
 a3:=Tryz.isAgg3
 z3:=Tryz.sizeOf3
 v3:=Tryz.zeroValue3
 i3:=by kernel_rfl
 t4:=Tryz.underlying4
 a4:=Tryz.isAgg4
 z4:=Tryz.sizeOf4
 v4:=Tryz.zeroValue4
 i4:=by kernel_rfl
 t5:=Tryz.underlying5
 a5:=Tryz.isAgg5
 z5:=Tryz.sizeOf5
 v5:=Tryz.zeroValue5
 i5:=by kernel_rfl
 t22:=Tryz.underlying238
 a22:=Tryz.isAgg238
 z22:=Tryz.sizeOf238
 v22:=Tryz.zeroValue238
 i22:=by kernel_rfl
 t25:=Tryz.underlying222
 a25:=Tryz.isAgg222
 z25:=Tryz.sizeOf222
 v25:=Tryz.zeroValue222
 i25:=by kernel_rfl
 t54:=Tryz.underlying330
 a54:=Tryz.isAgg330
 z54:=Tryz.sizeOf330
 g1:=by kernel_rfl }
def O4:Go.Shelf.Ren:=⟨fun | 173=>181 | 246=>228 | 283=>269 | 284=>270 | 285=>271 | 286=>272 | 129=>253 | 317=>303 | 318=>304 | 319=>305 | 320=>306 | 337=>322 | 338=>292 | n=>n,fun | 2=>2 | 3=>3 | 9=>9 | 4=>4 | 171=>294 | 0=>0 | 53=>238 | 37=>228 | 5=>5 | 173=>296 | 212=>319 | 51=>241 | 20=>20 | 213=>320 | 46=>222 | 232=>338 | 233=>330 | n=>n,fun | 17=>0 | 18=>4 | 19=>1 | n=>n⟩
theorem V8:Go.Proofs.LaysM.n173 Tryz.prog O4:={
 mixed:=by kernel_rfl
 f129:=Tryz.func253.trans (iP some (by kernel_rfl))
 f173:=Tryz.func181.trans (iP some (by kernel_rfl))
 f246:=Tryz.func228.trans (iP some (by kernel_rfl))
 f283:=Tryz.func269.trans (iP some (by kernel_rfl))
 f284:=Tryz.func270.trans (iP some (by kernel_rfl))
 f285:=Tryz.func271.trans (iP some (by kernel_rfl))
 f286:=Tryz.func272.trans (iP some (by kernel_rfl))
 f317:=Tryz.func303.trans (iP some (by kernel_rfl))
 f318:=Tryz.func304.trans (iP some (by kernel_rfl))
 f319:=Tryz.func305.trans (iP some (by kernel_rfl))
 f320:=Tryz.func306.trans (iP some (by kernel_rfl))
 f337:=Tryz.func322.trans (iP some (by kernel_rfl))
 f338:=Tryz.func292.trans (iP some (by kernel_rfl))
 t0:=Tryz.underlying0
 a0:=Tryz.isAgg0
 z0:=Tryz.sizeOf0
 v0:=Tryz.zeroValue0
 t2:=Tryz.underlying2
 a2:=Tryz.isAgg2
 z2:=Tryz.sizeOf2
 v2:=Tryz.zeroValue2
 t3:=Tryz.underlying3
 a3:=Tryz.isAgg3
 z3:=Tryz.sizeOf3
 v3:=Tryz.zeroValue3
 t4:=Tryz.underlying4
 a4:=Tryz.isAgg4
 z4:=Tryz.sizeOf4
 v4:=Tryz.zeroValue4
 t5:=Tryz.underlying5
 a5:=Tryz.isAgg5
 z5:=Tryz.sizeOf5
 v5:=Tryz.zeroValue5
 t9:=Tryz.underlying9
 a9:=Tryz.isAgg9
 z9:=Tryz.sizeOf9
 v9:=Tryz.zeroValue9
 t20:=Tryz.underlying20
 a20:=Tryz.isAgg20
 z20:=Tryz.sizeOf20
 v20:=Tryz.zeroValue20
 t37:=Tryz.underlying228
 a37:=Tryz.isAgg228
 z37:=Tryz.sizeOf228
 v37:=Tryz.zeroValue228
 t46:=Tryz.underlying222
 a46:=Tryz.isAgg222
 z46:=Tryz.sizeOf222
 v46:=Tryz.zeroValue222
 t51:=Tryz.underlying241
 a51:=Tryz.isAgg241
 z51:=Tryz.sizeOf241
 v51:=Tryz.zeroValue241
 t53:=Tryz.underlying238
 a53:=Tryz.isAgg238
 z53:=Tryz.sizeOf238
 v53:=Tryz.zeroValue238
 t171:=Tryz.underlying294
 a171:=Tryz.isAgg294
 z171:=Tryz.sizeOf294
 v171:=Tryz.zeroValue294
 t173:=Tryz.underlying296
 a173:=Tryz.isAgg296
 z173:=Tryz.sizeOf296
 v173:=Tryz.zeroValue296
 t212:=Tryz.underlying319
 a212:=Tryz.isAgg319
 z212:=Tryz.sizeOf319
 v212:=Tryz.zeroValue319
 t213:=Tryz.underlying320
 a213:=Tryz.isAgg320
 z213:=Tryz.sizeOf320
 t232:=Tryz.underlying338
 a232:=Tryz.isAgg338
 z232:=Tryz.sizeOf338
 v232:=Tryz.zeroValue338
 t233:=Tryz.underlying330
 a233:=Tryz.isAgg330
 z233:=Tryz.sizeOf330
 v233:=Tryz.zeroValue330
 g17:=by kernel_rfl
 g18:=by kernel_rfl
 g19:=by kernel_rfl
 i0:=by kernel_rfl
 i2:=by kernel_rfl
 i3:=by kernel_rfl
 i4:=by kernel_rfl
 i5:=by kernel_rfl
 i9:=by kernel_rfl
 i20:=by kernel_rfl
 i37:=by kernel_rfl
 i46:=by kernel_rfl
 i51:=by kernel_rfl
 i53:=by kernel_rfl
 i171:=by kernel_rfl
 i173:=by kernel_rfl
 i212:=by kernel_rfl
 i232:=by kernel_rfl
 i233:=by kernel_rfl
 m17:=by kernel_rfl
 m18:=by kernel_rfl
 m19:=by kernel_rfl }
def SO:Go.Shelf.Ren:=⟨fun | 288=>302 | 283=>269 | 284=>270 | 285=>271 | 286=>272 | 129=>253 | 317=>303 | 318=>304 | 319=>305 | 320=>306 | 337=>322 | 338=>292 | n=>n,fun | 37=>228 | 53=>238 | 3=>3 | 4=>4 | 9=>9 | 171=>294 | 0=>0 | 173=>296 | 212=>319 | 51=>241 | 5=>5 | 20=>20 | 213=>320 | 46=>222 | 232=>338 | 233=>330 | n=>n,fun | 17=>0 | 18=>4 | 19=>1 | n=>n⟩
theorem Rz:Go.Proofs.LaysM.n288 Tryz.prog SO:={
 mixed:=by kernel_rfl
 f129:=Tryz.func253.trans (iP some (by kernel_rfl))
 f283:=Tryz.func269.trans (iP some (by kernel_rfl))
 f284:=Tryz.func270.trans (iP some (by kernel_rfl))
 f285:=Tryz.func271.trans (iP some (by kernel_rfl))
 f286:=Tryz.func272.trans (iP some (by kernel_rfl))
 f288:=Tryz.func302.trans (iP some (by kernel_rfl))
 f317:=Tryz.func303.trans (iP some (by kernel_rfl))
 f318:=Tryz.func304.trans (iP some (by kernel_rfl))
 f319:=Tryz.func305.trans (iP some (by kernel_rfl))
 f320:=Tryz.func306.trans (iP some (by kernel_rfl))
 f337:=Tryz.func322.trans (iP some (by kernel_rfl))
 f338:=Tryz.func292.trans (iP some (by kernel_rfl))
 t0:=Tryz.underlying0
 a0:=Tryz.isAgg0
 z0:=Tryz.sizeOf0
 v0:=Tryz.zeroValue0
 t3:=Tryz.underlying3
 a3:=Tryz.isAgg3
 z3:=Tryz.sizeOf3
 v3:=Tryz.zeroValue3
 t4:=Tryz.underlying4
 a4:=Tryz.isAgg4
 z4:=Tryz.sizeOf4
 v4:=Tryz.zeroValue4
 t5:=Tryz.underlying5
 a5:=Tryz.isAgg5
 z5:=Tryz.sizeOf5
 v5:=Tryz.zeroValue5
 t9:=Tryz.underlying9
 a9:=Tryz.isAgg9
 z9:=Tryz.sizeOf9
 v9:=Tryz.zeroValue9
 t20:=Tryz.underlying20
 a20:=Tryz.isAgg20
 z20:=Tryz.sizeOf20
 v20:=Tryz.zeroValue20
 t37:=Tryz.underlying228
 a37:=Tryz.isAgg228
 z37:=Tryz.sizeOf228
 v37:=Tryz.zeroValue228
 t46:=Tryz.underlying222
 a46:=Tryz.isAgg222
 z46:=Tryz.sizeOf222
 v46:=Tryz.zeroValue222
 t51:=Tryz.underlying241
 a51:=Tryz.isAgg241
 z51:=Tryz.sizeOf241
 v51:=Tryz.zeroValue241
 t53:=Tryz.underlying238
 a53:=Tryz.isAgg238
 z53:=Tryz.sizeOf238
 v53:=Tryz.zeroValue238
 t171:=Tryz.underlying294
 a171:=Tryz.isAgg294
 z171:=Tryz.sizeOf294
 v171:=Tryz.zeroValue294
 t173:=Tryz.underlying296
 a173:=Tryz.isAgg296
 z173:=Tryz.sizeOf296
 v173:=Tryz.zeroValue296
 t212:=Tryz.underlying319
 a212:=Tryz.isAgg319
 z212:=Tryz.sizeOf319
 v212:=Tryz.zeroValue319
 t213:=Tryz.underlying320
 a213:=Tryz.isAgg320
 z213:=Tryz.sizeOf320
 t232:=Tryz.underlying338
 a232:=Tryz.isAgg338
 z232:=Tryz.sizeOf338
 v232:=Tryz.zeroValue338
 t233:=Tryz.underlying330
 a233:=Tryz.isAgg330
 z233:=Tryz.sizeOf330
 v233:=Tryz.zeroValue330
 g17:=by kernel_rfl
 g18:=by kernel_rfl
 g19:=by kernel_rfl
 i0:=by kernel_rfl
 i3:=by kernel_rfl
 i4:=by kernel_rfl
 i5:=by kernel_rfl
 i9:=by kernel_rfl
 i20:=by kernel_rfl
 i37:=by kernel_rfl
 i46:=by kernel_rfl
 i51:=by kernel_rfl
 i53:=by kernel_rfl
 i171:=by kernel_rfl
 i173:=by kernel_rfl
 i212:=by kernel_rfl
 i232:=by kernel_rfl
 i233:=by kernel_rfl
 m17:=by kernel_rfl
 m18:=by kernel_rfl
 m19:=by kernel_rfl }
end Go.Proofs.YtlbmnokpiilfpaaGreatDoor
namespace Go.Proofs.YtlbmnokpiilfpaaGreatDoor
open Tryz Go Go.RowKit
variable {cs cs' cs'' cs3:Array Value} {g x y:Nat} {t t' t'' t3 ty ty':TypeId} {w w':World}
structure AM(w:World):Prop where
 tz:TabAt 1 Lib.deBruijn64tab w
 ten:Lib.TabIs prog w "internal/strconv.uint64pow10" .u64 Lib.pow10Tab
theorem AM.ext(h:AM w)(e:Ext w w'):AM w' :=
 ⟨fun j a=>e.cell (h.tz j a),Lib.tabBelow_of_tabIs h.ten w' e⟩
theorem Qo(h0:0<x)(a:x<18446744073709551616):∃ k m,k<64/\x=2^k*(2*m+1)/\∀ w,AM w->Calls prog 292 #[.int .u64 x] w fun e b=>e = .returned (.int .i64 (k:Nat))/\w=b:=by
 obtain⟨m,h1,h2⟩:=Lib.ctzFrom_spec 64 x h0 a;have h3:Lib.ctz 64 x=Lib.ctzFrom 64 x:=by unfold Lib.ctz;rw[gT (by omega)]
 refine⟨_,m,h2,h1,fun w c => ?_⟩;refine(Any7.bits_TrailingZeros64 Yq x a w (fun _=>c.tz)).mono ?_;rintro e b ⟨rfl,rfl⟩;rw[h3];exact⟨rfl,rfl⟩
theorem RA{k m:Nat}(h:x=2^k*(2*m+1)):x/2^k=2*m+1:=by
 rw[h,mC _ (iC k)]
theorem IV(I:AM w)(P:x<18446744073709551616)(R:y<18446744073709551616) :
 Calls prog 242 #[.int .u64 x,.int .u64 y] w fun e w'=>e = .returned (.int .u64 (Nat.gcd x y:Nat))/\w=w':=by
 have c:=nG x y P R;by_cases h0:x=0
 · subst h0;have A:bits BinOp.or IntKind.u64 0 (y:Int)=(y:Int):=by
    rw[Nat.zero_or]at c;exact c
   rw[Nat.gcd_zero_left];clear c
   go_enter func242,ntmps242
   go_wp2;go_ret;exact⟨rfl,rfl⟩
 by_cases h1:y=0
 · subst h1;have A:bits BinOp.or IntKind.u64 (x:Int) 0=(x:Int):=by
    rw[Nat.or_zero]at c;exact c
   rw[lU];have Y:((x:Int) == 0)=false:=by simpa using h0
   clear c
   go_enter func242,ntmps242
   go_wp2;go_ret;exact⟨rfl,rfl⟩
 have Y:((x:Int) == 0)=false:=by simpa using h0
 have L:((y:Int) == 0)=false:=by simpa using h1
 have z:x ||| y<18446744073709551616:=Nm P R
 have v:0<x ||| y:=by
  rcases gX (x ||| y)with h|h
  · exact absurd (Nat.or_eq_zero_iff.1 h).1 h0
  · exact h
 obtain⟨s,m,hs,C,n⟩:=Qo v z;obtain⟨a,d,Z,i,r⟩:=Qo (x:=x) (by omega) P;have E:Hid (Nat.gcd x y=2^s*Nat.gcd (2*d+1) y):=gE (W.gcd_split i (by omega) C);have Q:(x:Int)/2^a=((2*d+1:Nat):Int):=by
  have:=RA i;rw[<-this];push_cast;rfl
 have D:2*d+1<18446744073709551616:=by
  have:1*(2*d+1)<=2^a*(2*d+1):=gH _ (iC a);omega
 clear C i;generalize x ||| y=o at *
 go_enter func242,ntmps242
 go_wp2_with fail
 refine(n _ I).mono ?_;rintro e S ⟨rfl,rfl⟩
 go_wp2_with fail
 refine(r _ I).mono ?_;rintro e S ⟨rfl,rfl⟩;go_wp2;have M:Hid (Nat.gcd (2*d+1) y=Nat.gcd (2*d+1) y):=gE rfl;obtain⟨G,H⟩:∃ G,Nat.gcd (2*d+1) y=G:=⟨_,rfl⟩;have j:=gE H;have K:2^s*G<18446744073709551616:=by
  rw[<-H,<-E.out];have:=lK (by omega) (kL x y);omega
 rw[H]at E;clear M H n r Q c
 go_loop[0,1] (fun T U=>∃ p q:Nat,T = .int .u64 (2*(p:Int)+1)/\U = .int .u64 q/\2*p+1<18446744073709551616/\q<18446744073709551616/\Hid (Nat.gcd (2*p+1) q=G)) (fun T U=>(intOf T+intOf U).toNat)
 case atStart=>exact⟨d,y,rfl,rfl,D,R,j⟩
 case round =>
  clear j D Y L h0 h1 z v Z;obtain⟨p,q,rfl,rfl,hp,hq,F⟩:=hrel;by_cases B:q=0
  · subst B;have V:Hid (2*p+1=G):=by show _=_;have:=F.out;rw[lU]at this;exact this
    have O:IntKind.u64.wrap ((2*(p:Int)+1)*2^s)=((Nat.gcd x y:Nat):Int):=by
     have h1:(2*(p:Int)+1)*2^s=((2^s*G:Nat):Int):=by
      rw[<-V.out];push_cast;exact Int.mul_comm _ _
     rw[h1,E.out];exact Au rfl K
    obtain⟨X,f⟩:∃ X,Nat.gcd x y=X:=⟨_,rfl⟩;rw[f]at O;have J:=gE f;clear F V E f;go_wp2;go_ret;exact⟨by rw[J.out];rfl,rfl⟩
  · obtain⟨k,b,hk,g,t⟩:=Qo (x:=q) (by omega) hq;have a2:((q:Int) != 0)=true:=by simpa using B
    have a3:(q:Int)/2^k=2*(b:Int)+1:=by
     have:=RA g;have h2:(q:Int)/2^k=((q/2^k:Nat):Int):=by push_cast;rfl
     rw[h2,this];push_cast;rfl
    have a1:2*b+1<=q:=by
     have:1*(2*b+1)<=2^k*(2*b+1):=gH _ (iC k);omega
    have l:Hid (Nat.gcd (2*p+1) (2*b+1)=G):=by
     show _=_;have:=F.out;rw[g,W.gcd_two_right (by omega)]at this;exact this
    clear F g;by_cases a0:b<p
    · have N:2*(b:Int)+1<2*(p:Int)+1:=by omega
      have hw:IntKind.u64.wrap (2*(p:Int)+1-(2*(b:Int)+1))=((2*(p-b):Nat):Int):=by
       rw[jU];omega
      go_wp2_with fail
      refine(t _ I).mono ?_;rintro e S ⟨rfl,rfl⟩;go_wp2;go_round
      case rel =>
       refine⟨b,2*(p-b),rfl,rfl,by omega,by omega,gE ?_⟩;rw[<-l.out,kw (2*p+1),show 2*(p-b)=2*p+1-(2*b+1) by omega];exact W.gcd_swap (by omega)
      case measure=>simp[intOf];omega
    · have N:¬ (2*(b:Int)+1<2*(p:Int)+1):=by omega
      have hw:IntKind.u64.wrap (2*(b:Int)+1-(2*(p:Int)+1))=((2*(b-p):Nat):Int):=by
       rw[jU];omega
      go_wp2_with fail
      refine(t _ I).mono ?_;rintro e S ⟨rfl,rfl⟩;go_wp2;go_round
      case rel =>
       refine⟨p,2*(b-p),rfl,rfl,by omega,by omega,gE ?_⟩;rw[<-l.out,show 2*(b-p)=2*b+1-(2*p+1) by omega];exact W.gcd_swap (by omega)
      case measure=>simp[intOf];omega
section
variable {P:Program} {c:Code} {Q:Exit->Act->World->Prop} {f:Act} {w:World}
theorem AP(h:∀ a,Ext w a->Arr a w.heap.size t cs.toList->a.heap.size=w.heap.size+1->Code.wp P c Q f a):Code.wp P c Q f (w.alloc (.cells cs t)) :=
 h _ ((Ext.refl w).alloc _) (Arr.new w t cs.toList) (by simp)
theorem Cf(h:∀ a,Ext w a->Arr a w.heap.size t cs.toList->Arr a (w.heap.size+1) t' cs'.toList->a.heap.size=w.heap.size+2->Code.wp P c Q f a):Code.wp P c Q f ((w.alloc (.cells cs t)).alloc (.cells cs' t')) :=
 h _ (((Ext.refl w).alloc _).alloc _) ((Arr.new w t cs.toList).alloc _) (by have:=Arr.new (w.alloc (.cells cs t)) t' cs'.toList;simpa using this) (by simp)
theorem CO(h:∀ a,Ext w a->Arr a w.heap.size t cs.toList->Arr a (w.heap.size+1) t' cs'.toList->Arr a (w.heap.size+2) t'' cs''.toList->a.heap.size=w.heap.size+3->Code.wp P c Q f a):Code.wp P c Q f (((w.alloc (.cells cs t)).alloc (.cells cs' t')).alloc (.cells cs'' t'')) :=
 h _ ((((Ext.refl w).alloc _).alloc _).alloc _) (((Arr.new w t cs.toList).alloc _).alloc _) (by have:=(Arr.new (w.alloc (.cells cs t)) t' cs'.toList).alloc (.cells cs'' t'');simpa using this) (by have:=Arr.new ((w.alloc (.cells cs t)).alloc (.cells cs' t')) t'' cs''.toList;simpa using this) (by simp)
theorem V9(h:∀ a,Ext w a->Arr a w.heap.size t cs.toList->Arr a (w.heap.size+1) t' cs'.toList->Arr a (w.heap.size+2) t'' cs''.toList->Arr a (w.heap.size+3) t3 cs3.toList->a.heap.size=w.heap.size+4->Code.wp P c Q f a):Code.wp P c Q f ((((w.alloc (.cells cs t)).alloc (.cells cs' t')).alloc (.cells cs'' t'')).alloc (.cells cs3 t3)) :=
 h _ (((((Ext.refl w).alloc _).alloc _).alloc _).alloc _) ((((Arr.new w t cs.toList).alloc _).alloc _).alloc _) (by have:=((Arr.new (w.alloc (.cells cs t)) t' cs'.toList).alloc (.cells cs'' t'')).alloc (.cells cs3 t3);simpa using this) (by have:=(Arr.new ((w.alloc (.cells cs t)).alloc (.cells cs' t')) t'' cs''.toList).alloc (.cells cs3 t3);simpa using this) (by have:=Arr.new (((w.alloc (.cells cs t)).alloc (.cells cs' t')).alloc (.cells cs'' t'')) t3 cs3.toList;simpa using this) (by simp)
end
section
variable {P:Program} {w:World}
theorem Qp{cs:List Value}(a:Agg P ty cs.length)(h:Arr w g t cs):(loadVar ty ⟨g,0,none⟩).run P w = .ok (.agg cs.toArray) w:=by
 obtain⟨d,hu,b,c⟩:=a.parts;exact run_loadVar_row (P:=P) w g t ty cs.toArray (0,0) d h hu (by cases d <;> first | rfl | exact absurd b (by simp)) (by simpa using c)
theorem Np{f:Func}{p q:Tmp}(l:f.results=#[.cell p ty,.cell q ty']){a:Array Value}{g b:Nat}{t t':TypeId}{cs cs':List Value}(j:Agg P ty cs.length)(c:Agg P ty' cs'.length)
 (hp:a.getD p undef = .pointer (some ⟨g,0,none⟩)) (k:a.getD q undef = .pointer (some ⟨b,0,none⟩)) (h:Arr w g t cs) (i:Arr w b t' cs'):(results f a).run P w = .ok (.tuple #[.agg cs.toArray,.agg cs'.toArray]) w:=by
 have d:a[p]?.getD undef = .pointer (some ⟨g,0,none⟩):=by simpa using hp
 have e:a[q]?.getD undef = .pointer (some ⟨b,0,none⟩):=by simpa using k
 simp[results,l,d,e,asAddr,Qp j h,Qp c i]
theorem Ao{d:Func}{p q:Tmp}(i:d.results=#[.cell p ty,.tmp q]){a:Array Value}{g:Nat}{t:TypeId}{cs:List Value}{v:Value}(e:Agg P ty cs.length)
 (hp:a.getD p undef = .pointer (some ⟨g,0,none⟩)) (f:a.getD q undef=v) (h:Arr w g t cs):(results d a).run P w = .ok (.tuple #[.agg cs.toArray,v]) w:=by
 have b:a[p]?.getD undef = .pointer (some ⟨g,0,none⟩):=by simpa using hp
 have c:a[q]?.getD undef=v:=by simpa using f
 simp[results,i,b,c,asAddr,Qp e h]
end
end Go.Proofs.YtlbmnokpiilfpaaGreatDoor
