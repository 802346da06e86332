/- Part Pz15. -/
import Derived.Test.YtlbmnokpiilfpaaGreatDoorPz14
import Derived.Test.YtlbmnokpiilfpaaGreatDoorPz9
import Derived.StillTailTactics
import Derived.Deep.CutBlock
import Derived.Deep.LoopGhost
set_option linter.all false
set_option maxRecDepth 100000
set_option maxHeartbeats 100000000
namespace Go.Proofs.YtlbmnokpiilfpaaGreatDoor
open Tryz Go Go.RowKit
def oP:=@Nat.le_of_not_lt
def sj:=@List.getElem?_take_of_lt
def vF:=@List.perm_append_comm
def xj:=@List.pairwise_singleton
variable {s:Bool} {z:Int} {rows:List (List Value)} {l xs:List Int} {ds qs ys:List Nat} {cs zs:List Value} {D N P R b0 base bo bytes c cc d g h k m n p u x y:Nat} {a a' b:Option Addr} {q:Rat} {e t:TypeId} {v v':Value} {w w' w1 w9:World}
theorem Hb{s:Nat}(g:Num 4294967296 ys y)(l:ys.length=m+1)(e:s<=31)(h1:2147483648<=ys.getD m 0*2^s)(h2:ys.getD m 0*2^s<4294967296)(b:Num 4294967296 ds (y*2^s)):ds.length=m+1/\2147483648<=ds.getD m 0:=by
 have c:=Ed (B:=4294967296) l;rw[g.val]at c;have i:=Ck g.bnd (m:=m) (by omega);generalize ys.getD m 0=u at *
 generalize W.val 4294967296 (ys.take m)=v at *
 have d:y*2^s=u*2^s*4294967296^m+v*2^s:=by rw[c];grind
 have h3:u*2^s+2^s<=4294967296:=by
  have h4:u<2^(32-s):=by
   refine rQ (a:=2^s) ?_;rw[Mb (pD e (by omega))];exact h2
  have h5:(u+1)*2^s<=2^(32-s)*2^s:=px _ h4;rw[Mb (pD e (by omega)),qJ,sk]at h5;exact h5
 have h6:y*2^s<4294967296^(m+1):=by
  rw[d,qB];have h7:v*2^s<4294967296^m*2^s:=rh i (qr s);have h8:(u*2^s+2^s)*4294967296^m<=4294967296*4294967296^m:=px _ h3;rw[qJ]at h8;rw[pM (4294967296^m) (2^s)]at h7;rw[pM (4294967296^m) 4294967296];omega
 have h9:2147483648*4294967296^m<=y*2^s:=by
  rw[d];exact pD (px _ h1) (vr _ _)
 have o:ds.length<=m+1:=W.nrm_len (B:=4294967296) (by omega) b.nrm (by rw[b.val];exact h6);have p:m+1<=ds.length:=by
  refine pQ fun k => ?_;have h10:=W.val_lt b.bnd;rw[b.val]at h10;have h11:4294967296^ds.length<=4294967296^m:=pR (by omega) (by omega);have h12:1*4294967296^m<=2147483648*4294967296^m:=px _ (by omega);rw[sk]at h12;omega
 have f:ds.length=m+1:=by omega
 refine⟨f,?_⟩;have j:=Ed (B:=4294967296) f;rw[b.val]at j;have n:=Ck b.bnd (m:=m) (by omega);generalize ds.getD m 0=t at *
 refine pQ fun k => ?_;have h13:(t+1)*4294967296^m<=2147483648*4294967296^m:=px _ (by omega);rw[qJ,sk]at h13;omega
theorem SA{s:Nat}(a:s<=31):2^s*(x*2^(32-s)%4294967296)=4294967296*(x%2^s)/\x*2^(32-s)%4294967296%2^(32-s)=0:=by
 have h1:=Mb (pD a (by omega));have h2:x*2^(32-s)%4294967296=x%2^s*2^(32-s):=by
  rw[<-h1,pM (2^(32-s)) (2^s),Nat.mul_mod_mul_right]
 rw[h2];refine⟨?_,wW _ _⟩;rw[<-h1];generalize 2^(32-s)=p;generalize 2^s=q
 grind
theorem Uc{s:Nat}(a:s<=31)(b:x<4294967296):x/2^s<2^(32-s):=by
 rw[re (qr s),Mb (pD a (by omega))];exact b
theorem VL(a:x<4294967296)(b:y<4294967296):x ||| y<4294967296:=Nat.or_lt_two_pow (n:=32) a b
theorem Qa{s:Nat}(a:s<=31)(b:x<4294967296):∃ z:Nat,z<4294967296/\x/2^s ||| (y*2^(32-s)%4294967296)=z/\2^s*z+x%2^s=x+4294967296*(y%2^s):=by
 obtain⟨h1,h2⟩:=SA (x:=y) a;have h3:=Uc a b;have h4:=oR (32-s) (y*2^(32-s)%4294967296) (x/2^s) h2 h3;refine⟨x/2^s ||| (y*2^(32-s)%4294967296),VL ?_ (qf _ (by omega)),rfl,?_⟩
 · have:=qE x (2^s);omega
 · rw[oX,h4,rM,h1];have:=qM x (2^s);generalize 2^s * (x/2^s)=p at *
   omega
theorem OK{s:Nat}(c:x<4294967296^n)(b:4294967296^m<=y)(a:m+1<=n):x*2^s<4294967296^(n-(m+1)+1)*(y*2^s):=by
 have h1:4294967296^(n-(m+1)+1)*4294967296^m=4294967296^n:=by rw[<-sG];congr 1;omega
 have h2:4294967296^(n-(m+1)+1)*4294967296^m<=4294967296^(n-(m+1)+1)*y:=qp _ b;have h3:x*2^s<4294967296^(n-(m+1)+1)*y*2^s:=rh (by omega) (qr s);rw[<-rT];exact h3
theorem Mc{i q Q V a:Nat}(hi:i<qs.length)(h0:qs.getD i 0=0)(b:P=4294967296^i)(h:Q=W.val 4294967296 qs*D+V)(h1:a+q*D*P=V):Q=W.val 4294967296 (qs.set i q)*D+a:=by
 have h2:=W.val_set (B:=4294967296) (xs:=qs) (i:=i) (v:=q) hi;rw[h0,tQ,qy]at h2;rw[h2,h,<-h1,b]
 grind
theorem Yj{a v s b:Nat}(c:a<4294967296)(d:v<4294967296)(h:a ||| (v*2^(32-s)%4294967296)=b):bits BinOp.or IntKind.u32 (a:Int) (IntKind.u64.wrap (IntKind.u64.wrap (v:Int)*2^(32-s))%4294967296)=(b:Int):=by
 have h1:2^(32-s)<=2^32:=pR (by omega) (by omega);have h2:v*2^(32-s)<=4294967295*2^32:=qK (by omega) h1;have h3:(v:Int)*2^(32-s)=((v*2^(32-s):Nat):Int):=by push_cast;rfl
 rw[Do (x:=v) (by omega),h3,Do (by omega),show((v*2^(32-s):Nat):Int)%4294967296=((v*2^(32-s)%4294967296:Nat):Int) by omega,u32_or_nat _ _ c (qf _ (by omega)),h]
theorem VM{b U a lo c e q:Nat}(j:e=(U*b+u)*P+lo)(g:D=a*P+c)(f:c < P)(k:e<(q+1)*D)(d:q<b):U<=a:=by
 refine oP fun i => ?_;have h1:(q+1)*D<=b*D:=px _ d;have h2:(a+1)*b*P<=U*b*P:=px _ (px _ i);have h3:U*b*P<=(U*b+u)*P:=px _ (vr _ _);have h4:b*D<=b*((a+1)*P):=qp _ (by rw[g,qJ,sk];omega);have h5:b*((a+1)*P)=(a+1)*b*P:=by grind
 omega
theorem Xq{v cy:Nat}(hu:u<4294967296)(c:v<4294967296)(b:cy<=1):∃ s a:Nat,s<4294967296/\a<=1/\s+v+cy=u+4294967296*a/\IntKind.u64.wrap (IntKind.u64.wrap ((u:Int)-v)-cy)%4294967296=s/\bits BinOp.and IntKind.u64 (IntKind.u64.wrap (IntKind.u64.wrap ((u:Int)-v)-cy)/4294967296) 1=a:=by
 have h:IntKind.u64.wrap (IntKind.u64.wrap ((u:Int)-v)-cy)=IntKind.u64.wrap (IntKind.u64.wrap ((u:Int)-cy)-v):=by
  rw[BZ,BZ,BZ,BZ];omega
 rw[h];exact Ub hu c b
theorem Yk(hp:p<18446744073709551616):bits BinOp.and IntKind.u64 (p:Int) 4294967295=((p%4294967296:Nat):Int):=by
 have h:=u64_and_nat p 4294967295 hp (by omega);have h2:p &&& 4294967295=p%4294967296:=wh p 32;rw[h2]at h;exact h
theorem YR{t:Nat}(c:t<4294967296)(b:cc<4294967296)(a:bo<=1)(h:cc+bo<=t):IntKind.u64.wrap (IntKind.u64.wrap ((t:Int)-cc)-bo)=((t-(cc+bo):Nat):Int):=by
 rw[BZ,BZ];omega
theorem YS{t:Nat}(c:t<4294967296)(b:cc<4294967296)(a:bo<=1)(h:¬ cc+bo<=t):IntKind.u64.wrap (IntKind.u64.wrap ((t:Int)-cc)-bo)=((18446744073709551616+t-(cc+bo):Nat):Int):=by
 rw[BZ,BZ];omega
theorem I8{mm:Nat}(hx:Mg w a n c x)(hy:Mg w b m d y)(bn:n<=100000)(m5:y<=x)(a7:m=mm+2) :
 Calls prog 258 #[.slice a n c,.slice b m d] w (Ju w (x/y) (x%y)):=by
 have ad:=lz (Fi hx hy);have iN:¬ AZ (x:Int) (y:Int)<0:=by rw[Dw];omega
 obtain⟨xs,hx,nx,-⟩:=hx;obtain⟨ys,hy,ny,-⟩:=hy;have HX:=lz hx.len;have HY:=lz hy.len;have m6:m<=n:=by
  refine pQ fun hc => ?_;have:=W.len_lt (B:=4294967296) (by omega) nx.bnd ny.nrm (by rw[HX.out,HY.out];omega);rw[nx.val,ny.val]at this;omega
 have bG:ys≠[]:=by intro h;have:=HY.out;rw[h]at this;simp at this;omega
 have bx:=W.nrm_pos (B:=4294967296) (by omega) ny.nrm bG;rw[HY.out,ny.val]at bx;have gy:0<ys.getD (mm+1) 0:=by
  have h1:=ny.nrm bG;rw[sY]at h1;have h2:ys.length-1=mm+1:=by rw[HY.out];omega
  have h3:mm+1<ys.length:=by rw[HY.out];omega
  have h4:ys.getD (mm+1) 0=ys[ys.length-1]'(by omega):=by
   simp[h2,h3]
  omega
 have cQ:=W.bnd_at ny.bnd (i:=mm+1) (by rw[HY.out];omega);have i5:Hid (∀ s ds,s<=31->2147483648<=ys.getD (mm+1) 0*2^s->ys.getD (mm+1) 0*2^s<4294967296->Num 4294967296 ds (y*2^s)->ds.length=m/\2147483648<=ds.getD (mm+1) 0):=by
  show ∀ s ds,_;intro s ds h1 h2 h3 nd;have:=Hb (m:=mm+1) ny (by rw[HY.out];omega) h1 h2 h3 nd;exact⟨by omega,this.2⟩
 have ea:=lz bx;have BX:=nx.bnd;have BY:=ny.bnd;have VX:=lz nx.val;have VY:=lz ny.val;have i4:=lz a7;have k8:(m:Int)-1=((mm+1:Nat):Int):=by omega
 have gR:((mm+1:Nat):Int)<(m:Int):=by omega
 have gn:((m:Int) == 1)=false:=by simp;omega
 have cy:mm+1<m:=by omega
 clear nx ny bG bx a7;generalize bm:ys.getD (mm+1) 0=yt at *
 have lu:=lz bm;obtain⟨mp,hmp⟩:∃ mp,mm+1=mp:=⟨_,rfl⟩;have c6:=lz hmp;rw[hmp]at k8 gR cy bm;clear hmp
 go_enter func258,ntmps258
 go_wp2_with fail
 refine ad.out.mono ?_;rintro e w1 ⟨rfl,hQ⟩;generalize AZ (x:Int) (y:Int)=cv at *
 obtain⟨b1,o1,rfl,eu⟩:=(hy.ext hQ.ext).at (j:=mp) cy;have gt:=eu mp cy;rw[bm]at gt;clear eu ad bm;have ch:=hQ.ext;clear hQ
 go_upto_region 7 with(fail)
 clear iN gn;have d0:=hy.ext ch;have me:=hx.ext ch;go_wp2
 go_loopw[8] (fun sv wr=>∃ s:Nat,sv = .int .u64 s/\s<=31/\yt*2^s<4294967296/\Ext w1 wr) (fun sv _=>31-(intOf sv).toNat)
 case atStart=>exact⟨0,rfl,by omega,by omega,Ext.refl _⟩
 case round =>
  obtain⟨s,rfl,hs,fb,hE⟩:=hrel;have g1:=hE.cell gt;have HW:Hid (IntKind.u32.wrap ((yt:Int)*2^s)=((yt*2^s:Nat):Int)):=by
   have:=Jt (yt*2^s);rw[rG fb]at this;show _=_;rw[<-this];push_cast;rfl
  have fA:=HW.out;obtain⟨t,ht⟩:∃ t,yt*2^s=t:=⟨_,rfl⟩;have b0:=lz ht;rw[ht]at fA fb;clear ht;by_cases h31:t<2147483648
  · have d6:(t:Int)<2147483648:=by omega
    have m9:s<31:=by
     refine md fun hc => ?_;have h1:2^31<=2^s:=pR (by omega) hc;have h2:1*2^s<=yt*2^s:=px _ gy;have:=b0.out;omega
    go_wp2;go_roundw
    case rel=>exact⟨s+1,by go_num,by omega,by rw[qB,<-rT,b0.out];omega,hE⟩
    case measure=>simp[intOf];omega
  · have d6:¬ (t:Int)<2147483648:=by omega
    go_upto_region 9 with(fail)
    clear d6 fA g1 HW;have aq:=lz (Gn (d0.ext hE) BY (by omega) hs)
    go_wp2_with fail
    refine aq.out.mono ?_;rintro e w2 ⟨b3,rfl,ii,ck,eb,gc⟩;clear aq
    go_wp2_with fail
    refine(Ce ck.sl).mono ?_;rintro e w3 ⟨f,rfl,rfl,f5,ai⟩;have hd:SlN .u32 w2 (some ⟨wr.heap.size,0,none⟩) f (m+1) (W.trim b3):=by rw[ai];exact ck.sl.upto f5
    have nd:Num 4294967296 (W.trim b3) (y*2^s):=Num.trim eb (by rw[gc,VY.out]);obtain⟨ex,eC⟩:=i5.out s (W.trim b3) hs (by rw[b0.out];omega) (by rw[b0.out];omega) nd;have gp:f=m:=by rw[<-hd.len,ex]
    subst gp;clear ai f5 ck eb gc ex;generalize W.trim b3=ds at *
    have i0:=lz eC;have ND:=lz nd;have d8:=(ch.trans hE).trans ii;have aq:=lz (Gn (hx.ext d8) BX bn hs);clear eC nd;obtain⟨V,j8⟩:∃ V,n-f=V:=⟨_,rfl⟩;have dA:Hid (n=V+f):=by show _=_;omega
    have k9:(n:Int)+1-f-1=(V:Int):=by omega
    have lc:V<=n:=by omega
    clear j8
    go_wp2_with fail
    refine aq.out.mono ?_;rintro e w4 ⟨d2,rfl,b5,b9,ec,d3⟩;clear aq;obtain⟨D,hD⟩:∃ D,y*2^s=D:=⟨_,rfl⟩;rw[hD]at ND;have HD:=lz hD;have dv:Hid (0<D):=by
     show 0<D;rw[<-hD];refine tA ?_ (qr s);have h1:=ea.out;have:=tw (n:=f-1) (show 0<4294967296 by omega);omega
    have bL:Hid (D<4294967296^f):=by
     show D<4294967296^f;have h1:=W.val_lt ND.out.bnd;rw[ND.out.val,hd.len]at h1;exact h1
    have dI:Hid (W.val 4294967296 d2<4294967296^(V+1)*D):=by
     show _<_;have h1:=W.val_lt BX;rw[HX.out]at h1;have h3:=ea.out;have:=OK (s:=s) (m:=f-1) h1 h3 (by have:=c6.out;omega);rw[d3];rw[show n-(f-1+1)+1=V+1 by have:=dA.out;have:=c6.out;omega,hD]at this;exact this
    have dT:Hid (W.val 4294967296 d2=x*2^s):=by show _=_;rw[d3,VX.out]
    clear hD d3
    go_upto_region 14 with(at_make;refine C6 (n:=V+1) rfl rfl underlying95 Cs rfl rfl rfl (by omega) (by unfold maxLen;omega) ?_;intro w5 en I)
    have iR:=(hd.ext b5).ext I;have ar:=b9.ext I;have d7:=b5.trans I;have k7:=ar.lt;have k6:=b5.size;have Z:Hid (w2.heap.size<=w2.heap.size):=lz (lrf _);obtain⟨G,hG⟩:∃ G,w2.heap.size=G:=⟨_,rfl⟩;have Z:Hid (w2.heap.size<=G):=lz (Nat.le_of_eq hG);rw[hG]at b9 ar;simp only[hG];generalize hH:w4.heap.size=H at *
    have M:Hid (G<H):=by show _<_;have:=b9.lt;omega
    clear k9 hG hH;go_wp2
    go_loopg [14] (V+1) (fun gk iv wx=>∃ (k:Nat) (A qs:List Nat),iv = .int .i64 ((k:Int)-1)/\k<=gk/\k<=V+1/\Ext w2 wx/\Az .u32 wx G 241 G (n+1) (n+1) A/\Az .u32 wx H 241 H (V+1) (V+1) qs/\W.bnd 4294967296 A/\W.bnd 4294967296 qs/\Hid (x*2^s=W.val 4294967296 qs*D+W.val 4294967296 A)/\Hid (∀ j,j<k->qs.getD j 0=0)/\Hid (W.val 4294967296 A<4294967296^k*D))
    case atStart=>exact⟨V+1,d2,List.replicate (V+1) 0,by go_num,lrf _,lrf _,d7,ar,Az.of_zeros en,ec,Ga (by omega) _,lz (by rw[W.val_zeros,r7,qA,dT.out]),lz (fun j _=>EJ _ j),dI⟩
    case round =>
     clear b9 en b5 I ar d7 ec dT dI iR k7 k6;obtain⟨k,A,qs,rfl,lW,hk,I,L,hq,bz,bq,HV,HJ,HB⟩:=hrel;cases k with
     | zero=>as_aux_lemma =>
      have b4:=HB.out;rw[tE,sk]at b4;obtain⟨a4,fn⟩:=Rx (x:=x) (y:=y) (s:=s) (Q:=W.val 4294967296 qs) (R:=W.val 4294967296 A) (rN fun h0=>by have h1:=HD.out;have h2:=dv.out;rw[h0,r7]at h1;omega) (by rw[HD.out];exact HV.out) (by rw[HD.out];exact b4);have f3:W.val 4294967296 A<4294967296^f:=vP b4 bL.out;have fv:W.val 4294967296 (A.take f)=W.val 4294967296 A:=(Iu (by rw[L.len];omega) (fun j hj=>Fl (by omega) f3 hj)).symm;have HQ:=lz a4;have HR:=lz fn
      have ga:SlN .u32 wr (some ⟨G,0,none⟩) f (n+1) (A.take f):=L.sl.upto (by omega);have gx:=fun wx:World=>Fc (P:=prog) (w:=wx) (a:=some ⟨G,0,none⟩) (n:=n+1) underlying95 Cs (k:=f) (c:=n+1) (by omega);clear b4 a4 fn f3
      go_wp2_with fail
      refine(Ce ga).mono ?_;rintro e w7 ⟨C,rfl,rfl,k1,ai⟩;rw[x9,rA k1]at ai;have HT:Hid (W.val 4294967296 (A.take C)=W.val 4294967296 A):=by show _=_;rw[<-ai,W.trim_val,fv]
      clear gx ga fv ai;have le:C<=n:=by omega
      have aj:Hid ((A.take C).length=C):=by show _=_;rw[qg,L.len];omega
      have c0:Hid (w2.heap.size<=G):=Z;go_wp2
      go_loopw[26] (fun iv wz=>∃ (k:Nat) (K:List Nat),iv = .int .i64 k/\k<=C/\Ext w2 wz/\Az .u32 wz G 241 G (n+1) (n+1) K/\Az .u32 wz H 241 H (V+1) (V+1) qs/\W.bnd 4294967296 K/\Hid (2^s*W.val 4294967296 (K.take k)+(A.take C).getD 0 0%2^s=W.val 4294967296 ((A.take C).take k)+4294967296^k*((A.take C).getD k 0%2^s))/\Hid (∀ j,k<=j->j<C->K.getD j 0=(A.take C).getD j 0)) (fun iv _=>C-(intOf iv).toNat)
      case atStart=>exact⟨0,A,rfl,pE _,I,L,hq,bz,lz (by simp[W.val]),lz (fun j _ hj=>by rw[gqq,gqq,sj hj])⟩
      case round=>as_aux_lemma =>
       clear I L hq bz HV HJ HB;obtain⟨k,K,rfl,hk,I,L,hq,bz,HI,HJ⟩:=hrel;by_cases bg:k<C
       · have l9:(k:Int)<C:=by omega
         have g1:=L.cell (i:=k) (by omega);have g2:=L.frozen k;rw[HJ.out k (lrf _) bg]at g1;have bk:(A.take C).getD k 0<4294967296:=by rw[<-HJ.out k (lrf _) bg];exact W.bnd_at bz (by rw[L.len];omega)
         by_cases ct:k+1<C
         · have gl:(k:Int)+1<C:=by omega
           have g3:=L.cell (i:=k+1) (by omega);rw[HJ.out (k+1) (by omega) ct]at g3;have al:=HI.out;have i1:=lz (HJ.out (k+1) (by omega) ct);have cx:k<(A.take C).length:=by rw[aj.out];exact bg
           have cT:(A.take C).getD (k+1) 0<4294967296:=by rw[<-HJ.out (k+1) (by omega) ct];exact W.bnd_at bz (by rw[L.len];omega)
           generalize hu:(A.take C).getD k 0=u at *
           generalize hv:(A.take C).getD (k+1) 0=v at *
           obtain⟨z2,kb,bK,dq⟩:=Qa (x:=u) (y:=v) hs bk;have HN:=lz (Hj (B:=4294967296) (l:=K) (xs:=A.take C) (k:=k) (s:=s) (z:=z2) (by rw[L.len];omega) cx (by rw[hu];exact al) (by rw[hu,hv];exact dq));obtain⟨z1,a8⟩:∃ z1,u/2^s=z1:=⟨_,rfl⟩;have e1:(u:Int)/2^s=(z1:Int):=by rw[<-a8];push_cast;rfl
           have ay:z1<4294967296:=by have:=qE u (2^s);omega
           rw[a8]at bK;have i8:=lz bK;clear hu hv a8 al bK dq HI
           go_upto_region 52 with(fail)
           have a9:=L.set k z1;have bi:=hq.kept (Ar wr G k (.int .u32 (z1:Int))) (by have:=M.out;simp;omega);have b7:=I.setCell (p:=⟨G,k,none⟩) c0.out (.int .u32 (z1:Int));have g6:=a9.cell (i:=k) (by omega);have g7:=a9.cell (i:=k+1) (by omega);have g8:=a9.frozen k;rw[gqq,List.getElem?_set_self (by rw[L.len];omega),pY]at g6;rw[gqq,rp (by omega),<-gqq,i1.out]at g7;have ih:=W.bnd_set bz (i:=k) ay;generalize wr.setCell ⟨G,k,none⟩ (.int .u32 (z1:Int))=w8 at *
           clear L hq I g1 g2 g3 e1;have bl:IntKind.i64.wrap ((k:Int)+1)=((k+1:Nat):Int):=by rw[<-Int.natCast_one,<-qe];exact pq _ (by omega)
           have dn:((k+1:Nat):Int)<C:=by omega
           have l6:(0:Int)<=(k:Int)+1:=by omega
           have mc:IntKind.u64.wrap (32-(s:Int))=((32-s:Nat):Int):=by rw[BZ];omega
           go_still_tail 16,(by kernel_rfl)
           change wpList _ _ _ _ _ w8.drew;have g0:=a9.drewN 1;have fg:=bi.drewN 1;have ik:=b7.drew;have lE:w8.drew.frozen? ⟨G,k,none⟩=false:=g8;have lA:w8.drew.cell? ⟨G,k,none⟩=some (.int .u32 (z1:Int)):=g6;change Az _ w8.drew _ _ _ _ _ _ at g0;change Az _ w8.drew _ _ _ _ _ _ at fg;generalize w8.drew=w9 at *
           clear g6 g7 g8 a9 bi b7;have e9:=Yj (s:=s) ay cT i8.out;rw[Do (x:=v) (by omega)]at e9;go_wp2;go_roundw
           case rel =>
            refine⟨k+1,(K.set k z1).set k z2,by go_num,by omega,ik.setCell c0.out _,g0.set k z2,fg.kept (Ar w9 G k (.int .u32 (z2:Int))) (by have:=M.out;simp;omega),W.bnd_set ih kb,?_,lz (fun j hj cs=>by rw[oK,gqq,rp (by omega),<-gqq];exact HJ.out j (by omega) cs)⟩;rw[oK];exact HN
           case measure=>simp[intOf];omega
         · have gl:¬ (k:Int)+1<C:=by omega
           have fu:(A.take C).getD (k+1) 0=0:=by rw[gqq,pV (by rw[aj.out];omega)];rfl
           have al:=HI.out;have cx:k<(A.take C).length:=by rw[aj.out];exact bg
           generalize hu:(A.take C).getD k 0=u at *
           have HN:=lz (Hj (B:=4294967296) (l:=K) (xs:=A.take C) (k:=k) (s:=s) (z:=u/2^s) (by rw[L.len];omega) cx (by rw[hu];exact al) (by rw[hu,fu,Nat.zero_mod,tQ,qy];exact qM u (2^s)));obtain⟨z1,a8⟩:∃ z1,u/2^s=z1:=⟨_,rfl⟩;have e1:(u:Int)/2^s=(z1:Int):=by rw[<-a8];push_cast;rfl
           have ay:z1<4294967296:=by have:=qE u (2^s);omega
           rw[a8]at HN;clear hu fu a8 al HI;go_wp2;go_roundw
           case rel=>exact⟨k+1,K.set k z1,by go_num,by omega,I.setCell c0.out _,L.set k z1,hq.kept (Ar wr G k (.int .u32 (z1:Int))) (by have:=M.out;simp;omega),W.bnd_set bz ay,HN,lz (fun j hj cs=>by rw[gqq,rp (by omega),<-gqq];exact HJ.out j (by omega) cs)⟩
           case measure=>simp[intOf];omega
       · have db:k=C:=by omega
         have hA:W.val 4294967296 (K.take C)=x%y:=by
          have h1:=HI.out;rw[db,pu (l:=A.take C) (by rw[aj.out];exact lrf _),HT.out,show(A.take C).getD C 0=0 by rw[gqq,pV (by rw[aj.out];exact lrf _)];rfl,Nat.zero_mod,tQ,qy]at h1;rw[<-HR.out,<-h1,tH (qr s),rH (qf _ (qr s)),qy]
         have HA:=lz hA;have cP:SlN .u32 wr (some ⟨G,0,none⟩) C (n+1) (K.take C):=L.sl.upto (by omega);have iu:=d8.trans I;clear HI HJ hA db
         go_wp2_with fail
         refine(Ce hq.sl).mono ?_;rintro e w8 ⟨q1,rfl,rfl,a4,fr⟩
         go_wp2_with fail
         refine(Ce cP).mono ?_;rintro e w9 ⟨q2,rfl,rfl,ao,fs⟩;have j7:=Dp hq.sl hq.ty a4 fr bq HQ.out.symm;have a7:=Dp cP L.ty ao fs (W.bnd_take bz _) HA.out;clear fr fs cP hq L bz;go_wp2
         go_ret2
         exact⟨_,_,_,_,_,_,rfl,iu,j7,a7⟩
     | succ i =>
      have fw:((i+1:Nat):Int)-1=i:=by omega
      rw[fw];have m3:i<=V:=by omega
      have m4:i+f<=n:=by have:=dA.out;omega
      have j6:i+(f+1)<=A.length:=by rw[L.len];omega
      obtain⟨q,ap,a4,ao,ep,f0,eX⟩:=Ms (by omega) bz j6 bL.out dv.out HB.out;have a7:=i4.out;have hmp:=c6.out;have eq:((A.drop i).take (f+1)).length=mm+3:=by simp;omega
      have bW:W.bnd 4294967296 ((A.drop i).take (f+1)):=W.bnd_take (W.bnd_drop bz _) _;have ac:=OY (B:=4294967296) eq;rw[FU (by omega),FU (by omega),FU (by omega)]at ac;have ab:=Hl (B:=4294967296) (l:=ds) (m:=mm) (by rw[hd.len];exact a7);rw[ND.out.val]at ab;have dc:=Ck bW (m:=mm) (by omega);have bs:=Ck ND.out.bnd (m:=mm) (by rw[hd.len];omega);rw[show i+(mm+2)=i+f by omega,show i+(mm+1)=i+mp by omega]at ac;rw[show mm+1=mp by omega]at ab;have d0:=i0.out;rw[show mm+1=mp by omega]at d0
      have kg:=W.bnd_at bz (i:=i+f) (by omega);have kd:=W.bnd_at bz (i:=i+mp) (by omega);have gb:=W.bnd_at bz (i:=i+mm) (by omega);have kp:=W.bnd_at ND.out.bnd (i:=mp) (by rw[hd.len];omega);have gf:=W.bnd_at ND.out.bnd (i:=mm) (by rw[hd.len];omega);have g1:=L.cell (i:=i+f) (by omega);have g2:=L.cell (i:=i+mp) (by omega);have g3:=L.cell (i:=i+mm) (by omega);obtain⟨bv,ov,a2,a0⟩:=(hd.ext I).at (j:=0) (by omega);simp only[pz,qq,qO]at a2;obtain⟨rfl,rfl⟩:=a2;have g4:=a0 mp (by omega);have g5:=a0 mm (by omega);rw[qA]at g4 g5
      have HU:=lz (VM ac ab bs ao ap);have ca:=lz (W.digit_hi ac dc ab a4);have cb:=lz ac;have dJ:=lz ab;have cd:=lz ep;have dy:=lz f0;have dx:=lz bs;have dB:=lz a4;have aA:=lz ao;have i3:=lz eX;generalize A.getD (i+f) 0=t1 at *
      generalize A.getD (i+mp) 0=t0 at *
      generalize A.getD (i+mm) 0=u2 at *
      generalize ds.getD mp 0=y1 at *
      generalize ds.getD mm 0=y0 at *
      obtain⟨U,cl⟩:∃ U,t1*4294967296+t0=U:=⟨_,rfl⟩;rw[cl]at HU ca cb;have d4:=lz (Est.start (b:=4294967296) (by omega) gf HU.out ca.out gb);have d5:Hid (bits BinOp.or IntKind.u64 ((t1:Int)*4294967296) (t0:Int)=(U:Int)):=by
       show _=_;rw[Xp kg kd,cl]
      have lP:U<18446744073709551616:=by omega
      have ma:IntKind.i64.wrap ((i:Int)+f)=((i+f:Nat):Int):=by rw[<-qe];exact pq _ (by omega)
      have mb:IntKind.i64.wrap (((i+f:Nat):Int)-1)=((i+mp:Nat):Int):=by rw[show((i+f:Nat):Int)-1=((i+mp:Nat):Int) by omega];exact pq _ (by omega)
      have m0:((i+f:Nat):Int)<(n:Int)+1:=by omega
      have m1:((i+mp:Nat):Int)<(n:Int)+1:=by omega
      have ku:(i:Int)+f<=(n:Int):=by omega
      have kx:(i:Int)+f<(n:Int)+1:=by omega
      have ky:(i:Int)+mp<=(n:Int):=by omega
      have l0:(i:Int)+mp<(n:Int)+1:=by omega
      have lg:((i:Int)+f).toNat=i+f:=by omega
      have lh:((i:Int)+mp).toNat=i+mp:=by omega
      have gq:(i:Int)+f-1=(i:Int)+mp:=by omega
      have kq:IntKind.i64.wrap ((i:Int)+f-1)=(i:Int)+mp:=by rw[gq];exact pq _ (by omega)
      have gs:(i:Int)+f-2=(i:Int)+mm:=by omega
      have kr:IntKind.i64.wrap ((i:Int)+f-2)=(i:Int)+mm:=by rw[gs];exact pq _ (by omega)
      have gw:(f:Int)-2=(mm:Int):=by omega
      have ks:IntKind.i64.wrap ((f:Int)-2)=(mm:Int):=by rw[gw];exact pq _ (by omega)
      have l2:(i:Int)+mm<=(n:Int):=by omega
      have l3:(i:Int)+mm<(n:Int)+1:=by omega
      have m2:(mm:Int)<f:=by omega
      have lm:((i:Int)+mm).toNat=i+mm:=by omega
      have ff:(0:Int)<=(i:Int)+mm:=by omega
      have m7:(0:Int)<=(i:Int)+f:=by omega
      have fe:(0:Int)<=(i:Int)+mp:=by omega
      clear ep f0 a4 ao eX bW eq ac ab dc bs a0 cl a7 hmp fw
      go_upto_region 17 with(fail)
      go_quiet (fail)
      rw[d5.out];have el:=I.drewN nq;have g9:=L.drewN nq;have fk:=hq.drewN nq;have ce:(wr.drewN nq).cell? _=_:=g3;have cg:(wr.drewN nq).cell? _=_:=g4;have ed:(wr.drewN nq).cell? _=_:=g5;generalize wr.drewN nq=wq at *
      clear g1 g2 g3 g4 g5 I L hq;have e1:(U:Int).tdiv (y1:Int)=((U/y1:Nat):Int):=by rw[qI (by omega)];rfl
      have e2:(U:Int).tmod (y1:Int)=((U%y1:Nat):Int):=by rw[rt (by omega)];rfl
      have ka:((y1:Int) == 0)=false:=by simp;omega
      have gU:¬ (y1:Int)=0:=by omega
      have cA:U%y1<4294967296:=vP (qf _ (by omega)) kp;have bp:=d4.out;generalize U/y1=h0 at *
      generalize U%y1=r0 at *
      have cr:=bp.hi;have bR:=lz bp;clear bp d4 d5
      go_upto_block 4 with(fail)
      clear e1 e2 ka gU
      go_cut [16,17] from 78 to 255 (fun hv rv wx=>∃ g r:Nat,hv = .int .u64 g/\rv = .int .u64 r/\g<=q+1/\q<=g/\g<=4294967296/\Qt wq wx)
      case first=>as_aux_lemma =>
       try go_wp2
       go_loopw[16,17] (fun hv rv wx=>∃ h r:Nat,hv = .int .u64 h/\rv = .int .u64 r/\r<4294967296/\h<=4294967297/\Qt wq wx/\Hid (Est 4294967296 y1 U q h r)) (fun hv _ _=>(intOf hv).toNat)
       case atStart=>exact⟨h0,r0,rfl,rfl,cA,cr,Qt.refl _,bR⟩
       case round=>as_aux_lemma =>
        clear cA cr bR;obtain⟨h,r,rfl,rfl,hr,hh,hQ,HE⟩:=hrel;have k3:=hQ.ext.cell ce;have k4:=hQ.ext.cell cg;have k5:=hQ.ext.cell ed;have f7:bits BinOp.or IntKind.u64 ((r:Int)*4294967296) (u2:Int)=(r:Int)*4294967296+u2:=by rw[Xp hr gb,qe,q7];rfl
        have cz:h*y0<18446744073709551616:=by
         have:h*y0<=4294967297*4294967295:=qK hh (by omega);omega
        have f6:IntKind.u64.wrap ((h:Int)*y0)=(h:Int)*y0:=by rw[<-q7];exact Do cz
        by_cases hc:4294967296<=h\/4294967296*r+u2<h*y0
        case pos =>
         obtain⟨hd0,a3,co⟩:=Est.down HE.out ca.out ap hc;obtain⟨g,hg⟩:∃ g,h-1=g:=⟨_,rfl⟩;rw[hg]at a3 co;have bN:=lz co;have j1:(h:Int)-1=(g:Int):=by omega
         have lZ:IntKind.u64.wrap ((h:Int)-1)=(g:Int):=by rw[j1];exact Do (by omega)
         have lT:g<h:=by omega
         have ei:(4294967296:Int)<=h\/¬ (4294967296:Int)<=h:=by omega
         have ad:¬ 4294967296<=h->(r:Int)*4294967296+u2<(h:Int)*y0:=by
          intro h1;have h2:4294967296*r+u2<h*y0:=by omega
          have h3:((4294967296*r+u2:Nat):Int)<((h*y0:Nat):Int):=by omega
          rw[qe,q7,q7]at h3;rw[Int.mul_comm (r:Int)];exact h3
         clear co hg HE hd0;by_cases hb:4294967296<=h
         case' pos =>
          have es:(4294967296:Int)<=h:=by omega
          clear ad ei hc
          go_upto_region 20 with(fail)
          go_quiet (fail)
         case' neg =>
          have es:¬ (4294967296:Int)<=h:=by omega
          have gi:=ad hb;clear ad ei hc
          go_upto_region 20 with(fail)
          go_quiet (fail)
         all_goals
          have X:=hQ.drewN nq;generalize wr.drewN nq=wv at *
          clear k3 k5 f7 f6 cz hb hQ;have mf:=X.ext.cell cg;clear k4;by_cases iK:r+y1<4294967296
          · have gg:¬ (4294967296:Int)<=(r:Int)+y1:=by omega
            go_wp2;go_roundw
            case rel=>exact⟨g,r+y1,rfl,by go_num,iK,by omega,X,bN⟩
            case measure=>simp[intOf];omega
          have gg:(4294967296:Int)<=(r:Int)+y1:=by omega
          have S:g<=q+1:=Est.done bN.out (W.guess_over (by omega) a3 gf) (by omega) (by omega) cb.out dJ.out dx.out aA.out ap;have T:q<=g:=bN.out.lo
          go_wp2_with fail
          go_meet
          exact⟨_,_,rfl,rfl,S,T,a3,X⟩
        case neg =>
         have es:¬ (4294967296:Int)<=h:=by omega
         have gi:¬ (r:Int)*4294967296+u2<(h:Int)*y0:=by
          intro h1;have h2:¬ 4294967296*r+u2<h*y0:=fun hx=>hc (Or.inr hx);have h3:¬ ((4294967296*r+u2:Nat):Int)<((h*y0:Nat):Int):=by omega
          rw[qe,q7,q7]at h3;rw[Int.mul_comm (r:Int)]at h1;exact h3 h1
         have S:h<=q+1:=Est.done HE.out (by omega) (by omega) (by omega) cb.out dJ.out dx.out aA.out ap;have T:q<=h:=HE.out.lo;have a3:h<=4294967296:=by omega
         clear hc HE
         go_upto_region 20 with(fail)
         go_quiet (fail)
         have X:=hQ.drewN nq;generalize wr.drewN nq=wv at *
         clear k3 k4 k5 f7 f6 cz hQ
         go_wp2_with fail
         go_meet
         exact⟨_,_,rfl,rfl,S,T,a3,X⟩
      case rest=>as_aux_lemma =>
       clear cA cr bR;obtain⟨g,r,rfl,rfl,S,T,a3,X⟩:=hcut;have a1:=el.trans X.ext;have E:=g9.ext X.ext;have Y:=fk.ext X.ext;clear g9 fk el X ce cg ed;go_wp2
       go_loopw[18,19,20] (fun cv bv kv wx=>∃ (k cc bo:Nat) (K:List Nat),cv = .int .u64 cc/\bv = .int .u64 bo/\kv = .int .i64 k/\k<=f/\cc<4294967296/\bo<=1/\Ext w2 wx/\Az .u32 wx G 241 G (n+1) (n+1) K/\Az .u32 wx H 241 H (V+1) (V+1) qs/\W.bnd 4294967296 K/\Hid (W.val 4294967296 K+g*W.val 4294967296 (ds.take k)*4294967296^i=W.val 4294967296 A+(cc+bo)*4294967296^(i+k))/\Hid (∀ j,i+k<=j->K.getD j 0=A.getD j 0)) (fun _ _ kv _=>f-(intOf kv).toNat)
       case atStart=>exact⟨0,0,0,A,rfl,rfl,rfl,pE _,by omega,by omega,a1,E,Y,bz,lz (by simp[W.val]),lz (fun j _=>rfl)⟩
       case round=>as_aux_lemma =>
        clear a1 E Y;obtain⟨k,cc,bo,K,rfl,rfl,rfl,hk,cn,ba,a1,E,Y,a5,HI,c5⟩:=hrel;by_cases bf:k<f
        · have l8:(k:Int)<f:=by omega
          obtain⟨bv,ov,a2,a0⟩:=(hd.ext a1).at (j:=k) bf;simp only[pz,qq,qO]at a2;obtain⟨rfl,rfl⟩:=a2;have g1:=a0 k bf;rw[qA]at g1;have g2:=E.cell (i:=i+k) (by omega);have g3:=E.frozen (i+k);have cT:=W.bnd_at ND.out.bnd (i:=k) (by rw[hd.len];exact bf);have bk:=W.bnd_at a5 (i:=i+k) (by rw[E.len];omega);have d9:g*ds.getD k 0<=4294967296*4294967295:=qK a3 (by omega);have aa:=fun s c' e=>Xn (B:=4294967296) (l:=K) (xs:=ds) (k:=k) (o:=i) (w:=g) (c:=cc+bo) (s:=s) (c':=c') (by rw[E.len];omega) HI.out e
          generalize ds.getD k 0=v at *
          generalize K.getD (i+k) 0=u at *
          obtain⟨gv,cq⟩:∃ gv,g*v=gv:=⟨_,rfl⟩;rw[cq]at d9 aa;have e1:(g:Int)*(v:Int)=(gv:Int):=by rw[<-cq,q7]
          obtain⟨p,hp⟩:∃ p,gv+cc=p:=⟨_,rfl⟩;have j9:p<18446744073709551616:=by omega
          have e2:(gv:Int)+(cc:Int)=(p:Int):=by omega
          have e3:=Yk j9;have e4:(p:Int)/4294967296=((p/4294967296:Nat):Int):=by omega
          have fe:p/4294967296<4294967296:=by omega
          have ff:p%4294967296<4294967296:=qf _ (by omega);have js:p%4294967296+4294967296*(p/4294967296)=p:=sX _ _;generalize p%4294967296=lo at *
          generalize p/4294967296=c2 at *
          obtain⟨s2,b2,h1,h2,h3,e5,e6⟩:=Xq bk ff ba;have c7:=lz (aa s2 (c2+b2) (by omega));have bl:IntKind.i64.wrap ((k:Int)+i)=((i+k:Nat):Int):=by rw[<-qe,rO k i];exact pq _ (by omega)
          have dn:(k:Int)+i<=n:=by omega
          have gz:(k:Int)+i<(n:Int)+1:=by omega
          have gB:((k:Int)+i).toNat=i+k:=by omega
          have gO:(0:Int)<=(k:Int)+i:=by omega
          clear aa cq hp js h3 a0 d9;go_wp2;go_roundw
          case rel=>exact⟨k+1,c2,b2,K.set (i+k) s2,rfl,rfl,by go_num,by omega,fe,h2,a1.setCell Z.out _,E.set (i+k) s2,Y.kept (Ar wr G (i+k) (.int .u32 (s2:Int))) (by have:=M.out;simp;omega),W.bnd_set a5 h1,c7,lz (fun j hj=>by rw[gqq,rp (by omega),<-gqq];exact c5.out j (by omega))⟩
          case measure=>simp[intOf];omega
        · have da:k=f:=by omega
          have b8:W.val 4294967296 K+g*D*4294967296^i=W.val 4294967296 A+(cc+bo)*4294967296^(i+f):=by
           have h1:=HI.out;rw[da,pu (l:=ds) (by rw[hd.len];exact lrf _),ND.out.val]at h1;exact h1
          have iG:∀ j,i+f+1<=j->K.getD j 0=0:=fun j hj=>by
           rw[c5.out j (by omega)];exact Fl (by omega) i3.out (by omega)
          have i7:=lz iG;clear HI c5 bf hk;subst da;have g1:=E.cell (i:=i+k) (by omega);have g2:=E.frozen (i+k);have bj:=W.bnd_at a5 (i:=i+k) (by rw[E.len];omega);have a6:=fun v=>W.val_set (B:=4294967296) (xs:=K) (i:=i+k) (v:=v) (by rw[E.len];omega);have ef:=Y.cell (i:=i) (by omega);have eg:=Y.frozen i;have l4:(i:Int)<(V:Int)+1:=by omega
          have l5:(i:Int)<=(V:Int):=by omega
          generalize K.getD (i+k) 0=tt at *
          by_cases hs:cc+bo<=tt
          · have ix:=YR bj cn ba hs;obtain⟨O,bb⟩:∃ O,tt-(cc+bo)=O:=⟨_,rfl⟩;rw[bb]at ix;have av:O<4294967296:=by omega
            have a3:(O:Int)%4294967296=(O:Int):=by omega
            have ev:(O:Int)/9223372036854775808=0:=by omega
            have ag:=Uu (a6 O) b8 (by omega);obtain⟨cp,de⟩:=Mq cd.out dy.out ag aA.out T;have lY:(g:Int)%4294967296=(g:Int):=by omega
            have c8:=lz (Mc (qs:=qs) (i:=i) (q:=g) (by rw[Y.len];omega) (HJ.out i (by omega)) rfl HV.out ag);have c9:=lz de;have j0:g<4294967296:=by omega
            clear a6 b8 bb ag cp de S T hs;go_wp2
            go_roundg i
            case rel=>exact⟨i,K.set (i+k) O,qs.set i g,by go_num,lrf _,by omega,(a1.setCell Z.out _).setCell (pD Z.out (sI M.out)) _,(E.set (i+k) O).kept (Ar _ H i (.int .u32 (g:Int))) (by have:=M.out;simp;omega),(Y.kept (Ar wr G (i+k) (.int .u32 (O:Int))) (by have:=M.out;simp;omega)).set i g,W.bnd_set a5 av,W.bnd_set bq j0,c8,lz (JB HJ.out),c9⟩
            case measure=>omega
          · have eo:=YS bj cn ba hs;obtain⟨dw,eD⟩:∃ dw,18446744073709551616+tt-(cc+bo)=dw:=⟨_,rfl⟩;obtain⟨O,bb⟩:∃ O,4294967296+tt-(cc+bo)=O:=⟨_,rfl⟩;rw[eD]at eo;have av:O<4294967296:=by omega
            have gj:(dw:Int)%4294967296=(O:Int):=by omega
            have ev:(dw:Int)/9223372036854775808=1:=by omega
            have cR:=Mt (a6 O) b8 (B:=4294967296) (by omega)
            have d1:∀ j,i+k+1<=j->(K.set (i+k) O).getD j 0=0:=fun j hj=>by
             rw[gqq,rp (by omega),<-gqq];exact i7.out j hj
            have ax:=Hk (B:=4294967296) (l:=K.set (i+k) O) (p:=i+k+1) (by rw[ve,E.len];omega) (W.bnd_set a5 av) d1;rw[qB]at ax;have k0:=O1 cd.out cR ax dB.out;have cp:(g:Int)-1=(q:Int):=by omega
            have kt:IntKind.u64.wrap ((g:Int)-1)=(q:Int):=by rw[cp];exact Do (by omega)
            have et:=W.bnd_set a5 (i:=i+k) av;have i6:=lz cR;have i9:=lz d1;have i2:=lz ax;clear a6 b8 cR d1 ax eD bb hs T k0
            go_upto_region 36 with(fail)
            have fO:=E.set (i+k) O;have dl:=Y.kept (Ar wr G (i+k) (.int .u32 (O:Int))) (by have:=M.out;simp;omega);have ek:=a1.setCell (p:=⟨G,i+k,none⟩) Z.out (.int .u32 (O:Int));have iL:∀ j,j≠i->True:=fun _ _=>trivial;generalize wr.setCell ⟨G,i+k,none⟩ (.int .u32 (O:Int))=wb at *
            generalize K.set (i+k) O=l1 at *
            clear E Y a1 g1 g2 ef eg a5 bj eo gj ev iL cn ba;go_wp2
            go_loopw[18,24] (fun cv iv wx=>∃ (F c3:Nat) (J:List Nat),cv = .int .u64 c3/\iv = .int .i64 F/\F<=k/\c3<=1/\Ext w2 wx/\Az .u32 wx G 241 G (n+1) (n+1) J/\Az .u32 wx H 241 H (V+1) (V+1) qs/\W.bnd 4294967296 J/\Hid (W.val 4294967296 J+c3*4294967296^(i+F)=W.val 4294967296 l1+1*W.val 4294967296 (ds.take F)*4294967296^i)/\Hid (∀ j,i+F<=j->J.getD j 0=l1.getD j 0)) (fun _ iv _=>k-(intOf iv).toNat)
            case atStart=>exact⟨0,0,l1,rfl,rfl,pE _,by omega,ek,fO,dl,et,lz (by simp[W.val]),lz (fun j _=>rfl)⟩
            case round=>as_aux_lemma =>
             clear ek fO dl et;obtain⟨F,c3,J,rfl,rfl,j2,lQ,b6,N,ah,ak,c1,c4⟩:=hrel;by_cases bd:F<k
             · have l7:(F:Int)<k:=by omega
               obtain⟨bv,ov,a2,a0⟩:=(hd.ext b6).at (j:=F) bd;simp only[pz,qq,qO]at a2;obtain⟨rfl,rfl⟩:=a2;have g1:=a0 F bd;rw[qA]at g1;have g2:=N.cell (i:=i+F) (by omega);have g3:=N.frozen (i+F);have cT:=W.bnd_at ND.out.bnd (i:=F) (by rw[hd.len];exact bd);have bk:=W.bnd_at ak (i:=i+F) (by rw[N.len];omega);have aa:=fun s c' e=>T9 (B:=4294967296) (l:=J) (xs:=ds) (k:=F) (o:=i) (w:=1) (c:=c3) (s:=s) (c':=c') (by rw[N.len];omega) c1.out e;generalize ds.getD F 0=v at *
               generalize J.getD (i+F) 0=u at *
               obtain⟨p,hp⟩:∃ p,u+v+c3=p:=⟨_,rfl⟩;have e7:(c3:Int)+((u:Int)+v)=(p:Int):=by omega
               have f1:(p:Int)%4294967296=((p%4294967296:Nat):Int):=by omega
               have f2:(p:Int)/4294967296=((p/4294967296:Nat):Int):=by omega
               have c7:=lz (aa (p%4294967296) (p/4294967296) (by rw[sX];omega));have jj:p/4294967296<=1:=by omega
               have jv:p%4294967296<4294967296:=qf _ (by omega);generalize p%4294967296=s2 at *
               generalize p/4294967296=c2 at *
               have bl:IntKind.i64.wrap ((F:Int)+i)=((i+F:Nat):Int):=by rw[<-qe,rO F i];exact pq _ (by omega)
               have ln:IntKind.i64.wrap ((F:Int)+i)=(F:Int)+i:=by rw[bl];omega
               have dn:(F:Int)+i<=n:=by omega
               have gz:(F:Int)+i<(n:Int)+1:=by omega
               have gB:((F:Int)+i).toNat=i+F:=by omega
               have gO:(0:Int)<=(F:Int)+i:=by omega
               clear aa hp a0 bl
               go_upto_region 41 with(fail)
               go_quiet (fail)
               have b7:=b6.drewN nq;have a9:=N.drewN nq;have bi:=ah.drewN nq;have lv:(wr.drewN nq).cell? _=_:=g2;have ce:(wr.drewN nq).frozen? _=_:=g3;generalize wr.drewN nq=kk at *
               clear g1 g2 g3 b6 N ah;go_wp2;go_roundw
               case rel=>exact⟨F+1,c2,J.set (i+F) s2,rfl,by go_num,by omega,jj,b7.setCell Z.out _,a9.set (i+F) s2,bi.kept (Ar kk G (i+F) (.int .u32 (s2:Int))) (by have:=M.out;simp;omega),W.bnd_set ak jv,c7,lz (fun j hj=>by rw[gqq,rp (by omega),<-gqq];exact c4.out j (by omega))⟩
               case measure=>simp[intOf];omega
             · have gm:k=F:=by omega
               subst gm;have em:W.val 4294967296 J+c3*4294967296^(i+k)=W.val 4294967296 l1+1*D*4294967296^i:=by
                have h1:=c1.out;rw[pu (l:=ds) (by rw[hd.len];exact lrf _),ND.out.val]at h1;exact h1
               have er:∀ j,i+k+1<=j->J.getD j 0=0:=fun j hj=>by
                rw[c4.out j (by omega)];exact i9.out j hj
               clear c1 c4 bd j2;have g1:=N.cell (i:=i+k) (by omega);have g2:=N.frozen (i+k);have bj:=W.bnd_at ak (i:=i+k) (by rw[N.len];omega);have a6:=fun v=>W.val_set (B:=4294967296) (xs:=J) (i:=i+k) (v:=v) (by rw[N.len];omega);have ef:=ah.cell (i:=i) (by omega);have eg:=ah.frozen i;generalize J.getD (i+k) 0=t2 at *
               obtain⟨z3,fN⟩:∃ z3,(t2+c3)%4294967296=z3:=⟨_,rfl⟩;have dt:z3<4294967296:=by omega
               have e8:((t2:Int)+c3)%4294967296=(z3:Int):=by omega
               have e9:IntKind.u32.wrap ((t2:Int)+c3)=(z3:Int):=by rw[<-qe,Jt,fN]
               have lR:(c3:Int)%4294967296=(c3:Int):=by omega
               have m8:(q:Int)%4294967296=(q:Int):=by omega
               have cQ:=O2 (a6 z3) em (B:=4294967296) (ov:=(t2+c3)/4294967296) (by have:=sX (t2+c3) 4294967296;omega)
               have bt:=Hk (B:=4294967296) (l:=J.set (i+k) z3) (p:=i+k+1) (by rw[ve,N.len];omega) (W.bnd_set ak dt) (fun j hj=>by
                rw[gqq,rp (by omega),<-gqq]
                exact er j hj)
               rw[qB]at bt;have ej:D*4294967296^i<4294967296^(i+k)*4294967296:=by
                have h1:D*4294967296^i<4294967296^k*4294967296^i:=rh bL.out (tw (by omega));rw[<-sG,rO k i]at h1;have h2:4294967296^(i+k)*1<=4294967296^(i+k)*4294967296:=qp _ (by omega);omega
               obtain⟨_,ag,dj⟩:=OZ cd.out dy.out i6.out i2.out dB.out aA.out S cQ bt ej;have c8:=lz (Mc (qs:=qs) (i:=i) (q:=q) (by rw[ah.len];omega) (HJ.out i (by omega)) rfl HV.out ag);have c9:=lz dj;clear a6 em er fN cQ bt ej ag dj S;go_wp2
               go_roundg i
               case rel=>exact⟨i,J.set (i+k) z3,qs.set i q,by go_num,lrf _,by omega,(b6.setCell Z.out _).setCell (pD Z.out (sI M.out)) _,(N.set (i+k) z3).kept (Ar _ H i (.int .u32 (q:Int))) (by have:=M.out;simp;omega),(ah.kept (Ar wr G (i+k) (.int .u32 (z3:Int))) (by have:=M.out;simp;omega)).set i q,W.bnd_set ak dt,W.bnd_set bq ap,c8,lz (JB HJ.out),c9⟩
               case measure=>omega
theorem KC(g:Mg w a n c x)(e:Mg w b m d y)(f:n<=100000)(h0:0<y) :
 Calls prog 258 #[.slice a n c,.slice b m d] w (Ju w (x/y) (x%y)):=by
 rcases qx x y with h|h
 · exact Lp g e f h
 · have i:=e.pos h0;rcases qx 1 m with h1|h1
   · exact I8 g e f h (mm:=m-2) (by omega)
   · obtain rfl:m=1:=by omega
     exact Kz g e f h h0
theorem IQ(m : -9223372036854775808<=z/\z<9223372036854775808):Calls prog 186 #[.int .i64 z] w (Nd w z):=by
 by_cases E:z<0
 · obtain⟨x,rfl⟩:∃ x:Nat,z = -(x:Int):=⟨z.natAbs,by omega⟩;have T:IntKind.u64.wrap (-(x:Int))=18446744073709551616-(x:Int):=by show _%18446744073709551616=_;omega
   have Y:IntKind.u64.wrap (-(18446744073709551616-(x:Int)))=(x:Int):=by show _%18446744073709551616=_;omega
   have U : -(18446744073709551616-(x:Int))%18446744073709551616=(x:Int):=by omega
   have P:(x:Int)%4294967296=((x%4294967296:Nat):Int):=by omega
   have R:(x:Int)/4294967296%4294967296=((x/4294967296:Nat):Int):=by omega
   have Q:IntKind.u32.wrap (x:Int)=((x%4294967296:Nat):Int):=Jt x;have S:IntKind.u32.wrap ((x:Int)/4294967296)=((x/4294967296:Nat):Int):=by show _%4294967296=_;omega
   have F:decide (-(x:Int)<0)=true:=qC E
   go_enter func186,ntmps186
   go_upto_region 1 with(fail)
   refine AP ?_;intro l p b j
   go_upto_region 4 with(fail)
   have D:=b;clear b;have I:=D.lt;have C:x/4294967296<4294967296:=by omega
   have B:x%4294967296<4294967296:=qf _ (by omega);have a:=(AB l l.heap.size 241 #[.int .u32 ((x%4294967296:Nat):Int),.int .u32 ((x/4294967296:Nat):Int)] 2 rfl (lrf _) (by omega));have g:SlN .u32 (l.alloc (.cells #[.int .u32 ((x%4294967296:Nat):Int),.int .u32 ((x/4294967296:Nat):Int)] 241)) (some ⟨w.heap.size+1,0,none⟩) 2 2 [x%4294967296,x/4294967296]:=by have:=a.sl;rw[j]at this;exact this
   have d:=(Ext.refl l).alloc (.cells #[.int .u32 ((x%4294967296:Nat):Int),.int .u32 ((x/4294967296:Nat):Int)] 241)
   have s:W.bnd 4294967296 [x%4294967296,x/4294967296]:=fun z m=>by
    rcases qj.1 m with rfl|m
    · exact B
    · rw[pF.1 m];exact C
   have y:W.val 4294967296 [x%4294967296,x/4294967296]=x:=by simp only[W.val];omega
   have i:=a.ty;rw[j]at i;clear a;generalize x%4294967296=N at *
   generalize x/4294967296=J at *
   go_wp2_with fail
   refine(Ce g).mono ?_;rintro e P ⟨k,rfl,rfl,K,M⟩;have L:=Dp g i K M s y;have q:=p.trans d;have r:=D.ext d;generalize l.alloc (.cells #[.int .u32 (N:Int),.int .u32 (J:Int)] 241)=V at *
   have v:=qh (Ch (neg:=true) L (z := -(x:Int)) (by simp))
   go_wp2_with fail
   refine v.out.mono ?_;rintro e R ⟨s1,G,O,H,rfl,c,n,A⟩;have f:=r.ext c
   go_wp2_with(refine Aa (vs:=Ac s1 G O H) rfl rfl rfl rfl rfl A6 f rfl (Ae _ _ _ _) ?_;intro X o t)
   exact py (Ap rfl A6 rfl o) rfl (DK (q.trans c) f (by decide) t (by omega) n A)
 · obtain⟨x,rfl⟩:∃ x:Nat,z=(x:Int):=⟨z.natAbs,by omega⟩;have T:IntKind.u64.wrap (x:Int)=(x:Int):=by show _%18446744073709551616=_;omega
   have P:(x:Int)%4294967296=((x%4294967296:Nat):Int):=by omega
   have R:(x:Int)/4294967296%4294967296=((x/4294967296:Nat):Int):=by omega
   have Q:IntKind.u32.wrap (x:Int)=((x%4294967296:Nat):Int):=Jt x;have S:IntKind.u32.wrap ((x:Int)/4294967296)=((x/4294967296:Nat):Int):=by show _%4294967296=_;omega
   have F:decide ((x:Int)<0)=false:=pN E
   go_enter func186,ntmps186
   go_upto_region 1 with(fail)
   refine AP ?_;intro l p b j
   go_upto_region 4 with(fail)
   have D:=b;clear b;have I:=D.lt;have C:x/4294967296<4294967296:=by omega
   have B:x%4294967296<4294967296:=qf _ (by omega);have a:=(AB l l.heap.size 241 #[.int .u32 ((x%4294967296:Nat):Int),.int .u32 ((x/4294967296:Nat):Int)] 2 rfl (lrf _) (by omega));have g:SlN .u32 (l.alloc (.cells #[.int .u32 ((x%4294967296:Nat):Int),.int .u32 ((x/4294967296:Nat):Int)] 241)) (some ⟨w.heap.size+1,0,none⟩) 2 2 [x%4294967296,x/4294967296]:=by have:=a.sl;rw[j]at this;exact this
   have d:=(Ext.refl l).alloc (.cells #[.int .u32 ((x%4294967296:Nat):Int),.int .u32 ((x/4294967296:Nat):Int)] 241)
   have s:W.bnd 4294967296 [x%4294967296,x/4294967296]:=fun z m=>by
    rcases qj.1 m with rfl|m
    · exact B
    · rw[pF.1 m];exact C
   have y:W.val 4294967296 [x%4294967296,x/4294967296]=x:=by simp only[W.val];omega
   have i:=a.ty;rw[j]at i;clear a;generalize x%4294967296=N at *
   generalize x/4294967296=J at *
   go_wp2_with fail
   refine(Ce g).mono ?_;rintro e P ⟨k,rfl,rfl,K,M⟩;have L:=Dp g i K M s y;have q:=p.trans d;have r:=D.ext d;generalize l.alloc (.cells #[.int .u32 (N:Int),.int .u32 (J:Int)] 241)=V at *
   have v:=qh (Ch (neg:=false) L (z:=(x:Int)) (by simp))
   go_wp2_with fail
   refine v.out.mono ?_;rintro e R ⟨s1,G,O,H,rfl,c,n,A⟩;have f:=r.ext c
   go_wp2_with(refine Aa (vs:=Ac s1 G O H) rfl rfl rfl rfl rfl A6 f rfl (Ae _ _ _ _) ?_;intro X o t)
   exact py (Ap rfl A6 rfl o) rfl (DK (q.trans c) f (by decide) t (by omega) n A)
structure GS(w wr:World)(g:Nat)(aa:Option Addr)(na ca:Nat)(ab:Option Addr)(nb cb X Y:Nat):Prop where
 ext:Ext w wr
 x:Mg wr aa na ca X
 y:Mg wr ab nb cb Y
 g:Nat.gcd X Y=g
 bx:X<P2 3200000
 b_y:Y<P2 3200000
theorem VN{y:Int}(h:ZR w v z)(h':ZR w v' y)(bz:z.natAbs<P2 3200000)(E:y.natAbs<P2 3200000):Calls prog 213 #[v,v'] w (Nd w (Int.gcd z y:Nat)):=by
 obtain⟨s,a,n,c,rfl,HS,hx⟩:=h;obtain⟨t,b,m,d,rfl,HT,hy⟩:=h'
 go_enter func213,ntmps213
 go_upto_region 1 with(fail)
 refine CO ?_;intro A l p q F V;have Z:=p.c 0 rfl;have a0:=p.c 1 rfl;have a2:=q.c 0 rfl;have a3:=q.c 1 rfl;have hR:Arr A (w.heap.size+2) 97 (Ac false none 0 0):=F;have f:Hid (GS w A (Int.gcd z y) a n c b m d z.natAbs y.natAbs):=qh ⟨l,hx.ext l,hy.ext l,rfl,bz,E⟩;generalize z.natAbs=X0 at *
 generalize y.natAbs=M at *
 generalize Int.gcd z y=g at *
 clear V hx hy bz E HS HT p q F;go_wp2
 go_quiet (fail)
 have j:Ext A (A.drewN nq):=(Qt.drewN (Qt.refl A) nq).ext;have G:=hR.ext j;have C:Hid (GS w (A.drewN nq) g a n c b m d X0 M):=qh ⟨f.out.ext.trans j,f.out.x.ext j,f.out.y.ext j,f.out.g,f.out.bx,f.out.b_y⟩;have hS:w.heap.size<=w.heap.size+2:=by omega
 clear f hR;generalize A.drewN nq=w1 at *
 clear Z a0 a2 a3 j l;go_wp2
 go_loopg [5,6] M (fun gk av bv wr=>∃ (N J:Option Addr) (W O B K X Y:Nat),av = .slice N W O/\bv = .slice J B K/\Y<=gk/\Arr wr (w.heap.size+2) 97 (Ac false none 0 0)/\Hid (GS w wr g N W O J B K X Y))
 case atStart=>exact⟨a,b,n,c,m,d,X0,M,rfl,rfl,lrf _,G,C⟩
 case round =>
  clear C G;obtain⟨N,J,W,O,B,K,X,Y,rfl,rfl,T,H,f⟩:=hrel;by_cases h0:B=0
  · have HX:Hid (g=X):=qh (by
     have:=f.out.y.zero.1 h0;have h2:=f.out.g;rw[this,tS]at h2
     exact h2.symm)
    have U:=qh (Ch (neg:=false) f.out.x (z:=(X:Int)) (by simp));have Q:=f.out.ext;subst h0;clear f T
    go_wp2_with fail
    refine U.out.mono ?_;rintro e w2 ⟨s1,a1,n1,c1,rfl,i,D,I⟩;have o:=H.ext i;rw[<-HX.out]at D I
    go_wp2_with(refine Aa (vs:=Ac s1 a1 n1 c1) rfl rfl rfl rfl rfl A6 o rfl (Ae _ _ _ _) ?_;intro w9 P S)
    exact py (Ap rfl A6 rfl P) rfl (DK (Q.trans i) o (by decide) S (by omega) D I)
  · have r:0<Y:=by
     rcases pT Y with h|h
     · exact absurd (f.out.y.zero.2 h) h0
     · exact h
    have a5:(0:Int)<B:=by omega
    have R:=qh (KC f.out.x f.out.y (f.out.x.len (k:=100000) f.out.bx) r);clear h0
    go_wp2_with fail
    refine R.out.mono ?_;rintro e w2 ⟨qa,qn,qc,ra,rn,rc,rfl,i,_,hr⟩;have o:=H.ext i;have L:Hid (GS w w2 g J B K ra rn rc Y (X%Y)):=qh ⟨f.out.ext.trans i,f.out.y.ext i,hr,by rw[<-f.out.g,sd X Y,wD Y X,sd],f.out.b_y,vP (qf _ r) f.out.b_y⟩;have a4:X%Y<Y:=qf _ r;go_wp2
    go_roundg (X%Y)
    case rel=>exact⟨_,_,_,_,_,_,Y,X%Y,rfl,rfl,lrf _,o,L⟩
    case measure=>omega
theorem KD{y:Int}(h:ZR w v z)(h':ZR w v' y)(bz:z.natAbs<P2 3200000)(Y:y≠0):Calls prog 215 #[v,v'] w (Yh w (z.tdiv y) (z.tmod y)):=by
 obtain⟨s,a,n,c,rfl,HS,hx⟩:=h;obtain⟨t,b,m,d,rfl,HT,hy⟩:=h';have U:=fun(i:World) (f:Ext w i)=>qh (KC (hx.ext f) (hy.ext f) (hx.len (k:=100000) bz) (by omega));clear bz Y
 go_enter func215,ntmps215
 go_upto_region 1 with(fail)
 refine V9 ?_;intro w0 G C D N O Z;have a0:=C.c 0 rfl;have a6:=C.c 1 rfl;have a3:=D.c 0 rfl;have a7:=D.c 1 rfl;have hR:Arr w0 (w.heap.size+2) 97 (Ac false none 0 0):=N;have S:Arr w0 (w.heap.size+3) 97 (Ac false none 0 0):=O;clear Z
 go_wp2_with fail
 refine(U _ G).out.mono ?_;rintro e w1 ⟨qa,qn,qc,ra,rn,rc,rfl,j,hq,hr⟩;have R:=G.trans j;have a4:=j.cell a0;have a5:=j.cell a3;go_wp2;have p:=fun(i:World) (f:Ext w1 i)=>qh (And.intro (f.cell a4) (f.cell a5))
 refine B0
  [hdP w.heap.size 0,hdB s,hdP (w.heap.size+1) 0,hdB t,hdB (s != t),hdS qa qn qc,hp (fun v i=>ZR i v (z.tdiv y)),hdP w.heap.size 0,hdB s,hdS ra rn rc,hp (fun v i=>ZR i v (z.tmod y))]
  ⟨fun v w w' e h=>ZR.ext h e,fun v w w' e h=>ZR.ext h e,trivial⟩ ⟨?o0,?o1,?o2,?o3,?o4,?o5,?o6,?o7,?o8,?o9,?o10,trivial⟩ ?fin
 case o0 | o2 | o7=>exact ofa (d:=0)
 case o1 | o3 | o8=>exact ol
 case o5 | o9=>exact omv
 case o4 =>
  refine Aj rfl fun ρ i f o h => ?_;have e0:_=_:=h.1;have e1:_=_:=h.2.1;obtain⟨H,I⟩:=(p i f).out;go_simp;cases s <;> cases t <;> rfl
 case o6 =>
  refine Ag rfl fun ρ i f o V h => ?_;have e1:_=_:=h.2.1;have e2:_=_:=h.2.2.1;obtain⟨H,I⟩:=(p i f).out;refine⟨149,#[.bool (s != t),.slice qa qn qc],by go_simp,(Ch (hq.ext f) (z:=z.tdiv y) (UE HS.out HT.out)).mono ?_⟩;rintro e w' ⟨s',L,n',M,rfl,q,B,A⟩;exact⟨_,rfl,q,s',L,n',M,rfl,B,A⟩
 case o10 =>
  refine Ag rfl fun ρ i f o V h => ?_;have e1:_=_:=h.2.1;have e2:_=_:=h.2.2.1;obtain⟨H,I⟩:=(p i f).out;refine⟨149,#[.bool s,.slice ra rn rc],by go_simp,(Ch (hr.ext f) (z:=z.tmod y) (UF HS.out)).mono ?_⟩;rintro e w' ⟨s',L,n',M,rfl,q,B,A⟩;exact⟨_,rfl,q,s',L,n',M,rfl,B,A⟩
 case fin =>
  intro i f;rintro _ ⟨s1,a1,n1,c1,rfl,J,W⟩;rintro _ ⟨s2,a2,n2,c2,rfl,K,X⟩;change wpList _ _ _ _ _ _;simp only[Ci];have r:=(hR.ext j).ext f;have T:=(S.ext j).ext f
  go_wp2_with(first
   | (refine Aa (vs:=Ac s1 a1 n1 c1) rfl rfl rfl rfl rfl A6 r rfl (Ae _ _ _ _) ?_;intro w9 P l;have x:=T.kept l (by simp))
   | (refine Aa (vs:=Ac s2 a2 n2 c2) rfl rfl rfl rfl rfl A6 x rfl (Ae _ _ _ _) ?_;intro a8 E g))
  have F:=P.kept g (by simp);have Q:=((R.trans f).grownR l (by omega)).grownR g (by omega);exact py (Np rfl A6 A6 rfl rfl F E) rfl ⟨s1,a1,n1,c1,s2,a2,n2,c2,rfl,Q,⟨J,(W.keptA r (by decide) l).keptA x (by decide) g⟩,⟨K,(X.keptA r (by decide) l).keptA x (by decide) g⟩⟩
theorem Mg.top(h:Mg w a n c x)(l:0<n):∃ b e t,a=some ⟨b,e,none⟩/\w.cell? ⟨b,e+(n-1),none⟩=some (.int .u32 ((t:Nat):Int))/\0<t/\t<4294967296/\(n=1->x=t)/\(1<n->4294967296<=x):=by
 obtain⟨f,h1,h2,h3⟩:=h;obtain⟨b,e,rfl,i⟩:=h1.at (j:=n-1) (by omega);have g:=h1.len;have d:f≠[]:=by rintro rfl;simp at g;omega
 have m:=h2.nrm d;have k:f.getD (n-1) 0=f.getLast d:=by
  rw[sY,gqq,<-g,oO (by omega),pY]
 refine⟨b,e,f.getD (n-1) 0,rfl,i (n-1) (by omega),by omega,?_,?_,?_⟩
 · rw[k];exact h2.bnd _ (List.getLast_mem d)
 · intro h5;subst h5
   match f,g with
   | [y],_=>have h6:=h2.val;simp[W.val]at h6;simpa using h6.symm
 · intro h5;have h6:=W.nrm_pos (B:=4294967296) (by omega) h2.nrm d;rw[h2.val,g]at h6;exact pD (by have:=pR (n:=4294967296) (by omega) (show 1<=n-1 by omega);simpa using this) h6
def Xr(w:World)(x:Nat)(e:Ending)(w':World):Prop:=∃ k:Nat,e = .returned (.int .i64 k)/\Ext w w'/\k<=10000000/\(k=1<->x=1)/\(1<k<->1<x)
theorem KE(h:ZR w v z)(q:z.natAbs<P2 3200000):Calls prog 214 #[v] w (Xr w z.natAbs):=by
 have Y:=h;obtain⟨s,a,n,c,rfl,U,y⟩:=h;have O:=y.len (k:=100000) q;by_cases h0:n=0
 · have S:z.natAbs=0:=y.zero.1 h0;subst h0;clear q O
   go_enter func214,ntmps214
   go_upto_region 1 with(fail)
   refine AP ?_;intro H d b o;have A:=b.c 0 rfl;have C:=b.c 1 rfl;go_wp2;go_ret;exact⟨0,rfl,d,by omega,by omega,by omega⟩
 · obtain⟨g,T,t,rfl,p,Q,r,l,m⟩:=y.top (by omega);have P:((n:Int) == 0)=false:=by simpa using h0
   have K:=qh (And.intro l m);have e:IntKind.i64.wrap (32*((n:Int)-1))=((32*(n-1):Nat):Int):=by rw[pq _ (by omega)];omega
   have F:(n:Int)-1=((n-1:Nat):Int):=by omega
   have R:IntKind.i64.wrap ((n:Int)-1)=((n-1:Nat):Int):=by rw[pq _ (by omega)];omega
   clear q l m
   go_enter func214,ntmps214
   go_upto_region 1 with(fail)
   refine AP ?_;intro H d b o;have A:=b.c 0 rfl;have C:=b.c 1 rfl;have Z:=d.cell p;clear p o;obtain⟨B,E⟩:∃ B,32*(n-1)=B:=⟨_,rfl⟩;have M:B<=3200000:=by omega
   have I:Hid (n=1/\B=0\/1<n/\32<=B):=by show _\/_;omega
   rw[E]at e
   go_upto_region 5 with(fail)
   go_loopw[3,4] (fun L D wr=>∃ j u:Nat,L = .int .i64 ((B+j:Nat):Int)/\D = .int .u32 u/\u<4294967296/\wr=H/\j<=32/\Hid (u*2^j<=t/\(j=0->u=t)/\(j=1->u=t/2)/\(2<=j->2<=t))) (fun _ D _=>(intOf D).toNat)
   case atStart=>exact⟨0,t,by go_num,rfl,r,rfl,by omega,qh ⟨by omega,fun _=>rfl,fun h=>by omega,fun h=>by omega⟩⟩
   case round =>
    obtain⟨j,u,rfl,rfl,hu,rfl,X,f⟩:=hrel;by_cases x:0<u
    · have i:(0:Int)<u:=by omega
      have G:j<32:=by
       refine md fun p => ?_;have h1:2^32<=2^j:=pR (by omega) p;have h2:1*2^j<=u*2^j:=px _ x;have h3:=f.out.1;omega
      have J:Hid (u/2*2^(j+1)<=t/\(j+1=0->u/2=t)/\(j+1=1->u/2=t/2)/\(2<=j+1->2<=t)):=by
       obtain⟨h1,h2,h3,h4⟩:=f.out;refine⟨?_,fun h=>by omega,fun h=>by rw[h2 (by omega)],fun h => ?_⟩
       · refine pD ?_ h1;rw[qB,pM (2^j) 2,<-rT];exact px _ (oA u 2)
       · by_cases h5:j=1
         · have:=h3 h5;omega
         · exact h4 (by omega)
      have V:((u:Int)).fdiv (2^min (Int.toNat 1) IntKind.u32.bits)=((u/2:Nat):Int):=by
       show((u:Int)).fdiv 2=_;rw[Int.fdiv_eq_ediv_of_nonneg _ (by omega)];rfl
      go_wp2;go_roundw
      case rel=>exact⟨j+1,u/2,by go_num,by go_num,by omega,by first | rfl | trivial,by omega,J⟩
      case measure=>simp[intOf];omega
    · have i:¬ (0:Int)<u:=by omega
      have N:1<=j:=by
       rcases pT j with h|h
       · have:=f.out.2.1 h;omega
       · exact h
      have h1:j=1->t=1:=fun h=>by have:=f.out.2.2.1 h;omega
      have h2:2<=j->2<=t:=f.out.2.2.2;have W:=K.out;have E:=I.out;go_wp2;go_ret;exact⟨B+j,rfl,d,by omega,by omega,by omega⟩
theorem By:Agg prog 99 4:=⟨by kernel_rfl,by kernel_rfl⟩
def QV(w:World)(v:Value)(q:Rat):Prop:=∃ s a n c b m d,v = .agg (Al s a n c false b m d).toArray/\Hid (decide (q.num<0)=s)/\Mg w a n c q.num.natAbs/\Mg w b m d (A9 q).natAbs
theorem QV.ext{w f:World}{v:Value}{q:Rat}(h:QV w v q)(e:Ext w f):QV f v q:=by
 obtain⟨s,a,n,c,b,m,d,h1,h2,h3,h4⟩:=h;exact⟨s,a,n,c,b,m,d,h1,h2,h3.ext e,h4.ext e⟩
theorem CG(h:q.den=1):(A9 q).natAbs=0:=by rw[AG.2 h];rfl
theorem QV.zero(w:World):QV w (.agg (Al false none 0 0 false none 0 0).toArray) 0:=⟨false,none,0,0,none,0,0,rfl,qh rfl,Mg.nil w,Mg.nil w⟩
def OL(w:World)(q:Rat)(e:Ending)(w':World):Prop:=∃ s a n c b m d,e = .returned (.agg (Al s a n c false b m d).toArray)/\Ext w w'/\Hid (decide (q.num<0)=s)/\Mg w' a n c q.num.natAbs/\Mg w' b m d (A9 q).natAbs
theorem OL.r{e:Ending}(h:OL w q e w'):∃ v,e = .returned v/\Ext w w'/\QV w' v q:=by
 obtain⟨s,a,n,c,b,m,d,h1,h2,h3⟩:=h;exact⟨_,h1,h2,s,a,n,c,b,m,d,rfl,h3⟩
theorem Fj(j:Ext w w1)(f:Arr w1 R t cs)(g:241≠t)(e:w1.grownBy w9 (some R))(k:w.heap.size<=R)(i:Hid (decide (q.num<0)=s))(l:Mg w1 a n c q.num.natAbs)(o:Mg w1 b m d (A9 q).natAbs):OL w q (.returned (.agg (Al s a n c false b m d).toArray)) w9 :=
 ⟨s,a,n,c,b,m,d,rfl,j.grownR e k,i,l.keptA f g e,o.keptA f g e⟩
theorem KF(d:Ext w w1)(e:Arr w1 R t cs)(g:241≠t)(f:w1.grownBy w9 (some R))(i:w.heap.size<=R)(b:Hid (decide (z<0)=s))(j:Mg w1 a n c z.natAbs):OL w (z:Rat) (.returned (.agg (Al s a n c false none 0 0).toArray)) w9 :=
 Fj d e g f i b j (by rw[CG (q:=(z:Rat)) rfl];exact Mg.nil w1)
theorem Jv(h:QV w v q):Calls prog 185 #[v] w (Nd w (q.den:Int)):=by
 obtain⟨s,a,n,c,b,m,d,rfl,P,D,x⟩:=h;have y:Hid (decide ((q.den:Int)<0)=false):=qh (pN (by omega));by_cases h1:q.den=1
 · have A:m=0:=x.zero.2 (CG h1);have E:=qh h1;subst A;clear h1 D x
   go_enter func185,ntmps185
   go_upto_region 1 with(fail)
   refine Cf ?_;intro B j f k p;have K:=f.c 0 rfl;have L:=f.c 1 rfl;have M:=f.c 2 rfl;have N:=f.c 3 rfl;have H:Arr B (w.heap.size+1) 97 (Ac false none 0 0):=k;clear p
   go_wp2_with fail
   refine(IQ (z:=1) (by omega)).mono ?_;rintro e Q ⟨s1,F,J,G,rfl,t,r,i⟩;have g:=H.ext t;rw[show(1:Int)=(q.den:Int) by rw[E.out];rfl]at r i
   go_wp2_with(refine Aa (vs:=Ac s1 F J G) rfl rfl rfl rfl rfl A6 g rfl (Ae _ _ _ _) ?_;intro O l o)
   exact py (Ap rfl A6 rfl l) rfl (DK (j.trans t) g (by decide) o (by omega) r i)
 · have C:=qh (Bi h1);have I:((m:Int) == 0)=false:=by
    have h2:m≠0:=fun h0=>by
     have h3:=x.zero.1 h0;rw[Bi h1]at h3;exact q.den_nz h3
    simpa using h2
   clear h1
   go_enter func185,ntmps185
   go_upto_region 1 with(fail)
   refine Cf ?_;intro B j f k p;have K:=f.c 0 rfl;have L:=f.c 1 rfl;have M:=f.c 2 rfl;have N:=f.c 3 rfl;have g:Arr B (w.heap.size+1) 97 (Ac false none 0 0):=k;have i:=x.ext j;rw[C.out]at i;clear p x D C
   go_wp2_with(refine Aa (vs:=Ac false b m d) rfl rfl rfl rfl rfl A6 g rfl (Ae _ _ _ _) ?_;intro O l o)
   exact py (Ap rfl A6 rfl l) rfl (DK j g (by decide) o (by omega) y i)
theorem RI(q : -9223372036854775808<=z/\z<9223372036854775808):Calls prog 118 #[.int .i64 z] w (OL w (z:Rat)):=by
 go_enter func118,ntmps118
 go_upto_region 1 with(fail)
 refine AP ?_;intro r j g m;have o:Arr r w.heap.size 99 (Al false none 0 0 false none 0 0):=g;clear m
 go_wp2_with fail
 refine(IQ q).mono ?_;rintro e s ⟨s1,d,n,f,rfl,a,c,l⟩;have b:=o.ext a;have p:(Ac s1 d n f).toArray=#[.bool s1,.slice d n f]:=rfl
 go_wp2_with(refine Aa (vs:=Al s1 d n f false none 0 0) rfl rfl rfl rfl rfl By b rfl (Aq _ _ _ _ _ _ _ _) ?_;intro t i k)
 exact py (Ap rfl By rfl i) rfl (KF (j.trans a) b (by decide) k (by omega) c l)
theorem Md(h:QV w v q){r:Int}(l:q.num.sign=r):Calls prog 132 #[v] w fun e y=>e = .returned (.int .i64 r)/\Ext w y:=by
 obtain⟨s,a,n,c,b,m,d,rfl,p,o,x⟩:=h;have j:=fun(z:World) (t:Ext w z)=>qh (KB (v := .agg (Ac s a n c).toArray) ⟨s,a,n,c,rfl,p,o.ext t⟩ l);clear l o x
 go_enter func132,ntmps132
 go_upto_region 1 with(fail)
 refine AP ?_;intro E g f k;have A:=f.c 0 rfl;have B:=f.c 1 rfl;have C:=f.c 2 rfl;have D:=f.c 3 rfl;clear k
 go_wp2_with fail
 refine(j _ g).out.mono ?_;rintro e F ⟨rfl,i⟩;go_wp2;go_ret;exact⟨rfl,g.trans i⟩
theorem Rq:Agg prog 103 5:=⟨by kernel_rfl,by kernel_rfl⟩
theorem AJ:Agg prog 44 2:=⟨by kernel_rfl,by kernel_rfl⟩
theorem Y6(h:k<l.length):l.getD k 0∈l:=by
 rw[gqq,oO h,pY];exact qG h
def XI(w:World)(b0:Nat)(a:Option Addr)(n c:Nat)(xs:List Int):Prop:=SlI w a n c xs/\(0<n->∀ g,blk a=some g->g<b0\/∃ cs fr,w.heap[g]?=some (.cells cs 3 fr))
theorem XI.ext{w b:World}{b0:Nat}{a:Option Addr}{n c:Nat}{xs:List Int}(h:XI w b0 a n c xs)(e:Ext w b):XI b b0 a n c xs:=by
 refine⟨h.1.ext e,fun h0 g i=>(h.2 h0 g i).imp id ?_⟩;rintro⟨d,f,h1⟩;exact⟨d,f,by rw[e.block (qH.1 h1).1];exact h1⟩
def tL(s:Bool)(a:Option Addr)(n c:Nat)(b:Option Addr)(m d:Nat)(e:Option Addr)(k f:Nat):List Value:=Al s a n c false b m d ++ [.slice e k f]
def TC(w:World)(b0:Nat)(row:List Value)(t:Pl.Tm):Prop:=∃ s a n c b m d e k f,row=tL s a n c b m d e k f/\Hid (decide (t.2.num<0)=s)/\Mg w a n c t.2.num.natAbs/\Mg w b m d (A9 t.2).natAbs/\XI w b0 e k f t.1
theorem TC.ext{w g:World}{b0:Nat}{row:List Value}{t:Pl.Tm}(h:TC w b0 row t)(x:Ext w g):TC g b0 row t:=by
 obtain⟨s,a,n,c,b,m,d,e,k,f,h1,h2,h3,h4,h5⟩:=h;exact⟨s,a,n,c,b,m,d,e,k,f,h1,h2,h3.ext x,h4.ext x,h5.ext x⟩
theorem FM{e:Option Addr}{f:Nat}:∀ v∈tL s a n c b m d e k f,v.oneCell'=true:=by
 intro v g;simp only[tL,Al,Ac,rX,qR,qj,rI,vQ]at g;rcases g with rfl|rfl|rfl|rfl|rfl <;> rfl
theorem XI.kept{cs:Array Value}{l:Nat×Nat}(h:XI w b0 a n c xs)(m:w.heap[g]?=some (.cells cs t l))(o:3≠t)(h0:b0<=g)(i:w.grownBy w' (some g)):XI w' b0 a n c xs:=by
 have f:0<n->blk a≠some g:=by
  intro b he;rcases h.2 b g he with h1|⟨d,e,h1⟩
  · omega
  · rw[m]at h1;simp only[pz,rW]at h1;exact o h1.2.1.symm
 refine⟨?_,fun b k j => ?_⟩
 · rcases pT n with b|b
   · subst b;exact⟨Sl.len h.1,Sl.cap h.1,Sl.max h.1,fun h=>absurd h (wu _)⟩
   · exact Sl.keptR h.1 i (Or.inr (f b))
 · refine(h.2 b k j).imp id ?_;rintro⟨d,e,h1⟩;exact⟨d,e,by rw[i.block k (qH.1 h1).1 (by rw[<-j];exact f b)];exact h1⟩
theorem TC.kept{w r:World}{b0 g:Nat}{t:TypeId}{i:Array Value}{j:Nat×Nat}{row:List Value}{x:Pl.Tm}(h:TC w b0 row x)(p:w.heap[g]?=some (.cells i t j))(v:3≠t)(hu:241≠t)(h0:b0<=g)(o:w.grownBy r (some g)):TC r b0 row x:=by
 obtain⟨s,a,n,c,b,m,d,e,k,f,h1,h2,h3,h4,h5⟩:=h
 have q:∀ l,some g=some l->∃ i t j,w.heap[l]?=some (.cells i t j)/\241≠t:=fun l he=>by
  injection he with he;subst he;exact⟨_,_,_,p,hu⟩
 exact⟨s,a,n,c,b,m,d,e,k,f,h1,h2,h3.kept o q,h4.kept o q,h5.kept p v h0 o⟩
abbrev tz:Pl.Tm:=([],0)
def TSl(w:World)(b0:Nat)(a:Option Addr)(n c:Nat)(l:List Pl.Tm):Prop:=∃ rows,SlK w 5 a n c rows/\l.length=n/\∀ i,i<n->TC w b0 (rows.getD i []) (l.getD i tz)
theorem TSl.ext{w d:World}{b0:Nat}{a:Option Addr}{n c:Nat}{l:List Pl.Tm}(h:TSl w b0 a n c l)(x:Ext w d):TSl d b0 a n c l:=by
 obtain⟨b,h1,h2,h3⟩:=h;exact⟨b,h1.ext x,h2,fun i e=>(h3 i e).ext x⟩
theorem TSl.nil(w:World)(b0:Nat):TSl w b0 none 0 0 []:=⟨[],SlK.nil w 5,rfl,fun i a=>absurd a (by omega)⟩
theorem TSl.len{l:List Pl.Tm}(h:TSl w b0 a n c l):l.length=n:=h.choose_spec.2.1
theorem TSl.le{l:List Pl.Tm}(h:TSl w b0 a n c l):n<=c/\c<=maxLen:=⟨h.choose_spec.1.cap,h.choose_spec.1.max⟩
def TO(w:World)(b0 base:Nat)(a:Option Addr)(n c:Nat)(l:List Pl.Tm):Prop:=∃ rows,AR w base 103 5 a n c rows/\l.length=n/\∀ i,i<n->TC w b0 (rows.getD i []) (l.getD i tz)
theorem TO.ext{w d:World}{b0 base:Nat}{a:Option Addr}{n c:Nat}{l:List Pl.Tm}(h:TO w b0 base a n c l)(x:Ext w d):TO d b0 base a n c l:=by
 obtain⟨b,h1,h2,h3⟩:=h;exact⟨b,h1.ext x,h2,fun i e=>(h3 i e).ext x⟩
theorem TO.sl{l:List Pl.Tm}(h:TO w b0 base a n c l):TSl w b0 a n c l:=by
 obtain⟨b,h1,h2,h3⟩:=h;exact⟨b,h1.slk (by omega),h2,h3⟩
theorem TO.nil(w:World)(b0 base:Nat):TO w b0 base none 0 0 []:=⟨[],AR.nil _ _ _ _,rfl,fun i a=>absurd a (by omega)⟩
theorem TO.mono{w:World}{b0 base b:Nat}{a:Option Addr}{n c:Nat}{l:List Pl.Tm}(h:TO w b0 base a n c l)(e:b<=base):TO w b0 b a n c l:=by
 obtain⟨d,h1,h2,h3⟩:=h;exact⟨d,h1.mono e,h2,h3⟩
theorem TO.lt{w:World}{b0 base:Nat}{a:Option Addr}{n c:Nat}{l:List Pl.Tm}(h:TO w b0 base a n c l){g:Nat}(d:blk a=some g):base<=g/\g<w.heap.size:=by
 obtain⟨b,h1,_⟩:=h;exact h1.lt d
theorem AR.ty(h:AR w base e k a n c rows){g:Nat}(d:blk a=some g):∃ i l,w.heap[g]?=some (.cells i e l):=by
 rcases h.2.2 with⟨b,_⟩|⟨m,f,j,b,_,o,_⟩
 · simp only[pI]at b;rw[b.1]at d;cases d
 · simp only[pI]at b;rw[b.1]at d;have:m=g:=by simpa[blk]using d
   subst this;exact⟨_,_,o⟩
theorem TSl.at{w:World}{b0:Nat}{a:Option Addr}{n c:Nat}{l:List Pl.Tm}(h:TSl w b0 a n c l){i:Nat}(hi:i<n):∃ b d,a=some ⟨b,d,none⟩/\∃ s j r o m q p e k f,w.cell? ⟨b,d+i*5,none⟩=some (.bool s)/\w.cell? ⟨b,d+i*5+1,none⟩=some (.slice j r o)/\w.cell? ⟨b,d+i*5+2,none⟩=some (.bool false)/\w.cell? ⟨b,d+i*5+3,none⟩=some (.slice m q p)/\w.cell? ⟨b,d+i*5+4,none⟩=some (.slice e k f)/\Hid (decide ((l.getD i tz).2.num<0)=s)/\Mg w j r o (l.getD i tz).2.num.natAbs/\Mg w m q p (A9 (l.getD i tz).2).natAbs/\XI w b0 e k f (l.getD i tz).1:=by
 obtain⟨t,h1,h2,h3⟩:=h;obtain⟨b,d,v,g⟩:=h1.rd (by omega);obtain⟨s,j,r,o,m,q,p,e,k,f,h4,h5,h6,h7,h8⟩:=h3 i hi;refine⟨b,d,v,s,j,r,o,m,q,p,e,k,f,?_,?_,?_,?_,?_,h5,h6,h7,h8⟩
 · have:=g i hi 0 (by omega);rw[h4]at this;exact this
 · have:=g i hi 1 (by omega);rw[h4]at this;exact this
 · have:=g i hi 2 (by omega);rw[h4]at this;exact this
 · have:=g i hi 3 (by omega);rw[h4]at this;exact this
 · have:=g i hi 4 (by omega);rw[h4]at this;exact this
def TB(N:Nat)(l:List Pl.Tm):Prop:=∀ t∈l,t.1.length=N/\∀ x∈t.1,-1099511627776<=x/\x<=1099511627776
theorem TB.perm{l a:List Pl.Tm}(h:TB N l)(p:a.Perm l):TB N a:=fun t b=>h t (p.subset b)
theorem TB.get{l:List Pl.Tm}(h:TB N l){i:Nat}(hi:i<l.length):(l.getD i tz).1.length=N/\∀ x∈(l.getD i tz).1,-1099511627776<=x/\x<=1099511627776:=by
 rw[gqq,oO hi,pY];exact h _ (qG hi)
theorem getD_some{l:List Pl.Tm}{i:Nat}(hi:i<l.length):l[i]?=some (l.getD i tz):=by
 rw[gqq,oO hi,pY]
theorem B8:BV prog 103 [.bool false,.slice none 0 0,.bool false,.slice none 0 0,.slice none 0 0] 5 88:=⟨by kernel_rfl,rfl,by omega⟩
theorem SlK.cl{b a:Nat}(h:SlK w k (some ⟨b,a,none⟩) n c rows){i j:Nat}(hi:i<n)(g:j<k):w.cell? ⟨b,a+i*k+j,none⟩=some ((rows.getD i []).getD j undef):=by
 obtain⟨l,e,d,f⟩:=h.rd (by omega);simp only[pz,qq,qO]at d;obtain⟨rfl,rfl⟩:=d;exact f i hi j g
theorem TSl.row{l:List Pl.Tm}(h:TSl w b0 a n c l){i:Nat}(hi:i<n):∃ b g d s j r o m q p e k f,a=some ⟨b,g,none⟩/\SlK w 5 a n c d/\d.getD i []=tL s j r o m q p e k f/\Hid (decide ((l.getD i tz).2.num<0)=s)/\Mg w j r o (l.getD i tz).2.num.natAbs/\Mg w m q p (A9 (l.getD i tz).2).natAbs/\XI w b0 e k f (l.getD i tz).1:=by
 obtain⟨d,h1,h2,h3⟩:=h;obtain⟨b,g,t,-⟩:=h1.rd (by omega);obtain⟨s,j,r,o,m,q,p,e,k,f,h4,h5⟩:=h3 i hi;exact⟨b,g,d,s,j,r,o,m,q,p,e,k,f,t,h1,h4,h5⟩
theorem TC.grownO{row:List Value}{x:Pl.Tm}(h:TC w b0 row x)(e:AR w base 103 5 a n c rows)(f:b0<=base)(d:w.grownBy w' (blk a)):TC w' b0 row x:=by
 cases b:blk a with
 | none =>
  rw[b]at d;exact h.ext ((Ext.refl w).grown d (fun k i=>by cases i))
 | some g =>
  obtain⟨j,l,h1⟩:=e.ty b;rw[b]at d;exact h.kept h1 (by decide) (by decide) (pD f (e.lt b).1) d
theorem TO.grow{c':Nat}{l:List Pl.Tm}{row:List Value}{t:Pl.Tm}(d:AR w base 103 5 a n c rows)(j:l.length=n)(m:∀ i,i<n->TC w b0 (rows.getD i []) (l.getD i tz))(p:TC w b0 row t)(f:b0<=base)(k:AR w' base 103 5 a' (n+1) c' (rows ++ [row]))(g:w.grownBy w' (blk a)):TO w' b0 base a' (n+1) c' (l ++ [t]):=by
 refine⟨_,k,by simp[j],fun i q => ?_⟩;have o:rows.length=n:=d.len (by omega);by_cases e:i<n
 · have h1:(rows ++ [row]).getD i []=rows.getD i []:=by rw[gqq,pO (by omega),<-gqq]
   have h2:(l ++ [t]).getD i tz=l.getD i tz:=by rw[gqq,pO (by omega),<-gqq]
   rw[h1,h2];exact(m i e).grownO d f g
 · have b:i=n:=by omega
   have h1:(rows ++ [row]).getD i []=row:=by rw[gqq,pW (by omega),o,b,ro];rfl
   have h2:(l ++ [t]).getD i tz=t:=by rw[gqq,pW (by omega),j,b,ro];rfl
   rw[h1,h2];exact p.grownO d f g
section
variable {P:Program} {w:World}
theorem Lq(m:P.underlying t=some (.slice e))(b:BV P e zs k bytes)(l:h<=c) :
 (Instr.sliceAt t (.slice a n c) none (some (.int .i64 h)) none).run P w = .ok (.slice a h c) w:=by
 obtain⟨i,j,o,d,g⟩:=b.parts;have f:(if c=0 then a else a.map (fun x=>x.add 0))=a:=by
  split
  · rfl
  · cases a <;> simp[Addr.add]
 have h0:(0:Int)<=h:=by omega
 have h1:(h:Int)<=c:=by omega
 simp[Instr.sliceAt,Instr.slice,Instr.sliceBounds,Instr.sliceBound,qF m,asIntOf,sizeOf,typeInfo,j,l,f]
theorem I9(l:P.underlying t=some (.slice e))(b:BV P e zs k bytes)(j:h<=n) :
 (Instr.sliceAt t (.slice a n c) (some (.int .i64 h)) none none).run P w = .ok (.slice (if c=h then a else a.map (fun x=>x.add (h*k))) (n-h) (c-h)) w:=by
 obtain⟨i,g,m,d,f⟩:=b.parts;simp[Instr.sliceAt,Instr.slice,Instr.sliceBounds,Instr.sliceBound,qF l,asIntOf,sizeOf,typeInfo,g,d,j]
end
section
variable {P:Program} {ops:Array Oper} {hs:List Hd} {a0:Act} {C:World->Prop} {i:Nat} {o:Oper}
theorem Lr{x y:Operand}(j:o.guard=none)(f:o.op = .slice t x none (some y) none)
 (p:P.underlying t=some (.slice e)) (b:BV P e zs k bytes) (l:∀ d w,DE d->Cq ops hs a0 o d w [x,y]->d x = .slice a n c/\d y = .int .i64 h) (m:h<=c) :
 obl P C ops hs a0 i o (he (.slice a h c)) :=
 Q8 j fun d w hp _ g=>by
  rw[f]at g;obtain⟨h1,h2⟩:=l d w hp g;simp only[execOp,f,h1,h2,qU,oW,q8,Lq p b m,pK,qz]
theorem Ja{x y:Operand}(j:o.guard=none)(f:o.op = .slice t x (some y) none none)
 (p:P.underlying t=some (.slice e)) (b:BV P e zs k bytes) (l:∀ d w,DE d->Cq ops hs a0 o d w [x,y]->d x = .slice a n c/\d y = .int .i64 h) (m:h<=n) :
 obl P C ops hs a0 i o (he (.slice (if c=h then a else a.map (fun x=>x.add (h*k))) (n-h) (c-h))) :=
 Q8 j fun d w hp _ g=>by
  rw[f]at g;obtain⟨h1,h2⟩:=l d w hp g;simp only[execOp,f,h1,h2,qU,oW,q8,I9 p b m,pK,qz]
end
theorem TSl.to{l:List Pl.Tm}(q:TSl w b0 a n c l)(f:h<=n):TSl w b0 a h c (l.take h):=by
 obtain⟨d,h1,h2,h3⟩:=q;refine⟨d.take h,⟨by rw[qg,h1.len,rA f],pD f h1.cap,h1.max,fun r g=>h1.wid r (rF g),fun h0 => ?_⟩,by rw[qg,h2,rA f],fun i e => ?_⟩
 · obtain⟨b,k,m,o⟩:=h1.rd (by omega);refine⟨b,k,m,fun i e j p => ?_⟩;have g:(d.take h).getD i []=d.getD i []:=by rw[gqq,sj e,<-gqq]
   rw[o i (by omega) j p,g]
 · have:=h3 i (by omega);rw[gqq,sj e,<-gqq,gqq (l:=l.take h),sj e,<-gqq];exact this
theorem TSl.fr{l:List Pl.Tm}(q:TSl w b0 a n c l)(s:h<=n):TSl w b0 (if c=h then a else a.map (fun x=>x.add (h*5))) (n-h) (c-h) (l.drop h):=by
 obtain⟨d,h1,h2,h3⟩:=q;have g:=h1.cap;have k:=h1.max;refine⟨d.drop h,⟨by rw[tf,h1.len],by omega,by omega,fun r f=>h1.wid r (tC f),fun h0 => ?_⟩,by rw[tf,h2],fun i o => ?_⟩
 · obtain⟨b,e,rfl,m⟩:=h1.rd (by omega);rw[pC (by omega)];refine⟨b,e+h*5,?_,fun i o j p => ?_⟩
   · show some (Addr.add ⟨b,e,none⟩ (h*5))=_;unfold Addr.add;by_cases h0:h*5=0 <;> simp[h0]
   have f:(d.drop h).getD i []=d.getD (h+i) []:=by rw[gqq,se,<-gqq]
   have:=m (h+i) (by omega) j p;rw[qJ,<-sB]at this;rw[this,f]
 · have:=h3 (h+i) (by omega);rw[gqq,se,<-gqq,gqq (l:=l.drop h),se,<-gqq];exact this
def Yl(w:World)(b0:Nat)(l:List Pl.Tm)(e:Ending)(w':World):Prop:=∃ a n c l',e = .returned (.slice a n c)/\Ext w w'/\TSl w' b0 a n c l'/\l'.Perm l/\Pl.desc l'
theorem Rr{x y:Int}(h:x≠y):Pl.cmpI x y=if x<y then -1 else 1:=by
 unfold Pl.cmpI;split
 · rfl
 · rw[pP (by omega)]
theorem FN{ys:List Int}(O:SlI w a n c xs)(P:SlI w b n d ys)(hn:n<=12)(V:∀ x∈xs,-1099511627776<=x/\x<=1099511627776)(C:∀ x∈ys,-1099511627776<=x/\x<=1099511627776) :
 Calls prog 154 #[.slice a n c,.slice b n d] w fun e w'=>e = .returned (.int .i64 (Pl.ordE xs ys))/\Qt w w':=by
 have Z:=lz (GR V (by omega));have HY:=lz (GR C (by omega));have a1:=O.len;have a2:=P.len
 go_enter func154,ntmps154
 go_wp2
 go_loopw[5,6,7] (fun av bv A wr=>∃ (k:Nat) (p q:Int),av = .int .i64 p/\bv = .int .i64 q/\A = .int .i64 k/\k<=n/\Qt w wr/\Hid ((xs.take k).sum=p/\(ys.take k).sum=q)) (fun _ _ A _=>n-(intOf A).toNat)
 case atStart=>exact⟨0,0,0,rfl,rfl,rfl,pE _,Qt.refl _,lz ⟨rfl,rfl⟩⟩
 case round =>
  obtain⟨k,p,q,rfl,rfl,rfl,hk,g,v⟩:=hrel;have T:=Z.out k (by omega);have U:=HY.out k (by omega);rw[v.out.1]at T;rw[v.out.2]at U;by_cases o:k<n
  · obtain⟨S,H,rfl,D⟩:=(O.ext g.ext).at o;obtain⟨B,t,rfl,l⟩:=(P.ext g.ext).at o;have W:=D k o;have X:=l k o;have m1:=V (xs.getD k 0) (by simp[show k<xs.length by omega]);have m2:=C (ys.getD k 0) (by simp[show k<ys.length by omega]);have M:Hid ((xs.take (k+1)).sum=p+xs.getD k 0/\(ys.take (k+1)).sum=q+ys.getD k 0):=lz ⟨by rw[DY (by omega),v.out.1],by rw[DY (by omega),v.out.2]⟩;clear D l;generalize xs.getD k 0=x at *
    generalize ys.getD k 0=y at *
    have w1:IntKind.i64.wrap (p+x)=p+x:=pq _ (by omega);have Y:IntKind.i64.wrap (q+y)=q+y:=pq _ (by omega);go_wp2
    go_quiet (fail)
    go_wp2;go_roundw
    case rel=>exact⟨k+1,p+x,q+y,by first | rfl | go_num | exact q9 (Value.int .i64) w1,by first | rfl | go_num | exact q9 (Value.int .i64) Y,by go_num,by omega,g.drewN _,M⟩
    case measure=>simp[intOf];omega
  · have N:k=n:=by omega
    subst N
    have J:Hid (Pl.ordE xs ys=if p=q then E7 xs ys k else Pl.cmpI p q):=lz (by
     have h1:=v.out.1;have h2:=v.out.2;unfold Pl.ordE E7;rw[pu (by omega)]at h1 h2 |-;rw[pu (by omega)]
     rw[h1,h2])
    by_cases z:p=q
    · subst z;have i:Hid (Pl.ordE xs ys=E7 xs ys k):=lz (by rw[J.out,pP rfl]);clear T U v J;go_wp2
      go_loopw[8] (fun A wr=>∃ m:Nat,A = .int .i64 ((m:Int)-1)/\m<=k/\Qt w wr/\Hid (E7 xs ys k=E7 xs ys m)) (fun A _=>(intOf A+1).toNat)
      case atStart=>exact⟨k,by first | rfl | go_num,lrf _,g,lz rfl⟩
      case round =>
       obtain⟨m,rfl,hm,E,K⟩:=hrel;by_cases h0:m=0
       · subst h0;have I:Hid (Pl.ordE xs ys=0):=lz (by rw[i.out,K.out,LU]);go_wp2;go_ret;exact⟨by rw[I.out];rfl,E⟩
       · obtain⟨j,rfl⟩:∃ j,m=j+1:=⟨m-1,by omega⟩;have hj:(((j+1:Nat):Int)-1)=(j:Int):=by omega
         rw[hj];obtain⟨S,H,rfl,D⟩:=(O.ext E.ext).at (k:=j) (by omega);obtain⟨B,t,rfl,l⟩:=(P.ext E.ext).at (k:=j) (by omega);have W:=D j (by omega);have X:=l j (by omega);have R:=lz (LW (xs:=xs) (ys:=ys) (k:=j) (by omega) (by omega));clear D l;generalize xs.getD j 0=x at *
         generalize ys.getD j 0=y at *
         by_cases r:x=y
         · have L:Hid (E7 xs ys k=E7 xs ys j):=lz (by rw[K.out,R.out,pP r]);subst r;go_wp2
           go_quiet (fail)
           go_wp2;go_roundw
           case rel=>exact⟨j,by first | rfl | go_num,by omega,E.drewN _,L⟩
           case measure=>simp[intOf]
         · have I:Hid (Pl.ordE xs ys=Pl.cmpI y x):=lz (by rw[i.out,K.out,R.out,pC r]);have Q:=lz (Rr (x:=y) (y:=x) (fun h=>r h.symm));have a0:(j:Int)<k:=by omega
           go_wp2
           go_quiet (fail)
           have d1:(wr.drewN nq).cell? ⟨S,H+j,none⟩=some (.int .i64 x):=W;have d2:(wr.drewN nq).cell? ⟨B,t+j,none⟩=some (.int .i64 y):=X;have F:=E.drewN nq;generalize wr.drewN nq=Y at *
           by_cases G:y<x
           · have f:Hid (Pl.ordE xs ys = -1):=lz (by rw[I.out,Q.out,pP G]);go_wp2
             go_quiet (fail)
             go_wp2;go_ret;exact⟨by rw[f.out];rfl,F.drewN _⟩
           · have f:Hid (Pl.ordE xs ys=1):=lz (by rw[I.out,Q.out,pC G]);go_wp2
             go_quiet (fail)
             go_wp2;go_ret;exact⟨by rw[f.out];rfl,F.drewN _⟩
    · have i:Hid (Pl.ordE xs ys=if p<q then -1 else 1):=lz (by rw[J.out,pC z,Rr z]);by_cases s:p<q
      · have f:Hid (Pl.ordE xs ys = -1):=lz (by rw[i.out,pP s]);go_wp2;go_ret;exact⟨by rw[f.out];rfl,g⟩
      · have f:Hid (Pl.ordE xs ys=1):=lz (by rw[i.out,pC s]);go_wp2;go_ret;exact⟨by rw[f.out];rfl,g⟩
end Go.Proofs.YtlbmnokpiilfpaaGreatDoor
namespace Go.Proofs.YtlbmnokpiilfpaaGreatDoor.Pl
variable {a b c:List Int} {i k n:Nat}
theorem Ls(e:a.length=n)(d:b.length=n)(f:c.length=n)(h1:0<=ordE a b)(h2:0<=ordE b c):0<=ordE a c:=by
 rcases Int.lt_or_eq_of_le h1 with h1|h1
 · rcases Int.lt_or_eq_of_le h2 with h2|h2
   · exact vk (ordE_trans h1 h2)
   · have:=ordE_eq (d.trans f.symm) h2.symm;subst this;exact vk h1
 · have:=ordE_eq (e.trans d.symm) h1.symm;subst this;exact h2
structure MS(n:Nat)(a b o:List Tm)(i k:Nat):Prop where
 perm:o.Perm (a.take i ++ b.take k)
 d:desc o
 up:∀ t∈o,∀ s,s∈a.drop i\/s∈b.drop k->0<=ordE t.1 s.1
 da:desc a
 db:desc b
 la:∀ t∈a,t.1.length=n
 lb:∀ t∈b,t.1.length=n
theorem MS.start{a b:List Tm}(c:desc a)(d:desc b)(la:∀ t∈a,t.1.length=n)(f:∀ t∈b,t.1.length=n):MS n a b [] 0 0 :=
 ⟨by simp,List.Pairwise.nil,(fun t e=>by cases e),c,d,la,f⟩
theorem Me{a:List Tm}(h:desc a){i:Nat}{x:Tm}(b:a[i]?=some x):∀ s∈a.drop (i+1),0<=ordE x.1 s.1:=by
 have c:i<a.length:=(qD.1 b).1;have h1:desc (a.drop i):=List.Pairwise.drop h;rw[qo c]at h1;have h2:a[i]=x:=(qD.1 b).2;rw[h2]at h1;exact(qY.1 h1).1
theorem MS.left{a b o:List Tm}(h:MS n a b o i k){x:Tm}(m:a[i]?=some x)(z:∀ y,b[k]?=some y->0<=ordE x.1 y.1):MS n a b (o ++ [x]) (i+1) k:=by
 have v:i<a.length:=(qD.1 m).1;have l:a[i]=x:=(qD.1 m).2;have q:x∈a:=ql m;have g:a.drop i=x :: a.drop (i+1):=by rw[qo v,l]
 have w:∀ s∈b.drop k,0<=ordE x.1 s.1:=by
  intro s c;cases f:b[k]? with
  | none =>
   rw[qm (List.getElem?_eq_none_iff.1 f)]at c;cases c
  | some y =>
   have p:k<b.length:=(qD.1 f).1;have r:b[k]=y:=(qD.1 f).2;have h0:=z y f;rw[qo p,r]at c;rcases qj.1 c with rfl|j
   · exact h0
   · exact Ls (h.la x q) (h.lb y (ql f)) (h.lb s (tC j)) h0 (Me h.db f s j)
 refine⟨?_,?_,?_,h.da,h.db,h.la,h.lb⟩
 · have h1:a.take (i+1)=a.take i ++ [x]:=by rw[pB v,l]
   rw[h1,qi];exact((h.perm.append_right [x]).trans (by rw[qi])).trans ((vF).append_left _)
 · refine List.pairwise_append.2 ⟨h.d,xj _ _,fun t e s c => ?_⟩;rw[pF.1 c];exact h.up t e x (Or.inl (by rw[g];exact List.mem_cons_self ..))
 · intro t e s c;rcases qd.1 e with e|e
   · refine h.up t e s (c.imp (fun c => ?_) id);rw[g];exact vI _ c
   · rw[pF.1 e];rcases c with c|c
     · exact Me h.da m s c
     · exact w s c
theorem MS.right{a b o:List Tm}(h:MS n a b o i k){y:Tm}(g:b[k]?=some y)(f:∀ x,a[i]?=some x->0<=ordE y.1 x.1):MS n a b (o ++ [y]) i (k+1):=by
 have h0:MS n b a o k i:=⟨h.perm.trans vF,h.d,fun t e s c=>h.up t e s c.symm,h.db,h.da,h.lb,h.la⟩;have h1:=h0.left g f;exact⟨h1.perm.trans vF,h1.d,fun t e s c=>h1.up t e s c.symm,h.da,h.db,h.la,h.lb⟩
theorem MS.done{a b o:List Tm}(h:MS n a b o a.length b.length):o.Perm (a ++ b):=by
 have:=h.perm
 rwa[wl,wl]at this
end Go.Proofs.YtlbmnokpiilfpaaGreatDoor.Pl
