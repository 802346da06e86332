/- Part PyNu6. -/
import Derived.Test.YtlbmnokpiilfpaaGreatDoorPy15
import Derived.StillTailTactics
import Derived.Deep.CutBlock
import Derived.Deep.LoopGhost
set_option linter.all false
set_option maxRecDepth 100000
set_option maxHeartbeats 100000000
namespace Go.Proofs.YtlbmnokpiilfpaaGreatDoor
open Tryz Go Go.RowKit
def lK:=@List.getElem?_take_of_lt
variable {ds qs ys:List Nat} {D P bo cc m n p q s t u v x y:Nat} {a b:Option Addr} {w:World}
theorem Ge(g:Num 4294967296 ys y)(l:ys.length=m+1)(e:s<=31)(h1:2147483648<=ys.getD m 0*2^s)(h2:ys.getD m 0*2^s<4294967296)(b:Num 4294967296 ds (y*2^s)):ds.length=m+1/\2147483648<=ds.getD m 0:=by
 have c:=DY (B:=4294967296) l;rw[g.val]at c;have i:=Cb g.bnd (m:=m) (by omega);generalize ys.getD m 0=u at *
 generalize W.val 4294967296 (ys.take m)=v at *
 have d:y*2^s=u*2^s*4294967296^m+v*2^s:=by rw[c];grind
 have h3:u*2^s+2^s<=4294967296:=by
  have h4:u<2^(32-s):=by
   refine jh (a:=2^s) ?_;rw[KC (oS e (by omega))];exact h2
  have h5:(u+1)*2^s<=2^(32-s)*2^s:=oO _ h4;rw[KC (oS e (by omega)),iy,jy]at h5;exact h5
 have h6:y*2^s<4294967296^(m+1):=by
  rw[d,gG];have h7:v*2^s<4294967296^m*2^s:=iX i (gJ s);have h8:(u*2^s+2^s)*4294967296^m<=4294967296*4294967296^m:=oO _ h3;rw[iy]at h8;rw[oU (4294967296^m) (2^s)]at h7;rw[oU (4294967296^m) 4294967296];omega
 have h9:2147483648*4294967296^m<=y*2^s:=by
  rw[d];exact oS (oO _ h1) (jU _ _)
 have o:ds.length<=m+1:=W.nrm_len (B:=4294967296) (by omega) b.nrm (by rw[b.val];exact h6);have p:m+1<=ds.length:=by
  refine pm fun k => ?_;have h10:=W.val_lt b.bnd;rw[b.val]at h10;have h11:4294967296^ds.length<=4294967296^m:=oT (by omega) (by omega);have h12:1*4294967296^m<=2147483648*4294967296^m:=oO _ (by omega);rw[jy]at h12;omega
 have f:ds.length=m+1:=by omega
 refine⟨f,?_⟩;have j:=DY (B:=4294967296) f;rw[b.val]at j;have n:=Cb b.bnd (m:=m) (by omega);generalize ds.getD m 0=t at *
 refine pm fun k => ?_;have h13:(t+1)*4294967296^m<=2147483648*4294967296^m:=oO _ (by omega);rw[iy,jy]at h13;omega
theorem Ql(a:s<=31):2^s*(x*2^(32-s)%4294967296)=4294967296*(x%2^s)/\x*2^(32-s)%4294967296%2^(32-s)=0:=by
 have h1:=KC (oS a (by omega));have h2:x*2^(32-s)%4294967296=x%2^s*2^(32-s):=by
  rw[<-h1,oU (2^(32-s)) (2^s),Nat.mul_mod_mul_right]
 rw[h2];refine⟨?_,mQ _ _⟩;rw[<-h1];generalize 2^(32-s)=p;generalize 2^s=q
 grind
theorem RM(a:s<=31)(b:x<4294967296):x/2^s<2^(32-s):=by
 rw[iS (gJ s),KC (oS a (by omega))];exact b
theorem Tn(a:x<4294967296)(b:y<4294967296):x ||| y<4294967296:=Nat.or_lt_two_pow (n:=32) a b
theorem N6(a:s<=31)(b:x<4294967296):∃ z:Nat,z<4294967296/\x/2^s ||| (y*2^(32-s)%4294967296)=z/\2^s*z+x%2^s=x+4294967296*(y%2^s):=by
 obtain⟨h1,h2⟩:=Ql (x:=y) a;have h3:=RM a b;have h4:=nT (32-s) (y*2^(32-s)%4294967296) (x/2^s) h2 h3;refine⟨x/2^s ||| (y*2^(32-s)%4294967296),Tn ?_ (gE _ (by omega)),rfl,?_⟩
 · have:=gM x (2^s);omega
 · rw[og,h4,iE,h1];have:=ij x (2^s);generalize 2^s * (x/2^s)=p at *
   omega
theorem MG(c:x<4294967296^n)(b:4294967296^m<=y)(a:m+1<=n):x*2^s<4294967296^(n-(m+1)+1)*(y*2^s):=by
 have h1:4294967296^(n-(m+1)+1)*4294967296^m=4294967296^n:=by rw[<-iW];congr 1;omega
 have h2:4294967296^(n-(m+1)+1)*4294967296^m<=4294967296^(n-(m+1)+1)*y:=gD _ b;have h3:x*2^s<4294967296^(n-(m+1)+1)*y*2^s:=iX (by omega) (gJ s);rw[<-iQ];exact h3
theorem KD{i Q V a:Nat}(hi:i<qs.length)(h0:qs.getD i 0=0)(b:P=4294967296^i)(h:Q=W.val 4294967296 qs*D+V)(h1:a+q*D*P=V):Q=W.val 4294967296 (qs.set i q)*D+a:=by
 have h2:=W.val_set (B:=4294967296) (xs:=qs) (i:=i) (v:=q) hi;rw[h0,km,gP]at h2;rw[h2,h,<-h1,b]
 grind
theorem VG{a b:Nat}(c:a<4294967296)(d:v<4294967296)(h:a ||| (v*2^(32-s)%4294967296)=b):bits BinOp.or IntKind.u32 (a:Int) (IntKind.u64.wrap (IntKind.u64.wrap (v:Int)*2^(32-s))%4294967296)=(b:Int):=by
 have h1:2^(32-s)<=2^32:=oT (by omega) (by omega);have h2:v*2^(32-s)<=4294967295*2^32:=iu (by omega) h1;have h3:(v:Int)*2^(32-s)=((v*2^(32-s):Nat):Int):=by push_cast;rfl
 rw[CW (x:=v) (by omega),h3,CW (by omega),show((v*2^(32-s):Nat):Int)%4294967296=((v*2^(32-s)%4294967296:Nat):Int) by omega,u32_or_nat _ _ c (gE _ (by omega)),h]
theorem To{b U a lo c e:Nat}(j:e=(U*b+u)*P+lo)(g:D=a*P+c)(f:c < P)(k:e<(q+1)*D)(d:q<b):U<=a:=by
 refine Nat.le_of_not_lt fun i => ?_;have h1:(q+1)*D<=b*D:=oO _ d;have h2:(a+1)*b*P<=U*b*P:=oO _ (oO _ i);have h3:U*b*P<=(U*b+u)*P:=oO _ (jU _ _);have h4:b*D<=b*((a+1)*P):=gD _ (by rw[g,iy,jy];omega);have h5:b*((a+1)*P)=(a+1)*b*P:=by grind
 omega
theorem UY{cy:Nat}(hu:u<4294967296)(c:v<4294967296)(b:cy<=1):∃ s a:Nat,s<4294967296/\a<=1/\s+v+cy=u+4294967296*a/\IntKind.u64.wrap (IntKind.u64.wrap ((u:Int)-v)-cy)%4294967296=s/\bits BinOp.and IntKind.u64 (IntKind.u64.wrap (IntKind.u64.wrap ((u:Int)-v)-cy)/4294967296) 1=a:=by
 have h:IntKind.u64.wrap (IntKind.u64.wrap ((u:Int)-v)-cy)=IntKind.u64.wrap (IntKind.u64.wrap ((u:Int)-cy)-v):=by
  rw[BC,BC,BC,BC];omega
 rw[h];exact RL hu c b
theorem VH(hp:p<18446744073709551616):bits BinOp.and IntKind.u64 (p:Int) 4294967295=((p%4294967296:Nat):Int):=by
 have h:=u64_and_nat p 4294967295 hp (by omega);have h2:p &&& 4294967295=p%4294967296:=lY p 32;rw[h2]at h;exact h
theorem Wj(c:t<4294967296)(b:cc<4294967296)(a:bo<=1)(h:cc+bo<=t):IntKind.u64.wrap (IntKind.u64.wrap ((t:Int)-cc)-bo)=((t-(cc+bo):Nat):Int):=by
 rw[BC,BC];omega
theorem Wk(c:t<4294967296)(b:cc<4294967296)(a:bo<=1)(h:¬ cc+bo<=t):IntKind.u64.wrap (IntKind.u64.wrap ((t:Int)-cc)-bo)=((18446744073709551616+t-(cc+bo):Nat):Int):=by
 rw[BC,BC];omega
theorem Ie{c d mm:Nat}(hx:Mg w a n c x)(hy:Mg w b m d y)(bn:n<=100000)(eG:y<=x)(a8:m=mm+2) :
 Calls prog 258 #[.slice a n c,.slice b m d] w (Iy w (x/y) (x%y)):=by
 have ae:=oK (Er hx hy);have du:¬ AW (x:Int) (y:Int)<0:=by rw[C3];omega
 obtain⟨xs,hx,nx,-⟩:=hx;obtain⟨ys,hy,ny,-⟩:=hy;have HX:=oK hx.len;have HY:=oK hy.len;have eH:m<=n:=by
  refine pm fun hc => ?_;have:=W.len_lt (B:=4294967296) (by omega) nx.bnd ny.nrm (by rw[HX.out,HY.out];omega);rw[nx.val,ny.val]at this;omega
 have aR:ys≠[]:=by intro h;have:=HY.out;rw[h]at this;simp at this;omega
 have aQ:=W.nrm_pos (B:=4294967296) (by omega) ny.nrm aR;rw[HY.out,ny.val]at aQ;have d3:0<ys.getD (mm+1) 0:=by
  have h1:=ny.nrm aR;rw[kB]at h1;have h2:ys.length-1=mm+1:=by rw[HY.out];omega
  have h3:mm+1<ys.length:=by rw[HY.out];omega
  have h4:ys.getD (mm+1) 0=ys[ys.length-1]'(by omega):=by
   simp[h2,h3]
  omega
 have bt:=W.bnd_at ny.bnd (i:=mm+1) (by rw[HY.out];omega);have df:Hid (∀ s ds,s<=31->2147483648<=ys.getD (mm+1) 0*2^s->ys.getD (mm+1) 0*2^s<4294967296->Num 4294967296 ds (y*2^s)->ds.length=m/\2147483648<=ds.getD (mm+1) 0):=by
  show ∀ s ds,_;intro s ds h1 h2 h3 nd;have:=Ge (m:=mm+1) ny (by rw[HY.out];omega) h1 h2 h3 nd;exact⟨by omega,this.2⟩
 have c1:=oK aQ;have BX:=nx.bnd;have BY:=ny.bnd;have VX:=oK nx.val;have VY:=oK ny.val;have de:=oK a8;have dM:(m:Int)-1=((mm+1:Nat):Int):=by omega
 have d7:((mm+1:Nat):Int)<(m:Int):=by omega
 have cX:((m:Int) == 1)=false:=by simp;omega
 have bm:mm+1<m:=by omega
 clear nx ny aR aQ a8;generalize aM:ys.getD (mm+1) 0=yt at *
 have eq:=oK aM;obtain⟨V,hmp⟩:∃ V,mm+1=V:=⟨_,rfl⟩;have b0:=oK hmp;rw[hmp]at dM d7 bm aM;clear hmp
 go_enter func258,ntmps258
 go_wp2_with fail
 refine ae.out.mono ?_;rintro e w1 ⟨rfl,hQ⟩;generalize AW (x:Int) (y:Int)=cv at *
 obtain⟨b1,o1,rfl,cm⟩:=(hy.ext hQ.ext).at (j:=V) bm;have gt:=cm V bm;rw[aM]at gt;clear cm ae aM;have bb:=hQ.ext;clear hQ
 go_upto_region 7 with(fail)
 clear du cX;have bx:=hy.ext bb;have eO:=hx.ext bb;go_wp2
 go_loopw[8] (fun sv wr=>∃ s:Nat,sv = .int .u64 s/\s<=31/\yt*2^s<4294967296/\Ext w1 wr) (fun sv _=>31-(intOf sv).toNat)
 case atStart=>exact⟨0,rfl,by omega,by omega,Ext.refl _⟩
 case round =>
  obtain⟨s,rfl,hs,cy,hE⟩:=hrel;have g1:=hE.cell gt;have HW:Hid (IntKind.u32.wrap ((yt:Int)*2^s)=((yt*2^s:Nat):Int)):=by
   have:=Ix (yt*2^s);rw[jd cy]at this;show _=_;rw[<-this];push_cast;rfl
  have cJ:=HW.out;obtain⟨t,ht⟩:∃ t,yt*2^s=t:=⟨_,rfl⟩;have av:=oK ht;rw[ht]at cJ cy;clear ht;by_cases h31:t<2147483648
  · have bF:(t:Int)<2147483648:=by omega
    have eK:s<31:=by
     refine Nat.lt_of_not_le fun hc => ?_;have h1:2^31<=2^s:=oT (by omega) hc;have h2:1*2^s<=yt*2^s:=oO _ d3;have:=av.out;omega
    go_wp2;go_roundw
    case rel=>exact⟨s+1,by go_num,by omega,by rw[gG,<-iQ,av.out];omega,hE⟩
    case measure=>simp[intOf];omega
  · have bF:¬ (t:Int)<2147483648:=by omega
    go_upto_region 9 with(fail)
    clear bF cJ g1 HW;have an:=oK (FA (bx.ext hE) BY (by omega) hs)
    go_wp2_with fail
    refine an.out.mono ?_;rintro e w2 ⟨aw,rfl,dl,bc,c4,cQ⟩;clear an
    go_wp2_with fail
    refine(BN bc.sl).mono ?_;rintro e w3 ⟨f,rfl,rfl,cu,ah⟩;have hd:SlN .u32 w2 (some ⟨wr.heap.size,0,none⟩) f (m+1) (W.trim aw):=by rw[ah];exact bc.sl.upto cu
    have nd:Num 4294967296 (W.trim aw) (y*2^s):=Num.trim c4 (by rw[cQ,VY.out]);obtain⟨co,cp⟩:=df.out s (W.trim aw) hs (by rw[av.out];omega) (by rw[av.out];omega) nd;have cY:f=m:=by rw[<-hd.len,co]
    subst cY;clear ah cu bc c4 cQ co;generalize W.trim aw=ds at *
    have d9:=oK cp;have ND:=oK nd;have bH:=(bb.trans hE).trans dl;have an:=oK (FA (hx.ext bH) BX bn hs);clear cp nd;obtain⟨X,dC⟩:∃ X,n-f=X:=⟨_,rfl⟩;have bV:Hid (n=X+f):=by show _=_;omega
    have dN:(n:Int)+1-f-1=(X:Int):=by omega
    have ek:X<=n:=by omega
    clear dC
    go_wp2_with fail
    refine an.out.mono ?_;rintro e w4 ⟨bB,rfl,ay,aC,c5,bC⟩;clear an;obtain⟨D,hD⟩:∃ D,y*2^s=D:=⟨_,rfl⟩;rw[hD]at ND;have HD:=oK hD;have bS:Hid (0<D):=by
     show 0<D;rw[<-hD];refine kF ?_ (gJ s);have h1:=c1.out;have:=jx (n:=f-1) (show 0<4294967296 by omega);omega
    have aT:Hid (D<4294967296^f):=by
     show D<4294967296^f;have h1:=W.val_lt ND.out.bnd;rw[ND.out.val,hd.len]at h1;exact h1
    have bY:Hid (W.val 4294967296 bB<4294967296^(X+1)*D):=by
     show _<_;have h1:=W.val_lt BX;rw[HX.out]at h1;have h3:=c1.out;have:=MG (s:=s) (m:=f-1) h1 h3 (by have:=b0.out;omega);rw[bC];rw[show n-(f-1+1)+1=X+1 by have:=bV.out;have:=b0.out;omega,hD]at this;exact this
    have c0:Hid (W.val 4294967296 bB=x*2^s):=by show _=_;rw[bC,VX.out]
    clear hD bC
    go_upto_region 14 with(at_make;refine C1 (n:=X+1) rfl rfl underlying95 B5 rfl rfl rfl (by omega) (by unfold maxLen;omega) ?_;intro w5 cf I)
    have dv:=(hd.ext ay).ext I;have ao:=aC.ext I;have bG:=ay.trans I;have dL:=ao.lt;have dK:=ay.size;have a0:Hid (w2.heap.size<=w2.heap.size):=oK (lrf _);obtain⟨G,hG⟩:∃ G,w2.heap.size=G:=⟨_,rfl⟩;have a0:Hid (w2.heap.size<=G):=oK (Nat.le_of_eq hG);rw[hG]at aC ao;simp only[hG];generalize hH:w4.heap.size=H at *
    have M:Hid (G<H):=by show _<_;have:=aC.lt;omega
    clear dN hG hH;go_wp2
    go_loopg [14] (X+1) (fun gk iv wx=>∃ (k:Nat) (A qs:List Nat),iv = .int .i64 ((k:Int)-1)/\k<=gk/\k<=X+1/\Ext w2 wx/\Av .u32 wx G 241 G (n+1) (n+1) A/\Av .u32 wx H 241 H (X+1) (X+1) qs/\W.bnd 4294967296 A/\W.bnd 4294967296 qs/\Hid (x*2^s=W.val 4294967296 qs*D+W.val 4294967296 A)/\Hid (∀ j,j<k->qs.getD j 0=0)/\Hid (W.val 4294967296 A<4294967296^k*D))
    case atStart=>exact⟨X+1,bB,List.replicate (X+1) 0,by go_num,lrf _,lrf _,bG,ao,Av.of_zeros cf,c5,Fk (by omega) _,oK (by rw[W.val_zeros,pw,gL,c0.out]),oK (fun j _=>DQ _ j),bY⟩
    case round =>
     clear aC cf ay I ao bG c5 c0 bY dv dL dK;obtain⟨k,A,qs,rfl,ey,hk,I,L,hq,bz,bq,HV,HJ,HB⟩:=hrel;cases k with
     | zero=>as_aux_lemma =>
      have ax:=HB.out;rw[jE,jy]at ax;obtain⟨a5,cD⟩:=Pi (x:=x) (y:=y) (s:=s) (Q:=W.val 4294967296 qs) (R:=W.val 4294967296 A) (Nat.pos_of_ne_zero fun h0=>by have h1:=HD.out;have h2:=bS.out;rw[h0,pw]at h1;omega) (by rw[HD.out];exact HV.out) (by rw[HD.out];exact ax);have ct:W.val 4294967296 A<4294967296^f:=Nat.lt_trans ax aT.out;have cH:W.val 4294967296 (A.take f)=W.val 4294967296 A:=(G7 (by rw[L.len];omega) (fun j hj=>Ev (by omega) ct hj)).symm;have HQ:=oK a5;have HR:=oK cD
      have cO:SlN .u32 wr (some ⟨G,0,none⟩) f (n+1) (A.take f):=L.sl.upto (by omega);have d2:=fun wx:World=>Ek (P:=prog) (w:=wx) (a:=some ⟨G,0,none⟩) (n:=n+1) underlying95 B5 (k:=f) (c:=n+1) (by omega);clear ax a5 cD ct
      go_wp2_with fail
      refine(BN cO).mono ?_;rintro e w7 ⟨C,rfl,rfl,dJ,ah⟩;rw[nA,jn dJ]at ah;have HT:Hid (W.val 4294967296 (A.take C)=W.val 4294967296 A):=by show _=_;rw[<-ah,W.trim_val,cH]
      clear d2 cO cH ah;have el:C<=n:=by omega
      have ai:Hid ((A.take C).length=C):=by show _=_;rw[gO,L.len];omega
      have aW:Hid (w2.heap.size<=G):=a0;go_wp2
      go_loopw[26] (fun iv wz=>∃ (k:Nat) (K:List Nat),iv = .int .i64 k/\k<=C/\Ext w2 wz/\Av .u32 wz G 241 G (n+1) (n+1) K/\Av .u32 wz H 241 H (X+1) (X+1) qs/\W.bnd 4294967296 K/\Hid (2^s*W.val 4294967296 (K.take k)+(A.take C).getD 0 0%2^s=W.val 4294967296 ((A.take C).take k)+4294967296^k*((A.take C).getD k 0%2^s))/\Hid (∀ j,k<=j->j<C->K.getD j 0=(A.take C).getD j 0)) (fun iv _=>C-(intOf iv).toNat)
      case atStart=>exact⟨0,A,rfl,oY _,I,L,hq,bz,oK (by simp[W.val]),oK (fun j _ hj=>by rw[gqq,gqq,lK hj])⟩
      case round=>as_aux_lemma =>
       clear I L hq bz HV HJ HB;obtain⟨k,K,rfl,hk,I,L,hq,bz,HI,HJ⟩:=hrel;by_cases aH:k<C
       · have ej:(k:Int)<C:=by omega
         have g1:=L.cell (i:=k) (by omega);have g2:=L.frozen k;rw[HJ.out k (lrf _) aH]at g1;have aK:(A.take C).getD k 0<4294967296:=by rw[<-HJ.out k (lrf _) aH];exact W.bnd_at bz (by rw[L.len];omega)
         by_cases bk:k+1<C
         · have cV:(k:Int)+1<C:=by omega
           have g3:=L.cell (i:=k+1) (by omega);rw[HJ.out (k+1) (by omega) bk]at g3;have ak:=HI.out;have da:=oK (HJ.out (k+1) (by omega) bk);have bl:k<(A.take C).length:=by rw[ai.out];exact aH
           have bw:(A.take C).getD (k+1) 0<4294967296:=by rw[<-HJ.out (k+1) (by omega) bk];exact W.bnd_at bz (by rw[L.len];omega)
           generalize hu:(A.take C).getD k 0=u at *
           generalize hv:(A.take C).getD (k+1) 0=v at *
           obtain⟨z2,dP,aS,bQ⟩:=N6 (x:=u) (y:=v) hs aK;have HN:=oK (Gn (B:=4294967296) (l:=K) (xs:=A.take C) (k:=k) (s:=s) (z:=z2) (by rw[L.len];omega) bl (by rw[hu];exact ak) (by rw[hu,hv];exact bQ));obtain⟨z1,a9⟩:∃ z1,u/2^s=z1:=⟨_,rfl⟩;have e1:(u:Int)/2^s=(z1:Int):=by rw[<-a9];push_cast;rfl
           have ar:z1<4294967296:=by have:=gM u (2^s);omega
           rw[a9]at aS;have di:=oK aS;clear hu hv a9 ak aS bQ HI
           go_upto_region 52 with(fail)
           have aa:=L.set k z1;have aI:=hq.kept (Am wr G k (.int .u32 (z1:Int))) (by have:=M.out;simp;omega);have aA:=I.setCell (p:=⟨G,k,none⟩) aW.out (.int .u32 (z1:Int));have g6:=aa.cell (i:=k) (by omega);have g7:=aa.cell (i:=k+1) (by omega);have g8:=aa.frozen k;rw[gqq,List.getElem?_set_self (by rw[L.len];omega),pg]at g6;rw[gqq,iO (by omega),<-gqq,da.out]at g7;have dk:=W.bnd_set bz (i:=k) ar;generalize wr.setCell ⟨G,k,none⟩ (.int .u32 (z1:Int))=w8 at *
           clear L hq I g1 g2 g3 e1;have aL:IntKind.i64.wrap ((k:Int)+1)=((k+1:Nat):Int):=by rw[<-Int.natCast_one,<-gK];exact oP _ (by omega)
           have bP:((k+1:Nat):Int)<C:=by omega
           have eg:(0:Int)<=(k:Int)+1:=by omega
           have eN:IntKind.u64.wrap (32-(s:Int))=((32-s:Nat):Int):=by rw[BC];omega
           go_still_tail 16,(by kernel_rfl)
           change wpList _ _ _ _ _ w8.drew;have cM:=aa.drewN 1;have cB:=aI.drewN 1;have dm:=aA.drew;have et:w8.drew.frozen? ⟨G,k,none⟩=false:=g8;have es:w8.drew.cell? ⟨G,k,none⟩=some (.int .u32 (z1:Int)):=g6;change Av _ w8.drew _ _ _ _ _ _ at cM;change Av _ w8.drew _ _ _ _ _ _ at cB;generalize w8.drew=w9 at *
           clear g6 g7 g8 aa aI aA;have e9:=VG (s:=s) ar bw di.out;rw[CW (x:=v) (by omega)]at e9;go_wp2;go_roundw
           case rel =>
            refine⟨k+1,(K.set k z1).set k z2,by go_num,by omega,dm.setCell aW.out _,cM.set k z2,cB.kept (Am w9 G k (.int .u32 (z2:Int))) (by have:=M.out;simp;omega),W.bnd_set dk dP,?_,oK (fun j hj bj=>by rw[nN,gqq,iO (by omega),<-gqq];exact HJ.out j (by omega) bj)⟩;rw[nN];exact HN
           case measure=>simp[intOf];omega
         · have cV:¬ (k:Int)+1<C:=by omega
           have cG:(A.take C).getD (k+1) 0=0:=by rw[gqq,pu (by rw[ai.out];omega)];rfl
           have ak:=HI.out;have bl:k<(A.take C).length:=by rw[ai.out];exact aH
           generalize hu:(A.take C).getD k 0=u at *
           have HN:=oK (Gn (B:=4294967296) (l:=K) (xs:=A.take C) (k:=k) (s:=s) (z:=u/2^s) (by rw[L.len];omega) bl (by rw[hu];exact ak) (by rw[hu,cG,Nat.zero_mod,km,gP];exact ij u (2^s)));obtain⟨z1,a9⟩:∃ z1,u/2^s=z1:=⟨_,rfl⟩;have e1:(u:Int)/2^s=(z1:Int):=by rw[<-a9];push_cast;rfl
           have ar:z1<4294967296:=by have:=gM u (2^s);omega
           rw[a9]at HN;clear hu cG a9 ak HI;go_wp2;go_roundw
           case rel=>exact⟨k+1,K.set k z1,by go_num,by omega,I.setCell aW.out _,L.set k z1,hq.kept (Am wr G k (.int .u32 (z1:Int))) (by have:=M.out;simp;omega),W.bnd_set bz ar,HN,oK (fun j hj bj=>by rw[gqq,iO (by omega),<-gqq];exact HJ.out j (by omega) bj)⟩
           case measure=>simp[intOf];omega
       · have bK:k=C:=by omega
         have hA:W.val 4294967296 (K.take C)=x%y:=by
          have h1:=HI.out;rw[bK,oL (l:=A.take C) (by rw[ai.out];exact lrf _),HT.out,show(A.take C).getD C 0=0 by rw[gqq,pu (by rw[ai.out];exact lrf _)];rfl,Nat.zero_mod,km,gP]at h1;rw[<-HR.out,<-h1,kG (gJ s),j8 (gE _ (gJ s)),gP]
         have HA:=oK hA;have bs:SlN .u32 wr (some ⟨G,0,none⟩) C (n+1) (K.take C):=L.sl.upto (by omega);have dn:=bH.trans I;clear HI HJ hA bK
         go_wp2_with fail
         refine(BN hq.sl).mono ?_;rintro e w8 ⟨q1,rfl,rfl,a5,cE⟩
         go_wp2_with fail
         refine(BN bs).mono ?_;rintro e w9 ⟨q2,rfl,rfl,al,cF⟩;have dB:=CX hq.sl hq.ty a5 cE bq HQ.out.symm;have a8:=CX bs L.ty al cF (W.bnd_take bz _) HA.out;clear cE cF bs hq L bz;go_wp2
         go_ret2
         exact⟨_,_,_,_,_,_,rfl,dn,dB,a8⟩
     | succ i =>
      have cI:((i+1:Nat):Int)-1=i:=by omega
      rw[cI];have eE:i<=X:=by omega
      have eF:i+f<=n:=by have:=bV.out;omega
      have dA:i+(f+1)<=A.length:=by rw[L.len];omega
      obtain⟨q,am,a5,al,ch,cs,cr⟩:=KR (by omega) bz dA aT.out bS.out HB.out;have a8:=de.out;have hmp:=b0.out;have ci:((A.drop i).take (f+1)).length=mm+3:=by simp;omega
      have bW:W.bnd 4294967296 ((A.drop i).take (f+1)):=W.bnd_take (W.bnd_drop bz _) _;have ad:=MR (B:=4294967296) ci;rw[EX (by omega),EX (by omega),EX (by omega)]at ad;have ac:=Gq (B:=4294967296) (l:=ds) (m:=mm) (by rw[hd.len];exact a8);rw[ND.out.val]at ac;have bL:=Cb bW (m:=mm) (by omega);have aO:=Cb ND.out.bnd (m:=mm) (by rw[hd.len];omega);rw[show i+(mm+2)=i+f by omega,show i+(mm+1)=i+V by omega]at ad;rw[show mm+1=V by omega]at ac;have bx:=d9.out;rw[show mm+1=V by omega]at bx
      have dR:=W.bnd_at bz (i:=i+f) (by omega);have dQ:=W.bnd_at bz (i:=i+V) (by omega);have cP:=W.bnd_at bz (i:=i+mm) (by omega);have dT:=W.bnd_at ND.out.bnd (i:=V) (by rw[hd.len];omega);have cR:=W.bnd_at ND.out.bnd (i:=mm) (by rw[hd.len];omega);have g1:=L.cell (i:=i+f) (by omega);have g2:=L.cell (i:=i+V) (by omega);have g3:=L.cell (i:=i+mm) (by omega);obtain⟨bv,ov,a3,a1⟩:=(hd.ext I).at (j:=0) (by omega);simp only[oQ,ic,iY]at a3;obtain⟨rfl,rfl⟩:=a3;have g4:=a1 V (by omega);have g5:=a1 mm (by omega);rw[gL]at g4 g5
      have HU:=oK (To ad ac aO al am);have b6:=oK (W.digit_hi ad bL ac a5);have b7:=oK ad;have bZ:=oK ac;have b8:=oK ch;have bU:=oK cs;have bT:=oK aO;have bX:=oK a5;have au:=oK al;have dc:=oK cr;generalize A.getD (i+f) 0=t1 at *
      generalize A.getD (i+V) 0=t0 at *
      generalize A.getD (i+mm) 0=u2 at *
      generalize ds.getD V 0=y1 at *
      generalize ds.getD mm 0=y0 at *
      obtain⟨U,bd⟩:∃ U,t1*4294967296+t0=U:=⟨_,rfl⟩;rw[bd]at HU b6 b7;have bD:=oK (Est.start (b:=4294967296) (by omega) cR HU.out b6.out cP);have bE:Hid (bits BinOp.or IntKind.u64 ((t1:Int)*4294967296) (t0:Int)=(U:Int)):=by
       show _=_;rw[UX dR dQ,bd]
      have eu:U<18446744073709551616:=by omega
      have eL:IntKind.i64.wrap ((i:Int)+f)=((i+f:Nat):Int):=by rw[<-gK];exact oP _ (by omega)
      have eM:IntKind.i64.wrap (((i+f:Nat):Int)-1)=((i+V:Nat):Int):=by rw[show((i+f:Nat):Int)-1=((i+V:Nat):Int) by omega];exact oP _ (by omega)
      have eB:((i+f:Nat):Int)<(n:Int)+1:=by omega
      have eC:((i+V:Nat):Int)<(n:Int)+1:=by omega
      have dY:(i:Int)+f<=(n:Int):=by omega
      have dZ:(i:Int)+f<(n:Int)+1:=by omega
      have ea:(i:Int)+V<=(n:Int):=by omega
      have eb:(i:Int)+V<(n:Int)+1:=by omega
      have em:((i:Int)+f).toNat=i+f:=by omega
      have en:((i:Int)+V).toNat=i+V:=by omega
      have cZ:(i:Int)+f-1=(i:Int)+V:=by omega
      have dU:IntKind.i64.wrap ((i:Int)+f-1)=(i:Int)+V:=by rw[cZ];exact oP _ (by omega)
      have d0:(i:Int)+f-2=(i:Int)+mm:=by omega
      have dV:IntKind.i64.wrap ((i:Int)+f-2)=(i:Int)+mm:=by rw[d0];exact oP _ (by omega)
      have d1:(f:Int)-2=(mm:Int):=by omega
      have dW:IntKind.i64.wrap ((f:Int)-2)=(mm:Int):=by rw[d1];exact oP _ (by omega)
      have ec:(i:Int)+mm<=(n:Int):=by omega
      have ed:(i:Int)+mm<(n:Int)+1:=by omega
      have eD:(mm:Int)<f:=by omega
      have eo:((i:Int)+mm).toNat=i+mm:=by omega
      have cA:(0:Int)<=(i:Int)+mm:=by omega
      have eI:(0:Int)<=(i:Int)+f:=by omega
      have cz:(0:Int)<=(i:Int)+V:=by omega
      clear ch cs a5 al cr bW ci ad ac bL aO a1 bd a8 hmp cI
      go_upto_region 17 with(fail)
      go_quiet (fail)
      rw[bE.out];have cd:=I.drewN nq;have cN:=L.drewN nq;have cC:=hq.drewN nq;have b9:(wr.drewN nq).cell? _=_:=g3;have ba:(wr.drewN nq).cell? _=_:=g4;have c6:(wr.drewN nq).cell? _=_:=g5;generalize wr.drewN nq=wq at *
      clear g1 g2 g3 g4 g5 I L hq;have e1:(U:Int).tdiv (y1:Int)=((U/y1:Nat):Int):=by rw[ib (by omega)];rfl
      have e2:(U:Int).tmod (y1:Int)=((U%y1:Nat):Int):=by rw[iJ (by omega)];rfl
      have dO:((y1:Int) == 0)=false:=by simp;omega
      have d8:¬ (y1:Int)=0:=by omega
      have br:U%y1<4294967296:=Nat.lt_trans (gE _ (by omega)) dT;have aN:=bD.out;generalize U/y1=h0 at *
      generalize U%y1=r0 at *
      have bi:=aN.hi;have aV:=oK aN;clear aN bD bE
      go_upto_block 4 with(fail)
      clear e1 e2 dO d8
      go_cut [16,17] from 78 to 255 (fun hv rv wx=>∃ g r:Nat,hv = .int .u64 g/\rv = .int .u64 r/\g<=q+1/\q<=g/\g<=4294967296/\Qt wq wx)
      case first=>as_aux_lemma =>
       try go_wp2
       go_loopw[16,17] (fun hv rv wx=>∃ h r:Nat,hv = .int .u64 h/\rv = .int .u64 r/\r<4294967296/\h<=4294967297/\Qt wq wx/\Hid (Est 4294967296 y1 U q h r)) (fun hv _ _=>(intOf hv).toNat)
       case atStart=>exact⟨h0,r0,rfl,rfl,br,bi,Qt.refl _,aV⟩
       case round=>as_aux_lemma =>
        clear br bi aV;obtain⟨h,r,rfl,rfl,hr,hh,hQ,HE⟩:=hrel;have k3:=hQ.ext.cell b9;have k4:=hQ.ext.cell ba;have k5:=hQ.ext.cell c6;have cx:bits BinOp.or IntKind.u64 ((r:Int)*4294967296) (u2:Int)=(r:Int)*4294967296+u2:=by rw[UX hr cP,gK,gH];rfl
        have bp:h*y0<18446744073709551616:=by
         have:h*y0<=4294967297*4294967295:=iu hh (by omega);omega
        have cw:IntKind.u64.wrap ((h:Int)*y0)=(h:Int)*y0:=by rw[<-gH];exact CW bp
        by_cases hc:4294967296<=h\/4294967296*r+u2<h*y0
        case pos =>
         obtain⟨hd0,a4,bf⟩:=Est.down HE.out b6.out am hc;obtain⟨g,hg⟩:∃ g,h-1=g:=⟨_,rfl⟩;rw[hg]at a4 bf;have aU:=oK bf;have dy:(h:Int)-1=(g:Int):=by omega
         have eA:IntKind.u64.wrap ((h:Int)-1)=(g:Int):=by rw[dy];exact CW (by omega)
         have ex:g<h:=by omega
         have c9:(4294967296:Int)<=h\/¬ (4294967296:Int)<=h:=by omega
         have ae:¬ 4294967296<=h->(r:Int)*4294967296+u2<(h:Int)*y0:=by
          intro h1;have h2:4294967296*r+u2<h*y0:=by omega
          have h3:((4294967296*r+u2:Nat):Int)<((h*y0:Nat):Int):=by omega
          rw[gK,gH,gH]at h3;rw[Int.mul_comm (r:Int)];exact h3
         clear bf hg HE hd0;by_cases hb:4294967296<=h
         case' pos =>
          have ck:(4294967296:Int)<=h:=by omega
          clear ae c9 hc
          go_upto_region 20 with(fail)
          go_quiet (fail)
         case' neg =>
          have ck:¬ (4294967296:Int)<=h:=by omega
          have cT:=ae hb;clear ae c9 hc
          go_upto_region 20 with(fail)
          go_quiet (fail)
         all_goals
          have Y:=hQ.drewN nq;generalize wr.drewN nq=wv at *
          clear k3 k5 cx cw bp hb hQ;have eP:=Y.ext.cell ba;clear k4;by_cases dr:r+y1<4294967296
          · have cS:¬ (4294967296:Int)<=(r:Int)+y1:=by omega
            go_wp2;go_roundw
            case rel=>exact⟨g,r+y1,rfl,by go_num,dr,by omega,Y,aU⟩
            case measure=>simp[intOf];omega
          have cS:(4294967296:Int)<=(r:Int)+y1:=by omega
          have S:g<=q+1:=Est.done aU.out (W.guess_over (by omega) a4 cR) (by omega) (by omega) b7.out bZ.out bT.out au.out am;have T:q<=g:=aU.out.lo
          go_wp2_with fail
          go_meet
          exact⟨_,_,rfl,rfl,S,T,a4,Y⟩
        case neg =>
         have ck:¬ (4294967296:Int)<=h:=by omega
         have cT:¬ (r:Int)*4294967296+u2<(h:Int)*y0:=by
          intro h1;have h2:¬ 4294967296*r+u2<h*y0:=fun hx=>hc (Or.inr hx);have h3:¬ ((4294967296*r+u2:Nat):Int)<((h*y0:Nat):Int):=by omega
          rw[gK,gH,gH]at h3;rw[Int.mul_comm (r:Int)]at h1;exact h3 h1
         have S:h<=q+1:=Est.done HE.out (by omega) (by omega) (by omega) b7.out bZ.out bT.out au.out am;have T:q<=h:=HE.out.lo;have a4:h<=4294967296:=by omega
         clear hc HE
         go_upto_region 20 with(fail)
         go_quiet (fail)
         have Y:=hQ.drewN nq;generalize wr.drewN nq=wv at *
         clear k3 k4 k5 cx cw bp hQ
         go_wp2_with fail
         go_meet
         exact⟨_,_,rfl,rfl,S,T,a4,Y⟩
      case rest=>as_aux_lemma =>
       clear br bi aV;obtain⟨g,r,rfl,rfl,S,T,a4,Y⟩:=hcut;have a2:=cd.trans Y.ext;have E:=cN.ext Y.ext;have Z:=cC.ext Y.ext;clear cN cC cd Y b9 ba c6;go_wp2
       go_loopw[18,19,20] (fun cv bv kv wx=>∃ (k cc bo:Nat) (K:List Nat),cv = .int .u64 cc/\bv = .int .u64 bo/\kv = .int .i64 k/\k<=f/\cc<4294967296/\bo<=1/\Ext w2 wx/\Av .u32 wx G 241 G (n+1) (n+1) K/\Av .u32 wx H 241 H (X+1) (X+1) qs/\W.bnd 4294967296 K/\Hid (W.val 4294967296 K+g*W.val 4294967296 (ds.take k)*4294967296^i=W.val 4294967296 A+(cc+bo)*4294967296^(i+k))/\Hid (∀ j,i+k<=j->K.getD j 0=A.getD j 0)) (fun _ _ kv _=>f-(intOf kv).toNat)
       case atStart=>exact⟨0,0,0,A,rfl,rfl,rfl,oY _,by omega,by omega,a2,E,Z,bz,oK (by simp[W.val]),oK (fun j _=>rfl)⟩
       case round=>as_aux_lemma =>
        clear a2 E Z;obtain⟨k,cc,bo,K,rfl,rfl,rfl,hk,be,aD,a2,E,Z,a6,HI,aZ⟩:=hrel;by_cases aG:k<f
        · have ei:(k:Int)<f:=by omega
          obtain⟨bv,ov,a3,a1⟩:=(hd.ext a2).at (j:=k) aG;simp only[oQ,ic,iY]at a3;obtain⟨rfl,rfl⟩:=a3;have g1:=a1 k aG;rw[gL]at g1;have g2:=E.cell (i:=i+k) (by omega);have g3:=E.frozen (i+k);have bw:=W.bnd_at ND.out.bnd (i:=k) (by rw[hd.len];exact aG);have aK:=W.bnd_at a6 (i:=i+k) (by rw[E.len];omega);have bI:g*ds.getD k 0<=4294967296*4294967295:=iu a4 (by omega);have ab:=fun s c' e=>UV (B:=4294967296) (l:=K) (xs:=ds) (k:=k) (o:=i) (w:=g) (c:=cc+bo) (s:=s) (c':=c') (by rw[E.len];omega) HI.out e
          generalize ds.getD k 0=v at *
          generalize K.getD (i+k) 0=u at *
          obtain⟨gv,bh⟩:∃ gv,g*v=gv:=⟨_,rfl⟩;rw[bh]at bI ab;have e1:(g:Int)*(v:Int)=(gv:Int):=by rw[<-bh,gH]
          obtain⟨p,hp⟩:∃ p,gv+cc=p:=⟨_,rfl⟩;have dE:p<18446744073709551616:=by omega
          have e2:(gv:Int)+(cc:Int)=(p:Int):=by omega
          have e3:=VH dE;have e4:(p:Int)/4294967296=((p/4294967296:Nat):Int):=by omega
          have cz:p/4294967296<4294967296:=by omega
          have cA:p%4294967296<4294967296:=gE _ (by omega);have dG:p%4294967296+4294967296*(p/4294967296)=p:=jR _ _;generalize p%4294967296=lo at *
          generalize p/4294967296=c2 at *
          obtain⟨s2,b2,h1,h2,h3,e5,e6⟩:=UY aK cA aD;have b3:=oK (ab s2 (c2+b2) (by omega));have aL:IntKind.i64.wrap ((k:Int)+i)=((i+k:Nat):Int):=by rw[<-gK,ju k i];exact oP _ (by omega)
          have bP:(k:Int)+i<=n:=by omega
          have d4:(k:Int)+i<(n:Int)+1:=by omega
          have d5:((k:Int)+i).toNat=i+k:=by omega
          have d6:(0:Int)<=(k:Int)+i:=by omega
          clear ab bh hp dG h3 a1 bI;go_wp2;go_roundw
          case rel=>exact⟨k+1,c2,b2,K.set (i+k) s2,rfl,rfl,by go_num,by omega,cz,h2,a2.setCell a0.out _,E.set (i+k) s2,Z.kept (Am wr G (i+k) (.int .u32 (s2:Int))) (by have:=M.out;simp;omega),W.bnd_set a6 h1,b3,oK (fun j hj=>by rw[gqq,iO (by omega),<-gqq];exact aZ.out j (by omega))⟩
          case measure=>simp[intOf];omega
        · have bJ:k=f:=by omega
          have aB:W.val 4294967296 K+g*D*4294967296^i=W.val 4294967296 A+(cc+bo)*4294967296^(i+f):=by
           have h1:=HI.out;rw[bJ,oL (l:=ds) (by rw[hd.len];exact lrf _),ND.out.val]at h1;exact h1
          have dq:∀ j,i+f+1<=j->K.getD j 0=0:=fun j hj=>by
           rw[aZ.out j (by omega)];exact Ev (by omega) dc.out (by omega)
          have dh:=oK dq;clear HI aZ aG hk;subst bJ;have g1:=E.cell (i:=i+k) (by omega);have g2:=E.frozen (i+k);have aJ:=W.bnd_at a6 (i:=i+k) (by rw[E.len];omega);have a7:=fun v=>W.val_set (B:=4294967296) (xs:=K) (i:=i+k) (v:=v) (by rw[E.len];omega);have c7:=Z.cell (i:=i) (by omega);have c8:=Z.frozen i;have ee:(i:Int)<(X:Int)+1:=by omega
          have ef:(i:Int)<=(X:Int):=by omega
          generalize K.getD (i+k) 0=tt at *
          by_cases hs:cc+bo<=tt
          · have dp:=Wj aJ be aD hs;obtain⟨O,aE⟩:∃ O,tt-(cc+bo)=O:=⟨_,rfl⟩;rw[aE]at dp;have ap:O<4294967296:=by omega
            have a4:(O:Int)%4294967296=(O:Int):=by omega
            have cn:(O:Int)/9223372036854775808=0:=by omega
            have af:=Se (a7 O) aB (by omega);obtain⟨bg,bM⟩:=KP b8.out bU.out af au.out T;have ez:(g:Int)%4294967296=(g:Int):=by omega
            have b4:=oK (KD (qs:=qs) (i:=i) (q:=g) (by rw[Z.len];omega) (HJ.out i (by omega)) rfl HV.out af);have b5:=oK bM;have dx:g<4294967296:=by omega
            clear a7 aB aE af bg bM S T hs;go_wp2
            go_roundg i
            case rel=>exact⟨i,K.set (i+k) O,qs.set i g,by go_num,lrf _,by omega,(a2.setCell a0.out _).setCell (oS a0.out (Nat.le_of_lt M.out)) _,(E.set (i+k) O).kept (Am _ H i (.int .u32 (g:Int))) (by have:=M.out;simp;omega),(Z.kept (Am wr G (i+k) (.int .u32 (O:Int))) (by have:=M.out;simp;omega)).set i g,W.bnd_set a6 ap,W.bnd_set bq dx,b4,oK (IC HJ.out),b5⟩
            case measure=>omega
          · have cg:=Wk aJ be aD hs;obtain⟨dw,cq⟩:∃ dw,18446744073709551616+tt-(cc+bo)=dw:=⟨_,rfl⟩;obtain⟨O,aE⟩:∃ O,4294967296+tt-(cc+bo)=O:=⟨_,rfl⟩;rw[cq]at cg;have ap:O<4294967296:=by omega
            have cU:(dw:Int)%4294967296=(O:Int):=by omega
            have cn:(dw:Int)/9223372036854775808=1:=by omega
            have bu:=KS (a7 O) aB (B:=4294967296) (by omega)
            have bA:∀ j,i+k+1<=j->(K.set (i+k) O).getD j 0=0:=fun j hj=>by
             rw[gqq,iO (by omega),<-gqq];exact dh.out j hj
            have aq:=Gp (B:=4294967296) (l:=K.set (i+k) O) (p:=i+k+1) (by rw[List.length_set,E.len];omega) (W.bnd_set a6 ap) bA;rw[gG]at aq;have dI:=MU b8.out bu aq bX.out;have bg:(g:Int)-1=(q:Int):=by omega
            have dX:IntKind.u64.wrap ((g:Int)-1)=(q:Int):=by rw[bg];exact CW (by omega)
            have cl:=W.bnd_set a6 (i:=i+k) ap;have dg:=oK bu;have dj:=oK bA;have db:=oK aq;clear a7 aB bu bA aq cq aE hs T dI
            go_upto_region 36 with(fail)
            have cL:=E.set (i+k) O;have bO:=Z.kept (Am wr G (i+k) (.int .u32 (O:Int))) (by have:=M.out;simp;omega);have cb:=a2.setCell (p:=⟨G,i+k,none⟩) a0.out (.int .u32 (O:Int));have dt:∀ j,j≠i->True:=fun _ _=>trivial;generalize wr.setCell ⟨G,i+k,none⟩ (.int .u32 (O:Int))=wb at *
            generalize K.set (i+k) O=l1 at *
            clear E Z a2 g1 g2 c7 c8 a6 aJ cg cU cn dt be aD;go_wp2
            go_loopw[18,24] (fun cv iv wx=>∃ (F c3:Nat) (J:List Nat),cv = .int .u64 c3/\iv = .int .i64 F/\F<=k/\c3<=1/\Ext w2 wx/\Av .u32 wx G 241 G (n+1) (n+1) J/\Av .u32 wx H 241 H (X+1) (X+1) qs/\W.bnd 4294967296 J/\Hid (W.val 4294967296 J+c3*4294967296^(i+F)=W.val 4294967296 l1+1*W.val 4294967296 (ds.take F)*4294967296^i)/\Hid (∀ j,i+F<=j->J.getD j 0=l1.getD j 0)) (fun _ iv _=>k-(intOf iv).toNat)
            case atStart=>exact⟨0,0,l1,rfl,rfl,oY _,by omega,cb,cL,bO,cl,oK (by simp[W.val]),oK (fun j _=>rfl)⟩
            case round=>as_aux_lemma =>
             clear cb cL bO cl;obtain⟨F,c3,J,rfl,rfl,dz,ev,az,N,ag,aj,aX,aY⟩:=hrel;by_cases aF:F<k
             · have eh:(F:Int)<k:=by omega
               obtain⟨bv,ov,a3,a1⟩:=(hd.ext az).at (j:=F) aF;simp only[oQ,ic,iY]at a3;obtain⟨rfl,rfl⟩:=a3;have g1:=a1 F aF;rw[gL]at g1;have g2:=N.cell (i:=i+F) (by omega);have g3:=N.frozen (i+F);have bw:=W.bnd_at ND.out.bnd (i:=F) (by rw[hd.len];exact aF);have aK:=W.bnd_at aj (i:=i+F) (by rw[N.len];omega);have ab:=fun s c' e=>RJ (B:=4294967296) (l:=J) (xs:=ds) (k:=F) (o:=i) (w:=1) (c:=c3) (s:=s) (c':=c') (by rw[N.len];omega) aX.out e;generalize ds.getD F 0=v at *
               generalize J.getD (i+F) 0=u at *
               obtain⟨p,hp⟩:∃ p,u+v+c3=p:=⟨_,rfl⟩;have e7:(c3:Int)+((u:Int)+v)=(p:Int):=by omega
               have f1:(p:Int)%4294967296=((p%4294967296:Nat):Int):=by omega
               have f2:(p:Int)/4294967296=((p/4294967296:Nat):Int):=by omega
               have b3:=oK (ab (p%4294967296) (p/4294967296) (by rw[jR];omega));have dF:p/4294967296<=1:=by omega
               have dH:p%4294967296<4294967296:=gE _ (by omega);generalize p%4294967296=s2 at *
               generalize p/4294967296=c2 at *
               have aL:IntKind.i64.wrap ((F:Int)+i)=((i+F:Nat):Int):=by rw[<-gK,ju F i];exact oP _ (by omega)
               have ep:IntKind.i64.wrap ((F:Int)+i)=(F:Int)+i:=by rw[aL];omega
               have bP:(F:Int)+i<=n:=by omega
               have d4:(F:Int)+i<(n:Int)+1:=by omega
               have d5:((F:Int)+i).toNat=i+F:=by omega
               have d6:(0:Int)<=(F:Int)+i:=by omega
               clear ab hp a1 aL
               go_upto_region 41 with(fail)
               go_quiet (fail)
               have aA:=az.drewN nq;have aa:=N.drewN nq;have aI:=ag.drewN nq;have er:(wr.drewN nq).cell? _=_:=g2;have b9:(wr.drewN nq).frozen? _=_:=g3;generalize wr.drewN nq=dS at *
               clear g1 g2 g3 az N ag;go_wp2;go_roundw
               case rel=>exact⟨F+1,c2,J.set (i+F) s2,rfl,by go_num,by omega,dF,aA.setCell a0.out _,aa.set (i+F) s2,aI.kept (Am dS G (i+F) (.int .u32 (s2:Int))) (by have:=M.out;simp;omega),W.bnd_set aj dH,b3,oK (fun j hj=>by rw[gqq,iO (by omega),<-gqq];exact aY.out j (by omega))⟩
               case measure=>simp[intOf];omega
             · have cW:k=F:=by omega
               subst cW;have ce:W.val 4294967296 J+c3*4294967296^(i+k)=W.val 4294967296 l1+1*D*4294967296^i:=by
                have h1:=aX.out;rw[oL (l:=ds) (by rw[hd.len];exact lrf _),ND.out.val]at h1;exact h1
               have cj:∀ j,i+k+1<=j->J.getD j 0=0:=fun j hj=>by
                rw[aY.out j (by omega)];exact dj.out j hj
               clear aX aY aF dz;have g1:=N.cell (i:=i+k) (by omega);have g2:=N.frozen (i+k);have aJ:=W.bnd_at aj (i:=i+k) (by rw[N.len];omega);have a7:=fun v=>W.val_set (B:=4294967296) (xs:=J) (i:=i+k) (v:=v) (by rw[N.len];omega);have c7:=ag.cell (i:=i) (by omega);have c8:=ag.frozen i;generalize J.getD (i+k) 0=t2 at *
               obtain⟨z3,cK⟩:∃ z3,(t2+c3)%4294967296=z3:=⟨_,rfl⟩;have bR:z3<4294967296:=by omega
               have e8:((t2:Int)+c3)%4294967296=(z3:Int):=by omega
               have e9:IntKind.u32.wrap ((t2:Int)+c3)=(z3:Int):=by rw[<-gK,Ix,cK]
               have ew:(c3:Int)%4294967296=(c3:Int):=by omega
               have eJ:(q:Int)%4294967296=(q:Int):=by omega
               have bt:=MV (a7 z3) ce (B:=4294967296) (ov:=(t2+c3)/4294967296) (by have:=jR (t2+c3) 4294967296;omega)
               have aP:=Gp (B:=4294967296) (l:=J.set (i+k) z3) (p:=i+k+1) (by rw[List.length_set,N.len];omega) (W.bnd_set aj bR) (fun j hj=>by
                rw[gqq,iO (by omega),<-gqq]
                exact cj j hj)
               rw[gG]at aP;have ca:D*4294967296^i<4294967296^(i+k)*4294967296:=by
                have h1:D*4294967296^i<4294967296^k*4294967296^i:=iX aT.out (jx (by omega));rw[<-iW,ju k i]at h1;have h2:4294967296^(i+k)*1<=4294967296^(i+k)*4294967296:=gD _ (by omega);omega
               obtain⟨_,af,bN⟩:=MT b8.out bU.out dg.out db.out bX.out au.out S bt aP ca;have b4:=oK (KD (qs:=qs) (i:=i) (q:=q) (by rw[ag.len];omega) (HJ.out i (by omega)) rfl HV.out af);have b5:=oK bN;clear a7 ce cj cK bt aP ca af bN S;go_wp2
               go_roundg i
               case rel=>exact⟨i,J.set (i+k) z3,qs.set i q,by go_num,lrf _,by omega,(az.setCell a0.out _).setCell (oS a0.out (Nat.le_of_lt M.out)) _,(N.set (i+k) z3).kept (Am _ H i (.int .u32 (q:Int))) (by have:=M.out;simp;omega),(ag.kept (Am wr G (i+k) (.int .u32 (z3:Int))) (by have:=M.out;simp;omega)).set i q,W.bnd_set aj bR,W.bnd_set bq am,b4,oK (IC HJ.out),b5⟩
               case measure=>omega
end Go.Proofs.YtlbmnokpiilfpaaGreatDoor
