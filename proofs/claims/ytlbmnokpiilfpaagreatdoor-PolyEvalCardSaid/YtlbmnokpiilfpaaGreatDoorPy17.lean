/- Part Py17. -/
import Derived.Test.YtlbmnokpiilfpaaGreatDoorPy16
import Derived.Test.YtlbmnokpiilfpaaGreatDoorPyNu6
import Derived.Test.YtlbmnokpiilfpaaGreatDoorPy10
import Derived.Deep.CutBlock
set_option linter.all false
set_option maxRecDepth 100000
set_option maxHeartbeats 100000000
namespace Go.Proofs.YtlbmnokpiilfpaaGreatDoor
open Tryz Go Go.RowKit
def mX:=@List.perm_append_comm
def ma:=@ByteArray.size_append
def ms:=@Rat.add_zero
variable {a0:Act} {ops:Array Oper} {neg:Bool} {s:ByteArray} {z:Int} {ps:List Nat} {l t:List UInt8} {vs xs ys:List Value} {K R T base base' c i k n x:Nat} {o:Oper} {y:Operand} {a a' b:Option Addr} {row:Option Nat} {P:Program} {q r:Rat} {e e' ty:TypeId} {v:Value} {w w':World}
theorem Qm{k c':Nat}(h:Own w base e a n c xs)(f:Own w base' e' a' k c' ys)(he:e≠e'):blk a=none\/blk a≠blk a':=by
 cases i:blk a with
 | none=>exact .inl rfl
 | some g =>
  refine .inr fun j => ?_;obtain⟨l,m,h1⟩:=Own.ty h g i;obtain⟨b,d,h2⟩:=Own.ty f g j.symm;rw[h1]at h2;simp only[oQ,jJ]at h2;exact he h2.2.1
theorem Mg.apart(h:Mg w a n c x)(d:w.grownBy w' row)(b:blk a=none\/blk a≠row):Mg w' a n c x:=by
 obtain⟨e,h1,h2,h3⟩:=h;exact⟨e,h1.kept d b,h2,h3.kept d b⟩
theorem KE(h:1000000000^n<=x)(a:x<P2 (32*k)):n<=2*k:=by
 refine mS fun b => ?_;unfold P2 at a;have h1:2^(29*n)<=1000000000^n:=by rw[jO];exact iV (by omega) _
 have h2:2^(32*k)<=2^(29*n):=oT (by omega) (by omega);omega
theorem G3:x/T^n/T=x/T^(n+1):=by rw[jY,gG]
theorem N9(a:ps.length=n)(h:∀ i,i<n->ps.getD i 0=x/T^i%T):∀ i,i<n+1->(ps ++ [x/T^n%T]).getD i 0=x/T^i%T:=by
 intro i b;by_cases h1:i<n
 · rw[gqq,gF (by omega),<-gqq];exact h i h1
 · have:i=n:=by omega
   subst this;rw[gqq,gN (by omega),a,jt];rfl
structure DS(w wr:World)(x:Nat)(ps:List Nat)(a:Option Addr)(n c:Nat)(b:Option Addr)(m d:Nat):Prop where
 ext:Ext w wr
 own:Own wr w.heap.size 241 a n c (ps.map (Bt .u32))
 mg:Mg wr b m d (x/1000000000^n)
 ap:blk a=none\/blk b=none\/blk b≠blk a
 ps:∀ i,i<n->ps.getD i 0=x/1000000000^i%1000000000
 low:n=0\/1000000000^(n-1)<=x
structure DW(w wr:World)(x:Nat)(ps:List Nat)(a:Option Addr)(n c:Nat)(b:Option Addr)(m d:Nat)(l:List UInt8):Prop where
 ext:Ext w wr
 own:Own wr w.heap.size 241 a n c (ps.map (Bt .u32))
 out:Own wr w.heap.size 5 b m d (l.map AU)
theorem Jq(h:ZR w v z)(bz:z.natAbs<P2 3200000) :
 Calls prog 169 #[v] w fun e w'=>e = .returned (.string ⟨(Lib.decDigits z.natAbs).toArray⟩)/\Ext w w':=by
 obtain⟨s,a,n,c,rfl,HS,hx⟩:=h;have K:=hx.zero;generalize z.natAbs=x at *
 clear HS;by_cases h0:n=0
 · have L:x=0:=K.1 h0;subst h0;subst L;have o:Hid ((⟨(Lib.decDigits 0).toArray⟩:ByteArray)={ data:=#[48] }):=by show _=_;rw[W.dec_zero]
   clear K bz
   go_enter func169,ntmps169
   go_upto_region 1 with(fail)
   refine AM ?_;intro w0 y G af;have aC:=G.c 1 rfl;go_wp2;go_ret;exact⟨by rw[o.out];rfl,y⟩
 · have ae:x≠0:=fun h=>h0 (K.2 h);have ad:((n:Int) == 0)=false:=by simpa using h0
   have a5:=qh ae;have F:=qh bz;clear K h0 bz ae
   go_enter func169,ntmps169
   go_upto_region 1 with(fail)
   refine AM ?_;intro w0 y G af;have aC:=G.c 1 rfl;have L:=hx.ext y;have a0:Hid (DS w w0 x [] none 0 0 a n c):=qh ⟨y,Own.nil _ _ _,by rw[jE,kH];exact L,.inl rfl,fun i hi=>by omega,.inl rfl⟩;clear G af hx L;go_wp2
   go_loopg [3,4] x (fun gk pv mv wr=>∃ (a:Option Addr) (n c:Nat) (b:Option Addr) (m d:Nat) (M:List Nat),pv = .slice a n c/\mv = .slice b m d/\x/1000000000^n<=gk/\Hid (DS w wr x M a n c b m d))
   case atStart=>exact⟨none,0,0,a,n,c,[],rfl,rfl,by rw[jE,kH];exact lrf _,a0⟩
   case round =>
    clear a0 y;obtain⟨a,n,c,b,m,d,M,rfl,rfl,aK,o⟩:=hrel;by_cases hm:0<m
    · have ap:(0:Int)<m:=by omega
      have g:0<x/1000000000^n:=by
       have:=o.out.mg.zero;refine iU fun h => ?_;have:=this.2 h;omega
      have U:1000000000^n<=x:=by
       refine mS fun hc => ?_;rw[j8 hc]at g;omega
      have aw:n<=200000:=KE (k:=100000) U F.out;have au:m<=100000:=o.out.mg.len (k:=100000) (oR (gM _ _) F.out);have az:=qh (Fz o.out.mg au (dd:=1000000000) (by omega) (by omega));have A:=o.out.ext;have l:=o.out.own;have aj:=qh U;have P:=qh g;clear U g ad
      go_wp2_with fail
      refine az.out.mono ?_;rintro e w3 ⟨n3,c3,rfl,S,aq⟩;have aA:=S.size;have aF:=A.size;have al:=l.ext S;obtain⟨r,hr⟩:∃ r,x/1000000000^n%1000000000=r:=⟨_,rfl⟩;rw[hr];have hA:=al.alloc (.cells #[.int .u32 (r:Int)] 241);have hL:=(Ay w3 w.heap.size 241 #[.int .u32 (r:Int)] 1 rfl (by omega) (by omega)).sl;have I:=(Ext.refl w3).alloc (.cells #[.int .u32 (r:Int)] 241);have ar:=aq.ext I;have C:∀ k,blk a=some k->w.heap.size<=k/\k<wr.heap.size:=fun k Z=>Own.lt l Z
      go_wp2_with(refine BB rfl rfl underlying95 B5 rfl rfl hA rfl hL (by simp[Value.oneCell']) (by unfold maxLen;omega) (by omega) (by simp;omega) ?_;intro a7 c7 w7 T E a6)
      go_roundg (x/1000000000^(n+1))
      case rel =>
       refine⟨a7,n+1,c7,_,n3,c3,M ++ [r],rfl,rfl,lrf _,qh ⟨((A.trans S).trans I).grown E (fun k Z=>(C k Z).1),?_,?_,?_,?_,.inr (by rw[jS];exact aj.out)⟩⟩
       · rw[im];exact T
       · rw[<-G3];refine ar.apart E (.inr fun h => ?_);have h9:w.heap.size<=wr.heap.size/\wr.heap.size<wr.heap.size:=C wr.heap.size h.symm;omega
       · refine .inr (.inr fun h => ?_);rcases a6 with h7|h7
         · rw[h7]at h;have h9:w.heap.size<=wr.heap.size/\wr.heap.size<wr.heap.size:=C wr.heap.size h.symm;omega
         · rw[h7]at h;have h8:wr.heap.size=(w3.alloc (.cells #[.int .u32 (r:Int)] 241)).heap.size:=lr h;simp at h8;omega
       · rw[<-hr];exact N9 (by have:=l.len;simpa using this) o.out.ps
      case measure =>
       have h1:=P.out;have h2:x/1000000000^(n+1)<x/1000000000^n:=by rw[<-G3];exact Nat.div_lt_self h1 (by omega)
       omega
    · have ap:¬ (0:Int)<m:=by omega
      have g:x/1000000000^n=0:=o.out.mg.zero.1 (by omega);have ax:0<n:=by
       refine iU fun h => ?_;subst h;rw[jE,kH]at g;exact a5.out g
      have aw:n<=200001:=by
       rcases o.out.low with h|h
       · omega
       · have:=KE (k:=100000) h F.out;omega
      have A:=o.out.ext;have l:=o.out.own;have P:=qh g;have q:Hid (DW w wr x M a n c none 0 0 []):=qh ⟨A,l,Own.nil _ _ _⟩;have ai:=qh o.out.ps;obtain⟨ab,ao,rfl,_⟩:=(show SlN .u32 wr a n c M from l.sl).at (j:=0) ax;have aS:IntKind.i64.wrap ((n:Int)-1)=(n:Int)-1:=oP _ (by omega);clear g o A l ad F;go_wp2
      go_loopw[7,8] (fun ov iv wr=>∃ (k:Nat) (b:Option Addr) (m d:Nat),ov = .slice b m d/\iv = .int .i64 ((k:Int)-1)/\k<=n/\m<=9*(n-k)/\Hid (DW w wr x M (some ⟨ab,ao,none⟩) n c b m d (nD (x/1000000000^k)))) (fun _ iv _=>(intOf iv+1).toNat)
      case atStart=>exact⟨n,none,0,0,rfl,rfl,lrf _,by omega,by rw[P.out,Pc];exact q⟩
      case round =>
       clear q;obtain⟨k,b,m,d,rfl,rfl,Z,ac,q⟩:=hrel;cases k with
       | zero =>
        have B:=q.out.out;have R:=q.out.ext;have HT:Hid (nD (x/1000000000^0)=Lib.decDigits x):=by show _=_;rw[jE,kH,LD (iU a5.out)]
        rw[HT.out]at B;clear q
        go_wp2_with(refine CH rfl rfl underlying228 underlying5 underlying9 rfl B.sl ?_)
        go_ret;exact⟨rfl,R⟩
       | succ i =>
        have aB:((i+1:Nat):Int)-1=i:=by omega
        rw[aB];go_wp2
        go_loopw[7,9] (fun ov dv wr=>∃ (j:Nat) (b:Option Addr) (m d:Nat),ov = .slice b m d/\dv = .int .u32 ((dD j:Nat):Int)/\j<=9/\m<=9*(n-(i+1))+j/\Hid (DW w wr x M (some ⟨ab,ao,none⟩) n c b m d (nD (x/1000000000^(i+1)*10^j+x/1000000000^i%1000000000/10^(9-j))))) (fun _ dv _=>(intOf dv).toNat)
        case atStart=>exact⟨0,b,m,d,rfl,rfl,by omega,ac,by rw[jE,px,mw,j8 (show x/1000000000^i%1000000000<10^9 from gE _ (by omega)),gP];exact q⟩
        case round =>
         clear q ac;obtain⟨j,b,m,d,rfl,rfl,hj,aO,q⟩:=hrel;have R:=q.out.ext;have B:=q.out.out;have hP:=q.out.own;clear q;by_cases J:j<=8
         · have aJ:0<dD j:=by unfold dD;rw[pq J];exact jx (by omega)
           have aI:dD j<=100000000:=by unfold dD;rw[pq J];exact oT (n:=10) (by omega) (show 8-j<=8 by omega)
           have ah:Hid (dD j=10^(8-j)):=by show _=_;unfold dD;rw[pq J]
           have N:Hid (dD (j+1)=dD j/10):=qh (U1 j);obtain⟨p,hp⟩:∃ p,x/1000000000^i%1000000000=p:=⟨_,rfl⟩;obtain⟨H,hH⟩:∃ H,x/1000000000^(i+1)=H:=⟨_,rfl⟩;have ay:p<1000000000:=by rw[<-hp];exact gE _ (by omega)
           obtain⟨bv,ov,a8,a9⟩:=(show SlN .u32 wr _ n c M from hP.sl).at (j:=i) (by omega);simp only[oQ,ic,iY]at a8;obtain⟨rfl,rfl⟩:=a8;have g1:=a9 i (by omega);rw[ai.out i (by omega),hp]at g1;obtain⟨dd,X⟩:∃ dd,p/10^(8-j)%10=dd:=⟨_,rfl⟩;have aH:dd<=9:=by omega
           have a3:Hid (nD (H*10^(j+1)+p/10^(9-(j+1)))=if H*10^j+p/10^(9-j)=0/\dd=0 then []else nD (H*10^j+p/10^(9-j)) ++ [UInt8.ofNat (48+dd)]):=by
            show _=_;rw[show 9-(j+1)=8-j by omega,Tq J,X];exact Tp (by omega)
           have O:=qh (U0 (v:=H*10^j+p/10^(9-j)));rw[hp,hH]at B;generalize hv:H * 10^j+p/10^(9-j)=vv at *
           have e1:(p:Int).tdiv ((dD j:Nat):Int)=((p/dD j:Nat):Int):=by rw[ib (by omega)];rfl
           have e2:((p/dD j:Nat):Int).tmod 10=(dd:Int):=by rw[iJ (py _),ah.out,<-X];rfl
           have e3:((dD j:Nat):Int).tdiv 10=((dD (j+1):Nat):Int):=by rw[ib (by omega),N.out];rfl
           have g:¬ ((dD j:Nat):Int)=0:=by omega
           have aQ:(((dD j:Nat):Int) == 0)=false:=by simp;omega
           have aP:p/dD j<1000000000:=oR (gM _ _) ay;have aE:(0:Int)<((dD j:Nat):Int):=by omega
           have e4:IntKind.u32.wrap (48+(dd:Int))=48+(dd:Int):=by show _%4294967296=_;omega
           have e5:IntKind.u8.wrap (48+(dd:Int))=48+(dd:Int):=by show _%256=_;omega
           have e6:(48+(dd:Int))%256=48+(dd:Int):=by omega
           have aL:(0:Int)<=(i:Int):=by omega
           have aM:(i:Int)<n:=by omega
           generalize dD j=D at *
           obtain⟨D1,Q⟩:∃ D1,dD (j+1)=D1:=⟨_,rfl⟩;rw[Q]at e3 N;have a1:=qh Q;have a4:=qh hp;have a2:=qh hH;clear Q;generalize p/D=pd at *
           have aG:D1<D:=by have:=N.out;omega
           have Y:m=(nD vv).length:=by have:=B.len;simpa using this.symm
           have aN:m<=1800009:=by omega
           have C:∀ k,blk b=some k->w.heap.size<=k:=fun k Z=>(Own.lt B Z).1;have ak:=Qm hP B (by decide);have V:AU (UInt8.ofNat (48+dd)) = .int .u8 (48+(dd:Int)):=by
            have h1:(UInt8.ofNat (48+dd)).toNat=48+dd:=by rw[UInt8.toNat_ofNat'];omega
            unfold AU;rw[h1];rfl
           clear hp hH X hv a9;by_cases f:vv=0/\dd=0
           · have aa:m=0:=by rw[Y,O.out.2 f.1];rfl
             have hd0:dd=0:=f.2;have HS:Hid (nD (H*10^(j+1)+p/10^(9-(j+1)))=nD vv):=by show _=_;rw[a3.out,pq f,O.out.2 f.1]
             subst aa;subst hd0;clear f Y;go_wp2;go_roundw
             case rel=>exact⟨j+1,b,0,d,rfl,by rw[a1.out],by omega,by omega,by rw[a4.out,a2.out,HS.out];exact qh ⟨R,hP,B⟩⟩
             case measure=>simp[intOf];omega
           · have HS:Hid (nD (H*10^(j+1)+p/10^(9-(j+1)))=nD vv ++ [UInt8.ofNat (48+dd)]):=by show _=_;rw[a3.out,pf f]
             have hA:=B.alloc (.cells #[.int .u8 (48+(dd:Int))] 5);have am:=hP.alloc (.cells #[.int .u8 (48+(dd:Int))] 5);have hL:=(Ay wr w.heap.size 5 #[.int .u8 (48+(dd:Int))] 1 rfl R.size (by omega)).sl;have I:=R.alloc (.cells #[.int .u8 (48+(dd:Int))] 5);have aA:=R.size;by_cases aa:0<m
             case' neg =>
              have hd0:0<dd:=by
               refine iU fun h=>f ⟨O.out.1 ?_,h⟩;exact oX (by omega)
              have av:m=0:=by omega
              have ag:((48+(dd:Int)) == 48)=false:=by simp;omega
              have aD:¬ (48+(dd:Int))=48:=by omega
              subst av
             all_goals
              clear f Y
              go_wp2_with(refine BB rfl rfl underlying228 CZ rfl rfl hA rfl hL (by simp[Value.oneCell']) (by unfold maxLen;omega) (by omega) (by simp;omega) ?_;intro a7 c7 w7 T E a6)
              go_roundw
              case rel =>
               refine⟨j+1,a7,_,c7,rfl,by rw[a1.out],by omega,by omega,?_⟩;rw[a4.out,a2.out,HS.out];refine qh ⟨I.grown E C,am.kept E ak,?_⟩;rw[im,List.map_singleton,V];exact T
              case measure=>simp[intOf];omega
         · have an:j=9:=by omega
           subst an;have hd0:dD 9=0:=rfl;have ag:¬ (0:Int)<((dD 9:Nat):Int):=by rw[hd0];decide
           have HN:Hid (x/1000000000^(i+1)*10^9+x/1000000000^i%1000000000/10^(9-9)=x/1000000000^i):=by
            show _=_;rw[<-G3,jt,jE,kH];generalize x/1000000000^i=t;omega
           rw[HN.out]at B;have aR:IntKind.i64.wrap ((i:Int)-1)=(i:Int)-1:=oP _ (by omega);go_wp2;go_roundw
           case rel=>exact⟨i,b,m,d,rfl,rfl,by omega,by omega,qh ⟨R,hP,B⟩⟩
           case measure=>first | (simp[intOf];done) | (simp[intOf];omega)
def VK(w:World)(o:Option Nat)(e:Ending)(w':World):Prop:=∃ s a n c,e = .returned (.tuple #[.agg (Ab s a n c).toArray,.bool o.isSome])/\Ext w w'/\∀ x,o=some x->s=false/\Mg w' a n c x
theorem U2(h0:0<x)(c:x<4294967296):Mg (w.alloc (.cells #[.int .u32 (x:Int)] 241)) (some ⟨w.heap.size,0,none⟩) 1 1 x:=by
 have b:=Ay w w.heap.size 241 #[.int .u32 (x:Int)] 1 rfl (lrf _) (by omega);have a:SlN .u32 (w.alloc (.cells #[.int .u32 (x:Int)] 241)) (some ⟨w.heap.size,0,none⟩) 1 1 [x]:=b.sl;exact⟨[x],a,⟨fun z d=>by rw[oZ.1 d];exact c,W.nrm_single (by omega),by simp[W.val]⟩,b.ty⟩
theorem KF(h:k<s.size):(Al s).take (k+1)=(Al s).take k ++ [s[k]]:=by
 have h1:k<(Al s).length:=by rw[Ax];exact h
 rw[oW h1];have:=EE h;rw[gqq,oN h1,pg]at this;rw[this]
theorem RO(a:W.digs l):ER l=if l=[]then none else some (W.decV l):=by
 by_cases h:l=[]
 · subst h;rfl
 · rw[pf h,G0 a h]
theorem RP(h:k<s.size)(b:¬ W.isDig s[k]):ER (Al s)=none:=by
 unfold ER;rw[pf];simp only[iH,j9,not_and];intro _ a;have h1:s[k]∈Al s:=by
  have h2:k<(Al s).length:=by rw[Ax];exact h
  have:=EE h;rw[gqq,oN h2,pg]at this;rw[<-this];exact iF h2
 exact b (Ed.1 (a _ h1))
theorem LE(h:W.digs l){k:Nat}(a:l.length<=k):W.decV l<P2 (4*k):=by
 refine ph (W.decV_lt h) ?_;refine oS (oT (by omega) a) ?_;unfold P2;rw[jO];exact iV (by omega) _
structure FSt(w wr:World)(l:List UInt8)(k:Nat)(a:Option Addr)(n c:Nat):Prop where
 ext:Ext w wr
 res:Arr wr w.heap.size 97 (Ab false none 0 0)
 m:Mg wr a n c (W.decV (l.take k))
 ok:W.digs (l.take k)
theorem ES(hs:s.size<=100000):Calls prog 148 #[.string s] w (VK w (ER (Al s))):=by
 have ak:=Ax s
 go_enter func148,ntmps148
 go_upto_region 1 with(fail)
 refine AM ?_;intro w0 J I ah;have F:Hid (FSt w w0 (Al s) 0 none 0 0):=qh ⟨J,I,by rw[jK];exact Mg.nil w0,by rw[jK];intro c P;cases P⟩;clear ah I J;go_wp2
 go_loopg [4,5] s.size (fun gk mv iv wr=>∃ (k n c:Nat) (a:Option Addr),mv = .slice a n c/\iv = .int .i64 k/\k<=s.size/\s.size<=k+gk/\Hid (FSt w wr (Al s) k a n c))
 case atStart=>exact⟨0,0,0,none,rfl,rfl,oY _,by omega,F⟩
 case round =>
  clear F;obtain⟨k,n,c,a,rfl,rfl,hk,an,b⟩:=hrel;by_cases aa:k<s.size
  · go_wp2
    go_loop[6,7,5,8] (fun vv fv iv jv=>∃ j v f:Nat,vv = .int .u32 v/\fv = .int .u32 f/\iv = .int .i64 ((k+j:Nat):Int)/\jv = .int .i64 j/\j<=9/\k+j<=s.size/\v<f/\Hid (f=10^j/\W.digs ((Al s).take (k+j))/\W.decV ((Al s).take (k+j))=W.decV ((Al s).take k)*f+v)) (fun _ _ _ jv=>9-(intOf jv).toNat)
    case atStart=>exact⟨0,0,1,rfl,rfl,rfl,rfl,by omega,by omega,by omega,qh ⟨rfl,b.out.ok,by simp⟩⟩
    case round =>
     obtain⟨j,v,f,rfl,rfl,rfl,rfl,hj,a8,ar,p⟩:=hrel;by_cases P:j<9/\k+j<s.size
     · obtain⟨ap,D⟩:=P;have a7:f<=100000000:=by
        rw[p.out.1];have:=oT (n:=10) (by omega) (show j<=8 by omega);omega
       have aj:((k+j:Nat):Int)<s.size:=by omega
       have ai:(j:Int)<9:=by omega
       by_cases A:W.isDig s[k+j]
       · have a2:¬ ((s[k+j].toNat:Nat):Int)<48:=by have:=A.1;omega
         have a4:¬ (57:Int)<((s[k+j].toNat:Nat):Int):=by have:=A.2;omega
         have Z:Hid (10*f=10^(j+1)/\W.digs ((Al s).take (k+(j+1)))/\W.decV ((Al s).take (k+(j+1)))=W.decV ((Al s).take k)*(10*f)+(10*v+(s[k+j].toNat-48))):=by
          refine qh ⟨by rw[gG,<-p.out.1];omega,?_,?_⟩
          · rw[<-jk,KF D];intro x g;rcases il.1 g with g|g
            · exact p.out.2.1 x g
            · rw[oZ.1 g];exact A
          · rw[<-jk,KF D,W.decV_snoc,p.out.2.2]
            grind
         obtain⟨d,Q⟩:∃ d,s[k+j].toNat-48=d:=⟨_,rfl⟩;have am:d<=9:=by have:=A.2;omega
         have e1:IntKind.u8.wrap (((s[k+j].toNat:Nat):Int)-48)=(d:Int):=by
          have:=A.1;show _%256=_;omega
         have e2:IntKind.u32.wrap ((v:Int)*10)=((10*v:Nat):Int):=by show _%4294967296=_;omega
         have e3:IntKind.u32.wrap ((f:Int)*10)=((10*f:Nat):Int):=by show _%4294967296=_;omega
         have e4:IntKind.u32.wrap (((10*v:Nat):Int)+(d:Int))=((10*v+d:Nat):Int):=by show _%4294967296=_;omega
         rw[Q]at Z;clear A Q;go_wp2;go_round
         case rel=>exact⟨j+1,10*v+d,10*f,by go_num,by go_num,by go_num,by go_num,by omega,by omega,by omega,Z⟩
         case measure=>simp[intOf];omega
       · have HB:=qh (RP D A);have hR:=b.out.res;have hE:=b.out.ext;by_cases a2:((s[k+j].toNat:Nat):Int)<48
         case' neg =>
          have a4:(57:Int)<((s[k+j].toNat:Nat):Int):=by
           have:¬ (48<=s[k+j].toNat/\s[k+j].toNat<=57):=A;omega
         all_goals
          clear A p
          go_wp2_with(refine Aa (vs:=Ab false none 0 0) rfl rfl rfl rfl rfl AH hR rfl (Ad _ _ _ _) ?_;intro w9 l i)
          refine oM (Ar rfl AH rfl rfl l) rfl ⟨false,none,0,0,by rw[HB.out];rfl,hE.grownR i (by omega),fun x g=>by rw[HB.out]at g;cases g⟩
     · have a6:0<f:=by omega
       have a7:f<=1000000000:=by
        rw[p.out.1];have:=oT (n:=10) (by omega) hj;omega
       have E:¬ (j:Int)<9\/(j:Int)<9/\¬ ((k+j:Nat):Int)<s.size:=by omega
       have ao:0<j:=by
        rcases oV j with h|h
        · subst h;exact absurd ⟨by omega,aa⟩ P
        · exact h
       have ad:n<=100000:=b.out.m.len (k:=100000) (Aj (LE b.out.ok (k:=100000) (by rw[gO];omega)) (by omega));clear P;have HM:=b.out.m;have y:=b.out.res;have q:=b.out.ext;clear b;rcases E with E|⟨E,al⟩
       all_goals
        go_upto_region 12 with(fail)
        have hf:=U2 (w:=wr) a6 (show f<4294967296 by omega);have M:=(Ext.refl wr).alloc (.cells #[.int .u32 (f:Int)] 241);have U:=qh (Ji (HM.ext M) hf ad (by omega))
        go_wp2_with fail
        refine U.out.mono ?_;rintro e Y ⟨a3,n3,c3,rfl,a0,S⟩;have V:=Ay Y Y.heap.size 241 #[.int .u32 (v:Int)] 1 rfl (lrf _) (by omega);have X:SlN .u32 (Y.alloc (.cells #[.int .u32 (v:Int)] 241)) (some ⟨Y.heap.size,0,none⟩) 1 1 [v]:=V.sl;have N:=(Ext.refl Y).alloc (.cells #[.int .u32 (v:Int)] 241);have af:=V.ty
        go_wp2_with fail
        refine(BN X).mono ?_;rintro e w4 ⟨kq,rfl,rfl,a9,ht⟩;have hv:=CX X af a9 ht (fun z hz=>by rw[oZ.1 hz];omega) (v:=v) (by simp[W.val]);have K:=(M.trans a0).trans N;have ae:n3<=100000:=by
         refine S.len (k:=100000) ?_;have h0:=p.out.2.2;refine oR (oS (jU _ v) (kZ h0.symm)) ?_;exact Aj (LE p.out.2.1 (k:=100000) (by rw[gO];omega)) (by omega)
        have O:=qh (Jg (S.ext N) hv ae (by omega))
        go_wp2_with fail
        refine O.out.mono ?_;rintro e w5 ⟨a5,n5,c5,rfl,L,ab⟩;have Z:Hid (FSt w w5 (Al s) (k+j) a5 n5 c5):=qh ⟨(q.trans K).trans L,(y.ext K).ext L,by rw[p.out.2.2];exact ab,p.out.2.1⟩;go_wp2
        go_roundg (s.size-(k+j))
        case rel=>exact⟨k+j,n5,c5,a5,rfl,rfl,a8,by omega,Z⟩
        case measure=>omega
  · have aq:k=s.size:=by omega
    have B:(Al s).take k=Al s:=oL (by omega);have hM:=b.out.m;have C:=b.out.ok;have y:=b.out.res;have q:=b.out.ext;rw[B]at hM C;have HQ:=qh (RO C);have T:=qh (Jl (neg:=false) hM (z:=(W.decV (Al s):Int)) (by simp));clear b B hM C;by_cases he:s=({ data:=#[] }:ByteArray)
    · have a1:s.toList.isEmpty=true:=by rw[jb,he];rfl
      have G:Hid (ER (Al s)=none):=by show _=_;rw[HQ.out,pq (by rw[he];rfl)]
      clear HQ he
      go_wp2_with fail
      refine T.out.mono ?_;rintro e w2 ⟨s1,rfl,o,H,R⟩;have r:=y.ext o
      go_wp2_with(refine Aa (vs:=Ab s1 a n c) rfl rfl rfl rfl rfl AH r rfl (Ad _ _ _ _) ?_;intro w9 l i)
      refine oM (Ar rfl AH rfl rfl l) rfl ⟨s1,a,n,c,by rw[G.out];rfl,(q.trans o).grownR i (lrf _),fun x g=>by rw[G.out]at g;cases g⟩
    · have a1:s.toList.isEmpty=false:=by
       rw[jb];cases h:s.data.toList with
       | nil=>exact absurd (EB (s:=s) (t:=({ data:=#[] }:ByteArray)) h) he
       | cons=>rfl
      have G:Hid (ER (Al s)=some (W.decV (Al s))):=by show _=_;rw[HQ.out,pf (show ¬ Al s=[] from fun h=>he (EB (s:=s) (t:=({ data:=#[] }:ByteArray)) h))]
      clear HQ he
      go_wp2_with fail
      refine T.out.mono ?_;rintro e w2 ⟨s1,rfl,o,H,R⟩;have r:=y.ext o
      go_wp2_with(refine Aa (vs:=Ab s1 a n c) rfl rfl rfl rfl rfl AH r rfl (Ad _ _ _ _) ?_;intro w9 l i)
      have ac:=R.keptA r (by decide) i;refine oM (Ar rfl AH rfl rfl l) rfl ⟨s1,a,n,c,by rw[G.out];rfl,(q.trans o).grownR i (lrf _),fun x g => ?_⟩;rw[G.out]at g;have ag:=lr g;subst ag;exact⟨by rw[<-H.out];exact pb (by omega),ac⟩
theorem Jr(a b:ByteArray):Al (a ++ b)=Al a ++ Al b:=by
 unfold Al;rw[ByteArray.data_append];exact Array.toList_append
theorem Fm(q:Rat):txt q=(if q.num<0 then [45]else []) ++ Lib.decDigits q.num.natAbs ++ (if q.den=1 then []else 47 :: Lib.decDigits q.den):=by unfold txt;rw[L5]
theorem Gh(h:QV w v q)(y:Pl.RB 1000000 q):Calls prog 96 #[v] w fun e Y=>e = .returned (.string ⟨(txt q).toArray⟩)/\Ext w Y:=by
 obtain⟨s,a,n,c,b,m,d,rfl,r,J,E⟩:=h;have o:=qh (fun(U:World) (K:Ext w U)=>Jq (v := .agg (Ab s a n c).toArray) ⟨s,a,n,c,rfl,r,J.ext K⟩ (Aj y.1 (by omega)));have D:=L0 y.1;obtain⟨p,j⟩:∃ p:ByteArray,(⟨(Lib.decDigits q.num.natAbs).toArray⟩:ByteArray)=p:=⟨_,rfl⟩;have W:p.size<=400000:=by rw[<-j,<-Ax,CG];omega
 rw[j]at o;have j:=qh j;clear D;by_cases h1:q.den=1
 · have N:m=0:=E.zero.2 (BO h1);subst N;cases s with
   | true =>
    have A:Hid ((⟨(txt q).toArray⟩:ByteArray)=⟨#[45]⟩ ++ p):=by
     show _=_;refine EB ?_;have C:q.num<0:=by simpa using r.out
     simp only[CG,Jr,Fm,C,h1,kJ,jp];rw[<-j.out];rfl
    clear r J E y h1;have L:(⟨#[45]⟩ ++ p:ByteArray).size=1+p.size:=by rw[ma];rfl
    go_enter func96,ntmps96
    go_upto_region 1 with(fail)
    refine AM ?_;intro S i g k;have F:=g.c 0 rfl;have G:=g.c 1 rfl;have H:=g.c 2 rfl;have I:=g.c 3 rfl;clear k
    go_wp2_with fail
    refine(o.out _ i).mono ?_;rintro e T ⟨rfl,f⟩;have O:=f.cell F;have P:=f.cell G;have Q:=f.cell H;have R:=f.cell I;go_wp2;go_ret;exact⟨by rw[A.out];rfl,(i.trans f)⟩
   | false =>
    have A:Hid ((⟨(txt q).toArray⟩:ByteArray)=p):=by
     show _=_;refine EB ?_;have C:¬ q.num<0:=by simpa using r.out
     simp only[CG,Fm,C,h1,kJ,mI,jp,iA];rw[<-j.out];rfl
    clear r J E y h1
    go_enter func96,ntmps96
    go_upto_region 1 with(fail)
    refine AM ?_;intro S i g k;have F:=g.c 0 rfl;have G:=g.c 1 rfl;have H:=g.c 2 rfl;have I:=g.c 3 rfl;clear k
    go_wp2_with fail
    refine(o.out _ i).mono ?_;rintro e T ⟨rfl,f⟩;have O:=f.cell F;have P:=f.cell G;have Q:=f.cell H;have R:=f.cell I;go_wp2;go_ret;exact⟨by rw[A.out];rfl,(i.trans f)⟩
 · have t:=qh (fun(U:World) (K:Ext w U)=>Jq (v := .agg (Ab false b m d).toArray) (z:=(q.den:Int)) ⟨false,b,m,d,rfl,qh (pb (by omega)),by rw[pe];have:=E.ext K;rw[AZ h1]at this;exact this⟩ (Aj (b:=3200000) y.2 (by omega)));rw[pe]at t;have X:(0:Int)<m:=by
    have h2:m≠0:=fun h0=>by
     have h3:=E.zero.1 h0;rw[AZ h1]at h3;exact q.den_nz h3
    omega
   have D:=L0 y.2;obtain⟨x,l⟩:∃ x:ByteArray,(⟨(Lib.decDigits q.den).toArray⟩:ByteArray)=x:=⟨_,rfl⟩;have V:x.size<=400000:=by rw[<-l,<-Ax,CG];omega
   rw[l]at t;have l:=qh l;clear D;cases s with
   | true =>
    have A:Hid ((⟨(txt q).toArray⟩:ByteArray)=(⟨#[45]⟩ ++ p) ++ (⟨#[47]⟩ ++ x)):=by
     show _=_;refine EB ?_;have C:q.num<0:=by simpa using r.out
     simp only[CG,Jr,Fm,C,h1,kJ,mI];rw[<-j.out,<-l.out];rfl
    clear r J E y h1;have L:(⟨#[45]⟩ ++ p:ByteArray).size=1+p.size:=by rw[ma];rfl
    have M:(⟨#[47]⟩ ++ x:ByteArray).size=1+x.size:=by rw[ma];rfl
    go_enter func96,ntmps96
    go_upto_region 1 with(fail)
    refine AM ?_;intro S i g k;have F:=g.c 0 rfl;have G:=g.c 1 rfl;have H:=g.c 2 rfl;have I:=g.c 3 rfl;clear k
    go_wp2_with fail
    refine(o.out _ i).mono ?_;rintro e T ⟨rfl,f⟩;have O:=f.cell F;have P:=f.cell G;have Q:=f.cell H;have R:=f.cell I
    go_wp2_with fail
    refine(t.out _ (i.trans f)).mono ?_;rintro e Z ⟨rfl,B⟩;go_wp2;go_ret;exact⟨by rw[A.out];rfl,((i.trans f).trans B)⟩
   | false =>
    have A:Hid ((⟨(txt q).toArray⟩:ByteArray)=p ++ (⟨#[47]⟩ ++ x)):=by
     show _=_;refine EB ?_;have C:¬ q.num<0:=by simpa using r.out
     simp only[CG,Jr,Fm,C,h1,mI,iA];rw[<-j.out,<-l.out];rfl
    clear r J E y h1;have M:(⟨#[47]⟩ ++ x:ByteArray).size=1+x.size:=by rw[ma];rfl
    go_enter func96,ntmps96
    go_upto_region 1 with(fail)
    refine AM ?_;intro S i g k;have F:=g.c 0 rfl;have G:=g.c 1 rfl;have H:=g.c 2 rfl;have I:=g.c 3 rfl;clear k
    go_wp2_with fail
    refine(o.out _ i).mono ?_;rintro e T ⟨rfl,f⟩;have O:=f.cell F;have P:=f.cell G;have Q:=f.cell H;have R:=f.cell I
    go_wp2_with fail
    refine(t.out _ (i.trans f)).mono ?_;rintro e Z ⟨rfl,B⟩;go_wp2;go_ret;exact⟨by rw[A.out];rfl,((i.trans f).trans B)⟩
def VL(w:World)(o:Option Rat)(e:Ending)(w':World):Prop:=∃ s a n c b m d,e = .returned (.tuple #[.agg (Ah s a n c false b m d).toArray,.bool o.isSome])/\Ext w w'/\∀ q,o=some q->Hid (decide (q.num<0)=s)/\Mg w' a n c q.num.natAbs/\Mg w' b m d (AN q).natAbs
theorem U3:∀ {K:Nat},(∀ j,j<K->l.getD j 0≠47)->(K=l.length\/K<l.length/\l.getD K 0=47)->l.takeWhile (· != 47)=l.take K/\l.dropWhile (· != 47)=l.drop K:=by
 induction l with
 | nil=>intro K _ h;simp
 | cons x r ih =>
  intro K h a;cases K with
  | zero =>
   rcases a with h0|⟨_,h0⟩
   · simp at h0
   · have:x=47:=by simpa using h0
     subst this;simp
  | succ K =>
   have b:x≠47:=by simpa using h 0 (by omega)
   have:=ih (K:=K) (fun j c=>by have:=h (j+1) (by omega);simpa using this) (by
    rcases a with h0|⟨h0,h1⟩
    · left;simpa using h0
    · right;exact⟨by simpa using h0,by simpa using h1⟩)
   simp[b,this]
theorem Pd(h:ER l=some x)(b:l.length<=k):x<P2 (4*k):=by
 unfold ER at h;split at h
 · rename_i a;simp only[iH,j9]at a;injection h with h;rw[<-h];exact LE (fun c d=>Ed.1 (a.2 c d)) b
 · cases h
def Ts(neg:Bool)(n:Nat):Int:=if neg=true then -(n:Int)else n
theorem RQ(c:decide (l.head?=some 45)=neg)(e:(if neg=true then l.tail else l)=t)(h:∀ j,j<K->t.getD j 0≠47)(a:K=t.length\/K<t.length/\t.getD K 0=47) :
 MI l=match ER (t.take K)with
  | none=>none
  | some n=>if K=t.length then some (mkRat (Ts neg n) 1)
   else match ER (t.drop (K+1))with
    | none=>none
    | some d=>if d=0 then none else some (mkRat (Ts neg n) d):=by
 have b:=U3 h a;unfold MI;simp only[c,e,b.1,b.2];cases ER (t.take K)with
 | none=>rfl
 | some n =>
  have h1:(t.drop K=[])<->K=t.length:=by
   rw[List.drop_eq_nil_iff];rcases a with h2|h2 <;> omega
  have h2:(t.drop K).tail=t.drop (K+1):=by rw[List.tail_drop]
  simp only[h1,h2];rfl
theorem ET(s:ByteArray)(i j:Nat):(s.extract i j).size<=s.size:=by
 rw[<-Ax,<-Ax s,Ba,gO,jV];omega
theorem Oa:decide ((Al s).head?=some 45)=true<->∃ h:0<s.size,s[0]=45:=by
 rw[decide_eq_true_iff];have a:=Ax s;cases b:Al s with
 | nil =>
  rw[b]at a;simp at a;simp;intro h;omega
 | cons c r =>
  have h0:0<s.size:=by rw[<-a,b];simp
  have h1:=EE h0;rw[b]at h1;have h2:c=s[0]:=by simpa using h1
  constructor
  · intro h;exact⟨h0,by rw[<-h2];simpa using h⟩
  · rintro⟨_,h⟩;have h3:c=45:=by rw[h2];exact h
    rw[h3];rfl
theorem Qn(h:mkRat z 1=r):r.num=z/\r.den=1:=by
 rw[Rat.mkRat_one]at h;subst h;exact⟨rfl,rfl⟩
theorem LF{d:List Hd}{C:World->Prop}{t:TypeId}{x:Operand}(s:o.guard=none)(l:o.op = .store ty x y)(r:Agg P ty vs.length)(h1:∀ v∈vs,v.oneCell'=true)
 (q:∀ w,C w->∃ cs,cs.length=vs.length/\Arr w R t cs) (f:∀ w e,C w->w.grownBy e (some R)->Arr e R t vs->C e) (z:∀ w e,Fv ops d i o w e (List.range d.length))
 (h:∀ a w,C9 a->C w->B3 ops d a0 o a w [x,y]->a x = .pointer (some ⟨R,0,none⟩)/\a y = .agg vs.toArray):obl P C ops d a0 i o (hmp (fun _ A=>Arr A R t vs)):=by
 unfold obl B4;rw[s];intro a w hp b m;have k:B3 ops d a0 o a w [x,y]:=by rw[l]at m;exact m
 obtain⟨n,p⟩:=h a w hp b k;obtain⟨cs,h3,h4⟩:=q w b;have c:(execOp a o).run P w = .ok .skip (w.setRow R vs.toArray):=by
  have:=Dc (P:=P) (w:=w) (ty:=ty) (g:=R) (cs:=cs) (vs:=vs) r h4 h3 h1;simp only[execOp,l,n,p,gI,this,p9,gS]
 rw[c];have j:=Bs w R vs.toArray;exact⟨f w _ b j (B0 h4 _),z _ _,B0 h4 _⟩
theorem MJ(hs:s.size<=10000):Calls prog 71 #[.string s] w (VL w (AJ (Al s))):=by
 have aS:=Ax s
 go_enter func71,ntmps71
 go_upto_region 1 with(fail)
 refine AM ?_;intro w0 b1 aD bk;have hR:Arr w0 w.heap.size 99 (Ah false none 0 0 false none 0 0):=aD;clear bk aD
 go_upto_region 2 with(fail)
 go_cut [5] from 14 to 81 (fun nv H=>∃ nb:Bool,nv = .bool nb/\Hid (decide ((Al s).head?=some 45)=nb)/\H=w0)
 case first =>
  cases F:decide ((Al s).head?=some 45)with
  | true =>
   obtain⟨h0,h45⟩:=Oa.1 F;have am:(0:Int)<s.size:=by omega
   have hb:(((s[0].toNat:Nat):Int) == 45)=true:=by rw[h45];rfl
   have B:=qh F;clear F h45
   go_wp2_with fail
   go_meet
   exact⟨true,rfl,B,rfl⟩
  | false =>
   have B:=qh F;by_cases h0:0<s.size
   · have am:(0:Int)<s.size:=by omega
     have hb:(((s[0].toNat:Nat):Int) == 45)=false:=by
      have h45:s[0]≠45:=fun h=>by
       have:=Oa.2 ⟨h0,h⟩;rw[F]at this;cases this
      have:s[0].toNat≠45:=fun h=>h45 (nW.1 h);simpa using(show ¬ ((s[0].toNat:Nat):Int)=45 by omega)
     clear F
     go_wp2_with fail
     go_meet
     exact⟨false,rfl,B,rfl⟩
   · have am:¬ (0:Int)<s.size:=by omega
     clear F
     go_wp2_with fail
     go_meet
     exact⟨false,rfl,B,rfl⟩
 case rest =>
  obtain⟨nb,rfl,B,rfl⟩:=hcut
  go_upto_if 22 with(fail)
  go_cut [4] from 23 to 81 (fun tv wy=>∃ t:ByteArray,tv = .string t/\t.size<=10000/\Hid ((if nb=true then(Al s).tail else Al s)=Al t)/\wy=wc)
  case first =>
   cases nb with
   | true =>
    have h0:=(Oa.1 B.out).1;have am:(0:Int)<s.size:=by omega
    have bl:(1:Int)<=s.size:=by omega
    go_wp2_with fail
    go_meet
    refine⟨s.extract 1 s.size,rfl,oS (ET _ _ _) hs,?_,rfl⟩;show _=_
    first | rw[pq rfl] | rw[pq trivial]
    rw[Ba,oL (by rw[jV,Ax];exact lrf _),List.drop_one]
   | false =>
    go_wp2_with fail
    go_meet
    exact⟨s,rfl,hs,qh rfl,rfl⟩
  case rest =>
   obtain⟨t,rfl,bq,aY,rfl⟩:=hcut;have bb:=Ax t
   go_upto_block 0 with(fail)
   go_cut [6,7] from 27 to 81 (fun av _ wy=>∃ K:Nat,av = .int .i64 K/\K<=t.size/\Hid (∀ j,j<K->(Al t).getD j 0≠47)/\Hid (K=(Al t).length\/K<(Al t).length/\(Al t).getD K 0=47)/\wy=wc)
   case first =>
    go_wp2_with fail
    go_loopw[6,7] (fun av iv wr=>∃ k:Nat,av = .int .i64 t.size/\iv = .int .i64 k/\k<=t.size/\wr=wc/\Hid (∀ j,j<k->(Al t).getD j 0≠47)) (fun _ iv _=>t.size-(intOf iv).toNat)
    case atStart=>exact⟨0,rfl,rfl,oY _,rfl,qh (fun j h=>by omega)⟩
    case round =>
     obtain⟨k,rfl,rfl,hk,rfl,HK⟩:=hrel;by_cases aI:k<t.size
     · have aT:(k:Int)<t.size:=by omega
       by_cases h47:t[k]=47
       · have hb:(((t[k].toNat:Nat):Int) == 47)=true:=by rw[h47];rfl
         have I:=qh (Or.inr (a:=k=(Al t).length) (And.intro (show k<(Al t).length by omega) (show(Al t).getD k 0=47 by rw[EE aI];exact h47)));clear h47
         go_wp2_with fail
         go_meet
         exact⟨k,rfl,hk,HK,I,by first | rfl | trivial⟩
       · have hb:(((t[k].toNat:Nat):Int) == 47)=false:=by
          have:t[k].toNat≠47:=fun h=>h47 (nW.1 h);simpa using(show ¬ ((t[k].toNat:Nat):Int)=47 by omega)
         have HN:Hid (∀ j,j<k+1->(Al t).getD j 0≠47):=qh (fun j hj=>by
          by_cases b5:j<k
          · exact HK.out j b5
          · have:j=k:=by omega
            subst this
            rw[EE aI];exact h47)
         clear h47;go_wp2;go_roundw
         case rel=>exact⟨k+1,rfl,by go_num,by omega,by first | rfl | trivial,HN⟩
         case measure=>simp[intOf];omega
     · have aT:¬ (k:Int)<t.size:=by omega
       have I:=qh (Or.inl (b:=k<(Al t).length/\(Al t).getD k 0=47) (show k=(Al t).length by omega));have E:k=t.size:=by omega
       have aU:=qh E;clear E
       go_wp2_with fail
       go_meet
       exact⟨k,by rw[aU.out],hk,HK,I,by first | rfl | trivial⟩
   case rest =>
    obtain⟨K,rfl,hK,HK,I,aL⟩:=hcut;have bd:=aL;subst aL;generalize be:wc=wr at *
    clear be bd;have a2:=hR;have ae:=b1;clear bb aS;have a7:=qh (RQ B.out aY.out HK.out I.out);have T:=qh (ES (s:=t.extract 0 K) (w:=wr) (oS (ET _ _ _) (by omega)));have aC:Hid (Al (t.extract 0 K)=(Al t).take K):=by show _=_;rw[Ba];simp
    have aV:Hid ((Al (t.extract 0 K)).length<=10000):=by show _<=_;rw[Ax];exact oS (ET _ _ _) (by omega)
    clear I HK
    go_wp2_with fail
    refine T.out.mono ?_;rintro e w1 ⟨s1,a1,n1,c1,rfl,ac,au⟩;have hY:=Arr.new w1 97 (Ab false none 0 0);cases ho:ER (Al (t.extract 0 K))with
    | none =>
     have y:Hid (AJ (Al s)=none):=qh (G2 (by rw[a7.out,<-aC.out,ho]));clear T au a7
     go_upto_region 12 with(refine Aa (vs:=Ab s1 a1 n1 c1) rfl rfl rfl rfl rfl AH hY rfl (Ad _ _ _ _) ?_;intro w2 aa af)
     have S:Ext w1 w2:=((Ext.refl w1).alloc _).grownR af (lrf _);have m:=a2.ext (ac.trans S)
     go_wp2_with(refine Aa (vs:=Ah false none 0 0 false none 0 0) rfl rfl rfl rfl rfl AE m rfl (Ag _ _ _ _ _ _ _ _) ?_;intro w9 C a4)
     refine oM (Ar rfl AE rfl rfl C) rfl ⟨false,none,0,0,none,0,0,by rw[y.out];rfl,(ae.trans (ac.trans S)).grownR a4 (lrf _),fun x Z=>by rw[y.out]at Z;cases Z⟩
    | some x =>
     obtain⟨rfl,b7⟩:=au x ho;have aw:=Pd ho aV.out;obtain⟨z,hz⟩:∃ z:Int,Ts nb x=z:=⟨_,rfl⟩;have a6:z.natAbs<P2 40000:=by rw[show z.natAbs=x by rw[<-hz];unfold Ts;split <;> omega];exact aw
     have f:=a7.out;rw[<-aC.out,ho]at f;simp only at f;rw[hz]at f;have f:=qh f;clear T au a7
     go_upto_region 12 with(refine Aa (vs:=Ab false a1 n1 c1) rfl rfl rfl rfl rfl AH hY rfl (Ad _ _ _ _) ?_;intro w2 aa af)
     have S:Ext w1 w2:=((Ext.refl w1).alloc _).grownR af (lrf _);have q0:=aa.c 0 rfl;have q1:=aa.c 1 rfl;have aJ:=qh (BE (neg:=nb) (b7.ext S) (z:=z) hz.symm);have ak:=ac.trans S;clear aa af hY ac S hz
     go_wp2_with fail
     refine aJ.out.mono ?_;rintro e w3 ⟨s3,a3,n3,c3,rfl,an,aB,aM⟩;have bp:(Ab s3 a3 n3 c3).toArray=#[.bool s3,.slice a3 n3 c3]:=rfl;have aG:=Arr.new w3 99 (Ah false none 0 0 false none 0 0)
     go_upto_region 15 with(refine Aa (vs:=Ah s3 a3 n3 c3 false none 0 0) rfl rfl rfl rfl rfl AE aG rfl (Ag _ _ _ _ _ _ _ _) ?_;intro w4 Q aH)
     have aE:Ext w3 w4:=((Ext.refl w3).alloc _).grownR aH (lrf _);have G:=(ak.trans an).trans aE;have ax:=(ak.trans an).size;have aN:=aM.ext aE;have k0:=Q.c 0 rfl;have k1:=Q.c 1 rfl;have k2:=Q.c 2 rfl;have k3:=Q.c 3 rfl;clear aJ q0 q1 an aH aG aM ak
     go_upto_if 56 with(fail)
     go_cut [11,12] from 56 to 76 (fun _ _ wy=>∃ (r:Rat) (Y:Bool) (M:Option Addr) (X O:Nat) (N:Option Addr) (W P:Nat),Ext wr wy/\Hid (MI (Al s)=some r)/\Hid (Pl.RB 1000000 r)/\Arr wy w3.heap.size 99 (Ah Y M X O false N W P)/\Hid (decide (r.num<0)=Y)/\Mg wy M X O r.num.natAbs/\Mg wy N W P (AN r).natAbs)
     case first =>
      by_cases E:K=t.size
      · have b6:¬ (K:Int)<t.size:=by omega
        have g:=f.out;rw[pq (by rw[Ax];exact E)]at g;obtain⟨r,hr⟩:∃ r,mkRat z 1=r:=⟨_,rfl⟩;rw[hr]at g;obtain⟨ai,ar⟩:=Qn hr;have J:=qh g;have L:Hid (decide (r.num<0)=s3):=by rw[ai];exact aB
        have U:Mg w4 a3 n3 c3 r.num.natAbs:=by rw[ai];exact aN
        have V:Mg w4 none 0 0 (AN r).natAbs:=by rw[BO ar];exact Mg.nil w4
        have a0:Hid (Pl.RB 1000000 r):=qh ⟨by rw[ai];exact Aj a6 (by omega),by rw[ar];exact Aj (a:=1) (by decide) (by omega)⟩;clear hr g f a6 aw E ai ar
        go_wp2_with fail
        go_meet
        exact⟨r,s3,a3,n3,c3,none,0,0,G,J,a0,Q,L,U,V⟩
      · have b6:(K:Int)<t.size:=by omega
        have f:=f.out;rw[pf (by rw[Ax];exact E)]at f;have T:=qh (ES (s:=t.extract (K+1) t.size) (w:=w4) (oS (ET _ _ _) (by omega)));have aZ:Hid (Al (t.extract (K+1) t.size)=(Al t).drop (K+1)):=by show _=_;rw[Ba,oL];rw[jV,Ax];exact lrf _
        have aW:Hid ((Al (t.extract (K+1) t.size)).length<=10000):=by show _<=_;rw[Ax];exact oS (ET _ _ _) (by omega)
        rw[<-aZ.out]at f;have f:=qh f;have bo:IntKind.i64.wrap ((K:Int)+1)=((K+1:Nat):Int):=by rw[oP _ (by omega)];rfl
        clear E
        go_wp2_with fail
        refine T.out.mono ?_;rintro e w5 ⟨s5,a5,n5,c5,rfl,D,aK⟩;have ao:=Arr.new w5 97 (Ab false none 0 0);have l:=Q.ext D;cases ah:ER (Al (t.extract (K+1) t.size))with
        | none =>
         have y:Hid (AJ (Al s)=none):=qh (G2 (by rw[f.out,ah]))
         go_upto_region 17 with(refine Aa (vs:=Ab s5 a5 n5 c5) rfl rfl rfl rfl rfl AH ao rfl (Ad _ _ _ _) ?_;intro w6 ab ag)
         have A:Ext w5 w6:=((Ext.refl w5).alloc _).grownR ag (lrf _);have m:=a2.ext ((G.trans D).trans A)
         go_wp2_with(refine Aa (vs:=Ah false none 0 0 false none 0 0) rfl rfl rfl rfl rfl AE m rfl (Ag _ _ _ _ _ _ _ _) ?_;intro w9 C a4)
         refine oM (Ar rfl AE rfl rfl C) rfl ⟨false,none,0,0,none,0,0,by rw[y.out];rfl,(ae.trans ((G.trans D).trans A)).grownR a4 (lrf _),fun x Z=>by rw[y.out]at Z;cases Z⟩
        | some d =>
         obtain⟨rfl,b9⟩:=aK d ah;have ap:=Pd ah aW.out;have g:=f.out;rw[ah]at g;simp only at g;clear f T aK
         go_upto_region 17 with(refine Aa (vs:=Ab false a5 n5 c5) rfl rfl rfl rfl rfl AH ao rfl (Ad _ _ _ _) ?_;intro w6 ab ag)
         have A:Ext w5 w6:=((Ext.refl w5).alloc _).grownR ag (lrf _);have l:=l.ext A;have al:=(G.trans D).trans A;have ba:=b9.ext A;have u0:=ab.c 0 rfl;have u1:=ab.c 1 rfl;have a9:Hid (ZR w6 (.agg #[.bool false,.slice a5 n5 c5]) (d:Int)):=qh ⟨false,a5,n5,c5,rfl,qh (pb (by omega)),by rw[pe];exact ba⟩;by_cases hd0:d=0
         · have y:Hid (AJ (Al s)=none):=qh (G2 (by rw[g,pq hd0]));have aj:=qh (Jm a9.out (r:=0) (by rw[hd0];rfl));clear g hd0
           go_wp2_with fail
           refine aj.out.mono ?_;rintro e w7 ⟨rfl,p⟩;have m:=a2.ext (al.trans p)
           go_wp2_with(refine Aa (vs:=Ah false none 0 0 false none 0 0) rfl rfl rfl rfl rfl AE m rfl (Ag _ _ _ _ _ _ _ _) ?_;intro w9 C a4)
           refine oM (Ar rfl AE rfl rfl C) rfl ⟨false,none,0,0,none,0,0,by rw[y.out];rfl,(ae.trans (al.trans p)).grownR a4 (lrf _),fun x Z=>by rw[y.out]at Z;cases Z⟩
         · have bm:0<d:=by omega
           rw[pf hd0]at g;have aj:=qh (Jm a9.out (r:=1) (by rw[jI (by omega)]));clear hd0
           go_wp2_with fail
           refine aj.out.mono ?_;rintro e w7 ⟨rfl,p⟩;obtain⟨r,hr⟩:∃ r,mkRat z d=r:=⟨_,rfl⟩;rw[hr]at g;have J:=qh g;have a0:Hid (Pl.RB 1000000 r):=by
            have h1:=Pl.mkRat_le (n:=z) (d:=d) (by omega);rw[hr]at h1;exact qh ⟨oR h1.1 (Aj a6 (by omega)),oR h1.2 (Aj ap (by omega))⟩
           have b4:=qh (Gf (w:=w7) (v := .agg #[.bool s3,.slice a3 n3 c3]) (z:=z) (q:=r) ⟨s3,a3,n3,c3,rfl,aB,aN.ext ((D.trans A).trans p)⟩ (a9.out.ext p) (Aj a6 (by omega)) (by rw[pe];exact Aj ap (by omega)) (by omega) (by rw[pe];exact hr.symm));have ay:=A.trans p;have k0:=(D.trans ay).cell k0;have k1:=(D.trans ay).cell k1;have u0:=p.cell u0;have u1:=p.cell u1;have l:=l.ext p;clear hr g a6 aw ap aj a9 k2 k3 ab ag ao
           go_wp2_with fail
           refine b4.out.mono ?_;rintro e w8 ⟨Y,M,X,O,N,W,P,rfl,aF,L,bf,bi⟩;have l:=l.ext aF
           go_wp2_with(refine Aa (vs:=Ah Y M X O false N W P) rfl rfl rfl rfl rfl AE l rfl (Ag _ _ _ _ _ _ _ _) ?_;intro wf R aq)
           have ad:Ext wr wf:=((al.trans p).trans aF).grownR aq (ax);have U:=bf.keptA l (by decide) aq;have V:=bi.keptA l (by decide) aq
           go_meet
           exact⟨r,Y,M,X,O,N,W,P,ad,J,a0,R,L,U,V⟩
     case rest =>
      obtain⟨r,Y,M,X,O,N,W,P,ad,J,a0,R,L,U,V⟩:=hcut;have l0:=R.c 0 rfl;have l1:=R.c 1 rfl;have l2:=R.c 2 rfl;have l3:=R.c 3 rfl;have m:=a2.ext (ad);have b3:=ae.trans (ad);have bc:=qh (fun(H:World) (o:wc.grownBy H (some w.heap.size))=>Gh (v := .agg #[.bool Y,.slice M X O,.bool false,.slice N W P]) ⟨Y,M,X,O,N,W,P,rfl,L,U.keptA m (by decide) o,V.keptA m (by decide) o⟩ a0.out);have i:Hid (some w3.heap.size≠some w.heap.size):=by have h1:=a2.lt;have h2:=ax;show _≠_;simp;omega
      have aA:Hid ((txt r == s.toList)=(AJ (Al s)).isSome):=by
       show _=_;rw[Tr J.out,jb];show(txt r == Al s)=_;by_cases h:txt r=Al s <;> simp[h]
      have aX:Hid (∀ x,AJ (Al s)=some x->x=r):=qh fun x Z=>by
       have h1:=G1 Z;rw[J.out]at h1;exact(lr h1).symm
      go_upto_region 20 with(fail)
      refine D7 (by kernel_rfl) (fun H=>wc.grownBy H (some w.heap.size)/\∃ cs:List Value,cs.length=4/\Arr H w.heap.size 99 cs)
       [he (.agg #[.bool Y,.slice M X O,.bool false,.slice N W P]),
 he (.agg #[.bool Y,.slice M X O,.bool false,.slice N W P]),
 hp (fun v H=>v = .string ⟨(txt r).toArray⟩),
 he (.string s),
 he (.bool (AJ (Al s)).isSome),
 hmp (fun _ H=>Arr H w.heap.size 99 (Ah Y M X O false N W P))]
       (by kernel_rfl) (fun _ _ e h=>⟨GK h.1 e,h.2.choose,h.2.choose_spec.1,h.2.choose_spec.2.ext e⟩) ⟨GK (CK wc _) ((Ext.refl wc).drew),_,rfl,m.ext ((Ext.refl wc).drew)⟩ ⟨trivial,trivial,fun v w w' e h=>h,trivial,trivial,fun _ _ _ e h=>Arr.ext h e,trivial⟩ ⟨?o0,?o1,?o2,?o3,?o4,?o5,trivial⟩ ?fin
      case o3=>exact omv
      case o0 | o1 =>
       refine Ao rfl fun ρ H o az h => ?_
       try have e0:_=_:=h.1
       try have e1:_=_:=h.2.1
       try have e2:_=_:=h.2.2.1
       have aO:=o.1.cell l0 i.out;have aP:=o.1.cell l1 i.out;have aQ:=o.1.cell l2 i.out;have aR:=o.1.cell l3 i.out;go_simp
       try (first | (intros;omega) | exact oP _ (by omega))
      case o2 =>
       refine Ae rfl fun ρ H o az bn h => ?_;have e1:_=_:=h.2.1;have aO:=o.1.cell l0 i.out;have aP:=o.1.cell l1 i.out;have aQ:=o.1.cell l2 i.out;have aR:=o.1.cell l3 i.out;refine⟨96,#[.agg #[.bool Y,.slice M X O,.bool false,.slice N W P]],by go_simp,(bc.out H o.1).mono ?_⟩;rintro e w' ⟨rfl,b0⟩;exact⟨_,rfl,b0,rfl⟩
      case o4 =>
       refine Ao rfl fun ρ H o az h => ?_;obtain⟨v0,e0,rfl⟩:=h.1;have e1:_=_:=h.2.1;have aO:=o.1.cell l0 i.out;have aP:=o.1.cell l1 i.out;have aQ:=o.1.cell l2 i.out;have aR:=o.1.cell l3 i.out;have h8:=aA.out;go_simp
       try exact aA.out
      case o5 =>
       exact LF rfl rfl AE (Ag _ _ _ _ _ _ _ _) (fun _ h=>h.2) (fun _ _ h hg hA=>⟨IK h.1 hg,_,rfl,hA⟩) (fun _ _=>Ku (j:=2) (by kernel_rfl) (fun _ h=>h)) (fun _ _ _ _ h=>⟨h.1,h.2.1⟩)
      case fin =>
       intro H o;rintro _ rfl;rintro _ C;change wpList _ _ _ _ _ _;simp only[A0];have bg:=U.keptA m (by decide) o.1;have bj:=V.keptA m (by decide) o.1;have b2:=b3.grownR o.1 (lrf _);go_wp2;refine oM (Ar rfl AE rfl rfl C) rfl ⟨Y,M,X,O,N,W,P,rfl,b2,fun x Z => ?_⟩;have bh:=aX.out x Z;subst bh;exact⟨L,bg,bj⟩
theorem Pe{x y:Int}(h:x≠y):Pl.cmpI x y=if x<y then -1 else 1:=by
 unfold Pl.cmpI;split
 · rfl
 · rw[pq (by omega)]
theorem EU{d:Nat}{xs ys:List Int}(O:SlI w a n c xs)(P:SlI w b n d ys)(hn:n<=12)(V:∀ x∈xs,-1099511627776<=x/\x<=1099511627776)(C:∀ x∈ys,-1099511627776<=x/\x<=1099511627776) :
 Calls prog 154 #[.slice a n c,.slice b n d] w fun e w'=>e = .returned (.int .i64 (Pl.ordE xs ys))/\Qt w w':=by
 have Z:=oK (GG V (by omega));have HY:=oK (GG C (by omega));have a1:=O.len;have a2:=P.len
 go_enter func154,ntmps154
 go_wp2
 go_loopw[5,6,7] (fun av bv A wr=>∃ (k:Nat) (p q:Int),av = .int .i64 p/\bv = .int .i64 q/\A = .int .i64 k/\k<=n/\Qt w wr/\Hid ((xs.take k).sum=p/\(ys.take k).sum=q)) (fun _ _ A _=>n-(intOf A).toNat)
 case atStart=>exact⟨0,0,0,rfl,rfl,rfl,oY _,Qt.refl _,oK ⟨rfl,rfl⟩⟩
 case round =>
  obtain⟨k,p,q,rfl,rfl,rfl,hk,g,v⟩:=hrel;have T:=Z.out k (by omega);have U:=HY.out k (by omega);rw[v.out.1]at T;rw[v.out.2]at U;by_cases o:k<n
  · obtain⟨S,H,rfl,D⟩:=(O.ext g.ext).at o;obtain⟨B,t,rfl,l⟩:=(P.ext g.ext).at o;have W:=D k o;have X:=l k o;have m1:=V (xs.getD k 0) (by simp[show k<xs.length by omega]);have m2:=C (ys.getD k 0) (by simp[show k<ys.length by omega]);have M:Hid ((xs.take (k+1)).sum=p+xs.getD k 0/\(ys.take (k+1)).sum=q+ys.getD k 0):=oK ⟨by rw[Fd (by omega),v.out.1],by rw[Fd (by omega),v.out.2]⟩;clear D l;generalize xs.getD k 0=x at *
    generalize ys.getD k 0=y at *
    have w1:IntKind.i64.wrap (p+x)=p+x:=oP _ (by omega);have Y:IntKind.i64.wrap (q+y)=q+y:=oP _ (by omega);go_wp2
    go_quiet (fail)
    go_wp2;go_roundw
    case rel=>exact⟨k+1,p+x,q+y,by first | rfl | go_num | exact gR (Value.int .i64) w1,by first | rfl | go_num | exact gR (Value.int .i64) Y,by go_num,by omega,g.drewN _,M⟩
    case measure=>simp[intOf];omega
  · have N:k=n:=by omega
    subst N
    have J:Hid (Pl.ordE xs ys=if p=q then EG xs ys k else Pl.cmpI p q):=oK (by
     have h1:=v.out.1;have h2:=v.out.2;unfold Pl.ordE EG;rw[oL (by omega)]at h1 h2 |-;rw[oL (by omega)]
     rw[h1,h2])
    by_cases z:p=q
    · subst z;have i:Hid (Pl.ordE xs ys=EG xs ys k):=oK (by rw[J.out,pq rfl]);clear T U v J;go_wp2
      go_loopw[8] (fun A wr=>∃ m:Nat,A = .int .i64 ((m:Int)-1)/\m<=k/\Qt w wr/\Hid (EG xs ys k=EG xs ys m)) (fun A _=>(intOf A+1).toNat)
      case atStart=>exact⟨k,by first | rfl | go_num,lrf _,g,oK rfl⟩
      case round =>
       obtain⟨m,rfl,hm,E,K⟩:=hrel;by_cases h0:m=0
       · subst h0;have I:Hid (Pl.ordE xs ys=0):=oK (by rw[i.out,K.out,K9]);go_wp2;go_ret;exact⟨by rw[I.out];rfl,E⟩
       · obtain⟨j,rfl⟩:∃ j,m=j+1:=⟨m-1,by omega⟩;have hj:(((j+1:Nat):Int)-1)=(j:Int):=by omega
         rw[hj];obtain⟨S,H,rfl,D⟩:=(O.ext E.ext).at (k:=j) (by omega);obtain⟨B,t,rfl,l⟩:=(P.ext E.ext).at (k:=j) (by omega);have W:=D j (by omega);have X:=l j (by omega);have R:=oK (La (xs:=xs) (ys:=ys) (k:=j) (by omega) (by omega));clear D l;generalize xs.getD j 0=x at *
         generalize ys.getD j 0=y at *
         by_cases r:x=y
         · have L:Hid (EG xs ys k=EG xs ys j):=oK (by rw[K.out,R.out,pq r]);subst r;go_wp2
           go_quiet (fail)
           go_wp2;go_roundw
           case rel=>exact⟨j,by first | rfl | go_num,by omega,E.drewN _,L⟩
           case measure=>simp[intOf]
         · have I:Hid (Pl.ordE xs ys=Pl.cmpI y x):=oK (by rw[i.out,K.out,R.out,pf r]);have Q:=oK (Pe (x:=y) (y:=x) (fun h=>r h.symm));have a0:(j:Int)<k:=by omega
           go_wp2
           go_quiet (fail)
           have d1:(wr.drewN nq).cell? ⟨S,H+j,none⟩=some (.int .i64 x):=W;have d2:(wr.drewN nq).cell? ⟨B,t+j,none⟩=some (.int .i64 y):=X;have F:=E.drewN nq;generalize wr.drewN nq=Y at *
           by_cases G:y<x
           · have f:Hid (Pl.ordE xs ys = -1):=oK (by rw[I.out,Q.out,pq G]);go_wp2
             go_quiet (fail)
             go_wp2;go_ret;exact⟨by rw[f.out];rfl,F.drewN _⟩
           · have f:Hid (Pl.ordE xs ys=1):=oK (by rw[I.out,Q.out,pf G]);go_wp2
             go_quiet (fail)
             go_wp2;go_ret;exact⟨by rw[f.out];rfl,F.drewN _⟩
    · have i:Hid (Pl.ordE xs ys=if p<q then -1 else 1):=oK (by rw[J.out,pf z,Pe z]);by_cases s:p<q
      · have f:Hid (Pl.ordE xs ys = -1):=oK (by rw[i.out,pq s]);go_wp2;go_ret;exact⟨by rw[f.out];rfl,g⟩
      · have f:Hid (Pl.ordE xs ys=1):=oK (by rw[i.out,pf s]);go_wp2;go_ret;exact⟨by rw[f.out];rfl,g⟩
end Go.Proofs.YtlbmnokpiilfpaaGreatDoor
namespace Go.Proofs.YtlbmnokpiilfpaaGreatDoor.Pl
variable {a b c:List Int} {i k n:Nat}
theorem Ka(e:a.length=n)(d:b.length=n)(f:c.length=n)(h1:0<=ordE a b)(h2:0<=ordE b c):0<=ordE a c:=by
 rcases Int.lt_or_eq_of_le h1 with h1|h1
 · rcases Int.lt_or_eq_of_le h2 with h2|h2
   · exact lL (ordE_trans h1 h2)
   · have:=ordE_eq (d.trans f.symm) h2.symm;subst this;exact lL h1
 · have:=ordE_eq (e.trans d.symm) h1.symm;subst this;exact h2
structure MS(n:Nat)(a b o:List Tm)(i k:Nat):Prop where
 perm:o.Perm (a.take i ++ b.take k)
 d:desc o
 up:∀ t∈o,∀ s,s∈a.drop i\/s∈b.drop k->0<=ordE t.1 s.1
 da:desc a
 db:desc b
 la:∀ t∈a,t.1.length=n
 lb:∀ t∈b,t.1.length=n
theorem MS.start{a b:List Tm}(c:desc a)(d:desc b)(f:∀ t∈a,t.1.length=n)(g:∀ t∈b,t.1.length=n):MS n a b [] 0 0 :=
 ⟨by simp,List.Pairwise.nil,(fun t e=>by cases e),c,d,f,g⟩
theorem KG{a:List Tm}(h:desc a){i:Nat}{x:Tm}(b:a[i]?=some x):∀ s∈a.drop (i+1),0<=ordE x.1 s.1:=by
 have c:i<a.length:=(ie.1 b).1;have h1:desc (a.drop i):=List.Pairwise.drop h;rw[ig c]at h1;have h2:a[i]=x:=(ie.1 b).2;rw[h2]at h1;exact(iC.1 h1).1
theorem MS.left{a b o:List Tm}(h:MS n a b o i k){x:Tm}(m:a[i]?=some x)(z:∀ y,b[k]?=some y->0<=ordE x.1 y.1):MS n a b (o ++ [x]) (i+1) k:=by
 have v:i<a.length:=(ie.1 m).1;have l:a[i]=x:=(ie.1 m).2;have q:x∈a:=gY m;have g:a.drop i=x :: a.drop (i+1):=by rw[ig v,l]
 have w:∀ s∈b.drop k,0<=ordE x.1 s.1:=by
  intro s c;cases f:b[k]? with
  | none =>
   rw[gZ (List.getElem?_eq_none_iff.1 f)]at c;cases c
  | some y =>
   have p:k<b.length:=(ie.1 f).1;have r:b[k]=y:=(ie.1 f).2;have h0:=z y f;rw[ig p,r]at c;rcases gV.1 c with rfl|j
   · exact h0
   · exact Ka (h.la x q) (h.lb y (gY f)) (h.lb s (lE j)) h0 (KG h.db f s j)
 refine⟨?_,?_,?_,h.da,h.db,h.la,h.lb⟩
 · have h1:a.take (i+1)=a.take i ++ [x]:=by rw[oW v,l]
   rw[h1,ia];exact((h.perm.append_right [x]).trans (by rw[ia])).trans ((mX).append_left _)
 · refine List.pairwise_append.2 ⟨h.d,List.pairwise_singleton _ _,fun t e s c => ?_⟩;rw[oZ.1 c];exact h.up t e x (Or.inl (by rw[g];exact List.mem_cons_self ..))
 · intro t e s c;rcases il.1 e with e|e
   · refine h.up t e s (c.imp (fun c => ?_) id);rw[g];exact lF _ c
   · rw[oZ.1 e];rcases c with c|c
     · exact KG h.da m s c
     · exact w s c
theorem MS.right{a b o:List Tm}(h:MS n a b o i k){y:Tm}(g:b[k]?=some y)(f:∀ x,a[i]?=some x->0<=ordE y.1 x.1):MS n a b (o ++ [y]) i (k+1):=by
 have h0:MS n b a o k i:=⟨h.perm.trans mX,h.d,fun t e s c=>h.up t e s c.symm,h.db,h.da,h.lb,h.la⟩;have h1:=h0.left g f;exact⟨h1.perm.trans mX,h1.d,fun t e s c=>h1.up t e s c.symm,h.da,h.db,h.la,h.lb⟩
theorem MS.done{a b o:List Tm}(h:MS n a b o a.length b.length):o.Perm (a ++ b):=by
 have:=h.perm
 rwa[kw,kw]at this
end Go.Proofs.YtlbmnokpiilfpaaGreatDoor.Pl
namespace Go.Proofs.YtlbmnokpiilfpaaGreatDoor
open Tryz Go Go.RowKit
variable {N b0 n:Nat}
theorem Tt(h:2<=n):n/2<n/\n-n/2<n/\n/2<=n:=by omega
theorem LG(hN:N<=12):∀ (n:Nat) {a:Option Addr} {c:Nat} {l:List Pl.Tm} {w:World},TSl w b0 a n c l->TB N l->b0<=w.heap.size->n<=100000 ->
 Calls prog 153 #[.slice a n c] w (VI w b0 l):=by
 intro n
 induction n using Nat.strongRecOn with
 | ind n ih =>
 intro a c l w h hb hw hn;by_cases h2:n<2
 · have aG:(n:Int)<2:=by omega
   have aX:=h.len;have hd:Pl.desc l:=by
    match l,aX with
    | [],_=>exact List.Pairwise.nil
    | [x],_=>exact List.pairwise_singleton _ _
    | x :: y :: r,hl=>simp at hl;omega
   clear ih hb hw
   go_enter func153,ntmps153
   go_wp2;go_ret;exact⟨a,n,c,l,rfl,Ext.refl w,h,mD _,hd⟩
 · have aG:¬ (n:Int)<2:=by omega
   obtain⟨am,an,aa⟩:=Tt (n:=n) (by omega);have aS:=h.le;obtain⟨q,hq⟩:∃ q,n/2=q:=⟨_,rfl⟩;have aY:(n:Int).tdiv 2=(q:Int):=by rw[ib (by omega),<-hq];rfl
   rw[hq]at am an aa;have aN:q<=c:=by omega
   have H1:=h.to aa;have H2:=h.fr aa;have B1:TB N (l.take q):=fun t ht=>hb t (iZ ht);have B2:TB N (l.drop q):=fun t ht=>hb t (lE ht);have aO:=qh (fun(f:World) (b:Ext w f)=>ih q am (H1.ext b) B1 (oS hw b.size) (by omega));have aP:=qh (fun(f:World) (b:Ext w f)=>ih (n-q) an (H2.ext b) B2 (oS hw b.size) (by omega));have aB:Hid (l.take q ++ l.drop q=l):=qh (kn q l);have aT:=qh hb;have aL:(l.take q).length=q:=H1.len;have aM:(l.drop q).length=n-q:=H2.len;generalize l.take q=u1 at *
   generalize l.drop q=u2 at *
   clear ih hq am an H1 H2 h hb
   go_enter func153,ntmps153
   go_upto_region 3 with(fail)
   refine Ac
    [hdS a n c,hdS a n c,hdI n,hdI q,hdS a q c,hp (fun v f=>∃ Y n' Z V,v = .slice Y n' Z/\TSl f b0 Y n' Z V/\V.Perm u1/\Pl.desc V),hdS a n c,hdS a n c,hdI n,hdI q,hdS (if c=q then a else a.map (fun x=>x.add (q*5))) (n-q) (c-q),hp (fun v f=>∃ Y n' Z V,v = .slice Y n' Z/\TSl f b0 Y n' Z V/\V.Perm u2/\Pl.desc V)]
    ⟨fun v w w' e ⟨Y,n',Z,V,h1,h2,h3⟩=>⟨Y,n',Z,V,h1,h2.ext e,h3⟩,fun v w w' e ⟨Y,n',Z,V,h1,h2,h3⟩=>⟨Y,n',Z,V,h1,h2.ext e,h3⟩,trivial⟩ ⟨?o0,?o1,?o2,?o3,?o4,?o5,?o6,?o7,?o8,?o9,?o10,?o11,trivial⟩ ?fin
   case o0 | o1 | o6 | o7=>exact omv
   case o2 | o3 | o8 | o9 =>
    refine Ao rfl fun ρ f b m h => ?_
    try have e0:_=_:=h.1
    try have e1:_=_:=h.2.1
    try have e2:_=_:=h.2.2.1
    go_simp
    try (first | (intros;omega) | exact oP _ (by omega))
   case o4 =>
    exact J9 rfl rfl underlying42 CQ (fun _ _ _ h=>⟨h.1,h.2.1⟩) aN
   case o5 =>
    refine Ae rfl fun ρ f b m aH h => ?_;have e1:_=_:=h.2.1;refine⟨153,#[.slice a q c],by go_simp,(aO.out f b).mono ?_⟩;rintro e w' ⟨Y,n',Z,V,rfl,ag,av,ar,aj⟩;exact⟨_,rfl,ag,Y,n',Z,V,rfl,av,ar,aj⟩
   case o10 =>
    exact Ih rfl rfl underlying42 CQ (fun _ _ _ h=>⟨h.1,h.2.1⟩) aa
   case o11 =>
    refine Ae rfl fun ρ f b m aH h => ?_;have e1:_=_:=h.2.1;refine⟨153,#[.slice (if c=q then a else a.map (fun x=>x.add (q*5))) (n-q) (c-q)],by go_simp,(aP.out f b).mono ?_⟩;rintro e w' ⟨Y,n',Z,V,rfl,ag,av,ar,aj⟩;exact⟨_,rfl,ag,Y,n',Z,V,rfl,av,ar,aj⟩
   case fin =>
    intro f b;rintro _ ⟨a1,n1,c1,l1,rfl,t1,p1,I⟩;rintro _ ⟨a2,K,c2,l2,rfl,t2,p2,J⟩;change wpList _ _ _ _ _ _;simp only[A0];have a4:=b;have a8:=B1.perm p1;have a9:=B2.perm p2;have b4:n1+K<=100000:=by
     have e1:n1=q:=by rw[<-t1.len,p1.length_eq,aL]
     have e2:K=n-q:=by rw[<-t2.len,p2.length_eq,aM]
     omega
    have HP:Hid (∀ o:List Pl.Tm,o.Perm (l1 ++ l2)->o.Perm l):=qh (fun o ho=>by rw[<-aB.out];exact ho.trans (p1.append p2));have aC:Hid (Pl.MS N l1 l2 [] 0 0):=qh (Pl.MS.start I J (fun t ht=>(a8 t ht).1) (fun t ht=>(a9 t ht).1));clear aL aM p1 p2 I J B1 B2 aO aP aY aN aS h2 aG aB aT;generalize aZ:f=w3 at *
    clear aZ b;generalize (if c=q then a else a.map (fun x=>x.add (q * 5)))=b1 at *
    go_wp2
    go_loopw[5,6,7] (fun ov iv kv wr=>∃ (ao:Option Addr) (no co:Nat) (lo:List Pl.Tm) (i k:Nat),ov = .slice ao no co/\iv = .int .i64 i/\kv = .int .i64 k/\i<=n1/\k<=K/\no<=i+k/\Ext w3 wr/\Hid (TO wr b0 w3.heap.size ao no co lo)/\Hid (Pl.MS N l1 l2 lo i k)) (fun _ iv kv _=>n1+K-(intOf iv+intOf kv).toNat)
    case atStart=>exact⟨none,0,0,[],0,0,rfl,rfl,rfl,oY _,oY _,oY _,Ext.refl _,qh (TO.nil _ _ _),aC⟩
    case round =>
     clear aC;obtain⟨ao,no,co,lo,i,k,rfl,rfl,rfl,b2,b3,b5,hE,HO,HM⟩:=hrel;by_cases hi:i<n1
     · have aW:(i:Int)<n1:=by omega
       by_cases F:k<K
       · have ay:((k:Int) == (K:Int))=false:=by simp;omega
         have aJ:(k:Int)<K:=by omega
         obtain⟨M,W,aQ,s1,x1,m1,I,y1,g1,h1,p,aw,G,rfl,a5,C,ae,ap,ak,a0⟩:=(t1.ext hE).row hi;have ab:N=aw:=by have h1:=a0.1.len;have h2:=(a8.get (i:=i) (by rw[t1.len];exact hi)).1;omega
         subst ab;have aE:wr.cell? ⟨M,W+i*5+4,none⟩=some (.slice p N G):=by have:=a5.cl hi (j:=4) (by omega);rw[C]at this;exact this
         obtain⟨O,X,aR,s2,x2,m2,J,y2,g2,h2,s,ax,H,rfl,a6,D,af,aq,al,a3⟩:=(t2.ext hE).row F;have ac:N=ax:=by have h1:=a3.1.len;have h2:=(a9.get (i:=k) (by rw[t2.len];exact F)).1;omega
         subst ac;have aF:wr.cell? ⟨O,X+k*5+4,none⟩=some (.slice s N H):=by have:=a6.cl F (j:=4) (by omega);rw[D]at this;exact this
         have az:=qh (fun(wy:World) (b:Ext wr wy)=>EU (a0.1.ext b) (a3.1.ext b) hN (a8.get (i:=i) (by rw[t1.len];exact hi)).2 (a9.get (i:=k) (by rw[t2.len];exact F)).2);obtain⟨r,hr⟩:∃ r,Pl.ordE (l1.getD i tz).1 (l2.getD k tz).1=r:=⟨_,rfl⟩;have HR:=qh hr;rw[hr]at az;clear hr;obtain⟨bb,ai⟩:∃ bb,decide (0<=r)=bb:=⟨_,rfl⟩
         go_upto_region 7 with(fail)
         have E:=fun(f:World) (b:Ext wr f)=>qh (And.intro (b.cell aE) (b.cell aF))
         refine Ac
          [hdI k,hdS (some ⟨O,X,none⟩) K c2,hdI K,hdB false,hdB false,hdI i,hdS (some ⟨M,W,none⟩) n1 c1,hdI n1,hdB true,hdB true,hdS (some ⟨M,W,none⟩) n1 c1,hdI i,hdP M (W+i*5),hdP M ((W+i*5)+4),hdS p N G,hdS (some ⟨O,X,none⟩) K c2,hdI k,hdP O (X+k*5),hdP O ((X+k*5)+4),hdS s N H,hp (fun v f=>v = .int .i64 r),hdB bb,hdB bb,hdB bb]
          ⟨fun v w w' e h=>h,trivial⟩ ⟨?o0,?o1,?o2,?o3,?o4,?o5,?o6,?o7,?o8,?o9,?o10,?o11,?o12,?o13,?o14,?o15,?o16,?o17,?o18,?o19,?o20,?o21,?o22,?o23,trivial⟩ ?fin
         case o0 | o1 | o4 | o5 | o6 | o9 | o10 | o11 | o15 | o16=>exact omv
         case o13 | o18=>exact ofa (d:=4)
         case o14 | o19=>exact ol
         case o2 =>
          refine Ao rfl fun ρ f b m h => ?_;have e0:_=_:=h.1;obtain⟨kx,ky⟩:=(E f b).out;go_simp
         case o3 =>
          refine Ao rfl fun ρ f b m h => ?_;have e0:_=_:=h.1;have e1:_=_:=h.2.1;obtain⟨kx,ky⟩:=(E f b).out;go_simp
          try (first | (intros;omega) | exact oP _ (by omega))
         case o7 =>
          refine Ao rfl fun ρ f b m h => ?_;have e0:_=_:=h.1;obtain⟨kx,ky⟩:=(E f b).out;go_simp
         case o8 =>
          refine Ao rfl fun ρ f b m h => ?_;have e0:_=_:=h.1;have e1:_=_:=h.2.1;obtain⟨kx,ky⟩:=(E f b).out;go_simp
          try (first | (intros;omega) | exact oP _ (by omega))
         case o12 =>
          refine Ao rfl fun ρ f b m h => ?_;have e0:_=_:=h.1;have e1:_=_:=h.2.1;obtain⟨kx,ky⟩:=(E f b).out;go_simp
          try (first | (intros;omega) | exact oP _ (by omega))
         case o17 =>
          refine Ao rfl fun ρ f b m h => ?_;have e0:_=_:=h.1;have e1:_=_:=h.2.1;obtain⟨kx,ky⟩:=(E f b).out;go_simp
          try (first | (intros;omega) | exact oP _ (by omega))
         case o20 =>
          refine Ae rfl fun ρ f b m aH h => ?_;have e1:_=_:=h.2.1;have e2:_=_:=h.2.2.1;obtain⟨kx,ky⟩:=(E f b).out;refine⟨154,#[.slice p N G,.slice s N H],by go_simp,(az.out f b).mono ?_⟩;rintro e w' ⟨rfl,aV⟩;exact⟨_,rfl,aV.ext,rfl⟩
         case o21 =>
          refine Ao rfl fun ρ f b m h => ?_;obtain⟨v0,e0,rfl⟩:=h.1;obtain⟨kx,ky⟩:=(E f b).out;go_simp
          try exact ai
         case o22 =>
          refine Ao rfl fun ρ f b m h => ?_;have e0:_=_:=h.1;have e1:_=_:=h.2.1;obtain⟨kx,ky⟩:=(E f b).out;go_simp
         case o23 =>
          refine Ao rfl fun ρ f b m h => ?_;have e0:_=_:=h.1;have e2:_=_:=h.2.2.1;obtain⟨kx,ky⟩:=(E f b).out;go_simp
         case fin =>
          intro f b;rintro _ rfl;change wpList _ _ _ _ _ _;simp only[A0];have aA:=qh ai;clear ai;cases bb;rotate_left
          · obtain⟨ad,hK,R,Q⟩:=HO.out;have A:=hK.ext ((b).alloc (.cells (tL s1 x1 m1 I y1 g1 h1 p N G).toArray 103));have hL:=Cj (k:=5) (Arr.new f 103 (tL s1 x1 m1 I y1 g1 h1 p N G)) rfl;have T:=a5.ext (b);have g:=(Ext.refl f).alloc (.cells (tL s1 x1 m1 I y1 g1 h1 p N G).toArray 103);have z:=hE.trans (b);have au:=z.size;have U:(tL s1 x1 m1 I y1 g1 h1 p N G).toArray=#[.bool s1,.slice x1 m1 I,.bool false,.slice y1 g1 h1,.slice p N G]:=rfl
            go_wp2_with(first
             | (refine Bz rfl rfl Pb rfl T hi ?_;rw[C,U])
             | (refine DI rfl rfl underlying42 CQ rfl A rfl hL (by intro r hr u hu;rw[oZ.1 hr]at hu;exact FM u hu) (by unfold maxLen;omega) (by omega) (by simp;omega) ?_;intro a7 c7 w7 S B ah))
            have L:=TO.grow A R (fun j hj=>(Q j hj).ext ((b).trans g)) (⟨s1,x1,m1,I,y1,g1,h1,p,N,G,rfl,ae,ap.ext ((b).trans g),ak.ext ((b).trans g),a0.ext ((b).trans g)⟩:TC _ b0 _ (l1.getD i tz)) (oS hw a4.size) S B;have P:Ext w3 w7:=(z.trans g).grown B (fun k F=>(hK.lt F).1);go_roundw
            case rel=>exact⟨a7,no+1,c7,lo ++ [l1.getD i tz],i+1,k,rfl,by go_num,by go_num,by omega,by omega,by omega,P,qh L,qh (HM.out.left (getD_some (by rw[t1.len];exact hi)) (fun y hy=>by rw[getD_some (by rw[t2.len];exact F)]at hy;rw[<-lr hy,HR.out];exact kC aA.out))⟩
            case measure=>simp[intOf];omega
          · obtain⟨ad,hK,R,Q⟩:=HO.out;have A:=hK.ext ((b).alloc (.cells (tL s2 x2 m2 J y2 g2 h2 s N H).toArray 103));have hL:=Cj (k:=5) (Arr.new f 103 (tL s2 x2 m2 J y2 g2 h2 s N H)) rfl;have T:=a6.ext (b);have g:=(Ext.refl f).alloc (.cells (tL s2 x2 m2 J y2 g2 h2 s N H).toArray 103);have z:=hE.trans (b);have au:=z.size;have U:(tL s2 x2 m2 J y2 g2 h2 s N H).toArray=#[.bool s2,.slice x2 m2 J,.bool false,.slice y2 g2 h2,.slice s N H]:=rfl
            go_wp2_with(first
             | (refine Bz rfl rfl Pb rfl T F ?_;rw[D,U])
             | (refine DI rfl rfl underlying42 CQ rfl A rfl hL (by intro r hr u hu;rw[oZ.1 hr]at hu;exact FM u hu) (by unfold maxLen;omega) (by omega) (by simp;omega) ?_;intro a7 c7 w7 S B ah))
            have L:=TO.grow A R (fun j hj=>(Q j hj).ext ((b).trans g)) (⟨s2,x2,m2,J,y2,g2,h2,s,N,H,rfl,af,aq.ext ((b).trans g),al.ext ((b).trans g),a3.ext ((b).trans g)⟩:TC _ b0 _ (l2.getD k tz)) (oS hw a4.size) S B;have P:Ext w3 w7:=(z.trans g).grown B (fun k F=>(hK.lt F).1);go_roundw
            case rel=>exact⟨a7,no+1,c7,lo ++ [l2.getD k tz],i,k+1,rfl,by go_num,by go_num,by omega,by omega,by omega,P,qh L,qh (HM.out.right (getD_some (by rw[t2.len];exact F)) (fun x hx=>by rw[getD_some (by rw[t1.len];exact hi)]at hx;rw[<-lr hx,Pl.ordE_anti,HR.out];have:=of_decide_eq_false aA.out;omega))⟩
            case measure=>simp[intOf];omega
       · have ay:((k:Int) == (K:Int))=true:=by simp;omega
         obtain⟨M,W,aQ,s1,x1,m1,I,y1,g1,h1,p,aw,G,rfl,a5,C,ae,ap,ak,a0⟩:=(t1.ext hE).row hi;have ab:N=aw:=by have h1:=a0.1.len;have h2:=(a8.get (i:=i) (by rw[t1.len];exact hi)).1;omega
         subst ab;have aE:wr.cell? ⟨M,W+i*5+4,none⟩=some (.slice p N G):=by have:=a5.cl hi (j:=4) (by omega);rw[C]at this;exact this
         go_upto_region 7 with(fail)
         go_quiet (fail)
         have b:Ext wr (wr.drewN nq):=(Qt.drewN (Qt.refl wr) nq).ext;generalize wr.drewN nq=f at *
         obtain⟨ad,hK,R,Q⟩:=HO.out;have A:=hK.ext ((b).alloc (.cells (tL s1 x1 m1 I y1 g1 h1 p N G).toArray 103));have hL:=Cj (k:=5) (Arr.new f 103 (tL s1 x1 m1 I y1 g1 h1 p N G)) rfl;have T:=a5.ext (b);have g:=(Ext.refl f).alloc (.cells (tL s1 x1 m1 I y1 g1 h1 p N G).toArray 103);have z:=hE.trans (b);have au:=z.size;have U:(tL s1 x1 m1 I y1 g1 h1 p N G).toArray=#[.bool s1,.slice x1 m1 I,.bool false,.slice y1 g1 h1,.slice p N G]:=rfl
         go_wp2_with(first
          | (refine Bz rfl rfl Pb rfl T hi ?_;rw[C,U])
          | (refine DI rfl rfl underlying42 CQ rfl A rfl hL (by intro r hr u hu;rw[oZ.1 hr]at hu;exact FM u hu) (by unfold maxLen;omega) (by omega) (by simp;omega) ?_;intro a7 c7 w7 S B ah))
         have L:=TO.grow A R (fun j hj=>(Q j hj).ext ((b).trans g)) (⟨s1,x1,m1,I,y1,g1,h1,p,N,G,rfl,ae,ap.ext ((b).trans g),ak.ext ((b).trans g),a0.ext ((b).trans g)⟩:TC _ b0 _ (l1.getD i tz)) (oS hw a4.size) S B;have P:Ext w3 w7:=(z.trans g).grown B (fun k F=>(hK.lt F).1);go_roundw
         case rel=>exact⟨a7,no+1,c7,lo ++ [l1.getD i tz],i+1,k,rfl,by go_num,by go_num,by omega,by omega,by omega,P,qh L,qh (HM.out.left (getD_some (by rw[t1.len];exact hi)) (fun y hy=>by rw[pu (by rw[t2.len];omega)]at hy;cases hy))⟩
         case measure=>simp[intOf];omega
     · have aW:¬ (i:Int)<n1:=by omega
       by_cases F:k<K
       · have ay:((k:Int) == (K:Int))=false:=by simp;omega
         have aJ:(k:Int)<K:=by omega
         obtain⟨O,X,aR,s2,x2,m2,J,y2,g2,h2,s,ax,H,rfl,a6,D,af,aq,al,a3⟩:=(t2.ext hE).row F;have ac:N=ax:=by have h1:=a3.1.len;have h2:=(a9.get (i:=k) (by rw[t2.len];exact F)).1;omega
         subst ac;have aF:wr.cell? ⟨O,X+k*5+4,none⟩=some (.slice s N H):=by have:=a6.cl F (j:=4) (by omega);rw[D]at this;exact this
         go_upto_region 7 with(fail)
         go_quiet (fail)
         have b:Ext wr (wr.drewN nq):=(Qt.drewN (Qt.refl wr) nq).ext;generalize wr.drewN nq=f at *
         obtain⟨ad,hK,R,Q⟩:=HO.out;have A:=hK.ext ((b).alloc (.cells (tL s2 x2 m2 J y2 g2 h2 s N H).toArray 103));have hL:=Cj (k:=5) (Arr.new f 103 (tL s2 x2 m2 J y2 g2 h2 s N H)) rfl;have T:=a6.ext (b);have g:=(Ext.refl f).alloc (.cells (tL s2 x2 m2 J y2 g2 h2 s N H).toArray 103);have z:=hE.trans (b);have au:=z.size;have U:(tL s2 x2 m2 J y2 g2 h2 s N H).toArray=#[.bool s2,.slice x2 m2 J,.bool false,.slice y2 g2 h2,.slice s N H]:=rfl
         go_wp2_with(first
          | (refine Bz rfl rfl Pb rfl T F ?_;rw[D,U])
          | (refine DI rfl rfl underlying42 CQ rfl A rfl hL (by intro r hr u hu;rw[oZ.1 hr]at hu;exact FM u hu) (by unfold maxLen;omega) (by omega) (by simp;omega) ?_;intro a7 c7 w7 S B ah))
         have L:=TO.grow A R (fun j hj=>(Q j hj).ext ((b).trans g)) (⟨s2,x2,m2,J,y2,g2,h2,s,N,H,rfl,af,aq.ext ((b).trans g),al.ext ((b).trans g),a3.ext ((b).trans g)⟩:TC _ b0 _ (l2.getD k tz)) (oS hw a4.size) S B;have P:Ext w3 w7:=(z.trans g).grown B (fun k F=>(hK.lt F).1);go_roundw
         case rel=>exact⟨a7,no+1,c7,lo ++ [l2.getD k tz],i,k+1,rfl,by go_num,by go_num,by omega,by omega,by omega,P,qh L,qh (HM.out.right (getD_some (by rw[t2.len];exact F)) (fun x hx=>by rw[pu (by rw[t1.len];omega)]at hx;cases hx))⟩
         case measure=>simp[intOf];omega
       · have aJ:¬ (k:Int)<K:=by omega
         have aI:i=n1:=by omega
         have aK:k=K:=by omega
         have aD:=HM.out;rw[aI,aK,<-t1.len,<-t2.len]at aD;have aU:=HO.out.sl;clear aI aK;go_wp2;go_ret;exact⟨ao,no,co,lo,rfl,a4.trans hE,aU,HP.out lo aD.done,HM.out.d⟩
end Go.Proofs.YtlbmnokpiilfpaaGreatDoor
namespace Go.Proofs.YtlbmnokpiilfpaaGreatDoor.Pl
variable {b i k n:Nat} {c:Rat}
def SubOK(l:List Tm):Prop:=∀ a s,(a ++ s).Perm l->∀ e,RB 1000000 (coef a e)
theorem SubOK.perm{l b:List Tm}(h:SubOK l)(p:b.Perm l):SubOK b:=fun a s hp e=>h a s (hp.trans p) e
theorem SubOK.one{l:List Tm}(h:SubOK l){t:Tm}(d:t∈l):RB 1000000 t.2:=by
 obtain⟨b,c,rfl⟩:=List.append_of_mem d;have:=h [t] (b ++ c) (by simpa using(List.perm_middle (a:=t) (l₁:=b) (l₂:=c)).symm) t.1;simp only[coef,kJ]at this
 rwa[ms]at this
theorem SubOK.of_rb{l:List Tm}(d:1<=b)(h:∀ t∈l,RB b t.2)(g:l.length*(b+1)+1<=1000000):SubOK l:=by
 intro a s hp e;have f:∀ t∈a,t∈l:=fun t c=>hp.subset (List.mem_append_left _ c);have h1:=RB.coef d e (l:=a) (fun t c=>h t (f t c));refine h1.mono ?_;have h2:a.length<=l.length:=by have:=hp.length_eq;simp at this;omega
 have h3:a.length*(b+1)<=l.length*(b+1):=oO _ h2;omega
structure SS(s out:List Tm)(i:Nat):Prop where
 le:i<=s.length
 eq:grp s=out ++ grp (s.drop i)
theorem SS.start(s:List Tm):SS s [] 0:=⟨oY _,by simp⟩
theorem SS.done{s out:List Tm}(h:SS s out s.length):out=grp s:=by
 have:=h.eq;rw[List.drop_length,EA,jp]at this;exact this.symm
structure SI(s:List Tm)(i k:Nat)(x:Tm)(c:Rat):Prop where
 hx:s[i]?=some x
 ik:i<k
 le:k<=s.length
 hc:Hf x.1 x.2 (s.drop (i+1))=Hf x.1 c (s.drop k)
 hr:Df x.1 (s.drop (i+1))=Df x.1 (s.drop k)
 hv:c=coef ((s.drop i).take (k-i)) x.1
theorem SI.start{s:List Tm}{x:Tm}(h:s[i]?=some x):SI s i (i+1) x x.2:=by
 have a:i<s.length:=(ie.1 h).1;have b:s[i]=x:=(ie.1 h).2;refine⟨h,by omega,by omega,rfl,rfl,?_⟩;rw[ig a,b,show i+1-i=1 by omega];simp only[List.take_succ_cons,jK,coef,kJ];rw[ms]
theorem SI.step{s:List Tm}{x:Tm}(h:SI s i k x c){y:Tm}(d:s[k]?=some y)(he:x.1=y.1):SI s i (k+1) x (c+y.2):=by
 have f:k<s.length:=(ie.1 d).1;have a:s[k]=y:=(ie.1 d).2;have b:s.drop k=y :: s.drop (k+1):=by rw[ig f,a]
 have e:=h.ik;refine⟨h.hx,by omega,by omega,?_,?_,?_⟩
 · rw[h.hc,b];simp only[Hf,pq he]
 · rw[h.hr,b];simp only[Df,pq he]
 · have h1:(s.drop i).take (k+1-i)=(s.drop i).take (k-i) ++ [y]:=by
    have h2:k-i<(s.drop i).length:=by rw[jV];omega
    rw[show k+1-i=k-i+1 by omega,oW h2];congr 2;rw[List.getElem_drop];have:i+(k-i)=k:=by omega
    simp only[this];exact a
   rw[h1,coef_app,<-h.hv];simp only[coef,pq he.symm];rw[ms]
theorem SI.rb{s:List Tm}{x:Tm}(h:SI s i k x c)(b:SubOK s):RB 1000000 c:=by
 rw[h.hv];refine b _ (s.take i ++ s.drop k) ?_ _;have e:s=s.take i ++ ((s.drop i).take (k-i) ++ s.drop k):=by
  have a:s.drop k=(s.drop i).drop (k-i):=by rw[nB];congr 1;have:=h.ik;omega
  rw[a,kn,kn]
 have p:((s.drop i).take (k-i) ++ (s.take i ++ s.drop k)).Perm (s.take i ++ ((s.drop i).take (k-i) ++ s.drop k)):=by
  rw[<-ia,<-ia];exact List.perm_append_comm.append_right _
 exact p.trans (List.Perm.of_eq e.symm)
theorem SI.stop{s out:List Tm}{x:Tm}(h:SI s i k x c)(g:SS s out i)(l:∀ y,s[k]?=some y->x.1≠y.1):SS s (if c=0 then out else out ++ [(x.1,c)]) k:=by
 have e:i<s.length:=(ie.1 h.hx).1;have j:s[i]=x:=(ie.1 h.hx).2;have h1:Hf x.1 c (s.drop k)=c/\Df x.1 (s.drop k)=s.drop k:=by
  by_cases b:k<s.length
  · have d:s.drop k=s[k] :: s.drop (k+1):=ig b;have f:=l s[k] (oN b);rw[d];simp only[Hf,Df,pf f];exact⟨trivial,trivial⟩
  · rw[gZ (by omega)];exact⟨rfl,rfl⟩
 refine⟨h.le,?_⟩;rw[g.eq,ig e,j,Gy,h.hc,h.hr,h1.1,h1.2];by_cases a:c=0
 · simp only[pq a,iA]
 · simp only[pf a,ia]
theorem grp_sum{l s:List Tm}(b:∀ t∈l,t.1.length=n)(hp:s.Perm l)(a:desc s):Canon n (grp s)/\∀ e,coef (grp s) e=coef l e :=
 ⟨K0 _ s (lrf _) (fun t c=>b t (hp.subset c)) a,fun e=>(M6 _ s (lrf _) e).trans (coef_perm hp e)⟩
end Go.Proofs.YtlbmnokpiilfpaaGreatDoor.Pl
