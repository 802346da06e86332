/- Part Pq12. -/
import Derived.Test.YtlbmnokpiilfpaaGreatDoorPq11
import Derived.Shelf.Strconv.AppendInt10
import Derived.Shelf.Strconv.Itoa4
import Derived.Deep.AppendSrc
set_option linter.all false
set_option maxRecDepth 100000
set_option maxHeartbeats 100000000
namespace Go.Proofs.YtlbmnokpiilfpaaGreatDoor
open Tryz Go Go.RowKit
def iD:=@List.length_append
def iZ:=@List.getElem?_eq_some_iff
def jo:=@List.nil_append
def jM:=@Nat.pos_of_ne_zero
def kN:=@List.length_drop
def l9:=@Nat.pow_le_pow_left
def mT:=@Array.size_replicate
variable {f:Act} {ops:Array Oper} {s:ByteArray} {Q:Exit->Act->World->Prop} {z:Int} {zs:List Nat} {rest:List Oper} {l r:List UInt8} {cs news xs:List Value} {B base c d m n u:Nat} {o:Oper} {x:Operand} {a b:Option Addr} {T e t tx:TypeId} {v:Value} {w w0 wb:World}
theorem R9(b:zs.length=n+1)(a:W.bnd B zs)(d:B^n<=W.val B zs):W.nrm zs:=by
 intro c h0;rw[kI]at h0;have h1:=Ed (B:=B) b;have h2:=Ck a (m:=n) (by omega);have h3:zs.getD n 0=zs[zs.length-1]'(by omega):=by
  have:zs.length-1=n:=by omega
  simp[this,show n<zs.length by omega]
 rw[h3,h0,jg,iz]at h1;omega
theorem Tq(a:W.digs l)(b:l.length<=19):W.decV l<10000000000000000000:=by
 have h1:=W.decV_lt a;have h2:10^l.length<=10^19:=ic (by omega) b;omega
theorem LO(b:W.digs l)(k:Nat):W.digs (l.take k):=fun c a=>b c (kU a)
theorem Sa(b:W.digs l)(k:Nat):W.digs (l.drop k):=fun c a=>b c (mh a)
theorem Sb{xs:List Nat}{k c' V:Nat}(a:k<zs.length)(f:k<xs.length)(h:W.val B (zs.take k)+c*B^k=u*W.val B (xs.take k)+V)(e:d+B*c'=xs.getD k 0*u+c) :
 W.val B ((zs.set k d).take (k+1))+c'*B^(k+1)=u*W.val B (xs.take (k+1))+V:=by
 have b:W.val B ((zs.set k d).take (k+1))=W.val B (zs.take k)+B^k*d:=by
  rw[W.val_take_succ (by simpa using a)];congr 1
  · rw[nf (lrf _)]
  · simp[a]
 rw[b,W.val_take_succ f,ip];have g:B^k*(d+B*c')=B^k*(xs.getD k 0*u+c):=by rw[e]
 grind
theorem I3(hd:W.digs (An s))(hs:s.size<=600) :
 Calls prog 286 #[.string s] w (Lu w (W.decV (An s))):=by
 have HD:=qh hd;clear hd
 go_enter func286,ntmps286
 go_wp2
 go_loopw[0,3] (fun dv xv wr=>∃ (j:Nat) (t:ByteArray) (a:Option Addr) (n c:Nat) (xs:List Nat),dv = .string t/\xv = .slice a n c/\j<=s.size/\Hid (An t=(An s).drop j)/\t.size+j=s.size/\n<=j/\Ext w wr/\Own wr w.heap.size 238 a n c (xs.map (BL .u64))/\Hid (Num 18446744073709551616 xs (W.decV ((An s).take j)))) (fun dv _ _=>match dv with | .string t=>t.size | _=>0)
 case atStart=>exact⟨0,s,none,0,0,[],rfl,rfl,gO _,qh rfl,by omega,by omega,Ext.refl w,Own.nil _ _ _,qh (Num.nil _)⟩
 case round =>
  obtain⟨j,t,a,n,c,xs,rfl,rfl,hj,HT,aT,aR,hE,hO,Z⟩:=hrel;by_cases h0:t.size=0
  · have HF:Hid (Num 18446744073709551616 xs (W.decV (An s))):=by
     have h1:=Z.out;rw[gG (by rw[Ay];omega)]at h1;exact qh h1
    have aC:¬ (0:Int)<(t.size:Int):=by omega
    clear h0;go_wp2;go_ret;exact⟨a,n,c,rfl,hE,xs,hO.sl,HF.out⟩
  · have aC:(0:Int)<(t.size:Int):=by omega
    obtain⟨z,hz⟩:∃ z,(t.size-1)%19+1=z:=⟨_,rfl⟩;have aU:1<=z:=by omega
    have aV:z<=19:=by omega
    have aW:z<=t.size:=by omega
    have aF:IntKind.i64.wrap ((t.size:Int)-1)=((t.size-1:Nat):Int):=by rw[show(t.size:Int)-1=((t.size-1:Nat):Int) by omega];exact gI _ (by omega)
    have aG:((t.size-1:Nat):Int).tmod 19=(((t.size-1)%19:Nat):Int):=by rw[jx (by omega)];omega
    have am:((t.size-1:Nat):Int)%19=(((t.size-1)%19:Nat):Int):=by omega
    have aH:IntKind.i64.wrap ((((t.size-1)%19:Nat):Int)+1)=(z:Int):=by rw[show(((t.size-1)%19:Nat):Int)+1=(z:Int) by omega];exact gI _ (by omega)
    clear hz;generalize (t.size-1)%19=z0 at *
    generalize t.size-1=t1 at *
    have aX:(z:Int)<=(t.size:Int):=by omega
    go_upto_region 6 with(refine PH rfl rfl underlying9 underlying228 underlying5 rfl (by unfold maxLen;simp;omega) ?_;intro cb w1 a6 Q)
    have M:An (t.extract 0 z)=((An s).drop j).take z:=by rw[Bc,HT.out,ji,mp]
    have aa:W.digs (An (t.extract 0 z)):=by rw[M];exact LO (Sa HD.out j) z
    have ab:(An (t.extract 0 z)).length=z:=by rw[M,iq,kN,Ay];omega
    have an:=qh M;clear M;have ak:(t.extract 0 z).size=z:=by simp;omega
    rw[ak]at Q;clear ak;generalize An (t.extract 0 z)=A at *
    have X:=qh aa;have K:=qh ab;clear aa ab aF aG am aH
    go_loop[5,6,25] (fun cv bv T=>∃ (k f P:Nat),k<=z/\cv = .int .u64 f/\bv = .int .u64 P/\T = .int .i64 k/\f<10000000000000000000/\P<=10000000000000000000/\Hid (W.decV (A.take k)=f/\10^k=P)) (fun _ _ T=>z-(intOf T).toNat)
    case atStart=>exact⟨0,0,1,gO _,rfl,rfl,rfl,by omega,by omega,qh ⟨rfl,rfl⟩⟩
    case round =>
     obtain⟨k,f,P,hk,rfl,rfl,rfl,aM,hP,E⟩:=hrel;by_cases ac:k<z
     · obtain⟨b1,o1,I,J⟩:=Q.rd (by omega);simp only[gK,iV,jp]at I;obtain⟨I,af⟩:=I;have g1:=J k ac;rw[<-I,<-af,iz]at g1;have S:k<A.length:=by rw[K.out];exact ac
       have e1:(A.map A2).getD k undef = .int .u8 ((A[k].toNat:Nat):Int):=by simp[S,A2]
       rw[e1]at g1;have az:=X.out A[k] (jl S);have ah:A.take (k+1)=A.take k ++ [A[k]]:=gM S;have b:W.decV (A.take (k+1))=10*f+(A[k].toNat-48):=by rw[ah,W.decV_snoc,E.out.1]
       have ae:=Tq (LO X.out (k+1)) (by rw[iq,K.out];omega);have ag:10^(k+1)<=10^19:=ic (by omega) (by omega);rw[ip,E.out.2]at ag;rw[b]at ae;have l:=qh b;have Y:Hid (10^(k+1)=P*10):=by show _=_;rw[ip,E.out.2]
       obtain⟨aN,aO⟩:=az;generalize A[k].toNat=e at *
       have a1:IntKind.u64.wrap (10*(f:Int))=((10*f:Nat):Int):=Au (by omega) (by omega);have a2:IntKind.u8.wrap ((e:Int)-48)=((e-48:Nat):Int):=by rw[IntKind.wrap_u8];omega
       have a3:IntKind.u64.wrap ((e-48:Nat):Int)=((e-48:Nat):Int):=Au rfl (by omega);have a4:IntKind.u64.wrap (((10*f:Nat):Int)+((e-48:Nat):Int))=((10*f+(e-48):Nat):Int):=Au (by omega) (by omega);have a5:IntKind.u64.wrap ((P:Int)*10)=((P*10:Nat):Int):=Au (by omega) (by omega);have b2:10*f+(e-48)<10000000000000000000:=by omega
       have b3:P*10<=10000000000000000000:=by omega
       clear b ah e1 J I af ae ag;generalize 10 * f+(e-48)=ap at *
       generalize 10 * f=aJ at *
       generalize e-48=d1 at *
       generalize P * 10=P1 at *
       go_wp2;go_round
       case rel=>exact⟨k+1,ap,P1,by omega,rfl,rfl,by go_num,b2,b3,qh ⟨l.out,Y.out⟩⟩
       case measure=>simp[intOf];omega
     · have ek:k=z:=by omega
       have N:Hid (W.decV A=f/\10^z=P):=by
        have h1:=E.out;rw[ek,gG (by rw[K.out];exact lrf _)]at h1;exact qh h1
       clear ek E Q;have a9:=hO.ext a6;have a8:=hE.trans a6;have L:Hid (xs.length=n):=qh (by have:=hO.len;simpa using this);go_wp2;obtain⟨wo,aI⟩:∃ wo:World,wo=wr:=⟨_,rfl⟩;subst aI
       go_loopw[9,44] (fun cv T wx=>∃ (q C:Nat) (zs:List Nat),q<=n/\cv = .int .u64 C/\T = .int .i64 q/\C<18446744073709551616/\Ext w wx/\Own wx w.heap.size 238 a n c (zs.map (BL .u64))/\Hid (W.bnd 18446744073709551616 zs/\zs.drop q=xs.drop q/\W.val 18446744073709551616 (zs.take q)+C*18446744073709551616^q=P*W.val 18446744073709551616 (xs.take q)+f)) (fun _ T _=>n-(intOf T).toNat)
       case atStart=>exact⟨0,f,xs,gO _,rfl,rfl,by omega,a8,a9,qh ⟨Z.out.bnd,rfl,by simp[W.val]⟩⟩
       case round =>
        clear a9 a8;obtain⟨q,C,zs,hq,rfl,rfl,ay,H,D,G⟩:=hrel;have al:zs.length=n:=by have:=D.len;simpa using this
        have x:=qh al;clear al;by_cases r:q<n
        · obtain⟨g,rfl,aA,aP⟩:=D.place (by omega);have O:Az .u64 wr w.heap.size 238 g n c zs:=D;have g1:=O.cell (i:=q) r;have f1:=O.frozen q;have hb:=W.bnd_at G.out.1 (i:=q) (by rw[x.out];exact r);have ai:zs.getD q 0=xs.getD q 0:=Fo G.out.2.1;have ao:=qh ai;clear ai;generalize zs.getD q 0=xq at *
          go_wp2_with fail
          refine(Cg hb (show P<18446744073709551616 by omega) ay).mono ?_;rintro e2 w2 ⟨U,hi,rfl,rfl,aE,aD,e1⟩;have HS:=qh (Sb (B:=18446744073709551616) (zs:=zs) (xs:=xs) (k:=q) (d:=U) (u:=P) (c:=C) (c':=hi) (V:=f) (by rw[x.out];exact r) (by rw[L.out];exact r) G.out.2.2 (by rw[<-ao.out];exact e1));have aw:Own (wr.setCell ⟨g,q,none⟩ (.int .u64 (U:Int))) w.heap.size 238 (some ⟨g,0,none⟩) n c ((zs.set q U).map (BL .u64)):=O.set q U;have ar:=H.setCell (p:=⟨g,q,none⟩) aA (.int .u64 (U:Int));clear e1;go_wp2;go_roundw
          case rel=>exact⟨q+1,hi,zs.set q U,by omega,rfl,by go_num,aD,ar,aw,qh ⟨W.bnd_set G.out.1 aE,EN G.out.2.1,HS.out⟩⟩
          case measure=>simp[intOf];omega
        · have eq:q=n:=by omega
          have v:W.val 18446744073709551616 zs+C*18446744073709551616^n=P*W.val 18446744073709551616 xs+f:=by
           have h1:=G.out.2.2;rw[eq,gG (by rw[x.out];exact lrf _),gG (by rw[L.out];exact lrf _)]at h1;exact h1
          rw[Z.out.val]at v;have b:P*W.decV ((An s).take j)+f=W.decV ((An s).take (j+z)):=by
           have h1:(An s).take (j+z)=(An s).take j ++ A:=by rw[an.out,List.take_add]
           rw[h1,W.decV_app,K.out,N.out.1,N.out.2,gV]
          rw[b]at v;have o:=qh v;have l:=qh b;have aj:An (t.extract z t.size)=(An s).drop (j+z):=by
           rw[Bc,HT.out,oy,gG (by rw[kN,Ay];omega)]
          have a0:=qh aj;have aS:(t.extract z t.size).size=t.size-z:=by simp
          clear v b aj eq;by_cases R:C=0
          · have m:Num 18446744073709551616 zs (W.decV ((An s).take (j+z))):=by
             have h1:=o.out;rw[R,jg,iO]at h1;refine⟨G.out.1,?_,h1⟩;rcases gX n with ad|ad
             · have:zs=[]:=gQ (by rw[x.out,ad]);rw[this];exact W.nrm_nil
             · refine R9 (B:=18446744073709551616) (n:=n-1) (by rw[x.out];omega) G.out.1 ?_;rw[h1,<-l.out];have h2:=W.nrm_pos (B:=18446744073709551616) (by omega) Z.out.nrm (by intro h;have:=L.out;rw[h]at this;simp at this;omega);rw[L.out,Z.out.val]at h2;have h3:1*W.decV ((An s).take j)<=P*W.decV ((An s).take j):=gH _ (by rw[<-N.out.2];exact kG (by omega));omega
            have F:=qh m;subst R;clear m o l G;generalize t.extract z t.size=t2 at *
            go_wp2;go_roundw
            case rel=>exact⟨j+z,t2,a,n,c,zs,rfl,rfl,by omega,a0,by omega,by omega,H,D,F⟩
            case measure=>simp;omega
          · have aL:((C:Int) != 0)=true:=by simp;omega
            have m:Num 18446744073709551616 (zs ++ [C]) (W.decV ((An s).take (j+z))):=by
             refine⟨W.bnd_app G.out.1 (fun y hy=>by simp at hy;omega),fun aQ=>by simp;exact R,?_⟩;rw[W.val_snoc,x.out,<-o.out,gV]
            have F:=qh m;have hA:=D.alloc (.cells #[.int .u64 (C:Int)] 238);have hL:=(AB wr w.heap.size 238 #[.int .u64 (C:Int)] 1 rfl H.size (by omega)).sl;have ax:∀ k,blk a=some k->w.heap.size<=k:=fun k hk=>(D.lt hk).1;clear m o l G;generalize t.extract z t.size=t2 at *
            go_wp2_with(refine B5 rfl rfl underlying81 AK rfl rfl hA rfl hL (by simp[Value.oneCell']) (by unfold maxLen;omega) (by omega) (by simp;have:=H.size;omega) ?_;intro a7 c7 w7 au aB aK)
            have aq:Ext w w7:=(H.alloc _).grown aB ax;have av:Own w7 w.heap.size 238 a7 (n+1) c7 ((zs ++ [C]).map (BL .u64)):=by rw[iJ];exact au
            go_roundw
            case rel=>exact⟨j+z,t2,a7,n+1,c7,zs ++ [C],rfl,rfl,by omega,a0,by omega,by omega,aq,av,F⟩
            case measure=>simp;omega
theorem JT(b:W.digs (An s))(g:s.size<=570) :
 Calls prog 237 #[.string s,.slice none 0 0] w (Lu w (W.decV (An s))):=by
 have hp:=qh (I3 (w:=w) b (by omega));clear b
 go_enter func237,ntmps237
 go_wp2;refine wp_loop_rounds 1 ?_;rw[rounds_succ]
 go_wp2_with fail
 refine hp.out.mono ?_;rintro e i ⟨a,n,c,rfl,d,f⟩;go_wp2;go_ret;exact⟨a,n,c,rfl,d,f⟩
theorem JU(b:W.digs (An s))(g:s.size<=570) :
 Calls prog 202 #[.string s] w (Lu w (W.decV (An s))):=by
 have hp:=qh (JT (w:=w) b g);have f:¬ ((570:Int)<(s.size:Int)):=by omega
 clear b
 go_enter func202,ntmps202
 go_wp2_with fail
 refine hp.out.mono ?_;rintro e j ⟨a,n,c,rfl,d,i⟩;go_wp2;go_ret;exact⟨a,n,c,rfl,d,i⟩
theorem LP(l:W.digs (An s))(q:s.size<=570) :
 Calls prog 139 #[.string s] w (EP w ((W.decV (An s):Nat):Int)):=by
 go_enter func139,ntmps139
 go_upto_region 1 with(fail)
 refine AP ?_;intro m g d k;have hp:=qh (JU (w:=m) l q);have p:Arr m w.heap.size 83 (Ac false none 0 0):=d;have c:Hid (decide (((W.decV (An s):Nat):Int)<0)=false):=qh (gR (by omega));clear l k
 go_wp2_with fail
 refine hp.out.mono ?_;rintro e t ⟨n,r,o,rfl,a,j⟩;have b:=p.ext a
 go_wp2_with(refine Aa (vs:=Ac false n r o) rfl rfl rfl rfl rfl Ai b rfl (Ae _ _ _ _) ?_;intro v f i)
 exact gF (Ap rfl Ai rfl f) rfl (BA (g.trans a) b (Ax _ _ _ _) i (by omega) c j)
theorem Ei:Ca prog 5 (.int .u8 0) 1:=by unfold Ca;kernel_rfl
def JV(wb:World)(l:List UInt8)(e:Ending)(w':World):Prop:=∃ a n c,e = .returned (.slice a n c)/\Own w' wb.heap.size 5 a n c (l.map A2)/\Ext wb w'
theorem Lg(h:w.ownsRow base e 1 v n xs):∃ a c,v = .slice a n c/\Own w base e a n c xs:=by
 rcases h.2 with⟨d,h0⟩|⟨g,b,f,d,_⟩
 · subst d;subst h0;exact⟨none,0,rfl,h⟩
 · subst d;exact⟨_,b,rfl,h⟩
theorem I4(i:AM w)(b:Ext wb w)(g:Own w wb.heap.size 5 a n c (l.map A2))(hu:u<18446744073709551616)(j:n<=100000) :
 Calls prog 302 #[.slice a n c,.int .u64 u,.int .i64 10] w (JV wb (l ++ Lib.decDigits u)):=by
 refine(Any.internal_strconv_AppendUint_10 Rz wb.heap.size n u hu (.slice a n c) (l.map A2) w g b.size (by omega) i.ten).mono ?_;rintro e m ⟨k,rfl,h1,h2,_⟩;obtain⟨d,f,rfl,h3⟩:=Lg h1;refine⟨d,_,f,rfl,?_,Below.trans b h2⟩;rw[iJ];exact h3
theorem JW(i:AM w)(f:Ext wb w)(g:Own w wb.heap.size 5 a n c (l.map A2))(hu:u<18446744073709551616)(j:n<=100000) :
 Calls prog 283 #[.slice a n c,.int .u64 u,.int .i64 10] w (JV wb (l ++ Lib.decDigits u)):=by
 have h:=qh (I4 i f g hu j)
 go_enter func283,ntmps283
 go_wp2_with fail
 refine h.out.mono ?_;rintro e m ⟨b,k,d,rfl,h1,h2⟩;go_wp2;go_ret;exact⟨b,k,d,rfl,h1,h2⟩
theorem Lh(b:AM w)(h0 : -9223372036854775808<=z)(h1:z<=9223372036854775807) :
 Calls prog 181 #[.int .i64 z,.int .i64 10] w fun e a=>e = .returned (.string ⟨(Lib.itoa z).toArray⟩)/\Ext w a:=by
 refine(Any.strconv_FormatInt_10 V8 z h0 h1 w b.ten).mono ?_;rintro e a ⟨rfl,k,c,rfl⟩;exact⟨rfl,Lib.below_grow w.heap.size w (lrf _) k c⟩
theorem N0(b:AM w)(h0 : -9223372036854775808<=z)(h1:z<=9223372036854775807) :
 Calls prog 114 #[.int .i64 z] w fun e a=>e = .returned (.string ⟨(Lib.itoa z).toArray⟩)/\Ext w a:=by
 have h:=qh (Lh b h0 h1)
 go_enter func114,ntmps114
 go_wp2_with fail
 refine h.out.mono ?_;rintro e a ⟨rfl,h2⟩;go_wp2;go_ret;exact⟨rfl,h2⟩
theorem Ib{x:Nat}(E:AM w)(i:Ext wb w)(j:Own w wb.heap.size 5 a n c (l.map A2))(g:Wd w b m d x)(s:x<18446744073709551616)(H:n<=100000) :
 Calls prog 234 #[.slice a n c,.slice b m d] w (JV wb (l ++ Lib.decDigits x)):=by
 have t:m<=1:=g.len (k:=1) (by rw[O6];exact s);have f:=g.zero;by_cases h0:m=0
 · have r:x=0:=f.1 h0;subst h0;subst r;have v:Hid (l ++ Lib.decDigits 0=l ++ [48]):=by show _=_;rw[W.dec_zero]
   have C:=j.alloc (.cells #[.int .u8 48] 5);have D:=(AB w wb.heap.size 5 #[.int .u8 48] 1 rfl i.size (by omega)).sl;have p:∀ k,blk a=some k->wb.heap.size<=k:=fun k G=>(j.lt G).1;clear f t g
   go_enter func234,ntmps234
   go_wp2_with(refine B5 rfl rfl underlying228 Ei rfl rfl C rfl D (by simp[Value.oneCell']) (by unfold maxLen;omega) (by omega) (by simp;have:=i.size;omega) ?_;intro z B P o q F)
   go_ret;refine⟨z,n+1,B,rfl,?_,(i.alloc _).grown q p⟩;rw[v.out,iJ];exact o
 · have h1:m=1:=by omega
   subst h1;obtain⟨J,N,rfl,K,L,M⟩:=g.one;have h:=qh (JW E i j s H);clear f t g h0
   go_enter func234,ntmps234
   go_wp2_with fail
   refine h.out.mono ?_;rintro e O ⟨y,I,A,rfl,h1,h2⟩;go_wp2;go_ret;exact⟨y,I,A,rfl,h1,h2⟩
theorem Arr.setCells{g:Nat}{t:TypeId}:∀ (b:List Value) (o:Nat) (w:World) (a:List Value),Arr w g t a->o+b.length<=a.length->Arr (w.setCells g o b) g t (a.take o ++ b ++ a.drop (o+b.length))
 | [],o,w,a,h,_=>by
  have e:a.take o ++ [] ++ a.drop (o+([]:List Value).length)=a:=by simp
  rw[e];exact h
 | v :: r,o,w,a,h,hl=>by
  simp only[j8]at hl;have h1:=Arr.setCells r (o+1) _ _ (h.set o v) (by simp;omega);have e:(a.set o v).take (o+1) ++ r ++ (a.set o v).drop (o+1+r.length)=a.take o ++ (v :: r) ++ a.drop (o+(v :: r).length):=by
   have c:(a.set o v).take (o+1)=a.take o ++ [v]:=by
    rw[gM (by simp;omega)];rw[nf (by omega)];simp
   have d:(a.set o v).drop (o+1+r.length)=a.drop (o+1+r.length):=by
    rw[List.drop_set_of_lt (by omega)]
   rw[c,d];simp[jW,Nat.add_left_comm]
  rw[e]at h1;exact h1
theorem FC(g:Nat):∀ (d:List Value) (o:Nat) (w:World),w.grownBy (w.setCells g o d) (some g)
 | [],_,w=>⟨rfl,rfl,rfl,lrf _,fun _ _ _=>rfl⟩
 | v :: r,o,w=>by
  have h1:=Ar w g o v;have h2:=FC g r (o+1) (w.setCell ⟨g,o,none⟩ v);exact⟨h2.os.trans h1.os,h2.tape.trans h1.tape,h2.output.trans h1.output,gJ h1.size h2.size,fun b c a=>(h2.block b (ib c h1.size) a).trans (h1.block b c a)⟩
section
variable {P:Program} {w:World}
theorem QO{s:Operand}(v:o.guard=none)
 (C:o.op = .call { callee := .builtin .append,args:=#[s,x],argTypes:=#[t,tx] })
 {e T:TypeId} {i:TypeInfo} {g n c m:Nat} {p:Value} {cs news:List Value}
 (E:P.underlying t=some (.slice e)) (hi:P.info? e=some i) (k:i.size=1) (D:f.eval s = .slice (some ⟨g,0,none⟩) n c) (F:f.eval x=p) (b:Go.Src P 1 tx p m news w) (q:Arr w g T cs)
 (d:n+m<=c) (z:n+m<=cs.length)
 (A:∀ y,Arr y g T (cs.take n ++ news ++ cs.drop (n+m))->w.grownBy y (some g)->wpList P ops Q rest (f.put o.dst (.slice (some ⟨g,0,none⟩) (n+m) c)) y):wpList P ops Q (o :: rest) f w:=by
 refine jf v fun K r => ?_;have B:news.length=m:=by have:=b.newsLen;simpa using this
 have l:Go.Src P i.size tx p m news w:=by rw[k];exact b
 have a:=run_append_room_src (P:=P) (w:=w) t tx o.type e i E hi g 0 n c p m news l d
  (fun j G=>by
   rw[k,iz,km,q.cell (i:=n+j) (by omega)];rfl)
  (fun j _=>q.frozen _)
 rw[k,iz,km]at a;have h1:=Arr.setCells news n w cs q (by omega);rw[B]at h1;unfold Oper.wp execOp;simp only[C,resolve,invoke,builtin,ij,iF,gS,jH,ja,jE,D,F,a];exact r _ _ (A _ h1 (FC g news n w))
end
theorem Sc(hu:u<100):Calls prog 269 #[.int .i64 u] w fun e a=>e = .returned (.string ⟨(Lib.decDigits u).toArray⟩)/\a=w :=
 Any.internal_strconv_small { Rz with } u hu w
theorem Li(a:AM w)(h1:1<=u)(hu:u<18446744073709551616):Calls prog 270 #[.int .u64 u] w fun e b=>e = .returned (.int .i64 (Lib.nDigits u:Nat))/\b=w :=
 Any.internal_strconv_numDigits { Rz with } u h1 hu w a.ten
theorem PI(hu:u<18446744073709551616)(l:Lib.nDigits u<=24) :
 Calls prog 271 #[.slice (some ⟨w0.heap.size,0,none⟩) (Lib.nDigits u) 24,.int .u64 u] (w0.alloc (.cells Lib.zeros24 T)) fun e a =>
  e = .returned (.tuple #[])/\Ext w0 a/\∀ j,j<Lib.nDigits u->a.cell? ⟨w0.heap.size,j,none⟩=some (((Lib.decDigits u).map A2).getD j undef):=by
 have d:=Lib.holds_zero0 w0 T (Lib.nDigits u) l;have h:=Any.internal_strconv_formatBase10 { Rz with } w0.heap.size 0 24 u (Array.replicate (Lib.nDigits u) 0) _ d (by rw[mT];exact Lib.lt_pow_nDigits u) hu (by rw[mT];omega);rw[mT]at h;refine h.mono ?_;rintro e a ⟨rfl,k,n,c,rfl,hF⟩;refine⟨rfl,?_,fun j f => ?_⟩
 · obtain⟨m,i⟩:=Lib.fin_at w0 (.cells Lib.zeros24 T) c k 0;rw[i];exact Lib.below_grow w0.heap.size w0 (lrf _) k m
 · have g:j<(Lib.decDigits u).length:=by rw[Lib.decDigits_length];exact f
   have h1:=Go.Sort.cell?_putRow (fun(b:UInt8)=>Value.int .u8 (b.toNat:Int)) (w0.alloc (.cells Lib.zeros24 T)) w0.heap.size 0 (Array.replicate (Lib.nDigits u) 0) c d (by rw[hF.size,mT]) j (by rw[hF.size];exact f);rw[World.cell?_drewN];rw[iz]at h1;rw[h1,<-Lib.row_is_numeral hF j g];simp[g,A2]
def Wy(w:World)(g c:Nat)(T:TypeId)(l:List UInt8)(e:Ending)(w':World):Prop:=e = .returned (.slice (some ⟨g,0,none⟩) l.length c)/\(∃ w1,Ext w w1/\w1.grownBy w' (some g))/\∃ cs',Arr w' g T cs'/\cs'.length=c/\cs'.take l.length=l.map A2
def WT(w:World)(g:Nat)(T:TypeId)(u:Nat)(e:Ending)(w':World):Prop:=Wy w g 20 T (Lib.decDigits u) e w'
theorem WU(hu:u<18446744073709551616):(Lib.decDigits u).length<=20:=W.dec_len (k:=20) (lm hu (by decide)) (by omega)
theorem Tr(b:news.length=m)(a:cs.length=c)(h:n+m<=c):(cs.take n ++ news ++ cs.drop (n+m)).length=c:=by
 simp only[iD,iq,kN];omega
theorem QP(a:cs.take n=l.map A2):(cs.take n ++ r.map A2 ++ cs.drop (n+m)).take (l ++ r).length=(l ++ r).map A2:=by
 have h:((l ++ r).map A2).length=(l ++ r).length:=by simp
 rw[a,<-iJ,<-h,List.take_left]
theorem Sd{g:Nat}(V:AM w)(K:Arr w g T cs)(F:cs.length=c)(G:l.length=n)(X:n+20<=c)(N:cs.take n=l.map A2)(hu:u<18446744073709551616) :
 Calls prog 302 #[.slice (some ⟨g,0,none⟩) n c,.int .u64 u,.int .i64 10] w (Wy w g c T (l ++ Lib.decDigits u)):=by
 have h20:=WU hu;have m:=qh (And.intro F G);have p:=qh N;have b:((Lib.decDigits u).map A2).length=(Lib.decDigits u).length:=by simp
 have d:∀ L,(Lib.decDigits u).length=L->(l ++ Lib.decDigits u).length=n+L:=fun L h=>by rw[iD,G,h]
 obtain⟨Y,x,t⟩:∃ i,prog.info? 5=some i/\i.size=1:=by
  have h:=Ei;unfold Ca at h;cases O:prog.info? 5 with
  | none=>rw[O]at h;cases h
  | some i=>rw[O]at h;simp at h;exact⟨i,rfl,h.2.1⟩
 clear N G;by_cases J:u<100
 · have z:=qh (Sc (w:=w) J);have k:Go.Src prog 1 9 (.string ⟨(Lib.decDigits u).toArray⟩) (Lib.decDigits u).length ((Lib.decDigits u).map A2) w:=by
    have h:=Go.Src.ofString (P:=prog) w (tx:=9) underlying9 ⟨(Lib.decDigits u).toArray⟩;have e:(⟨(Lib.decDigits u).toArray⟩:ByteArray).size=(Lib.decDigits u).length:=by simp[ByteArray.size]
    rw[e]at h;exact h
   have H:(u:Int)<100:=by omega
   clear F
   go_enter func302,ntmps302
   go_wp2_with fail
   refine z.out.mono ?_;rintro e R ⟨rfl,rfl⟩
   go_wp2_with(refine QO rfl rfl underlying228 x t rfl rfl k K (by omega) (by rw[m.out.1];omega) ?_;intro B hA2 C)
   go_ret;exact⟨by rw[d _ rfl];rfl,⟨R,Ext.refl _,C⟩,_,hA2,Tr b m.out.1 (by omega),QP p.out⟩
 · have y:Lib.nDigits u=(Lib.decDigits u).length:=(Lib.decDigits_length u).symm;have f:=qh (PI (w0:=w) (T:=294) hu (by omega));have a:=qh (Li (u:=u) (V.ext ((Ext.refl w).alloc (.cells Lib.zeros24 294))) (by omega) hu);rw[y]at f a
   have Q:Lib.zeros24=#[Value.int .u8 0,Value.int .u8 0,Value.int .u8 0,Value.int .u8 0,Value.int .u8 0,Value.int .u8 0,Value.int .u8 0,Value.int .u8 0,Value.int .u8 0,Value.int .u8 0,Value.int .u8 0,Value.int .u8 0,Value.int .u8 0,Value.int .u8 0,Value.int .u8 0,Value.int .u8 0,Value.int .u8 0,Value.int .u8 0,Value.int .u8 0,Value.int .u8 0,Value.int .u8 0,Value.int .u8 0,Value.int .u8 0,Value.int .u8 0]:=rfl;rw[Q]at f a;have H:¬ (u:Int)<100:=by omega
   have r:prog.arrayLen 294=24:=by kernel_rfl
   have I:∀ W,(Instr.sliceAt 294 (.pointer (some ⟨w.heap.size,0,none⟩)) none (some (.int .i64 ((Lib.decDigits u).length:Int))) none).run prog W = .ok (.slice (some ⟨w.heap.size,0,none⟩) (Lib.decDigits u).length 24) W:=fun W=>by
    rw[run_sliceAt_array_h W 294 ⟨w.heap.size,0,none⟩ (by simp[Program.arrayLen,Program.elem,underlying294]) .i64 ((Lib.decDigits u).length:Int) (by omega) (by rw[r];omega)];go_simp
   obtain⟨L,A⟩:∃ L,(Lib.decDigits u).length=L:=⟨_,rfl⟩;rw[A]at h20 f a b I;have o:=qh (d _ A);clear d;have S:=qh A;clear F Q y A r
   go_enter func302,ntmps302
   go_wp2_with fail
   refine a.out.mono ?_;rintro e R ⟨rfl,rfl⟩
   go_wp2_with fail
   refine f.out.mono ?_;rintro e B ⟨rfl,q,s⟩;have hA2:=K.ext q;have k:Go.Src prog 1 228 (.slice (some ⟨w.heap.size,0,none⟩) L 24) L ((Lib.decDigits u).map A2) B:=by
    refine Go.Src.ofSlice (P:=prog) B underlying228 _ _ _ _ (by rw[b,km]) (fun j v M => ?_) (LN _);have E:j<L:=by have:=(iZ.1 M).1;omega
    have h3:=s j E;rw[gqq,M]at h3;have U:Addr.add ⟨w.heap.size,0,none⟩ j=⟨w.heap.size,j,none⟩:=by unfold Addr.add;split <;> simp_all
    rw[U,h3];rfl
   clear s f a
   go_wp2_with(refine QO rfl rfl underlying228 x t rfl rfl k hA2 (by omega) (by rw[m.out.1];omega) ?_;intro Z hA3 D)
   go_ret;exact⟨by rw[o.out];rfl,⟨B,q,D⟩,_,hA3,Tr b m.out.1 (by omega),QP p.out⟩
end Go.Proofs.YtlbmnokpiilfpaaGreatDoor
namespace Go.Proofs.YtlbmnokpiilfpaaGreatDoor.W
open Go
variable {b k w x:Nat}
def padD(w x:Nat):List UInt8:=if x=0 then List.replicate w 48 else List.replicate (w-(Lib.decDigits x).length) 48 ++ Lib.decDigits x
theorem padD_zero(w:Nat):padD w 0=List.replicate w 48:=by unfold padD;rw[gY rfl]
theorem padD_pos(h:0<x):padD w x=List.replicate (w-(Lib.decDigits x).length) 48 ++ Lib.decDigits x:=by unfold padD;rw[gT (by omega)]
theorem padD_nat(h:0<x):padD 0 x=Lib.decDigits x:=by rw[padD_pos h,Nat.zero_sub];rfl
theorem padD_dec(a:0<k):padD k b=EZ k b:=by
 unfold EZ;rcases gX b with rfl|h
 · rw[padD_zero,dec_zero];obtain⟨j,rfl⟩:∃ j,k=j+1:=⟨k-1,by omega⟩;rw[lB];rfl
 · rw[padD_pos h]
theorem padD_split{a:Nat}(c:0<a)(f:b<10^k)(d:0<k):padD w (a*10^k+b)=padD (w-k) a ++ padD k b:=by
 have h0:0<a*10^k+b:=ib (m6 c (kG (by omega))) (lP _ _);rw[padD_dec d,padD_pos h0,padD_pos c,R8 c f d,iQ];have e:w-(Lib.decDigits a ++ EZ k b).length=w-k-(Lib.decDigits a).length:=by
  rw[iD,JS f d];omega
 rw[e]
end Go.Proofs.YtlbmnokpiilfpaaGreatDoor.W
namespace Go.Proofs.YtlbmnokpiilfpaaGreatDoor
open Tryz Go Go.RowKit
variable {xs ys:List Nat} {l:List UInt8} {cs:List Value} {c g k m n nc u wd x:Nat} {a a' a0 b:Option Addr} {T e:TypeId} {w w' wb wr wx:World}
def ckS(T x n:Nat):List Nat:=(List.range n).map fun i=>x/T^i%T
theorem WV{T i:Nat}(h:i<n):(ckS T x n).getD i 0=x/T^i%T:=by simp[ckS,h]
theorem Ts(T x n:Nat):ckS T x n ++ [x/T^n%T]=ckS T x (n+1):=by simp[ckS,List.range_succ]
theorem Tt(c:x<18446744073709551616^m)(b:10000000000000000000^k<=x):k<=2*m:=by
 refine ia fun a => ?_;have h1:18446744073709551616^m<=10000000000000000000^(2*m):=by
  rw[mo];exact l9 (by decide) m
 have h2:10000000000000000000^(2*m)<=10000000000000000000^k:=ic (by omega) (by omega);omega
structure XY(w wr:World)(x:Nat)(ak:Option Addr)(nk ck:Nat)(ac:Option Addr)(nc cc:Nat)(ys:List Nat):Prop where
 ext:Ext w wr
 wk:Own wr w.heap.size 238 ak nk ck (ys.map (BL .u64))
 ch:Own wr w.heap.size 238 ac nc cc ((ckS 10000000000000000000 x nc).map (BL .u64))
 sep:∀ k,blk ac=some k->blk ak≠some k
 num:Num 18446744073709551616 ys (x/10000000000000000000^nc)
 top:nc=0\/10000000000000000000^(nc-1)<=x
def KpT(w wr:World)(a0 a:Option Addr):Prop:=w.heap.size<=wr.heap.size/\(blk a=blk a0\/∃ k,blk a=some k/\w.heap.size<=k)/\∀ k,k<w.heap.size->some k≠blk a0->wr.heap[k]?=w.heap[k]?
theorem KpT.of_ext(a:Option Addr)(h:Ext w wr):KpT w wr a a:=⟨h.size,Or.inl rfl,fun _ b _=>h.block b⟩
theorem KpT.ext(h:KpT w wr a0 a)(e:Ext wr wx):KpT w wx a0 a :=
 ⟨gJ h.1 e.size,h.2.1,fun k c b=>(e.block (ib c h.1)).trans (h.2.2 k c b)⟩
theorem KpT.far(h:KpT w wr a0 a)(c:wr.grownBy wx (some g))(e:w.heap.size<=g):KpT w wx a0 a :=
 ⟨gJ h.1 c.size,h.2.1,fun k d b=>(c.block k (ib d h.1) (fun he=>by cases he;omega)).trans (h.2.2 k d b)⟩
theorem KpT.grown(h:KpT w wr a0 a)(d:wr.grownBy wx (blk a))(b:blk a'=blk a\/blk a'=some wr.heap.size):KpT w wx a0 a':=by
 refine⟨gJ h.1 d.size,?_,fun k e c=>(d.block k (ib e h.1) (fun he => ?_)).trans (h.2.2 k e c)⟩
 · rcases b with b|b
   · rw[b];exact h.2.1
   · exact Or.inr ⟨_,b,h.1⟩
 · rcases h.2.1 with h1|⟨j,h1,h2⟩
   · exact c (he.trans h1)
   · rw[h1]at he;cases he;omega
theorem KpT.trans{w g i:World}{c d e:Option Addr}(h:KpT w g c d)(b:KpT g i d e):KpT w i c e:=by
 refine⟨gJ h.1 b.1,?_,fun k f a=>(b.2.2 k (ib f h.1) (fun he => ?_)).trans (h.2.2 k f a)⟩
 · rcases b.2.1 with h1|⟨j,h1,h2⟩
   · rw[h1];exact h.2.1
   · exact Or.inr ⟨j,h1,gJ h.1 h2⟩
 · rcases h.2.1 with h1|⟨j,h1,h2⟩
   · exact a (he.trans h1)
   · rw[h1]at he;cases he;omega
def Tu(wb w:World)(a0:Option Addr)(l:List UInt8)(e:Ending)(w':World):Prop:=∃ a n c,e = .returned (.slice a n c)/\Own w' wb.heap.size 5 a n c (l.map A2)/\Ext wb w'/\KpT w w' a0 a
theorem Tu.ap{e:Ending}(h:Tu wb w a0 l e w'):JV wb l e w':=by
 obtain⟨a,n,c,h1,h2,h3,_⟩:=h;exact⟨a,n,c,h1,h2,h3⟩
def cpT(x wd nc k:Nat):List UInt8:=if k=nc then []else W.padD (wd-19*k) (x/10000000000000000000^k)
theorem MJ(x wd a:Nat):cpT x wd a a=[]:=gY rfl
structure WW(wb w0 wr:World)(a0:Option Addr)(x wd nc G:Nat)(l:List UInt8)(ac:Option Addr)(cc n0 k:Nat)(a:Option Addr)(n c:Nat):Prop where
 ext:Ext wb wr
 tx:Own wr wb.heap.size 5 a n c ((l ++ cpT x wd nc k).map A2)
 ch:Own wr wb.heap.size 238 ac nc cc ((ckS 10000000000000000000 x nc).map (BL .u64))
 buf:∃ cs,Arr wr G 337 cs/\cs.length=20
 sep1:∀ k,blk ac=some k->blk a≠some k/\k≠G
 sep2:blk a≠some G
 gb:wb.heap.size<=G
 gw:w0.heap.size<=G
 kp:KpT w0 wr a0 a
 len:n<=n0+(if k=nc then 0 else wd)+20*(nc-k)
theorem Vp(d:k+1<nc)(c:nc=0\/10000000000000000000^(nc-1)<=x)(hu:x/10000000000000000000^k%10000000000000000000=u) :
 cpT x wd nc (k+1) ++ List.replicate (19-(Lib.decDigits u).length) 48 ++ Lib.decDigits u=cpT x wd nc k:=by
 have a:u<10^19:=by rw[<-hu];exact io _ (by decide)
 have b:0<x/10000000000000000000^(k+1):=by
  refine Nat.div_pos ?_ (kG (by omega));rcases c with h|h
  · omega
  · exact gJ (ic (by omega) (by omega)) h
 have he:x/10000000000000000000^k=x/10000000000000000000^(k+1)*10^19+u:=by
  rw[ip,<-kO,<-hu];have:=j6 (x/10000000000000000000^k) 10000000000000000000;rw[gV]at this;exact this.symm
 unfold cpT;have hp:W.padD 19 u=List.replicate (19-(Lib.decDigits u).length) 48 ++ Lib.decDigits u:=W.padD_dec (by omega);rw[gT (by omega),gT (by omega),he,W.padD_split b a (by omega),hp,iQ];have e:wd-19*(k+1)=wd-19*k-19:=by omega
 rw[e]
theorem Tv(b:x<10000000000000000000^(k+1))(a:k+1=0\/10000000000000000000^(k+1-1)<=x)(hu:x/10000000000000000000^k%10000000000000000000=u) :
 List.replicate (wd-19*k-(Lib.decDigits u).length) 48 ++ Lib.decDigits u=cpT x wd (k+1) k:=by
 have h1:x/10000000000000000000^k<10000000000000000000:=by
  rw[jm (kG (by omega)),gV,<-ip];exact b
 have h2:0<x/10000000000000000000^k:=by
  refine Nat.div_pos ?_ (kG (by omega));rcases a with h|h
  · omega
  · exact h
 rw[jG h1]at hu;unfold cpT;rw[gT (by omega),hu,W.padD_pos (by omega)]
theorem WX(h:nc≠0):cpT x wd nc 0=W.padD wd x:=by
 unfold cpT;rw[gT (by omega),kn,lf,kY,mp]
structure Vq(wb w0 wr:World)(a0:Option Addr)(nc G gc cc u n0:Nat)(cs:List Nat)(t:List UInt8)(a:Option Addr)(n c:Nat):Prop where
 ext:Ext wb wr
 tx:Own wr wb.heap.size 5 a n c (t.map A2)
 ch:Az .u64 wr wb.heap.size 238 gc nc cc cs
 buf:∃ bs,Arr wr G 337 bs/\bs.length=20/\bs.take (Lib.decDigits u).length=(Lib.decDigits u).map A2
 sep1:blk a≠some gc
 sep2:blk a≠some G
 len:n<=n0
 kp:KpT w0 wr a0 a
theorem PJ(b:AM w)(a:Arr w g T cs)(c:cs.length=20)(hu:u<18446744073709551616) :
 Calls prog 283 #[.slice (some ⟨g,0,none⟩) 0 20,.int .u64 u,.int .i64 10] w (WT w g T u):=by
 have h:=qh (Sd (l:=[]) (n:=0) b a c rfl (by omega) rfl hu)
 go_enter func283,ntmps283
 go_wp2_with fail
 refine h.out.mono ?_;rintro e d ⟨rfl,h1,h2⟩;go_wp2;go_ret;exact⟨rfl,h1,h2⟩
theorem MK{base v:Nat}(h:Own w base e a n c (ys.map (BL .u64)))(d:Num 18446744073709551616 ys v):n=0<->v=0:=by
 have b:ys.length=n:=by have:=h.len;simpa using this
 constructor
 · intro h0;subst h0;have:ys=[]:=gQ b;subst this;exact d.val.symm
 · intro h0;have h1:=(W.nrm_zero (B:=18446744073709551616) (by omega) d.nrm).1 (by rw[d.val,h0]);rw[h1]at b;exact b.symm
theorem Ic{d:Nat}(hT:AM wb)(hE:Ext wb w)(hO:Own w wb.heap.size 5 a n c (l.map A2))(hx:SlN .u64 w b m d xs)(ae:Num 18446744073709551616 xs x)(hm:m<=1000)(hn:n<=1000000)(bB:wd<=1000000) :
 Calls prog 311 #[.slice a n c,.slice b m d,.int .i64 wd] w (Tu wb w a (l ++ W.padD wd x)):=by
 have aI:x<18446744073709551616^m:=by
  have:=W.val_lt ae.bnd;rw[ae.val,hx.len]at this;exact this
 have aB:=qh aI;have bl:=qh ae;have b7:=qh (CP hx (by omega));clear aI
 go_enter func311,ntmps311
 go_wp2_with fail
 refine b7.out.mono ?_;rintro e w1 ⟨ak,ck,rfl,aW,be⟩;go_wp2
 go_loopw[7,8] (fun kv cv wr=>∃ (ak:Option Addr) (nk ck:Nat) (ac:Option Addr) (f U:Nat) (ys:List Nat),kv = .slice ak nk ck/\cv = .slice ac f U/\nk<=m/\XY w wr x ak nk ck ac f U ys) (fun _ cv _=>match cv with | .slice _ k _=>2*m+1-k | _=>0)
 case atStart=>exact⟨ak,m,ck,none,0,0,xs,rfl,rfl,lrf _,aW,be,Own.nil _ _ _,(by intro k h;cases h),(by rw[kn,lf];exact ae),Or.inl rfl⟩
 case round =>
  obtain⟨ak,nk,ck,ac,f,U,ys,rfl,rfl,bw,T⟩:=hrel;have HY:Hid (ys.length=nk):=qh (by have:=T.wk.len;simpa using this);have HZ:=qh (MK T.wk T.num);by_cases h0:nk=0
  · subst h0;have ad:=HZ.out.1 rfl;have J:=T.ext;have an:=T.ch;have ag:=qh T.top;have az:Hid (x<10000000000000000000^f):=qh ((Nat.div_eq_zero_iff_lt (kG (by omega))).1 ad);have br:f<=2*m+1:=by
     rcases ag.out with h|h
     · omega
     · have:=Tt aB.out h;omega
    clear T ad HZ HY;go_wp2;obtain⟨G,hG⟩:∃ G:Nat,G=wr.heap.size:=⟨_,rfl⟩;have aE:Ext wb (wr.alloc (.cells #[.int .u8 0,.int .u8 0,.int .u8 0,.int .u8 0,.int .u8 0,.int .u8 0,.int .u8 0,.int .u8 0,.int .u8 0,.int .u8 0,.int .u8 0,.int .u8 0,.int .u8 0,.int .u8 0,.int .u8 0,.int .u8 0,.int .u8 0,.int .u8 0,.int .u8 0,.int .u8 0] 337)):=(hE.trans J).alloc _
    have aD:WW wb w (wr.alloc (.cells #[.int .u8 0,.int .u8 0,.int .u8 0,.int .u8 0,.int .u8 0,.int .u8 0,.int .u8 0,.int .u8 0,.int .u8 0,.int .u8 0,.int .u8 0,.int .u8 0,.int .u8 0,.int .u8 0,.int .u8 0,.int .u8 0,.int .u8 0,.int .u8 0,.int .u8 0,.int .u8 0] 337)) a x wd f G l ac U n f a n c:=by
     have bx:=(hE.trans J).size;refine⟨aE,?_,(an.mono hE.size).alloc _,⟨_,by rw[hG];exact Arr.new wr _ [_,_,_,_,_,_,_,_,_,_,_,_,_,_,_,_,_,_,_,_],rfl⟩,?_,?_,by omega,by have:=J.size;omega,KpT.of_ext a (J.alloc _),by rw[gY rfl];omega⟩
     · rw[MJ,jL];exact(hO.ext J).alloc _
     · intro k I;have h1:=an.lt I;refine⟨fun he => ?_,by omega⟩;have h2:=hO.lt he;omega
     · intro he;have h2:=(hO.ext J).lt he;omega
    have t:=qh aD;clear aD aE an;have HW:=qh J.size;rw[<-hG];clear hG J
    go_loopw[0,12,13] (fun tv fv iv p=>∃ (k:Nat) (M:Option Addr) (nt ct:Nat),tv = .slice M nt ct/\fv = .bool (decide (k=f))/\iv = .int .i64 ((k:Int)-1)/\k<=f/\Hid (WW wb w p a x wd f G l ac U n k M nt ct)) (fun _ _ v _=>(intOf v+1).toNat)
    case atStart=>exact⟨f,a,n,c,rfl,by simp,rfl,lrf _,t⟩
    case round =>
     clear t;obtain⟨k,M,nt,ct,rfl,rfl,rfl,I,t⟩:=hrel;cases k with
     | zero =>
      by_cases aH:f=0
      · subst aH;have bj:x=0:=by
         have:=az.out;rw[kn]at this;omega
        have aV:=qh bj;go_wp2
        go_loopw[0,82] (fun tv jv p=>∃ (j:Nat) (a4:Option Addr) (S c4:Nat),tv = .slice a4 S c4/\jv = .int .i64 j/\j<=wd/\S<=n+j+wd/\Ext wb p/\KpT w p a a4/\Own p wb.heap.size 5 a4 S c4 ((l ++ List.replicate j 48).map A2)) (fun _ jv _=>wd-(intOf jv).toNat)
        case atStart=>exact⟨0,M,nt,ct,rfl,rfl,gO _,by have:=t.out.len;rw[gY rfl]at this;omega,t.out.ext,t.out.kp,by have:=t.out.tx;rw[MJ]at this;exact this⟩
        case round =>
         clear t;obtain⟨j,a4,S,c4,rfl,rfl,hj,bu,D,aF,N⟩:=hrel;by_cases bd:j<wd
         · have z:∀ k,blk a4=some k->wb.heap.size<=k:=fun k I=>(N.lt I).1;have hA:=N.alloc (.cells #[.int .u8 48] 5);have al:=(AB wr wb.heap.size 5 #[.int .u8 48] 1 rfl D.size (by omega)).sl
           go_wp2_with(refine B5 rfl rfl underlying228 Ei rfl rfl hA rfl al (by simp[Value.oneCell']) (by unfold maxLen;omega) (by omega) (by simp;have:=D.size;omega) ?_;intro a7 c7 w7 O o A)
           have aY:Ext wb w7:=(D.alloc _).grown o z;have b0:=(aF.ext ((Ext.refl _).alloc (.cells #[.int .u8 48] 5))).grown o A;have b1:Own w7 wb.heap.size 5 a7 (S+1) c7 ((l ++ List.replicate (j+1) 48).map A2):=by
            rw[lB,<-iQ,iJ];exact O
           go_roundw
           case rel=>exact⟨j+1,a7,S+1,c7,rfl,by go_num,by omega,by omega,aY,b0,b1⟩
           case measure=>simp[intOf];omega
         · have am:j=wd:=by omega
           subst am;go_wp2;go_ret;exact⟨a4,S,c4,rfl,by rw[aV.out,W.padD_zero];exact N,D,aF⟩
      · have Q:decide (0=f)=false:=by simp;omega
        have aS:=qh aH;rw[Q];go_wp2;go_ret;exact⟨M,nt,ct,rfl,by rw[<-WX aS.out];exact t.out.tx,t.out.ext,t.out.kp⟩
     | succ k =>
      have ar:((k+1:Nat):Int)-1=k:=by omega
      rw[ar];have s:=t.out;obtain⟨V,rfl,bn,bo⟩:=s.ch.place (by omega);have a1:Az .u64 wr wb.heap.size 238 V f U (ckS 10000000000000000000 x f):=s.ch;have g1:=a1.cell (i:=k) (by omega);rw[WV (by omega)]at g1;obtain⟨u,hu⟩:∃ u,x/10000000000000000000^k%10000000000000000000=u:=⟨_,rfl⟩;rw[hu]at g1;have bA:u<10000000000000000000:=by rw[<-hu];exact io _ (by omega)
      obtain⟨bs,b6,b5⟩:=s.buf;have aL:=fun(p:World) (h:Ext wr p)=>qh (PJ ((hT.ext s.ext).ext h) (b6.ext h) b5 (u:=u) (by omega));have a3:=s.ext;have ab:=s.tx;have aN:=s.sep1;have H:=s.sep2;have ap:=s.gb;have ah:=qh s.gw;have a9:=s.kp;have aa:=s.len
      have a2:∀ W,(Instr.sliceAt 337 (.pointer (some ⟨G,0,none⟩)) none (some (.int .i64 0)) none).run prog W = .ok (.slice (some ⟨G,0,none⟩) 0 20) W:=fun W=>by
       have b2:prog.arrayLen 337=20:=by kernel_rfl
       have h:=run_sliceAt_array_h (P:=prog) W 337 ⟨G,0,none⟩ (by simp[Program.arrayLen,Program.elem,underlying337]) .i64 0 (by omega) (by rw[b2];omega);rw[h];go_simp
      clear s;have aR:=qh (W.dec_len (k:=19) (n:=u) (by omega) (by omega));have a0:=qh (aN V rfl);have aP:=qh ap;have HU:=qh hu;obtain⟨fb,Q⟩:∃ fb,decide (k+1=f)=fb:=⟨_,rfl⟩;rw[Q];go_wp2
      refine Ab (by kernel_rfl) (fun p=>Ext wr p)
       [he (.slice (some ⟨G,0,none⟩) 0 20),
 he (.slice (some ⟨V,0,none⟩) f U),
 he (.int .i64 k),
 he (.pointer (some ⟨V,(0+k),none⟩)),
 he (.int .u64 (u:Int))]
       (by kernel_rfl) (fun _ _ e h=>h.trans e) ((Ext.refl wr).drew) ⟨trivial,trivial,trivial,trivial,trivial,trivial⟩ ⟨?o0,?o1,?o2,?o3,?o4,trivial⟩ ?fin
      case o1 | o2=>exact omv
      case o0 =>
       refine Aj rfl fun ρ p F ay h => ?_;have e0:ρ (.tmp 11)=(.pointer (some ⟨G,0,none⟩)):=h.1;have k0:p.cell? ⟨V,0+k,none⟩=some (.int .u64 (u:Int)):=by rw[iz];exact F.cell g1
       have k1:=a2 p;have k2:=F.cell g1;go_simp
      case o3 =>
       refine Aj rfl fun ρ p F ay h => ?_;have e0:ρ (.tmp 54)=(.slice (some ⟨V,0,none⟩) f U):=h.1;have e1:ρ (.tmp 55)=(.int .i64 k):=h.2.1;have k0:p.cell? ⟨V,0+k,none⟩=some (.int .u64 (u:Int)):=by rw[iz];exact F.cell g1
       have k1:=a2 p;have k2:=F.cell g1;go_simp
       try (first | (intros;omega) | exact gI _ (by omega))
      case o4 =>
       refine Aj rfl fun ρ p F ay h => ?_;have e0:ρ (.tmp 56)=(.pointer (some ⟨V,(0+k),none⟩)):=h.1;have k0:p.cell? ⟨V,0+k,none⟩=some (.int .u64 (u:Int)):=by rw[iz];exact F.cell g1
       have k1:=a2 p;have k2:=F.cell g1;go_simp
      case fin =>
       intro p F;change wpList _ _ _ _ _ _;simp only[lq,lw,lx,lz,Act.put,lj,lk,ly]
       go_wp2_with fail
       refine((aL p F).out).mono ?_;rintro e w2 ⟨rfl,⟨w3,C,E⟩,aC,z,X,a8⟩;obtain⟨L,hL⟩:∃ L,(Lib.decDigits u).length=L:=⟨_,rfl⟩;have HL:=qh hL;have bm:L<=19:=by have:=aR.out;rw[hL]at this;exact this
       rw[hL];clear hL;cases fb
       case' true =>
        have R:k+1=f:=by simpa using Q
        obtain⟨Z,hZ,aG⟩:∃ Z:Nat,max (L:Int) ((wd:Int)-19*(k:Int))-(L:Int)=Z/\Z=wd-19*k-L:=⟨wd-19*k-L,by rw[Int.max_def];split <;> omega,rfl⟩;obtain⟨BD,aj⟩:∃ BD,BD=n+20*(f-(k+1)):=⟨_,rfl⟩;have b3:BD+Z+L<=n+wd+20*(f-k):=by omega
        have ai:Hid (Vq wb w w2 a f G V U u (BD+0) (ckS 10000000000000000000 x f) ((l ++ cpT x wd f (k+1)) ++ List.replicate 0 48) M nt ct):=qh ⟨((a3.trans F).trans C).grown E (fun k I=>by cases I;exact ap),by rw[nh,jL];exact((ab.ext F).ext C).kept E (Or.inr H),((a1.ext F).ext C).kept E (fun h=>a0.out.2 (by cases h;rfl)),⟨aC,z,X,a8⟩,a0.out.1,H,by rw[gY R]at aa;omega,((a9.ext F).ext C).far E ah.out⟩
        have av:Hid (l ++ cpT x wd f k=l ++ cpT x wd f (k+1) ++ List.replicate Z 48 ++ Lib.decDigits u):=qh (by
         have h1:l ++ cpT x wd f k=l ++ cpT x wd (k+1) k:=by rw[R]
         rw[h1,<-Tv (by rw[R];exact az.out) (by rw[R];exact ag.out) HU.out,HL.out,<-aG,R,MJ]
         simp only[iQ,jo])
        clear aj Q;clear C E z X a8 F a3 ab a1 g1 a2 H aa a9;clear aG;go_wp2
        try rw[hZ]
       case' false =>
        have R:¬ k+1=f:=by simpa using Q
        obtain⟨Z,hZ⟩:∃ Z:Nat,(19:Int)-(L:Int)=Z:=⟨19-L,by omega⟩;obtain⟨BD,aj⟩:∃ BD,BD=n+wd+20*(f-(k+1)):=⟨_,rfl⟩;have b3:BD+Z+L<=n+wd+20*(f-k):=by omega
        have ai:Hid (Vq wb w w2 a f G V U u (BD+0) (ckS 10000000000000000000 x f) ((l ++ cpT x wd f (k+1)) ++ List.replicate 0 48) M nt ct):=qh ⟨((a3.trans F).trans C).grown E (fun k I=>by cases I;exact ap),by rw[nh,jL];exact((ab.ext F).ext C).kept E (Or.inr H),((a1.ext F).ext C).kept E (fun h=>a0.out.2 (by cases h;rfl)),⟨aC,z,X,a8⟩,a0.out.1,H,by rw[gT R]at aa;omega,((a9.ext F).ext C).far E ah.out⟩
        have av:Hid (l ++ cpT x wd f k=l ++ cpT x wd f (k+1) ++ List.replicate Z 48 ++ Lib.decDigits u):=qh (by
         rw[<-Vp (by omega) ag.out HU.out,HL.out,show 19-L=Z by omega]
         simp only[iQ])
        clear aj Q;clear C E z X a8 F a3 ab a1 g1 a2 H aa a9;go_wp2
        try rw[hZ]
       all_goals
        go_loopw[0,71] (fun tv jv p=>∃ (j:Nat) (a4:Option Addr) (S c4:Nat),tv = .slice a4 S c4/\jv = .int .i64 j/\j<=Z/\Hid (Vq wb w p a f G V U u (BD+j) (ckS 10000000000000000000 x f) ((l ++ cpT x wd f (k+1)) ++ List.replicate j 48) a4 S c4)) (fun _ jv _=>Z-(intOf jv).toNat)
        case atStart=>exact⟨0,M,nt,ct,rfl,rfl,gO _,ai⟩
        case round =>
         clear ai;obtain⟨j,a4,S,c4,rfl,rfl,hj,K⟩:=hrel;have N:=K.out.tx;have D:=K.out.ext;have z:∀ k,blk a4=some k->wb.heap.size<=k:=fun k I=>(N.lt I).1;have bp:=K.out.ch.lt;obtain⟨b4,a6,Y,ax⟩:=K.out.buf;have bc:=a6.lt;have bq:=K.out.len;by_cases bd:j<Z
         · have hA:=N.alloc (.cells #[.int .u8 48] 5);have al:=(AB wr wb.heap.size 5 #[.int .u8 48] 1 rfl D.size (by omega)).sl
           go_wp2_with(refine B5 rfl rfl underlying228 Ei rfl rfl hA rfl al (by simp[Value.oneCell']) (by unfold maxLen;omega) (by omega) (by simp;have:=D.size;omega) ?_;intro a7 c7 w7 O o A)
           have HN:Hid (Vq wb w w7 a f G V U u (BD+(j+1)) (ckS 10000000000000000000 x f) ((l ++ cpT x wd f (k+1)) ++ List.replicate (j+1) 48) a7 (S+1) c7):=by
            refine⟨(D.alloc _).grown o z,?_,(Own.alloc K.out.ch _).kept o (Or.inr fun h=>K.out.sep1 h.symm),⟨b4,(a6.alloc _).kept o (fun h=>K.out.sep2 h.symm),Y,ax⟩,?_,?_,by omega,(K.out.kp.ext ((Ext.refl _).alloc (.cells #[.int .u8 48] 5))).grown o A⟩
            · rw[lB,<-iQ,iJ];exact O
            · rcases A with h|h
              · rw[h];exact K.out.sep1
              · rw[h];simp;omega
            · rcases A with h|h
              · rw[h];exact K.out.sep2
              · rw[h];simp;omega
           go_roundw
           case rel=>exact⟨j+1,a7,S+1,c7,rfl,by go_num,by omega,HN.out⟩
           case measure=>simp[intOf];omega
         · have am:j=Z:=by omega
           have bg:Sl wr (some ⟨G,0,none⟩) L 20 ((Lib.decDigits u).map A2):=by
            have h:=a6.sl (k:=L) (by omega) (by rw[Y];unfold maxLen;omega);rw[Y,<-HL.out,ax,HL.out]at h;exact h
           go_wp2_with(refine B5 rfl rfl underlying228 Ei rfl rfl N rfl bg (LN _) (by unfold maxLen;omega) (by omega) D.size ?_;intro a7 c7 w7 O o A)
           have HN:Hid (WW wb w w7 a x wd f G l (some ⟨V,0,none⟩) U n k a7 (S+L) c7):=by
            refine⟨D.grown o z,?_,K.out.ch.kept o (fun h=>K.out.sep1 h.symm),⟨b4,a6.kept o (fun h=>K.out.sep2 h.symm),Y⟩,?_,?_,aP.out,ah.out,K.out.kp.grown o A,by rw[gT (by omega)];omega⟩
            · have e:l ++ cpT x wd f k=l ++ cpT x wd f (k+1) ++ List.replicate j 48 ++ Lib.decDigits u:=by
               rw[am];exact av.out
              rw[e,iJ];exact O
            · intro k I;cases I;refine⟨?_,a0.out.2⟩;rcases A with h|h
              · rw[h];exact K.out.sep1
              · rw[h];simp;omega
            · rcases A with h|h
              · rw[h];exact K.out.sep2
              · rw[h];simp;omega
           have ba:decide (k=f)=false:=by simp;omega
           go_roundw
           case rel=>exact⟨k,a7,S+L,c7,rfl,by rw[ba],rfl,by omega,HN.out⟩
           case measure=>simp[intOf]
  · have ad:0<x/10000000000000000000^f:=jM fun h=>h0 (HZ.out.2 h);have aq:10000000000000000000^f<=x:=by
     refine ia fun hc => ?_;rw[jy (by omega)]at ad;omega
    have bv:=Tt aB.out aq;have aQ:=qh aq;clear aq;obtain⟨g,rfl,bb,bt⟩:=T.wk.place (by omega);have aZ:=T.ext;have b8:=T.ch;have bi:Az .u64 wr w.heap.size 238 g nk ck ys:=T.wk;have af:=qh T.sep;have HN:=qh T.num;clear T;obtain⟨j,rfl⟩:∃ j,nk=j+1:=⟨nk-1,by omega⟩;clear h0;go_wp2;obtain⟨wo,bh⟩:∃ wo:World,wo=wr:=⟨_,rfl⟩;subst bh
    go_loopw[9,10] (fun rv iv p=>∃ (k r:Nat) (zs:List Nat),k<=j+1/\rv = .int .u64 r/\iv = .int .i64 ((k:Int)-1)/\r<10000000000000000000/\Ext w p/\Az .u64 p w.heap.size 238 g (j+1) ck zs/\Own p w.heap.size 238 ac f U ((ckS 10000000000000000000 x f).map (BL .u64))/\W.bnd 18446744073709551616 zs/\Hid (zs.take k=ys.take k)/\Hid (W.val 18446744073709551616 (ys.drop k)=W.val 18446744073709551616 (zs.drop k)*10000000000000000000+r)) (fun _ v _=>(intOf v+1).toNat)
    case atStart=>exact⟨j+1,0,ys,lrf _,rfl,by go_num,by omega,aZ,bi,b8,HN.out.bnd,qh rfl,qh (by rw[iX (by rw[HY.out];exact lrf _)];simp[W.val])⟩
    case round =>
     obtain⟨k,r,zs,I,rfl,rfl,hr,a5,hz,ao,bz,aA,HE⟩:=hrel;cases k with
     | zero =>
      have aw:Hid (x/10000000000000000000^f/10000000000000000000=W.val 18446744073709551616 zs/\x/10000000000000000000^f%10000000000000000000=r):=by
       show _/\_;have h1:=HE.out;rw[ji,ji,HN.out.val]at h1;rw[h1,gV];exact⟨by rw[ld (by omega),jy hr,iO],by rw[lC,jG hr]⟩
      go_wp2_with fail
      refine(Bq hz.sl).mono ?_;rintro e w4 ⟨q,rfl,rfl,hq,ht⟩;have hA:=ao.alloc (.cells #[.int .u64 r] 238);have hL:=(AB wr w.heap.size 238 #[.int .u64 r] 1 rfl a5.size (by omega)).sl;have z:∀ k,blk ac=some k->w.heap.size<=k:=fun k I=>(ao.lt I).1;have bc:=hz.lt
      go_wp2_with(refine B5 rfl rfl underlying81 AK rfl rfl hA rfl hL (by simp[Value.oneCell']) (by unfold maxLen;omega) (by omega) (by simp;have:=a5.size;omega) ?_;intro a7 c7 w7 O o A)
      have aJ:Hid (XY w w7 x (some ⟨g,0,none⟩) q ck a7 (f+1) c7 (W.trim zs)):=by
       refine⟨(a5.alloc _).grown o z,?_,?_,?_,?_,Or.inr ?_⟩
       · rw[ht];exact((Az.upto hz hq).alloc _).kept o (Or.inr fun h=>af.out g h.symm rfl)
       · rw[<-Ts,iJ,aw.out.2];exact O
       · intro k I he;cases he;rcases A with h|h
         · exact af.out g (by rw[<-h];exact I) rfl
         · rw[I]at h;simp at h;omega
       · rw[ip,<-kO,aw.out.1];exact Num.trim bz rfl
       · exact aQ.out
      go_roundw
      case rel=>exact⟨_,q,ck,a7,f+1,c7,_,rfl,rfl,by omega,aJ.out⟩
      case measure=>simp;omega
     | succ k =>
      have g1:=hz.cell (i:=k) (by omega);have ar:((k+1:Nat):Int)-1=k:=by omega
      rw[ar];have bk:=W.bnd_at bz (i:=k) (by rw[hz.len];omega);have aU:=qh (fun q r'=>KT (B:=18446744073709551616) (xs:=ys) (zs:=zs) (k:=k) (q:=q) (r:=r) (r':=r') (d:=10000000000000000000) (by rw[HY.out];omega) (by rw[hz.len];omega) HE.out);have aO:Hid (zs.getD k 0=ys.getD k 0):=by
       show _=_;have h1:=iP (fun l=>l.getD k 0) aA.out;have h2:∀ (l:List Nat),(l.take (k+1)).getD k 0=l.getD k 0:=fun l=>by simp
       simpa[h2]using h1
      have aK:Hid (∀ q,(zs.set k q).take k=ys.take k):=by
       show ∀ q,(zs.set k q).take k=ys.take k;intro q;rw[nf (lrf _)];have h1:=iP (fun l=>l.take k) aA.out;simpa[ox,jK (Nat.le_succ k)]using h1
      generalize hu:zs.getD k 0=u at *
      have b9:=fun p:World=>Fk (w:=p) (hi:=r) (lo:=u) (y:=10000000000000000000) (by omega) bk hr
      go_wp2_with fail
      refine(b9 _).mono ?_;rintro e w2 ⟨q,r',rfl,hq,bf,he,hQ⟩;have au:=hz.ext hQ.ext;have g3:=au.frozen k;have g4:=au.cell (i:=k) (by omega);have aT:=qh (aU.out q r' (by rw[<-aO.out];exact he));have aX:=a5.trans hQ.ext;have aM:=ao.ext hQ.ext;clear he;go_wp2;go_roundw
      case rel=>exact⟨k,r',zs.set k q,by omega,rfl,by go_num,bf,aX.setCell bb _,au.set k q,aM.kept (Ar _ _ _ _) (Or.inr fun h=>af.out g h rfl),W.bnd_set bz hq,qh (aK.out q),aT⟩
      case measure=>simp[intOf]
end Go.Proofs.YtlbmnokpiilfpaaGreatDoor
