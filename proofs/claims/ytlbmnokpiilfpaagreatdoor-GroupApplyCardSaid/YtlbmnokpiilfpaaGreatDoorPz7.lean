/- Part Pz7. -/
import Derived.Test.YtlbmnokpiilfpaaGreatDoorPz6
import Derived.Shelf.Strconv.AppendInt10
import Derived.Shelf.Strconv.Itoa4
import Derived.Deep.AppendSrc
set_option linter.all false
set_option maxRecDepth 100000
set_option maxHeartbeats 100000000
namespace Go.Proofs.YtlbmnokpiilfpaaGreatDoor
open Tryz Go Go.RowKit
def md:=@Nat.lt_of_not_le
def pZ:=@List.length_append
def qD:=@List.getElem?_eq_some_iff
def rN:=@Nat.pos_of_ne_zero
def sQ:=@Nat.gcd_one_right
def tG:=@Nat.pow_le_pow_left
def tW:=@Nat.div_one
def tf:=@List.length_drop
def vd:=@Nat.gcd_pos_of_pos_right
def wn:=@Array.size_replicate
variable {f:Act} {ops:Array Oper} {s:ByteArray} {Q:Exit->Act->World->Prop} {z:Int} {zs:List Nat} {rest:List Oper} {l r:List UInt8} {cs news xs:List Value} {B base c d m n u:Nat} {o:Oper} {x:Operand} {a b:Option Addr} {T e t tx:TypeId} {v:Value} {w w0 wb:World}
theorem R9(b:zs.length=n+1)(a:W.bnd B zs)(d:B^n<=W.val B zs):W.nrm zs:=by
 intro c h0;rw[sY]at h0;have h1:=Ed (B:=B) b;have h2:=Ck a (m:=n) (by omega);have h3:zs.getD n 0=zs[zs.length-1]'(by omega):=by
  have:zs.length-1=n:=by omega
  simp[this,show n<zs.length by omega]
 rw[h3,h0,r7,qA]at h1;omega
theorem Tq(a:W.digs l)(b:l.length<=19):W.decV l<10000000000000000000:=by
 have h1:=W.decV_lt a;have h2:10^l.length<=10^19:=pR (by omega) b;omega
theorem LO(b:W.digs l)(k:Nat):W.digs (l.take k):=fun c a=>b c (rF a)
theorem Sa(b:W.digs l)(k:Nat):W.digs (l.drop k):=fun c a=>b c (tC a)
theorem Sb{xs:List Nat}{k c' V:Nat}(a:k<zs.length)(f:k<xs.length)(h:W.val B (zs.take k)+c*B^k=u*W.val B (xs.take k)+V)(e:d+B*c'=xs.getD k 0*u+c) :
 W.val B ((zs.set k d).take (k+1))+c'*B^(k+1)=u*W.val B (xs.take (k+1))+V:=by
 have b:W.val B ((zs.set k d).take (k+1))=W.val B (zs.take k)+B^k*d:=by
  rw[W.val_take_succ (by simpa using a)];congr 1
  · rw[wE (lrf _)]
  · simp[a]
 rw[b,W.val_take_succ f,qB];have g:B^k*(d+B*c')=B^k*(xs.getD k 0*u+c):=by rw[e]
 grind
theorem I3(hd:W.digs (An s))(hs:s.size<=600) :
 Calls prog 286 #[.string s] w (Lu w (W.decV (An s))):=by
 have HD:=qh hd;clear hd
 go_enter func286,ntmps286
 go_wp2
 go_loopw[0,3] (fun dv xv wr=>∃ (j:Nat) (t:ByteArray) (a:Option Addr) (n c:Nat) (xs:List Nat),dv = .string t/\xv = .slice a n c/\j<=s.size/\Hid (An t=(An s).drop j)/\t.size+j=s.size/\n<=j/\Ext w wr/\Own wr w.heap.size 238 a n c (xs.map (BL .u64))/\Hid (Num 18446744073709551616 xs (W.decV ((An s).take j)))) (fun dv _ _=>match dv with | .string t=>t.size | _=>0)
 case atStart=>exact⟨0,s,none,0,0,[],rfl,rfl,pE _,qh rfl,by omega,by omega,Ext.refl w,Own.nil _ _ _,qh (Num.nil _)⟩
 case round =>
  obtain⟨j,t,a,n,c,xs,rfl,rfl,hj,HT,bG,bx,hE,hO,Z⟩:=hrel;by_cases h0:t.size=0
  · have HF:Hid (Num 18446744073709551616 xs (W.decV (An s))):=by
     have h1:=Z.out;rw[pu (by rw[Ay];omega)]at h1;exact qh h1
    have bb:¬ (0:Int)<(t.size:Int):=by omega
    clear h0;go_wp2;go_ret;exact⟨a,n,c,rfl,hE,xs,hO.sl,HF.out⟩
  · have bb:(0:Int)<(t.size:Int):=by omega
    obtain⟨z,hz⟩:∃ z,(t.size-1)%19+1=z:=⟨_,rfl⟩;have bK:1<=z:=by omega
    have bL:z<=19:=by omega
    have bN:z<=t.size:=by omega
    have bg:IntKind.i64.wrap ((t.size:Int)-1)=((t.size-1:Nat):Int):=by rw[show(t.size:Int)-1=((t.size-1:Nat):Int) by omega];exact pq _ (by omega)
    have bi:((t.size-1:Nat):Int).tmod 19=(((t.size-1)%19:Nat):Int):=by rw[rt (by omega)];omega
    have aq:((t.size-1:Nat):Int)%19=(((t.size-1)%19:Nat):Int):=by omega
    have bj:IntKind.i64.wrap ((((t.size-1)%19:Nat):Int)+1)=(z:Int):=by rw[show(((t.size-1)%19:Nat):Int)+1=(z:Int) by omega];exact pq _ (by omega)
    clear hz;generalize (t.size-1)%19=z0 at *
    generalize t.size-1=t1 at *
    have bR:(z:Int)<=(t.size:Int):=by omega
    go_upto_region 6 with(refine PH rfl rfl underlying9 underlying228 underlying5 rfl (by unfold maxLen;simp;omega) ?_;intro cb w1 a6 Q)
    have M:An (t.extract 0 z)=((An s).drop j).take z:=by rw[Bc,HT.out,qN,vi]
    have aa:W.digs (An (t.extract 0 z)):=by rw[M];exact LO (Sa HD.out j) z
    have ab:(An (t.extract 0 z)).length=z:=by rw[M,qg,tf,Ay];omega
    have ar:=qh M;clear M;have ao:(t.extract 0 z).size=z:=by simp;omega
    rw[ao]at Q;clear ao;generalize An (t.extract 0 z)=A at *
    have X:=qh aa;have K:=qh ab;clear aa ab bg bi aq bj
    go_loop[5,6,25] (fun cv bv T=>∃ (k f P:Nat),k<=z/\cv = .int .u64 f/\bv = .int .u64 P/\T = .int .i64 k/\f<10000000000000000000/\P<=10000000000000000000/\Hid (W.decV (A.take k)=f/\10^k=P)) (fun _ _ T=>z-(intOf T).toNat)
    case atStart=>exact⟨0,0,1,pE _,rfl,rfl,rfl,by omega,by omega,qh ⟨rfl,rfl⟩⟩
    case round =>
     obtain⟨k,f,P,hk,rfl,rfl,rfl,bo,hP,E⟩:=hrel;by_cases ac:k<z
     · obtain⟨b1,o1,I,J⟩:=Q.rd (by omega);simp only[pz,qq,qO]at I;obtain⟨I,ah⟩:=I;have g1:=J k ac;rw[<-I,<-ah,qA]at g1;have S:k<A.length:=by rw[K.out];exact ac
       have e1:(A.map A2).getD k undef = .int .u8 ((A[k].toNat:Nat):Int):=by simp[S,A2]
       rw[e1]at g1;have b8:=X.out A[k] (qG S);have aj:A.take (k+1)=A.take k ++ [A[k]]:=pB S;have b:W.decV (A.take (k+1))=10*f+(A[k].toNat-48):=by rw[aj,W.decV_snoc,E.out.1]
       have ag:=Tq (LO X.out (k+1)) (by rw[qg,K.out];omega);have ai:10^(k+1)<=10^19:=pR (by omega) (by omega);rw[qB,E.out.2]at ai;rw[b]at ag;have l:=qh b;have Y:Hid (10^(k+1)=P*10):=by show _=_;rw[qB,E.out.2]
       obtain⟨bp,bq⟩:=b8;generalize A[k].toNat=e at *
       have a1:IntKind.u64.wrap (10*(f:Int))=((10*f:Nat):Int):=Au (by omega) (by omega);have a2:IntKind.u8.wrap ((e:Int)-48)=((e-48:Nat):Int):=by rw[IntKind.wrap_u8];omega
       have a3:IntKind.u64.wrap ((e-48:Nat):Int)=((e-48:Nat):Int):=Au rfl (by omega);have a4:IntKind.u64.wrap (((10*f:Nat):Int)+((e-48:Nat):Int))=((10*f+(e-48):Nat):Int):=Au (by omega) (by omega);have a5:IntKind.u64.wrap ((P:Int)*10)=((P*10:Nat):Int):=Au (by omega) (by omega);have b2:10*f+(e-48)<10000000000000000000:=by omega
       have b3:P*10<=10000000000000000000:=by omega
       clear b aj e1 J I ah ag ai;generalize 10 * f+(e-48)=ax at *
       generalize 10 * f=bl at *
       generalize e-48=d1 at *
       generalize P * 10=P1 at *
       go_wp2;go_round
       case rel=>exact⟨k+1,ax,P1,by omega,rfl,rfl,by go_num,b2,b3,qh ⟨l.out,Y.out⟩⟩
       case measure=>simp[intOf];omega
     · have ek:k=z:=by omega
       have N:Hid (W.decV A=f/\10^z=P):=by
        have h1:=E.out;rw[ek,pu (by rw[K.out];exact lrf _)]at h1;exact qh h1
       clear ek E Q;have a9:=hO.ext a6;have a8:=hE.trans a6;have L:Hid (xs.length=n):=qh (by have:=hO.len;simpa using this);go_wp2;obtain⟨wo,bk⟩:∃ wo:World,wo=wr:=⟨_,rfl⟩;subst bk
       go_loopw[9,44] (fun cv T wx=>∃ (q C:Nat) (zs:List Nat),q<=n/\cv = .int .u64 C/\T = .int .i64 q/\C<18446744073709551616/\Ext w wx/\Own wx w.heap.size 238 a n c (zs.map (BL .u64))/\Hid (W.bnd 18446744073709551616 zs/\zs.drop q=xs.drop q/\W.val 18446744073709551616 (zs.take q)+C*18446744073709551616^q=P*W.val 18446744073709551616 (xs.take q)+f)) (fun _ T _=>n-(intOf T).toNat)
       case atStart=>exact⟨0,f,xs,pE _,rfl,rfl,by omega,a8,a9,qh ⟨Z.out.bnd,rfl,by simp[W.val]⟩⟩
       case round =>
        clear a9 a8;obtain⟨q,C,zs,hq,rfl,rfl,b7,H,D,G⟩:=hrel;have ap:zs.length=n:=by have:=D.len;simpa using this
        have x:=qh ap;clear ap;by_cases r:q<n
        · obtain⟨g,rfl,b9,bs⟩:=D.place (by omega);have O:Az .u64 wr w.heap.size 238 g n c zs:=D;have g1:=O.cell (i:=q) r;have f1:=O.frozen q;have hb:=W.bnd_at G.out.1 (i:=q) (by rw[x.out];exact r);have ak:zs.getD q 0=xs.getD q 0:=Fo G.out.2.1;have av:=qh ak;clear ak;generalize zs.getD q 0=xq at *
          go_wp2_with fail
          refine(Cg hb (show P<18446744073709551616 by omega) b7).mono ?_;rintro e2 w2 ⟨U,hi,rfl,rfl,bf,bd,e1⟩;have HS:=qh (Sb (B:=18446744073709551616) (zs:=zs) (xs:=xs) (k:=q) (d:=U) (u:=P) (c:=C) (c':=hi) (V:=f) (by rw[x.out];exact r) (by rw[L.out];exact r) G.out.2.2 (by rw[<-av.out];exact e1));have b5:Own (wr.setCell ⟨g,q,none⟩ (.int .u64 (U:Int))) w.heap.size 238 (some ⟨g,0,none⟩) n c ((zs.set q U).map (BL .u64)):=O.set q U;have aA:=H.setCell (p:=⟨g,q,none⟩) b9 (.int .u64 (U:Int));clear e1;go_wp2;go_roundw
          case rel=>exact⟨q+1,hi,zs.set q U,by omega,rfl,by go_num,bd,aA,b5,qh ⟨W.bnd_set G.out.1 bf,EN G.out.2.1,HS.out⟩⟩
          case measure=>simp[intOf];omega
        · have eq:q=n:=by omega
          have v:W.val 18446744073709551616 zs+C*18446744073709551616^n=P*W.val 18446744073709551616 xs+f:=by
           have h1:=G.out.2.2;rw[eq,pu (by rw[x.out];exact lrf _),pu (by rw[L.out];exact lrf _)]at h1;exact h1
          rw[Z.out.val]at v;have b:P*W.decV ((An s).take j)+f=W.decV ((An s).take (j+z)):=by
           have h1:(An s).take (j+z)=(An s).take j ++ A:=by rw[ar.out,List.take_add]
           rw[h1,W.decV_app,K.out,N.out.1,N.out.2,pM]
          rw[b]at v;have o:=qh v;have l:=qh b;have al:An (t.extract z t.size)=(An s).drop (j+z):=by
           rw[Bc,HT.out,wP,pu (by rw[tf,Ay];omega)]
          have a0:=qh al;have bz:(t.extract z t.size).size=t.size-z:=by simp
          clear v b al eq;by_cases R:C=0
          · have m:Num 18446744073709551616 zs (W.decV ((An s).take (j+z))):=by
             have h1:=o.out;rw[R,r7,qy]at h1;refine⟨G.out.1,?_,h1⟩;rcases pT n with ad|ad
             · have:zs=[]:=pG (by rw[x.out,ad]);rw[this];exact W.nrm_nil
             · refine R9 (B:=18446744073709551616) (n:=n-1) (by rw[x.out];omega) G.out.1 ?_;rw[h1,<-l.out];have h2:=W.nrm_pos (B:=18446744073709551616) (by omega) Z.out.nrm (by intro h;have:=L.out;rw[h]at this;simp at this;omega);rw[L.out,Z.out.val]at h2;have h3:1*W.decV ((An s).take j)<=P*W.decV ((An s).take j):=px _ (by rw[<-N.out.2];exact tw (by omega));omega
            have F:=qh m;subst R;clear m o l G;generalize t.extract z t.size=t2 at *
            go_wp2;go_roundw
            case rel=>exact⟨j+z,t2,a,n,c,zs,rfl,rfl,by omega,a0,by omega,by omega,H,D,F⟩
            case measure=>simp;omega
          · have bn:((C:Int) != 0)=true:=by simp;omega
            have m:Num 18446744073709551616 (zs ++ [C]) (W.decV ((An s).take (j+z))):=by
             refine⟨W.bnd_app G.out.1 (fun y hy=>by simp at hy;omega),fun bt=>by simp;exact R,?_⟩;rw[W.val_snoc,x.out,<-o.out,pM]
            have F:=qh m;have hA:=D.alloc (.cells #[.int .u64 (C:Int)] 238);have hL:=(AB wr w.heap.size 238 #[.int .u64 (C:Int)] 1 rfl H.size (by omega)).sl;have b6:∀ k,blk a=some k->w.heap.size<=k:=fun k hk=>(D.lt hk).1;clear m o l G;generalize t.extract z t.size=t2 at *
            go_wp2_with(refine B5 rfl rfl underlying81 AK rfl rfl hA rfl hL (by simp[Value.oneCell']) (by unfold maxLen;omega) (by omega) (by simp;have:=H.size;omega) ?_;intro a7 c7 w7 b0 ba bm)
            have ay:Ext w w7:=(H.alloc _).grown ba b6;have b4:Own w7 w.heap.size 238 a7 (n+1) c7 ((zs ++ [C]).map (BL .u64)):=by rw[qw];exact b0
            go_roundw
            case rel=>exact⟨j+z,t2,a7,n+1,c7,zs ++ [C],rfl,rfl,by omega,a0,by omega,by omega,ay,b4,F⟩
            case measure=>simp;omega
theorem JT(b:W.digs (An s))(g:s.size<=570) :
 Calls prog 237 #[.string s,.slice none 0 0] w (Lu w (W.decV (An s))):=by
 have hp:=qh (I3 (w:=w) b (by omega));clear b
 go_enter func237,ntmps237
 go_wp2;refine wp_loop_rounds 1 ?_;rw[rounds_succ]
 go_wp2_with fail
 refine hp.out.mono ?_;rintro e i ⟨a,n,c,rfl,d,f⟩;go_wp2;go_ret;exact⟨a,n,c,rfl,d,f⟩
theorem JU(b:W.digs (An s))(g:s.size<=570) :
 Calls prog 202 #[.string s] w (Lu w (W.decV (An s))):=by
 have hp:=qh (JT (w:=w) b g);have f:¬ ((570:Int)<(s.size:Int)):=by omega
 clear b
 go_enter func202,ntmps202
 go_wp2_with fail
 refine hp.out.mono ?_;rintro e j ⟨a,n,c,rfl,d,i⟩;go_wp2;go_ret;exact⟨a,n,c,rfl,d,i⟩
theorem LP(l:W.digs (An s))(q:s.size<=570) :
 Calls prog 139 #[.string s] w (EP w ((W.decV (An s):Nat):Int)):=by
 go_enter func139,ntmps139
 go_upto_region 1 with(fail)
 refine AP ?_;intro m g d k;have hp:=qh (JU (w:=m) l q);have p:Arr m w.heap.size 83 (Ac false none 0 0):=d;have c:Hid (decide (((W.decV (An s):Nat):Int)<0)=false):=qh (pN (by omega));clear l k
 go_wp2_with fail
 refine hp.out.mono ?_;rintro e t ⟨n,r,o,rfl,a,j⟩;have b:=p.ext a
 go_wp2_with(refine Aa (vs:=Ac false n r o) rfl rfl rfl rfl rfl Ai b rfl (Ae _ _ _ _) ?_;intro v f i)
 exact py (Ap rfl Ai rfl f) rfl (BA (g.trans a) b (Ax _ _ _ _) i (by omega) c j)
theorem Ei:Ca prog 5 (.int .u8 0) 1:=by unfold Ca;kernel_rfl
def JV(wb:World)(l:List UInt8)(e:Ending)(w':World):Prop:=∃ a n c,e = .returned (.slice a n c)/\Own w' wb.heap.size 5 a n c (l.map A2)/\Ext wb w'
theorem Lg(h:w.ownsRow base e 1 v n xs):∃ a c,v = .slice a n c/\Own w base e a n c xs:=by
 rcases h.2 with⟨d,h0⟩|⟨g,b,f,d,_⟩
 · subst d;subst h0;exact⟨none,0,rfl,h⟩
 · subst d;exact⟨_,b,rfl,h⟩
theorem I4(i:AM w)(b:Ext wb w)(g:Own w wb.heap.size 5 a n c (l.map A2))(hu:u<18446744073709551616)(j:n<=100000) :
 Calls prog 302 #[.slice a n c,.int .u64 u,.int .i64 10] w (JV wb (l ++ Lib.decDigits u)):=by
 refine(Any.internal_strconv_AppendUint_10 Rz wb.heap.size n u hu (.slice a n c) (l.map A2) w g b.size (by omega) i.ten).mono ?_;rintro e m ⟨k,rfl,h1,h2,_⟩;obtain⟨d,f,rfl,h3⟩:=Lg h1;refine⟨d,_,f,rfl,?_,Below.trans b h2⟩;rw[qw];exact h3
theorem JW(i:AM w)(f:Ext wb w)(g:Own w wb.heap.size 5 a n c (l.map A2))(hu:u<18446744073709551616)(j:n<=100000) :
 Calls prog 283 #[.slice a n c,.int .u64 u,.int .i64 10] w (JV wb (l ++ Lib.decDigits u)):=by
 have h:=qh (I4 i f g hu j)
 go_enter func283,ntmps283
 go_wp2_with fail
 refine h.out.mono ?_;rintro e m ⟨b,k,d,rfl,h1,h2⟩;go_wp2;go_ret;exact⟨b,k,d,rfl,h1,h2⟩
theorem Lh(b:AM w)(h0 : -9223372036854775808<=z)(h1:z<=9223372036854775807) :
 Calls prog 181 #[.int .i64 z,.int .i64 10] w fun e a=>e = .returned (.string ⟨(Lib.itoa z).toArray⟩)/\Ext w a:=by
 refine(Any.strconv_FormatInt_10 V8 z h0 h1 w b.ten).mono ?_;rintro e a ⟨rfl,k,c,rfl⟩;exact⟨rfl,Lib.below_grow w.heap.size w (lrf _) k c⟩
theorem N0(b:AM w)(h0 : -9223372036854775808<=z)(h1:z<=9223372036854775807) :
 Calls prog 114 #[.int .i64 z] w fun e a=>e = .returned (.string ⟨(Lib.itoa z).toArray⟩)/\Ext w a:=by
 have h:=qh (Lh b h0 h1)
 go_enter func114,ntmps114
 go_wp2_with fail
 refine h.out.mono ?_;rintro e a ⟨rfl,h2⟩;go_wp2;go_ret;exact⟨rfl,h2⟩
theorem Ib{x:Nat}(E:AM w)(i:Ext wb w)(j:Own w wb.heap.size 5 a n c (l.map A2))(g:Wd w b m d x)(s:x<18446744073709551616)(H:n<=100000) :
 Calls prog 234 #[.slice a n c,.slice b m d] w (JV wb (l ++ Lib.decDigits x)):=by
 have t:m<=1:=g.len (k:=1) (by rw[O6];exact s);have f:=g.zero;by_cases h0:m=0
 · have r:x=0:=f.1 h0;subst h0;subst r;have v:Hid (l ++ Lib.decDigits 0=l ++ [48]):=by show _=_;rw[W.dec_zero]
   have C:=j.alloc (.cells #[.int .u8 48] 5);have D:=(AB w wb.heap.size 5 #[.int .u8 48] 1 rfl i.size (by omega)).sl;have p:∀ k,blk a=some k->wb.heap.size<=k:=fun k G=>(j.lt G).1;clear f t g
   go_enter func234,ntmps234
   go_wp2_with(refine B5 rfl rfl underlying228 Ei rfl rfl C rfl D (by simp[Value.oneCell']) (by unfold maxLen;omega) (by omega) (by simp;have:=i.size;omega) ?_;intro z B P o q F)
   go_ret;refine⟨z,n+1,B,rfl,?_,(i.alloc _).grown q p⟩;rw[v.out,qw];exact o
 · have h1:m=1:=by omega
   subst h1;obtain⟨J,N,rfl,K,L,M⟩:=g.one;have h:=qh (JW E i j s H);clear f t g h0
   go_enter func234,ntmps234
   go_wp2_with fail
   refine h.out.mono ?_;rintro e O ⟨y,I,A,rfl,h1,h2⟩;go_wp2;go_ret;exact⟨y,I,A,rfl,h1,h2⟩
theorem Arr.setCells{g:Nat}{t:TypeId}:∀ (b:List Value) (o:Nat) (w:World) (a:List Value),Arr w g t a->o+b.length<=a.length->Arr (w.setCells g o b) g t (a.take o ++ b ++ a.drop (o+b.length))
 | [],o,w,a,h,_=>by
  have e:a.take o ++ [] ++ a.drop (o+([]:List Value).length)=a:=by simp
  rw[e];exact h
 | v :: r,o,w,a,h,hl=>by
  simp only[qk]at hl;have h1:=Arr.setCells r (o+1) _ _ (h.set o v) (by simp;omega);have e:(a.set o v).take (o+1) ++ r ++ (a.set o v).drop (o+1+r.length)=a.take o ++ (v :: r) ++ a.drop (o+(v :: r).length):=by
   have c:(a.set o v).take (o+1)=a.take o ++ [v]:=by
    rw[pB (by simp;omega)];rw[wE (by omega)];simp
   have d:(a.set o v).drop (o+1+r.length)=a.drop (o+1+r.length):=by
    rw[List.drop_set_of_lt (by omega)]
   rw[c,d];simp[rO,Nat.add_left_comm]
  rw[e]at h1;exact h1
theorem FC(g:Nat):∀ (d:List Value) (o:Nat) (w:World),w.grownBy (w.setCells g o d) (some g)
 | [],_,w=>⟨rfl,rfl,rfl,lrf _,fun _ _ _=>rfl⟩
 | v :: r,o,w=>by
  have h1:=Ar w g o v;have h2:=FC g r (o+1) (w.setCell ⟨g,o,none⟩ v);exact⟨h2.os.trans h1.os,h2.tape.trans h1.tape,h2.output.trans h1.output,pD h1.size h2.size,fun b c a=>(h2.block b (pS c h1.size) a).trans (h1.block b c a)⟩
section
variable {P:Program} {w:World}
theorem QO{s:Operand}(v:o.guard=none)
 (C:o.op = .call { callee := .builtin .append,args:=#[s,x],argTypes:=#[t,tx] })
 {e T:TypeId} {i:TypeInfo} {g n c m:Nat} {p:Value} {cs news:List Value}
 (E:P.underlying t=some (.slice e)) (hi:P.info? e=some i) (k:i.size=1) (D:f.eval s = .slice (some ⟨g,0,none⟩) n c) (F:f.eval x=p) (b:Go.Src P 1 tx p m news w) (q:Arr w g T cs)
 (d:n+m<=c) (z:n+m<=cs.length)
 (A:∀ y,Arr y g T (cs.take n ++ news ++ cs.drop (n+m))->w.grownBy y (some g)->wpList P ops Q rest (f.put o.dst (.slice (some ⟨g,0,none⟩) (n+m) c)) y):wpList P ops Q (o :: rest) f w:=by
 refine qT v fun K r => ?_;have B:news.length=m:=by have:=b.newsLen;simpa using this
 have l:Go.Src P i.size tx p m news w:=by rw[k];exact b
 have a:=run_append_room_src (P:=P) (w:=w) t tx o.type e i E hi g 0 n c p m news l d
  (fun j G=>by
   rw[k,qA,sH,q.cell (i:=n+j) (by omega)];rfl)
  (fun j _=>q.frozen _)
 rw[k,qA,sH]at a;have h1:=Arr.setCells news n w cs q (by omega);rw[B]at h1;unfold Oper.wp execOp;simp only[C,resolve,invoke,builtin,q8,qz,pK,sM,qP,sS,D,F,a];exact r _ _ (A _ h1 (FC g news n w))
end
theorem Sc(hu:u<100):Calls prog 269 #[.int .i64 u] w fun e a=>e = .returned (.string ⟨(Lib.decDigits u).toArray⟩)/\a=w :=
 Any.internal_strconv_small { Rz with } u hu w
theorem Li(a:AM w)(h1:1<=u)(hu:u<18446744073709551616):Calls prog 270 #[.int .u64 u] w fun e b=>e = .returned (.int .i64 (Lib.nDigits u:Nat))/\b=w :=
 Any.internal_strconv_numDigits { Rz with } u h1 hu w a.ten
theorem PI(hu:u<18446744073709551616)(i:Lib.nDigits u<=24) :
 Calls prog 271 #[.slice (some ⟨w0.heap.size,0,none⟩) (Lib.nDigits u) 24,.int .u64 u] (w0.alloc (.cells Lib.zeros24 T)) fun e a =>
  e = .returned (.tuple #[])/\Ext w0 a/\∀ j,j<Lib.nDigits u->a.cell? ⟨w0.heap.size,j,none⟩=some (((Lib.decDigits u).map A2).getD j undef):=by
 have c:=Lib.holds_zero0 w0 T (Lib.nDigits u) i;have h:=Any.internal_strconv_formatBase10 { Rz with } w0.heap.size 0 24 u (Array.replicate (Lib.nDigits u) 0) _ c (by rw[wn];exact Lib.lt_pow_nDigits u) hu (by rw[wn];omega);rw[wn]at h;refine h.mono ?_;rintro e a ⟨rfl,k,m,dk,rfl,hF⟩;refine⟨rfl,?_,fun j d => ?_⟩
 · obtain⟨l,g⟩:=Lib.fin_at w0 (.cells Lib.zeros24 T) dk k 0;rw[g];exact Lib.below_grow w0.heap.size w0 (lrf _) k l
 · have f:j<(Lib.decDigits u).length:=by rw[Lib.decDigits_length];exact d
   have h1:=Go.Sort.cell?_putRow (fun(b:UInt8)=>Value.int .u8 (b.toNat:Int)) (w0.alloc (.cells Lib.zeros24 T)) w0.heap.size 0 (Array.replicate (Lib.nDigits u) 0) dk c (by rw[hF.size,wn]) j (by rw[hF.size];exact d);rw[World.cell?_drewN];rw[qA]at h1;rw[h1,<-Lib.row_is_numeral hF j f];simp[f,A2]
def Wy(w:World)(g c:Nat)(T:TypeId)(l:List UInt8)(e:Ending)(w':World):Prop:=e = .returned (.slice (some ⟨g,0,none⟩) l.length c)/\(∃ w1,Ext w w1/\w1.grownBy w' (some g))/\∃ cs',Arr w' g T cs'/\cs'.length=c/\cs'.take l.length=l.map A2
def WT(w:World)(g:Nat)(T:TypeId)(u:Nat)(e:Ending)(w':World):Prop:=Wy w g 20 T (Lib.decDigits u) e w'
theorem WU(hu:u<18446744073709551616):(Lib.decDigits u).length<=20:=W.dec_len (k:=20) (vP hu (by decide)) (by omega)
theorem Tr(b:news.length=m)(a:cs.length=c)(h:n+m<=c):(cs.take n ++ news ++ cs.drop (n+m)).length=c:=by
 simp only[pZ,qg,tf];omega
theorem QP(a:cs.take n=l.map A2):(cs.take n ++ r.map A2 ++ cs.drop (n+m)).take (l ++ r).length=(l ++ r).map A2:=by
 have h:((l ++ r).map A2).length=(l ++ r).length:=by simp
 rw[a,<-qw,<-h,List.take_left]
theorem Sd{g:Nat}(V:AM w)(K:Arr w g T cs)(F:cs.length=c)(G:l.length=n)(X:n+20<=c)(N:cs.take n=l.map A2)(hu:u<18446744073709551616) :
 Calls prog 302 #[.slice (some ⟨g,0,none⟩) n c,.int .u64 u,.int .i64 10] w (Wy w g c T (l ++ Lib.decDigits u)):=by
 have h20:=WU hu;have m:=qh (And.intro F G);have p:=qh N;have b:((Lib.decDigits u).map A2).length=(Lib.decDigits u).length:=by simp
 have d:∀ L,(Lib.decDigits u).length=L->(l ++ Lib.decDigits u).length=n+L:=fun L h=>by rw[pZ,G,h]
 obtain⟨Y,x,t⟩:∃ i,prog.info? 5=some i/\i.size=1:=by
  have h:=Ei;unfold Ca at h;cases O:prog.info? 5 with
  | none=>rw[O]at h;cases h
  | some i=>rw[O]at h;simp at h;exact⟨i,rfl,h.2.1⟩
 clear N G;by_cases J:u<100
 · have z:=qh (Sc (w:=w) J);have k:Go.Src prog 1 9 (.string ⟨(Lib.decDigits u).toArray⟩) (Lib.decDigits u).length ((Lib.decDigits u).map A2) w:=by
    have h:=Go.Src.ofString (P:=prog) w (tx:=9) underlying9 ⟨(Lib.decDigits u).toArray⟩;have e:(⟨(Lib.decDigits u).toArray⟩:ByteArray).size=(Lib.decDigits u).length:=by simp[ByteArray.size]
    rw[e]at h;exact h
   have H:(u:Int)<100:=by omega
   clear F
   go_enter func302,ntmps302
   go_wp2_with fail
   refine z.out.mono ?_;rintro e R ⟨rfl,rfl⟩
   go_wp2_with(refine QO rfl rfl underlying228 x t rfl rfl k K (by omega) (by rw[m.out.1];omega) ?_;intro B hA2 C)
   go_ret;exact⟨by rw[d _ rfl];rfl,⟨R,Ext.refl _,C⟩,_,hA2,Tr b m.out.1 (by omega),QP p.out⟩
 · have y:Lib.nDigits u=(Lib.decDigits u).length:=(Lib.decDigits_length u).symm;have f:=qh (PI (w0:=w) (T:=294) hu (by omega));have a:=qh (Li (u:=u) (V.ext ((Ext.refl w).alloc (.cells Lib.zeros24 294))) (by omega) hu);rw[y]at f a
   have Q:Lib.zeros24=#[Value.int .u8 0,Value.int .u8 0,Value.int .u8 0,Value.int .u8 0,Value.int .u8 0,Value.int .u8 0,Value.int .u8 0,Value.int .u8 0,Value.int .u8 0,Value.int .u8 0,Value.int .u8 0,Value.int .u8 0,Value.int .u8 0,Value.int .u8 0,Value.int .u8 0,Value.int .u8 0,Value.int .u8 0,Value.int .u8 0,Value.int .u8 0,Value.int .u8 0,Value.int .u8 0,Value.int .u8 0,Value.int .u8 0,Value.int .u8 0]:=rfl;rw[Q]at f a;have H:¬ (u:Int)<100:=by omega
   have r:prog.arrayLen 294=24:=by kernel_rfl
   have I:∀ W,(Instr.sliceAt 294 (.pointer (some ⟨w.heap.size,0,none⟩)) none (some (.int .i64 ((Lib.decDigits u).length:Int))) none).run prog W = .ok (.slice (some ⟨w.heap.size,0,none⟩) (Lib.decDigits u).length 24) W:=fun W=>by
    rw[run_sliceAt_array_h W 294 ⟨w.heap.size,0,none⟩ (by simp[Program.arrayLen,Program.elem,underlying294]) .i64 ((Lib.decDigits u).length:Int) (by omega) (by rw[r];omega)];go_simp
   obtain⟨L,A⟩:∃ L,(Lib.decDigits u).length=L:=⟨_,rfl⟩;rw[A]at h20 f a b I;have o:=qh (d _ A);clear d;have S:=qh A;clear F Q y A r
   go_enter func302,ntmps302
   go_wp2_with fail
   refine a.out.mono ?_;rintro e R ⟨rfl,rfl⟩
   go_wp2_with fail
   refine f.out.mono ?_;rintro e B ⟨rfl,q,s⟩;have hA2:=K.ext q;have k:Go.Src prog 1 228 (.slice (some ⟨w.heap.size,0,none⟩) L 24) L ((Lib.decDigits u).map A2) B:=by
    refine Go.Src.ofSlice (P:=prog) B underlying228 _ _ _ _ (by rw[b,sH]) (fun j v M => ?_) (LN _);have E:j<L:=by have:=(qD.1 M).1;omega
    have h3:=s j E;rw[gqq,M]at h3;have U:Addr.add ⟨w.heap.size,0,none⟩ j=⟨w.heap.size,j,none⟩:=by unfold Addr.add;split <;> simp_all
    rw[U,h3];rfl
   clear s f a
   go_wp2_with(refine QO rfl rfl underlying228 x t rfl rfl k hA2 (by omega) (by rw[m.out.1];omega) ?_;intro Z hA3 D)
   go_ret;exact⟨by rw[o.out];rfl,⟨B,q,D⟩,_,hA3,Tr b m.out.1 (by omega),QP p.out⟩
end Go.Proofs.YtlbmnokpiilfpaaGreatDoor
namespace Go.Proofs.YtlbmnokpiilfpaaGreatDoor.W
open Go
variable {b k w x:Nat}
def padD(w x:Nat):List UInt8:=if x=0 then List.replicate w 48 else List.replicate (w-(Lib.decDigits x).length) 48 ++ Lib.decDigits x
theorem padD_zero(w:Nat):padD w 0=List.replicate w 48:=by unfold padD;rw[pP rfl]
theorem padD_pos(h:0<x):padD w x=List.replicate (w-(Lib.decDigits x).length) 48 ++ Lib.decDigits x:=by unfold padD;rw[pC (by omega)]
theorem padD_nat(h:0<x):padD 0 x=Lib.decDigits x:=by rw[padD_pos h,Nat.zero_sub];rfl
theorem padD_dec(a:0<k):padD k b=EZ k b:=by
 unfold EZ;rcases pT b with rfl|h
 · rw[padD_zero,dec_zero];obtain⟨j,rfl⟩:∃ j,k=j+1:=⟨k-1,by omega⟩;rw[tY];rfl
 · rw[padD_pos h]
theorem padD_split{a:Nat}(c:0<a)(f:b<10^k)(d:0<k):padD w (a*10^k+b)=padD (w-k) a ++ padD k b:=by
 have h0:0<a*10^k+b:=pS (tA c (tw (by omega))) (vr _ _);rw[padD_dec d,padD_pos h0,padD_pos c,R8 c f d,qi];have e:w-(Lib.decDigits a ++ EZ k b).length=w-k-(Lib.decDigits a).length:=by
  rw[pZ,JS f d];omega
 rw[e]
end Go.Proofs.YtlbmnokpiilfpaaGreatDoor.W
namespace Go.Proofs.YtlbmnokpiilfpaaGreatDoor
open Tryz Go Go.RowKit
variable {s s':Bool} {z:Int} {xs ys:List Nat} {l:List UInt8} {cs cs':List Value} {R R' base c c0 d g k m n n0 nc u wd:Nat} {o:Oper} {y:Operand} {a a' a0 b pa:Option Addr} {q:Rat} {T e ty ty':TypeId} {v v':Value} {w w' w1 w9 wb wr wx:World}
def ckS(T x n:Nat):List Nat:=(List.range n).map fun i=>x/T^i%T
theorem WV{T x i:Nat}(h:i<n):(ckS T x n).getD i 0=x/T^i%T:=by simp[ckS,h]
theorem Ts(T x n:Nat):ckS T x n ++ [x/T^n%T]=ckS T x (n+1):=by simp[ckS,List.range_succ]
theorem Tt{x:Nat}(c:x<18446744073709551616^m)(b:10000000000000000000^k<=x):k<=2*m:=by
 refine pQ fun a => ?_;have h1:18446744073709551616^m<=10000000000000000000^(2*m):=by
  rw[vM];exact tG (by decide) m
 have h2:10000000000000000000^(2*m)<=10000000000000000000^k:=pR (by omega) (by omega);omega
structure XY(w wr:World)(x:Nat)(ak:Option Addr)(nk ck:Nat)(ac:Option Addr)(nc cc:Nat)(ys:List Nat):Prop where
 ext:Ext w wr
 wk:Own wr w.heap.size 238 ak nk ck (ys.map (BL .u64))
 ch:Own wr w.heap.size 238 ac nc cc ((ckS 10000000000000000000 x nc).map (BL .u64))
 sep:∀ k,blk ac=some k->blk ak≠some k
 num:Num 18446744073709551616 ys (x/10000000000000000000^nc)
 top:nc=0\/10000000000000000000^(nc-1)<=x
def KpT(w wr:World)(a0 a:Option Addr):Prop:=w.heap.size<=wr.heap.size/\(blk a=blk a0\/∃ k,blk a=some k/\w.heap.size<=k)/\∀ k,k<w.heap.size->some k≠blk a0->wr.heap[k]?=w.heap[k]?
theorem KpT.of_ext(a:Option Addr)(h:Ext w wr):KpT w wr a a:=⟨h.size,Or.inl rfl,fun _ b _=>h.block b⟩
theorem KpT.ext(h:KpT w wr a0 a)(e:Ext wr wx):KpT w wx a0 a :=
 ⟨pD h.1 e.size,h.2.1,fun k c b=>(e.block (pS c h.1)).trans (h.2.2 k c b)⟩
theorem KpT.far(h:KpT w wr a0 a)(c:wr.grownBy wx (some g))(e:w.heap.size<=g):KpT w wx a0 a :=
 ⟨pD h.1 c.size,h.2.1,fun k d b=>(c.block k (pS d h.1) (fun he=>by cases he;omega)).trans (h.2.2 k d b)⟩
theorem KpT.grown(h:KpT w wr a0 a)(d:wr.grownBy wx (blk a))(b:blk a'=blk a\/blk a'=some wr.heap.size):KpT w wx a0 a':=by
 refine⟨pD h.1 d.size,?_,fun k e c=>(d.block k (pS e h.1) (fun he => ?_)).trans (h.2.2 k e c)⟩
 · rcases b with b|b
   · rw[b];exact h.2.1
   · exact Or.inr ⟨_,b,h.1⟩
 · rcases h.2.1 with h1|⟨j,h1,h2⟩
   · exact c (he.trans h1)
   · rw[h1]at he;cases he;omega
theorem KpT.trans{w g i:World}{c d e:Option Addr}(h:KpT w g c d)(b:KpT g i d e):KpT w i c e:=by
 refine⟨pD h.1 b.1,?_,fun k f a=>(b.2.2 k (pS f h.1) (fun he => ?_)).trans (h.2.2 k f a)⟩
 · rcases b.2.1 with h1|⟨j,h1,h2⟩
   · rw[h1];exact h.2.1
   · exact Or.inr ⟨j,h1,pD h.1 h2⟩
 · rcases h.2.1 with h1|⟨j,h1,h2⟩
   · exact a (he.trans h1)
   · rw[h1]at he;cases he;omega
def Tu(wb w:World)(a0:Option Addr)(l:List UInt8)(e:Ending)(w':World):Prop:=∃ a n c,e = .returned (.slice a n c)/\Own w' wb.heap.size 5 a n c (l.map A2)/\Ext wb w'/\KpT w w' a0 a
theorem Tu.ap{e:Ending}(h:Tu wb w a0 l e w'):JV wb l e w':=by
 obtain⟨a,n,c,h1,h2,h3,_⟩:=h;exact⟨a,n,c,h1,h2,h3⟩
def cpT(x wd nc k:Nat):List UInt8:=if k=nc then []else W.padD (wd-19*k) (x/10000000000000000000^k)
theorem MJ(x wd a:Nat):cpT x wd a a=[]:=pP rfl
structure WW(wb w0 wr:World)(a0:Option Addr)(x wd nc G:Nat)(l:List UInt8)(ac:Option Addr)(cc n0 k:Nat)(a:Option Addr)(n c:Nat):Prop where
 ext:Ext wb wr
 tx:Own wr wb.heap.size 5 a n c ((l ++ cpT x wd nc k).map A2)
 ch:Own wr wb.heap.size 238 ac nc cc ((ckS 10000000000000000000 x nc).map (BL .u64))
 buf:∃ cs,Arr wr G 337 cs/\cs.length=20
 sep1:∀ k,blk ac=some k->blk a≠some k/\k≠G
 sep2:blk a≠some G
 gb:wb.heap.size<=G
 gw:w0.heap.size<=G
 kp:KpT w0 wr a0 a
 len:n<=n0+(if k=nc then 0 else wd)+20*(nc-k)
theorem Vp{x:Nat}(d:k+1<nc)(c:nc=0\/10000000000000000000^(nc-1)<=x)(hu:x/10000000000000000000^k%10000000000000000000=u) :
 cpT x wd nc (k+1) ++ List.replicate (19-(Lib.decDigits u).length) 48 ++ Lib.decDigits u=cpT x wd nc k:=by
 have a:u<10^19:=by rw[<-hu];exact qf _ (by decide)
 have b:0<x/10000000000000000000^(k+1):=by
  refine Nat.div_pos ?_ (tw (by omega));rcases c with h|h
  · omega
  · exact pD (pR (by omega) (by omega)) h
 have he:x/10000000000000000000^k=x/10000000000000000000^(k+1)*10^19+u:=by
  rw[qB,<-vA,<-hu];have:=qM (x/10000000000000000000^k) 10000000000000000000;rw[pM]at this;exact this.symm
 unfold cpT;have hp:W.padD 19 u=List.replicate (19-(Lib.decDigits u).length) 48 ++ Lib.decDigits u:=W.padD_dec (by omega);rw[pC (by omega),pC (by omega),he,W.padD_split b a (by omega),hp,qi];have e:wd-19*(k+1)=wd-19*k-19:=by omega
 rw[e]
theorem Tv{x:Nat}(b:x<10000000000000000000^(k+1))(a:k+1=0\/10000000000000000000^(k+1-1)<=x)(hu:x/10000000000000000000^k%10000000000000000000=u) :
 List.replicate (wd-19*k-(Lib.decDigits u).length) 48 ++ Lib.decDigits u=cpT x wd (k+1) k:=by
 have h1:x/10000000000000000000^k<10000000000000000000:=by
  rw[re (tw (by omega)),pM,<-qB];exact b
 have h2:0<x/10000000000000000000^k:=by
  refine Nat.div_pos ?_ (tw (by omega));rcases a with h|h
  · omega
  · exact h
 rw[rG h1]at hu;unfold cpT;rw[pC (by omega),hu,W.padD_pos (by omega)]
theorem WX{x:Nat}(h:nc≠0):cpT x wd nc 0=W.padD wd x:=by
 unfold cpT;rw[pC (by omega),tE,tW,tQ,vi]
structure Vq(wb w0 wr:World)(a0:Option Addr)(nc G gc cc u n0:Nat)(cs:List Nat)(t:List UInt8)(a:Option Addr)(n c:Nat):Prop where
 ext:Ext wb wr
 tx:Own wr wb.heap.size 5 a n c (t.map A2)
 ch:Az .u64 wr wb.heap.size 238 gc nc cc cs
 buf:∃ bs,Arr wr G 337 bs/\bs.length=20/\bs.take (Lib.decDigits u).length=(Lib.decDigits u).map A2
 sep1:blk a≠some gc
 sep2:blk a≠some G
 len:n<=n0
 kp:KpT w0 wr a0 a
theorem PJ(b:AM w)(a:Arr w g T cs)(c:cs.length=20)(hu:u<18446744073709551616) :
 Calls prog 283 #[.slice (some ⟨g,0,none⟩) 0 20,.int .u64 u,.int .i64 10] w (WT w g T u):=by
 have h:=qh (Sd (l:=[]) (n:=0) b a c rfl (by omega) rfl hu)
 go_enter func283,ntmps283
 go_wp2_with fail
 refine h.out.mono ?_;rintro e d ⟨rfl,h1,h2⟩;go_wp2;go_ret;exact⟨rfl,h1,h2⟩
theorem MK{v:Nat}(h:Own w base e a n c (ys.map (BL .u64)))(d:Num 18446744073709551616 ys v):n=0<->v=0:=by
 have b:ys.length=n:=by have:=h.len;simpa using this
 constructor
 · intro h0;subst h0;have:ys=[]:=pG b;subst this;exact d.val.symm
 · intro h0;have h1:=(W.nrm_zero (B:=18446744073709551616) (by omega) d.nrm).1 (by rw[d.val,h0]);rw[h1]at b;exact b.symm
theorem Ic{x:Nat}(hT:AM wb)(hE:Ext wb w)(hO:Own w wb.heap.size 5 a n c (l.map A2))(hx:SlN .u64 w b m d xs)(ag:Num 18446744073709551616 xs x)(hm:m<=1000)(hn:n<=1000000)(d5:wd<=1000000) :
 Calls prog 311 #[.slice a n c,.slice b m d,.int .i64 wd] w (Tu wb w a (l ++ W.padD wd x)):=by
 have bi:x<18446744073709551616^m:=by
  have:=W.val_lt ag.bnd;rw[ag.val,hx.len]at this;exact this
 have b8:=qh bi;have cx:=qh ag;have c8:=qh (CP hx (by omega));clear bi
 go_enter func311,ntmps311
 go_wp2_with fail
 refine c8.out.mono ?_;rintro e w1 ⟨ak,ck,rfl,bL,cl⟩;go_wp2
 go_loopw[7,8] (fun kv cv wr=>∃ (ak:Option Addr) (nk ck:Nat) (ac:Option Addr) (f X:Nat) (ys:List Nat),kv = .slice ak nk ck/\cv = .slice ac f X/\nk<=m/\XY w wr x ak nk ck ac f X ys) (fun _ cv _=>match cv with | .slice _ k _=>2*m+1-k | _=>0)
 case atStart=>exact⟨ak,m,ck,none,0,0,xs,rfl,rfl,lrf _,bL,cl,Own.nil _ _ _,(by intro k h;cases h),(by rw[tE,tW];exact ag),Or.inl rfl⟩
 case round =>
  obtain⟨ak,nk,ck,ac,f,X,ys,rfl,rfl,d2,T⟩:=hrel;have HY:Hid (ys.length=nk):=qh (by have:=T.wk.len;simpa using this);have HZ:=qh (MK T.wk T.num);by_cases h0:nk=0
  · subst h0;have ad:=HZ.out.1 rfl;have J:=T.ext;have ar:=T.ch;have ai:=qh T.top;have b6:Hid (x<10000000000000000000^f):=qh ((Nat.div_eq_zero_iff_lt (tw (by omega))).1 ad);have cR:f<=2*m+1:=by
     rcases ai.out with h|h
     · omega
     · have:=Tt b8.out h;omega
    clear T ad HZ HY;go_wp2;obtain⟨G,hG⟩:∃ G:Nat,G=wr.heap.size:=⟨_,rfl⟩;have bb:Ext wb (wr.alloc (.cells #[.int .u8 0,.int .u8 0,.int .u8 0,.int .u8 0,.int .u8 0,.int .u8 0,.int .u8 0,.int .u8 0,.int .u8 0,.int .u8 0,.int .u8 0,.int .u8 0,.int .u8 0,.int .u8 0,.int .u8 0,.int .u8 0,.int .u8 0,.int .u8 0,.int .u8 0,.int .u8 0] 337)):=(hE.trans J).alloc _
    have ba:WW wb w (wr.alloc (.cells #[.int .u8 0,.int .u8 0,.int .u8 0,.int .u8 0,.int .u8 0,.int .u8 0,.int .u8 0,.int .u8 0,.int .u8 0,.int .u8 0,.int .u8 0,.int .u8 0,.int .u8 0,.int .u8 0,.int .u8 0,.int .u8 0,.int .u8 0,.int .u8 0,.int .u8 0,.int .u8 0] 337)) a x wd f G l ac X n f a n c:=by
     have d3:=(hE.trans J).size;refine⟨bb,?_,(ar.mono hE.size).alloc _,⟨_,by rw[hG];exact Arr.new wr _ [_,_,_,_,_,_,_,_,_,_,_,_,_,_,_,_,_,_,_,_],rfl⟩,?_,?_,by omega,by have:=J.size;omega,KpT.of_ext a (J.alloc _),by rw[pP rfl];omega⟩
     · rw[MJ,rD];exact(hO.ext J).alloc _
     · intro k I;have h1:=ar.lt I;refine⟨fun he => ?_,by omega⟩;have h2:=hO.lt he;omega
     · intro he;have h2:=(hO.ext J).lt he;omega
    have t:=qh ba;clear ba bb ar;have HW:=qh J.size;rw[<-hG];clear hG J
    go_loopw[0,12,13] (fun tv fv iv s=>∃ (k:Nat) (M:Option Addr) (nt ct:Nat),tv = .slice M nt ct/\fv = .bool (decide (k=f))/\iv = .int .i64 ((k:Int)-1)/\k<=f/\Hid (WW wb w s a x wd f G l ac X n k M nt ct)) (fun _ _ v _=>(intOf v+1).toNat)
    case atStart=>exact⟨f,a,n,c,rfl,by simp,rfl,lrf _,t⟩
    case round =>
     clear t;obtain⟨k,M,nt,ct,rfl,rfl,rfl,I,t⟩:=hrel;cases k with
     | zero =>
      by_cases bg:f=0
      · subst bg;have cr:x=0:=by
         have:=b6.out;rw[tE]at this;omega
        have bK:=qh cr;go_wp2
        go_loopw[0,82] (fun tv jv s=>∃ (j:Nat) (a4:Option Addr) (S c4:Nat),tv = .slice a4 S c4/\jv = .int .i64 j/\j<=wd/\S<=n+j+wd/\Ext wb s/\KpT w s a a4/\Own s wb.heap.size 5 a4 S c4 ((l ++ List.replicate j 48).map A2)) (fun _ jv _=>wd-(intOf jv).toNat)
        case atStart=>exact⟨0,M,nt,ct,rfl,rfl,pE _,by have:=t.out.len;rw[pP rfl]at this;omega,t.out.ext,t.out.kp,by have:=t.out.tx;rw[MJ]at this;exact this⟩
        case round =>
         clear t;obtain⟨j,a4,S,c4,rfl,rfl,hj,d0,D,bd,N⟩:=hrel;by_cases cg:j<wd
         · have z:∀ k,blk a4=some k->wb.heap.size<=k:=fun k I=>(N.lt I).1;have hA:=N.alloc (.cells #[.int .u8 48] 5);have ap:=(AB wr wb.heap.size 5 #[.int .u8 48] 1 rfl D.size (by omega)).sl
           go_wp2_with(refine B5 rfl rfl underlying228 Ei rfl rfl hA rfl ap (by simp[Value.oneCell']) (by unfold maxLen;omega) (by omega) (by simp;have:=D.size;omega) ?_;intro a7 c7 w7 O o A)
           have bR:Ext wb w7:=(D.alloc _).grown o z;have c0:=(bd.ext ((Ext.refl _).alloc (.cells #[.int .u8 48] 5))).grown o A;have c1:Own w7 wb.heap.size 5 a7 (S+1) c7 ((l ++ List.replicate (j+1) 48).map A2):=by
            rw[tY,<-qi,qw];exact O
           go_roundw
           case rel=>exact⟨j+1,a7,S+1,c7,rfl,by go_num,by omega,by omega,bR,c0,c1⟩
           case measure=>simp[intOf];omega
         · have aq:j=wd:=by omega
           subst aq;go_wp2;go_ret;exact⟨a4,S,c4,rfl,by rw[bK.out,W.padD_zero];exact N,D,bd⟩
      · have Q:decide (0=f)=false:=by simp;omega
        have bv:=qh bg;rw[Q];go_wp2;go_ret;exact⟨M,nt,ct,rfl,by rw[<-WX bv.out];exact t.out.tx,t.out.ext,t.out.kp⟩
     | succ k =>
      have aA:((k+1:Nat):Int)-1=k:=by omega
      rw[aA];have p:=t.out;obtain⟨Y,rfl,cz,cA⟩:=p.ch.place (by omega);have a1:Az .u64 wr wb.heap.size 238 Y f X (ckS 10000000000000000000 x f):=p.ch;have g1:=a1.cell (i:=k) (by omega);rw[WV (by omega)]at g1;obtain⟨u,hu⟩:∃ u,x/10000000000000000000^k%10000000000000000000=u:=⟨_,rfl⟩;rw[hu]at g1;have d4:u<10000000000000000000:=by rw[<-hu];exact qf _ (by omega)
      obtain⟨bs,c6,c5⟩:=p.buf;have bl:=fun(s:World) (h:Ext wr s)=>qh (PJ ((hT.ext p.ext).ext h) (c6.ext h) c5 (u:=u) (by omega));have a3:=p.ext;have ab:=p.tx;have bn:=p.sep1;have H:=p.sep2;have ax:=p.gb;have aj:=qh p.gw;have a9:=p.kp;have aa:=p.len
      have a2:∀ W,(Instr.sliceAt 337 (.pointer (some ⟨G,0,none⟩)) none (some (.int .i64 0)) none).run prog W = .ok (.slice (some ⟨G,0,none⟩) 0 20) W:=fun W=>by
       have c2:prog.arrayLen 337=20:=by kernel_rfl
       have h:=run_sliceAt_array_h (P:=prog) W 337 ⟨G,0,none⟩ (by simp[Program.arrayLen,Program.elem,underlying337]) .i64 0 (by omega) (by rw[c2];omega);rw[h];go_simp
      clear p;have bt:=qh (W.dec_len (k:=19) (n:=u) (by omega) (by omega));have a0:=qh (bn Y rfl);have bp:=qh ax;have HU:=qh hu;obtain⟨fb,Q⟩:∃ fb,decide (k+1=f)=fb:=⟨_,rfl⟩;rw[Q];go_wp2
      refine B0
       [hdS (some ⟨G,0,none⟩) 0 20,hdS (some ⟨Y,0,none⟩) f X,hdI k,hdP Y (0+k),he (.int .u64 (u:Int))]
       trivial ⟨?o0,?o1,?o2,?o3,?o4,trivial⟩ ?fin
      case o1 | o2=>exact omv
      case o0 =>
       refine Aj rfl fun ρ s F b5 h => ?_;have e0:_=_:=h.1;have k0:s.cell? ⟨Y,0+k,none⟩=some (.int .u64 (u:Int)):=by rw[qA];exact F.cell g1
       have k1:=a2 s;have k2:=F.cell g1;go_simp
      case o3 =>
       refine Aj rfl fun ρ s F b5 h => ?_;have e0:_=_:=h.1;have e1:_=_:=h.2.1;have k0:s.cell? ⟨Y,0+k,none⟩=some (.int .u64 (u:Int)):=by rw[qA];exact F.cell g1
       have k1:=a2 s;have k2:=F.cell g1;go_simp
       try (first | (intros;omega) | exact pq _ (by omega))
      case o4 =>
       refine Aj rfl fun ρ s F b5 h => ?_;have e0:_=_:=h.1;have k0:s.cell? ⟨Y,0+k,none⟩=some (.int .u64 (u:Int)):=by rw[qA];exact F.cell g1
       have k1:=a2 s;have k2:=F.cell g1;go_simp
      case fin =>
       intro s F;change wpList _ _ _ _ _ _;simp only[Ci]
       go_wp2_with fail
       refine((bl s F).out).mono ?_;rintro e w2 ⟨rfl,⟨w3,C,E⟩,b9,z,U,a8⟩;obtain⟨L,hL⟩:∃ L,(Lib.decDigits u).length=L:=⟨_,rfl⟩;have HL:=qh hL;have cy:L<=19:=by have:=bt.out;rw[hL]at this;exact this
       rw[hL];clear hL;cases fb
       case' true =>
        have R:k+1=f:=by simpa using Q
        obtain⟨Z,hZ,bf⟩:∃ Z:Nat,max (L:Int) ((wd:Int)-19*(k:Int))-(L:Int)=Z/\Z=wd-19*k-L:=⟨wd-19*k-L,by rw[Int.max_def];split <;> omega,rfl⟩;obtain⟨BD,ao⟩:∃ BD,BD=n+20*(f-(k+1)):=⟨_,rfl⟩;have c3:BD+Z+L<=n+wd+20*(f-k):=by omega
        have al:Hid (Vq wb w w2 a f G Y X u (BD+0) (ckS 10000000000000000000 x f) ((l ++ cpT x wd f (k+1)) ++ List.replicate 0 48) M nt ct):=qh ⟨((a3.trans F).trans C).grown E (fun k I=>by cases I;exact ax),by rw[wF,rD];exact((ab.ext F).ext C).kept E (Or.inr H),((a1.ext F).ext C).kept E (fun h=>a0.out.2 (by cases h;rfl)),⟨b9,z,U,a8⟩,a0.out.1,H,by rw[pP R]at aa;omega,((a9.ext F).ext C).far E aj.out⟩
        have b1:Hid (l ++ cpT x wd f k=l ++ cpT x wd f (k+1) ++ List.replicate Z 48 ++ Lib.decDigits u):=qh (by
         have h1:l ++ cpT x wd f k=l ++ cpT x wd (k+1) k:=by rw[R]
         rw[h1,<-Tv (by rw[R];exact b6.out) (by rw[R];exact ai.out) HU.out,HL.out,<-bf,R,MJ]
         simp only[qi,qR])
        clear ao Q;clear C E z U a8 F a3 ab a1 g1 a2 H aa a9;clear bf;go_wp2
        try rw[hZ]
       case' false =>
        have R:¬ k+1=f:=by simpa using Q
        obtain⟨Z,hZ⟩:∃ Z:Nat,(19:Int)-(L:Int)=Z:=⟨19-L,by omega⟩;obtain⟨BD,ao⟩:∃ BD,BD=n+wd+20*(f-(k+1)):=⟨_,rfl⟩;have c3:BD+Z+L<=n+wd+20*(f-k):=by omega
        have al:Hid (Vq wb w w2 a f G Y X u (BD+0) (ckS 10000000000000000000 x f) ((l ++ cpT x wd f (k+1)) ++ List.replicate 0 48) M nt ct):=qh ⟨((a3.trans F).trans C).grown E (fun k I=>by cases I;exact ax),by rw[wF,rD];exact((ab.ext F).ext C).kept E (Or.inr H),((a1.ext F).ext C).kept E (fun h=>a0.out.2 (by cases h;rfl)),⟨b9,z,U,a8⟩,a0.out.1,H,by rw[pC R]at aa;omega,((a9.ext F).ext C).far E aj.out⟩
        have b1:Hid (l ++ cpT x wd f k=l ++ cpT x wd f (k+1) ++ List.replicate Z 48 ++ Lib.decDigits u):=qh (by
         rw[<-Vp (by omega) ai.out HU.out,HL.out,show 19-L=Z by omega]
         simp only[qi])
        clear ao Q;clear C E z U a8 F a3 ab a1 g1 a2 H aa a9;go_wp2
        try rw[hZ]
       all_goals
        go_loopw[0,71] (fun tv jv s=>∃ (j:Nat) (a4:Option Addr) (S c4:Nat),tv = .slice a4 S c4/\jv = .int .i64 j/\j<=Z/\Hid (Vq wb w s a f G Y X u (BD+j) (ckS 10000000000000000000 x f) ((l ++ cpT x wd f (k+1)) ++ List.replicate j 48) a4 S c4)) (fun _ jv _=>Z-(intOf jv).toNat)
        case atStart=>exact⟨0,M,nt,ct,rfl,rfl,pE _,al⟩
        case round =>
         clear al;obtain⟨j,a4,S,c4,rfl,rfl,hj,K⟩:=hrel;have N:=K.out.tx;have D:=K.out.ext;have z:∀ k,blk a4=some k->wb.heap.size<=k:=fun k I=>(N.lt I).1;have cP:=K.out.ch.lt;obtain⟨b4,a6,V,b3⟩:=K.out.buf;have ce:=a6.lt;have cQ:=K.out.len;by_cases cg:j<Z
         · have hA:=N.alloc (.cells #[.int .u8 48] 5);have ap:=(AB wr wb.heap.size 5 #[.int .u8 48] 1 rfl D.size (by omega)).sl
           go_wp2_with(refine B5 rfl rfl underlying228 Ei rfl rfl hA rfl ap (by simp[Value.oneCell']) (by unfold maxLen;omega) (by omega) (by simp;have:=D.size;omega) ?_;intro a7 c7 w7 O o A)
           have HN:Hid (Vq wb w w7 a f G Y X u (BD+(j+1)) (ckS 10000000000000000000 x f) ((l ++ cpT x wd f (k+1)) ++ List.replicate (j+1) 48) a7 (S+1) c7):=by
            refine⟨(D.alloc _).grown o z,?_,(Own.alloc K.out.ch _).kept o (Or.inr fun h=>K.out.sep1 h.symm),⟨b4,(a6.alloc _).kept o (fun h=>K.out.sep2 h.symm),V,b3⟩,?_,?_,by omega,(K.out.kp.ext ((Ext.refl _).alloc (.cells #[.int .u8 48] 5))).grown o A⟩
            · rw[tY,<-qi,qw];exact O
            · rcases A with h|h
              · rw[h];exact K.out.sep1
              · rw[h];simp;omega
            · rcases A with h|h
              · rw[h];exact K.out.sep2
              · rw[h];simp;omega
           go_roundw
           case rel=>exact⟨j+1,a7,S+1,c7,rfl,by go_num,by omega,HN.out⟩
           case measure=>simp[intOf];omega
         · have aq:j=Z:=by omega
           have co:Sl wr (some ⟨G,0,none⟩) L 20 ((Lib.decDigits u).map A2):=by
            have h:=a6.sl (k:=L) (by omega) (by rw[V];unfold maxLen;omega);rw[V,<-HL.out,b3,HL.out]at h;exact h
           go_wp2_with(refine B5 rfl rfl underlying228 Ei rfl rfl N rfl co (LN _) (by unfold maxLen;omega) (by omega) D.size ?_;intro a7 c7 w7 O o A)
           have HN:Hid (WW wb w w7 a x wd f G l (some ⟨Y,0,none⟩) X n k a7 (S+L) c7):=by
            refine⟨D.grown o z,?_,K.out.ch.kept o (fun h=>K.out.sep1 h.symm),⟨b4,a6.kept o (fun h=>K.out.sep2 h.symm),V⟩,?_,?_,bp.out,aj.out,K.out.kp.grown o A,by rw[pC (by omega)];omega⟩
            · have e:l ++ cpT x wd f k=l ++ cpT x wd f (k+1) ++ List.replicate j 48 ++ Lib.decDigits u:=by
               rw[aq];exact b1.out
              rw[e,qw];exact O
            · intro k I;cases I;refine⟨?_,a0.out.2⟩;rcases A with h|h
              · rw[h];exact K.out.sep1
              · rw[h];simp;omega
            · rcases A with h|h
              · rw[h];exact K.out.sep2
              · rw[h];simp;omega
           have cb:decide (k=f)=false:=by simp;omega
           go_roundw
           case rel=>exact⟨k,a7,S+L,c7,rfl,by rw[cb],rfl,by omega,HN.out⟩
           case measure=>simp[intOf]
  · have ad:0<x/10000000000000000000^f:=rN fun h=>h0 (HZ.out.2 h);have ay:10000000000000000000^f<=x:=by
     refine pQ fun hc => ?_;rw[rH (by omega)]at ad;omega
    have d1:=Tt b8.out ay;have bq:=qh ay;clear ay;obtain⟨g,rfl,cd,cT⟩:=T.wk.place (by omega);have bW:=T.ext;have c9:=T.ch;have cq:Az .u64 wr w.heap.size 238 g nk ck ys:=T.wk;have ah:=qh T.sep;have HN:=qh T.num;clear T;obtain⟨j,rfl⟩:∃ j,nk=j+1:=⟨nk-1,by omega⟩;clear h0;go_wp2;obtain⟨wo,cp⟩:∃ wo:World,wo=wr:=⟨_,rfl⟩;subst cp
    go_loopw[9,10] (fun rv iv s=>∃ (k r:Nat) (zs:List Nat),k<=j+1/\rv = .int .u64 r/\iv = .int .i64 ((k:Int)-1)/\r<10000000000000000000/\Ext w s/\Az .u64 s w.heap.size 238 g (j+1) ck zs/\Own s w.heap.size 238 ac f X ((ckS 10000000000000000000 x f).map (BL .u64))/\W.bnd 18446744073709551616 zs/\Hid (zs.take k=ys.take k)/\Hid (W.val 18446744073709551616 (ys.drop k)=W.val 18446744073709551616 (zs.drop k)*10000000000000000000+r)) (fun _ v _=>(intOf v+1).toNat)
    case atStart=>exact⟨j+1,0,ys,lrf _,rfl,by go_num,by omega,bW,cq,c9,HN.out.bnd,qh rfl,qh (by rw[qm (by rw[HY.out];exact lrf _)];simp[W.val])⟩
    case round =>
     obtain⟨k,r,zs,I,rfl,rfl,hr,a5,hz,av,bz,b7,HE⟩:=hrel;cases k with
     | zero =>
      have b2:Hid (x/10000000000000000000^f/10000000000000000000=W.val 18446744073709551616 zs/\x/10000000000000000000^f%10000000000000000000=r):=by
       show _/\_;have h1:=HE.out;rw[qN,qN,HN.out.val]at h1;rw[h1,pM];exact⟨by rw[tH (by omega),rH hr,qy],by rw[v8,rG hr]⟩
      go_wp2_with fail
      refine(Bq hz.sl).mono ?_;rintro e w4 ⟨q,rfl,rfl,hq,ht⟩;have hA:=av.alloc (.cells #[.int .u64 r] 238);have hL:=(AB wr w.heap.size 238 #[.int .u64 r] 1 rfl a5.size (by omega)).sl;have z:∀ k,blk ac=some k->w.heap.size<=k:=fun k I=>(av.lt I).1;have ce:=hz.lt
      go_wp2_with(refine B5 rfl rfl underlying81 AK rfl rfl hA rfl hL (by simp[Value.oneCell']) (by unfold maxLen;omega) (by omega) (by simp;have:=a5.size;omega) ?_;intro a7 c7 w7 O o A)
      have bj:Hid (XY w w7 x (some ⟨g,0,none⟩) q ck a7 (f+1) c7 (W.trim zs)):=by
       refine⟨(a5.alloc _).grown o z,?_,?_,?_,?_,Or.inr ?_⟩
       · rw[ht];exact((Az.upto hz hq).alloc _).kept o (Or.inr fun h=>ah.out g h.symm rfl)
       · rw[<-Ts,qw,b2.out.2];exact O
       · intro k I he;cases he;rcases A with h|h
         · exact ah.out g (by rw[<-h];exact I) rfl
         · rw[I]at h;simp at h;omega
       · rw[qB,<-vA,b2.out.1];exact Num.trim bz rfl
       · exact bq.out
      go_roundw
      case rel=>exact⟨_,q,ck,a7,f+1,c7,_,rfl,rfl,by omega,bj.out⟩
      case measure=>simp;omega
     | succ k =>
      have g1:=hz.cell (i:=k) (by omega);have aA:((k+1:Nat):Int)-1=k:=by omega
      rw[aA];have cs:=W.bnd_at bz (i:=k) (by rw[hz.len];omega);have bG:=qh (fun q r'=>KT (B:=18446744073709551616) (xs:=ys) (zs:=zs) (k:=k) (q:=q) (r:=r) (r':=r') (d:=10000000000000000000) (by rw[HY.out];omega) (by rw[hz.len];omega) HE.out);have bo:Hid (zs.getD k 0=ys.getD k 0):=by
       show _=_;have h1:=q9 (fun l=>l.getD k 0) b7.out;have h2:∀ (l:List Nat),(l.take (k+1)).getD k 0=l.getD k 0:=fun l=>by simp
       simpa[h2]using h1
      have bk:Hid (∀ q,(zs.set k q).take k=ys.take k):=by
       show ∀ q,(zs.set k q).take k=ys.take k;intro q;rw[wE (lrf _)];have h1:=q9 (fun l=>l.take k) b7.out;simpa[x9,rA (Nat.le_succ k)]using h1
      generalize hu:zs.getD k 0=u at *
      have ca:=fun s:World=>Fk (w:=s) (hi:=r) (lo:=u) (y:=10000000000000000000) (by omega) cs hr
      go_wp2_with fail
      refine(ca _).mono ?_;rintro e w2 ⟨q,r',rfl,hq,cn,he,hQ⟩;have b0:=hz.ext hQ.ext;have g3:=b0.frozen k;have g4:=b0.cell (i:=k) (by omega);have bx:=qh (bG.out q r' (by rw[<-bo.out];exact he));have bN:=a5.trans hQ.ext;have bm:=av.ext hQ.ext;clear he;go_wp2;go_roundw
      case rel=>exact⟨k,r',zs.set k q,by omega,rfl,by go_num,cn,bN.setCell cd _,b0.set k q,bm.kept (Ar _ _ _ _) (Or.inr fun h=>ah.out g h rfl),W.bnd_set bz hq,qh (bk.out q),bx⟩
      case measure=>simp[intOf]
theorem GM{pn pc x:Nat}(p:AM wb)(k:Ext wb w)(o:Own w wb.heap.size 5 a n c (l.map A2))(q:SlN .u64 w b m d xs)(g:Num 18446744073709551616 xs x)(s:m<=30)(t:n<=100000)(hp:pn<100) :
 Calls prog 284 #[.slice a n c,.slice b m d,.int .i64 0,.slice pa pn pc] w (JV wb (l ++ W.padD 0 x)):=by
 have f:=qh (Ic p k o q g (by omega) (by omega) (wd:=0) (by omega));rcases pT pn with rfl|h0
 all_goals
  go_enter func284,ntmps284
  go_wp2_with fail
  refine f.out.mono ?_;rintro e v ⟨i,r,j,rfl,h1,h2,h3⟩;go_wp2;go_ret;exact⟨i,r,j,rfl,h1,h2⟩
theorem Fv{x:Nat}(y:AM wb)(o:Ext wb w)(v:Own w wb.heap.size 5 a n c (l.map A2))(i:Wd w b m d x)(E:x<P2 1920)(z:n<=100000) :
 Calls prog 234 #[.slice a n c,.slice b m d] w (JV wb (l ++ Lib.decDigits x)):=by
 by_cases h1:x<18446744073709551616
 · exact Ib (y.ext o) o v i h1 z
 · have f:m<=30:=i.len (k:=30) E;have G:2<=m:=by
    refine md fun h=>h1 ?_;obtain⟨M,D,t⟩:=i;have:=W.val_lt t.bnd;rw[t.val,D.len]at this;refine pS this ?_;rw[show(18446744073709551616:Nat)=18446744073709551616^1 by decide];exact pR (by omega) h
   have A:Hid (W.padD 0 x=Lib.decDigits x):=qh (W.padD_nat (by omega));obtain⟨M,s,g⟩:=i;have r:=fun(L:World) (j:Ext w L)=>qh (GM (pn:=1) (pc:=1) (pa:=some ⟨w.heap.size+1,0,none⟩) y (o.trans j) (v.ext j) (s.ext j) g f z (by omega));clear h1 g;have I:(0:Int)<(m:Int):=by omega
   go_enter func234,ntmps234
   go_wp2;have p:=((Ext.refl w).alloc (.cells #[.int .u64 10000000000000000000] 238)).alloc (.cells #[.slice (some ⟨w.heap.size,0,none⟩) 1 1] 81)
   go_loop[5] (fun K=>K = .slice (some ⟨w.heap.size+1,0,none⟩) 1 1) (fun _=>0)
   case atStart=>exact rfl
   case round =>
    obtain rfl:=hrel;have H:(m:Int)<=30:=by omega
    have F:decide ((30:Int)<(m:Int))=false:=pN (by omega)
    go_wp2_with fail
    refine(r _ p).out.mono ?_;rintro e N ⟨B,J,C,rfl,h9,q⟩;go_wp2;go_ret;exact⟨B,J,C,rfl,by rw[<-A.out];exact h9,q⟩
theorem Gu(L:AM wb)(K:Ext wb w)(A:Own w wb.heap.size 5 a0 n0 c0 (l.map A2))(h:AF wb v z)(M:z.natAbs<P2 1920)(Y:n0<=10000) :
 Calls prog 195 #[v,.slice a0 n0 c0] w (JV wb (l ++ Lib.itoa z)):=by
 obtain⟨s,a,n,c,rfl,J,N⟩:=h;cases s with
 | true =>
  have r:Hid (l ++ Lib.itoa z=(l ++ [45]) ++ Lib.decDigits z.natAbs):=by
   show _=_;have F:z<0:=by simpa using J.out
   unfold Lib.itoa;rw[pP F,qi];rfl
  go_enter func195,ntmps195
  go_upto_region 1 with(fail)
  refine AP ?_;intro O f b m;have H:=b.c 0 rfl;have I:=b.c 1 rfl;have d:=K.trans f;have p:=A.ext f;have S:=p.alloc (.cells #[.int .u8 45] 5);have T:=(AB O wb.heap.size 5 #[.int .u8 45] 1 rfl d.size (by omega)).sl;have D:∀ k,blk a0=some k->wb.heap.size<=k:=fun k V=>(p.lt V).1;have X:=b.lt;clear m
  go_upto_region 3 with(refine B5 rfl rfl underlying228 Ei rfl rfl S rfl T (by simp[Value.oneCell']) (by unfold maxLen;omega) (by omega) (by simp;have:=d.size;omega) ?_;intro Q R P B q U)
  have o:Ext wb P:=(d.alloc _).grown q D;have C:Own P wb.heap.size 5 Q (n0+1) R ((l ++ [45]).map A2):=by rw[qw];exact B
  have E:blk a0≠some w.heap.size:=by
   intro he;have:=(A.lt he).2;omega
  have y:=(b.alloc (.cells #[.int .u8 45] 5)).kept q (fun he=>E he.symm);have Z:=y.c 1 rfl;have j:=qh (Fv L o C (N.ext o) M (by omega))
  go_wp2_with fail
  refine j.out.mono ?_;rintro e W ⟨t,G,x,rfl,i,g⟩;go_wp2;go_ret;exact⟨t,G,x,rfl,by rw[r.out];exact i,g⟩
 | false =>
  have r:Hid (l ++ Lib.itoa z=l ++ Lib.decDigits z.natAbs):=by
   show _=_;have F:¬ z<0:=by simpa using J.out
   unfold Lib.itoa;rw[pC F];congr 2;omega
  go_enter func195,ntmps195
  go_upto_region 1 with(fail)
  refine AP ?_;intro O f b m;have H:=b.c 0 rfl;have I:=b.c 1 rfl;have d:=K.trans f;have j:=qh (Fv L d (A.ext f) (N.ext d) M (by omega));clear m
  go_wp2_with fail
  refine j.out.mono ?_;rintro e W ⟨t,G,x,rfl,i,g⟩;go_wp2;go_ret;exact⟨t,G,x,rfl,by rw[r.out];exact i,g⟩
theorem PK(o:AM w)(h:AF w v z)(p:z.natAbs<P2 1920):Calls prog 194 #[v] w fun e t=>e = .returned (.string ⟨(Lib.itoa z).toArray⟩)/\Ext w t:=by
 have i:=fun(k:World) (m:Ext w k)=>qh (Gu (l:=[]) (o.ext m) (Ext.refl k) (Own.nil k _ _) (h.ext m) p (pE _));obtain⟨s,a,n,c,rfl,x,B⟩:=h
 go_enter func194,ntmps194
 go_upto_region 1 with(fail)
 refine AP ?_;intro D d b j;have q:=b.c 0 rfl;have r:=b.c 1 rfl;clear j
 go_wp2_with fail
 refine(i _ d).out.mono ?_;rintro e E ⟨y,C,A,rfl,g,f⟩
 go_wp2_with(refine EY rfl rfl underlying228 underlying5 underlying9 rfl g.sl ?_)
 go_ret;exact⟨rfl,d.trans f⟩
theorem WY(b:Nat):P2 b<=10^(b/3+1):=by
 have e:P2 b=8^(b/3)*2^(b%3):=by
  unfold P2
  conv=>lhs;rw[<-qM b 3,sG,vM]
 have h1:8^(b/3)<=10^(b/3):=tG (by omega) _;have h2:2^(b%3)<=2^2:=pR (by omega) (by omega);rw[e,qB];exact qK h1 (by omega)
theorem ML{b:Nat}(h:n<P2 b):(Lib.decDigits n).length<=b/3+1:=W.dec_len (pS h (WY b)) (by omega)
theorem QR{b:Nat}(h:z.natAbs<P2 b):(Lib.itoa z).length<=b/3+2:=by
 have h1:=ML h;unfold Lib.itoa;split
 · simp;omega
 · have e:z.toNat=z.natAbs:=by omega
   rw[e];omega
/-! Ratios. -/
theorem Ak:Agg prog 85 4:=⟨by kernel_rfl,by kernel_rfl⟩
def Al(s:Bool)(a:Option Addr)(n c:Nat)(t:Bool)(b:Option Addr)(m d:Nat):List Value:=Ac s a n c ++ Ac t b m d
theorem Aq(s:Bool)(a:Option Addr)(n c:Nat)(t:Bool)(b:Option Addr)(m d:Nat):∀ v∈Al s a n c t b m d,v.oneCell'=true:=by
 intro v e;rcases qd.1 e with h|h
 · exact Ae _ _ _ _ v h
 · exact Ae _ _ _ _ v h
theorem AO(s:Bool)(a:Option Addr)(n c:Nat)(t:Bool)(b:Option Addr)(m d:Nat):∀ v∈Al s a n c t b m d,∀ i,v ≠ .int .u64 i:=by
 intro v e;rcases qd.1 e with h|h
 · exact Ax _ _ _ _ v h
 · exact Ax _ _ _ _ v h
def A9(q:Rat):Int:=if q.den=1 then 0 else(q.den:Int)
theorem N6(q:Rat):0<=A9 q:=by unfold A9;split <;> omega
theorem AG:A9 q=0<->q.den=1:=by
 have:=q.den_nz;unfold A9;split
 · simp[*]
 · constructor
   · intro h;omega
   · intro h;exact absurd h ‹_›
theorem Bi(h:q.den≠1):(A9 q).natAbs=q.den:=by unfold A9;rw[pC h];rfl
theorem DI(h:q.den≠1):A9 q=(q.den:Int):=by unfold A9;rw[pC h]
def CJ(w:World)(cs:List Value)(q:Rat):Prop:=∃ s a n c b m d,cs=Al s a n c false b m d/\Hid (decide (q.num<0)=s)/\Wd w a n c q.num.natAbs/\Wd w b m d (A9 q).natAbs
theorem CJ.ext{w f:World}{cs:List Value}{q:Rat}(h:CJ w cs q)(e:Ext w f):CJ f cs q:=by
 obtain⟨s,a,n,c,b,m,d,h1,h2,h3,h4⟩:=h;exact⟨s,a,n,c,b,m,d,h1,h2,h3.ext e,h4.ext e⟩
def BU(w:World)(v:Value)(q:Rat):Prop:=∃ cs,v = .agg cs.toArray/\CJ w cs q
theorem BU.ext{w a:World}{v:Value}{q:Rat}(h:BU w v q)(e:Ext w a):BU a v q:=by
 obtain⟨b,h1,h2⟩:=h;exact⟨b,h1,h2.ext e⟩
def GN(w:World)(q:Rat)(e:Ending)(w':World):Prop:=∃ cs,e = .returned (.agg cs.toArray)/\Ext w w'/\CJ w' cs q
theorem Vr:Hid (decide (A9 q<0)=false):=qh (pN (by have:=N6 q;omega))
theorem A8(b:Hid (decide (q.num<0)=s))(h:Wd w a n c q.num.natAbs):AF w (.agg (Ac s a n c).toArray) q.num:=⟨s,a,n,c,rfl,b,h⟩
theorem Bh(h:Wd w b m d (A9 q).natAbs):AF w (.agg (Ac false b m d).toArray) (A9 q):=⟨false,b,m,d,rfl,Vr,h⟩
def txt(q:Rat):List UInt8:=Lib.itoa q.num ++ (if q.den=1 then []else 47 :: Lib.decDigits q.den)
theorem PL(L:AM w)(h:BU w v q)(T:q.num.natAbs<P2 1920)(V:q.den<P2 1920):Calls prog 124 #[v] w fun e w'=>e = .returned (.string ⟨(txt q).toArray⟩)/\Ext w w':=by
 obtain⟨_,rfl,s,a,n,c,b,m,d,rfl,N,hx,hy⟩:=h;have B:=fun(A:World) (t:Ext w A)=>qh (AA (r:=decide (A9 q=0)) (Bh (hy.ext t)) rfl);have o:=fun(A:World) (t:Ext w A)=>qh (R6 (A8 N (hx.ext t)));by_cases h1:q.den=1
 · have z:decide (A9 q=0)=true:=by simpa using AG.2 h1
   have K:Hid (txt q=Lib.itoa q.num):=by show _=_;unfold txt;rw[pP h1,rD]
   rw[z]at B;clear z h1 V
   go_enter func124,ntmps124
   go_upto_region 1 with(fail)
   refine AP ?_;intro w0 x i F;have p0:=i.c 0 rfl;have p1:=i.c 1 rfl;have p2:=i.c 2 rfl;have p3:=i.c 3 rfl;clear F
   go_wp2_with fail
   refine(B _ x).out.mono ?_;rintro e G ⟨rfl,j⟩;have f:=x.trans j;have r0:=j.cell p0;have r1:=j.cell p1;by_cases p : -9223372036854775808<=q.num/\q.num<=9223372036854775807
   · have y:=Ji p;have X:=fun(A:World) (t:Ext w A)=>qh (N0 (L.ext t) p.1 p.2);rw[y]at o;clear y p
     go_wp2_with fail
     refine(o _ f).out.mono ?_;rintro e M ⟨rfl,g⟩
     go_wp2_with fail
     refine(X _ (f.trans g)).out.mono ?_;rintro e w3 ⟨rfl,D⟩;go_wp2;go_ret;exact⟨by rw[K.out];rfl,(f.trans g).trans D⟩
   · have y:=GL p;have Z:=fun(A:World) (t:Ext w A)=>qh (PK (L.ext t) (A8 N (hx.ext t)) T);rw[y]at o;clear y p
     go_wp2_with fail
     refine(o _ f).out.mono ?_;rintro e M ⟨rfl,g⟩;have t0:=g.cell r0;have t1:=g.cell r1
     go_wp2_with fail
     refine(Z _ (f.trans g)).out.mono ?_;rintro e w3 ⟨rfl,D⟩;go_wp2;go_ret;exact⟨by rw[K.out];rfl,(f.trans g).trans D⟩
 · have z:decide (A9 q=0)=false:=by simpa using mt AG.1 h1
   have K:Hid (txt q=Lib.itoa q.num ++ 47 :: Lib.itoa (A9 q)):=by
    show _=_;unfold txt;rw[pC h1,DI h1,Lib.itoa_nonneg]
   have W:(A9 q).natAbs<P2 1920:=by rw[Bi h1];exact V
   have a5:(Lib.itoa q.num).length<=700:=by have:=QR T;omega
   rw[z]at B;clear z h1 V o;have S:=fun(A:World) (t:Ext w A)=>qh (Gu (l:=[]) (L.ext t) (Ext.refl A) (Own.nil A _ _) (A8 N (hx.ext t)) T (pE _))
   go_enter func124,ntmps124
   go_upto_region 1 with(fail)
   refine AP ?_;intro w0 x i F;have p0:=i.c 0 rfl;have p1:=i.c 1 rfl;have p2:=i.c 2 rfl;have p3:=i.c 3 rfl;clear F
   go_wp2_with fail
   refine(B _ x).out.mono ?_;rintro e G ⟨rfl,j⟩;have f:=x.trans j;have r0:=j.cell p0;have r1:=j.cell p1
   go_wp2_with fail
   refine(S _ f).out.mono ?_;rintro e M ⟨a2,n2,c2,rfl,I,g⟩;have a0:=f.trans g;have a6:n2<=700:=by have:=I.len;simp at this;omega
   have C:Own M G.heap.size 5 a2 n2 c2 ((Lib.itoa q.num).map A2):=I;have hA:=C.alloc (.cells #[.int .u8 47] 5);have hL:=(AB M G.heap.size 5 #[.int .u8 47] 1 rfl g.size (by omega)).sl;have U:∀ k,blk a2=some k->G.heap.size<=k:=fun k hk=>(C.lt hk).1;have a4:=(i.ext j).lt
   go_upto_region 7 with(refine B5 rfl rfl underlying228 Ei rfl rfl hA rfl hL (by simp[Value.oneCell']) (by unfold maxLen;omega) (by omega) (by simp;have:=g.size;omega) ?_;intro a7 c7 w7 P Y a3)
   have E:Ext G w7:=(g.alloc _).grown Y U;have a1:=f.trans E;have Q:Own w7 G.heap.size 5 a7 (n2+1) c7 ((Lib.itoa q.num ++ [47]).map A2):=by rw[qw];exact P
   have J:=qh (Gu (L.ext f) E Q (Bh (hy.ext f)) W (by omega));have H:=(i.ext j).ext E;have q2:=H.c 2 rfl;have q3:=H.c 3 rfl
   go_wp2_with fail
   refine J.out.mono ?_;rintro e w8 ⟨a8,n8,c8,rfl,R,O⟩
   go_wp2_with(refine EY rfl rfl underlying228 underlying5 underlying9 rfl R.sl ?_)
   go_ret;exact⟨by rw[K.out];rfl,f.trans O⟩
theorem BG(k:Ext w w1)(g:Arr w1 R ty cs)(e:∀ v∈cs,∀ i,v ≠ .int .u64 i)(f:w1.grownBy w9 (some R))(l:w.heap.size<=R)(j:Hid (decide (q.num<0)=s))(o:Wd w1 a n c q.num.natAbs)(p:Wd w1 b m d (A9 q).natAbs):GN w q (.returned (.agg (Al s a n c false b m d).toArray)) w9 :=
 ⟨_,rfl,k.grownR f l,s,a,n,c,b,m,d,rfl,j,o.kept g e f,p.kept g e f⟩
theorem DU(h:BU w v q){r:Bool}(l:decide (q=0)=r):Calls prog 147 #[v] w fun e x=>e = .returned (.bool r)/\Ext w x:=by
 obtain⟨_,rfl,s,a,n,c,b,m,d,rfl,o,t,z⟩:=h;have k:=fun(y:World) (p:Ext w y)=>qh (AA (r:=r) (A8 o (t.ext p)) (by rw[<-l];exact rV.2 Pl.rat_num_den_zero));clear l
 go_enter func147,ntmps147
 go_upto_region 1 with(fail)
 refine AP ?_;intro E g f j;have A:=f.c 0 rfl;have B:=f.c 1 rfl;have C:=f.c 2 rfl;have D:=f.c 3 rfl;clear j
 go_wp2_with fail
 refine(k _ g).out.mono ?_;rintro e F ⟨rfl,i⟩;go_wp2;go_ret;exact⟨rfl,g.trans i⟩
theorem Jj(h:BU w v q):Calls prog 165 #[v] w (EP w (q.den:Int)):=by
 obtain⟨_,rfl,s,a,n,c,b,m,d,rfl,S,T,F⟩:=h;have E:=fun(R:World) (K:Ext w R)=>qh (AA (r:=decide (A9 q=0)) (Bh (F.ext K)) rfl);have A:Hid (decide ((q.den:Int)<0)=false):=qh (pN (by omega))
 go_enter func165,ntmps165
 go_upto_region 1 with(fail)
 refine Cf ?_;intro P p g B D;have U:=g.c 0 rfl;have V:=g.c 1 rfl;have N:=g.c 2 rfl;have O:=g.c 3 rfl;have L:Arr P (w.heap.size+1) 83 (Ac false none 0 0):=B;clear D
 go_wp2_with fail
 refine(E _ p).out.mono ?_;rintro e Y ⟨rfl,i⟩;have k:=p.trans i;have W:=i.cell N;have X:=i.cell O;have l:=L.ext i;by_cases h1:q.den=1
 · have f:decide (A9 q=0)=true:=by simpa using AG.2 h1
   rw[f];have G:=qh h1;clear f h1
   go_wp2_with fail
   refine(Nu (z:=1) (by omega) (by omega)).mono ?_;rintro e Z ⟨s1,I,M,J,rfl,t,y,C⟩;have x:=l.ext t
   go_wp2_with(refine Aa (vs:=Ac s1 I M J) rfl rfl rfl rfl rfl Ai x rfl (Ae _ _ _ _) ?_;intro Q j o)
   refine py (Ap rfl Ai rfl j) rfl ?_;rw[G.out];exact BA (k.trans t) x (Ax _ _ _ _) o (by omega) y C
 · have f:decide (A9 q=0)=false:=by simpa using mt AG.1 h1
   have H:=qh (Bi h1);rw[f];clear f h1
   go_wp2_with(refine Aa (vs:=Ac false b m d) rfl rfl rfl rfl rfl Ai l rfl (Ae _ _ _ _) ?_;intro Q j o)
   refine py (Ap rfl Ai rfl j) rfl (BA k l (Ax _ _ _ _) o (by omega) A ?_);have h2:=F.ext k;rw[H.out]at h2;exact h2
theorem DV(h:AF w v q.num)(H:AF w v' (q.den:Int)):Calls prog 166 #[v,v'] w (GN w q):=by
 have z:=fun(W:World) (N:Ext w W)=>qh (CY (r:=decide (q.den=1)) (H.ext N) (rV.2 (by omega)));obtain⟨s,a,n,c,rfl,G,I⟩:=h;obtain⟨t,b,m,d,rfl,M,J⟩:=H;have P:t=false:=by have:=M.out;rw[<-this];exact pN (by omega)
 subst P;have A:Wd w b m d q.den:=J;clear J
 go_enter func166,ntmps166
 go_upto_region 1 with(fail)
 refine CO ?_;intro U x o p y B;have C:=o.c 0 rfl;have D:=o.c 1 rfl;have E:=p.c 0 rfl;have F:=p.c 1 rfl;have O:Arr U (w.heap.size+2) 85 (Al false none 0 0 false none 0 0):=y;clear B
 go_wp2_with fail
 refine(z _ x).out.mono ?_;rintro e X ⟨rfl,f⟩;have g:=x.trans f;have Q:=f.cell C;have R:=f.cell D;have S:=f.cell E;have T:=f.cell F;have j:=O.ext f;by_cases h1:q.den=1
 · have i:decide (q.den=1)=true:=by simpa using h1
   have L:Hid (A9 q=0):=qh (AG.2 h1);rw[i];clear i h1
   go_wp2_with(refine Aa (vs:=Al s a n c false none 0 0) rfl rfl rfl rfl rfl Ak j rfl (Aq _ _ _ _ _ _ _ _) ?_;intro V k l)
   exact py (Ap rfl Ak rfl k) rfl (BG g j (AO _ _ _ _ _ _ _ _) l (by omega) G (I.ext g) (by rw[L.out];exact Wd.nil _))
 · have i:decide (q.den=1)=false:=by simpa using h1
   have K:=qh (Bi h1);rw[i];clear i h1
   go_wp2_with(refine Aa (vs:=Al s a n c false b m d) rfl rfl rfl rfl rfl Ak j rfl (Aq _ _ _ _ _ _ _ _) ?_;intro V k l)
   exact py (Ap rfl Ak rfl k) rfl (BG g j (AO _ _ _ _ _ _ _ _) l (by omega) G (I.ext g) (by rw[K.out];exact A.ext g))
theorem UL{g:World}{o c':Nat}{y:Int}(r:Ext w w1)(p:Arr w1 R ty cs)(f:∀ v∈cs,∀ i,v ≠ .int .u64 i)(k:w1.grownBy w9 (some R))(t:w.heap.size<=R)(e:Arr w9 R' ty' cs')(b:∀ v∈cs',∀ i,v ≠ .int .u64 i)(d:w9.grownBy g (some R'))(l:w.heap.size<=R')(q:Hid (decide (z<0)=s))(x:Wd w1 a n c z.natAbs)(j:Hid (decide (y<0)=s'))(m:Wd w1 a' o c' y.natAbs):UG w z y (.returned (.tuple #[.agg (Ac s a n c).toArray,.agg (Ac s' a' o c').toArray])) g :=
 ⟨s,a,n,c,s',a',o,c',rfl,(r.grownR k t).grownR d l,⟨q,(x.kept p f k).kept e b d⟩,⟨j,(m.kept p f k).kept e b d⟩⟩
theorem K4{x:Int}(hT:AM w)(h:AF w v x)(h':AF w v' (k:Int))(bx:x.natAbs<P2 9600)(bk:k<P2 9600)(hk:k≠0):Calls prog 164 #[v,v'] w (UG w (x.tdiv ((Nat.gcd x.natAbs k:Nat):Int)) ((k/Nat.gcd x.natAbs k:Nat):Int)):=by
 have al:=fun(j:World) (f:Ext w j)=>qh (CY (r:=decide (k=1)) (h'.ext f) (rV.2 (by omega)));have aj:=fun(j:World) (f:Ext w j)=>qh (Gf (hT.ext f) (h.ext f) (h'.ext f) bx bk);have ak:0<Nat.gcd x.natAbs k:=vd _ (by omega);have P:Nat.gcd x.natAbs k<P2 9600:=pJ (tR (by omega) (sR _ _)) bk;have ap:=fun(j:World) (f:Ext w j) (g:Value) (hg:AF j g ((Nat.gcd x.natAbs k:Nat):Int))=>qh (Ep (h.ext f) hg bx P (by omega))
 have a6:=fun(j:World) (f:Ext w j) (g:Value) (hg:AF j g ((Nat.gcd x.natAbs k:Nat):Int))=>qh (Ep (h'.ext f) hg bk P (by omega));have a7:((k:Int)).tdiv ((Nat.gcd x.natAbs k:Nat):Int)=((k/Nat.gcd x.natAbs k:Nat):Int):=by rw[qI (by omega)];push_cast;rfl
 rw[a7]at a6;clear bx bk P ak a7;obtain⟨s,a,n,c,rfl,HS,hx⟩:=h;obtain⟨t,b,m,d,rfl,HT,hy⟩:=h'
 go_enter func164,ntmps164
 go_upto_region 1 with(fail)
 refine V9 ?_;intro w0 X T U ac ad ax;have b4:=T.c 0 rfl;have b5:=T.c 1 rfl;have b6:=U.c 0 rfl;have b7:=U.c 1 rfl;have hR:Arr w0 (w.heap.size+2) 83 (Ac false none 0 0):=ac;have Z:Arr w0 (w.heap.size+3) 83 (Ac false none 0 0):=ad;clear ax
 go_wp2_with fail
 refine(al _ X).out.mono ?_;rintro e w1 ⟨rfl,l⟩;have O:=X.trans l;have b8:=l.cell b4;have b9:=l.cell b5;have ba:=l.cell b6;have bb:=l.cell b7;by_cases h1:k=1
 · have F:decide (k=1)=true:=by simpa using h1
   have HV:Hid (x.tdiv ((Nat.gcd x.natAbs k:Nat):Int)=x/\((k/Nat.gcd x.natAbs k:Nat):Int)=(k:Int)):=by
    refine qh ?_;subst h1;rw[sQ];exact⟨wI _,rfl⟩
   rw[F];clear F h1;go_wp2;have q:=hR.ext l;have z:=Z.ext l;have bj:=q.c 0 rfl;have bl:=q.c 1 rfl;have bm:=z.c 0 rfl;have bn:=z.c 1 rfl;have bs:=q.frozen 0;have bt:=q.frozen 1;have bv:=z.frozen 0;have bz:=z.frozen 1
   go_region
   go_wp2;have hA:=(((q.set 0 (.bool s)).set 1 (.slice a n c)).far (p:=⟨w.heap.size+3,0,none⟩) (by simp) (.bool t)).far (p:=⟨w.heap.size+3,1,none⟩) (by simp) (.slice b m d);have hB:=(((z.far (p:=⟨w.heap.size+2,0,none⟩) (by simp) (.bool s)).far (p:=⟨w.heap.size+2,1,none⟩) (by simp) (.slice a n c)).set 0 (.bool t)).set 1 (.slice b m d);have N:=((((O.setCell (p:=⟨w.heap.size+2,0,none⟩) (by simp) (.bool s)).setCell (p:=⟨w.heap.size+2,1,none⟩) (by simp) (.slice a n c)).setCell (p:=⟨w.heap.size+3,0,none⟩) (by simp) (.bool t)).setCell (p:=⟨w.heap.size+3,1,none⟩) (by simp) (.slice b m d)).drew
   refine py (Np (cs:=Ac s a n c) (cs':=Ac t b m d) (t:=83) (t':=83) rfl Ai Ai rfl rfl hA hB) rfl ?_;rw[HV.out.1,HV.out.2];exact⟨s,a,n,c,t,b,m,d,rfl,N,⟨HS,hx.ext N⟩,⟨HT,hy.ext N⟩⟩
 · have F:decide (k=1)=false:=by simpa using h1
   rw[F];clear F h1
   go_wp2_with fail
   refine(aj _ O).out.mono ?_;rintro e w2 ⟨J,G,I,H,rfl,y,ab,av⟩;have ao:(Ac J G I H).toArray=#[.bool J,.slice G I H]:=rfl;have Y:=O.trans y;have bd:=y.cell b8;have bf:=y.cell b9;have bg:=y.cell ba;have bi:=y.cell bb;have hY:=Arr.new w2 83 (Ac false none 0 0)
   go_upto_region 4 with(refine Aa (vs:=Ac J G I H) rfl rfl rfl rfl rfl Ai hY rfl (Ae _ _ _ _) ?_;intro w3 K ai)
   have o:Ext w2 w3:=((Ext.refl w2).alloc _).grownR ai (lrf _);have E:=Y.trans o;have u00:=o.cell bd;have u01:=o.cell bf;have u10:=o.cell bg;have u11:=o.cell bi;have g0:w3.cell? ⟨w2.heap.size,0,none⟩=some (.bool J):=K.cell (i:=0) (by simp[Ac]);have g1:w3.cell? ⟨w2.heap.size,1,none⟩=some (.slice G I H):=K.cell (i:=1) (by simp[Ac]);have a5:AF w3 (.agg (Ac J G I H).toArray) ((Nat.gcd x.natAbs k:Nat):Int):=⟨J,G,I,H,rfl,ab,av.ext o⟩;clear ao
   have S:=fun(j:World) (f:Ext w3 j)=>qh (And.intro (f.cell u00) (And.intro (f.cell u01) (And.intro (f.cell u10) (And.intro (f.cell u11) (And.intro (f.cell g0) (f.cell g1))))))
   refine B0
    [he (.agg #[.bool s,.slice a n c]),he (.agg #[.bool J,.slice G I H]),hp (fun v j=>∃ D A C B,v = .agg (Ac D A C B).toArray/\Hid (decide (x.tdiv ((Nat.gcd x.natAbs k:Nat):Int)<0)=D)/\Wd j A C B (Int.natAbs (x.tdiv ((Nat.gcd x.natAbs k:Nat):Int)))),he (.agg #[.bool t,.slice b m d]),he (.agg #[.bool J,.slice G I H]),hp (fun v j=>∃ D A C B,v = .agg (Ac D A C B).toArray/\Hid (decide (((k/Nat.gcd x.natAbs k:Nat):Int)<0)=D)/\Wd j A C B (Int.natAbs (((k/Nat.gcd x.natAbs k:Nat):Int))))]
    ⟨fun v w w' e ⟨D,A,C,B,h1,h2,h3⟩=>⟨D,A,C,B,h1,h2,h3.ext e⟩,fun v w w' e ⟨D,A,C,B,h1,h2,h3⟩=>⟨D,A,C,B,h1,h2,h3.ext e⟩,trivial⟩ ⟨?o0,?o1,?o2,?o3,?o4,?o5,trivial⟩ ?fin
   case o0 | o1 | o3 | o4=>exact ol2
   case o2 =>
    refine Ag rfl fun ρ j f a8 ah h => ?_;have e1:_=_:=h.2.1;have e2:_=_:=h.2.2.1;obtain⟨ay,aA,b0,b1,b2,b3⟩:=(S j f).out;refine⟨209,#[.agg #[.bool s,.slice a n c],.agg #[.bool J,.slice G I H]],by go_simp,((ap j (E.trans f) _ (a5.ext f)).out).mono ?_⟩;rintro e w' ⟨D,A,C,B,rfl,M,R,Q⟩;exact⟨_,rfl,M,D,A,C,B,rfl,R,Q⟩
   case o5 =>
    refine Ag rfl fun ρ j f a8 ah h => ?_;have e1:_=_:=h.2.1;have e2:_=_:=h.2.2.1;obtain⟨ay,aA,b0,b1,b2,b3⟩:=(S j f).out;refine⟨209,#[.agg #[.bool t,.slice b m d],.agg #[.bool J,.slice G I H]],by go_simp,((a6 j (E.trans f) _ (a5.ext f)).out).mono ?_⟩;rintro e w' ⟨D,A,C,B,rfl,M,R,Q⟩;exact⟨_,rfl,M,D,A,C,B,rfl,R,Q⟩
   case fin =>
    intro j f;rintro _ ⟨s1,a1,n1,c1,rfl,a9,aq⟩;rintro _ ⟨s2,a2,n2,c2,rfl,aa,ar⟩;change wpList _ _ _ _ _ _;simp only[Ci];have q:=((((hR.ext l).ext y).ext o).ext f);have z:=((((Z.ext l).ext y).ext o).ext f);have bo:(Ac s1 a1 n1 c1).toArray=#[.bool s1,.slice a1 n1 c1]:=rfl;have bp:(Ac s2 a2 n2 c2).toArray=#[.bool s2,.slice a2 n2 c2]:=rfl
    go_wp2_with(first
     | (refine Aa (vs:=Ac s1 a1 n1 c1) rfl rfl rfl rfl rfl Ai q rfl (Ae _ _ _ _) ?_;intro w9 ag a4;have a0:=z.kept a4 (by simp))
     | (refine Aa (vs:=Ac s2 a2 n2 c2) rfl rfl rfl rfl rfl Ai a0 rfl (Ae _ _ _ _) ?_;intro bq V L))
    have W:=ag.kept L (by simp);exact py (Np rfl Ai Ai rfl rfl W V) rfl (UL (E.trans f) q (Ax _ _ _ _) a4 (by omega) a0 (Ax _ _ _ _) L (by omega) a9 aq aa ar)
def StI(p:Value->World->Prop):Prop:=∀ v w w' g t cs cs',Arr w g t cs->(∀ x∈cs,∀ i,x ≠ .int .u64 i)->w.grownBy w' (some g)->Arr w' g t cs'->cs'.length=cs.length->(∀ x∈cs',∀ i,x ≠ .int .u64 i)->p v w->p v w'
def StX(p:Value->World->Prop):Prop:=∀ v w w',Ext w w'->p v w->p v w'
def NI(z:Int)(v:Value)(w:World):Prop:=∃ s a n c,v = .agg (Ac s a n c).toArray/\Hid (decide (z<0)=s)/\Wd w a n c z.natAbs
theorem NI.x(z:Int):StX (NI z):=fun _ _ _ e ⟨s,a,n,c,h1,h2,h3⟩=>⟨s,a,n,c,h1,h2,h3.ext e⟩
theorem NI.i(z:Int):StI (NI z):=fun _ _ _ _ _ _ _ b e d _ _ _ ⟨s,a,n,c,h1,h2,h3⟩=>⟨s,a,n,c,h1,h2,h3.kept b e d⟩
def NII(z y:Int)(v:Value)(w:World):Prop:=∃ s a n c s' a' n' c',v = .tuple #[.agg (Ac s a n c).toArray,.agg (Ac s' a' n' c').toArray]/\(Hid (decide (z<0)=s)/\Wd w a n c z.natAbs)/\(Hid (decide (y<0)=s')/\Wd w a' n' c' y.natAbs)
theorem NII.x(z y:Int):StX (NII z y):=fun _ _ _ e ⟨s,a,n,c,g,b,f,d,h1,⟨h2,h3⟩,⟨h4,h5⟩⟩=>⟨s,a,n,c,g,b,f,d,h1,⟨h2,h3.ext e⟩,⟨h4,h5.ext e⟩⟩
theorem NII.i(z y:Int):StI (NII z y):=fun _ _ _ _ _ _ _ b e d _ _ _ ⟨s,a,n,c,k,f,j,g,h1,⟨h2,h3⟩,⟨h4,h5⟩⟩=>⟨s,a,n,c,k,f,j,g,h1,⟨h2,h3.kept b e d⟩,⟨h4,h5.kept b e d⟩⟩
def NP(base:Nat)(v:Value)(w:World):Prop:=∃ g cs,v = .pointer (some ⟨g,0,none⟩)/\base<=g/\Arr w g 83 cs/\cs.length=2/\∀ x∈cs,∀ i,x ≠ .int .u64 i
theorem NP.x(b:Nat):StX (NP b):=fun _ _ _ e ⟨g,a,h1,h2,h3,h4,h5⟩=>⟨g,a,h1,h2,h3.ext e,h4,h5⟩
theorem NP.i(b:Nat):StI (NP b):=by
 intro v w p l t c d k o m a n f ⟨g,j,h1,h2,h3,h4,h5⟩;by_cases e:g=l
 · subst e;unfold Arr at k h3 a;rw[k]at h3;simp only[pz,rW,qO]at h3;obtain⟨h6,h7⟩:=h3;have h8:c=j:=by simpa using h6
   subst h8;subst h7;exact⟨g,d,h1,h2,a,by omega,f⟩
 · exact⟨g,j,h1,h2,h3.kept m (by simpa using e),h4,h5⟩
theorem NT.x:StX (fun _ _=>True):=fun _ _ _ _ _=>trivial
theorem NT.i:StI (fun _ _=>True):=fun _ _ _ _ _ _ _ _ _ _ _ _ _ _=>trivial
theorem CK(a:o.op = .alloc 83)(b:Operand->Value)(w:World):(execOp b o).run prog w = .ok (.value (.pointer (some ⟨w.heap.size,0,none⟩))) (w.alloc (.cells (Ac false none 0 0).toArray 83)):=by
 simp only[execOp,a];kernel_rfl
section
variable {ops:Array Oper} {hs:List Hd} {a0:Act} {C:World->Prop} {i:Nat} {o:Oper}
theorem CL(c:o.guard=none)(d:o.op = .alloc 83)(a:∀ w,C w->base<=w.heap.size):obl prog C ops hs a0 i o (hp (NP base)) :=
 AE c fun e w _ b _=>⟨_,_,CK d e w,(Ext.refl w).alloc _,w.heap.size,Ac false none 0 0,rfl,a w b,Arr.new w _ _,rfl,Ax _ _ _ _⟩
def MN:List Hd->Prop
 | []=>True
 | h :: r=>(match h.ty with | .eq _=>True | .pr p=>StI p)/\MN r
theorem JX:∀ {l:List Hd},MN l->∀ h∈l,(match h.ty with | .eq _=>True | .pr p=>StI p)
 | [],_,h,hm=>absurd hm (by simp)
 | x :: r,hl,h,hm=>by
  rcases qj.1 hm with rfl|hm
  · exact hl.1
  · exact JX hl.2 h hm
theorem WZ(s:MN hs){w b:World}{g:Nat}{t:TypeId}{cs cs':List Value}(k:Arr w g t cs)(l:∀ x∈cs,∀ i,x ≠ .int .u64 i)(m:w.grownBy b (some g))(d:Arr b g t cs')(q:cs'.length=cs.length)(e:∀ x∈cs',∀ i,x ≠ .int .u64 i):Gk ops hs i o w b (List.range hs.length):=by
 refine Ka fun j n v a => ?_;have f:j<hs.length:=by
  have:=(sK.1 n).1;simpa using this
 have r:AQ hs j∈hs:=by
  rw[AQ,gqq,oO f];simp
 have:=JX s _ r;revert this a;cases (AQ hs j).ty with
 | eq c=>exact fun a _=>a
 | pr p=>exact fun a hp=>hp v w b g t cs cs' k l m d q e a
theorem Gv{x:Operand}(t:o.guard=none)(l:o.op = .store 83 x y)(A:MN hs)(f:∀ w p g,C w->base<=g->w.grownBy p (some g)->C p)
 (h:∀ b w,DE b->C w->Cq ops hs a0 o b w [x,y]->(∃ v,b x=v/\NP base v w)/\(∃ v,b y=v/\NI z v w)):obl prog C ops hs a0 i o (hmp (fun _ _=>True)):=by
 unfold obl Cr;rw[t];intro b w hp k m;have j:Cq ops hs a0 o b w [x,y]:=by rw[l]at m;exact m
 obtain⟨⟨B,q,g,cs,rfl,h2,h3,h4,h5⟩,⟨D,r,s,a,n,c,rfl,_,_⟩⟩:=h b w hp k j;have e:(execOp b o).run prog w = .ok .skip (w.setRow g (Ac s a n c).toArray):=by
  have:=DG (P:=prog) (w:=w) (ty:=83) (g:=g) (cs:=cs) (vs:=Ac s a n c) Ai h3 (by rw[h4];rfl) (Ae _ _ _ _);simp only[execOp,l,q,r,q8,this,pK,qz]
 rw[e];have d:=BK w g (Ac s a n c).toArray;exact⟨f w _ g k h2 d,WZ A h3 h5 d (Cm h3 _) (by rw[h4];rfl) (Ax _ _ _ _),trivial⟩
end
end Go.Proofs.YtlbmnokpiilfpaaGreatDoor
