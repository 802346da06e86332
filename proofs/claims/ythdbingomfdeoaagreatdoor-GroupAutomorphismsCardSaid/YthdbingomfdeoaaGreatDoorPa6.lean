/- Part Pa6. -/
import Derived.Test.YthdbingomfdeoaaGreatDoorPa5
import Derived.Lib.ItoaNum
import Derived.Shelf.Strconv.AppendInt10
import Derived.Shelf.Strconv.Itoa4
import Derived.Test.YthdbingomfdeoaaGreatDoorProg
import Derived.Deep.QuietTactic
import Derived.BigQuiet
set_option linter.all false
set_option maxRecDepth 100000
set_option maxHeartbeats 100000000
namespace Go.Proofs.YthdbingomfdeoaaGreatDoor
open Go Go.RowKit
def f4:=@List.getElem?_append_left
def fF:=@List.getElem?_append_right
def ff:=@List.length_append
def gC:=@of_decide_eq_true
def gg:=@List.getElem?_eq_some_iff
def iC:=@List.length_drop
def iI:=@List.nil_append
def iM:=@Nat.pow_le_pow_left
def iO:=@List.ext_getElem?
def iq:=@List.exists_cons_of_ne_nil
def j7:=@Prod.mk.injEq
def j8:=@Nat.sub_zero
def jP:=@List.pairwise_singleton
def jX:=@List.perm_append_comm
def kG:=@Rat.mkRat_self
def kJ:=@List.tail_cons
def kO:=@List.getElem?_cons_succ
def kc:=@List.mem_flatten
def kj:=@List.sum_cons
def km:=@Option.map_none
def lG:=@UInt8.toNat_inj
def lL:=@List.foldl_cons
def lX:=@cell_of_row
def li:=@Nat.gcd_one_right
def ln:=@List.flatten_cons
end Go.Proofs.YthdbingomfdeoaaGreatDoor
namespace Go.Proofs.YthdbingomfdeoaaGreatDoor.W
open Go
variable {k n:Nat}
def decV(l:List UInt8):Nat:=l.foldl (fun n c=>10*n+(c.toNat-48)) 0
def isDig(c:UInt8):Prop:=48<=c.toNat/\c.toNat<=57
def digs(l:List UInt8):Prop:=∀ c∈l,isDig c
theorem decV_snoc(l:List UInt8)(c:UInt8):decV (l ++ [c])=10*decV l+(c.toNat-48):=by simp[decV]
theorem EE:∀ (l:List UInt8) (n:Nat),l.foldl (fun n c=>10*n+(c.toNat-48)) n=n*10^l.length+decV l
 | [],n=>by simp[decV]
 | c :: r,n=>by
  have h1:=EE r (10*n+(c.toNat-48));have h2:=EE r (10*0+(c.toNat-48));have h3:decV (c :: r)=r.foldl (fun n c=>10*n+(c.toNat-48)) (10*0+(c.toNat-48)):=rfl;rw[lL,h1,h3,h2,fW,fT]
  grind
theorem decV_app(a b:List UInt8):decV (a ++ b)=decV a*10^b.length+decV b:=by
 have:decV (a ++ b)=b.foldl (fun n c=>10*n+(c.toNat-48)) (decV a):=by simp[decV]
 rw[this,EE]
theorem P9(c:UInt8)(r:List UInt8):decV (c :: r)=(c.toNat-48)*10^r.length+decV r:=by
 have:=decV_app [c] r;simpa[decV]using this
theorem decV_lt:∀ {l:List UInt8},digs l->decV l<10^l.length
 | [],_=>by simp[decV]
 | c :: r,h=>by
  have h1:=decV_lt (l:=r) (fun x a=>h x (by simp[a]));have h2:=h c (by simp);rw[P9,fW,fT];have h3:(c.toNat-48)*10^r.length<=9*10^r.length:=eS _ (by have:=h2.2;omega);omega
theorem Ca(h:n<256):(UInt8.ofNat n).toNat=n:=by simp;omega
theorem digs_dec(n:Nat):digs (Lib.decDigits n):=by
 induction n using Nat.strongRecOn with
 | _ n ih =>
  rw[Lib.decDigits];split
  · intro c a;simp only[eV]at a;subst a;unfold isDig;rw[Ca (by omega)];omega
  · intro c a;rcases fo.1 a with h|h
    · exact ih (n/10) (by omega) c h
    · simp only[eV]at h;subst h;unfold isDig;rw[Ca (by omega)];omega
theorem decV_dec(n:Nat):decV (Lib.decDigits n)=n:=by
 induction n using Nat.strongRecOn with
 | _ n ih =>
  rw[Lib.decDigits];split
  · simp only[decV,List.foldl];rw[Ca (by omega)];omega
  · rw[decV_snoc,ih (n/10) (by omega),Ca (by omega)];omega
theorem dec_ne(n:Nat):Lib.decDigits n≠[]:=by
 rw[Lib.decDigits];split <;> simp
theorem dec_zero:Lib.decDigits 0=[48]:=by rw[Lib.decDigits];rfl
theorem dec_head(h:0<n):∃ c r,Lib.decDigits n=c :: r/\c≠48:=by
 induction n using Nat.strongRecOn with
 | _ n ih =>
  rw[Lib.decDigits];split
  · refine⟨_,[],rfl,fun a => ?_⟩;have:=fV UInt8.toNat a;rw[Ca (by omega)]at this;simp at this;omega
  · obtain⟨c,r,e,a⟩:=ih (n/10) (by omega) (by omega);exact⟨c,r ++ [UInt8.ofNat (48+n%10)],by rw[e];rfl,a⟩
theorem MJ{c:UInt8}(h:isDig c):UInt8.ofNat (48+(c.toNat-48))=c:=by
 apply lG.1;rw[Ca (by have:=h.2;omega)];have:=h.1;omega
theorem dec_of_digs:∀ {l:List UInt8} (_:digs l) (_:l≠[]) (_:∀ c r,l=c :: r->c=48->r=[]),Lib.decDigits (decV l)=l:=by
 intro l
 induction h:l.length using Nat.strongRecOn generalizing l with
 | _ n ih =>
  intro m f p;obtain⟨a,c,rfl⟩:∃ a c,l=a ++ [c]:=⟨l.dropLast,l.getLast f,(lE f).symm⟩;have d:isDig c:=m c (by simp);by_cases k:a=[]
  · subst k;have e:decV ([] ++ [c])=c.toNat-48:=by simp[decV]
    rw[e,Lib.decDigits,dif_pos (by have:=d.2;omega),MJ d];rfl
  · have i:digs a:=fun x q=>m x (by simp[q]);have j:∀ g r,a=g :: r->g=48->r=[]:=by
     intro g r e e0;subst e;have:=p g (r ++ [c]) rfl e0;simp at this
    have b:=ih a.length (by rw[<-h];simp) rfl i k j;have o:0<decV a:=by
     rcases fj (decV a)with h0|h0
     · rw[h0,dec_zero]at b;have:=p 48 [c] (by rw[<-b];rfl) rfl;simp at this
     · exact h0
    rw[decV_snoc,Lib.decDigits,dif_neg (by omega)];have h1:(10*decV a+(c.toNat-48))/10=decV a:=by have:=d.2;omega
    have h2:(10*decV a+(c.toNat-48))%10=c.toNat-48:=by have:=d.2;omega
    rw[h1,h2,b,MJ d]
theorem dec_len(h:n<10^k)(a:0<k):(Lib.decDigits n).length<=k:=by
 induction n using Nat.strongRecOn generalizing k with
 | _ n ih =>
  rw[Lib.decDigits];split
  · simp;omega
  · have:2<=k:=by
     rcases fL k 2 with h2|h2
     · have:k=1:=by omega
       subst this;omega
     · exact h2
    have h3:=ih (n/10) (by omega) (k:=k-1) (by
     rw[gG (by omega),<-fT,show(k-1).succ=k by omega]
     exact h) (by omega)
    simp;omega
end Go.Proofs.YthdbingomfdeoaaGreatDoor.W
namespace Go.Proofs.YthdbingomfdeoaaGreatDoor
open Tryz Go Go.RowKit
variable {s:ByteArray} {xs zs:List Nat} {l:List UInt8} {B n:Nat} {w:World}
theorem Qb(b:zs.length=n+1)(a:W.bnd B zs)(d:B^n<=W.val B zs):W.nrm zs:=by
 intro c h0;rw[iV]at h0;have h1:=Dq (B:=B) b;have h2:=Bz a (m:=n) (by omega);have h3:zs.getD n 0=zs[zs.length-1]'(by omega):=by
  have:zs.length-1=n:=by omega
  simp[this,show n<zs.length by omega]
 rw[h3,h0,ic,fP]at h1;omega
theorem RU(a:W.digs l)(b:l.length<=19):W.decV l<10000000000000000000:=by
 have h1:=W.decV_lt a;have h2:10^l.length<=10^19:=fd (by omega) b;omega
theorem KD(b:W.digs l)(k:Nat):W.digs (l.take k):=fun c a=>b c (iU a)
theorem Qc(b:W.digs l)(k:Nat):W.digs (l.drop k):=fun c a=>b c (jE a)
theorem Qd{k d u c c' V:Nat}(a:k<zs.length)(f:k<xs.length)(h:W.val B (zs.take k)+c*B^k=u*W.val B (xs.take k)+V)(e:d+B*c'=xs.getD k 0*u+c) :
 W.val B ((zs.set k d).take (k+1))+c'*B^(k+1)=u*W.val B (xs.take (k+1))+V:=by
 have b:W.val B ((zs.set k d).take (k+1))=W.val B (zs.take k)+B^k*d:=by
  rw[W.val_take_succ (by simpa using a)];congr 1
  · rw[kw (lrf _)]
  · simp[a]
 rw[b,W.val_take_succ f,fT];have g:B^k*(d+B*c')=B^k*(xs.getD k 0*u+c):=by rw[e]
 grind
theorem Hs(hd:W.digs (Ad s))(hs:s.size<=600) :
 Calls prog 214 #[.string s] w (RP w (W.decV (Ad s))):=by
 have HD:=qh hd;clear hd
 go_enter func214,ntmps214
 go_wp2
 go_loopw[0,3] (fun dv xv wr=>∃ (j:Nat) (t:ByteArray) (a:Option Addr) (n c:Nat) (xs:List Nat),dv = .string t/\xv = .slice a n c/\j<=s.size/\Hid (Ad t=(Ad s).drop j)/\t.size+j=s.size/\n<=j/\Ext w wr/\Own wr w.heap.size 101 a n c (xs.map (Bk .u64))/\Hid (Num 18446744073709551616 xs (W.decV ((Ad s).take j)))) (fun dv _ _=>match dv with | .string t=>t.size | _=>0)
 case atStart=>exact⟨0,s,none,0,0,[],rfl,rfl,f8 _,qh rfl,by omega,by omega,Ext.refl w,Own.nil _ _ _,qh (Num.nil _)⟩
 case round =>
  obtain⟨j,t,a,n,c,xs,rfl,rfl,hj,HT,aT,aR,hE,hO,Z⟩:=hrel;by_cases h0:t.size=0
  · have HF:Hid (Num 18446744073709551616 xs (W.decV (Ad s))):=by
     have h1:=Z.out;rw[eR (by rw[Al];omega)]at h1;exact qh h1
    have aC:¬ (0:Int)<(t.size:Int):=by omega
    clear h0;go_wp2;go_ret;exact⟨a,n,c,rfl,hE,xs,hO.sl,HF.out⟩
  · have aC:(0:Int)<(t.size:Int):=by omega
    obtain⟨z,hz⟩:∃ z,(t.size-1)%19+1=z:=⟨_,rfl⟩;have aU:1<=z:=by omega
    have aV:z<=19:=by omega
    have aW:z<=t.size:=by omega
    have aF:IntKind.i64.wrap ((t.size:Int)-1)=((t.size-1:Nat):Int):=by rw[show(t.size:Int)-1=((t.size-1:Nat):Int) by omega];exact eT _ (by omega)
    have aG:((t.size-1:Nat):Int).tmod 19=(((t.size-1)%19:Nat):Int):=by rw[gP (by omega)];omega
    have am:((t.size-1:Nat):Int)%19=(((t.size-1)%19:Nat):Int):=by omega
    have aH:IntKind.i64.wrap ((((t.size-1)%19:Nat):Int)+1)=(z:Int):=by rw[show(((t.size-1)%19:Nat):Int)+1=(z:Int) by omega];exact eT _ (by omega)
    clear hz;generalize (t.size-1)%19=z0 at *
    generalize t.size-1=t1 at *
    have aX:(z:Int)<=(t.size:Int):=by omega
    go_upto_region 6 with(refine NP rfl rfl underlying9 underlying159 underlying5 rfl (by unfold maxLen;simp;omega) ?_;intro cb w1 a6 Q)
    have M:Ad (t.extract 0 z)=((Ad s).drop j).take z:=by rw[AH,HT.out,gm,j8]
    have aa:W.digs (Ad (t.extract 0 z)):=by rw[M];exact KD (Qc HD.out j) z
    have ab:(Ad (t.extract 0 z)).length=z:=by rw[M,go,iC,Al];omega
    have an:=qh M;clear M;have ak:(t.extract 0 z).size=z:=by simp;omega
    rw[ak]at Q;clear ak;generalize Ad (t.extract 0 z)=A at *
    have X:=qh aa;have K:=qh ab;clear aa ab aF aG am aH
    go_loop[5,6,25] (fun cv bv T=>∃ (k f P:Nat),k<=z/\cv = .int .u64 f/\bv = .int .u64 P/\T = .int .i64 k/\f<10000000000000000000/\P<=10000000000000000000/\Hid (W.decV (A.take k)=f/\10^k=P)) (fun _ _ T=>z-(intOf T).toNat)
    case atStart=>exact⟨0,0,1,f8 _,rfl,rfl,rfl,by omega,by omega,qh ⟨rfl,rfl⟩⟩
    case round =>
     obtain⟨k,f,P,hk,rfl,rfl,rfl,aM,hP,E⟩:=hrel;by_cases ac:k<z
     · obtain⟨b1,o1,I,J⟩:=Q.rd (by omega);simp only[fc,gV,iL]at I;obtain⟨I,af⟩:=I;have g1:=J k ac;rw[<-I,<-af,fP]at g1;have S:k<A.length:=by rw[K.out];exact ac
       have e1:(A.map AA).getD k undef = .int .u8 ((A[k].toNat:Nat):Int):=by simp[S,AA]
       rw[e1]at g1;have az:=X.out A[k] (fu S);have ah:A.take (k+1)=A.take k ++ [A[k]]:=eU S;have b:W.decV (A.take (k+1))=10*f+(A[k].toNat-48):=by rw[ah,W.decV_snoc,E.out.1]
       have ae:=RU (KD X.out (k+1)) (by rw[go,K.out];omega);have ag:10^(k+1)<=10^19:=fd (by omega) (by omega);rw[fT,E.out.2]at ag;rw[b]at ae;have l:=qh b;have Y:Hid (10^(k+1)=P*10):=by show _=_;rw[fT,E.out.2]
       obtain⟨aN,aO⟩:=az;generalize A[k].toNat=e at *
       have a1:IntKind.u64.wrap (10*(f:Int))=((10*f:Nat):Int):=Af (by omega) (by omega);have a2:IntKind.u8.wrap ((e:Int)-48)=((e-48:Nat):Int):=by rw[IntKind.wrap_u8];omega
       have a3:IntKind.u64.wrap ((e-48:Nat):Int)=((e-48:Nat):Int):=Af rfl (by omega);have a4:IntKind.u64.wrap (((10*f:Nat):Int)+((e-48:Nat):Int))=((10*f+(e-48):Nat):Int):=Af (by omega) (by omega);have a5:IntKind.u64.wrap ((P:Int)*10)=((P*10:Nat):Int):=Af (by omega) (by omega);have b2:10*f+(e-48)<10000000000000000000:=by omega
       have b3:P*10<=10000000000000000000:=by omega
       clear b ah e1 J I af ae ag;generalize 10 * f+(e-48)=ap at *
       generalize 10 * f=aJ at *
       generalize e-48=d1 at *
       generalize P * 10=P1 at *
       go_wp2;go_round
       case rel=>exact⟨k+1,ap,P1,by omega,rfl,rfl,by go_num,b2,b3,qh ⟨l.out,Y.out⟩⟩
       case measure=>simp[intOf];omega
     · have ek:k=z:=by omega
       have N:Hid (W.decV A=f/\10^z=P):=by
        have h1:=E.out;rw[ek,eR (by rw[K.out];exact lrf _)]at h1;exact qh h1
       clear ek E Q;have a9:=hO.ext a6;have a8:=hE.trans a6;have L:Hid (xs.length=n):=qh (by have:=hO.len;simpa using this);go_wp2;obtain⟨wo,aI⟩:∃ wo:World,wo=wr:=⟨_,rfl⟩;subst aI
       go_loopw[9,44] (fun cv T wx=>∃ (q C:Nat) (zs:List Nat),q<=n/\cv = .int .u64 C/\T = .int .i64 q/\C<18446744073709551616/\Ext w wx/\Own wx w.heap.size 101 a n c (zs.map (Bk .u64))/\Hid (W.bnd 18446744073709551616 zs/\zs.drop q=xs.drop q/\W.val 18446744073709551616 (zs.take q)+C*18446744073709551616^q=P*W.val 18446744073709551616 (xs.take q)+f)) (fun _ T _=>n-(intOf T).toNat)
       case atStart=>exact⟨0,f,xs,f8 _,rfl,rfl,by omega,a8,a9,qh ⟨Z.out.bnd,rfl,by simp[W.val]⟩⟩
       case round =>
        clear a9 a8;obtain⟨q,C,zs,hq,rfl,rfl,ay,H,D,G⟩:=hrel;have al:zs.length=n:=by have:=D.len;simpa using this
        have x:=qh al;clear al;by_cases r:q<n
        · obtain⟨g,rfl,aA,aP⟩:=D.place (by omega);have O:Am .u64 wr w.heap.size 101 g n c zs:=D;have g1:=O.cell (i:=q) r;have f1:=O.frozen q;have hb:=W.bnd_at G.out.1 (i:=q) (by rw[x.out];exact r);have ai:zs.getD q 0=xs.getD q 0:=DU G.out.2.1;have ao:=qh ai;clear ai;generalize zs.getD q 0=xq at *
          go_wp2_with fail
          refine(Bm hb (show P<18446744073709551616 by omega) ay).mono ?_;rintro e2 w2 ⟨U,hi,rfl,rfl,aE,aD,e1⟩;have HS:=qh (Qd (B:=18446744073709551616) (zs:=zs) (xs:=xs) (k:=q) (d:=U) (u:=P) (c:=C) (c':=hi) (V:=f) (by rw[x.out];exact r) (by rw[L.out];exact r) G.out.2.2 (by rw[<-ao.out];exact e1));have aw:Own (wr.setCell ⟨g,q,none⟩ (.int .u64 (U:Int))) w.heap.size 101 (some ⟨g,0,none⟩) n c ((zs.set q U).map (Bk .u64)):=O.set q U;have ar:=H.setCell (p:=⟨g,q,none⟩) aA (.int .u64 (U:Int));clear e1;go_wp2;go_roundw
          case rel=>exact⟨q+1,hi,zs.set q U,by omega,rfl,by go_num,aD,ar,aw,qh ⟨W.bnd_set G.out.1 aE,Dr G.out.2.1,HS.out⟩⟩
          case measure=>simp[intOf];omega
        · have eq:q=n:=by omega
          have v:W.val 18446744073709551616 zs+C*18446744073709551616^n=P*W.val 18446744073709551616 xs+f:=by
           have h1:=G.out.2.2;rw[eq,eR (by rw[x.out];exact lrf _),eR (by rw[L.out];exact lrf _)]at h1;exact h1
          rw[Z.out.val]at v;have b:P*W.decV ((Ad s).take j)+f=W.decV ((Ad s).take (j+z)):=by
           have h1:(Ad s).take (j+z)=(Ad s).take j ++ A:=by rw[an.out,List.take_add]
           rw[h1,W.decV_app,K.out,N.out.1,N.out.2,f9]
          rw[b]at v;have o:=qh v;have l:=qh b;have aj:Ad (t.extract z t.size)=(Ad s).drop (j+z):=by
           rw[AH,HT.out,kK,eR (by rw[iC,Al];omega)]
          have a0:=qh aj;have aS:(t.extract z t.size).size=t.size-z:=by simp
          clear v b aj eq;by_cases R:C=0
          · have m:Num 18446744073709551616 zs (W.decV ((Ad s).take (j+z))):=by
             have h1:=o.out;rw[R,ic,gd]at h1;refine⟨G.out.1,?_,h1⟩;rcases fj n with ad|ad
             · have:zs=[]:=fa (by rw[x.out,ad]);rw[this];exact W.nrm_nil
             · refine Qb (B:=18446744073709551616) (n:=n-1) (by rw[x.out];omega) G.out.1 ?_;rw[h1,<-l.out];have h2:=W.nrm_pos (B:=18446744073709551616) (by omega) Z.out.nrm (by intro h;have:=L.out;rw[h]at this;simp at this;omega);rw[L.out,Z.out.val]at h2;have h3:1*W.decV ((Ad s).take j)<=P*W.decV ((Ad s).take j):=eS _ (by rw[<-N.out.2];exact iu (by omega));omega
            have F:=qh m;subst R;clear m o l G;generalize t.extract z t.size=t2 at *
            go_wp2;go_roundw
            case rel=>exact⟨j+z,t2,a,n,c,zs,rfl,rfl,by omega,a0,by omega,by omega,H,D,F⟩
            case measure=>simp;omega
          · have aL:((C:Int) != 0)=true:=by simp;omega
            have m:Num 18446744073709551616 (zs ++ [C]) (W.decV ((Ad s).take (j+z))):=by
             refine⟨W.bnd_app G.out.1 (fun y hy=>by simp at hy;omega),fun aQ=>by simp;exact R,?_⟩;rw[W.val_snoc,x.out,<-o.out,f9]
            have F:=qh m;have hA:=D.alloc (.cells #[.int .u64 (C:Int)] 101);have hL:=(Ag wr w.heap.size 101 #[.int .u64 (C:Int)] 1 rfl H.size (by omega)).sl;have ax:∀ k,blk a=some k->w.heap.size<=k:=fun k hk=>(D.lt hk).1;clear m o l G;generalize t.extract z t.size=t2 at *
            go_wp2_with(refine AU rfl rfl underlying98 AG rfl rfl hA rfl hL (by simp[Value.oneCell']) (by unfold maxLen;omega) (by omega) (by simp;have:=H.size;omega) ?_;intro a7 c7 w7 au aB aK)
            have aq:Ext w w7:=(H.alloc _).grown aB ax;have av:Own w7 w.heap.size 101 a7 (n+1) c7 ((zs ++ [C]).map (Bk .u64)):=by rw[fM];exact au
            go_roundw
            case rel=>exact⟨j+z,t2,a7,n+1,c7,zs ++ [C],rfl,rfl,by omega,a0,by omega,by omega,aq,av,F⟩
            case measure=>simp;omega
theorem Jj(b:W.digs (Ad s))(g:s.size<=570) :
 Calls prog 183 #[.string s,.slice none 0 0] w (RP w (W.decV (Ad s))):=by
 have hp:=qh (Hs (w:=w) b (by omega));clear b
 go_enter func183,ntmps183
 go_wp2;refine wp_loop_rounds 1 ?_;rw[rounds_succ]
 go_wp2_with fail
 refine hp.out.mono ?_;rintro e i ⟨a,n,c,rfl,d,f⟩;go_wp2;go_ret;exact⟨a,n,c,rfl,d,f⟩
theorem Jk(b:W.digs (Ad s))(g:s.size<=570) :
 Calls prog 141 #[.string s] w (RP w (W.decV (Ad s))):=by
 have hp:=qh (Jj (w:=w) b g);have f:¬ ((570:Int)<(s.size:Int)):=by omega
 clear b
 go_enter func141,ntmps141
 go_wp2_with fail
 refine hp.out.mono ?_;rintro e j ⟨a,n,c,rfl,d,i⟩;go_wp2;go_ret;exact⟨a,n,c,rfl,d,i⟩
theorem KE(l:W.digs (Ad s))(q:s.size<=570) :
 Calls prog 102 #[.string s] w (NM w ((W.decV (Ad s):Nat):Int)):=by
 go_enter func102,ntmps102
 go_upto_region 1 with(fail)
 refine AK ?_;intro m g d k;have hp:=qh (Jk (w:=m) l q);have p:Arr m w.heap.size 123 (Aj false none 0 0):=d;have c:Hid (decide (((W.decV (Ad s):Nat):Int)<0)=false):=qh (fw (by omega));clear l k
 go_wp2_with fail
 refine hp.out.mono ?_;rintro e t ⟨n,r,o,rfl,a,j⟩;have b:=p.ext a
 go_wp2_with(refine Aa (vs:=Aj false n r o) rfl rfl rfl rfl rfl Cz b rfl (Ai _ _ _ _) ?_;intro v f i)
 exact eZ (Aq rfl Cz rfl f) rfl (Lu (g.trans a) b (Gl _ _ _ _) i (by omega) c j)
theorem Df:AR prog 5 (.int .u8 0) 1:=by unfold AR;kernel_rfl
end Go.Proofs.YthdbingomfdeoaaGreatDoor
namespace Go.Proofs.YthdbingomfdeoaaGreatDoor.W
open Go
def padD(w x:Nat):List UInt8:=if x=0 then List.replicate w 48 else List.replicate (w-(Lib.decDigits x).length) 48 ++ Lib.decDigits x
end Go.Proofs.YthdbingomfdeoaaGreatDoor.W
namespace Go.Proofs.YthdbingomfdeoaaGreatDoor
open Tryz Go Go.RowKit
variable {f:Act} {ad:Addr} {ops:Array Oper} {s:Bool} {Q:Exit->Act->World->Prop} {z:Int} {news rows:List (List Value)} {l xs ys:List Int} {rest:List Oper} {cs zs:List Value} {N R b0 base base' bytes c cx d g h k m n off:Nat} {o:Oper} {y:Operand} {a a' a0 b:Option Addr} {q:Rat} {e t:TypeId} {v:Value} {w w' w1 w9 wr wx:World}
def ckS(T x n:Nat):List Nat:=(List.range n).map fun i=>x/T^i%T
structure U8(w wr:World)(x:Nat)(ak:Option Addr)(nk ck:Nat)(ac:Option Addr)(nc cc:Nat)(ys:List Nat):Prop where
 ext:Ext w wr
 wk:Own wr w.heap.size 101 ak nk ck (ys.map (Bk .u64))
 ch:Own wr w.heap.size 101 ac nc cc ((ckS 10000000000000000000 x nc).map (Bk .u64))
 sep:∀ k,blk ac=some k->blk ak≠some k
 num:Num 18446744073709551616 ys (x/10000000000000000000^nc)
 top:nc=0\/10000000000000000000^(nc-1)<=x
def KpT(w wr:World)(a0 a:Option Addr):Prop:=w.heap.size<=wr.heap.size/\(blk a=blk a0\/∃ k,blk a=some k/\w.heap.size<=k)/\∀ k,k<w.heap.size->some k≠blk a0->wr.heap[k]?=w.heap[k]?
theorem KpT.ext(h:KpT w wr a0 a)(e:Ext wr wx):KpT w wx a0 a :=
 ⟨eW h.1 e.size,h.2.1,fun k c b=>(e.block (fG c h.1)).trans (h.2.2 k c b)⟩
theorem KpT.far(h:KpT w wr a0 a)(c:wr.grownBy wx (some g))(e:w.heap.size<=g):KpT w wx a0 a :=
 ⟨eW h.1 c.size,h.2.1,fun k d b=>(c.block k (fG d h.1) (fun he=>by cases he;omega)).trans (h.2.2 k d b)⟩
theorem KpT.grown(h:KpT w wr a0 a)(d:wr.grownBy wx (blk a))(b:blk a'=blk a\/blk a'=some wr.heap.size):KpT w wx a0 a':=by
 refine⟨eW h.1 d.size,?_,fun k e c=>(d.block k (fG e h.1) (fun he => ?_)).trans (h.2.2 k e c)⟩
 · rcases b with b|b
   · rw[b];exact h.2.1
   · exact Or.inr ⟨_,b,h.1⟩
 · rcases h.2.1 with h1|⟨j,h1,h2⟩
   · exact c (he.trans h1)
   · rw[h1]at he;cases he;omega
theorem KpT.trans{w g i:World}{c d e:Option Addr}(h:KpT w g c d)(b:KpT g i d e):KpT w i c e:=by
 refine⟨eW h.1 b.1,?_,fun k f a=>(b.2.2 k (fG f h.1) (fun he => ?_)).trans (h.2.2 k f a)⟩
 · rcases b.2.1 with h1|⟨j,h1,h2⟩
   · rw[h1];exact h.2.1
   · exact Or.inr ⟨j,h1,eW h.1 h2⟩
 · rcases h.2.1 with h1|⟨j,h1,h2⟩
   · exact a (he.trans h1)
   · rw[h1]at he;cases he;omega
def cpT(x wd nc k:Nat):List UInt8:=if k=nc then []else W.padD (wd-19*k) (x/10000000000000000000^k)
structure UE(wb w0 wr:World)(a0:Option Addr)(x wd nc G:Nat)(l:List UInt8)(ac:Option Addr)(cc n0 k:Nat)(a:Option Addr)(n c:Nat):Prop where
 ext:Ext wb wr
 tx:Own wr wb.heap.size 5 a n c ((l ++ cpT x wd nc k).map AA)
 ch:Own wr wb.heap.size 101 ac nc cc ((ckS 10000000000000000000 x nc).map (Bk .u64))
 buf:∃ cs,Arr wr G 282 cs/\cs.length=20
 sep1:∀ k,blk ac=some k->blk a≠some k/\k≠G
 sep2:blk a≠some G
 gb:wb.heap.size<=G
 gw:w0.heap.size<=G
 kp:KpT w0 wr a0 a
 len:n<=n0+(if k=nc then 0 else wd)+20*(nc-k)
structure Tl(wb w0 wr:World)(a0:Option Addr)(nc G gc cc u n0:Nat)(cs:List Nat)(t:List UInt8)(a:Option Addr)(n c:Nat):Prop where
 ext:Ext wb wr
 tx:Own wr wb.heap.size 5 a n c (t.map AA)
 ch:Am .u64 wr wb.heap.size 101 gc nc cc cs
 buf:∃ bs,Arr wr G 282 bs/\bs.length=20/\bs.take (Lib.decDigits u).length=(Lib.decDigits u).map AA
 sep1:blk a≠some gc
 sep2:blk a≠some G
 len:n<=n0
 kp:KpT w0 wr a0 a
theorem SlN.blk_lt{k:IntKind}{xs:List Nat}(h:SlN k w a n c xs)(h0:0<n):∃ g,blk a=some g/\g<w.heap.size:=by
 obtain⟨b,d,rfl,e⟩:=Sl.rd h h0;have h1:=e 0 h0;have f:=Sl.len h;exact⟨b,rfl,gF w ⟨b,d+0,none⟩ h1⟩
theorem KpT.ne(b:KpT w w' a0 a')(c:g<w.heap.size)(a:some g≠blk a0):some g≠blk a':=by
 rcases b.2.1 with h|⟨k,h,h2⟩
 · rw[h];exact a
 · rw[h];intro e;cases e;omega
structure SpB(n wd M j:Nat):Prop where
 b:n+wd+(20*M+1300)*(j+1)<=1000000
theorem Wd.apart{x:Nat}(h:Wd w a n c x)(d:∀ k,blk b=some k->w.heap.size<=k):0<n->blk a≠blk b:=by
 intro j e;obtain⟨l,h1,_⟩:=h;obtain⟨g,f,i⟩:=h1.blk_lt j;have:=d g (by rw[<-e];exact f);omega
theorem UG(b:Nat):P2 b<=10^(b/3+1):=by
 have e:P2 b=8^(b/3)*2^(b%3):=by
  unfold P2
  conv=>lhs;rw[<-fY b 3,ig,j9]
 have h1:8^(b/3)<=10^(b/3):=iM (by omega) _;have h2:2^(b%3)<=2^2:=fd (by omega) (by omega);rw[e,fT];exact gO h1 (by omega)
theorem Lx{b:Nat}(h:n<P2 b):(Lib.decDigits n).length<=b/3+1:=W.dec_len (fG h (UG b)) (by omega)
theorem AJ:Agg prog 125 4:=⟨by kernel_rfl,by kernel_rfl⟩
def Ar(s:Bool)(a:Option Addr)(n c:Nat)(t:Bool)(b:Option Addr)(m d:Nat):List Value:=Aj s a n c ++ Aj t b m d
theorem Ao(s:Bool)(a:Option Addr)(n c:Nat)(t:Bool)(b:Option Addr)(m d:Nat):∀ v∈Ar s a n c t b m d,v.oneCell'=true:=by
 intro v e;rcases fo.1 e with h|h
 · exact Ai _ _ _ _ v h
 · exact Ai _ _ _ _ v h
theorem BT(s:Bool)(a:Option Addr)(n c:Nat)(t:Bool)(b:Option Addr)(m d:Nat):∀ v∈Ar s a n c t b m d,∀ i,v ≠ .int .u64 i:=by
 intro v e;rcases fo.1 e with h|h
 · exact Gl _ _ _ _ v h
 · exact Gl _ _ _ _ v h
def BP(q:Rat):Int:=if q.den=1 then 0 else(q.den:Int)
theorem Dw:BP q=0<->q.den=1:=by
 have:=q.den_nz;unfold BP;split
 · simp[*]
 · constructor
   · intro h;omega
   · intro h;exact absurd h ‹_›
theorem Bt(h:q.den≠1):(BP q).natAbs=q.den:=by unfold BP;rw[fl h];rfl
theorem Ly(h:q.den≠1):BP q=(q.den:Int):=by unfold BP;rw[fl h]
def JJ(w:World)(cs:List Value)(q:Rat):Prop:=∃ s a n c b m d,cs=Ar s a n c false b m d/\Hid (decide (q.num<0)=s)/\Wd w a n c q.num.natAbs/\Wd w b m d (BP q).natAbs
theorem JJ.ext{w f:World}{cs:List Value}{q:Rat}(h:JJ w cs q)(e:Ext w f):JJ f cs q:=by
 obtain⟨s,a,n,c,b,m,d,h1,h2,h3,h4⟩:=h;exact⟨s,a,n,c,b,m,d,h1,h2,h3.ext e,h4.ext e⟩
def Lz(w:World)(v:Value)(q:Rat):Prop:=∃ cs,v = .agg cs.toArray/\JJ w cs q
theorem Lz.ext{w a:World}{v:Value}{q:Rat}(h:Lz w v q)(e:Ext w a):Lz a v q:=by
 obtain⟨b,h1,h2⟩:=h;exact⟨b,h1,h2.ext e⟩
theorem Ib(b:Hid (decide (q.num<0)=s))(h:Wd w a n c q.num.natAbs):Gk w (.agg (Aj s a n c).toArray) q.num:=⟨s,a,n,c,rfl,b,h⟩
def txt(q:Rat):List UInt8:=Lib.itoa q.num ++ (if q.den=1 then []else 47 :: Lib.decDigits q.den)
theorem A5:Agg prog 109 4:=⟨by kernel_rfl,by kernel_rfl⟩
def QV(w:World)(v:Value)(q:Rat):Prop:=∃ s a n c b m d,v = .agg (Ar s a n c false b m d).toArray/\Hid (decide (q.num<0)=s)/\Mg w a n c q.num.natAbs/\Mg w b m d (BP q).natAbs
theorem QV.ext{w f:World}{v:Value}{q:Rat}(h:QV w v q)(e:Ext w f):QV f v q:=by
 obtain⟨s,a,n,c,b,m,d,h1,h2,h3,h4⟩:=h;exact⟨s,a,n,c,b,m,d,h1,h2,h3.ext e,h4.ext e⟩
theorem BQ(h:q.den=1):(BP q).natAbs=0:=by rw[Dw.2 h];rfl
theorem QV.zero(w:World):QV w (.agg (Ar false none 0 0 false none 0 0).toArray) 0:=⟨false,none,0,0,none,0,0,rfl,qh rfl,Mg.nil w,Mg.nil w⟩
def LA(w:World)(q:Rat)(e:Ending)(w':World):Prop:=∃ s a n c b m d,e = .returned (.agg (Ar s a n c false b m d).toArray)/\Ext w w'/\Hid (decide (q.num<0)=s)/\Mg w' a n c q.num.natAbs/\Mg w' b m d (BP q).natAbs
theorem LA.r{e:Ending}(h:LA w q e w'):∃ v,e = .returned v/\Ext w w'/\QV w' v q:=by
 obtain⟨s,a,n,c,b,m,d,h1,h2,h3⟩:=h;exact⟨_,h1,h2,s,a,n,c,b,m,d,rfl,h3⟩
theorem D8(j:Ext w w1)(f:Arr w1 R t cs)(g:187≠t)(e:w1.grownBy w9 (some R))(k:w.heap.size<=R)(i:Hid (decide (q.num<0)=s))(l:Mg w1 a n c q.num.natAbs)(o:Mg w1 b m d (BP q).natAbs):LA w q (.returned (.agg (Ar s a n c false b m d).toArray)) w9 :=
 ⟨s,a,n,c,b,m,d,rfl,j.grownR e k,i,l.keptA f g e,o.keptA f g e⟩
theorem Jm(d:Ext w w1)(e:Arr w1 R t cs)(g:187≠t)(f:w1.grownBy w9 (some R))(i:w.heap.size<=R)(b:Hid (decide (z<0)=s))(j:Mg w1 a n c z.natAbs):LA w (z:Rat) (.returned (.agg (Ar s a n c false none 0 0).toArray)) w9 :=
 D8 d e g f i b j (by rw[BQ (q:=(z:Rat)) rfl];exact Mg.nil w1)
theorem Ic(h:QV w v q):Calls prog 164 #[v] w (JD w (q.den:Int)):=by
 obtain⟨s,a,n,c,b,m,d,rfl,P,D,x⟩:=h;have y:Hid (decide ((q.den:Int)<0)=false):=qh (fw (by omega));by_cases h1:q.den=1
 · have A:m=0:=x.zero.2 (BQ h1);have E:=qh h1;subst A;clear h1 D x
   go_enter func164,ntmps164
   go_upto_region 1 with(fail)
   refine I6 ?_;intro B j f k p;have K:=f.c 0 rfl;have L:=f.c 1 rfl;have M:=f.c 2 rfl;have N:=f.c 3 rfl;have H:Arr B (w.heap.size+1) 107 (Aj false none 0 0):=k;clear p
   go_wp2_with fail
   refine(He (z:=1) (by omega)).mono ?_;rintro e Q ⟨s1,F,J,G,rfl,t,r,i⟩;have g:=H.ext t;rw[show(1:Int)=(q.den:Int) by rw[E.out];rfl]at r i
   go_wp2_with(refine Aa (vs:=Aj s1 F J G) rfl rfl rfl rfl rfl Az g rfl (Ai _ _ _ _) ?_;intro O l o)
   exact eZ (Aq rfl Az rfl l) rfl (CA (j.trans t) g (by decide) o (by omega) r i)
 · have C:=qh (Bt h1);have I:((m:Int) == 0)=false:=by
    have h2:m≠0:=fun h0=>by
     have h3:=x.zero.1 h0;rw[Bt h1]at h3;exact q.den_nz h3
    simpa using h2
   clear h1
   go_enter func164,ntmps164
   go_upto_region 1 with(fail)
   refine I6 ?_;intro B j f k p;have K:=f.c 0 rfl;have L:=f.c 1 rfl;have M:=f.c 2 rfl;have N:=f.c 3 rfl;have g:Arr B (w.heap.size+1) 107 (Aj false none 0 0):=k;have i:=x.ext j;rw[C.out]at i;clear p x D C
   go_wp2_with(refine Aa (vs:=Aj false b m d) rfl rfl rfl rfl rfl Az g rfl (Ai _ _ _ _) ?_;intro O l o)
   exact eZ (Aq rfl Az rfl l) rfl (CA j g (by decide) o (by omega) y i)
theorem Va(q : -9223372036854775808<=z/\z<9223372036854775808):Calls prog 82 #[.int .i64 z] w (LA w (z:Rat)):=by
 go_enter func82,ntmps82
 go_upto_region 1 with(fail)
 refine AK ?_;intro r j g m;have o:Arr r w.heap.size 109 (Ar false none 0 0 false none 0 0):=g;clear m
 go_wp2_with fail
 refine(He q).mono ?_;rintro e s ⟨s1,d,n,f,rfl,a,c,l⟩;have b:=o.ext a;have p:(Aj s1 d n f).toArray=#[.bool s1,.slice d n f]:=rfl
 go_wp2_with(refine Aa (vs:=Ar s1 d n f false none 0 0) rfl rfl rfl rfl rfl A5 b rfl (Ao _ _ _ _ _ _ _ _) ?_;intro t i k)
 exact eZ (Aq rfl A5 rfl i) rfl (Jm (j.trans a) b (by decide) k (by omega) c l)
theorem KG(h:QV w v q){r:Int}(l:q.num.sign=r):Calls prog 78 #[v] w fun e y=>e = .returned (.int .i64 r)/\Ext w y:=by
 obtain⟨s,a,n,c,b,m,d,rfl,p,o,x⟩:=h;have j:=fun(z:World) (t:Ext w z)=>qh (Ja (v := .agg (Aj s a n c).toArray) ⟨s,a,n,c,rfl,p,o.ext t⟩ l);clear l o x
 go_enter func78,ntmps78
 go_upto_region 1 with(fail)
 refine AK ?_;intro E g f k;have A:=f.c 0 rfl;have B:=f.c 1 rfl;have C:=f.c 2 rfl;have D:=f.c 3 rfl;clear k
 go_wp2_with fail
 refine(j _ g).out.mono ?_;rintro e F ⟨rfl,i⟩;go_wp2;go_ret;exact⟨rfl,g.trans i⟩
structure Vt(l:List Oper)(k1 k2 s1 j1:Nat)(T:TypeId)(zs:List Value)(base:Nat)(listed:Array Bool)(a:Act)(w:World):Prop where
 p1:listed.getD k1 false=true->∃ g,Bo l.toArray k1 a = .pointer (some ⟨g,0,none⟩)/\base<=g/\g<w.heap.size/\(listed.getD s1 false=false->Arr w g T zs)/\(listed.getD s1 false=true->∃ cs:List Value,Bo l.toArray j1 a = .agg cs.toArray/\Arr w g T cs)
 p2:listed.getD k2 false=true->∃ g,Bo l.toArray k2 a = .pointer (some ⟨g,0,none⟩)/\base<=g/\g<w.heap.size/\Arr w g T zs
 ne:listed.getD k1 false=true->listed.getD k2 false=true->Bo l.toArray k1 a≠Bo l.toArray k2 a
 js:listed.getD s1 false=true->listed.getD j1 false=true/\listed.getD k1 false=true
 lo:base<=w.heap.size
theorem NW(h:Lz w v q){r:Bool}(l:decide (q=0)=r):Calls prog 64 #[v] w fun e x=>e = .returned (.bool r)/\Ext w x:=by
 obtain⟨_,rfl,s,a,n,c,b,m,d,rfl,o,t,z⟩:=h;have k:=fun(y:World) (p:Ext w y)=>qh (I8 (r:=r) (Ib o (t.ext p)) (by rw[<-l];exact k9.2 Pl.rat_num_den_zero));clear l
 go_enter func64,ntmps64
 go_upto_region 1 with(fail)
 refine AK ?_;intro E g f j;have A:=f.c 0 rfl;have B:=f.c 1 rfl;have C:=f.c 2 rfl;have D:=f.c 3 rfl;clear j
 go_wp2_with fail
 refine(k _ g).out.mono ?_;rintro e F ⟨rfl,i⟩;go_wp2;go_ret;exact⟨rfl,g.trans i⟩
def StI(p:Value->World->Prop):Prop:=∀ v w w' g t cs cs',Arr w g t cs->(∀ x∈cs,∀ i,x ≠ .int .u64 i)->w.grownBy w' (some g)->Arr w' g t cs'->cs'.length=cs.length->(∀ x∈cs',∀ i,x ≠ .int .u64 i)->p v w->p v w'
def StX(p:Value->World->Prop):Prop:=∀ v w w',Ext w w'->p v w->p v w'
theorem NT.x:StX (fun _ _=>True):=fun _ _ _ _ _=>trivial
theorem NT.i:StI (fun _ _=>True):=fun _ _ _ _ _ _ _ _ _ _ _ _ _ _=>trivial
theorem EG{k:Nat}:∀ (a:List (List Value)),(∀ r∈a,r.length=k)->∀ i j,j<k->a.flatten[i*k+j]?=(a[i]?).bind (·[j]?)
 | [],_,i,j,_=>by simp
 | r :: rest,h,0,j,hj=>by
  have hr:r.length=k:=h r (by simp);simp only[ic,fP,ln,jQ,jF];rw[f4 (by omega)]
 | r :: rest,h,i+1,j,hj=>by
  have hr:r.length=k:=h r (by simp);have c:=EG rest (fun x b=>h x (by simp[b])) i j hj;simp only[ln,kO];have e:(i+1)*k+j=k+(i*k+j):=by rw[gA];omega
  rw[e,fF (by omega),hr,jO,c]
theorem Dx{k:Nat}:∀ (a:List (List Value)),(∀ r∈a,r.length=k)->a.flatten.length=a.length*k
 | [],_=>by simp
 | r :: rest,h=>by
  have hr:r.length=k:=h r (by simp);have c:=Dx rest (fun x b=>h x (by simp[b]));simp only[ln,ff,fW,c,hr,gA];omega
structure SlK(w:World)(k:Nat)(a:Option Addr)(n c:Nat)(rows:List (List Value)):Prop where
 len:rows.length=n
 cap:n<=c
 max:c<=maxLen
 wid:∀ r∈rows,r.length=k
 rd:0<n->∃ b off,a=some ⟨b,off,none⟩/\∀ i,i<n->∀ j,j<k->w.cell? ⟨b,off+i*k+j,none⟩=some ((rows.getD i []).getD j undef)
theorem SlK.ext(h:SlK w k a n c rows)(e:Ext w w'):SlK w' k a n c rows :=
 ⟨h.len,h.cap,h.max,h.wid,fun h0=>let ⟨b,off,ha,hc⟩:=h.rd h0;⟨b,off,ha,fun i d j f=>e.cell (hc i d j f)⟩⟩
theorem SlK.nil(w:World)(k:Nat):SlK w k none 0 0 []:=⟨rfl,lrf _,f8 _,(fun _ h=>by cases h),fun h=>absurd h (by omega)⟩
theorem SlK.le(h:SlK w k a n c rows):n<=9223372036854775807:=by
 have h1:=h.cap;have h2:=h.max;unfold maxLen at h2;omega
theorem SlK.row(h:SlK w k a n c rows){i:Nat}(hi:i<n):(rows.getD i []).length=k:=by
 have b:i<rows.length:=by rw[h.len];exact hi
 refine h.wid _ ?_;rw[gqq,eQ b];simp
def AE(w:World)(base:Nat)(e:TypeId)(k:Nat)(a:Option Addr)(n c:Nat)(rows:List (List Value)):Prop:=(∀ r∈rows,r.length=k)/\w.ownsRow base e k (.slice a n c) n rows.flatten
section
variable {w w':World} {base:Nat} {e:TypeId} {k:Nat} {a:Option Addr} {n c:Nat} {rows:List (List Value)}
theorem AE.ext(h:AE w base e k a n c rows)(x:Ext w w'):AE w' base e k a n c rows:=⟨h.1,Mj h.2 x⟩
theorem AE.nil(w:World)(base:Nat)(e:TypeId)(k:Nat):AE w base e k none 0 0 []:=⟨(fun _ h=>by cases h),World.ownsRow_nil w base e k⟩
theorem AE.mono(h:AE w base e k a n c rows)(i:base'<=base):AE w base' e k a n c rows:=by
 obtain⟨h0,h1,h2⟩:=h;refine⟨h0,h1,?_⟩;rcases h2 with h2|⟨g,b,d,f,j,r⟩
 · exact Or.inl h2
 · exact Or.inr ⟨g,b,d,f,by omega,r⟩
theorem AE.kept{row:Option Nat}(h:AE w base e k a n c rows)(f:w.grownBy w' row)(d:blk a=none\/blk a≠row):AE w' base e k a n c rows:=by
 refine⟨h.1,World.ownsRow.kept h.2 f ?_⟩;cases a with
 | none=>left;rfl
 | some b=>right;rcases d with h | h
           · simp[blk]at h
           · simpa[blk,Value.ownBlock]using h
theorem AE.lt(h:AE w base e k a n c rows){g:Nat}(d:blk a=some g):base<=g/\g<w.heap.size:=by
 refine World.ownsRow.lt h.2 g ?_;cases a with
 | none=>simp[blk]at d
 | some b=>simpa[blk,Value.ownBlock]using d
theorem AE.place(h:AE w base e k a n c rows)(l:0<n):∃ g,a=some ⟨g,0,none⟩/\base<=g/\g<w.heap.size:=by
 rcases h.2.2 with⟨_,h0⟩|⟨g,d,f,b,i,j,_⟩
 · omega
 · simp only[eY]at b;refine⟨g,b.1,i,?_⟩;rcases fL g w.heap.size with h|h
   · exact h
   · simp[gN h]at j
theorem AE.len(b:0<k)(h:AE w base e k a n c rows):rows.length=n:=by
 have h1:=h.2.1;rw[Dx rows h.1]at h1;exact jB b h1
theorem AE.slk(v:0<k)(h:AE w base e k a n c rows):SlK w k a n c rows:=by
 have q:=h.len v;obtain⟨h0,h1,h2⟩:=h;rcases h2 with⟨f,A⟩|⟨g,r,d,f,z,s,m,x,B,y⟩
 · simp only[eY]at f;obtain⟨rfl,rfl,rfl⟩:=f;have:rows=[]:=fa q;subst this;exact SlK.nil w k
 · simp only[eY,kX]at f;obtain⟨rfl,rfl⟩:=f;refine⟨q,m,x,h0,fun _=>⟨g,0,rfl,fun i t j p => ?_⟩⟩;have b:i<rows.length:=by omega
   have o:(rows[i]).length=k:=h0 _ (fu b);have h3:=EG rows h0 i j p;rw[eQ b,jF,<-y,List.getElem?_take]at h3;have l:i*k+j<n*k:=by
    have:(i+1)*k<=n*k:=eS k t;rw[gA]at this;omega
   rw[fE l]at h3;rw[fP,lX w g _ d e (0,0) s];have h4:d[i*k+j]?=(rows[i])[j]?:=by rw[<-h3];simp
   rw[h4,eQ (by omega)];simp[b,o,p]
end
section
variable {P:Program} {w:World}
theorem Tr{ty:TypeId}{b i:Nat}(r:Agg P ty k)(h:SlK w k (some ⟨b,off,none⟩) n c rows)(hi:i<n) :
 (Instr.loadAt ty (.pointer (some ⟨b,off+i*k,none⟩))).run P w = .ok (.agg (rows.getD i []).toArray) w:=by
 obtain⟨d,hu,z,a⟩:=r.parts;obtain⟨y,q,e,s⟩:=h.rd (by omega);simp only[fc,gV,iL]at e;obtain⟨rfl,rfl⟩:=e;have m:=h.row hi;have p:(loadCells ⟨b,off+i*k,none⟩ (rows.getD i []).length).run P w = .ok (rows.getD i []).toArray w:=by
  refine run_loadCells_list (P:=P) w _ (rows.getD i []) (fun j v o => ?_);have t:j<k:=by
   rcases fL j k with h|h
   · exact h
   · rw[fi (by omega)]at o;cases o
  have f:(⟨b,off+i*k,none⟩:Addr).add j=⟨b,off+i*k+j,none⟩:=by unfold Addr.add;split <;> simp_all
  rw[f,s i hi j t,gqq,o];rfl
 rw[m]at p;cases l:P.info? ty with
 | none=>simp[l]at a
 | some inf =>
  have x:inf.size=k:=by simpa[l]using a
  have g:(isAgg ty).run P w = .ok true w:=by
   cases d <;> simp_all [isAgg,fQ hu]
  simp[Instr.loadAt,Instr.sureAddr,loadVar,g,Go.sizeOf,typeInfo,l,x,p]
theorem Cq{ty:TypeId}{x:Operand}(e:o.guard=none)(l:o.op = .load ty x)
 {k:Nat} {b a n c i:Nat} {rows:List (List Value)} (j:Agg P ty k) (m:f.eval x = .pointer (some ⟨b,a+i*k,none⟩)) (h:SlK w k (some ⟨b,a,none⟩) n c rows) (hi:i<n)
 (g:wpList P ops Q rest (f.put o.dst (.agg (rows.getD i []).toArray)) w):wpList P ops Q (o :: rest) f w:=by
 refine gu e fun K d => ?_;unfold Oper.wp execOp;simp only[l,m,fq,Tr j h hi,eX,fO,Oper.upon];exact d _ _ g
def Bu(P:Program)(e:TypeId)(zs:List Value)(k bytes:Nat):Prop :=
 (P.info? e).map (fun i=>(i.zero,i.size,i.bytes))=some (some (.agg zs.toArray),k,bytes)/\zs.length=k/\0<k
theorem Bu.parts{P:Program}(h:Bu P e zs k bytes):∃ i,P.info? e=some i/\i.zero=some (.agg zs.toArray)/\i.size=k/\i.bytes=bytes:=by
 obtain⟨h,_,_⟩:=h;cases a:P.info? e with
 | none=>rw[a]at h;cases h
 | some i =>
  rw[a]at h;simp only[i8,fc,j7]at h;exact⟨i,rfl,h.1,h.2.1,h.2.2⟩
theorem Jo{ty:TypeId} 
 (U:P.underlying t=some (.slice e)) (f:Bu P e zs k bytes) (v:AE w base e k a n c rows) (d:SlK w k (some ad) m cx news)
 (h1:∀ r∈news,∀ u∈r,u.oneCell'=true) (h63:n+m<=maxLen) (p:(n+m)*bytes<=140737488355328) (y:base<=w.heap.size) :
 ∃ E N A,(Builtin.append_ #[t,t] ty #[.slice a n c,.slice (some ad) m cx]).run P w = .ok (.slice E (n+m) N) A/\AE A base e k E (n+m) N (rows ++ news) /\
  w.grownBy A (blk a)/\(blk E=blk a\/blk E=some w.heap.size):=by
 obtain⟨i,T,V,z,G⟩:=f.parts;have I:=f.2.2;have M:(Value.agg zs.toArray).cells.size=k:=by simp[Value.cells,f.2.1]
 have s:(Value.slice a n c).ownBlock=blk a:=by cases a <;> rfl
 have q:∀ j u,news.flatten[j]?=some u->w.cell? (ad.add j)=some u:=by
  intro j u hu;have H:j<news.flatten.length:=by
   rcases fL j news.flatten.length with h|h
   · exact h
   · simp[fi h]at hu
  rw[Dx news d.wid,d.len]at H;have J:0<m:=by rcases fj m with h | h;(rw[h,ic]at H;omega);exact h
  obtain⟨b,o,h,S⟩:=d.rd J;injection h with h;subst h;have B:j/k<m:=(gG I).2 H;have D:j%k<k:=fN _ I;have C:j=j/k*k+j%k:=by rw[f9];exact(fY j k).symm
  have h2:=S (j/k) B (j%k) D;have h3:=EG news d.wid (j/k) (j%k) D;rw[<-C,hu]at h3;have O:j/k<news.length:=by rw[d.len];exact B
  rw[eQ O,jF]at h3;have h4:(news.getD (j/k) []).getD (j%k) undef=u:=by
   rw[gqq (l:=news),eQ O,fC,gqq,<-h3];rfl
  rw[h4,i7,<-C]at h2;rw[<-h2];unfold Addr.add;by_cases h0:j=0 <;> simp[h0]
 obtain⟨W,A,x,h2,h3,_,h5⟩:=run_append_own_at (P:=P) w base t ty e i (.agg zs.toArray) k bytes U T V z G M I (.slice a n c) n rows.flatten v.2 ad m cx news.flatten (by rw[Dx news d.wid,d.len]) q (by intro u hu;obtain⟨r,K,hu⟩:=kc.1 hu;exact h1 r K u hu) h63 p y;rw[<-List.flatten_append]at h2;have Q:∀ r∈rows ++ news,r.length=k:=fun r K=>(fo.1 K).elim (v.1 r) (d.wid r);rcases h2.2 with⟨L,h0⟩|⟨g,F,R,L,_⟩
 · subst L;refine⟨none,0,A,by rw[x,h0],⟨Q,?_⟩,by rw[<-s];exact h3,by rw[<-s];exact h5⟩;rw[h0]at h2 |-;exact h2
 · subst L;exact⟨_,F,A,x,⟨Q,h2⟩,by rw[<-s];exact h3,by rw[<-s];exact h5⟩
theorem CC{s x:Operand}(v:o.guard=none)
 (C:o.op = .call { callee := .builtin .append,args:=#[s,x],argTypes:=#[t,t] })
 {e:TypeId} {zs:List Value} {k bytes base:Nat} {a:Option Addr} {n c:Nat} {rows:List (List Value)} {z:Addr} {m A:Nat} {news:List (List Value)}
 (E:P.underlying t=some (.slice e)) (g:Bu P e zs k bytes) (D:f.eval s = .slice a n c) (j:AE w base e k a n c rows) (F:f.eval x = .slice (some z) m A) (y:SlK w k (some z) m A news)
 (h1:∀ r∈news,∀ u∈r,u.oneCell'=true) (h63:n+m<=maxLen) (b:(n+m)*bytes<=140737488355328) (d:base<=w.heap.size)
 (h:∀ i q p,AE p base e k i (n+m) q (rows ++ news)->w.grownBy p (blk a)->(blk i=blk a\/blk i=some w.heap.size)->wpList P ops Q rest (f.put o.dst (.slice i (n+m) q)) p) :
 wpList P ops Q (o :: rest) f w:=by
 refine gu v fun _ B => ?_;obtain⟨i,q,p,l,h2,h3,h4⟩:=Jo (P:=P) (ty:=o.type) E g j y h1 h63 b d;unfold Oper.wp execOp;simp only[C,resolve,invoke,builtin,fq,fO,eX,iB,gM,ix,D,F,l];exact B _ _ (h i q p h2 h3 h4)
theorem Qg(f:zs.length=k)(e:0<k):(madeCells zs.toArray (n*k)).toList=(List.replicate n zs).flatten:=by
 have g:∀ r∈List.replicate n zs,r.length=k:=fun r i=>by rw[(gQ.1 i).2];exact f
 refine iO fun j => ?_;by_cases d:j<n*k
 · have c:j=j/k*k+j%k:=by rw[f9];exact(fY j k).symm
   have b:j/k<n:=(gG e).2 d;have a:j%k<k:=fN _ e;have h3:=EG (List.replicate n zs) g (j/k) (j%k) a;rw[<-c]at h3;rw[h3];simp[madeCells,d,f,b,a]
 · have h1:(madeCells zs.toArray (n*k)).toList.length<=j:=by simp[size_madeCells];omega
   have h2:(List.replicate n zs).flatten.length<=j:=by rw[Dx _ g];simp;omega
   rw[fi h1,fi h2]
end
theorem OY:Agg prog 111 5:=⟨by kernel_rfl,by kernel_rfl⟩
theorem Av:Agg prog 65 2:=⟨by kernel_rfl,by kernel_rfl⟩
theorem R7(h:k<l.length):l.getD k 0∈l:=by
 rw[gqq,eQ h,fC];exact fu h
def XI(w:World)(b0:Nat)(a:Option Addr)(n c:Nat)(xs:List Int):Prop:=SlI w a n c xs/\(0<n->∀ g,blk a=some g->g<b0\/∃ cs fr,w.heap[g]?=some (.cells cs 3 fr))
theorem XI.ext{w b:World}{b0:Nat}{a:Option Addr}{n c:Nat}{xs:List Int}(h:XI w b0 a n c xs)(e:Ext w b):XI b b0 a n c xs:=by
 refine⟨h.1.ext e,fun h0 g i=>(h.2 h0 g i).imp id ?_⟩;rintro⟨d,f,h1⟩;exact⟨d,f,by rw[e.block (gr.1 h1).1];exact h1⟩
def tL(s:Bool)(a:Option Addr)(n c:Nat)(b:Option Addr)(m d:Nat)(e:Option Addr)(k f:Nat):List Value:=Ar s a n c false b m d ++ [.slice e k f]
def TC(w:World)(b0:Nat)(row:List Value)(t:Pl.Tm):Prop:=∃ s a n c b m d e k f,row=tL s a n c b m d e k f/\Hid (decide (t.2.num<0)=s)/\Mg w a n c t.2.num.natAbs/\Mg w b m d (BP t.2).natAbs/\XI w b0 e k f t.1
theorem TC.ext{w g:World}{b0:Nat}{row:List Value}{t:Pl.Tm}(h:TC w b0 row t)(x:Ext w g):TC g b0 row t:=by
 obtain⟨s,a,n,c,b,m,d,e,k,f,h1,h2,h3,h4,h5⟩:=h;exact⟨s,a,n,c,b,m,d,e,k,f,h1,h2,h3.ext x,h4.ext x,h5.ext x⟩
theorem FF{e:Option Addr}{f:Nat}:∀ v∈tL s a n c b m d e k f,v.oneCell'=true:=by
 intro v g;simp only[tL,Ar,Aj,iT,iI,fS,ia,jL]at g;rcases g with rfl|rfl|rfl|rfl|rfl <;> rfl
theorem XI.kept{cs:Array Value}{l:Nat×Nat}(h:XI w b0 a n c xs)(m:w.heap[g]?=some (.cells cs t l))(o:3≠t)(h0:b0<=g)(i:w.grownBy w' (some g)):XI w' b0 a n c xs:=by
 have f:0<n->blk a≠some g:=by
  intro b he;rcases h.2 b g he with h1|⟨d,e,h1⟩
  · omega
  · rw[m]at h1;simp only[fc,jp]at h1;exact o h1.2.1.symm
 refine⟨?_,fun b k j => ?_⟩
 · rcases fj n with b|b
   · subst b;exact⟨Sl.len h.1,Sl.cap h.1,Sl.max h.1,fun h=>absurd h (l9 _)⟩
   · exact Sl.keptR h.1 i (Or.inr (f b))
 · refine(h.2 b k j).imp id ?_;rintro⟨d,e,h1⟩;exact⟨d,e,by rw[i.block k (gr.1 h1).1 (by rw[<-j];exact f b)];exact h1⟩
theorem TC.kept{w r:World}{b0 g:Nat}{t:TypeId}{i:Array Value}{j:Nat×Nat}{row:List Value}{x:Pl.Tm}(h:TC w b0 row x)(p:w.heap[g]?=some (.cells i t j))(v:3≠t)(hu:187≠t)(h0:b0<=g)(o:w.grownBy r (some g)):TC r b0 row x:=by
 obtain⟨s,a,n,c,b,m,d,e,k,f,h1,h2,h3,h4,h5⟩:=h
 have q:∀ l,some g=some l->∃ i t j,w.heap[l]?=some (.cells i t j)/\187≠t:=fun l he=>by
  injection he with he;subst he;exact⟨_,_,_,p,hu⟩
 exact⟨s,a,n,c,b,m,d,e,k,f,h1,h2,h3.kept o q,h4.kept o q,h5.kept p v h0 o⟩
abbrev tz:Pl.Tm:=([],0)
def TSl(w:World)(b0:Nat)(a:Option Addr)(n c:Nat)(l:List Pl.Tm):Prop:=∃ rows,SlK w 5 a n c rows/\l.length=n/\∀ i,i<n->TC w b0 (rows.getD i []) (l.getD i tz)
theorem TSl.ext{w d:World}{b0:Nat}{a:Option Addr}{n c:Nat}{l:List Pl.Tm}(h:TSl w b0 a n c l)(x:Ext w d):TSl d b0 a n c l:=by
 obtain⟨b,h1,h2,h3⟩:=h;exact⟨b,h1.ext x,h2,fun i e=>(h3 i e).ext x⟩
theorem TSl.nil(w:World)(b0:Nat):TSl w b0 none 0 0 []:=⟨[],SlK.nil w 5,rfl,fun i a=>absurd a (by omega)⟩
theorem TSl.len{l:List Pl.Tm}(h:TSl w b0 a n c l):l.length=n:=h.choose_spec.2.1
theorem TSl.le{l:List Pl.Tm}(h:TSl w b0 a n c l):n<=c/\c<=maxLen:=⟨h.choose_spec.1.cap,h.choose_spec.1.max⟩
def TO(w:World)(b0 base:Nat)(a:Option Addr)(n c:Nat)(l:List Pl.Tm):Prop:=∃ rows,AE w base 111 5 a n c rows/\l.length=n/\∀ i,i<n->TC w b0 (rows.getD i []) (l.getD i tz)
theorem TO.ext{w d:World}{b0 base:Nat}{a:Option Addr}{n c:Nat}{l:List Pl.Tm}(h:TO w b0 base a n c l)(x:Ext w d):TO d b0 base a n c l:=by
 obtain⟨b,h1,h2,h3⟩:=h;exact⟨b,h1.ext x,h2,fun i e=>(h3 i e).ext x⟩
theorem TO.sl{l:List Pl.Tm}(h:TO w b0 base a n c l):TSl w b0 a n c l:=by
 obtain⟨b,h1,h2,h3⟩:=h;exact⟨b,h1.slk (by omega),h2,h3⟩
theorem TO.nil(w:World)(b0 base:Nat):TO w b0 base none 0 0 []:=⟨[],AE.nil _ _ _ _,rfl,fun i a=>absurd a (by omega)⟩
theorem TO.mono{w:World}{b0 base b:Nat}{a:Option Addr}{n c:Nat}{l:List Pl.Tm}(h:TO w b0 base a n c l)(e:b<=base):TO w b0 b a n c l:=by
 obtain⟨d,h1,h2,h3⟩:=h;exact⟨d,h1.mono e,h2,h3⟩
theorem TO.lt{w:World}{b0 base:Nat}{a:Option Addr}{n c:Nat}{l:List Pl.Tm}(h:TO w b0 base a n c l){g:Nat}(d:blk a=some g):base<=g/\g<w.heap.size:=by
 obtain⟨b,h1,_⟩:=h;exact h1.lt d
theorem AE.ty(h:AE w base e k a n c rows){g:Nat}(d:blk a=some g):∃ i l,w.heap[g]?=some (.cells i e l):=by
 rcases h.2.2 with⟨b,_⟩|⟨m,f,j,b,_,o,_⟩
 · simp only[eY]at b;rw[b.1]at d;cases d
 · simp only[eY]at b;rw[b.1]at d;have:m=g:=by simpa[blk]using d
   subst this;exact⟨_,_,o⟩
theorem TSl.at{w:World}{b0:Nat}{a:Option Addr}{n c:Nat}{l:List Pl.Tm}(h:TSl w b0 a n c l){i:Nat}(hi:i<n):∃ b d,a=some ⟨b,d,none⟩/\∃ s j r o m q p e k f,w.cell? ⟨b,d+i*5,none⟩=some (.bool s)/\w.cell? ⟨b,d+i*5+1,none⟩=some (.slice j r o)/\w.cell? ⟨b,d+i*5+2,none⟩=some (.bool false)/\w.cell? ⟨b,d+i*5+3,none⟩=some (.slice m q p)/\w.cell? ⟨b,d+i*5+4,none⟩=some (.slice e k f)/\Hid (decide ((l.getD i tz).2.num<0)=s)/\Mg w j r o (l.getD i tz).2.num.natAbs/\Mg w m q p (BP (l.getD i tz).2).natAbs/\XI w b0 e k f (l.getD i tz).1:=by
 obtain⟨t,h1,h2,h3⟩:=h;obtain⟨b,d,v,g⟩:=h1.rd (by omega);obtain⟨s,j,r,o,m,q,p,e,k,f,h4,h5,h6,h7,h8⟩:=h3 i hi;refine⟨b,d,v,s,j,r,o,m,q,p,e,k,f,?_,?_,?_,?_,?_,h5,h6,h7,h8⟩
 · have:=g i hi 0 (by omega);rw[h4]at this;exact this
 · have:=g i hi 1 (by omega);rw[h4]at this;exact this
 · have:=g i hi 2 (by omega);rw[h4]at this;exact this
 · have:=g i hi 3 (by omega);rw[h4]at this;exact this
 · have:=g i hi 4 (by omega);rw[h4]at this;exact this
def TB(N:Nat)(l:List Pl.Tm):Prop:=∀ t∈l,t.1.length=N/\∀ x∈t.1,-1099511627776<=x/\x<=1099511627776
theorem TB.perm{l a:List Pl.Tm}(h:TB N l)(p:a.Perm l):TB N a:=fun t b=>h t (p.subset b)
theorem TB.get{l:List Pl.Tm}(h:TB N l){i:Nat}(hi:i<l.length):(l.getD i tz).1.length=N/\∀ x∈(l.getD i tz).1,-1099511627776<=x/\x<=1099511627776:=by
 rw[gqq,eQ hi,fC];exact h _ (fu hi)
theorem getD_some{l:List Pl.Tm}{i:Nat}(hi:i<l.length):l[i]?=some (l.getD i tz):=by
 rw[gqq,eQ hi,fC]
theorem BZ:Bu prog 111 [.bool false,.slice none 0 0,.bool false,.slice none 0 0,.slice none 0 0] 5 88:=⟨by kernel_rfl,rfl,by omega⟩
theorem SlK.cl{b:Nat}(h:SlK w k (some ⟨b,off,none⟩) n c rows){i j:Nat}(hi:i<n)(f:j<k):w.cell? ⟨b,off+i*k+j,none⟩=some ((rows.getD i []).getD j undef):=by
 obtain⟨g,d,a,e⟩:=h.rd (by omega);simp only[fc,gV,iL]at a;obtain⟨rfl,rfl⟩:=a;exact e i hi j f
theorem TSl.row{l:List Pl.Tm}(h:TSl w b0 a n c l){i:Nat}(hi:i<n):∃ b g d s j r o m q p e k f,a=some ⟨b,g,none⟩/\SlK w 5 a n c d/\d.getD i []=tL s j r o m q p e k f/\Hid (decide ((l.getD i tz).2.num<0)=s)/\Mg w j r o (l.getD i tz).2.num.natAbs/\Mg w m q p (BP (l.getD i tz).2).natAbs/\XI w b0 e k f (l.getD i tz).1:=by
 obtain⟨d,h1,h2,h3⟩:=h;obtain⟨b,g,t,-⟩:=h1.rd (by omega);obtain⟨s,j,r,o,m,q,p,e,k,f,h4,h5⟩:=h3 i hi;exact⟨b,g,d,s,j,r,o,m,q,p,e,k,f,t,h1,h4,h5⟩
theorem TC.grownO{row:List Value}{x:Pl.Tm}(h:TC w b0 row x)(e:AE w base 111 5 a n c rows)(f:b0<=base)(d:w.grownBy w' (blk a)):TC w' b0 row x:=by
 cases b:blk a with
 | none =>
  rw[b]at d;exact h.ext ((Ext.refl w).grown d (fun k i=>by cases i))
 | some g =>
  obtain⟨j,l,h1⟩:=e.ty b;rw[b]at d;exact h.kept h1 (by decide) (by decide) (eW f (e.lt b).1) d
theorem TO.grow{c':Nat}{l:List Pl.Tm}{row:List Value}{t:Pl.Tm}(d:AE w base 111 5 a n c rows)(j:l.length=n)(m:∀ i,i<n->TC w b0 (rows.getD i []) (l.getD i tz))(p:TC w b0 row t)(f:b0<=base)(k:AE w' base 111 5 a' (n+1) c' (rows ++ [row]))(g:w.grownBy w' (blk a)):TO w' b0 base a' (n+1) c' (l ++ [t]):=by
 refine⟨_,k,by simp[j],fun i q => ?_⟩;have o:rows.length=n:=d.len (by omega);by_cases e:i<n
 · have h1:(rows ++ [row]).getD i []=rows.getD i []:=by rw[gqq,f4 (by omega),<-gqq]
   have h2:(l ++ [t]).getD i tz=l.getD i tz:=by rw[gqq,f4 (by omega),<-gqq]
   rw[h1,h2];exact(m i e).grownO d f g
 · have b:i=n:=by omega
   have h1:(rows ++ [row]).getD i []=row:=by rw[gqq,fF (by omega),o,b,iW];rfl
   have h2:(l ++ [t]).getD i tz=t:=by rw[gqq,fF (by omega),j,b,iW];rfl
   rw[h1,h2];exact p.grownO d f g
section
variable {P:Program} {w:World}
theorem Fo(m:P.underlying t=some (.slice e))(b:Bu P e zs k bytes)(l:h<=c) :
 (Instr.sliceAt t (.slice a n c) none (some (.int .i64 h)) none).run P w = .ok (.slice a h c) w:=by
 obtain⟨i,j,o,d,g⟩:=b.parts;have f:(if c=0 then a else a.map (fun x=>x.add 0))=a:=by
  split
  · rfl
  · cases a <;> simp[Addr.add]
 have h0:(0:Int)<=h:=by omega
 have h1:(h:Int)<=c:=by omega
 simp[Instr.sliceAt,Instr.slice,Instr.sliceBounds,Instr.sliceBound,fQ m,asIntOf,sizeOf,typeInfo,j,l,f]
theorem Hw(l:P.underlying t=some (.slice e))(b:Bu P e zs k bytes)(j:h<=n) :
 (Instr.sliceAt t (.slice a n c) (some (.int .i64 h)) none none).run P w = .ok (.slice (if c=h then a else a.map (fun x=>x.add (h*k))) (n-h) (c-h)) w:=by
 obtain⟨i,g,m,d,f⟩:=b.parts;simp[Instr.sliceAt,Instr.slice,Instr.sliceBounds,Instr.sliceBound,fQ l,asIntOf,sizeOf,typeInfo,g,d,j]
end
section
variable {P:Program} {ops:Array Oper} {hs:List Hd} {a0:Act} {C:World->Prop} {i:Nat} {o:Oper}
theorem Fp{x:Operand}(j:o.guard=none)(f:o.op = .slice t x none (some y) none)
 (p:P.underlying t=some (.slice e)) (b:Bu P e zs k bytes) (l:∀ d w,Dd d->Cf ops hs a0 o d w [x,y]->d x = .slice a n c/\d y = .int .i64 h) (m:h<=c) :
 obl P C ops hs a0 i o (he (.slice a h c)) :=
 Ox j fun d w hp _ g=>by
  rw[f]at g;obtain⟨h1,h2⟩:=l d w hp g;simp only[execOp,f,h1,h2,i8,km,fq,Fo p b m,eX,fO]
theorem Hx{x:Operand}(j:o.guard=none)(f:o.op = .slice t x (some y) none none)
 (p:P.underlying t=some (.slice e)) (b:Bu P e zs k bytes) (l:∀ d w,Dd d->Cf ops hs a0 o d w [x,y]->d x = .slice a n c/\d y = .int .i64 h) (m:h<=n) :
 obl P C ops hs a0 i o (he (.slice (if c=h then a else a.map (fun x=>x.add (h*k))) (n-h) (c-h))) :=
 Ox j fun d w hp _ g=>by
  rw[f]at g;obtain⟨h1,h2⟩:=l d w hp g;simp only[execOp,f,h1,h2,i8,km,fq,Hw p b m,eX,fO]
end
theorem TSl.to{l:List Pl.Tm}(q:TSl w b0 a n c l)(f:h<=n):TSl w b0 a h c (l.take h):=by
 obtain⟨d,h1,h2,h3⟩:=q;refine⟨d.take h,⟨by rw[go,h1.len,iF f],eW f h1.cap,h1.max,fun r g=>h1.wid r (iU g),fun h0 => ?_⟩,by rw[go,h2,iF f],fun i e => ?_⟩
 · obtain⟨b,k,m,o⟩:=h1.rd (by omega);refine⟨b,k,m,fun i e j p => ?_⟩;have g:(d.take h).getD i []=d.getD i []:=by rw[gqq,jd e,<-gqq]
   rw[o i (by omega) j p,g]
 · have:=h3 i (by omega);rw[gqq,jd e,<-gqq,gqq (l:=l.take h),jd e,<-gqq];exact this
theorem TSl.fr{l:List Pl.Tm}(q:TSl w b0 a n c l)(s:h<=n):TSl w b0 (if c=h then a else a.map (fun x=>x.add (h*5))) (n-h) (c-h) (l.drop h):=by
 obtain⟨d,h1,h2,h3⟩:=q;have g:=h1.cap;have k:=h1.max;refine⟨d.drop h,⟨by rw[iC,h1.len],by omega,by omega,fun r f=>h1.wid r (jE f),fun h0 => ?_⟩,by rw[iC,h2],fun i o => ?_⟩
 · obtain⟨b,e,rfl,m⟩:=h1.rd (by omega);rw[fl (by omega)];refine⟨b,e+h*5,?_,fun i o j p => ?_⟩
   · show some (Addr.add ⟨b,e,none⟩ (h*5))=_;unfold Addr.add;by_cases h0:h*5=0 <;> simp[h0]
   have f:(d.drop h).getD i []=d.getD (h+i) []:=by rw[gqq,iJ,<-gqq]
   have:=m (h+i) (by omega) j p;rw[gA,<-i7]at this;rw[this,f]
 · have:=h3 (h+i) (by omega);rw[gqq,iJ,<-gqq,gqq (l:=l.drop h),iJ,<-gqq];exact this
def Vb(w:World)(b0:Nat)(l:List Pl.Tm)(e:Ending)(w':World):Prop:=∃ a n c l',e = .returned (.slice a n c)/\Ext w w'/\TSl w' b0 a n c l'/\l'.Perm l/\Pl.desc l'
theorem KH(hp:xs.take k=ys.take k)(h1:k<xs.length)(h2:k<ys.length)(he:(xs.getD k 0 != ys.getD k 0)=false):xs.take (k+1)=ys.take (k+1):=by
 simp[h1,h2]at he;rw[eU h1,eU h2,hp,he]
theorem R8(he:(xs.getD k 0 != ys.getD k 0)=true):xs≠ys:=by
 rintro rfl;simp at he
theorem GR(g:SlI w a n c xs)(j:SlI w b m d ys) :
 Calls prog 17 #[.slice a n c,.slice b m d] w fun e F=>e = .returned (.bool (decide (xs=ys)))/\Qt w F:=by
 have L:=g.le;have E:=j.le;by_cases t:n=m
 · have x:((n:Int) != (m:Int))=false:=by simp[t]
   have y:=eP t;clear t
   go_enter func17,ntmps17
   go_wp2
   go_loopw[5] (fun i wr=>∃ k:Nat,k<=n/\i = .int .i64 k/\Qt w wr/\xs.take k=ys.take k) (fun i _=>n-(intOf i).toNat)
   case atStart=>exact⟨0,f8 _,rfl,Qt.refl _,rfl⟩
   case round =>
    obtain⟨k,K,rfl,l,hp⟩:=hrel;have z:=eP hp;clear hp;have g:=g.ext l.ext;have j:=j.ext l.ext;by_cases q:k<n
    · have f:k<m:=by have:=y.out;omega
      obtain⟨G,M,rfl,o⟩:=g.at q;obtain⟨H,N,rfl,p⟩:=j.at f;have I:=o k q;have J:=p k f;clear o p;generalize r:xs.getD k 0=C at *
      generalize s:ys.getD k 0=D at *
      have A:=eP r;have B:=eP s;clear r s;go_wp2
      go_quiet (fail)
      by_cases he:(C != D)=true
      · go_wp2;go_ret;have:xs≠ys:=R8 (k:=k) (by rw[A.out,B.out];exact he);exact⟨by simp[this],l.drewN _⟩
      · have v:(C != D)=false:=by simpa using he
        go_wp2;go_roundw
        case rel=>exact⟨k+1,by omega,by go_num,l.drewN _,KH z.out (by have:=g.len;omega) (by have:=j.len;omega) (by rw[A.out,B.out];exact v)⟩
        case measure=>simp[intOf];omega
    · go_wp2;go_ret;refine⟨?_,l⟩;have h1:=z.out;have h2:=y.out;rw[eR (by have:=g.len;omega),eR (by have:=j.len;omega)]at h1;simp[h1]
 · have x:((n:Int) != (m:Int))=true:=by simp;omega
   go_enter func17,ntmps17
   go_wp2;go_ret;refine⟨?_,Qt.refl _⟩;have:xs≠ys:=by rintro rfl;exact t (g.len.symm.trans j.len)
   simp[this]
def EH:Int->List Int->Int
 | s,[]=>s
 | s,x :: t=>if x<0\/24-s<x then -1 else EH (s+x) t
def Dy(xs:List Int):Int:=if 6<xs.length then -1 else EH 0 xs
theorem OZ{s:Int}(b:k<xs.length)(h:EH 0 xs=EH s (xs.drop k))(a:xs.getD k 0<0\/24-s<xs.getD k 0):EH 0 xs = -1:=by
 rw[h,fD b];simp only[gqq,eQ b,fC]at a;simp only[EH];rw[fE a]
theorem MM{s:Int}(b:k<xs.length)(h:EH 0 xs=EH s (xs.drop k))(a:¬ (xs.getD k 0<0\/24-s<xs.getD k 0)):EH 0 xs=EH (s+xs.getD k 0) (xs.drop (k+1)):=by
 rw[h,fD b];simp only[gqq,eQ b,fC]at a |-;simp only[EH];rw[fl a]
theorem MN(l:SlI w a n c xs) :
 Calls prog 87 #[.slice a n c] w fun e D=>e = .returned (.int .i64 (Dy xs))/\w=D:=by
 have g:=eP l.len;have x:=l.le;by_cases h6:6<(n:Int)
 · have d:Hid (Dy xs = -1):=by
    show Dy xs = -1;unfold Dy;rw[fE (by rw[g.out];omega)]
   go_enter func87,ntmps87
   go_wp2;go_ret;exact⟨Cd d.out,rfl⟩
 · have d:Hid (Dy xs=EH 0 xs):=by
    show Dy xs=_;unfold Dy;rw[fl (by rw[g.out];omega)]
   go_enter func87,ntmps87
   go_wp2
   go_loop[3,11] (fun v i=>∃ (s:Int) (k:Nat),v = .int .i64 s/\i = .int .i64 k/\k<=n/\0<=s/\s<=24/\Hid (EH 0 xs=EH s (xs.drop k))) (fun _ i=>n-(intOf i).toNat)
   case atStart=>exact⟨0,0,rfl,rfl,f8 _,by omega,by omega,eP rfl⟩
   case round =>
    obtain⟨s,k,rfl,rfl,G,z,A,j⟩:=hrel;by_cases b:k<n
    · obtain⟨E,I,rfl,p⟩:=l.at b;have F:=p k b;have f:k<xs.length:=by rw[g.out];exact b
      have o:=eP (OZ f j.out);have r:=eP (MM f j.out);generalize xs.getD k 0=y at *
      clear p;by_cases C:y<0
      · go_wp2;go_ret;exact⟨Cd (by rw[d.out,o.out (Or.inl C)]),rfl⟩
      · have H:IntKind.i64.wrap (24-s)=24-s:=eT _ (by omega);by_cases m:24-s<y
        · go_wp2;go_ret;exact⟨Cd (by rw[d.out,o.out (Or.inr m)]),rfl⟩
        · have B:IntKind.i64.wrap (s+y)=s+y:=eT _ (by omega);go_wp2;go_round
          case rel=>exact⟨s+y,k+1,by go_num,by go_num,by omega,by omega,by omega,eP (r.out (by omega))⟩
          case measure=>simp[intOf];omega
    · have t:xs.drop k=[]:=fK (by have:=g.out;omega);have q:Hid (Dy xs=s):=by
       show Dy xs=s;rw[d.out,j.out,t];rfl
      go_wp2;go_ret;exact⟨Cd q.out,rfl⟩
def B3(xs:List Int):Bool:=decide (0<=Dy xs)
theorem NZ(b:SlI w a n c xs) :
 Calls prog 57 #[.slice a n c] w fun e d=>e = .returned (.bool (B3 xs))/\w=d:=by
 go_enter func57,ntmps57
 go_wp2_with fail
 refine(MN b).mono ?_;rintro e f ⟨rfl,rfl⟩;go_wp2;go_ret;exact⟨rfl,rfl⟩
theorem O0{x y:Int}:Calls prog 70 #[.int .i64 x,.int .i64 y] w fun e b=>e = .returned (.int .i64 (Pl.cmpI x y))/\b=w:=by
 rcases Int.lt_trichotomy x y with h|h|h
 · have a:Hid (Pl.cmpI x y = -1):=eP (by unfold Pl.cmpI;rw[fE h])
   go_enter func70,ntmps70
   go_wp2;go_ret;exact⟨by rw[a.out];rfl,rfl⟩
 · subst h;have a:Hid (Pl.cmpI x x=0):=eP (Pl.cmpI_zero.2 rfl)
   go_enter func70,ntmps70
   go_wp2;go_ret;exact⟨by rw[a.out];rfl,rfl⟩
 · have a:Hid (Pl.cmpI x y=1):=eP (by unfold Pl.cmpI;rw[fl (by omega),fE h])
   go_enter func70,ntmps70
   go_wp2;go_ret;exact⟨by rw[a.out];rfl,rfl⟩
theorem EI(a:k<xs.length):(xs.take (k+1)).sum=(xs.take k).sum+xs.getD k 0:=by
 have e:xs.getD k 0=xs[k]:=by simp[a]
 rw[eU a,e,List.sum_append];simp only[kj,List.sum_nil,Int.add_zero]
theorem Gr{xs:List Int}{B:Int}(h:∀ x∈xs,-B<=x/\x<=B)(a:0<=B):∀ k,k<=xs.length -> -(B*k)<=(xs.take k).sum/\(xs.take k).sum<=B*k
 | 0,_=>by simp
 | k+1,hk=>by
  have ih:=Gr h a k (by omega);have h1:=h (xs.getD k 0) (by simp[show k<xs.length by omega]);rw[EI (by omega)];have e:B*((k+1:Nat):Int)=B*k+B:=by rw[fI,Int.mul_add];simp
  rw[e];omega
def D9(xs ys:List Int)(k:Nat):Int:=Pl.ordR (xs.take k).reverse (ys.take k).reverse
theorem KJ(xs ys:List Int):D9 xs ys 0=0:=by simp[D9,Pl.ordR]
theorem KK(a:k<xs.length)(b:k<ys.length):D9 xs ys (k+1)=if xs.getD k 0=ys.getD k 0 then D9 xs ys k else Pl.cmpI (ys.getD k 0) (xs.getD k 0):=by
 have c:xs.getD k 0=xs[k]:=by simp[a]
 have d:ys.getD k 0=ys[k]:=by simp[b]
 unfold D9;rw[eU a,eU b,c,d,List.reverse_concat,List.reverse_concat];rfl
theorem N0(K:SlI w a n c xs)(L:SlI w b n d ys)(hn:n<=12)(Q:∀ x∈xs,-1099511627776<=x/\x<=1099511627776)(v:∀ x∈ys,-1099511627776<=x/\x<=1099511627776) :
 Calls prog 86 #[.slice a n c,.slice b n d] w fun e w'=>e = .returned (.int .i64 (Pl.ordE xs ys))/\Qt w w':=by
 have T:=eP (Gr Q (by omega));have U:=eP (Gr v (by omega));have Y:=K.len;have Z:=L.len
 go_enter func86,ntmps86
 go_wp2
 go_loop[5,6,12] (fun V W s=>∃ (k:Nat) (p q:Int),V = .int .i64 p/\W = .int .i64 q/\s = .int .i64 k/\k<=n/\Hid ((xs.take k).sum=p/\(ys.take k).sum=q)) (fun _ _ s=>n-(intOf s).toNat)
 case atStart=>exact⟨0,0,0,rfl,rfl,rfl,f8 _,eP ⟨rfl,rfl⟩⟩
 case round =>
  obtain⟨k,p,q,rfl,rfl,rfl,hk,o⟩:=hrel;have O:=T.out k (by omega);have P:=U.out k (by omega);rw[o.out.1]at O;rw[o.out.2]at P;by_cases i:k<n
  · obtain⟨N,C,rfl,z⟩:=K.at i;obtain⟨t,l,rfl,f⟩:=L.at i;have R:=z k i;have S:=f k i;have m1:=Q (xs.getD k 0) (by simp[show k<xs.length by omega]);have m2:=v (ys.getD k 0) (by simp[show k<ys.length by omega]);have G:Hid ((xs.take (k+1)).sum=p+xs.getD k 0/\(ys.take (k+1)).sum=q+ys.getD k 0):=eP ⟨by rw[EI (by omega),o.out.1],by rw[EI (by omega),o.out.2]⟩;clear z f;generalize xs.getD k 0=x at *
    generalize ys.getD k 0=y at *
    have w1:IntKind.i64.wrap (p+x)=p+x:=eT _ (by omega);have w2:IntKind.i64.wrap (q+y)=q+y:=eT _ (by omega);go_wp2;go_round
    case rel=>exact⟨k+1,p+x,q+y,by first | rfl | go_num,by first | rfl | go_num,by go_num,by omega,G⟩
    case measure=>simp[intOf];omega
  · have I:k=n:=by omega
    subst I
    have D:Hid (Pl.ordE xs ys=if p=q then D9 xs ys k else Pl.cmpI p q):=eP (by
     have h1:=o.out.1;have h2:=o.out.2;unfold Pl.ordE D9;rw[eR (by omega)]at h1 h2 |-;rw[eR (by omega)]
     rw[h1,h2])
    by_cases A:p=q
    · subst A;have g:Hid (Pl.ordE xs ys=D9 xs ys k):=eP (by rw[D.out,fE rfl]);clear O P o D;go_wp2
      go_loopw[9] (fun s wr=>∃ m:Nat,s = .int .i64 ((m:Int)-1)/\m<=k/\Qt w wr/\Hid (D9 xs ys k=D9 xs ys m)) (fun s _=>(intOf s+1).toNat)
      case atStart=>exact⟨k,by first | rfl | go_num,lrf _,Qt.refl _,eP rfl⟩
      case round =>
       obtain⟨m,rfl,hm,B,E⟩:=hrel;by_cases h0:m=0
       · subst h0;have H:Hid (Pl.ordE xs ys=0):=eP (by rw[g.out,E.out,KJ]);go_wp2;go_ret;exact⟨by rw[H.out];rfl,B⟩
       · obtain⟨j,rfl⟩:∃ j,m=j+1:=⟨m-1,by omega⟩;have X:(((j+1:Nat):Int)-1)=(j:Int):=by omega
         rw[X];obtain⟨N,C,rfl,z⟩:=(K.ext B.ext).at (k:=j) (by omega);obtain⟨t,l,rfl,f⟩:=(L.ext B.ext).at (k:=j) (by omega);have R:=z j (by omega);have S:=f j (by omega);have M:=eP (KK (xs:=xs) (ys:=ys) (k:=j) (by omega) (by omega));clear z f;generalize xs.getD j 0=x at *
         generalize ys.getD j 0=y at *
         by_cases r:x=y
         · have F:Hid (D9 xs ys k=D9 xs ys j):=eP (by rw[E.out,M.out,fE r]);subst r;go_wp2
           go_quiet (fail)
           go_wp2;go_roundw
           case rel=>exact⟨j,by first | rfl | go_num,by omega,B.drewN _,F⟩
           case measure=>simp[intOf]
         · have H:Hid (Pl.ordE xs ys=Pl.cmpI y x):=eP (by rw[g.out,E.out,M.out,fl r]);go_wp2
           go_quiet (fail)
           have d1:(wr.drewN nq).cell? ⟨N,C+j,none⟩=some (.int .i64 x):=R;have d2:(wr.drewN nq).cell? ⟨t,l+j,none⟩=some (.int .i64 y):=S;have J:=B.drewN nq;generalize wr.drewN nq=w2 at *
           go_wp2
           go_quiet (exact Calls.quiet_of_same O0)
           go_wp2;go_ret;exact⟨by rw[H.out];rfl,J.drewN _⟩
    · have g:Hid (Pl.ordE xs ys=Pl.cmpI p q):=eP (by rw[D.out,fl A])
      go_wp2_with fail
      refine O0.mono ?_;rintro e w1 ⟨rfl,rfl⟩;go_wp2;go_ret;exact⟨by rw[g.out];rfl,Qt.refl _⟩
theorem O1{x y:Int}(h:x≠y):Pl.cmpI x y=if x<y then -1 else 1:=by
 unfold Pl.cmpI;split
 · rfl
 · rw[fE (by omega)]
theorem EJ(O:SlI w a n c xs)(P:SlI w b n d ys)(hn:n<=12)(V:∀ x∈xs,-1099511627776<=x/\x<=1099511627776)(C:∀ x∈ys,-1099511627776<=x/\x<=1099511627776) :
 Calls prog 79 #[.slice a n c,.slice b n d] w fun e w'=>e = .returned (.int .i64 (Pl.ordE xs ys))/\Qt w w':=by
 have Z:=eP (Gr V (by omega));have HY:=eP (Gr C (by omega));have a1:=O.len;have a2:=P.len
 go_enter func79,ntmps79
 go_wp2
 go_loopw[5,6,7] (fun av bv A wr=>∃ (k:Nat) (p q:Int),av = .int .i64 p/\bv = .int .i64 q/\A = .int .i64 k/\k<=n/\Qt w wr/\Hid ((xs.take k).sum=p/\(ys.take k).sum=q)) (fun _ _ A _=>n-(intOf A).toNat)
 case atStart=>exact⟨0,0,0,rfl,rfl,rfl,f8 _,Qt.refl _,eP ⟨rfl,rfl⟩⟩
 case round =>
  obtain⟨k,p,q,rfl,rfl,rfl,hk,g,v⟩:=hrel;have T:=Z.out k (by omega);have U:=HY.out k (by omega);rw[v.out.1]at T;rw[v.out.2]at U;by_cases o:k<n
  · obtain⟨S,H,rfl,D⟩:=(O.ext g.ext).at o;obtain⟨B,t,rfl,l⟩:=(P.ext g.ext).at o;have W:=D k o;have X:=l k o;have m1:=V (xs.getD k 0) (by simp[show k<xs.length by omega]);have m2:=C (ys.getD k 0) (by simp[show k<ys.length by omega]);have M:Hid ((xs.take (k+1)).sum=p+xs.getD k 0/\(ys.take (k+1)).sum=q+ys.getD k 0):=eP ⟨by rw[EI (by omega),v.out.1],by rw[EI (by omega),v.out.2]⟩;clear D l;generalize xs.getD k 0=x at *
    generalize ys.getD k 0=y at *
    have w1:IntKind.i64.wrap (p+x)=p+x:=eT _ (by omega);have Y:IntKind.i64.wrap (q+y)=q+y:=eT _ (by omega);go_wp2
    go_quiet (fail)
    go_wp2;go_roundw
    case rel=>exact⟨k+1,p+x,q+y,by first | rfl | go_num | exact fV (Value.int .i64) w1,by first | rfl | go_num | exact fV (Value.int .i64) Y,by go_num,by omega,g.drewN _,M⟩
    case measure=>simp[intOf];omega
  · have N:k=n:=by omega
    subst N
    have J:Hid (Pl.ordE xs ys=if p=q then D9 xs ys k else Pl.cmpI p q):=eP (by
     have h1:=v.out.1;have h2:=v.out.2;unfold Pl.ordE D9;rw[eR (by omega)]at h1 h2 |-;rw[eR (by omega)]
     rw[h1,h2])
    by_cases z:p=q
    · subst z;have i:Hid (Pl.ordE xs ys=D9 xs ys k):=eP (by rw[J.out,fE rfl]);clear T U v J;go_wp2
      go_loopw[8] (fun A wr=>∃ m:Nat,A = .int .i64 ((m:Int)-1)/\m<=k/\Qt w wr/\Hid (D9 xs ys k=D9 xs ys m)) (fun A _=>(intOf A+1).toNat)
      case atStart=>exact⟨k,by first | rfl | go_num,lrf _,g,eP rfl⟩
      case round =>
       obtain⟨m,rfl,hm,E,K⟩:=hrel;by_cases h0:m=0
       · subst h0;have I:Hid (Pl.ordE xs ys=0):=eP (by rw[i.out,K.out,KJ]);go_wp2;go_ret;exact⟨by rw[I.out];rfl,E⟩
       · obtain⟨j,rfl⟩:∃ j,m=j+1:=⟨m-1,by omega⟩;have hj:(((j+1:Nat):Int)-1)=(j:Int):=by omega
         rw[hj];obtain⟨S,H,rfl,D⟩:=(O.ext E.ext).at (k:=j) (by omega);obtain⟨B,t,rfl,l⟩:=(P.ext E.ext).at (k:=j) (by omega);have W:=D j (by omega);have X:=l j (by omega);have R:=eP (KK (xs:=xs) (ys:=ys) (k:=j) (by omega) (by omega));clear D l;generalize xs.getD j 0=x at *
         generalize ys.getD j 0=y at *
         by_cases r:x=y
         · have L:Hid (D9 xs ys k=D9 xs ys j):=eP (by rw[K.out,R.out,fE r]);subst r;go_wp2
           go_quiet (fail)
           go_wp2;go_roundw
           case rel=>exact⟨j,by first | rfl | go_num,by omega,E.drewN _,L⟩
           case measure=>simp[intOf]
         · have I:Hid (Pl.ordE xs ys=Pl.cmpI y x):=eP (by rw[i.out,K.out,R.out,fl r]);have Q:=eP (O1 (x:=y) (y:=x) (fun h=>r h.symm));have a0:(j:Int)<k:=by omega
           go_wp2
           go_quiet (fail)
           have d1:(wr.drewN nq).cell? ⟨S,H+j,none⟩=some (.int .i64 x):=W;have d2:(wr.drewN nq).cell? ⟨B,t+j,none⟩=some (.int .i64 y):=X;have F:=E.drewN nq;generalize wr.drewN nq=Y at *
           by_cases G:y<x
           · have f:Hid (Pl.ordE xs ys = -1):=eP (by rw[I.out,Q.out,fE G]);go_wp2
             go_quiet (fail)
             go_wp2;go_ret;exact⟨by rw[f.out];rfl,F.drewN _⟩
           · have f:Hid (Pl.ordE xs ys=1):=eP (by rw[I.out,Q.out,fl G]);go_wp2
             go_quiet (fail)
             go_wp2;go_ret;exact⟨by rw[f.out];rfl,F.drewN _⟩
    · have i:Hid (Pl.ordE xs ys=if p<q then -1 else 1):=eP (by rw[J.out,fl z,O1 z]);by_cases s:p<q
      · have f:Hid (Pl.ordE xs ys = -1):=eP (by rw[i.out,fE s]);go_wp2;go_ret;exact⟨by rw[f.out];rfl,g⟩
      · have f:Hid (Pl.ordE xs ys=1):=eP (by rw[i.out,fl s]);go_wp2;go_ret;exact⟨by rw[f.out];rfl,g⟩
end Go.Proofs.YthdbingomfdeoaaGreatDoor
namespace Go.Proofs.YthdbingomfdeoaaGreatDoor.Pl
variable {a b c:List Int} {i k n:Nat}
theorem JK(e:a.length=n)(d:b.length=n)(f:c.length=n)(h1:0<=ordE a b)(h2:0<=ordE b c):0<=ordE a c:=by
 rcases Int.lt_or_eq_of_le h1 with h1|h1
 · rcases Int.lt_or_eq_of_le h2 with h2|h2
   · exact jf (ordE_trans h1 h2)
   · have:=ordE_eq (d.trans f.symm) h2.symm;subst this;exact jf h1
 · have:=ordE_eq (e.trans d.symm) h1.symm;subst this;exact h2
structure MS(n:Nat)(a b o:List Tm)(i k:Nat):Prop where
 perm:o.Perm (a.take i ++ b.take k)
 d:desc o
 up:∀ t∈o,∀ s,s∈a.drop i\/s∈b.drop k->0<=ordE t.1 s.1
 da:desc a
 db:desc b
 la:∀ t∈a,t.1.length=n
 lb:∀ t∈b,t.1.length=n
theorem MS.start{a b:List Tm}(c:desc a)(d:desc b)(f:∀ t∈a,t.1.length=n)(lb:∀ t∈b,t.1.length=n):MS n a b [] 0 0 :=
 ⟨by simp,List.Pairwise.nil,(fun t e=>by cases e),c,d,f,lb⟩
theorem KL{a:List Tm}(h:desc a){i:Nat}{x:Tm}(b:a[i]?=some x):∀ s∈a.drop (i+1),0<=ordE x.1 s.1:=by
 have c:i<a.length:=(gg.1 b).1;have h1:desc (a.drop i):=List.Pairwise.drop h;rw[fD c]at h1;have h2:a[i]=x:=(gg.1 b).2;rw[h2]at h1;exact(gI.1 h1).1
theorem MS.left{a b o:List Tm}(h:MS n a b o i k){x:Tm}(m:a[i]?=some x)(z:∀ y,b[k]?=some y->0<=ordE x.1 y.1):MS n a b (o ++ [x]) (i+1) k:=by
 have v:i<a.length:=(gg.1 m).1;have l:a[i]=x:=(gg.1 m).2;have q:x∈a:=gT m;have g:a.drop i=x :: a.drop (i+1):=by rw[fD v,l]
 have w:∀ s∈b.drop k,0<=ordE x.1 s.1:=by
  intro s c;cases f:b[k]? with
  | none =>
   rw[fK (List.getElem?_eq_none_iff.1 f)]at c;cases c
  | some y =>
   have p:k<b.length:=(gg.1 f).1;have r:b[k]=y:=(gg.1 f).2;have h0:=z y f;rw[fD p,r]at c;rcases fS.1 c with rfl|j
   · exact h0
   · exact JK (h.la x q) (h.lb y (gT f)) (h.lb s (jE j)) h0 (KL h.db f s j)
 refine⟨?_,?_,?_,h.da,h.db,h.la,h.lb⟩
 · have h1:a.take (i+1)=a.take i ++ [x]:=by rw[eU v,l]
   rw[h1,fZ];exact((h.perm.append_right [x]).trans (by rw[fZ])).trans ((jX).append_left _)
 · refine List.pairwise_append.2 ⟨h.d,jP _ _,fun t e s c => ?_⟩;rw[eV.1 c];exact h.up t e x (Or.inl (by rw[g];exact List.mem_cons_self ..))
 · intro t e s c;rcases fo.1 e with e|e
   · refine h.up t e s (c.imp (fun c => ?_) id);rw[g];exact fX _ c
   · rw[eV.1 e];rcases c with c|c
     · exact KL h.da m s c
     · exact w s c
theorem MS.right{a b o:List Tm}(h:MS n a b o i k){y:Tm}(g:b[k]?=some y)(f:∀ x,a[i]?=some x->0<=ordE y.1 x.1):MS n a b (o ++ [y]) i (k+1):=by
 have h0:MS n b a o k i:=⟨h.perm.trans jX,h.d,fun t e s c=>h.up t e s c.symm,h.db,h.da,h.lb,h.la⟩;have h1:=h0.left g f;exact⟨h1.perm.trans jX,h1.d,fun t e s c=>h1.up t e s c.symm,h.da,h.db,h.la,h.lb⟩
theorem MS.done{a b o:List Tm}(h:MS n a b o a.length b.length):o.Perm (a ++ b):=by
 have:=h.perm
 rwa[kS,kS]at this
end Go.Proofs.YthdbingomfdeoaaGreatDoor.Pl
namespace Go.Proofs.YthdbingomfdeoaaGreatDoor
open Tryz Go Go.RowKit
variable {f:Act} {ops:Array Oper} {neg s:Bool} {Q:Exit->Act->World->Prop} {e:List Int} {rest:List Oper} {den l num r:List UInt8} {cs new vs:List Value} {d g n:Nat} {o:Oper} {x y:Operand} {a b:Option Addr} {q:Rat} {t ty:TypeId} {v:Value}
theorem LB{a:Nat}(b:0<a)(c:0<d):0<a*(d/Nat.gcd a d) :=
 jr b (Nat.div_pos (ld c (jz _ _)) (Nat.gcd_pos_of_pos_left _ b))
def JL(l:List Rat):Nat:=l.foldl (fun a q=>a*(q.den/Nat.gcd a q.den)) 1
theorem R9(l:List Rat):0<JL l:=by
 have:∀ (l:List Rat) (a:Nat),0<a->0<l.foldl (fun a q=>a*(q.den/Nat.gcd a q.den)) a:=by
  intro l
  induction l with
  | nil=>intro a h;exact h
  | cons q r ih=>intro a h;exact ih _ (LB h (iE q.den_nz))
 exact this l 1 (by omega)
theorem AW:Agg prog 135 10:=⟨by kernel_rfl,by kernel_rfl⟩
def AN(e:List Int)(s:Bool)(a:Option Addr)(n c:Nat)(b:Option Addr)(m d:Nat):List Value:=e.map (Value.int .i64) ++ Ar s a n c false b m d
theorem FG:Bu prog 135 (AN [0,0,0,0,0,0] false none 0 0 none 0 0) 10 112:=⟨by kernel_rfl,rfl,by omega⟩
def C6(w:World)(row:List Value)(t:Pl.Tm):Prop:=∃ s a n c b m d,row=AN t.1 s a n c b m d/\t.1.length=6/\JJ w (Ar s a n c false b m d) t.2
theorem C6.ext{w f:World}{row:List Value}{t:Pl.Tm}(h:C6 w row t)(e:Ext w f):C6 f row t:=by
 obtain⟨s,a,n,c,b,m,d,h1,h2,h3⟩:=h;exact⟨s,a,n,c,b,m,d,h1,h2,h3.ext e⟩
def C3(w:World)(a:Option Addr)(n c:Nat)(l:List Pl.Tm):Prop:=∃ rows,SlK w 10 a n c rows/\l.length=n/\∀ i,i<n->C6 w (rows.getD i []) (l.getD i ([],0))
theorem C3.ext{w d:World}{a:Option Addr}{n c:Nat}{l:List Pl.Tm}(h:C3 w a n c l)(e:Ext w d):C3 d a n c l:=by
 obtain⟨b,h1,h2,h3⟩:=h;exact⟨b,h1.ext e,h2,fun i f=>(h3 i f).ext e⟩
theorem BR{c m:Nat}:∀ v∈AN e s a n c b m d,v.oneCell'=true:=by
 intro v f;rcases fo.1 f with f|f
 · obtain⟨x,_,rfl⟩:=fh.1 f;rfl
 · exact Ao _ _ _ _ _ _ _ _ v f
theorem UH(h:e.length=6):∃ a b c d f g,e=[a,b,c,d,f,g]:=by
 match e,h with
 | [a,b,c,d,f,g],_=>exact⟨a,b,c,d,f,g,rfl⟩
def JM(c:UInt8):Bool:=decide (48<=c.toNat) && decide (c.toNat<=57)
theorem Dz{c:UInt8}:JM c=true<->W.isDig c:=by simp[JM,W.isDig]
def pre(l:List UInt8):List UInt8:=l.takeWhile JM
def suf(l:List UInt8):List UInt8:=l.dropWhile JM
theorem EZ(l:List UInt8):pre l ++ suf l=l:=List.takeWhile_append_dropWhile
theorem Jp(l:List UInt8):W.digs (pre l):=fun c a=>by
 induction l with
 | nil=>simp[pre]at a
 | cons x r ih =>
  unfold pre at a ih;rw[List.takeWhile_cons]at a;split at a
  · rename_i h;rcases fS.1 a with rfl|a
    · exact Dz.1 h
    · exact ih a
  · simp at a
theorem O2{d:List UInt8}(a:W.digs d)(e:∀ c,r.head?=some c->¬ W.isDig c):pre (d ++ r)=d/\suf (d ++ r)=r:=by
 induction d with
 | nil =>
  cases r with
  | nil=>exact⟨rfl,rfl⟩
  | cons c t =>
   have:JM c=false:=by
    cases h:JM c with
    | false=>rfl
    | true=>exact absurd (Dz.1 h) (e c rfl)
   simp[pre,suf,this]
 | cons x t ih =>
  have f:JM x=true:=Dz.2 (a x (by simp));have:=ih (fun c b=>a c (by simp[b]));unfold pre suf at *
  simp[f,this]
def Cr(l:List UInt8):(Bool×List UInt8×List UInt8)×Bool :=
 let neg:Bool:=decide (l.head?=some 45)
 let r1:=if neg=true then l.tail else l
 let num:=pre r1
 let r2:=suf r1
 if num=[48]then((neg,num,[]),!neg && decide (r2=[]))
 else if num=[]\/num.head?=some 48 then((neg,num,[]),false)
 else if r2=[]then((neg,num,[]),true)
 else if r2.head?≠some 47 then((neg,num,[]),false)
 else((neg,num,pre r2.tail),decide (suf r2.tail=[]) && decide (pre r2.tail≠[]) && decide ((pre r2.tail).head?≠some 48) && decide (pre r2.tail≠[49]))
structure Spl(l:List UInt8)(neg:Bool)(num den:List UInt8):Prop where
 eq:l=(if neg=true then [45]else []) ++ (num ++ (if den=[]then []else 47 :: den))
 dn:W.digs num
 dd:W.digs den
 ne:num≠[]
 z:num.head?=some 48->num=[48]/\neg=false/\den=[]
 nd:den.head?≠some 48
 n1:den≠[49]
theorem TL:¬ W.isDig 45:=by simp[W.isDig]
theorem TM:¬ W.isDig 47:=by simp[W.isDig]
theorem Spl.split{l f a:List UInt8}{neg:Bool}(h:Spl l neg f a):Cr l=((neg,f,a),true):=by
 obtain⟨rfl,h1,h2,h3,h4,h5,h6⟩:=h;obtain⟨c,t,rfl⟩:=iq h3;have q:c≠45:=by rintro rfl;exact TL (h1 45 (by simp))
 have e:decide (((if neg=true then [45]else []) ++ ((c :: t) ++ (if a=[]then []else 47 :: a))).head?=some 45)=neg:=by
  cases neg <;> simp[q]
 have k:(if neg=true then((if neg=true then [45]else []) ++ ((c :: t) ++ (if a=[]then []else 47 :: a))).tail else(if neg=true then [45]else []) ++ ((c :: t) ++ (if a=[]then []else 47 :: a)))=(c :: t) ++ (if a=[]then []else 47 :: a):=by
  cases neg <;> simp
 have hp:=O2 (d:=c :: t) (r:=if a=[]then []else 47 :: a) h1 (by
  intro x g;split at g
  · simp at g
  · simp only[List.head?_cons,fc]at g
    subst g;exact TM)
 unfold Cr;simp only[e,k,hp.1,hp.2];by_cases m:c=48
 · subst m;obtain⟨n,o,p⟩:=h4 rfl;subst o p;rw[fE n];simp
 · have j:¬ (c :: t=[48]):=by intro h;simp at h;exact m h.1
   rw[fl j,fl (by simp[m])];by_cases i:a=[]
   · subst i;simp
   · simp only[fl i];rw[fl (by simp),fl (by simp)];have b:=O2 (d:=a) (r:=[]) h2 (by simp);rw[gR]at b;simp only[kJ,b.1,b.2];simp[i,h5,h6]
theorem KM(h:Cr l=((neg,num,den),true)):Spl l neg num den:=by
 unfold Cr at h;simp only at h;generalize b:decide (l.head?=some 45)=k at h;generalize a:(if k=true then l.tail else l)=i at h;have j:l=(if k=true then [45]else []) ++ i:=by
  cases k with
  | true =>
   simp only[iY]at b;simp only[j0]at a |-;cases l with
   | nil=>simp at b
   | cons c t=>simp at b a;rw[b,a];rfl
  | false=>simp at a |-; exact a
 have f:=EZ i;have e:=Jp i;generalize pre i=n at *
 generalize suf i=m at *
 split at h
 · rename_i h0;simp only[j7,gJ,lu,iY]at h;obtain⟨⟨rfl,rfl,rfl⟩,rfl,rfl⟩:=h;subst h0;exact⟨by rw[j,<-f];simp,e,by simp[W.digs],by simp,fun _=>⟨rfl,rfl,rfl⟩,by simp,by simp⟩
 · split at h
   · simp at h
   · rename_i h0 h1;simp only[not_or]at h1;split at h
     · rename_i h2;simp only[j7,iL]at h;obtain⟨rfl,rfl,rfl⟩:=h;subst h2;exact⟨by rw[j,<-f];simp,e,by simp[W.digs],h1.1,fun h=>absurd h h1.2,by simp,by simp⟩
     · split at h
       · simp at h
       · rename_i h2 h3;have g:m.head?=some 47:=fk h3;obtain⟨c,t,rfl⟩:=iq h2;simp only[List.head?_cons,fc]at g;subst g;simp only[kJ,j7,gJ]at h;obtain⟨⟨rfl,rfl,rfl⟩,⟨⟨h4,h5⟩,h6⟩,h7⟩:=h;have h4:=gC h4;have h5:=gC h5;have h6:=gC h6;have h7:=gC h7;have d:=EZ t;rw[h4,gR]at d;refine⟨?_,e,Jp t,h1.1,fun h=>absurd h h1.2,h6,h7⟩;rw[j,<-f,fl h5,d]
theorem LC(z:Int):Lib.itoa z=(if z<0 then [45]else []) ++ Lib.decDigits z.natAbs:=by
 unfold Lib.itoa;split
 · rfl
 · rw[show z.toNat=z.natAbs by omega];rfl
theorem O3(h:(Lib.decDigits n).head?=some 48):n=0:=by
 rcases fj n with h0|h0
 · exact h0
 · obtain⟨c,r,e,a⟩:=W.dec_head h0;rw[e]at h;simp at h;exact absurd h a
def AZ(l:List UInt8):Option Rat :=
 let p:=Cr l
 if p.2=true then
  let n:Int:=if p.1.1=true then -(W.decV p.1.2.1:Int)else W.decV p.1.2.1
  if p.1.2.2=[]then some (mkRat n 1)else if n.natAbs.gcd (W.decV p.1.2.2)=1 then some (mkRat n (W.decV p.1.2.2))else none
 else none
theorem O4(q:Rat):Spl (txt q) (decide (q.num<0)) (Lib.decDigits q.num.natAbs) (if q.den=1 then []else Lib.decDigits q.den):=by
 have a:=q.den_nz;refine⟨?_,W.digs_dec _,?_,W.dec_ne _,?_,?_,?_⟩
 · unfold txt;rw[LC];by_cases h:q.den=1
   · simp[h]
   · simp[h,W.dec_ne]
 · split
   · simp[W.digs]
   · exact W.digs_dec _
 · intro h;have h0:=O3 h;have b:q.num=0:=by omega
   have c:=Pl.rat_num_den_zero.1 b;refine⟨by rw[h0,W.dec_zero],by simp[b],?_⟩;subst c;rfl
 · split
   · simp
   · intro h;exact a (O3 h)
 · split
   · simp
   · rename_i h1;intro h;have:=fV W.decV h;rw[W.decV_dec]at this;exact h1 (by rw[this];rfl)
theorem E0(q:Rat):AZ (txt q)=some q:=by
 have h:=(O4 q).split;unfold AZ;simp only[h,j0];have a:(if decide (q.num<0)=true then -((W.decV (Lib.decDigits q.num.natAbs):Nat):Int)else((W.decV (Lib.decDigits q.num.natAbs):Nat):Int))=q.num:=by
  rw[W.decV_dec];by_cases h:q.num<0
  · simp only[h,jU,j0];omega
  · simp only[h,kD];simp;omega
 rw[a];by_cases h1:q.den=1
 · simp only[h1,j0];have:=kG q;rw[h1]at this;rw[this]
 · simp only[fl h1,fl (W.dec_ne _),W.decV_dec];rw[fE q.reduced,kG]
theorem DA(h:AZ l=some q):l=txt q:=by
 unfold AZ at h;generalize hp:Cr l=p at h;obtain⟨⟨j,a,b⟩,y⟩:=p;simp only at h;cases y with
 | false=>simp at h
 | true =>
  have i:=KM hp;simp only[j0]at h;generalize w:(if j=true then -((W.decV a:Nat):Int)else((W.decV a:Nat):Int))=n at h
  have g:Lib.decDigits (W.decV a)=a:=W.dec_of_digs i.dn i.ne (fun c r e s=>by
   have:=(i.z (by rw[e,s];rfl)).1;rw[e]at this;simp at this
   exact this.2)
  have k:n.natAbs=W.decV a:=by rw[<-w];split <;> omega
  have v:n<0<->j=true:=by
   rw[<-w];cases j with
   | false=>simp
   | true =>
    simp only[j0,iff_true];have h0:W.decV a≠0:=by
     intro h0;rw[h0,W.dec_zero]at g;have:=(i.z (by rw[<-g];rfl)).2.1;simp at this
    omega
  have o:Lib.itoa n=(if j=true then [45]else []) ++ a:=by
   rw[LC,k,g];simp only[v]
  by_cases m:b=[]
  · rw[fE m]at h;simp only[fc]at h;have:=Pl.rat_eq_mk (q:=q) (n:=n) (d:=1) (by omega) (li _) h.symm;rw[i.eq,txt,this.1,this.2,o,m];simp
  · rw[fl m]at h;split at h
    · rename_i x;simp only[fc]at h
      have f:Lib.decDigits (W.decV b)=b:=W.dec_of_digs i.dd m (fun c r e s=>by
       have:=i.nd;rw[e,s]at this
       simp at this)
      have hd0:W.decV b≠0:=by
       intro h0;rw[h0,W.dec_zero]at f;have:=i.nd;rw[<-f]at this;simp at this
      have t:W.decV b≠1:=by
       intro h0;rw[h0]at f;have:=i.n1;rw[<-f]at this;exact this (by rw[Lib.decDigits];rfl)
      have:=Pl.rat_eq_mk (q:=q) (n:=n) (d:=W.decV b) hd0 x h.symm;rw[i.eq,txt,this.1,this.2,o,fl m,fl t,f];simp
    · simp at h
section
variable {P:Program} {w:World}
theorem Qh{o:Nat}(c:(P.info? ty).map (·.size)=some vs.length)(j:v.cells=vs.toArray)(h:Arr w g t cs)(f:o+vs.length<=cs.length)(h1:∀ v∈vs,v.oneCell'=true)(b:cs.take o ++ vs ++ cs.drop (o+vs.length)=new) :
 ∃ e,(Instr.storeAt ty (.pointer (some ⟨g,o,none⟩)) v).run P w = .ok () e/\Arr e g t new/\w.grownBy e (some g):=by
 have a:=run_storeCells_at (P:=P) g o t vs 0 cs.toArray w h (by simpa using f) h1;rw[gd]at a;simp only[b]at a;refine⟨w.setRow g new.toArray,?_,CZ h new,Ce w g _⟩;cases d:P.info? ty with
 | none=>simp[d]at c
 | some inf =>
  have i:inf.size=vs.length:=by simpa[d]using c
  simp[Instr.storeAt,Instr.sureAddr,storeVar,Go.sizeOf,typeInfo,d,j,i,a]
theorem C4(j:o.guard=none)(n:o.op = .store ty x y)
 {g a:Nat} {t:TypeId} {cs:List Value} (vs d:List Value) {v:Value} (k:(P.info? ty).map (·.size)=some vs.length) (q:f.eval x = .pointer (some ⟨g,a,none⟩)) (r:f.eval y=v) (p:v.cells=vs.toArray) (h:Arr w g t cs) (m:a+vs.length<=cs.length) (h1:∀ v∈vs,v.oneCell'=true) (b:cs.take a ++ vs ++ cs.drop (a+vs.length)=d)
 (l:∀ e,Arr e g t d->w.grownBy e (some g)->wpList P ops Q rest (f.put o.dst undef) e):wpList P ops Q (o :: rest) f w:=by
 refine gu j fun K i => ?_;obtain⟨e,c,h2,h3⟩:=Qh (P:=P) k p h m h1 b;unfold Oper.wp execOp;simp only[n,q,r,fq,c,eX,fO,Oper.upon];exact i _ _ (l _ h2 h3)
end
end Go.Proofs.YthdbingomfdeoaaGreatDoor
