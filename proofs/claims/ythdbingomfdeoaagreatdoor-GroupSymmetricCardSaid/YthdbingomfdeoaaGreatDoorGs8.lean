/- Part Gs8. -/
import Derived.Test.YthdbingomfdeoaaGreatDoorGs7

set_option linter.all false
set_option maxRecDepth 100000
set_option maxHeartbeats 100000000
namespace Go.Proofs.YthdbingomfdeoaaGreatDoor
open Tryz Go Go.RowKit
def fD:=@Option.some.inj
def iJ:=@Nat.pow_le_pow_left
def jC:=@Nat.gcd_one_right
def jM:=@Nat.pos_of_ne_zero
def lH:=@Nat.gcd_pos_of_pos_right
def mq:=@Nat.div_one
variable {s s':Bool} {z:Int} {xs ys:List Nat} {l:List UInt8} {cs cs' vs:List Value} {M R R' base c c' c0 d g m n n0 nc u wd:Nat} {o:Oper} {y:Operand} {a a' a0 b pa:Option Addr} {q:Rat} {T e ty ty':TypeId} {v v':Value} {w w' w1 w9 wb wr wx:World}
def ckS(T x n:Nat):List Nat:=(List.range n).map fun i=>x/T^i%T
theorem W3{T x i:Nat}(h:i<n):(ckS T x n).getD i 0=x/T^i%T:=by simp[ckS,h]
theorem UA(T x n:Nat):ckS T x n ++ [x/T^n%T]=ckS T x (n+1):=by simp[ckS,List.range_succ]
theorem UB{x k:Nat}(c:x<18446744073709551616^m)(b:10000000000000000000^k<=x):k<=2*m:=by
 refine fR fun a => ?_;have h1:18446744073709551616^m<=10000000000000000000^(2*m):=by
  rw[ju];exact iJ (by decide) m
 have h2:10000000000000000000^(2*m)<=10000000000000000000^k:=fx (by omega) (by omega);omega
structure XN(w wr:World)(x:Nat)(ak:Option Addr)(nk ck:Nat)(ac:Option Addr)(nc cc:Nat)(ys:List Nat):Prop where
 ext:Ext w wr
 wk:Own wr w.heap.size 101 ak nk ck (ys.map (B7 .u64))
 ch:Own wr w.heap.size 101 ac nc cc ((ckS 10000000000000000000 x nc).map (B7 .u64))
 sep:∀ k,blk ac=some k->blk ak≠some k
 num:Num 18446744073709551616 ys (x/10000000000000000000^nc)
 top:nc=0\/10000000000000000000^(nc-1)<=x
def KpT(w wr:World)(a0 a:Option Addr):Prop:=w.heap.size<=wr.heap.size/\(blk a=blk a0\/∃ k,blk a=some k/\w.heap.size<=k)/\∀ k,k<w.heap.size->some k≠blk a0->wr.heap[k]?=w.heap[k]?
theorem KpT.of_ext(a:Option Addr)(h:Ext w wr):KpT w wr a a:=⟨h.size,Or.inl rfl,fun _ b _=>h.block b⟩
theorem KpT.ext(h:KpT w wr a0 a)(e:Ext wr wx):KpT w wx a0 a :=
 ⟨ft h.1 e.size,h.2.1,fun k c b=>(e.block (fN c h.1)).trans (h.2.2 k c b)⟩
theorem KpT.far(h:KpT w wr a0 a)(c:wr.grownBy wx (some g))(e:w.heap.size<=g):KpT w wx a0 a :=
 ⟨ft h.1 c.size,h.2.1,fun k d b=>(c.block k (fN d h.1) (fun he=>by cases he;omega)).trans (h.2.2 k d b)⟩
theorem KpT.grown(h:KpT w wr a0 a)(d:wr.grownBy wx (blk a))(b:blk a'=blk a\/blk a'=some wr.heap.size):KpT w wx a0 a':=by
 refine⟨ft h.1 d.size,?_,fun k e c=>(d.block k (fN e h.1) (fun he => ?_)).trans (h.2.2 k e c)⟩
 · rcases b with b|b
   · rw[b];exact h.2.1
   · exact Or.inr ⟨_,b,h.1⟩
 · rcases h.2.1 with h1|⟨j,h1,h2⟩
   · exact c (he.trans h1)
   · rw[h1]at he;cases he;omega
theorem KpT.trans{w g i:World}{c d e:Option Addr}(h:KpT w g c d)(b:KpT g i d e):KpT w i c e:=by
 refine⟨ft h.1 b.1,?_,fun k f a=>(b.2.2 k (fN f h.1) (fun he => ?_)).trans (h.2.2 k f a)⟩
 · rcases b.2.1 with h1|⟨j,h1,h2⟩
   · rw[h1];exact h.2.1
   · exact Or.inr ⟨j,h1,ft h.1 h2⟩
 · rcases h.2.1 with h1|⟨j,h1,h2⟩
   · exact a (he.trans h1)
   · rw[h1]at he;cases he;omega
def QU(wb w:World)(a0:Option Addr)(l:List UInt8)(e:Ending)(w':World):Prop:=∃ a n c,e = .returned (.slice a n c)/\Own w' wb.heap.size 5 a n c (l.map AG)/\Ext wb w'/\KpT w w' a0 a
theorem QU.ap{e:Ending}(h:QU wb w a0 l e w'):Jg wb l e w':=by
 obtain⟨a,n,c,h1,h2,h3,_⟩:=h;exact⟨a,n,c,h1,h2,h3⟩
def cpT(x wd nc k:Nat):List UInt8:=if k=nc then []else W.padD (wd-19*k) (x/10000000000000000000^k)
theorem M8(x wd a:Nat):cpT x wd a a=[]:=fG rfl
structure W4(wb w0 wr:World)(a0:Option Addr)(x wd nc G:Nat)(l:List UInt8)(ac:Option Addr)(cc n0 k:Nat)(a:Option Addr)(n c:Nat):Prop where
 ext:Ext wb wr
 tx:Own wr wb.heap.size 5 a n c ((l ++ cpT x wd nc k).map AG)
 ch:Own wr wb.heap.size 101 ac nc cc ((ckS 10000000000000000000 x nc).map (B7 .u64))
 buf:∃ cs,Arr wr G 282 cs/\cs.length=20
 sep1:∀ k,blk ac=some k->blk a≠some k/\k≠G
 sep2:blk a≠some G
 gb:wb.heap.size<=G
 gw:w0.heap.size<=G
 kp:KpT w0 wr a0 a
 len:n<=n0+(if k=nc then 0 else wd)+20*(nc-k)
theorem VF{x k:Nat}(d:k+1<nc)(c:nc=0\/10000000000000000000^(nc-1)<=x)(hu:x/10000000000000000000^k%10000000000000000000=u) :
 cpT x wd nc (k+1) ++ List.replicate (19-(Lib.decDigits u).length) 48 ++ Lib.decDigits u=cpT x wd nc k:=by
 have a:u<10^19:=by rw[<-hu];exact gx _ (by decide)
 have b:0<x/10000000000000000000^(k+1):=by
  refine Nat.div_pos ?_ (jd (by omega));rcases c with h|h
  · omega
  · exact ft (fx (by omega) (by omega)) h
 have he:x/10000000000000000000^k=x/10000000000000000000^(k+1)*10^19+u:=by
  rw[gr,<-lN,<-hu];have:=gM (x/10000000000000000000^k) 10000000000000000000;rw[fJ]at this;exact this.symm
 unfold cpT;have hp:W.padD 19 u=List.replicate (19-(Lib.decDigits u).length) 48 ++ Lib.decDigits u:=W.padD_dec (by omega);rw[fl (by omega),fl (by omega),he,W.padD_split b a (by omega),hp,ge];have e:wd-19*(k+1)=wd-19*k-19:=by omega
 rw[e]
theorem UC{x k:Nat}(b:x<10000000000000000000^(k+1))(a:k+1=0\/10000000000000000000^(k+1-1)<=x)(hu:x/10000000000000000000^k%10000000000000000000=u) :
 List.replicate (wd-19*k-(Lib.decDigits u).length) 48 ++ Lib.decDigits u=cpT x wd (k+1) k:=by
 have h1:x/10000000000000000000^k<10000000000000000000:=by
  rw[ie (jd (by omega)),fJ,<-gr];exact b
 have h2:0<x/10000000000000000000^k:=by
  refine Nat.div_pos ?_ (jd (by omega));rcases a with h|h
  · omega
  · exact h
 rw[j8 h1]at hu;unfold cpT;rw[fl (by omega),hu,W.padD_pos (by omega)]
theorem W5{x:Nat}(h:nc≠0):cpT x wd nc 0=W.padD wd x:=by
 unfold cpT;rw[fl (by omega),kV,mq,lr,jn]
structure VG(wb w0 wr:World)(a0:Option Addr)(nc G gc cc u n0:Nat)(cs:List Nat)(t:List UInt8)(a:Option Addr)(n c:Nat):Prop where
 ext:Ext wb wr
 tx:Own wr wb.heap.size 5 a n c (t.map AG)
 ch:Ay .u64 wr wb.heap.size 101 gc nc cc cs
 buf:∃ bs,Arr wr G 282 bs/\bs.length=20/\bs.take (Lib.decDigits u).length=(Lib.decDigits u).map AG
 sep1:blk a≠some gc
 sep2:blk a≠some G
 len:n<=n0
 kp:KpT w0 wr a0 a
theorem PV(b:Bk w)(a:Arr w g T cs)(c:cs.length=20)(hu:u<18446744073709551616) :
 Calls prog 180 #[.slice (some ⟨g,0,none⟩) 0 20,.int .u64 u,.int .i64 10] w (WZ w g T u):=by
 have h:=qh (IQ (l:=[]) (n:=0) b a c rfl (by omega) rfl hu)
 go_enter func180,ntmps180
 go_wp2_with fail
 refine h.out.mono ?_;rintro e d ⟨rfl,h1,h2⟩;go_wp2;go_ret;exact⟨rfl,h1,h2⟩
theorem M9{v:Nat}(h:Own w base e a n c (ys.map (B7 .u64)))(d:Num 18446744073709551616 ys v):n=0<->v=0:=by
 have b:ys.length=n:=by have:=h.len;simpa using this
 constructor
 · intro h0;subst h0;have:ys=[]:=fk b;subst this;exact d.val.symm
 · intro h0;have h1:=(W.nrm_zero (B:=18446744073709551616) (by omega) d.nrm).1 (by rw[d.val,h0]);rw[h1]at b;exact b.symm
theorem De{x:Nat}(hT:Bk wb)(hE:Ext wb w)(hO:Own w wb.heap.size 5 a n c (l.map AG))(hx:SlN .u64 w b m d xs)(ae:Num 18446744073709551616 xs x)(hm:m<=1000)(hn:n<=1000000)(bB:wd<=1000000) :
 Calls prog 212 #[.slice a n c,.slice b m d,.int .i64 wd] w (QU wb w a (l ++ W.padD wd x)):=by
 have aI:x<18446744073709551616^m:=by
  have:=W.val_lt ae.bnd;rw[ae.val,hx.len]at this;exact this
 have aB:=qh aI;have bl:=qh ae;have b7:=qh (ES hx (by omega));clear aI
 go_enter func212,ntmps212
 go_wp2_with fail
 refine b7.out.mono ?_;rintro e w1 ⟨ak,ck,rfl,aW,be⟩;go_wp2
 go_loopw[7,8] (fun kv cv wr=>∃ (ak:Option Addr) (nk ck:Nat) (ac:Option Addr) (f X:Nat) (ys:List Nat),kv = .slice ak nk ck/\cv = .slice ac f X/\nk<=m/\XN w wr x ak nk ck ac f X ys) (fun _ cv _=>match cv with | .slice _ k _=>2*m+1-k | _=>0)
 case atStart=>exact⟨ak,m,ck,none,0,0,xs,rfl,rfl,lrf _,aW,be,Own.nil _ _ _,(by intro k h;cases h),(by rw[kV,mq];exact ae),Or.inl rfl⟩
 case round =>
  obtain⟨ak,nk,ck,ac,f,X,ys,rfl,rfl,bw,T⟩:=hrel;have HY:Hid (ys.length=nk):=qh (by have:=T.wk.len;simpa using this);have HZ:=qh (M9 T.wk T.num);by_cases h0:nk=0
  · subst h0;have ad:=HZ.out.1 rfl;have J:=T.ext;have an:=T.ch;have ag:=qh T.top;have az:Hid (x<10000000000000000000^f):=qh ((Nat.div_eq_zero_iff_lt (jd (by omega))).1 ad);have br:f<=2*m+1:=by
     rcases ag.out with h|h
     · omega
     · have:=UB aB.out h;omega
    clear T ad HZ HY;go_wp2;obtain⟨G,hG⟩:∃ G:Nat,G=wr.heap.size:=⟨_,rfl⟩;have aE:Ext wb (wr.alloc (.cells #[.int .u8 0,.int .u8 0,.int .u8 0,.int .u8 0,.int .u8 0,.int .u8 0,.int .u8 0,.int .u8 0,.int .u8 0,.int .u8 0,.int .u8 0,.int .u8 0,.int .u8 0,.int .u8 0,.int .u8 0,.int .u8 0,.int .u8 0,.int .u8 0,.int .u8 0,.int .u8 0] 282)):=(hE.trans J).alloc _
    have aD:W4 wb w (wr.alloc (.cells #[.int .u8 0,.int .u8 0,.int .u8 0,.int .u8 0,.int .u8 0,.int .u8 0,.int .u8 0,.int .u8 0,.int .u8 0,.int .u8 0,.int .u8 0,.int .u8 0,.int .u8 0,.int .u8 0,.int .u8 0,.int .u8 0,.int .u8 0,.int .u8 0,.int .u8 0,.int .u8 0] 282)) a x wd f G l ac X n f a n c:=by
     have bx:=(hE.trans J).size;refine⟨aE,?_,(an.mono hE.size).alloc _,⟨_,by rw[hG];exact Arr.new wr _ [_,_,_,_,_,_,_,_,_,_,_,_,_,_,_,_,_,_,_,_],rfl⟩,?_,?_,by omega,by have:=J.size;omega,KpT.of_ext a (J.alloc _),by rw[fG rfl];omega⟩
     · rw[M8,iO];exact(hO.ext J).alloc _
     · intro k I;have h1:=an.lt I;refine⟨fun he => ?_,by omega⟩;have h2:=hO.lt he;omega
     · intro he;have h2:=(hO.ext J).lt he;omega
    have t:=qh aD;clear aD aE an;have HW:=qh J.size;rw[<-hG];clear hG J
    go_loopw[0,12,13] (fun tv fv iv s=>∃ (k:Nat) (M:Option Addr) (nt ct:Nat),tv = .slice M nt ct/\fv = .bool (decide (k=f))/\iv = .int .i64 ((k:Int)-1)/\k<=f/\Hid (W4 wb w s a x wd f G l ac X n k M nt ct)) (fun _ _ v _=>(intOf v+1).toNat)
    case atStart=>exact⟨f,a,n,c,rfl,by simp,rfl,lrf _,t⟩
    case round =>
     clear t;obtain⟨k,M,nt,ct,rfl,rfl,rfl,I,t⟩:=hrel;cases k with
     | zero =>
      by_cases aH:f=0
      · subst aH;have bj:x=0:=by
         have:=az.out;rw[kV]at this;omega
        have aV:=qh bj;go_wp2
        go_loopw[0,82] (fun tv jv s=>∃ (j:Nat) (a4:Option Addr) (S c4:Nat),tv = .slice a4 S c4/\jv = .int .i64 j/\j<=wd/\S<=n+j+wd/\Ext wb s/\KpT w s a a4/\Own s wb.heap.size 5 a4 S c4 ((l ++ List.replicate j 48).map AG)) (fun _ jv _=>wd-(intOf jv).toNat)
        case atStart=>exact⟨0,M,nt,ct,rfl,rfl,fu _,by have:=t.out.len;rw[fG rfl]at this;omega,t.out.ext,t.out.kp,by have:=t.out.tx;rw[M8]at this;exact this⟩
        case round =>
         clear t;obtain⟨j,a4,S,c4,rfl,rfl,hj,bu,D,aF,N⟩:=hrel;by_cases bd:j<wd
         · have z:∀ k,blk a4=some k->wb.heap.size<=k:=fun k I=>(N.lt I).1;have hA:=N.alloc (.cells #[.int .u8 48] 5);have al:=(Au wr wb.heap.size 5 #[.int .u8 48] 1 rfl D.size (by omega)).sl
           go_wp2_with(refine BS rfl rfl underlying159 D5 rfl rfl hA rfl al (by simp[Value.oneCell']) (by unfold maxLen;omega) (by omega) (by simp;have:=D.size;omega) ?_;intro a7 c7 w7 O o A)
           have aY:Ext wb w7:=(D.alloc _).grown o z;have b0:=(aF.ext ((Ext.refl _).alloc (.cells #[.int .u8 48] 5))).grown o A;have b1:Own w7 wb.heap.size 5 a7 (S+1) c7 ((l ++ List.replicate (j+1) 48).map AG):=by
            rw[kA,<-ge,fY];exact O
           go_roundw
           case rel=>exact⟨j+1,a7,S+1,c7,rfl,by go_num,by omega,by omega,aY,b0,b1⟩
           case measure=>simp[intOf];omega
         · have am:j=wd:=by omega
           subst am;go_wp2;go_ret;exact⟨a4,S,c4,rfl,by rw[aV.out,W.padD_zero];exact N,D,aF⟩
      · have Q:decide (0=f)=false:=by simp;omega
        have aS:=qh aH;rw[Q];go_wp2;go_ret;exact⟨M,nt,ct,rfl,by rw[<-W5 aS.out];exact t.out.tx,t.out.ext,t.out.kp⟩
     | succ k =>
      have ar:((k+1:Nat):Int)-1=k:=by omega
      rw[ar];have p:=t.out;obtain⟨Y,rfl,bn,bo⟩:=p.ch.place (by omega);have a1:Ay .u64 wr wb.heap.size 101 Y f X (ckS 10000000000000000000 x f):=p.ch;have g1:=a1.cell (i:=k) (by omega);rw[W3 (by omega)]at g1;obtain⟨u,hu⟩:∃ u,x/10000000000000000000^k%10000000000000000000=u:=⟨_,rfl⟩;rw[hu]at g1;have bA:u<10000000000000000000:=by rw[<-hu];exact gx _ (by omega)
      obtain⟨bs,b6,b5⟩:=p.buf;have aL:=fun(s:World) (h:Ext wr s)=>qh (PV ((hT.ext p.ext).ext h) (b6.ext h) b5 (u:=u) (by omega));have a3:=p.ext;have ab:=p.tx;have aN:=p.sep1;have H:=p.sep2;have ap:=p.gb;have ah:=qh p.gw;have a9:=p.kp;have aa:=p.len
      have a2:∀ W,(Instr.sliceAt 282 (.pointer (some ⟨G,0,none⟩)) none (some (.int .i64 0)) none).run prog W = .ok (.slice (some ⟨G,0,none⟩) 0 20) W:=fun W=>by
       have b2:prog.arrayLen 282=20:=by kernel_rfl
       have h:=run_sliceAt_array_h (P:=prog) W 282 ⟨G,0,none⟩ (by simp[Program.arrayLen,Program.elem,underlying282]) .i64 0 (by omega) (by rw[b2];omega);rw[h];go_simp
      clear p;have aR:=qh (W.dec_len (k:=19) (n:=u) (by omega) (by omega));have a0:=qh (aN Y rfl);have aP:=qh ap;have HU:=qh hu;obtain⟨fb,Q⟩:∃ fb,decide (k+1=f)=fb:=⟨_,rfl⟩;rw[Q];go_wp2
      refine Ad
       [hdS (some ⟨G,0,none⟩) 0 20,hdS (some ⟨Y,0,none⟩) f X,hdI k,hdP Y (0+k),he (.int .u64 (u:Int))]
       trivial ⟨?o0,?o1,?o2,?o3,?o4,trivial⟩ ?fin
      case o1 | o2=>exact omv
      case o0 =>
       refine BB rfl fun ρ s F ay h => ?_;have e0:_=_:=h.1;have k0:s.cell? ⟨Y,0+k,none⟩=some (.int .u64 (u:Int)):=by rw[fZ];exact F.cell g1
       have k1:=a2 s;have k2:=F.cell g1;go_simp
      case o3 =>
       refine BB rfl fun ρ s F ay h => ?_;have e0:_=_:=h.1;have e1:_=_:=h.2.1;have k0:s.cell? ⟨Y,0+k,none⟩=some (.int .u64 (u:Int)):=by rw[fZ];exact F.cell g1
       have k1:=a2 s;have k2:=F.cell g1;go_simp
       try (first | (intros;omega) | exact fO _ (by omega))
      case o4 =>
       refine BB rfl fun ρ s F ay h => ?_;have e0:_=_:=h.1;have k0:s.cell? ⟨Y,0+k,none⟩=some (.int .u64 (u:Int)):=by rw[fZ];exact F.cell g1
       have k1:=a2 s;have k2:=F.cell g1;go_simp
      case fin =>
       intro s F;change wpList _ _ _ _ _ _;simp only[CB]
       go_wp2_with fail
       refine((aL s F).out).mono ?_;rintro e w2 ⟨rfl,⟨w3,C,E⟩,aC,z,U,a8⟩;obtain⟨L,hL⟩:∃ L,(Lib.decDigits u).length=L:=⟨_,rfl⟩;have HL:=qh hL;have bm:L<=19:=by have:=aR.out;rw[hL]at this;exact this
       rw[hL];clear hL;cases fb
       case' true =>
        have R:k+1=f:=by simpa using Q
        obtain⟨Z,hZ,aG⟩:∃ Z:Nat,max (L:Int) ((wd:Int)-19*(k:Int))-(L:Int)=Z/\Z=wd-19*k-L:=⟨wd-19*k-L,by rw[Int.max_def];split <;> omega,rfl⟩;obtain⟨BD,aj⟩:∃ BD,BD=n+20*(f-(k+1)):=⟨_,rfl⟩;have b3:BD+Z+L<=n+wd+20*(f-k):=by omega
        have ai:Hid (VG wb w w2 a f G Y X u (BD+0) (ckS 10000000000000000000 x f) ((l ++ cpT x wd f (k+1)) ++ List.replicate 0 48) M nt ct):=qh ⟨((a3.trans F).trans C).grown E (fun k I=>by cases I;exact ap),by rw[lX,iO];exact((ab.ext F).ext C).kept E (Or.inr H),((a1.ext F).ext C).kept E (fun h=>a0.out.2 (by cases h;rfl)),⟨aC,z,U,a8⟩,a0.out.1,H,by rw[fG R]at aa;omega,((a9.ext F).ext C).far E ah.out⟩
        have av:Hid (l ++ cpT x wd f k=l ++ cpT x wd f (k+1) ++ List.replicate Z 48 ++ Lib.decDigits u):=qh (by
         have h1:l ++ cpT x wd f k=l ++ cpT x wd (k+1) k:=by rw[R]
         rw[h1,<-UC (by rw[R];exact az.out) (by rw[R];exact ag.out) HU.out,HL.out,<-aG,R,M8]
         simp only[ge,iM])
        clear aj Q;clear C E z U a8 F a3 ab a1 g1 a2 H aa a9;clear aG;go_wp2
        try rw[hZ]
       case' false =>
        have R:¬ k+1=f:=by simpa using Q
        obtain⟨Z,hZ⟩:∃ Z:Nat,(19:Int)-(L:Int)=Z:=⟨19-L,by omega⟩;obtain⟨BD,aj⟩:∃ BD,BD=n+wd+20*(f-(k+1)):=⟨_,rfl⟩;have b3:BD+Z+L<=n+wd+20*(f-k):=by omega
        have ai:Hid (VG wb w w2 a f G Y X u (BD+0) (ckS 10000000000000000000 x f) ((l ++ cpT x wd f (k+1)) ++ List.replicate 0 48) M nt ct):=qh ⟨((a3.trans F).trans C).grown E (fun k I=>by cases I;exact ap),by rw[lX,iO];exact((ab.ext F).ext C).kept E (Or.inr H),((a1.ext F).ext C).kept E (fun h=>a0.out.2 (by cases h;rfl)),⟨aC,z,U,a8⟩,a0.out.1,H,by rw[fl R]at aa;omega,((a9.ext F).ext C).far E ah.out⟩
        have av:Hid (l ++ cpT x wd f k=l ++ cpT x wd f (k+1) ++ List.replicate Z 48 ++ Lib.decDigits u):=qh (by
         rw[<-VF (by omega) ag.out HU.out,HL.out,show 19-L=Z by omega]
         simp only[ge])
        clear aj Q;clear C E z U a8 F a3 ab a1 g1 a2 H aa a9;go_wp2
        try rw[hZ]
       all_goals
        go_loopw[0,71] (fun tv jv s=>∃ (j:Nat) (a4:Option Addr) (S c4:Nat),tv = .slice a4 S c4/\jv = .int .i64 j/\j<=Z/\Hid (VG wb w s a f G Y X u (BD+j) (ckS 10000000000000000000 x f) ((l ++ cpT x wd f (k+1)) ++ List.replicate j 48) a4 S c4)) (fun _ jv _=>Z-(intOf jv).toNat)
        case atStart=>exact⟨0,M,nt,ct,rfl,rfl,fu _,ai⟩
        case round =>
         clear ai;obtain⟨j,a4,S,c4,rfl,rfl,hj,K⟩:=hrel;have N:=K.out.tx;have D:=K.out.ext;have z:∀ k,blk a4=some k->wb.heap.size<=k:=fun k I=>(N.lt I).1;have bp:=K.out.ch.lt;obtain⟨b4,a6,V,ax⟩:=K.out.buf;have bc:=a6.lt;have bq:=K.out.len;by_cases bd:j<Z
         · have hA:=N.alloc (.cells #[.int .u8 48] 5);have al:=(Au wr wb.heap.size 5 #[.int .u8 48] 1 rfl D.size (by omega)).sl
           go_wp2_with(refine BS rfl rfl underlying159 D5 rfl rfl hA rfl al (by simp[Value.oneCell']) (by unfold maxLen;omega) (by omega) (by simp;have:=D.size;omega) ?_;intro a7 c7 w7 O o A)
           have HN:Hid (VG wb w w7 a f G Y X u (BD+(j+1)) (ckS 10000000000000000000 x f) ((l ++ cpT x wd f (k+1)) ++ List.replicate (j+1) 48) a7 (S+1) c7):=by
            refine⟨(D.alloc _).grown o z,?_,(Own.alloc K.out.ch _).kept o (Or.inr fun h=>K.out.sep1 h.symm),⟨b4,(a6.alloc _).kept o (fun h=>K.out.sep2 h.symm),V,ax⟩,?_,?_,by omega,(K.out.kp.ext ((Ext.refl _).alloc (.cells #[.int .u8 48] 5))).grown o A⟩
            · rw[kA,<-ge,fY];exact O
            · rcases A with h|h
              · rw[h];exact K.out.sep1
              · rw[h];simp;omega
            · rcases A with h|h
              · rw[h];exact K.out.sep2
              · rw[h];simp;omega
           go_roundw
           case rel=>exact⟨j+1,a7,S+1,c7,rfl,by go_num,by omega,HN.out⟩
           case measure=>simp[intOf];omega
         · have am:j=Z:=by omega
           have bg:Sl wr (some ⟨G,0,none⟩) L 20 ((Lib.decDigits u).map AG):=by
            have h:=a6.sl (k:=L) (by omega) (by rw[V];unfold maxLen;omega);rw[V,<-HL.out,ax,HL.out]at h;exact h
           go_wp2_with(refine BS rfl rfl underlying159 D5 rfl rfl N rfl bg (IM _) (by unfold maxLen;omega) (by omega) D.size ?_;intro a7 c7 w7 O o A)
           have HN:Hid (W4 wb w w7 a x wd f G l (some ⟨Y,0,none⟩) X n k a7 (S+L) c7):=by
            refine⟨D.grown o z,?_,K.out.ch.kept o (fun h=>K.out.sep1 h.symm),⟨b4,a6.kept o (fun h=>K.out.sep2 h.symm),V⟩,?_,?_,aP.out,ah.out,K.out.kp.grown o A,by rw[fl (by omega)];omega⟩
            · have e:l ++ cpT x wd f k=l ++ cpT x wd f (k+1) ++ List.replicate j 48 ++ Lib.decDigits u:=by
               rw[am];exact av.out
              rw[e,fY];exact O
            · intro k I;cases I;refine⟨?_,a0.out.2⟩;rcases A with h|h
              · rw[h];exact K.out.sep1
              · rw[h];simp;omega
            · rcases A with h|h
              · rw[h];exact K.out.sep2
              · rw[h];simp;omega
           have ba:decide (k=f)=false:=by simp;omega
           go_roundw
           case rel=>exact⟨k,a7,S+L,c7,rfl,by rw[ba],rfl,by omega,HN.out⟩
           case measure=>simp[intOf]
  · have ad:0<x/10000000000000000000^f:=jM fun h=>h0 (HZ.out.2 h);have aq:10000000000000000000^f<=x:=by
     refine fR fun hc => ?_;rw[jw (by omega)]at ad;omega
    have bv:=UB aB.out aq;have aQ:=qh aq;clear aq;obtain⟨g,rfl,bb,bt⟩:=T.wk.place (by omega);have aZ:=T.ext;have b8:=T.ch;have bi:Ay .u64 wr w.heap.size 101 g nk ck ys:=T.wk;have af:=qh T.sep;have HN:=qh T.num;clear T;obtain⟨j,rfl⟩:∃ j,nk=j+1:=⟨nk-1,by omega⟩;clear h0;go_wp2;obtain⟨wo,bh⟩:∃ wo:World,wo=wr:=⟨_,rfl⟩;subst bh
    go_loopw[9,10] (fun rv iv s=>∃ (k r:Nat) (zs:List Nat),k<=j+1/\rv = .int .u64 r/\iv = .int .i64 ((k:Int)-1)/\r<10000000000000000000/\Ext w s/\Ay .u64 s w.heap.size 101 g (j+1) ck zs/\Own s w.heap.size 101 ac f X ((ckS 10000000000000000000 x f).map (B7 .u64))/\W.bnd 18446744073709551616 zs/\Hid (zs.take k=ys.take k)/\Hid (W.val 18446744073709551616 (ys.drop k)=W.val 18446744073709551616 (zs.drop k)*10000000000000000000+r)) (fun _ v _=>(intOf v+1).toNat)
    case atStart=>exact⟨j+1,0,ys,lrf _,rfl,by go_num,by omega,aZ,bi,b8,HN.out.bnd,qh rfl,qh (by rw[gu (by rw[HY.out];exact lrf _)];simp[W.val])⟩
    case round =>
     obtain⟨k,r,zs,I,rfl,rfl,hr,a5,hz,ao,bz,aA,HE⟩:=hrel;cases k with
     | zero =>
      have aw:Hid (x/10000000000000000000^f/10000000000000000000=W.val 18446744073709551616 zs/\x/10000000000000000000^f%10000000000000000000=r):=by
       show _/\_;have h1:=HE.out;rw[gP,gP,HN.out.val]at h1;rw[h1,fJ];exact⟨by rw[kl (by omega),jw hr,gE],by rw[kk,j8 hr]⟩
      go_wp2_with fail
      refine(BM hz.sl).mono ?_;rintro e w4 ⟨q,rfl,rfl,hq,ht⟩;have hA:=ao.alloc (.cells #[.int .u64 r] 101);have hL:=(Au wr w.heap.size 101 #[.int .u64 r] 1 rfl a5.size (by omega)).sl;have z:∀ k,blk ac=some k->w.heap.size<=k:=fun k I=>(ao.lt I).1;have bc:=hz.lt
      go_wp2_with(refine BS rfl rfl underlying98 AP rfl rfl hA rfl hL (by simp[Value.oneCell']) (by unfold maxLen;omega) (by omega) (by simp;have:=a5.size;omega) ?_;intro a7 c7 w7 O o A)
      have aJ:Hid (XN w w7 x (some ⟨g,0,none⟩) q ck a7 (f+1) c7 (W.trim zs)):=by
       refine⟨(a5.alloc _).grown o z,?_,?_,?_,?_,Or.inr ?_⟩
       · rw[ht];exact((Ay.upto hz hq).alloc _).kept o (Or.inr fun h=>af.out g h.symm rfl)
       · rw[<-UA,fY,aw.out.2];exact O
       · intro k I he;cases he;rcases A with h|h
         · exact af.out g (by rw[<-h];exact I) rfl
         · rw[I]at h;simp at h;omega
       · rw[gr,<-lN,aw.out.1];exact Num.trim bz rfl
       · exact aQ.out
      go_roundw
      case rel=>exact⟨_,q,ck,a7,f+1,c7,_,rfl,rfl,by omega,aJ.out⟩
      case measure=>simp;omega
     | succ k =>
      have g1:=hz.cell (i:=k) (by omega);have ar:((k+1:Nat):Int)-1=k:=by omega
      rw[ar];have bk:=W.bnd_at bz (i:=k) (by rw[hz.len];omega);have aU:=qh (fun q r'=>Oz (B:=18446744073709551616) (xs:=ys) (zs:=zs) (k:=k) (q:=q) (r:=r) (r':=r') (d:=10000000000000000000) (by rw[HY.out];omega) (by rw[hz.len];omega) HE.out);have aO:Hid (zs.getD k 0=ys.getD k 0):=by
       show _=_;have h1:=fM (fun l=>l.getD k 0) aA.out;have h2:∀ (l:List Nat),(l.take (k+1)).getD k 0=l.getD k 0:=fun l=>by simp
       simpa[h2]using h1
      have aK:Hid (∀ q,(zs.set k q).take k=ys.take k):=by
       show ∀ q,(zs.set k q).take k=ys.take k;intro q;rw[ld (lrf _)];have h1:=fM (fun l=>l.take k) aA.out;simpa[lU,jf (Nat.le_succ k)]using h1
      generalize hu:zs.getD k 0=u at *
      have b9:=fun s:World=>EP (w:=s) (hi:=r) (lo:=u) (y:=10000000000000000000) (by omega) bk hr
      go_wp2_with fail
      refine(b9 _).mono ?_;rintro e w2 ⟨q,r',rfl,hq,bf,he,hQ⟩;have au:=hz.ext hQ.ext;have g3:=au.frozen k;have g4:=au.cell (i:=k) (by omega);have aT:=qh (aU.out q r' (by rw[<-aO.out];exact he));have aX:=a5.trans hQ.ext;have aM:=ao.ext hQ.ext;clear he;go_wp2;go_roundw
      case rel=>exact⟨k,r',zs.set k q,by omega,rfl,by go_num,bf,aX.setCell bb _,au.set k q,aM.kept (Aj _ _ _ _) (Or.inr fun h=>af.out g h rfl),W.bnd_set bz hq,qh (aK.out q),aT⟩
      case measure=>simp[intOf]
theorem Sl.keptK(h:Sl w a n c cs)(k:KpT w w' a0 a')(e:0<n->blk a≠blk a0):Sl w' a n c cs:=by
 refine⟨h.len,h.cap,h.max,fun h0 => ?_⟩;obtain⟨b,d,rfl,g⟩:=h.rd h0;refine⟨b,d,rfl,fun i j => ?_⟩;have h1:=g i j;have f:b<w.heap.size:=gT w ⟨b,d+i,none⟩ h1;rw[il (w:=w) (k.2.2 b f (e h0)),h1]
theorem SlN.keptK{k:IntKind}{w e:World}{d f a:Option Addr}{n c:Nat}{xs:List Nat}(h:SlN k w a n c xs)(g:KpT w e d f)(b:0<n->blk a≠blk d):SlN k e a n c xs:=Sl.keptK h g b
theorem SlN.blk_lt{k:IntKind}(h:SlN k w a n c xs)(h0:0<n):∃ g,blk a=some g/\g<w.heap.size:=by
 obtain⟨b,d,rfl,e⟩:=Sl.rd h h0;have h1:=e 0 h0;have f:=Sl.len h;exact⟨b,rfl,gT w ⟨b,d+0,none⟩ h1⟩
theorem KpT.ne(b:KpT w w' a0 a')(c:g<w.heap.size)(a:some g≠blk a0):some g≠blk a':=by
 rcases b.2.1 with h|⟨k,h,h2⟩
 · rw[h];exact a
 · rw[h];intro e;cases e;omega
def PwK(w:World)(a:Option Addr)(n c:Nat)(ab:Option Addr):Prop:=∃ vs:List Value,Sl w a n c vs/\(0<n->blk a≠blk ab)/\∀ i,i<n->∃ (b:Option Addr) (m d:Nat) (xs:List Nat),vs.getD i undef = .slice b m d/\SlN .u64 w b m d xs/\Num 18446744073709551616 xs (10000000000000000000^2^i)/\0<m/\blk b≠blk ab
theorem PwK.ext{w g:World}{a f:Option Addr}{n c:Nat}(h:PwK w a n c f)(e:Ext w g):PwK g a n c f:=by
 obtain⟨p,h1,h0,h2⟩:=h;refine⟨p,h1.ext e,h0,fun i j => ?_⟩;obtain⟨b,m,d,q,k,l,o⟩:=h2 i j;exact⟨b,m,d,q,k,l.ext e,o⟩
theorem PwK.upto{w:World}{a e:Option Addr}{n c k:Nat}(h:PwK w a n c e)(g:k<=n):PwK w a k c e:=by
 obtain⟨p,h1,h0,h2⟩:=h;refine⟨p.take k,h1.upto g,fun h=>h0 (by omega),fun i f => ?_⟩;obtain⟨b,m,d,q,j,l,o⟩:=h2 i (by omega);refine⟨b,m,d,q,?_,l,o⟩;rw[<-j];simp[f]
theorem PwK.kept(h:PwK w a n c a0)(e:KpT w w' a0 a'):PwK w' a n c a':=by
 obtain⟨z,h1,h0,h2⟩:=h;refine⟨z,Sl.keptK h1 e h0,fun f => ?_,fun i x => ?_⟩
 · obtain⟨b,k,rfl,t⟩:=h1.rd f;have h3:=t 0 f;obtain⟨A,m,d,r,l,_⟩:=h2 0 f;have s:b<w.heap.size:=gT w ⟨b,k+0,none⟩ (by rw[h3,l]);exact e.ne s (h0 f)
 · obtain⟨b,m,d,r,l,p,y,q,o⟩:=h2 i x;obtain⟨g,v,j⟩:=p.blk_lt q;refine⟨b,m,d,r,l,p.keptK e (fun _=>o),y,q,?_⟩;rw[v]at o |-;exact e.ne j o
theorem GF{x k:Nat}(h:Num 18446744073709551616 xs x)(a:x<18446744073709551616^k):xs.length<=k:=W.nrm_len (B:=18446744073709551616) (by omega) h.nrm (by rw[h.val];exact a)
theorem IR(j:Nat):10000000000000000000^2^j<18446744073709551616^2^j:=Nat.pow_lt_pow_left (by decide) (by have:=gh j;omega)
theorem XO(k:Nat):10000000000000000000^2^k=10^(19*2^k):=by
 rw[ju]
theorem UD{x w:Nat}(a:x<18446744073709551616^m):(W.padD w x).length<=w+20*m:=by
 rcases fF x with rfl|h
 · rw[W.padD_zero];simp
 · have c:0<m:=by
    rcases fF m with rfl|h1
    · rw[kV]at a;omega
    · exact h1
   have b:(Lib.decDigits x).length<=20*m:=W.dec_len (fN a (by
    rw[ju]
    exact iJ (by decide) m)) (by omega)
   rw[W.padD_pos h,fo,List.length_replicate];omega
theorem UE{x w k:Nat}(e:w=0\/19*2^k<=w)(h:¬ (x/10000000000000000000^2^k=0/\w=0)) :
 W.padD w x=W.padD (w-19*2^k) (x/10000000000000000000^2^k) ++ W.padD (19*2^k) (x%10000000000000000000^2^k):=by
 have hp:0<10000000000000000000^2^k:=jd (by omega);have c:0<19*2^k:=jj (by omega) (gh k);have a:=gx x hp;have b:=gM x (10000000000000000000^2^k);rw[fJ]at b;generalize x/10000000000000000000^2^k=q at *
 generalize x%10000000000000000000^2^k=r at *
 rw[XO]at b a;subst b;rcases fF q with rfl|d
 · rw[iE,fZ];exact W.padD_high0 (by omega) a c
 · exact W.padD_split d a c
theorem Md(h:Own w base e a n c cs)(b:blk a≠none):∃ g,blk a=some g/\g<w.heap.size:=by
 cases d:blk a with
 | none=>exact absurd d b
 | some g=>exact⟨g,rfl,(h.lt d).2⟩
structure SpB(n wd M j:Nat):Prop where
 b:n+wd+(20*M+1300)*(j+1)<=1000000
def VH(M j:Nat):Prop:=∀ (wb w:World) (a b pa:Option Addr) (n c m d pc x wd:Nat) (l:List UInt8) (xs:List Nat),Bk wb->Ext wb w->Own w wb.heap.size 5 a n c (l.map AG)->SlN .u64 w b m d xs->Num 18446744073709551616 xs x->m<=M->(0<m->blk b≠blk a)->PwK w pa j pc a->(j=0\/19*2^(j-1)∣wd)->SpB n wd M j->j<=7 ->
 Calls prog 181 #[.slice a n c,.slice b m d,.int .i64 wd,.slice pa j pc] w (QU wb w a (l ++ W.padD wd x))
theorem Jx(hM:M<=1000):∀ j,VH M j:=by
 intro j
 induction j with
 | zero =>
  intro wb w a b pa n c m d pc x wd l xs X hE hO J i hm V hP A r hj;have F:n+wd<=1000000:=ft (kb _ _) r.b;clear r;have O:=qh (De X hE hO J i (by omega) (by omega) (wd:=wd) (by omega))
  go_enter func181,ntmps181
  go_wp2_with fail
  refine O.out.mono ?_;rintro e w' ⟨a1,n1,c1,rfl,h1,h2,h3⟩;go_wp2;go_ret;exact⟨a1,n1,c1,rfl,h1,h2,h3⟩
 | succ j ih =>
  intro wb w a b pa n c m d pc x wd l xs X hE hO J i hm V hP A r hj;have F:n+wd<=1000000:=ft (kb _ _) r.b;by_cases h30:m<=30
  · clear r;have O:=qh (De X hE hO J i (by omega) (by omega) (wd:=wd) (by omega))
    go_enter func181,ntmps181
    go_wp2_with fail
    refine O.out.mono ?_;rintro e w' ⟨a1,n1,c1,rfl,h1,h2,h3⟩;go_wp2;go_ret;exact⟨a1,n1,c1,rfl,h1,h2,h3⟩
  · have ae:=hP.upto (k:=j) (by omega);have ax:=qh J.len;obtain⟨vs,ad,an,ac⟩:=hP;obtain⟨bp,mp,dp,ps,q1,q2,q3,q4⟩:=ac j (by omega);obtain⟨g,o,rfl,hc⟩:=ad.rd (by omega);have g1:=hc j (by omega);rw[q1]at g1;have af:0<10000000000000000000^2^j:=jd (by omega);have hmp:mp<=64:=by
     have h1:=GF q3 (IR j);have h2:=q2.len;have h3:2^j<=2^6:=fx (by omega) (by omega);omega
    have Z:=qh (Eo J q2 i q3 (by omega) (by omega) af (Or.inl (by omega)))
    have I:Hid (∀ h:¬ (x/10000000000000000000^2^j=0/\wd=0),W.padD wd x=W.padD (wd-19*2^j) (x/10000000000000000000^2^j) ++ W.padD (19*2^j) (x%10000000000000000000^2^j)):=qh (UE (by
     rcases A with h|⟨q,B⟩
     · omega
     · rw[jq]at B;rcases fF q with rfl|h
       · left;omega
       · right;rw[B];exact Nat.le_mul_of_pos_right _ h))
    have ag:Hid (x/10000000000000000000^2^j=0->x%10000000000000000000^2^j=x):=qh fun h=>by
     have:=gM x (10000000000000000000^2^j);rw[h,lr,fZ]at this;exact this
    have HQ:=qh (gy x (10000000000000000000^2^j));have HR:=qh (Nat.mod_le x (10000000000000000000^2^j))
    have a8:Hid (x%10000000000000000000^2^j<18446744073709551616^M):=qh (by
     have h1:=W.val_lt i.bnd;rw[i.val,J.len]at h1;have h2:=fx (n:=18446744073709551616) (by omega) hm
     exact fI (Nat.mod_le _ _) (fN h1 h2))
    have a7:Hid (x/10000000000000000000^2^j<18446744073709551616^M):=qh (by
     have h1:=W.val_lt i.bnd;rw[i.val,J.len]at h1;have h2:=fx (n:=18446744073709551616) (by omega) hm
     exact fI (gy _ _) (fN h1 h2))
    have a0:Hid (j=0\/19*2^(j-1)∣wd-19*2^j):=qh (by
     rcases fF j with h|h
     · exact .inl h
     · right;have e1:19*2^j=19*2^(j-1)*2:=by
        rw[show j=j-1+1 by omega,gr,jq,iH]
       rcases A with h1|h1
       · omega
       · rw[jq]at h1;rw[e1]at h1 |-
         exact Nat.dvd_sub (jz (Nat.dvd_mul_right _ 2) h1) (Nat.dvd_mul_right _ 2))
    have a4:Hid (j=0\/19*2^(j-1)∣19*2^j):=qh (by
     rcases fF j with h|h
     · exact .inl h
     · right;rw[show j=j-1+1 by omega,gr,jq,<-iH]
       exact Nat.dvd_mul_right _ _)
    have R:Hid (wd=0\/19*2^j<=wd):=qh (by
     rcases A with h|⟨q,B⟩
     · omega
     · rw[jq]at B;rcases fF q with rfl|h
       · left;omega
       · right;rw[B];exact Nat.le_mul_of_pos_right _ h)
    have S:19*2^j<=19*2^6:=fX _ (fx (by omega) (by omega));have H:IntKind.i64.wrap (19*2^j)=((19*2^j:Nat):Int):=by
     push_cast
     exact fO _ (by
      have h1:((19*2^j:Nat):Int)<=((19*2^6:Nat):Int):=Int.ofNat_le.2 S;push_cast at h1;have h2:(0:Int)<2^j:=Int.pow_pos (by omega)
      omega)
    generalize x/10000000000000000000^2^j=xq at *
    generalize x%10000000000000000000^2^j=xr at *
    have IH:=qh ih;clear F;have E:=qh ae;have y:=qh hO;have a6:=qh V;have P:=qh r;have ay:=qh hm;have a9:=qh H;have Q:=qh S;clear hc q1 q4 an ih ad ac q2 q3 af A ae hO V r J i hm H S;have aC:((j+1:Nat):Int)-1=(j:Int):=by omega
    have aB:¬ ((j:Int)<0):=by omega
    go_enter func181,ntmps181
    go_wp2_with fail
    refine Z.out.mono ?_;rintro e w1 ⟨ah,K,dh,hs,al,ml,dl,ls,rfl,ab,Y,nh,hl,nl,L,N⟩
    go_upto_region 5 with(fail)
    have H:=a9.out
    go_upto_region 6 with(fail)
    clear H a9;obtain⟨D,hD⟩:∃ D:Nat,19*2^j=D:=⟨_,rfl⟩;have aa:(19:Int)*2^j=(D:Int):=by
     rw[<-hD];push_cast;rfl
    rw[aa];rw[hD]at I a0 a4 R Q;have aA:D<=1216:=Q.out;have az:0<D:=by rw[<-hD];exact jj (by omega) (gh j)
    have aj:Hid (K<=M):=qh (by rw[<-Y.len];exact GF nh a7.out);have a5:Hid (ml<=M):=qh (by rw[<-hl.len];exact GF nl a8.out)
    have ak:Hid (0<K->blk ah≠blk a):=qh fun h0 e=>by
     obtain⟨k,C,U⟩:=Y.blk_lt h0;rcases L h0 k C with h1|h1
     · obtain⟨q,B,aq⟩:=Md y.out (by rw[<-e,C];exact fun h=>by cases h);rw[<-e,C]at B;cases B;omega
     · exact h1
    have v:Hid (0<ml->blk al≠blk a):=qh fun h0 e=>by
     obtain⟨k,C,U⟩:=hl.blk_lt h0;rcases N h0 k C with h1|h1
     · obtain⟨q,B,aq⟩:=Md y.out (by rw[<-e,C];exact fun h=>by cases h);rw[<-e,C]at B;cases B;omega
     · have ao:0<m:=by omega
       exact a6.out ao (by rw[h1,<-C,e])
    have HZ:Hid (K=0<->xq=0):=qh ⟨fun h=>by
     have h1:=nh.val;have h2:=Y.len;rw[fk (h2.trans h)]at h1;simpa[W.val]using h1.symm,fun h=>by
     have h1:=GF (k:=0) nh (by rw[h];simp);have h2:=Y.len
     omega⟩
    have HH:=qh (And.intro Y nh);have t:=qh (And.intro hl nl);have f:=qh ab
    have s:Hid (SpB n (wd-D) M j/\SpB (n+(wd-D)+20*M) D M j):=qh (by
     have h1:=P.out.b;rw[show j+1+1=(j+1)+1 from rfl,jF (20*M+1300) (j+1) 1,je]at h1;obtain⟨z,p⟩:∃ z,(20*M+1300)*(j+1)=z:=⟨_,rfl⟩;rw[p]at h1;have k1:n+(wd-D)+z<=1000000:=by rcases R.out with h2 | h2 <;> omega
     have k2:n+(wd-D)+20*M+D+z<=1000000:=by rcases R.out with h2 | h2 <;> omega
     exact⟨⟨by rw[p];exact k1⟩,⟨by rw[p];exact k2⟩⟩)
    have F:n+wd<=1000000:=ft (kb _ _) P.out.b;have aG:IntKind.i64.wrap ((wd:Int)-D)=(wd:Int)-D:=fO _ (by omega);have aE:max ((wd:Int)-(D:Int)) 0=((wd-D:Nat):Int):=by omega
    have aD:j<=pc:=by obtain⟨_,h,_⟩:=E.out;exact h.cap
    clear F hD aa Y nh hl nl L N ab Z P Q a8 a6;by_cases p:K=0/\wd=0
    · obtain⟨av,aw⟩:=p;subst av aw;have HX:Hid (W.padD 0 x=W.padD 0 xr):=qh (by rw[ag.out (HZ.out.1 rfl)]);have G:=qh (IH.out wb w1 a al (some ⟨g,o,none⟩) n c ml dl pc xr 0 l ls X (hE.trans f.out) (y.out.ext f.out) t.out.1 t.out.2 a5.out v.out (E.out.ext f.out) (.inr (Nat.dvd_zero _)) (by have:=s.out.1;rwa[Nat.zero_sub]at this) (by omega))
      go_wp2_with fail
      refine G.out.mono ?_;rintro e w2 ⟨a2,n2,c2,rfl,h1,h2,h3⟩;go_wp2;go_ret;exact⟨a2,n2,c2,rfl,by rw[HX.out];exact h1,h2,(KpT.of_ext a f.out).trans h3⟩
    · have HC:=qh (I.out (fun h=>p ⟨HZ.out.2 h.1,h.2⟩));have G:=qh (IH.out wb w1 a ah (some ⟨g,o,none⟩) n c K dh pc xq (wd-D) l hs X (hE.trans f.out) (y.out.ext f.out) HH.out.1 HH.out.2 aj.out ak.out (E.out.ext f.out) a0.out s.out.1 (by omega));have au:(((K:Nat):Int) == 0)=false\/(((K:Nat):Int) == 0)=true/\((wd:Int) == 0)=false:=by
       rcases fF K with h|h
       · right;refine⟨by simp[h],?_⟩;have:wd≠0:=fun h2=>p ⟨h,h2⟩;simpa using this
       · left;simp;omega
      clear p;rcases au with ar|⟨ar,aF⟩
      all_goals
       go_wp2_with fail
       refine G.out.mono ?_;rintro e w2 ⟨a2,n2,c2,rfl,T,am,hK⟩;have ap:n2<=n+(wd-D)+20*M:=by
        have h1:=T.sl.len;have h2:=y.out.sl.len;have h3:=UD (w:=wd-D) (m:=M) (x:=xq) a7.out;simp only[fq,fo]at h1 h2;omega
       have ai:=qh (IH.out wb w2 a2 al (some ⟨g,o,none⟩) n2 c2 ml dl pc xr D _ ls X am T (t.out.1.keptK hK v.out) t.out.2 a5.out (fun h0=>by
        obtain⟨k,C,U⟩:=t.out.1.blk_lt h0;have h1:=v.out h0;rw[C]at h1 |-
        exact hK.ne U h1) ((E.out.ext f.out).kept hK) a4.out ⟨by have:=s.out.2.b;omega⟩ (by omega))
       have HK:=qh hK;clear G T hK ap
       go_wp2_with fail
       refine ai.out.mono ?_;rintro e w3 ⟨a3,n3,c3,rfl,h1,h2,h3⟩;go_wp2;go_ret;exact⟨a3,n3,c3,rfl,by rw[HC.out,<-ge];exact h1,h2,((KpT.of_ext a f.out).trans HK.out).trans h3⟩
theorem Ia{pn pc x:Nat}(p:Bk wb)(k:Ext wb w)(o:Own w wb.heap.size 5 a n c (l.map AG))(q:SlN .u64 w b m d xs)(g:Num 18446744073709551616 xs x)(s:m<=30)(t:n<=100000)(hp:pn<100) :
 Calls prog 181 #[.slice a n c,.slice b m d,.int .i64 0,.slice pa pn pc] w (Jg wb (l ++ W.padD 0 x)):=by
 have f:=qh (De p k o q g (by omega) (by omega) (wd:=0) (by omega));rcases fF pn with rfl|h0
 all_goals
  go_enter func181,ntmps181
  go_wp2_with fail
  refine f.out.mono ?_;rintro e v ⟨i,r,j,rfl,h1,h2,h3⟩;go_wp2;go_ret;exact⟨i,r,j,rfl,h1,h2⟩
theorem Jy{x:Nat}(y:Bk wb)(o:Ext wb w)(v:Own w wb.heap.size 5 a n c (l.map AG))(i:Wd w b m d x)(E:x<P2 1920)(z:n<=100000) :
 Calls prog 138 #[.slice a n c,.slice b m d] w (Jg wb (l ++ Lib.decDigits x)):=by
 by_cases h1:x<18446744073709551616
 · exact IP (y.ext o) o v i h1 z
 · have f:m<=30:=i.len (k:=30) E;have G:2<=m:=by
    refine Nat.lt_of_not_le fun h=>h1 ?_;obtain⟨M,D,t⟩:=i;have:=W.val_lt t.bnd;rw[t.val,D.len]at this;refine fN this ?_;rw[show(18446744073709551616:Nat)=18446744073709551616^1 by decide];exact fx (by omega) h
   have A:Hid (W.padD 0 x=Lib.decDigits x):=qh (W.padD_nat (by omega));obtain⟨M,s,g⟩:=i;have r:=fun(L:World) (j:Ext w L)=>qh (Ia (pn:=1) (pc:=1) (pa:=some ⟨w.heap.size+1,0,none⟩) y (o.trans j) (v.ext j) (s.ext j) g f z (by omega));clear h1 g;have I:(0:Int)<(m:Int):=by omega
   go_enter func138,ntmps138
   go_wp2;have p:=((Ext.refl w).alloc (.cells #[.int .u64 10000000000000000000] 101)).alloc (.cells #[.slice (some ⟨w.heap.size,0,none⟩) 1 1] 98)
   go_loop[5] (fun K=>K = .slice (some ⟨w.heap.size+1,0,none⟩) 1 1) (fun _=>0)
   case atStart=>exact rfl
   case round =>
    obtain rfl:=hrel;have H:(m:Int)<=30:=by omega
    have F:decide ((30:Int)<(m:Int))=false:=fK (by omega)
    go_wp2_with fail
    refine(r _ p).out.mono ?_;rintro e N ⟨B,J,C,rfl,h9,q⟩;go_wp2;go_ret;exact⟨B,J,C,rfl,by rw[<-A.out];exact h9,q⟩
theorem VJ:A9 prog 98 (.slice none 0 0) 24:=by unfold A9;kernel_rfl
def PwO(w:World)(base:Nat)(a:Option Addr)(n c:Nat):Prop:=∃ vs:List Value,Own w base 98 a n c vs/\∀ i,i<n->∃ (b:Option Addr) (m d:Nat) (xs:List Nat) (g:Nat),vs.getD i undef = .slice b m d/\SlN .u64 w b m d xs/\Num 18446744073709551616 xs (10000000000000000000^2^i)/\0<m/\blk b=some g/\base<=g/\some g≠blk a
theorem PwO.ext{w f:World}{base:Nat}{a:Option Addr}{n c:Nat}(h:PwO w base a n c)(e:Ext w f):PwO f base a n c:=by
 obtain⟨p,h1,h2⟩:=h;refine⟨p,h1.ext e,fun i j => ?_⟩;obtain⟨b,m,d,q,g,k,l,o⟩:=h2 i j;exact⟨b,m,d,q,g,k,l.ext e,o⟩
theorem PwO.grow(h1:Own w base 98 a n c vs)(h2:∀ i,i<n->∃ (z:Option Addr) (y u:Nat) (r:List Nat) (q:Nat),vs.getD i undef = .slice z y u/\SlN .u64 w z y u r/\Num 18446744073709551616 r (10000000000000000000^2^i)/\0<y/\blk z=some q/\base<=q/\some q≠blk a)(t:SlN .u64 w b m d xs)(K:Num 18446744073709551616 xs (10000000000000000000^2^n))(v:0<m)(o:blk b=some g)(L:base<=g)(x:some g≠blk a)
 (E:Own w' base 98 a' (n+1) c' (vs ++ [.slice b m d])) (s:w.grownBy w' (blk a)) (F:blk a'=blk a\/blk a'=some w.heap.size):PwO w' base a' (n+1) c':=by
 have j:∀ {q:Nat} {b:Option Addr} {m d:Nat} {xs:List Nat},SlN .u64 w b m d xs->0<m->blk b=some q->some q≠blk a->some q≠blk a':=fun {q b m d xs} h I J l=>by
  rcases F with e|e
  · rw[e];exact l
  · rw[e];obtain⟨Q,f,H⟩:=h.blk_lt I;rw[J]at f;cases f;intro D;cases D;omega
 refine⟨_,E,fun i P => ?_⟩;have G:=h1.len;by_cases k:i<n
 · obtain⟨b,m,d,xs,g,M,A,N,B,p,O,C⟩:=h2 i k;refine⟨b,m,d,xs,g,?_,A.kept s (.inr (by rw[p];exact C)),N,B,p,O,j A B p C⟩;rw[gqq,fj (by omega),<-gqq];exact M
 · have:i=n:=by omega
   subst this;refine⟨b,m,d,xs,g,?_,t.kept s (.inr (by rw[o];exact x)),K,v,o,L,j t v o x⟩;rw[gqq,gd (by omega),G];simp
theorem PwO.k{w:World}{base:Nat}{a j:Option Addr}{n c:Nat}(h:PwO w base a n c)(f:∀ g,blk j=some g->g<base):PwK w a n c j:=by
 obtain⟨x,h1,h2⟩:=h;refine⟨x,h1.sl,fun o e => ?_,fun i l => ?_⟩
 · obtain⟨b,p,rfl,z⟩:=h1.sl.rd o;have h3:=h1.lt (k:=b) rfl;have h4:=f b (by rw[<-e];rfl);omega
 · obtain⟨b,m,d,y,g,q,r,s,t,v,A,B⟩:=h2 i l;refine⟨b,m,d,y,q,r,s,t,fun e => ?_⟩;have:=f g (by rw[<-e];exact v);omega
theorem VK:18446744073709551616^63<=10000000000000000000^2^6:=by decide +kernel
theorem UF(k:Nat):P2 (64*k)=18446744073709551616^k:=by
 unfold P2;rw[ju]
theorem Er{x:Nat}(hT:Bk wb)(f:Ext wb w)(S:Own w wb.heap.size 5 a n c (l.map AG))(V:Wd w b m d x)(O:0<m->blk b≠blk a)(hb:x<P2 8064)(hn:n<=100000) :
 Calls prog 138 #[.slice a n c,.slice b m d] w (Jg wb (l ++ Lib.decDigits x)):=by
 have D:m<=126:=V.len (k:=126) hb;by_cases h30:m<=30
 · refine Jy hT f S V ?_ hn;obtain⟨xs,g1,g2⟩:=V;have h1:=W.val_lt g2.bnd;rw[g2.val,g1.len]at h1;rw[show(1920:Nat)=64*30 from rfl,UF];exact fN h1 (fx (by omega) h30)
 · obtain⟨xs,F,G⟩:=V
   have Q:x≠0:=fun h=>by
    have h1:=GF (k:=0) G (by rw[h];simp);have h2:=F.len;omega
   have HD:Hid (W.padD 0 x=Lib.decDigits x):=qh (W.padD_nat (jM Q));have HX:=qh F;have HN:=qh G;have a5:=qh O;have HO:=qh S;have a1:=qh f;have a0:Hid (∀ g,blk a=some g->g<w.heap.size):=qh fun g U=>(S.lt U).2;clear hb Q F G O S f;have ag:(30:Int)<m:=by omega
   have al:((m:Int) == 0)=false:=by simp;omega
   have am:((m:Int) == 1)=false:=by simp;omega
   go_enter func138,ntmps138
   go_upto_region 6 with(fail)
   have K:=((Ext.refl w).alloc (.cells #[.int .u64 10000000000000000000] 101)).alloc (.cells #[.slice (some ⟨w.heap.size,0,none⟩) 1 1] 98);have C:PwO ((w.alloc (.cells #[.int .u64 10000000000000000000] 101)).alloc (.cells #[.slice (some ⟨w.heap.size,0,none⟩) 1 1] 98)) w.heap.size (some ⟨w.heap.size+1,0,none⟩) 1 1:=by
    have h1:=Au w w.heap.size 101 #[.int .u64 10000000000000000000] 1 rfl (lrf _) (by omega);have h2:=Au (w.alloc (.cells #[.int .u64 10000000000000000000] 101)) w.heap.size 98 #[.slice (some ⟨w.heap.size,0,none⟩) 1 1] 1 rfl (by simp) (by omega);rw[show(w.alloc (.cells #[.int .u64 10000000000000000000] 101)).heap.size=w.heap.size+1 by simp]at h2;refine⟨_,h2,fun i hi => ?_⟩;have:i=0:=by omega
    subst this;refine⟨_,1,1,[10000000000000000000],w.heap.size,rfl,(h1.alloc _).sl,⟨fun z hz=>by rw[fi.1 hz];omega,W.nrm_single (by omega),by simp[W.val]⟩,by omega,rfl,lrf _,fun e => ?_⟩;simp only[blk,ic,fc]at e;omega
   generalize ((w.alloc (.cells #[.int .u64 10000000000000000000] 101)).alloc (.cells #[.slice (some ⟨w.heap.size,0,none⟩) 1 1] 98))=w1 at *
   obtain⟨af,p⟩:∃ v,(some ⟨w.heap.size+1,0,none⟩:Option Addr)=v:=⟨_,rfl⟩;rw[p]at C |-;clear p
   go_loopg [5,6] 7 (fun gk pv lv wr=>∃ (q:Nat) (pa:Option Addr) (Y:Nat),pv = .slice pa (q+1) Y/\q<=6/\6<=q+gk/\Ext w wr/\Hid (PwO wr w.heap.size pa (q+1) Y))
   case atStart=>exact⟨0,af,1,rfl,by omega,by omega,K,qh C⟩
   case round =>
    clear C K;obtain⟨q,pa,Y,rfl,an,aj,f,HP⟩:=hrel;obtain⟨vs,B,hv⟩:=HP.out;obtain⟨b1,H,d1,ps,g1,q1,R,I,q4,q5,q6,q7⟩:=hv q (by omega);have s:=qh B;have HV:=qh hv;obtain⟨y,op,rfl,T⟩:=B.sl.rd (by omega);have gq:=T q (by omega);rw[q1]at gq;have ah:H<=64:=by
     have h1:=GF I (IR q);have h2:=R.len;have h3:2^q<=2^6:=fx (by omega) (by omega);omega
    have a4:Hid (q=6->63<H):=qh fun h=>by
     subst h;refine Nat.lt_of_not_le fun T => ?_;have h1:=W.val_lt I.bnd;rw[I.val,R.len]at h1;have h2:=fx (n:=18446744073709551616) (by omega) T;have h3:=VK;omega
    have a3:Hid (q<=5->H<=32):=qh fun h=>by
     have h1:=GF I (IR q);have h2:=R.len;have h3:2^q<=2^5:=fx (by omega) h;omega
    have H2:=qh R;have H3:=qh I;have H5:=qh (And.intro q5 (And.intro q6 q7));have ak:((q+1:Nat):Int)-1=(q:Int):=by omega
    have ao:IntKind.i64.wrap (2*(H:Int))=2*(H:Int):=fO _ (by omega);clear B hv q1 R I q4 q5 q6 q7 T;by_cases ad:2*(H:Int)<=m
    · have E:q<=5:=by
       refine Nat.le_of_not_lt fun h => ?_;have:=a4.out (by omega);omega
      have t:=qh E;have o:=qh (fun(wx:World) (hC:Ext wr wx)=>DO (H2.out.ext hC) (H2.out.ext hC) H3.out H3.out (by omega) (by omega) (.inl (by have:=a3.out E;omega)));clear E
      go_wp2_with fail
      refine(o.out _ (Ext.refl _)).mono ?_;rintro e Z ⟨a2,X,c2,ys,rfl,A,hy,ny,r⟩;clear o;have L:=f.trans A;have j:Ext Z (Z.alloc (.cells #[.slice a2 X c2] 98)):=(Ext.refl Z).alloc _;have hL:=(Au Z 0 98 #[.slice a2 X c2] 1 rfl (fu _) (by omega)).sl;have hA:=(s.out.ext A).ext j
      have J:Hid (0<X):=qh (by
       rcases fF X with h|h
       · have h1:=ny.val;rw[fk (hy.len.trans h)]at h1;simp only[W.val]at h1;have h2:0<10000000000000000000^2^q*10000000000000000000^2^q:=jj (jd (by omega)) (jd (by omega));omega
       · exact h)
      have a6:Hid (Num 18446744073709551616 ys (10000000000000000000^2^(q+1))):=qh (by
       rw[gr 2 q,Nat.mul_two,j9]
       exact ny)
      have HY:=qh hy;have a8:=qh r;have ai:Hid (∃ g,blk (some ⟨y,op,none⟩)=some g/\g<wr.heap.size):=qh ⟨y,rfl,(s.out.lt (k:=y) rfl).2⟩;clear hy ny r
      go_wp2_with(refine BS rfl rfl underlying243 VJ rfl rfl hA rfl hL (by simp[Value.oneCell']) (by unfold maxLen;omega) (by omega) (by simp;have:=L.size;omega) ?_;intro a7 c7 w7 ab N ac)
      go_roundg (5-q)
      case rel =>
       refine⟨q+1,a7,c7,by go_num,by have:=t.out;omega,by have:=t.out;omega,(L.trans j).grown N (fun k hk=>(hA.lt hk).1),qh ?_⟩;obtain⟨g,U,ad⟩:=HY.out.blk_lt J.out;obtain⟨z1,z2,z3⟩:=H5.out;have P:=a8.out g U;refine PwO.grow hA (fun i hi => ?_) (HY.out.ext j) a6.out J.out U ?_ ?_ ab N ac
       · obtain⟨b,m,d,xs,g,p1,p2,p3⟩:=HV.out i hi;exact⟨b,m,d,xs,g,p1,(p2.ext A).ext j,p3⟩
       · rcases P with h|h|h
         · exact ft f.size h
         · rw[z1]at h;cases h;exact z2
         · rw[z1]at h;cases h;exact z2
       · rcases P with h|h|h
         · intro e;have h1:y<wr.heap.size:=(s.out.lt (k:=y) rfl).2;have e2:g=y:=fD e;omega
         · rw[z1]at h;cases h;exact z3
         · rw[z1]at h;cases h;exact z3
      case measure=>have:=t.out;omega
    · have ae:=qh (Jx (M:=126) (by omega) (q+1) wb wr a b (some ⟨y,op,none⟩) n c m d Y x 0 l xs hT (a1.out.trans f) (HO.out.ext f) (HX.out.ext f) HN.out D a5.out (HP.out.k a0.out) (.inr (Nat.dvd_zero _)) ⟨by
       have h1:(20*126+1300)*(q+1+1)<=(20*126+1300)*8:=fX _ (by omega)
       omega⟩ (by omega))
      go_wp2_with fail
      refine ae.out.mono ?_;rintro e w9 ⟨a9,n9,c9,rfl,h9,aa,_⟩;go_wp2;go_ret;exact⟨a9,n9,c9,rfl,by rw[<-HD.out];exact h9,aa⟩
theorem Wd.apart{x:Nat}(h:Wd w a n c x)(d:∀ k,blk b=some k->w.heap.size<=k):0<n->blk a≠blk b:=by
 intro j e;obtain⟨l,h1,_⟩:=h;obtain⟨g,f,i⟩:=h1.blk_lt j;have:=d g (by rw[<-e];exact f);omega
theorem GG(N:Bk wb)(M:Ext wb w)(x:Own w wb.heap.size 5 a0 n0 c0 (l.map AG))(h:AQ wb v z)(O:z.natAbs<P2 8064)(Y:n0<=10000) :
 Calls prog 100 #[v,.slice a0 n0 c0] w (Jg wb (l ++ Lib.itoa z)):=by
 obtain⟨s,a,n,c,rfl,L,y⟩:=h;cases s with
 | true =>
  have A:Hid (l ++ Lib.itoa z=(l ++ [45]) ++ Lib.decDigits z.natAbs):=by
   show _=_;have H:z<0:=by simpa using L.out
   unfold Lib.itoa;rw[fG H,ge];rfl
  go_enter func100,ntmps100
  go_upto_region 1 with(fail)
  refine Bv ?_;intro P f b m;have J:=b.c 0 rfl;have K:=b.c 1 rfl;have d:=M.trans f;have p:=x.ext f;have T:=p.alloc (.cells #[.int .u8 45] 5);have U:=(Au P wb.heap.size 5 #[.int .u8 45] 1 rfl d.size (by omega)).sl;have F:∀ k,blk a0=some k->wb.heap.size<=k:=fun k t=>(p.lt t).1;have X:=b.lt;clear m
  go_upto_region 3 with(refine BS rfl rfl underlying159 D5 rfl rfl T rfl U (by simp[Value.oneCell']) (by unfold maxLen;omega) (by omega) (by simp;have:=d.size;omega) ?_;intro R S Q E r V)
  have o:Ext wb Q:=(d.alloc _).grown r F;have q:Own Q wb.heap.size 5 R (n0+1) S ((l ++ [45]).map AG):=by rw[fY];exact E
  have G:blk a0≠some w.heap.size:=by
   intro he;have:=(x.lt he).2;omega
  have D:=(b.alloc (.cells #[.int .u8 45] 5)).kept r (fun he=>G he.symm);have Z:=D.c 1 rfl;have j:=qh (Er N o q (y.ext o) (y.apart fun k t=>(q.lt t).1) O (by omega))
  go_wp2_with fail
  refine j.out.mono ?_;rintro e W ⟨B,I,C,rfl,i,g⟩;go_wp2;go_ret;exact⟨B,I,C,rfl,by rw[A.out];exact i,g⟩
 | false =>
  have A:Hid (l ++ Lib.itoa z=l ++ Lib.decDigits z.natAbs):=by
   show _=_;have H:¬ z<0:=by simpa using L.out
   unfold Lib.itoa;rw[fl H];congr 2;omega
  go_enter func100,ntmps100
  go_upto_region 1 with(fail)
  refine Bv ?_;intro P f b m;have J:=b.c 0 rfl;have K:=b.c 1 rfl;have d:=M.trans f;have j:=qh (Er N d (x.ext f) (y.ext d) (y.apart fun k t=>(x.lt t).1) O (by omega));clear m
  go_wp2_with fail
  refine j.out.mono ?_;rintro e W ⟨B,I,C,rfl,i,g⟩;go_wp2;go_ret;exact⟨B,I,C,rfl,by rw[A.out];exact i,g⟩
theorem PW(o:Bk w)(h:AQ w v z)(p:z.natAbs<P2 8064):Calls prog 99 #[v] w fun e t=>e = .returned (.string ⟨(Lib.itoa z).toArray⟩)/\Ext w t:=by
 have i:=fun(k:World) (m:Ext w k)=>qh (GG (l:=[]) (o.ext m) (Ext.refl k) (Own.nil k _ _) (h.ext m) p (fu _));obtain⟨s,a,n,c,rfl,x,B⟩:=h
 go_enter func99,ntmps99
 go_upto_region 1 with(fail)
 refine Bv ?_;intro D d b j;have q:=b.c 0 rfl;have r:=b.c 1 rfl;clear j
 go_wp2_with fail
 refine(i _ d).out.mono ?_;rintro e E ⟨y,C,A,rfl,g,f⟩
 go_wp2_with(refine ET rfl rfl underlying159 underlying5 underlying9 rfl g.sl ?_)
 go_ret;exact⟨rfl,d.trans f⟩
theorem W6(b:Nat):P2 b<=10^(b/3+1):=by
 have e:P2 b=8^(b/3)*2^(b%3):=by
  unfold P2
  conv=>lhs;rw[<-gM b 3,j9,ju]
 have h1:8^(b/3)<=10^(b/3):=iJ (by omega) _;have h2:2^(b%3)<=2^2:=fx (by omega) (by omega);rw[e,gr];exact gL h1 (by omega)
theorem W7{b:Nat}(h:n<P2 b):(Lib.decDigits n).length<=b/3+1:=W.dec_len (fN h (W6 b)) (by omega)
theorem VL{b:Nat}(h:z.natAbs<P2 b):(Lib.itoa z).length<=b/3+2:=by
 have h1:=W7 h;unfold Lib.itoa;split
 · simp;omega
 · have e:z.toNat=z.natAbs:=by omega
   rw[e];omega
/-! Ratios. -/
theorem Ac:Agg prog 125 4:=⟨by kernel_rfl,by kernel_rfl⟩
def As(s:Bool)(a:Option Addr)(n c:Nat)(t:Bool)(b:Option Addr)(m d:Nat):List Value:=Ae s a n c ++ Ae t b m d
theorem Aq(s:Bool)(a:Option Addr)(n c:Nat)(t:Bool)(b:Option Addr)(m d:Nat):∀ v∈As s a n c t b m d,v.oneCell'=true:=by
 intro v e;rcases fL.1 e with h|h
 · exact Ao _ _ _ _ v h
 · exact Ao _ _ _ _ v h
theorem AM(s:Bool)(a:Option Addr)(n c:Nat)(t:Bool)(b:Option Addr)(m d:Nat):∀ v∈As s a n c t b m d,∀ i,v ≠ .int .u64 i:=by
 intro v e;rcases fL.1 e with h|h
 · exact AL _ _ _ _ v h
 · exact AL _ _ _ _ v h
def Bo(q:Rat):Int:=if q.den=1 then 0 else(q.den:Int)
theorem OS(q:Rat):0<=Bo q:=by unfold Bo;split <;> omega
theorem AJ:Bo q=0<->q.den=1:=by
 have:=q.den_nz;unfold Bo;split
 · simp[*]
 · constructor
   · intro h;omega
   · intro h;exact absurd h ‹_›
theorem DR(h:q.den≠1):(Bo q).natAbs=q.den:=by unfold Bo;rw[fl h];rfl
theorem EW(h:q.den≠1):Bo q=(q.den:Int):=by unfold Bo;rw[fl h]
def GH(w:World)(cs:List Value)(q:Rat):Prop:=∃ s a n c b m d,cs=As s a n c false b m d/\Hid (decide (q.num<0)=s)/\Wd w a n c q.num.natAbs/\Wd w b m d (Bo q).natAbs
theorem GH.ext{w f:World}{cs:List Value}{q:Rat}(h:GH w cs q)(e:Ext w f):GH f cs q:=by
 obtain⟨s,a,n,c,b,m,d,h1,h2,h3,h4⟩:=h;exact⟨s,a,n,c,b,m,d,h1,h2,h3.ext e,h4.ext e⟩
def BI(w:World)(v:Value)(q:Rat):Prop:=∃ cs,v = .agg cs.toArray/\GH w cs q
theorem BI.ext{w a:World}{v:Value}{q:Rat}(h:BI w v q)(e:Ext w a):BI a v q:=by
 obtain⟨b,h1,h2⟩:=h;exact⟨b,h1,h2.ext e⟩
def Ib(w:World)(q:Rat)(e:Ending)(w':World):Prop:=∃ cs,e = .returned (.agg cs.toArray)/\Ext w w'/\GH w' cs q
theorem VM:Hid (decide (Bo q<0)=false):=qh (fK (by have:=OS q;omega))
theorem AZ(b:Hid (decide (q.num<0)=s))(h:Wd w a n c q.num.natAbs):AQ w (.agg (Ae s a n c).toArray) q.num:=⟨s,a,n,c,rfl,b,h⟩
theorem Bp(h:Wd w b m d (Bo q).natAbs):AQ w (.agg (Ae false b m d).toArray) (Bo q):=⟨false,b,m,d,rfl,VM,h⟩
def txt(q:Rat):List UInt8:=Lib.itoa q.num ++ (if q.den=1 then []else 47 :: Lib.decDigits q.den)
theorem GI(L:Bk w)(h:BI w v q)(T:q.num.natAbs<P2 8064)(V:q.den<P2 8064):Calls prog 62 #[v] w fun e w'=>e = .returned (.string ⟨(txt q).toArray⟩)/\Ext w w':=by
 obtain⟨_,rfl,s,a,n,c,b,m,d,rfl,N,hx,hy⟩:=h;have B:=fun(A:World) (t:Ext w A)=>qh (Av (r:=decide (Bo q=0)) (Bp (hy.ext t)) rfl);have o:=fun(A:World) (t:Ext w A)=>qh (Si (AZ N (hx.ext t)));by_cases h1:q.den=1
 · have z:decide (Bo q=0)=true:=by simpa using AJ.2 h1
   have K:Hid (txt q=Lib.itoa q.num):=by show _=_;unfold txt;rw[fG h1,iO]
   rw[z]at B;clear z h1 V
   go_enter func62,ntmps62
   go_upto_region 1 with(fail)
   refine Bv ?_;intro w0 x i F;have p0:=i.c 0 rfl;have p1:=i.c 1 rfl;have p2:=i.c 2 rfl;have p3:=i.c 3 rfl;clear F
   go_wp2_with fail
   refine(B _ x).out.mono ?_;rintro e G ⟨rfl,j⟩;have f:=x.trans j;have r0:=j.cell p0;have r1:=j.cell p1;by_cases p : -9223372036854775808<=q.num/\q.num<=9223372036854775807
   · have y:=JO p;have X:=fun(A:World) (t:Ext w A)=>qh (OR (L.ext t) p.1 p.2);rw[y]at o;clear y p
     go_wp2_with fail
     refine(o _ f).out.mono ?_;rintro e M ⟨rfl,g⟩
     go_wp2_with fail
     refine(X _ (f.trans g)).out.mono ?_;rintro e w3 ⟨rfl,D⟩;go_wp2;go_ret;exact⟨by rw[K.out];rfl,(f.trans g).trans D⟩
   · have y:=H9 p;have Z:=fun(A:World) (t:Ext w A)=>qh (PW (L.ext t) (AZ N (hx.ext t)) T);rw[y]at o;clear y p
     go_wp2_with fail
     refine(o _ f).out.mono ?_;rintro e M ⟨rfl,g⟩;have t0:=g.cell r0;have t1:=g.cell r1
     go_wp2_with fail
     refine(Z _ (f.trans g)).out.mono ?_;rintro e w3 ⟨rfl,D⟩;go_wp2;go_ret;exact⟨by rw[K.out];rfl,(f.trans g).trans D⟩
 · have z:decide (Bo q=0)=false:=by simpa using mt AJ.1 h1
   have K:Hid (txt q=Lib.itoa q.num ++ 47 :: Lib.itoa (Bo q)):=by
    show _=_;unfold txt;rw[fl h1,EW h1,Lib.itoa_nonneg]
   have W:(Bo q).natAbs<P2 8064:=by rw[DR h1];exact V
   have a5:(Lib.itoa q.num).length<=2700:=by have:=VL T;omega
   rw[z]at B;clear z h1 V o;have S:=fun(A:World) (t:Ext w A)=>qh (GG (l:=[]) (L.ext t) (Ext.refl A) (Own.nil A _ _) (AZ N (hx.ext t)) T (fu _))
   go_enter func62,ntmps62
   go_upto_region 1 with(fail)
   refine Bv ?_;intro w0 x i F;have p0:=i.c 0 rfl;have p1:=i.c 1 rfl;have p2:=i.c 2 rfl;have p3:=i.c 3 rfl;clear F
   go_wp2_with fail
   refine(B _ x).out.mono ?_;rintro e G ⟨rfl,j⟩;have f:=x.trans j;have r0:=j.cell p0;have r1:=j.cell p1
   go_wp2_with fail
   refine(S _ f).out.mono ?_;rintro e M ⟨a2,n2,c2,rfl,I,g⟩;have a0:=f.trans g;have a6:n2<=2700:=by have:=I.len;simp at this;omega
   have C:Own M G.heap.size 5 a2 n2 c2 ((Lib.itoa q.num).map AG):=I;have hA:=C.alloc (.cells #[.int .u8 47] 5);have hL:=(Au M G.heap.size 5 #[.int .u8 47] 1 rfl g.size (by omega)).sl;have U:∀ k,blk a2=some k->G.heap.size<=k:=fun k hk=>(C.lt hk).1;have a4:=(i.ext j).lt
   go_upto_region 7 with(refine BS rfl rfl underlying159 D5 rfl rfl hA rfl hL (by simp[Value.oneCell']) (by unfold maxLen;omega) (by omega) (by simp;have:=g.size;omega) ?_;intro a7 c7 w7 P Y a3)
   have E:Ext G w7:=(g.alloc _).grown Y U;have a1:=f.trans E;have Q:Own w7 G.heap.size 5 a7 (n2+1) c7 ((Lib.itoa q.num ++ [47]).map AG):=by rw[fY];exact P
   have J:=qh (GG (L.ext f) E Q (Bp (hy.ext f)) W (by omega));have H:=(i.ext j).ext E;have q2:=H.c 2 rfl;have q3:=H.c 3 rfl
   go_wp2_with fail
   refine J.out.mono ?_;rintro e w8 ⟨a8,n8,c8,rfl,R,O⟩
   go_wp2_with(refine ET rfl rfl underlying159 underlying5 underlying9 rfl R.sl ?_)
   go_ret;exact⟨by rw[K.out];rfl,f.trans O⟩
theorem BJ(k:Ext w w1)(g:Arr w1 R ty cs)(e:∀ v∈cs,∀ i,v ≠ .int .u64 i)(f:w1.grownBy w9 (some R))(l:w.heap.size<=R)(j:Hid (decide (q.num<0)=s))(o:Wd w1 a n c q.num.natAbs)(p:Wd w1 b m d (Bo q).natAbs):Ib w q (.returned (.agg (As s a n c false b m d).toArray)) w9 :=
 ⟨_,rfl,k.grownR f l,s,a,n,c,b,m,d,rfl,j,o.kept g e f,p.kept g e f⟩
theorem GJ(h:BI w v q){r:Bool}(l:decide (q=0)=r):Calls prog 64 #[v] w fun e x=>e = .returned (.bool r)/\Ext w x:=by
 obtain⟨_,rfl,s,a,n,c,b,m,d,rfl,o,t,z⟩:=h;have k:=fun(y:World) (p:Ext w y)=>qh (Av (r:=r) (AZ o (t.ext p)) (by rw[<-l];exact jJ.2 Pl.rat_num_den_zero));clear l
 go_enter func64,ntmps64
 go_upto_region 1 with(fail)
 refine Bv ?_;intro E g f j;have A:=f.c 0 rfl;have B:=f.c 1 rfl;have C:=f.c 2 rfl;have D:=f.c 3 rfl;clear j
 go_wp2_with fail
 refine(k _ g).out.mono ?_;rintro e F ⟨rfl,i⟩;go_wp2;go_ret;exact⟨rfl,g.trans i⟩
theorem Na(h:BI w v q):Calls prog 143 #[v] w (IJ w (q.den:Int)):=by
 obtain⟨_,rfl,s,a,n,c,b,m,d,rfl,S,T,F⟩:=h;have E:=fun(R:World) (K:Ext w R)=>qh (Av (r:=decide (Bo q=0)) (Bp (F.ext K)) rfl);have A:Hid (decide ((q.den:Int)<0)=false):=qh (fK (by omega))
 go_enter func143,ntmps143
 go_upto_region 1 with(fail)
 refine PK ?_;intro P p g B D;have U:=g.c 0 rfl;have V:=g.c 1 rfl;have N:=g.c 2 rfl;have O:=g.c 3 rfl;have L:Arr P (w.heap.size+1) 123 (Ae false none 0 0):=B;clear D
 go_wp2_with fail
 refine(E _ p).out.mono ?_;rintro e Y ⟨rfl,i⟩;have k:=p.trans i;have W:=i.cell N;have X:=i.cell O;have l:=L.ext i;by_cases h1:q.den=1
 · have f:decide (Bo q=0)=true:=by simpa using AJ.2 h1
   rw[f];have G:=qh h1;clear f h1
   go_wp2_with fail
   refine(Vz (z:=1) (by omega) (by omega)).mono ?_;rintro e Z ⟨s1,I,M,J,rfl,t,y,C⟩;have x:=l.ext t
   go_wp2_with(refine Aa (vs:=Ae s1 I M J) rfl rfl rfl rfl rfl Am x rfl (Ao _ _ _ _) ?_;intro Q j o)
   refine fh (At rfl Am rfl j) rfl ?_;rw[G.out];exact Dj (k.trans t) x (AL _ _ _ _) o (by omega) y C
 · have f:decide (Bo q=0)=false:=by simpa using mt AJ.1 h1
   have H:=qh (DR h1);rw[f];clear f h1
   go_wp2_with(refine Aa (vs:=Ae false b m d) rfl rfl rfl rfl rfl Am l rfl (Ao _ _ _ _) ?_;intro Q j o)
   refine fh (At rfl Am rfl j) rfl (Dj k l (AL _ _ _ _) o (by omega) A ?_);have h2:=F.ext k;rw[H.out]at h2;exact h2
theorem DU(h:AQ w v q.num)(H:AQ w v' (q.den:Int)):Calls prog 97 #[v,v'] w (Ib w q):=by
 have z:=fun(W:World) (N:Ext w W)=>qh (Dd (r:=decide (q.den=1)) (H.ext N) (jJ.2 (by omega)));obtain⟨s,a,n,c,rfl,G,I⟩:=h;obtain⟨t,b,m,d,rfl,M,J⟩:=H;have P:t=false:=by have:=M.out;rw[<-this];exact fK (by omega)
 subst P;have A:Wd w b m d q.den:=J;clear J
 go_enter func97,ntmps97
 go_upto_region 1 with(fail)
 refine IG ?_;intro U x o p y B;have C:=o.c 0 rfl;have D:=o.c 1 rfl;have E:=p.c 0 rfl;have F:=p.c 1 rfl;have O:Arr U (w.heap.size+2) 125 (As false none 0 0 false none 0 0):=y;clear B
 go_wp2_with fail
 refine(z _ x).out.mono ?_;rintro e X ⟨rfl,f⟩;have g:=x.trans f;have Q:=f.cell C;have R:=f.cell D;have S:=f.cell E;have T:=f.cell F;have j:=O.ext f;by_cases h1:q.den=1
 · have i:decide (q.den=1)=true:=by simpa using h1
   have L:Hid (Bo q=0):=qh (AJ.2 h1);rw[i];clear i h1
   go_wp2_with(refine Aa (vs:=As s a n c false none 0 0) rfl rfl rfl rfl rfl Ac j rfl (Aq _ _ _ _ _ _ _ _) ?_;intro V k l)
   exact fh (At rfl Ac rfl k) rfl (BJ g j (AM _ _ _ _ _ _ _ _) l (by omega) G (I.ext g) (by rw[L.out];exact Wd.nil _))
 · have i:decide (q.den=1)=false:=by simpa using h1
   have K:=qh (DR h1);rw[i];clear i h1
   go_wp2_with(refine Aa (vs:=As s a n c false b m d) rfl rfl rfl rfl rfl Ac j rfl (Aq _ _ _ _ _ _ _ _) ?_;intro V k l)
   exact fh (At rfl Ac rfl k) rfl (BJ g j (AM _ _ _ _ _ _ _ _) l (by omega) G (I.ext g) (by rw[K.out];exact A.ext g))
theorem UG{g:World}{o:Nat}{y:Int}(r:Ext w w1)(p:Arr w1 R ty cs)(f:∀ v∈cs,∀ i,v ≠ .int .u64 i)(k:w1.grownBy w9 (some R))(t:w.heap.size<=R)(e:Arr w9 R' ty' cs')(b:∀ v∈cs',∀ i,v ≠ .int .u64 i)(d:w9.grownBy g (some R'))(l:w.heap.size<=R')(q:Hid (decide (z<0)=s))(x:Wd w1 a n c z.natAbs)(j:Hid (decide (y<0)=s'))(m:Wd w1 a' o c' y.natAbs):Uv w z y (.returned (.tuple #[.agg (Ae s a n c).toArray,.agg (Ae s' a' o c').toArray])) g :=
 ⟨s,a,n,c,s',a',o,c',rfl,(r.grownR k t).grownR d l,⟨q,(x.kept p f k).kept e b d⟩,⟨j,(m.kept p f k).kept e b d⟩⟩
theorem KY{x:Int}{k:Nat}(hT:Bk w)(h:AQ w v x)(h':AQ w v' (k:Int))(bx:x.natAbs<P2 9600)(bk:k<P2 9600)(hk:k≠0):Calls prog 142 #[v,v'] w (Uv w (x.tdiv ((Nat.gcd x.natAbs k:Nat):Int)) ((k/Nat.gcd x.natAbs k:Nat):Int)):=by
 have aj:=fun(j:World) (f:Ext w j)=>qh (Dd (r:=decide (k=1)) (h'.ext f) (jJ.2 (by omega)));have ah:=fun(j:World) (f:Ext w j)=>qh (FV (hT.ext f) (h.ext f) (h'.ext f) bx bk);have ai:0<Nat.gcd x.natAbs k:=lH _ (by omega);have P:Nat.gcd x.natAbs k<P2 9600:=fI (kL (by omega) (jb _ _)) bk;have al:=fun(j:World) (f:Ext w j) (g:Value) (hg:AQ j g ((Nat.gcd x.natAbs k:Nat):Int))=>qh (FW (h.ext f) hg bx P (by omega))
 have a6:=fun(j:World) (f:Ext w j) (g:Value) (hg:AQ j g ((Nat.gcd x.natAbs k:Nat):Int))=>qh (FW (h'.ext f) hg bk P (by omega));have a7:((k:Int)).tdiv ((Nat.gcd x.natAbs k:Nat):Int)=((k/Nat.gcd x.natAbs k:Nat):Int):=by rw[iZ (by omega)];push_cast;rfl
 rw[a7]at a6;clear bx bk P ai a7;obtain⟨s,a,n,c,rfl,HS,hx⟩:=h;obtain⟨t,b,m,d,rfl,HT,hy⟩:=h'
 go_enter func142,ntmps142
 go_upto_region 1 with(fail)
 refine XC ?_;intro w0 X T U ac ad ap;have ay:=T.c 0 rfl;have az:=T.c 1 rfl;have aA:=U.c 0 rfl;have aB:=U.c 1 rfl;have hR:Arr w0 (w.heap.size+2) 123 (Ae false none 0 0):=ac;have Z:Arr w0 (w.heap.size+3) 123 (Ae false none 0 0):=ad;clear ap
 go_wp2_with fail
 refine(aj _ X).out.mono ?_;rintro e w1 ⟨rfl,l⟩;have O:=X.trans l;have aC:=l.cell ay;have aD:=l.cell az;have aE:=l.cell aA;have aF:=l.cell aB;by_cases h1:k=1
 · have F:decide (k=1)=true:=by simpa using h1
   have HV:Hid (x.tdiv ((Nat.gcd x.natAbs k:Nat):Int)=x/\((k/Nat.gcd x.natAbs k:Nat):Int)=(k:Int)):=by
    refine qh ?_;subst h1;rw[jC];exact⟨md _,rfl⟩
   rw[F];clear F h1;go_wp2;have q:=hR.ext l;have z:=Z.ext l;have aK:=q.c 0 rfl;have aL:=q.c 1 rfl;have aM:=z.c 0 rfl;have aN:=z.c 1 rfl;have aR:=q.frozen 0;have aS:=q.frozen 1;have aT:=z.frozen 0;have aU:=z.frozen 1
   go_region
   go_wp2;have hA:=(((q.set 0 (.bool s)).set 1 (.slice a n c)).far (p:=⟨w.heap.size+3,0,none⟩) (by simp) (.bool t)).far (p:=⟨w.heap.size+3,1,none⟩) (by simp) (.slice b m d);have hB:=(((z.far (p:=⟨w.heap.size+2,0,none⟩) (by simp) (.bool s)).far (p:=⟨w.heap.size+2,1,none⟩) (by simp) (.slice a n c)).set 0 (.bool t)).set 1 (.slice b m d);have N:=((((O.setCell (p:=⟨w.heap.size+2,0,none⟩) (by simp) (.bool s)).setCell (p:=⟨w.heap.size+2,1,none⟩) (by simp) (.slice a n c)).setCell (p:=⟨w.heap.size+3,0,none⟩) (by simp) (.bool t)).setCell (p:=⟨w.heap.size+3,1,none⟩) (by simp) (.slice b m d)).drew
   refine fh (PL (cs:=Ae s a n c) (cs':=Ae t b m d) (t:=123) (t':=123) rfl Am Am rfl rfl hA hB) rfl ?_;rw[HV.out.1,HV.out.2];exact⟨s,a,n,c,t,b,m,d,rfl,N,⟨HS,hx.ext N⟩,⟨HT,hy.ext N⟩⟩
 · have F:decide (k=1)=false:=by simpa using h1
   rw[F];clear F h1
   go_wp2_with fail
   refine(ah _ O).out.mono ?_;rintro e w2 ⟨J,G,I,H,rfl,y,ab,ao⟩;have ak:(Ae J G I H).toArray=#[.bool J,.slice G I H]:=rfl;have Y:=O.trans y;have aG:=y.cell aC;have aH:=y.cell aD;have aI:=y.cell aE;have aJ:=y.cell aF;have hY:=Arr.new w2 123 (Ae false none 0 0)
   go_upto_region 4 with(refine Aa (vs:=Ae J G I H) rfl rfl rfl rfl rfl Am hY rfl (Ao _ _ _ _) ?_;intro w3 K ag)
   have o:Ext w2 w3:=((Ext.refl w2).alloc _).grownR ag (lrf _);have E:=Y.trans o;have u00:=o.cell aG;have u01:=o.cell aH;have u10:=o.cell aI;have u11:=o.cell aJ;have g0:w3.cell? ⟨w2.heap.size,0,none⟩=some (.bool J):=K.cell (i:=0) (by simp[Ae]);have g1:w3.cell? ⟨w2.heap.size,1,none⟩=some (.slice G I H):=K.cell (i:=1) (by simp[Ae]);have a5:AQ w3 (.agg (Ae J G I H).toArray) ((Nat.gcd x.natAbs k:Nat):Int):=⟨J,G,I,H,rfl,ab,ao.ext o⟩;clear ak
   have S:=fun(j:World) (f:Ext w3 j)=>qh (And.intro (f.cell u00) (And.intro (f.cell u01) (And.intro (f.cell u10) (And.intro (f.cell u11) (And.intro (f.cell g0) (f.cell g1))))))
   refine Ad
    [he (.agg #[.bool s,.slice a n c]),he (.agg #[.bool J,.slice G I H]),hp (fun v j=>∃ D A C B,v = .agg (Ae D A C B).toArray/\Hid (decide (x.tdiv ((Nat.gcd x.natAbs k:Nat):Int)<0)=D)/\Wd j A C B (Int.natAbs (x.tdiv ((Nat.gcd x.natAbs k:Nat):Int)))),he (.agg #[.bool t,.slice b m d]),he (.agg #[.bool J,.slice G I H]),hp (fun v j=>∃ D A C B,v = .agg (Ae D A C B).toArray/\Hid (decide (((k/Nat.gcd x.natAbs k:Nat):Int)<0)=D)/\Wd j A C B (Int.natAbs (((k/Nat.gcd x.natAbs k:Nat):Int))))]
    ⟨fun v w w' e ⟨D,A,C,B,h1,h2,h3⟩=>⟨D,A,C,B,h1,h2,h3.ext e⟩,fun v w w' e ⟨D,A,C,B,h1,h2,h3⟩=>⟨D,A,C,B,h1,h2,h3.ext e⟩,trivial⟩ ⟨?o0,?o1,?o2,?o3,?o4,?o5,trivial⟩ ?fin
   case o0 | o1 | o3 | o4=>exact ol2
   case o2 =>
    refine Ai rfl fun ρ j f a8 af h => ?_;have e1:_=_:=h.2.1;have e2:_=_:=h.2.2.1;obtain⟨aq,ar,au,av,aw,ax⟩:=(S j f).out;refine⟨95,#[.agg #[.bool s,.slice a n c],.agg #[.bool J,.slice G I H]],by go_simp,((al j (E.trans f) _ (a5.ext f)).out).mono ?_⟩;rintro e w' ⟨D,A,C,B,rfl,M,R,Q⟩;exact⟨_,rfl,M,D,A,C,B,rfl,R,Q⟩
   case o5 =>
    refine Ai rfl fun ρ j f a8 af h => ?_;have e1:_=_:=h.2.1;have e2:_=_:=h.2.2.1;obtain⟨aq,ar,au,av,aw,ax⟩:=(S j f).out;refine⟨95,#[.agg #[.bool t,.slice b m d],.agg #[.bool J,.slice G I H]],by go_simp,((a6 j (E.trans f) _ (a5.ext f)).out).mono ?_⟩;rintro e w' ⟨D,A,C,B,rfl,M,R,Q⟩;exact⟨_,rfl,M,D,A,C,B,rfl,R,Q⟩
   case fin =>
    intro j f;rintro _ ⟨s1,a1,n1,c1,rfl,a9,am⟩;rintro _ ⟨s2,a2,n2,c2,rfl,aa,an⟩;change wpList _ _ _ _ _ _;simp only[CB];have q:=((((hR.ext l).ext y).ext o).ext f);have z:=((((Z.ext l).ext y).ext o).ext f);have aO:(Ae s1 a1 n1 c1).toArray=#[.bool s1,.slice a1 n1 c1]:=rfl;have aP:(Ae s2 a2 n2 c2).toArray=#[.bool s2,.slice a2 n2 c2]:=rfl
    go_wp2_with(first
     | (refine Aa (vs:=Ae s1 a1 n1 c1) rfl rfl rfl rfl rfl Am q rfl (Ao _ _ _ _) ?_;intro w9 ae a4;have a0:=z.kept a4 (by simp))
     | (refine Aa (vs:=Ae s2 a2 n2 c2) rfl rfl rfl rfl rfl Am a0 rfl (Ao _ _ _ _) ?_;intro aQ V L))
    have W:=ae.kept L (by simp);exact fh (PL rfl Am Am rfl rfl W V) rfl (UG (E.trans f) q (AL _ _ _ _) a4 (by omega) a0 (AL _ _ _ _) L (by omega) a9 am aa an)
def StI(p:Value->World->Prop):Prop:=∀ v w w' g t cs cs',Arr w g t cs->(∀ x∈cs,∀ i,x ≠ .int .u64 i)->w.grownBy w' (some g)->Arr w' g t cs'->cs'.length=cs.length->(∀ x∈cs',∀ i,x ≠ .int .u64 i)->p v w->p v w'
def StX(p:Value->World->Prop):Prop:=∀ v w w',Ext w w'->p v w->p v w'
def NI(z:Int)(v:Value)(w:World):Prop:=∃ s a n c,v = .agg (Ae s a n c).toArray/\Hid (decide (z<0)=s)/\Wd w a n c z.natAbs
theorem NI.x(z:Int):StX (NI z):=fun _ _ _ e ⟨s,a,n,c,h1,h2,h3⟩=>⟨s,a,n,c,h1,h2,h3.ext e⟩
theorem NI.i(z:Int):StI (NI z):=fun _ _ _ _ _ _ _ b e d _ _ _ ⟨s,a,n,c,h1,h2,h3⟩=>⟨s,a,n,c,h1,h2,h3.kept b e d⟩
def NII(z y:Int)(v:Value)(w:World):Prop:=∃ s a n c s' a' n' c',v = .tuple #[.agg (Ae s a n c).toArray,.agg (Ae s' a' n' c').toArray]/\(Hid (decide (z<0)=s)/\Wd w a n c z.natAbs)/\(Hid (decide (y<0)=s')/\Wd w a' n' c' y.natAbs)
theorem NII.x(z y:Int):StX (NII z y):=fun _ _ _ e ⟨s,a,n,c,g,b,f,d,h1,⟨h2,h3⟩,⟨h4,h5⟩⟩=>⟨s,a,n,c,g,b,f,d,h1,⟨h2,h3.ext e⟩,⟨h4,h5.ext e⟩⟩
theorem NII.i(z y:Int):StI (NII z y):=fun _ _ _ _ _ _ _ b e d _ _ _ ⟨s,a,n,c,k,f,j,g,h1,⟨h2,h3⟩,⟨h4,h5⟩⟩=>⟨s,a,n,c,k,f,j,g,h1,⟨h2,h3.kept b e d⟩,⟨h4,h5.kept b e d⟩⟩
def NP(base:Nat)(v:Value)(w:World):Prop:=∃ g cs,v = .pointer (some ⟨g,0,none⟩)/\base<=g/\Arr w g 123 cs/\cs.length=2/\∀ x∈cs,∀ i,x ≠ .int .u64 i
theorem NP.x(b:Nat):StX (NP b):=fun _ _ _ e ⟨g,a,h1,h2,h3,h4,h5⟩=>⟨g,a,h1,h2,h3.ext e,h4,h5⟩
theorem NP.i(b:Nat):StI (NP b):=by
 intro v w p l t c d k o m a n f ⟨g,j,h1,h2,h3,h4,h5⟩;by_cases e:g=l
 · subst e;unfold Arr at k h3 a;rw[k]at h3;simp only[fc,jm,ij]at h3;obtain⟨h6,h7⟩:=h3;have h8:c=j:=by simpa using h6
   subst h8;subst h7;exact⟨g,d,h1,h2,a,by omega,f⟩
 · exact⟨g,j,h1,h2,h3.kept m (by simpa using e),h4,h5⟩
theorem NT.x:StX (fun _ _=>True):=fun _ _ _ _ _=>trivial
theorem NT.i:StI (fun _ _=>True):=fun _ _ _ _ _ _ _ _ _ _ _ _ _ _=>trivial
theorem CE(a:o.op = .alloc 123)(b:Operand->Value)(w:World):(execOp b o).run prog w = .ok (.value (.pointer (some ⟨w.heap.size,0,none⟩))) (w.alloc (.cells (Ae false none 0 0).toArray 123)):=by
 simp only[execOp,a];kernel_rfl
section
variable {ops:Array Oper} {hs:List Hd} {a0:Act} {C:World->Prop} {i:Nat} {o:Oper}
theorem CF(c:o.guard=none)(d:o.op = .alloc 123)(a:∀ w,C w->base<=w.heap.size):obl prog C ops hs a0 i o (hp (NP base)) :=
 Bj c fun e w _ b _=>⟨_,_,CE d e w,(Ext.refl w).alloc _,w.heap.size,Ae false none 0 0,rfl,a w b,Arr.new w _ _,rfl,AL _ _ _ _⟩
def Nb:List Hd->Prop
 | []=>True
 | h :: r=>(match h.ty with | .eq _=>True | .pr p=>StI p)/\Nb r
theorem KZ:∀ {l:List Hd},Nb l->∀ h∈l,(match h.ty with | .eq _=>True | .pr p=>StI p)
 | [],_,h,hm=>absurd hm (by simp)
 | x :: r,hl,h,hm=>by
  rcases fV.1 hm with rfl|hm
  · exact hl.1
  · exact KZ hl.2 h hm
theorem W8(s:Nb hs){w b:World}{g:Nat}{t:TypeId}{cs cs':List Value}(k:Arr w g t cs)(l:∀ x∈cs,∀ i,x ≠ .int .u64 i)(m:w.grownBy b (some g))(d:Arr b g t cs')(q:cs'.length=cs.length)(e:∀ x∈cs',∀ i,x ≠ .int .u64 i):GM ops hs i o w b (List.range hs.length):=by
 refine GN fun j n v a => ?_;have f:j<hs.length:=by
  have:=(ig.1 n).1;simpa using this
 have r:AH hs j∈hs:=by
  rw[AH,gqq,eZ f];simp
 have:=KZ s _ r;revert this a;cases (AH hs j).ty with
 | eq c=>exact fun a _=>a
 | pr p=>exact fun a hp=>hp v w b g t cs cs' k l m d q e a
theorem GK{x:Operand}(t:o.guard=none)(l:o.op = .store 123 x y)(A:Nb hs)(f:∀ w p g,C w->base<=g->w.grownBy p (some g)->C p)
 (h:∀ b w,DH b->C w->Cs ops hs a0 o b w [x,y]->(∃ v,b x=v/\NP base v w)/\(∃ v,b y=v/\NI z v w)):obl prog C ops hs a0 i o (hmp (fun _ _=>True)):=by
 unfold obl BQ;rw[t];intro b w hp k m;have j:Cs ops hs a0 o b w [x,y]:=by rw[l]at m;exact m
 obtain⟨⟨B,q,g,cs,rfl,h2,h3,h4,h5⟩,⟨D,r,s,a,n,c,rfl,_,_⟩⟩:=h b w hp k j;have e:(execOp b o).run prog w = .ok .skip (w.setRow g (Ae s a n c).toArray):=by
  have:=EJ (P:=prog) (w:=w) (ty:=123) (g:=g) (cs:=cs) (vs:=Ae s a n c) Am h3 (by rw[h4];rfl) (Ao _ _ _ _);simp only[execOp,l,q,r,fC,this,fe,fQ]
 rw[e];have d:=BH w g (Ae s a n c).toArray;exact⟨f w _ g k h2 d,W8 A h3 h5 d (C4 h3 _) (by rw[h4];rfl) (AL _ _ _ _),trivial⟩
end
end Go.Proofs.YthdbingomfdeoaaGreatDoor
