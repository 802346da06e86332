/- Part Pw29. -/
import Derived.Test.YtpkijbkpjhpfmaaGreatDoorPw28

set_option linter.all false
set_option maxRecDepth 100000
set_option maxHeartbeats 100000000
namespace Go.Proofs.YtpkijbkpjhpfmaaGreatDoor
open Tryz Go Go.RowKit
variable {ev:Bool} {T:ByteArray} {e0 i j k s va vb z:Int} {L q:List UInt8} {cs:List Value} {B P base c g n:Nat} {a b na:Option Addr} {w:World}
section
structure PC where
 W0:World
 g:Nat
 T:ByteArray
 na:Option Addr
 nn:Nat
 nc:Nat
 names:List (List UInt8)
 ev:Bool
structure PS(C:PC)(w:World)(r:List UInt8):Prop where
 tabs:AE C.W0
 nm:Bt C.W0 C.na C.nn C.nc C.names
 n6:C.names.length<=6
 sz:C.T.size<=8192
 ext:Ext C.W0 w
 base:C.W0.heap.size<=C.g
 suf:∃P,P<=C.T.size/\(Ab C.T).drop P=r
 arr:Arr w C.g 49 (prL C.T C.na C.nn C.nc C.ev (Pt.kd r) ((C.T.size-(Pt.skp r).length:Nat):Int) ((C.T.size-(Pt.nx r).length:Nat):Int) 0 0)
structure KS(C:PC)(w0 w:World)(r:List UInt8):Prop where
 ps:PS C w r
 gr:w0.grownBy w (some C.g)
 lt:C.g<w0.heap.size
variable {C:PC} {w w0 w':World} {r r':List UInt8}
theorem PS.lt(h:PS C w r):C.g<w.heap.size:=h.arr.lt
theorem PS.to(h:PS C w r)(b:Ext C.W0 w')(a:Arr w' C.g 49 (prL C.T C.na C.nn C.nc C.ev (Pt.kd r) ((C.T.size-(Pt.skp r).length:Nat):Int) ((C.T.size-(Pt.nx r).length:Nat):Int) 0 0)):PS C w' r:=⟨h.tabs,h.nm,h.n6,h.sz,b,h.base,h.suf,a⟩
theorem PS.x(h:PS C w r)(e:Ext w w'):PS C w' r:=h.to (h.ext.trans e) (h.arr.ext e)
theorem PS.box(h:PS C w r){B:Nat}(a:w.grownBy w' (some B))(b:C.g<B):PS C w' r:=h.to (h.ext.grownR a (by have:=h.base;omega)) (h.arr.kept a (by simp;omega))
theorem PS.ks(h:PS C w r):KS C w w r:=⟨h,BU _ _,h.lt⟩
theorem KS.x(h:KS C w0 w r)(e:Ext w w'):KS C w0 w' r:=⟨h.ps.x e,C2 h.gr e,h.lt⟩
theorem Qz{a b c:World}(h:a.grownBy b (some g))(e:b.grownBy c (some B))(o:a.heap.size<=B):a.grownBy c (some g):=by obtain⟨h1,h2,h3,h4,h5⟩:=h;obtain⟨i,j,l,m,n⟩:=e;refine⟨i.trans h1,j.trans h2,l.trans h3,ia h4 m,fun k f d=>?_⟩;rw[n k (by omega) (by simp;omega)];exact h5 k f d
theorem KS.box(h:KS C w0 w r){B:Nat}(a:w.grownBy w' (some B))(b:w0.heap.size<=B):KS C w0 w' r:=⟨h.ps.box a (by have:=h.lt;omega),Qz h.gr a b,h.lt⟩
theorem KS.call(h:KS C w0 w r)(b:PS C w' r')(a:w.grownBy w' (some C.g)):KS C w0 w' r':=⟨b,Bg h.gr a,h.lt⟩
theorem KS.le(h:KS C w0 w r):w0.heap.size<=w.heap.size:=h.gr.size
theorem KS.tabs(h:KS C w0 w r):AE w:=h.ps.tabs.ext h.ps.ext
theorem KS.arr(h:KS C w0 w r){B:Nat}{t:TypeId}{cs:List Value}(a:Arr w B t cs)(c:w0.heap.size<=B)(b:w.grownBy w' (some C.g)):Arr w' B t cs:=a.kept b (by have:=h.lt;simp;omega)
theorem TmO.keptQ{w j:World}{l:List Tx}(h:TmO w base a n c l)(e:Arr w g 49 cs)(f:w.grownBy j (some g)):TmO j base a n c l:=by obtain⟨b,h1,h2,h3⟩:=h;refine⟨b,h1.kept f (Or.inr (Hf h1 e (by decide))),h2,fun i q=>?_⟩;obtain⟨s,k,r,m,o,p,d⟩:=h3 i q;exact⟨s,k,r,m,o,p,d.kept f (Or.inr (Dr d e (by decide)))⟩
theorem PS.tm(h:PS C w r){base:Nat}{a:Option Addr}{n c:Nat}{l:List Tx}(d:TmO w base a n c l)(b:w.grownBy w' (some C.g)):TmO w' base a n c l:=d.keptQ h.arr b
theorem PS.c0(h:PS C w r):w.cell? ⟨C.g,0,none⟩=some (.string C.T):=h.arr.cell (i:=0) (by simp[prL])
theorem PS.c1(h:PS C w r):w.cell? ⟨C.g,1,none⟩=some (.slice C.na C.nn C.nc):=h.arr.cell (i:=1) (by simp[prL])
theorem PS.c2(h:PS C w r):w.cell? ⟨C.g,2,none⟩=some (.bool C.ev):=h.arr.cell (i:=2) (by simp[prL])
theorem PS.c3(h:PS C w r):w.cell? ⟨C.g,3,none⟩=some (.int .u8 (Pt.kd r)):=h.arr.cell (i:=3) (by simp[prL])
theorem PS.c4(h:PS C w r):w.cell? ⟨C.g,4,none⟩=some (.int .i64 ((C.T.size-(Pt.skp r).length:Nat):Int)):=h.arr.cell (i:=4) (by simp[prL])
theorem PS.c5(h:PS C w r):w.cell? ⟨C.g,5,none⟩=some (.int .i64 ((C.T.size-(Pt.nx r).length:Nat):Int)):=h.arr.cell (i:=5) (by simp[prL])
theorem Pt.skp_suf(r:List UInt8):skp r <:+ r:=List.dropWhile_suffix _
theorem Pt.nx_suf(r:List UInt8):nx r <:+ r:=(List.drop_suffix _ _).trans (skp_suf r)
theorem Nj{r:List UInt8}(c:L.drop P=r)(b:q <:+ r):L.drop (L.length-q.length)=q:=by (obtain⟨p,hp⟩:=b;have h1:L=L.take P++(p++q):=by rw[hp,<-c,jN]);obtain⟨A,a⟩:∃A,L.take P=A:=⟨_,rfl⟩;rw[a,<-gZ]at h1;rw[h1,show(A++p++q).length-q.length=(A++p).length by simp only[gI];omega,List.drop_left]
theorem PS.nxp(h:PS C w r):C.T.size-(Pt.nx r).length<=C.T.size/\(Ab C.T).drop (C.T.size-(Pt.nx r).length)=Pt.nx r:=by obtain⟨P,_,h2⟩:=h.suf;refine⟨by omega,?_⟩;rw[<-Aa];exact Nj h2 (Pt.nx_suf r)
theorem CY(h:PS C w r):Calls prog 28 #[.pointer (some ⟨C.g,0,none⟩)] w fun e a=>e=.returned (.tuple #[])/\w.grownBy a (some C.g)/\PS C a (Pt.nx r):=by obtain⟨h1,h2⟩:=h.nxp;refine(Iy h.arr h2 h1 (by have:=h.sz;omega)).mono ?_;rintro e a ⟨rfl,b,c⟩;exact⟨rfl,b,h.tabs,h.nm,h.n6,h.sz,h.ext.grownR b h.base,h.base,⟨_,h1,h2⟩,c⟩
theorem PS.tok(h:PS C w r):(⟨(Pt.tk r).toArray⟩:ByteArray)=C.T.extract (C.T.size-(Pt.skp r).length) (C.T.size-(Pt.nx r).length)/\C.T.size-(Pt.skp r).length<=C.T.size-(Pt.nx r).length/\C.T.size-(Pt.nx r).length<=C.T.size:=by obtain⟨P,h1,h2⟩:=h.suf;have h3:=Nj h2 (Pt.skp_suf r);have h4:=Pt.nx_len r;have h5:=(Pt.skp_suf r).length_le;have h6:=gX List.length h2;rw[jt,Aa]at h6;refine⟨Di ?_,by omega,by omega⟩;rw[Ay,AV,<-Aa,h3];unfold Pt.tk;congr 1;rw[Aa];omega
theorem Tw(h:PS C w r):(Pt.tk r).length<=8192:=by have h1:=gX (fun s=>(Ab s).length) h.tok.1;simp only[Ay]at h1;rw[Aa]at h1;have:=h.sz;rw[h1,ByteArray.size_extract];omega
theorem D0(h:PS C w r):Calls prog 135 #[.pointer (some ⟨C.g,0,none⟩)] w fun e b=>e=.returned (.string ⟨(Pt.tk r).toArray⟩)/\∃n,b=w.drewN n:=by obtain⟨h1,h2,h3⟩:=h.tok;have c:=h.c0;have d:=h.c4;have f:=h.c5;rw[h1];have a:=h.sz;generalize C.T.size-(Pt.skp r).length=x at*;generalize C.T.size-(Pt.nx r).length=y at*;(have i:(0:Int)<=(x:Int):=by omega);(have j:(x:Int)<=(y:Int):=by omega);(have k:(y:Int)<=(C.T.size:Int):=by omega);go_enter func135,ntmps135;go_upto_region 1 with(fail);go_quiet (fail);go_wp2;go_ret;exact⟨rfl,_,rfl⟩
theorem Wm{nn b a:Nat}(h:Arr w g 49 (prL T na nn b ev a k s e0 z)):Calls prog 59 #[.pointer (some ⟨g,0,none⟩),.int .i64 i,.int .i64 j] w fun e f=>e=.returned (.bool false)/\w.grownBy f (some g)/\Arr f g 49 (prL T na nn b ev a k s i j):=by go_enter func59,ntmps59;go_upto_region 1 with(fail);go_wp2_with(first|(refine C5 rfl rfl _ (prL T na nn b ev a k s i z) (by kernel_rfl) rfl rfl rfl h (by simp[prL]) rfl rfl ?_;intro l hA3 c)|(refine C5 rfl rfl _ (prL T na nn b ev a k s i j) (by kernel_rfl) rfl rfl rfl hA3 (by simp[prL]) rfl rfl ?_;intro m hA4 d));go_ret;exact⟨rfl,Bg c d,hA4⟩
theorem KC(h:PS C w r)(p:Pt.kd r=110)(o:Pt.dlen (Pt.tk r)=(Pt.tk r).length):Calls prog 136 #[.pointer (some ⟨C.g,0,none⟩)] w fun e s=>e=.returned (.bool true)/\w.grownBy s (some C.g)/\PS C s (Pt.nx r):=by (have v:=h.c3;rw[p]at v;have E:=Tw h;have c:=fun(d:World) (j:PS C d r)=>qh (D0 j);have b:=fun(d:World)=>qh (CU ⟨(Pt.tk r).toArray⟩ d (by show(Pt.tk r).toArray.size<=_;simp;omega));simp only[Ay,o]at b;have B:((⟨(Pt.tk r).toArray⟩:ByteArray).size:Int)=((Pt.tk r).length:Nat):=by show(((Pt.tk r).toArray.size:Nat):Int)=_;simp);have i:=fun(d:World) (j:PS C d r)=>qh (CY j);have m:=qh h;generalize (⟨(Pt.tk r).toArray⟩:ByteArray)=S at*;generalize (Pt.tk r).length=q at*;clear o p;go_enter func136,ntmps136;go_wp2_with fail;refine(c _ m.out).out.mono ?_;rintro e F ⟨rfl,k,rfl⟩;have n:=m.out.x ((Ext.refl w).drewN k);have y:=C6 (BU w (some C.g)) k;generalize w.drewN k=H at*;have a:=qh n;clear n;go_wp2_with fail;refine(b _).out.mono ?_;rintro e D ⟨rfl,rfl⟩;go_wp2_with fail;refine(c _ a.out).out.mono ?_;rintro e D ⟨rfl,l,rfl⟩;have P2:=a.out.x ((Ext.refl _).drewN l);have z:=C6 y l;generalize World.drewN _ l=I at*;have f:=qh P2;clear P2;go_wp2_with fail;refine(i _ f.out).out.mono ?_;rintro e G ⟨rfl,A,t⟩;go_wp2;go_ret;exact⟨rfl,Bg z A,t⟩
end
namespace Pl
def powT(l:List Tm):Nat->List Tm
| 0=>Bc 1
| k+1=>prodT (powT l k) l
end Pl
structure KD(l:List Pl.Tm)(k:Nat):Prop where
 step:∀i,i<k->∀out,Pl.Nrm out->(∀e,Pl.coef out e=Pl.coef (Pl.powT l i) e)->EP out l
 fits:∀out,Pl.Nrm out->(∀e,Pl.coef out e=Pl.coef (Pl.powT l k) e)->BJ out/\(∀t∈out,El t.2)/\out.length<=1000000
def UQ(w:World)(va k:Int)(ol:Option (List Pl.Tm))(e:Ending)(w':World):Prop :=
 (ol=none/\CB w 0 [] 1 e w')\/(∃l,ol=some l/\((¬(0<=k/\k<=24)/\CB w 0 [] 3 e w')\/((0<=k/\k<=24)/\24<BO l*k/\CB w 0 [] 2 e w')\/((0<=k/\k<=24)/\¬24<BO l*k/\Ds w (resQ va (Pl.powT l k.toNat)) e w')))
def PwI(w3:World)(l:List Pl.Tm)(i:Nat)(a:Option Addr)(n c:Nat)(wr:World):Prop:=Ext w3 wr/\∃out,Dw wr w3.heap.size a n c out/\Hid (Pl.Nrm out/\∀e,Pl.coef out e=Pl.coef (Pl.powT l i) e)
theorem Si{ts:List Tx}(hT:AE w)(ha:BB w a n c ts)(sa:∀t∈ts,t.1.length<=570)(ag:∀l,rdP va ts=some l->0<=k->k<=24->¬24<BO l*k->KD l k.toNat):Calls Tryz.prog 138 #[.agg #[.int .i64 va,.slice a n c],.int .i64 k] w (UQ w va k (rdP va ts)):=by have W:=fun(wx:World) (hC:Ext w wx)=>qh (DQ (vars:=va) (hT.ext hC) (ha.ext hC) sa);have HB:Hid (∀l,rdP va ts=some l->BJ l/\0<=va/\va<=6):=qh (fun l h=>⟨Qx h,(Bo h).1⟩);have P:=qh ag;obtain⟨ol,ah⟩:∃o,rdP va ts=o:=⟨_,rfl⟩;rw[ah]at W HB P|-;clear ah sa ha ag;go_enter Tryz.func138,Tryz.ntmps138;go_upto_region 1 with(fail);refine E8 ?_;intro w0 C Q a2 ax;have x:=Q.c 0 rfl;have az:=Q.c 1 rfl;have hR:Arr w0 (w.heap.size+1) 30 (Ad 0 none 0 0):=a2;have aG:(Ad 0 none 0 0).toArray=#[.int .i64 0,.slice none 0 0]:=rfl;clear Q a2 ax;have aH:=C.size;go_wp2_with fail;refine(W _ C).out.mono ?_;rintro e w3 ⟨a3,n3,c3,rfl,D,F⟩;have A:=C.trans D;have B:=hR.ext D;have x:=D.cell x;clear az hR W C D;cases ol with|none=>{simp only[kH];go_wp2_with(refine Ac 0 none 0 0 Ag B ?_;intro w9 f g);refine gE (Aj rfl Ai rfl rfl f) rfl ?_;exact Or.inl ⟨rfl,none,0,0,rfl,A.grownR g (by omega),TmO.nil _ _⟩}|some l=>simp only[jE,iQ]at F|-;have M:=qh (HB.out l rfl);have aI:=M.out.2;by_cases hk:0<=k/\k<=24;{(obtain⟨d,rfl⟩:∃j:Nat,k=(j:Int):=⟨k.toNat,by omega⟩;have aA:d<=24:=by omega);(have aq:¬((d:Int)<0):=by omega);(have ar:¬((24:Int)<(d:Int)):=by omega);have O:=qh hk;have ae:=qh (EM F M.out.1);have ad:=Gj M.out.1;have am:Hid (BO l=BO l):=qh rfl;generalize ac:BO l=dL at*;(have X:=qh ac;obtain⟨mm,V⟩:∃m,dL*(d:Int)=m:=⟨_,rfl⟩;have aJ:IntKind.i64.wrap (dL*(d:Int))=mm:=by rw[<-V];exact gM _ (by have h1:dL*(d:Int)<=6597069766656*(d:Int):=ji ad.2 (by omega);have h2:(-1)*(d:Int)<=dL*(d:Int):=ji ad.1 (by omega);omega));clear hk am ac;go_wp2_with fail;refine ae.out.mono ?_;rintro e w4 ⟨rfl,y⟩;have b:=A.trans y;have U:=B.ext y;have a5:=F.ext y;have x:=y.cell x;clear B F y ae A;have Y:=qh V;clear V;by_cases K:24<mm;{have s:Hid (24<BO l*(d:Int)):=qh (by rw[X.out,Y.out];exact K);go_wp2_with(refine Ac 0 none 0 0 Ag U ?_;intro w9 f g);refine gE (Aj rfl Ai rfl rfl f) rfl ?_;exact Or.inr ⟨l,rfl,Or.inr (Or.inl ⟨O.out,s.out,none,0,0,rfl,b.grownR g (by omega),TmO.nil _ _⟩)⟩};have s:Hid (¬24<BO l*(d:Int)):=qh (by rw[X.out,Y.out];exact K);have Z:=qh (P.out l rfl O.out.1 O.out.2 (by first|exact s.out|exact Int.not_lt.1 s.out));obtain⟨vn,rfl⟩:∃j:Nat,va=(j:Int):=⟨va.toNat,by omega⟩;clear P HB;have aj:=qh (GL (z:=1) (w:=w4) (by omega) (by omega));go_wp2_with fail;refine aj.out.mono ?_;rintro e w5 ⟨a1,rfl,S,ai⟩;have ab:=qh (Fj (v := .agg a1.toArray) (q:=((1:Int):Rat)) (w:=w5) ⟨a1,rfl,ai⟩);go_wp2_with fail;refine ab.out.mono ?_;rintro e w6 ⟨a6,n6,c6,rfl,a4,a9⟩;have J:=S.trans a4;have a8:PwI w4 l 0 a6 n6 c6 w6:=⟨J,Bc ((1:Int):Rat),a9.mono S.size,qh ⟨OB _,fun _=>rfl⟩⟩;have aE:IntKind.i64.wrap (d:Int)=(d:Int):=gM _ (by omega);clear ab aj J a4 a9 S ai;go_wp2;go_loopw[8,36] (fun rv iv wr=>∃(i:Nat) (a':Option Addr) (n' c':Nat),iv=.int .i64 i/\rv=.slice a' n' c'/\i<=d/\PwI w4 l i a' n' c' wr) (fun _ iv _=>d-(intOf iv).toNat);(case atStart=>exact⟨0,a6,n6,c6,rfl,rfl,gW _,a8⟩);case round=>clear a8;obtain⟨i,a',n',c',rfl,rfl,hi,R,ay,hO,N⟩:=hrel;by_cases au:i<d;{have an:=qh (Z.out.step i (by simpa using au) ay N.out.1 N.out.2);have aB:=qh (And.intro hO.len a5.len);have av:=qh (an.out.pc ((hT.ext b).ext R) hO.sl (a5.ext R));go_wp2_with fail;refine av.out.mono ?_;rintro e w7 ⟨al,⟨H,L,I,rfl,E,T⟩,h71,h72⟩;go_wp2;go_roundw;(case rel=>exact⟨i+1,H,L,I,by go_num,rfl,by omega,R.trans E,al,T.mono R.size,qh ⟨h71,fun e=>by rw[h72];exact Pl.coef_prod_ext N.out.2 (fun _=>rfl) e⟩⟩);case measure=>simp[intOf];omega};(have ap:i=d:=by omega);subst ap;have G:=qh (Z.out.fits _ N.out.1 (by simpa using N.out.2));have aD:=hO.len;have ak:=qh (B0 (vars:=vn) (w0:=w4) (hT.ext b) R hO (by omega) G.out.1 G.out.2.1 (by have:=G.out.2.2;omega));have x:=R.cell x;have aC:=U.ext R;go_wp2_with fail;refine ak.out.mono ?_;intro e w7 hw;have hq:=EL.q (p:=Pl.powT l i) hw N.out.1 N.out.2;obtain⟨rr,a0⟩:∃r,Hid (resQ (vn:Int) (Pl.powT l i)=r):=⟨_,qh rfl⟩;rw[a0.out]at hq;obtain⟨H,L,I,rfl,E,T⟩:=hq;have aw:Br rr.1 H L I=.agg #[.int .i64 rr.1,.slice H L I]:=rfl;rw[aw];have aF:(Ad rr.1 H L I).toArray=#[.int .i64 rr.1,.slice H L I]:=rfl;have aa:=U.ext E;clear hw ak G;go_wp2_with(refine Ac rr.1 H L I Ag aa ?_;intro w8 ao af);refine gE (Aj rfl Ai rfl rfl ao) rfl ?_;exact Or.inr ⟨l,rfl,Or.inr (Or.inr ⟨O.out,(by first|exact s.out|exact Int.not_lt.2 s.out),by rw[lr,a0.out];exact⟨H,L,I,rfl,(b.trans E).grownR af (by omega),(T.mono b.size).keptA aa af⟩⟩)⟩};have O:=qh hk;by_cases aq:k<0;{clear hk;go_wp2_with(refine Ac 0 none 0 0 Ag B ?_;intro w9 f g);refine gE (Aj rfl Ai rfl rfl f) rfl ?_;exact Or.inr ⟨l,rfl,Or.inl ⟨O.out,none,0,0,rfl,A.grownR g (by omega),TmO.nil _ _⟩⟩};(have ar:24<k:=by omega);clear hk;go_wp2_with(refine Ac 0 none 0 0 Ag B ?_;intro w9 f g);refine gE (Aj rfl Ai rfl rfl f) rfl ?_;exact Or.inr ⟨l,rfl,Or.inl ⟨O.out,none,0,0,rfl,A.grownR g (by omega),TmO.nil _ _⟩⟩
namespace Pt
abbrev V:=Int×List Pl.Tm
structure Fine(n:Nat)(p:List Pl.Tm):Prop where
 vars:n<=6
 inv:∀t∈p,InV n t.1
 ok:(resQ (n:Int) p).2.2=0
 text:∀t∈cnP p,(txt t.2).length<=570
inductive Cat where
| e|et (v:V)|t|tt (v:V)|f|a
noncomputable def opV (k:Nat) (p q:List Pl.Tm):List Pl.Tm:=if k=43 then cnP p++cnP q else if k=45 then cnP p++A3 (-1) (cnP q)else Pl.prodT (cnP p) (cnP q)
def VW(k:Nat)(p q:List Pl.Tm):Prop:=(k=43->Fk (cnP p++cnP q))/\(k=45->Fk (cnP p++A3 (-1) (cnP q)))/\(k=42->EP (cnP p) (cnP q)/\¬(cnP p≠[]/\cnP q≠[]/\24<BO (cnP p)+BO (cnP q)))
def BinOK(ev:Bool)(n k:Nat)(v u r:V):Prop :=
 if ev then ∃p q,v=((n:Int),p)/\u=((n:Int),q)/\r=((n:Int),opV k p q)/\Fine n p/\Fine n q/\VW k p q/\Fine n (opV k p q)else v=(0,[])/\u=(0,[])/\r=(0,[])
def ValOK(ev:Bool)(n:Nat)(p:List Pl.Tm)(v:V):Prop:=if ev then v=((n:Int),p)/\Fine n p else v=(0,[])
def UnOK(ev:Bool)(n:Nat)(f:List Pl.Tm->List Pl.Tm)(C:List Pl.Tm->Prop)(v r:V):Prop :=
 if ev then ∃p,v=((n:Int),p)/\r=((n:Int),f (cnP p))/\Fine n p/\C (cnP p)/\Fine n (f (cnP p))else v=(0,[])/\r=(0,[])
inductive G (ev:Bool) (names:List (List UInt8)):Cat->List UInt8->V->List UInt8->Prop where
| num {r:List UInt8} {v:V}:kd r=110->dlen (tk r)=(tk r).length->(tk r).length<=480->ValOK ev names.length (Bc ((W.decV (tk r):Int):Rat)) v->G ev names .a r v (nx r)
| var {r:List UInt8} {v:V} {i:Nat}:kd r=119->i<names.length->names.getD i []=tk r->tk r∉names.take i->ValOK ev names.length [(BP i,1)] v->G ev names .a r v (nx r)
| par {r r':List UInt8} {v:V}:kd r=40->G ev names .e (nx r) v r'->kd r'=41->G ev names .a r v (nx r')
| atom {r r':List UInt8} {v:V}:G ev names .a r v r'->kd r'≠94->G ev names .f r v r'
| pow {r r':List UInt8} {v u:V}:G ev names .a r v r'->kd r'=94->kd (nx r')=110->dlen (tk (nx r'))=(tk (nx r')).length->(tk (nx r')).length<=18->W.decV (tk (nx r'))<=24 ->
  UnOK ev names.length (fun l=>Pl.powT l (W.decV (tk (nx r')))) (fun l=>KD l (W.decV (tk (nx r')))/\¬24<BO l*(W.decV (tk (nx r')):Int)) v u->G ev names .f r u (nx (nx r'))
| term {r r' r2:List UInt8} {v u:V}:G ev names .f r v r'->G ev names (.tt v) r' u r2->G ev names .t r u r2
| tend {r:List UInt8} {v:V}:kd r≠42->kd r≠47->G ev names (.tt v) r v r
| tmul {r r' r2:List UInt8} {v u x y:V}:kd r=42->G ev names .f (nx r) u r'->BinOK ev names.length 42 v u x->G ev names (.tt x) r' y r2->G ev names (.tt v) r y r2
| tdiv {r r2:List UInt8} {v x y:V}:kd r=47->kd (nx r)=110->dlen (tk (nx r))=(tk (nx r)).length->(tk (nx r)).length<=480->0<W.decV (tk (nx r)) ->
  UnOK ev names.length (A3 (((W.decV (tk (nx r)):Int):Rat))⁻¹) (fun l=>BE (A3 (((W.decV (tk (nx r)):Int):Rat))⁻¹ l)) v x->G ev names (.tt x) (nx (nx r)) y r2->G ev names (.tt v) r y r2
| expr {r r' r2:List UInt8} {v u:V}:kd r≠45->G ev names .t r v r'->G ev names (.et v) r' u r2->G ev names .e r u r2
| eneg {r r' r2:List UInt8} {v x u:V}:kd r=45->G ev names .t (nx r) v r'->UnOK ev names.length (A3 (-1)) (fun l=>BE (A3 (-1) l)) v x->G ev names (.et x) r' u r2->G ev names .e r u r2
| eend {r:List UInt8} {v:V}:kd r≠43->kd r≠45->G ev names (.et v) r v r
| eop {r r' r2:List UInt8} {v u x y:V}:(kd r=43\/kd r=45)->G ev names .t (nx r) u r'->BinOK ev names.length (kd r) v u x->G ev names (.et x) r' y r2->G ev names (.et v) r y r2
end Pt
def NSE(l:List Pl.Tm)(v:Value)(w:World):Prop:=∃a n c,v=.slice a n c/\Bi w a n c l
theorem NSE.x(l:List Pl.Tm):StX (NSE l):=fun _ _ _ x ⟨a,n,c,h1,h2⟩=>⟨a,n,c,h1,h2.ext x⟩
def NRr(q:Rat)(v:Value)(w:World):Prop:=Bk w v q
theorem NRr.x(q:Rat):StX (NRr q):=fun _ _ _ x h=>Bk.ext h x
theorem VF:Pl.RB 2400 (-1):=⟨ED (by omega),ED (by omega)⟩
theorem Sj{m d:Nat}{ta tb:List Tx}(hT:AE w)(ha:BB w a n c ta)(hb:BB w b m d tb)(sa:∀t∈ta,t.1.length<=570)(sb:∀t∈tb,t.1.length<=570)(I:∀j i,rdP va ta=some j->rdP vb tb=some i->va=vb->Fk (j++A3 (-1) i)):Calls Tryz.prog 20 #[.agg #[.int .i64 va,.slice a n c],.agg #[.int .i64 vb,.slice b m d]] w (LO w va vb (rdP va ta) ((rdP vb tb).map (A3 (-1)))):=by have J:=fun(f:World) (g:Ext w f)=>qh (Eh (va:=va) (vb:=vb) (hT.ext g) (ha.ext g) (hb.ext g) sa sb);have a0:∀j,rdP va ta=some j->0<=va/\va<=6:=fun j h=>Jo h;have V:∀i,rdP vb tb=some i->(∀t∈i,Pl.RB 2400 t.2)/\i.length<=4096:=fun i h=>⟨fun t ht=>(OA h sb t ht).mono (by omega),by rw[Cl h];exact(Bo h).2.1⟩;obtain⟨oa,af⟩:∃o,rdP va ta=o:=⟨_,rfl⟩;obtain⟨ob,ag⟩:∃o,rdP vb tb=o:=⟨_,rfl⟩;rw[af]at J I a0|-;rw[ag]at J I V|-;have a5:=qh I;have a4:=qh V;clear af ag sa sb ha hb I V;go_enter Tryz.func20,Tryz.ntmps20;go_upto_region 1 with(fail);refine C8 ?_;intro w0 S P Q aa av;have ah:=P.c 0 rfl;have ay:=P.c 1 rfl;have az:=Q.c 0 rfl;have aA:=Q.c 1 rfl;have hR:Arr w0 (w.heap.size+2) 30 (Ad 0 none 0 0):=aa;have aE:(Ad 0 none 0 0).toArray=#[.int .i64 0,.slice none 0 0]:=rfl;clear P Q aa av;go_wp2_with fail;refine(J _ S).out.mono ?_;rintro e w1 ⟨a1,n1,c1,b1,m1,d1,aB,rfl,T,W⟩;have l:=S.trans T;have U:=hR.ext T;have ah:=T.cell ah;have aF:=S.size;clear J ay az aA;rcases W with⟨j,i,rfl,rfl,hv,rfl,ap,ab⟩|⟨hs,hv,rfl⟩|⟨hs,rfl⟩;{(have HM:=qh (a5.out j i rfl rfl hv);have aG:=a0 j rfl;have a3:=qh (a4.out i rfl);clear a5 a0 a4;obtain⟨vn,rfl⟩:∃k:Nat,va=(k:Int):=⟨va.toNat,by omega⟩;have HV:=qh hv;clear hv;have al:Hid (i.length=m1):=qh ab.len;have aj:=fun(f:World) (g:Ext w1 f) (v:Value) (hv:Bk f v (-1))=>qh (Jj ((hT.ext l).ext g) hv (ab.ext g) (by have:=a3.out.2;have:=al.out;omega) VF a3.out.1);have D:[j,A3 (-1) i].flatten=j++A3 (-1) i:=by simp);have M:=fun(f:World) (h:Ext w1 f) (a':Option Addr) (n' c':Nat) (ar:n'<=1000) (hl:Hb f a' n' c' [j,A3 (-1) i])=>qh (Gl ((hT.ext l).ext h) hl ar (by rw[D];exact HM.out.fits.len) (by rw[D];exact HM.out.pre) (by rw[D];exact HM.out.each));rw[D]at M;have ak:Hid (BE (j++A3 (-1) i)):=qh HM.out.fits;clear D;go_wp2;obtain⟨L,a6⟩:∃r,Hid (resQ (vn:Int) (j++A3 (-1) i)=r):=⟨_,qh rfl⟩;refine Ae [hdP w.heap.size 0,hdI vn,hdS a1 n1 c1,hu 5 (fun v f=>NRr (-1) v f),hdS b1 m1 d1,hu 6 (fun v f=>NSE (A3 (-1) i) v f),hu 7 (fun v f=>NLL [j,A3 (-1) i] v f),hu 8 (fun v f=>Hu w1 (j++A3 (-1) i) v f),hmp (fun v f=>NPE w1 L v f),hp (fun v f=>NPo w1 L v f),hdI L.2.2] ⟨NRr.x _,NSE.x _,NLL.x _,Hu.x _ _,NPE.x _ _,NPo.x _ _,trivial⟩ ⟨?o0,?o1,?o2,?o3,?o4,?o5,?o6,?o7,?o8,?o9,?o10,trivial⟩ ?fin;(case o0=>exact ofa (d:=0));(case o1=>exact ol);(case o2|o4=>exact omv);(case o3=>refine Ak rfl fun ρ f g s X h=>?_;refine⟨48,#[.int .i64 (-1)],by go_simp,(GL (z := -1) (w:=f) (by omega) (by omega)).mono ?_⟩;rintro e w' ⟨cs,rfl,an,h'⟩;exact⟨_,rfl,an,cs,rfl,h'⟩);(case o5=>refine Ak rfl fun ρ f g s X h=>?_;obtain⟨v1,e1,f1⟩:=h.2.1;have e2:_=_:=h.2.2.1;refine⟨47,#[v1,.slice b1 m1 d1],by go_simp,(aj f g v1 f1).out.mono ?_⟩;rintro e w' ⟨y,B,A,rfl,C,p⟩;exact⟨_,rfl,C,y,B,A,rfl,p.sl⟩);(case o6=>refine AW rfl ?_;intro ρ f hp g h;have s:=hp.const;have e0:_=_:=h.1;obtain⟨v1,e1,aq,aw,cq,rfl,f1⟩:=h.2.1;refine⟨.slice (some ⟨f.heap.size,0,none⟩) 2 2,f.alloc (.cells #[.slice a1 n1 c1,.slice aq aw cq] 84),by go_simp,(Ext.refl _).alloc _,some ⟨f.heap.size,0,none⟩,2,2,rfl,by omega,Ky (ap.ext g) f1⟩);(case o7=>refine Ak rfl fun ρ f g s X h=>?_;obtain⟨v1,e1,E,K,F,rfl,G,H⟩:=h.2.1;refine⟨46,#[.slice E K F],by go_simp,((M f g E K F G H).out).mono ?_⟩;rintro e w' ⟨ax,⟨y,B,A,rfl,C,p⟩,h1,h2⟩;exact⟨_,rfl,C,y,B,A,ax,rfl,p.mono g.size,h1,h2⟩);(case o8=>refine DV rfl ?_;intro ρ f hp g h;have s:=hp.const;have X:=hp.func;have e0:_=_:=h.2.1;obtain⟨v1,e1,E,K,F,aH,rfl,G,H,a9⟩:=h.2.2.1;have ad:=ak.out.out H a9;have aC:=G.len;refine⟨45,#[.int .i64 (vn:Int),.slice E K F],by go_simp,(B0 (vars:=vn) (w0:=w1) (hT.ext l) g G (by omega) ad.1 ad.2.1 (by omega)).mono ?_⟩;intro e w' hw;have hq:=EL.q hw H a9;rw[a6.out]at hq;obtain⟨y,B,A,rfl,C,p⟩:=hq;exact⟨_,rfl,C,⟨trivial,trivial,trivial,trivial,trivial,trivial,trivial,trivial,trivial,trivial,trivial,trivial⟩,y,B,A,rfl,p⟩);(case o9=>refine AW rfl ?_;intro ρ f hp g h;obtain⟨v0,e0,N,a2,O,rfl,a8⟩:=h.1;exact⟨Br L.1 N a2 O,f,by go_simp,Ext.refl _,N,a2,O,rfl,a8⟩);(case o10=>refine BK rfl ?_;intro ρ f hp g h;obtain⟨v0,e0,N,a2,O,rfl,a8⟩:=h.1;go_simp);case fin=>intro f g;rintro _;rintro _;rintro _;rintro _;rintro _ h42;rintro _ h43;change wpList _ _ _ _ _ _;simp only[BQ];obtain⟨y,B,A,rfl,p⟩:=h43;clear h42;have ao:=l.trans g;have ac:=U.ext g;have au:Br L.1 y B A=.agg #[.int .i64 L.1,.slice y B A]:=rfl;rw[au];have aD:(Ad L.1 y B A).toArray=#[.int .i64 L.1,.slice y B A]:=rfl;go_wp2_with(refine Ac L.1 y B A Ag ac ?_;intro w8 am ae);refine gE (Aj rfl Ai rfl rfl am) rfl ?_;exact Or.inl ⟨j,_,rfl,rfl,HV.out,by rw[a6.out];exact⟨y,B,A,rfl,ao.grownR ae (by omega),(p.mono l.size).keptA ac ae⟩⟩};{(have ai:((4:Int) != 0)=true:=by decide);(have Z:(oa.isSome && (ob.map (A3 (-1))).isSome)=true:=by rw[Option.isSome_map];exact hs);go_wp2_with(refine Ac 0 none 0 0 Ag U ?_;intro w9 R Y);refine gE (Aj rfl Ai rfl rfl R) rfl ?_;exact Or.inr (Or.inl ⟨Z,hv,none,0,0,rfl,l.grownR Y (by omega),TmO.nil _ _⟩)};(have ai:((1:Int) != 0)=true:=by decide);(have Z:(oa.isSome && (ob.map (A3 (-1))).isSome)=false:=by rw[Option.isSome_map];exact hs);go_wp2_with(refine Ac 0 none 0 0 Ag U ?_;intro w9 R Y);refine gE (Aj rfl Ai rfl rfl R) rfl ?_;exact Or.inr (Or.inr ⟨Z,none,0,0,rfl,l.grownR Y (by omega),TmO.nil _ _⟩)
end Go.Proofs.YtpkijbkpjhpfmaaGreatDoor
