/- Part Pq13. -/
import Derived.Test.YtlbmnokpiilfpaaGreatDoorPq12

set_option linter.all false
set_option maxRecDepth 100000
set_option maxHeartbeats 100000000
namespace Go.Proofs.YtlbmnokpiilfpaaGreatDoor
open Tryz Go Go.RowKit
variable {s:Bool} {z:Int} {xs:List Nat} {l:List UInt8} {cs:List Value} {R base c c0 d m n n0:Nat} {o:Oper} {y:Operand} {a a0 b pa:Option Addr} {q:Rat} {ty:TypeId} {v v':Value} {w w1 w9 wb:World}
theorem GM{pn pc x:Nat}(p:AM wb)(k:Ext wb w)(o:Own w wb.heap.size 5 a n c (l.map A2))(q:SlN .u64 w b m d xs)(g:Num 18446744073709551616 xs x)(s:m<=30)(t:n<=100000)(hp:pn<100) :
 Calls prog 284 #[.slice a n c,.slice b m d,.int .i64 0,.slice pa pn pc] w (JV wb (l ++ W.padD 0 x)):=by
 have f:=qh (Ic p k o q g (by omega) (by omega) (wd:=0) (by omega));rcases gX pn with rfl|h0
 all_goals
  go_enter func284,ntmps284
  go_wp2_with fail
  refine f.out.mono ?_;rintro e v ⟨i,r,j,rfl,h1,h2,h3⟩;go_wp2;go_ret;exact⟨i,r,j,rfl,h1,h2⟩
theorem Fv{x:Nat}(y:AM wb)(o:Ext wb w)(v:Own w wb.heap.size 5 a n c (l.map A2))(i:Wd w b m d x)(E:x<P2 1920)(z:n<=100000) :
 Calls prog 234 #[.slice a n c,.slice b m d] w (JV wb (l ++ Lib.decDigits x)):=by
 by_cases h1:x<18446744073709551616
 · exact Ib (y.ext o) o v i h1 z
 · have f:m<=30:=i.len (k:=30) E;have G:2<=m:=by
    refine Nat.lt_of_not_le fun h=>h1 ?_;obtain⟨M,D,t⟩:=i;have:=W.val_lt t.bnd;rw[t.val,D.len]at this;refine ib this ?_;rw[show(18446744073709551616:Nat)=18446744073709551616^1 by decide];exact ic (by omega) h
   have A:Hid (W.padD 0 x=Lib.decDigits x):=qh (W.padD_nat (by omega));obtain⟨M,s,g⟩:=i;have r:=fun(L:World) (j:Ext w L)=>qh (GM (pn:=1) (pc:=1) (pa:=some ⟨w.heap.size+1,0,none⟩) y (o.trans j) (v.ext j) (s.ext j) g f z (by omega));clear h1 g;have I:(0:Int)<(m:Int):=by omega
   go_enter func234,ntmps234
   go_wp2;have p:=((Ext.refl w).alloc (.cells #[.int .u64 10000000000000000000] 238)).alloc (.cells #[.slice (some ⟨w.heap.size,0,none⟩) 1 1] 81)
   go_loop[5] (fun K=>K = .slice (some ⟨w.heap.size+1,0,none⟩) 1 1) (fun _=>0)
   case atStart=>exact rfl
   case round =>
    obtain rfl:=hrel;have H:(m:Int)<=30:=by omega
    have F:decide ((30:Int)<(m:Int))=false:=gR (by omega)
    go_wp2_with fail
    refine(r _ p).out.mono ?_;rintro e N ⟨B,J,C,rfl,h9,q⟩;go_wp2;go_ret;exact⟨B,J,C,rfl,by rw[<-A.out];exact h9,q⟩
theorem Gu(L:AM wb)(K:Ext wb w)(A:Own w wb.heap.size 5 a0 n0 c0 (l.map A2))(h:AF wb v z)(M:z.natAbs<P2 1920)(Y:n0<=10000) :
 Calls prog 195 #[v,.slice a0 n0 c0] w (JV wb (l ++ Lib.itoa z)):=by
 obtain⟨s,a,n,c,rfl,J,N⟩:=h;cases s with
 | true =>
  have r:Hid (l ++ Lib.itoa z=(l ++ [45]) ++ Lib.decDigits z.natAbs):=by
   show _=_;have F:z<0:=by simpa using J.out
   unfold Lib.itoa;rw[gY F,iQ];rfl
  go_enter func195,ntmps195
  go_upto_region 1 with(fail)
  refine AP ?_;intro O f b m;have H:=b.c 0 rfl;have I:=b.c 1 rfl;have d:=K.trans f;have p:=A.ext f;have S:=p.alloc (.cells #[.int .u8 45] 5);have T:=(AB O wb.heap.size 5 #[.int .u8 45] 1 rfl d.size (by omega)).sl;have D:∀ k,blk a0=some k->wb.heap.size<=k:=fun k V=>(p.lt V).1;have X:=b.lt;clear m
  go_upto_region 3 with(refine B5 rfl rfl underlying228 Ei rfl rfl S rfl T (by simp[Value.oneCell']) (by unfold maxLen;omega) (by omega) (by simp;have:=d.size;omega) ?_;intro Q R P B q U)
  have o:Ext wb P:=(d.alloc _).grown q D;have C:Own P wb.heap.size 5 Q (n0+1) R ((l ++ [45]).map A2):=by rw[iJ];exact B
  have E:blk a0≠some w.heap.size:=by
   intro he;have:=(A.lt he).2;omega
  have y:=(b.alloc (.cells #[.int .u8 45] 5)).kept q (fun he=>E he.symm);have Z:=y.c 1 rfl;have j:=qh (Fv L o C (N.ext o) M (by omega))
  go_wp2_with fail
  refine j.out.mono ?_;rintro e W ⟨t,G,x,rfl,i,g⟩;go_wp2;go_ret;exact⟨t,G,x,rfl,by rw[r.out];exact i,g⟩
 | false =>
  have r:Hid (l ++ Lib.itoa z=l ++ Lib.decDigits z.natAbs):=by
   show _=_;have F:¬ z<0:=by simpa using J.out
   unfold Lib.itoa;rw[gT F];congr 2;omega
  go_enter func195,ntmps195
  go_upto_region 1 with(fail)
  refine AP ?_;intro O f b m;have H:=b.c 0 rfl;have I:=b.c 1 rfl;have d:=K.trans f;have j:=qh (Fv L d (A.ext f) (N.ext d) M (by omega));clear m
  go_wp2_with fail
  refine j.out.mono ?_;rintro e W ⟨t,G,x,rfl,i,g⟩;go_wp2;go_ret;exact⟨t,G,x,rfl,by rw[r.out];exact i,g⟩
theorem PK(o:AM w)(h:AF w v z)(p:z.natAbs<P2 1920):Calls prog 194 #[v] w fun e t=>e = .returned (.string ⟨(Lib.itoa z).toArray⟩)/\Ext w t:=by
 have i:=fun(k:World) (m:Ext w k)=>qh (Gu (l:=[]) (o.ext m) (Ext.refl k) (Own.nil k _ _) (h.ext m) p (gO _));obtain⟨s,a,n,c,rfl,x,B⟩:=h
 go_enter func194,ntmps194
 go_upto_region 1 with(fail)
 refine AP ?_;intro D d b j;have q:=b.c 0 rfl;have r:=b.c 1 rfl;clear j
 go_wp2_with fail
 refine(i _ d).out.mono ?_;rintro e E ⟨y,C,A,rfl,g,f⟩
 go_wp2_with(refine EY rfl rfl underlying228 underlying5 underlying9 rfl g.sl ?_)
 go_ret;exact⟨rfl,d.trans f⟩
theorem WY(b:Nat):P2 b<=10^(b/3+1):=by
 have e:P2 b=8^(b/3)*2^(b%3):=by
  unfold P2
  conv=>lhs;rw[<-j6 b 3,jQ,mo]
 have h1:8^(b/3)<=10^(b/3):=l9 (by omega) _;have h2:2^(b%3)<=2^2:=ic (by omega) (by omega);rw[e,ip];exact j5 h1 (by omega)
theorem ML{b:Nat}(h:n<P2 b):(Lib.decDigits n).length<=b/3+1:=W.dec_len (ib h (WY b)) (by omega)
theorem QR{b:Nat}(h:z.natAbs<P2 b):(Lib.itoa z).length<=b/3+2:=by
 have h1:=ML h;unfold Lib.itoa;split
 · simp;omega
 · have e:z.toNat=z.natAbs:=by omega
   rw[e];omega
/-! Ratios. -/
theorem Ak:Agg prog 85 4:=⟨by kernel_rfl,by kernel_rfl⟩
def Al(s:Bool)(a:Option Addr)(n c:Nat)(t:Bool)(b:Option Addr)(m d:Nat):List Value:=Ac s a n c ++ Ac t b m d
theorem Aq(s:Bool)(a:Option Addr)(n c:Nat)(t:Bool)(b:Option Addr)(m d:Nat):∀ v∈Al s a n c t b m d,v.oneCell'=true:=by
 intro v e;rcases iw.1 e with h|h
 · exact Ae _ _ _ _ v h
 · exact Ae _ _ _ _ v h
theorem AO(s:Bool)(a:Option Addr)(n c:Nat)(t:Bool)(b:Option Addr)(m d:Nat):∀ v∈Al s a n c t b m d,∀ i,v ≠ .int .u64 i:=by
 intro v e;rcases iw.1 e with h|h
 · exact Ax _ _ _ _ v h
 · exact Ax _ _ _ _ v h
def A9(q:Rat):Int:=if q.den=1 then 0 else(q.den:Int)
theorem N6(q:Rat):0<=A9 q:=by unfold A9;split <;> omega
theorem AG:A9 q=0<->q.den=1:=by
 have:=q.den_nz;unfold A9;split
 · simp[*]
 · constructor
   · intro h;omega
   · intro h;exact absurd h ‹_›
theorem Bi(h:q.den≠1):(A9 q).natAbs=q.den:=by unfold A9;rw[gT h];rfl
theorem DI(h:q.den≠1):A9 q=(q.den:Int):=by unfold A9;rw[gT h]
def CJ(w:World)(cs:List Value)(q:Rat):Prop:=∃ s a n c b m d,cs=Al s a n c false b m d/\Hid (decide (q.num<0)=s)/\Wd w a n c q.num.natAbs/\Wd w b m d (A9 q).natAbs
theorem CJ.ext{w f:World}{cs:List Value}{q:Rat}(h:CJ w cs q)(e:Ext w f):CJ f cs q:=by
 obtain⟨s,a,n,c,b,m,d,h1,h2,h3,h4⟩:=h;exact⟨s,a,n,c,b,m,d,h1,h2,h3.ext e,h4.ext e⟩
def BU(w:World)(v:Value)(q:Rat):Prop:=∃ cs,v = .agg cs.toArray/\CJ w cs q
theorem BU.ext{w a:World}{v:Value}{q:Rat}(h:BU w v q)(e:Ext w a):BU a v q:=by
 obtain⟨b,h1,h2⟩:=h;exact⟨b,h1,h2.ext e⟩
def GN(w:World)(q:Rat)(e:Ending)(w':World):Prop:=∃ cs,e = .returned (.agg cs.toArray)/\Ext w w'/\CJ w' cs q
theorem Vr:Hid (decide (A9 q<0)=false):=qh (gR (by have:=N6 q;omega))
theorem A8(b:Hid (decide (q.num<0)=s))(h:Wd w a n c q.num.natAbs):AF w (.agg (Ac s a n c).toArray) q.num:=⟨s,a,n,c,rfl,b,h⟩
theorem Bh(h:Wd w b m d (A9 q).natAbs):AF w (.agg (Ac false b m d).toArray) (A9 q):=⟨false,b,m,d,rfl,Vr,h⟩
def txt(q:Rat):List UInt8:=Lib.itoa q.num ++ (if q.den=1 then []else 47 :: Lib.decDigits q.den)
theorem PL(L:AM w)(h:BU w v q)(T:q.num.natAbs<P2 1920)(V:q.den<P2 1920):Calls prog 124 #[v] w fun e w'=>e = .returned (.string ⟨(txt q).toArray⟩)/\Ext w w':=by
 obtain⟨_,rfl,s,a,n,c,b,m,d,rfl,N,hx,hy⟩:=h;have B:=fun(A:World) (t:Ext w A)=>qh (AA (r:=decide (A9 q=0)) (Bh (hy.ext t)) rfl);have o:=fun(A:World) (t:Ext w A)=>qh (R6 (A8 N (hx.ext t)));by_cases h1:q.den=1
 · have z:decide (A9 q=0)=true:=by simpa using AG.2 h1
   have K:Hid (txt q=Lib.itoa q.num):=by show _=_;unfold txt;rw[gY h1,jL]
   rw[z]at B;clear z h1 V
   go_enter func124,ntmps124
   go_upto_region 1 with(fail)
   refine AP ?_;intro w0 x i F;have p0:=i.c 0 rfl;have p1:=i.c 1 rfl;have p2:=i.c 2 rfl;have p3:=i.c 3 rfl;clear F
   go_wp2_with fail
   refine(B _ x).out.mono ?_;rintro e G ⟨rfl,j⟩;have f:=x.trans j;have r0:=j.cell p0;have r1:=j.cell p1;by_cases p : -9223372036854775808<=q.num/\q.num<=9223372036854775807
   · have y:=Ji p;have X:=fun(A:World) (t:Ext w A)=>qh (N0 (L.ext t) p.1 p.2);rw[y]at o;clear y p
     go_wp2_with fail
     refine(o _ f).out.mono ?_;rintro e M ⟨rfl,g⟩
     go_wp2_with fail
     refine(X _ (f.trans g)).out.mono ?_;rintro e w3 ⟨rfl,D⟩;go_wp2;go_ret;exact⟨by rw[K.out];rfl,(f.trans g).trans D⟩
   · have y:=GL p;have Z:=fun(A:World) (t:Ext w A)=>qh (PK (L.ext t) (A8 N (hx.ext t)) T);rw[y]at o;clear y p
     go_wp2_with fail
     refine(o _ f).out.mono ?_;rintro e M ⟨rfl,g⟩;have t0:=g.cell r0;have t1:=g.cell r1
     go_wp2_with fail
     refine(Z _ (f.trans g)).out.mono ?_;rintro e w3 ⟨rfl,D⟩;go_wp2;go_ret;exact⟨by rw[K.out];rfl,(f.trans g).trans D⟩
 · have z:decide (A9 q=0)=false:=by simpa using mt AG.1 h1
   have K:Hid (txt q=Lib.itoa q.num ++ 47 :: Lib.itoa (A9 q)):=by
    show _=_;unfold txt;rw[gT h1,DI h1,Lib.itoa_nonneg]
   have W:(A9 q).natAbs<P2 1920:=by rw[Bi h1];exact V
   have a5:(Lib.itoa q.num).length<=700:=by have:=QR T;omega
   rw[z]at B;clear z h1 V o;have S:=fun(A:World) (t:Ext w A)=>qh (Gu (l:=[]) (L.ext t) (Ext.refl A) (Own.nil A _ _) (A8 N (hx.ext t)) T (gO _))
   go_enter func124,ntmps124
   go_upto_region 1 with(fail)
   refine AP ?_;intro w0 x i F;have p0:=i.c 0 rfl;have p1:=i.c 1 rfl;have p2:=i.c 2 rfl;have p3:=i.c 3 rfl;clear F
   go_wp2_with fail
   refine(B _ x).out.mono ?_;rintro e G ⟨rfl,j⟩;have f:=x.trans j;have r0:=j.cell p0;have r1:=j.cell p1
   go_wp2_with fail
   refine(S _ f).out.mono ?_;rintro e M ⟨a2,n2,c2,rfl,I,g⟩;have a0:=f.trans g;have a6:n2<=700:=by have:=I.len;simp at this;omega
   have C:Own M G.heap.size 5 a2 n2 c2 ((Lib.itoa q.num).map A2):=I;have hA:=C.alloc (.cells #[.int .u8 47] 5);have hL:=(AB M G.heap.size 5 #[.int .u8 47] 1 rfl g.size (by omega)).sl;have U:∀ k,blk a2=some k->G.heap.size<=k:=fun k hk=>(C.lt hk).1;have a4:=(i.ext j).lt
   go_upto_region 7 with(refine B5 rfl rfl underlying228 Ei rfl rfl hA rfl hL (by simp[Value.oneCell']) (by unfold maxLen;omega) (by omega) (by simp;have:=g.size;omega) ?_;intro a7 c7 w7 P Y a3)
   have E:Ext G w7:=(g.alloc _).grown Y U;have a1:=f.trans E;have Q:Own w7 G.heap.size 5 a7 (n2+1) c7 ((Lib.itoa q.num ++ [47]).map A2):=by rw[iJ];exact P
   have J:=qh (Gu (L.ext f) E Q (Bh (hy.ext f)) W (by omega));have H:=(i.ext j).ext E;have q2:=H.c 2 rfl;have q3:=H.c 3 rfl
   go_wp2_with fail
   refine J.out.mono ?_;rintro e w8 ⟨a8,n8,c8,rfl,R,O⟩
   go_wp2_with(refine EY rfl rfl underlying228 underlying5 underlying9 rfl R.sl ?_)
   go_ret;exact⟨by rw[K.out];rfl,f.trans O⟩
theorem BG(k:Ext w w1)(g:Arr w1 R ty cs)(e:∀ v∈cs,∀ i,v ≠ .int .u64 i)(f:w1.grownBy w9 (some R))(l:w.heap.size<=R)(j:Hid (decide (q.num<0)=s))(o:Wd w1 a n c q.num.natAbs)(p:Wd w1 b m d (A9 q).natAbs):GN w q (.returned (.agg (Al s a n c false b m d).toArray)) w9 :=
 ⟨_,rfl,k.grownR f l,s,a,n,c,b,m,d,rfl,j,o.kept g e f,p.kept g e f⟩
theorem F0(h1 : -9223372036854775808<=z)(h2:z<=9223372036854775807):Calls prog 78 #[.int .i64 z] w (GN w (z:Rat)):=by
 have b:((z:Int):Rat).num=z:=rfl;have a:A9 ((z:Int):Rat)=0:=AG.2 rfl
 go_enter func78,ntmps78
 go_upto_region 1 with(fail)
 refine AP ?_;intro v l j o;have s:Arr v w.heap.size 85 (Al false none 0 0 false none 0 0):=j;have q:=qh b;have r:=qh a;clear o b a
 go_wp2_with fail
 refine(Nu h1 h2).mono ?_;rintro e x ⟨s1,g,p,i,rfl,c,f,n⟩;have d:=s.ext c;have t:(Ac s1 g p i).toArray=#[.bool s1,.slice g p i]:=rfl
 go_wp2_with(refine Aa (vs:=Al s1 g p i false none 0 0) rfl rfl rfl rfl rfl Ak d rfl (Aq _ _ _ _ _ _ _ _) ?_;intro y k m)
 exact gF (Ap rfl Ak rfl k) rfl (BG (l.trans c) d (AO _ _ _ _ _ _ _ _) m (by omega) (by rw[q.out];exact f) (by rw[q.out];exact n) (by rw[r.out];exact Wd.nil _))
theorem DU(h:BU w v q){r:Bool}(l:decide (q=0)=r):Calls prog 147 #[v] w fun e x=>e = .returned (.bool r)/\Ext w x:=by
 obtain⟨_,rfl,s,a,n,c,b,m,d,rfl,o,t,z⟩:=h;have k:=fun(y:World) (p:Ext w y)=>qh (AA (r:=r) (A8 o (t.ext p)) (by rw[<-l];exact kj.2 Pl.rat_num_den_zero));clear l
 go_enter func147,ntmps147
 go_upto_region 1 with(fail)
 refine AP ?_;intro E g f j;have A:=f.c 0 rfl;have B:=f.c 1 rfl;have C:=f.c 2 rfl;have D:=f.c 3 rfl;clear j
 go_wp2_with fail
 refine(k _ g).out.mono ?_;rintro e F ⟨rfl,i⟩;go_wp2;go_ret;exact⟨rfl,g.trans i⟩
theorem Vs(h:BU w v q):Calls prog 188 #[v] w (EP w q.num):=by
 obtain⟨_,rfl,s,a,n,c,b,m,d,rfl,o,p,t⟩:=h
 go_enter func188,ntmps188
 go_upto_region 1 with(fail)
 refine Cf ?_;intro r f e g k;have x:=e.c 0 rfl;have y:=e.c 1 rfl;have z:=e.c 2 rfl;have A:=e.c 3 rfl;have l:Arr r (w.heap.size+1) 83 (Ac false none 0 0):=g;clear k
 go_wp2_with(refine Aa (vs:=Ac s a n c) rfl rfl rfl rfl rfl Ai l rfl (Ae _ _ _ _) ?_;intro B i j)
 exact gF (Ap rfl Ai rfl i) rfl (BA f l (Ax _ _ _ _) j (by omega) o (p.ext f))
theorem Jj(h:BU w v q):Calls prog 165 #[v] w (EP w (q.den:Int)):=by
 obtain⟨_,rfl,s,a,n,c,b,m,d,rfl,S,T,F⟩:=h;have E:=fun(R:World) (K:Ext w R)=>qh (AA (r:=decide (A9 q=0)) (Bh (F.ext K)) rfl);have A:Hid (decide ((q.den:Int)<0)=false):=qh (gR (by omega))
 go_enter func165,ntmps165
 go_upto_region 1 with(fail)
 refine Cf ?_;intro P p g B D;have U:=g.c 0 rfl;have V:=g.c 1 rfl;have N:=g.c 2 rfl;have O:=g.c 3 rfl;have L:Arr P (w.heap.size+1) 83 (Ac false none 0 0):=B;clear D
 go_wp2_with fail
 refine(E _ p).out.mono ?_;rintro e Y ⟨rfl,i⟩;have k:=p.trans i;have W:=i.cell N;have X:=i.cell O;have l:=L.ext i;by_cases h1:q.den=1
 · have f:decide (A9 q=0)=true:=by simpa using AG.2 h1
   rw[f];have G:=qh h1;clear f h1
   go_wp2_with fail
   refine(Nu (z:=1) (by omega) (by omega)).mono ?_;rintro e Z ⟨s1,I,M,J,rfl,t,y,C⟩;have x:=l.ext t
   go_wp2_with(refine Aa (vs:=Ac s1 I M J) rfl rfl rfl rfl rfl Ai x rfl (Ae _ _ _ _) ?_;intro Q j o)
   refine gF (Ap rfl Ai rfl j) rfl ?_;rw[G.out];exact BA (k.trans t) x (Ax _ _ _ _) o (by omega) y C
 · have f:decide (A9 q=0)=false:=by simpa using mt AG.1 h1
   have H:=qh (Bi h1);rw[f];clear f h1
   go_wp2_with(refine Aa (vs:=Ac false b m d) rfl rfl rfl rfl rfl Ai l rfl (Ae _ _ _ _) ?_;intro Q j o)
   refine gF (Ap rfl Ai rfl j) rfl (BA k l (Ax _ _ _ _) o (by omega) A ?_);have h2:=F.ext k;rw[H.out]at h2;exact h2
theorem DV(h:AF w v q.num)(H:AF w v' (q.den:Int)):Calls prog 166 #[v,v'] w (GN w q):=by
 have z:=fun(W:World) (N:Ext w W)=>qh (CY (r:=decide (q.den=1)) (H.ext N) (kj.2 (by omega)));obtain⟨s,a,n,c,rfl,G,I⟩:=h;obtain⟨t,b,m,d,rfl,M,J⟩:=H;have P:t=false:=by have:=M.out;rw[<-this];exact gR (by omega)
 subst P;have A:Wd w b m d q.den:=J;clear J
 go_enter func166,ntmps166
 go_upto_region 1 with(fail)
 refine CO ?_;intro U x o p y B;have C:=o.c 0 rfl;have D:=o.c 1 rfl;have E:=p.c 0 rfl;have F:=p.c 1 rfl;have O:Arr U (w.heap.size+2) 85 (Al false none 0 0 false none 0 0):=y;clear B
 go_wp2_with fail
 refine(z _ x).out.mono ?_;rintro e X ⟨rfl,f⟩;have g:=x.trans f;have Q:=f.cell C;have R:=f.cell D;have S:=f.cell E;have T:=f.cell F;have j:=O.ext f;by_cases h1:q.den=1
 · have i:decide (q.den=1)=true:=by simpa using h1
   have L:Hid (A9 q=0):=qh (AG.2 h1);rw[i];clear i h1
   go_wp2_with(refine Aa (vs:=Al s a n c false none 0 0) rfl rfl rfl rfl rfl Ak j rfl (Aq _ _ _ _ _ _ _ _) ?_;intro V k l)
   exact gF (Ap rfl Ak rfl k) rfl (BG g j (AO _ _ _ _ _ _ _ _) l (by omega) G (I.ext g) (by rw[L.out];exact Wd.nil _))
 · have i:decide (q.den=1)=false:=by simpa using h1
   have K:=qh (Bi h1);rw[i];clear i h1
   go_wp2_with(refine Aa (vs:=Al s a n c false b m d) rfl rfl rfl rfl rfl Ak j rfl (Aq _ _ _ _ _ _ _ _) ?_;intro V k l)
   exact gF (Ap rfl Ak rfl k) rfl (BG g j (AO _ _ _ _ _ _ _ _) l (by omega) G (I.ext g) (by rw[K.out];exact A.ext g))
def StI(p:Value->World->Prop):Prop:=∀ v w w' g t cs cs',Arr w g t cs->(∀ x∈cs,∀ i,x ≠ .int .u64 i)->w.grownBy w' (some g)->Arr w' g t cs'->cs'.length=cs.length->(∀ x∈cs',∀ i,x ≠ .int .u64 i)->p v w->p v w'
def StX(p:Value->World->Prop):Prop:=∀ v w w',Ext w w'->p v w->p v w'
def NI(z:Int)(v:Value)(w:World):Prop:=∃ s a n c,v = .agg (Ac s a n c).toArray/\Hid (decide (z<0)=s)/\Wd w a n c z.natAbs
theorem NI.x(z:Int):StX (NI z):=fun _ _ _ e ⟨s,a,n,c,h1,h2,h3⟩=>⟨s,a,n,c,h1,h2,h3.ext e⟩
theorem NI.i(z:Int):StI (NI z):=fun _ _ _ _ _ _ _ b e d _ _ _ ⟨s,a,n,c,h1,h2,h3⟩=>⟨s,a,n,c,h1,h2,h3.kept b e d⟩
def NP(base:Nat)(v:Value)(w:World):Prop:=∃ g cs,v = .pointer (some ⟨g,0,none⟩)/\base<=g/\Arr w g 83 cs/\cs.length=2/\∀ x∈cs,∀ i,x ≠ .int .u64 i
theorem NP.x(b:Nat):StX (NP b):=fun _ _ _ e ⟨g,a,h1,h2,h3,h4,h5⟩=>⟨g,a,h1,h2,h3.ext e,h4,h5⟩
theorem NP.i(b:Nat):StI (NP b):=by
 intro v w p l t c d k o m a n f ⟨g,j,h1,h2,h3,h4,h5⟩;by_cases e:g=l
 · subst e;unfold Arr at k h3 a;rw[k]at h3;simp only[gK,kz,jp]at h3;obtain⟨h6,h7⟩:=h3;have h8:c=j:=by simpa using h6
   subst h8;subst h7;exact⟨g,d,h1,h2,a,by omega,f⟩
 · exact⟨g,j,h1,h2,h3.kept m (by simpa using e),h4,h5⟩
theorem NT.x:StX (fun _ _=>True):=fun _ _ _ _ _=>trivial
theorem NT.i:StI (fun _ _=>True):=fun _ _ _ _ _ _ _ _ _ _ _ _ _ _=>trivial
theorem CK(a:o.op = .alloc 83)(b:Operand->Value)(w:World):(execOp b o).run prog w = .ok (.value (.pointer (some ⟨w.heap.size,0,none⟩))) (w.alloc (.cells (Ac false none 0 0).toArray 83)):=by
 simp only[execOp,a];kernel_rfl
section
variable {ops:Array Oper} {hs:List Hd} {a0:Act} {C:World->Prop} {i:Nat} {o:Oper}
theorem CL(c:o.guard=none)(d:o.op = .alloc 83)(a:∀ w,C w->base<=w.heap.size):obl prog C ops hs a0 i o (hp (NP base)) :=
 AE c fun e w _ b _=>⟨_,_,CK d e w,(Ext.refl w).alloc _,w.heap.size,Ac false none 0 0,rfl,a w b,Arr.new w _ _,rfl,Ax _ _ _ _⟩
def MN:List Hd->Prop
 | []=>True
 | h :: r=>(match h.ty with | .eq _=>True | .pr p=>StI p)/\MN r
theorem JX:∀ {l:List Hd},MN l->∀ h∈l,(match h.ty with | .eq _=>True | .pr p=>StI p)
 | [],_,h,hm=>absurd hm (by simp)
 | x :: r,hl,h,hm=>by
  rcases iE.1 hm with rfl|hm
  · exact hl.1
  · exact JX hl.2 h hm
theorem WZ(s:MN hs){w b:World}{g:Nat}{t:TypeId}{cs cs':List Value}(k:Arr w g t cs)(l:∀ x∈cs,∀ i,x ≠ .int .u64 i)(m:w.grownBy b (some g))(d:Arr b g t cs')(q:cs'.length=cs.length)(e:∀ x∈cs',∀ i,x ≠ .int .u64 i):Gk ops hs i o w b (List.range hs.length):=by
 refine Ka fun j n v a => ?_;have f:j<hs.length:=by
  have:=(mD.1 n).1;simpa using this
 have r:AQ hs j∈hs:=by
  rw[AQ,gqq,gD f];simp
 have:=JX s _ r;revert this a;cases (AQ hs j).ty with
 | eq c=>exact fun a _=>a
 | pr p=>exact fun a hp=>hp v w b g t cs cs' k l m d q e a
theorem Gv{x:Operand}(t:o.guard=none)(l:o.op = .store 83 x y)(A:MN hs)(f:∀ w p g,C w->base<=g->w.grownBy p (some g)->C p)
 (h:∀ b w,DE b->C w->Cq ops hs a0 o b w [x,y]->(∃ v,b x=v/\NP base v w)/\(∃ v,b y=v/\NI z v w)):obl prog C ops hs a0 i o (hmp (fun _ _=>True)):=by
 unfold obl Cr;rw[t];intro b w hp k m;have j:Cq ops hs a0 o b w [x,y]:=by rw[l]at m;exact m
 obtain⟨⟨B,q,g,cs,rfl,h2,h3,h4,h5⟩,⟨D,r,s,a,n,c,rfl,_,_⟩⟩:=h b w hp k j;have e:(execOp b o).run prog w = .ok .skip (w.setRow g (Ac s a n c).toArray):=by
  have:=DG (P:=prog) (w:=w) (ty:=83) (g:=g) (cs:=cs) (vs:=Ac s a n c) Ai h3 (by rw[h4];rfl) (Ae _ _ _ _);simp only[execOp,l,q,r,ij,this,gS,iF]
 rw[e];have d:=BK w g (Ac s a n c).toArray;exact⟨f w _ g k h2 d,WZ A h3 h5 d (Cm h3 _) (by rw[h4];rfl) (Ax _ _ _ _),trivial⟩
end
end Go.Proofs.YtlbmnokpiilfpaaGreatDoor
