/- Part Pq25. -/
import Derived.Test.YtlbmnokpiilfpaaGreatDoorPq24
import Derived.Test.YtlbmnokpiilfpaaGreatDoorPq9

set_option linter.all false
set_option maxRecDepth 100000
set_option maxHeartbeats 100000000
namespace Go.Proofs.YtlbmnokpiilfpaaGreatDoor
open Tryz Go Go.RowKit
variable {neg s:Bool} {y z:Int} {cs:List Value} {R c n x:Nat} {a:Option Addr} {t:TypeId} {v v':Value} {w w' w1 w9:World}
theorem A6:Agg prog 97 2:=⟨by kernel_rfl,by kernel_rfl⟩
theorem Mg.len{w:World}{a:Option Addr}{n c x:Nat}(h:Mg w a n c x){k:Nat}(b:x<P2 (32*k)):n<=k:=by
 obtain⟨d,h1,h2,-⟩:=h;unfold P2 at b;rw[mo]at b;have h3:=W.nrm_len (B:=4294967296) (by omega) h2.nrm (by rw[h2.val];exact b);rw[h1.len]at h3;exact h3
theorem Mg.pos(h:Mg w a n c x)(h0:0<x):0<n:=by
 have:=h.zero;omega
def ZR(w:World)(v:Value)(z:Int):Prop:=∃ s a n c,v = .agg (Ac s a n c).toArray/\Hid (decide (z<0)=s)/\Mg w a n c z.natAbs
theorem ZR.ext{w b:World}{v:Value}{z:Int}(h:ZR w v z)(e:Ext w b):ZR b v z:=by
 obtain⟨s,a,n,c,h1,d,h2⟩:=h;exact⟨s,a,n,c,h1,d,h2.ext e⟩
def Nd(w:World)(z:Int)(e:Ending)(w':World):Prop:=∃ s a n c,e = .returned (.agg (Ac s a n c).toArray)/\Ext w w'/\Hid (decide (z<0)=s)/\Mg w' a n c z.natAbs
theorem Nd.r{e:Ending}(h:Nd w z e w'):∃ v,e = .returned v/\Ext w w'/\ZR w' v z:=by
 obtain⟨s,a,n,c,h1,h2,h3,h4⟩:=h;exact⟨_,h1,h2,s,a,n,c,rfl,h3,h4⟩
theorem DK(e:Ext w w1)(f:Arr w1 R t cs)(g:241≠t)(b:w1.grownBy w9 (some R))(i:w.heap.size<=R)(d:Hid (decide (z<0)=s))(j:Mg w1 a n c z.natAbs):Nd w z (.returned (.agg (Ac s a n c).toArray)) w9 :=
 ⟨s,a,n,c,rfl,e.grownR b i,d,j.keptA f g b⟩
def Yh(w:World)(z y:Int)(e:Ending)(w':World):Prop:=∃ s a n c t b m d,e = .returned (.tuple #[.agg (Ac s a n c).toArray,.agg (Ac t b m d).toArray])/\Ext w w'/\(Hid (decide (z<0)=s)/\Mg w' a n c z.natAbs)/\(Hid (decide (y<0)=t)/\Mg w' b m d y.natAbs)
def Yi(w:World)(a:Option Addr)(n c:Nat)(z:Int)(e:Ending)(w':World):Prop:=∃ s,e = .returned (.agg (Ac s a n c).toArray)/\Ext w w'/\Hid (decide (z<0)=s)/\Mg w' a n c z.natAbs
theorem KA(k:Mg w a n c x){z:Int}(i:z=if neg=true then -(x:Int)else x) :
 Calls prog 149 #[.bool neg,.slice a n c] w (Yi w a n c z):=by
 have g:=k.zero;have m:Hid (z.natAbs=x):=by show _=_;rw[i];split <;> omega
 cases neg with
 | true =>
  have j:Hid (decide (z<0)=decide (0<n)):=by show _=_;rw[i,gY rfl];apply kj.2;omega
  clear g i
  go_enter func149,ntmps149
  go_upto_region 1 with(fail)
  refine AP ?_;intro o b e l
  go_wp2_with(refine Aa (vs:=Ac _ a n c) rfl rfl rfl rfl rfl A6 e rfl (Ae _ _ _ _) ?_;intro p f d)
  refine gF (v := .agg (Ac (decide (0<n)) a n c).toArray) (Ap rfl A6 rfl f) rfl ⟨_,rfl,b.grownR d (lrf _),j,by rw[m.out];exact k.ext (b.grownR d (lrf _))⟩
 | false =>
  have j:Hid (decide (z<0)=false):=by show _=_;rw[i,gT (by simp)];simp
  clear g i
  go_enter func149,ntmps149
  go_upto_region 1 with(fail)
  refine AP ?_;intro o b e l
  go_wp2_with(refine Aa (vs:=Ac _ a n c) rfl rfl rfl rfl rfl A6 e rfl (Ae _ _ _ _) ?_;intro p f d)
  refine gF (v := .agg (Ac false a n c).toArray) (Ap rfl A6 rfl f) rfl ⟨_,rfl,b.grownR d (lrf _),j,by rw[m.out];exact k.ext (b.grownR d (lrf _))⟩
theorem Ch(b:Mg w a n c x){z:Int}(d:z=if neg=true then -(x:Int)else x) :
 Calls prog 149 #[.bool neg,.slice a n c] w (Nd w z) :=
 (KA b d).mono fun _ _ ⟨s,h1,h2,h3,h4⟩=>⟨s,a,n,c,h1,h2,h3,h4⟩
theorem KB(h:ZR w v z){r:Int}(g:z.sign=r):Calls prog 150 #[v] w fun e y=>e = .returned (.int .i64 r)/\Ext w y:=by
 obtain⟨s,a,n,c,rfl,o,x⟩:=h;have f:=x.zero;cases s with
 | true =>
  have j:z<0:=by simpa using o.out
  have i:Hid (r = -1):=by show _=_;rw[<-g,p8 j]
  clear g j f
  go_enter func150,ntmps150
  go_upto_region 1 with(fail)
  refine AP ?_;intro p d b k;have l:=b.c 0 rfl;have m:=b.c 1 rfl;go_wp2;go_ret;exact⟨by rw[i.out];rfl,d⟩
 | false =>
  have j:¬ z<0:=by simpa using o.out
  by_cases h0:z=0
  · have q:n=0:=f.2 (by omega);have i:Hid (r=0):=by show _=_;rw[<-g,h0];rfl
    subst q;clear g h0 f j
    go_enter func150,ntmps150
    go_upto_region 1 with(fail)
    refine AP ?_;intro p d b k;have l:=b.c 0 rfl;have m:=b.c 1 rfl;go_wp2;go_ret;exact⟨by rw[i.out];rfl,d⟩
  · have t:((n:Int) == 0)=false:=by
     have:n≠0:=fun h=>h0 (by have:=f.1 h;omega);simpa using this
    have i:Hid (r=1):=by show _=_;rw[<-g,mI (by omega)]
    clear g j f h0
    go_enter func150,ntmps150
    go_upto_region 1 with(fail)
    refine AP ?_;intro p d b k;have l:=b.c 0 rfl;have m:=b.c 1 rfl;go_wp2;go_ret;exact⟨by rw[i.out];rfl,d⟩
theorem Gb(h:ZR w v z)(h':ZR w v' y)(bz:z.natAbs<P2 3200000)(B:y.natAbs<P2 3200000):Calls prog 184 #[v,v'] w (Nd w (z*y)):=by
 obtain⟨s,a,n,c,rfl,HS,hx⟩:=h;obtain⟨t,b,m,d,rfl,HT,hy⟩:=h';have F:=hx.len (k:=100000) bz;have G:=hy.len (k:=100000) B
 go_enter func184,ntmps184
 go_upto_region 1 with(fail)
 refine CO ?_;intro M r C D O U;have V:=C.c 0 rfl;have W:=C.c 1 rfl;have X:=D.c 0 rfl;have Y:=D.c 1 rfl;have hR:Arr M (w.heap.size+2) 97 (Ac false none 0 0):=O;have H:=fun(g:World) (f:Ext M g)=>qh (Ky ((hx.ext r).ext f) ((hy.ext r).ext f) F G);clear U bz B F G;have p:=fun(g:World) (f:Ext M g)=>qh (And.intro (f.cell V) (And.intro (f.cell W) (And.intro (f.cell X) (f.cell Y))))
 refine Ab (by kernel_rfl) (fun g=>Ext M g)
  [he (.pointer (some ⟨w.heap.size,0,none⟩)),
 he (.bool s),
 he (.pointer (some ⟨(w.heap.size+1),0,none⟩)),
 he (.bool t),
 he (.bool (s != t)),
 he (.pointer (some ⟨w.heap.size,1,none⟩)),
 he (.slice a n c),
 he (.pointer (some ⟨(w.heap.size+1),1,none⟩)),
 he (.slice b m d),
 hp (fun v g=>∃ i o j,v = .slice i o j/\Mg g i o j (z.natAbs*y.natAbs)),
 hp (fun v g=>ZR g v (z*y))]
  (by kernel_rfl) (fun _ _ e h=>h.trans e) ((Ext.refl M).drew) ⟨trivial,trivial,trivial,trivial,trivial,trivial,trivial,trivial,trivial,fun v w Z e ⟨i,o,j,h1,h2⟩=>⟨i,o,j,h1,h2.ext e⟩,fun v w Z e h=>ZR.ext h e,trivial⟩ ⟨?o0,?o1,?o2,?o3,?o4,?o5,?o6,?o7,?o8,?o9,?o10,trivial⟩ ?fin
 case o0 | o2=>exact ofa (d:=0)
 case o1 | o3 | o6 | o8=>exact ol
 case o5 | o7=>exact ofa (d:=1)
 case o4 =>
  refine Aj rfl fun A g f l h => ?_;have e0:A (.tmp 6)=(.bool s):=h.1;have e1:A (.tmp 8)=(.bool t):=h.2.1;obtain⟨I,J,K,L⟩:=(p g f).out;go_simp;cases s <;> cases t <;> rfl
 case o9 =>
  refine Ag rfl fun A g f l Q h => ?_;have e1:A (.tmp 11)=(.slice a n c):=h.2.1;have e2:A (.tmp 13)=(.slice b m d):=h.2.2.1;obtain⟨I,J,K,L⟩:=(p g f).out;refine⟨211,#[.slice a n c,.slice b m d],by go_simp,((H g f).out).mono ?_⟩;rintro e Z ⟨i,o,j,rfl,q,x⟩;exact⟨_,rfl,q,i,o,j,rfl,x⟩
 case o10 =>
  refine Ag rfl fun A g f l Q h => ?_;have e1:A (.tmp 9)=(.bool (s != t)):=h.2.1;obtain⟨v2,e2,a2,n2,c2,rfl,d2⟩:=h.2.2.1;obtain⟨I,J,K,L⟩:=(p g f).out;refine⟨149,#[.bool (s != t),.slice a2 n2 c2],by go_simp,(Ch d2 (z:=z*y) (Nw HS.out HT.out)).mono ?_⟩;rintro e Z ⟨s',i,o,j,rfl,q,S,x⟩;exact⟨_,rfl,q,s',i,o,j,rfl,S,x⟩
 case fin =>
  intro g f;rintro _ ⟨_,_,_,rfl,_⟩;rintro _ ⟨s1,a1,n1,c1,rfl,N,T⟩;change wpList _ _ _ _ _ _;simp only[lq,lw,lx,lz,Act.put,lj,lk,ly];have E:=hR.ext f
  go_wp2_with(refine Aa (vs:=Ac s1 a1 n1 c1) rfl rfl rfl rfl rfl A6 E rfl (Ae _ _ _ _) ?_;intro w9 P R)
  exact gF (Ap rfl A6 rfl P) rfl (DK (r.trans f) E (by decide) R (by omega) N T)
theorem Rp(h:ZR w v z)(h':ZR w v' y)(bz:z.natAbs<P2 3200000)(Y:y.natAbs<P2 3200000):Calls prog 216 #[v,v'] w (Nd w (z+y)):=by
 obtain⟨s,a,n,c,rfl,HS,hx⟩:=h;obtain⟨t,b,m,d,rfl,HT,hy⟩:=h';have P:=hx.len (k:=100000) bz;have Q:=hy.len (k:=100000) Y;have ae:=fun(g:World) (f:Ext w g)=>qh (Kw (hx.ext f) (hy.ext f) P Q);have ag:=fun(g:World) (f:Ext w g) (x:y.natAbs<=z.natAbs)=>qh (Kx (hx.ext f) (hy.ext f) P x);have ah:=fun(g:World) (f:Ext w g) (x:z.natAbs<=y.natAbs)=>qh (Kx (hy.ext f) (hx.ext f) Q x);have af:=fun(g:World) (f:Ext w g)=>qh (Fi (hx.ext f) (hy.ext f));clear bz Y P Q
 go_enter func216,ntmps216
 go_upto_region 1 with(fail)
 refine CO ?_;intro w0 M a0 a3 ai al;have a6:=a0.c 0 rfl;have a7:=a0.c 1 rfl;have a8:=a3.c 0 rfl;have a9:=a3.c 1 rfl;have hR:Arr w0 (w.heap.size+2) 97 (Ac false none 0 0):=ai;clear al;by_cases O:s=t
 · subst O;have aj:(s == s)=true:=by simp
   go_wp2;have T:=fun(g:World) (f:Ext w0 g)=>qh (And.intro (f.cell a6) (And.intro (f.cell a7) (And.intro (f.cell a8) (f.cell a9))))
   refine Ab (by kernel_rfl) (fun g=>Ext w0 g)
    [he (.pointer (some ⟨w.heap.size,0,none⟩)),
 he (.bool s),
 he (.pointer (some ⟨w.heap.size,1,none⟩)),
 he (.slice a n c),
 he (.pointer (some ⟨(w.heap.size+1),1,none⟩)),
 he (.slice b m d),
 hp (fun v g=>∃ i l j,v = .slice i l j/\Mg g i l j (z.natAbs+y.natAbs)),
 hp (fun v g=>ZR g v (z+y))]
    (by kernel_rfl) (fun _ _ e h=>h.trans e) ((Ext.refl w0).drew) ⟨trivial,trivial,trivial,trivial,trivial,trivial,fun v w L e ⟨i,l,j,h1,h2⟩=>⟨i,l,j,h1,h2.ext e⟩,fun v w L e h=>ZR.ext h e,trivial⟩ ⟨?o0,?o1,?o2,?o3,?o4,?o5,?o6,?o7,trivial⟩ ?fin
   case o0=>exact ofa (d:=0)
   case o1 | o3 | o5=>exact ol
   case o2 | o4=>exact ofa (d:=1)
   case o6 =>
    refine Ag rfl fun A g f r D h => ?_;have e1:A (.tmp 13)=(.slice a n c):=h.2.1;have e2:A (.tmp 15)=(.slice b m d):=h.2.2.1;obtain⟨H,I,J,K⟩:=(T g f).out;refine⟨210,#[.slice a n c,.slice b m d],by go_simp,((ae g (M.trans f)).out).mono ?_⟩;rintro e L ⟨i,l,j,rfl,o,p⟩;exact⟨_,rfl,o,i,l,j,rfl,p⟩
   case o7 =>
    refine Ag rfl fun A g f r D h => ?_;have e1:A (.tmp 11)=(.bool s):=h.2.1;obtain⟨v2,e2,X,n2,c2,rfl,d2⟩:=h.2.2.1;obtain⟨H,I,J,K⟩:=(T g f).out;refine⟨149,#[.bool s,.slice X n2 c2],by go_simp,(Ch d2 (z:=z+y) (UC HS.out HT.out)).mono ?_⟩;rintro e L ⟨s',i,l,j,rfl,o,F,p⟩;exact⟨_,rfl,o,s',i,l,j,rfl,F,p⟩
   case fin =>
    intro g f;rintro _ ⟨_,_,_,rfl,_⟩;rintro _ ⟨s1,W,n1,Z,rfl,B,G⟩;change wpList _ _ _ _ _ _;simp only[lq,lw,lx,lz,Act.put,lj,lk,ly];have q:=hR.ext f
    go_wp2_with(refine Aa (vs:=Ac s1 W n1 Z) rfl rfl rfl rfl rfl A6 q rfl (Ae _ _ _ _) ?_;intro w9 C E)
    exact gF (Ap rfl A6 rfl C) rfl (DK (M.trans f) q (by decide) E (by omega) B G)
 · have aj:(s == t)=false:=by simpa using O
   go_wp2_with fail
   refine(af _ M).out.mono ?_;rintro e S ⟨rfl,R⟩;have N:=M.trans R.ext;have a4:=hR.ext R.ext;have aa:=R.ext.cell a6;have ab:=R.ext.cell a7;have ac:=R.ext.cell a8;have ad:=R.ext.cell a9;by_cases x:y.natAbs<=z.natAbs
   · have ak:(0:Int)<=AZ (z.natAbs:Int) (y.natAbs:Int):=CZ.2 x;generalize AZ (z.natAbs:Int) (y.natAbs:Int)=cv at *
     go_wp2;have U:=fun(g:World) (f:Ext S g)=>qh (And.intro (f.cell aa) (And.intro (f.cell ab) (And.intro (f.cell ac) (f.cell ad))))
     refine Ab (by kernel_rfl) (fun g=>Ext S g)
      [he (.pointer (some ⟨w.heap.size,0,none⟩)),
 he (.bool s),
 he (.pointer (some ⟨w.heap.size,1,none⟩)),
 he (.slice a n c),
 he (.pointer (some ⟨(w.heap.size+1),1,none⟩)),
 he (.slice b m d),
 hp (fun v g=>∃ i l j,v = .slice i l j/\Mg g i l j (z.natAbs-y.natAbs)),
 hp (fun v g=>ZR g v (z+y))]
      (by kernel_rfl) (fun _ _ e h=>h.trans e) ((Ext.refl S).drew) ⟨trivial,trivial,trivial,trivial,trivial,trivial,fun v w L e ⟨i,l,j,h1,h2⟩=>⟨i,l,j,h1,h2.ext e⟩,fun v w L e h=>ZR.ext h e,trivial⟩ ⟨?o0,?o1,?o2,?o3,?o4,?o5,?o6,?o7,trivial⟩ ?fin
     case o0=>exact ofa (d:=0)
     case o1 | o3 | o5=>exact ol
     case o2 | o4=>exact ofa (d:=1)
     case o6 =>
      refine Ag rfl fun A g f r D h => ?_;have e1:A (.tmp 27)=(.slice a n c):=h.2.1;have e2:A (.tmp 29)=(.slice b m d):=h.2.2.1;obtain⟨H,I,J,K⟩:=(U g f).out;refine⟨260,#[.slice a n c,.slice b m d],by go_simp,((ag g (N.trans f) x).out).mono ?_⟩;rintro e L ⟨i,l,j,rfl,o,p⟩;exact⟨_,rfl,o,i,l,j,rfl,p⟩
     case o7 =>
      refine Ag rfl fun A g f r D h => ?_;have e1:A (.tmp 25)=(.bool s):=h.2.1;obtain⟨v2,e2,X,n2,c2,rfl,d2⟩:=h.2.2.1;obtain⟨H,I,J,K⟩:=(U g f).out;refine⟨149,#[.bool s,.slice X n2 c2],by go_simp,(Ch d2 (z:=z+y) (RF HS.out HT.out O x)).mono ?_⟩;rintro e L ⟨s',i,l,j,rfl,o,F,p⟩;exact⟨_,rfl,o,s',i,l,j,rfl,F,p⟩
     case fin =>
      intro g f;rintro _ ⟨_,_,_,rfl,_⟩;rintro _ ⟨s1,W,n1,Z,rfl,B,G⟩;change wpList _ _ _ _ _ _;simp only[lq,lw,lx,lz,Act.put,lj,lk,ly];have q:=a4.ext f
      go_wp2_with(refine Aa (vs:=Ac s1 W n1 Z) rfl rfl rfl rfl rfl A6 q rfl (Ae _ _ _ _) ?_;intro w9 C E)
      exact gF (Ap rfl A6 rfl C) rfl (DK (N.trans f) q (by decide) E (by omega) B G)
   · have ak:AZ (z.natAbs:Int) (y.natAbs:Int)<0:=by have:=mt CZ.1 x;omega
     have a5:z.natAbs<y.natAbs:=by omega
     generalize AZ (z.natAbs:Int) (y.natAbs:Int)=cv at *
     go_wp2;have V:=fun(g:World) (f:Ext S g)=>qh (And.intro (f.cell aa) (And.intro (f.cell ab) (And.intro (f.cell ac) (f.cell ad))))
     refine Ab (by kernel_rfl) (fun g=>Ext S g)
      [he (.pointer (some ⟨(w.heap.size+1),0,none⟩)),
 he (.bool t),
 he (.pointer (some ⟨(w.heap.size+1),1,none⟩)),
 he (.slice b m d),
 he (.pointer (some ⟨w.heap.size,1,none⟩)),
 he (.slice a n c),
 hp (fun v g=>∃ i l j,v = .slice i l j/\Mg g i l j (y.natAbs-z.natAbs)),
 hp (fun v g=>ZR g v (z+y))]
      (by kernel_rfl) (fun _ _ e h=>h.trans e) ((Ext.refl S).drew) ⟨trivial,trivial,trivial,trivial,trivial,trivial,fun v w L e ⟨i,l,j,h1,h2⟩=>⟨i,l,j,h1,h2.ext e⟩,fun v w L e h=>ZR.ext h e,trivial⟩ ⟨?o0,?o1,?o2,?o3,?o4,?o5,?o6,?o7,trivial⟩ ?fin
     case o0=>exact ofa (d:=0)
     case o1 | o3 | o5=>exact ol
     case o2 | o4=>exact ofa (d:=1)
     case o6 =>
      refine Ag rfl fun A g f r D h => ?_;have e1:A (.tmp 35)=(.slice b m d):=h.2.1;have e2:A (.tmp 37)=(.slice a n c):=h.2.2.1;obtain⟨H,I,J,K⟩:=(V g f).out;refine⟨260,#[.slice b m d,.slice a n c],by go_simp,((ah g (N.trans f) (ko a5)).out).mono ?_⟩;rintro e L ⟨i,l,j,rfl,o,p⟩;exact⟨_,rfl,o,i,l,j,rfl,p⟩
     case o7 =>
      refine Ag rfl fun A g f r D h => ?_;have e1:A (.tmp 33)=(.bool t):=h.2.1;obtain⟨v2,e2,X,n2,c2,rfl,d2⟩:=h.2.2.1;obtain⟨H,I,J,K⟩:=(V g f).out;refine⟨149,#[.bool t,.slice X n2 c2],by go_simp,(Ch d2 (z:=z+y) (RG HS.out HT.out O a5)).mono ?_⟩;rintro e L ⟨s',i,l,j,rfl,o,F,p⟩;exact⟨_,rfl,o,s',i,l,j,rfl,F,p⟩
     case fin =>
      intro g f;rintro _ ⟨_,_,_,rfl,_⟩;rintro _ ⟨s1,W,n1,Z,rfl,B,G⟩;change wpList _ _ _ _ _ _;simp only[lq,lw,lx,lz,Act.put,lj,lk,ly];have q:=a4.ext f
      go_wp2_with(refine Aa (vs:=Ac s1 W n1 Z) rfl rfl rfl rfl rfl A6 q rfl (Ae _ _ _ _) ?_;intro w9 C E)
      exact gF (Ap rfl A6 rfl C) rfl (DK (N.trans f) q (by decide) E (by omega) B G)
end Go.Proofs.YtlbmnokpiilfpaaGreatDoor
