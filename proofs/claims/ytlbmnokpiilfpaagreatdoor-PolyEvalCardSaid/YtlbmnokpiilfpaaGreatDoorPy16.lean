/- Part Py16. -/
import Derived.Test.YtlbmnokpiilfpaaGreatDoorPyNu6
import Derived.Test.YtlbmnokpiilfpaaGreatDoorPy9

set_option linter.all false
set_option maxRecDepth 100000
set_option maxHeartbeats 100000000
namespace Go.Proofs.YtlbmnokpiilfpaaGreatDoor
open Tryz Go Go.RowKit
variable {neg s:Bool} {y y0 z z0:Int} {rows:List (List Value)} {xs:List Int} {l:List UInt8} {cs zs:List Value} {N R b0 base bytes c d g h k m n x:Nat} {a a' b:Option Addr} {p q:Rat} {e t:TypeId} {v v':Value} {w w' w1 w9:World}
theorem AH:Agg prog 97 2:=⟨by kernel_rfl,by kernel_rfl⟩
theorem Mg.len{w:World}{a:Option Addr}{n c x:Nat}(h:Mg w a n c x){k:Nat}(b:x<P2 (32*k)):n<=k:=by
 obtain⟨d,h1,h2,-⟩:=h;unfold P2 at b;rw[jO]at b;have h3:=W.nrm_len (B:=4294967296) (by omega) h2.nrm (by rw[h2.val];exact b);rw[h1.len]at h3;exact h3
theorem Mg.pos(h:Mg w a n c x)(h0:0<x):0<n:=by
 have:=h.zero;omega
def ZR(w:World)(v:Value)(z:Int):Prop:=∃ s a n c,v = .agg (Ab s a n c).toArray/\Hid (decide (z<0)=s)/\Mg w a n c z.natAbs
theorem ZR.ext{w b:World}{v:Value}{z:Int}(h:ZR w v z)(e:Ext w b):ZR b v z:=by
 obtain⟨s,a,n,c,h1,d,h2⟩:=h;exact⟨s,a,n,c,h1,d,h2.ext e⟩
def Jk(w:World)(z:Int)(e:Ending)(w':World):Prop:=∃ s a n c,e = .returned (.agg (Ab s a n c).toArray)/\Ext w w'/\Hid (decide (z<0)=s)/\Mg w' a n c z.natAbs
theorem Jk.r{e:Ending}(h:Jk w z e w'):∃ v,e = .returned v/\Ext w w'/\ZR w' v z:=by
 obtain⟨s,a,n,c,h1,h2,h3,h4⟩:=h;exact⟨_,h1,h2,s,a,n,c,rfl,h3,h4⟩
theorem CD(e:Ext w w1)(f:Arr w1 R t cs)(g:241≠t)(b:w1.grownBy w9 (some R))(i:w.heap.size<=R)(d:Hid (decide (z<0)=s))(j:Mg w1 a n c z.natAbs):Jk w z (.returned (.agg (Ab s a n c).toArray)) w9 :=
 ⟨s,a,n,c,rfl,e.grownR b i,d,j.keptA f g b⟩
def VE(w:World)(z y:Int)(e:Ending)(w':World):Prop:=∃ s a n c t b m d,e = .returned (.tuple #[.agg (Ab s a n c).toArray,.agg (Ab t b m d).toArray])/\Ext w w'/\(Hid (decide (z<0)=s)/\Mg w' a n c z.natAbs)/\(Hid (decide (y<0)=t)/\Mg w' b m d y.natAbs)
def VF(w:World)(a:Option Addr)(n c:Nat)(z:Int)(e:Ending)(w':World):Prop:=∃ s,e = .returned (.agg (Ab s a n c).toArray)/\Ext w w'/\Hid (decide (z<0)=s)/\Mg w' a n c z.natAbs
theorem Jl(k:Mg w a n c x){z:Int}(i:z=if neg=true then -(x:Int)else x) :
 Calls prog 149 #[.bool neg,.slice a n c] w (VF w a n c z):=by
 have g:=k.zero;have m:Hid (z.natAbs=x):=by show _=_;rw[i];split <;> omega
 cases neg with
 | true =>
  have j:Hid (decide (z<0)=decide (0<n)):=by show _=_;rw[i,pq rfl];apply jL.2;omega
  clear g i
  go_enter func149,ntmps149
  go_upto_region 1 with(fail)
  refine AM ?_;intro o b e l
  go_wp2_with(refine Aa (vs:=Ab _ a n c) rfl rfl rfl rfl rfl AH e rfl (Ad _ _ _ _) ?_;intro p f d)
  refine oM (v := .agg (Ab (decide (0<n)) a n c).toArray) (Ai rfl AH rfl f) rfl ⟨_,rfl,b.grownR d (lrf _),j,by rw[m.out];exact k.ext (b.grownR d (lrf _))⟩
 | false =>
  have j:Hid (decide (z<0)=false):=by show _=_;rw[i,pf (by simp)];simp
  clear g i
  go_enter func149,ntmps149
  go_upto_region 1 with(fail)
  refine AM ?_;intro o b e l
  go_wp2_with(refine Aa (vs:=Ab _ a n c) rfl rfl rfl rfl rfl AH e rfl (Ad _ _ _ _) ?_;intro p f d)
  refine oM (v := .agg (Ab false a n c).toArray) (Ai rfl AH rfl f) rfl ⟨_,rfl,b.grownR d (lrf _),j,by rw[m.out];exact k.ext (b.grownR d (lrf _))⟩
theorem BE(b:Mg w a n c x){z:Int}(d:z=if neg=true then -(x:Int)else x) :
 Calls prog 149 #[.bool neg,.slice a n c] w (Jk w z) :=
 (Jl b d).mono fun _ _ ⟨s,h1,h2,h3,h4⟩=>⟨s,a,n,c,h1,h2,h3,h4⟩
theorem Jm(h:ZR w v z){r:Int}(g:z.sign=r):Calls prog 150 #[v] w fun e y=>e = .returned (.int .i64 r)/\Ext w y:=by
 obtain⟨s,a,n,c,rfl,o,x⟩:=h;have f:=x.zero;cases s with
 | true =>
  have j:z<0:=by simpa using o.out
  have i:Hid (r = -1):=by show _=_;rw[<-g,jX j]
  clear g j f
  go_enter func150,ntmps150
  go_upto_region 1 with(fail)
  refine AM ?_;intro p d b k;have l:=b.c 0 rfl;have m:=b.c 1 rfl;go_wp2;go_ret;exact⟨by rw[i.out];rfl,d⟩
 | false =>
  have j:¬ z<0:=by simpa using o.out
  by_cases h0:z=0
  · have q:n=0:=f.2 (by omega);have i:Hid (r=0):=by show _=_;rw[<-g,h0];rfl
    subst q;clear g h0 f j
    go_enter func150,ntmps150
    go_upto_region 1 with(fail)
    refine AM ?_;intro p d b k;have l:=b.c 0 rfl;have m:=b.c 1 rfl;go_wp2;go_ret;exact⟨by rw[i.out];rfl,d⟩
  · have t:((n:Int) == 0)=false:=by
     have:n≠0:=fun h=>h0 (by have:=f.1 h;omega);simpa using this
    have i:Hid (r=1):=by show _=_;rw[<-g,jI (by omega)]
    clear g j f h0
    go_enter func150,ntmps150
    go_upto_region 1 with(fail)
    refine AM ?_;intro p d b k;have l:=b.c 0 rfl;have m:=b.c 1 rfl;go_wp2;go_ret;exact⟨by rw[i.out];rfl,d⟩
theorem CE(h:ZR w v z)(h':ZR w v' y)(Z:z.natAbs<P2 3200000)(A:y.natAbs<P2 3200000):Calls prog 184 #[v,v'] w (Jk w (z*y)):=by
 obtain⟨s,a,n,c,rfl,HS,hx⟩:=h;obtain⟨t,b,m,d,rfl,HT,hy⟩:=h';have E:=hx.len (k:=100000) Z;have F:=hy.len (k:=100000) A
 go_enter func184,ntmps184
 go_upto_region 1 with(fail)
 refine CR ?_;intro Y r B C M S;have T:=B.c 0 rfl;have U:=B.c 1 rfl;have V:=C.c 0 rfl;have W:=C.c 1 rfl;have hR:Arr Y (w.heap.size+2) 97 (Ab false none 0 0):=M;have G:=fun(g:World) (f:Ext Y g)=>qh (Ji ((hx.ext r).ext f) ((hy.ext r).ext f) E F);clear S Z A E F;have p:=fun(g:World) (f:Ext Y g)=>qh (And.intro (f.cell T) (And.intro (f.cell U) (And.intro (f.cell V) (f.cell W))))
 refine Ac
  [hdP w.heap.size 0,hdB s,hdP (w.heap.size+1) 0,hdB t,hdB (s != t),hdP w.heap.size 1,hdS a n c,hdP (w.heap.size+1) 1,hdS b m d,hp (fun v g=>∃ i o j,v = .slice i o j/\Mg g i o j (z.natAbs*y.natAbs)),hp (fun v g=>ZR g v (z*y))]
  ⟨fun v w X e ⟨i,o,j,h1,h2⟩=>⟨i,o,j,h1,h2.ext e⟩,fun v w X e h=>ZR.ext h e,trivial⟩ ⟨?o0,?o1,?o2,?o3,?o4,?o5,?o6,?o7,?o8,?o9,?o10,trivial⟩ ?fin
 case o0 | o2=>exact ofa (d:=0)
 case o1 | o3 | o6 | o8=>exact ol
 case o5 | o7=>exact ofa (d:=1)
 case o4 =>
  refine Ao rfl fun ρ g f l h => ?_;have e0:_=_:=h.1;have e1:_=_:=h.2.1;obtain⟨H,I,J,K⟩:=(p g f).out;go_simp;cases s <;> cases t <;> rfl
 case o9 =>
  refine Ae rfl fun ρ g f l O h => ?_;have e1:_=_:=h.2.1;have e2:_=_:=h.2.2.1;obtain⟨H,I,J,K⟩:=(p g f).out;refine⟨211,#[.slice a n c,.slice b m d],by go_simp,((G g f).out).mono ?_⟩;rintro e X ⟨i,o,j,rfl,q,x⟩;exact⟨_,rfl,q,i,o,j,rfl,x⟩
 case o10 =>
  refine Ae rfl fun ρ g f l O h => ?_;have e1:_=_:=h.2.1;obtain⟨v2,e2,a2,n2,c2,rfl,d2⟩:=h.2.2.1;obtain⟨H,I,J,K⟩:=(p g f).out;refine⟨149,#[.bool (s != t),.slice a2 n2 c2],by go_simp,(BE d2 (z:=z*y) (LU HS.out HT.out)).mono ?_⟩;rintro e X ⟨s',i,o,j,rfl,q,Q,x⟩;exact⟨_,rfl,q,s',i,o,j,rfl,Q,x⟩
 case fin =>
  intro g f;rintro _ ⟨_,_,_,rfl,_⟩;rintro _ ⟨s1,a1,n1,c1,rfl,L,R⟩;change wpList _ _ _ _ _ _;simp only[A0];have D:=hR.ext f
  go_wp2_with(refine Aa (vs:=Ab s1 a1 n1 c1) rfl rfl rfl rfl rfl AH D rfl (Ad _ _ _ _) ?_;intro w9 N P)
  exact oM (Ai rfl AH rfl N) rfl (CD (r.trans f) D (by decide) P (by omega) L R)
theorem Pa(h:ZR w v z)(h':ZR w v' y)(bz:z.natAbs<P2 3200000)(W:y.natAbs<P2 3200000):Calls prog 216 #[v,v'] w (Jk w (z+y)):=by
 obtain⟨s,a,n,c,rfl,HS,hx⟩:=h;obtain⟨t,b,m,d,rfl,HT,hy⟩:=h';have O:=hx.len (k:=100000) bz;have P:=hy.len (k:=100000) W;have ae:=fun(g:World) (f:Ext w g)=>qh (Jg (hx.ext f) (hy.ext f) O P);have ag:=fun(g:World) (f:Ext w g) (x:y.natAbs<=z.natAbs)=>qh (Jh (hx.ext f) (hy.ext f) O x);have ah:=fun(g:World) (f:Ext w g) (x:z.natAbs<=y.natAbs)=>qh (Jh (hy.ext f) (hx.ext f) P x);have af:=fun(g:World) (f:Ext w g)=>qh (Er (hx.ext f) (hy.ext f));clear bz W O P
 go_enter func216,ntmps216
 go_upto_region 1 with(fail)
 refine CR ?_;intro w0 L a0 a3 ai al;have a6:=a0.c 0 rfl;have a7:=a0.c 1 rfl;have a8:=a3.c 0 rfl;have a9:=a3.c 1 rfl;have hR:Arr w0 (w.heap.size+2) 97 (Ab false none 0 0):=ai;clear al;by_cases N:s=t
 · subst N;have aj:(s == s)=true:=by simp
   go_wp2;have R:=fun(g:World) (f:Ext w0 g)=>qh (And.intro (f.cell a6) (And.intro (f.cell a7) (And.intro (f.cell a8) (f.cell a9))))
   refine Ac
    [hdP w.heap.size 0,hdB s,hdP w.heap.size 1,hdS a n c,hdP (w.heap.size+1) 1,hdS b m d,hp (fun v g=>∃ i l j,v = .slice i l j/\Mg g i l j (z.natAbs+y.natAbs)),hp (fun v g=>ZR g v (z+y))]
    ⟨fun v w K e ⟨i,l,j,h1,h2⟩=>⟨i,l,j,h1,h2.ext e⟩,fun v w K e h=>ZR.ext h e,trivial⟩ ⟨?o0,?o1,?o2,?o3,?o4,?o5,?o6,?o7,trivial⟩ ?fin
   case o0=>exact ofa (d:=0)
   case o1 | o3 | o5=>exact ol
   case o2 | o4=>exact ofa (d:=1)
   case o6 =>
    refine Ae rfl fun ρ g f r C h => ?_;have e1:_=_:=h.2.1;have e2:_=_:=h.2.2.1;obtain⟨G,H,I,J⟩:=(R g f).out;refine⟨210,#[.slice a n c,.slice b m d],by go_simp,((ae g (L.trans f)).out).mono ?_⟩;rintro e K ⟨i,l,j,rfl,o,p⟩;exact⟨_,rfl,o,i,l,j,rfl,p⟩
   case o7 =>
    refine Ae rfl fun ρ g f r C h => ?_;have e1:_=_:=h.2.1;obtain⟨v2,e2,V,n2,Y,rfl,Z⟩:=h.2.2.1;obtain⟨G,H,I,J⟩:=(R g f).out;refine⟨149,#[.bool s,.slice V n2 Y],by go_simp,(BE Z (z:=z+y) (Sn HS.out HT.out)).mono ?_⟩;rintro e K ⟨s',i,l,j,rfl,o,E,p⟩;exact⟨_,rfl,o,s',i,l,j,rfl,E,p⟩
   case fin =>
    intro g f;rintro _ ⟨_,_,_,rfl,_⟩;rintro _ ⟨s1,U,n1,X,rfl,A,F⟩;change wpList _ _ _ _ _ _;simp only[A0];have q:=hR.ext f
    go_wp2_with(refine Aa (vs:=Ab s1 U n1 X) rfl rfl rfl rfl rfl AH q rfl (Ad _ _ _ _) ?_;intro w9 B D)
    exact oM (Ai rfl AH rfl B) rfl (CD (L.trans f) q (by decide) D (by omega) A F)
 · have aj:(s == t)=false:=by simpa using N
   go_wp2_with fail
   refine(af _ L).out.mono ?_;rintro e w1 ⟨rfl,Q⟩;have M:=L.trans Q.ext;have a4:=hR.ext Q.ext;have aa:=Q.ext.cell a6;have ab:=Q.ext.cell a7;have ac:=Q.ext.cell a8;have ad:=Q.ext.cell a9;by_cases x:y.natAbs<=z.natAbs
   · have ak:(0:Int)<=AW (z.natAbs:Int) (y.natAbs:Int):=Cx.2 x;generalize AW (z.natAbs:Int) (y.natAbs:Int)=cv at *
     go_wp2;have S:=fun(g:World) (f:Ext w1 g)=>qh (And.intro (f.cell aa) (And.intro (f.cell ab) (And.intro (f.cell ac) (f.cell ad))))
     refine Ac
      [hdP w.heap.size 0,hdB s,hdP w.heap.size 1,hdS a n c,hdP (w.heap.size+1) 1,hdS b m d,hp (fun v g=>∃ i l j,v = .slice i l j/\Mg g i l j (z.natAbs-y.natAbs)),hp (fun v g=>ZR g v (z+y))]
      ⟨fun v w K e ⟨i,l,j,h1,h2⟩=>⟨i,l,j,h1,h2.ext e⟩,fun v w K e h=>ZR.ext h e,trivial⟩ ⟨?o0,?o1,?o2,?o3,?o4,?o5,?o6,?o7,trivial⟩ ?fin
     case o0=>exact ofa (d:=0)
     case o1 | o3 | o5=>exact ol
     case o2 | o4=>exact ofa (d:=1)
     case o6 =>
      refine Ae rfl fun ρ g f r C h => ?_;have e1:_=_:=h.2.1;have e2:_=_:=h.2.2.1;obtain⟨G,H,I,J⟩:=(S g f).out;refine⟨260,#[.slice a n c,.slice b m d],by go_simp,((ag g (M.trans f) x).out).mono ?_⟩;rintro e K ⟨i,l,j,rfl,o,p⟩;exact⟨_,rfl,o,i,l,j,rfl,p⟩
     case o7 =>
      refine Ae rfl fun ρ g f r C h => ?_;have e1:_=_:=h.2.1;obtain⟨v2,e2,V,n2,Y,rfl,Z⟩:=h.2.2.1;obtain⟨G,H,I,J⟩:=(S g f).out;refine⟨149,#[.bool s,.slice V n2 Y],by go_simp,(BE Z (z:=z+y) (Ps HS.out HT.out N x)).mono ?_⟩;rintro e K ⟨s',i,l,j,rfl,o,E,p⟩;exact⟨_,rfl,o,s',i,l,j,rfl,E,p⟩
     case fin =>
      intro g f;rintro _ ⟨_,_,_,rfl,_⟩;rintro _ ⟨s1,U,n1,X,rfl,A,F⟩;change wpList _ _ _ _ _ _;simp only[A0];have q:=a4.ext f
      go_wp2_with(refine Aa (vs:=Ab s1 U n1 X) rfl rfl rfl rfl rfl AH q rfl (Ad _ _ _ _) ?_;intro w9 B D)
      exact oM (Ai rfl AH rfl B) rfl (CD (M.trans f) q (by decide) D (by omega) A F)
   · have ak:AW (z.natAbs:Int) (y.natAbs:Int)<0:=by have:=mt Cx.1 x;omega
     have a5:z.natAbs<y.natAbs:=by omega
     generalize AW (z.natAbs:Int) (y.natAbs:Int)=cv at *
     go_wp2;have T:=fun(g:World) (f:Ext w1 g)=>qh (And.intro (f.cell aa) (And.intro (f.cell ab) (And.intro (f.cell ac) (f.cell ad))))
     refine Ac
      [hdP (w.heap.size+1) 0,hdB t,hdP (w.heap.size+1) 1,hdS b m d,hdP w.heap.size 1,hdS a n c,hp (fun v g=>∃ i l j,v = .slice i l j/\Mg g i l j (y.natAbs-z.natAbs)),hp (fun v g=>ZR g v (z+y))]
      ⟨fun v w K e ⟨i,l,j,h1,h2⟩=>⟨i,l,j,h1,h2.ext e⟩,fun v w K e h=>ZR.ext h e,trivial⟩ ⟨?o0,?o1,?o2,?o3,?o4,?o5,?o6,?o7,trivial⟩ ?fin
     case o0=>exact ofa (d:=0)
     case o1 | o3 | o5=>exact ol
     case o2 | o4=>exact ofa (d:=1)
     case o6 =>
      refine Ae rfl fun ρ g f r C h => ?_;have e1:_=_:=h.2.1;have e2:_=_:=h.2.2.1;obtain⟨G,H,I,J⟩:=(T g f).out;refine⟨260,#[.slice b m d,.slice a n c],by go_simp,((ah g (M.trans f) (jc a5)).out).mono ?_⟩;rintro e K ⟨i,l,j,rfl,o,p⟩;exact⟨_,rfl,o,i,l,j,rfl,p⟩
     case o7 =>
      refine Ae rfl fun ρ g f r C h => ?_;have e1:_=_:=h.2.1;obtain⟨v2,e2,V,n2,Y,rfl,Z⟩:=h.2.2.1;obtain⟨G,H,I,J⟩:=(T g f).out;refine⟨149,#[.bool t,.slice V n2 Y],by go_simp,(BE Z (z:=z+y) (Pu HS.out HT.out N a5)).mono ?_⟩;rintro e K ⟨s',i,l,j,rfl,o,E,p⟩;exact⟨_,rfl,o,s',i,l,j,rfl,E,p⟩
     case fin =>
      intro g f;rintro _ ⟨_,_,_,rfl,_⟩;rintro _ ⟨s1,U,n1,X,rfl,A,F⟩;change wpList _ _ _ _ _ _;simp only[A0];have q:=a4.ext f
      go_wp2_with(refine Aa (vs:=Ab s1 U n1 X) rfl rfl rfl rfl rfl AH q rfl (Ad _ _ _ _) ?_;intro w9 B D)
      exact oM (Ai rfl AH rfl B) rfl (CD (M.trans f) q (by decide) D (by omega) A F)
theorem Jn{y:Nat}(g:Mg w a n c x)(e:Mg w b m d y)(f:n<=100000)(h0:0<y) :
 Calls prog 258 #[.slice a n c,.slice b m d] w (Iy w (x/y) (x%y)):=by
 rcases gQ x y with h|h
 · exact J7 g e f h
 · have i:=e.pos h0;rcases gQ 1 m with h1|h1
   · exact Ie g e f h (mm:=m-2) (by omega)
   · obtain rfl:m=1:=by omega
     exact Jj g e f h h0
theorem Hu(m : -9223372036854775808<=z/\z<9223372036854775808):Calls prog 186 #[.int .i64 z] w (Jk w z):=by
 by_cases E:z<0
 · obtain⟨x,rfl⟩:∃ x:Nat,z = -(x:Int):=⟨z.natAbs,by omega⟩;have T:IntKind.u64.wrap (-(x:Int))=18446744073709551616-(x:Int):=by show _%18446744073709551616=_;omega
   have Y:IntKind.u64.wrap (-(18446744073709551616-(x:Int)))=(x:Int):=by show _%18446744073709551616=_;omega
   have U : -(18446744073709551616-(x:Int))%18446744073709551616=(x:Int):=by omega
   have P:(x:Int)%4294967296=((x%4294967296:Nat):Int):=by omega
   have R:(x:Int)/4294967296%4294967296=((x/4294967296:Nat):Int):=by omega
   have Q:IntKind.u32.wrap (x:Int)=((x%4294967296:Nat):Int):=Ix x;have S:IntKind.u32.wrap ((x:Int)/4294967296)=((x/4294967296:Nat):Int):=by show _%4294967296=_;omega
   have F:decide (-(x:Int)<0)=true:=gX E
   go_enter func186,ntmps186
   go_upto_region 1 with(fail)
   refine AM ?_;intro l p b j
   go_upto_region 4 with(fail)
   have D:=b;clear b;have I:=D.lt;have C:x/4294967296<4294967296:=by omega
   have B:x%4294967296<4294967296:=gE _ (by omega);have a:=(Ay l l.heap.size 241 #[.int .u32 ((x%4294967296:Nat):Int),.int .u32 ((x/4294967296:Nat):Int)] 2 rfl (lrf _) (by omega));have g:SlN .u32 (l.alloc (.cells #[.int .u32 ((x%4294967296:Nat):Int),.int .u32 ((x/4294967296:Nat):Int)] 241)) (some ⟨w.heap.size+1,0,none⟩) 2 2 [x%4294967296,x/4294967296]:=by have:=a.sl;rw[j]at this;exact this
   have d:=(Ext.refl l).alloc (.cells #[.int .u32 ((x%4294967296:Nat):Int),.int .u32 ((x/4294967296:Nat):Int)] 241)
   have s:W.bnd 4294967296 [x%4294967296,x/4294967296]:=fun z m=>by
    rcases gV.1 m with rfl|m
    · exact B
    · rw[oZ.1 m];exact C
   have y:W.val 4294967296 [x%4294967296,x/4294967296]=x:=by simp only[W.val];omega
   have i:=a.ty;rw[j]at i;clear a;generalize x%4294967296=N at *
   generalize x/4294967296=J at *
   go_wp2_with fail
   refine(BN g).mono ?_;rintro e P ⟨k,rfl,rfl,K,M⟩;have L:=CX g i K M s y;have q:=p.trans d;have r:=D.ext d;generalize l.alloc (.cells #[.int .u32 (N:Int),.int .u32 (J:Int)] 241)=V at *
   have v:=qh (BE (neg:=true) L (z := -(x:Int)) (by simp))
   go_wp2_with fail
   refine v.out.mono ?_;rintro e R ⟨s1,G,O,H,rfl,c,n,A⟩;have f:=r.ext c
   go_wp2_with(refine Aa (vs:=Ab s1 G O H) rfl rfl rfl rfl rfl AH f rfl (Ad _ _ _ _) ?_;intro X o t)
   exact oM (Ai rfl AH rfl o) rfl (CD (q.trans c) f (by decide) t (by omega) n A)
 · obtain⟨x,rfl⟩:∃ x:Nat,z=(x:Int):=⟨z.natAbs,by omega⟩;have T:IntKind.u64.wrap (x:Int)=(x:Int):=by show _%18446744073709551616=_;omega
   have P:(x:Int)%4294967296=((x%4294967296:Nat):Int):=by omega
   have R:(x:Int)/4294967296%4294967296=((x/4294967296:Nat):Int):=by omega
   have Q:IntKind.u32.wrap (x:Int)=((x%4294967296:Nat):Int):=Ix x;have S:IntKind.u32.wrap ((x:Int)/4294967296)=((x/4294967296:Nat):Int):=by show _%4294967296=_;omega
   have F:decide ((x:Int)<0)=false:=pb E
   go_enter func186,ntmps186
   go_upto_region 1 with(fail)
   refine AM ?_;intro l p b j
   go_upto_region 4 with(fail)
   have D:=b;clear b;have I:=D.lt;have C:x/4294967296<4294967296:=by omega
   have B:x%4294967296<4294967296:=gE _ (by omega);have a:=(Ay l l.heap.size 241 #[.int .u32 ((x%4294967296:Nat):Int),.int .u32 ((x/4294967296:Nat):Int)] 2 rfl (lrf _) (by omega));have g:SlN .u32 (l.alloc (.cells #[.int .u32 ((x%4294967296:Nat):Int),.int .u32 ((x/4294967296:Nat):Int)] 241)) (some ⟨w.heap.size+1,0,none⟩) 2 2 [x%4294967296,x/4294967296]:=by have:=a.sl;rw[j]at this;exact this
   have d:=(Ext.refl l).alloc (.cells #[.int .u32 ((x%4294967296:Nat):Int),.int .u32 ((x/4294967296:Nat):Int)] 241)
   have s:W.bnd 4294967296 [x%4294967296,x/4294967296]:=fun z m=>by
    rcases gV.1 m with rfl|m
    · exact B
    · rw[oZ.1 m];exact C
   have y:W.val 4294967296 [x%4294967296,x/4294967296]=x:=by simp only[W.val];omega
   have i:=a.ty;rw[j]at i;clear a;generalize x%4294967296=N at *
   generalize x/4294967296=J at *
   go_wp2_with fail
   refine(BN g).mono ?_;rintro e P ⟨k,rfl,rfl,K,M⟩;have L:=CX g i K M s y;have q:=p.trans d;have r:=D.ext d;generalize l.alloc (.cells #[.int .u32 (N:Int),.int .u32 (J:Int)] 241)=V at *
   have v:=qh (BE (neg:=false) L (z:=(x:Int)) (by simp))
   go_wp2_with fail
   refine v.out.mono ?_;rintro e R ⟨s1,G,O,H,rfl,c,n,A⟩;have f:=r.ext c
   go_wp2_with(refine Aa (vs:=Ab s1 G O H) rfl rfl rfl rfl rfl AH f rfl (Ad _ _ _ _) ?_;intro X o t)
   exact oM (Ai rfl AH rfl o) rfl (CD (q.trans c) f (by decide) t (by omega) n A)
structure GS(w wr:World)(g:Nat)(aa:Option Addr)(na ca:Nat)(ab:Option Addr)(nb cb X Y:Nat):Prop where
 ext:Ext w wr
 x:Mg wr aa na ca X
 y:Mg wr ab nb cb Y
 g:Nat.gcd X Y=g
 bx:X<P2 3200000
 b_y:Y<P2 3200000
theorem LC(h:ZR w v z)(h':ZR w v' y)(bz:z.natAbs<P2 3200000)(E:y.natAbs<P2 3200000):Calls prog 213 #[v,v'] w (Jk w (Int.gcd z y:Nat)):=by
 obtain⟨s,a,n,c,rfl,HS,hx⟩:=h;obtain⟨t,b,m,d,rfl,HT,hy⟩:=h'
 go_enter func213,ntmps213
 go_upto_region 1 with(fail)
 refine CR ?_;intro A l p q F V;have Z:=p.c 0 rfl;have a0:=p.c 1 rfl;have a2:=q.c 0 rfl;have a3:=q.c 1 rfl;have hR:Arr A (w.heap.size+2) 97 (Ab false none 0 0):=F;have f:Hid (GS w A (Int.gcd z y) a n c b m d z.natAbs y.natAbs):=qh ⟨l,hx.ext l,hy.ext l,rfl,bz,E⟩;generalize z.natAbs=X0 at *
 generalize y.natAbs=M at *
 generalize Int.gcd z y=g at *
 clear V hx hy bz E HS HT p q F;go_wp2
 go_quiet (fail)
 have j:Ext A (A.drewN nq):=(Qt.drewN (Qt.refl A) nq).ext;have G:=hR.ext j;have C:Hid (GS w (A.drewN nq) g a n c b m d X0 M):=qh ⟨f.out.ext.trans j,f.out.x.ext j,f.out.y.ext j,f.out.g,f.out.bx,f.out.b_y⟩;have hS:w.heap.size<=w.heap.size+2:=by omega
 clear f hR;generalize A.drewN nq=w1 at *
 clear Z a0 a2 a3 j l;go_wp2
 go_loopg [5,6] M (fun gk av bv wr=>∃ (N J:Option Addr) (W O B K X Y:Nat),av = .slice N W O/\bv = .slice J B K/\Y<=gk/\Arr wr (w.heap.size+2) 97 (Ab false none 0 0)/\Hid (GS w wr g N W O J B K X Y))
 case atStart=>exact⟨a,b,n,c,m,d,X0,M,rfl,rfl,lrf _,G,C⟩
 case round =>
  clear C G;obtain⟨N,J,W,O,B,K,X,Y,rfl,rfl,T,H,f⟩:=hrel;by_cases h0:B=0
  · have HX:Hid (g=X):=qh (by
     have:=f.out.y.zero.1 h0;have h2:=f.out.g;rw[this,li]at h2
     exact h2.symm)
    have U:=qh (BE (neg:=false) f.out.x (z:=(X:Int)) (by simp));have Q:=f.out.ext;subst h0;clear f T
    go_wp2_with fail
    refine U.out.mono ?_;rintro e w2 ⟨s1,a1,n1,c1,rfl,i,D,I⟩;have o:=H.ext i;rw[<-HX.out]at D I
    go_wp2_with(refine Aa (vs:=Ab s1 a1 n1 c1) rfl rfl rfl rfl rfl AH o rfl (Ad _ _ _ _) ?_;intro w9 P S)
    exact oM (Ai rfl AH rfl P) rfl (CD (Q.trans i) o (by decide) S (by omega) D I)
  · have r:0<Y:=by
     rcases oV Y with h|h
     · exact absurd (f.out.y.zero.2 h) h0
     · exact h
    have a5:(0:Int)<B:=by omega
    have R:=qh (Jn f.out.x f.out.y (f.out.x.len (k:=100000) f.out.bx) r);clear h0
    go_wp2_with fail
    refine R.out.mono ?_;rintro e w2 ⟨qa,qn,qc,ra,rn,rc,rfl,i,_,hr⟩;have o:=H.ext i;have L:Hid (GS w w2 g J B K ra rn rc Y (X%Y)):=qh ⟨f.out.ext.trans i,f.out.y.ext i,hr,by rw[<-f.out.g,jF X Y,mN Y X,jF],f.out.b_y,kL (gE _ r) f.out.b_y⟩;have a4:X%Y<Y:=gE _ r;go_wp2
    go_roundg (X%Y)
    case rel=>exact⟨_,_,_,_,_,_,Y,X%Y,rfl,rfl,lrf _,o,L⟩
    case measure=>omega
theorem Es(h:ZR w v z)(h':ZR w v' y)(bz:z.natAbs<P2 3200000)(Y:y≠0):Calls prog 215 #[v,v'] w (VE w (z.tdiv y) (z.tmod y)):=by
 obtain⟨s,a,n,c,rfl,HS,hx⟩:=h;obtain⟨t,b,m,d,rfl,HT,hy⟩:=h';have U:=fun(i:World) (f:Ext w i)=>qh (Jn (hx.ext f) (hy.ext f) (hx.len (k:=100000) bz) (by omega));clear bz Y
 go_enter func215,ntmps215
 go_upto_region 1 with(fail)
 refine TN ?_;intro w0 G C D N O Z;have a0:=C.c 0 rfl;have a6:=C.c 1 rfl;have a3:=D.c 0 rfl;have a7:=D.c 1 rfl;have hR:Arr w0 (w.heap.size+2) 97 (Ab false none 0 0):=N;have S:Arr w0 (w.heap.size+3) 97 (Ab false none 0 0):=O;clear Z
 go_wp2_with fail
 refine(U _ G).out.mono ?_;rintro e w1 ⟨qa,qn,qc,ra,rn,rc,rfl,j,hq,hr⟩;have R:=G.trans j;have a4:=j.cell a0;have a5:=j.cell a3;go_wp2;have p:=fun(i:World) (f:Ext w1 i)=>qh (And.intro (f.cell a4) (f.cell a5))
 refine Ac
  [hdP w.heap.size 0,hdB s,hdP (w.heap.size+1) 0,hdB t,hdB (s != t),hdS qa qn qc,hp (fun v i=>ZR i v (z.tdiv y)),hdP w.heap.size 0,hdB s,hdS ra rn rc,hp (fun v i=>ZR i v (z.tmod y))]
  ⟨fun v w w' e h=>ZR.ext h e,fun v w w' e h=>ZR.ext h e,trivial⟩ ⟨?o0,?o1,?o2,?o3,?o4,?o5,?o6,?o7,?o8,?o9,?o10,trivial⟩ ?fin
 case o0 | o2 | o7=>exact ofa (d:=0)
 case o1 | o3 | o8=>exact ol
 case o5 | o9=>exact omv
 case o4 =>
  refine Ao rfl fun ρ i f o h => ?_;have e0:_=_:=h.1;have e1:_=_:=h.2.1;obtain⟨H,I⟩:=(p i f).out;go_simp;cases s <;> cases t <;> rfl
 case o6 =>
  refine Ae rfl fun ρ i f o V h => ?_;have e1:_=_:=h.2.1;have e2:_=_:=h.2.2.1;obtain⟨H,I⟩:=(p i f).out;refine⟨149,#[.bool (s != t),.slice qa qn qc],by go_simp,(BE (hq.ext f) (z:=z.tdiv y) (So HS.out HT.out)).mono ?_⟩;rintro e w' ⟨s',L,n',M,rfl,q,B,A⟩;exact⟨_,rfl,q,s',L,n',M,rfl,B,A⟩
 case o10 =>
  refine Ae rfl fun ρ i f o V h => ?_;have e1:_=_:=h.2.1;have e2:_=_:=h.2.2.1;obtain⟨H,I⟩:=(p i f).out;refine⟨149,#[.bool s,.slice ra rn rc],by go_simp,(BE (hr.ext f) (z:=z.tmod y) (Sp HS.out)).mono ?_⟩;rintro e w' ⟨s',L,n',M,rfl,q,B,A⟩;exact⟨_,rfl,q,s',L,n',M,rfl,B,A⟩
 case fin =>
  intro i f;rintro _ ⟨s1,a1,n1,c1,rfl,J,W⟩;rintro _ ⟨s2,a2,n2,c2,rfl,K,X⟩;change wpList _ _ _ _ _ _;simp only[A0];have r:=(hR.ext j).ext f;have T:=(S.ext j).ext f
  go_wp2_with(first
   | (refine Aa (vs:=Ab s1 a1 n1 c1) rfl rfl rfl rfl rfl AH r rfl (Ad _ _ _ _) ?_;intro w9 P l;have x:=T.kept l (by simp))
   | (refine Aa (vs:=Ab s2 a2 n2 c2) rfl rfl rfl rfl rfl AH x rfl (Ad _ _ _ _) ?_;intro a8 E g))
  have F:=P.kept g (by simp);have Q:=((R.trans f).grownR l (by omega)).grownR g (by omega);exact oM (LO rfl AH AH rfl rfl F E) rfl ⟨s1,a1,n1,c1,s2,a2,n2,c2,rfl,Q,⟨J,(W.keptA r (by decide) l).keptA x (by decide) g⟩,⟨K,(X.keptA r (by decide) l).keptA x (by decide) g⟩⟩
theorem Mg.top(h:Mg w a n c x)(l:0<n):∃ b e t,a=some ⟨b,e,none⟩/\w.cell? ⟨b,e+(n-1),none⟩=some (.int .u32 ((t:Nat):Int))/\0<t/\t<4294967296/\(n=1->x=t)/\(1<n->4294967296<=x):=by
 obtain⟨f,h1,h2,h3⟩:=h;obtain⟨b,e,rfl,i⟩:=h1.at (j:=n-1) (by omega);have g:=h1.len;have d:f≠[]:=by rintro rfl;simp at g;omega
 have m:=h2.nrm d;have k:f.getD (n-1) 0=f.getLast d:=by
  rw[kB,gqq,<-g,oN (by omega),pg]
 refine⟨b,e,f.getD (n-1) 0,rfl,i (n-1) (by omega),by omega,?_,?_,?_⟩
 · rw[k];exact h2.bnd _ (List.getLast_mem d)
 · intro h5;subst h5
   match f,g with
   | [y],_=>have h6:=h2.val;simp[W.val]at h6;simpa using h6.symm
 · intro h5;have h6:=W.nrm_pos (B:=4294967296) (by omega) h2.nrm d;rw[h2.val,g]at h6;exact oS (by have:=oT (n:=4294967296) (by omega) (show 1<=n-1 by omega);simpa using this) h6
def UZ(w:World)(x:Nat)(e:Ending)(w':World):Prop:=∃ k:Nat,e = .returned (.int .i64 k)/\Ext w w'/\k<=10000000/\(k=1<->x=1)/\(1<k<->1<x)
theorem DR(h:ZR w v z)(q:z.natAbs<P2 3200000):Calls prog 214 #[v] w (UZ w z.natAbs):=by
 have Y:=h;obtain⟨s,a,n,c,rfl,U,y⟩:=h;have O:=y.len (k:=100000) q;by_cases h0:n=0
 · have S:z.natAbs=0:=y.zero.1 h0;subst h0;clear q O
   go_enter func214,ntmps214
   go_upto_region 1 with(fail)
   refine AM ?_;intro H d b o;have A:=b.c 0 rfl;have C:=b.c 1 rfl;go_wp2;go_ret;exact⟨0,rfl,d,by omega,by omega,by omega⟩
 · obtain⟨g,T,t,rfl,p,Q,r,l,m⟩:=y.top (by omega);have P:((n:Int) == 0)=false:=by simpa using h0
   have K:=qh (And.intro l m);have e:IntKind.i64.wrap (32*((n:Int)-1))=((32*(n-1):Nat):Int):=by rw[oP _ (by omega)];omega
   have F:(n:Int)-1=((n-1:Nat):Int):=by omega
   have R:IntKind.i64.wrap ((n:Int)-1)=((n-1:Nat):Int):=by rw[oP _ (by omega)];omega
   clear q l m
   go_enter func214,ntmps214
   go_upto_region 1 with(fail)
   refine AM ?_;intro H d b o;have A:=b.c 0 rfl;have C:=b.c 1 rfl;have Z:=d.cell p;clear p o;obtain⟨B,E⟩:∃ B,32*(n-1)=B:=⟨_,rfl⟩;have M:B<=3200000:=by omega
   have I:Hid (n=1/\B=0\/1<n/\32<=B):=by show _\/_;omega
   rw[E]at e
   go_upto_region 5 with(fail)
   go_loopw[3,4] (fun L D wr=>∃ j u:Nat,L = .int .i64 ((B+j:Nat):Int)/\D = .int .u32 u/\u<4294967296/\wr=H/\j<=32/\Hid (u*2^j<=t/\(j=0->u=t)/\(j=1->u=t/2)/\(2<=j->2<=t))) (fun _ D _=>(intOf D).toNat)
   case atStart=>exact⟨0,t,by go_num,rfl,r,rfl,by omega,qh ⟨by omega,fun _=>rfl,fun h=>by omega,fun h=>by omega⟩⟩
   case round =>
    obtain⟨j,u,rfl,rfl,hu,rfl,X,f⟩:=hrel;by_cases x:0<u
    · have i:(0:Int)<u:=by omega
      have G:j<32:=by
       refine mR fun p => ?_;have h1:2^32<=2^j:=oT (by omega) p;have h2:1*2^j<=u*2^j:=oO _ x;have h3:=f.out.1;omega
      have J:Hid (u/2*2^(j+1)<=t/\(j+1=0->u/2=t)/\(j+1=1->u/2=t/2)/\(2<=j+1->2<=t)):=by
       obtain⟨h1,h2,h3,h4⟩:=f.out;refine⟨?_,fun h=>by omega,fun h=>by rw[h2 (by omega)],fun h => ?_⟩
       · refine oS ?_ h1;rw[gG,oU (2^j) 2,<-iQ];exact oO _ (nE u 2)
       · by_cases h5:j=1
         · have:=h3 h5;omega
         · exact h4 (by omega)
      have V:((u:Int)).fdiv (2^min (Int.toNat 1) IntKind.u32.bits)=((u/2:Nat):Int):=by
       show((u:Int)).fdiv 2=_;rw[Int.fdiv_eq_ediv_of_nonneg _ (by omega)];rfl
      go_wp2;go_roundw
      case rel=>exact⟨j+1,u/2,by go_num,by go_num,by omega,by first | rfl | trivial,by omega,J⟩
      case measure=>simp[intOf];omega
    · have i:¬ (0:Int)<u:=by omega
      have N:1<=j:=by
       rcases oV j with h|h
       · have:=f.out.2.1 h;omega
       · exact h
      have h1:j=1->t=1:=fun h=>by have:=f.out.2.2.1 h;omega
      have h2:2<=j->2<=t:=f.out.2.2.2;have W:=K.out;have E:=I.out;go_wp2;go_ret;exact⟨B+j,rfl,d,by omega,by omega,by omega⟩
theorem AE:Agg prog 99 4:=⟨by kernel_rfl,by kernel_rfl⟩
def QV(w:World)(v:Value)(q:Rat):Prop:=∃ s a n c b m d,v = .agg (Ah s a n c false b m d).toArray/\Hid (decide (q.num<0)=s)/\Mg w a n c q.num.natAbs/\Mg w b m d (AN q).natAbs
theorem QV.ext{w f:World}{v:Value}{q:Rat}(h:QV w v q)(e:Ext w f):QV f v q:=by
 obtain⟨s,a,n,c,b,m,d,h1,h2,h3,h4⟩:=h;exact⟨s,a,n,c,b,m,d,h1,h2,h3.ext e,h4.ext e⟩
theorem BO(h:q.den=1):(AN q).natAbs=0:=by rw[AA.2 h];rfl
theorem QV.zero(w:World):QV w (.agg (Ah false none 0 0 false none 0 0).toArray) 0:=⟨false,none,0,0,none,0,0,rfl,qh rfl,Mg.nil w,Mg.nil w⟩
def FL(w:World)(q:Rat)(e:Ending)(w':World):Prop:=∃ s a n c b m d,e = .returned (.agg (Ah s a n c false b m d).toArray)/\Ext w w'/\Hid (decide (q.num<0)=s)/\Mg w' a n c q.num.natAbs/\Mg w' b m d (AN q).natAbs
theorem FL.r{e:Ending}(h:FL w q e w'):∃ v,e = .returned v/\Ext w w'/\QV w' v q:=by
 obtain⟨s,a,n,c,b,m,d,h1,h2,h3⟩:=h;exact⟨_,h1,h2,s,a,n,c,b,m,d,rfl,h3⟩
theorem Bu(j:Ext w w1)(f:Arr w1 R t cs)(g:241≠t)(e:w1.grownBy w9 (some R))(k:w.heap.size<=R)(i:Hid (decide (q.num<0)=s))(l:Mg w1 a n c q.num.natAbs)(o:Mg w1 b m d (AN q).natAbs):FL w q (.returned (.agg (Ah s a n c false b m d).toArray)) w9 :=
 ⟨s,a,n,c,b,m,d,rfl,j.grownR e k,i,l.keptA f g e,o.keptA f g e⟩
theorem Jo(d:Ext w w1)(e:Arr w1 R t cs)(g:241≠t)(f:w1.grownBy w9 (some R))(i:w.heap.size<=R)(b:Hid (decide (z<0)=s))(j:Mg w1 a n c z.natAbs):FL w (z:Rat) (.returned (.agg (Ah s a n c false none 0 0).toArray)) w9 :=
 Bu d e g f i b j (by rw[BO (q:=(z:Rat)) rfl];exact Mg.nil w1)
theorem Et(h:QV w v q):Calls prog 185 #[v] w (Jk w (q.den:Int)):=by
 obtain⟨s,a,n,c,b,m,d,rfl,P,D,x⟩:=h;have y:Hid (decide ((q.den:Int)<0)=false):=qh (pb (by omega));by_cases h1:q.den=1
 · have A:m=0:=x.zero.2 (BO h1);have E:=qh h1;subst A;clear h1 D x
   go_enter func185,ntmps185
   go_upto_region 1 with(fail)
   refine Ch ?_;intro B j f k p;have K:=f.c 0 rfl;have L:=f.c 1 rfl;have M:=f.c 2 rfl;have N:=f.c 3 rfl;have H:Arr B (w.heap.size+1) 97 (Ab false none 0 0):=k;clear p
   go_wp2_with fail
   refine(Hu (z:=1) (by omega)).mono ?_;rintro e Q ⟨s1,F,J,G,rfl,t,r,i⟩;have g:=H.ext t;rw[show(1:Int)=(q.den:Int) by rw[E.out];rfl]at r i
   go_wp2_with(refine Aa (vs:=Ab s1 F J G) rfl rfl rfl rfl rfl AH g rfl (Ad _ _ _ _) ?_;intro O l o)
   exact oM (Ai rfl AH rfl l) rfl (CD (j.trans t) g (by decide) o (by omega) r i)
 · have C:=qh (AZ h1);have I:((m:Int) == 0)=false:=by
    have h2:m≠0:=fun h0=>by
     have h3:=x.zero.1 h0;rw[AZ h1]at h3;exact q.den_nz h3
    simpa using h2
   clear h1
   go_enter func185,ntmps185
   go_upto_region 1 with(fail)
   refine Ch ?_;intro B j f k p;have K:=f.c 0 rfl;have L:=f.c 1 rfl;have M:=f.c 2 rfl;have N:=f.c 3 rfl;have g:Arr B (w.heap.size+1) 97 (Ab false none 0 0):=k;have i:=x.ext j;rw[C.out]at i;clear p x D C
   go_wp2_with(refine Aa (vs:=Ab false b m d) rfl rfl rfl rfl rfl AH g rfl (Ad _ _ _ _) ?_;intro O l o)
   exact oM (Ai rfl AH rfl l) rfl (CD j g (by decide) o (by omega) y i)
theorem Ug(q : -9223372036854775808<=z/\z<9223372036854775808):Calls prog 118 #[.int .i64 z] w (FL w (z:Rat)):=by
 go_enter func118,ntmps118
 go_upto_region 1 with(fail)
 refine AM ?_;intro r j g m;have o:Arr r w.heap.size 99 (Ah false none 0 0 false none 0 0):=g;clear m
 go_wp2_with fail
 refine(Hu q).mono ?_;rintro e s ⟨s1,d,n,f,rfl,a,c,l⟩;have b:=o.ext a;have p:(Ab s1 d n f).toArray=#[.bool s1,.slice d n f]:=rfl
 go_wp2_with(refine Aa (vs:=Ah s1 d n f false none 0 0) rfl rfl rfl rfl rfl AE b rfl (Ag _ _ _ _ _ _ _ _) ?_;intro t i k)
 exact oM (Ai rfl AE rfl i) rfl (Jo (j.trans a) b (by decide) k (by omega) c l)
theorem Fl(h:QV w v q){r:Int}(l:q.num.sign=r):Calls prog 132 #[v] w fun e y=>e = .returned (.int .i64 r)/\Ext w y:=by
 obtain⟨s,a,n,c,b,m,d,rfl,p,o,x⟩:=h;have j:=fun(z:World) (t:Ext w z)=>qh (Jm (v := .agg (Ab s a n c).toArray) ⟨s,a,n,c,rfl,p,o.ext t⟩ l);clear l o x
 go_enter func132,ntmps132
 go_upto_region 1 with(fail)
 refine AM ?_;intro E g f k;have A:=f.c 0 rfl;have B:=f.c 1 rfl;have C:=f.c 2 rfl;have D:=f.c 3 rfl;clear k
 go_wp2_with fail
 refine(j _ g).out.mono ?_;rintro e F ⟨rfl,i⟩;go_wp2;go_ret;exact⟨rfl,g.trans i⟩
theorem L9(h:ZR w v z):Calls prog 199 #[v] w (Jk w (-z)):=by
 obtain⟨s,a,n,c,rfl,q,y⟩:=h
 go_enter func199,ntmps199
 go_upto_region 1 with(fail)
 refine Ch ?_;intro D d b j p;have B:=b.c 0 rfl;have C:=b.c 1 rfl;have m:=qh (BE (neg := !s) (y.ext d) (z := -z) (by rw[<-q.out];by_cases h:z<0 <;> simp[h] <;> omega));have x:Arr D (w.heap.size+1) 97 (Ab false none 0 0):=j;clear p
 go_wp2_with fail
 refine m.out.mono ?_;rintro e E ⟨s1,r,A,t,rfl,f,i,o⟩;have g:=x.ext f
 go_wp2_with(refine Aa (vs:=Ab s1 r A t) rfl rfl rfl rfl rfl AH g rfl (Ad _ _ _ _) ?_;intro F k l)
 exact oM (Ai rfl AH rfl k) rfl (CD (d.trans f) g (by decide) l (by omega) i o)
def FrS(w:World)(Z Y:Int)(wx:World):Prop:=∃ s a n c b m d,Ext w wx/\Arr wx w.heap.size 97 (Ab s a n c)/\Arr wx (w.heap.size+1) 97 (Ab false b m d)/\Arr wx (w.heap.size+2) 99 (Ah false none 0 0 false none 0 0)/\w.heap.size+2<wx.heap.size/\Hid (decide (Z<0)=s)/\Mg wx a n c Z.natAbs/\Mg wx b m d Y.natAbs
theorem Q8(h:ZR w v z0)(h':ZR w v' y0)(b9:z0.natAbs<P2 3200000)(b8:y0.natAbs<P2 3200000)(aF:y0≠0){q:Rat}(bl:q=mkRat (y0.sign*z0) y0.natAbs):Calls prog 151 #[v,v'] w (FL w q):=by
 obtain⟨z,hz⟩:∃ z,y0.sign*z0=z:=⟨_,rfl⟩;obtain⟨y,hy⟩:∃ y:Int,(y0.natAbs:Int)=y:=⟨_,rfl⟩;have aQ:y.natAbs=y0.natAbs:=by rw[<-hy];rfl
 have bt:z.natAbs=z0.natAbs:=by rw[<-hz,iq,Int.natAbs_sign_of_ne_zero aF,jy]
 have hq:q=mkRat z y.natAbs:=by rw[bl,hz,aQ]
 have bz:z.natAbs<P2 3200000:=by rw[bt];exact b9
 have aH:y.natAbs<P2 3200000:=by rw[aQ];exact b8
 have bQ:0<y:=by omega
 have b2:0<y0->z0=z/\y0=y:=fun hp=>⟨by rw[<-hz,jI hp,Int.one_mul],by omega⟩;have aY:y0<0 -> -z0=z /\ -y0=y:=fun hp=>⟨by rw[<-hz,jX hp,Int.neg_one_mul],by omega⟩;clear hz hy bl;have bi:y.natAbs≠0:=by omega
 have c6:0<Int.gcd z y:=kR _ (by omega);have HP:=qh (Pl.rat_frac (n:=z) bi);rw[<-hq]at HP;have bN:(Int.gcd z y)<=y.natAbs:=nV _ (by omega);have Z:z.tdiv ((Int.gcd z y:Nat):Int)=q.num:=HP.out.1.symm;have e2:y.tdiv ((Int.gcd z y:Nat):Int)=(q.den:Int):=by
  rw[HP.out.2];have W:y=(y.natAbs:Int):=by omega
  rw[W,pe];rfl
 have I:(q.den:Int).natAbs<P2 3200000:=by
  have:=HP.out.2;have h2:=gM y.natAbs (Nat.gcd z.natAbs y.natAbs);omega
 have aA:=qh (fun(i:World) (u u':Value) (g1:ZR i u z) (g2:ZR i u' y)=>LC g1 g2 bz aH);have U:=qh (fun(i:World) (vg:Value) (hg:ZR i vg (Int.gcd z y:Nat))=>DR hg (by rw[pe];omega));have K:=qh (fun(i:World) (u vg:Value) (g1:ZR i u z) (hg:ZR i vg (Int.gcd z y:Nat))=>Es g1 hg bz (by omega));have L:=qh (fun(i:World) (u vg:Value) (g1:ZR i u y) (hg:ZR i vg (Int.gcd z y:Nat))=>Es g1 hg aH (by omega));rw[Z]at K;rw[e2]at L;have E1:=qh Z;have E2:=qh e2;have BD:=qh I;have aX:Int.gcd z y=1->z=q.num/\y=(q.den:Int):=by
  intro h1;rw[h1]at Z e2;simp at Z e2;exact⟨Z,e2⟩
 have HK:=qh aX;have a4:Hid (decide (y<0)=false):=qh (pb (by omega));clear Z e2 I aX HP hq bi bN E1 E2 bz aH bQ b9 b8 aQ bt;generalize Int.gcd z y=g at *
 have H1:=h;have H2:=h';obtain⟨s0,a0,n0,c0,rfl,b6,bo⟩:=h;obtain⟨t0,b0,m0,d0,rfl,b7,W⟩:=h';have aZ:=qh (fun(i:World) (x:Ext w i)=>L9 (H1.ext x));have b1:=qh (fun(i:World) (x:Ext w i)=>L9 (H2.ext x));have bA:=qh b2;have bx:=qh aY;have bB:=qh aF;clear H1 H2 b2 aY aF
 go_enter func151,ntmps151
 go_upto_region 1 with(fail)
 refine CR ?_;intro w0 H ak al ba bs;have X:=ak.c 0 rfl;have Y:=ak.c 1 rfl;have M:=al.c 0 rfl;have N:=al.c 1 rfl;have hR:Arr w0 (w.heap.size+2) 99 (Ah false none 0 0 false none 0 0):=ba;have C:Arr w0 w.heap.size 97 (Ab s0 a0 n0 c0):=ak;have A:Arr w0 (w.heap.size+1) 97 (Ab t0 b0 m0 d0):=al;have an:w.heap.size+2<w0.heap.size:=by rw[bs];omega
 clear bs ak al ba
 go_upto_if 7 with(fail)
 go_cut [] from 8 to 36 (fun i=>FrS w z y i)
 case first =>
  clear HK a4 aA U K L BD;cases t0 with
  | false =>
   go_wp2_with fail
   go_meet
   obtain⟨Z,e2⟩:=bA.out (by have h1:=b7.out;have h2:=bB.out;simp at h1;omega);rw[Z]at b6 bo;rw[e2]at W;exact⟨s0,a0,n0,c0,b0,m0,d0,H,C,A,hR,an,b6,bo.ext H,W.ext H⟩
  | true =>
   go_upto_region 2 with(fail)
   have b5:=fun(i:World) (x:Ext w0 i)=>qh (And.intro (x.cell X) (And.intro (x.cell Y) (And.intro (x.cell M) (x.cell N))))
   refine Ac
    [he (.agg #[.bool s0,.slice a0 n0 c0]),hp (fun v i=>ZR i v (-z0)),he (.agg #[.bool true,.slice b0 m0 d0]),hp (fun v i=>ZR i v (-y0))]
    ⟨fun v w w' e h=>ZR.ext h e,fun v w w' e h=>ZR.ext h e,trivial⟩ ⟨?o0,?o1,?o2,?o3,trivial⟩ ?fin
   case o0 | o2=>exact ol2
   case o1 =>
    refine Ae rfl fun ρ i x bC bM h => ?_;have Z:_=_:=h.2.1;obtain⟨bV,bW,bX,bY⟩:=(b5 i x).out;refine⟨199,#[.agg #[.bool s0,.slice a0 n0 c0]],by go_simp,(aZ.out i (H.trans x)).mono ?_⟩;rintro e w' ⟨s',a',n',c',rfl,aJ,aM,aL⟩;exact⟨_,rfl,aJ,s',a',n',c',rfl,aM,aL⟩
   case o3 =>
    refine Ae rfl fun ρ i x bC bM h => ?_;have Z:_=_:=h.2.1;obtain⟨bV,bW,bX,bY⟩:=(b5 i x).out;refine⟨199,#[.agg #[.bool true,.slice b0 m0 d0]],by go_simp,(b1.out i (H.trans x)).mono ?_⟩;rintro e w' ⟨s',a',n',c',rfl,aJ,aM,aL⟩;exact⟨_,rfl,aJ,s',a',n',c',rfl,aM,aL⟩
   case fin =>
    intro i x;rintro _ ⟨au,af,aq,ai,rfl,aU,aB⟩;rintro _ ⟨aT,ah,ar,aj,rfl,aV,aC⟩;change wpList _ _ _ _ _ _;simp only[A0];have c4:(Ab au af aq ai).toArray=#[.bool au,.slice af aq ai]:=rfl;have c5:(Ab aT ah ar aj).toArray=#[.bool aT,.slice ah ar aj]:=rfl;have N1:=C.ext x;have D1:=A.ext x;have R1:=hR.ext x;have aa:=H.trans x;clear X Y M N aZ b1;have W:y0<0:=by simpa using b7.out
    obtain⟨Z,e2⟩:=bx.out W;obtain rfl:aT=false:=aV.out.symm.trans (pb (by omega));rw[Z]at aU aB;rw[e2]at aC;have bI:=qh aB;have bJ:=qh aC;clear aB aC Z e2 W aV
    go_wp2_with(first | (have hq:=N1;clear N1;refine Aa (vs:=Ab au af aq ai) rfl rfl rfl rfl rfl AH hq rfl (Ad _ _ _ _) ?_;intro w2 N2 J;have aI:=D1.kept J (by simp);clear D1) | (refine Aa (vs:=Ab false ah ar aj) rfl rfl rfl rfl rfl AH aI rfl (Ad _ _ _ _) ?_;intro w3 D3 ae))
    go_meet
    have bc:=(R1.kept J (by simp)).kept ae (by simp);exact⟨au,af,aq,ai,ah,ar,aj,(aa.grownR J (lrf _)).grownR ae (by omega),N2.kept ae (by simp),D3,bc,bc.lt,aU,(bI.out.keptA hq (by decide) J).keptA aI (by decide) ae,(bJ.out.keptA hq (by decide) J).keptA aI (by decide) ae⟩
 case rest =>
  obtain⟨s,a,n,c,b,m,d,H,C,A,hR,an,HS,hx,hy⟩:=hcut;have HT:=a4;have X:=C.c 0 rfl;have Y:=C.c 1 rfl;have M:=A.c 0 rfl;have N:=A.c 1 rfl
  go_wp2_with fail
  refine(aA.out _ _ _ ⟨s,a,n,c,rfl,HS,hx⟩ ⟨false,b,m,d,rfl,a4,hy⟩).mono ?_;rintro e w1 ⟨sg,ag,ng,cg,rfl,aa,aG,bp⟩
  go_upto_region 4 with(refine Aa (vs:=Ab sg ag ng cg) rfl rfl rfl rfl rfl AH (Arr.new _ _ _) rfl (Ad _ _ _ _) ?_;intro w2 hG J)
  have aK:Ext w1 w2:=((Ext.refl w1).alloc _).grownR J (lrf _);have j:=aa.trans aK;have aN:=hx.ext j;have aP:=hy.ext j;have bL:=H.trans j;have c7:w.heap.size+2<w1.heap.size:=ph an aa.size;have aD:Mg w2 ag ng cg ((g:Nat):Int).natAbs:=bp.ext aK;have q0:=hG.c 0 rfl;have q1:=hG.c 1 rfl;have N2:=C.ext j;have D2:=A.ext j;have R2:=hR.ext j;clear C A hR X Y M N J aA aa aK j bp an;generalize w1.heap.size=G at *
  go_wp2_with fail
  refine(U.out _ _ ⟨sg,ag,ng,cg,rfl,aG,aD⟩).mono ?_;rintro e w3 ⟨kk,rfl,B,c8,-,am⟩;have az:=bL.trans B;have p:=aN.ext B;have ap:=aP.ext B;have N3:=N2.ext B;have D3:=D2.ext B;have R3:=R2.ext B;have aR:=B.cell q0;have aS:=B.cell q1;have aE:=aD.ext B;have X:=N3.c 0 rfl;have Y:=N3.c 1 rfl;have M:=D3.c 0 rfl;have N:=D3.c 1 rfl;clear N2 D2 R2 q0 q1 aD U hG;by_cases bh:1<g
  · have bD:(1:Int)<kk:=by have:=am.2 (by simpa using bh);omega
    clear am HK
    go_wp2_with fail
    refine(K.out _ _ _ ⟨s,a,n,c,rfl,HS,p⟩ ⟨sg,ag,ng,cg,rfl,aG,aE⟩).mono ?_;rintro e w4 ⟨s1,a1,n1,c1,_,_,_,_,rfl,r,⟨O,t⟩,_⟩;have N4:=N3.ext r;clear X Y;have bE:=r.cell M;have bG:=r.cell N;have bv:=r.cell aR;have bw:=r.cell aS
    go_upto_region 6 with(refine Aa (vs:=Ab s1 a1 n1 c1) rfl rfl rfl rfl rfl AH N4 rfl (Ad _ _ _ _) ?_;intro w5 N5 E)
    have bK:=(az.trans r).grownR E (by omega);have D5:=(D3.ext r).kept E (by simp);have R5:=(R3.ext r).kept E (by simp);have bq:=(ap.ext r).keptA N4 (by decide) E;have b3:=t.keptA N4 (by decide) E;have b4:=(aE.ext r).keptA N4 (by decide) E;have bF:=D5.c 0 rfl;have bH:=D5.c 1 rfl;have bZ:=E.cell (a:=⟨G,0,none⟩) bv (by simp;omega);have c2:=E.cell (a:=⟨G,1,none⟩) bw (by simp;omega);clear M N aR aS bE bG bv bw N3 D3 R3 aE K E N4 t
    go_wp2_with fail
    refine(L.out _ _ _ ⟨false,b,m,d,rfl,a4,bq⟩ ⟨sg,ag,ng,cg,rfl,aG,b4⟩).mono ?_;rintro e w6 ⟨s3,a3,n3,c3,_,_,_,_,rfl,ab,⟨P,p⟩,_⟩;have D6:=D5.ext ab;clear bF bH bZ c2
    go_upto_region 7 with(refine Aa (vs:=Ab s3 a3 n3 c3) rfl rfl rfl rfl rfl AH D6 rfl (Ad _ _ _ _) ?_;intro wt A a2)
    have bb:=(bK.trans ab).grownR a2 (by omega);have C:=(N5.ext ab).kept a2 (by simp);have hR:=(R5.ext ab).kept a2 (by simp);have t:=(b3.ext ab).keptA D6 (by decide) a2;have p:=p.keptA D6 (by decide) a2;clear N5 R5 D5 D6 a2 L b4 b3 aN aP ap bq hx hy;have I:=qh (DR (v := .agg (Ab s3 a3 n3 c3).toArray) ⟨s3,a3,n3,c3,rfl,P,p⟩ BD.out);clear BD;have a5:=C.c 0 rfl;have a6:=C.c 1 rfl;have a7:=A.c 0 rfl;have a8:=A.c 1 rfl
    go_wp2_with fail
    refine I.out.mono ?_;rintro e w7 ⟨kd,rfl,f,bP,D,-⟩;have ac:=C.ext f;have R:=A.ext f;have T:=hR.ext f;have av:=f.cell a5;have aw:=f.cell a6;have ax:=f.cell a7;have ay:=f.cell a8;clear a5 a6 a7 a8 C A hR I;by_cases F:kd=1
    · have o:q.den=1:=by have:=D.1 F;omega
      have HQ:=qh (BO o);subst F;clear D o
      go_upto_region 9 with(refine Aa (vs:=Ab false none 0 0) rfl rfl rfl rfl rfl AH R rfl (Ad _ _ _ _) ?_;intro w8 a9 l)
      have ad:=ac.kept l (by simp);have k:=T.kept l (by simp);have bR:=ad.c 0 rfl;have bS:=ad.c 1 rfl;have bT:=a9.c 0 rfl;have bU:=a9.c 1 rfl;have S:=(bb.trans f).grownR l (by omega);have aO:=(t.ext f).keptA R (by decide) l;clear av aw ax ay ac R T l
      go_wp2_with(refine Aa (vs:=Ah s1 a1 n1 c1 false none 0 0) rfl rfl rfl rfl rfl AE k rfl (Ag _ _ _ _ _ _ _ _) ?_;intro w9 Q V)
      exact oM (Ai rfl AE rfl Q) rfl (Bu S k (by decide) V (by omega) O aO (by rw[HQ.out];exact Mg.nil _))
    · have o:q.den≠1:=fun h=>F (D.2 (by omega));have HQ:=qh (AZ o);have bO:((kd:Int) == 1)=false:=by simp;omega
      have HF:Hid (s3=false):=qh (by have:=P.out;rw[<-this];exact pb (by omega));clear D o F;have k:=T;have S:=bb.trans f
      go_wp2_with(refine Aa (vs:=Ah s1 a1 n1 c1 s3 a3 n3 c3) rfl rfl rfl rfl rfl AE k rfl (Ag _ _ _ _ _ _ _ _) ?_;intro w9 Q V)
      refine oM (Ai rfl AE rfl Q) rfl ?_;rw[HF.out];exact Bu S k (by decide) V (by omega) O (t.ext f) (by rw[HQ.out];exact p.ext f)
  · have aW:g=1:=by omega
    obtain⟨bu,br⟩:=HK.out aW;have bD:¬ (1:Int)<kk:=by have:=mt am.1 (by simp;omega);omega
    have C:=N3;have A:=D3;have hR:=R3;have O:=HS;have P:=HT;have t:=p;have ao:=ap;rw[bu]at O t;rw[br]at P ao;clear N3 D3 R3 X Y M N aR aS am HK K L bh aW bu br hx hy HS HT aN aP p ap a4;obtain⟨s1,bm⟩:∃ s1,s1=s:=⟨_,rfl⟩;obtain⟨s3,bn⟩:∃ s3,s3=false:=⟨_,rfl⟩;obtain⟨a1,bd⟩:∃ a1,a1=a:=⟨_,rfl⟩;obtain⟨n1,bj⟩:∃ n1,n1=n:=⟨_,rfl⟩;obtain⟨c1,bf⟩:∃ c1,c1=c:=⟨_,rfl⟩;obtain⟨a3,be⟩:∃ a3,a3=b:=⟨_,rfl⟩;obtain⟨n3,bk⟩:∃ n3,n3=m:=⟨_,rfl⟩;obtain⟨c3,bg⟩:∃ c3,c3=d:=⟨_,rfl⟩;rw[<-bm]at O C;rw[<-bd,<-bj,<-bf]at t C;rw[<-bn]at P A
    rw[<-be,<-bk,<-bg]at ao A;clear bm bn bd bj bf be bk bg;have p:=ao;clear ao;have I:=qh (DR (v := .agg (Ab s3 a3 n3 c3).toArray) ⟨s3,a3,n3,c3,rfl,P,p⟩ BD.out);clear BD;have a5:=C.c 0 rfl;have a6:=C.c 1 rfl;have a7:=A.c 0 rfl;have a8:=A.c 1 rfl
    go_wp2_with fail
    refine I.out.mono ?_;rintro e w7 ⟨kd,rfl,f,bP,D,-⟩;have ac:=C.ext f;have R:=A.ext f;have T:=hR.ext f;have av:=f.cell a5;have aw:=f.cell a6;have ax:=f.cell a7;have ay:=f.cell a8;clear a5 a6 a7 a8 C A hR I;by_cases F:kd=1
    · have o:q.den=1:=by have:=D.1 F;omega
      have HQ:=qh (BO o);subst F;clear D o
      go_upto_region 9 with(refine Aa (vs:=Ab false none 0 0) rfl rfl rfl rfl rfl AH R rfl (Ad _ _ _ _) ?_;intro w8 a9 l)
      have ad:=ac.kept l (by simp);have k:=T.kept l (by simp);have bR:=ad.c 0 rfl;have bS:=ad.c 1 rfl;have bT:=a9.c 0 rfl;have bU:=a9.c 1 rfl;have S:=(az.trans f).grownR l (by omega);have aO:=(t.ext f).keptA R (by decide) l;clear av aw ax ay ac R T l
      go_wp2_with(refine Aa (vs:=Ah s1 a1 n1 c1 false none 0 0) rfl rfl rfl rfl rfl AE k rfl (Ag _ _ _ _ _ _ _ _) ?_;intro w9 Q V)
      exact oM (Ai rfl AE rfl Q) rfl (Bu S k (by decide) V (by omega) O aO (by rw[HQ.out];exact Mg.nil _))
    · have o:q.den≠1:=fun h=>F (D.2 (by omega));have HQ:=qh (AZ o);have bO:((kd:Int) == 1)=false:=by simp;omega
      have HF:Hid (s3=false):=qh (by have:=P.out;rw[<-this];exact pb (by omega));clear D o F;have k:=T;have S:=az.trans f
      go_wp2_with(refine Aa (vs:=Ah s1 a1 n1 c1 s3 a3 n3 c3) rfl rfl rfl rfl rfl AE k rfl (Ag _ _ _ _ _ _ _ _) ?_;intro w9 Q V)
      refine oM (Ai rfl AE rfl Q) rfl ?_;rw[HF.out];exact Bu S k (by decide) V (by omega) O (t.ext f) (by rw[HQ.out];exact p.ext f)
theorem Gf(h:ZR w v z)(d:ZR w v' y)(c:z.natAbs<P2 3200000)(a:y.natAbs<P2 3200000)(b:0<y){q:Rat}(e:q=mkRat z y.natAbs):Calls prog 151 #[v,v'] w (FL w q) :=
 Q8 h d c a (by omega) (by rw[e,jI b,Int.one_mul])
theorem N7(h:p.den=1)(b:q.den=1):p*q=((p.num*q.num:Int):Rat):=by
 have a:=Pl.rat_mul_whole p q h b;exact Rat.ext a.1 a.2
theorem N8(h:p.den=1)(c:q.den=1):p+q=((p.num+q.num:Int):Rat):=by
 have a:p=(p.num:Rat):=Rat.ext rfl h;have b:q=(q.num:Rat):=Rat.ext rfl c;rw[Rat.intCast_add,<-a,<-b]
theorem Gg(h:QV w v p)(h':QV w v' q)(bp:Pl.RB 1000000 p)(bq:Pl.RB 1000000 q):Calls prog 167 #[v,v'] w (FL w (p*q)):=by
 have h0:=h;have a4:=h';obtain⟨s,a,n,c,b,m,d,rfl,HS,hx,hy⟩:=h;obtain⟨A,r,z,t,b',m',d',rfl,a3,I,J⟩:=h';by_cases hw:p.den=1/\q.den=1
 · obtain⟨h1,h2⟩:=hw;have ag:m=0:=hy.zero.2 (BO h1);have a8:m'=0:=J.zero.2 (BO h2);have HV:Hid (p*q=((p.num*q.num:Int):Rat)):=qh (N7 h1 h2);have ak:=qh (fun(f:World) (g:Ext w f)=>CE (v := .agg #[.bool s,.slice a n c]) (v' := .agg #[.bool A,.slice r z t]) ⟨s,a,n,c,rfl,HS,hx.ext g⟩ ⟨A,r,z,t,rfl,a3,I.ext g⟩ (Aj bp.1 (by omega)) (Aj bq.1 (by omega)));subst ag a8;clear h1 h2 bp bq hx hy I J
   go_enter func167,ntmps167
   go_upto_region 1 with(fail)
   refine CR ?_;intro w0 B i j W Z;have p0:=i.c 0 rfl;have p1:=i.c 1 rfl;have p2:=i.c 2 rfl;have p3:=i.c 3 rfl;have q0:=j.c 0 rfl;have q1:=j.c 1 rfl;have q2:=j.c 2 rfl;have q3:=j.c 3 rfl;have hR:Arr w0 (w.heap.size+2) 99 (Ah false none 0 0 false none 0 0):=W;clear Z
   go_wp2_with fail
   refine(ak.out _ B).mono ?_;rintro e w1 ⟨s1,F,S,G,rfl,a5,aa,am⟩;have E:=hR.ext a5;have aH:(Ab s1 F S G).toArray=#[.bool s1,.slice F S G]:=rfl
   go_wp2_with(refine Aa (vs:=Ah s1 F S G false none 0 0) rfl rfl rfl rfl rfl AE E rfl (Ag _ _ _ _ _ _ _ _) ?_;intro w9 X Y)
   refine oM (Ai rfl AE rfl X) rfl ?_;rw[HV.out];exact Jo (B.trans a5) E (by decide) Y (by omega) aa am
 · have H0:=h0;have a0:=a4;have al:((m:Int) == 0)=true/\((m':Int) == 0)=false\/((m:Int) == 0)=false:=by
    rcases oV m with h1|h1
    · refine Or.inl ⟨by simp[h1],?_⟩;have h4:m'≠0:=fun h2=>hw ⟨?_,?_⟩
      · simpa using h4
      · exact pm fun h3=>p.den_nz (by have:=hy.zero.1 h1;rw[AZ h3]at this;exact this)
      · exact pm fun h3=>q.den_nz (by have:=J.zero.1 h2;rw[AZ h3]at this;exact this)
    · exact Or.inr (by simp;omega)
   have ac:=qh (fun(f:World) (g:Ext w f)=>Et (H0.ext g));have ad:=qh (fun(f:World) (g:Ext w f)=>Et (a0.ext g));have U:((p.den:Int)).natAbs<P2 1000000:=by rw[pe];exact bp.2
   have V:((q.den:Int)).natAbs<P2 1000000:=by rw[pe];exact bq.2
   have up:=fun {x:Nat} (h:x<P2 1000000)=>Aj (b:=3200000) h (by omega);have mb:=fun {x y:Int} (h:x.natAbs<P2 1000000) (h':y.natAbs<P2 1000000)=>(show(x*y).natAbs<P2 (1000000+1000000) by rw[iq];exact BF h h');have a7:0<(p.den:Int)*(q.den:Int):=Int.mul_pos (by have:=p.den_pos;omega) (by have:=q.den_pos;omega);have a6:((p.den:Int)*(q.den:Int)).natAbs=p.den*q.den:=by rw[iq,pe,pe]
   have ah:=qh (fun(f:World) (g:Ext w f)=>CE (v := .agg #[.bool s,.slice a n c]) (v' := .agg #[.bool A,.slice r z t]) ⟨s,a,n,c,rfl,HS,hx.ext g⟩ ⟨A,r,z,t,rfl,a3,I.ext g⟩ (up bp.1) (up bq.1));have ai:=qh (fun(f:World) (x y:Value) (h1:ZR f x (p.den:Int)) (h2:ZR f y (q.den:Int))=>CE h1 h2 (up U) (up V));have ae:=qh (fun(f:World) (x y:Value) (h1:ZR f x (p.num*q.num)) (h2:ZR f y ((p.den:Int)*(q.den:Int)))=>Gf h1 h2 (Aj (mb bp.1 bq.1) (by omega)) (Aj (mb U V) (by omega)) a7 (q:=p*q) (by rw[a6];exact Rat.mul_def' p q))
   clear hx hy I J hw H0 a0 h0 a4 bp bq U V up mb a7 a6
   go_enter func167,ntmps167
   go_upto_region 1 with(fail)
   refine CR ?_;intro w0 B i j W Z;have p0:=i.c 0 rfl;have p1:=i.c 1 rfl;have p2:=i.c 2 rfl;have p3:=i.c 3 rfl;have q0:=j.c 0 rfl;have q1:=j.c 1 rfl;have q2:=j.c 2 rfl;have q3:=j.c 3 rfl;have hR:Arr w0 (w.heap.size+2) 99 (Ah false none 0 0 false none 0 0):=W;clear Z;rcases al with⟨aj,aI⟩|aj
   all_goals
    go_upto_region 3 with(fail)
    have D:=fun(f:World) (g:Ext w0 f)=>qh (And.intro (g.cell p0) (And.intro (g.cell p1) (And.intro (g.cell p2) (And.intro (g.cell p3) (And.intro (g.cell q0) (And.intro (g.cell q1) (And.intro (g.cell q2) (g.cell q3))))))))
    refine Ac
     [hdP w.heap.size 0,he (.agg #[.bool s,.slice a n c]),hdP (w.heap.size+1) 0,he (.agg #[.bool A,.slice r z t]),hp (fun v f=>ZR f v (p.num*q.num)),he (.agg #[.bool s,.slice a n c,.bool false,.slice b m d]),hp (fun v f=>ZR f v ((p.den:Int))),he (.agg #[.bool A,.slice r z t,.bool false,.slice b' m' d']),hp (fun v f=>ZR f v ((q.den:Int))),hp (fun v f=>ZR f v ((p.den:Int)*(q.den:Int))),hp (fun v f=>QV f v (p*q))]
     ⟨fun v w T e h=>ZR.ext h e,fun v w T e h=>ZR.ext h e,fun v w T e h=>ZR.ext h e,fun v w T e h=>ZR.ext h e,fun v w T e h=>QV.ext h e,trivial⟩ ⟨?o0,?o1,?o2,?o3,?o4,?o5,?o6,?o7,?o8,?o9,?o10,trivial⟩ ?fin
    case o0 | o2=>exact ofa (d:=0)
    case o1 | o3=>exact ol2
    case o5 | o7=>exact ol4
    case o4 =>
     refine Ae rfl fun ρ f g C H h => ?_;have e1:_=_:=h.2.1;have e2:_=_:=h.2.2.1;obtain⟨K,L,M,N,O,P,Q,R⟩:=(D f g).out;refine⟨184,#[.agg #[.bool s,.slice a n c],.agg #[.bool A,.slice r z t]],by go_simp,(ah.out f (B.trans g)).mono ?_⟩;rintro e T ⟨A,r,z,t,rfl,k,o,l⟩;exact⟨_,rfl,k,A,r,z,t,rfl,o,l⟩
    case o6 =>
     refine Ae rfl fun ρ f g C H h => ?_;have e1:_=_:=h.2.1;obtain⟨K,L,M,N,O,P,Q,R⟩:=(D f g).out;refine⟨185,#[.agg #[.bool s,.slice a n c,.bool false,.slice b m d]],by go_simp,(ac.out f (B.trans g)).mono ?_⟩;rintro e T ⟨A,r,z,t,rfl,k,o,l⟩;exact⟨_,rfl,k,A,r,z,t,rfl,o,l⟩
    case o8 =>
     refine Ae rfl fun ρ f g C H h => ?_;have e1:_=_:=h.2.1;obtain⟨K,L,M,N,O,P,Q,R⟩:=(D f g).out;refine⟨185,#[.agg #[.bool A,.slice r z t,.bool false,.slice b' m' d']],by go_simp,(ad.out f (B.trans g)).mono ?_⟩;rintro e T ⟨A,r,z,t,rfl,k,o,l⟩;exact⟨_,rfl,k,A,r,z,t,rfl,o,l⟩
    case o9 =>
     refine Ae rfl fun ρ f g C H h => ?_;obtain⟨v1,e1,s1,F,S,G,rfl,i1,j1⟩:=h.2.1;obtain⟨v2,e2,s2,a2,n2,c2,rfl,i2,j2⟩:=h.2.2.1;obtain⟨K,L,M,N,O,P,Q,R⟩:=(D f g).out;refine⟨184,#[.agg (Ab s1 F S G).toArray,.agg (Ab s2 a2 n2 c2).toArray],by go_simp,(ai.out f _ _ ⟨s1,F,S,G,rfl,i1,j1⟩ ⟨s2,a2,n2,c2,rfl,i2,j2⟩).mono ?_⟩;rintro e T ⟨A,r,z,t,rfl,k,o,l⟩;exact⟨_,rfl,k,A,r,z,t,rfl,o,l⟩
    case o10 =>
     refine Ae rfl fun ρ f g C H h => ?_;obtain⟨v1,e1,s1,F,S,G,rfl,i1,j1⟩:=h.2.1;obtain⟨v2,e2,s2,a2,n2,c2,rfl,i2,j2⟩:=h.2.2.1;obtain⟨K,L,M,N,O,P,Q,R⟩:=(D f g).out;refine⟨151,#[.agg (Ab s1 F S G).toArray,.agg (Ab s2 a2 n2 c2).toArray],by go_simp,(ae.out f _ _ ⟨s1,F,S,G,rfl,i1,j1⟩ ⟨s2,a2,n2,c2,rfl,i2,j2⟩).mono ?_⟩;rintro e T ⟨A,r,z,t,b',m',d',rfl,k,o,l,af⟩;exact⟨_,rfl,k,A,r,z,t,b',m',d',rfl,o,l,af⟩
    case fin =>
     intro f g;rintro _ ⟨aN,az,aJ,aD,rfl,ap,av⟩;rintro _ ⟨aO,aA,aK,aE,rfl,aq,aw⟩;rintro _ ⟨aP,aB,aL,aF,rfl,ar,ax⟩;rintro _ ⟨aQ,aC,aM,aG,rfl,au,ay⟩;rintro _ ⟨s9,a9,n9,c9,b9,m9,d9,rfl,ab,an,ao⟩;change wpList _ _ _ _ _ _;simp only[A0];have E:=hR.ext g
     go_wp2_with(refine Aa (vs:=Ah s9 a9 n9 c9 false b9 m9 d9) rfl rfl rfl rfl rfl AE E rfl (Ag _ _ _ _ _ _ _ _) ?_;intro w9 X Y)
     exact oM (Ai rfl AE rfl X) rfl (Bu (B.trans g) E (by decide) Y (by omega) ab an ao)
theorem MH(h:QV w v p)(h':QV w v' q)(bp:Pl.RB 1000000 p)(bq:Pl.RB 1000000 q):Calls prog 155 #[v,v'] w (FL w (p+q)):=by
 have h0:=h;have a8:=h';obtain⟨s,a,n,c,b,m,d,rfl,HS,hx,hy⟩:=h;obtain⟨t,l,r,o,b',m',d',rfl,a7,Y,Z⟩:=h';by_cases hw:p.den=1/\q.den=1
 · obtain⟨h1,h2⟩:=hw;have al:m=0:=hy.zero.2 (BO h1);have af:m'=0:=Z.zero.2 (BO h2);have HV:Hid (p+q=((p.num+q.num:Int):Rat)):=qh (N8 h1 h2);have aq:=qh (fun(f:World) (g:Ext w f)=>Pa (v := .agg #[.bool s,.slice a n c]) (v' := .agg #[.bool t,.slice l r o]) ⟨s,a,n,c,rfl,HS,hx.ext g⟩ ⟨t,l,r,o,rfl,a7,Y.ext g⟩ (Aj bp.1 (by omega)) (Aj bq.1 (by omega)));subst al af;clear h1 h2 bp bq hx hy Y Z
   go_enter func155,ntmps155
   go_upto_region 1 with(fail)
   refine CR ?_;intro w0 A C D a0 a5;have p0:=C.c 0 rfl;have p1:=C.c 1 rfl;have p2:=C.c 2 rfl;have p3:=C.c 3 rfl;have q0:=D.c 0 rfl;have q1:=D.c 1 rfl;have q2:=D.c 2 rfl;have q3:=D.c 3 rfl;have hR:Arr w0 (w.heap.size+2) 99 (Ah false none 0 0 false none 0 0):=a0;clear a5
   go_wp2_with fail
   refine(aq.out _ A).mono ?_;rintro e w1 ⟨s1,U,W,V,rfl,aa,ag,au⟩;have X:=hR.ext aa;have b3:(Ab s1 U W V).toArray=#[.bool s1,.slice U W V]:=rfl
   go_wp2_with(refine Aa (vs:=Ah s1 U W V false none 0 0) rfl rfl rfl rfl rfl AE X rfl (Ag _ _ _ _ _ _ _ _) ?_;intro w9 a3 a4)
   refine oM (Ai rfl AE rfl a3) rfl ?_;rw[HV.out];exact Jo (A.trans aa) X (by decide) a4 (by omega) ag au
 · have H0:=h0;have a6:=a8;have ar:((m:Int) == 0)=true/\((m':Int) == 0)=false\/((m:Int) == 0)=false:=by
    rcases oV m with h1|h1
    · refine Or.inl ⟨by simp[h1],?_⟩;have h4:m'≠0:=fun h2=>hw ⟨?_,?_⟩
      · simpa using h4
      · exact pm fun h3=>p.den_nz (by have:=hy.zero.1 h1;rw[AZ h3]at this;exact this)
      · exact pm fun h3=>q.den_nz (by have:=Z.zero.1 h2;rw[AZ h3]at this;exact this)
    · exact Or.inr (by simp;omega)
   have ad:=qh (fun(f:World) (g:Ext w f)=>Et (H0.ext g));have ae:=qh (fun(f:World) (g:Ext w f)=>Et (a6.ext g));have S:((p.den:Int)).natAbs<P2 1000000:=by rw[pe];exact bp.2
   have T:((q.den:Int)).natAbs<P2 1000000:=by rw[pe];exact bq.2
   have up:=fun {x:Nat} (h:x<P2 1000000)=>Aj (b:=3200000) h (by omega);have mb:=fun {x y:Int} (h:x.natAbs<P2 1000000) (h':y.natAbs<P2 1000000)=>(show(x*y).natAbs<P2 (1000000+1000000) by rw[iq];exact BF h h');have ac:0<(p.den:Int)*(q.den:Int):=Int.mul_pos (by have:=p.den_pos;omega) (by have:=q.den_pos;omega);have ab:((p.den:Int)*(q.den:Int)).natAbs=p.den*q.den:=by rw[iq,pe,pe]
   have am:=qh (fun(f:World) (g:Ext w f) (x:Value) (h1:ZR f x (q.den:Int))=>CE (v := .agg #[.bool s,.slice a n c]) ⟨s,a,n,c,rfl,HS,hx.ext g⟩ h1 (up bp.1) (up T));have ao:=qh (fun(f:World) (g:Ext w f) (x:Value) (h1:ZR f x (p.den:Int))=>CE (v := .agg #[.bool t,.slice l r o]) ⟨t,l,r,o,rfl,a7,Y.ext g⟩ h1 (up bq.1) (up S));have an:=qh (fun(f:World) (x y:Value) (h1:ZR f x (p.den:Int)) (h2:ZR f y (q.den:Int))=>CE h1 h2 (up S) (up T))
   have ai:=qh (fun(f:World) (x y:Value) (h1:ZR f x (p.num*(q.den:Int))) (h2:ZR f y (q.num*(p.den:Int)))=>Pa h1 h2 (Aj (mb bp.1 T) (by omega)) (Aj (mb bq.1 S) (by omega)));have aj:=qh (fun(f:World) (x y:Value) (h1:ZR f x (p.num*(q.den:Int)+q.num*(p.den:Int))) (h2:ZR f y ((p.den:Int)*(q.den:Int)))=>Gf h1 h2 (Aj (oR (mH _ _) (Jz (mb bp.1 T) (mb bq.1 S))) (by omega)) (Aj (mb S T) (by omega)) ac (q:=p+q) (by rw[ab];exact Rat.add_def' p q));clear hx hy Y Z hw H0 a6 h0 a8 bp bq S T up mb ac ab
   go_enter func155,ntmps155
   go_upto_region 1 with(fail)
   refine CR ?_;intro w0 A C D a0 a5;have p0:=C.c 0 rfl;have p1:=C.c 1 rfl;have p2:=C.c 2 rfl;have p3:=C.c 3 rfl;have q0:=D.c 0 rfl;have q1:=D.c 1 rfl;have q2:=D.c 2 rfl;have q3:=D.c 3 rfl;have hR:Arr w0 (w.heap.size+2) 99 (Ah false none 0 0 false none 0 0):=a0;clear a5;rcases ar with⟨ap,b4⟩|ap
   all_goals
    go_upto_region 3 with(fail)
    have B:=fun(f:World) (g:Ext w0 f)=>qh (And.intro (g.cell p0) (And.intro (g.cell p1) (And.intro (g.cell p2) (And.intro (g.cell p3) (And.intro (g.cell q0) (And.intro (g.cell q1) (And.intro (g.cell q2) (g.cell q3))))))))
    refine Ac
     [hdP w.heap.size 0,he (.agg #[.bool s,.slice a n c]),he (.agg #[.bool t,.slice l r o,.bool false,.slice b' m' d']),hp (fun v f=>ZR f v ((q.den:Int))),hp (fun v f=>ZR f v (p.num*(q.den:Int))),hdP (w.heap.size+1) 0,he (.agg #[.bool t,.slice l r o]),he (.agg #[.bool s,.slice a n c,.bool false,.slice b m d]),hp (fun v f=>ZR f v ((p.den:Int))),hp (fun v f=>ZR f v (q.num*(p.den:Int))),hp (fun v f=>ZR f v (p.num*(q.den:Int)+q.num*(p.den:Int))),he (.agg #[.bool s,.slice a n c,.bool false,.slice b m d]),hp (fun v f=>ZR f v ((p.den:Int))),he (.agg #[.bool t,.slice l r o,.bool false,.slice b' m' d']),hp (fun v f=>ZR f v ((q.den:Int))),hp (fun v f=>ZR f v ((p.den:Int)*(q.den:Int))),hp (fun v f=>QV f v (p+q))]
     ⟨fun v w N e h=>ZR.ext h e,fun v w N e h=>ZR.ext h e,fun v w N e h=>ZR.ext h e,fun v w N e h=>ZR.ext h e,fun v w N e h=>ZR.ext h e,fun v w N e h=>ZR.ext h e,fun v w N e h=>ZR.ext h e,fun v w N e h=>ZR.ext h e,fun v w N e h=>QV.ext h e,trivial⟩ ⟨?o0,?o1,?o2,?o3,?o4,?o5,?o6,?o7,?o8,?o9,?o10,?o11,?o12,?o13,?o14,?o15,?o16,trivial⟩ ?fin
    case o0 | o5=>exact ofa (d:=0)
    case o1 | o6=>exact ol2
    case o2 | o7 | o11 | o13=>exact ol4
    case o3 =>
     refine Ae rfl fun ρ f g z E h => ?_;have e1:_=_:=h.2.1;obtain⟨F,G,H,I,J,K,L,M⟩:=(B f g).out;refine⟨185,#[.agg #[.bool t,.slice l r o,.bool false,.slice b' m' d']],by go_simp,(ae.out f (A.trans g)).mono ?_⟩;rintro e N ⟨t,l,r,o,rfl,i,k,j⟩;exact⟨_,rfl,i,t,l,r,o,rfl,k,j⟩
    case o4 =>
     refine Ae rfl fun ρ f g z E h => ?_;have e1:_=_:=h.2.1;obtain⟨v2,e2,R,O,Q,P,rfl,i2,j2⟩:=h.2.2.1;obtain⟨F,G,H,I,J,K,L,M⟩:=(B f g).out;refine⟨184,#[.agg #[.bool s,.slice a n c],.agg (Ab R O Q P).toArray],by go_simp,(am.out f (A.trans g) _ ⟨R,O,Q,P,rfl,i2,j2⟩).mono ?_⟩;rintro e N ⟨t,l,r,o,rfl,i,k,j⟩;exact⟨_,rfl,i,t,l,r,o,rfl,k,j⟩
    case o8 =>
     refine Ae rfl fun ρ f g z E h => ?_;have e1:_=_:=h.2.1;obtain⟨F,G,H,I,J,K,L,M⟩:=(B f g).out;refine⟨185,#[.agg #[.bool s,.slice a n c,.bool false,.slice b m d]],by go_simp,(ad.out f (A.trans g)).mono ?_⟩;rintro e N ⟨t,l,r,o,rfl,i,k,j⟩;exact⟨_,rfl,i,t,l,r,o,rfl,k,j⟩
    case o9 =>
     refine Ae rfl fun ρ f g z E h => ?_;have e1:_=_:=h.2.1;obtain⟨v2,e2,R,O,Q,P,rfl,i2,j2⟩:=h.2.2.1;obtain⟨F,G,H,I,J,K,L,M⟩:=(B f g).out;refine⟨184,#[.agg #[.bool t,.slice l r o],.agg (Ab R O Q P).toArray],by go_simp,(ao.out f (A.trans g) _ ⟨R,O,Q,P,rfl,i2,j2⟩).mono ?_⟩;rintro e N ⟨t,l,r,o,rfl,i,k,j⟩;exact⟨_,rfl,i,t,l,r,o,rfl,k,j⟩
    case o10 =>
     refine Ae rfl fun ρ f g z E h => ?_;obtain⟨v1,e1,s1,U,W,V,rfl,i1,j1⟩:=h.2.1;obtain⟨v2,e2,R,O,Q,P,rfl,i2,j2⟩:=h.2.2.1;obtain⟨F,G,H,I,J,K,L,M⟩:=(B f g).out;refine⟨216,#[.agg (Ab s1 U W V).toArray,.agg (Ab R O Q P).toArray],by go_simp,(ai.out f _ _ ⟨s1,U,W,V,rfl,i1,j1⟩ ⟨R,O,Q,P,rfl,i2,j2⟩).mono ?_⟩;rintro e N ⟨t,l,r,o,rfl,i,k,j⟩;exact⟨_,rfl,i,t,l,r,o,rfl,k,j⟩
    case o12 =>
     refine Ae rfl fun ρ f g z E h => ?_;have e1:_=_:=h.2.1;obtain⟨F,G,H,I,J,K,L,M⟩:=(B f g).out;refine⟨185,#[.agg #[.bool s,.slice a n c,.bool false,.slice b m d]],by go_simp,(ad.out f (A.trans g)).mono ?_⟩;rintro e N ⟨t,l,r,o,rfl,i,k,j⟩;exact⟨_,rfl,i,t,l,r,o,rfl,k,j⟩
    case o14 =>
     refine Ae rfl fun ρ f g z E h => ?_;have e1:_=_:=h.2.1;obtain⟨F,G,H,I,J,K,L,M⟩:=(B f g).out;refine⟨185,#[.agg #[.bool t,.slice l r o,.bool false,.slice b' m' d']],by go_simp,(ae.out f (A.trans g)).mono ?_⟩;rintro e N ⟨t,l,r,o,rfl,i,k,j⟩;exact⟨_,rfl,i,t,l,r,o,rfl,k,j⟩
    case o15 =>
     refine Ae rfl fun ρ f g z E h => ?_;obtain⟨v1,e1,s1,U,W,V,rfl,i1,j1⟩:=h.2.1;obtain⟨v2,e2,R,O,Q,P,rfl,i2,j2⟩:=h.2.2.1;obtain⟨F,G,H,I,J,K,L,M⟩:=(B f g).out;refine⟨184,#[.agg (Ab s1 U W V).toArray,.agg (Ab R O Q P).toArray],by go_simp,(an.out f _ _ ⟨s1,U,W,V,rfl,i1,j1⟩ ⟨R,O,Q,P,rfl,i2,j2⟩).mono ?_⟩;rintro e N ⟨t,l,r,o,rfl,i,k,j⟩;exact⟨_,rfl,i,t,l,r,o,rfl,k,j⟩
    case o16 =>
     refine Ae rfl fun ρ f g z E h => ?_;obtain⟨v1,e1,s1,U,W,V,rfl,i1,j1⟩:=h.2.1;obtain⟨v2,e2,R,O,Q,P,rfl,i2,j2⟩:=h.2.2.1;obtain⟨F,G,H,I,J,K,L,M⟩:=(B f g).out;refine⟨151,#[.agg (Ab s1 U W V).toArray,.agg (Ab R O Q P).toArray],by go_simp,(aj.out f _ _ ⟨s1,U,W,V,rfl,i1,j1⟩ ⟨R,O,Q,P,rfl,i2,j2⟩).mono ?_⟩;rintro e N ⟨t,l,r,o,b',m',d',rfl,i,k,j,ak⟩;exact⟨_,rfl,i,t,l,r,o,b',m',d',rfl,k,j,ak⟩
    case fin =>
     intro f g;rintro _ ⟨be,aN,b5,aV,rfl,ax,aF⟩;rintro _ ⟨bf,aO,b6,aW,rfl,ay,aG⟩;rintro _ ⟨bg,aP,b7,aX,rfl,az,aH⟩;rintro _ ⟨bh,aQ,b8,aY,rfl,aA,aI⟩;rintro _ ⟨bi,aR,ba,aZ,rfl,aB,aJ⟩;rintro _ ⟨bj,aS,bb,b0,rfl,aC,aK⟩;rintro _ ⟨bk,aT,bc,b1,rfl,aD,aL⟩;rintro _ ⟨bl,aU,bd,b2,rfl,aE,aM⟩;rintro _ ⟨s9,a9,n9,c9,b9,m9,d9,rfl,ah,av,aw⟩;change wpList _ _ _ _ _ _;simp only[A0];have X:=hR.ext g
     go_wp2_with(refine Aa (vs:=Ah s9 a9 n9 c9 false b9 m9 d9) rfl rfl rfl rfl rfl AE X rfl (Ag _ _ _ _ _ _ _ _) ?_;intro w9 a3 a4)
     exact oM (Ai rfl AE rfl a3) rfl (Bu (A.trans g) X (by decide) a4 (by omega) ah av aw)
theorem Pb:Agg prog 103 5:=⟨by kernel_rfl,by kernel_rfl⟩
theorem Bj:Agg prog 44 2:=⟨by kernel_rfl,by kernel_rfl⟩
theorem Jp{l:List Int}(h:k<l.length):l.getD k 0∈l:=by
 rw[gqq,oN h,pg];exact iF h
def XI(w:World)(b0:Nat)(a:Option Addr)(n c:Nat)(xs:List Int):Prop:=SlI w a n c xs/\(0<n->∀ g,blk a=some g->g<b0\/∃ cs fr,w.heap[g]?=some (.cells cs 3 fr))
theorem XI.ext{w b:World}{b0:Nat}{a:Option Addr}{n c:Nat}{xs:List Int}(h:XI w b0 a n c xs)(e:Ext w b):XI b b0 a n c xs:=by
 refine⟨h.1.ext e,fun h0 g i=>(h.2 h0 g i).imp id ?_⟩;rintro⟨d,f,h1⟩;exact⟨d,f,by rw[e.block (gW.1 h1).1];exact h1⟩
def tL(s:Bool)(a:Option Addr)(n c:Nat)(b:Option Addr)(m d:Nat)(e:Option Addr)(k f:Nat):List Value:=Ah s a n c false b m d ++ [.slice e k f]
def TC(w:World)(b0:Nat)(row:List Value)(t:Pl.Tm):Prop:=∃ s a n c b m d e k f,row=tL s a n c b m d e k f/\Hid (decide (t.2.num<0)=s)/\Mg w a n c t.2.num.natAbs/\Mg w b m d (AN t.2).natAbs/\XI w b0 e k f t.1
theorem TC.ext{w g:World}{b0:Nat}{row:List Value}{t:Pl.Tm}(h:TC w b0 row t)(x:Ext w g):TC g b0 row t:=by
 obtain⟨s,a,n,c,b,m,d,e,k,f,h1,h2,h3,h4,h5⟩:=h;exact⟨s,a,n,c,b,m,d,e,k,f,h1,h2,h3.ext x,h4.ext x,h5.ext x⟩
theorem FM{e:Option Addr}{f:Nat}:∀ v∈tL s a n c b m d e k f,v.oneCell'=true:=by
 intro v g;simp only[tL,Ah,Ab,jW,iA,gV,jN,me]at g;rcases g with rfl|rfl|rfl|rfl|rfl <;> rfl
theorem XI.kept{cs:Array Value}{l:Nat×Nat}(h:XI w b0 a n c xs)(m:w.heap[g]?=some (.cells cs t l))(o:3≠t)(h0:b0<=g)(i:w.grownBy w' (some g)):XI w' b0 a n c xs:=by
 have f:0<n->blk a≠some g:=by
  intro b he;rcases h.2 b g he with h1|⟨d,e,h1⟩
  · omega
  · rw[m]at h1;simp only[oQ,jJ]at h1;exact o h1.2.1.symm
 refine⟨?_,fun b k j => ?_⟩
 · rcases oV n with b|b
   · subst b;exact⟨Sl.len h.1,Sl.cap h.1,Sl.max h.1,fun h=>absurd h (mM _)⟩
   · exact Sl.keptR h.1 i (Or.inr (f b))
 · refine(h.2 b k j).imp id ?_;rintro⟨d,e,h1⟩;exact⟨d,e,by rw[i.block k (gW.1 h1).1 (by rw[<-j];exact f b)];exact h1⟩
theorem TC.kept{w r:World}{b0 g:Nat}{t:TypeId}{i:Array Value}{j:Nat×Nat}{row:List Value}{x:Pl.Tm}(h:TC w b0 row x)(p:w.heap[g]?=some (.cells i t j))(v:3≠t)(hu:241≠t)(h0:b0<=g)(o:w.grownBy r (some g)):TC r b0 row x:=by
 obtain⟨s,a,n,c,b,m,d,e,k,f,h1,h2,h3,h4,h5⟩:=h
 have q:∀ l,some g=some l->∃ i t j,w.heap[l]?=some (.cells i t j)/\241≠t:=fun l he=>by
  injection he with he;subst he;exact⟨_,_,_,p,hu⟩
 exact⟨s,a,n,c,b,m,d,e,k,f,h1,h2,h3.kept o q,h4.kept o q,h5.kept p v h0 o⟩
abbrev tz:Pl.Tm:=([],0)
def TSl(w:World)(b0:Nat)(a:Option Addr)(n c:Nat)(l:List Pl.Tm):Prop:=∃ rows,SlK w 5 a n c rows/\l.length=n/\∀ i,i<n->TC w b0 (rows.getD i []) (l.getD i tz)
theorem TSl.ext{w d:World}{b0:Nat}{a:Option Addr}{n c:Nat}{l:List Pl.Tm}(h:TSl w b0 a n c l)(x:Ext w d):TSl d b0 a n c l:=by
 obtain⟨b,h1,h2,h3⟩:=h;exact⟨b,h1.ext x,h2,fun i e=>(h3 i e).ext x⟩
theorem TSl.nil(w:World)(b0:Nat):TSl w b0 none 0 0 []:=⟨[],SlK.nil w 5,rfl,fun i a=>absurd a (by omega)⟩
theorem TSl.len{l:List Pl.Tm}(h:TSl w b0 a n c l):l.length=n:=h.choose_spec.2.1
theorem TSl.le{l:List Pl.Tm}(h:TSl w b0 a n c l):n<=c/\c<=maxLen:=⟨h.choose_spec.1.cap,h.choose_spec.1.max⟩
def TO(w:World)(b0 base:Nat)(a:Option Addr)(n c:Nat)(l:List Pl.Tm):Prop:=∃ rows,AP w base 103 5 a n c rows/\l.length=n/\∀ i,i<n->TC w b0 (rows.getD i []) (l.getD i tz)
theorem TO.ext{w d:World}{b0 base:Nat}{a:Option Addr}{n c:Nat}{l:List Pl.Tm}(h:TO w b0 base a n c l)(x:Ext w d):TO d b0 base a n c l:=by
 obtain⟨b,h1,h2,h3⟩:=h;exact⟨b,h1.ext x,h2,fun i e=>(h3 i e).ext x⟩
theorem TO.sl{l:List Pl.Tm}(h:TO w b0 base a n c l):TSl w b0 a n c l:=by
 obtain⟨b,h1,h2,h3⟩:=h;exact⟨b,h1.slk (by omega),h2,h3⟩
theorem TO.nil(w:World)(b0 base:Nat):TO w b0 base none 0 0 []:=⟨[],AP.nil _ _ _ _,rfl,fun i a=>absurd a (by omega)⟩
theorem TO.mono{w:World}{b0 base b:Nat}{a:Option Addr}{n c:Nat}{l:List Pl.Tm}(h:TO w b0 base a n c l)(e:b<=base):TO w b0 b a n c l:=by
 obtain⟨d,h1,h2,h3⟩:=h;exact⟨d,h1.mono e,h2,h3⟩
theorem TO.lt{w:World}{b0 base:Nat}{a:Option Addr}{n c:Nat}{l:List Pl.Tm}(h:TO w b0 base a n c l){g:Nat}(d:blk a=some g):base<=g/\g<w.heap.size:=by
 obtain⟨b,h1,_⟩:=h;exact h1.lt d
theorem AP.ty(h:AP w base e k a n c rows){g:Nat}(d:blk a=some g):∃ i l,w.heap[g]?=some (.cells i e l):=by
 rcases h.2.2 with⟨b,_⟩|⟨m,f,j,b,_,o,_⟩
 · simp only[pk]at b;rw[b.1]at d;cases d
 · simp only[pk]at b;rw[b.1]at d;have:m=g:=by simpa[blk]using d
   subst this;exact⟨_,_,o⟩
theorem TSl.at{w:World}{b0:Nat}{a:Option Addr}{n c:Nat}{l:List Pl.Tm}(h:TSl w b0 a n c l){i:Nat}(hi:i<n):∃ b d,a=some ⟨b,d,none⟩/\∃ s j r o m q p e k f,w.cell? ⟨b,d+i*5,none⟩=some (.bool s)/\w.cell? ⟨b,d+i*5+1,none⟩=some (.slice j r o)/\w.cell? ⟨b,d+i*5+2,none⟩=some (.bool false)/\w.cell? ⟨b,d+i*5+3,none⟩=some (.slice m q p)/\w.cell? ⟨b,d+i*5+4,none⟩=some (.slice e k f)/\Hid (decide ((l.getD i tz).2.num<0)=s)/\Mg w j r o (l.getD i tz).2.num.natAbs/\Mg w m q p (AN (l.getD i tz).2).natAbs/\XI w b0 e k f (l.getD i tz).1:=by
 obtain⟨t,h1,h2,h3⟩:=h;obtain⟨b,d,v,g⟩:=h1.rd (by omega);obtain⟨s,j,r,o,m,q,p,e,k,f,h4,h5,h6,h7,h8⟩:=h3 i hi;refine⟨b,d,v,s,j,r,o,m,q,p,e,k,f,?_,?_,?_,?_,?_,h5,h6,h7,h8⟩
 · have:=g i hi 0 (by omega);rw[h4]at this;exact this
 · have:=g i hi 1 (by omega);rw[h4]at this;exact this
 · have:=g i hi 2 (by omega);rw[h4]at this;exact this
 · have:=g i hi 3 (by omega);rw[h4]at this;exact this
 · have:=g i hi 4 (by omega);rw[h4]at this;exact this
def TB(N:Nat)(l:List Pl.Tm):Prop:=∀ t∈l,t.1.length=N/\∀ x∈t.1,-1099511627776<=x/\x<=1099511627776
theorem TB.perm{l a:List Pl.Tm}(h:TB N l)(p:a.Perm l):TB N a:=fun t b=>h t (p.subset b)
theorem TB.get{l:List Pl.Tm}(h:TB N l){i:Nat}(hi:i<l.length):(l.getD i tz).1.length=N/\∀ x∈(l.getD i tz).1,-1099511627776<=x/\x<=1099511627776:=by
 rw[gqq,oN hi,pg];exact h _ (iF hi)
theorem getD_some{l:List Pl.Tm}{i:Nat}(hi:i<l.length):l[i]?=some (l.getD i tz):=by
 rw[gqq,oN hi,pg]
theorem CQ:BT prog 103 [.bool false,.slice none 0 0,.bool false,.slice none 0 0,.slice none 0 0] 5 88:=⟨by kernel_rfl,rfl,by omega⟩
theorem SlK.cl{b a:Nat}(h:SlK w k (some ⟨b,a,none⟩) n c rows){i j:Nat}(hi:i<n)(g:j<k):w.cell? ⟨b,a+i*k+j,none⟩=some ((rows.getD i []).getD j undef):=by
 obtain⟨l,e,d,f⟩:=h.rd (by omega);simp only[oQ,ic,iY]at d;obtain⟨rfl,rfl⟩:=d;exact f i hi j g
theorem TSl.row{l:List Pl.Tm}(h:TSl w b0 a n c l){i:Nat}(hi:i<n):∃ b g d s j r o m q p e k f,a=some ⟨b,g,none⟩/\SlK w 5 a n c d/\d.getD i []=tL s j r o m q p e k f/\Hid (decide ((l.getD i tz).2.num<0)=s)/\Mg w j r o (l.getD i tz).2.num.natAbs/\Mg w m q p (AN (l.getD i tz).2).natAbs/\XI w b0 e k f (l.getD i tz).1:=by
 obtain⟨d,h1,h2,h3⟩:=h;obtain⟨b,g,t,-⟩:=h1.rd (by omega);obtain⟨s,j,r,o,m,q,p,e,k,f,h4,h5⟩:=h3 i hi;exact⟨b,g,d,s,j,r,o,m,q,p,e,k,f,t,h1,h4,h5⟩
theorem TC.grownO{row:List Value}{x:Pl.Tm}(h:TC w b0 row x)(e:AP w base 103 5 a n c rows)(f:b0<=base)(d:w.grownBy w' (blk a)):TC w' b0 row x:=by
 cases b:blk a with
 | none =>
  rw[b]at d;exact h.ext ((Ext.refl w).grown d (fun k i=>by cases i))
 | some g =>
  obtain⟨j,l,h1⟩:=e.ty b;rw[b]at d;exact h.kept h1 (by decide) (by decide) (oS f (e.lt b).1) d
theorem TO.grow{c':Nat}{l:List Pl.Tm}{row:List Value}{t:Pl.Tm}(d:AP w base 103 5 a n c rows)(j:l.length=n)(m:∀ i,i<n->TC w b0 (rows.getD i []) (l.getD i tz))(p:TC w b0 row t)(f:b0<=base)(k:AP w' base 103 5 a' (n+1) c' (rows ++ [row]))(g:w.grownBy w' (blk a)):TO w' b0 base a' (n+1) c' (l ++ [t]):=by
 refine⟨_,k,by simp[j],fun i q => ?_⟩;have o:rows.length=n:=d.len (by omega);by_cases e:i<n
 · have h1:(rows ++ [row]).getD i []=rows.getD i []:=by rw[gqq,gF (by omega),<-gqq]
   have h2:(l ++ [t]).getD i tz=l.getD i tz:=by rw[gqq,gF (by omega),<-gqq]
   rw[h1,h2];exact(m i e).grownO d f g
 · have b:i=n:=by omega
   have h1:(rows ++ [row]).getD i []=row:=by rw[gqq,gN (by omega),o,b,jt];rfl
   have h2:(l ++ [t]).getD i tz=t:=by rw[gqq,gN (by omega),j,b,jt];rfl
   rw[h1,h2];exact p.grownO d f g
section
variable {P:Program} {w:World}
theorem J8(m:P.underlying t=some (.slice e))(b:BT P e zs k bytes)(l:h<=c) :
 (Instr.sliceAt t (.slice a n c) none (some (.int .i64 h)) none).run P w = .ok (.slice a h c) w:=by
 obtain⟨i,j,o,d,g⟩:=b.parts;have f:(if c=0 then a else a.map (fun x=>x.add 0))=a:=by
  split
  · rfl
  · cases a <;> simp[Addr.add]
 have h0:(0:Int)<=h:=by omega
 have h1:(h:Int)<=c:=by omega
 simp[Instr.sliceAt,Instr.slice,Instr.sliceBounds,Instr.sliceBound,ip m,asIntOf,sizeOf,typeInfo,j,l,f]
theorem Ig(l:P.underlying t=some (.slice e))(b:BT P e zs k bytes)(j:h<=n) :
 (Instr.sliceAt t (.slice a n c) (some (.int .i64 h)) none none).run P w = .ok (.slice (if c=h then a else a.map (fun x=>x.add (h*k))) (n-h) (c-h)) w:=by
 obtain⟨i,g,m,d,f⟩:=b.parts;simp[Instr.sliceAt,Instr.slice,Instr.sliceBounds,Instr.sliceBound,ip l,asIntOf,sizeOf,typeInfo,g,d,j]
end
section
variable {P:Program} {ops:Array Oper} {hs:List Hd} {a0:Act} {C:World->Prop} {i:Nat} {o:Oper}
theorem J9{x y:Operand}(j:o.guard=none)(f:o.op = .slice t x none (some y) none)
 (p:P.underlying t=some (.slice e)) (b:BT P e zs k bytes) (l:∀ d w,C9 d->B3 ops hs a0 o d w [x,y]->d x = .slice a n c/\d y = .int .i64 h) (m:h<=c) :
 obl P C ops hs a0 i o (he (.slice a h c)) :=
 OS j fun d w hp _ g=>by
  rw[f]at g;obtain⟨h1,h2⟩:=l d w hp g;simp only[execOp,f,h1,h2,jm,od,gI,J8 p b m,p9,gS]
theorem Ih{x y:Operand}(j:o.guard=none)(f:o.op = .slice t x (some y) none none)
 (p:P.underlying t=some (.slice e)) (b:BT P e zs k bytes) (l:∀ d w,C9 d->B3 ops hs a0 o d w [x,y]->d x = .slice a n c/\d y = .int .i64 h) (m:h<=n) :
 obl P C ops hs a0 i o (he (.slice (if c=h then a else a.map (fun x=>x.add (h*k))) (n-h) (c-h))) :=
 OS j fun d w hp _ g=>by
  rw[f]at g;obtain⟨h1,h2⟩:=l d w hp g;simp only[execOp,f,h1,h2,jm,od,gI,Ig p b m,p9,gS]
end
theorem TSl.to{l:List Pl.Tm}(q:TSl w b0 a n c l)(f:h<=n):TSl w b0 a h c (l.take h):=by
 obtain⟨d,h1,h2,h3⟩:=q;refine⟨d.take h,⟨by rw[gO,h1.len,jn f],oS f h1.cap,h1.max,fun r g=>h1.wid r (iZ g),fun h0 => ?_⟩,by rw[gO,h2,jn f],fun i e => ?_⟩
 · obtain⟨b,k,m,o⟩:=h1.rd (by omega);refine⟨b,k,m,fun i e j p => ?_⟩;have g:(d.take h).getD i []=d.getD i []:=by rw[gqq,lK e,<-gqq]
   rw[o i (by omega) j p,g]
 · have:=h3 i (by omega);rw[gqq,lK e,<-gqq,gqq (l:=l.take h),lK e,<-gqq];exact this
theorem TSl.fr{l:List Pl.Tm}(q:TSl w b0 a n c l)(s:h<=n):TSl w b0 (if c=h then a else a.map (fun x=>x.add (h*5))) (n-h) (c-h) (l.drop h):=by
 obtain⟨d,h1,h2,h3⟩:=q;have g:=h1.cap;have k:=h1.max;refine⟨d.drop h,⟨by rw[jV,h1.len],by omega,by omega,fun r f=>h1.wid r (lE f),fun h0 => ?_⟩,by rw[jV,h2],fun i o => ?_⟩
 · obtain⟨b,e,rfl,m⟩:=h1.rd (by omega);rw[pf (by omega)];refine⟨b,e+h*5,?_,fun i o j p => ?_⟩
   · show some (Addr.add ⟨b,e,none⟩ (h*5))=_;unfold Addr.add;by_cases h0:h*5=0 <;> simp[h0]
   have f:(d.drop h).getD i []=d.getD (h+i) []:=by rw[gqq,lQ,<-gqq]
   have:=m (h+i) (by omega) j p;rw[iy,<-jk]at this;rw[this,f]
 · have:=h3 (h+i) (by omega);rw[gqq,lQ,<-gqq,gqq (l:=l.drop h),lQ,<-gqq];exact this
def VI(w:World)(b0:Nat)(l:List Pl.Tm)(e:Ending)(w':World):Prop:=∃ a n c l',e = .returned (.slice a n c)/\Ext w w'/\TSl w' b0 a n c l'/\l'.Perm l/\Pl.desc l'
def nD(v:Nat):List UInt8:=if v=0 then []else Lib.decDigits v
theorem Pc:nD 0=[]:=pq rfl
theorem LD{v:Nat}(h:0<v):nD v=Lib.decDigits v:=pf (by omega)
theorem U0{v:Nat}:nD v=[]<->v=0:=by
 unfold nD;split
 · simp[*]
 · simp[*,W.dec_ne]
theorem Tp{v:Nat}(a:d<10):nD (10*v+d)=if v=0/\d=0 then []else nD v ++ [UInt8.ofNat (48+d)]:=by
 by_cases h0:v=0
 · subst h0;by_cases h1:d=0
   · subst h1;rfl
   · rw[pf (by omega),Pc,LD (by omega),Lib.decDigits,dif_pos (by omega)];simp
 · rw[pf (by omega),LD (by omega),LD (by omega),Lib.decDigits,dif_neg (by omega)];have h1:(10*v+d)/10=v:=by omega
   have h2:(10*v+d)%10=d:=by omega
   rw[h1,h2]
theorem Tq{H p j:Nat}(a:j<=8):H*10^(j+1)+p/10^(8-j)=10*(H*10^j+p/10^(9-j))+p/10^(8-j)%10:=by
 have h1:10^(9-j)=10^(8-j)*10:=by rw[<-gG];congr 1;omega
 have h2:H*10^(j+1)=10*(H*10^j):=by rw[gG];grind
 rw[h1,<-jY,h2];generalize p/10^(8-j)=t;generalize H*10^j=u;omega
def dD(j:Nat):Nat:=if j<=8 then 10^(8-j)else 0
theorem U1(j:Nat):dD (j+1)=dD j/10:=by
 unfold dD;by_cases h:j<=7
 · rw[pq (by omega),pq (by omega)];have h1:10^(8-j)=10^(8-(j+1))*10:=by rw[<-gG];congr 1;omega
   rw[h1];omega
 · by_cases h8:j=8
   · subst h8;rfl
   · rw[pf (by omega),pf (by omega)]
def ER(l:List UInt8):Option Nat:=if(!l.isEmpty && l.all Km)=true then some (W.decV l)else none
theorem G0(h:W.digs l)(a:l≠[]):ER l=some (W.decV l):=by
 unfold ER;rw[pq];simp only[iH,nL,List.isEmpty_eq_false_iff,j9];exact⟨a,fun c b=>Ed.2 (h c b)⟩
def MI(l:List UInt8):Option Rat :=
 let neg:Bool:=decide (l.head?=some 45)
 let t:=if neg=true then l.tail else l
 let a:=t.takeWhile (· != 47)
 let b:=t.dropWhile (· != 47)
 match ER a with
 | none=>none
 | some n =>
  if b=[]then some (mkRat (if neg=true then -(n:Int)else n) 1)
  else match ER b.tail with
   | none=>none
   | some d=>if d=0 then none else some (mkRat (if neg=true then -(n:Int)else n) d)
theorem VJ{d r:List UInt8}(a:W.digs d)(e:∀ c,r.head?=some c->c=47):(d ++ r).takeWhile (· != 47)=d/\(d ++ r).dropWhile (· != 47)=r:=by
 induction d with
 | nil =>
  cases r with
  | nil=>exact⟨rfl,rfl⟩
  | cons c t =>
   have:=e c rfl;subst this;exact⟨rfl,rfl⟩
 | cons x t ih =>
  have f:(x != 47)=true:=by
   simp only[ox,ne_eq];rintro rfl;exact Ur (a 47 (by simp))
  have:=ih (fun c b=>a c (by simp[b]));simp[f,this]
theorem RN(q:Rat):MI (txt q)=some q:=by
 have o:=PJ q;have l:=W.digs_dec q.num.natAbs;have e:=W.dec_ne q.num.natAbs;rw[o.eq];generalize f:decide (q.num<0)=a;have g:(if a=true then -(q.num.natAbs:Int)else(q.num.natAbs:Int))=q.num:=by
  subst f;by_cases h:q.num<0
  · simp only[h,mK,kJ];omega
  · simp only[h,nM];simp;omega
 obtain⟨c,t,d⟩:=ji e;have m:c≠45:=by rintro rfl;exact Uq (l 45 (by rw[d];simp))
 generalize j:(if(if q.den=1 then []else Lib.decDigits q.den)=[]then []else 47 :: (if q.den=1 then []else Lib.decDigits q.den))=R;have n:decide (((if a=true then [45]else []) ++ (Lib.decDigits q.num.natAbs ++ R)).head?=some 45)=a:=by
  rw[d];cases a <;> simp[m]
 have p:(if a=true then((if a=true then [45]else []) ++ (Lib.decDigits q.num.natAbs ++ R)).tail else(if a=true then [45]else []) ++ (Lib.decDigits q.num.natAbs ++ R))=Lib.decDigits q.num.natAbs ++ R:=by
  cases a <;> simp
 have hcut:=VJ (r:=R) l (by
  intro x i;rw[<-j]at i;split at i
  · simp at i
  · simpa[W.dec_ne]using i.symm)
 unfold MI;simp only[n,p,hcut.1,hcut.2,G0 l e,W.decV_dec,g];by_cases h1:q.den=1
 · have k:R=[]:=by rw[<-j];simp[h1]
   rw[pq k];have:=mz q;rw[h1]at this;rw[this]
 · have b:R=47 :: Lib.decDigits q.den:=by rw[<-j];simp[h1,W.dec_ne]
   rw[pf (by rw[b];simp),b,mC,G0 (W.digs_dec _) (W.dec_ne _),W.decV_dec];simp only[pf q.den_nz,mz]
theorem G1(h:AJ l=some q):MI l=some q:=by rw[Du h];exact RN q
theorem Tr{r:Rat}(h:MI l=some r):(AJ l).isSome=decide (txt r=l):=by
 by_cases a:txt r=l
 · rw[<-a,Di];simp
 · cases b:AJ l with
   | none=>simp[a]
   | some q =>
    have h1:=G1 b;rw[h]at h1;injection h1 with h1;subst h1;exact absurd (Du b).symm a
theorem G2(h:MI l=none):AJ l=none:=by
 cases a:AJ l with
 | none=>rfl
 | some q=>rw[G1 a]at h;cases h
end Go.Proofs.YtlbmnokpiilfpaaGreatDoor
