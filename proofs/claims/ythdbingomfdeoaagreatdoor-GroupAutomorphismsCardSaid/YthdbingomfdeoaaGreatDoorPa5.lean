/- Part Pa5. -/
import Derived.Test.YthdbingomfdeoaaGreatDoorPa4
import Derived.StillTailTactics
import Derived.Deep.CutBlock
import Derived.Deep.LoopGhost
import Derived.WalkKit
import Derived.Lib.ConvBytes
import Derived.Laws.IdiomStrings
set_option linter.all false
set_option maxRecDepth 100000
set_option maxHeartbeats 100000000
namespace Go.Proofs.YthdbingomfdeoaaGreatDoor
open Tryz Go Go.RowKit
def fw:=@decide_eq_false
def gI:=@List.pairwise_cons
def gl:=@decide_eq_true
def gn:=@List.mem_map_of_mem
def iE:=@Nat.pos_of_ne_zero
def iH:=@List.nodup_cons
def j4:=@List.length_pos_of_mem
def jT:=@Int.sign_eq_one_of_pos
def jc:=@List.mem_filter
def jd:=@List.getElem?_take_of_lt
def kR:=@Nat.le_of_not_lt
def kV:=@Nat.le_of_eq
def lO:=@Int.sign_eq_neg_one_of_neg
def lr:=@Int.natAbs_add_le
def m8:=@Array.ext'
variable {neg:Bool} {z:Int} {ds qs ys:List Nat} {cs:List Value} {D P R bo c cc d m n p q s u x y:Nat} {a b:Option Addr} {t:TypeId} {v v':Value} {w w' w1 w9:World}
theorem Az:Agg prog 107 2:=⟨by kernel_rfl,by kernel_rfl⟩
theorem Mg.len{w:World}{a:Option Addr}{n c x:Nat}(h:Mg w a n c x){k:Nat}(b:x<P2 (32*k)):n<=k:=by
 obtain⟨d,h1,h2,-⟩:=h;unfold P2 at b;rw[j9]at b;have h3:=W.nrm_len (B:=4294967296) (by omega) h2.nrm (by rw[h2.val];exact b);rw[h1.len]at h3;exact h3
theorem Mg.pos(h:Mg w a n c x)(h0:0<x):0<n:=by
 have:=h.zero;omega
def ZR(w:World)(v:Value)(z:Int):Prop:=∃ s a n c,v = .agg (Aj s a n c).toArray/\Hid (decide (z<0)=s)/\Mg w a n c z.natAbs
theorem ZR.ext{w b:World}{v:Value}{z:Int}(h:ZR w v z)(e:Ext w b):ZR b v z:=by
 obtain⟨s,a,n,c,h1,d,h2⟩:=h;exact⟨s,a,n,c,h1,d,h2.ext e⟩
def JD(w:World)(z:Int)(e:Ending)(w':World):Prop:=∃ s a n c,e = .returned (.agg (Aj s a n c).toArray)/\Ext w w'/\Hid (decide (z<0)=s)/\Mg w' a n c z.natAbs
theorem JD.r{e:Ending}(h:JD w z e w'):∃ v,e = .returned v/\Ext w w'/\ZR w' v z:=by
 obtain⟨s,a,n,c,h1,h2,h3,h4⟩:=h;exact⟨_,h1,h2,s,a,n,c,rfl,h3,h4⟩
theorem CA{s:Bool}(e:Ext w w1)(f:Arr w1 R t cs)(g:187≠t)(b:w1.grownBy w9 (some R))(i:w.heap.size<=R)(d:Hid (decide (z<0)=s))(j:Mg w1 a n c z.natAbs):JD w z (.returned (.agg (Aj s a n c).toArray)) w9 :=
 ⟨s,a,n,c,rfl,e.grownR b i,d,j.keptA f g b⟩
def U4(w:World)(z y:Int)(e:Ending)(w':World):Prop:=∃ s a n c t b m d,e = .returned (.tuple #[.agg (Aj s a n c).toArray,.agg (Aj t b m d).toArray])/\Ext w w'/\(Hid (decide (z<0)=s)/\Mg w' a n c z.natAbs)/\(Hid (decide (y<0)=t)/\Mg w' b m d y.natAbs)
def U5(w:World)(a:Option Addr)(n c:Nat)(z:Int)(e:Ending)(w':World):Prop:=∃ s,e = .returned (.agg (Aj s a n c).toArray)/\Ext w w'/\Hid (decide (z<0)=s)/\Mg w' a n c z.natAbs
theorem I9(k:Mg w a n c x){z:Int}(i:z=if neg=true then -(x:Int)else x) :
 Calls prog 121 #[.bool neg,.slice a n c] w (U5 w a n c z):=by
 have g:=k.zero;have m:Hid (z.natAbs=x):=by show _=_;rw[i];split <;> omega
 cases neg with
 | true =>
  have j:Hid (decide (z<0)=decide (0<n)):=by show _=_;rw[i,fE rfl];apply k9.2;omega
  clear g i
  go_enter func121,ntmps121
  go_upto_region 1 with(fail)
  refine AK ?_;intro o b e l
  go_wp2_with(refine Aa (vs:=Aj _ a n c) rfl rfl rfl rfl rfl Az e rfl (Ai _ _ _ _) ?_;intro p f d)
  refine eZ (v := .agg (Aj (decide (0<n)) a n c).toArray) (Aq rfl Az rfl f) rfl ⟨_,rfl,b.grownR d (lrf _),j,by rw[m.out];exact k.ext (b.grownR d (lrf _))⟩
 | false =>
  have j:Hid (decide (z<0)=false):=by show _=_;rw[i,fl (by simp)];simp
  clear g i
  go_enter func121,ntmps121
  go_upto_region 1 with(fail)
  refine AK ?_;intro o b e l
  go_wp2_with(refine Aa (vs:=Aj _ a n c) rfl rfl rfl rfl rfl Az e rfl (Ai _ _ _ _) ?_;intro p f d)
  refine eZ (v := .agg (Aj false a n c).toArray) (Aq rfl Az rfl f) rfl ⟨_,rfl,b.grownR d (lrf _),j,by rw[m.out];exact k.ext (b.grownR d (lrf _))⟩
theorem Ba(b:Mg w a n c x){z:Int}(d:z=if neg=true then -(x:Int)else x) :
 Calls prog 121 #[.bool neg,.slice a n c] w (JD w z) :=
 (I9 b d).mono fun _ _ ⟨s,h1,h2,h3,h4⟩=>⟨s,a,n,c,h1,h2,h3,h4⟩
theorem Ja(h:ZR w v z){r:Int}(g:z.sign=r):Calls prog 122 #[v] w fun e y=>e = .returned (.int .i64 r)/\Ext w y:=by
 obtain⟨s,a,n,c,rfl,o,x⟩:=h;have f:=x.zero;cases s with
 | true =>
  have j:z<0:=by simpa using o.out
  have i:Hid (r = -1):=by show _=_;rw[<-g,lO j]
  clear g j f
  go_enter func122,ntmps122
  go_upto_region 1 with(fail)
  refine AK ?_;intro p d b k;have l:=b.c 0 rfl;have m:=b.c 1 rfl;go_wp2;go_ret;exact⟨by rw[i.out];rfl,d⟩
 | false =>
  have j:¬ z<0:=by simpa using o.out
  by_cases h0:z=0
  · have q:n=0:=f.2 (by omega);have i:Hid (r=0):=by show _=_;rw[<-g,h0];rfl
    subst q;clear g h0 f j
    go_enter func122,ntmps122
    go_upto_region 1 with(fail)
    refine AK ?_;intro p d b k;have l:=b.c 0 rfl;have m:=b.c 1 rfl;go_wp2;go_ret;exact⟨by rw[i.out];rfl,d⟩
  · have t:((n:Int) == 0)=false:=by
     have:n≠0:=fun h=>h0 (by have:=f.1 h;omega);simpa using this
    have i:Hid (r=1):=by show _=_;rw[<-g,jT (by omega)]
    clear g j f h0
    go_enter func122,ntmps122
    go_upto_region 1 with(fail)
    refine AK ?_;intro p d b k;have l:=b.c 0 rfl;have m:=b.c 1 rfl;go_wp2;go_ret;exact⟨by rw[i.out];rfl,d⟩
theorem EY{y:Int}(h:ZR w v z)(h':ZR w v' y)(Z:z.natAbs<P2 3200000)(A:y.natAbs<P2 3200000):Calls prog 163 #[v,v'] w (JD w (z*y)):=by
 obtain⟨s,a,n,c,rfl,HS,hx⟩:=h;obtain⟨t,b,m,d,rfl,HT,hy⟩:=h';have E:=hx.len (k:=100000) Z;have F:=hy.len (k:=100000) A
 go_enter func163,ntmps163
 go_upto_region 1 with(fail)
 refine Ln ?_;intro Y r B C M S;have T:=B.c 0 rfl;have U:=B.c 1 rfl;have V:=C.c 0 rfl;have W:=C.c 1 rfl;have hR:Arr Y (w.heap.size+2) 107 (Aj false none 0 0):=M;have G:=fun(g:World) (f:Ext Y g)=>qh (I4 ((hx.ext r).ext f) ((hy.ext r).ext f) E F);clear S Z A E F;have p:=fun(g:World) (f:Ext Y g)=>qh (And.intro (f.cell T) (And.intro (f.cell U) (And.intro (f.cell V) (f.cell W))))
 refine Ac
  [hdP w.heap.size 0,hdB s,hdP (w.heap.size+1) 0,hdB t,hdB (s != t),hdP w.heap.size 1,hdS a n c,hdP (w.heap.size+1) 1,hdS b m d,hp (fun v g=>∃ i o j,v = .slice i o j/\Mg g i o j (z.natAbs*y.natAbs)),hp (fun v g=>ZR g v (z*y))]
  ⟨fun v w X e ⟨i,o,j,h1,h2⟩=>⟨i,o,j,h1,h2.ext e⟩,fun v w X e h=>ZR.ext h e,trivial⟩ ⟨?o0,?o1,?o2,?o3,?o4,?o5,?o6,?o7,?o8,?o9,?o10,trivial⟩ ?fin
 case o0 | o2=>exact ofa (d:=0)
 case o1 | o3 | o6 | o8=>exact ol
 case o5 | o7=>exact ofa (d:=1)
 case o4 =>
  refine Ae rfl fun ρ g f l h => ?_;have e0:_=_:=h.1;have e1:_=_:=h.2.1;obtain⟨H,I,J,K⟩:=(p g f).out;go_simp;cases s <;> cases t <;> rfl
 case o9 =>
  refine Ah rfl fun ρ g f l O h => ?_;have e1:_=_:=h.2.1;have e2:_=_:=h.2.2.1;obtain⟨H,I,J,K⟩:=(p g f).out;refine⟨156,#[.slice a n c,.slice b m d],by go_simp,((G g f).out).mono ?_⟩;rintro e X ⟨i,o,j,rfl,q,x⟩;exact⟨_,rfl,q,i,o,j,rfl,x⟩
 case o10 =>
  refine Ah rfl fun ρ g f l O h => ?_;have e1:_=_:=h.2.1;obtain⟨v2,e2,a2,n2,c2,rfl,d2⟩:=h.2.2.1;obtain⟨H,I,J,K⟩:=(p g f).out;refine⟨121,#[.bool (s != t),.slice a2 n2 c2],by go_simp,(Ba d2 (z:=z*y) (Uv HS.out HT.out)).mono ?_⟩;rintro e X ⟨s',i,o,j,rfl,q,Q,x⟩;exact⟨_,rfl,q,s',i,o,j,rfl,Q,x⟩
 case fin =>
  intro g f;rintro _ ⟨_,_,_,rfl,_⟩;rintro _ ⟨s1,a1,n1,c1,rfl,L,R⟩;change wpList _ _ _ _ _ _;simp only[Bs];have D:=hR.ext f
  go_wp2_with(refine Aa (vs:=Aj s1 a1 n1 c1) rfl rfl rfl rfl rfl Az D rfl (Ai _ _ _ _) ?_;intro w9 N P)
  exact eZ (Aq rfl Az rfl N) rfl (CA (r.trans f) D (by decide) P (by omega) L R)
theorem OQ{y:Int}(h:ZR w v z)(h':ZR w v' y)(bz:z.natAbs<P2 3200000)(W:y.natAbs<P2 3200000):Calls prog 165 #[v,v'] w (JD w (z+y)):=by
 obtain⟨s,a,n,c,rfl,HS,hx⟩:=h;obtain⟨t,b,m,d,rfl,HT,hy⟩:=h';have O:=hx.len (k:=100000) bz;have P:=hy.len (k:=100000) W;have ae:=fun(g:World) (f:Ext w g)=>qh (I2 (hx.ext f) (hy.ext f) O P);have ag:=fun(g:World) (f:Ext w g) (x:y.natAbs<=z.natAbs)=>qh (I3 (hx.ext f) (hy.ext f) O x);have ah:=fun(g:World) (f:Ext w g) (x:z.natAbs<=y.natAbs)=>qh (I3 (hy.ext f) (hx.ext f) P x);have af:=fun(g:World) (f:Ext w g)=>qh (DO (hx.ext f) (hy.ext f));clear bz W O P
 go_enter func165,ntmps165
 go_upto_region 1 with(fail)
 refine Ln ?_;intro w0 L a0 a3 ai al;have a6:=a0.c 0 rfl;have a7:=a0.c 1 rfl;have a8:=a3.c 0 rfl;have a9:=a3.c 1 rfl;have hR:Arr w0 (w.heap.size+2) 107 (Aj false none 0 0):=ai;clear al;by_cases N:s=t
 · subst N;have aj:(s == s)=true:=by simp
   go_wp2;have R:=fun(g:World) (f:Ext w0 g)=>qh (And.intro (f.cell a6) (And.intro (f.cell a7) (And.intro (f.cell a8) (f.cell a9))))
   refine Ac
    [hdP w.heap.size 0,hdB s,hdP w.heap.size 1,hdS a n c,hdP (w.heap.size+1) 1,hdS b m d,hp (fun v g=>∃ i l j,v = .slice i l j/\Mg g i l j (z.natAbs+y.natAbs)),hp (fun v g=>ZR g v (z+y))]
    ⟨fun v w K e ⟨i,l,j,h1,h2⟩=>⟨i,l,j,h1,h2.ext e⟩,fun v w K e h=>ZR.ext h e,trivial⟩ ⟨?o0,?o1,?o2,?o3,?o4,?o5,?o6,?o7,trivial⟩ ?fin
   case o0=>exact ofa (d:=0)
   case o1 | o3 | o5=>exact ol
   case o2 | o4=>exact ofa (d:=1)
   case o6 =>
    refine Ah rfl fun ρ g f r C h => ?_;have e1:_=_:=h.2.1;have e2:_=_:=h.2.2.1;obtain⟨G,H,I,J⟩:=(R g f).out;refine⟨155,#[.slice a n c,.slice b m d],by go_simp,((ae g (L.trans f)).out).mono ?_⟩;rintro e K ⟨i,l,j,rfl,o,p⟩;exact⟨_,rfl,o,i,l,j,rfl,p⟩
   case o7 =>
    refine Ah rfl fun ρ g f r C h => ?_;have e1:_=_:=h.2.1;obtain⟨v2,e2,V,n2,Y,rfl,Z⟩:=h.2.2.1;obtain⟨G,H,I,J⟩:=(R g f).out;refine⟨121,#[.bool s,.slice V n2 Y],by go_simp,(Ba Z (z:=z+y) (Uw HS.out HT.out)).mono ?_⟩;rintro e K ⟨s',i,l,j,rfl,o,E,p⟩;exact⟨_,rfl,o,s',i,l,j,rfl,E,p⟩
   case fin =>
    intro g f;rintro _ ⟨_,_,_,rfl,_⟩;rintro _ ⟨s1,U,n1,X,rfl,A,F⟩;change wpList _ _ _ _ _ _;simp only[Bs];have q:=hR.ext f
    go_wp2_with(refine Aa (vs:=Aj s1 U n1 X) rfl rfl rfl rfl rfl Az q rfl (Ai _ _ _ _) ?_;intro w9 B D)
    exact eZ (Aq rfl Az rfl B) rfl (CA (L.trans f) q (by decide) D (by omega) A F)
 · have aj:(s == t)=false:=by simpa using N
   go_wp2_with fail
   refine(af _ L).out.mono ?_;rintro e w1 ⟨rfl,Q⟩;have M:=L.trans Q.ext;have a4:=hR.ext Q.ext;have aa:=Q.ext.cell a6;have ab:=Q.ext.cell a7;have ac:=Q.ext.cell a8;have ad:=Q.ext.cell a9;by_cases x:y.natAbs<=z.natAbs
   · have ak:(0:Int)<=AQ (z.natAbs:Int) (y.natAbs:Int):=Hc.2 x;generalize AQ (z.natAbs:Int) (y.natAbs:Int)=cv at *
     go_wp2;have S:=fun(g:World) (f:Ext w1 g)=>qh (And.intro (f.cell aa) (And.intro (f.cell ab) (And.intro (f.cell ac) (f.cell ad))))
     refine Ac
      [hdP w.heap.size 0,hdB s,hdP w.heap.size 1,hdS a n c,hdP (w.heap.size+1) 1,hdS b m d,hp (fun v g=>∃ i l j,v = .slice i l j/\Mg g i l j (z.natAbs-y.natAbs)),hp (fun v g=>ZR g v (z+y))]
      ⟨fun v w K e ⟨i,l,j,h1,h2⟩=>⟨i,l,j,h1,h2.ext e⟩,fun v w K e h=>ZR.ext h e,trivial⟩ ⟨?o0,?o1,?o2,?o3,?o4,?o5,?o6,?o7,trivial⟩ ?fin
     case o0=>exact ofa (d:=0)
     case o1 | o3 | o5=>exact ol
     case o2 | o4=>exact ofa (d:=1)
     case o6 =>
      refine Ah rfl fun ρ g f r C h => ?_;have e1:_=_:=h.2.1;have e2:_=_:=h.2.2.1;obtain⟨G,H,I,J⟩:=(S g f).out;refine⟨201,#[.slice a n c,.slice b m d],by go_simp,((ag g (M.trans f) x).out).mono ?_⟩;rintro e K ⟨i,l,j,rfl,o,p⟩;exact⟨_,rfl,o,i,l,j,rfl,p⟩
     case o7 =>
      refine Ah rfl fun ρ g f r C h => ?_;have e1:_=_:=h.2.1;obtain⟨v2,e2,V,n2,Y,rfl,Z⟩:=h.2.2.1;obtain⟨G,H,I,J⟩:=(S g f).out;refine⟨121,#[.bool s,.slice V n2 Y],by go_simp,(Ba Z (z:=z+y) (Te HS.out HT.out N x)).mono ?_⟩;rintro e K ⟨s',i,l,j,rfl,o,E,p⟩;exact⟨_,rfl,o,s',i,l,j,rfl,E,p⟩
     case fin =>
      intro g f;rintro _ ⟨_,_,_,rfl,_⟩;rintro _ ⟨s1,U,n1,X,rfl,A,F⟩;change wpList _ _ _ _ _ _;simp only[Bs];have q:=a4.ext f
      go_wp2_with(refine Aa (vs:=Aj s1 U n1 X) rfl rfl rfl rfl rfl Az q rfl (Ai _ _ _ _) ?_;intro w9 B D)
      exact eZ (Aq rfl Az rfl B) rfl (CA (M.trans f) q (by decide) D (by omega) A F)
   · have ak:AQ (z.natAbs:Int) (y.natAbs:Int)<0:=by have:=mt Hc.1 x;omega
     have a5:z.natAbs<y.natAbs:=by omega
     generalize AQ (z.natAbs:Int) (y.natAbs:Int)=cv at *
     go_wp2;have T:=fun(g:World) (f:Ext w1 g)=>qh (And.intro (f.cell aa) (And.intro (f.cell ab) (And.intro (f.cell ac) (f.cell ad))))
     refine Ac
      [hdP (w.heap.size+1) 0,hdB t,hdP (w.heap.size+1) 1,hdS b m d,hdP w.heap.size 1,hdS a n c,hp (fun v g=>∃ i l j,v = .slice i l j/\Mg g i l j (y.natAbs-z.natAbs)),hp (fun v g=>ZR g v (z+y))]
      ⟨fun v w K e ⟨i,l,j,h1,h2⟩=>⟨i,l,j,h1,h2.ext e⟩,fun v w K e h=>ZR.ext h e,trivial⟩ ⟨?o0,?o1,?o2,?o3,?o4,?o5,?o6,?o7,trivial⟩ ?fin
     case o0=>exact ofa (d:=0)
     case o1 | o3 | o5=>exact ol
     case o2 | o4=>exact ofa (d:=1)
     case o6 =>
      refine Ah rfl fun ρ g f r C h => ?_;have e1:_=_:=h.2.1;have e2:_=_:=h.2.2.1;obtain⟨G,H,I,J⟩:=(T g f).out;refine⟨201,#[.slice b m d,.slice a n c],by go_simp,((ah g (M.trans f) (jt a5)).out).mono ?_⟩;rintro e K ⟨i,l,j,rfl,o,p⟩;exact⟨_,rfl,o,i,l,j,rfl,p⟩
     case o7 =>
      refine Ah rfl fun ρ g f r C h => ?_;have e1:_=_:=h.2.1;obtain⟨v2,e2,V,n2,Y,rfl,Z⟩:=h.2.2.1;obtain⟨G,H,I,J⟩:=(T g f).out;refine⟨121,#[.bool t,.slice V n2 Y],by go_simp,(Ba Z (z:=z+y) (Tf HS.out HT.out N a5)).mono ?_⟩;rintro e K ⟨s',i,l,j,rfl,o,E,p⟩;exact⟨_,rfl,o,s',i,l,j,rfl,E,p⟩
     case fin =>
      intro g f;rintro _ ⟨_,_,_,rfl,_⟩;rintro _ ⟨s1,U,n1,X,rfl,A,F⟩;change wpList _ _ _ _ _ _;simp only[Bs];have q:=a4.ext f
      go_wp2_with(refine Aa (vs:=Aj s1 U n1 X) rfl rfl rfl rfl rfl Az q rfl (Ai _ _ _ _) ?_;intro w9 B D)
      exact eZ (Aq rfl Az rfl B) rfl (CA (M.trans f) q (by decide) D (by omega) A F)
theorem Gm(g:Num 4294967296 ys y)(l:ys.length=m+1)(e:s<=31)(h1:2147483648<=ys.getD m 0*2^s)(h2:ys.getD m 0*2^s<4294967296)(b:Num 4294967296 ds (y*2^s)):ds.length=m+1/\2147483648<=ds.getD m 0:=by
 have c:=Dq (B:=4294967296) l;rw[g.val]at c;have i:=Bz g.bnd (m:=m) (by omega);generalize ys.getD m 0=u at *
 generalize W.val 4294967296 (ys.take m)=v at *
 have d:y*2^s=u*2^s*4294967296^m+v*2^s:=by rw[c];grind
 have h3:u*2^s+2^s<=4294967296:=by
  have h4:u<2^(32-s):=by
   refine i6 (a:=2^s) ?_;rw[Ko (eW e (by omega))];exact h2
  have h5:(u+1)*2^s<=2^(32-s)*2^s:=eS _ h4;rw[Ko (eW e (by omega)),gA,ii]at h5;exact h5
 have h6:y*2^s<4294967296^(m+1):=by
  rw[d,fT];have h7:v*2^s<4294967296^m*2^s:=gK i (fy s);have h8:(u*2^s+2^s)*4294967296^m<=4294967296*4294967296^m:=eS _ h3;rw[gA]at h8;rw[f9 (4294967296^m) (2^s)]at h7;rw[f9 (4294967296^m) 4294967296];omega
 have h9:2147483648*4294967296^m<=y*2^s:=by
  rw[d];exact eW (eS _ h1) (iK _ _)
 have o:ds.length<=m+1:=W.nrm_len (B:=4294967296) (by omega) b.nrm (by rw[b.val];exact h6);have p:m+1<=ds.length:=by
  refine fk fun k => ?_;have h10:=W.val_lt b.bnd;rw[b.val]at h10;have h11:4294967296^ds.length<=4294967296^m:=fd (by omega) (by omega);have h12:1*4294967296^m<=2147483648*4294967296^m:=eS _ (by omega);rw[ii]at h12;omega
 have f:ds.length=m+1:=by omega
 refine⟨f,?_⟩;have j:=Dq (B:=4294967296) f;rw[b.val]at j;have n:=Bz b.bnd (m:=m) (by omega);generalize ds.getD m 0=t at *
 refine fk fun k => ?_;have h13:(t+1)*4294967296^m<=2147483648*4294967296^m:=eS _ (by omega);rw[gA,ii]at h13;omega
theorem P7(a:s<=31):2^s*(x*2^(32-s)%4294967296)=4294967296*(x%2^s)/\x*2^(32-s)%4294967296%2^(32-s)=0:=by
 have h1:=Ko (eW a (by omega));have h2:x*2^(32-s)%4294967296=x%2^s*2^(32-s):=by
  rw[<-h1,f9 (2^(32-s)) (2^s),Nat.mul_mod_mul_right]
 rw[h2];refine⟨?_,kP _ _⟩;rw[<-h1];generalize 2^(32-s)=p;generalize 2^s=q
 grind
theorem RQ(a:s<=31)(b:x<4294967296):x/2^s<2^(32-s):=by
 rw[gG (fy s),Ko (eW a (by omega))];exact b
theorem Tg(a:x<4294967296)(b:y<4294967296):x ||| y<4294967296:=Nat.or_lt_two_pow (n:=32) a b
theorem NO(a:s<=31)(b:x<4294967296):∃ z:Nat,z<4294967296/\x/2^s ||| (y*2^(32-s)%4294967296)=z/\2^s*z+x%2^s=x+4294967296*(y%2^s):=by
 obtain⟨h1,h2⟩:=P7 (x:=y) a;have h3:=RQ a b;have h4:=lD (32-s) (y*2^(32-s)%4294967296) (x/2^s) h2 h3;refine⟨x/2^s ||| (y*2^(32-s)%4294967296),Tg ?_ (fN _ (by omega)),rfl,?_⟩
 · have:=gh x (2^s);omega
 · rw[lJ,h4,gS,h1];have:=fY x (2^s);generalize 2^s * (x/2^s)=p at *
   omega
theorem ME(c:x<4294967296^n)(b:4294967296^m<=y)(a:m+1<=n):x*2^s<4294967296^(n-(m+1)+1)*(y*2^s):=by
 have h1:4294967296^(n-(m+1)+1)*4294967296^m=4294967296^n:=by rw[<-ig];congr 1;omega
 have h2:4294967296^(n-(m+1)+1)*4294967296^m<=4294967296^(n-(m+1)+1)*y:=fx _ b;have h3:x*2^s<4294967296^(n-(m+1)+1)*y*2^s:=gK (by omega) (fy s);rw[<-im];exact h3
theorem Kx{i Q V a:Nat}(hi:i<qs.length)(h0:qs.getD i 0=0)(b:P=4294967296^i)(h:Q=W.val 4294967296 qs*D+V)(h1:a+q*D*P=V):Q=W.val 4294967296 (qs.set i q)*D+a:=by
 have h2:=W.val_set (B:=4294967296) (xs:=qs) (i:=i) (v:=q) hi;rw[h0,jq,gd]at h2;rw[h2,h,<-h1,b]
 grind
theorem U6{a v b:Nat}(c:a<4294967296)(d:v<4294967296)(h:a ||| (v*2^(32-s)%4294967296)=b):bits BinOp.or IntKind.u32 (a:Int) (IntKind.u64.wrap (IntKind.u64.wrap (v:Int)*2^(32-s))%4294967296)=(b:Int):=by
 have h1:2^(32-s)<=2^32:=fd (by omega) (by omega);have h2:v*2^(32-s)<=4294967295*2^32:=gO (by omega) h1;have h3:(v:Int)*2^(32-s)=((v*2^(32-s):Nat):Int):=by push_cast;rfl
 rw[Ct (x:=v) (by omega),h3,Ct (by omega),show((v*2^(32-s):Nat):Int)%4294967296=((v*2^(32-s)%4294967296:Nat):Int) by omega,u32_or_nat _ _ c (fN _ (by omega)),h]
theorem Th{b U a lo c e:Nat}(j:e=(U*b+u)*P+lo)(g:D=a*P+c)(f:c < P)(k:e<(q+1)*D)(d:q<b):U<=a:=by
 refine kR fun i => ?_;have h1:(q+1)*D<=b*D:=eS _ d;have h2:(a+1)*b*P<=U*b*P:=eS _ (eS _ i);have h3:U*b*P<=(U*b+u)*P:=eS _ (iK _ _);have h4:b*D<=b*((a+1)*P):=fx _ (by rw[g,gA,ii];omega);have h5:b*((a+1)*P)=(a+1)*b*P:=by grind
 omega
theorem Uz{v cy:Nat}(hu:u<4294967296)(c:v<4294967296)(b:cy<=1):∃ s a:Nat,s<4294967296/\a<=1/\s+v+cy=u+4294967296*a/\IntKind.u64.wrap (IntKind.u64.wrap ((u:Int)-v)-cy)%4294967296=s/\bits BinOp.and IntKind.u64 (IntKind.u64.wrap (IntKind.u64.wrap ((u:Int)-v)-cy)/4294967296) 1=a:=by
 have h:IntKind.u64.wrap (IntKind.u64.wrap ((u:Int)-v)-cy)=IntKind.u64.wrap (IntKind.u64.wrap ((u:Int)-cy)-v):=by
  rw[A9,A9,A9,A9];omega
 rw[h];exact RG hu c b
theorem U7(hp:p<18446744073709551616):bits BinOp.and IntKind.u64 (p:Int) 4294967295=((p%4294967296:Nat):Int):=by
 have h:=u64_and_nat p 4294967295 hp (by omega);have h2:p &&& 4294967295=p%4294967296:=jW p 32;rw[h2]at h;exact h
theorem Vo{t:Nat}(c:t<4294967296)(b:cc<4294967296)(a:bo<=1)(h:cc+bo<=t):IntKind.u64.wrap (IntKind.u64.wrap ((t:Int)-cc)-bo)=((t-(cc+bo):Nat):Int):=by
 rw[A9,A9];omega
theorem Vp{t:Nat}(c:t<4294967296)(b:cc<4294967296)(a:bo<=1)(h:¬ cc+bo<=t):IntKind.u64.wrap (IntKind.u64.wrap ((t:Int)-cc)-bo)=((18446744073709551616+t-(cc+bo):Nat):Int):=by
 rw[A9,A9];omega
theorem Hr{mm:Nat}(hx:Mg w a n c x)(hy:Mg w b m d y)(bn:n<=100000)(eF:y<=x)(a7:m=mm+2) :
 Calls prog 198 #[.slice a n c,.slice b m d] w (H9 w (x/y) (x%y)):=by
 have ad:=eP (DO hx hy);have dt:¬ AQ (x:Int) (y:Int)<0:=by rw[C2];omega
 obtain⟨xs,hx,nx,-⟩:=hx;obtain⟨ys,hy,ny,-⟩:=hy;have HX:=eP hx.len;have HY:=eP hy.len;have eG:m<=n:=by
  refine fk fun hc => ?_;have:=W.len_lt (B:=4294967296) (by omega) nx.bnd ny.nrm (by rw[HX.out,HY.out];omega);rw[nx.val,ny.val]at this;omega
 have aQ:ys≠[]:=by intro h;have:=HY.out;rw[h]at this;simp at this;omega
 have aP:=W.nrm_pos (B:=4294967296) (by omega) ny.nrm aQ;rw[HY.out,ny.val]at aP;have d2:0<ys.getD (mm+1) 0:=by
  have h1:=ny.nrm aQ;rw[iV]at h1;have h2:ys.length-1=mm+1:=by rw[HY.out];omega
  have h3:mm+1<ys.length:=by rw[HY.out];omega
  have h4:ys.getD (mm+1) 0=ys[ys.length-1]'(by omega):=by
   simp[h2,h3]
  omega
 have bs:=W.bnd_at ny.bnd (i:=mm+1) (by rw[HY.out];omega);have de:Hid (∀ s ds,s<=31->2147483648<=ys.getD (mm+1) 0*2^s->ys.getD (mm+1) 0*2^s<4294967296->Num 4294967296 ds (y*2^s)->ds.length=m/\2147483648<=ds.getD (mm+1) 0):=by
  show ∀ s ds,_;intro s ds h1 h2 h3 nd;have:=Gm (m:=mm+1) ny (by rw[HY.out];omega) h1 h2 h3 nd;exact⟨by omega,this.2⟩
 have c0:=eP aP;have BX:=nx.bnd;have BY:=ny.bnd;have VX:=eP nx.val;have VY:=eP ny.val;have dc:=eP a7;have dL:(m:Int)-1=((mm+1:Nat):Int):=by omega
 have d6:((mm+1:Nat):Int)<(m:Int):=by omega
 have cW:((m:Int) == 1)=false:=by simp;omega
 have bl:mm+1<m:=by omega
 clear nx ny aQ aP a7;generalize aL:ys.getD (mm+1) 0=yt at *
 have ep:=eP aL;obtain⟨mp,hmp⟩:∃ mp,mm+1=mp:=⟨_,rfl⟩;have aZ:=eP hmp;rw[hmp]at dL d6 bl aL;clear hmp
 go_enter func198,ntmps198
 go_wp2_with fail
 refine ad.out.mono ?_;rintro e w1 ⟨rfl,hQ⟩;generalize AQ (x:Int) (y:Int)=cv at *
 obtain⟨b1,o1,rfl,cl⟩:=(hy.ext hQ.ext).at (j:=mp) bl;have gt:=cl mp bl;rw[aL]at gt;clear cl ad aL;have ba:=hQ.ext;clear hQ
 go_upto_region 7 with(fail)
 clear dt cW;have bw:=hy.ext ba;have eN:=hx.ext ba;go_wp2
 go_loopw[8] (fun sv wr=>∃ s:Nat,sv = .int .u64 s/\s<=31/\yt*2^s<4294967296/\Ext w1 wr) (fun sv _=>31-(intOf sv).toNat)
 case atStart=>exact⟨0,rfl,by omega,by omega,Ext.refl _⟩
 case round =>
  obtain⟨s,rfl,hs,cx,hE⟩:=hrel;have g1:=hE.cell gt;have HW:Hid (IntKind.u32.wrap ((yt:Int)*2^s)=((yt*2^s:Nat):Int)):=by
   have:=Hz (yt*2^s);rw[gW cx]at this;show _=_;rw[<-this];push_cast;rfl
  have cI:=HW.out;obtain⟨t,ht⟩:∃ t,yt*2^s=t:=⟨_,rfl⟩;have au:=eP ht;rw[ht]at cI cx;clear ht;by_cases h31:t<2147483648
  · have bE:(t:Int)<2147483648:=by omega
    have eJ:s<31:=by
     refine Nat.lt_of_not_le fun hc => ?_;have h1:2^31<=2^s:=fd (by omega) hc;have h2:1*2^s<=yt*2^s:=eS _ d2;have:=au.out;omega
    go_wp2;go_roundw
    case rel=>exact⟨s+1,by go_num,by omega,by rw[fT,<-im,au.out];omega,hE⟩
    case measure=>simp[intOf];omega
  · have bE:¬ (t:Int)<2147483648:=by omega
    go_upto_region 9 with(fail)
    clear bE cI g1 HW;have am:=eP (Fm (bw.ext hE) BY (by omega) hs)
    go_wp2_with fail
    refine am.out.mono ?_;rintro e w2 ⟨av,rfl,dk,bb,c1,cP⟩;clear am
    go_wp2_with fail
    refine(Bl bb.sl).mono ?_;rintro e w3 ⟨f,rfl,rfl,ct,ag⟩;have hd:SlN .u32 w2 (some ⟨wr.heap.size,0,none⟩) f (m+1) (W.trim av):=by rw[ag];exact bb.sl.upto ct
    have nd:Num 4294967296 (W.trim av) (y*2^s):=Num.trim c1 (by rw[cP,VY.out]);obtain⟨cn,co⟩:=de.out s (W.trim av) hs (by rw[au.out];omega) (by rw[au.out];omega) nd;have cX:f=m:=by rw[<-hd.len,cn]
    subst cX;clear ag ct bb c1 cP cn;generalize W.trim av=ds at *
    have d8:=eP co;have ND:=eP nd;have bG:=(ba.trans hE).trans dk;have am:=eP (Fm (hx.ext bG) BX bn hs);clear co nd;obtain⟨V,dB⟩:∃ V,n-f=V:=⟨_,rfl⟩;have bU:Hid (n=V+f):=by show _=_;omega
    have dM:(n:Int)+1-f-1=(V:Int):=by omega
    have ej:V<=n:=by omega
    clear dB
    go_wp2_with fail
    refine am.out.mono ?_;rintro e w4 ⟨bA,rfl,ax,aB,c4,bB⟩;clear am;obtain⟨D,hD⟩:∃ D,y*2^s=D:=⟨_,rfl⟩;rw[hD]at ND;have HD:=eP hD;have bR:Hid (0<D):=by
     show 0<D;rw[<-hD];refine jr ?_ (fy s);have h1:=c0.out;have:=iu (n:=f-1) (show 0<4294967296 by omega);omega
    have aS:Hid (D<4294967296^f):=by
     show D<4294967296^f;have h1:=W.val_lt ND.out.bnd;rw[ND.out.val,hd.len]at h1;exact h1
    have bX:Hid (W.val 4294967296 bA<4294967296^(V+1)*D):=by
     show _<_;have h1:=W.val_lt BX;rw[HX.out]at h1;have h3:=c0.out;have:=ME (s:=s) (m:=f-1) h1 h3 (by have:=aZ.out;omega);rw[bB];rw[show n-(f-1+1)+1=V+1 by have:=bU.out;have:=aZ.out;omega,hD]at this;exact this
    have bZ:Hid (W.val 4294967296 bA=x*2^s):=by show _=_;rw[bB,VX.out]
    clear hD bB
    go_upto_region 14 with(at_make;refine CJ (n:=V+1) rfl rfl underlying105 Br rfl rfl rfl (by omega) (by unfold maxLen;omega) ?_;intro w5 ce I)
    have du:=(hd.ext ax).ext I;have an:=aB.ext I;have bF:=ax.trans I;have dK:=an.lt;have dJ:=ax.size;have Z:Hid (w2.heap.size<=w2.heap.size):=eP (lrf _);obtain⟨G,hG⟩:∃ G,w2.heap.size=G:=⟨_,rfl⟩;have Z:Hid (w2.heap.size<=G):=eP (kV hG);rw[hG]at aB an;simp only[hG];generalize hH:w4.heap.size=H at *
    have M:Hid (G<H):=by show _<_;have:=aB.lt;omega
    clear dM hG hH;go_wp2
    go_loopg [14] (V+1) (fun gk iv wx=>∃ (k:Nat) (A qs:List Nat),iv = .int .i64 ((k:Int)-1)/\k<=gk/\k<=V+1/\Ext w2 wx/\Am .u32 wx G 187 G (n+1) (n+1) A/\Am .u32 wx H 187 H (V+1) (V+1) qs/\W.bnd 4294967296 A/\W.bnd 4294967296 qs/\Hid (x*2^s=W.val 4294967296 qs*D+W.val 4294967296 A)/\Hid (∀ j,j<k->qs.getD j 0=0)/\Hid (W.val 4294967296 A<4294967296^k*D))
    case atStart=>exact⟨V+1,bA,List.replicate (V+1) 0,by go_num,lrf _,lrf _,bF,an,Am.of_zeros ce,c4,EU (by omega) _,eP (by rw[W.val_zeros,ic,fP,bZ.out]),eP (fun j _=>Dn _ j),bX⟩
    case round =>
     clear aB ce ax I an bF c4 bZ bX du dK dJ;obtain⟨k,A,qs,rfl,ex,hk,I,L,hq,bz,bq,HV,HJ,HB⟩:=hrel;cases k with
     | zero=>as_aux_lemma =>
      have aw:=HB.out;rw[iP,ii]at aw;obtain⟨a4,cC⟩:=OD (x:=x) (y:=y) (s:=s) (Q:=W.val 4294967296 qs) (R:=W.val 4294967296 A) (iE fun h0=>by have h1:=HD.out;have h2:=bR.out;rw[h0,ic]at h1;omega) (by rw[HD.out];exact HV.out) (by rw[HD.out];exact aw);have cs:W.val 4294967296 A<4294967296^f:=jK aw aS.out;have cG:W.val 4294967296 (A.take f)=W.val 4294967296 A:=(GM (by rw[L.len];omega) (fun j hj=>DQ (by omega) cs hj)).symm;have HQ:=eP a4;have HR:=eP cC
      have cN:SlN .u32 wr (some ⟨G,0,none⟩) f (n+1) (A.take f):=L.sl.upto (by omega);have d1:=fun wx:World=>DN (P:=prog) (w:=wx) (a:=some ⟨G,0,none⟩) (n:=n+1) underlying105 Br (k:=f) (c:=n+1) (by omega);clear aw a4 cC cs
      go_wp2_with fail
      refine(Bl cN).mono ?_;rintro e w7 ⟨C,rfl,rfl,dI,ag⟩;rw[kZ,iF dI]at ag;have HT:Hid (W.val 4294967296 (A.take C)=W.val 4294967296 A):=by show _=_;rw[<-ag,W.trim_val,cG]
      clear d1 cN cG ag;have ek:C<=n:=by omega
      have ah:Hid ((A.take C).length=C):=by show _=_;rw[go,L.len];omega
      have aV:Hid (w2.heap.size<=G):=Z;go_wp2
      go_loopw[26] (fun iv wz=>∃ (k:Nat) (K:List Nat),iv = .int .i64 k/\k<=C/\Ext w2 wz/\Am .u32 wz G 187 G (n+1) (n+1) K/\Am .u32 wz H 187 H (V+1) (V+1) qs/\W.bnd 4294967296 K/\Hid (2^s*W.val 4294967296 (K.take k)+(A.take C).getD 0 0%2^s=W.val 4294967296 ((A.take C).take k)+4294967296^k*((A.take C).getD k 0%2^s))/\Hid (∀ j,k<=j->j<C->K.getD j 0=(A.take C).getD j 0)) (fun iv _=>C-(intOf iv).toNat)
      case atStart=>exact⟨0,A,rfl,f8 _,I,L,hq,bz,eP (by simp[W.val]),eP (fun j _ hj=>by rw[gqq,gqq,jd hj])⟩
      case round=>as_aux_lemma =>
       clear I L hq bz HV HJ HB;obtain⟨k,K,rfl,hk,I,L,hq,bz,HI,HJ⟩:=hrel;by_cases aG:k<C
       · have ei:(k:Int)<C:=by omega
         have g1:=L.cell (i:=k) (by omega);have g2:=L.frozen k;rw[HJ.out k (lrf _) aG]at g1;have aJ:(A.take C).getD k 0<4294967296:=by rw[<-HJ.out k (lrf _) aG];exact W.bnd_at bz (by rw[L.len];omega)
         by_cases bj:k+1<C
         · have cU:(k:Int)+1<C:=by omega
           have g3:=L.cell (i:=k+1) (by omega);rw[HJ.out (k+1) (by omega) bj]at g3;have aj:=HI.out;have d9:=eP (HJ.out (k+1) (by omega) bj);have bk:k<(A.take C).length:=by rw[ah.out];exact aG
           have bu:(A.take C).getD (k+1) 0<4294967296:=by rw[<-HJ.out (k+1) (by omega) bj];exact W.bnd_at bz (by rw[L.len];omega)
           generalize hu:(A.take C).getD k 0=u at *
           generalize hv:(A.take C).getD (k+1) 0=v at *
           obtain⟨z2,dO,aR,bP⟩:=NO (x:=u) (y:=v) hs aJ;have HN:=eP (Gd (B:=4294967296) (l:=K) (xs:=A.take C) (k:=k) (s:=s) (z:=z2) (by rw[L.len];omega) bk (by rw[hu];exact aj) (by rw[hu,hv];exact bP));obtain⟨z1,a8⟩:∃ z1,u/2^s=z1:=⟨_,rfl⟩;have e1:(u:Int)/2^s=(z1:Int):=by rw[<-a8];push_cast;rfl
           have aq:z1<4294967296:=by have:=gh u (2^s);omega
           rw[a8]at aR;have dh:=eP aR;clear hu hv a8 aj aR bP HI
           go_upto_region 52 with(fail)
           have a9:=L.set k z1;have aH:=hq.kept (Ab wr G k (.int .u32 (z1:Int))) (by have:=M.out;simp;omega);have az:=I.setCell (p:=⟨G,k,none⟩) aV.out (.int .u32 (z1:Int));have g6:=a9.cell (i:=k) (by omega);have g7:=a9.cell (i:=k+1) (by omega);have g8:=a9.frozen k;rw[gqq,lS (by rw[L.len];omega),fC]at g6;rw[gqq,ge (by omega),<-gqq,d9.out]at g7;have dj:=W.bnd_set bz (i:=k) aq;generalize wr.setCell ⟨G,k,none⟩ (.int .u32 (z1:Int))=w8 at *
           clear L hq I g1 g2 g3 e1;have aK:IntKind.i64.wrap ((k:Int)+1)=((k+1:Nat):Int):=by rw[<-Int.natCast_one,<-fI];exact eT _ (by omega)
           have bO:((k+1:Nat):Int)<C:=by omega
           have ef:(0:Int)<=(k:Int)+1:=by omega
           have eM:IntKind.u64.wrap (32-(s:Int))=((32-s:Nat):Int):=by rw[A9];omega
           go_still_tail 16,(by kernel_rfl)
           change wpList _ _ _ _ _ w8.drew;have cL:=a9.drewN 1;have cA:=aH.drewN 1;have dl:=az.drew;have es:w8.drew.frozen? ⟨G,k,none⟩=false:=g8;have er:w8.drew.cell? ⟨G,k,none⟩=some (.int .u32 (z1:Int)):=g6;change Am _ w8.drew _ _ _ _ _ _ at cL;change Am _ w8.drew _ _ _ _ _ _ at cA;generalize w8.drew=w9 at *
           clear g6 g7 g8 a9 aH az;have e9:=U6 (s:=s) aq bu dh.out;rw[Ct (x:=v) (by omega)]at e9;go_wp2;go_roundw
           case rel =>
            refine⟨k+1,(K.set k z1).set k z2,by go_num,by omega,dl.setCell aV.out _,cL.set k z2,cA.kept (Ab w9 G k (.int .u32 (z2:Int))) (by have:=M.out;simp;omega),W.bnd_set dj dO,?_,eP (fun j hj bi=>by rw[lT,gqq,ge (by omega),<-gqq];exact HJ.out j (by omega) bi)⟩;rw[lT];exact HN
           case measure=>simp[intOf];omega
         · have cU:¬ (k:Int)+1<C:=by omega
           have cF:(A.take C).getD (k+1) 0=0:=by rw[gqq,fi (by rw[ah.out];omega)];rfl
           have aj:=HI.out;have bk:k<(A.take C).length:=by rw[ah.out];exact aG
           generalize hu:(A.take C).getD k 0=u at *
           have HN:=eP (Gd (B:=4294967296) (l:=K) (xs:=A.take C) (k:=k) (s:=s) (z:=u/2^s) (by rw[L.len];omega) bk (by rw[hu];exact aj) (by rw[hu,cF,Nat.zero_mod,jq,gd];exact fY u (2^s)));obtain⟨z1,a8⟩:∃ z1,u/2^s=z1:=⟨_,rfl⟩;have e1:(u:Int)/2^s=(z1:Int):=by rw[<-a8];push_cast;rfl
           have aq:z1<4294967296:=by have:=gh u (2^s);omega
           rw[a8]at HN;clear hu cF a8 aj HI;go_wp2;go_roundw
           case rel=>exact⟨k+1,K.set k z1,by go_num,by omega,I.setCell aV.out _,L.set k z1,hq.kept (Ab wr G k (.int .u32 (z1:Int))) (by have:=M.out;simp;omega),W.bnd_set bz aq,HN,eP (fun j hj bi=>by rw[gqq,ge (by omega),<-gqq];exact HJ.out j (by omega) bi)⟩
           case measure=>simp[intOf];omega
       · have bJ:k=C:=by omega
         have hA:W.val 4294967296 (K.take C)=x%y:=by
          have h1:=HI.out;rw[bJ,eR (l:=A.take C) (by rw[ah.out];exact lrf _),HT.out,show(A.take C).getD C 0=0 by rw[gqq,fi (by rw[ah.out];exact lrf _)];rfl,Nat.zero_mod,jq,gd]at h1;rw[<-HR.out,<-h1,j3 (fy s),gX (fN _ (fy s)),gd]
         have HA:=eP hA;have br:SlN .u32 wr (some ⟨G,0,none⟩) C (n+1) (K.take C):=L.sl.upto (by omega);have dm:=bG.trans I;clear HI HJ hA bJ
         go_wp2_with fail
         refine(Bl hq.sl).mono ?_;rintro e w8 ⟨q1,rfl,rfl,a4,cD⟩
         go_wp2_with fail
         refine(Bl br).mono ?_;rintro e w9 ⟨q2,rfl,rfl,ak,cE⟩;have dA:=Cw hq.sl hq.ty a4 cD bq HQ.out.symm;have a7:=Cw br L.ty ak cE (W.bnd_take bz _) HA.out;clear cD cE br hq L bz;go_wp2
         go_ret2
         exact⟨_,_,_,_,_,_,rfl,dm,dA,a7⟩
     | succ i =>
      have cH:((i+1:Nat):Int)-1=i:=by omega
      rw[cH];have eD:i<=V:=by omega
      have eE:i+f<=n:=by have:=bU.out;omega
      have dz:i+(f+1)<=A.length:=by rw[L.len];omega
      obtain⟨q,al,a4,ak,cg,cr,cq⟩:=Ks (by omega) bz dz aS.out bR.out HB.out;have a7:=dc.out;have hmp:=aZ.out;have ch:((A.drop i).take (f+1)).length=mm+3:=by simp;omega
      have bW:W.bnd 4294967296 ((A.drop i).take (f+1)):=W.bnd_take (W.bnd_drop bz _) _;have ac:=Mw (B:=4294967296) ch;rw[EC (by omega),EC (by omega),EC (by omega)]at ac;have ab:=Gf (B:=4294967296) (l:=ds) (m:=mm) (by rw[hd.len];exact a7);rw[ND.out.val]at ab;have bK:=Bz bW (m:=mm) (by omega);have aN:=Bz ND.out.bnd (m:=mm) (by rw[hd.len];omega);rw[show i+(mm+2)=i+f by omega,show i+(mm+1)=i+mp by omega]at ac;rw[show mm+1=mp by omega]at ab;have bw:=d8.out;rw[show mm+1=mp by omega]at bw
      have dQ:=W.bnd_at bz (i:=i+f) (by omega);have dP:=W.bnd_at bz (i:=i+mp) (by omega);have cO:=W.bnd_at bz (i:=i+mm) (by omega);have dS:=W.bnd_at ND.out.bnd (i:=mp) (by rw[hd.len];omega);have cQ:=W.bnd_at ND.out.bnd (i:=mm) (by rw[hd.len];omega);have g1:=L.cell (i:=i+f) (by omega);have g2:=L.cell (i:=i+mp) (by omega);have g3:=L.cell (i:=i+mm) (by omega);obtain⟨bv,ov,a2,a0⟩:=(hd.ext I).at (j:=0) (by omega);simp only[fc,gV,iL]at a2;obtain⟨rfl,rfl⟩:=a2;have g4:=a0 mp (by omega);have g5:=a0 mm (by omega);rw[fP]at g4 g5
      have HU:=eP (Th ac ab aN ak al);have b5:=eP (W.digit_hi ac bK ab a4);have b6:=eP ac;have bY:=eP ab;have b7:=eP cg;have bT:=eP cr;have bS:=eP aN;have bV:=eP a4;have ar:=eP ak;have db:=eP cq;generalize A.getD (i+f) 0=t1 at *
      generalize A.getD (i+mp) 0=t0 at *
      generalize A.getD (i+mm) 0=u2 at *
      generalize ds.getD mp 0=y1 at *
      generalize ds.getD mm 0=y0 at *
      obtain⟨U,bc⟩:∃ U,t1*4294967296+t0=U:=⟨_,rfl⟩;rw[bc]at HU b5 b6;have bC:=eP (Est.start (b:=4294967296) (by omega) cQ HU.out b5.out cO);have bD:Hid (bits BinOp.or IntKind.u64 ((t1:Int)*4294967296) (t0:Int)=(U:Int)):=by
       show _=_;rw[Ur dQ dP,bc]
      have et:U<18446744073709551616:=by omega
      have eK:IntKind.i64.wrap ((i:Int)+f)=((i+f:Nat):Int):=by rw[<-fI];exact eT _ (by omega)
      have eL:IntKind.i64.wrap (((i+f:Nat):Int)-1)=((i+mp:Nat):Int):=by rw[show((i+f:Nat):Int)-1=((i+mp:Nat):Int) by omega];exact eT _ (by omega)
      have eA:((i+f:Nat):Int)<(n:Int)+1:=by omega
      have eB:((i+mp:Nat):Int)<(n:Int)+1:=by omega
      have dX:(i:Int)+f<=(n:Int):=by omega
      have dY:(i:Int)+f<(n:Int)+1:=by omega
      have dZ:(i:Int)+mp<=(n:Int):=by omega
      have ea:(i:Int)+mp<(n:Int)+1:=by omega
      have el:((i:Int)+f).toNat=i+f:=by omega
      have em:((i:Int)+mp).toNat=i+mp:=by omega
      have cY:(i:Int)+f-1=(i:Int)+mp:=by omega
      have dT:IntKind.i64.wrap ((i:Int)+f-1)=(i:Int)+mp:=by rw[cY];exact eT _ (by omega)
      have cZ:(i:Int)+f-2=(i:Int)+mm:=by omega
      have dU:IntKind.i64.wrap ((i:Int)+f-2)=(i:Int)+mm:=by rw[cZ];exact eT _ (by omega)
      have d0:(f:Int)-2=(mm:Int):=by omega
      have dV:IntKind.i64.wrap ((f:Int)-2)=(mm:Int):=by rw[d0];exact eT _ (by omega)
      have eb:(i:Int)+mm<=(n:Int):=by omega
      have ec:(i:Int)+mm<(n:Int)+1:=by omega
      have eC:(mm:Int)<f:=by omega
      have en:((i:Int)+mm).toNat=i+mm:=by omega
      have cz:(0:Int)<=(i:Int)+mm:=by omega
      have eH:(0:Int)<=(i:Int)+f:=by omega
      have cy:(0:Int)<=(i:Int)+mp:=by omega
      clear cg cr a4 ak cq bW ch ac ab bK aN a0 bc a7 hmp cH
      go_upto_region 17 with(fail)
      go_quiet (fail)
      rw[bD.out];have cb:=I.drewN nq;have cM:=L.drewN nq;have cB:=hq.drewN nq;have b8:(wr.drewN nq).cell? _=_:=g3;have b9:(wr.drewN nq).cell? _=_:=g4;have c5:(wr.drewN nq).cell? _=_:=g5;generalize wr.drewN nq=wq at *
      clear g1 g2 g3 g4 g5 I L hq;have e1:(U:Int).tdiv (y1:Int)=((U/y1:Nat):Int):=by rw[gE (by omega)];rfl
      have e2:(U:Int).tmod (y1:Int)=((U%y1:Nat):Int):=by rw[gP (by omega)];rfl
      have dN:((y1:Int) == 0)=false:=by simp;omega
      have d7:¬ (y1:Int)=0:=by omega
      have bp:U%y1<4294967296:=jK (fN _ (by omega)) dS;have aM:=bC.out;generalize U/y1=h0 at *
      generalize U%y1=r0 at *
      have bh:=aM.hi;have aU:=eP aM;clear aM bC bD
      go_upto_block 4 with(fail)
      clear e1 e2 dN d7
      go_cut [16,17] from 78 to 255 (fun hv rv wx=>∃ g r:Nat,hv = .int .u64 g/\rv = .int .u64 r/\g<=q+1/\q<=g/\g<=4294967296/\Qt wq wx)
      case first=>as_aux_lemma =>
       try go_wp2
       go_loopw[16,17] (fun hv rv wx=>∃ h r:Nat,hv = .int .u64 h/\rv = .int .u64 r/\r<4294967296/\h<=4294967297/\Qt wq wx/\Hid (Est 4294967296 y1 U q h r)) (fun hv _ _=>(intOf hv).toNat)
       case atStart=>exact⟨h0,r0,rfl,rfl,bp,bh,Qt.refl _,aU⟩
       case round=>as_aux_lemma =>
        clear bp bh aU;obtain⟨h,r,rfl,rfl,hr,hh,hQ,HE⟩:=hrel;have k3:=hQ.ext.cell b8;have k4:=hQ.ext.cell b9;have k5:=hQ.ext.cell c5;have cw:bits BinOp.or IntKind.u64 ((r:Int)*4294967296) (u2:Int)=(r:Int)*4294967296+u2:=by rw[Ur hr cO,fI,fH];rfl
        have bm:h*y0<18446744073709551616:=by
         have:h*y0<=4294967297*4294967295:=gO hh (by omega);omega
        have cu:IntKind.u64.wrap ((h:Int)*y0)=(h:Int)*y0:=by rw[<-fH];exact Ct bm
        by_cases hc:4294967296<=h\/4294967296*r+u2<h*y0
        case pos =>
         obtain⟨hd0,a3,be⟩:=Est.down HE.out b5.out al hc;obtain⟨g,hg⟩:∃ g,h-1=g:=⟨_,rfl⟩;rw[hg]at a3 be;have aT:=eP be;have dx:(h:Int)-1=(g:Int):=by omega
         have ez:IntKind.u64.wrap ((h:Int)-1)=(g:Int):=by rw[dx];exact Ct (by omega)
         have ew:g<h:=by omega
         have c8:(4294967296:Int)<=h\/¬ (4294967296:Int)<=h:=by omega
         have ad:¬ 4294967296<=h->(r:Int)*4294967296+u2<(h:Int)*y0:=by
          intro h1;have h2:4294967296*r+u2<h*y0:=by omega
          have h3:((4294967296*r+u2:Nat):Int)<((h*y0:Nat):Int):=by omega
          rw[fI,fH,fH]at h3;rw[Int.mul_comm (r:Int)];exact h3
         clear be hg HE hd0;by_cases hb:4294967296<=h
         case' pos =>
          have cj:(4294967296:Int)<=h:=by omega
          clear ad c8 hc
          go_upto_region 20 with(fail)
          go_quiet (fail)
         case' neg =>
          have cj:¬ (4294967296:Int)<=h:=by omega
          have cS:=ad hb;clear ad c8 hc
          go_upto_region 20 with(fail)
          go_quiet (fail)
         all_goals
          have X:=hQ.drewN nq;generalize wr.drewN nq=wv at *
          clear k3 k5 cw cu bm hb hQ;have eO:=X.ext.cell b9;clear k4;by_cases dq:r+y1<4294967296
          · have cR:¬ (4294967296:Int)<=(r:Int)+y1:=by omega
            go_wp2;go_roundw
            case rel=>exact⟨g,r+y1,rfl,by go_num,dq,by omega,X,aT⟩
            case measure=>simp[intOf];omega
          have cR:(4294967296:Int)<=(r:Int)+y1:=by omega
          have S:g<=q+1:=Est.done aT.out (W.guess_over (by omega) a3 cQ) (by omega) (by omega) b6.out bY.out bS.out ar.out al;have T:q<=g:=aT.out.lo
          go_wp2_with fail
          go_meet
          exact⟨_,_,rfl,rfl,S,T,a3,X⟩
        case neg =>
         have cj:¬ (4294967296:Int)<=h:=by omega
         have cS:¬ (r:Int)*4294967296+u2<(h:Int)*y0:=by
          intro h1;have h2:¬ 4294967296*r+u2<h*y0:=fun hx=>hc (Or.inr hx);have h3:¬ ((4294967296*r+u2:Nat):Int)<((h*y0:Nat):Int):=by omega
          rw[fI,fH,fH]at h3;rw[Int.mul_comm (r:Int)]at h1;exact h3 h1
         have S:h<=q+1:=Est.done HE.out (by omega) (by omega) (by omega) b6.out bY.out bS.out ar.out al;have T:q<=h:=HE.out.lo;have a3:h<=4294967296:=by omega
         clear hc HE
         go_upto_region 20 with(fail)
         go_quiet (fail)
         have X:=hQ.drewN nq;generalize wr.drewN nq=wv at *
         clear k3 k4 k5 cw cu bm hQ
         go_wp2_with fail
         go_meet
         exact⟨_,_,rfl,rfl,S,T,a3,X⟩
      case rest=>as_aux_lemma =>
       clear bp bh aU;obtain⟨g,r,rfl,rfl,S,T,a3,X⟩:=hcut;have a1:=cb.trans X.ext;have E:=cM.ext X.ext;have Y:=cB.ext X.ext;clear cM cB cb X b8 b9 c5;go_wp2
       go_loopw[18,19,20] (fun cv bv kv wx=>∃ (k cc bo:Nat) (K:List Nat),cv = .int .u64 cc/\bv = .int .u64 bo/\kv = .int .i64 k/\k<=f/\cc<4294967296/\bo<=1/\Ext w2 wx/\Am .u32 wx G 187 G (n+1) (n+1) K/\Am .u32 wx H 187 H (V+1) (V+1) qs/\W.bnd 4294967296 K/\Hid (W.val 4294967296 K+g*W.val 4294967296 (ds.take k)*4294967296^i=W.val 4294967296 A+(cc+bo)*4294967296^(i+k))/\Hid (∀ j,i+k<=j->K.getD j 0=A.getD j 0)) (fun _ _ kv _=>f-(intOf kv).toNat)
       case atStart=>exact⟨0,0,0,A,rfl,rfl,rfl,f8 _,by omega,by omega,a1,E,Y,bz,eP (by simp[W.val]),eP (fun j _=>rfl)⟩
       case round=>as_aux_lemma =>
        clear a1 E Y;obtain⟨k,cc,bo,K,rfl,rfl,rfl,hk,bd,aC,a1,E,Y,a5,HI,aY⟩:=hrel;by_cases aF:k<f
        · have eh:(k:Int)<f:=by omega
          obtain⟨bv,ov,a2,a0⟩:=(hd.ext a1).at (j:=k) aF;simp only[fc,gV,iL]at a2;obtain⟨rfl,rfl⟩:=a2;have g1:=a0 k aF;rw[fP]at g1;have g2:=E.cell (i:=i+k) (by omega);have g3:=E.frozen (i+k);have bu:=W.bnd_at ND.out.bnd (i:=k) (by rw[hd.len];exact aF);have aJ:=W.bnd_at a5 (i:=i+k) (by rw[E.len];omega);have bH:g*ds.getD k 0<=4294967296*4294967295:=gO a3 (by omega);have aa:=fun s c' e=>Ue (B:=4294967296) (l:=K) (xs:=ds) (k:=k) (o:=i) (w:=g) (c:=cc+bo) (s:=s) (c':=c') (by rw[E.len];omega) HI.out e
          generalize ds.getD k 0=v at *
          generalize K.getD (i+k) 0=u at *
          obtain⟨gv,bg⟩:∃ gv,g*v=gv:=⟨_,rfl⟩;rw[bg]at bH aa;have e1:(g:Int)*(v:Int)=(gv:Int):=by rw[<-bg,fH]
          obtain⟨p,hp⟩:∃ p,gv+cc=p:=⟨_,rfl⟩;have dC:p<18446744073709551616:=by omega
          have e2:(gv:Int)+(cc:Int)=(p:Int):=by omega
          have e3:=U7 dC;have e4:(p:Int)/4294967296=((p/4294967296:Nat):Int):=by omega
          have cy:p/4294967296<4294967296:=by omega
          have cz:p%4294967296<4294967296:=fN _ (by omega);have dF:p%4294967296+4294967296*(p/4294967296)=p:=iQ _ _;generalize p%4294967296=lo at *
          generalize p/4294967296=c2 at *
          obtain⟨s2,b2,h1,h2,h3,e5,e6⟩:=Uz aJ cz aC;have b0:=eP (aa s2 (c2+b2) (by omega));have aK:IntKind.i64.wrap ((k:Int)+i)=((i+k:Nat):Int):=by rw[<-fI,ie k i];exact eT _ (by omega)
          have bO:(k:Int)+i<=n:=by omega
          have d3:(k:Int)+i<(n:Int)+1:=by omega
          have d4:((k:Int)+i).toNat=i+k:=by omega
          have d5:(0:Int)<=(k:Int)+i:=by omega
          clear aa bg hp dF h3 a0 bH;go_wp2;go_roundw
          case rel=>exact⟨k+1,c2,b2,K.set (i+k) s2,rfl,rfl,by go_num,by omega,cy,h2,a1.setCell Z.out _,E.set (i+k) s2,Y.kept (Ab wr G (i+k) (.int .u32 (s2:Int))) (by have:=M.out;simp;omega),W.bnd_set a5 h1,b0,eP (fun j hj=>by rw[gqq,ge (by omega),<-gqq];exact aY.out j (by omega))⟩
          case measure=>simp[intOf];omega
        · have bI:k=f:=by omega
          have aA:W.val 4294967296 K+g*D*4294967296^i=W.val 4294967296 A+(cc+bo)*4294967296^(i+f):=by
           have h1:=HI.out;rw[bI,eR (l:=ds) (by rw[hd.len];exact lrf _),ND.out.val]at h1;exact h1
          have dp:∀ j,i+f+1<=j->K.getD j 0=0:=fun j hj=>by
           rw[aY.out j (by omega)];exact DQ (by omega) db.out (by omega)
          have dg:=eP dp;clear HI aY aF hk;subst bI;have g1:=E.cell (i:=i+k) (by omega);have g2:=E.frozen (i+k);have aI:=W.bnd_at a5 (i:=i+k) (by rw[E.len];omega);have a6:=fun v=>W.val_set (B:=4294967296) (xs:=K) (i:=i+k) (v:=v) (by rw[E.len];omega);have c6:=Y.cell (i:=i) (by omega);have c7:=Y.frozen i;have ed:(i:Int)<(V:Int)+1:=by omega
          have ee:(i:Int)<=(V:Int):=by omega
          generalize K.getD (i+k) 0=tt at *
          by_cases hs:cc+bo<=tt
          · have dn:=Vo aI bd aC hs;obtain⟨O,aD⟩:∃ O,tt-(cc+bo)=O:=⟨_,rfl⟩;rw[aD]at dn;have ao:O<4294967296:=by omega
            have a3:(O:Int)%4294967296=(O:Int):=by omega
            have cm:(O:Int)/9223372036854775808=0:=by omega
            have ae:=RI (a6 O) aA (by omega);obtain⟨bf,bL⟩:=Kr b7.out bT.out ae ar.out T;have ey:(g:Int)%4294967296=(g:Int):=by omega
            have b3:=eP (Kx (qs:=qs) (i:=i) (q:=g) (by rw[Y.len];omega) (HJ.out i (by omega)) rfl HV.out ae);have b4:=eP bL;have dv:g<4294967296:=by omega
            clear a6 aA aD ae bf bL S T hs;go_wp2
            go_roundg i
            case rel=>exact⟨i,K.set (i+k) O,qs.set i g,by go_num,lrf _,by omega,(a1.setCell Z.out _).setCell (eW Z.out (jt M.out)) _,(E.set (i+k) O).kept (Ab _ H i (.int .u32 (g:Int))) (by have:=M.out;simp;omega),(Y.kept (Ab wr G (i+k) (.int .u32 (O:Int))) (by have:=M.out;simp;omega)).set i g,W.bnd_set a5 ao,W.bnd_set bq dv,b3,eP (H8 HJ.out),b4⟩
            case measure=>omega
          · have cf:=Vp aI bd aC hs;obtain⟨dw,cp⟩:∃ dw,18446744073709551616+tt-(cc+bo)=dw:=⟨_,rfl⟩;obtain⟨O,aD⟩:∃ O,4294967296+tt-(cc+bo)=O:=⟨_,rfl⟩;rw[cp]at cf;have ao:O<4294967296:=by omega
            have cT:(dw:Int)%4294967296=(O:Int):=by omega
            have cm:(dw:Int)/9223372036854775808=1:=by omega
            have bt:=Kt (a6 O) aA (B:=4294967296) (by omega)
            have bx:∀ j,i+k+1<=j->(K.set (i+k) O).getD j 0=0:=fun j hj=>by
             rw[gqq,ge (by omega),<-gqq];exact dg.out j hj
            have ap:=Ge (B:=4294967296) (l:=K.set (i+k) O) (p:=i+k+1) (by rw[gL,E.len];omega) (W.bnd_set a5 ao) bx;rw[fT]at ap;have dH:=My b7.out bt ap bV.out;have bf:(g:Int)-1=(q:Int):=by omega
            have dW:IntKind.u64.wrap ((g:Int)-1)=(q:Int):=by rw[bf];exact Ct (by omega)
            have ck:=W.bnd_set a5 (i:=i+k) ao;have df:=eP bt;have di:=eP bx;have da:=eP ap;clear a6 aA bt bx ap cp aD hs T dH
            go_upto_region 36 with(fail)
            have cK:=E.set (i+k) O;have bN:=Y.kept (Ab wr G (i+k) (.int .u32 (O:Int))) (by have:=M.out;simp;omega);have ca:=a1.setCell (p:=⟨G,i+k,none⟩) Z.out (.int .u32 (O:Int));have dr:∀ j,j≠i->True:=fun _ _=>trivial;generalize wr.setCell ⟨G,i+k,none⟩ (.int .u32 (O:Int))=wb at *
            generalize K.set (i+k) O=l1 at *
            clear E Y a1 g1 g2 c6 c7 a5 aI cf cT cm dr bd aC;go_wp2
            go_loopw[18,24] (fun cv iv wx=>∃ (F c3:Nat) (J:List Nat),cv = .int .u64 c3/\iv = .int .i64 F/\F<=k/\c3<=1/\Ext w2 wx/\Am .u32 wx G 187 G (n+1) (n+1) J/\Am .u32 wx H 187 H (V+1) (V+1) qs/\W.bnd 4294967296 J/\Hid (W.val 4294967296 J+c3*4294967296^(i+F)=W.val 4294967296 l1+1*W.val 4294967296 (ds.take F)*4294967296^i)/\Hid (∀ j,i+F<=j->J.getD j 0=l1.getD j 0)) (fun _ iv _=>k-(intOf iv).toNat)
            case atStart=>exact⟨0,0,l1,rfl,rfl,f8 _,by omega,ca,cK,bN,ck,eP (by simp[W.val]),eP (fun j _=>rfl)⟩
            case round=>as_aux_lemma =>
             clear ca cK bN ck;obtain⟨F,c3,J,rfl,rfl,dy,eu,ay,N,af,ai,aW,aX⟩:=hrel;by_cases aE:F<k
             · have eg:(F:Int)<k:=by omega
               obtain⟨bv,ov,a2,a0⟩:=(hd.ext ay).at (j:=F) aE;simp only[fc,gV,iL]at a2;obtain⟨rfl,rfl⟩:=a2;have g1:=a0 F aE;rw[fP]at g1;have g2:=N.cell (i:=i+F) (by omega);have g3:=N.frozen (i+F);have bu:=W.bnd_at ND.out.bnd (i:=F) (by rw[hd.len];exact aE);have aJ:=W.bnd_at ai (i:=i+F) (by rw[N.len];omega);have aa:=fun s c' e=>Rs (B:=4294967296) (l:=J) (xs:=ds) (k:=F) (o:=i) (w:=1) (c:=c3) (s:=s) (c':=c') (by rw[N.len];omega) aW.out e;generalize ds.getD F 0=v at *
               generalize J.getD (i+F) 0=u at *
               obtain⟨p,hp⟩:∃ p,u+v+c3=p:=⟨_,rfl⟩;have e7:(c3:Int)+((u:Int)+v)=(p:Int):=by omega
               have f1:(p:Int)%4294967296=((p%4294967296:Nat):Int):=by omega
               have f2:(p:Int)/4294967296=((p/4294967296:Nat):Int):=by omega
               have b0:=eP (aa (p%4294967296) (p/4294967296) (by rw[iQ];omega));have dE:p/4294967296<=1:=by omega
               have dG:p%4294967296<4294967296:=fN _ (by omega);generalize p%4294967296=s2 at *
               generalize p/4294967296=c2 at *
               have aK:IntKind.i64.wrap ((F:Int)+i)=((i+F:Nat):Int):=by rw[<-fI,ie F i];exact eT _ (by omega)
               have eo:IntKind.i64.wrap ((F:Int)+i)=(F:Int)+i:=by rw[aK];omega
               have bO:(F:Int)+i<=n:=by omega
               have d3:(F:Int)+i<(n:Int)+1:=by omega
               have d4:((F:Int)+i).toNat=i+F:=by omega
               have d5:(0:Int)<=(F:Int)+i:=by omega
               clear aa hp a0 aK
               go_upto_region 41 with(fail)
               go_quiet (fail)
               have az:=ay.drewN nq;have a9:=N.drewN nq;have aH:=af.drewN nq;have eq:(wr.drewN nq).cell? _=_:=g2;have b8:(wr.drewN nq).frozen? _=_:=g3;generalize wr.drewN nq=dR at *
               clear g1 g2 g3 ay N af;go_wp2;go_roundw
               case rel=>exact⟨F+1,c2,J.set (i+F) s2,rfl,by go_num,by omega,dE,az.setCell Z.out _,a9.set (i+F) s2,aH.kept (Ab dR G (i+F) (.int .u32 (s2:Int))) (by have:=M.out;simp;omega),W.bnd_set ai dG,b0,eP (fun j hj=>by rw[gqq,ge (by omega),<-gqq];exact aX.out j (by omega))⟩
               case measure=>simp[intOf];omega
             · have cV:k=F:=by omega
               subst cV;have cd:W.val 4294967296 J+c3*4294967296^(i+k)=W.val 4294967296 l1+1*D*4294967296^i:=by
                have h1:=aW.out;rw[eR (l:=ds) (by rw[hd.len];exact lrf _),ND.out.val]at h1;exact h1
               have ci:∀ j,i+k+1<=j->J.getD j 0=0:=fun j hj=>by
                rw[aX.out j (by omega)];exact di.out j hj
               clear aW aX aE dy;have g1:=N.cell (i:=i+k) (by omega);have g2:=N.frozen (i+k);have aI:=W.bnd_at ai (i:=i+k) (by rw[N.len];omega);have a6:=fun v=>W.val_set (B:=4294967296) (xs:=J) (i:=i+k) (v:=v) (by rw[N.len];omega);have c6:=af.cell (i:=i) (by omega);have c7:=af.frozen i;generalize J.getD (i+k) 0=t2 at *
               obtain⟨z3,cJ⟩:∃ z3,(t2+c3)%4294967296=z3:=⟨_,rfl⟩;have bQ:z3<4294967296:=by omega
               have e8:((t2:Int)+c3)%4294967296=(z3:Int):=by omega
               have e9:IntKind.u32.wrap ((t2:Int)+c3)=(z3:Int):=by rw[<-fI,Hz,cJ]
               have ev:(c3:Int)%4294967296=(c3:Int):=by omega
               have eI:(q:Int)%4294967296=(q:Int):=by omega
               have bs:=Mz (a6 z3) cd (B:=4294967296) (ov:=(t2+c3)/4294967296) (by have:=iQ (t2+c3) 4294967296;omega)
               have aO:=Ge (B:=4294967296) (l:=J.set (i+k) z3) (p:=i+k+1) (by rw[gL,N.len];omega) (W.bnd_set ai bQ) (fun j hj=>by
                rw[gqq,ge (by omega),<-gqq]
                exact ci j hj)
               rw[fT]at aO;have c9:D*4294967296^i<4294967296^(i+k)*4294967296:=by
                have h1:D*4294967296^i<4294967296^k*4294967296^i:=gK aS.out (iu (by omega));rw[<-ig,ie k i]at h1;have h2:4294967296^(i+k)*1<=4294967296^(i+k)*4294967296:=fx _ (by omega);omega
               obtain⟨_,ae,bM⟩:=Mx b7.out bT.out df.out da.out bV.out ar.out S bs aO c9;have b3:=eP (Kx (qs:=qs) (i:=i) (q:=q) (by rw[af.len];omega) (HJ.out i (by omega)) rfl HV.out ae);have b4:=eP bM;clear a6 cd ci cJ bs aO c9 ae bM S;go_wp2
               go_roundg i
               case rel=>exact⟨i,J.set (i+k) z3,qs.set i q,by go_num,lrf _,by omega,(ay.setCell Z.out _).setCell (eW Z.out (jt M.out)) _,(N.set (i+k) z3).kept (Ab _ H i (.int .u32 (q:Int))) (by have:=M.out;simp;omega),(af.kept (Ab wr G (i+k) (.int .u32 (z3:Int))) (by have:=M.out;simp;omega)).set i q,W.bnd_set ai bQ,W.bnd_set bq al,b3,eP (H8 HJ.out),b4⟩
               case measure=>omega
theorem Jb(g:Mg w a n c x)(e:Mg w b m d y)(f:n<=100000)(h0:0<y) :
 Calls prog 198 #[.slice a n c,.slice b m d] w (H9 w (x/y) (x%y)):=by
 rcases fL x y with h|h
 · exact JC g e f h
 · have i:=e.pos h0;rcases fL 1 m with h1|h1
   · exact Hr g e f h (mm:=m-2) (by omega)
   · obtain rfl:m=1:=by omega
     exact I5 g e f h h0
theorem He(m : -9223372036854775808<=z/\z<9223372036854775808):Calls prog 126 #[.int .i64 z] w (JD w z):=by
 by_cases E:z<0
 · obtain⟨x,rfl⟩:∃ x:Nat,z = -(x:Int):=⟨z.natAbs,by omega⟩;have T:IntKind.u64.wrap (-(x:Int))=18446744073709551616-(x:Int):=by show _%18446744073709551616=_;omega
   have Y:IntKind.u64.wrap (-(18446744073709551616-(x:Int)))=(x:Int):=by show _%18446744073709551616=_;omega
   have U : -(18446744073709551616-(x:Int))%18446744073709551616=(x:Int):=by omega
   have P:(x:Int)%4294967296=((x%4294967296:Nat):Int):=by omega
   have R:(x:Int)/4294967296%4294967296=((x/4294967296:Nat):Int):=by omega
   have Q:IntKind.u32.wrap (x:Int)=((x%4294967296:Nat):Int):=Hz x;have S:IntKind.u32.wrap ((x:Int)/4294967296)=((x/4294967296:Nat):Int):=by show _%4294967296=_;omega
   have F:decide (-(x:Int)<0)=true:=gl E
   go_enter func126,ntmps126
   go_upto_region 1 with(fail)
   refine AK ?_;intro l p b j
   go_upto_region 4 with(fail)
   have D:=b;clear b;have I:=D.lt;have C:x/4294967296<4294967296:=by omega
   have B:x%4294967296<4294967296:=fN _ (by omega);have a:=(Ag l l.heap.size 187 #[.int .u32 ((x%4294967296:Nat):Int),.int .u32 ((x/4294967296:Nat):Int)] 2 rfl (lrf _) (by omega));have g:SlN .u32 (l.alloc (.cells #[.int .u32 ((x%4294967296:Nat):Int),.int .u32 ((x/4294967296:Nat):Int)] 187)) (some ⟨w.heap.size+1,0,none⟩) 2 2 [x%4294967296,x/4294967296]:=by have:=a.sl;rw[j]at this;exact this
   have d:=(Ext.refl l).alloc (.cells #[.int .u32 ((x%4294967296:Nat):Int),.int .u32 ((x/4294967296:Nat):Int)] 187)
   have s:W.bnd 4294967296 [x%4294967296,x/4294967296]:=fun z m=>by
    rcases fS.1 m with rfl|m
    · exact B
    · rw[eV.1 m];exact C
   have y:W.val 4294967296 [x%4294967296,x/4294967296]=x:=by simp only[W.val];omega
   have i:=a.ty;rw[j]at i;clear a;generalize x%4294967296=N at *
   generalize x/4294967296=J at *
   go_wp2_with fail
   refine(Bl g).mono ?_;rintro e P ⟨k,rfl,rfl,K,M⟩;have L:=Cw g i K M s y;have q:=p.trans d;have r:=D.ext d;generalize l.alloc (.cells #[.int .u32 (N:Int),.int .u32 (J:Int)] 187)=V at *
   have v:=qh (Ba (neg:=true) L (z := -(x:Int)) (by simp))
   go_wp2_with fail
   refine v.out.mono ?_;rintro e R ⟨s1,G,O,H,rfl,c,n,A⟩;have f:=r.ext c
   go_wp2_with(refine Aa (vs:=Aj s1 G O H) rfl rfl rfl rfl rfl Az f rfl (Ai _ _ _ _) ?_;intro X o t)
   exact eZ (Aq rfl Az rfl o) rfl (CA (q.trans c) f (by decide) t (by omega) n A)
 · obtain⟨x,rfl⟩:∃ x:Nat,z=(x:Int):=⟨z.natAbs,by omega⟩;have T:IntKind.u64.wrap (x:Int)=(x:Int):=by show _%18446744073709551616=_;omega
   have P:(x:Int)%4294967296=((x%4294967296:Nat):Int):=by omega
   have R:(x:Int)/4294967296%4294967296=((x/4294967296:Nat):Int):=by omega
   have Q:IntKind.u32.wrap (x:Int)=((x%4294967296:Nat):Int):=Hz x;have S:IntKind.u32.wrap ((x:Int)/4294967296)=((x/4294967296:Nat):Int):=by show _%4294967296=_;omega
   have F:decide ((x:Int)<0)=false:=fw E
   go_enter func126,ntmps126
   go_upto_region 1 with(fail)
   refine AK ?_;intro l p b j
   go_upto_region 4 with(fail)
   have D:=b;clear b;have I:=D.lt;have C:x/4294967296<4294967296:=by omega
   have B:x%4294967296<4294967296:=fN _ (by omega);have a:=(Ag l l.heap.size 187 #[.int .u32 ((x%4294967296:Nat):Int),.int .u32 ((x/4294967296:Nat):Int)] 2 rfl (lrf _) (by omega));have g:SlN .u32 (l.alloc (.cells #[.int .u32 ((x%4294967296:Nat):Int),.int .u32 ((x/4294967296:Nat):Int)] 187)) (some ⟨w.heap.size+1,0,none⟩) 2 2 [x%4294967296,x/4294967296]:=by have:=a.sl;rw[j]at this;exact this
   have d:=(Ext.refl l).alloc (.cells #[.int .u32 ((x%4294967296:Nat):Int),.int .u32 ((x/4294967296:Nat):Int)] 187)
   have s:W.bnd 4294967296 [x%4294967296,x/4294967296]:=fun z m=>by
    rcases fS.1 m with rfl|m
    · exact B
    · rw[eV.1 m];exact C
   have y:W.val 4294967296 [x%4294967296,x/4294967296]=x:=by simp only[W.val];omega
   have i:=a.ty;rw[j]at i;clear a;generalize x%4294967296=N at *
   generalize x/4294967296=J at *
   go_wp2_with fail
   refine(Bl g).mono ?_;rintro e P ⟨k,rfl,rfl,K,M⟩;have L:=Cw g i K M s y;have q:=p.trans d;have r:=D.ext d;generalize l.alloc (.cells #[.int .u32 (N:Int),.int .u32 (J:Int)] 187)=V at *
   have v:=qh (Ba (neg:=false) L (z:=(x:Int)) (by simp))
   go_wp2_with fail
   refine v.out.mono ?_;rintro e R ⟨s1,G,O,H,rfl,c,n,A⟩;have f:=r.ext c
   go_wp2_with(refine Aa (vs:=Aj s1 G O H) rfl rfl rfl rfl rfl Az f rfl (Ai _ _ _ _) ?_;intro X o t)
   exact eZ (Aq rfl Az rfl o) rfl (CA (q.trans c) f (by decide) t (by omega) n A)
structure GS(w wr:World)(g:Nat)(aa:Option Addr)(na ca:Nat)(ab:Option Addr)(nb cb X Y:Nat):Prop where
 ext:Ext w wr
 x:Mg wr aa na ca X
 y:Mg wr ab nb cb Y
 g:Nat.gcd X Y=g
 bx:X<P2 3200000
 b_y:Y<P2 3200000
theorem Ti{y:Int}(h:ZR w v z)(h':ZR w v' y)(bz:z.natAbs<P2 3200000)(E:y.natAbs<P2 3200000):Calls prog 159 #[v,v'] w (JD w (Int.gcd z y:Nat)):=by
 obtain⟨s,a,n,c,rfl,HS,hx⟩:=h;obtain⟨t,b,m,d,rfl,HT,hy⟩:=h'
 go_enter func159,ntmps159
 go_upto_region 1 with(fail)
 refine Ln ?_;intro A l p q F V;have Z:=p.c 0 rfl;have a0:=p.c 1 rfl;have a2:=q.c 0 rfl;have a3:=q.c 1 rfl;have hR:Arr A (w.heap.size+2) 107 (Aj false none 0 0):=F;have f:Hid (GS w A (Int.gcd z y) a n c b m d z.natAbs y.natAbs):=qh ⟨l,hx.ext l,hy.ext l,rfl,bz,E⟩;generalize z.natAbs=X0 at *
 generalize y.natAbs=M at *
 generalize Int.gcd z y=g at *
 clear V hx hy bz E HS HT p q F;go_wp2
 go_quiet (fail)
 have j:Ext A (A.drewN nq):=(Qt.drewN (Qt.refl A) nq).ext;have G:=hR.ext j;have C:Hid (GS w (A.drewN nq) g a n c b m d X0 M):=qh ⟨f.out.ext.trans j,f.out.x.ext j,f.out.y.ext j,f.out.g,f.out.bx,f.out.b_y⟩;have hS:w.heap.size<=w.heap.size+2:=by omega
 clear f hR;generalize A.drewN nq=w1 at *
 clear Z a0 a2 a3 j l;go_wp2
 go_loopg [5,6] M (fun gk av bv wr=>∃ (N J:Option Addr) (W O B K X Y:Nat),av = .slice N W O/\bv = .slice J B K/\Y<=gk/\Arr wr (w.heap.size+2) 107 (Aj false none 0 0)/\Hid (GS w wr g N W O J B K X Y))
 case atStart=>exact⟨a,b,n,c,m,d,X0,M,rfl,rfl,lrf _,G,C⟩
 case round =>
  clear C G;obtain⟨N,J,W,O,B,K,X,Y,rfl,rfl,T,H,f⟩:=hrel;by_cases h0:B=0
  · have HX:Hid (g=X):=qh (by
     have:=f.out.y.zero.1 h0;have h2:=f.out.g;rw[this,jN]at h2
     exact h2.symm)
    have U:=qh (Ba (neg:=false) f.out.x (z:=(X:Int)) (by simp));have Q:=f.out.ext;subst h0;clear f T
    go_wp2_with fail
    refine U.out.mono ?_;rintro e w2 ⟨s1,a1,n1,c1,rfl,i,D,I⟩;have o:=H.ext i;rw[<-HX.out]at D I
    go_wp2_with(refine Aa (vs:=Aj s1 a1 n1 c1) rfl rfl rfl rfl rfl Az o rfl (Ai _ _ _ _) ?_;intro w9 P S)
    exact eZ (Aq rfl Az rfl P) rfl (CA (Q.trans i) o (by decide) S (by omega) D I)
  · have r:0<Y:=by
     rcases fj Y with h|h
     · exact absurd (f.out.y.zero.2 h) h0
     · exact h
    have a5:(0:Int)<B:=by omega
    have R:=qh (Jb f.out.x f.out.y (f.out.x.len (k:=100000) f.out.bx) r);clear h0
    go_wp2_with fail
    refine R.out.mono ?_;rintro e w2 ⟨qa,qn,qc,ra,rn,rc,rfl,i,_,hr⟩;have o:=H.ext i;have L:Hid (GS w w2 g J B K ra rn rc Y (X%Y)):=qh ⟨f.out.ext.trans i,f.out.y.ext i,hr,by rw[<-f.out.g,iX X Y,lK Y X,iX],f.out.b_y,jK (fN _ r) f.out.b_y⟩;have a4:X%Y<Y:=fN _ r;go_wp2
    go_roundg (X%Y)
    case rel=>exact⟨_,_,_,_,_,_,Y,X%Y,rfl,rfl,lrf _,o,L⟩
    case measure=>omega
theorem Jc{y:Int}(h:ZR w v z)(h':ZR w v' y)(bz:z.natAbs<P2 3200000)(Y:y≠0):Calls prog 161 #[v,v'] w (U4 w (z.tdiv y) (z.tmod y)):=by
 obtain⟨s,a,n,c,rfl,HS,hx⟩:=h;obtain⟨t,b,m,d,rfl,HT,hy⟩:=h';have U:=fun(i:World) (f:Ext w i)=>qh (Jb (hx.ext f) (hy.ext f) (hx.len (k:=100000) bz) (by omega));clear bz Y
 go_enter func161,ntmps161
 go_upto_region 1 with(fail)
 refine U0 ?_;intro w0 G C D N O Z;have a0:=C.c 0 rfl;have a6:=C.c 1 rfl;have a3:=D.c 0 rfl;have a7:=D.c 1 rfl;have hR:Arr w0 (w.heap.size+2) 107 (Aj false none 0 0):=N;have S:Arr w0 (w.heap.size+3) 107 (Aj false none 0 0):=O;clear Z
 go_wp2_with fail
 refine(U _ G).out.mono ?_;rintro e w1 ⟨qa,qn,qc,ra,rn,rc,rfl,j,hq,hr⟩;have R:=G.trans j;have a4:=j.cell a0;have a5:=j.cell a3;go_wp2;have p:=fun(i:World) (f:Ext w1 i)=>qh (And.intro (f.cell a4) (f.cell a5))
 refine Ac
  [hdP w.heap.size 0,hdB s,hdP (w.heap.size+1) 0,hdB t,hdB (s != t),hdS qa qn qc,hp (fun v i=>ZR i v (z.tdiv y)),hdP w.heap.size 0,hdB s,hdS ra rn rc,hp (fun v i=>ZR i v (z.tmod y))]
  ⟨fun v w w' e h=>ZR.ext h e,fun v w w' e h=>ZR.ext h e,trivial⟩ ⟨?o0,?o1,?o2,?o3,?o4,?o5,?o6,?o7,?o8,?o9,?o10,trivial⟩ ?fin
 case o0 | o2 | o7=>exact ofa (d:=0)
 case o1 | o3 | o8=>exact ol
 case o5 | o9=>exact omv
 case o4 =>
  refine Ae rfl fun ρ i f o h => ?_;have e0:_=_:=h.1;have e1:_=_:=h.2.1;obtain⟨H,I⟩:=(p i f).out;go_simp;cases s <;> cases t <;> rfl
 case o6 =>
  refine Ah rfl fun ρ i f o V h => ?_;have e1:_=_:=h.2.1;have e2:_=_:=h.2.2.1;obtain⟨H,I⟩:=(p i f).out;refine⟨121,#[.bool (s != t),.slice qa qn qc],by go_simp,(Ba (hq.ext f) (z:=z.tdiv y) (Ux HS.out HT.out)).mono ?_⟩;rintro e w' ⟨s',L,n',M,rfl,q,B,A⟩;exact⟨_,rfl,q,s',L,n',M,rfl,B,A⟩
 case o10 =>
  refine Ah rfl fun ρ i f o V h => ?_;have e1:_=_:=h.2.1;have e2:_=_:=h.2.2.1;obtain⟨H,I⟩:=(p i f).out;refine⟨121,#[.bool s,.slice ra rn rc],by go_simp,(Ba (hr.ext f) (z:=z.tmod y) (Uy HS.out)).mono ?_⟩;rintro e w' ⟨s',L,n',M,rfl,q,B,A⟩;exact⟨_,rfl,q,s',L,n',M,rfl,B,A⟩
 case fin =>
  intro i f;rintro _ ⟨s1,a1,n1,c1,rfl,J,W⟩;rintro _ ⟨s2,a2,n2,c2,rfl,K,X⟩;change wpList _ _ _ _ _ _;simp only[Bs];have r:=(hR.ext j).ext f;have T:=(S.ext j).ext f
  go_wp2_with(first
   | (refine Aa (vs:=Aj s1 a1 n1 c1) rfl rfl rfl rfl rfl Az r rfl (Ai _ _ _ _) ?_;intro w9 P l;have x:=T.kept l (by simp))
   | (refine Aa (vs:=Aj s2 a2 n2 c2) rfl rfl rfl rfl rfl Az x rfl (Ai _ _ _ _) ?_;intro a8 E g))
  have F:=P.kept g (by simp);have Q:=((R.trans f).grownR l (by omega)).grownR g (by omega);exact eZ (Us rfl Az Az rfl rfl F E) rfl ⟨s1,a1,n1,c1,s2,a2,n2,c2,rfl,Q,⟨J,(W.keptA r (by decide) l).keptA x (by decide) g⟩,⟨K,(X.keptA r (by decide) l).keptA x (by decide) g⟩⟩
theorem Mg.top(h:Mg w a n c x)(l:0<n):∃ b e t,a=some ⟨b,e,none⟩/\w.cell? ⟨b,e+(n-1),none⟩=some (.int .u32 ((t:Nat):Int))/\0<t/\t<4294967296/\(n=1->x=t)/\(1<n->4294967296<=x):=by
 obtain⟨f,h1,h2,h3⟩:=h;obtain⟨b,e,rfl,i⟩:=h1.at (j:=n-1) (by omega);have g:=h1.len;have d:f≠[]:=by rintro rfl;simp at g;omega
 have m:=h2.nrm d;have k:f.getD (n-1) 0=f.getLast d:=by
  rw[iV,gqq,<-g,eQ (by omega),fC]
 refine⟨b,e,f.getD (n-1) 0,rfl,i (n-1) (by omega),by omega,?_,?_,?_⟩
 · rw[k];exact h2.bnd _ (List.getLast_mem d)
 · intro h5;subst h5
   match f,g with
   | [y],_=>have h6:=h2.val;simp[W.val]at h6;simpa using h6.symm
 · intro h5;have h6:=W.nrm_pos (B:=4294967296) (by omega) h2.nrm d;rw[h2.val,g]at h6;exact eW (by have:=fd (n:=4294967296) (by omega) (show 1<=n-1 by omega);simpa using this) h6
def UA(w:World)(x:Nat)(e:Ending)(w':World):Prop:=∃ k:Nat,e = .returned (.int .i64 k)/\Ext w w'/\k<=10000000/\(k=1<->x=1)/\(1<k<->1<x)
theorem Jd(h:ZR w v z)(q:z.natAbs<P2 3200000):Calls prog 160 #[v] w (UA w z.natAbs):=by
 have Y:=h;obtain⟨s,a,n,c,rfl,U,y⟩:=h;have O:=y.len (k:=100000) q;by_cases h0:n=0
 · have S:z.natAbs=0:=y.zero.1 h0;subst h0;clear q O
   go_enter func160,ntmps160
   go_upto_region 1 with(fail)
   refine AK ?_;intro H d b o;have A:=b.c 0 rfl;have C:=b.c 1 rfl;go_wp2;go_ret;exact⟨0,rfl,d,by omega,by omega,by omega⟩
 · obtain⟨g,T,t,rfl,p,Q,r,l,m⟩:=y.top (by omega);have P:((n:Int) == 0)=false:=by simpa using h0
   have K:=qh (And.intro l m);have e:IntKind.i64.wrap (32*((n:Int)-1))=((32*(n-1):Nat):Int):=by rw[eT _ (by omega)];omega
   have F:(n:Int)-1=((n-1:Nat):Int):=by omega
   have R:IntKind.i64.wrap ((n:Int)-1)=((n-1:Nat):Int):=by rw[eT _ (by omega)];omega
   clear q l m
   go_enter func160,ntmps160
   go_upto_region 1 with(fail)
   refine AK ?_;intro H d b o;have A:=b.c 0 rfl;have C:=b.c 1 rfl;have Z:=d.cell p;clear p o;obtain⟨B,E⟩:∃ B,32*(n-1)=B:=⟨_,rfl⟩;have M:B<=3200000:=by omega
   have I:Hid (n=1/\B=0\/1<n/\32<=B):=by show _\/_;omega
   rw[E]at e
   go_upto_region 5 with(fail)
   go_loopw[3,4] (fun L D wr=>∃ j u:Nat,L = .int .i64 ((B+j:Nat):Int)/\D = .int .u32 u/\u<4294967296/\wr=H/\j<=32/\Hid (u*2^j<=t/\(j=0->u=t)/\(j=1->u=t/2)/\(2<=j->2<=t))) (fun _ D _=>(intOf D).toNat)
   case atStart=>exact⟨0,t,by go_num,rfl,r,rfl,by omega,qh ⟨by omega,fun _=>rfl,fun h=>by omega,fun h=>by omega⟩⟩
   case round =>
    obtain⟨j,u,rfl,rfl,hu,rfl,X,f⟩:=hrel;by_cases x:0<u
    · have i:(0:Int)<u:=by omega
      have G:j<32:=by
       refine Nat.lt_of_not_le fun p => ?_;have h1:2^32<=2^j:=fd (by omega) p;have h2:1*2^j<=u*2^j:=eS _ x;have h3:=f.out.1;omega
      have J:Hid (u/2*2^(j+1)<=t/\(j+1=0->u/2=t)/\(j+1=1->u/2=t/2)/\(2<=j+1->2<=t)):=by
       obtain⟨h1,h2,h3,h4⟩:=f.out;refine⟨?_,fun h=>by omega,fun h=>by rw[h2 (by omega)],fun h => ?_⟩
       · refine eW ?_ h1;rw[fT,f9 (2^j) 2,<-im];exact eS _ (l4 u 2)
       · by_cases h5:j=1
         · have:=h3 h5;omega
         · exact h4 (by omega)
      have V:((u:Int)).fdiv (2^min (Int.toNat 1) IntKind.u32.bits)=((u/2:Nat):Int):=by
       show((u:Int)).fdiv 2=_;rw[Int.fdiv_eq_ediv_of_nonneg _ (by omega)];rfl
      go_wp2;go_roundw
      case rel=>exact⟨j+1,u/2,by go_num,by go_num,by omega,by first | rfl | trivial,by omega,J⟩
      case measure=>simp[intOf];omega
    · have i:¬ (0:Int)<u:=by omega
      have N:1<=j:=by
       rcases fj j with h|h
       · have:=f.out.2.1 h;omega
       · exact h
      have h1:j=1->t=1:=fun h=>by have:=f.out.2.2.1 h;omega
      have h2:2<=j->2<=t:=f.out.2.2.2;have W:=K.out;have E:=I.out;go_wp2;go_ret;exact⟨B+j,rfl,d,by omega,by omega,by omega⟩
end Go.Proofs.YthdbingomfdeoaaGreatDoor
namespace Go.Proofs.YthdbingomfdeoaaGreatDoor.Pl
variable {x y:Int} {a b c e:List Int} {d n:Nat} {q:Rat}
abbrev Tm:=List Int×Rat
def coef:List Tm->List Int->Rat
 | [],_=>0
 | t :: r,e=>(if t.1=e then t.2 else 0)+coef r e
theorem coef_app(a b:List Tm)(e:List Int):coef (a ++ b) e=coef a e+coef b e:=by
 induction a with
 | nil=>simp[coef];grind
 | cons t r ih=>simp only[iT,coef,ih];grind
theorem coef_perm{a b:List Tm}(h:a.Perm b)(e:List Int):coef a e=coef b e:=by
 induction h with
 | nil=>rfl
 | cons t _ ih=>simp only[coef,ih]
 | swap s t l=>simp only[coef];grind
 | trans _ _ h1 h2=>rw[h1,h2]
def scl(c:Rat)(l:List Tm):List Tm:=l.map (fun t=>(t.1,c*t.2))
theorem coef_scl(c:Rat)(l:List Tm)(e:List Int):coef (scl c l) e=c*coef l e:=by
 induction l with
 | nil=>simp[scl,coef]
 | cons t r ih =>
  have:scl c (t :: r)=(t.1,c*t.2) :: scl c r:=rfl;rw[this];simp only[coef,ih];by_cases h:t.1=e <;> simp[h] <;> grind
def cmpI(x y:Int):Int:=if x<y then -1 else if y<x then 1 else 0
theorem cmpI_zero:cmpI x y=0<->x=y:=by unfold cmpI;split <;> (try split) <;> omega
theorem Du:0<cmpI x y<->y<x:=by unfold cmpI;split <;> (try split) <;> omega
theorem MF:cmpI y x = -cmpI x y:=by unfold cmpI;split <;> (try split) <;> omega
def ordR:List Int->List Int->Int
 | x :: r,y :: s=>if x=y then ordR r s else cmpI y x
 | _,_=>0
def ordE(a b:List Int):Int:=if a.sum=b.sum then ordR a.reverse b.reverse else cmpI a.sum b.sum
theorem Ky:∀ a:List Int,ordR a a=0
 | []=>rfl
 | x :: r=>by simp[ordR,Ky r]
theorem OR:∀ {a b:List Int},a.length=b.length->ordR a b=0->a=b
 | [],[],_,_=>rfl
 | x :: r,y :: s,hl,h=>by
  by_cases e:x=y
  · simp only[ordR,fE e]at h;rw[e,OR (by simpa using hl) h]
  · simp only[ordR,fl e]at h;exact absurd (cmpI_zero.1 h).symm e
theorem Kz:∀ (a b:List Int),ordR b a = -ordR a b
 | [],[]=>by simp[ordR]
 | [],_ :: _=>by simp[ordR]
 | _ :: _,[]=>by simp[ordR]
 | x :: r,y :: s=>by
  by_cases e:x=y
  · simp only[ordR,fE e,fE e.symm];exact Kz r s
  · simp only[ordR,fl e,fl (fun h:y=x=>e h.symm)];exact MF
theorem Je:∀ {a b c:List Int},0<ordR a b->0<ordR b c->0<ordR a c
 | x :: r,y :: s,z :: t,h1,h2=>by
  by_cases e1:x=y
  · subst e1;by_cases e2:x=z
    · subst e2;simp only[ordR,j0]at h1 h2 |-;exact Je h1 h2
    · simp only[ordR,fl e2]at h2 |-;exact h2
  · simp only[ordR,fl e1]at h1;by_cases e2:y=z
    · subst e2;simp only[ordR,fl e1];exact h1
    · simp only[ordR,fl e2]at h2;have g1:=Du.1 h1;have d:=Du.1 h2;simp only[ordR,fl (show ¬ x=z by omega)];exact Du.2 (by omega)
 | [],_,_,h1,_=>by simp[ordR]at h1
 | _ :: _,[],_,h1,_=>by simp[ordR]at h1
 | _ :: _,_ :: _,[],_,h2=>by simp[ordR]at h2
theorem ordE_self(a:List Int):ordE a a=0:=by simp[ordE,Ky]
theorem ordE_eq(c:a.length=b.length)(h:ordE a b=0):a=b:=by
 unfold ordE at h;split at h
 · exact List.reverse_inj.1 (OR (by simpa using c) h)
 · rename_i d;exact absurd (cmpI_zero.1 h) d
theorem ordE_anti(a b:List Int):ordE b a = -ordE a b:=by
 unfold ordE;by_cases h:a.sum=b.sum
 · rw[fE h,fE h.symm];exact Kz _ _
 · rw[fl h,fl (fun x=>h x.symm)];exact MF
theorem ordE_trans(h1:0<ordE a b)(h2:0<ordE b c):0<ordE a c:=by
 unfold ordE at *
 by_cases e:a.sum=b.sum
 · rw[fE e]at h1;by_cases d:b.sum=c.sum
   · rw[fE d]at h2;rw[fE (e.trans d)];exact Je h1 h2
   · rw[fl d]at h2;rw[fl (fun h=>d (e.symm.trans h)),e];exact h2
 · rw[fl e]at h1;have f:=Du.1 h1;by_cases d:b.sum=c.sum
   · rw[fl (fun h=>e (h.trans d.symm)),<-d];exact h1
   · rw[fl d]at h2;have g:=Du.1 h2;rw[fl (by omega)];exact Du.2 (by omega)
structure Canon(n:Nat)(l:List Tm):Prop where
 len:∀ t∈l,t.1.length=n
 nz:∀ t∈l,t.2≠0
 desc:l.Pairwise (fun s t=>0<ordE s.1 t.1)
theorem Canon.nil(n:Nat):Canon n []:=⟨by simp,by simp,List.Pairwise.nil⟩
theorem Canon.tail{t:Tm}{r:List Tm}(h:Canon n (t :: r)):Canon n r :=
 ⟨fun s a=>h.len s (by simp[a]),fun s a=>h.nz s (by simp[a]),(gI.1 h.desc).2⟩
theorem coef_absent{l:List Tm}(h:∀ t∈l,t.1≠e):coef l e=0:=by
 induction l with
 | nil=>rfl
 | cons t r ih =>
  simp only[coef,fl (h t (by simp)),ih (fun s a=>h s (by simp[a]))]
  grind
theorem coef_present{l:List Tm}(h:coef l e≠0):∃ t∈l,t.1=e:=by
 refine fk fun a=>h (coef_absent fun t b he=>a ⟨t,b,he⟩)
theorem Canon.head{t:Tm}{r:List Tm}(h:Canon n (t :: r)):coef (t :: r) t.1=t.2:=by
 have:coef r t.1=0:=coef_absent fun s a he=>by
  have:=(gI.1 h.desc).1 s a;rw[he,ordE_self]at this;omega
 simp only[coef,j0,this]
 grind
theorem Canon.above{t:Tm}{r:List Tm}(h:Canon n (t :: r)){e:List Int}(he:coef (t :: r) e≠0):e=t.1\/0<ordE t.1 e:=by
 obtain⟨s,a,rfl⟩:=coef_present he;rcases fS.1 a with rfl|a
 · exact Or.inl rfl
 · exact Or.inr ((gI.1 h.desc).1 s a)
theorem canon_ext{n:Nat}:∀ {a b:List Tm},Canon n a->Canon n b->(∀ e,coef a e=coef b e)->a=b
 | [],[],_,_,_=>rfl
 | [],t :: r,_,hb,e=>by
  have h1:=hb.head;rw[<-e]at h1;exact absurd h1.symm (hb.nz t (by simp))
 | t :: r,[],ha,_,e=>by
  have h1:=ha.head;rw[e]at h1;exact absurd h1.symm (ha.nz t (by simp))
 | s :: a,t :: b,ha,hb,e=>by
  have h1:=ha.head;have h2:=hb.head;have i:coef (t :: b) s.1≠0:=by rw[<-e,h1];exact ha.nz s (by simp)
  have j:coef (s :: a) t.1≠0:=by rw[e,h2];exact hb.nz t (by simp)
  have f:s.1=t.1:=by
   rcases hb.above i with h|h
   · exact h
   · rcases ha.above j with d | d
     · exact d.symm
     · have:=ordE_anti s.1 t.1;omega
  have g:s.2=t.2:=by rw[<-h1,<-h2,e,f]
  have c:s=t:=Prod.ext f g;subst c
  rw[canon_ext ha.tail hb.tail (fun x=>by
   have:=e x;simp only[coef]at this
   grind)]
theorem JE(a b:Rat):(a*b).num=a.num.tdiv (a.num.natAbs.gcd b.den:Nat)*b.num.tdiv (b.num.natAbs.gcd a.den:Nat)/\(a*b).den=a.den/(b.num.natAbs.gcd a.den)*(b.den/(a.num.natAbs.gcd b.den)):=by
 have h:a*b=Rat.mul a b:=rfl;rw[h,Rat.mul];simp only[Int.divExact_eq_tdiv,Nat.divExact_eq_div,and_self]
theorem rat_mul_whole(a b:Rat)(c:a.den=1)(d:b.den=1):(a*b).num=a.num*b.num/\(a*b).den=1:=by
 have:=JE a b;rw[c,d]at this;simpa using this
theorem rat_eq_mk{n:Int}(a:d≠0)(b:n.natAbs.Coprime d)(h:q=mkRat n d):q.num=n/\q.den=d:=by
 rw[h,Rat.num_mkRat,Rat.den_mkRat,fl a,fl a];have h1:d.gcd n.natAbs=1:=by rw[iX];exact b
 simp[h1]
theorem rat_num_den_zero:q.num=0<->q=0:=Rat.num_eq_zero
theorem rat_frac{n:Int}(a:d≠0):(mkRat n d).num=n.tdiv (n.natAbs.gcd d:Nat)/\(mkRat n d).den=d/(n.natAbs.gcd d):=by
 rw[Rat.num_mkRat,Rat.den_mkRat,fl a,fl a,iX];refine⟨?_,rfl⟩;have h:((n.natAbs.gcd d:Nat):Int)∣n:=by
  have:=jh n.natAbs d;exact Int.ofNat_dvd_left.2 this
 exact(Int.tdiv_eq_ediv_of_dvd h).symm
def GO(m:List Int):Rat->List Tm->Rat
 | c,[]=>c
 | c,t :: r=>if m=t.1 then GO m (c+t.2) r else c
def CR(m:List Int):List Tm->List Tm
 | []=>[]
 | t :: r=>if m=t.1 then CR m r else t :: r
theorem CL(m:List Int):∀ l:List Tm,(CR m l).length<=l.length
 | []=>lrf _
 | t :: r=>by
  unfold CR;split
  · have:=CL m r;simp;omega
  · exact lrf _
def grp(l:List Tm):List Tm :=
 match l with
 | []=>[]
 | t :: r=>(if GO t.1 t.2 r=0 then []else [(t.1,GO t.1 t.2 r)]) ++ grp (CR t.1 r)
termination_by l.length
decreasing_by
 have:=CL t.1 r;simp;omega
theorem D0:grp []=[]:=by rw[grp]
theorem Gn(t:Tm)(r:List Tm):grp (t :: r)=(if GO t.1 t.2 r=0 then []else [(t.1,GO t.1 t.2 r)]) ++ grp (CR t.1 r):=by rw[grp]
theorem MG(m:List Int):∀ (c:Rat) (l:List Tm) (e:List Int),(if m=e then c else 0)+coef l e=(if m=e then GO m c l else 0)+coef (CR m l) e
 | c,[],e=>rfl
 | c,t :: r,e=>by
  by_cases h:m=t.1
  · simp only[coef,GO,CR,fE h];rw[<-MG m (c+t.2) r e,<-h];by_cases he:m=e <;> simp[he] <;> grind
  · simp only[GO,CR,fl h]
theorem MH:∀ (n:Nat) (l:List Tm),l.length<=n->∀ e,coef (grp l) e=coef l e
 | 0,l,h,e=>by
  have:l=[]:=fa (by omega);subst this;rw[D0]
 | n+1,[],_,e=>by rw[D0]
 | n+1,t :: r,h,e=>by
  have h1:=CL t.1 r;rw[Gn,coef_app,MH n (CR t.1 r) (by simp at h;omega) e];have h2:=MG t.1 t.2 r e;simp only[coef];rw[h2];congr 1;split
  · rename_i h0;rw[h0];simp[coef]
  · simp only[coef];grind
theorem Jf(m:List Int):∀ (l:List Tm) (t:Tm),t∈CR m l->t∈l
 | [],t,h=>h
 | s :: r,t,h=>by
  unfold CR at h;split at h
  · exact fX _ (Jf m r t h)
  · exact h
theorem OS:∀ (n:Nat) (l:List Tm),l.length<=n->∀ t∈grp l,∃ s∈l,s.1=t.1
 | 0,l,h,t,ht=>by
  have:l=[]:=fa (by omega);subst this;rw[D0]at ht;exact absurd ht (by simp)
 | n+1,[],_,t,ht=>by rw[D0]at ht;exact absurd ht (by simp)
 | n+1,s :: r,h,t,ht=>by
  have h1:=CL s.1 r;rw[Gn]at ht;rcases fo.1 ht with ht|ht
  · split at ht
    · exact absurd ht (by simp)
    · simp only[eV]at ht;subst ht;exact⟨s,by simp,rfl⟩
  · obtain⟨b,a,e⟩:=OS n (CR s.1 r) (by simp at h;omega) t ht;exact⟨b,fX _ (Jf _ _ _ a),e⟩
def desc(l:List Tm):Prop:=l.Pairwise (fun s t=>0<=ordE s.1 t.1)
theorem KA(m:List Int):∀ l:List Tm,desc l->desc (CR m l)
 | [],h=>h
 | t :: r,h=>by
  unfold CR;split
  · exact KA m r (gI.1 h).2
  · exact h
theorem Jg{n:Nat}(m:List Int)(b:m.length=n):∀ l:List Tm,(∀ t∈l,t.1.length=n)->(∀ t∈l,0<=ordE m t.1)->desc l->∀ t∈CR m l,0<ordE m t.1
 | [],_,_,_,t,ht=>absurd ht (by simp[CR])
 | s :: r,hl,h,hd,t,ht=>by
  unfold CR at ht;by_cases e:m=s.1
  · rw[fE e]at ht;exact Jg m b r (fun x a=>hl x (by simp[a])) (fun x a=>h x (by simp[a])) (gI.1 hd).2 t ht
  · rw[fl e]at ht;have h0:0<ordE m s.1:=by
     have h1:=h s (by simp);have h2:ordE m s.1≠0:=fun h0=>e (ordE_eq (by rw[b,hl s (by simp)]) h0);omega
    rcases fS.1 ht with rfl|ht
    · exact h0
    · have h3:=(gI.1 hd).1 t ht;by_cases h4:ordE s.1 t.1=0
      · rw[<-ordE_eq (by rw[hl s (by simp),hl t (by simp[ht])]) h4];exact h0
      · exact ordE_trans h0 (by omega)
theorem KB{n:Nat}:∀ (k:Nat) (l:List Tm),l.length<=k->(∀ t∈l,t.1.length=n)->desc l->Canon n (grp l)
 | 0,l,h,_,_=>by
  have:l=[]:=fa (by omega);subst this;rw[D0];exact Canon.nil n
 | k+1,[],_,_,_=>by rw[D0];exact Canon.nil n
 | k+1,t :: r,h,hl,hd=>by
  have h1:=CL t.1 r;have b:=gI.1 hd;have d:∀ s∈CR t.1 r,s.1.length=n:=fun s a=>hl s (fX _ (Jf _ _ _ a));have c:=KB k (CR t.1 r) (by simp at h;omega) d (KA t.1 r b.2);rw[Gn];split
  · exact c
  · rename_i g;refine⟨?_,?_,?_⟩
    · intro s a;rcases fS.1 a with rfl|a
      · exact hl t (by simp)
      · exact c.len s a
    · intro s a;rcases fS.1 a with rfl|a
      · exact g
      · exact c.nz s a
    · refine gI.2 ⟨fun s a => ?_,c.desc⟩;obtain⟨j,f,e⟩:=OS _ _ (lrf _) s a;rw[<-e];exact Jg t.1 (hl t (by simp)) r (fun x i=>hl x (by simp[i])) b.1 b.2 j f
theorem canon_of_sorted{l:List Tm}(c:∀ t∈l,t.1.length=n)(f:∀ t∈l,t.2≠0)(g:desc l)(i:(l.map (·.1)).Nodup):Canon n l:=by
 refine⟨c,f,?_⟩
 induction l with
 | nil=>exact List.Pairwise.nil
 | cons t r ih =>
  have a:=gI.1 g;have b:=iH.1 i;refine gI.2 ⟨fun s d => ?_,ih (fun x e=>c x (by simp[e])) (fun x e=>f x (by simp[e])) a.2 b.2⟩;have h1:=a.1 s d
  have h2:ordE t.1 s.1≠0:=fun h0=>b.1 (by
   show t.1∈_;rw[ordE_eq (by rw[c t (by simp),c s (by simp[d])]) h0]
   exact gn d)
  omega
end Go.Proofs.YthdbingomfdeoaaGreatDoor.Pl
namespace Go.Proofs.YthdbingomfdeoaaGreatDoor.Pl
variable {n:Int} {e:List Int} {a b d:Nat} {p q:Rat}
theorem RS{l:List Tm}(h:e ∉ l.map (·.1)):coef l e=0:=coef_absent fun t a he=>h (by rw[<-he];exact gn a)
theorem nodup_le{a:Type}[BEq a][LawfulBEq a]:∀ (L M:List a),L.Nodup->(∀ x∈L,x∈M)->L.length<=M.length
 | [],_,_,_=>by simp
 | x :: L,M,hn,hs=>by
  rw[iH]at hn;have hx:x∈M:=hs x (by simp);have:=nodup_le L (M.erase x) hn.2 (fun y b=>(List.mem_erase_of_ne (by rintro rfl;exact hn.1 b)).2 (hs y (by simp[b])));rw[List.length_erase_of_mem hx]at this;have:0<M.length:=j4 hx;simp only[fW];omega
structure Nrm(l:List Tm):Prop where
 len:∀ t∈l,t.1.length=6
 nz:∀ t∈l,t.2≠0
 nodup:(l.map (·.1)).Nodup
theorem Nrm.nil:Nrm []:=⟨by simp,by simp,by simp⟩
theorem Nrm.perm{a b:List Tm}(h:Nrm a)(p:a.Perm b):Nrm b :=
 ⟨fun t c=>h.len t (p.mem_iff.2 c),fun t c=>h.nz t (p.mem_iff.2 c),(p.map _).nodup_iff.1 h.nodup⟩
theorem Nrm.filter{l:List Tm}(h6:∀ t∈l,t.1.length=6)(b:(l.map (·.1)).Nodup):Nrm (l.filter (fun t=>decide (t.2≠0))):=by
 refine⟨fun t a=>h6 t (jc.1 a).1,fun t a => ?_,?_⟩
 · have:=(jc.1 a).2;simpa using this
 · exact List.Nodup.sublist (List.Sublist.map _ List.filter_sublist) b
theorem coef_nz(l:List Tm)(e:List Int):coef (l.filter (fun t=>decide (t.2≠0))) e=coef l e:=by
 induction l with
 | nil=>rfl
 | cons t r ih =>
  by_cases h:t.2=0
  · rw[List.filter_cons_of_neg (by simpa using h),ih];simp only[coef,h]
    grind
  · rw[List.filter_cons_of_pos (by simpa using h)];simp only[coef,ih]
def RB(b:Nat)(q:Rat):Prop:=q.num.natAbs<P2 b/\q.den<P2 b
theorem RB.mono(h:RB a q)(c:a<=b):RB b q:=⟨AO h.1 c,AO h.2 c⟩
theorem RB.zero(h:1<=b):RB b 0:=⟨RM b,AO (a:=1) (by decide) h⟩
theorem mkRat_le(a:d≠0):(mkRat n d).num.natAbs<=n.natAbs/\(mkRat n d).den<=d:=by
 obtain⟨h1,h2⟩:=rat_frac (n:=n) a;rw[h1,h2];refine⟨?_,gh _ _⟩;rw[Int.natAbs_tdiv];exact gh _ _
theorem RB.add(hp:RB a p)(c:RB b q):RB (a+b+1) (p+q):=by
 have h:p+q=mkRat (p.num*q.den+q.num*p.den) (p.den*q.den):=Rat.add_def' p q;obtain⟨h1,h2⟩:=mkRat_le (n:=p.num*q.den+q.num*p.den) (d:=p.den*q.den) (Nat.mul_ne_zero p.den_nz q.den_nz);rw[h];constructor
 · refine fU h1 ?_;have e:(p.num*(q.den:Int)).natAbs<P2 (a+b):=by rw[iD];exact DY hp.1 c.2
   have f:(q.num*(p.den:Int)).natAbs<P2 (a+b):=by rw[iD,ie];exact DY c.1 hp.2
   exact fU (lr _ _) (RO e f)
 · exact AO (fU h2 (DY hp.2 c.2)) (by omega)
theorem RB.mul(hp:RB a p)(c:RB b q):RB (a+b) (p*q):=by
 have h:p*q=mkRat (p.num*q.num) (p.den*q.den):=Rat.mul_def' p q;obtain⟨h1,h2⟩:=mkRat_le (n:=p.num*q.num) (d:=p.den*q.den) (Nat.mul_ne_zero p.den_nz q.den_nz);rw[h];constructor
 · refine fU h1 ?_;rw[iD];exact DY hp.1 c.1
 · exact fU h2 (DY hp.2 c.2)
theorem RB.neg(hp:RB a p):RB a (-p):=⟨by rw[show(-p).num = -p.num from rfl,jj];exact hp.1,hp.2⟩
theorem RB.coef{b:Nat}(a:1<=b)(e:List Int):∀ {l:List Tm},(∀ t∈l,RB b t.2)->RB (l.length*(b+1)+1) (coef l e)
 | [],_=>RB.zero (by omega)
 | t :: r,h=>by
  have h1:RB b (if t.1=e then t.2 else 0):=by
   split
   · exact h t (by simp)
   · exact RB.zero a
  have h2:=RB.add h1 (RB.coef a e (l:=r) (fun s c=>h s (by simp[c])));refine h2.mono ?_;simp only[fW,gA];omega
end Go.Proofs.YthdbingomfdeoaaGreatDoor.Pl
namespace Go.Proofs.YthdbingomfdeoaaGreatDoor
open Go Go.RowKit
variable {f:Act} {ops:Array Oper} {s t:ByteArray} {Q:Exit->Act->World->Prop} {rest:List Oper} {l:List UInt8} {c n:Nat} {o:Oper} {x:Operand} {a:Option Addr} {dst e src:TypeId}
theorem RT{a:Nat}(h:1<=a):1<P2 a:=by
 obtain⟨b,rfl⟩:∃ b,a=b+1:=⟨a-1,by omega⟩;have:=RM b;rw[DX];show 1<P2 b*2;omega
def AA(b:UInt8):Value := .int .u8 (b.toNat:Int)
def Ad(s:ByteArray):List UInt8:=s.data.toList
theorem Al(s:ByteArray):(Ad s).length=s.size:=by unfold Ad;rw[Array.length_toList];rfl
theorem BS(l:List UInt8):Ad ⟨l.toArray⟩=l:=rfl
theorem De(h:Ad s=Ad t):s=t:=by
 cases s with | mk a=>cases t with | mk b =>
 unfold Ad at h;simp only at h;have:=m8 h;rw[this]
theorem AH(s:ByteArray)(i j:Nat):Ad (s.extract i j)=((Ad s).drop i).take (j-i):=by
 unfold Ad;rw[ByteArray.data_extract,Array.toList_extract]
section
variable {P:Program} {w:World}
theorem MI{u:TypeDesc}(j:P.underlying src=some u)(d:P.underlying dst=some (.slice e))(he:P.underlying e=some (.int .u8))(g:s.size<=maxLen) :
 ∃ c a,(convert src dst (.string s)).run P w = .ok (.slice (some ⟨w.heap.size,0,none⟩) s.size c) a/\Ext w a/\Sl a (some ⟨w.heap.size,0,none⟩) s.size c ((Ad s).map AA):=by
 refine⟨_,_,Lib.run_convert_string_bytes w src dst e s j d he,?_,?_⟩
 · refine⟨rfl,rfl,rfl,by rw[Lib.bytesWorld_size];omega,fun k f=>Lib.bytesWorld_at_old w e s k f⟩
 · refine⟨by rw[ft,Al],grownCap_ge w s.size 0 e,grownCap_le_maxLen w s.size 0 e g,fun _=>⟨w.heap.size,0,rfl,fun i b => ?_⟩⟩;rw[fP,Lib.bytesWorld_cell w e s i b];have h1:i<(Ad s).length:=by rw[Al];exact b
   have h2:s.data.toList.getD i 0=(Ad s)[i]:=by
    show(Ad s).getD i 0=_;rw[gqq,eQ h1];rfl
   rw[h2];simp[h1,AA]
theorem NP(g:o.guard=none)(l:o.op = .convert src dst x)
 {e:TypeId} {s:ByteArray} {u:TypeDesc} (m:P.underlying src=some u) (j:P.underlying dst=some (.slice e)) (he:P.underlying e=some (.int .u8)) (n:f.eval x = .string s) (k:s.size<=maxLen)
 (i:∀ c b,Ext w b->Sl b (some ⟨w.heap.size,0,none⟩) s.size c ((Ad s).map AA)->wpList P ops Q rest (f.put o.dst (.slice (some ⟨w.heap.size,0,none⟩) s.size c)) b):wpList P ops Q (o :: rest) f w:=by
 refine gu g fun K d => ?_;obtain⟨c,b,a,h2,h3⟩:=MI (P:=P) (w:=w) m j he k;unfold Oper.wp execOp;simp only[l,n,fq,a,eX,fO,Oper.upon];exact d _ _ (i c b h2 h3)
theorem JF(i:P.underlying src=some (.slice e))(he:P.underlying e=some (.int .u8))(f:P.underlying dst=some .string)(d:Sl w a n c (l.map AA)) :
 (convert src dst (.slice a n c)).run P w = .ok (.string ⟨l.toArray⟩) w:=by
 have m:n=l.length:=by have:=d.len;simpa using this.symm
 subst m;cases a with
 | none =>
  have h0:l=[]:=by
   rcases fj l.length with h|h
   · exact fa h
   · obtain⟨b,o,h1,_⟩:=d.rd h;cases h1
  subst h0;show(convert src dst (.slice none 0 c)).run P w=_;rw[run_convert_bytes_string w src dst e none 0 c i he f];simp[Conv.bytesToString];rfl
 | some ad =>
  refine run_convert_bytes_back w src dst e ad c l i he f fun j g => ?_;obtain⟨b,o,h1,k⟩:=d.rd (by omega);simp only[fc]at h1;subst h1;have h2:=k j g;have h3:(l.map AA).getD j undef = .int .u8 (l[j].toNat:Int):=by simp[g,AA]
  rw[h3]at h2;rw[<-h2];unfold Addr.add;by_cases h0:j=0 <;> simp[h0]
theorem D4(g:o.guard=none)(m:o.op = .convert src dst x)
 {e:TypeId} {a:Option Addr} {n c:Nat} {l:List UInt8} (p:P.underlying src=some (.slice e)) (he:P.underlying e=some (.int .u8)) (j:P.underlying dst=some .string) (q:f.eval x = .slice a n c) (k:Sl w a n c (l.map AA))
 (i:wpList P ops Q rest (f.put o.dst (.string ⟨l.toArray⟩)) w):wpList P ops Q (o :: rest) f w:=by
 refine gu g fun K d => ?_;have b:=JF (P:=P) (w:=w) p he j k;unfold Oper.wp execOp;simp only[m,q,fq,b,eX,fO,Oper.upon];exact d _ _ i
end
end Go.Proofs.YthdbingomfdeoaaGreatDoor
