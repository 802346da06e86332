/- Part Py5. -/
import Derived.Test.YtlbmnokpiilfpaaGreatDoorPy4
import Derived.Shelf.Lays
import Derived.Test.YtlbmnokpiilfpaaGreatDoorProg
import Derived.WalkKit
set_option linter.all false
set_option maxRecDepth 100000
set_option maxHeartbeats 100000000
namespace Go.Proofs.YtlbmnokpiilfpaaGreatDoor
open Tryz Go Go.RowKit
def iC:=@List.pairwise_cons
def jl:=@List.mem_map_of_mem
def kH:=@Nat.div_one
def kS:=@List.nodup_cons
def kW:=@List.ext_getElem?
def ki:=@Int.natAbs_neg
def l9:=@List.getElem?_cons_succ
def lA:=@Prod.mk.injEq
def lB:=@List.getElem?_set
def mG:=@Nat.mul_div_assoc
def mH:=@Int.natAbs_add_le
def mO:=@Nat.gcd_pos_of_pos_left
def mU:=@List.length_pos_of_mem
def mW:=@Nat.mul_ne_zero
def mY:=@List.mem_iff_getElem?
def mn:=@List.mem_filter
def mw:=@Nat.sub_zero
def nM:=@decide_false
def nf:=@Int.tdiv_one
def ni:=@Array.getElem?_setIfInBounds_self_of_lt
def oE:=@List.nodup_append
def oG:=@Array.ext'
def od:=@Option.map_none
def om:=@Int.natAbs_tdiv
def p6:=@List.ext_getElem
def pb:=@decide_eq_false
def pe:=@Int.natAbs_natCast
variable {s t:Bool} {y z:Int} {x:Nat} {v v':Value} {w w':World}
theorem Sn(a:decide (z<0)=s)(b:decide (y<0)=s):z+y=if s=true then -((z.natAbs+y.natAbs:Nat):Int)else((z.natAbs+y.natAbs:Nat):Int):=by
 subst a;by_cases h1:z<0 <;> by_cases h2:y<0 <;> simp[h1,h2]at b |- <;> omega
theorem Ps(c:decide (z<0)=s)(d:decide (y<0)=t)(a:s≠t)(b:y.natAbs<=z.natAbs):z+y=if s=true then -((z.natAbs-y.natAbs:Nat):Int)else((z.natAbs-y.natAbs:Nat):Int):=by
 subst c;subst d;by_cases h1:z<0 <;> by_cases h2:y<0 <;> simp[h1,h2]at a |- <;> omega
theorem Pu(c:decide (z<0)=s)(d:decide (y<0)=t)(a:s≠t)(b:z.natAbs<y.natAbs):z+y=if t=true then -((y.natAbs-z.natAbs:Nat):Int)else((y.natAbs-z.natAbs:Nat):Int):=by
 subst c;subst d;by_cases h1:z<0 <;> by_cases h2:y<0 <;> simp[h1,h2]at a |- <;> omega
theorem Cx{y:Nat}:0<=AW (x:Int) (y:Int)<->y<=x:=by
 unfold AW;split
 · omega
 · split <;> omega
theorem IF(h:AD w v z)(h':AD w v' y)(bz:z.natAbs<P2 9600)(O:y.natAbs<P2 9600):Calls prog 208 #[v,v'] w (D8 w (z+y)):=by
 obtain⟨s,a,n,c,rfl,HS,hx⟩:=h;obtain⟨t,b,m,d,rfl,HT,hy⟩:=h';have ae:=fun(g:World) (f:Ext w g)=>qh (VU (hx.ext f) (hy.ext f) bz O);have ag:=fun(g:World) (f:Ext w g) (x:y.natAbs<=z.natAbs)=>qh (Uk (hx.ext f) (hy.ext f) bz x);have ah:=fun(g:World) (f:Ext w g) (x:z.natAbs<=y.natAbs)=>qh (Uk (hy.ext f) (hx.ext f) O x);have af:=fun(g:World) (f:Ext w g)=>qh (Ul (hx.ext f) (hy.ext f));clear bz O
 go_enter func208,ntmps208
 go_upto_region 1 with(fail)
 refine CR ?_;intro w0 L a0 a3 ai al;have a6:=a0.c 0 rfl;have a7:=a0.c 1 rfl;have a8:=a3.c 0 rfl;have a9:=a3.c 1 rfl;have hR:Arr w0 (w.heap.size+2) 83 (Ab false none 0 0):=ai;clear al;by_cases N:s=t
 · subst N;have aj:(s == s)=true:=by simp
   go_wp2;have Q:=fun(g:World) (f:Ext w0 g)=>qh (And.intro (f.cell a6) (And.intro (f.cell a7) (And.intro (f.cell a8) (f.cell a9))))
   refine Ac
    [hdP w.heap.size 0,hdB s,hdP w.heap.size 1,hdS a n c,hdP (w.heap.size+1) 1,hdS b m d,hp (fun v g=>∃ i k j,v = .slice i k j/\Wd g i k j (z.natAbs+y.natAbs)),hp (fun v g=>∃ p i k j,v = .agg (Ab p i k j).toArray/\Hid (decide (z+y<0)=p)/\Wd g i k j (z+y).natAbs)]
    ⟨fun v w K e ⟨i,k,j,h1,h2⟩=>⟨i,k,j,h1,h2.ext e⟩,fun v w K e ⟨p,i,k,j,h1,h2,h3⟩=>⟨p,i,k,j,h1,h2,h3.ext e⟩,trivial⟩ ⟨?o0,?o1,?o2,?o3,?o4,?o5,?o6,?o7,trivial⟩ ?fin
   case o0=>exact ofa (d:=0)
   case o1 | o3 | o5=>exact ol
   case o2 | o4=>exact ofa (d:=1)
   case o6 =>
    refine Ae rfl fun ρ g f r C h => ?_;have Y:_=_:=h.2.1;have Z:_=_:=h.2.2.1;obtain⟨G,H,I,J⟩:=(Q g f).out;refine⟨255,#[.slice a n c,.slice b m d],by go_simp,((ae g (L.trans f)).out).mono ?_⟩;rintro e K ⟨i,k,j,rfl,l,o⟩;exact⟨_,rfl,l,i,k,j,rfl,o⟩
   case o7 =>
    refine Ae rfl fun ρ g f r C h => ?_;have Y:_=_:=h.2.1;obtain⟨v2,Z,U,n2,W,rfl,X⟩:=h.2.2.1;obtain⟨G,H,I,J⟩:=(Q g f).out;refine⟨203,#[.bool s,.slice U n2 W],by go_simp,(Bw X (z:=z+y) (Sn HS.out HT.out)).mono ?_⟩;rintro e K ⟨p,i,k,j,rfl,l,E,o⟩;exact⟨_,rfl,l,p,i,k,j,rfl,E,o⟩
   case fin =>
    intro g f;rintro _ ⟨_,_,_,rfl,_⟩;rintro _ ⟨s1,T,n1,V,rfl,A,F⟩;change wpList _ _ _ _ _ _;simp only[A0];have q:=hR.ext f
    go_wp2_with(refine Aa (vs:=Ab s1 T n1 V) rfl rfl rfl rfl rfl Ak q rfl (Ad _ _ _ _) ?_;intro w9 B D)
    exact oM (Ai rfl Ak rfl B) rfl (Bn (L.trans f) q (At _ _ _ _) D (by omega) A F)
 · have aj:(s == t)=false:=by simpa using N
   go_wp2_with fail
   refine(af _ L).out.mono ?_;rintro e w1 ⟨rfl,P⟩;have M:=L.trans P.ext;have a4:=hR.ext P.ext;have aa:=P.ext.cell a6;have ab:=P.ext.cell a7;have ac:=P.ext.cell a8;have ad:=P.ext.cell a9;by_cases x:y.natAbs<=z.natAbs
   · have ak:(0:Int)<=AW (z.natAbs:Int) (y.natAbs:Int):=Cx.2 x;generalize AW (z.natAbs:Int) (y.natAbs:Int)=cv at *
     go_wp2;have R:=fun(g:World) (f:Ext w1 g)=>qh (And.intro (f.cell aa) (And.intro (f.cell ab) (And.intro (f.cell ac) (f.cell ad))))
     refine Ac
      [hdP w.heap.size 0,hdB s,hdP w.heap.size 1,hdS a n c,hdP (w.heap.size+1) 1,hdS b m d,hp (fun v g=>∃ i k j,v = .slice i k j/\Wd g i k j (z.natAbs-y.natAbs)),hp (fun v g=>∃ p i k j,v = .agg (Ab p i k j).toArray/\Hid (decide (z+y<0)=p)/\Wd g i k j (z+y).natAbs)]
      ⟨fun v w K e ⟨i,k,j,h1,h2⟩=>⟨i,k,j,h1,h2.ext e⟩,fun v w K e ⟨p,i,k,j,h1,h2,h3⟩=>⟨p,i,k,j,h1,h2,h3.ext e⟩,trivial⟩ ⟨?o0,?o1,?o2,?o3,?o4,?o5,?o6,?o7,trivial⟩ ?fin
     case o0=>exact ofa (d:=0)
     case o1 | o3 | o5=>exact ol
     case o2 | o4=>exact ofa (d:=1)
     case o6 =>
      refine Ae rfl fun ρ g f r C h => ?_;have Y:_=_:=h.2.1;have Z:_=_:=h.2.2.1;obtain⟨G,H,I,J⟩:=(R g f).out;refine⟨256,#[.slice a n c,.slice b m d],by go_simp,((ag g (M.trans f) x).out).mono ?_⟩;rintro e K ⟨i,k,j,rfl,l,o⟩;exact⟨_,rfl,l,i,k,j,rfl,o⟩
     case o7 =>
      refine Ae rfl fun ρ g f r C h => ?_;have Y:_=_:=h.2.1;obtain⟨v2,Z,U,n2,W,rfl,X⟩:=h.2.2.1;obtain⟨G,H,I,J⟩:=(R g f).out;refine⟨203,#[.bool s,.slice U n2 W],by go_simp,(Bw X (z:=z+y) (Ps HS.out HT.out N x)).mono ?_⟩;rintro e K ⟨p,i,k,j,rfl,l,E,o⟩;exact⟨_,rfl,l,p,i,k,j,rfl,E,o⟩
     case fin =>
      intro g f;rintro _ ⟨_,_,_,rfl,_⟩;rintro _ ⟨s1,T,n1,V,rfl,A,F⟩;change wpList _ _ _ _ _ _;simp only[A0];have q:=a4.ext f
      go_wp2_with(refine Aa (vs:=Ab s1 T n1 V) rfl rfl rfl rfl rfl Ak q rfl (Ad _ _ _ _) ?_;intro w9 B D)
      exact oM (Ai rfl Ak rfl B) rfl (Bn (M.trans f) q (At _ _ _ _) D (by omega) A F)
   · have ak:AW (z.natAbs:Int) (y.natAbs:Int)<0:=by have:=mt Cx.1 x;omega
     have a5:z.natAbs<y.natAbs:=by omega
     generalize AW (z.natAbs:Int) (y.natAbs:Int)=cv at *
     go_wp2;have S:=fun(g:World) (f:Ext w1 g)=>qh (And.intro (f.cell aa) (And.intro (f.cell ab) (And.intro (f.cell ac) (f.cell ad))))
     refine Ac
      [hdP (w.heap.size+1) 0,hdB t,hdP (w.heap.size+1) 1,hdS b m d,hdP w.heap.size 1,hdS a n c,hp (fun v g=>∃ i k j,v = .slice i k j/\Wd g i k j (y.natAbs-z.natAbs)),hp (fun v g=>∃ p i k j,v = .agg (Ab p i k j).toArray/\Hid (decide (z+y<0)=p)/\Wd g i k j (z+y).natAbs)]
      ⟨fun v w K e ⟨i,k,j,h1,h2⟩=>⟨i,k,j,h1,h2.ext e⟩,fun v w K e ⟨p,i,k,j,h1,h2,h3⟩=>⟨p,i,k,j,h1,h2,h3.ext e⟩,trivial⟩ ⟨?o0,?o1,?o2,?o3,?o4,?o5,?o6,?o7,trivial⟩ ?fin
     case o0=>exact ofa (d:=0)
     case o1 | o3 | o5=>exact ol
     case o2 | o4=>exact ofa (d:=1)
     case o6 =>
      refine Ae rfl fun ρ g f r C h => ?_;have Y:_=_:=h.2.1;have Z:_=_:=h.2.2.1;obtain⟨G,H,I,J⟩:=(S g f).out;refine⟨256,#[.slice b m d,.slice a n c],by go_simp,((ah g (M.trans f) (jc a5)).out).mono ?_⟩;rintro e K ⟨i,k,j,rfl,l,o⟩;exact⟨_,rfl,l,i,k,j,rfl,o⟩
     case o7 =>
      refine Ae rfl fun ρ g f r C h => ?_;have Y:_=_:=h.2.1;obtain⟨v2,Z,U,n2,W,rfl,X⟩:=h.2.2.1;obtain⟨G,H,I,J⟩:=(S g f).out;refine⟨203,#[.bool t,.slice U n2 W],by go_simp,(Bw X (z:=z+y) (Pu HS.out HT.out N a5)).mono ?_⟩;rintro e K ⟨p,i,k,j,rfl,l,E,o⟩;exact⟨_,rfl,l,p,i,k,j,rfl,E,o⟩
     case fin =>
      intro g f;rintro _ ⟨_,_,_,rfl,_⟩;rintro _ ⟨s1,T,n1,V,rfl,A,F⟩;change wpList _ _ _ _ _ _;simp only[A0];have q:=a4.ext f
      go_wp2_with(refine Aa (vs:=Ab s1 T n1 V) rfl rfl rfl rfl rfl Ak q rfl (Ad _ _ _ _) ?_;intro w9 B D)
      exact oM (Ai rfl Ak rfl B) rfl (Bn (M.trans f) q (At _ _ _ _) D (by omega) A F)
theorem JG(w:World)(cs cs':List Value)(t t':TypeId):Arr ((w.alloc (.cells cs.toArray t)).alloc (.cells cs'.toArray t')) w.heap.size t cs:=(Arr.new w t cs).alloc _
theorem JH(w:World)(cs cs':List Value)(t t':TypeId):Arr ((w.alloc (.cells cs.toArray t)).alloc (.cells cs'.toArray t')) (w.heap.size+1) t' cs':=by
 have:=Arr.new (w.alloc (.cells cs.toArray t)) t' cs';simpa using this
theorem VW(w:World)(o a:Obj):Ext w ((w.alloc o).alloc a):=((Ext.refl w).alloc o).alloc a
theorem So(c:decide (z<0)=s)(d:decide (y<0)=t):z.tdiv y=if(s != t)=true then -((z.natAbs/y.natAbs:Nat):Int)else((z.natAbs/y.natAbs:Nat):Int):=by
 subst c;subst d;have h0:∀ x:Int,x<0->x = -(x.natAbs:Int):=fun x h=>by omega
 have h1:∀ x:Int,¬ x<0->x=(x.natAbs:Int):=fun x h=>by omega
 by_cases b:z<0 <;> by_cases a:y<0 <;> simp only[b,a,mK,nM]
 · rw[h0 z b,h0 y a,Int.neg_tdiv_neg,ki,ki,pe,pe];simp
 · rw[h0 z b,h1 y a,Int.neg_tdiv,ki,pe,pe];simp
 · rw[h1 z b,h0 y a,Int.tdiv_neg,ki,pe,pe];simp
 · rw[h1 z b,h1 y a,pe,pe];simp
theorem Sp(b:decide (z<0)=s):z.tmod y=if s=true then -((z.natAbs%y.natAbs:Nat):Int)else((z.natAbs%y.natAbs:Nat):Int):=by
 subst b;have c:z.tmod y=z.tmod (y.natAbs:Int):=by
  rcases Int.natAbs_eq y with h|h
  · rw[<-h]
  · rw[h,Int.tmod_neg,ki,pe]
 rw[c];by_cases a:z<0
 · have h0:z = -(z.natAbs:Int):=by omega
   rw[h0,Int.neg_tmod];simp only[ki,pe];rw[<-h0,iJ (by omega)];simp[a]
 · have h0:z=(z.natAbs:Int):=by omega
   rw[h0];simp only[pe];rw[iJ (by omega),<-h0];simp[a];rw[<-h0]
def Sq(w:World)(z y:Int)(e:Ending)(w':World):Prop:=∃ s a n c s' a' n' c',e = .returned (.tuple #[.agg (Ab s a n c).toArray,.agg (Ab s' a' n' c').toArray])/\Ext w w'/\(Hid (decide (z<0)=s)/\Wd w' a n c z.natAbs)/\(Hid (decide (y<0)=s')/\Wd w' a' n' c' y.natAbs)
def Ox(w:World)(z y:Int)(e:Ending)(w':World):Prop:=∃ s a n c s' a' n' c',e = .returned (.tuple #[.agg (Ab s a n c).toArray,.agg (Ab s' a' n' c').toArray])/\Ext w w'/\(Hid (decide (z<0)=s)/\Wd w' a n c z.natAbs)/\(Hid (decide (y<0)=s')/\Wd w' a' n' c' y.natAbs)/\Ft w.heap.size (fun _=>False) a n
theorem Ox.plain{e:Ending}(h:Ox w z y e w'):Sq w z y e w':=by
 obtain⟨s,a,n,c,g,b,f,d,h1,h2,h3,h4,_⟩:=h;exact⟨s,a,n,c,g,b,f,d,h1,h2,h3,h4⟩
theorem M0(h:AD w v z)(h':AD w v' y)(bz:z.natAbs<P2 9600)(J:y.natAbs<P2 9600)(a6:y≠0):Calls prog 257 #[v,v'] w (Ox w (z.tdiv y) (z.tmod y)):=by
 obtain⟨s,a,n,c,rfl,HS,hx⟩:=h;obtain⟨t,b,m,d,rfl,HT,hy⟩:=h';have a1:=fun(i:World) (f:Ext w i)=>qh (Um (hx.ext f) (hy.ext f) bz J (by omega));have ac:((m:Int) == 0)=false:=by have:=hy.zero;simp;omega
 clear bz J a6
 go_enter func257,ntmps257
 go_upto_region 1 with(fail)
 refine TN ?_;intro w0 r K L U V a7;have a8:=K.c 0 rfl;have ad:=K.c 1 rfl;have a9:=L.c 0 rfl;have ae:=L.c 1 rfl;have hR:Arr w0 (w.heap.size+2) 83 (Ab false none 0 0):=U;have Z:Arr w0 (w.heap.size+3) 83 (Ab false none 0 0):=V;clear a7
 go_wp2_with fail
 refine(a1 _ r).out.mono ?_;rintro e w1 ⟨G,I,H,ra,rn,rc,rfl,k,hq,hr,O⟩;have P:=O.of r.size (fun _ h=>h.elim) (S':=fun _=>False);have Y:=r.trans k;have aa:=k.cell a8;have ab:=k.cell a9;go_wp2;have p:=fun(i:World) (f:Ext w1 i)=>qh (And.intro (f.cell aa) (f.cell ab))
 refine Ac
  [hdP w.heap.size 0,hdB s,hdP (w.heap.size+1) 0,hdB t,hdB (s != t),hdS G I H,hp (fun v i=>∃ j,v = .agg (Ab j G I H).toArray/\Hid (decide (z.tdiv y<0)=j)/\Wd i G I H (z.tdiv y).natAbs),hdP w.heap.size 0,hdB s,hdS ra rn rc,hp (fun v i=>∃ j D F E,v = .agg (Ab j D F E).toArray/\Hid (decide (z.tmod y<0)=j)/\Wd i D F E (z.tmod y).natAbs)]
  ⟨fun v w w' e ⟨j,h1,h2,h3⟩=>⟨j,h1,h2,h3.ext e⟩,fun v w w' e ⟨j,D,F,E,h1,h2,h3⟩=>⟨j,D,F,E,h1,h2,h3.ext e⟩,trivial⟩ ⟨?o0,?o1,?o2,?o3,?o4,?o5,?o6,?o7,?o8,?o9,?o10,trivial⟩ ?fin
 case o0 | o2 | o7=>exact ofa (d:=0)
 case o1 | o3 | o8=>exact ol
 case o5 | o9=>exact omv
 case o4 =>
  refine Ao rfl fun ρ i f o h => ?_;have e0:_=_:=h.1;have e1:_=_:=h.2.1;obtain⟨Q,R⟩:=(p i f).out;go_simp;cases s <;> cases t <;> rfl
 case o6 =>
  refine Ae rfl fun ρ i f o a3 h => ?_;have e1:_=_:=h.2.1;have e2:_=_:=h.2.2.1;obtain⟨Q,R⟩:=(p i f).out;refine⟨203,#[.bool (s != t),.slice G I H],by go_simp,(E0 (hq.ext f) (z:=z.tdiv y) (So HS.out HT.out)).mono ?_⟩;rintro e w' ⟨j,rfl,q,C,B⟩;exact⟨_,rfl,q,j,rfl,C,B⟩
 case o10 =>
  refine Ae rfl fun ρ i f o a3 h => ?_;have e1:_=_:=h.2.1;have e2:_=_:=h.2.2.1;obtain⟨Q,R⟩:=(p i f).out;refine⟨203,#[.bool s,.slice ra rn rc],by go_simp,(Bw (hr.ext f) (z:=z.tmod y) (Sp HS.out)).mono ?_⟩;rintro e w' ⟨j,D,F,E,rfl,q,C,B⟩;exact⟨_,rfl,q,j,D,F,E,rfl,C,B⟩
 case fin =>
  intro i f;rintro _ ⟨s1,rfl,S,a4⟩;rintro _ ⟨s2,a2,n2,c2,rfl,T,a5⟩;change wpList _ _ _ _ _ _;simp only[A0];have x:=(hR.ext k).ext f;have a0:=(Z.ext k).ext f
  go_wp2_with(first
   | (refine Aa (vs:=Ab s1 G I H) rfl rfl rfl rfl rfl Ak x rfl (Ad _ _ _ _) ?_;intro w9 W l;have A:=a0.kept l (by simp))
   | (refine Aa (vs:=Ab s2 a2 n2 c2) rfl rfl rfl rfl rfl Ak A rfl (Ad _ _ _ _) ?_;intro af M g))
  have N:=W.kept g (by simp);have X:=((Y.trans f).grownR l (by omega)).grownR g (by omega);exact oM (LO rfl Ak Ak rfl rfl N M) rfl ⟨s1,G,I,H,s2,a2,n2,c2,rfl,X,⟨S,(a4.kept x (At _ _ _ _) l).kept A (At _ _ _ _) g⟩,⟨T,(a5.kept x (At _ _ _ _) l).kept A (At _ _ _ _) g⟩,P⟩
theorem M1{S:Nat->Prop}(h:AD w v z)(O:AD w v' y)(bz:z.natAbs<P2 9600)(p:y.natAbs<P2 9600)(K:y≠0)(hS:Hb S v):Calls prog 209 #[v,v'] w (JB w S (z.tdiv y)):=by
 have W:=fun(wx:World) (L:Ext w wx)=>qh (M0 (h.ext L) (O.ext L) bz p K);have V:=fun(wx:World) (L:Ext w wx)=>qh (Cw (r:=decide (y=1)) (O.ext L) rfl);clear bz p;obtain⟨s,a,n,c,rfl,HS,hx⟩:=h;obtain⟨t,b,m,d,rfl,HT,hy⟩:=O
 go_enter func209,ntmps209
 go_upto_region 1 with(fail)
 refine CR ?_;intro w0 B q x P Z;have a0:=q.c 0 rfl;have a3:=q.c 1 rfl;have a4:=x.c 0 rfl;have a5:=x.c 1 rfl;have hR:Arr w0 (w.heap.size+2) 83 (Ab false none 0 0):=P;clear Z K
 go_wp2_with fail
 refine(V _ B).out.mono ?_;rintro e w1 ⟨rfl,f⟩;have i:=B.trans f;have a6:=f.cell a0;have a7:=f.cell a3;have a8:=f.cell a4;have a9:=f.cell a5;have l:=hR.ext f;by_cases h1:y=1
 · have G:decide (y=1)=true:=by simpa using h1
   have HV:Hid (z.tdiv y=z):=by show _=_;rw[h1,nf]
   rw[G];clear G h1
   go_wp2_with(refine Aa (vs:=Ab s a n c) rfl rfl rfl rfl rfl Ak l rfl (Ad _ _ _ _) ?_;intro w9 j o)
   refine oM (Ai rfl Ak rfl j) rfl ?_;rw[HV.out];exact E6 i l (At _ _ _ _) o (by omega) HS (hx.ext i) (fun h0 g hg=>Or.inr (hS.at h0 g hg))
 · have G:decide (y=1)=false:=by simpa using h1
   rw[G];clear G h1
   go_wp2_with fail
   refine(W _ i).out.mono ?_;rintro e M ⟨s1,a1,n1,c1,s2,a2,n2,c2,rfl,C,⟨N,X⟩,_,J⟩;have D:=l.ext C;have aa:=D.lt;clear a6 a7 a8 a9;have F:=JG M (Ab false none 0 0) (Ab false none 0 0) 83 83;have T:=JH M (Ab false none 0 0) (Ab false none 0 0) 83 83;have R:=VW M (.cells (Ab false none 0 0).toArray 83) (.cells (Ab false none 0 0).toArray 83)
   go_upto_region 4 with(first
    | (refine Aa (vs:=Ab s1 a1 n1 c1) rfl rfl rfl rfl rfl Ak F rfl (Ad _ _ _ _) ?_;intro w3 Q H;have U:=T.kept H (by simp);clear F)
    | (refine Aa (vs:=Ab s2 a2 n2 c2) rfl rfl rfl rfl rfl Ak U rfl (Ad _ _ _ _) ?_;intro w4 ab I))
   have k:Ext M w4:=((R.grownR H (lrf _)).grownR I (by omega));have A:=Q.kept I (by simp);have E:=D.ext k;have Y:=X.ext k;have q0:=A.c 0 rfl;have q1:=A.c 1 rfl
   go_wp2_with(refine Aa (vs:=Ab s1 a1 n1 c1) rfl rfl rfl rfl rfl Ak E rfl (Ad _ _ _ _) ?_;intro w9 j o)
   exact oM (Ai rfl Ak rfl j) rfl (E6 ((i.trans C).trans k) E (At _ _ _ _) o (by omega) N Y (J.of i.size (fun _ h=>h.elim)))
theorem DG(h:AD w v z)(d:AD w v' y)(c:z.natAbs<P2 9600)(a:y.natAbs<P2 9600)(b:y≠0):Calls prog 209 #[v,v'] w (D8 w (z.tdiv y)) :=
 (M1 (S:=fun _=>True) h d c a b (fun _ _ _ _ _ _ _ _=>trivial)).mono fun _ _ h=>h.plain
theorem QF(h:AD w v z)(G:AD w v' y){r:Bool}(o:decide (z=y)=r):Calls prog 261 #[v,v'] w fun e L=>e = .returned (.bool r)/\Ext w L:=by
 obtain⟨s,a,n,c,rfl,C,J⟩:=h;obtain⟨t,b,m,d,rfl,D,K⟩:=G;by_cases j:s=t
 · subst j;have p:(s == s)=true:=by simp
   have l:=fun(N:World) (E:Ext w N)=>qh (Ul (J.ext E) (K.ext E));have I:(AW (z.natAbs:Int) (y.natAbs:Int) == 0)=r:=by
    rw[<-o,oq];have h1:=C.out;have h2:=D.out;have h3:AW (z.natAbs:Int) (y.natAbs:Int)=0<->z.natAbs=y.natAbs:=by
     unfold AW;split
     · omega
     · split <;> omega
    simp only[nj,h3,jP];cases s <;> simp at h1 h2 <;> omega
   clear o
   go_enter func261,ntmps261
   go_upto_region 1 with(fail)
   refine Ch ?_;intro M i f g k;have q:=f.c 0 rfl;have x:=f.c 1 rfl;have A:=g.c 0 rfl;have B:=g.c 1 rfl;clear k
   go_wp2_with fail
   refine(l _ i).out.mono ?_;rintro e P ⟨rfl,H⟩;generalize AW (z.natAbs:Int) (y.natAbs:Int)=O at *
   go_wp2;go_ret;exact⟨rfl,i.trans H.ext⟩
 · have p:(s == t)=false:=by simpa using j
   have F:Hid (r=false):=by
    show _=_;rw[<-o];have h1:=C.out;have h2:=D.out;simp only[decide_eq_false_iff_not];intro h3;subst h3;exact j (h1.symm.trans h2)
   clear o j
   go_enter func261,ntmps261
   go_upto_region 1 with(fail)
   refine Ch ?_;intro M i f g k;have q:=f.c 0 rfl;have x:=f.c 1 rfl;have A:=g.c 0 rfl;have B:=g.c 1 rfl;clear k;go_wp2;go_ret;exact⟨by rw[F.out];rfl,i⟩
theorem TQ(hT:AV w)(h:AD w v z)(h':AD w v' y)(Z:z.natAbs<P2 9600)(L:y.natAbs<P2 2496)(O:z≠0)(ad:y≠0):Calls prog 262 #[v,v'] w (D8 w ((z.natAbs*(y.natAbs/Nat.gcd z.natAbs y.natAbs):Nat):Int)):=by
 obtain⟨s,a,n,c,rfl,HS,hx⟩:=h;obtain⟨t,b,m,d,rfl,HT,hy⟩:=h';have K:y.natAbs<P2 9600:=Aj L (by omega);have V:0<Nat.gcd z.natAbs y.natAbs:=mO _ (by omega);have U:Nat.gcd z.natAbs y.natAbs<P2 9600:=oR (kM (by omega) (jM _ _)) Z;have N:y.natAbs/Nat.gcd z.natAbs y.natAbs<P2 2496:=oR (gM _ _) L;have a9:=fun(f:World) (k:Ext w f)=>qh (Uj (hT.ext k) (hx.ext k) (hy.ext k) Z K)
 have a7:=fun(f:World) (k:Ext w f) (g:Option Addr) (j i:Nat) (hg:Wd f g j i (Nat.gcd z.natAbs y.natAbs))=>qh (Um (hy.ext k) hg K U V);have aa:=fun(f:World) (k:Ext w f) (g:Option Addr) (j i:Nat) (hg:Wd f g j i (y.natAbs/Nat.gcd z.natAbs y.natAbs))=>qh (Sk (hx.ext k) hg Z (Aj N (by omega)) (Or.inr N));have ah:((n:Int) == 0)=false:=by have:=hx.zero;simp;omega
 have ag:((m:Int) == 0)=false:=by have:=hy.zero;simp;omega
 clear Z L K V U N O ad
 go_enter func262,ntmps262
 go_upto_region 1 with(fail)
 refine CR ?_;intro w0 E Q R a4 O;have W:=Q.c 0 rfl;have X:=Q.c 1 rfl;have ae:=R.c 0 rfl;have af:=R.c 1 rfl;have hR:Arr w0 (w.heap.size+2) 83 (Ab false none 0 0):=a4;clear O;go_wp2;have o:=fun(f:World) (k:Ext w0 f)=>qh (And.intro (k.cell W) (And.intro (k.cell X) (And.intro (k.cell ae) (k.cell af))))
 refine Ac
  [hdP (w.heap.size+1) 1,hdS b m d,hdP w.heap.size 1,hdS a n c,hdP (w.heap.size+1) 1,hdS b m d,hp (fun v f=>∃ g j i,v = .slice g j i/\Wd f g j i (Nat.gcd z.natAbs y.natAbs)),hp (fun v f=>∃ g j i B D C,v = .tuple #[.slice g j i,.slice B D C]/\Wd f g j i (y.natAbs/Nat.gcd z.natAbs y.natAbs)/\Wd f B D C (y.natAbs%Nat.gcd z.natAbs y.natAbs)),hp (fun v f=>∃ g j i B D C,v = .tuple #[.slice g j i,.slice B D C]/\Wd f g j i (y.natAbs/Nat.gcd z.natAbs y.natAbs)/\Wd f B D C (y.natAbs%Nat.gcd z.natAbs y.natAbs)),hp (fun v f=>∃ g j i,v = .slice g j i/\Wd f g j i (y.natAbs/Nat.gcd z.natAbs y.natAbs)),hp (fun v f=>∃ g j i,v = .slice g j i/\Wd f g j i (y.natAbs%Nat.gcd z.natAbs y.natAbs)),hp (fun v f=>∃ g j i,v = .slice g j i/\Wd f g j i (y.natAbs/Nat.gcd z.natAbs y.natAbs)),hp (fun v f=>∃ g j i,v = .slice g j i/\Wd f g j i (y.natAbs%Nat.gcd z.natAbs y.natAbs))]
  ⟨fun v w J e ⟨g,j,i,h1,h2⟩=>⟨g,j,i,h1,h2.ext e⟩,fun v w J e ⟨g,j,i,B,D,C,h1,h2,h3⟩=>⟨g,j,i,B,D,C,h1,h2.ext e,h3.ext e⟩,fun v w J e ⟨g,j,i,B,D,C,h1,h2,h3⟩=>⟨g,j,i,B,D,C,h1,h2.ext e,h3.ext e⟩,fun v w J e ⟨g,j,i,h1,h2⟩=>⟨g,j,i,h1,h2.ext e⟩,fun v w J e ⟨g,j,i,h1,h2⟩=>⟨g,j,i,h1,h2.ext e⟩,fun v w J e ⟨g,j,i,h1,h2⟩=>⟨g,j,i,h1,h2.ext e⟩,fun v w J e ⟨g,j,i,h1,h2⟩=>⟨g,j,i,h1,h2.ext e⟩,trivial⟩ ⟨?o0,?o1,?o2,?o3,?o4,?o5,?o6,?o7,?o8,?o9,?o10,?o11,?o12,trivial⟩ ?fin
 case o0 | o2 | o4=>exact ofa (d:=1)
 case o1 | o3 | o5=>exact ol
 case o6 =>
  refine Ae rfl fun P f k l r h => ?_;have e1:_=_:=h.2.1;have e2:_=_:=h.2.2.1;obtain⟨p,q,x,A⟩:=(o f k).out;refine⟨204,#[.slice a n c,.slice b m d],by go_simp,((a9 f (E.trans k)).out).mono ?_⟩;rintro e J ⟨g,j,i,rfl,M,ab⟩;exact⟨_,rfl,M,g,j,i,rfl,ab⟩
 case o7 =>
  refine Ae rfl fun P f k l r h => ?_;have e1:_=_:=h.2.1;obtain⟨v2,e2,a2,n2,c2,rfl,d2⟩:=h.2.2.1;obtain⟨p,q,x,A⟩:=(o f k).out;refine⟨240,#[.slice b m d,.slice a2 n2 c2],by go_simp,((a7 f (E.trans k) _ _ _ d2).out).mono ?_⟩;rintro e J ⟨g,j,i,B,D,C,rfl,M,h1,h2,_⟩;exact⟨_,rfl,M,g,j,i,B,D,C,rfl,h1,h2⟩
 case o8 =>
  refine AR rfl ?_;intro P f hp k h;have l:=hp.const;have r:=hp.func;obtain⟨v0,e0,F,I,G,Y,m0,H,rfl,i0,j0⟩:=h.1;obtain⟨p,q,x,A⟩:=(o f k).out;exact⟨_,f,by go_simp,Ext.refl _,F,I,G,Y,m0,H,rfl,i0,j0⟩
 case o9 =>
  refine AR rfl ?_;intro P f hp k h;have l:=hp.const;have r:=hp.func;obtain⟨v0,e0,F,I,G,Y,m0,H,rfl,i0,j0⟩:=h.1;obtain⟨p,q,x,A⟩:=(o f k).out;exact⟨_,f,by go_simp,Ext.refl _,F,I,G,rfl,i0⟩
 case o10 =>
  refine AR rfl ?_;intro P f hp k h;have l:=hp.const;have r:=hp.func;obtain⟨v0,e0,F,I,G,Y,m0,H,rfl,i0,j0⟩:=h.1;obtain⟨p,q,x,A⟩:=(o f k).out;exact⟨_,f,by go_simp,Ext.refl _,Y,m0,H,rfl,j0⟩
 case o11 =>
  refine AR rfl ?_;intro P f hp k h;have l:=hp.const;have r:=hp.func;obtain⟨v0,e0,F,I,G,rfl,H⟩:=h.1;obtain⟨p,q,x,A⟩:=(o f k).out;exact⟨_,f,by go_simp,Ext.refl _,F,I,G,rfl,H⟩
 case o12 =>
  refine AR rfl ?_;intro P f hp k h;have l:=hp.const;have r:=hp.func;obtain⟨v0,e0,F,I,G,rfl,H⟩:=h.1;obtain⟨p,q,x,A⟩:=(o f k).out;exact⟨_,f,by go_simp,Ext.refl _,F,I,G,rfl,H⟩
 case fin =>
  intro f k;rintro _ ⟨_,_,_,rfl,_⟩;rintro _ ⟨_,_,_,_,_,_,rfl,_,_⟩;rintro _ ⟨_,_,_,_,_,_,rfl,_,_⟩;rintro _ ⟨_,_,_,rfl,_⟩;rintro _ ⟨_,_,_,rfl,_⟩;rintro _ ⟨qa,qn,qc,rfl,hq⟩;rintro _ ⟨_,_,_,rfl,_⟩;change wpList _ _ _ _ _ _;simp only[A0];have p:=k.cell W;have q:=k.cell X;have a6:=hR.ext k;have a3:Hid (decide (((z.natAbs*(y.natAbs/Nat.gcd z.natAbs y.natAbs):Nat):Int)<0)=false):=qh (pb (by omega))
  go_wp2_with fail
  refine(aa _ (E.trans k) _ _ _ hq).out.mono ?_;rintro e w1 ⟨a1,n1,c1,rfl,S,ac⟩;have T:=a6.ext S
  go_wp2_with(refine Aa (vs:=Ab false a1 n1 c1) rfl rfl rfl rfl rfl Ak T rfl (Ad _ _ _ _) ?_;intro w9 a5 a8)
  exact oM (Ai rfl Ak rfl a5) rfl (Bn ((E.trans k).trans S) T (At _ _ _ _) a8 (by omega) a3 ac)
end Go.Proofs.YtlbmnokpiilfpaaGreatDoor
namespace Go.Proofs.YtlbmnokpiilfpaaGreatDoor
open Go.Shelf
def Sr:Go.Shelf.Ren:=⟨fun | 125=>206 | 128=>252 | 129=>253 | n=>n,fun | 46=>222 | 3=>3 | 51=>241 | 53=>238 | 4=>4 | 5=>5 | 9=>9 | n=>n,fun | n=>n⟩
theorem Wp:Go.Proofs.Lays.n125 Tryz.prog Sr:={
 mixed:=by kernel_rfl
 f125:=Tryz.func206.trans (gR some (by kernel_rfl))
 f128:=Tryz.func252.trans (gR some (by kernel_rfl))
 f129:=Tryz.func253.trans (gR some (by kernel_rfl))
 t3:=Tryz.underlying3
 a3:=Tryz.isAgg3
 z3:=Tryz.sizeOf3
 v3:=Tryz.zeroValue3
 t4:=Tryz.underlying4
 a4:=Tryz.isAgg4
 z4:=Tryz.sizeOf4
 v4:=Tryz.zeroValue4
 t5:=Tryz.underlying5
 a5:=Tryz.isAgg5
 z5:=Tryz.sizeOf5
 v5:=Tryz.zeroValue5
 t9:=Tryz.underlying9
 a9:=Tryz.isAgg9
 z9:=Tryz.sizeOf9
 v9:=Tryz.zeroValue9
 t46:=Tryz.underlying222
 a46:=Tryz.isAgg222
 z46:=Tryz.sizeOf222
 v46:=Tryz.zeroValue222
 t51:=Tryz.underlying241
 a51:=Tryz.isAgg241
 z51:=Tryz.sizeOf241
 v51:=Tryz.zeroValue241
 t53:=Tryz.underlying238
 a53:=Tryz.isAgg238
 z53:=Tryz.sizeOf238
 v53:=Tryz.zeroValue238 }
end Go.Proofs.YtlbmnokpiilfpaaGreatDoor
namespace Go.Proofs.YtlbmnokpiilfpaaGreatDoor
open Tryz Go Go.RowKit
variable {f:Act} {ops:Array Oper} {ok:Bool} {Q:Exit->Act->World->Prop} {z:Int} {m:List (List Int×Value)} {k:List Int} {seen xs ys:List Nat} {rest:List Oper} {N base c it n p r y:Nat} {o:Oper} {u x:Operand} {a b:Option Addr} {qa qb row:Option Nat} {et t:TypeId} {v:Value} {w w':World}
theorem W9{x:Nat}(b:x<18446744073709551616)(w:World):Calls prog 253 #[.int .u64 x] w fun e a=>e = .returned (.int .i64 (Lib.bitLen x))/\w=a:=by
 have:=Any.bits_Len64 Xb (x:Int) w (by omega) (by omega);rw[jf]at this;exact this.mono fun _ _ h=>⟨h.1,h.2.symm⟩
theorem VZ{x:Nat}(b:x<18446744073709551616)(w:World):Calls prog 206 #[.int .u64 x] w fun e a=>e = .returned (.int .i64 (Lib.bitLen x))/\w=a:=by
 have:=Any.bits_Len Wp (x:Int) w (by omega) (by omega);rw[jf]at this;exact this.mono fun _ _ h=>⟨h.1,h.2.symm⟩
theorem Ss(a:y<18446744073709551616):Lib.bitLen y<=64/\y<2^Lib.bitLen y/\(0<y->0<Lib.bitLen y/\2^(Lib.bitLen y-1)<=y):=by
 rcases oV y with h0|h0
 · subst h0;exact⟨by decide,by decide,by omega⟩
 · obtain⟨h1,h2,h3⟩:=Lib.bitLenAux_bounds 64 y (by omega) (by omega);have h4:Lib.bitLenAux 64 y<=64:=Lib.bitLen_le y 64 (by omega) (by omega);exact⟨h4,h3,fun _=>⟨h1,h2⟩⟩
def Xc(w:World)(x:Nat)(e:Ending)(w':World):Prop:=∃ L:Nat,e = .returned (.int .i64 (L:Int))/\Ext w w'/\L<=10000/\x<P2 L/\(0<x->0<L/\P2 (L-1)<=x)
theorem WD{x:Nat}(F:Wd w a n c x)(C:x<P2 9600):Calls prog 220 #[.slice a n c] w (Xc w x):=by
 have P:=F.len (k:=150) C;obtain⟨d,h1,h2⟩:=F;clear C;rcases oV n with h0|h0
 · subst h0;have z:x=0:=EZ h2 h1.len
   go_enter func220,ntmps220
   go_wp2;go_ret;exact⟨0,rfl,Ext.refl w,by omega,by rw[z];exact Ha 0,by omega⟩
 · obtain⟨m,rfl⟩:∃ m,n=m+1:=⟨n-1,by omega⟩;obtain⟨b,o,rfl,D⟩:=h1.at (j:=0) (by omega);have O:=D m (by omega);have g:=W.bnd_at h2.bnd (i:=m) (by rw[h1.len];omega);have p:=DY (B:=18446744073709551616) (l:=d) (m:=m) h1.len;have r:=Cb h2.bnd (m:=m) (by rw[h1.len];omega);rw[h2.val]at p;have v:0<d.getD m 0:=by
    have s:d≠[]:=by intro h;have:=h1.len;rw[h]at this;simp at this
    have h3:=h2.nrm s;rw[kB]at h3;have h4:d.length-1=m:=by rw[h1.len];omega
    have h5:m<d.length:=by rw[h1.len];omega
    have h6:d.getD m 0=d[d.length-1]'(by omega):=by simp[h4,h5]
    omega
   obtain⟨Q,N,G⟩:=Ss g;obtain⟨R,H⟩:=G v;have f:=W9 g;have A:Hid (x<P2 (64*m+Lib.bitLen (d.getD m 0))/\P2 (64*m+Lib.bitLen (d.getD m 0)-1)<=x):=by
    show _/\_;generalize Lib.bitLen (d.getD m 0)=L at *
    generalize d.getD m 0=t at *
    generalize W.val 18446744073709551616 (d.take m)=S at *
    constructor
    · rw[DL,Sj,p];have h5:(t+1)*18446744073709551616^m<=2^L*18446744073709551616^m:=oO _ (by omega);rw[iy,jy]at h5;have q:18446744073709551616^m*P2 L=2^L*18446744073709551616^m:=oU _ _;rw[q];omega
    · rw[show 64*m+L-1=64*m+(L-1) by omega,DL,Sj,p];have h5:2^(L-1)*18446744073709551616^m<=t*18446744073709551616^m:=oO _ H;have q:18446744073709551616^m*P2 (L-1)=2^(L-1)*18446744073709551616^m:=oU _ _;rw[q];omega
   generalize Lib.bitLen (d.getD m 0)=L at *
   generalize d.getD m 0=t at *
   clear p r N G H D;have I:(((m+1:Nat):Int) == 0)=false:=by simp;omega
   have J:IntKind.i64.wrap (((m+1:Nat):Int)-1)=(m:Int):=by rw[show((m+1:Nat):Int)-1=(m:Int) by omega];exact oP _ (by omega)
   have E:IntKind.i64.wrap ((m:Int)+1-1)=(m:Int):=by rw[show(m:Int)+1-1=(m:Int) by omega];exact oP _ (by omega)
   have y:IntKind.i64.wrap (m:Int)=(m:Int):=oP _ (by omega);have K:IntKind.i64.wrap (64*(m:Int))=64*(m:Int):=oP _ (by omega);have M:IntKind.i64.wrap (64*(m:Int)+(L:Int))=((64*m+L:Nat):Int):=by rw[show 64*(m:Int)+(L:Int)=((64*m+L:Nat):Int) by omega];exact oP _ (by omega)
   go_enter func220,ntmps220
   go_wp2_with fail
   refine(f _).mono ?_;rintro e T ⟨rfl,rfl⟩;go_wp2;go_ret;exact⟨64*m+L,Dj (by omega),Ext.refl _,by omega,A.out.1,fun _=>⟨by omega,A.out.2⟩⟩
theorem WC(h:AD w v z)(j:z.natAbs<P2 9600):Calls prog 158 #[v] w (Xc w z.natAbs):=by
 obtain⟨s,a,n,c,rfl,q,l⟩:=h;have g:=fun(p:World) (k:Ext w p)=>qh (WD (l.ext k) j);clear j
 go_enter func158,ntmps158
 go_upto_region 1 with(fail)
 refine AM ?_;intro r d b i;have m:=b.c 0 rfl;have o:=b.c 1 rfl;clear i
 go_wp2_with fail
 refine(g _ d).out.mono ?_;rintro e t ⟨L,rfl,f,h1,h2,h3⟩;go_wp2;go_ret;exact⟨L,rfl,d.trans f,h1,h2,h3⟩
theorem St{x k:Nat}:x^(n/2^k)=(if n/2^k%2=1 then x^(n/2^(k+1))*x^(n/2^(k+1))*x else x^(n/2^(k+1))*x^(n/2^(k+1))):=by
 have h:n/2^(k+1)=n/2^k/2:=by rw[gG,jY]
 rw[h];generalize n/2^k=m;split
 · rename_i h1;rw[<-iW,<-gG];congr 1;omega
 · rw[<-iW];congr 1;omega
theorem JI{x m:Nat}(h:m<=n):x^m<=x^n+1:=by
 rcases oV x with h0|h0
 · subst h0;rcases oV m with h1|h1
   · subst h1;simp
   · rw[Nat.zero_pow h1];exact oY _
 · have:=oT h0 h;omega
theorem Dr{a:Nat}(h:1<=a):1<P2 a:=by
 obtain⟨b,rfl⟩:∃ b,a=b+1:=⟨a-1,by omega⟩;have:=Ha b;rw[DL];show 1<P2 b*2;omega
theorem V0{a:Nat}(h:r*r<P2 (a+a)):r<P2 a:=by
 rw[DL]at h;rcases gQ r (P2 a)with h1|h1
 · exact h1
 · have:=iu h1 h1;omega
theorem JJ{x e:Nat}(hx:Wd w a n c x)(Z:x<P2 2496)(he:e<18446744073709551616)(R:x^e<P2 4990):Calls prog 230 #[.slice a n c,.int .u64 e] w (Kd w (x^e)):=by
 obtain⟨l1,l2,_⟩:=Ss he;have o:=VZ he
 have r:∀ k,x^(e/2^k)<P2 4991:=fun k=>by
  have:=JI (x:=x) (gM e (2^k));exact oR this (Jz R (Dr (by omega)))
 have F:∀ k,x^(e/2^(k+1))<P2 2496:=fun k=>by
  apply V0;have h1:=r k;have h2:e/2^(k+1)=e/2^k/2:=by rw[gG,jY]
  rw[h2,<-iW];have h3:=JI (x:=x) (m:=e/2^k/2+e/2^k/2) (n:=e) (by have:=gM e (2^k);omega);have h4:x^e+1<P2 (4990+1):=Jz R (Dr (by omega));exact Aj (oR h3 h4) (by omega)
 have a0:=qh r;have O:=qh F;have Y:=qh Z;have K:=qh l2;clear r F Z R l2;generalize Lib.bitLen e=L at *
 have T:IntKind.i64.wrap ((L:Int)-1)=(L:Int)-1:=oP _ (by omega)
 go_enter func230,ntmps230
 go_wp2_with fail
 refine(o _).mono ?_;rintro e2 X ⟨rfl,rfl⟩;go_wp2;refine AM ?_;intro X B A U;have l:Wd X (some ⟨w.heap.size,0,none⟩) 1 1 1:=by
  have hA:BG .u64 X w.heap.size 238 [1]:=A;have h1:=hA.sl (n:=1) (c:=1) (by simp) (by omega) (by unfold maxLen;omega);exact⟨[1],h1,fun y hy=>by simp at hy;omega,W.nrm_single (by omega),by simp[W.val]⟩
 have z:Hid (x^(e/2^L)=1):=by show _=_;rw[j8 K.out,jE]
 clear U A o
 go_loopw[5,6] (fun rv V wr=>∃ (k:Nat) (H:Option Addr) (J I:Nat),rv = .slice H J I/\V = .int .i64 ((k:Int)-1)/\k<=L/\Ext w wr/\Wd wr H J I (x^(e/2^k))) (fun _ V _=>(intOf V+1).toNat)
 case atStart=>exact⟨L,_,1,1,rfl,rfl,lrf _,B,by rw[z.out];exact l⟩
 case round =>
  clear l z B T;obtain⟨k,H,J,I,rfl,rfl,hk,hE,G⟩:=hrel;cases k with
  | zero =>
   go_wp2;go_ret;exact⟨H,J,I,rfl,hE,by rw[jE,kH]at G;exact G⟩
  | succ k =>
   have l:((k+1:Nat):Int)-1=(k:Int):=by omega
   rw[l];have d:=O.out k;have i:=qh (Sk G G (Aj d (by omega)) (Aj d (by omega)) (Or.inl d));have E:=St (x:=x) (n:=e) (k:=k);have f:=qh E;have p:x^(e/2^(k+1))*x^(e/2^(k+1))<P2 9600:=Aj (BF d d) (by omega);have N:=qh p;have S:(e:Int)/2^k=((e/2^k:Nat):Int):=by push_cast;rfl
   have D:e/2^k<18446744073709551616:=oR (gM _ _) he;have g:bits BinOp.and IntKind.u64 ((e/2^k:Nat):Int) 1=((e/2^k%2:Nat):Int):=by
    have:=bits_and_u64_nat (e/2^k) 1 D (by omega);rw[Nat.and_one_is_mod]at this;exact this
   clear E p d;obtain⟨t,s⟩:∃ t,e/2^k=t:=⟨_,rfl⟩;rw[s]at g S f D;have v:=qh s;clear s
   go_wp2_with fail
   refine i.out.mono ?_;rintro e2 w2 ⟨qa,qn,qc,rfl,P,hq⟩;have q:=hE.trans P;by_cases b:t%2=1
   · rw[b]at g;have j:=qh (Sk hq (hx.ext q) N.out (Aj Y.out (by omega)) (Or.inr Y.out));have M:Hid (x^t=x^(e/2^(k+1))*x^(e/2^(k+1))*x):=by
      show _=_;have:=f.out;rw[pq b]at this;exact this
     clear b i f
     go_wp2_with fail
     refine j.out.mono ?_;rintro e2 w3 ⟨pa,pn,pc,rfl,Q,hp⟩;clear j;go_wp2;go_roundw
     case rel=>exact⟨k,pa,pn,pc,rfl,by go_num,by omega,q.trans Q,by rw[v.out,M.out];exact hp⟩
     case measure=>simp[intOf]
   · have C:t%2=0:=by omega
     rw[C]at g;have M:Hid (x^t=x^(e/2^(k+1))*x^(e/2^(k+1))):=by
      show _=_;have:=f.out;rw[pf b]at this;exact this
     clear C b i f;go_wp2;go_roundw
     case rel=>exact⟨k,qa,qn,qc,rfl,by go_num,by omega,q,by rw[v.out,M.out];exact hq⟩
     case measure=>simp[intOf]
theorem Ve(w:World):Wd (w.alloc (.cells #[.int .u64 1] 238)) (some ⟨w.heap.size,0,none⟩) 1 1 1:=by
 refine⟨[1],(Ay w w.heap.size 238 #[.int .u64 1] 1 rfl (lrf _) (by omega)).sl,⟨fun x a=>by simp at a;omega,W.nrm_single (by omega),by simp[W.val]⟩⟩
theorem TR{x:Int}(C:B6 w base p qa qb N z)(r:AD w v x)(I:Hb (fun g=>qa≠some g/\qb≠some g) v)(E:x.natAbs<P2 9600)(F:N<=100000000)(G:base<=w.heap.size) :
 Calls prog 190 #[.pointer (some ⟨p,0,none⟩),v] w (Uo w base p qa qb N (z+x)):=by
 obtain⟨s,a,n,c,rfl,D,r⟩:=r
 go_enter func190,ntmps190
 go_upto_region 1 with(fail)
 refine AM ?_;intro l f b t;have K:=b.c 0 rfl;have L:=b.c 1 rfl;have o:=(Ext.refl l).alloc (.cells #[.int .u64 1] 238);have d:=f.trans o;have k:=Ve l;have j:=C.lt;have H:=f.size
 have i:=JF (C.ext d) (v := .agg (Ab s a n c).toArray) ⟨s,a,n,c,rfl,D,r.ext d⟩ (v' := .agg (Ab false (some ⟨l.heap.size,0,none⟩) 1 1).toArray) (y:=1) ⟨false,_,1,1,rfl,qh rfl,k⟩ I (ID fun _ g q=>by
  have:l.heap.size=g:=by simpa[blk]using q
  subst this;refine⟨fun h => ?_,fun h => ?_⟩
  · have:=(j.2.1 _ h).2;omega
  · have:=(j.2.2 _ h).2;omega) E (Dr (by omega)) (Or.inr (Dr (by omega))) F (oS G d.size)
 have m:=qh i;clear i k b t
 go_wp2_with fail
 refine m.out.mono ?_;rintro e M ⟨rfl,A,B,h1,h2,h3,h4⟩;go_wp2
 go_end0
 rw[Int.mul_one]at h1;have J:=d.size;refine⟨rfl,A,B,h1,(Kp.ofExt d).trans h2 (fun _ _ h=>h),?_,?_⟩
 · rcases h3 with h|⟨g,h,q⟩
   · exact Or.inl h
   · exact Or.inr ⟨g,h,by omega⟩
 · rcases h4 with h|⟨g,h,q⟩
   · exact Or.inl h
   · exact Or.inr ⟨g,h,by omega⟩
theorem Ds{m d:Nat}{x:Nat}(H:SlN .u64 w a n c xs)(I:SlN .u64 w b m d ys)(K:Num 18446744073709551616 xs x)(L:Num 18446744073709551616 ys y)(X:n<=200000000)(v:y<=x)(P:∀ g,blk b=some g->g<w.heap.size) :
 Calls prog 233 #[.slice a n c,.slice b m d] w (Ib .u64 18446744073709551616 w (x-y)):=by
 have j:=qh H.len;have M:=qh I.len;have k:=qh K;have l:=qh L;have i:=qh v;clear K L v;have E:m<=n:=by
  refine pm fun V => ?_;have:=W.len_lt (B:=18446744073709551616) (by omega) k.out.bnd l.out.nrm (by rw[j.out,M.out];omega);rw[k.out.val,l.out.val]at this;have:=i.out;omega
 go_enter func233,ntmps233
 go_upto_region 2 with(at_make;refine C1 (n:=n) rfl rfl underlying81 AF rfl rfl rfl (by omega) (by unfold maxLen;omega) ?_;intro Y r f)
 have hA1:=(Av.of_zeros r).arr
 go_upto_region 3 with(refine Ks (sT:=81) rfl rfl underlying81 AF rfl rfl hA1 (H.ext f) (lrf _) (by simp) (IA _) ?_;intro z o s)
 have hA2:BG .u64 z w.heap.size 238 xs:=by
  have:=KQ (w:=z) (g:=w.heap.size) (N:=n) (xs:=xs) (t:=238) (by rw[j.out];exact o);rw[j.out,jt]at this;simpa using this
 have p:Ext w z:=f.grownR s (lrf _);have C:Av .u64 z w.heap.size 238 w.heap.size n n xs:=by
  have:=BG.own hA2 (lrf _) (by rw[j.out];unfold maxLen;omega);rw[j.out]at this;exact this
 have F:blk b=none\/blk b≠some w.heap.size:=by
  cases D:blk b with
  | none=>exact Or.inl rfl
  | some g=>right;have:=P g D;simp;omega
 clear hA1 o s hA2 r f
 go_wp2_with fail
 refine(DX C (I.ext p) F k.out.bnd l.out.bnd E (by rw[k.out.val,l.out.val];exact i.out)).mono ?_;rintro e Z ⟨rfl,Q,zs,J,O,G⟩;rw[k.out.val,l.out.val]at G;have A:=p.grownR Q (lrf _)
 go_wp2_with fail
 refine(Bk J.sl).mono ?_;rintro e w4 ⟨q,rfl,rfl,R,S⟩;obtain⟨T,U⟩:=Bq J.sl R S O G;go_wp2;go_ret;exact⟨_,q,_,_,rfl,A,T,U⟩
theorem KV(b:SlN .u64 w a n c xs) :
 Calls prog 231 #[.slice a n c] w fun e d=>e = .returned (.slice a (W.trim xs).length c)/\d=w:=by
 refine(Bk b).mono ?_;rintro e d ⟨m,rfl,rfl,f,g⟩;refine⟨?_,rfl⟩;rw[g,gO,b.len,jn f]
theorem Pw(f:SlN .u64 w a n c xs):SlN .u64 w a (W.trim xs).length c (W.trim xs):=by
 obtain⟨k,g,e⟩:=W.trimTo_prefix (xs:=xs) (lrf xs.length);have d:W.trim xs=xs.take k:=e;have b:k<=n:=by rw[<-f.len];exact g
 have h:=f.upto b;have i:(W.trim xs).length=k:=by rw[d,gO];omega
 rw[i,d];exact h
theorem QG(hS:B6 w base p qa qb N z)(hN:N<=100000000) :
 Calls prog 192 #[.pointer (some ⟨p,0,none⟩)] w (D8 w z):=by
 obtain⟨V,pn,Z,U,nn,Y,q,o,hA,aj,ak,a6,a5,bp,bn,ah,ai,ao,am,hz,ap⟩:=hS;have y:SlN .u64 w V pn Z q:=a6.sl;have t:SlN .u64 w U nn Y o:=a5.sl;have ag:∀ g,blk V=some g->g<w.heap.size:=fun g K=>(a6.lt K).2;have af:∀ g,blk U=some g->g<w.heap.size:=fun g K=>(a5.lt K).2;have np:Num 18446744073709551616 (W.trim q) (W.val 18446744073709551616 q):=Num.trim bp rfl;have a9:Num 18446744073709551616 (W.trim o) (W.val 18446744073709551616 o):=Num.trim bn rfl;have aq:(W.trim q).length<=pn:=by
  obtain⟨k,hk,e⟩:=W.trimTo_prefix (xs:=q) (lrf q.length);have e':W.trim q=q.take k:=e;rw[e',gO,y.len];omega
 have an:(W.trim o).length<=nn:=by
  obtain⟨k,hk,e⟩:=W.trimTo_prefix (xs:=o) (lrf o.length);have e':W.trim o=o.take k:=e;rw[e',gO,t.len];omega
 have Q:=Pw y;have O:=Pw t;have a1:=fun(a:World) (b:Ext w a)=>qh (KV (y.ext b));have a0:=fun(a:World) (b:Ext w a)=>qh (KV (t.ext b));generalize W.val 18446744073709551616 q=P at *
 generalize W.val 18446744073709551616 o=s at *
 have C:=qh np;have B:=qh a9;generalize W.trim q=tp at *
 generalize W.trim o=tn at *
 generalize ab:tp.length=lp at *
 generalize aa:tn.length=ln at *
 have HZ:=qh hz;clear np a9 hz bp bn ah ai aj ak ab aa
 go_enter func192,ntmps192
 go_upto_region 1 with(fail)
 refine AM ?_;intro w0 f a2 al;have u0:w0.cell? ⟨p,0,none⟩=some (.slice V pn Z):=(hA.ext f).cell (i:=0) (by simp[JE]);have u1:w0.cell? ⟨p,1,none⟩=some (.slice U nn Y):=(hA.ext f).cell (i:=1) (by simp[JE]);have hR:Arr w0 w.heap.size 83 (Ab false none 0 0):=a2;clear a2 al hA;have r:=fun(a:World) (b:Ext w0 a)=>qh (And.intro (b.cell u0) (b.cell u1))
 refine Ac
  [hdP p 0,hdP p 0,hdP p 0,hdS V pn Z,hp (fun v a=>v = .slice V lp Z),hdP p 0,hdP p 0,hdP p 1,hdS U nn Y,hp (fun v a=>v = .slice U ln Y),hp (fun v a=>v = .slice V lp Z),hp (fun v a=>v = .slice U ln Y)]
  ⟨fun _ _ _ _ h=>h,fun _ _ _ _ h=>h,fun _ _ _ _ h=>h,fun _ _ _ _ h=>h,trivial⟩ ⟨?o0,?o1,?o2,?o3,?o4,?o5,?o6,?o7,?o8,?o9,?o10,?o11,trivial⟩ ?fin
 case o0 | o5=>exact omv
 case o1 | o6=>exact onc
 case o2=>exact ofa (d:=0)
 case o3 | o8=>exact ol
 case o7=>exact ofa (d:=1)
 case o4 =>
  refine Ae rfl fun ρ a b n J h => ?_;have e1:_=_:=h.2.1;obtain⟨k0,k1⟩:=(r a b).out;refine⟨231,#[.slice V pn Z],by go_simp,((a1 a (f.trans b)).out).mono ?_⟩;rintro e w' ⟨rfl,rfl⟩;exact⟨_,rfl,Ext.refl _,rfl⟩
 case o9 =>
  refine Ae rfl fun ρ a b n J h => ?_;have e1:_=_:=h.2.1;obtain⟨k0,k1⟩:=(r a b).out;refine⟨231,#[.slice U nn Y],by go_simp,((a0 a (f.trans b)).out).mono ?_⟩;rintro e w' ⟨rfl,rfl⟩;exact⟨_,rfl,Ext.refl _,rfl⟩
 case o10 =>
  refine AR rfl ?_;intro ρ a hp b h;have n:=hp.const;have J:=hp.func;obtain⟨v0,e0,rfl⟩:=h.1;obtain⟨k0,k1⟩:=(r a b).out;exact⟨_,a,by go_simp,Ext.refl _,rfl⟩
 case o11 =>
  refine AR rfl ?_;intro ρ a hp b h;have n:=hp.const;have J:=hp.func;obtain⟨v0,e0,rfl⟩:=h.1;obtain⟨k0,k1⟩:=(r a b).out;exact⟨_,a,by go_simp,Ext.refl _,rfl⟩
 case fin =>
  intro a b;rintro _ rfl;rintro _ rfl;rintro _ rfl;rintro _ rfl;change wpList _ _ _ _ _ _;simp only[A0];have I:=f.trans b;have ac:=hR.ext b;clear a1 a0 u0 u1 f hR y t b;obtain⟨w1,rfl⟩:∃ x:World,x=a:=⟨_,rfl⟩;have a8:=Bh (Q.ext I) (O.ext I) C.out B.out
  go_wp2_with fail
  refine a8.mono ?_;rintro e w2 ⟨rfl,hQ⟩;have c:=I.trans hQ.ext;have a7:=ac.ext hQ.ext;clear a8;by_cases M:s<=P
  · have ad:0<=AW (P:Int) (s:Int):=Cx.2 M;have A:=qh (Ds (Q.ext c) (O.ext c) C.out B.out (by omega) M (fun g K=>ph (af g K) c.size));have E:Hid (z=if(false=true)then -((P-s:Nat):Int)else((P-s:Nat):Int)):=qh (by rw[HZ.out];simp;omega);generalize AW (P:Int) (s:Int)=cv at *
    go_wp2_with fail
    refine A.out.mono ?_;intro e w3 hr;obtain⟨a3,n3,c3,rfl,j,R⟩:=hr.wd
    go_wp2_with fail
    refine(Bw R E.out).mono ?_;rintro e w4 ⟨X,F,T,G,rfl,l,D,S⟩;have ae:(Ab X F T G).toArray=#[.bool X,.slice F T G]:=rfl;have m:=(a7.ext j).ext l
    go_wp2_with(refine Aa (vs:=Ab X F T G) rfl rfl rfl rfl rfl Ak m rfl (Ad _ _ _ _) ?_;intro w9 H L)
    exact oM (Ai rfl Ak rfl H) rfl (Bn ((c.trans j).trans l) m (At _ _ _ _) L (lrf _) D S)
  · have ad:¬ 0<=AW (P:Int) (s:Int):=fun h=>M (Cx.1 h);have A:=qh (Ds (O.ext c) (Q.ext c) B.out C.out (by omega) (by omega) (fun g K=>ph (ag g K) c.size));have E:Hid (z=if(true=true)then -((s-P:Nat):Int)else((s-P:Nat):Int)):=qh (by rw[HZ.out];simp;omega);generalize AW (P:Int) (s:Int)=cv at *
    go_wp2_with fail
    refine A.out.mono ?_;intro e w3 hr;obtain⟨a3,n3,c3,rfl,j,R⟩:=hr.wd
    go_wp2_with fail
    refine(Bw R E.out).mono ?_;rintro e w4 ⟨X,F,T,G,rfl,l,D,S⟩;have ae:(Ab X F T G).toArray=#[.bool X,.slice F T G]:=rfl;have m:=(a7.ext j).ext l
    go_wp2_with(refine Aa (vs:=Ab X F T G) rfl rfl rfl rfl rfl Ak m rfl (Ad _ _ _ _) ?_;intro w9 H L)
    exact oM (Ai rfl Ak rfl H) rfl (Bn ((c.trans j).trans l) m (At _ _ _ _) L (lrf _) D S)
def Ce(k:List Int):Value := .agg (k.map (Value.int .i64)).toArray
structure Hc(P:Program)(kt et:TypeId):Prop where
 arr:P.underlying kt=some (.array 6 et)
 int:P.underlying et=some (.int .i64)
 size:(P.info? et).map (·.size)=some 1
theorem six(h:k.length=6):∃ a b c d e f,k=[a,b,c,d,e,f]:=by
 match k,h with
 | [a,b,c,d,e,f],_=>exact⟨a,b,c,d,e,f,rfl⟩
section
variable {P:Program} {kt et:TypeId} (w:World)
theorem AX(a:Hc P kt et)(cs:Array Value)(i:Nat)(v:Value)(h:cs[i]?=some v):(part et cs i).run P w = .ok v w:=by
 simp[part,isAgg,ip a.int,h]
theorem Ip(c:Hc P kt et)(d:Nat)(a b:Int):(Op.equalIn (d+1) et (.int .i64 a) (.int .i64 b)).run P w = .ok (a == b) w:=by
 simp[Op.equalIn,ip c.int]
theorem Ke(l:Hc P kt et)(d:Nat){a b:List Int}(A:a.length=6)(B:b.length=6) :
 (Op.equalIn (d+2) kt (Ce a) (Ce b)).run P w = .ok (decide (a=b)) w:=by
 obtain⟨m,n,o,p,q,r,rfl⟩:=six A;obtain⟨s,t,v,x,y,z,rfl⟩:=six B;obtain⟨i,C,F⟩:∃ i,P.info? et=some i/\i.size=1:=by
  have:=l.size;cases h:P.info? et with
  | none=>rw[h]at this;cases this
  | some i=>rw[h]at this;exact⟨i,rfl,by simpa using this⟩
 have D:List.range' 0 6=[0,1,2,3,4,5]:=rfl;have he:=fun(a b:Int) (w:World)=>Ip w l d a b;have G:∀ (c e f g j k:Value) (w:World),(part et #[c,e,f,g,j,k] 0).run P w = .ok c w:=fun _ _ _ _ _ _ w=>AX w l _ 0 _ rfl;have H:∀ (c e f g j k:Value) (w:World),(part et #[c,e,f,g,j,k] 1).run P w = .ok e w:=fun _ _ _ _ _ _ w=>AX w l _ 1 _ rfl;have I:∀ (c e f g j k:Value) (w:World),(part et #[c,e,f,g,j,k] 2).run P w = .ok f w:=fun _ _ _ _ _ _ w=>AX w l _ 2 _ rfl
 have J:∀ (c e f g j k:Value) (w:World),(part et #[c,e,f,g,j,k] 3).run P w = .ok g w:=fun _ _ _ _ _ _ w=>AX w l _ 3 _ rfl;have K:∀ (c e f g j k:Value) (w:World),(part et #[c,e,f,g,j,k] 4).run P w = .ok j w:=fun _ _ _ _ _ _ w=>AX w l _ 4 _ rfl;have L:∀ (c e f g j k:Value) (w:World),(part et #[c,e,f,g,j,k] 5).run P w = .ok k w:=fun _ _ _ _ _ _ w=>AX w l _ 5 _ rfl;rw[Op.equalIn];simp only[Ce,gI,ip l.arr,p9];generalize M:Op.equalIn (d+1) et=E at *
 simp[sizeOf,typeInfo,C,F,D,G,H,I,J,K,L,he];by_cases h0:m=s <;> simp[h0];by_cases h1:n=t <;> simp[h1];by_cases h2:o=v <;> simp[h2];by_cases h3:p=x <;> simp[h3];by_cases h4:q=y <;> simp[h4];by_cases h5:r=z <;> simp[h5]
theorem He(c:Hc P kt et)(b:Bool)(d:Nat)(a:Int):(Instr.checkKey b (d+1) et (.int .i64 a)).run P w = .ok () w:=by
 rw[Instr.checkKey];simp[ip c.int]
theorem Gw(k:Hc P kt et)(l:Bool)(d:Nat){a:List Int}(m:a.length=6):(Instr.checkKey l (d+2) kt (Ce a)).run P w = .ok () w:=by
 obtain⟨y,z,A,B,C,D,rfl⟩:=six m;obtain⟨i,n,p⟩:∃ i,P.info? et=some i/\i.size=1:=by
  have:=k.size;cases h:P.info? et with
  | none=>rw[h]at this;cases this
  | some i=>rw[h]at this;exact⟨i,rfl,by simpa using this⟩
 have o:List.range' 0 6=[0,1,2,3,4,5]:=rfl;have he:=fun(a:Int) (w:World)=>He w k l d a;have q:∀ (b c e f g j:Value) (w:World),(part et #[b,c,e,f,g,j] 0).run P w = .ok b w:=fun _ _ _ _ _ _ w=>AX w k _ 0 _ rfl;have r:∀ (b c e f g j:Value) (w:World),(part et #[b,c,e,f,g,j] 1).run P w = .ok c w:=fun _ _ _ _ _ _ w=>AX w k _ 1 _ rfl;have s:∀ (b c e f g j:Value) (w:World),(part et #[b,c,e,f,g,j] 2).run P w = .ok e w:=fun _ _ _ _ _ _ w=>AX w k _ 2 _ rfl
 have t:∀ (b c e f g j:Value) (w:World),(part et #[b,c,e,f,g,j] 3).run P w = .ok f w:=fun _ _ _ _ _ _ w=>AX w k _ 3 _ rfl;have v:∀ (b c e f g j:Value) (w:World),(part et #[b,c,e,f,g,j] 4).run P w = .ok g w:=fun _ _ _ _ _ _ w=>AX w k _ 4 _ rfl;have x:∀ (b c e f g j:Value) (w:World),(part et #[b,c,e,f,g,j] 5).run P w = .ok j w:=fun _ _ _ _ _ _ w=>AX w k _ 5 _ rfl;rw[Instr.checkKey];simp only[Ce,gI,ip k.arr,p9];generalize F:Instr.checkKey l (d+1) et=E at *
 simp[sizeOf,typeInfo,n,p,o,q,r,s,t,v,x,he]
end
def BS:Nat->List (List Int×Value)->List MapEntry
 | _,[]=>[]
 | i,(k,v) :: r=>{ key:=Ce k,val:=v,born:=i } :: BS (i+1) r
structure Bm(w:World)(r:Nat)(m:List (List Int×Value)):Prop where
 obj:w.heap[r]?=some (.map (BS 0 m).toArray m.length)
 six:∀ p∈m,p.1.length=6
 nodup:(m.map (·.1)).Nodup
def Cy(k:List Int):Nat->List (List Int×Value)->Option (Nat×Value)
 | _,[]=>none
 | i,(k',v) :: r=>if k=k' then some (i,v)else Cy k (i+1) r
theorem FR{k:List Int}:∀ {i:Nat} {m:List (List Int×Value)},Cy k i m=none<->k ∉ m.map (·.1)
 | _,[]=>by simp[Cy]
 | i,(k',v) :: r=>by
  unfold Cy;by_cases h:k=k'
  · simp[h]
  · simp[h,FR (i:=i+1) (m:=r)]
theorem DH:∀ (i:Nat) (m:List (List Int×Value)),(BS i m).length=m.length
 | _,[]=>rfl
 | i,(_,_) :: r=>by simp[BS,DH (i+1) r]
theorem H6:∀ (i:Nat) (m:List (List Int×Value)) (k:List Int) (v:Value),BS i (m ++ [(k,v)])=BS i m ++ [{ key:=Ce k,val:=v,born:=i+m.length }]
 | _,[],_,_=>rfl
 | i,(_,_) :: r,k,v=>by
  simp only[jW,BS,H6 (i+1) r k v,io];rw[jk,ju 1]
section
variable {P:Program} {kt et:TypeId} (w:World)
theorem E7(d:Hc P kt et){k:List Int}(h6:k.length=6):∀ (m:List (List Int×Value)) (b i:Nat),(∀ p∈m,p.1.length=6) ->
 (Instr.findAsking kt (Ce k) (BS b m) i).run P w = .ok (Cy k i m) w
 | [],_,_,_=>by simp[Instr.findAsking,BS,Cy]
 | (k',v) :: r,b,i,h=>by
  have h1:k'.length=6:=h (k',v) (by simp);have c:(Op.equal kt (Ce k) (Ce k')).run P w = .ok (decide (k=k')) w:=Ke w d 9998 h6 h1;have e:=E7 d h6 r (b+1) (i+1) (fun p hp=>h p (by simp[hp]));unfold BS Cy;rw[Instr.findAsking];simp only[gI,c,p9];by_cases a:k=k'
  · simp[a]
  · simp[a,e]
theorem H7(a:Hc P kt et){k:List Int}(h6:k.length=6)(m:List (List Int×Value))(h:∀ p∈m,p.1.length=6) :
 (Instr.findKey kt (Ce k) (BS 0 m)).run P w = .ok (Cy k 0 m) w:=by
 have c:Instr.findNow (.array 6 et) (Ce k) (BS 0 m) 0=if m=[]then some none else none:=by
  cases m with
  | nil=>rfl
  | cons p r=>obtain⟨d,v⟩:=p;simp[BS,Instr.findNow,Instr.sameNow]
 simp only[Instr.findKey,gI,ip a.arr,p9,c];by_cases b:m=[]
 · subst b;simp[Cy]
 · simp[b,E7 w a h6 m 0 0 h]
end
theorem Bm.lt(h:Bm w r m):r<w.heap.size:=by
 rcases gQ r w.heap.size with b|a
 · exact b
 · have:=h.obj;rw[jw a]at this;cases this
theorem Bm.of_block(h:Bm w r m)(e:w'.heap[r]?=w.heap[r]?):Bm w' r m:=⟨e.trans h.obj,h.six,h.nodup⟩
theorem Bm.ext(h:Bm w r m)(e:Ext w w'):Bm w' r m:=h.of_block (e.block h.lt)
theorem Bm.kept(h:Bm w r m)(b:w.grownBy w' row)(a:some r≠row):Bm w' r m:=h.of_block (b.block r h.lt a)
def JK(z:Value)(m:List (List Int×Value))(k:List Int):Value:=((Cy k 0 m).map (·.2)).getD z
def V3(m:List (List Int×Value))(k:List Int):Bool:=(Cy k 0 m).isSome
def M2(m:List (List Int×Value))(k:List Int)(v:Value):List (List Int×Value) :=
 match Cy k 0 m with
 | some (i,_)=>m.set i (k,v)
 | none=>m ++ [(k,v)]
theorem JL{k:List Int}:∀ {j:Nat} {m:List (List Int×Value)} {i:Nat} {v:Value},Cy k j m=some (i,v)->j<=i/\m[i-j]?=some (k,v)
 | _,[],_,_,h=>by simp[Cy]at h
 | j,(k',v') :: r,i,v,h=>by
  unfold Cy at h;by_cases hk:k=k'
  · rw[pq hk]at h;simp only[oQ,lA]at h;obtain⟨rfl,rfl⟩:=h;subst hk;simp
  · rw[pf hk]at h;obtain⟨h1,h2⟩:=JL h;refine⟨by omega,?_⟩;rw[show i-j=(i-(j+1))+1 by omega];simpa using h2
theorem Ea:∀ (j:Nat) (m:List (List Int×Value)) (i:Nat),(BS j m)[i]?=(m[i]?).map (fun p=>{ key:=Ce p.1,val:=p.2,born:=j+i })
 | _,[],_=>by simp[BS]
 | j,(k,v) :: r,0=>by simp[BS]
 | j,(k,v) :: r,i+1=>by
  simp only[BS,l9,Ea (j+1) r i];rw[jk,ju 1 i]
theorem Su:∀ (j:Nat) (m:List (List Int×Value)) (i:Nat) (k:List Int) (v:Value),i<m.length->BS j (m.set i (k,v))=(BS j m).set i { key:=Ce k,val:=v,born:=j+i }:=by
 intro j m i k v b;apply kW;intro t;rw[Ea,lB,lB,DH];by_cases a:i=t
 · subst a;simp[b]
 · simp[a,Ea]
theorem LW(k:List Int):Instr.sameBits 10000 (Ce k) (Ce k)=true:=by
 have h:∀ (l:List Value) (n:Nat),(∀ v∈l,∃ a,v=Value.int .i64 a)->(l.zip l).all (fun x=>Instr.sameBits n x.1 x.2)=true:=by
  intro l n
  induction l with
  | nil=>intro _;rfl
  | cons v r ih =>
   intro b;obtain⟨a,rfl⟩:=b v (by simp);simp only[List.zip_cons_cons,List.all_cons,iH];refine⟨?_,ih (fun u hu=>b u (by simp[hu]))⟩;cases n <;> simp[Instr.sameBits]
 show Instr.sameBits (9999+1) (.agg _) (.agg _)=true;rw[Instr.sameBits];simp only[beq_self_eq_true,Bool.true_and];exact h _ 9999 (by intro v b;simp only[gT]at b;obtain⟨a,_,rfl⟩:=b;exact⟨a,rfl⟩)
section
variable {P:Program} {kt et mt vt:TypeId} {w:World}
theorem Oy(g:P.underlying mt=some (.map kt vt))(f:Hc P kt et){z:Value}(j:(zeroValue vt).run P w = .ok z w){r:Nat}{m:List (List Int×Value)}(h:Bm w r m){k:List Int}(h6:k.length=6)(b:Bool) :
 (Instr.lookup mt (.map (some r)) (Ce k) b).run P w = .ok (if b then .tuple #[JK z m k,.bool (V3 m k)]else JK z m k) w:=by
 have d:∀ c,(Instr.checkKey c 10000 kt (Ce k)).run P w = .ok () w:=fun c=>Gw w f c 9998 h6;have e:=H7 w f h6 m h.six;have i:=h.obj;unfold JK V3;simp only[Instr.lookup,gI,ip g,p9,getObj,Sem.run,i];cases a:Cy k 0 m with
 | none=>cases b <;> simp[j,d,e,a]
 | some p=>cases b <;> simp[d,e,a]
theorem TS(J:P.underlying mt=some (.map kt vt))(I:Hc P kt et){r:Nat}{m:List (List Int×Value)}(h:Bm w r m){k:List Int}(h6:k.length=6)(v:Value) :
 ∃ E,(Instr.mapUpdate mt (.map (some r)) (Ce k) v).run P w = .ok () E/\Bm E r (M2 m k v)/\w.grownBy E (some r):=by
 have G:∀ A,(Instr.checkKey A 10000 kt (Ce k)).run P w = .ok () w:=fun A=>Gw w I A 9998 h6;have H:=H7 w I h6 m h.six;have z:=h.obj;have B:=h.lt;have l:∀ o:Obj,w.grownBy { w with heap:=w.heap.setIfInBounds r o } (some r):=by
  intro o;refine⟨rfl,rfl,rfl,by simp,fun j _ D => ?_⟩;have:r≠j:=by rintro rfl;exact D rfl
  simp only;rw[lV this]
 have x:∀ o:Obj,({ w with heap:=w.heap.setIfInBounds r o }:World).heap[r]?=some o:=by
  intro o;simp only;rw[ni B]
 unfold M2;cases d:Cy k 0 m with
 | none =>
  refine⟨_,?_,⟨x (.map (BS 0 (m ++ [(k,v)])).toArray (m.length+1)) |>.trans (by simp),?_,?_⟩,l _⟩
  · simp only[Instr.mapUpdate,gI,ip J,p9,getObj,setObj,Sem.run,z,G];rw[H];simp[d,Sem.run,z,H6]
  · intro p hp;rcases il.1 hp with hp|hp
    · exact h.six p hp
    · simp only[oZ]at hp;subst hp;exact h6
  · rw[im,oE];refine⟨h.nodup,by simp,?_⟩;intro a L b F;simp only[iz,jg,oZ]at F;subst F;rintro rfl;exact FR.1 d L
 | some p =>
  obtain⟨i,K⟩:=p;obtain⟨_,n⟩:=JL d;rw[mw]at n;have f:i<m.length:=by
   rcases gQ i m.length with h|h
   · exact h
   · simp[pu h]at n
  have c:(m.set i (k,v)).map (·.1)=m.map (·.1):=by
   rw[nO];apply kW;intro t;rw[lB];by_cases y:i=t
   · subst y;have C:m[i]=(k,K):=by rw[oN f]at n;simpa using n
     simp[f,C]
   · simp[y]
  refine⟨_,?_,⟨x (.map (BS 0 (m.set i (k,v))).toArray m.length) |>.trans (by simp),?_,?_⟩,l _⟩
  · simp only[Instr.mapUpdate,gI,ip J,p9,getObj,Sem.run,z,G];rw[H];have g:(BS 0 m)[i]?=some { key:=Ce k,val:=K,born:=0+i }:=by
     rw[Ea,n];rfl
    have s:((BS 0 m).modify i fun e=>{ key:=Ce k,val:=v,born:=e.born })=BS 0 (m.set i (k,v)):=by
     rw[Su _ _ _ _ _ f];apply kW;intro t;rw[List.getElem?_modify,lB,DH];by_cases y:i=t
     · subst y;simp[g,f]
     · simp[y]
    simp[d,g,Instr.keyThatStays,LW,setObj,Sem.run,z,s]
  · intro p hp;have:p.1∈(m.set i (k,v)).map (·.1):=jl hp;rw[c]at this;obtain⟨q,M,e⟩:=gT.1 this;rw[<-e];exact h.six q M
  · rw[c];exact h.nodup
end
def A1(w:World)(it r n:Nat)(seen:List Nat):Prop:=w.heap[it]?=some (.mapIter (some r) n seen.toArray n)
theorem A1.lt(h:A1 w it r n seen):it<w.heap.size:=by
 rcases gQ it w.heap.size with b|a
 · exact b
 · unfold A1 at h;rw[jw a]at h;cases h
theorem A1.ext(h:A1 w it r n seen)(e:Ext w w'):A1 w' it r n seen:=(e.block h.lt).trans h
theorem A1.kept(h:A1 w it r n seen)(b:w.grownBy w' row)(a:some it≠row):A1 w' it r n seen:=(b.block it h.lt a).trans h
theorem M3{e:MapEntry}(h:e∈BS 0 m):∃ i k v,m[i]?=some (k,v)/\e={ key:=Ce k,val:=v,born:=i }:=by
 obtain⟨i,a⟩:=mY.1 h;rw[Ea]at a;cases b:m[i]? with
 | none=>rw[b]at a;cases a
 | some p =>
  rw[b]at a;refine⟨i,p.1,p.2,b,?_⟩;simpa using a.symm
theorem Gx{e:MapEntry}(h:e∈BS 0 m):e.born<m.length:=by
 obtain⟨i,k,v,a,rfl⟩:=M3 h;rcases gQ i m.length with h|h
 · exact h
 · simp[pu h]at a
theorem KW:∀ (j:Nat) (m:List (List Int×Value)) (i:Nat) (k:List Int) (v:Value),m[i]?=some (k,v)->(BS j m).find? (fun e=>e.born == j+i)=some { key:=Ce k,val:=v,born:=j+i }
 | _,[],_,_,_,h=>by simp at h
 | j,(k',v') :: r,0,k,v,h=>by
  simp only[jB,oQ,lA]at h;obtain⟨rfl,rfl⟩:=h;simp[BS]
 | j,(k',v') :: r,i+1,k,v,h=>by
  have a:=KW (j+1) r i k v (by simpa using h);rw[show j+(i+1)=j+1+i by omega];unfold BS;rw[List.find?_cons_of_neg (by simp;omega)];exact a
section
variable {P:Program} {mt kt vt:TypeId} {w:World}
theorem QH(a:P.underlying mt=some (.map kt vt)){r:Nat}{m:List (List Int×Value)}(h:Bm w r m) :
 (Instr.range mt (.map (some r))).run P w = .ok (.pointer (some ⟨w.heap.size,0,none⟩)) (w.alloc (.mapIter (some r) m.length #[] m.length)):=by
 have b:=h.obj;simp[Instr.range,ip a,getObj,Sem.run,b,newObj]
theorem Sv(h:Bm w r m)(hi:A1 w it r m.length seen) :
 ((∀ i,i<m.length->i∈seen)/\(Instr.next (.pointer (some ⟨it,0,none⟩)) false t).run P w = .ok (.tuple #[.bool false]) w) \/
 ∃ i k v J,i<m.length/\i ∉ seen/\m[i]?=some (k,v)/\(Instr.next (.pointer (some ⟨it,0,none⟩)) false t).run P w = .ok (.tuple #[.bool true,Ce k,v]) J /\
  A1 J it r m.length (seen ++ [i])/\w.grownBy J (some it):=by
 have L:=h.obj;have x:w.heap[it]?=some (.mapIter (some r) m.length seen.toArray m.length):=hi;have g:(!seen.toArray.isEmpty && !(BS 0 m).toArray.isEmpty && (BS 0 m).toArray.all (fun e=>decide (e.born >= m.length)))=false:=by
  cases m with
  | nil=>simp[BS]
  | cons p q =>
   obtain⟨k,v⟩:=p;simp[BS]
 have n:((BS 0 m).toArray.filter (fun e => !seen.toArray.contains e.born)).filter (fun e=>decide (e.born<m.length))=(BS 0 m).toArray.filter (fun e => !seen.toArray.contains e.born):=by
  apply oG;simp only[Array.toList_filter];rw[List.filter_eq_self];intro e he;have:=(mn.1 he).1;simpa using Gx (by simpa using this)
 have l:((BS 0 m).toArray.filter (fun e => !seen.toArray.contains e.born)).filter (fun e=>decide (e.born >= m.length))=#[]:=by
  apply oG;simp only[Array.toList_filter];rw[List.filter_eq_nil_iff];intro e he;have:=(mn.1 he).1;have:=Gx (by simpa using this);simp;omega
 generalize B:(BS 0 m).toArray.filter (fun e => !seen.toArray.contains e.born)=left at *
 have y:∀ e∈left,∃ i k v,m[i]?=some (k,v)/\i ∉ seen/\e={ key:=Ce k,val:=v,born:=i }:=by
  intro e he;rw[<-B]at he;obtain⟨h1,h2⟩:=Array.mem_filter.1 he;obtain⟨i,k,v,C,rfl⟩:=M3 (by simpa using h1);exact⟨i,k,v,C,by simpa using h2,rfl⟩
 by_cases a:left=#[]
 · left;refine⟨?_,?_⟩
   · intro i F;by_cases D:i∈seen
     · exact D
     · exfalso;have:({ key:=Ce m[i].1,val:=m[i].2,born:=i }:MapEntry)∈left:=by
        rw[<-B,Array.mem_filter];refine⟨?_,by simpa using D⟩;rw[List.mem_toArray,mY];exact⟨i,by rw[Ea,oN F];simp⟩
       rw[a]at this;simp at this
   · simp only[Instr.next,gI,getObj,Sem.run,x,L,p9];simp only[g,B,n,l];simp[a,choose,Sem.run,Question.forced]
 · right;have o:0<left.size:=by
    rcases oV left.size with h0|h0
    · exact absurd (Array.eq_empty_of_size_eq_zero h0) a
    · exact h0
   obtain⟨c,d,K,E,f⟩:∃ c d,c<left.size/\(choose (.mapNext left.size)).run P w = .ok c d/\(d=w\/d=w.drew):=by
    by_cases h1:left.size<=1
    · exact⟨0,w,o,by simp[choose,Sem.run,Question.forced,h1],.inl rfl⟩
    · refine⟨w.tape w.drawn (.mapNext left.size)%left.size,w.drew,gE _ o,?_,.inr rfl⟩;simp[choose,Sem.run,Question.forced,h1,Question.cut]
   obtain⟨i,k,v,C,D,he⟩:=y left[c] (Array.getElem_mem K);have G:i<m.length:=by
    rcases gQ i m.length with h|h
    · exact h
    · simp[pu h]at C
   have b:d.heap=w.heap:=by rcases f with rfl | rfl <;> rfl
   have A:d.heap[it]?=some (.mapIter (some r) m.length seen.toArray m.length):=by rw[b];exact x
   refine⟨i,k,v,{ d with heap:=d.heap.setIfInBounds it (.mapIter (some r) m.length (seen.toArray.push i) m.length) },G,D,C,?_,?_,?_⟩
   · simp only[Instr.next,gI,getObj,Sem.run,x,L,p9];simp only[g,B,n,l];have s:((if left.isEmpty=true then #[none]else #[]) ++ (left ++ #[]).map some)=left.map some:=by
      simp[a]
     simp only[s];have I:(left.map some).size=left.size:=by simp
     simp only[I,lT,mI,gI,p9,E];have z:(left.map some)[c]?=some (some { key:=Ce k,val:=v,born:=i }):=by
      rw[Array.getElem?_map,kj K,he];rfl
     simp only[z];simp[setObj,Sem.run,A]
   · show({ d with heap:=d.heap.setIfInBounds it _ }:World).heap[it]?=_;have:it<d.heap.size:=by rw[b];exact hi.lt
     simp only;rw[ni this];simp
   · refine⟨by rcases f with rfl | rfl <;> rfl,by rcases f with rfl | rfl <;> rfl,by rcases f with rfl | rfl <;> rfl,by simp[b],fun j _ H => ?_⟩;have:it≠j:=by rintro rfl;exact H rfl
     simp only;rw[lV this,b]
theorem QI{i:Nat}(h:Bm w r m)(hi:A1 w it r m.length (seen ++ [i]))(c:m[i]?=some (k,v)) :
 (Instr.entry (.pointer (some ⟨it,0,none⟩))).run P w = .ok (.tuple #[Ce k,v]) w:=by
 have d:=h.obj;have a:w.heap[it]?=some (.mapIter (some r) m.length (seen ++ [i]).toArray m.length):=hi;have b:=KW 0 m i k v c;rw[gL]at b;simp[Instr.entry,getObj,Sem.run,a,d,b]
theorem Sw(c:o.guard=none)(e:o.op = .makeMap mt none)
 (d:∀ a,Bm a w.heap.size []->Ext w a->w.heap.size<a.heap.size->wpList P ops Q rest (f.put o.dst (.map (some w.heap.size))) a):wpList P ops Q (o :: rest) f w:=by
 refine iI c fun K b => ?_;unfold Oper.wp execOp;have g:(Instr.makeMap mt none).run P w = .ok (.map (some w.heap.size)) (w.alloc (.map #[] 0)):=by
  simp[Instr.makeMap,newObj,Sem.run]
 simp only[e,od,gI,g,p9,gS,Oper.upon];exact b _ _ (d _ ⟨nw w _,by simp,by simp⟩ ((Ext.refl w).alloc _) (by simp))
theorem WG{y:Operand}(b:o.guard=none)(g:o.op = .lookup mt x y ok)
 (e:P.underlying mt=some (.map kt vt)) (d:Hc P kt et) {z:Value} (l:∀ w,(zeroValue vt).run P w = .ok z w) {r:Nat} {m:List (List Int×Value)} {k:List Int}
 (i:f.eval x = .map (some r)) (j:f.eval y=Ce k) (h:Bm w r m) (h6:k.length=6)
 (c:wpList P ops Q rest (f.put o.dst (if ok then .tuple #[JK z m k,.bool (V3 m k)]else JK z m k)) w):wpList P ops Q (o :: rest) f w:=by
 refine iI b fun K a => ?_;unfold Oper.wp execOp;simp only[g,i,j,gI,Oy e d (l w) h h6 ok,p9,gS,Oper.upon];exact a _ _ c
theorem Vf{y:Operand}(e:o.guard=none)(c:o.op = .mapUpdate mt x y u\/o.op = .insert mt x y u)
 (j:P.underlying mt=some (.map kt vt)) (i:Hc P kt et) {r:Nat} {m:List (List Int×Value)} {k:List Int} {v:Value}
 (l:f.eval x = .map (some r)) (n:f.eval y=Ce k) (hu:f.eval u=v) (h:Bm w r m) (h6:k.length=6)
 (g:∀ b,Bm b r (M2 m k v)->w.grownBy b (some r)->wpList P ops Q rest (f.put o.dst undef) b):wpList P ops Q (o :: rest) f w:=by
 refine iI e fun K d => ?_;obtain⟨b,a,h2,h3⟩:=TS j i h h6 v;unfold Oper.wp execOp;rcases c with c|c
 all_goals
  simp only[c,l,n,hu,gI,a,p9,gS,Oper.upon];exact d _ _ (g b h2 h3)
theorem Sx(c:o.guard=none)(g:o.op = .range mt x)
 (e:P.underlying mt=some (.map kt vt)) {r:Nat} {m:List (List Int×Value)} (i:f.eval x = .map (some r)) (h:Bm w r m)
 (d:∀ a,A1 a w.heap.size r m.length []->Ext w a->w.heap.size<a.heap.size->wpList P ops Q rest (f.put o.dst (.pointer (some ⟨w.heap.size,0,none⟩))) a):wpList P ops Q (o :: rest) f w:=by
 refine iI c fun K b => ?_;unfold Oper.wp execOp;simp only[g,i,gI,QH e h,p9,gS,Oper.upon];exact b _ _ (d _ (nw w _) ((Ext.refl w).alloc _) (by simp))
theorem Px(e:o.guard=none)(j:o.op = .next x false)
 {r d:Nat} {m:List (List Int×Value)} {a:List Nat} (l:f.eval x = .pointer (some ⟨d,0,none⟩)) (h:Bm w r m) (hi:A1 w d r m.length a)
 (h1:(∀ i,i<m.length->i∈a)->wpList P ops Q rest (f.put o.dst (.tuple #[.bool false])) w)
 (h2:∀ i k v c,i<m.length->i ∉ a->m[i]?=some (k,v)->A1 c d r m.length (a ++ [i])->w.grownBy c (some d)->wpList P ops Q rest (f.put o.dst (.tuple #[.bool true,Ce k,v])) c) :
 wpList P ops Q (o :: rest) f w:=by
 refine iI e fun K b => ?_;unfold Oper.wp execOp;rcases Sv (P:=P) (t:=o.type) h hi with⟨z,g⟩|⟨i,k,v,c,n,p,q,g,s,y⟩
 · simp only[j,l,gI,g,p9,gS,Oper.upon];exact b _ _ (h1 z)
 · simp only[j,l,gI,g,p9,gS,Oper.upon];exact b _ _ (h2 i k v c n p q s y)
theorem Sy(c:o.guard=none)(j:o.op = .entry x)
 {r d i:Nat} {m:List (List Int×Value)} {a:List Nat} {k:List Int} {v:Value} (l:f.eval x = .pointer (some ⟨d,0,none⟩)) (h:Bm w r m) (hi:A1 w d r m.length (a ++ [i])) (g:m[i]?=some (k,v))
 (e:wpList P ops Q rest (f.put o.dst (.tuple #[Ce k,v])) w):wpList P ops Q (o :: rest) f w:=by
 refine iI c fun K b => ?_;unfold Oper.wp execOp;simp only[j,l,gI,QI h hi g,p9,gS,Oper.upon];exact b _ _ e
end
end Go.Proofs.YtlbmnokpiilfpaaGreatDoor
namespace Go.Proofs.YtlbmnokpiilfpaaGreatDoor.Pl
variable {x y:Int} {b c e:List Int} {d n:Nat} {a q:Rat}
abbrev Tm:=List Int×Rat
def coef:List Tm->List Int->Rat
 | [],_=>0
 | t :: r,e=>(if t.1=e then t.2 else 0)+coef r e
theorem coef_app(a b:List Tm)(e:List Int):coef (a ++ b) e=coef a e+coef b e:=by
 induction a with
 | nil=>simp[coef];grind
 | cons t r ih=>simp only[jW,coef,ih];grind
theorem coef_perm{a b:List Tm}(h:a.Perm b)(e:List Int):coef a e=coef b e:=by
 induction h with
 | nil=>rfl
 | cons t _ ih=>simp only[coef,ih]
 | swap s t l=>simp only[coef];grind
 | trans _ _ h1 h2=>rw[h1,h2]
def scl(c:Rat)(l:List Tm):List Tm:=l.map (fun t=>(t.1,c*t.2))
theorem coef_scl(c:Rat)(l:List Tm)(e:List Int):coef (scl c l) e=c*coef l e:=by
 induction l with
 | nil=>simp[scl,coef]
 | cons t r ih =>
  have:scl c (t :: r)=(t.1,c*t.2) :: scl c r:=rfl;rw[this];simp only[coef,ih];by_cases h:t.1=e <;> simp[h] <;> grind
def cmpI(x y:Int):Int:=if x<y then -1 else if y<x then 1 else 0
theorem cmpI_zero:cmpI x y=0<->x=y:=by unfold cmpI;split <;> (try split) <;> omega
theorem cmpI_pos:0<cmpI x y<->y<x:=by unfold cmpI;split <;> (try split) <;> omega
theorem M4:cmpI y x = -cmpI x y:=by unfold cmpI;split <;> (try split) <;> omega
def ordR:List Int->List Int->Int
 | x :: r,y :: s=>if x=y then ordR r s else cmpI y x
 | _,_=>0
def ordE(a b:List Int):Int:=if a.sum=b.sum then ordR a.reverse b.reverse else cmpI a.sum b.sum
theorem KX:∀ a:List Int,ordR a a=0
 | []=>rfl
 | x :: r=>by simp[ordR,KX r]
theorem Py:∀ {a b:List Int},a.length=b.length->ordR a b=0->a=b
 | [],[],_,_=>rfl
 | x :: r,y :: s,hl,h=>by
  by_cases e:x=y
  · simp only[ordR,pq e]at h;rw[e,Py (by simpa using hl) h]
  · simp only[ordR,pf e]at h;exact absurd (cmpI_zero.1 h).symm e
theorem KY:∀ (a b:List Int),ordR b a = -ordR a b
 | [],[]=>by simp[ordR]
 | [],_ :: _=>by simp[ordR]
 | _ :: _,[]=>by simp[ordR]
 | x :: r,y :: s=>by
  by_cases e:x=y
  · simp only[ordR,pq e,pq e.symm];exact KY r s
  · simp only[ordR,pf e,pf (fun h:y=x=>e h.symm)];exact M4
theorem JM:∀ {a b c:List Int},0<ordR a b->0<ordR b c->0<ordR a c
 | x :: r,y :: s,z :: t,h1,h2=>by
  by_cases e1:x=y
  · subst e1;by_cases e2:x=z
    · subst e2;simp only[ordR,kJ]at h1 h2 |-;exact JM h1 h2
    · simp only[ordR,pf e2]at h2 |-;exact h2
  · simp only[ordR,pf e1]at h1;by_cases e2:y=z
    · subst e2;simp only[ordR,pf e1];exact h1
    · simp only[ordR,pf e2]at h2;have g1:=cmpI_pos.1 h1;have d:=cmpI_pos.1 h2;simp only[ordR,pf (show ¬ x=z by omega)];exact cmpI_pos.2 (by omega)
 | [],_,_,h1,_=>by simp[ordR]at h1
 | _ :: _,[],_,h1,_=>by simp[ordR]at h1
 | _ :: _,_ :: _,[],_,h2=>by simp[ordR]at h2
theorem ordE_self(a:List Int):ordE a a=0:=by simp[ordE,KX]
theorem ordE_eq{a:List Int}(c:a.length=b.length)(h:ordE a b=0):a=b:=by
 unfold ordE at h;split at h
 · exact List.reverse_inj.1 (Py (by simpa using c) h)
 · rename_i d;exact absurd (cmpI_zero.1 h) d
theorem ordE_anti(a b:List Int):ordE b a = -ordE a b:=by
 unfold ordE;by_cases h:a.sum=b.sum
 · rw[pq h,pq h.symm];exact KY _ _
 · rw[pf h,pf (fun x=>h x.symm)];exact M4
theorem ordE_trans{a:List Int}(h1:0<ordE a b)(h2:0<ordE b c):0<ordE a c:=by
 unfold ordE at *
 by_cases e:a.sum=b.sum
 · rw[pq e]at h1;by_cases d:b.sum=c.sum
   · rw[pq d]at h2;rw[pq (e.trans d)];exact JM h1 h2
   · rw[pf d]at h2;rw[pf (fun h=>d (e.symm.trans h)),e];exact h2
 · rw[pf e]at h1;have f:=cmpI_pos.1 h1;by_cases d:b.sum=c.sum
   · rw[pf (fun h=>e (h.trans d.symm)),<-d];exact h1
   · rw[pf d]at h2;have g:=cmpI_pos.1 h2;rw[pf (by omega)];exact cmpI_pos.2 (by omega)
structure Canon(n:Nat)(l:List Tm):Prop where
 len:∀ t∈l,t.1.length=n
 nz:∀ t∈l,t.2≠0
 desc:l.Pairwise (fun s t=>0<ordE s.1 t.1)
theorem Canon.nil(n:Nat):Canon n []:=⟨by simp,by simp,List.Pairwise.nil⟩
theorem Canon.tail{t:Tm}{r:List Tm}(h:Canon n (t :: r)):Canon n r :=
 ⟨fun s a=>h.len s (by simp[a]),fun s a=>h.nz s (by simp[a]),(iC.1 h.desc).2⟩
theorem coef_absent{l:List Tm}(h:∀ t∈l,t.1≠e):coef l e=0:=by
 induction l with
 | nil=>rfl
 | cons t r ih =>
  simp only[coef,pf (h t (by simp)),ih (fun s a=>h s (by simp[a]))]
  grind
theorem coef_present{l:List Tm}(h:coef l e≠0):∃ t∈l,t.1=e:=by
 refine pm fun a=>h (coef_absent fun t b he=>a ⟨t,b,he⟩)
theorem Canon.head{t:Tm}{r:List Tm}(h:Canon n (t :: r)):coef (t :: r) t.1=t.2:=by
 have:coef r t.1=0:=coef_absent fun s a he=>by
  have:=(iC.1 h.desc).1 s a;rw[he,ordE_self]at this;omega
 simp only[coef,kJ,this]
 grind
theorem Canon.above{t:Tm}{r:List Tm}(h:Canon n (t :: r)){e:List Int}(he:coef (t :: r) e≠0):e=t.1\/0<ordE t.1 e:=by
 obtain⟨s,a,rfl⟩:=coef_present he;rcases gV.1 a with rfl|a
 · exact Or.inl rfl
 · exact Or.inr ((iC.1 h.desc).1 s a)
theorem canon_ext{n:Nat}:∀ {a b:List Tm},Canon n a->Canon n b->(∀ e,coef a e=coef b e)->a=b
 | [],[],_,_,_=>rfl
 | [],t :: r,_,hb,e=>by
  have h1:=hb.head;rw[<-e]at h1;exact absurd h1.symm (hb.nz t (by simp))
 | t :: r,[],ha,_,e=>by
  have h1:=ha.head;rw[e]at h1;exact absurd h1.symm (ha.nz t (by simp))
 | s :: a,t :: b,ha,hb,e=>by
  have h1:=ha.head;have h2:=hb.head;have i:coef (t :: b) s.1≠0:=by rw[<-e,h1];exact ha.nz s (by simp)
  have j:coef (s :: a) t.1≠0:=by rw[e,h2];exact hb.nz t (by simp)
  have f:s.1=t.1:=by
   rcases hb.above i with h|h
   · exact h
   · rcases ha.above j with d | d
     · exact d.symm
     · have:=ordE_anti s.1 t.1;omega
  have g:s.2=t.2:=by rw[<-h1,<-h2,e,f]
  have c:s=t:=Prod.ext f g;subst c
  rw[canon_ext ha.tail hb.tail (fun x=>by
   have:=e x;simp only[coef]at this
   grind)]
theorem rat_mul_parts(a b:Rat):(a*b).num=a.num.tdiv (a.num.natAbs.gcd b.den:Nat)*b.num.tdiv (b.num.natAbs.gcd a.den:Nat)/\(a*b).den=a.den/(b.num.natAbs.gcd a.den)*(b.den/(a.num.natAbs.gcd b.den)):=by
 have h:a*b=Rat.mul a b:=rfl;rw[h,Rat.mul];simp only[Int.divExact_eq_tdiv,Nat.divExact_eq_div,and_self]
theorem rat_mul_whole(a b:Rat)(c:a.den=1)(d:b.den=1):(a*b).num=a.num*b.num/\(a*b).den=1:=by
 have:=rat_mul_parts a b;rw[c,d]at this;simpa using this
theorem rat_add_parts(a b:Rat) :
 (a+b).num=(a.num*((b.den/a.den.gcd b.den:Nat):Int)+b.num*((a.den/a.den.gcd b.den:Nat):Int)).tdiv (((a.num*((b.den/a.den.gcd b.den:Nat):Int)+b.num*((a.den/a.den.gcd b.den:Nat):Int)).natAbs.gcd (a.den.gcd b.den):Nat):Int) /\
 (a+b).den=(a.den/a.den.gcd b.den)*(b.den/((a.num*((b.den/a.den.gcd b.den:Nat):Int)+b.num*((a.den/a.den.gcd b.den:Nat):Int)).natAbs.gcd (a.den.gcd b.den))):=by
 have h:a+b=Rat.add a b:=rfl
 have c:∀ N:Nat,(a.den/a.den.gcd b.den)*(b.den/(N.gcd (a.den.gcd b.den)))=(a.den/a.den.gcd b.den)*b.den/(N.gcd (a.den.gcd b.den)):=fun N =>
  (mG _ (kh (jA _ _) (jA _ _))).symm
 rw[c,h,Rat.add];simp only;split
 · rename_i d;simp[d]
 · rw[Rat.maybeNormalize_eq];exact⟨Int.divExact_eq_tdiv (Int.ofNat_dvd_left.2 (jM _ _)),rfl⟩
theorem rat_eq_mk{n:Int}(a:d≠0)(b:n.natAbs.Coprime d)(h:q=mkRat n d):q.num=n/\q.den=d:=by
 rw[h,Rat.num_mkRat,Rat.den_mkRat,pf a,pf a];have h1:d.gcd n.natAbs=1:=by rw[jF];exact b
 simp[h1]
theorem rat_num_den_zero:q.num=0<->q=0:=Rat.num_eq_zero
theorem rat_frac{n:Int}(a:d≠0):(mkRat n d).num=n.tdiv (n.natAbs.gcd d:Nat)/\(mkRat n d).den=d/(n.natAbs.gcd d):=by
 rw[Rat.num_mkRat,Rat.den_mkRat,pf a,pf a,jF];refine⟨?_,rfl⟩;have h:((n.natAbs.gcd d:Nat):Int)∣n:=by
  have:=jM n.natAbs d;exact Int.ofNat_dvd_left.2 this
 exact(Int.tdiv_eq_ediv_of_dvd h).symm
theorem rat_inv_pos(h:0<a.num):(a⁻¹).num=a.den/\(a⁻¹).den=a.num.natAbs:=by
 have h1:a⁻¹=Rat.inv a:=rfl;rw[h1,Rat.inv];rw[dif_neg (by omega),dif_pos h];exact⟨rfl,rfl⟩
theorem rat_inv_neg(h:a.num<0):(a⁻¹).num = -(a.den:Int)/\(a⁻¹).den=a.num.natAbs:=by
 have h1:a⁻¹=Rat.inv a:=rfl;rw[h1,Rat.inv];rw[dif_pos h];exact⟨rfl,rfl⟩
theorem rat_inv_zero:(0:Rat)⁻¹=0:=by simp
def Hf(m:List Int):Rat->List Tm->Rat
 | c,[]=>c
 | c,t :: r=>if m=t.1 then Hf m (c+t.2) r else c
def Df(m:List Int):List Tm->List Tm
 | []=>[]
 | t :: r=>if m=t.1 then Df m r else t :: r
theorem C4(m:List Int):∀ l:List Tm,(Df m l).length<=l.length
 | []=>lrf _
 | t :: r=>by
  unfold Df;split
  · have:=C4 m r;simp;omega
  · exact lrf _
def grp(l:List Tm):List Tm :=
 match l with
 | []=>[]
 | t :: r=>(if Hf t.1 t.2 r=0 then []else [(t.1,Hf t.1 t.2 r)]) ++ grp (Df t.1 r)
termination_by l.length
decreasing_by
 have:=C4 t.1 r;simp;omega
theorem EA:grp []=[]:=by rw[grp]
theorem Gy(t:Tm)(r:List Tm):grp (t :: r)=(if Hf t.1 t.2 r=0 then []else [(t.1,Hf t.1 t.2 r)]) ++ grp (Df t.1 r):=by rw[grp]
theorem M5(m:List Int):∀ (c:Rat) (l:List Tm) (e:List Int),(if m=e then c else 0)+coef l e=(if m=e then Hf m c l else 0)+coef (Df m l) e
 | c,[],e=>rfl
 | c,t :: r,e=>by
  by_cases h:m=t.1
  · simp only[coef,Hf,Df,pq h];rw[<-M5 m (c+t.2) r e,<-h];by_cases he:m=e <;> simp[he] <;> grind
  · simp only[Hf,Df,pf h]
theorem M6:∀ (n:Nat) (l:List Tm),l.length<=n->∀ e,coef (grp l) e=coef l e
 | 0,l,h,e=>by
  have:l=[]:=oX (by omega);subst this;rw[EA]
 | n+1,[],_,e=>by rw[EA]
 | n+1,t :: r,h,e=>by
  have h1:=C4 t.1 r;rw[Gy,coef_app,M6 n (Df t.1 r) (by simp at h;omega) e];have h2:=M5 t.1 t.2 r e;simp only[coef];rw[h2];congr 1;split
  · rename_i h0;rw[h0];simp[coef]
  · simp only[coef];grind
theorem JN(m:List Int):∀ (l:List Tm) (t:Tm),t∈Df m l->t∈l
 | [],t,h=>h
 | s :: r,t,h=>by
  unfold Df at h;split at h
  · exact lF _ (JN m r t h)
  · exact h
theorem Pz:∀ (n:Nat) (l:List Tm),l.length<=n->∀ t∈grp l,∃ s∈l,s.1=t.1
 | 0,l,h,t,ht=>by
  have:l=[]:=oX (by omega);subst this;rw[EA]at ht;exact absurd ht (by simp)
 | n+1,[],_,t,ht=>by rw[EA]at ht;exact absurd ht (by simp)
 | n+1,s :: r,h,t,ht=>by
  have h1:=C4 s.1 r;rw[Gy]at ht;rcases il.1 ht with ht|ht
  · split at ht
    · exact absurd ht (by simp)
    · simp only[oZ]at ht;subst ht;exact⟨s,by simp,rfl⟩
  · obtain⟨b,a,e⟩:=Pz n (Df s.1 r) (by simp at h;omega) t ht;exact⟨b,lF _ (JN _ _ _ a),e⟩
def desc(l:List Tm):Prop:=l.Pairwise (fun s t=>0<=ordE s.1 t.1)
theorem KZ(m:List Int):∀ l:List Tm,desc l->desc (Df m l)
 | [],h=>h
 | t :: r,h=>by
  unfold Df;split
  · exact KZ m r (iC.1 h).2
  · exact h
theorem JO{n:Nat}(m:List Int)(b:m.length=n):∀ l:List Tm,(∀ t∈l,t.1.length=n)->(∀ t∈l,0<=ordE m t.1)->desc l->∀ t∈Df m l,0<ordE m t.1
 | [],_,_,_,t,ht=>absurd ht (by simp[Df])
 | s :: r,hl,h,hd,t,ht=>by
  unfold Df at ht;by_cases e:m=s.1
  · rw[pq e]at ht;exact JO m b r (fun x a=>hl x (by simp[a])) (fun x a=>h x (by simp[a])) (iC.1 hd).2 t ht
  · rw[pf e]at ht;have h0:0<ordE m s.1:=by
     have h1:=h s (by simp);have h2:ordE m s.1≠0:=fun h0=>e (ordE_eq (by rw[b,hl s (by simp)]) h0);omega
    rcases gV.1 ht with rfl|ht
    · exact h0
    · have h3:=(iC.1 hd).1 t ht;by_cases h4:ordE s.1 t.1=0
      · rw[<-ordE_eq (by rw[hl s (by simp),hl t (by simp[ht])]) h4];exact h0
      · exact ordE_trans h0 (by omega)
theorem K0{n:Nat}:∀ (k:Nat) (l:List Tm),l.length<=k->(∀ t∈l,t.1.length=n)->desc l->Canon n (grp l)
 | 0,l,h,_,_=>by
  have:l=[]:=oX (by omega);subst this;rw[EA];exact Canon.nil n
 | k+1,[],_,_,_=>by rw[EA];exact Canon.nil n
 | k+1,t :: r,h,hl,hd=>by
  have h1:=C4 t.1 r;have b:=iC.1 hd;have d:∀ s∈Df t.1 r,s.1.length=n:=fun s a=>hl s (lF _ (JN _ _ _ a));have c:=K0 k (Df t.1 r) (by simp at h;omega) d (KZ t.1 r b.2);rw[Gy];split
  · exact c
  · rename_i g;refine⟨?_,?_,?_⟩
    · intro s a;rcases gV.1 a with rfl|a
      · exact hl t (by simp)
      · exact c.len s a
    · intro s a;rcases gV.1 a with rfl|a
      · exact g
      · exact c.nz s a
    · refine iC.2 ⟨fun s a => ?_,c.desc⟩;obtain⟨j,f,e⟩:=Pz _ _ (lrf _) s a;rw[<-e];exact JO t.1 (hl t (by simp)) r (fun x i=>hl x (by simp[i])) b.1 b.2 j f
theorem canon_of_sorted{l:List Tm}(c:∀ t∈l,t.1.length=n)(f:∀ t∈l,t.2≠0)(g:desc l)(i:(l.map (·.1)).Nodup):Canon n l:=by
 refine⟨c,f,?_⟩
 induction l with
 | nil=>exact List.Pairwise.nil
 | cons t r ih =>
  have a:=iC.1 g;have b:=kS.1 i;refine iC.2 ⟨fun s d => ?_,ih (fun x e=>c x (by simp[e])) (fun x e=>f x (by simp[e])) a.2 b.2⟩;have h1:=a.1 s d
  have h2:ordE t.1 s.1≠0:=fun h0=>b.1 (by
   show t.1∈_;rw[ordE_eq (by rw[c t (by simp),c s (by simp[d])]) h0]
   exact jl d)
  omega
end Go.Proofs.YtlbmnokpiilfpaaGreatDoor.Pl
namespace Go.Proofs.YtlbmnokpiilfpaaGreatDoor.Pl
variable {e k:List Int} {seen:List Nat} {a b d n:Nat} {p q:Rat}
def posK{α:Type}(k:List Int):Nat->List (List Int×α)->Option (Nat×α)
 | _,[]=>none
 | i,(k',v) :: r=>if k=k' then some (i,v)else posK k (i+1) r
def getK{α:Type}(z:α)(l:List (List Int×α))(k:List Int):α:=((posK k 0 l).map (·.2)).getD z
def putK{α:Type}(l:List (List Int×α))(k:List Int)(v:α):List (List Int×α) :=
 match posK k 0 l with
 | some (i,_)=>l.set i (k,v)
 | none=>l ++ [(k,v)]
theorem Hg{a:Type}(k:List Int):∀ (l:List (List Int×a)) (i:Nat),posK k (i+1) l=(posK k i l).map (fun p=>(p.1+1,p.2))
 | [],_=>rfl
 | (k',v) :: r,i=>by
  unfold posK;by_cases h:k=k'
  · simp[h]
  · simp only[pf h];exact Hg k r (i+1)
theorem Hh{b:Type}(z:b)(a:List Int)(v:b)(r:List (List Int×b))(k:List Int):getK z ((a,v) :: r) k=if k=a then v else getK z r k:=by
 unfold getK;rw[posK];by_cases h:k=a
 · simp[h]
 · simp only[pf h];rw[Hg];cases posK k 0 r <;> rfl
theorem M7{a:Type}(k:List Int)(v:a):putK [] k v=[(k,v)]:=rfl
theorem Fp{b:Type}(a:List Int)(x:b)(r:List (List Int×b))(k:List Int)(v:b):putK ((a,x) :: r) k v=if k=a then(k,v) :: r else(a,x) :: putK r k v:=by
 unfold putK;rw[posK];by_cases h:k=a
 · simp[h]
 · simp only[pf h];rw[Hg];cases hp:posK k 0 r with
   | none=>simp
   | some p=>obtain⟨i,y⟩:=p;simp
theorem putK_length{a:Type}(k:List Int)(v:a):∀ (l:List (List Int×a)),(putK l k v).length<=l.length+1
 | []=>by simp[M7]
 | (k',x) :: r=>by
  rw[Fp];by_cases hk:k=k'
  · simp[hk]
  · have:=putK_length k v r;simp only[pf hk,io];omega
theorem JP{l:List Tm}(h:e ∉ l.map (·.1)):coef l e=0:=coef_absent fun t a he=>h (by rw[<-he];exact jl a)
theorem getK_coef:∀ (l:List Tm) (k:List Int),(l.map (·.1)).Nodup->getK 0 l k=coef l k
 | [],k,_=>rfl
 | (k',q) :: r,k,h=>by
  simp only[iz,kS]at h;rw[Hh];simp only[coef];by_cases hk:k=k'
  · subst hk;rw[pq rfl,pq rfl,JP h.1]
    grind
  · rw[pf hk,pf (fun x=>hk x.symm),getK_coef r k h.2]
    grind
theorem K1(k:List Int)(q:Rat):∀ (l:List Tm),(l.map (·.1)).Nodup->∀ e,coef (putK l k q) e=if k=e then q else coef l e
 | [],_,e=>by
  simp only[M7,coef]
  grind
 | (k',x) :: r,h,e=>by
  simp only[iz,kS]at h;rw[Fp];by_cases hk:k=k'
  · subst hk;rw[pq rfl];simp only[coef];by_cases he:k=e
    · subst he;simp only[kJ];rw[JP h.1]
      grind
    · simp[he]
  · rw[pf hk];simp only[coef,K1 k q r h.2 e];by_cases he:k=e
    · subst he;rw[pf (fun x=>hk x.symm)]
      grind
    · simp[he]
theorem coef_step{l:List Tm}(h:(l.map (·.1)).Nodup)(e:List Int):coef (putK l k (getK 0 l k+q)) e=coef l e+coef [(k,q)] e:=by
 rw[K1 k _ l h e,getK_coef l k h];simp only[coef];by_cases he:k=e
 · subst he;simp;grind
 · simp[he];grind
def RelL{α β:Type}(R:α->β->Prop):List (List Int×α)->List (List Int×β)->Prop
 | [],[]=>True
 | (k,v) :: m,(k',q) :: l=>k=k'/\R v q/\RelL R m l
 | _,_=>False
section
variable {α β:Type} {R R':α->β->Prop}
theorem RelL.mono(h:∀ v q,R v q->R' v q):∀ {m:List (List Int×α)} {l:List (List Int×β)},RelL R m l->RelL R' m l
 | [],[],_=>trivial
 | (_,_) :: _,(_,_) :: _,hr=>⟨hr.1,h _ _ hr.2.1,RelL.mono h hr.2.2⟩
 | [],_ :: _,hr=>hr.elim
 | _ :: _,[],hr=>hr.elim
theorem RelL.len:∀ {m:List (List Int×α)} {l:List (List Int×β)},RelL R m l->m.length=l.length
 | [],[],_=>rfl
 | (_,_) :: _,(_,_) :: _,hr=>by simp[RelL.len hr.2.2]
 | [],_ :: _,hr=>hr.elim
 | _ :: _,[],hr=>hr.elim
theorem RelL.keys:∀ {m:List (List Int×α)} {l:List (List Int×β)},RelL R m l->m.map (·.1)=l.map (·.1)
 | [],[],_=>rfl
 | (_,_) :: _,(_,_) :: _,hr=>by simp[RelL.keys hr.2.2,hr.1]
 | [],_ :: _,hr=>hr.elim
 | _ :: _,[],hr=>hr.elim
theorem RelL.get{z:α}{b:β}(a:R z b)(k:List Int):∀ {m:List (List Int×α)} {l:List (List Int×β)},RelL R m l->R (getK z m k) (getK b l k)
 | [],[],_=>a
 | (k1,v) :: m,(k2,q) :: l,hr=>by
  rw[Hh,Hh,<-hr.1];by_cases h:k=k1
  · simp only[pq h];exact hr.2.1
  · simp only[pf h];exact RelL.get a k hr.2.2
 | [],_ :: _,hr=>hr.elim
 | _ :: _,[],hr=>hr.elim
theorem RelL.put(k:List Int){v:α}{q:β}(a:R v q):∀ {m:List (List Int×α)} {l:List (List Int×β)},RelL R m l->RelL R (putK m k v) (putK l k q)
 | [],[],_=>⟨rfl,a,trivial⟩
 | (k1,x) :: m,(k2,y) :: l,hr=>by
  rw[Fp,Fp,<-hr.1];by_cases h:k=k1
  · simp only[pq h];exact⟨rfl,a,hr.2.2⟩
  · simp only[pf h];exact⟨rfl,hr.2.1,RelL.put k a hr.2.2⟩
 | [],_ :: _,hr=>hr.elim
 | _ :: _,[],hr=>hr.elim
theorem RelL.nth:∀ {m:List (List Int×α)} {l:List (List Int×β)},RelL R m l->∀ {i:Nat} {k:List Int} {v:α},m[i]?=some (k,v)->∃ q,l[i]?=some (k,q)/\R v q
 | [],[],_,i,k,v,h=>by simp at h
 | (k1,x) :: m,(k2,y) :: l,hr,0,k,v,h=>by
  simp only[jB,oQ,lA]at h;obtain⟨rfl,rfl⟩:=h;exact⟨y,by simp[hr.1],hr.2.1⟩
 | (k1,x) :: m,(k2,y) :: l,hr,i+1,k,v,h=>by
  obtain⟨q,h1,h2⟩:=RelL.nth hr.2.2 (i:=i) (by simpa using h);exact⟨q,by simpa using h1,h2⟩
 | [],_ :: _,hr,_,_,_,_=>hr.elim
 | _ :: _,[],hr,_,_,_,_=>hr.elim
end
def picked(l:List Tm)(seen:List Nat):List Tm:=(seen.map (fun i=>l.getD i ([],0))).filter (fun t=>decide (t.2≠0))
theorem picked_snoc(l:List Tm)(a:List Nat)(i:Nat):picked l (a ++ [i])=if(l.getD i ([],0)).2=0 then picked l a else picked l a ++ [l.getD i ([],0)]:=by
 unfold picked;rw[im,List.filter_append];by_cases h:(l.getD i ([],0)).2=0
 · simp only[pq h,iz,jg];rw[List.filter_cons_of_neg (by simpa using h)];simp
 · simp only[pf h,iz,jg];rw[List.filter_cons_of_pos (by simpa using h)];simp
theorem Sz{c:Type}[BEq c][LawfulBEq c]{l k:List c}(f:l.Nodup)(e:k.Nodup)(h:∀ a,a∈l<->a∈k):l.Perm k:=by
 rw[List.perm_iff_count];intro a;have h1:=List.nodup_iff_count.1 f a;have h2:=List.nodup_iff_count.1 e a;have h3:0<l.count a<->a∈l:=List.count_pos_iff;have h4:0<k.count a<->a∈k:=List.count_pos_iff;by_cases b:a∈l
 · have:=h3.2 b;have:=h4.2 ((h a).1 b);omega
 · have g:¬ 0<l.count a:=fun h=>b (h3.1 h);have i:¬ 0<k.count a:=fun d=>b ((h a).2 (h4.1 d));omega
theorem nodup_le{a:Type}[BEq a][LawfulBEq a]:∀ (L M:List a),L.Nodup->(∀ x∈L,x∈M)->L.length<=M.length
 | [],_,_,_=>by simp
 | x :: L,M,hn,hs=>by
  rw[kS]at hn;have hx:x∈M:=hs x (by simp);have:=nodup_le L (M.erase x) hn.2 (fun y b=>(List.mem_erase_of_ne (by rintro rfl;exact hn.1 b)).2 (hs y (by simp[b])));rw[List.length_erase_of_mem hx]at this;have:0<M.length:=mU hx;simp only[io];omega
theorem QJ(c:seen.Nodup)(b:∀ i∈seen,i<n)(a:∀ i,i<n->i∈seen):seen.Perm (List.range n):=by
 refine Sz c List.nodup_range fun i => ?_;rw[lW];exact⟨b i,a i⟩
theorem QK{a:Type}(l:List a)(d:a):(List.range l.length).map (fun i=>l.getD i d)=l:=by
 apply p6
 · simp
 · intro i h1 h2;simp[h2]
theorem picked_perm{l:List Tm}(c:seen.Nodup)(b:∀ i∈seen,i<l.length)(a:∀ i,i<l.length->i∈seen):(picked l seen).Perm (l.filter (fun t=>decide (t.2≠0))):=by
 unfold picked;refine List.Perm.filter _ ?_;have h:=(QJ c b a).map (fun i=>l.getD i ([],0));rw[QK]at h;exact h
theorem picked_len(l:List Tm)(a:List Nat):(picked l a).length<=a.length:=by
 unfold picked;refine oS (List.length_filter_le _ _) ?_;simp
theorem seen_len(c:seen.Nodup)(a:∀ i∈seen,i<n):seen.length<=n:=by
 have h:seen.length<=(List.range n).length:=nodup_le seen _ c (fun i b=>lW.2 (a i b));simpa using h
structure Nrm(l:List Tm):Prop where
 len:∀ t∈l,t.1.length=6
 nz:∀ t∈l,t.2≠0
 nodup:(l.map (·.1)).Nodup
theorem Nrm.nil:Nrm []:=⟨by simp,by simp,by simp⟩
theorem Nrm.perm{a b:List Tm}(h:Nrm a)(p:a.Perm b):Nrm b :=
 ⟨fun t c=>h.len t (p.mem_iff.2 c),fun t c=>h.nz t (p.mem_iff.2 c),(p.map _).nodup_iff.1 h.nodup⟩
theorem Nrm.filter{l:List Tm}(h6:∀ t∈l,t.1.length=6)(b:(l.map (·.1)).Nodup):Nrm (l.filter (fun t=>decide (t.2≠0))):=by
 refine⟨fun t a=>h6 t (mn.1 a).1,fun t a => ?_,?_⟩
 · have:=(mn.1 a).2;simpa using this
 · exact List.Nodup.sublist (List.Sublist.map _ List.filter_sublist) b
theorem coef_nz(l:List Tm)(e:List Int):coef (l.filter (fun t=>decide (t.2≠0))) e=coef l e:=by
 induction l with
 | nil=>rfl
 | cons t r ih =>
  by_cases h:t.2=0
  · rw[List.filter_cons_of_neg (by simpa using h),ih];simp only[coef,h]
    grind
  · rw[List.filter_cons_of_pos (by simpa using h)];simp only[coef,ih]
def RB(b:Nat)(q:Rat):Prop:=q.num.natAbs<P2 b/\q.den<P2 b
theorem RB.mono(h:RB a q)(c:a<=b):RB b q:=⟨Aj h.1 c,Aj h.2 c⟩
theorem RB.zero(h:1<=b):RB b 0:=⟨Ha b,Aj (a:=1) (by decide) h⟩
theorem mkRat_le{n:Int}(a:d≠0):(mkRat n d).num.natAbs<=n.natAbs/\(mkRat n d).den<=d:=by
 obtain⟨h1,h2⟩:=rat_frac (n:=n) a;rw[h1,h2];refine⟨?_,gM _ _⟩;rw[om];exact gM _ _
theorem RB.add(hp:RB a p)(c:RB b q):RB (a+b+1) (p+q):=by
 have h:p+q=mkRat (p.num*q.den+q.num*p.den) (p.den*q.den):=Rat.add_def' p q;obtain⟨h1,h2⟩:=mkRat_le (n:=p.num*q.den+q.num*p.den) (d:=p.den*q.den) (mW p.den_nz q.den_nz);rw[h];constructor
 · refine oR h1 ?_;have e:(p.num*(q.den:Int)).natAbs<P2 (a+b):=by rw[iq];exact BF hp.1 c.2
   have f:(q.num*(p.den:Int)).natAbs<P2 (a+b):=by rw[iq,ju];exact BF c.1 hp.2
   exact oR (mH _ _) (Jz e f)
 · exact Aj (oR h2 (BF hp.2 c.2)) (by omega)
theorem RB.mul(hp:RB a p)(c:RB b q):RB (a+b) (p*q):=by
 have h:p*q=mkRat (p.num*q.num) (p.den*q.den):=Rat.mul_def' p q;obtain⟨h1,h2⟩:=mkRat_le (n:=p.num*q.num) (d:=p.den*q.den) (mW p.den_nz q.den_nz);rw[h];constructor
 · refine oR h1 ?_;rw[iq];exact BF hp.1 c.1
 · exact oR h2 (BF hp.2 c.2)
theorem RB.neg(hp:RB a p):RB a (-p):=⟨by rw[show(-p).num = -p.num from rfl,ki];exact hp.1,hp.2⟩
theorem RB.coef{b:Nat}(a:1<=b)(e:List Int):∀ {l:List Tm},(∀ t∈l,RB b t.2)->RB (l.length*(b+1)+1) (coef l e)
 | [],_=>RB.zero (by omega)
 | t :: r,h=>by
  have h1:RB b (if t.1=e then t.2 else 0):=by
   split
   · exact h t (by simp)
   · exact RB.zero a
  have h2:=RB.add h1 (RB.coef a e (l:=r) (fun s c=>h s (by simp[c])));refine h2.mono ?_;simp only[io,iy];omega
end Go.Proofs.YtlbmnokpiilfpaaGreatDoor.Pl
