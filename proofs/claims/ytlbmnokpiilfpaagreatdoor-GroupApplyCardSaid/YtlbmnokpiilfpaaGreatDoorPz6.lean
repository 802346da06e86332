/- Part Pz6. -/
import Derived.Test.YtlbmnokpiilfpaaGreatDoorPz5
import Derived.WalkKit
import Derived.Lib.ConvBytes
import Derived.Laws.IdiomStrings
import Derived.Lib.ItoaNum
set_option linter.all false
set_option maxRecDepth 100000
set_option maxHeartbeats 100000000
namespace Go.Proofs.YtlbmnokpiilfpaaGreatDoor
open Tryz Go Go.RowKit
def oU:=@UInt8.toNat_inj
def oZ:=@Int.natAbs_tdiv
def pX:=@Int.natAbs_natCast
def qY:=@List.pairwise_cons
def rj:=@List.length_pos_of_mem
def tF:=@Value.pointer.injEq
def tI:=@List.cons.injEq
def vK:=@Int.natAbs_neg
def vf:=@List.foldl_cons
def wI:=@Int.tdiv_one
def wR:=@Nat.mul_div_assoc
def we:=@Int.natAbs_add_le
variable {s t:Bool} {y z:Int} {a x:Nat} {v v':Value} {w w':World}
theorem UC(a:decide (z<0)=s)(b:decide (y<0)=s):z+y=if s=true then -((z.natAbs+y.natAbs:Nat):Int)else((z.natAbs+y.natAbs:Nat):Int):=by
 subst a;by_cases h1:z<0 <;> by_cases h2:y<0 <;> simp[h1,h2]at b |- <;> omega
theorem RF(c:decide (z<0)=s)(d:decide (y<0)=t)(a:s≠t)(b:y.natAbs<=z.natAbs):z+y=if s=true then -((z.natAbs-y.natAbs:Nat):Int)else((z.natAbs-y.natAbs:Nat):Int):=by
 subst c;subst d;by_cases h1:z<0 <;> by_cases h2:y<0 <;> simp[h1,h2]at a |- <;> omega
theorem RG(c:decide (z<0)=s)(d:decide (y<0)=t)(a:s≠t)(b:z.natAbs<y.natAbs):z+y=if t=true then -((y.natAbs-z.natAbs:Nat):Int)else((y.natAbs-z.natAbs:Nat):Int):=by
 subst c;subst d;by_cases h1:z<0 <;> by_cases h2:y<0 <;> simp[h1,h2]at a |- <;> omega
theorem CZ{y:Nat}:0<=AZ (x:Int) (y:Int)<->y<=x:=by
 unfold AZ;split
 · omega
 · split <;> omega
theorem JC(h:AF w v z)(h':AF w v' y)(bz:z.natAbs<P2 9600)(O:y.natAbs<P2 9600):Calls prog 208 #[v,v'] w (EP w (z+y)):=by
 obtain⟨s,a,n,c,rfl,HS,hx⟩:=h;obtain⟨t,b,m,d,rfl,HT,hy⟩:=h';have ag:=fun(g:World) (f:Ext w g)=>qh (Yu (hx.ext f) (hy.ext f) bz O);have ai:=fun(g:World) (f:Ext w g) (x:y.natAbs<=z.natAbs)=>qh (WF (hx.ext f) (hy.ext f) bz x);have aj:=fun(g:World) (f:Ext w g) (x:z.natAbs<=y.natAbs)=>qh (WF (hy.ext f) (hx.ext f) O x);have ah:=fun(g:World) (f:Ext w g)=>qh (WG (hx.ext f) (hy.ext f));clear bz O
 go_enter func208,ntmps208
 go_upto_region 1 with(fail)
 refine CO ?_;intro w0 L a0 a3 ak ap;have a6:=a0.c 0 rfl;have a7:=a0.c 1 rfl;have a8:=a3.c 0 rfl;have a9:=a3.c 1 rfl;have hR:Arr w0 (w.heap.size+2) 83 (Ac false none 0 0):=ak;clear ap;by_cases N:s=t
 · subst N;have al:(s == s)=true:=by simp
   go_wp2;have Q:=fun(g:World) (f:Ext w0 g)=>qh (And.intro (f.cell a6) (And.intro (f.cell a7) (And.intro (f.cell a8) (f.cell a9))))
   refine B0
    [hdP w.heap.size 0,hdB s,hdP w.heap.size 1,hdS a n c,hdP (w.heap.size+1) 1,hdS b m d,hp (fun v g=>∃ i k j,v = .slice i k j/\Wd g i k j (z.natAbs+y.natAbs)),hp (fun v g=>∃ p i k j,v = .agg (Ac p i k j).toArray/\Hid (decide (z+y<0)=p)/\Wd g i k j (z+y).natAbs)]
    ⟨fun v w K e ⟨i,k,j,h1,h2⟩=>⟨i,k,j,h1,h2.ext e⟩,fun v w K e ⟨p,i,k,j,h1,h2,h3⟩=>⟨p,i,k,j,h1,h2,h3.ext e⟩,trivial⟩ ⟨?o0,?o1,?o2,?o3,?o4,?o5,?o6,?o7,trivial⟩ ?fin
   case o0=>exact ofa (d:=0)
   case o1 | o3 | o5=>exact ol
   case o2 | o4=>exact ofa (d:=1)
   case o6 =>
    refine Ag rfl fun ρ g f r C h => ?_;have Y:_=_:=h.2.1;have Z:_=_:=h.2.2.1;obtain⟨G,H,I,J⟩:=(Q g f).out;refine⟨255,#[.slice a n c,.slice b m d],by go_simp,((ag g (L.trans f)).out).mono ?_⟩;rintro e K ⟨i,k,j,rfl,l,o⟩;exact⟨_,rfl,l,i,k,j,rfl,o⟩
   case o7 =>
    refine Ag rfl fun ρ g f r C h => ?_;have Y:_=_:=h.2.1;obtain⟨v2,Z,U,n2,W,rfl,X⟩:=h.2.2.1;obtain⟨G,H,I,J⟩:=(Q g f).out;refine⟨203,#[.bool s,.slice U n2 W],by go_simp,(BR X (z:=z+y) (UC HS.out HT.out)).mono ?_⟩;rintro e K ⟨p,i,k,j,rfl,l,E,o⟩;exact⟨_,rfl,l,p,i,k,j,rfl,E,o⟩
   case fin =>
    intro g f;rintro _ ⟨_,_,_,rfl,_⟩;rintro _ ⟨s1,T,n1,V,rfl,A,F⟩;change wpList _ _ _ _ _ _;simp only[Ci];have q:=hR.ext f
    go_wp2_with(refine Aa (vs:=Ac s1 T n1 V) rfl rfl rfl rfl rfl Ai q rfl (Ae _ _ _ _) ?_;intro w9 B D)
    exact py (Ap rfl Ai rfl B) rfl (BA (L.trans f) q (Ax _ _ _ _) D (by omega) A F)
 · have al:(s == t)=false:=by simpa using N
   go_wp2_with fail
   refine(ah _ L).out.mono ?_;rintro e w1 ⟨rfl,P⟩;have M:=L.trans P.ext;have a4:=hR.ext P.ext;have aa:=P.ext.cell a6;have ab:=P.ext.cell a7;have ac:=P.ext.cell a8;have ad:=P.ext.cell a9;by_cases x:y.natAbs<=z.natAbs
   · have ao:(0:Int)<=AZ (z.natAbs:Int) (y.natAbs:Int):=CZ.2 x;generalize AZ (z.natAbs:Int) (y.natAbs:Int)=cv at *
     go_wp2;have R:=fun(g:World) (f:Ext w1 g)=>qh (And.intro (f.cell aa) (And.intro (f.cell ab) (And.intro (f.cell ac) (f.cell ad))))
     refine B0
      [hdP w.heap.size 0,hdB s,hdP w.heap.size 1,hdS a n c,hdP (w.heap.size+1) 1,hdS b m d,hp (fun v g=>∃ i k j,v = .slice i k j/\Wd g i k j (z.natAbs-y.natAbs)),hp (fun v g=>∃ p i k j,v = .agg (Ac p i k j).toArray/\Hid (decide (z+y<0)=p)/\Wd g i k j (z+y).natAbs)]
      ⟨fun v w K e ⟨i,k,j,h1,h2⟩=>⟨i,k,j,h1,h2.ext e⟩,fun v w K e ⟨p,i,k,j,h1,h2,h3⟩=>⟨p,i,k,j,h1,h2,h3.ext e⟩,trivial⟩ ⟨?o0,?o1,?o2,?o3,?o4,?o5,?o6,?o7,trivial⟩ ?fin
     case o0=>exact ofa (d:=0)
     case o1 | o3 | o5=>exact ol
     case o2 | o4=>exact ofa (d:=1)
     case o6 =>
      refine Ag rfl fun ρ g f r C h => ?_;have Y:_=_:=h.2.1;have Z:_=_:=h.2.2.1;obtain⟨G,H,I,J⟩:=(R g f).out;refine⟨256,#[.slice a n c,.slice b m d],by go_simp,((ai g (M.trans f) x).out).mono ?_⟩;rintro e K ⟨i,k,j,rfl,l,o⟩;exact⟨_,rfl,l,i,k,j,rfl,o⟩
     case o7 =>
      refine Ag rfl fun ρ g f r C h => ?_;have Y:_=_:=h.2.1;obtain⟨v2,Z,U,n2,W,rfl,X⟩:=h.2.2.1;obtain⟨G,H,I,J⟩:=(R g f).out;refine⟨203,#[.bool s,.slice U n2 W],by go_simp,(BR X (z:=z+y) (RF HS.out HT.out N x)).mono ?_⟩;rintro e K ⟨p,i,k,j,rfl,l,E,o⟩;exact⟨_,rfl,l,p,i,k,j,rfl,E,o⟩
     case fin =>
      intro g f;rintro _ ⟨_,_,_,rfl,_⟩;rintro _ ⟨s1,T,n1,V,rfl,A,F⟩;change wpList _ _ _ _ _ _;simp only[Ci];have q:=a4.ext f
      go_wp2_with(refine Aa (vs:=Ac s1 T n1 V) rfl rfl rfl rfl rfl Ai q rfl (Ae _ _ _ _) ?_;intro w9 B D)
      exact py (Ap rfl Ai rfl B) rfl (BA (M.trans f) q (Ax _ _ _ _) D (by omega) A F)
   · have ao:AZ (z.natAbs:Int) (y.natAbs:Int)<0:=by have:=mt CZ.1 x;omega
     have a5:z.natAbs<y.natAbs:=by omega
     generalize AZ (z.natAbs:Int) (y.natAbs:Int)=cv at *
     go_wp2;have S:=fun(g:World) (f:Ext w1 g)=>qh (And.intro (f.cell aa) (And.intro (f.cell ab) (And.intro (f.cell ac) (f.cell ad))))
     refine B0
      [hdP (w.heap.size+1) 0,hdB t,hdP (w.heap.size+1) 1,hdS b m d,hdP w.heap.size 1,hdS a n c,hp (fun v g=>∃ i k j,v = .slice i k j/\Wd g i k j (y.natAbs-z.natAbs)),hp (fun v g=>∃ p i k j,v = .agg (Ac p i k j).toArray/\Hid (decide (z+y<0)=p)/\Wd g i k j (z+y).natAbs)]
      ⟨fun v w K e ⟨i,k,j,h1,h2⟩=>⟨i,k,j,h1,h2.ext e⟩,fun v w K e ⟨p,i,k,j,h1,h2,h3⟩=>⟨p,i,k,j,h1,h2,h3.ext e⟩,trivial⟩ ⟨?o0,?o1,?o2,?o3,?o4,?o5,?o6,?o7,trivial⟩ ?fin
     case o0=>exact ofa (d:=0)
     case o1 | o3 | o5=>exact ol
     case o2 | o4=>exact ofa (d:=1)
     case o6 =>
      refine Ag rfl fun ρ g f r C h => ?_;have Y:_=_:=h.2.1;have Z:_=_:=h.2.2.1;obtain⟨G,H,I,J⟩:=(S g f).out;refine⟨256,#[.slice b m d,.slice a n c],by go_simp,((aj g (M.trans f) (sI a5)).out).mono ?_⟩;rintro e K ⟨i,k,j,rfl,l,o⟩;exact⟨_,rfl,l,i,k,j,rfl,o⟩
     case o7 =>
      refine Ag rfl fun ρ g f r C h => ?_;have Y:_=_:=h.2.1;obtain⟨v2,Z,U,n2,W,rfl,X⟩:=h.2.2.1;obtain⟨G,H,I,J⟩:=(S g f).out;refine⟨203,#[.bool t,.slice U n2 W],by go_simp,(BR X (z:=z+y) (RG HS.out HT.out N a5)).mono ?_⟩;rintro e K ⟨p,i,k,j,rfl,l,E,o⟩;exact⟨_,rfl,l,p,i,k,j,rfl,E,o⟩
     case fin =>
      intro g f;rintro _ ⟨_,_,_,rfl,_⟩;rintro _ ⟨s1,T,n1,V,rfl,A,F⟩;change wpList _ _ _ _ _ _;simp only[Ci];have q:=a4.ext f
      go_wp2_with(refine Aa (vs:=Ac s1 T n1 V) rfl rfl rfl rfl rfl Ai q rfl (Ae _ _ _ _) ?_;intro w9 B D)
      exact py (Ap rfl Ai rfl B) rfl (BA (M.trans f) q (Ax _ _ _ _) D (by omega) A F)
theorem ER(w:World)(cs cs':List Value)(t t':TypeId):Arr ((w.alloc (.cells cs.toArray t)).alloc (.cells cs'.toArray t')) w.heap.size t cs:=(Arr.new w t cs).alloc _
theorem ES(w:World)(cs cs':List Value)(t t':TypeId):Arr ((w.alloc (.cells cs.toArray t)).alloc (.cells cs'.toArray t')) (w.heap.size+1) t' cs':=by
 have:=Arr.new (w.alloc (.cells cs.toArray t)) t' cs';simpa using this
theorem UD(w:World)(o a:Obj):Ext w ((w.alloc o).alloc a):=((Ext.refl w).alloc o).alloc a
theorem UE(c:decide (z<0)=s)(d:decide (y<0)=t):z.tdiv y=if(s != t)=true then -((z.natAbs/y.natAbs:Nat):Int)else((z.natAbs/y.natAbs:Nat):Int):=by
 subst c;subst d;have h0:∀ x:Int,x<0->x = -(x.natAbs:Int):=fun x h=>by omega
 have h1:∀ x:Int,¬ x<0->x=(x.natAbs:Int):=fun x h=>by omega
 by_cases b:z<0 <;> by_cases a:y<0 <;> simp only[b,a,vE,oJ]
 · rw[h0 z b,h0 y a,Int.neg_tdiv_neg,vK,vK,pX,pX];simp
 · rw[h0 z b,h1 y a,Int.neg_tdiv,vK,pX,pX];simp
 · rw[h1 z b,h0 y a,Int.tdiv_neg,vK,pX,pX];simp
 · rw[h1 z b,h1 y a,pX,pX];simp
theorem UF(b:decide (z<0)=s):z.tmod y=if s=true then -((z.natAbs%y.natAbs:Nat):Int)else((z.natAbs%y.natAbs:Nat):Int):=by
 subst b;have c:z.tmod y=z.tmod (y.natAbs:Int):=by
  rcases Int.natAbs_eq y with h|h
  · rw[<-h]
  · rw[h,Int.tmod_neg,vK,pX]
 rw[c];by_cases a:z<0
 · have h0:z = -(z.natAbs:Int):=by omega
   rw[h0,Int.neg_tmod];simp only[vK,pX];rw[<-h0,rt (by omega)];simp[a]
 · have h0:z=(z.natAbs:Int):=by omega
   rw[h0];simp only[pX];rw[rt (by omega),<-h0];simp[a];rw[<-h0]
def UG(w:World)(z y:Int)(e:Ending)(w':World):Prop:=∃ s a n c s' a' n' c',e = .returned (.tuple #[.agg (Ac s a n c).toArray,.agg (Ac s' a' n' c').toArray])/\Ext w w'/\(Hid (decide (z<0)=s)/\Wd w' a n c z.natAbs)/\(Hid (decide (y<0)=s')/\Wd w' a' n' c' y.natAbs)
def Qq(w:World)(z y:Int)(e:Ending)(w':World):Prop:=∃ s a n c s' a' n' c',e = .returned (.tuple #[.agg (Ac s a n c).toArray,.agg (Ac s' a' n' c').toArray])/\Ext w w'/\(Hid (decide (z<0)=s)/\Wd w' a n c z.natAbs)/\(Hid (decide (y<0)=s')/\Wd w' a' n' c' y.natAbs)/\Hg w.heap.size (fun _=>False) a n
theorem Qq.plain{e:Ending}(h:Qq w z y e w'):UG w z y e w':=by
 obtain⟨s,a,n,c,g,b,f,d,h1,h2,h3,h4,_⟩:=h;exact⟨s,a,n,c,g,b,f,d,h1,h2,h3,h4⟩
theorem O8(h:AF w v z)(h':AF w v' y)(bz:z.natAbs<P2 9600)(J:y.natAbs<P2 9600)(a6:y≠0):Calls prog 257 #[v,v'] w (Qq w (z.tdiv y) (z.tmod y)):=by
 obtain⟨s,a,n,c,rfl,HS,hx⟩:=h;obtain⟨t,b,m,d,rfl,HT,hy⟩:=h';have a1:=fun(i:World) (f:Ext w i)=>qh (WH (hx.ext f) (hy.ext f) bz J (by omega));have ac:((m:Int) == 0)=false:=by have:=hy.zero;simp;omega
 clear bz J a6
 go_enter func257,ntmps257
 go_upto_region 1 with(fail)
 refine V9 ?_;intro w0 r K L U V a7;have a8:=K.c 0 rfl;have ad:=K.c 1 rfl;have a9:=L.c 0 rfl;have ag:=L.c 1 rfl;have hR:Arr w0 (w.heap.size+2) 83 (Ac false none 0 0):=U;have Z:Arr w0 (w.heap.size+3) 83 (Ac false none 0 0):=V;clear a7
 go_wp2_with fail
 refine(a1 _ r).out.mono ?_;rintro e w1 ⟨G,I,H,ra,rn,rc,rfl,k,hq,hr,O⟩;have P:=O.of r.size (fun _ h=>h.elim) (S':=fun _=>False);have Y:=r.trans k;have aa:=k.cell a8;have ab:=k.cell a9;go_wp2;have p:=fun(i:World) (f:Ext w1 i)=>qh (And.intro (f.cell aa) (f.cell ab))
 refine B0
  [hdP w.heap.size 0,hdB s,hdP (w.heap.size+1) 0,hdB t,hdB (s != t),hdS G I H,hp (fun v i=>∃ j,v = .agg (Ac j G I H).toArray/\Hid (decide (z.tdiv y<0)=j)/\Wd i G I H (z.tdiv y).natAbs),hdP w.heap.size 0,hdB s,hdS ra rn rc,hp (fun v i=>∃ j D F E,v = .agg (Ac j D F E).toArray/\Hid (decide (z.tmod y<0)=j)/\Wd i D F E (z.tmod y).natAbs)]
  ⟨fun v w w' e ⟨j,h1,h2,h3⟩=>⟨j,h1,h2,h3.ext e⟩,fun v w w' e ⟨j,D,F,E,h1,h2,h3⟩=>⟨j,D,F,E,h1,h2,h3.ext e⟩,trivial⟩ ⟨?o0,?o1,?o2,?o3,?o4,?o5,?o6,?o7,?o8,?o9,?o10,trivial⟩ ?fin
 case o0 | o2 | o7=>exact ofa (d:=0)
 case o1 | o3 | o8=>exact ol
 case o5 | o9=>exact omv
 case o4 =>
  refine Aj rfl fun ρ i f o h => ?_;have e0:_=_:=h.1;have e1:_=_:=h.2.1;obtain⟨Q,R⟩:=(p i f).out;go_simp;cases s <;> cases t <;> rfl
 case o6 =>
  refine Ag rfl fun ρ i f o a3 h => ?_;have e1:_=_:=h.2.1;have e2:_=_:=h.2.2.1;obtain⟨Q,R⟩:=(p i f).out;refine⟨203,#[.bool (s != t),.slice G I H],by go_simp,(FV (hq.ext f) (z:=z.tdiv y) (UE HS.out HT.out)).mono ?_⟩;rintro e w' ⟨j,rfl,q,C,B⟩;exact⟨_,rfl,q,j,rfl,C,B⟩
 case o10 =>
  refine Ag rfl fun ρ i f o a3 h => ?_;have e1:_=_:=h.2.1;have e2:_=_:=h.2.2.1;obtain⟨Q,R⟩:=(p i f).out;refine⟨203,#[.bool s,.slice ra rn rc],by go_simp,(BR (hr.ext f) (z:=z.tmod y) (UF HS.out)).mono ?_⟩;rintro e w' ⟨j,D,F,E,rfl,q,C,B⟩;exact⟨_,rfl,q,j,D,F,E,rfl,C,B⟩
 case fin =>
  intro i f;rintro _ ⟨s1,rfl,S,a4⟩;rintro _ ⟨s2,a2,n2,c2,rfl,T,a5⟩;change wpList _ _ _ _ _ _;simp only[Ci];have x:=(hR.ext k).ext f;have a0:=(Z.ext k).ext f
  go_wp2_with(first
   | (refine Aa (vs:=Ac s1 G I H) rfl rfl rfl rfl rfl Ai x rfl (Ae _ _ _ _) ?_;intro w9 W l;have A:=a0.kept l (by simp))
   | (refine Aa (vs:=Ac s2 a2 n2 c2) rfl rfl rfl rfl rfl Ai A rfl (Ae _ _ _ _) ?_;intro ah M g))
  have N:=W.kept g (by simp);have X:=((Y.trans f).grownR l (by omega)).grownR g (by omega);exact py (Np rfl Ai Ai rfl rfl N M) rfl ⟨s1,G,I,H,s2,a2,n2,c2,rfl,X,⟨S,(a4.kept x (Ax _ _ _ _) l).kept A (Ax _ _ _ _) g⟩,⟨T,(a5.kept x (Ax _ _ _ _) l).kept A (Ax _ _ _ _) g⟩,P⟩
theorem O9{S:Nat->Prop}(h:AF w v z)(O:AF w v' y)(bz:z.natAbs<P2 9600)(p:y.natAbs<P2 9600)(K:y≠0)(hS:Ix S v):Calls prog 209 #[v,v'] w (KZ w S (z.tdiv y)):=by
 have W:=fun(wx:World) (L:Ext w wx)=>qh (O8 (h.ext L) (O.ext L) bz p K);have V:=fun(wx:World) (L:Ext w wx)=>qh (CY (r:=decide (y=1)) (O.ext L) rfl);clear bz p;obtain⟨s,a,n,c,rfl,HS,hx⟩:=h;obtain⟨t,b,m,d,rfl,HT,hy⟩:=O
 go_enter func209,ntmps209
 go_upto_region 1 with(fail)
 refine CO ?_;intro w0 B q x P Z;have a0:=q.c 0 rfl;have a3:=q.c 1 rfl;have a4:=x.c 0 rfl;have a5:=x.c 1 rfl;have hR:Arr w0 (w.heap.size+2) 83 (Ac false none 0 0):=P;clear Z K
 go_wp2_with fail
 refine(V _ B).out.mono ?_;rintro e w1 ⟨rfl,f⟩;have i:=B.trans f;have a6:=f.cell a0;have a7:=f.cell a3;have a8:=f.cell a4;have a9:=f.cell a5;have l:=hR.ext f;by_cases h1:y=1
 · have G:decide (y=1)=true:=by simpa using h1
   have HV:Hid (z.tdiv y=z):=by show _=_;rw[h1,wI]
   rw[G];clear G h1
   go_wp2_with(refine Aa (vs:=Ac s a n c) rfl rfl rfl rfl rfl Ai l rfl (Ae _ _ _ _) ?_;intro w9 j o)
   refine py (Ap rfl Ai rfl j) rfl ?_;rw[HV.out];exact FX i l (Ax _ _ _ _) o (by omega) HS (hx.ext i) (fun h0 g hg=>Or.inr (hS.at h0 g hg))
 · have G:decide (y=1)=false:=by simpa using h1
   rw[G];clear G h1
   go_wp2_with fail
   refine(W _ i).out.mono ?_;rintro e M ⟨s1,a1,n1,c1,s2,a2,n2,c2,rfl,C,⟨N,X⟩,_,J⟩;have D:=l.ext C;have aa:=D.lt;clear a6 a7 a8 a9;have F:=ER M (Ac false none 0 0) (Ac false none 0 0) 83 83;have T:=ES M (Ac false none 0 0) (Ac false none 0 0) 83 83;have R:=UD M (.cells (Ac false none 0 0).toArray 83) (.cells (Ac false none 0 0).toArray 83)
   go_upto_region 4 with(first
    | (refine Aa (vs:=Ac s1 a1 n1 c1) rfl rfl rfl rfl rfl Ai F rfl (Ae _ _ _ _) ?_;intro w3 Q H;have U:=T.kept H (by simp);clear F)
    | (refine Aa (vs:=Ac s2 a2 n2 c2) rfl rfl rfl rfl rfl Ai U rfl (Ae _ _ _ _) ?_;intro w4 ab I))
   have k:Ext M w4:=((R.grownR H (lrf _)).grownR I (by omega));have A:=Q.kept I (by simp);have E:=D.ext k;have Y:=X.ext k;have q0:=A.c 0 rfl;have q1:=A.c 1 rfl
   go_wp2_with(refine Aa (vs:=Ac s1 a1 n1 c1) rfl rfl rfl rfl rfl Ai E rfl (Ae _ _ _ _) ?_;intro w9 j o)
   exact py (Ap rfl Ai rfl j) rfl (FX ((i.trans C).trans k) E (Ax _ _ _ _) o (by omega) N Y (J.of i.size (fun _ h=>h.elim)))
theorem Ep(h:AF w v z)(d:AF w v' y)(c:z.natAbs<P2 9600)(a:y.natAbs<P2 9600)(b:y≠0):Calls prog 209 #[v,v'] w (EP w (z.tdiv y)) :=
 (O9 (S:=fun _=>True) h d c a b (fun _ _ _ _ _ _ _ _=>trivial)).mono fun _ _ h=>h.plain
theorem Cu(h:1<=a):1<P2 a:=by
 obtain⟨b,rfl⟩:∃ b,a=b+1:=⟨a-1,by omega⟩;have:=KW b;rw[Bw];show 1<P2 b*2;omega
end Go.Proofs.YtlbmnokpiilfpaaGreatDoor
namespace Go.Proofs.YtlbmnokpiilfpaaGreatDoor.Pl
variable {x y:Int} {b c e:List Int} {d n:Nat} {a q:Rat}
abbrev Tm:=List Int×Rat
def coef:List Tm->List Int->Rat
 | [],_=>0
 | t :: r,e=>(if t.1=e then t.2 else 0)+coef r e
def lin(F:List Int->Rat):List Tm->Rat
 | []=>0
 | t :: r=>t.2*F t.1+lin F r
theorem coef_app(a b:List Tm)(e:List Int):coef (a ++ b) e=coef a e+coef b e:=by
 induction a with
 | nil=>simp[coef];grind
 | cons t r ih=>simp only[rX,coef,ih];grind
theorem lin_app(F:List Int->Rat)(a b:List Tm):lin F (a ++ b)=lin F a+lin F b:=by
 induction a with
 | nil=>simp[lin];grind
 | cons t r ih=>simp only[rX,lin,ih];grind
theorem coef_perm{a b:List Tm}(h:a.Perm b)(e:List Int):coef a e=coef b e:=by
 induction h with
 | nil=>rfl
 | cons t _ ih=>simp only[coef,ih]
 | swap s t l=>simp only[coef];grind
 | trans _ _ h1 h2=>rw[h1,h2]
theorem coef_lin(l:List Tm)(e:List Int):coef l e=lin (fun m=>if m=e then 1 else 0) l:=by
 induction l with
 | nil=>rfl
 | cons t r ih =>
  simp only[coef,lin,ih];by_cases h:t.1=e <;> simp[h]
theorem Pj(l:List Tm)(m e:List Int):coef (l.filter (fun t=>decide (t.1≠m))) e=if e=m then 0 else coef l e:=by
 induction l with
 | nil=>simp[coef]
 | cons t r ih =>
  by_cases h:t.1=m
  · rw[List.filter_cons_of_neg (by simp[h]),ih];by_cases he:e=m
    · simp[he]
    · simp only[pC he,coef];rw[pC (by rw[h];exact fun x=>he x.symm)]
      grind
  · rw[List.filter_cons_of_pos (by simp[h])];simp only[coef,ih];by_cases he:e=m
    · subst he;simp[h];grind
    · simp[he]
theorem QA(F:List Int->Rat)(l:List Tm)(m:List Int):lin F l=coef l m*F m+lin F (l.filter (fun t=>decide (t.1≠m))):=by
 induction l with
 | nil=>simp[coef,lin];grind
 | cons t r ih =>
  by_cases h:t.1=m
  · rw[List.filter_cons_of_neg (by simp[h])];simp only[coef,lin,h];rw[ih]
    grind
  · rw[List.filter_cons_of_pos (by simp[h])];simp only[coef,lin,pC h];rw[ih]
    grind
theorem Pk(F:List Int->Rat):∀ (n:Nat) (l:List Tm),l.length<=n->(∀ e,coef l e=0)->lin F l=0
 | 0,l,h,_=>by
  have:l=[]:=pG (by omega);subst this;rfl
 | n+1,[],_,_=>rfl
 | n+1,t :: r,h,hz=>by
  rw[QA F (t :: r) t.1,hz t.1];have h1:((t :: r).filter (fun s=>decide (s.1≠t.1))).length<=n:=by
   rw[List.filter_cons_of_neg (by simp)];have:=List.length_filter_le (fun s:Tm=>decide (s.1≠t.1)) r;simp at h;omega
  rw[Pk F n _ h1 (fun e=>by
   rw[Pj,hz e]
   split <;> rfl)]
  grind
def scl(c:Rat)(l:List Tm):List Tm:=l.map (fun t=>(t.1,c*t.2))
theorem coef_scl(c:Rat)(l:List Tm)(e:List Int):coef (scl c l) e=c*coef l e:=by
 induction l with
 | nil=>simp[scl,coef]
 | cons t r ih =>
  have:scl c (t :: r)=(t.1,c*t.2) :: scl c r:=rfl;rw[this];simp only[coef,ih];by_cases h:t.1=e <;> simp[h] <;> grind
theorem Wo(F:List Int->Rat)(c:Rat)(l:List Tm):lin F (scl c l)=c*lin F l:=by
 induction l with
 | nil=>simp[scl,lin]
 | cons t r ih =>
  have:scl c (t :: r)=(t.1,c*t.2) :: scl c r:=rfl;rw[this];simp only[lin,ih]
  grind
theorem lin_ext{F:List Int->Rat}{a b:List Tm}(h:∀ e,coef a e=coef b e):lin F a=lin F b:=by
 have h1:=Pk F _ (a ++ scl (-1) b) (lrf _) (fun e=>by rw[coef_app,coef_scl,h e];grind);rw[lin_app,Wo]at h1
 grind
def cmpI(x y:Int):Int:=if x<y then -1 else if y<x then 1 else 0
theorem cmpI_zero:cmpI x y=0<->x=y:=by unfold cmpI;split <;> (try split) <;> omega
theorem cmpI_pos:0<cmpI x y<->y<x:=by unfold cmpI;split <;> (try split) <;> omega
theorem NO:cmpI y x = -cmpI x y:=by unfold cmpI;split <;> (try split) <;> omega
def ordR:List Int->List Int->Int
 | x :: r,y :: s=>if x=y then ordR r s else cmpI y x
 | _,_=>0
def ordE(a b:List Int):Int:=if a.sum=b.sum then ordR a.reverse b.reverse else cmpI a.sum b.sum
theorem LI:∀ a:List Int,ordR a a=0
 | []=>rfl
 | x :: r=>by simp[ordR,LI r]
theorem QL:∀ {a b:List Int},a.length=b.length->ordR a b=0->a=b
 | [],[],_,_=>rfl
 | x :: r,y :: s,hl,h=>by
  by_cases e:x=y
  · simp only[ordR,pP e]at h;rw[e,QL (by simpa using hl) h]
  · simp only[ordR,pC e]at h;exact absurd (cmpI_zero.1 h).symm e
theorem LJ:∀ (a b:List Int),ordR b a = -ordR a b
 | [],[]=>by simp[ordR]
 | [],_ :: _=>by simp[ordR]
 | _ :: _,[]=>by simp[ordR]
 | x :: r,y :: s=>by
  by_cases e:x=y
  · simp only[ordR,pP e,pP e.symm];exact LJ r s
  · simp only[ordR,pC e,pC (fun h:y=x=>e h.symm)];exact NO
theorem JN:∀ {a b c:List Int},0<ordR a b->0<ordR b c->0<ordR a c
 | x :: r,y :: s,z :: t,h1,h2=>by
  by_cases e1:x=y
  · subst e1;by_cases e2:x=z
    · subst e2;simp only[ordR,tM]at h1 h2 |-;exact JN h1 h2
    · simp only[ordR,pC e2]at h2 |-;exact h2
  · simp only[ordR,pC e1]at h1;by_cases e2:y=z
    · subst e2;simp only[ordR,pC e1];exact h1
    · simp only[ordR,pC e2]at h2;have g1:=cmpI_pos.1 h1;have d:=cmpI_pos.1 h2;simp only[ordR,pC (show ¬ x=z by omega)];exact cmpI_pos.2 (by omega)
 | [],_,_,h1,_=>by simp[ordR]at h1
 | _ :: _,[],_,h1,_=>by simp[ordR]at h1
 | _ :: _,_ :: _,[],_,h2=>by simp[ordR]at h2
theorem ordE_self(a:List Int):ordE a a=0:=by simp[ordE,LI]
theorem ordE_eq{a:List Int}(c:a.length=b.length)(h:ordE a b=0):a=b:=by
 unfold ordE at h;split at h
 · exact List.reverse_inj.1 (QL (by simpa using c) h)
 · rename_i d;exact absurd (cmpI_zero.1 h) d
theorem ordE_anti(a b:List Int):ordE b a = -ordE a b:=by
 unfold ordE;by_cases h:a.sum=b.sum
 · rw[pP h,pP h.symm];exact LJ _ _
 · rw[pC h,pC (fun x=>h x.symm)];exact NO
theorem ordE_trans{a:List Int}(h1:0<ordE a b)(h2:0<ordE b c):0<ordE a c:=by
 unfold ordE at *
 by_cases e:a.sum=b.sum
 · rw[pP e]at h1;by_cases d:b.sum=c.sum
   · rw[pP d]at h2;rw[pP (e.trans d)];exact JN h1 h2
   · rw[pC d]at h2;rw[pC (fun h=>d (e.symm.trans h)),e];exact h2
 · rw[pC e]at h1;have f:=cmpI_pos.1 h1;by_cases d:b.sum=c.sum
   · rw[pC (fun h=>e (h.trans d.symm)),<-d];exact h1
   · rw[pC d]at h2;have g:=cmpI_pos.1 h2;rw[pC (by omega)];exact cmpI_pos.2 (by omega)
structure Canon(n:Nat)(l:List Tm):Prop where
 len:∀ t∈l,t.1.length=n
 nz:∀ t∈l,t.2≠0
 desc:l.Pairwise (fun s t=>0<ordE s.1 t.1)
theorem Canon.nil(n:Nat):Canon n []:=⟨by simp,by simp,List.Pairwise.nil⟩
theorem Canon.tail{t:Tm}{r:List Tm}(h:Canon n (t :: r)):Canon n r :=
 ⟨fun s a=>h.len s (by simp[a]),fun s a=>h.nz s (by simp[a]),(qY.1 h.desc).2⟩
theorem coef_absent{l:List Tm}(h:∀ t∈l,t.1≠e):coef l e=0:=by
 induction l with
 | nil=>rfl
 | cons t r ih =>
  simp only[coef,pC (h t (by simp)),ih (fun s a=>h s (by simp[a]))]
  grind
theorem coef_present{l:List Tm}(h:coef l e≠0):∃ t∈l,t.1=e:=by
 refine pQ fun a=>h (coef_absent fun t b he=>a ⟨t,b,he⟩)
theorem Canon.head{t:Tm}{r:List Tm}(h:Canon n (t :: r)):coef (t :: r) t.1=t.2:=by
 have:coef r t.1=0:=coef_absent fun s a he=>by
  have:=(qY.1 h.desc).1 s a;rw[he,ordE_self]at this;omega
 simp only[coef,tM,this]
 grind
theorem Canon.above{t:Tm}{r:List Tm}(h:Canon n (t :: r)){e:List Int}(he:coef (t :: r) e≠0):e=t.1\/0<ordE t.1 e:=by
 obtain⟨s,a,rfl⟩:=coef_present he;rcases qj.1 a with rfl|a
 · exact Or.inl rfl
 · exact Or.inr ((qY.1 h.desc).1 s a)
theorem canon_ext{n:Nat}:∀ {a b:List Tm},Canon n a->Canon n b->(∀ e,coef a e=coef b e)->a=b
 | [],[],_,_,_=>rfl
 | [],t :: r,_,hb,e=>by
  have h1:=hb.head;rw[<-e]at h1;exact absurd h1.symm (hb.nz t (by simp))
 | t :: r,[],ha,_,e=>by
  have h1:=ha.head;rw[e]at h1;exact absurd h1.symm (ha.nz t (by simp))
 | s :: a,t :: b,ha,hb,e=>by
  have h1:=ha.head;have h2:=hb.head;have i:coef (t :: b) s.1≠0:=by rw[<-e,h1];exact ha.nz s (by simp)
  have j:coef (s :: a) t.1≠0:=by rw[e,h2];exact hb.nz t (by simp)
  have f:s.1=t.1:=by
   rcases hb.above i with h|h
   · exact h
   · rcases ha.above j with d | d
     · exact d.symm
     · have:=ordE_anti s.1 t.1;omega
  have g:s.2=t.2:=by rw[<-h1,<-h2,e,f]
  have c:s=t:=Prod.ext f g;subst c
  rw[canon_ext ha.tail hb.tail (fun x=>by
   have:=e x;simp only[coef]at this
   grind)]
theorem rat_mul_parts(a b:Rat):(a*b).num=a.num.tdiv (a.num.natAbs.gcd b.den:Nat)*b.num.tdiv (b.num.natAbs.gcd a.den:Nat)/\(a*b).den=a.den/(b.num.natAbs.gcd a.den)*(b.den/(a.num.natAbs.gcd b.den)):=by
 have h:a*b=Rat.mul a b:=rfl;rw[h,Rat.mul];simp only[Int.divExact_eq_tdiv,Nat.divExact_eq_div,and_self]
theorem rat_mul_whole(a b:Rat)(c:a.den=1)(d:b.den=1):(a*b).num=a.num*b.num/\(a*b).den=1:=by
 have:=rat_mul_parts a b;rw[c,d]at this;simpa using this
theorem rat_add_parts(a b:Rat) :
 (a+b).num=(a.num*((b.den/a.den.gcd b.den:Nat):Int)+b.num*((a.den/a.den.gcd b.den:Nat):Int)).tdiv (((a.num*((b.den/a.den.gcd b.den:Nat):Int)+b.num*((a.den/a.den.gcd b.den:Nat):Int)).natAbs.gcd (a.den.gcd b.den):Nat):Int) /\
 (a+b).den=(a.den/a.den.gcd b.den)*(b.den/((a.num*((b.den/a.den.gcd b.den:Nat):Int)+b.num*((a.den/a.den.gcd b.den:Nat):Int)).natAbs.gcd (a.den.gcd b.den))):=by
 have h:a+b=Rat.add a b:=rfl
 have c:∀ N:Nat,(a.den/a.den.gcd b.den)*(b.den/(N.gcd (a.den.gcd b.den)))=(a.den/a.den.gcd b.den)*b.den/(N.gcd (a.den.gcd b.den)):=fun N =>
  (wR _ (tT (sR _ _) (sR _ _))).symm
 rw[c,h,Rat.add];simp only;split
 · rename_i d;simp[d]
 · rw[Rat.maybeNormalize_eq];exact⟨Int.divExact_eq_tdiv (Int.ofNat_dvd_left.2 (sZ _ _)),rfl⟩
theorem rat_eq_mk{n:Int}(a:d≠0)(b:n.natAbs.Coprime d)(h:q=mkRat n d):q.num=n/\q.den=d:=by
 rw[h,Rat.num_mkRat,Rat.den_mkRat,pC a,pC a];have h1:d.gcd n.natAbs=1:=by rw[sd];exact b
 simp[h1]
theorem rat_num_den_zero:q.num=0<->q=0:=Rat.num_eq_zero
theorem rat_frac{n:Int}(a:d≠0):(mkRat n d).num=n.tdiv (n.natAbs.gcd d:Nat)/\(mkRat n d).den=d/(n.natAbs.gcd d):=by
 rw[Rat.num_mkRat,Rat.den_mkRat,pC a,pC a,sd];refine⟨?_,rfl⟩;have h:((n.natAbs.gcd d:Nat):Int)∣n:=by
  have:=sZ n.natAbs d;exact Int.ofNat_dvd_left.2 this
 exact(Int.tdiv_eq_ediv_of_dvd h).symm
theorem rat_inv_pos(h:0<a.num):(a⁻¹).num=a.den/\(a⁻¹).den=a.num.natAbs:=by
 have h1:a⁻¹=Rat.inv a:=rfl;rw[h1,Rat.inv];rw[dif_neg (by omega),dif_pos h];exact⟨rfl,rfl⟩
theorem rat_inv_neg(h:a.num<0):(a⁻¹).num = -(a.den:Int)/\(a⁻¹).den=a.num.natAbs:=by
 have h1:a⁻¹=Rat.inv a:=rfl;rw[h1,Rat.inv];rw[dif_pos h];exact⟨rfl,rfl⟩
theorem rat_inv_zero:(0:Rat)⁻¹=0:=by simp
def H7(m:List Int):Rat->List Tm->Rat
 | c,[]=>c
 | c,t :: r=>if m=t.1 then H7 m (c+t.2) r else c
def DH(m:List Int):List Tm->List Tm
 | []=>[]
 | t :: r=>if m=t.1 then DH m r else t :: r
theorem Dr(m:List Int):∀ l:List Tm,(DH m l).length<=l.length
 | []=>lrf _
 | t :: r=>by
  unfold DH;split
  · have:=Dr m r;simp;omega
  · exact lrf _
def grp(l:List Tm):List Tm :=
 match l with
 | []=>[]
 | t :: r=>(if H7 t.1 t.2 r=0 then []else [(t.1,H7 t.1 t.2 r)]) ++ grp (DH t.1 r)
termination_by l.length
decreasing_by
 have:=Dr t.1 r;simp;omega
theorem EW:grp []=[]:=by rw[grp]
theorem GK(t:Tm)(r:List Tm):grp (t :: r)=(if H7 t.1 t.2 r=0 then []else [(t.1,H7 t.1 t.2 r)]) ++ grp (DH t.1 r):=by rw[grp]
theorem NQ(m:List Int):∀ (c:Rat) (l:List Tm) (e:List Int),(if m=e then c else 0)+coef l e=(if m=e then H7 m c l else 0)+coef (DH m l) e
 | c,[],e=>rfl
 | c,t :: r,e=>by
  by_cases h:m=t.1
  · simp only[coef,H7,DH,pP h];rw[<-NQ m (c+t.2) r e,<-h];by_cases he:m=e <;> simp[he] <;> grind
  · simp only[H7,DH,pC h]
theorem NS:∀ (n:Nat) (l:List Tm),l.length<=n->∀ e,coef (grp l) e=coef l e
 | 0,l,h,e=>by
  have:l=[]:=pG (by omega);subst this;rw[EW]
 | n+1,[],_,e=>by rw[EW]
 | n+1,t :: r,h,e=>by
  have h1:=Dr t.1 r;rw[GK,coef_app,NS n (DH t.1 r) (by simp at h;omega) e];have h2:=NQ t.1 t.2 r e;simp only[coef];rw[h2];congr 1;split
  · rename_i h0;rw[h0];simp[coef]
  · simp only[coef];grind
theorem JO(m:List Int):∀ (l:List Tm) (t:Tm),t∈DH m l->t∈l
 | [],t,h=>h
 | s :: r,t,h=>by
  unfold DH at h;split at h
  · exact vI _ (JO m r t h)
  · exact h
theorem QM:∀ (n:Nat) (l:List Tm),l.length<=n->∀ t∈grp l,∃ s∈l,s.1=t.1
 | 0,l,h,t,ht=>by
  have:l=[]:=pG (by omega);subst this;rw[EW]at ht;exact absurd ht (by simp)
 | n+1,[],_,t,ht=>by rw[EW]at ht;exact absurd ht (by simp)
 | n+1,s :: r,h,t,ht=>by
  have h1:=Dr s.1 r;rw[GK]at ht;rcases qd.1 ht with ht|ht
  · split at ht
    · exact absurd ht (by simp)
    · simp only[pF]at ht;subst ht;exact⟨s,by simp,rfl⟩
  · obtain⟨b,a,e⟩:=QM n (DH s.1 r) (by simp at h;omega) t ht;exact⟨b,vI _ (JO _ _ _ a),e⟩
def desc(l:List Tm):Prop:=l.Pairwise (fun s t=>0<=ordE s.1 t.1)
theorem LK(m:List Int):∀ l:List Tm,desc l->desc (DH m l)
 | [],h=>h
 | t :: r,h=>by
  unfold DH;split
  · exact LK m r (qY.1 h).2
  · exact h
theorem JP{n:Nat}(m:List Int)(b:m.length=n):∀ l:List Tm,(∀ t∈l,t.1.length=n)->(∀ t∈l,0<=ordE m t.1)->desc l->∀ t∈DH m l,0<ordE m t.1
 | [],_,_,_,t,ht=>absurd ht (by simp[DH])
 | s :: r,hl,h,hd,t,ht=>by
  unfold DH at ht;by_cases e:m=s.1
  · rw[pP e]at ht;exact JP m b r (fun x a=>hl x (by simp[a])) (fun x a=>h x (by simp[a])) (qY.1 hd).2 t ht
  · rw[pC e]at ht;have h0:0<ordE m s.1:=by
     have h1:=h s (by simp);have h2:ordE m s.1≠0:=fun h0=>e (ordE_eq (by rw[b,hl s (by simp)]) h0);omega
    rcases qj.1 ht with rfl|ht
    · exact h0
    · have h3:=(qY.1 hd).1 t ht;by_cases h4:ordE s.1 t.1=0
      · rw[<-ordE_eq (by rw[hl s (by simp),hl t (by simp[ht])]) h4];exact h0
      · exact ordE_trans h0 (by omega)
theorem LL{n:Nat}:∀ (k:Nat) (l:List Tm),l.length<=k->(∀ t∈l,t.1.length=n)->desc l->Canon n (grp l)
 | 0,l,h,_,_=>by
  have:l=[]:=pG (by omega);subst this;rw[EW];exact Canon.nil n
 | k+1,[],_,_,_=>by rw[EW];exact Canon.nil n
 | k+1,t :: r,h,hl,hd=>by
  have h1:=Dr t.1 r;have b:=qY.1 hd;have d:∀ s∈DH t.1 r,s.1.length=n:=fun s a=>hl s (vI _ (JO _ _ _ a));have c:=LL k (DH t.1 r) (by simp at h;omega) d (LK t.1 r b.2);rw[GK];split
  · exact c
  · rename_i g;refine⟨?_,?_,?_⟩
    · intro s a;rcases qj.1 a with rfl|a
      · exact hl t (by simp)
      · exact c.len s a
    · intro s a;rcases qj.1 a with rfl|a
      · exact g
      · exact c.nz s a
    · refine qY.2 ⟨fun s a => ?_,c.desc⟩;obtain⟨j,f,e⟩:=QM _ _ (lrf _) s a;rw[<-e];exact JP t.1 (hl t (by simp)) r (fun x i=>hl x (by simp[i])) b.1 b.2 j f
theorem canon_of_sorted{l:List Tm}(c:∀ t∈l,t.1.length=n)(f:∀ t∈l,t.2≠0)(g:desc l)(i:(l.map (·.1)).Nodup):Canon n l:=by
 refine⟨c,f,?_⟩
 induction l with
 | nil=>exact List.Pairwise.nil
 | cons t r ih =>
  have a:=qY.1 g;have b:=qL.1 i;refine qY.2 ⟨fun s d => ?_,ih (fun x e=>c x (by simp[e])) (fun x e=>f x (by simp[e])) a.2 b.2⟩;have h1:=a.1 s d
  have h2:ordE t.1 s.1≠0:=fun h0=>b.1 (by
   show t.1∈_;rw[ordE_eq (by rw[c t (by simp),c s (by simp[d])]) h0]
   exact ri d)
  omega
end Go.Proofs.YtlbmnokpiilfpaaGreatDoor.Pl
namespace Go.Proofs.YtlbmnokpiilfpaaGreatDoor.Pl
variable {e k:List Int} {seen:List Nat} {a b d n:Nat} {p q:Rat}
def posK{α:Type}(k:List Int):Nat->List (List Int×α)->Option (Nat×α)
 | _,[]=>none
 | i,(k',v) :: r=>if k=k' then some (i,v)else posK k (i+1) r
def getK{α:Type}(z:α)(l:List (List Int×α))(k:List Int):α:=((posK k 0 l).map (·.2)).getD z
def putK{α:Type}(l:List (List Int×α))(k:List Int)(v:α):List (List Int×α) :=
 match posK k 0 l with
 | some (i,_)=>l.set i (k,v)
 | none=>l ++ [(k,v)]
theorem H8{a:Type}(k:List Int):∀ (l:List (List Int×a)) (i:Nat),posK k (i+1) l=(posK k i l).map (fun p=>(p.1+1,p.2))
 | [],_=>rfl
 | (k',v) :: r,i=>by
  unfold posK;by_cases h:k=k'
  · simp[h]
  · simp only[pC h];exact H8 k r (i+1)
theorem getK_nil{a:Type}(z:a)(k:List Int):getK z [] k=z:=rfl
theorem getK_cons{b:Type}(z:b)(a:List Int)(v:b)(r:List (List Int×b))(k:List Int):getK z ((a,v) :: r) k=if k=a then v else getK z r k:=by
 unfold getK;rw[posK];by_cases h:k=a
 · simp[h]
 · simp only[pC h];rw[H8];cases posK k 0 r <;> rfl
theorem putK_nil{a:Type}(k:List Int)(v:a):putK [] k v=[(k,v)]:=rfl
theorem putK_cons{b:Type}(a:List Int)(x:b)(r:List (List Int×b))(k:List Int)(v:b):putK ((a,x) :: r) k v=if k=a then(k,v) :: r else(a,x) :: putK r k v:=by
 unfold putK;rw[posK];by_cases h:k=a
 · simp[h]
 · simp only[pC h];rw[H8];cases hp:posK k 0 r with
   | none=>simp
   | some p=>obtain⟨i,y⟩:=p;simp
theorem putK_keys{a:Type}(k:List Int)(v:a):∀ (l:List (List Int×a)) (e:List Int),e∈(putK l k v).map (·.1)<->e∈l.map (·.1)\/e=k
 | [],e=>by simp[putK_nil]
 | (k',x) :: r,e=>by
  rw[putK_cons];by_cases h:k=k'
  · simp only[qP,qj,h,tM]
    grind
  · simp only[pC h,qP,qj,putK_keys k v r e]
    grind
theorem putK_nodup{a:Type}(k:List Int)(v:a):∀ (l:List (List Int×a)),(l.map (·.1)).Nodup->((putK l k v).map (·.1)).Nodup
 | [],_=>by simp[putK_nil]
 | (k',x) :: r,h=>by
  rw[putK_cons];simp only[qP,qL]at h;by_cases hk:k=k'
  · subst hk;simp only[tM,qP,qL];exact h
  · simp only[pC hk,qP,qL];refine⟨fun b => ?_,putK_nodup k v r h.2⟩;rcases(putK_keys k v r k').1 b with h1|h1
    · exact h.1 h1
    · exact hk h1.symm
theorem putK_length{a:Type}(k:List Int)(v:a):∀ (l:List (List Int×a)),(putK l k v).length<=l.length+1
 | []=>by simp[putK_nil]
 | (k',x) :: r=>by
  rw[putK_cons];by_cases hk:k=k'
  · simp[hk]
  · have:=putK_length k v r;simp only[pC hk,qk];omega
theorem JQ{l:List Tm}(h:e ∉ l.map (·.1)):coef l e=0:=coef_absent fun t a he=>h (by rw[<-he];exact ri a)
theorem getK_coef:∀ (l:List Tm) (k:List Int),(l.map (·.1)).Nodup->getK 0 l k=coef l k
 | [],k,_=>rfl
 | (k',q) :: r,k,h=>by
  simp only[qP,qL]at h;rw[getK_cons];simp only[coef];by_cases hk:k=k'
  · subst hk;rw[pP rfl,pP rfl,JQ h.1]
    grind
  · rw[pC hk,pC (fun x=>hk x.symm),getK_coef r k h.2]
    grind
theorem LM(k:List Int)(q:Rat):∀ (l:List Tm),(l.map (·.1)).Nodup->∀ e,coef (putK l k q) e=if k=e then q else coef l e
 | [],_,e=>by
  simp only[putK_nil,coef]
  grind
 | (k',x) :: r,h,e=>by
  simp only[qP,qL]at h;rw[putK_cons];by_cases hk:k=k'
  · subst hk;rw[pP rfl];simp only[coef];by_cases he:k=e
    · subst he;simp only[tM];rw[JQ h.1]
      grind
    · simp[he]
  · rw[pC hk];simp only[coef,LM k q r h.2 e];by_cases he:k=e
    · subst he;rw[pC (fun x=>hk x.symm)]
      grind
    · simp[he]
theorem coef_step{l:List Tm}(h:(l.map (·.1)).Nodup)(e:List Int):coef (putK l k (getK 0 l k+q)) e=coef l e+coef [(k,q)] e:=by
 rw[LM k _ l h e,getK_coef l k h];simp only[coef];by_cases he:k=e
 · subst he;simp;grind
 · simp[he];grind
def RelL{α β:Type}(R:α->β->Prop):List (List Int×α)->List (List Int×β)->Prop
 | [],[]=>True
 | (k,v) :: m,(k',q) :: l=>k=k'/\R v q/\RelL R m l
 | _,_=>False
section
variable {α β:Type} {R R':α->β->Prop}
theorem RelL.mono(h:∀ v q,R v q->R' v q):∀ {m:List (List Int×α)} {l:List (List Int×β)},RelL R m l->RelL R' m l
 | [],[],_=>trivial
 | (_,_) :: _,(_,_) :: _,hr=>⟨hr.1,h _ _ hr.2.1,RelL.mono h hr.2.2⟩
 | [],_ :: _,hr=>hr.elim
 | _ :: _,[],hr=>hr.elim
theorem RelL.len:∀ {m:List (List Int×α)} {l:List (List Int×β)},RelL R m l->m.length=l.length
 | [],[],_=>rfl
 | (_,_) :: _,(_,_) :: _,hr=>by simp[RelL.len hr.2.2]
 | [],_ :: _,hr=>hr.elim
 | _ :: _,[],hr=>hr.elim
theorem RelL.keys:∀ {m:List (List Int×α)} {l:List (List Int×β)},RelL R m l->m.map (·.1)=l.map (·.1)
 | [],[],_=>rfl
 | (_,_) :: _,(_,_) :: _,hr=>by simp[RelL.keys hr.2.2,hr.1]
 | [],_ :: _,hr=>hr.elim
 | _ :: _,[],hr=>hr.elim
theorem RelL.get{z:α}{b:β}(a:R z b)(k:List Int):∀ {m:List (List Int×α)} {l:List (List Int×β)},RelL R m l->R (getK z m k) (getK b l k)
 | [],[],_=>a
 | (k1,v) :: m,(k2,q) :: l,hr=>by
  rw[getK_cons,getK_cons,<-hr.1];by_cases h:k=k1
  · simp only[pP h];exact hr.2.1
  · simp only[pC h];exact RelL.get a k hr.2.2
 | [],_ :: _,hr=>hr.elim
 | _ :: _,[],hr=>hr.elim
theorem RelL.put(k:List Int){v:α}{q:β}(a:R v q):∀ {m:List (List Int×α)} {l:List (List Int×β)},RelL R m l->RelL R (putK m k v) (putK l k q)
 | [],[],_=>⟨rfl,a,trivial⟩
 | (k1,x) :: m,(k2,y) :: l,hr=>by
  rw[putK_cons,putK_cons,<-hr.1];by_cases h:k=k1
  · simp only[pP h];exact⟨rfl,a,hr.2.2⟩
  · simp only[pC h];exact⟨rfl,hr.2.1,RelL.put k a hr.2.2⟩
 | [],_ :: _,hr=>hr.elim
 | _ :: _,[],hr=>hr.elim
theorem RelL.nth:∀ {m:List (List Int×α)} {l:List (List Int×β)},RelL R m l->∀ {i:Nat} {k:List Int} {v:α},m[i]?=some (k,v)->∃ q,l[i]?=some (k,q)/\R v q
 | [],[],_,i,k,v,h=>by simp at h
 | (k1,x) :: m,(k2,y) :: l,hr,0,k,v,h=>by
  simp only[sE,pz,sW]at h;obtain⟨rfl,rfl⟩:=h;exact⟨y,by simp[hr.1],hr.2.1⟩
 | (k1,x) :: m,(k2,y) :: l,hr,i+1,k,v,h=>by
  obtain⟨q,h1,h2⟩:=RelL.nth hr.2.2 (i:=i) (by simpa using h);exact⟨q,by simpa using h1,h2⟩
 | [],_ :: _,hr,_,_,_,_=>hr.elim
 | _ :: _,[],hr,_,_,_,_=>hr.elim
end
def picked(l:List Tm)(seen:List Nat):List Tm:=(seen.map (fun i=>l.getD i ([],0))).filter (fun t=>decide (t.2≠0))
theorem picked_snoc(l:List Tm)(a:List Nat)(i:Nat):picked l (a ++ [i])=if(l.getD i ([],0)).2=0 then picked l a else picked l a ++ [l.getD i ([],0)]:=by
 unfold picked;rw[qw,List.filter_append];by_cases h:(l.getD i ([],0)).2=0
 · simp only[pP h,qP,sS];rw[List.filter_cons_of_neg (by simpa using h)];simp
 · simp only[pC h,qP,sS];rw[List.filter_cons_of_pos (by simpa using h)];simp
theorem perm_mem{c:Type}[BEq c][LawfulBEq c]{l k:List c}(f:l.Nodup)(e:k.Nodup)(h:∀ a,a∈l<->a∈k):l.Perm k:=by
 rw[List.perm_iff_count];intro a;have h1:=List.nodup_iff_count.1 f a;have h2:=List.nodup_iff_count.1 e a;have h3:0<l.count a<->a∈l:=List.count_pos_iff;have h4:0<k.count a<->a∈k:=List.count_pos_iff;by_cases b:a∈l
 · have:=h3.2 b;have:=h4.2 ((h a).1 b);omega
 · have g:¬ 0<l.count a:=fun h=>b (h3.1 h);have i:¬ 0<k.count a:=fun d=>b ((h a).2 (h4.1 d));omega
theorem nodup_le{a:Type}[BEq a][LawfulBEq a]:∀ (L M:List a),L.Nodup->(∀ x∈L,x∈M)->L.length<=M.length
 | [],_,_,_=>by simp
 | x :: L,M,hn,hs=>by
  rw[qL]at hn;have hx:x∈M:=hs x (by simp);have:=nodup_le L (M.erase x) hn.2 (fun y b=>(List.mem_erase_of_ne (by rintro rfl;exact hn.1 b)).2 (hs y (by simp[b])));rw[List.length_erase_of_mem hx]at this;have:0<M.length:=rj hx;simp only[qk];omega
theorem RY(c:seen.Nodup)(b:∀ i∈seen,i<n)(a:∀ i,i<n->i∈seen):seen.Perm (List.range n):=by
 refine perm_mem c List.nodup_range fun i => ?_;rw[rg];exact⟨b i,a i⟩
theorem RZ{a:Type}(l:List a)(d:a):(List.range l.length).map (fun i=>l.getD i d)=l:=by
 apply rJ
 · simp
 · intro i h1 h2;simp[h2]
theorem picked_perm{l:List Tm}(c:seen.Nodup)(b:∀ i∈seen,i<l.length)(a:∀ i,i<l.length->i∈seen):(picked l seen).Perm (l.filter (fun t=>decide (t.2≠0))):=by
 unfold picked;refine List.Perm.filter _ ?_;have h:=(RY c b a).map (fun i=>l.getD i ([],0));rw[RZ]at h;exact h
theorem picked_len(l:List Tm)(a:List Nat):(picked l a).length<=a.length:=by
 unfold picked;refine pD (List.length_filter_le _ _) ?_;simp
theorem seen_len(c:seen.Nodup)(a:∀ i∈seen,i<n):seen.length<=n:=by
 have h:seen.length<=(List.range n).length:=nodup_le seen _ c (fun i b=>rg.2 (a i b));simpa using h
structure Nrm(l:List Tm):Prop where
 len:∀ t∈l,t.1.length=6
 nz:∀ t∈l,t.2≠0
 nodup:(l.map (·.1)).Nodup
theorem Nrm.nil:Nrm []:=⟨by simp,by simp,by simp⟩
theorem Nrm.perm{a b:List Tm}(h:Nrm a)(p:a.Perm b):Nrm b :=
 ⟨fun t c=>h.len t (p.mem_iff.2 c),fun t c=>h.nz t (p.mem_iff.2 c),(p.map _).nodup_iff.1 h.nodup⟩
theorem Nrm.filter{l:List Tm}(h6:∀ t∈l,t.1.length=6)(b:(l.map (·.1)).Nodup):Nrm (l.filter (fun t=>decide (t.2≠0))):=by
 refine⟨fun t a=>h6 t (sK.1 a).1,fun t a => ?_,?_⟩
 · have:=(sK.1 a).2;simpa using this
 · exact List.Nodup.sublist (List.Sublist.map _ List.filter_sublist) b
theorem coef_nz(l:List Tm)(e:List Int):coef (l.filter (fun t=>decide (t.2≠0))) e=coef l e:=by
 induction l with
 | nil=>rfl
 | cons t r ih =>
  by_cases h:t.2=0
  · rw[List.filter_cons_of_neg (by simpa using h),ih];simp only[coef,h]
    grind
  · rw[List.filter_cons_of_pos (by simpa using h)];simp only[coef,ih]
def RB(b:Nat)(q:Rat):Prop:=q.num.natAbs<P2 b/\q.den<P2 b
theorem RB.mono(h:RB a q)(c:a<=b):RB b q:=⟨Af h.1 c,Af h.2 c⟩
theorem RB.zero(h:1<=b):RB b 0:=⟨KW b,Af (a:=1) (by decide) h⟩
theorem mkRat_le{n:Int}(a:d≠0):(mkRat n d).num.natAbs<=n.natAbs/\(mkRat n d).den<=d:=by
 obtain⟨h1,h2⟩:=rat_frac (n:=n) a;rw[h1,h2];refine⟨?_,qE _ _⟩;rw[oZ];exact qE _ _
theorem RB.add(hp:RB a p)(c:RB b q):RB (a+b+1) (p+q):=by
 have h:p+q=mkRat (p.num*q.den+q.num*p.den) (p.den*q.den):=Rat.add_def' p q;obtain⟨h1,h2⟩:=mkRat_le (n:=p.num*q.den+q.num*p.den) (d:=p.den*q.den) (Nat.mul_ne_zero p.den_nz q.den_nz);rw[h];constructor
 · refine pJ h1 ?_;have e:(p.num*(q.den:Int)).natAbs<P2 (a+b):=by rw[qW];exact BJ hp.1 c.2
   have f:(q.num*(p.den:Int)).natAbs<P2 (a+b):=by rw[qW,rO];exact BJ c.1 hp.2
   exact pJ (we _ _) (KX e f)
 · exact Af (pJ h2 (BJ hp.2 c.2)) (by omega)
theorem RB.mul(hp:RB a p)(c:RB b q):RB (a+b) (p*q):=by
 have h:p*q=mkRat (p.num*q.num) (p.den*q.den):=Rat.mul_def' p q;obtain⟨h1,h2⟩:=mkRat_le (n:=p.num*q.num) (d:=p.den*q.den) (Nat.mul_ne_zero p.den_nz q.den_nz);rw[h];constructor
 · refine pJ h1 ?_;rw[qW];exact BJ hp.1 c.1
 · exact pJ h2 (BJ hp.2 c.2)
theorem RB.neg(hp:RB a p):RB a (-p):=⟨by rw[show(-p).num = -p.num from rfl,vK];exact hp.1,hp.2⟩
theorem RB.coef{b:Nat}(a:1<=b)(e:List Int):∀ {l:List Tm},(∀ t∈l,RB b t.2)->RB (l.length*(b+1)+1) (coef l e)
 | [],_=>RB.zero (by omega)
 | t :: r,h=>by
  have h1:RB b (if t.1=e then t.2 else 0):=by
   split
   · exact h t (by simp)
   · exact RB.zero a
  have h2:=RB.add h1 (RB.coef a e (l:=r) (fun s c=>h s (by simp[c])));refine h2.mono ?_;simp only[qk,qJ];omega
end Go.Proofs.YtlbmnokpiilfpaaGreatDoor.Pl
namespace Go.Proofs.YtlbmnokpiilfpaaGreatDoor
open Tryz Go Go.RowKit
variable {a f:Act} {ops:Array Oper} {s t:ByteArray} {Q:Exit->Act->World->Prop} {z:Int} {l rest:List Oper} {c i j n:Nat} {o:Oper} {x:Operand} {dst e src:TypeId} {v:Value} {w:World}
def Tp(P:Program)(ops:Array Oper)(o:Oper)(a:Act)(w:World)(u:Value)(w':World):Prop :=
 Region.wanted o (yielded ops a.tmps)=true->match (execOp a.eval o).run P w with | .ok (.value v) wv=>u=v/\w'=wv | .ok .skip wv=>w'=wv | _=>True
section
variable {P:Program} {Q:Exit->Act->World->Prop}
theorem Le{R:Value->World->Prop}{K:Act->World->Prop}(h:Gy P R ((execOp a.eval o).run P w))
 (c:∀ u b,R u b->(match (execOp a.eval o).run P w with | .ok (.value v) wv=>u=v/\b=wv | .ok .skip wv=>b=wv | _=>True)->K (a.put o.dst u) b):o.wp P a w K Q:=by
 unfold Oper.wp;generalize (execOp a.eval o).run P w=r at *
 cases r with
 | ok n b =>
  cases n <;> simp only[Gy]at h <;> simp only[Oper.upon]
  case value u=>exact c u b h ⟨rfl,rfl⟩
  case skip=>exact c undef b h rfl
  case enter f args=>exact h.mono fun e d ⟨u,he,g⟩=>by subst he;exact c u d g trivial
 | halt x b=>simp only[Gy]at h
end
section
variable {P:Program} {ops:Array Oper} {hs:List Hd} {a0:Act} {C:World->Prop} {Q:Exit->Act->World->Prop}
theorem R4(a8:MX P C ops hs a0 0 ops.toList hs)(ag:GZ hs)(ab:∀ w m,Ext w m->C w->C m){listed:Array Bool}{a:Act}{w:World}
 (e:I6 ops hs a0 C listed a w) {i:Nat} (hi:i∈Region.ready .any ops listed) (a2:i<hs.length)
 (ad:∀ o,ops[i]?=some o->EF ops (hs.map (·.cons)) hs.length a0.tmps.size i o) {K:Act->World->Prop}
 (hK:∀ o u m,ops[i]?=some o->(ED C ops hs i o (AQ hs i) w u m\/m=w)->Tp P ops o a w u m->I6 ops hs a0 C (listed.setIfInBounds i true) (a.put o.dst u) m->K (a.put o.dst u) m):wpOp P ops Q i K a w:=by
 obtain⟨h0,o,L,N⟩:=E9 hi;have V:=ad o L;have a1:i<listed.size:=by
  rw[e.size];exact(qH.1 L).1
 have Z:listed.getD i false=false:=by
  simpa[a1]using h0
 have y:listed.getD i false≠true:=by rw[Z];simp
 have R:(listed.setIfInBounds i true).getD i false=true:=by simp[a1]
 have A:obl P C ops hs a0 i o (AQ hs i):=by
  have:=Ou hs ops.toList 0 a8 i o (by simpa using L) a2;simpa[AQ]using this
 -- the operands
 have a9:Cq ops hs a0 o a.eval w o.op.operands.toList:=by
  refine Ke fun x hx => ?_;cases x with
  | tmp t =>
   have a6:t∈Em ops o:=by
    unfold Em PW;rw[qd];left;rw[List.mem_filterMap];exact⟨_,hx,rfl⟩
   simp only[Ln];cases a5:Oo ops o t with
   | none =>
    simp only[Act.eval];refine e.frame t fun j g H n => ?_;rcases V.look t a6 j g n with h|h|h
    · subst h;exact y H
    · exact Kd a5 h n
    · exact y (e.closed j H i h)
   | some j =>
    obtain⟨U,S⟩:=Kc a5;have T:j<hs.length:=by have:=V.lt j U;omega
    have a3:=N j U;simp only;cases f:(AQ hs j).ty with
    | eq c=>exact e.values j c T a3 f t S
    | pr p =>
     obtain⟨v,q,Y⟩:=e.facts j T a3 (by
      intro k D;have:=V.cons j U k (by rw[Ov T];exact D);rcases this with h|h|h
      · subst h;exact Z
      · by_cases E:listed.getD k false=true
        · exact absurd (e.closed k E i h) y
        · simpa using E
      · exact absurd S (h t a6))
     rw[f]at q;exact⟨v,Y t S,q⟩
  | _=>trivial
 -- behind the operation
 have s:∀ u m,C m->(AQ hs i).ty.ok u m ->
  (∀ j,j<hs.length->j≠i->listed.getD j false=true->(∀ k,(AQ hs j).cons=some k->(listed.setIfInBounds i true).getD k false=false)->∀ v,(AQ hs j).ty.ok v w->(AQ hs j).ty.ok v m) ->
  I6 ops hs a0 C (listed.setIfInBounds i true) (a.put o.dst u) m:=by
  intro u m hC hu W;have F:∀ j,j<hs.length->j≠i->∀ d,Bf ops j=some d->(a.put o.dst u).tmps.getD d undef=a.tmps.getD d undef:=by
   intro j g z d n;cases M:o.dst with
   | none=>rfl
   | some d' =>
    rw[CE];have:d'≠d:=by
     rintro rfl;have:=V.apart j g z (by rw[n,M]);rw[M]at this;cases this
    rw[pC (fun h=>this h.1)]
  have O:∀ d,Bf ops i=some d->(a.put o.dst u).tmps.getD d undef=u:=by
   intro d n;rw[B7 L]at n;rw[n,CE,pP ⟨rfl,by rw[e.tmps];exact V.dst d n⟩]
  have r:∀ j,j≠i->(listed.setIfInBounds i true).getD j false=true->listed.getD j false=true:=by
   intro j z h
   rwa[wT false (Ne.symm z)]at h
  refine⟨by rw[pe];exact e.size,?_,?_,hC,by rw[Gz];exact e.defers,by rw[G0];exact e.tmps,?_,?_,?_⟩
  · intro j g;rw[wT false (by omega)];exact e.tailF j g
  · intro j g p hp;by_cases l:j=i
    · subst l;rw[Fa L]at hp;exact tD (N p hp)
    · exact tD (e.closed j (r j l g) p hp)
  · intro t ht;have h1:o.dst≠some t:=by
     have:=ht i a2 R
     rwa[B7 L]at this
    have h2:a.tmps.getD t undef=a0.tmps.getD t undef:=e.frame t fun j g H=>ht j g (tD H);cases M:o.dst with
    | none=>exact h2
    | some d' =>
     rw[CE,pC (fun h=>h1 (by rw[M,h.1]))];exact h2
  · intro j g H I;by_cases l:j=i
    · subst l;exact⟨u,hu,O⟩
    · have a4:=r j l H
      obtain⟨v,q,Y⟩:=e.facts j g a4 (by
       intro k D;have:=I k D;by_cases E:listed.getD k false=true
       · rw[tD E]at this;cases this
       · simpa using E)
      exact⟨v,W j g l a4 I v q,fun d n=>by rw[F j g l d n];exact Y d n⟩
  · intro j c g H f d n;by_cases l:j=i
    · subst l;rw[f]at hu;rw[O d n];exact hu
    · rw[F j g l d n];exact e.values j c g (r j l H) f d n
 -- the guard
 have G:=Oq V.grd (fun j g c f d n=>e.values j c (by have:=V.lt j g;omega) (N j g) f d n);unfold wpOp;rw[L];simp only;unfold obl at A;cases hw:Cr hs o with
 | none=>rw[hw]at A;exact A.elim
 | some b =>
  rw[hw]at A;rw[G b hw];cases b with
  | true =>
   rw[pP rfl];left;refine Le (A a.eval w (J9 a) e.world a9) fun u m B q=>hK o u m L (Or.inl B) (fun _=>q) ?_;unfold ED at B;cases f:(AQ hs i).ty with
   | eq c =>
    rw[f]at B;obtain⟨rfl,rfl⟩:=B;exact s u m e.world (by rw[f];rfl) fun _ _ _ _ _ v q=>q
   | pr p =>
    rw[f]at B;simp only at B;by_cases hmu:(AQ hs i).mu=true
    · rw[pP hmu]at B;obtain⟨aa,ac,hp⟩:=B;refine s u m aa (by rw[f];exact hp) fun j g z H I v q => ?_;cases X:(AQ hs j).ty with
      | eq c=>rw[X]at q;exact q
      | pr p' =>
       rw[<-X];refine Ik ac j (by simpa using g) ?_ v q;have c1:i ∉ anc ops 3 (Cy ops j):=fun h=>y (CM e.closed 3 _ (e.closed j H) i h);have c2:∀ k,(AQ hs j).cons=some k->k≠i/\k ∉ anc ops 3 (B4 o):=by
        intro k D;have J:=I k D;refine⟨?_,fun hm => ?_⟩
        · rintro rfl;rw[R]at J;cases J
        · rw[tD (CM e.closed 3 _ N k hm)]at J;cases J
       unfold D8;rw[X];cases hc:(AQ hs j).cons with
       | none=>simp[z,c1]
       | some k =>
        obtain⟨d1,d2⟩:=c2 k hc;simp[z,c1,d1,d2]
    · rw[pC hmu]at B
      exact s u m (ab w m B.1 e.world) (by rw[f];exact B.2) fun j g _ _ _ v q =>
       Q6 (Il ag _ (by rw[AQ,gqq,oO g];simp)) B.1 q
  | false =>
   simp only[si,tJ];exact hK o undef w L (Or.inr rfl) (fun a7=>by rw[G false hw]at a7;cases a7) (s undef w e.world (A w e.world) fun _ _ _ _ _ v q=>q)
end
section
variable {P:Program} {Q:Exit->Act->World->Prop}
theorem Ia{id:Nat}(hm:P.follows .mixedOrders=true)(C:World->Prop)(b:List Hd)
 (U:CX l.toArray (b.map (·.cons)) a.tmps.size=true)
 (a9:∀ w f,Ext w f->C w->C f) (hC:C w.drew) (aj:GZ b)
 (a6:MX P C l.toArray b a 0 l b) (J:Array Bool->Act->World->Prop) (aa:J (Array.replicate l.toArray.size false) a w.drew)
 (hJ:∀ listed r f i o u O,I6 l.toArray b a C listed r f->J listed r f->i<b.length->l.toArray[i]?=some o->listed.getD i false=false->(∀ p∈B4 o,listed.getD p false=true)->(ED C l.toArray b i o (AQ b i) f u O\/O=f)->Tp P l.toArray o r f u O->I6 l.toArray b a C (listed.setIfInBounds i true) (r.put o.dst u) O->(∀ j,j<b.length->j≠i->AX l.toArray j (r.put o.dst u)=AX l.toArray j r)->(∀ d,o.dst=some d->AX l.toArray i (r.put o.dst u)=u)->J (listed.setIfInBounds i true) (r.put o.dst u) O)
 (Z:∀ f,C f->EE f (fun r=>J ((Array.range l.toArray.size).map (fun j=>decide (j<b.length))) r f->wpList P l.toArray Q (l.drop b.length) r f) l b a):(Code.region id l.toArray true).wp P Q a w:=by
 refine wp_region_any hm ?_;unfold CX at U;simp only[qQ,pH,qX]at U;obtain⟨⟨⟨hn,W⟩,ao⟩,M⟩:=U;have ap:l.toArray.size=l.length:=by simp
 have g:∀ i o,l.toArray[i]?=some o->(i<b.length->EF l.toArray (b.map (·.cons)) b.length a.tmps.size i o)/\(b.length<=i->Ho l.toArray b.length i o=true):=by
  intro i o x;have L:i<l.toArray.size:=(qH.1 x).1;have:=rK.1 W i (by simpa using L);rw[x]at this;simp only at this;refine⟨fun h => ?_,fun h => ?_⟩
  · rw[pP h]at this;exact IJ this
  · rw[pC (by omega)]at this;exact this
 have al:∀ m listed r f,unl listed b.length=m->I6 l.toArray b a C listed r f->J listed r f->wpAny P .any l.toArray Q (m+(l.toArray.size-b.length)) listed r f:=by
  intro m
  induction m with
  | zero =>
   intro listed r f hu e R;have s:=G5 hu;have B:listed=(Array.range l.toArray.size).map (fun j=>decide (j<b.length)):=by
    apply Array.ext
    · rw[e.size];simp
    · intro i h1 h2;simp only[Array.getElem_map,Array.getElem_range];by_cases L:i<b.length
      · have:=s i L;simp[h1]at this;simp[this,L]
      · have:=e.tailF i (by omega);simp[h1]at this;simp[this,L]
   -- the frame
   have ha:r=De (fun j=>match Bf l.toArray j with | some d=>r.tmps.getD d undef | none=>Classical.epsilon (fun v=>(AQ b j).ty.ok v f)) 0 l b a:=by
    apply Q7
    · rw[Gl];exact e.defers
    · rw[IK];exact e.tmps
    · intro t;by_cases S:∃ j o,j<b.length/\l[j]?=some o/\o.dst=some t
      · obtain⟨j,o,D,x,q⟩:=S;have a4:l.toArray[j]?=some o:=by simpa using x
        have A:=(g j o a4).1 D
        rw[Kg b l 0 a j o D x q (A.dst t q) (by
         intro k' o' ah T ab;have a5:l.toArray[k']?=some o':=by simpa using T
         by_cases a3:k'=j
         · exact a3
         · have:=A.apart k' ah a3 (by rw[B7 a5,ab,q]);rw[q]at this
           cases this)]
        rw[qA,B7 a4,q]
      · rw[Fb b l 0 a (fun k o H x q=>S ⟨k,o,H,x,q⟩)];refine e.frame t fun j D _ q=>S ?_;unfold Bf at q;cases x:l.toArray[j]? with
        | none=>rw[x]at q;cases q
        | some o=>rw[x]at q;exact⟨j,o,D,by simpa using x,q⟩
   have K:=Kf (vs:=fun j=>match Bf l.toArray j with | some d=>r.tmps.getD d undef | none=>Classical.epsilon (fun v=>(AQ b j).ty.ok v f)) b l 0 a (Z f e.world)
    (by
     intro k H c X;rw[qA];cases q:Bf l.toArray k with
     | some d=>exact e.values k c H (s k H) X d q
     | none =>
      have:(AQ b k).ty.ok (Classical.epsilon (fun v=>(AQ b k).ty.ok v f)) f:=by
       apply tg (p:=fun v=>(AQ b k).ty.ok v f);refine⟨c,?_⟩;rw[show(AQ b k).ty = .eq c from X];rfl
      have h2:(AQ b k).ty = .eq c:=X;rw[h2]at this;simp only[Ty.ok]at this;rw[h2]
      exact this)
    (by
     intro k H p hp X;rw[qA]
     obtain⟨v,hv,ak⟩:=e.facts k H (s k H) (by
      intro k' Y;have h1:(AQ b k).cons=none:=X;rw[h1]at Y
      cases Y)
     have h2:(AQ b k).ty = .pr p:=hp;cases q:Bf l.toArray k with
     | some d =>
      simp only;rw[ak d q];rw[h2]at hv;exact hv
     | none =>
      have:(AQ b k).ty.ok (Classical.epsilon (fun v=>(AQ b k).ty.ok v f)) f:=tg (p:=fun v=>(AQ b k).ty.ok v f) ⟨v,hv⟩;simp only;rw[h2]at this |-
      exact this)
   rw[<-ha]at K;rw[qA];have hl:(l.drop b.length).length=l.toArray.size-b.length:=by simp
   rw[<-hl];rw[<-hl,<-B]at M;exact wpAny_of_seq (l.drop b.length) b.length listed r f (by intro j;simp) M (K (B ▸ R))
  | succ m ih =>
   intro listed r f hu e R;rw[show m+1+(l.toArray.size-b.length)=(m+(l.toArray.size-b.length))+1 by omega];refine⟨fun F => ?_,fun i L => ?_⟩
   · obtain⟨j,D,G,ag⟩:=G6 (listed:=listed) (n:=b.length) (by omega);have a2:j<l.toArray.size:=by omega
     have x:l.toArray[j]?=some l.toArray[j]:=tl a2;have A:=(g j _ x).1 D
     have:j∈Region.ready .any l.toArray listed:=Ot (by
      have:j<listed.size:=by rw[e.size];exact a2
      simpa[this]using G) x (fun p hp=>ag p (A.lt p hp))
     rw[F]at this;cases this
   · obtain⟨h0,o,x,V⟩:=E9 L;have a1:i<listed.size:=by rw[e.size];exact(qH.1 x).1
     have a0:listed.getD i false=false:=by simpa[a1]using h0
     have z:i<b.length:=by
      rcases qx i b.length with h|h
      · exact h
      · exfalso;have ht:=(g i o x).2 h;unfold Ho at ht;simp only[vG,rK,rg,rC,List.any_eq_true,qQ,qX]at ht;rcases ht with ht|⟨k,H,ai,_⟩
        · obtain⟨j,D,G,_⟩:=G6 (listed:=listed) (n:=b.length) (by omega);rw[CM e.closed 12 (B4 o) V j (ht j D)]at G;cases G
        · have:=V k H;rw[e.tailF k ai]at this;cases this
     refine R4 (by simpa using a6) aj a9 e L z (fun o' T=>(g i o' T).1 z) fun o2 u O y a7 a8 N => ?_;refine ih _ _ O ?_ N (hJ listed r f i o2 u O e R z y a0 (by rw[x]at y;simp only[pz]at y;rw[<-y];exact V) a7 a8 N ?_ ?_);rotate_left
     · intro j D ad;have A:=(g i o2 y).1 z;cases q:o2.dst with
       | none=>rfl
       | some d =>
        unfold AX;cases ac:Bf l.toArray j with
        | none=>rfl
        | some dj =>
         simp only;rw[CE,pC];intro hh;have:=A.apart j D ad (by rw[ac,q,hh.1]);rw[q]at this;cases this
     · intro d q;unfold AX;rw[B7 y,q];simp only;rw[CE,pP ⟨rfl,by rw[e.tmps];exact(g i o2 y).1 z |>.dst d q⟩]
     have:=MZ a1 a0 z;omega
 have I:I6 l.toArray b a C (Array.replicate l.toArray.size false) a w.drew:=by
  have A:∀ j,(Array.replicate l.toArray.size false).getD j false=false:=fun j=>tB _ j;refine⟨by simp,fun j _=>A j,(fun j h=>by rw[A j]at h;cases h),hC,rfl,rfl,fun _ _=>rfl,(fun j _ h=>by rw[A j]at h;cases h),(fun j c _ h=>by rw[A j]at h;cases h)⟩
 have E:unl (Array.replicate l.toArray.size false) b.length=b.length:=by
  have:∀ n,unl (Array.replicate l.toArray.size false) n=n:=by
   intro n
   induction n with
   | zero=>rfl
   | succ n ih=>rw[unl,ih,tB];simp
  exact this _
 have:=al b.length _ a w.drew E I aa
 rwa[show b.length+(l.toArray.size-b.length)=l.toArray.size by omega]at this
end
structure XX(l:List Oper)(k1 k2 s1 j1:Nat)(T:TypeId)(zs:List Value)(base:Nat)(listed:Array Bool)(a:Act)(w:World):Prop where
 p1:listed.getD k1 false=true->∃ g,AX l.toArray k1 a = .pointer (some ⟨g,0,none⟩)/\base<=g/\g<w.heap.size/\(listed.getD s1 false=false->Arr w g T zs)/\(listed.getD s1 false=true->∃ cs:List Value,AX l.toArray j1 a = .agg cs.toArray/\Arr w g T cs)
 p2:listed.getD k2 false=true->∃ g,AX l.toArray k2 a = .pointer (some ⟨g,0,none⟩)/\base<=g/\g<w.heap.size/\Arr w g T zs
 ne:listed.getD k1 false=true->listed.getD k2 false=true->AX l.toArray k1 a≠AX l.toArray k2 a
 js:listed.getD s1 false=true->listed.getD j1 false=true/\listed.getD k1 false=true
 lo:base<=w.heap.size
theorem Ba{listed:Array Bool}(h:j≠i):(listed.setIfInBounds i true).getD j false=listed.getD j false:=by
 have a:¬ i=j:=fun e=>h e.symm;rw[sA,Array.getElem?_setIfInBounds,pC a,sA]
section
variable {P:Program} {Q:Exit->Act->World->Prop}
theorem DR{id:Nat}(hm:P.follows .mixedOrders=true)(C:World->Prop)(y:List Hd)
 (ad:CX l.toArray (y.map (·.cons)) a.tmps.size=true)
 (ar:∀ w q,Ext w q->C w->C q) (hC:C w.drew) (b7:GZ y)
 (ak:MX P C l.toArray y a 0 l y) (s A s1 F:Nat) (T:TypeId) (zs:List Value)
 (hn:s<y.length/\A<y.length/\s1<y.length/\F<y.length) (ax:s≠A/\s≠s1/\A≠s1/\F≠s1/\F≠s/\F≠A)
 (hk:∀ k,k=s\/k=A->∀ o,l.toArray[k]?=some o->o.guard=none/\o.dst.isSome=true/\∀ ρ wx,(execOp ρ o).run P wx = .ok (.value (.pointer (some ⟨wx.heap.size,0,none⟩))) (wx.alloc (.cells zs.toArray T)))
 (b5:∀ o,l.toArray[s1]?=some o->o.guard=none/\o.dst=none/\∃ d1 dj,Bf l.toArray s=some d1/\Bf l.toArray F=some dj/\o.op = .store T (.tmp d1) (.tmp dj))
 (a3:s∈Cy l.toArray s1/\F∈Cy l.toArray s1)
 (b3:∀ i,i<y.length->i≠s1->(AQ y i).mu=false)
 (av:Agg P T zs.length)
 (ab:(AQ y F).cons=none/\∀ v w,(AQ y F).ty.ok v w->∃ cs:List Value,v = .agg cs.toArray/\cs.length=zs.length/\∀ x∈cs,x.oneCell'=true)
 (aj:∀ q,C q->EE q (fun G=>(∃ (g1 g2:Nat) (cs:List Value),AX l.toArray s G = .pointer (some ⟨g1,0,none⟩)/\AX l.toArray A G = .pointer (some ⟨g2,0,none⟩)/\w.heap.size<=g1/\w.heap.size<=g2/\g1≠g2/\AX l.toArray F G = .agg cs.toArray/\Arr q g1 T cs/\Arr q g2 T zs)->wpList P l.toArray Q (l.drop y.length) G q) l y a):(Code.region id l.toArray true).wp P Q a w:=by
 refine Ia hm C y ad ar hC b7 ak (fun f G q=>XX l s A s1 F T zs w.heap.size f G q) ?_ ?_ ?_
 · refine⟨fun h => ?_,fun h => ?_,fun h => ?_,fun h => ?_,lrf _⟩
   all_goals (rw[tB]at h;cases h)
 · intro f G q i o u w2 a4 J b2 ho a1 ag n a5 bb m ao;obtain⟨n1,n2,n3,n4⟩:=hn;obtain⟨d1,d2,d3,d4,d5,d6⟩:=ax;by_cases a2:i=s1
   · subst a2;obtain⟨hg,ba,t1,tj,e1,e2,b4⟩:=b5 o ho;rw[Fa ho]at a3;have Y:=ag s a3.1;have ac:=ag F a3.2;obtain⟨g,a0,ay,aA,b0,_⟩:=J.p1 Y;obtain⟨v,hv,b8⟩:=a4.facts F n4 ac (fun k a8=>by rw[ab.1]at a8;cases a8);obtain⟨cs,rfl,a9,al⟩:=ab.2 v q hv;have ah:=b8 tj e2;have ap:G.tmps.getD t1 undef = .pointer (some ⟨g,0,none⟩):=by
      have:=a0;unfold AX at this;rw[e1]at this;exact this
     have hA:=b0 a1;have U:(execOp G.eval o).run P q = .ok .skip (q.setRow g cs.toArray):=by
      have:=DG (P:=P) (w:=q) (ty:=T) (g:=g) (t:=T) (cs:=zs) (vs:=cs) (by rw[a9];exact av) hA a9.symm al;have e3:G.eval (.tmp t1) = .pointer (some ⟨g,0,none⟩):=ap;have e4:G.eval (.tmp tj) = .agg cs.toArray:=ah;simp only[execOp,b4,e3,e4,q8,this,pK,qz]
     have ai:w2=q.setRow g cs.toArray:=by
      have:=a5 (by unfold Region.wanted;rw[hg]);rw[U]at this;exact this
     have z:q.grownBy w2 (some g):=by rw[ai];exact BK q g _
     have hA2:Arr w2 g T cs:=by rw[ai];exact Cm hA cs
     have L:(f.setIfInBounds i true).getD i false=true:=by
      have:i<f.size:=by rw[a4.size];exact(qH.1 ho).1
      simp[this]
     refine⟨fun _=>⟨g,by rw[m s n1 d2,a0],ay,pS aA z.size,(fun h=>by rw[L]at h;cases h),fun _=>⟨cs,?_,hA2⟩⟩,fun h => ?_,fun h1 h2 => ?_,fun _=>⟨by rw[Ba d4];exact ac,by rw[Ba d2];exact Y⟩,pD J.lo z.size⟩
     · rw[m F n4 d4];unfold AX;rw[e2];exact ah
     · rw[Ba d3]at h;obtain⟨g',B,R,W,Z⟩:=J.p2 h;have E:=J.ne Y h;rw[a0,B]at E;refine⟨g',by rw[m A n2 d3,B],R,pS W z.size,Z.kept z ?_⟩;intro e;simp only[pz]at e;subst e;exact E rfl
     · rw[Ba d3]at h2;rw[m s n1 d2,m A n2 d3];exact J.ne Y h2
   · have hE:Ext q w2:=by
      rcases n with n|n
      · unfold ED at n;cases V:(AQ y i).ty with
        | eq c=>rw[V]at n;rw[n.1];exact Ext.refl _
        | pr p =>
         rw[V]at n;simp only[b3 i b2 a2]at n;exact n.1
      · rw[n];exact Ext.refl _
     have I:(f.setIfInBounds i true).getD s1 false=f.getD s1 false:=Ba (fun e=>a2 e.symm);have L:(f.setIfInBounds i true).getD i false=true:=by
      have:i<f.size:=by rw[a4.size];exact(qH.1 ho).1
      simp[this]
     have X:i=s\/i=A->AX l.toArray i (G.put o.dst u) = .pointer (some ⟨q.heap.size,0,none⟩)/\w2=q.alloc (.cells zs.toArray T):=by
      intro b1;obtain⟨hg,aa,U⟩:=hk i b1 o ho;have:=a5 (by unfold Region.wanted;rw[hg]);rw[U]at this;obtain⟨e1,e2⟩:=this;cases hd:o.dst with
      | none=>rw[hd]at aa;cases aa
      | some d =>
       have:=ao d hd;rw[hd]at this;exact⟨by rw[this,e1],e2⟩
     have a6:s≠i->(f.setIfInBounds i true).getD s false=true->∃ g,AX l.toArray s (G.put o.dst u) = .pointer (some ⟨g,0,none⟩)/\w.heap.size<=g/\g<q.heap.size/\((f.setIfInBounds i true).getD s1 false=false->Arr w2 g T zs)/\((f.setIfInBounds i true).getD s1 false=true->∃ cs:List Value,AX l.toArray F (G.put o.dst u) = .agg cs.toArray/\Arr w2 g T cs):=by
      intro E h;rw[Ba E]at h;obtain⟨g,B,R,W,Z,q5⟩:=J.p1 h;refine⟨g,by rw[m s n1 E,B],R,W,fun hf => ?_,fun ht => ?_⟩
      · rw[I]at hf;exact(Z hf).ext hE
      · rw[I]at ht;obtain⟨cs,S,r2⟩:=q5 ht;have H:F≠i:=by
         rintro rfl;have:=(J.js ht).1;rw[a1]at this;cases this
        exact⟨cs,by rw[m F n4 H,S],r2.ext hE⟩
     have a7:A≠i->(f.setIfInBounds i true).getD A false=true->∃ g,AX l.toArray A (G.put o.dst u) = .pointer (some ⟨g,0,none⟩)/\w.heap.size<=g/\g<q.heap.size/\Arr w2 g T zs:=by
      intro E h;rw[Ba E]at h;obtain⟨g,B,R,W,Z⟩:=J.p2 h;exact⟨g,by rw[m A n2 E,B],R,W,Z.ext hE⟩
     refine⟨fun h => ?_,fun h => ?_,fun h1 h2 => ?_,fun h => ?_,pD J.lo hE.size⟩
     · by_cases N:i=s
       · subst N;obtain⟨S,r2⟩:=X (Or.inl rfl);have b6:f.getD s1 false=false:=by
          cases hh:f.getD s1 false with
          | false=>rfl
          | true=>have:=(J.js hh).2;rw[a1]at this;cases this
         refine⟨q.heap.size,S,J.lo,by rw[r2];simp,fun _=>by rw[r2];exact Arr.new q T zs,fun ht => ?_⟩;rw[I,b6]at ht;cases ht
       · obtain⟨g,B,R,W,Z,q5⟩:=a6 (fun e=>N e.symm) h;exact⟨g,B,R,pS W hE.size,Z,q5⟩
     · by_cases O:i=A
       · subst O;obtain⟨S,r2⟩:=X (Or.inr rfl);exact⟨q.heap.size,S,J.lo,by rw[r2];simp,by rw[r2];exact Arr.new q T zs⟩
       · obtain⟨g,B,R,W,Z⟩:=a7 (fun e=>O e.symm) h;exact⟨g,B,R,pS W hE.size,Z⟩
     · by_cases N:i=s
       · subst N;obtain⟨S,_⟩:=X (Or.inl rfl);obtain⟨g,B,_,W,_⟩:=a7 (fun e=>d1 e.symm) h2;rw[S,B];simp only[ne_eq,tF,pz,qq,qO];omega
       · by_cases O:i=A
         · subst O;obtain⟨S,_⟩:=X (Or.inr rfl);obtain⟨g,B,_,W,_⟩:=a6 d1 h1;rw[S,B];simp only[ne_eq,tF,pz,qq,qO];omega
         · rw[m s n1 (fun e=>N e.symm),m A n2 (fun e=>O e.symm)];rw[Ba (fun e=>N e.symm)]at h1;rw[Ba (fun e=>O e.symm)]at h2;exact J.ne h1 h2
     · rw[I]at h;obtain⟨B,R⟩:=J.js h;constructor
       · by_cases H:F=i
         · rw[H];exact L
         · rw[Ba H];exact B
       · by_cases H:s=i
         · rw[H];exact L
         · rw[Ba H];exact R
 · intro q aq;have h0:=aj q aq;revert h0;have b9:∀ (os:List Oper) (r:List Hd) (b:Act) (K K':Act->Prop),(∀ x,K x->K' x)->EE q K os r b->EE q K' os r b:=by
    intro os
    induction os with
    | nil=>intro r b K K' M h;cases r <;> exact M _ h
    | cons o os ih =>
     intro r b K K' M h;cases r with
     | nil=>exact M _ h
     | cons hd r =>
      simp only[EE]at h |-;cases V:hd.ty with
      | eq c=>rw[V]at h;simp only at h |-; exact ih r _ K K' M h
      | pr p =>
       rw[V]at h;simp only at h |-;cases hc:hd.cons with
       | none=>rw[hc]at h;simp only at h |-; exact fun v hv=>ih r _ K K' M (h v hv)
       | some k=>rw[hc]at h;simp only at h |-; exact fun v=>ih r _ K K' M (h v)
   refine b9 l y a _ _ fun G h0 J=>h0 ?_;have D:∀ j,j<y.length->((Array.range l.toArray.size).map (fun j=>decide (j<y.length))).getD j false=true:=by
    intro j hj;have bd:y.length<=l.toArray.size:=by
     have:=ad;unfold CX at this;simp only[qQ,pH,qX]at this;exact this.1.1.1
    have:j<l.toArray.size:=by omega
    simp only[sA,Array.getElem?_map,Array.getElem?_range,this,tM,qU,pY,qX];exact hj
   obtain⟨n1,n2,n3,n4⟩:=hn;obtain⟨g1,B,R,_,_,q5⟩:=J.p1 (D s n1);obtain⟨g2,S,r2,_,r4⟩:=J.p2 (D A n2);obtain⟨cs,t1,t2⟩:=q5 (D s1 n3);refine⟨g1,g2,cs,B,S,R,r2,?_,t1,t2,r4⟩;have:=J.ne (D s n1) (D A n2);rw[B,S]at this;intro e;subst e;exact this rfl
end
def Vo(z:Int):Value:=if -9223372036854775808<=z/\z<=9223372036854775807 then .tuple #[.int .i64 z,.bool true]else .tuple #[.int .i64 0,.bool false]
theorem Ji(h : -9223372036854775808<=z/\z<=9223372036854775807):Vo z = .tuple #[.int .i64 z,.bool true]:=pP h
theorem GL(h:¬ (-9223372036854775808<=z/\z<=9223372036854775807)):Vo z = .tuple #[.int .i64 0,.bool false]:=pC h
theorem R6(h:AF w v z):Calls prog 193 #[v] w fun e L=>e = .returned (Vo z)/\Ext w L:=by
 obtain⟨s,a,n,c,rfl,I,F⟩:=h;have r:=F.zero;rcases qx n 2 with t|t
 · by_cases G:n=0
   · have l:Hid (Vo z = .tuple #[.int .i64 0,.bool true]):=by
      have h0:z=0:=by have:=r.1 G;omega
      rw[h0];exact qh (Ji (by omega))
     subst G;clear r t
     go_enter func193,ntmps193
     go_upto_region 1 with(fail)
     refine AP ?_;intro E f d g;have m:=d.c 0 rfl;have p:=d.c 1 rfl;clear g;go_wp2
     go_ret2
     exact⟨by rw[l.out];rfl,f⟩
   · have H:n=1:=by omega
     subst H;obtain⟨b,o,rfl,k,N,O⟩:=F.one;have i:(z.natAbs:Int)=if s=true then -z else z:=by have:=I.out;cases s <;> simp at this |- <;> omega
     clear r G t;cases s with
     | true =>
      simp only[tM]at i;by_cases D:z.natAbs<=9223372036854775808
      · have l:=qh (Ji (z:=z) (by omega));have A:IntKind.i64.wrap (IntKind.u64.wrap (-(z.natAbs:Int)))=z:=by rw[rz,IntKind.wrap_i64];omega
        have y:(z.natAbs:Int)<=9223372036854775808:=by omega
        generalize z.natAbs=x at *
        clear D i
        go_enter func193,ntmps193
        go_upto_region 1 with(fail)
        refine AP ?_;intro E f d g;have m:=d.c 0 rfl;have p:=d.c 1 rfl;have q:=f.cell k;clear k;clear g;go_wp2
        go_ret2
        exact⟨by rw[l.out,<-A];rfl,f⟩
      · have l:=qh (GL (z:=z) (by omega));have y:¬ ((z.natAbs:Int)<=9223372036854775808):=by omega
        generalize z.natAbs=x at *
        clear D i
        go_enter func193,ntmps193
        go_upto_region 1 with(fail)
        refine AP ?_;intro E f d g;have m:=d.c 0 rfl;have p:=d.c 1 rfl;have q:=f.cell k;clear k;clear g;go_wp2
        go_ret2
        exact⟨by rw[l.out];rfl,f⟩
     | false =>
      simp only[si,tJ]at i;by_cases D:z.natAbs<=9223372036854775807
      · have l:=qh (Ji (z:=z) (by omega));have A:IntKind.i64.wrap (z.natAbs:Int)=z:=by rw[IntKind.wrap_i64];omega
        have y:(z.natAbs:Int)<=9223372036854775807:=by omega
        generalize z.natAbs=x at *
        clear D i
        go_enter func193,ntmps193
        go_upto_region 1 with(fail)
        refine AP ?_;intro E f d g;have m:=d.c 0 rfl;have p:=d.c 1 rfl;have q:=f.cell k;clear k;clear g;go_wp2
        go_ret2
        exact⟨by rw[l.out,<-A];rfl,f⟩
      · have l:=qh (GL (z:=z) (by omega));have y:¬ ((z.natAbs:Int)<=9223372036854775807):=by omega
        generalize z.natAbs=x at *
        clear D i
        go_enter func193,ntmps193
        go_upto_region 1 with(fail)
        refine AP ?_;intro E f d g;have m:=d.c 0 rfl;have p:=d.c 1 rfl;have q:=f.cell k;clear k;clear g;go_wp2
        go_ret2
        exact⟨by rw[l.out];rfl,f⟩
 · have B:=F.big t;have l:=qh (GL (z:=z) (by omega));obtain⟨M,h1,h2⟩:=F;obtain⟨b,o,rfl,C⟩:=h1.at (j:=0) (by omega);have k:=C 0 (by omega);rw[qy]at k;have K:((n:Int) == 0)=false:=by simp;omega
   have J:(1:Int)<(n:Int):=by omega
   generalize M.getD 0 0=x at *
   clear B r C
   go_enter func193,ntmps193
   go_upto_region 1 with(fail)
   refine AP ?_;intro E f d g;have m:=d.c 0 rfl;have p:=d.c 1 rfl;have q:=f.cell k;clear k;clear g;go_wp2
   go_ret2
   exact⟨by rw[l.out];rfl,f⟩
def A2(b:UInt8):Value := .int .u8 (b.toNat:Int)
def An(s:ByteArray):List UInt8:=s.data.toList
theorem Ay(s:ByteArray):(An s).length=s.size:=by unfold An;rw[Array.length_toList];rfl
theorem Cw(l:List UInt8):An ⟨l.toArray⟩=l:=rfl
theorem EX(h:An s=An t):s=t:=by
 cases s with | mk a=>cases t with | mk b =>
 unfold An at h;simp only at h;have:=pm h;rw[this]
theorem Bc(s:ByteArray)(i j:Nat):An (s.extract i j)=((An s).drop i).take (j-i):=by
 unfold An;rw[ByteArray.data_extract,Array.toList_extract]
theorem LN(l:List UInt8):∀ v∈l.map A2,v.oneCell'=true:=by
 intro v a;obtain⟨b,_,rfl⟩:=pU.1 a;rfl
section
variable {P:Program} {w:World}
theorem NW{u:TypeDesc}(j:P.underlying src=some u)(d:P.underlying dst=some (.slice e))(he:P.underlying e=some (.int .u8))(g:s.size<=maxLen) :
 ∃ c a,(convert src dst (.string s)).run P w = .ok (.slice (some ⟨w.heap.size,0,none⟩) s.size c) a/\Ext w a/\Sl a (some ⟨w.heap.size,0,none⟩) s.size c ((An s).map A2):=by
 refine⟨_,_,Lib.run_convert_string_bytes w src dst e s j d he,?_,?_⟩
 · refine⟨rfl,rfl,rfl,by rw[Lib.bytesWorld_size];omega,fun k f=>Lib.bytesWorld_at_old w e s k f⟩
 · refine⟨by rw[pH,Ay],grownCap_ge w s.size 0 e,grownCap_le_maxLen w s.size 0 e g,fun _=>⟨w.heap.size,0,rfl,fun i b => ?_⟩⟩;rw[qA,Lib.bytesWorld_cell w e s i b];have h1:i<(An s).length:=by rw[Ay];exact b
   have h2:s.data.toList.getD i 0=(An s)[i]:=by
    show(An s).getD i 0=_;rw[gqq,oO h1];rfl
   rw[h2];simp[h1,A2]
theorem PH(g:o.guard=none)(l:o.op = .convert src dst x)
 {e:TypeId} {s:ByteArray} {u:TypeDesc} (m:P.underlying src=some u) (j:P.underlying dst=some (.slice e)) (he:P.underlying e=some (.int .u8)) (n:f.eval x = .string s) (k:s.size<=maxLen)
 (i:∀ c b,Ext w b->Sl b (some ⟨w.heap.size,0,none⟩) s.size c ((An s).map A2)->wpList P ops Q rest (f.put o.dst (.slice (some ⟨w.heap.size,0,none⟩) s.size c)) b):wpList P ops Q (o :: rest) f w:=by
 refine qT g fun K d => ?_;obtain⟨c,b,a,h2,h3⟩:=NW (P:=P) (w:=w) m j he k;unfold Oper.wp execOp;simp only[l,n,q8,a,pK,qz,Oper.upon];exact d _ _ (i c b h2 h3)
theorem Lf{a:Option Addr}{l:List UInt8}(i:P.underlying src=some (.slice e))(he:P.underlying e=some (.int .u8))(f:P.underlying dst=some .string)(d:Sl w a n c (l.map A2)) :
 (convert src dst (.slice a n c)).run P w = .ok (.string ⟨l.toArray⟩) w:=by
 have m:n=l.length:=by have:=d.len;simpa using this.symm
 subst m;cases a with
 | none =>
  have h0:l=[]:=by
   rcases pT l.length with h|h
   · exact pG h
   · obtain⟨b,o,h1,_⟩:=d.rd h;cases h1
  subst h0;show(convert src dst (.slice none 0 c)).run P w=_;rw[run_convert_bytes_string w src dst e none 0 c i he f];simp[Conv.bytesToString];rfl
 | some ad =>
  refine run_convert_bytes_back w src dst e ad c l i he f fun j g => ?_;obtain⟨b,o,h1,k⟩:=d.rd (by omega);simp only[pz]at h1;subst h1;have h2:=k j g;have h3:(l.map A2).getD j undef = .int .u8 (l[j].toNat:Int):=by simp[g,A2]
  rw[h3]at h2;rw[<-h2];unfold Addr.add;by_cases h0:j=0 <;> simp[h0]
theorem EY(g:o.guard=none)(m:o.op = .convert src dst x)
 {e:TypeId} {a:Option Addr} {n c:Nat} {l:List UInt8} (p:P.underlying src=some (.slice e)) (he:P.underlying e=some (.int .u8)) (j:P.underlying dst=some .string) (q:f.eval x = .slice a n c) (k:Sl w a n c (l.map A2))
 (i:wpList P ops Q rest (f.put o.dst (.string ⟨l.toArray⟩)) w):wpList P ops Q (o :: rest) f w:=by
 refine qT g fun K d => ?_;have b:=Lf (P:=P) (w:=w) p he j k;unfold Oper.wp execOp;simp only[m,q,q8,b,pK,qz,Oper.upon];exact d _ _ i
end
end Go.Proofs.YtlbmnokpiilfpaaGreatDoor
namespace Go.Proofs.YtlbmnokpiilfpaaGreatDoor.W
open Go
variable {k n:Nat}
def decV(l:List UInt8):Nat:=l.foldl (fun n c=>10*n+(c.toNat-48)) 0
def isDig(c:UInt8):Prop:=48<=c.toNat/\c.toNat<=57
def digs(l:List UInt8):Prop:=∀ c∈l,isDig c
theorem decV_snoc(l:List UInt8)(c:UInt8):decV (l ++ [c])=10*decV l+(c.toNat-48):=by simp[decV]
theorem FB:∀ (l:List UInt8) (n:Nat),l.foldl (fun n c=>10*n+(c.toNat-48)) n=n*10^l.length+decV l
 | [],n=>by simp[decV]
 | c :: r,n=>by
  have h1:=FB r (10*n+(c.toNat-48));have h2:=FB r (10*0+(c.toNat-48));have h3:decV (c :: r)=r.foldl (fun n c=>10*n+(c.toNat-48)) (10*0+(c.toNat-48)):=rfl;rw[vf,h1,h3,h2,qk,qB]
  grind
theorem decV_app(a b:List UInt8):decV (a ++ b)=decV a*10^b.length+decV b:=by
 have:decV (a ++ b)=b.foldl (fun n c=>10*n+(c.toNat-48)) (decV a):=by simp[decV]
 rw[this,FB]
theorem R7(c:UInt8)(r:List UInt8):decV (c :: r)=(c.toNat-48)*10^r.length+decV r:=by
 have:=decV_app [c] r;simpa[decV]using this
theorem decV_lt:∀ {l:List UInt8},digs l->decV l<10^l.length
 | [],_=>by simp[decV]
 | c :: r,h=>by
  have h1:=decV_lt (l:=r) (fun x a=>h x (by simp[a]));have h2:=h c (by simp);rw[R7,qk,qB];have h3:(c.toNat-48)*10^r.length<=9*10^r.length:=px _ (by have:=h2.2;omega);omega
theorem CS(h:n<256):(UInt8.ofNat n).toNat=n:=by simp;omega
theorem digs_dec(n:Nat):digs (Lib.decDigits n):=by
 induction n using Nat.strongRecOn with
 | _ n ih =>
  rw[Lib.decDigits];split
  · intro c a;simp only[pF]at a;subst a;unfold isDig;rw[CS (by omega)];omega
  · intro c a;rcases qd.1 a with h|h
    · exact ih (n/10) (by omega) c h
    · simp only[pF]at h;subst h;unfold isDig;rw[CS (by omega)];omega
theorem decV_dec(n:Nat):decV (Lib.decDigits n)=n:=by
 induction n using Nat.strongRecOn with
 | _ n ih =>
  rw[Lib.decDigits];split
  · simp only[decV,List.foldl];rw[CS (by omega)];omega
  · rw[decV_snoc,ih (n/10) (by omega),CS (by omega)];omega
theorem dec_ne(n:Nat):Lib.decDigits n≠[]:=by
 rw[Lib.decDigits];split <;> simp
theorem dec_zero:Lib.decDigits 0=[48]:=by rw[Lib.decDigits];rfl
theorem dec_head(h:0<n):∃ c r,Lib.decDigits n=c :: r/\c≠48:=by
 induction n using Nat.strongRecOn with
 | _ n ih =>
  rw[Lib.decDigits];split
  · refine⟨_,[],rfl,fun a => ?_⟩;have:=q9 UInt8.toNat a;rw[CS (by omega)]at this;simp at this;omega
  · obtain⟨c,r,e,a⟩:=ih (n/10) (by omega) (by omega);exact⟨c,r ++ [UInt8.ofNat (48+n%10)],by rw[e];rfl,a⟩
theorem NZ{c:UInt8}(h:isDig c):UInt8.ofNat (48+(c.toNat-48))=c:=by
 apply oU.1;rw[CS (by have:=h.2;omega)];have:=h.1;omega
theorem dec_of_digs:∀ {l:List UInt8} (_:digs l) (_:l≠[]) (_:∀ c r,l=c :: r->c=48->r=[]),Lib.decDigits (decV l)=l:=by
 intro l
 induction h:l.length using Nat.strongRecOn generalizing l with
 | _ n ih =>
  intro m f p;obtain⟨a,c,rfl⟩:∃ a c,l=a ++ [c]:=⟨l.dropLast,l.getLast f,(oS f).symm⟩;have d:isDig c:=m c (by simp);by_cases k:a=[]
  · subst k;have e:decV ([] ++ [c])=c.toNat-48:=by simp[decV]
    rw[e,Lib.decDigits,dif_pos (by have:=d.2;omega),NZ d];rfl
  · have i:digs a:=fun x q=>m x (by simp[q]);have j:∀ g r,a=g :: r->g=48->r=[]:=by
     intro g r e e0;subst e;have:=p g (r ++ [c]) rfl e0;simp at this
    have b:=ih a.length (by rw[<-h];simp) rfl i k j;have o:0<decV a:=by
     rcases pT (decV a)with h0|h0
     · rw[h0,dec_zero]at b;have:=p 48 [c] (by rw[<-b];rfl) rfl;simp at this
     · exact h0
    rw[decV_snoc,Lib.decDigits,dif_neg (by omega)];have h1:(10*decV a+(c.toNat-48))/10=decV a:=by have:=d.2;omega
    have h2:(10*decV a+(c.toNat-48))%10=c.toNat-48:=by have:=d.2;omega
    rw[h1,h2,b,NZ d]
def EZ(k n:Nat):List UInt8:=List.replicate (k-(Lib.decDigits n).length) 48 ++ Lib.decDigits n
theorem JR:∀ k,decV (List.replicate k 48)=0
 | 0=>rfl
 | k+1=>by rw[tY,decV_snoc,JR k];rfl
theorem dec_len(h:n<10^k)(a:0<k):(Lib.decDigits n).length<=k:=by
 induction n using Nat.strongRecOn generalizing k with
 | _ n ih =>
  rw[Lib.decDigits];split
  · simp;omega
  · have:2<=k:=by
     rcases qx k 2 with h2|h2
     · have:k=1:=by omega
       subst this;omega
     · exact h2
    have h3:=ih (n/10) (by omega) (k:=k-1) (by
     rw[re (by omega),<-qB,show(k-1).succ=k by omega]
     exact h) (by omega)
    simp;omega
theorem JS(h:n<10^k)(a:0<k):(EZ k n).length=k:=by
 have:=dec_len h a;simp[EZ];omega
theorem R8{a b:Nat}(g:0<a)(i:b<10^k)(l:0<k):Lib.decDigits (a*10^k+b)=Lib.decDigits a ++ EZ k b:=by
 have j:digs (Lib.decDigits a ++ EZ k b):=by
  intro c f;rcases qd.1 f with h|h
  · exact digs_dec a c h
  · rcases qd.1 h with h|h
    · rw[(qS.1 h).2];exact⟨by decide,by decide⟩
    · exact digs_dec b c h
 have m:decV (Lib.decDigits a ++ EZ k b)=a*10^k+b:=by
  rw[decV_app,decV_dec,JS i l];unfold EZ;rw[decV_app,JR,decV_dec];omega
 obtain⟨c,r,e,f⟩:=dec_head g;rw[<-m];refine dec_of_digs j (by rw[e];simp) ?_;intro n o d e0;rw[e]at d;simp only[rX,tI]at d;exact absurd (d.1.trans e0) f
end Go.Proofs.YtlbmnokpiilfpaaGreatDoor.W
