/- Part Pq9. -/
import Derived.Test.YtlbmnokpiilfpaaGreatDoorPq8
import Derived.Shelf.Lays
import Derived.Test.YtlbmnokpiilfpaaGreatDoorProg
set_option linter.all false
set_option maxRecDepth 100000
set_option maxHeartbeats 100000000
namespace Go.Proofs.YtlbmnokpiilfpaaGreatDoor
open Tryz Go Go.RowKit
def gR:=@decide_eq_false
def il:=@Int.natAbs_natCast
def lf:=@Nat.div_one
def ml:=@Int.natAbs_neg
def nQ:=@Nat.gcd_pos_of_pos_left
def oh:=@Int.tdiv_one
def oJ:=@decide_false
variable {s t:Bool} {y z:Int} {x:Nat} {v v':Value} {w w':World}
theorem UC(a:decide (z<0)=s)(b:decide (y<0)=s):z+y=if s=true then -((z.natAbs+y.natAbs:Nat):Int)else((z.natAbs+y.natAbs:Nat):Int):=by
 subst a;by_cases h1:z<0 <;> by_cases h2:y<0 <;> simp[h1,h2]at b |- <;> omega
theorem RF(c:decide (z<0)=s)(d:decide (y<0)=t)(a:s≠t)(b:y.natAbs<=z.natAbs):z+y=if s=true then -((z.natAbs-y.natAbs:Nat):Int)else((z.natAbs-y.natAbs:Nat):Int):=by
 subst c;subst d;by_cases h1:z<0 <;> by_cases h2:y<0 <;> simp[h1,h2]at a |- <;> omega
theorem RG(c:decide (z<0)=s)(d:decide (y<0)=t)(a:s≠t)(b:z.natAbs<y.natAbs):z+y=if t=true then -((y.natAbs-z.natAbs:Nat):Int)else((y.natAbs-z.natAbs:Nat):Int):=by
 subst c;subst d;by_cases h1:z<0 <;> by_cases h2:y<0 <;> simp[h1,h2]at a |- <;> omega
theorem CZ{y:Nat}:0<=AZ (x:Int) (y:Int)<->y<=x:=by
 unfold AZ;split
 · omega
 · split <;> omega
theorem JC(h:AF w v z)(h':AF w v' y)(bz:z.natAbs<P2 9600)(P:y.natAbs<P2 9600):Calls prog 208 #[v,v'] w (EP w (z+y)):=by
 obtain⟨s,a,n,c,rfl,HS,hx⟩:=h;obtain⟨t,b,m,d,rfl,HT,hy⟩:=h';have ae:=fun(g:World) (f:Ext w g)=>qh (Yu (hx.ext f) (hy.ext f) bz P);have ag:=fun(g:World) (f:Ext w g) (x:y.natAbs<=z.natAbs)=>qh (WF (hx.ext f) (hy.ext f) bz x);have ah:=fun(g:World) (f:Ext w g) (x:z.natAbs<=y.natAbs)=>qh (WF (hy.ext f) (hx.ext f) P x);have af:=fun(g:World) (f:Ext w g)=>qh (WG (hx.ext f) (hy.ext f));clear bz P
 go_enter func208,ntmps208
 go_upto_region 1 with(fail)
 refine CO ?_;intro w0 M a0 a3 ai al;have a6:=a0.c 0 rfl;have a7:=a0.c 1 rfl;have a8:=a3.c 0 rfl;have a9:=a3.c 1 rfl;have hR:Arr w0 (w.heap.size+2) 83 (Ac false none 0 0):=ai;clear al;by_cases O:s=t
 · subst O;have aj:(s == s)=true:=by simp
   go_wp2;have S:=fun(g:World) (f:Ext w0 g)=>qh (And.intro (f.cell a6) (And.intro (f.cell a7) (And.intro (f.cell a8) (f.cell a9))))
   refine Ab (by kernel_rfl) (fun g=>Ext w0 g)
    [he (.pointer (some ⟨w.heap.size,0,none⟩)),
 he (.bool s),
 he (.pointer (some ⟨w.heap.size,1,none⟩)),
 he (.slice a n c),
 he (.pointer (some ⟨(w.heap.size+1),1,none⟩)),
 he (.slice b m d),
 hp (fun v g=>∃ i k j,v = .slice i k j/\Wd g i k j (z.natAbs+y.natAbs)),
 hp (fun v g=>∃ p i k j,v = .agg (Ac p i k j).toArray/\Hid (decide (z+y<0)=p)/\Wd g i k j (z+y).natAbs)]
    (by kernel_rfl) (fun _ _ e h=>h.trans e) ((Ext.refl w0).drew) ⟨trivial,trivial,trivial,trivial,trivial,trivial,fun v w L e ⟨i,k,j,h1,h2⟩=>⟨i,k,j,h1,h2.ext e⟩,fun v w L e ⟨p,i,k,j,h1,h2,h3⟩=>⟨p,i,k,j,h1,h2,h3.ext e⟩,trivial⟩ ⟨?o0,?o1,?o2,?o3,?o4,?o5,?o6,?o7,trivial⟩ ?fin
   case o0=>exact ofa (d:=0)
   case o1 | o3 | o5=>exact ol
   case o2 | o4=>exact ofa (d:=1)
   case o6 =>
    refine Ag rfl fun A g f r D h => ?_;have e1:A (.tmp 13)=(.slice a n c):=h.2.1;have e2:A (.tmp 15)=(.slice b m d):=h.2.2.1;obtain⟨H,I,J,K⟩:=(S g f).out;refine⟨255,#[.slice a n c,.slice b m d],by go_simp,((ae g (M.trans f)).out).mono ?_⟩;rintro e L ⟨i,k,j,rfl,l,o⟩;exact⟨_,rfl,l,i,k,j,rfl,o⟩
   case o7 =>
    refine Ag rfl fun A g f r D h => ?_;have e1:A (.tmp 11)=(.bool s):=h.2.1;obtain⟨v2,e2,W,n2,Y,rfl,Z⟩:=h.2.2.1;obtain⟨H,I,J,K⟩:=(S g f).out;refine⟨203,#[.bool s,.slice W n2 Y],by go_simp,(BR Z (z:=z+y) (UC HS.out HT.out)).mono ?_⟩;rintro e L ⟨p,i,k,j,rfl,l,F,o⟩;exact⟨_,rfl,l,p,i,k,j,rfl,F,o⟩
   case fin =>
    intro g f;rintro _ ⟨_,_,_,rfl,_⟩;rintro _ ⟨s1,V,n1,X,rfl,B,G⟩;change wpList _ _ _ _ _ _;simp only[lq,lw,lx,lz,Act.put,lj,lk,ly];have q:=hR.ext f
    go_wp2_with(refine Aa (vs:=Ac s1 V n1 X) rfl rfl rfl rfl rfl Ai q rfl (Ae _ _ _ _) ?_;intro w9 C E)
    exact gF (Ap rfl Ai rfl C) rfl (BA (M.trans f) q (Ax _ _ _ _) E (by omega) B G)
 · have aj:(s == t)=false:=by simpa using O
   go_wp2_with fail
   refine(af _ M).out.mono ?_;rintro e R ⟨rfl,Q⟩;have N:=M.trans Q.ext;have a4:=hR.ext Q.ext;have aa:=Q.ext.cell a6;have ab:=Q.ext.cell a7;have ac:=Q.ext.cell a8;have ad:=Q.ext.cell a9;by_cases x:y.natAbs<=z.natAbs
   · have ak:(0:Int)<=AZ (z.natAbs:Int) (y.natAbs:Int):=CZ.2 x;generalize AZ (z.natAbs:Int) (y.natAbs:Int)=cv at *
     go_wp2;have T:=fun(g:World) (f:Ext R g)=>qh (And.intro (f.cell aa) (And.intro (f.cell ab) (And.intro (f.cell ac) (f.cell ad))))
     refine Ab (by kernel_rfl) (fun g=>Ext R g)
      [he (.pointer (some ⟨w.heap.size,0,none⟩)),
 he (.bool s),
 he (.pointer (some ⟨w.heap.size,1,none⟩)),
 he (.slice a n c),
 he (.pointer (some ⟨(w.heap.size+1),1,none⟩)),
 he (.slice b m d),
 hp (fun v g=>∃ i k j,v = .slice i k j/\Wd g i k j (z.natAbs-y.natAbs)),
 hp (fun v g=>∃ p i k j,v = .agg (Ac p i k j).toArray/\Hid (decide (z+y<0)=p)/\Wd g i k j (z+y).natAbs)]
      (by kernel_rfl) (fun _ _ e h=>h.trans e) ((Ext.refl R).drew) ⟨trivial,trivial,trivial,trivial,trivial,trivial,fun v w L e ⟨i,k,j,h1,h2⟩=>⟨i,k,j,h1,h2.ext e⟩,fun v w L e ⟨p,i,k,j,h1,h2,h3⟩=>⟨p,i,k,j,h1,h2,h3.ext e⟩,trivial⟩ ⟨?o0,?o1,?o2,?o3,?o4,?o5,?o6,?o7,trivial⟩ ?fin
     case o0=>exact ofa (d:=0)
     case o1 | o3 | o5=>exact ol
     case o2 | o4=>exact ofa (d:=1)
     case o6 =>
      refine Ag rfl fun A g f r D h => ?_;have e1:A (.tmp 27)=(.slice a n c):=h.2.1;have e2:A (.tmp 29)=(.slice b m d):=h.2.2.1;obtain⟨H,I,J,K⟩:=(T g f).out;refine⟨256,#[.slice a n c,.slice b m d],by go_simp,((ag g (N.trans f) x).out).mono ?_⟩;rintro e L ⟨i,k,j,rfl,l,o⟩;exact⟨_,rfl,l,i,k,j,rfl,o⟩
     case o7 =>
      refine Ag rfl fun A g f r D h => ?_;have e1:A (.tmp 25)=(.bool s):=h.2.1;obtain⟨v2,e2,W,n2,Y,rfl,Z⟩:=h.2.2.1;obtain⟨H,I,J,K⟩:=(T g f).out;refine⟨203,#[.bool s,.slice W n2 Y],by go_simp,(BR Z (z:=z+y) (RF HS.out HT.out O x)).mono ?_⟩;rintro e L ⟨p,i,k,j,rfl,l,F,o⟩;exact⟨_,rfl,l,p,i,k,j,rfl,F,o⟩
     case fin =>
      intro g f;rintro _ ⟨_,_,_,rfl,_⟩;rintro _ ⟨s1,V,n1,X,rfl,B,G⟩;change wpList _ _ _ _ _ _;simp only[lq,lw,lx,lz,Act.put,lj,lk,ly];have q:=a4.ext f
      go_wp2_with(refine Aa (vs:=Ac s1 V n1 X) rfl rfl rfl rfl rfl Ai q rfl (Ae _ _ _ _) ?_;intro w9 C E)
      exact gF (Ap rfl Ai rfl C) rfl (BA (N.trans f) q (Ax _ _ _ _) E (by omega) B G)
   · have ak:AZ (z.natAbs:Int) (y.natAbs:Int)<0:=by have:=mt CZ.1 x;omega
     have a5:z.natAbs<y.natAbs:=by omega
     generalize AZ (z.natAbs:Int) (y.natAbs:Int)=cv at *
     go_wp2;have U:=fun(g:World) (f:Ext R g)=>qh (And.intro (f.cell aa) (And.intro (f.cell ab) (And.intro (f.cell ac) (f.cell ad))))
     refine Ab (by kernel_rfl) (fun g=>Ext R g)
      [he (.pointer (some ⟨(w.heap.size+1),0,none⟩)),
 he (.bool t),
 he (.pointer (some ⟨(w.heap.size+1),1,none⟩)),
 he (.slice b m d),
 he (.pointer (some ⟨w.heap.size,1,none⟩)),
 he (.slice a n c),
 hp (fun v g=>∃ i k j,v = .slice i k j/\Wd g i k j (y.natAbs-z.natAbs)),
 hp (fun v g=>∃ p i k j,v = .agg (Ac p i k j).toArray/\Hid (decide (z+y<0)=p)/\Wd g i k j (z+y).natAbs)]
      (by kernel_rfl) (fun _ _ e h=>h.trans e) ((Ext.refl R).drew) ⟨trivial,trivial,trivial,trivial,trivial,trivial,fun v w L e ⟨i,k,j,h1,h2⟩=>⟨i,k,j,h1,h2.ext e⟩,fun v w L e ⟨p,i,k,j,h1,h2,h3⟩=>⟨p,i,k,j,h1,h2,h3.ext e⟩,trivial⟩ ⟨?o0,?o1,?o2,?o3,?o4,?o5,?o6,?o7,trivial⟩ ?fin
     case o0=>exact ofa (d:=0)
     case o1 | o3 | o5=>exact ol
     case o2 | o4=>exact ofa (d:=1)
     case o6 =>
      refine Ag rfl fun A g f r D h => ?_;have e1:A (.tmp 35)=(.slice b m d):=h.2.1;have e2:A (.tmp 37)=(.slice a n c):=h.2.2.1;obtain⟨H,I,J,K⟩:=(U g f).out;refine⟨256,#[.slice b m d,.slice a n c],by go_simp,((ah g (N.trans f) (ko a5)).out).mono ?_⟩;rintro e L ⟨i,k,j,rfl,l,o⟩;exact⟨_,rfl,l,i,k,j,rfl,o⟩
     case o7 =>
      refine Ag rfl fun A g f r D h => ?_;have e1:A (.tmp 33)=(.bool t):=h.2.1;obtain⟨v2,e2,W,n2,Y,rfl,Z⟩:=h.2.2.1;obtain⟨H,I,J,K⟩:=(U g f).out;refine⟨203,#[.bool t,.slice W n2 Y],by go_simp,(BR Z (z:=z+y) (RG HS.out HT.out O a5)).mono ?_⟩;rintro e L ⟨p,i,k,j,rfl,l,F,o⟩;exact⟨_,rfl,l,p,i,k,j,rfl,F,o⟩
     case fin =>
      intro g f;rintro _ ⟨_,_,_,rfl,_⟩;rintro _ ⟨s1,V,n1,X,rfl,B,G⟩;change wpList _ _ _ _ _ _;simp only[lq,lw,lx,lz,Act.put,lj,lk,ly];have q:=a4.ext f
      go_wp2_with(refine Aa (vs:=Ac s1 V n1 X) rfl rfl rfl rfl rfl Ai q rfl (Ae _ _ _ _) ?_;intro w9 C E)
      exact gF (Ap rfl Ai rfl C) rfl (BA (N.trans f) q (Ax _ _ _ _) E (by omega) B G)
theorem ER(w:World)(cs cs':List Value)(t t':TypeId):Arr ((w.alloc (.cells cs.toArray t)).alloc (.cells cs'.toArray t')) w.heap.size t cs:=(Arr.new w t cs).alloc _
theorem ES(w:World)(cs cs':List Value)(t t':TypeId):Arr ((w.alloc (.cells cs.toArray t)).alloc (.cells cs'.toArray t')) (w.heap.size+1) t' cs':=by
 have:=Arr.new (w.alloc (.cells cs.toArray t)) t' cs';simpa using this
theorem UD(w:World)(o a:Obj):Ext w ((w.alloc o).alloc a):=((Ext.refl w).alloc o).alloc a
theorem UE(c:decide (z<0)=s)(d:decide (y<0)=t):z.tdiv y=if(s != t)=true then -((z.natAbs/y.natAbs:Nat):Int)else((z.natAbs/y.natAbs:Nat):Int):=by
 subst c;subst d;have h0:∀ x:Int,x<0->x = -(x.natAbs:Int):=fun x h=>by omega
 have h1:∀ x:Int,¬ x<0->x=(x.natAbs:Int):=fun x h=>by omega
 by_cases b:z<0 <;> by_cases a:y<0 <;> simp only[b,a,nL,oJ]
 · rw[h0 z b,h0 y a,Int.neg_tdiv_neg,ml,ml,il,il];simp
 · rw[h0 z b,h1 y a,Int.neg_tdiv,ml,il,il];simp
 · rw[h1 z b,h0 y a,Int.tdiv_neg,ml,il,il];simp
 · rw[h1 z b,h1 y a,il,il];simp
theorem UF(b:decide (z<0)=s):z.tmod y=if s=true then -((z.natAbs%y.natAbs:Nat):Int)else((z.natAbs%y.natAbs:Nat):Int):=by
 subst b;have c:z.tmod y=z.tmod (y.natAbs:Int):=by
  rcases Int.natAbs_eq y with h|h
  · rw[<-h]
  · rw[h,Int.tmod_neg,ml,il]
 rw[c];by_cases a:z<0
 · have h0:z = -(z.natAbs:Int):=by omega
   rw[h0,Int.neg_tmod];simp only[ml,il];rw[<-h0,jx (by omega)];simp[a]
 · have h0:z=(z.natAbs:Int):=by omega
   rw[h0];simp only[il];rw[jx (by omega),<-h0];simp[a];rw[<-h0]
def UG(w:World)(z y:Int)(e:Ending)(w':World):Prop:=∃ s a n c s' a' n' c',e = .returned (.tuple #[.agg (Ac s a n c).toArray,.agg (Ac s' a' n' c').toArray])/\Ext w w'/\(Hid (decide (z<0)=s)/\Wd w' a n c z.natAbs)/\(Hid (decide (y<0)=s')/\Wd w' a' n' c' y.natAbs)
def Qq(w:World)(z y:Int)(e:Ending)(w':World):Prop:=∃ s a n c s' a' n' c',e = .returned (.tuple #[.agg (Ac s a n c).toArray,.agg (Ac s' a' n' c').toArray])/\Ext w w'/\(Hid (decide (z<0)=s)/\Wd w' a n c z.natAbs)/\(Hid (decide (y<0)=s')/\Wd w' a' n' c' y.natAbs)/\Hg w.heap.size (fun _=>False) a n
theorem Qq.plain{e:Ending}(h:Qq w z y e w'):UG w z y e w':=by
 obtain⟨s,a,n,c,g,b,f,d,h1,h2,h3,h4,_⟩:=h;exact⟨s,a,n,c,g,b,f,d,h1,h2,h3,h4⟩
theorem O8(h:AF w v z)(h':AF w v' y)(bz:z.natAbs<P2 9600)(K:y.natAbs<P2 9600)(a7:y≠0):Calls prog 257 #[v,v'] w (Qq w (z.tdiv y) (z.tmod y)):=by
 obtain⟨s,a,n,c,rfl,HS,hx⟩:=h;obtain⟨t,b,m,d,rfl,HT,hy⟩:=h';have a3:=fun(g:World) (f:Ext w g)=>qh (WH (hx.ext f) (hy.ext f) bz K (by omega));have ad:((m:Int) == 0)=false:=by have:=hy.zero;simp;omega
 clear bz K a7
 go_enter func257,ntmps257
 go_upto_region 1 with(fail)
 refine V9 ?_;intro w0 x L M V W a8;have a9:=L.c 0 rfl;have ae:=L.c 1 rfl;have aa:=M.c 0 rfl;have af:=M.c 1 rfl;have hR:Arr w0 (w.heap.size+2) 83 (Ac false none 0 0):=V;have a0:Arr w0 (w.heap.size+3) 83 (Ac false none 0 0):=W;clear a8
 go_wp2_with fail
 refine(a3 _ x).out.mono ?_;rintro e w1 ⟨E,G,F,ra,rn,rc,rfl,k,hq,hr,P⟩;have Q:=P.of x.size (fun _ h=>h.elim) (S':=fun _=>False);have Z:=x.trans k;have ab:=k.cell a9;have ac:=k.cell aa;go_wp2;have q:=fun(g:World) (f:Ext w1 g)=>qh (And.intro (f.cell ab) (f.cell ac))
 refine Ab (by kernel_rfl) (fun g=>Ext w1 g)
  [he (.pointer (some ⟨w.heap.size,0,none⟩)),
 he (.bool s),
 he (.pointer (some ⟨(w.heap.size+1),0,none⟩)),
 he (.bool t),
 he (.bool (s != t)),
 he (.slice E G F),
 hp (fun v g=>∃ j,v = .agg (Ac j E G F).toArray/\Hid (decide (z.tdiv y<0)=j)/\Wd g E G F (z.tdiv y).natAbs),
 he (.pointer (some ⟨w.heap.size,0,none⟩)),
 he (.bool s),
 he (.slice ra rn rc),
 hp (fun v g=>∃ j H J I,v = .agg (Ac j H J I).toArray/\Hid (decide (z.tmod y<0)=j)/\Wd g H J I (z.tmod y).natAbs)]
  (by kernel_rfl) (fun _ _ e h=>h.trans e) ((Ext.refl w1).drew) ⟨trivial,trivial,trivial,trivial,trivial,trivial,fun v w w' e ⟨j,h1,h2,h3⟩=>⟨j,h1,h2,h3.ext e⟩,trivial,trivial,trivial,fun v w w' e ⟨j,H,J,I,h1,h2,h3⟩=>⟨j,H,J,I,h1,h2,h3.ext e⟩,trivial⟩ ⟨?o0,?o1,?o2,?o3,?o4,?o5,?o6,?o7,?o8,?o9,?o10,trivial⟩ ?fin
 case o0 | o2 | o7=>exact ofa (d:=0)
 case o1 | o3 | o8=>exact ol
 case o5 | o9=>exact omv
 case o4 =>
  refine Aj rfl fun p g f o h => ?_;have e0:p (.tmp 23)=(.bool s):=h.1;have e1:p (.tmp 25)=(.bool t):=h.2.1;obtain⟨R,S⟩:=(q g f).out;go_simp;cases s <;> cases t <;> rfl
 case o6 =>
  refine Ag rfl fun p g f o a4 h => ?_;have e1:p (.tmp 26)=(.bool (s != t)):=h.2.1;have e2:p (.tmp 27)=(.slice E G F):=h.2.2.1;obtain⟨R,S⟩:=(q g f).out;refine⟨203,#[.bool (s != t),.slice E G F],by go_simp,(FV (hq.ext f) (z:=z.tdiv y) (UE HS.out HT.out)).mono ?_⟩;rintro e w' ⟨j,rfl,r,D,C⟩;exact⟨_,rfl,r,j,rfl,D,C⟩
 case o10 =>
  refine Ag rfl fun p g f o a4 h => ?_;have e1:p (.tmp 30)=(.bool s):=h.2.1;have e2:p (.tmp 31)=(.slice ra rn rc):=h.2.2.1;obtain⟨R,S⟩:=(q g f).out;refine⟨203,#[.bool s,.slice ra rn rc],by go_simp,(BR (hr.ext f) (z:=z.tmod y) (UF HS.out)).mono ?_⟩;rintro e w' ⟨j,H,J,I,rfl,r,D,C⟩;exact⟨_,rfl,r,j,H,J,I,rfl,D,C⟩
 case fin =>
  intro g f;rintro _ ⟨s1,rfl,T,a5⟩;rintro _ ⟨s2,a2,n2,c2,rfl,U,a6⟩;change wpList _ _ _ _ _ _;simp only[lq,lw,lx,lz,Act.put,lj,lk,ly];have A:=(hR.ext k).ext f;have a1:=(a0.ext k).ext f
  go_wp2_with(first
   | (refine Aa (vs:=Ac s1 E G F) rfl rfl rfl rfl rfl Ai A rfl (Ae _ _ _ _) ?_;intro w9 X l;have B:=a1.kept l (by simp))
   | (refine Aa (vs:=Ac s2 a2 n2 c2) rfl rfl rfl rfl rfl Ai B rfl (Ae _ _ _ _) ?_;intro ag N i))
  have O:=X.kept i (by simp);have Y:=((Z.trans f).grownR l (by omega)).grownR i (by omega);exact gF (Np rfl Ai Ai rfl rfl O N) rfl ⟨s1,E,G,F,s2,a2,n2,c2,rfl,Y,⟨T,(a5.kept A (Ax _ _ _ _) l).kept B (Ax _ _ _ _) i⟩,⟨U,(a6.kept A (Ax _ _ _ _) l).kept B (Ax _ _ _ _) i⟩,Q⟩
theorem O9{S:Nat->Prop}(h:AF w v z)(O:AF w v' y)(bz:z.natAbs<P2 9600)(p:y.natAbs<P2 9600)(K:y≠0)(hS:Ix S v):Calls prog 209 #[v,v'] w (KZ w S (z.tdiv y)):=by
 have W:=fun(wx:World) (L:Ext w wx)=>qh (O8 (h.ext L) (O.ext L) bz p K);have V:=fun(wx:World) (L:Ext w wx)=>qh (CY (r:=decide (y=1)) (O.ext L) rfl);clear bz p;obtain⟨s,a,n,c,rfl,HS,hx⟩:=h;obtain⟨t,b,m,d,rfl,HT,hy⟩:=O
 go_enter func209,ntmps209
 go_upto_region 1 with(fail)
 refine CO ?_;intro w0 B q x P Z;have a0:=q.c 0 rfl;have a3:=q.c 1 rfl;have a4:=x.c 0 rfl;have a5:=x.c 1 rfl;have hR:Arr w0 (w.heap.size+2) 83 (Ac false none 0 0):=P;clear Z K
 go_wp2_with fail
 refine(V _ B).out.mono ?_;rintro e w1 ⟨rfl,f⟩;have i:=B.trans f;have a6:=f.cell a0;have a7:=f.cell a3;have a8:=f.cell a4;have a9:=f.cell a5;have l:=hR.ext f;by_cases h1:y=1
 · have G:decide (y=1)=true:=by simpa using h1
   have HV:Hid (z.tdiv y=z):=by show _=_;rw[h1,oh]
   rw[G];clear G h1
   go_wp2_with(refine Aa (vs:=Ac s a n c) rfl rfl rfl rfl rfl Ai l rfl (Ae _ _ _ _) ?_;intro w9 j o)
   refine gF (Ap rfl Ai rfl j) rfl ?_;rw[HV.out];exact FX i l (Ax _ _ _ _) o (by omega) HS (hx.ext i) (fun h0 g hg=>Or.inr (hS.at h0 g hg))
 · have G:decide (y=1)=false:=by simpa using h1
   rw[G];clear G h1
   go_wp2_with fail
   refine(W _ i).out.mono ?_;rintro e M ⟨s1,a1,n1,c1,s2,a2,n2,c2,rfl,C,⟨N,X⟩,_,J⟩;have D:=l.ext C;have aa:=D.lt;clear a6 a7 a8 a9;have F:=ER M (Ac false none 0 0) (Ac false none 0 0) 83 83;have T:=ES M (Ac false none 0 0) (Ac false none 0 0) 83 83;have R:=UD M (.cells (Ac false none 0 0).toArray 83) (.cells (Ac false none 0 0).toArray 83)
   go_upto_region 4 with(first
    | (refine Aa (vs:=Ac s1 a1 n1 c1) rfl rfl rfl rfl rfl Ai F rfl (Ae _ _ _ _) ?_;intro w3 Q H;have U:=T.kept H (by simp);clear F)
    | (refine Aa (vs:=Ac s2 a2 n2 c2) rfl rfl rfl rfl rfl Ai U rfl (Ae _ _ _ _) ?_;intro w4 ab I))
   have k:Ext M w4:=((R.grownR H (lrf _)).grownR I (by omega));have A:=Q.kept I (by simp);have E:=D.ext k;have Y:=X.ext k;have q0:=A.c 0 rfl;have q1:=A.c 1 rfl
   go_wp2_with(refine Aa (vs:=Ac s1 a1 n1 c1) rfl rfl rfl rfl rfl Ai E rfl (Ae _ _ _ _) ?_;intro w9 j o)
   exact gF (Ap rfl Ai rfl j) rfl (FX ((i.trans C).trans k) E (Ax _ _ _ _) o (by omega) N Y (J.of i.size (fun _ h=>h.elim)))
theorem Ep(h:AF w v z)(d:AF w v' y)(c:z.natAbs<P2 9600)(a:y.natAbs<P2 9600)(b:y≠0):Calls prog 209 #[v,v'] w (EP w (z.tdiv y)) :=
 (O9 (S:=fun _=>True) h d c a b (fun _ _ _ _ _ _ _ _=>trivial)).mono fun _ _ h=>h.plain
theorem SR(h:AF w v z)(G:AF w v' y){r:Bool}(o:decide (z=y)=r):Calls prog 261 #[v,v'] w fun e L=>e = .returned (.bool r)/\Ext w L:=by
 obtain⟨s,a,n,c,rfl,C,J⟩:=h;obtain⟨t,b,m,d,rfl,D,K⟩:=G;by_cases j:s=t
 · subst j;have p:(s == s)=true:=by simp
   have l:=fun(N:World) (E:Ext w N)=>qh (WG (J.ext E) (K.ext E));have I:(AZ (z.natAbs:Int) (y.natAbs:Int) == 0)=r:=by
    rw[<-o,p6];have h1:=C.out;have h2:=D.out;have h3:AZ (z.natAbs:Int) (y.natAbs:Int)=0<->z.natAbs=y.natAbs:=by
     unfold AZ;split
     · omega
     · split <;> omega
    simp only[ou,h3,jV];cases s <;> simp at h1 h2 <;> omega
   clear o
   go_enter func261,ntmps261
   go_upto_region 1 with(fail)
   refine Cf ?_;intro M i f g k;have q:=f.c 0 rfl;have x:=f.c 1 rfl;have A:=g.c 0 rfl;have B:=g.c 1 rfl;clear k
   go_wp2_with fail
   refine(l _ i).out.mono ?_;rintro e P ⟨rfl,H⟩;generalize AZ (z.natAbs:Int) (y.natAbs:Int)=O at *
   go_wp2;go_ret;exact⟨rfl,i.trans H.ext⟩
 · have p:(s == t)=false:=by simpa using j
   have F:Hid (r=false):=by
    show _=_;rw[<-o];have h1:=C.out;have h2:=D.out;simp only[decide_eq_false_iff_not];intro h3;subst h3;exact j (h1.symm.trans h2)
   clear o j
   go_enter func261,ntmps261
   go_upto_region 1 with(fail)
   refine Cf ?_;intro M i f g k;have q:=f.c 0 rfl;have x:=f.c 1 rfl;have A:=g.c 0 rfl;have B:=g.c 1 rfl;clear k;go_wp2;go_ret;exact⟨by rw[F.out];rfl,i⟩
theorem Wc(hT:AM w)(h:AF w v z)(h':AF w v' y)(Z:z.natAbs<P2 9600)(M:y.natAbs<P2 2496)(P:z≠0)(ad:y≠0):Calls prog 262 #[v,v'] w (EP w ((z.natAbs*(y.natAbs/Nat.gcd z.natAbs y.natAbs):Nat):Int)):=by
 obtain⟨s,a,n,c,rfl,HS,hx⟩:=h;obtain⟨t,b,m,d,rfl,HT,hy⟩:=h';have L:y.natAbs<P2 9600:=Af M (by omega);have V:0<Nat.gcd z.natAbs y.natAbs:=nQ _ (by omega);have U:Nat.gcd z.natAbs y.natAbs<P2 9600:=gN (lK (by omega) (kL _ _)) Z;have O:y.natAbs/Nat.gcd z.natAbs y.natAbs<P2 2496:=gN (iI _ _) M;have a9:=fun(f:World) (k:Ext w f)=>qh (WE (hT.ext k) (hx.ext k) (hy.ext k) Z L)
 have a7:=fun(f:World) (k:Ext w f) (g:Option Addr) (j i:Nat) (hg:Wd f g j i (Nat.gcd z.natAbs y.natAbs))=>qh (WH (hy.ext k) hg L U V);have aa:=fun(f:World) (k:Ext w f) (g:Option Addr) (j i:Nat) (hg:Wd f g j i (y.natAbs/Nat.gcd z.natAbs y.natAbs))=>qh (Uz (hx.ext k) hg Z (Af O (by omega)) (Or.inr O));have ah:((n:Int) == 0)=false:=by have:=hx.zero;simp;omega
 have ag:((m:Int) == 0)=false:=by have:=hy.zero;simp;omega
 clear Z M L V U O P ad
 go_enter func262,ntmps262
 go_upto_region 1 with(fail)
 refine CO ?_;intro w0 E Q R a4 P;have W:=Q.c 0 rfl;have X:=Q.c 1 rfl;have ae:=R.c 0 rfl;have af:=R.c 1 rfl;have hR:Arr w0 (w.heap.size+2) 83 (Ac false none 0 0):=a4;clear P;go_wp2;have o:=fun(f:World) (k:Ext w0 f)=>qh (And.intro (k.cell W) (And.intro (k.cell X) (And.intro (k.cell ae) (k.cell af))))
 refine Ab (by kernel_rfl) (fun f=>Ext w0 f)
  [he (.pointer (some ⟨(w.heap.size+1),1,none⟩)),
 he (.slice b m d),
 he (.pointer (some ⟨w.heap.size,1,none⟩)),
 he (.slice a n c),
 he (.pointer (some ⟨(w.heap.size+1),1,none⟩)),
 he (.slice b m d),
 hp (fun v f=>∃ g j i,v = .slice g j i/\Wd f g j i (Nat.gcd z.natAbs y.natAbs)),
 hp (fun v f=>∃ g j i B D C,v = .tuple #[.slice g j i,.slice B D C]/\Wd f g j i (y.natAbs/Nat.gcd z.natAbs y.natAbs)/\Wd f B D C (y.natAbs%Nat.gcd z.natAbs y.natAbs)),
 hp (fun v f=>∃ g j i B D C,v = .tuple #[.slice g j i,.slice B D C]/\Wd f g j i (y.natAbs/Nat.gcd z.natAbs y.natAbs)/\Wd f B D C (y.natAbs%Nat.gcd z.natAbs y.natAbs)),
 hp (fun v f=>∃ g j i,v = .slice g j i/\Wd f g j i (y.natAbs/Nat.gcd z.natAbs y.natAbs)),
 hp (fun v f=>∃ g j i,v = .slice g j i/\Wd f g j i (y.natAbs%Nat.gcd z.natAbs y.natAbs)),
 hp (fun v f=>∃ g j i,v = .slice g j i/\Wd f g j i (y.natAbs/Nat.gcd z.natAbs y.natAbs)),
 hp (fun v f=>∃ g j i,v = .slice g j i/\Wd f g j i (y.natAbs%Nat.gcd z.natAbs y.natAbs))]
  (by kernel_rfl) (fun _ _ e h=>h.trans e) ((Ext.refl w0).drew) ⟨trivial,trivial,trivial,trivial,trivial,trivial,fun v w K e ⟨g,j,i,h1,h2⟩=>⟨g,j,i,h1,h2.ext e⟩,fun v w K e ⟨g,j,i,B,D,C,h1,h2,h3⟩=>⟨g,j,i,B,D,C,h1,h2.ext e,h3.ext e⟩,fun v w K e ⟨g,j,i,B,D,C,h1,h2,h3⟩=>⟨g,j,i,B,D,C,h1,h2.ext e,h3.ext e⟩,fun v w K e ⟨g,j,i,h1,h2⟩=>⟨g,j,i,h1,h2.ext e⟩,fun v w K e ⟨g,j,i,h1,h2⟩=>⟨g,j,i,h1,h2.ext e⟩,fun v w K e ⟨g,j,i,h1,h2⟩=>⟨g,j,i,h1,h2.ext e⟩,fun v w K e ⟨g,j,i,h1,h2⟩=>⟨g,j,i,h1,h2.ext e⟩,trivial⟩ ⟨?o0,?o1,?o2,?o3,?o4,?o5,?o6,?o7,?o8,?o9,?o10,?o11,?o12,trivial⟩ ?fin
 case o0 | o2 | o4=>exact ofa (d:=1)
 case o1 | o3 | o5=>exact ol
 case o6 =>
  refine Ag rfl fun F f k l r h => ?_;have e1:F (.tmp 22)=(.slice a n c):=h.2.1;have e2:F (.tmp 24)=(.slice b m d):=h.2.2.1;obtain⟨p,q,x,A⟩:=(o f k).out;refine⟨204,#[.slice a n c,.slice b m d],by go_simp,((a9 f (E.trans k)).out).mono ?_⟩;rintro e K ⟨g,j,i,rfl,N,ab⟩;exact⟨_,rfl,N,g,j,i,rfl,ab⟩
 case o7 =>
  refine Ag rfl fun F f k l r h => ?_;have e1:F (.tmp 20)=(.slice b m d):=h.2.1;obtain⟨v2,e2,a2,n2,c2,rfl,d2⟩:=h.2.2.1;obtain⟨p,q,x,A⟩:=(o f k).out;refine⟨240,#[.slice b m d,.slice a2 n2 c2],by go_simp,((a7 f (E.trans k) _ _ _ d2).out).mono ?_⟩;rintro e K ⟨g,j,i,B,D,C,rfl,N,h1,h2,_⟩;exact⟨_,rfl,N,g,j,i,B,D,C,rfl,h1,h2⟩
 case o8 =>
  refine AE rfl ?_;intro F f hp k h;have l:=hp.const;have r:=hp.func;obtain⟨v0,e0,G,J,H,Y,m0,I,rfl,i0,j0⟩:=h.1;obtain⟨p,q,x,A⟩:=(o f k).out;exact⟨_,f,by go_simp,Ext.refl _,G,J,H,Y,m0,I,rfl,i0,j0⟩
 case o9 =>
  refine AE rfl ?_;intro F f hp k h;have l:=hp.const;have r:=hp.func;obtain⟨v0,e0,G,J,H,Y,m0,I,rfl,i0,j0⟩:=h.1;obtain⟨p,q,x,A⟩:=(o f k).out;exact⟨_,f,by go_simp,Ext.refl _,G,J,H,rfl,i0⟩
 case o10 =>
  refine AE rfl ?_;intro F f hp k h;have l:=hp.const;have r:=hp.func;obtain⟨v0,e0,G,J,H,Y,m0,I,rfl,i0,j0⟩:=h.1;obtain⟨p,q,x,A⟩:=(o f k).out;exact⟨_,f,by go_simp,Ext.refl _,Y,m0,I,rfl,j0⟩
 case o11 =>
  refine AE rfl ?_;intro F f hp k h;have l:=hp.const;have r:=hp.func;obtain⟨v0,e0,G,J,H,rfl,I⟩:=h.1;obtain⟨p,q,x,A⟩:=(o f k).out;exact⟨_,f,by go_simp,Ext.refl _,G,J,H,rfl,I⟩
 case o12 =>
  refine AE rfl ?_;intro F f hp k h;have l:=hp.const;have r:=hp.func;obtain⟨v0,e0,G,J,H,rfl,I⟩:=h.1;obtain⟨p,q,x,A⟩:=(o f k).out;exact⟨_,f,by go_simp,Ext.refl _,G,J,H,rfl,I⟩
 case fin =>
  intro f k;rintro _ ⟨_,_,_,rfl,_⟩;rintro _ ⟨_,_,_,_,_,_,rfl,_,_⟩;rintro _ ⟨_,_,_,_,_,_,rfl,_,_⟩;rintro _ ⟨_,_,_,rfl,_⟩;rintro _ ⟨_,_,_,rfl,_⟩;rintro _ ⟨qa,qn,qc,rfl,hq⟩;rintro _ ⟨_,_,_,rfl,_⟩;change wpList _ _ _ _ _ _;simp only[lq,lw,lx,lz,Act.put,lj,lk,ly];have p:=k.cell W;have q:=k.cell X;have a6:=hR.ext k;have a3:Hid (decide (((z.natAbs*(y.natAbs/Nat.gcd z.natAbs y.natAbs):Nat):Int)<0)=false):=qh (gR (by omega))
  go_wp2_with fail
  refine(aa _ (E.trans k) _ _ _ hq).out.mono ?_;rintro e w1 ⟨a1,n1,c1,rfl,S,ac⟩;have T:=a6.ext S
  go_wp2_with(refine Aa (vs:=Ac false a1 n1 c1) rfl rfl rfl rfl rfl Ai T rfl (Ae _ _ _ _) ?_;intro w9 a5 a8)
  exact gF (Ap rfl Ai rfl a5) rfl (BA ((E.trans k).trans S) T (Ax _ _ _ _) a8 (by omega) a3 ac)
end Go.Proofs.YtlbmnokpiilfpaaGreatDoor
namespace Go.Proofs.YtlbmnokpiilfpaaGreatDoor
open Go.Shelf
def UH:Go.Shelf.Ren:=⟨fun | 125=>206 | 128=>252 | 129=>253 | n=>n,fun | 46=>222 | 3=>3 | 51=>241 | 53=>238 | 4=>4 | 5=>5 | 9=>9 | n=>n,fun | n=>n⟩
theorem YX:Go.Proofs.Lays.n125 Tryz.prog UH:={
 mixed:=by kernel_rfl
 f125:=Tryz.func206.trans (iP some (by kernel_rfl))
 f128:=Tryz.func252.trans (iP some (by kernel_rfl))
 f129:=Tryz.func253.trans (iP some (by kernel_rfl))
 t3:=Tryz.underlying3
 a3:=Tryz.isAgg3
 z3:=Tryz.sizeOf3
 v3:=Tryz.zeroValue3
 t4:=Tryz.underlying4
 a4:=Tryz.isAgg4
 z4:=Tryz.sizeOf4
 v4:=Tryz.zeroValue4
 t5:=Tryz.underlying5
 a5:=Tryz.isAgg5
 z5:=Tryz.sizeOf5
 v5:=Tryz.zeroValue5
 t9:=Tryz.underlying9
 a9:=Tryz.isAgg9
 z9:=Tryz.sizeOf9
 v9:=Tryz.zeroValue9
 t46:=Tryz.underlying222
 a46:=Tryz.isAgg222
 z46:=Tryz.sizeOf222
 v46:=Tryz.zeroValue222
 t51:=Tryz.underlying241
 a51:=Tryz.isAgg241
 z51:=Tryz.sizeOf241
 v51:=Tryz.zeroValue241
 t53:=Tryz.underlying238
 a53:=Tryz.isAgg238
 z53:=Tryz.sizeOf238
 v53:=Tryz.zeroValue238 }
end Go.Proofs.YtlbmnokpiilfpaaGreatDoor
namespace Go.Proofs.YtlbmnokpiilfpaaGreatDoor
open Tryz Go Go.RowKit
variable {z:Int} {xs ys:List Nat} {N base c m n p r x y:Nat} {a b:Option Addr} {qa qb:Option Nat} {v:Value} {w:World}
theorem We(b:x<18446744073709551616)(w:World):Calls prog 253 #[.int .u64 x] w fun e a=>e = .returned (.int .i64 (Lib.bitLen x))/\w=a:=by
 have:=Any.bits_Len64 W7 (x:Int) w (by omega) (by omega);rw[jc]at this;exact this.mono fun _ _ h=>⟨h.1,h.2.symm⟩
theorem Yw(b:x<18446744073709551616)(w:World):Calls prog 206 #[.int .u64 x] w fun e a=>e = .returned (.int .i64 (Lib.bitLen x))/\w=a:=by
 have:=Any.bits_Len YX (x:Int) w (by omega) (by omega);rw[jc]at this;exact this.mono fun _ _ h=>⟨h.1,h.2.symm⟩
theorem Pa(a:y<18446744073709551616):Lib.bitLen y<=64/\y<2^Lib.bitLen y/\(0<y->0<Lib.bitLen y/\2^(Lib.bitLen y-1)<=y):=by
 rcases gX y with h0|h0
 · subst h0;exact⟨by decide,by decide,by omega⟩
 · obtain⟨h1,h2,h3⟩:=Lib.bitLenAux_bounds 64 y (by omega) (by omega);have h4:Lib.bitLenAux 64 y<=64:=Lib.bitLen_le y 64 (by omega) (by omega);exact⟨h4,h3,fun _=>⟨h1,h2⟩⟩
def Yx(w:World)(x:Nat)(e:Ending)(w':World):Prop:=∃ L:Nat,e = .returned (.int .i64 (L:Int))/\Ext w w'/\L<=10000/\x<P2 L/\(0<x->0<L/\P2 (L-1)<=x)
theorem Lv(F:Wd w a n c x)(C:x<P2 9600):Calls prog 220 #[.slice a n c] w (Yx w x):=by
 have P:=F.len (k:=150) C;obtain⟨d,h1,h2⟩:=F;clear C;rcases gX n with h0|h0
 · subst h0;have z:x=0:=EO h2 h1.len
   go_enter func220,ntmps220
   go_wp2;go_ret;exact⟨0,rfl,Ext.refl w,by omega,by rw[z];exact KW 0,by omega⟩
 · obtain⟨m,rfl⟩:∃ m,n=m+1:=⟨n-1,by omega⟩;obtain⟨b,o,rfl,D⟩:=h1.at (j:=0) (by omega);have O:=D m (by omega);have g:=W.bnd_at h2.bnd (i:=m) (by rw[h1.len];omega);have p:=Ed (B:=18446744073709551616) (l:=d) (m:=m) h1.len;have r:=Ck h2.bnd (m:=m) (by rw[h1.len];omega);rw[h2.val]at p;have v:0<d.getD m 0:=by
    have s:d≠[]:=by intro h;have:=h1.len;rw[h]at this;simp at this
    have h3:=h2.nrm s;rw[kI]at h3;have h4:d.length-1=m:=by rw[h1.len];omega
    have h5:m<d.length:=by rw[h1.len];omega
    have h6:d.getD m 0=d[d.length-1]'(by omega):=by simp[h4,h5]
    omega
   obtain⟨Q,N,G⟩:=Pa g;obtain⟨R,H⟩:=G v;have f:=We g;have A:Hid (x<P2 (64*m+Lib.bitLen (d.getD m 0))/\P2 (64*m+Lib.bitLen (d.getD m 0)-1)<=x):=by
    show _/\_;generalize Lib.bitLen (d.getD m 0)=L at *
    generalize d.getD m 0=t at *
    generalize W.val 18446744073709551616 (d.take m)=S at *
    constructor
    · rw[Bw,O6,p];have h5:(t+1)*18446744073709551616^m<=2^L*18446744073709551616^m:=gH _ (by omega);rw[iW,jZ]at h5;have q:18446744073709551616^m*P2 L=2^L*18446744073709551616^m:=gV _ _;rw[q];omega
    · rw[show 64*m+L-1=64*m+(L-1) by omega,Bw,O6,p];have h5:2^(L-1)*18446744073709551616^m<=t*18446744073709551616^m:=gH _ H;have q:18446744073709551616^m*P2 (L-1)=2^(L-1)*18446744073709551616^m:=gV _ _;rw[q];omega
   generalize Lib.bitLen (d.getD m 0)=L at *
   generalize d.getD m 0=t at *
   clear p r N G H D;have I:(((m+1:Nat):Int) == 0)=false:=by simp;omega
   have J:IntKind.i64.wrap (((m+1:Nat):Int)-1)=(m:Int):=by rw[show((m+1:Nat):Int)-1=(m:Int) by omega];exact gI _ (by omega)
   have E:IntKind.i64.wrap ((m:Int)+1-1)=(m:Int):=by rw[show(m:Int)+1-1=(m:Int) by omega];exact gI _ (by omega)
   have y:IntKind.i64.wrap (m:Int)=(m:Int):=gI _ (by omega);have K:IntKind.i64.wrap (64*(m:Int))=64*(m:Int):=gI _ (by omega);have M:IntKind.i64.wrap (64*(m:Int)+(L:Int))=((64*m+L:Nat):Int):=by rw[show 64*(m:Int)+(L:Int)=((64*m+L:Nat):Int) by omega];exact gI _ (by omega)
   go_enter func220,ntmps220
   go_wp2_with fail
   refine(f _).mono ?_;rintro e T ⟨rfl,rfl⟩;go_wp2;go_ret;exact⟨64*m+L,DF (by omega),Ext.refl _,by omega,A.out.1,fun _=>⟨by omega,A.out.2⟩⟩
theorem Fp(h:AF w v z)(j:z.natAbs<P2 9600):Calls prog 158 #[v] w (Yx w z.natAbs):=by
 obtain⟨s,a,n,c,rfl,q,l⟩:=h;have g:=fun(p:World) (k:Ext w p)=>qh (Lv (l.ext k) j);clear j
 go_enter func158,ntmps158
 go_upto_region 1 with(fail)
 refine AP ?_;intro r d b i;have m:=b.c 0 rfl;have o:=b.c 1 rfl;clear i
 go_wp2_with fail
 refine(g _ d).out.mono ?_;rintro e t ⟨L,rfl,f,h1,h2,h3⟩;go_wp2;go_ret;exact⟨L,rfl,d.trans f,h1,h2,h3⟩
theorem UI{k:Nat}:x^(n/2^k)=(if n/2^k%2=1 then x^(n/2^(k+1))*x^(n/2^(k+1))*x else x^(n/2^(k+1))*x^(n/2^(k+1))):=by
 have h:n/2^(k+1)=n/2^k/2:=by rw[ip,kO]
 rw[h];generalize n/2^k=m;split
 · rename_i h1;rw[<-jQ,<-ip];congr 1;omega
 · rw[<-jQ];congr 1;omega
theorem K1(h:m<=n):x^m<=x^n+1:=by
 rcases gX x with h0|h0
 · subst h0;rcases gX m with h1|h1
   · subst h1;simp
   · rw[Nat.zero_pow h1];exact gO _
 · have:=ic h0 h;omega
theorem Cu{a:Nat}(h:1<=a):1<P2 a:=by
 obtain⟨b,rfl⟩:∃ b,a=b+1:=⟨a-1,by omega⟩;have:=KW b;rw[Bw];show 1<P2 b*2;omega
theorem Yy{a:Nat}(h:r*r<P2 (a+a)):r<P2 a:=by
 rw[Bw]at h;rcases iH r (P2 a)with h1|h1
 · exact h1
 · have:=j5 h1 h1;omega
theorem K2{e:Nat}(hx:Wd w a n c x)(Z:x<P2 2496)(he:e<18446744073709551616)(R:x^e<P2 4990):Calls prog 230 #[.slice a n c,.int .u64 e] w (Lu w (x^e)):=by
 obtain⟨l1,l2,_⟩:=Pa he;have o:=Yw he
 have r:∀ k,x^(e/2^k)<P2 4991:=fun k=>by
  have:=K1 (x:=x) (iI e (2^k));exact gN this (KX R (Cu (by omega)))
 have F:∀ k,x^(e/2^(k+1))<P2 2496:=fun k=>by
  apply Yy;have h1:=r k;have h2:e/2^(k+1)=e/2^k/2:=by rw[ip,kO]
  rw[h2,<-jQ];have h3:=K1 (x:=x) (m:=e/2^k/2+e/2^k/2) (n:=e) (by have:=iI e (2^k);omega);have h4:x^e+1<P2 (4990+1):=KX R (Cu (by omega));exact Af (gN h3 h4) (by omega)
 have a0:=qh r;have O:=qh F;have Y:=qh Z;have K:=qh l2;clear r F Z R l2;generalize Lib.bitLen e=L at *
 have T:IntKind.i64.wrap ((L:Int)-1)=(L:Int)-1:=gI _ (by omega)
 go_enter func230,ntmps230
 go_wp2_with fail
 refine(o _).mono ?_;rintro e2 X ⟨rfl,rfl⟩;go_wp2;refine AP ?_;intro X B A U;have l:Wd X (some ⟨w.heap.size,0,none⟩) 1 1 1:=by
  have hA:B3 .u64 X w.heap.size 238 [1]:=A;have h1:=hA.sl (n:=1) (c:=1) (by simp) (by omega) (by unfold maxLen;omega);exact⟨[1],h1,fun y hy=>by simp at hy;omega,W.nrm_single (by omega),by simp[W.val]⟩
 have z:Hid (x^(e/2^L)=1):=by show _=_;rw[jy K.out,kn]
 clear U A o
 go_loopw[5,6] (fun rv V wr=>∃ (k:Nat) (H:Option Addr) (J I:Nat),rv = .slice H J I/\V = .int .i64 ((k:Int)-1)/\k<=L/\Ext w wr/\Wd wr H J I (x^(e/2^k))) (fun _ V _=>(intOf V+1).toNat)
 case atStart=>exact⟨L,_,1,1,rfl,rfl,lrf _,B,by rw[z.out];exact l⟩
 case round =>
  clear l z B T;obtain⟨k,H,J,I,rfl,rfl,hk,hE,G⟩:=hrel;cases k with
  | zero =>
   go_wp2;go_ret;exact⟨H,J,I,rfl,hE,by rw[kn,lf]at G;exact G⟩
  | succ k =>
   have l:((k+1:Nat):Int)-1=(k:Int):=by omega
   rw[l];have d:=O.out k;have i:=qh (Uz G G (Af d (by omega)) (Af d (by omega)) (Or.inl d));have E:=UI (x:=x) (n:=e) (k:=k);have f:=qh E;have p:x^(e/2^(k+1))*x^(e/2^(k+1))<P2 9600:=Af (BJ d d) (by omega);have N:=qh p;have S:(e:Int)/2^k=((e/2^k:Nat):Int):=by push_cast;rfl
   have D:e/2^k<18446744073709551616:=gN (iI _ _) he;have g:bits BinOp.and IntKind.u64 ((e/2^k:Nat):Int) 1=((e/2^k%2:Nat):Int):=by
    have:=bits_and_u64_nat (e/2^k) 1 D (by omega);rw[Nat.and_one_is_mod]at this;exact this
   clear E p d;obtain⟨t,s⟩:∃ t,e/2^k=t:=⟨_,rfl⟩;rw[s]at g S f D;have v:=qh s;clear s
   go_wp2_with fail
   refine i.out.mono ?_;rintro e2 w2 ⟨qa,qn,qc,rfl,P,hq⟩;have q:=hE.trans P;by_cases b:t%2=1
   · rw[b]at g;have j:=qh (Uz hq (hx.ext q) N.out (Af Y.out (by omega)) (Or.inr Y.out));have M:Hid (x^t=x^(e/2^(k+1))*x^(e/2^(k+1))*x):=by
      show _=_;have:=f.out;rw[gY b]at this;exact this
     clear b i f
     go_wp2_with fail
     refine j.out.mono ?_;rintro e2 w3 ⟨pa,pn,pc,rfl,Q,hp⟩;clear j;go_wp2;go_roundw
     case rel=>exact⟨k,pa,pn,pc,rfl,by go_num,by omega,q.trans Q,by rw[v.out,M.out];exact hp⟩
     case measure=>simp[intOf]
   · have C:t%2=0:=by omega
     rw[C]at g;have M:Hid (x^t=x^(e/2^(k+1))*x^(e/2^(k+1))):=by
      show _=_;have:=f.out;rw[gT b]at this;exact this
     clear C b i f;go_wp2;go_roundw
     case rel=>exact⟨k,qa,qn,qc,rfl,by go_num,by omega,q,by rw[v.out,M.out];exact hq⟩
     case measure=>simp[intOf]
theorem XE(w:World):Wd (w.alloc (.cells #[.int .u64 1] 238)) (some ⟨w.heap.size,0,none⟩) 1 1 1:=by
 refine⟨[1],(AB w w.heap.size 238 #[.int .u64 1] 1 rfl (lrf _) (by omega)).sl,⟨fun x a=>by simp at a;omega,W.nrm_single (by omega),by simp[W.val]⟩⟩
theorem Wf{x:Int}(C:Ct w base p qa qb N z)(r:AF w v x)(I:Ix (fun g=>qa≠some g/\qb≠some g) v)(E:x.natAbs<P2 9600)(F:N<=100000000)(G:base<=w.heap.size) :
 Calls prog 190 #[.pointer (some ⟨p,0,none⟩),v] w (WJ w base p qa qb N (z+x)):=by
 obtain⟨s,a,n,c,rfl,D,r⟩:=r
 go_enter func190,ntmps190
 go_upto_region 1 with(fail)
 refine AP ?_;intro l f b t;have K:=b.c 0 rfl;have L:=b.c 1 rfl;have o:=(Ext.refl l).alloc (.cells #[.int .u64 1] 238);have d:=f.trans o;have k:=XE l;have j:=C.lt;have H:=f.size
 have i:=Ee (C.ext d) (v := .agg (Ac s a n c).toArray) ⟨s,a,n,c,rfl,D,r.ext d⟩ (v' := .agg (Ac false (some ⟨l.heap.size,0,none⟩) 1 1).toArray) (y:=1) ⟨false,_,1,1,rfl,qh rfl,k⟩ I (DM fun _ g q=>by
  have:l.heap.size=g:=by simpa[blk]using q
  subst this;refine⟨fun h => ?_,fun h => ?_⟩
  · have:=(j.2.1 _ h).2;omega
  · have:=(j.2.2 _ h).2;omega) E (Cu (by omega)) (Or.inr (Cu (by omega))) F (gJ G d.size)
 have m:=qh i;clear i k b t
 go_wp2_with fail
 refine m.out.mono ?_;rintro e M ⟨rfl,A,B,h1,h2,h3,h4⟩;go_wp2
 go_end0
 rw[Int.mul_one]at h1;have J:=d.size;refine⟨rfl,A,B,h1,(Kp.ofExt d).trans h2 (fun _ _ h=>h),?_,?_⟩
 · rcases h3 with h|⟨g,h,q⟩
   · exact Or.inl h
   · exact Or.inr ⟨g,h,by omega⟩
 · rcases h4 with h|⟨g,h,q⟩
   · exact Or.inl h
   · exact Or.inr ⟨g,h,by omega⟩
theorem Ef{d:Nat}(H:SlN .u64 w a n c xs)(I:SlN .u64 w b m d ys)(K:Num 18446744073709551616 xs x)(L:Num 18446744073709551616 ys y)(X:n<=200000000)(v:y<=x)(P:∀ g,blk b=some g->g<w.heap.size) :
 Calls prog 233 #[.slice a n c,.slice b m d] w (Hy .u64 18446744073709551616 w (x-y)):=by
 have j:=qh H.len;have M:=qh I.len;have k:=qh K;have l:=qh L;have i:=qh v;clear K L v;have E:m<=n:=by
  refine ia fun V => ?_;have:=W.len_lt (B:=18446744073709551616) (by omega) k.out.bnd l.out.nrm (by rw[j.out,M.out];omega);rw[k.out.val,l.out.val]at this;have:=i.out;omega
 go_enter func233,ntmps233
 go_upto_region 2 with(at_make;refine C6 (n:=n) rfl rfl underlying81 AK rfl rfl rfl (by omega) (by unfold maxLen;omega) ?_;intro Y r f)
 have hA1:=(Az.of_zeros r).arr
 go_upto_region 3 with(refine LF (sT:=81) rfl rfl underlying81 AK rfl rfl hA1 (H.ext f) (lrf _) (by simp) (Jx _) ?_;intro z o s)
 have hA2:B3 .u64 z w.heap.size 238 xs:=by
  have:=Mr (w:=z) (g:=w.heap.size) (N:=n) (xs:=xs) (t:=238) (by rw[j.out];exact o);rw[j.out,ju]at this;simpa using this
 have p:Ext w z:=f.grownR s (lrf _);have C:Az .u64 z w.heap.size 238 w.heap.size n n xs:=by
  have:=B3.own hA2 (lrf _) (by rw[j.out];unfold maxLen;omega);rw[j.out]at this;exact this
 have F:blk b=none\/blk b≠some w.heap.size:=by
  cases D:blk b with
  | none=>exact Or.inl rfl
  | some g=>right;have:=P g D;simp;omega
 clear hA1 o s hA2 r f
 go_wp2_with fail
 refine(EM C (I.ext p) F k.out.bnd l.out.bnd E (by rw[k.out.val,l.out.val];exact i.out)).mono ?_;rintro e Z ⟨rfl,Q,zs,J,O,G⟩;rw[k.out.val,l.out.val]at G;have A:=p.grownR Q (lrf _)
 go_wp2_with fail
 refine(Bq J.sl).mono ?_;rintro e w4 ⟨q,rfl,rfl,R,S⟩;obtain⟨T,U⟩:=BE J.sl R S O G;go_wp2;go_ret;exact⟨_,q,_,_,rfl,A,T,U⟩
theorem Mw(b:SlN .u64 w a n c xs) :
 Calls prog 231 #[.slice a n c] w fun e d=>e = .returned (.slice a (W.trim xs).length c)/\d=w:=by
 refine(Bq b).mono ?_;rintro e d ⟨m,rfl,rfl,f,g⟩;refine⟨?_,rfl⟩;rw[g,iq,b.len,jK f]
theorem RH(f:SlN .u64 w a n c xs):SlN .u64 w a (W.trim xs).length c (W.trim xs):=by
 obtain⟨k,g,e⟩:=W.trimTo_prefix (xs:=xs) (lrf xs.length);have d:W.trim xs=xs.take k:=e;have b:k<=n:=by rw[<-f.len];exact g
 have h:=f.upto b;have i:(W.trim xs).length=k:=by rw[d,iq];omega
 rw[i,d];exact h
theorem Mx(hS:Ct w base p qa qb N z)(hN:N<=100000000) :
 Calls prog 192 #[.pointer (some ⟨p,0,none⟩)] w (EP w z):=by
 obtain⟨B,pn,Y,A,nn,X,q,o,hA,aj,ak,a6,a5,bp,bn,ah,ai,ao,am,hz,ap⟩:=hS;have y:SlN .u64 w B pn Y q:=a6.sl;have t:SlN .u64 w A nn X o:=a5.sl;have ag:∀ g,blk B=some g->g<w.heap.size:=fun g M=>(a6.lt M).2;have af:∀ g,blk A=some g->g<w.heap.size:=fun g M=>(a5.lt M).2;have np:Num 18446744073709551616 (W.trim q) (W.val 18446744073709551616 q):=Num.trim bp rfl;have a9:Num 18446744073709551616 (W.trim o) (W.val 18446744073709551616 o):=Num.trim bn rfl;have aq:(W.trim q).length<=pn:=by
  obtain⟨k,hk,e⟩:=W.trimTo_prefix (xs:=q) (lrf q.length);have e':W.trim q=q.take k:=e;rw[e',iq,y.len];omega
 have an:(W.trim o).length<=nn:=by
  obtain⟨k,hk,e⟩:=W.trimTo_prefix (xs:=o) (lrf o.length);have e':W.trim o=o.take k:=e;rw[e',iq,t.len];omega
 have S:=RH y;have R:=RH t;have a1:=fun(a:World) (b:Ext w a)=>qh (Mw (y.ext b));have a0:=fun(a:World) (b:Ext w a)=>qh (Mw (t.ext b));generalize W.val 18446744073709551616 q=P at *
 generalize W.val 18446744073709551616 o=s at *
 have E:=qh np;have D:=qh a9;generalize W.trim q=tp at *
 generalize W.trim o=tn at *
 generalize ab:tp.length=lp at *
 generalize aa:tn.length=ln at *
 have HZ:=qh hz;clear np a9 hz bp bn ah ai aj ak ab aa
 go_enter func192,ntmps192
 go_upto_region 1 with(fail)
 refine AP ?_;intro w0 f a2 al;have u0:w0.cell? ⟨p,0,none⟩=some (.slice B pn Y):=(hA.ext f).cell (i:=0) (by simp[Hs]);have u1:w0.cell? ⟨p,1,none⟩=some (.slice A nn X):=(hA.ext f).cell (i:=1) (by simp[Hs]);have hR:Arr w0 w.heap.size 83 (Ac false none 0 0):=a2;clear a2 al hA;have r:=fun(a:World) (b:Ext w0 a)=>qh (And.intro (b.cell u0) (b.cell u1))
 refine Ab (by kernel_rfl) (fun a=>Ext w0 a)
  [he (.pointer (some ⟨p,0,none⟩)),
 he (.pointer (some ⟨p,0,none⟩)),
 he (.pointer (some ⟨p,0,none⟩)),
 he (.slice B pn Y),
 hp (fun v a=>v = .slice B lp Y),
 he (.pointer (some ⟨p,0,none⟩)),
 he (.pointer (some ⟨p,0,none⟩)),
 he (.pointer (some ⟨p,1,none⟩)),
 he (.slice A nn X),
 hp (fun v a=>v = .slice A ln X),
 hp (fun v a=>v = .slice B lp Y),
 hp (fun v a=>v = .slice A ln X)]
  (by kernel_rfl) (fun _ _ e h=>h.trans e) ((Ext.refl w0).drew) ⟨trivial,trivial,trivial,trivial,fun _ _ _ _ h=>h,trivial,trivial,trivial,trivial,fun _ _ _ _ h=>h,fun _ _ _ _ h=>h,fun _ _ _ _ h=>h,trivial⟩ ⟨?o0,?o1,?o2,?o3,?o4,?o5,?o6,?o7,?o8,?o9,?o10,?o11,trivial⟩ ?fin
 case o0 | o5=>exact omv
 case o1 | o6=>exact onc
 case o2=>exact ofa (d:=0)
 case o3 | o8=>exact ol
 case o7=>exact ofa (d:=1)
 case o4 =>
  refine Ag rfl fun ρ a b n L h => ?_;have e1:ρ (.tmp 8)=(.slice B pn Y):=h.2.1;obtain⟨k0,k1⟩:=(r a b).out;refine⟨231,#[.slice B pn Y],by go_simp,((a1 a (f.trans b)).out).mono ?_⟩;rintro e w' ⟨rfl,rfl⟩;exact⟨_,rfl,Ext.refl _,rfl⟩
 case o9 =>
  refine Ag rfl fun ρ a b n L h => ?_;have e1:ρ (.tmp 13)=(.slice A nn X):=h.2.1;obtain⟨k0,k1⟩:=(r a b).out;refine⟨231,#[.slice A nn X],by go_simp,((a0 a (f.trans b)).out).mono ?_⟩;rintro e w' ⟨rfl,rfl⟩;exact⟨_,rfl,Ext.refl _,rfl⟩
 case o10 =>
  refine AE rfl ?_;intro ρ a hp b h;have n:=hp.const;have L:=hp.func;obtain⟨v0,e0,rfl⟩:=h.1;obtain⟨k0,k1⟩:=(r a b).out;exact⟨_,a,by go_simp,Ext.refl _,rfl⟩
 case o11 =>
  refine AE rfl ?_;intro ρ a hp b h;have n:=hp.const;have L:=hp.func;obtain⟨v0,e0,rfl⟩:=h.1;obtain⟨k0,k1⟩:=(r a b).out;exact⟨_,a,by go_simp,Ext.refl _,rfl⟩
 case fin =>
  intro a b;rintro _ rfl;rintro _ rfl;rintro _ rfl;rintro _ rfl;change wpList _ _ _ _ _ _;simp only[lq,lw,lx,lz,Act.put,lj,lk,ly];have K:=f.trans b;have ac:=hR.ext b;clear a1 a0 u0 u1 f hR y t b;obtain⟨w1,rfl⟩:∃ x:World,x=a:=⟨_,rfl⟩;have a8:=Bl (S.ext K) (R.ext K) E.out D.out
  go_wp2_with fail
  refine a8.mono ?_;rintro e w2 ⟨rfl,hQ⟩;have c:=K.trans hQ.ext;have a7:=ac.ext hQ.ext;clear a8;by_cases Q:s<=P
  · have ad:0<=AZ (P:Int) (s:Int):=CZ.2 Q;have C:=qh (Ef (S.ext c) (R.ext c) E.out D.out (by omega) Q (fun g M=>ib (af g M) c.size));have G:Hid (z=if(false=true)then -((P-s:Nat):Int)else((P-s:Nat):Int)):=qh (by rw[HZ.out];simp;omega);generalize AZ (P:Int) (s:Int)=cv at *
    go_wp2_with fail
    refine C.out.mono ?_;intro e w3 hr;obtain⟨a3,n3,c3,rfl,j,T⟩:=hr.wd
    go_wp2_with fail
    refine(BR T G.out).mono ?_;rintro e w4 ⟨Z,H,V,I,rfl,l,F,U⟩;have ae:(Ac Z H V I).toArray=#[.bool Z,.slice H V I]:=rfl;have m:=(a7.ext j).ext l
    go_wp2_with(refine Aa (vs:=Ac Z H V I) rfl rfl rfl rfl rfl Ai m rfl (Ae _ _ _ _) ?_;intro w9 J O)
    exact gF (Ap rfl Ai rfl J) rfl (BA ((c.trans j).trans l) m (Ax _ _ _ _) O (lrf _) F U)
  · have ad:¬ 0<=AZ (P:Int) (s:Int):=fun h=>Q (CZ.1 h);have C:=qh (Ef (R.ext c) (S.ext c) D.out E.out (by omega) (by omega) (fun g M=>ib (ag g M) c.size));have G:Hid (z=if(true=true)then -((s-P:Nat):Int)else((s-P:Nat):Int)):=qh (by rw[HZ.out];simp;omega);generalize AZ (P:Int) (s:Int)=cv at *
    go_wp2_with fail
    refine C.out.mono ?_;intro e w3 hr;obtain⟨a3,n3,c3,rfl,j,T⟩:=hr.wd
    go_wp2_with fail
    refine(BR T G.out).mono ?_;rintro e w4 ⟨Z,H,V,I,rfl,l,F,U⟩;have ae:(Ac Z H V I).toArray=#[.bool Z,.slice H V I]:=rfl;have m:=(a7.ext j).ext l
    go_wp2_with(refine Aa (vs:=Ac Z H V I) rfl rfl rfl rfl rfl Ai m rfl (Ae _ _ _ _) ?_;intro w9 J O)
    exact gF (Ap rfl Ai rfl J) rfl (BA ((c.trans j).trans l) m (Ax _ _ _ _) O (lrf _) F U)
end Go.Proofs.YtlbmnokpiilfpaaGreatDoor
