/- Part Pj28. -/
import Derived.Test.YtpkijbkpjhpfmaaGreatDoorPj27

set_option linter.all false
set_option maxRecDepth 100000
set_option maxHeartbeats 100000000
namespace Go.Proofs.YtpkijbkpjhpfmaaGreatDoor
open Tryz Go Go.RowKit
def md:=@Rat.mul_one
variable {va vb:Int} {c d k m n:Nat} {a b:Option Addr} {q:Rat} {w:World}
def NLL(ls:List (List Pl.Tm))(v:Value)(w:World):Prop:=∃a n c,v=.slice a n c/\n<=1000/\Hb w a n c ls
theorem NLL.x(ls:List (List Pl.Tm)):StX (NLL ls):=fun _ _ _ x ⟨a,n,c,h1,h2,h3⟩=>⟨a,n,c,h1,h2,h3.ext x⟩
theorem Ky{la f:List Pl.Tm}(g:Bi w a n c la)(j:Bi w b m d f):Hb (w.alloc (.cells #[.slice a n c,.slice b m d] 84)) (some ⟨w.heap.size,0,none⟩) 2 2 [la,f]:=by (have e:=(Ext.refl w).alloc (.cells #[.slice a n c,.slice b m d] 84);refine⟨[.slice a n c,.slice b m d],(AX w w.heap.size 84 #[.slice a n c,.slice b m d] 2 rfl (lrf _) (by omega)).sl,rfl,fun i k=>?_⟩;have h01:i=0\/i=1:=by omega);rcases h01 with rfl|rfl;{exact⟨_,n,c,rfl,g.ext e⟩};exact⟨_,m,d,rfl,j.ext e⟩
def LO(w:World)(va vb:Int)(oa ob:Option (List Pl.Tm))(e:Ending)(w':World):Prop :=
 (∃la lb,oa=some la/\ob=some lb/\va=vb/\Ds w (resQ va (la++lb)) e w') \/
 ((oa.isSome && ob.isSome)=true/\va≠vb/\CB w 0 [] 4 e w')\/((oa.isSome && ob.isSome)=false/\CB w 0 [] 1 e w')
theorem Se{Y tb:List Tx}(hT:AE w)(ha:BB w a n c Y)(hb:BB w b m d tb)(sa:∀t∈Y,t.1.length<=570)(sb:∀t∈tb,t.1.length<=570)(F:∀i l,rdP va Y=some i->rdP vb tb=some l->va=vb->Fk (i++l)):Calls prog 19 #[.agg #[.int .i64 va,.slice a n c],.agg #[.int .i64 vb,.slice b m d]] w (LO w va vb (rdP va Y) (rdP vb tb)):=by have G:=fun(f:World) (g:Ext w f)=>qh (Eh (va:=va) (vb:=vb) (hT.ext g) (ha.ext g) (hb.ext g) sa sb);have W:∀i,rdP va Y=some i->0<=va/\va<=6:=fun i h=>Jo h;obtain⟨oa,a9⟩:∃o,rdP va Y=o:=⟨_,rfl⟩;obtain⟨ob,aa⟩:∃o,rdP vb tb=o:=⟨_,rfl⟩;rw[a9]at G F W|-;rw[aa]at G F|-;have Z:=qh F;clear a9 aa sa sb ha hb F;go_enter func19,ntmps19;go_upto_region 1 with(fail);refine C8 ?_;intro w0 Q N O a4 al;have ab:=N.c 0 rfl;have an:=N.c 1 rfl;have ao:=O.c 0 rfl;have ap:=O.c 1 rfl;have hR:Arr w0 (w.heap.size+2) 30 (Ad 0 none 0 0):=a4;have av:(Ad 0 none 0 0).toArray=#[.int .i64 0,.slice none 0 0]:=rfl;clear N O a4 al;go_wp2_with fail;refine(G _ Q).out.mono ?_;rintro e w1 ⟨a1,n1,c1,b1,m1,d1,aq,rfl,R,U⟩;have j:=Q.trans R;have T:=hR.ext R;have ab:=R.cell ab;have aw:=Q.size;clear G an ao ap;rcases U with⟨i,l,rfl,rfl,hv,rfl,ag,ah⟩|⟨hs,hv,rfl⟩|⟨hs,rfl⟩;{(have HM:=qh (Z.out i l rfl rfl hv);have ax:=W i rfl;clear Z W;obtain⟨vn,rfl⟩:∃k:Nat,va=(k:Int):=⟨va.toNat,by omega⟩;have HV:=qh hv;clear hv;have s:[i,l].flatten=i++l:=by simp);have J:=fun(f:World) (h:Ext w1 f) (a':Option Addr) (n' c':Nat) (aj:n'<=1000) (hl:Hb f a' n' c' [i,l])=>qh (Gl ((hT.ext j).ext h) hl aj (by rw[s];exact HM.out.fits.len) (by rw[s];exact HM.out.pre) (by rw[s];exact HM.out.each));rw[s]at J;have ad:Hid (BE (i++l)):=qh HM.out.fits;clear s;go_wp2;obtain⟨I,a0⟩:∃r,Hid (resQ (vn:Int) (i++l)=r):=⟨_,qh rfl⟩;refine Ae [hdP w.heap.size 0,hdI vn,hdS a1 n1 c1,hdS b1 m1 d1,hu 5 (fun v f=>NLL [i,l] v f),hu 6 (fun v f=>Hu w1 (i++l) v f),hmp (fun v f=>NPE w1 I v f),hp (fun v f=>NPo w1 I v f),hdI I.2.2] ⟨NLL.x _,Hu.x _ _,NPE.x _ _,NPo.x _ _,trivial⟩ ⟨?o0,?o1,?o2,?o3,?o4,?o5,?o6,?o7,?o8,trivial⟩ ?fin;(case o0=>exact ofa (d:=0));(case o1=>exact ol);(case o2|o3=>exact omv);(case o4=>refine AW rfl ?_;intro ρ f hp g h;have K:=hp.const;have e0:_=_:=h.1;have e1:_=_:=h.2.1;refine⟨.slice (some ⟨f.heap.size,0,none⟩) 2 2,f.alloc (.cells #[.slice a1 n1 c1,.slice b1 m1 d1] 84),by go_simp,(Ext.refl _).alloc _,some ⟨f.heap.size,0,none⟩,2,2,rfl,by omega,Ky (ag.ext g) (ah.ext g)⟩);(case o5=>refine Ak rfl fun ρ f g K ai h=>?_;obtain⟨v1,e1,B,H,C,rfl,D,E⟩:=h.2.1;refine⟨46,#[.slice B H C],by go_simp,((J f g B H C D E).out).mono ?_⟩;rintro e w' ⟨am,⟨y,A,z,rfl,S,p⟩,h1,h2⟩;exact⟨_,rfl,S,y,A,z,am,rfl,p.mono g.size,h1,h2⟩);(case o6=>refine DV rfl ?_;intro ρ f hp g h;have K:=hp.const;have ai:=hp.func;have e0:_=_:=h.2.1;obtain⟨v1,e1,B,H,C,ay,rfl,D,E,a3⟩:=h.2.2.1;have a6:=ad.out.out E a3;have ar:=D.len;refine⟨45,#[.int .i64 (vn:Int),.slice B H C],by go_simp,(B0 (vars:=vn) (w0:=w1) (hT.ext j) g D (by omega) a6.1 a6.2.1 (by omega)).mono ?_⟩;intro e w' hw;have hq:=EL.q hw E a3;rw[a0.out]at hq;obtain⟨y,A,z,rfl,S,p⟩:=hq;exact⟨_,rfl,S,⟨trivial,trivial,trivial,trivial,trivial,trivial,trivial,trivial,trivial,trivial⟩,y,A,z,rfl,p⟩);(case o7=>refine AW rfl ?_;intro ρ f hp g h;obtain⟨v0,e0,L,X,M,rfl,a2⟩:=h.1;exact⟨Br I.1 L X M,f,by go_simp,Ext.refl _,L,X,M,rfl,a2⟩);(case o8=>refine BK rfl ?_;intro ρ f hp g h;obtain⟨v0,e0,L,X,M,rfl,a2⟩:=h.1;go_simp);case fin=>intro f g;rintro _;rintro _;rintro _ h42;rintro _ h43;change wpList _ _ _ _ _ _;simp only[BQ];obtain⟨y,A,z,rfl,p⟩:=h43;clear h42;have af:=j.trans g;have a5:=T.ext g;have ak:Br I.1 y A z=.agg #[.int .i64 I.1,.slice y A z]:=rfl;rw[ak];have au:(Ad I.1 y A z).toArray=#[.int .i64 I.1,.slice y A z]:=rfl;go_wp2_with(refine Ac I.1 y A z Ag a5 ?_;intro w8 ae a8);refine lg (Aj rfl Ai rfl rfl ae) rfl ?_;exact Or.inl ⟨i,l,rfl,rfl,HV.out,by rw[a0.out];exact⟨y,A,z,rfl,af.grownR a8 (by omega),(p.mono j.size).keptA a5 a8⟩⟩};{(have ac:((4:Int) != 0)=true:=by decide);go_wp2_with(refine Ac 0 none 0 0 Ag T ?_;intro w9 P V);refine lg (Aj rfl Ai rfl rfl P) rfl ?_;exact Or.inr (Or.inl ⟨hs,hv,none,0,0,rfl,j.grownR V (by omega),TmO.nil _ _⟩)};(have ac:((1:Int) != 0)=true:=by decide);go_wp2_with(refine Ac 0 none 0 0 Ag T ?_;intro w9 P V);refine lg (Aj rfl Ai rfl rfl P) rfl ?_;exact Or.inr (Or.inr ⟨hs,none,0,0,rfl,j.grownR V (by omega),TmO.nil _ _⟩)
theorem BB.nil(w:World):BB w none 0 0 []:=⟨[],SlK.nil w 2,rfl,fun i a=>absurd a (by omega)⟩
theorem Tu(h:(txt q).length<=k+2)(h1:1<=k):q.den<P2 (4*k):=by (have e:(16:Nat)^k=P2 (4*k):=by unfold P2;rw[kR]);have b:10^k<=16^k:=kA (by omega) _;rw[<-e];by_cases a:q.den=1;{rw[a];exact Nat.one_lt_pow (by omega) (by omega)};(have h3:=LK q.den;have h4:(Lib.decDigits q.den).length<=k:=by (unfold txt at h;rw[gN a]at h;have h5:0<(Lib.itoa q.num).length:=by unfold Lib.itoa;split;{simp};exact List.length_pos_iff.2 (W.dec_ne _));simp at h;omega);exact gP h3 (ia (gR (by omega) h4) b)
end Go.Proofs.YtpkijbkpjhpfmaaGreatDoor
namespace Go.Proofs.YtpkijbkpjhpfmaaGreatDoor.Pl
theorem Ni(s:List Int)(c:Rat)(e:List Int):∀b:List Tm,coef (b.map (fun t=>(plE s t.1,c*t.2))) e=c*lin (fun m=>if plE s m=e then 1 else 0) b
|[]=>by simp[coef,lin]
|t::r=>by rw[jx];unfold coef lin;rw[Ni s c e r,Rat.mul_add];by_cases h:plE s t.1=e;{simp[h]};simp[h]
theorem Kz(a b:List Tm)(e:List Int):coef (prodT a b) e=lin (fun s=>lin (fun m=>if plE s m=e then 1 else 0) b) a:=by induction a with|nil=>{rfl}|cons s r ih=>(have h:prodT (s::r) b=b.map (fun t=>(plE s.1 t.1,s.2*t.2))++prodT r b:=by simp[prodT]);rw[h,coef_app,Ni,ih];rfl
theorem coef_prod_ext{a c b d:List Tm}(f:∀e,coef a e=coef c e)(g:∀e,coef b e=coef d e)(e:List Int):coef (prodT a b) e=coef (prodT c d) e:=by rw[Kz,Kz,O4 f];congr 1;funext s;exact O4 g
end Go.Proofs.YtpkijbkpjhpfmaaGreatDoor.Pl
namespace Go.Proofs.YtpkijbkpjhpfmaaGreatDoor
open Go Go.RowKit
variable {va vb:Int} {L:List UInt8} {cs:List Value} {B D E P Y Z b base c g k m n:Nat} {p q:Rat} {w w':World}
namespace Pl
theorem plE_len{a b:List Int}(h:a.length=b.length):(plE a b).length=a.length:=by unfold plE;rw[List.length_zipWith,h,Nat.min_self]
theorem plE_sum:∀{a b:List Int},a.length=b.length->(plE a b).sum=a.sum+b.sum
|[],[],_=>rfl
|x::a,y::b,h=>by have:=plE_sum (a:=a) (b:=b) (by simpa using h);unfold plE at this|-;simp only[List.zipWith_cons_cons,kn,this];omega
end Pl
namespace Pl
def QB(D Y:Nat)(q:Rat):Prop:=∃z:Int,q*(D:Rat)=(z:Rat)/\z.natAbs<=Y
theorem QB.zero(D Y:Nat):QB D Y 0:=⟨0,by rw[Rat.zero_mul];rfl,by simp⟩
theorem QB.add(hp:QB D Y p)(a:QB D Z q):QB D (Y+Z) (p+q):=by obtain⟨x,h1,h2⟩:=hp;obtain⟨y,h3,h4⟩:=a;refine⟨x+y,by rw[Rat.add_mul,h1,h3,nW],?_⟩;have:=mJ x y;omega
theorem QB.mul(hp:QB D Y p)(a:QB E Z q):QB (D*E) (Y*Z) (p*q):=by obtain⟨x,h1,h2⟩:=hp;obtain⟨y,h3,h4⟩:=a;refine⟨x*y,?_,by rw[jB];exact jq h2 h4⟩;rw[mU,mV,<-h1,<-h3];grind
theorem QB.neg(h:QB D Y q):QB D Y (-q):=by obtain⟨x,h1,h2⟩:=h;exact⟨-x,by rw[Rat.neg_mul,h1,Rat.intCast_neg],by rw[kK];exact h2⟩
theorem QB.mono(h:QB D Y q)(a:Y<=Z):QB D Z q:=by obtain⟨x,h1,h2⟩:=h;exact⟨x,h1,by omega⟩
theorem QB.scale(h:QB D Y q)(k:Nat):QB (D*k) (Y*k) q:=by obtain⟨x,h1,h2⟩:=h;refine⟨x*k,?_,by rw[jB];exact jq h2 (lrf _)⟩;rw[mU,mV,<-h1,<-nH];rfl
theorem QB.parts(h:QB D Y q)(c:0<D):q.num.natAbs<=Y/\q.den∣D:=by (obtain⟨z,h1,h2⟩:=h;have h0:(D:Rat)≠0:=fun h=>by have:=kQ.1 h;omega);(have e:q=mkRat z D:=by rw[mkRat_div,<-h1,nH,nG _ h0,md]);obtain⟨b,a⟩:=rat_frac (n:=z) (d:=D) (by omega);rw[e];refine⟨ia (mkRat_le (by omega)).1 h2,?_⟩;rw[a];exact Nat.div_dvd_of_dvd (jM _ _)
theorem QB.rb(h:QB D Y q)(a:0<D)(h1:D<P2 b)(h2:Y<P2 b):RB b q := ⟨gQ (h.parts a).1 h2,gQ (li a (h.parts a).2) h1⟩
theorem QB.of(a:q.den∣D)(b:q.num.natAbs<=Y):QB D (Y*D) q:=by refine⟨zsc q D,(On a).symm,?_⟩;unfold zsc;rw[jB];exact jq b (iB _ _)
def SB(D Y:Nat)(l:List Tm):Prop:=∀t∈l,QB D Y t.2
theorem SB.coef{D Y:Nat}(e:List Int):∀{l:List Tm},SB D Y l->QB D (l.length*Y) (coef l e)
|[],_=>QB.zero _ _
|t::r,h=>by (have h1:QB D Y (if t.1=e then t.2 else 0):=by split;{exact h t (by simp)};exact QB.zero _ _);have h2:=QB.add h1 (SB.coef e (l:=r) (fun s a=>h s (by simp[a])));exact h2.mono (by rw[ig,jf];omega)
theorem SB.prod{a b:List Tm}(c:SB D Y a)(d:SB E Z b):SB (D*E) (Y*Z) (prodT a b):=by intro u hu;obtain⟨x,e,h⟩:=mO.1 hu;obtain⟨y,f,rfl⟩:=iZ.1 h;exact(c x e).mul (d y f)
theorem SB.mono{D Y Z:Nat}{l:List Tm}(h:SB D Y l)(b:Y<=Z):SB D Z l:=fun t a=>(h t a).mono b
theorem SB.scale{D Y:Nat}{l:List Tm}(h:SB D Y l)(k:Nat):SB (D*k) (Y*k) l:=fun t a=>(h t a).scale k
theorem SB.app{a b:List Tm}(c:SB D Y a)(d:SB D Y b):SB D Y (a++b):=fun t e=>(iU.1 e).elim (c t) (d t)
theorem SB.app2{a b:List Tm}(c:SB D Y a)(d:SB E Z b):SB (D*E) (Y*E+Z*D) (a++b):=by refine SB.app ((c.scale E).mono (by omega)) ?_;rw[ib D E];exact(d.scale D).mono (by omega)
theorem UO(a b:Nat):a*(b/Nat.gcd a b)=Nat.lcm a b:=by unfold Nat.lcm;rw[mH _ (jM a b)]
theorem Sf{l:List Rat}(h:∀q∈l,q.den∣D):Bq l∣D:=by (have c:∀(l:List Rat) (a:Nat),a∣D->(∀q∈l,q.den∣D)->l.foldl (fun a q=>a*(q.den/Nat.gcd a q.den)) a∣D:=by intro l;induction l with|nil=>{intro a b _;exact b}|cons q r ih=>intro a b h;rw[mY,UO];exact ih _ (Nat.lcm_dvd b (h q (by simp))) (fun s d=>h s (by simp[d])));exact c l 1 (Nat.one_dvd _) h
theorem SB.lcm{l:List Tm}(h:SB D Y l)(a:0<D):Bq (l.map (·.2))<=D:=by refine li a (Sf fun q b=>?_);obtain⟨t,c,rfl⟩:=iZ.1 b;exact((h t c).parts a).2
theorem SB.of{Y:Nat}{l:List Tm}(h:∀t∈l,t.2.num.natAbs<=Y):SB (Bq (l.map (·.2))) (Y*Bq (l.map (·.2))) l := fun t a=>QB.of (Jl (jc a)) (h t a)
end Pl
theorem LP{p:List Pl.Tm}(h6:∀t∈p,t.1.length=6):(cnP p).length<=p.length:=by have h:=Pl.nodup_le ((cnP p).map (·.1)) (p.map (·.1)) (DX (DY h6).1).nodup (fun e he=>by obtain⟨t,b,rfl⟩:=iZ.1 he;obtain⟨s,a,e⟩:=LL h6 b;rw[<-e];exact jc a);simpa using h
theorem SB.cn{p:List Pl.Tm}(h6:∀t∈p,t.1.length=6)(h:Pl.SB D Y p):Pl.SB D (p.length*Y) (cnP p):=by intro t a;obtain⟨h1,h2⟩:=DY h6;rw[<-Pl.coef_mem (DX h1).nodup a,h2];exact h.coef t.1
theorem LQ(h:Pl.RB b q):(txt q).length<=2*(b/3)+4:=by have h1:=Lv h.1;have h2:=I4 h.2;unfold txt;rw[gI];split;{simp;omega};simp;omega
theorem KA{a b:List Pl.Tm}{t:Pl.Tm}(h:t∈Pl.prodT a b):∃x∈a,∃y∈b,t.1=Pl.plE x.1 y.1:=by obtain⟨x,c,h⟩:=mO.1 h;obtain⟨y,d,rfl⟩:=iZ.1 h;exact⟨x,c,y,d,rfl⟩
def Lo(l:List Pl.Tm):Prop:=∀t∈l,t.1.length=6/\∀x∈t.1,0<=x/\x<=1048576
theorem Lo.small{l:List Pl.Tm}(h:Lo l):BJ l:=fun t a=>⟨(h t a).1,fun x b=>by have:=(h t a).2 x b;omega⟩
theorem Pk{B C:Int}:∀{a b:List Int},(∀x∈a,0<=x/\x<=B)->(∀x∈b,0<=x/\x<=C)->∀x∈Pl.plE a b,0<=x/\x<=B+C
|[],_,_,_=>by simp[Pl.plE]
|_::_,[],_,_=>by simp[Pl.plE]
|x::a,y::b,h1,h2=>by (intro u hu;have hu':u=x+y\/u∈Pl.plE a b:=by simpa[Pl.plE]using hu);rcases hu' with rfl|hu;{have:=h1 x (by simp);have:=h2 y (by simp);omega};exact Pk (fun z c=>h1 z (by simp[c])) (fun z c=>h2 z (by simp[c])) u hu
theorem Pm{p:List Pl.Tm}(h:Pl.SB D Y p)(a:0<D)(h1:D<P2 b)(h2:p.length*Y<P2 b)(c:b<=1920)(d:∀t∈p,t.1.length=6/\∀x∈t.1,0<=x/\x<=1099511627776)(f:p.length<=1000000):BE p:=by refine⟨fun e he=>?_,f⟩;obtain⟨t,g,rfl⟩:=Pl.coef_present he;exact⟨RB.str ((h.coef t.1).rb a h1 h2) c,d t g⟩
theorem Sg{la lb:List Pl.Tm}(ha:Pl.SB D Y la)(hb:Pl.SB E Z lb)(hD:0<D)(hE:0<E)(d1:D<P2 256)(d2:E<P2 256)(y1:Y<P2 1000)(y2:Z<P2 1000)(ka:Lo la)(kb:Lo lb)(na:la.length<=1000)(nb:lb.length<=1000)(hz:la.length*lb.length*(Y*Z)<P2 b)(hb1:512<=b)(hb2:b<=1920):EP la lb:=by refine EP.of (fun t ht=>(ha t ht).rb hD (Ah d1 (by omega)) y1) (fun t ht=>(hb t ht).rb hE (Ah d2 (by omega)) y2) ka.small kb.small (gQ (ha.lcm hD) d1) (gQ (hb.lcm hE) d2) (by omega) (by omega) ?_;have hlen:=GT la lb;have hle:la.length*lb.length<=1000*1000:=jq na nb;refine Pm (ha.prod hb) (kJ hD hE) (Ah (Cc d1 d2) hb1) (by rw[hlen];exact hz) hb2 (fun t ht=>?_) (by rw[hlen];omega);obtain⟨x,hx,y,hy,e⟩:=KA ht;rw[e,Pl.plE_len (by rw[(ka x hx).1,(kb y hy).1])];refine⟨(ka x hx).1,fun z hz=>?_⟩;have:=Pk (ka x hx).2 (kb y hy).2 z hz;omega
theorem Sh{p:List Pl.Tm}(h:Pl.SB D Y p)(d:0<D)(h1:D<P2 b)(h2:p.length*Y<P2 b)(j:b<=1920)(g:Lo p)(l:p.length<=1000):Fk p where
 pre:=fun a s e x=>by
  have i:Pl.SB D Y a:=fun t c=>h t (by rw[<-e];simp[c]);have f:a.length<=p.length:=by rw[<-e];simp
  exact((i.coef x).rb d h1 (gQ (gH _ f) h2)).mono (by omega)
 each:=fun t c=>((h t c).rb d h1 (gQ (by
  have:1<=p.length:=mQ c;have:=gH Y this
  omega) h2)).mono (by omega)
 fits:=Pm h d h1 h2 j (fun t c=>⟨(g t c).1,fun x k=>by have:=(g t c).2 x k;omega⟩) (by omega)
theorem Tv(h:(txt q).length<=k):q.num.natAbs<10^k := gP (Pg q).1 (gR (by omega) h)
theorem UP{ts:List Tx}{l:List Pl.Tm}{nt d:Nat}(h:rdP va ts=some l)(g:CO ts nt d)(o:3<=d)(n:10^d<=P2 B):∃D,0<D/\D<P2 (4*(d-2)*nt+1)/\Pl.SB D (P2 (B+(4*(d-2)*nt+1))) l:=by (have e:∀t∈l,(txt t.2).length<=d:=by intro m e;obtain⟨t,c,j⟩:=E5 h e;have h1:=De (BA j).1;rw[<-h1];exact(g.2 t c).1);(have a:=Cl h;have f:Bq (l.map (·.2))<P2 (4*(d-2)*nt+1):=by have h1:=R9 (l:=l.map (·.2)) (b:=4*(d-2)) (fun q i=>by obtain⟨t,c,rfl⟩:=iZ.1 i;exact Tu (k:=d-2) (by have:=e t c;omega) (by omega));(refine Ah h1 ?_;have h2:l.length<=nt:=by rw[a];exact g.1);have:=il (4*(d-2)) h2;rw[ld];omega);refine⟨_,Dd (l.map (·.2)),f,(Pl.SB.of (Y:=P2 B) (fun t c=>?_)).mono ?_⟩;{have:=Tv (e t c);omega};rw[BV];exact il _ (kP f)
open Classical in
noncomputable def mulA (va vb:Int) (oa ob:Option (List Pl.Tm)):Int×List Tx×Int :=
 match oa,ob with
| some la,some lb=>if va=vb then(if la≠[]/\lb≠[]/\24<BO la+BO lb then(0,[],2)else resQ va (Pl.prodT la lb))else(0,[],4)
| _,_=>(0,[],1)
noncomputable def addA (va vb:Int) (oa ob:Option (List Pl.Tm)):Int×List Tx×Int :=
 match oa,ob with
| some la,some lb=>if va=vb then resQ va (la++lb)else(0,[],4)
| _,_=>(0,[],1)
theorem Ox.a{oa ob:Option (List Pl.Tm)}{e:Ending}(h:Ox w va vb oa ob e w'):Ds w (mulA va vb oa ob) e w':=by unfold mulA;rcases h with⟨f,g,rfl,rfl,d,h⟩|⟨c,d,h⟩|⟨c,h⟩;{simp only[gS d];rcases h with⟨b,h⟩|⟨b,h⟩;{rw[gN b];exact h};rw[gS b];exact h};{cases oa<;>cases ob<;>simp at c;simp only[gN d];exact h};cases oa<;>cases ob<;>simp at c<;>exact h
theorem LO.a{oa ob:Option (List Pl.Tm)}{e:Ending}(h:LO w va vb oa ob e w'):Ds w (addA va vb oa ob) e w':=by unfold addA;rcases h with⟨d,f,rfl,rfl,c,h⟩|⟨b,c,h⟩|⟨b,h⟩;{simp only[gS c];exact h};{cases oa<;>cases ob<;>simp at b;simp only[gN c];exact h};cases oa<;>cases ob<;>simp at b<;>exact h
structure Pv(v:Int)(l:List Pl.Tm):Prop where
 v0:0<=v/\v<=6
 can:Pl.Canon 6 l
 inv:∀t∈l,InV v.toNat t.1
theorem Pv.of{v:Int}{ts:List Tx}{l:List Pl.Tm}(h:rdP v ts=some l):Pv v l:=by have a:=(Bo h).1;refine⟨a,C4 h,?_⟩;obtain⟨k,rfl⟩:∃k:Nat,v=(k:Int):=⟨v.toNat,by omega⟩;rw[lr];exact Pi h
theorem InV.pl{a b:List Int}(r:InV n a)(s:InV n b):InV n (Pl.plE a b):=by obtain⟨i,m,j⟩:=r;obtain⟨o,p,k⟩:=s;refine⟨by rw[Pl.plE_len (by omega),i],fun x c=>?_,?_⟩;{(have f:∀{a b:List Int},(∀x∈a,0<=x)->(∀x∈b,0<=x)->∀x∈Pl.plE a b,0<=x:=by intro a;induction a with|nil=>{intro b _ _ x c;simp[Pl.plE]at c}|cons u a ih=>intro b h1 h2 x c;cases b with|nil=>{simp[Pl.plE]at c}|cons w b=>(have d:x=u+w\/x∈Pl.plE a b:=by simpa[Pl.plE]using c);rcases d with rfl|c;{have:=h1 u (by simp);have:=h2 w (by simp);omega};exact ih (fun z e=>h1 z (by simp[e])) (fun z e=>h2 z (by simp[e])) x c);exact f m p x c};(unfold Ca at j k|-;have q:(Pl.plE a b).take n=Pl.plE (a.take n) (b.take n):=by unfold Pl.plE;rw[List.take_zipWith]);(have g:(a.take n).length=(b.take n).length:=by simp[i,o]);(have l:Pl.plE (a.take n++List.replicate (6-(a.take n).length) 0) (b.take n++List.replicate (6-(b.take n).length) 0)=Pl.plE (a.take n) (b.take n)++List.replicate (6-(a.take n).length) 0:=by unfold Pl.plE;rw[List.zipWith_append g,<-g];congr 1;rw[List.zipWith_replicate];simp);rw[j,k]at l;rw[q,l,Pl.plE_len g]
theorem Jr{a b:List Pl.Tm}(c:∀t∈a,InV n t.1)(d:∀t∈b,InV n t.1):∀t∈Pl.prodT a b,InV n t.1:=by intro t f;obtain⟨x,g,y,i,e⟩:=KA f;rw[e];exact(c x g).pl (d y i)
theorem LR{a b:List Pl.Tm}(c:∀t∈a,InV n t.1)(d:∀t∈b,InV n t.1):∀t∈a++b,InV n t.1:=fun t e=>(iU.1 e).elim (c t) (d t)
theorem Pv.prod{v:Int}{a b:List Pl.Tm}(c:Pv v a)(d:Pv v b):Pv v (cnP (Pl.prodT a b)) := ⟨c.v0,(DY fun t e=>(Jr c.inv d.inv t e).1).1,LM (Jr c.inv d.inv)⟩
theorem Pv.app{v:Int}{a b:List Pl.Tm}(c:Pv v a)(d:Pv v b):Pv v (cnP (a++b)) := ⟨c.v0,(DY fun t e=>(LR c.inv d.inv t e).1).1,LM (LR c.inv d.inv)⟩
theorem KB{v:Int}{p:List Pl.Tm}(hi:∀t∈p,InV v.toNat t.1)(c:p.length<=4096)(d:∀t∈p,t.1.sum<=24):(resQ v p).2.2=0:=by have h6:∀t∈p,t.1.length=6:=fun t f=>(hi t f).1;unfold resQ;rw[gS];refine⟨ia (LP h6) c,fun t r e=>?_⟩;obtain⟨s,a,b⟩:=LL h6 (t:=t) (by rw[e];simp);rw[<-b];exact FD.2 ⟨by rw[h6 s a];omega,(hi s a).2.1,d s a⟩
theorem Js{a:Nat}(h:a<b):P2 a<P2 b:=Nat.pow_lt_pow_right (by omega) h
structure Bd(v:Int)(N d y:Nat)(l:List Pl.Tm):Prop where
 pv:Pv v l
 lo:Lo l
 len:l.length<=N
 sb:∃D,0<D/\D<P2 d/\Pl.SB D (P2 y) l
section
variable {v:Int} {N M d e y z:Nat} {la lb:List Pl.Tm} {ts:List Tx}
theorem Bd.of{nt k B:Nat}(h:rdP v ts=some la)(a:CO ts nt k)(c:3<=k)(b:10^k<=P2 B):Bd v nt (4*(k-2)*nt+1) (B+(4*(k-2)*nt+1)) la := ⟨Pv.of h,Dg h,by rw[Cl h];exact a.1,UP h a c b⟩
theorem Lo.of{l:List Pl.Tm}(h:rdP v ts=some l):Lo l:=Dg h
theorem Bd.prod{k:Nat}(a:Bd v N d y la)(b:Bd v M e z lb)(h:rdP v ts=some (cnP (Pl.prodT la lb)))(j:N*M<=P2 k):Bd v (N*M) (d+e) (k+(y+z)) (cnP (Pl.prodT la lb)):=by (have h6:∀t∈Pl.prodT la lb,t.1.length=6:=fun t l=>(Jr a.pv.inv b.pv.inv t l).1;have c:(Pl.prodT la lb).length<=N*M:=by rw[GT];exact jq a.len b.len);obtain⟨D,h1,h2,h3⟩:=a.sb;obtain⟨E,f,g,i⟩:=b.sb;refine⟨a.pv.prod b.pv,Dg h,ia (LP h6) c,D*E,kJ h1 f,Cc h2 g,(SB.cn h6 (h3.prod i)).mono ?_⟩;rw[BV k,BV y];exact gH _ (ia c j)
theorem Bd.app1(f:Bd v N d y la)(g:Bd v M e z lb)(h1:y+e<m)(h2:z+d<m):(la++lb).length<=N+M/\∃D,0<D/\D<P2 (d+e)/\Pl.SB D (P2 m) (la++lb):=by (obtain⟨D,i,b,j⟩:=f.sb;obtain⟨E,k,c,l⟩:=g.sb;refine⟨by have:=f.len;have:=g.len;rw[gI];omega,D*E,kJ i k,Cc b c,(j.app2 l).mono ?_⟩;have n:P2 y*E<=P2 (m-1):=by refine ia ?_ (J9 (a:=y+e) (by omega));rw[BV];exact il _ (kP c));(have o:P2 z*D<=P2 (m-1):=by refine ia ?_ (J9 (a:=z+d) (by omega));rw[BV];exact il _ (kP b));(have p:P2 m=P2 (m-1)*2:=by (conv=>lhs;rw[show m=m-1+1 by omega,BV]);rfl);omega
theorem Bd.app{k m:Nat}(a:Bd v N d y la)(b:Bd v M e z lb)(h:rdP v ts=some (cnP (la++lb)))(h1:y+e<m)(h2:z+d<m)(j:N+M<=P2 k):Bd v (N+M) (d+e) (k+m) (cnP (la++lb)):=by have h6:∀t∈la++lb,t.1.length=6:=fun t l=>(LR a.pv.inv b.pv.inv t l).1;obtain⟨c,D,f,g,i⟩:=a.app1 b h1 h2;refine⟨a.pv.app b.pv,Dg h,ia (LP h6) c,D,f,g,(SB.cn h6 i).mono ?_⟩;rw[BV];exact gH _ (ia c j)
theorem Bd.mul(a:Bd v N d y la)(c:Bd v M e z lb)(n:N*M<=P2 k)(h1:d<=256/\e<=256)(h2:y<1000/\z<1000)(h3:N<=1000/\M<=1000)(h4:k+(y+z)<1920):EP la lb:=by obtain⟨D,f,g,i⟩:=a.sb;obtain⟨E,j,l,m⟩:=c.sb;refine Sg (b:=1920) i m f j (Ah g h1.1) (Ah l h1.2) (Js h2.1) (Js h2.2) a.lo c.lo (by have:=a.len;omega) (by have:=c.len;omega) ?_ (by omega) (by omega);refine gQ ?_ (Js h4);rw[BV k,BV y];exact gH _ (ia (jq a.len c.len) n)
theorem Bd.sum(a:Bd v N d y la)(c:Bd v M e z lb)(h1:y+e<m)(h2:z+d<m)(j:N+M<=P2 k)(h3:N+M<=1000)(h4:k+m<1920)(h5:d+e<=1920):Fk (la++lb):=by obtain⟨l,D,f,g,i⟩:=a.app1 c h1 h2;refine Sh (b:=1920) i f (Ah g h5) ?_ (by omega) (fun t n=>(iU.1 n).elim (a.lo t) (c.lo t)) (by omega);refine gQ ?_ (Js h4);rw[BV];exact gH _ (ia l j)
theorem Bd.text(f:Bd v N d y la)(h:rdP v ts=some la)(h1:d<=840)(h2:y<840):∀t∈ts,t.1.length<=570:=by intro t a;obtain⟨D,b,c,e⟩:=f.sb;have i:=Gm h;rw[<-i]at a;obtain⟨m,g,rfl⟩:=iZ.1 a;have:=LQ ((e m g).rb b (Ah c h1) (Js h2));show(txt m.2).length<=570;omega
end
structure Bx where
 g:Nat
 v:Int
 a:Option Addr
 n:Nat
 c:Nat
 ts:List Tx
def Il(w:World)(e:Ending)(w':World):Prop:=e=.returned (.bool true)/\Ext w w'
def VV(w0:World)(v:Int)(ts:List Tx)(err:Int)(e:Ending)(w':World):Prop:=∃a n c,e=.returned (.tuple #[.agg #[.int .i64 v,.slice a n c],.int .i64 err])/\Ext w0 w'/\BB w' a n c ts
theorem CB.v{w0:World}{v:Int}{ts:List Tx}{b:Int}{e:Ending}{d:World}(h:CB w0 v ts b e d):VV w0 v ts b e d:=by obtain⟨a,n,c,h1,h2,h3⟩:=h;exact⟨a,n,c,h1,h2,h3.sl⟩
section
structure PC where
 W0:World
 g:Nat
 T:ByteArray
 na:Option Addr
 nn:Nat
 nc:Nat
 names:List (List UInt8)
 ev:Bool
structure PS(C:PC)(w:World)(r:List UInt8):Prop where
 tabs:AE C.W0
 nm:Bt C.W0 C.na C.nn C.nc C.names
 n6:C.names.length<=6
 sz:C.T.size<=8192
 ext:Ext C.W0 w
 base:C.W0.heap.size<=C.g
 suf:∃P,P<=C.T.size/\(Ab C.T).drop P=r
 arr:Arr w C.g 49 (prL C.T C.na C.nn C.nc C.ev (Pt.kd r) ((C.T.size-(Pt.skp r).length:Nat):Int) ((C.T.size-(Pt.nx r).length:Nat):Int) 0 0)
structure KS(C:PC)(w0 w:World)(r:List UInt8):Prop where
 ps:PS C w r
 gr:w0.grownBy w (some C.g)
 lt:C.g<w0.heap.size
variable {C:PC} {w w0 w':World} {r r':List UInt8}
theorem PS.lt(h:PS C w r):C.g<w.heap.size:=h.arr.lt
theorem PS.to(h:PS C w r)(b:Ext C.W0 w')(a:Arr w' C.g 49 (prL C.T C.na C.nn C.nc C.ev (Pt.kd r) ((C.T.size-(Pt.skp r).length:Nat):Int) ((C.T.size-(Pt.nx r).length:Nat):Int) 0 0)):PS C w' r:=⟨h.tabs,h.nm,h.n6,h.sz,b,h.base,h.suf,a⟩
theorem PS.x(h:PS C w r)(e:Ext w w'):PS C w' r:=h.to (h.ext.trans e) (h.arr.ext e)
theorem PS.box(h:PS C w r){B:Nat}(a:w.grownBy w' (some B))(b:C.g<B):PS C w' r:=h.to (h.ext.grownR a (by have:=h.base;omega)) (h.arr.kept a (by simp;omega))
theorem PS.ks(h:PS C w r):KS C w w r:=⟨h,BU _ _,h.lt⟩
theorem KS.x(h:KS C w0 w r)(e:Ext w w'):KS C w0 w' r:=⟨h.ps.x e,C2 h.gr e,h.lt⟩
theorem Qz{a b c:World}(h:a.grownBy b (some g))(e:b.grownBy c (some B))(o:a.heap.size<=B):a.grownBy c (some g):=by obtain⟨h1,h2,h3,h4,h5⟩:=h;obtain⟨i,j,l,m,n⟩:=e;refine⟨i.trans h1,j.trans h2,l.trans h3,ia h4 m,fun k f d=>?_⟩;rw[n k (by omega) (by simp;omega)];exact h5 k f d
theorem KS.box(h:KS C w0 w r){B:Nat}(a:w.grownBy w' (some B))(b:w0.heap.size<=B):KS C w0 w' r:=⟨h.ps.box a (by have:=h.lt;omega),Qz h.gr a b,h.lt⟩
theorem KS.call(h:KS C w0 w r)(b:PS C w' r')(a:w.grownBy w' (some C.g)):KS C w0 w' r':=⟨b,Bg h.gr a,h.lt⟩
theorem KS.le(h:KS C w0 w r):w0.heap.size<=w.heap.size:=h.gr.size
theorem KS.tabs(h:KS C w0 w r):AE w:=h.ps.tabs.ext h.ps.ext
theorem KS.arr(h:KS C w0 w r){B:Nat}{t:TypeId}{cs:List Value}(a:Arr w B t cs)(c:w0.heap.size<=B)(b:w.grownBy w' (some C.g)):Arr w' B t cs:=a.kept b (by have:=h.lt;simp;omega)
theorem TmO.keptQ{w j:World}{a:Option Addr}{l:List Tx}(h:TmO w base a n c l)(e:Arr w g 49 cs)(f:w.grownBy j (some g)):TmO j base a n c l:=by obtain⟨b,h1,h2,h3⟩:=h;refine⟨b,h1.kept f (Or.inr (Hf h1 e (by decide))),h2,fun i q=>?_⟩;obtain⟨s,k,r,m,o,p,d⟩:=h3 i q;exact⟨s,k,r,m,o,p,d.kept f (Or.inr (Dr d e (by decide)))⟩
theorem PS.tm(h:PS C w r){base:Nat}{a:Option Addr}{n c:Nat}{l:List Tx}(d:TmO w base a n c l)(b:w.grownBy w' (some C.g)):TmO w' base a n c l:=d.keptQ h.arr b
theorem PS.c0(h:PS C w r):w.cell? ⟨C.g,0,none⟩=some (.string C.T):=h.arr.cell (i:=0) (by simp[prL])
theorem PS.c1(h:PS C w r):w.cell? ⟨C.g,1,none⟩=some (.slice C.na C.nn C.nc):=h.arr.cell (i:=1) (by simp[prL])
theorem PS.c2(h:PS C w r):w.cell? ⟨C.g,2,none⟩=some (.bool C.ev):=h.arr.cell (i:=2) (by simp[prL])
theorem PS.c3(h:PS C w r):w.cell? ⟨C.g,3,none⟩=some (.int .u8 (Pt.kd r)):=h.arr.cell (i:=3) (by simp[prL])
theorem PS.c4(h:PS C w r):w.cell? ⟨C.g,4,none⟩=some (.int .i64 ((C.T.size-(Pt.skp r).length:Nat):Int)):=h.arr.cell (i:=4) (by simp[prL])
theorem PS.c5(h:PS C w r):w.cell? ⟨C.g,5,none⟩=some (.int .i64 ((C.T.size-(Pt.nx r).length:Nat):Int)):=h.arr.cell (i:=5) (by simp[prL])
theorem Pt.skp_suf(r:List UInt8):skp r <:+ r:=List.dropWhile_suffix _
theorem Pt.nx_suf(r:List UInt8):nx r <:+ r:=(List.drop_suffix _ _).trans (skp_suf r)
theorem Nj{r q:List UInt8}(c:L.drop P=r)(b:q <:+ r):L.drop (L.length-q.length)=q:=by (obtain⟨p,hp⟩:=b;have h1:L=L.take P++(p++q):=by rw[hp,<-c,jN]);obtain⟨A,a⟩:∃A,L.take P=A:=⟨_,rfl⟩;rw[a,<-gZ]at h1;rw[h1,show(A++p++q).length-q.length=(A++p).length by simp only[gI];omega,List.drop_left]
theorem PS.nxp(h:PS C w r):C.T.size-(Pt.nx r).length<=C.T.size/\(Ab C.T).drop (C.T.size-(Pt.nx r).length)=Pt.nx r:=by obtain⟨P,_,h2⟩:=h.suf;refine⟨by omega,?_⟩;rw[<-Aa];exact Nj h2 (Pt.nx_suf r)
theorem CY(h:PS C w r):Calls Tryz.prog 28 #[.pointer (some ⟨C.g,0,none⟩)] w fun e a=>e=.returned (.tuple #[])/\w.grownBy a (some C.g)/\PS C a (Pt.nx r):=by obtain⟨h1,h2⟩:=h.nxp;refine(Iy h.arr h2 h1 (by have:=h.sz;omega)).mono ?_;rintro e a ⟨rfl,b,c⟩;exact⟨rfl,b,h.tabs,h.nm,h.n6,h.sz,h.ext.grownR b h.base,h.base,⟨_,h1,h2⟩,c⟩
theorem PS.tok(h:PS C w r):(⟨(Pt.tk r).toArray⟩:ByteArray)=C.T.extract (C.T.size-(Pt.skp r).length) (C.T.size-(Pt.nx r).length)/\C.T.size-(Pt.skp r).length<=C.T.size-(Pt.nx r).length/\C.T.size-(Pt.nx r).length<=C.T.size:=by obtain⟨P,h1,h2⟩:=h.suf;have h3:=Nj h2 (Pt.skp_suf r);have h4:=Pt.nx_len r;have h5:=(Pt.skp_suf r).length_le;have h6:=gX List.length h2;rw[jt,Aa]at h6;refine⟨Di ?_,by omega,by omega⟩;rw[Ay,AV,<-Aa,h3];unfold Pt.tk;congr 1;rw[Aa];omega
theorem Tw(h:PS C w r):(Pt.tk r).length<=8192:=by have h1:=gX (fun s=>(Ab s).length) h.tok.1;simp only[Ay]at h1;rw[Aa]at h1;have:=h.sz;rw[h1,ByteArray.size_extract];omega
theorem D0(h:PS C w r):Calls Tryz.prog 135 #[.pointer (some ⟨C.g,0,none⟩)] w fun e b=>e=.returned (.string ⟨(Pt.tk r).toArray⟩)/\∃n,b=w.drewN n:=by obtain⟨h1,h2,h3⟩:=h.tok;have c:=h.c0;have d:=h.c4;have f:=h.c5;rw[h1];have a:=h.sz;generalize C.T.size-(Pt.skp r).length=x at*;generalize C.T.size-(Pt.nx r).length=y at*;(have i:(0:Int)<=(x:Int):=by omega);(have j:(x:Int)<=(y:Int):=by omega);(have k:(y:Int)<=(C.T.size:Int):=by omega);go_enter Tryz.func135,Tryz.ntmps135;go_upto_region 1 with(fail);go_quiet (fail);go_wp2;go_ret;exact⟨rfl,_,rfl⟩
theorem KC(h:PS C w r)(p:Pt.kd r=110)(o:Pt.dlen (Pt.tk r)=(Pt.tk r).length):Calls Tryz.prog 136 #[.pointer (some ⟨C.g,0,none⟩)] w fun e s=>e=.returned (.bool true)/\w.grownBy s (some C.g)/\PS C s (Pt.nx r):=by (have v:=h.c3;rw[p]at v;have E:=Tw h;have c:=fun(d:World) (j:PS C d r)=>qh (D0 j);have b:=fun(d:World)=>qh (CU ⟨(Pt.tk r).toArray⟩ d (by show(Pt.tk r).toArray.size<=_;simp;omega));simp only[Ay,o]at b;have B:((⟨(Pt.tk r).toArray⟩:ByteArray).size:Int)=((Pt.tk r).length:Nat):=by show(((Pt.tk r).toArray.size:Nat):Int)=_;simp);have i:=fun(d:World) (j:PS C d r)=>qh (CY j);have m:=qh h;generalize (⟨(Pt.tk r).toArray⟩:ByteArray)=S at*;generalize (Pt.tk r).length=q at*;clear o p;go_enter Tryz.func136,Tryz.ntmps136;go_wp2_with fail;refine(c _ m.out).out.mono ?_;rintro e F ⟨rfl,k,rfl⟩;have n:=m.out.x ((Ext.refl w).drewN k);have y:=C6 (BU w (some C.g)) k;generalize w.drewN k=H at*;have a:=qh n;clear n;go_wp2_with fail;refine(b _).out.mono ?_;rintro e D ⟨rfl,rfl⟩;go_wp2_with fail;refine(c _ a.out).out.mono ?_;rintro e D ⟨rfl,l,rfl⟩;have P2:=a.out.x ((Ext.refl _).drewN l);have z:=C6 y l;generalize World.drewN _ l=I at*;have f:=qh P2;clear P2;go_wp2_with fail;refine(i _ f.out).out.mono ?_;rintro e G ⟨rfl,A,t⟩;go_wp2;go_ret;exact⟨rfl,Bg z A,t⟩
end
namespace Pl
def powT(l:List Tm):Nat->List Tm
| 0=>Bc 1
| k+1=>prodT (powT l k) l
end Pl
structure KD(l:List Pl.Tm)(k:Nat):Prop where
 step:∀i,i<k->∀out,Pl.Nrm out->(∀e,Pl.coef out e=Pl.coef (Pl.powT l i) e)->EP out l
 fits:∀out,Pl.Nrm out->(∀e,Pl.coef out e=Pl.coef (Pl.powT l k) e)->BJ out/\(∀t∈out,El t.2)/\out.length<=1000000
def UQ(w:World)(va k:Int)(ol:Option (List Pl.Tm))(e:Ending)(w':World):Prop :=
 (ol=none/\CB w 0 [] 1 e w')\/(∃l,ol=some l/\((¬(0<=k/\k<=24)/\CB w 0 [] 3 e w')\/((0<=k/\k<=24)/\24<BO l*k/\CB w 0 [] 2 e w')\/((0<=k/\k<=24)/\¬24<BO l*k/\Ds w (resQ va (Pl.powT l k.toNat)) e w')))
def PwI(w3:World)(l:List Pl.Tm)(i:Nat)(a:Option Addr)(n c:Nat)(wr:World):Prop:=Ext w3 wr/\∃out,Dw wr w3.heap.size a n c out/\Hid (Pl.Nrm out/\∀e,Pl.coef out e=Pl.coef (Pl.powT l i) e)
theorem Si{k:Int}{a:Option Addr}{ts:List Tx}(hT:AE w)(ha:BB w a n c ts)(sa:∀t∈ts,t.1.length<=570)(ag:∀l,rdP va ts=some l->0<=k->k<=24->¬24<BO l*k->KD l k.toNat):Calls Tryz.prog 138 #[.agg #[.int .i64 va,.slice a n c],.int .i64 k] w (UQ w va k (rdP va ts)):=by have W:=fun(wx:World) (hC:Ext w wx)=>qh (DQ (vars:=va) (hT.ext hC) (ha.ext hC) sa);have HB:Hid (∀l,rdP va ts=some l->BJ l/\0<=va/\va<=6):=qh (fun l h=>⟨Qx h,(Bo h).1⟩);have P:=qh ag;obtain⟨ol,ah⟩:∃o,rdP va ts=o:=⟨_,rfl⟩;rw[ah]at W HB P|-;clear ah sa ha ag;go_enter Tryz.func138,Tryz.ntmps138;go_upto_region 1 with(fail);refine E8 ?_;intro w0 C Q a2 ax;have x:=Q.c 0 rfl;have az:=Q.c 1 rfl;have hR:Arr w0 (w.heap.size+1) 30 (Ad 0 none 0 0):=a2;have aG:(Ad 0 none 0 0).toArray=#[.int .i64 0,.slice none 0 0]:=rfl;clear Q a2 ax;have aH:=C.size;go_wp2_with fail;refine(W _ C).out.mono ?_;rintro e w3 ⟨a3,n3,c3,rfl,D,F⟩;have A:=C.trans D;have B:=hR.ext D;have x:=D.cell x;clear az hR W C D;cases ol with|none=>{simp only[kH];go_wp2_with(refine Ac 0 none 0 0 Ag B ?_;intro w9 f g);refine lg (Aj rfl Ai rfl rfl f) rfl ?_;exact Or.inl ⟨rfl,none,0,0,rfl,A.grownR g (by omega),TmO.nil _ _⟩}|some l=>simp only[jE,iQ]at F|-;have M:=qh (HB.out l rfl);have aI:=M.out.2;by_cases hk:0<=k/\k<=24;{(obtain⟨d,rfl⟩:∃j:Nat,k=(j:Int):=⟨k.toNat,by omega⟩;have aA:d<=24:=by omega);(have aq:¬((d:Int)<0):=by omega);(have ar:¬((24:Int)<(d:Int)):=by omega);have O:=qh hk;have ae:=qh (EM F M.out.1);have ad:=Gj M.out.1;have am:Hid (BO l=BO l):=qh rfl;generalize ac:BO l=dL at*;(have X:=qh ac;obtain⟨mm,V⟩:∃m,dL*(d:Int)=m:=⟨_,rfl⟩;have aJ:IntKind.i64.wrap (dL*(d:Int))=mm:=by rw[<-V];exact gM _ (by have h1:dL*(d:Int)<=6597069766656*(d:Int):=ji ad.2 (by omega);have h2:(-1)*(d:Int)<=dL*(d:Int):=ji ad.1 (by omega);omega));clear hk am ac;go_wp2_with fail;refine ae.out.mono ?_;rintro e w4 ⟨rfl,y⟩;have b:=A.trans y;have U:=B.ext y;have a5:=F.ext y;have x:=y.cell x;clear B F y ae A;have Y:=qh V;clear V;by_cases K:24<mm;{have s:Hid (24<BO l*(d:Int)):=qh (by rw[X.out,Y.out];exact K);go_wp2_with(refine Ac 0 none 0 0 Ag U ?_;intro w9 f g);refine lg (Aj rfl Ai rfl rfl f) rfl ?_;exact Or.inr ⟨l,rfl,Or.inr (Or.inl ⟨O.out,s.out,none,0,0,rfl,b.grownR g (by omega),TmO.nil _ _⟩)⟩};have s:Hid (¬24<BO l*(d:Int)):=qh (by rw[X.out,Y.out];exact K);have Z:=qh (P.out l rfl O.out.1 O.out.2 (by first|exact s.out|exact Int.not_lt.1 s.out));obtain⟨vn,rfl⟩:∃j:Nat,va=(j:Int):=⟨va.toNat,by omega⟩;clear P HB;have aj:=qh (GL (z:=1) (w:=w4) (by omega) (by omega));go_wp2_with fail;refine aj.out.mono ?_;rintro e w5 ⟨a1,rfl,S,ai⟩;have ab:=qh (Fj (v := .agg a1.toArray) (q:=((1:Int):Rat)) (w:=w5) ⟨a1,rfl,ai⟩);go_wp2_with fail;refine ab.out.mono ?_;rintro e w6 ⟨a6,n6,c6,rfl,a4,a9⟩;have J:=S.trans a4;have a8:PwI w4 l 0 a6 n6 c6 w6:=⟨J,Bc ((1:Int):Rat),a9.mono S.size,qh ⟨OB _,fun _=>rfl⟩⟩;have aE:IntKind.i64.wrap (d:Int)=(d:Int):=gM _ (by omega);clear ab aj J a4 a9 S ai;go_wp2;go_loopw[8,36] (fun rv iv wr=>∃(i:Nat) (a':Option Addr) (n' c':Nat),iv=.int .i64 i/\rv=.slice a' n' c'/\i<=d/\PwI w4 l i a' n' c' wr) (fun _ iv _=>d-(intOf iv).toNat);(case atStart=>exact⟨0,a6,n6,c6,rfl,rfl,gW _,a8⟩);case round=>clear a8;obtain⟨i,a',n',c',rfl,rfl,hi,R,ay,hO,N⟩:=hrel;by_cases au:i<d;{have an:=qh (Z.out.step i (by simpa using au) ay N.out.1 N.out.2);have aB:=qh (And.intro hO.len a5.len);have av:=qh (an.out.pc ((hT.ext b).ext R) hO.sl (a5.ext R));go_wp2_with fail;refine av.out.mono ?_;rintro e w7 ⟨al,⟨H,L,I,rfl,E,T⟩,h71,h72⟩;go_wp2;go_roundw;(case rel=>exact⟨i+1,H,L,I,by go_num,rfl,by omega,R.trans E,al,T.mono R.size,qh ⟨h71,fun e=>by rw[h72];exact Pl.coef_prod_ext N.out.2 (fun _=>rfl) e⟩⟩);case measure=>simp[intOf];omega};(have ap:i=d:=by omega);subst ap;have G:=qh (Z.out.fits _ N.out.1 (by simpa using N.out.2));have aD:=hO.len;have ak:=qh (B0 (vars:=vn) (w0:=w4) (hT.ext b) R hO (by omega) G.out.1 G.out.2.1 (by have:=G.out.2.2;omega));have x:=R.cell x;have aC:=U.ext R;go_wp2_with fail;refine ak.out.mono ?_;intro e w7 hw;have hq:=EL.q (p:=Pl.powT l i) hw N.out.1 N.out.2;obtain⟨rr,a0⟩:∃r,Hid (resQ (vn:Int) (Pl.powT l i)=r):=⟨_,qh rfl⟩;rw[a0.out]at hq;obtain⟨H,L,I,rfl,E,T⟩:=hq;have aw:Br rr.1 H L I=.agg #[.int .i64 rr.1,.slice H L I]:=rfl;rw[aw];have aF:(Ad rr.1 H L I).toArray=#[.int .i64 rr.1,.slice H L I]:=rfl;have aa:=U.ext E;clear hw ak G;go_wp2_with(refine Ac rr.1 H L I Ag aa ?_;intro w8 ao af);refine lg (Aj rfl Ai rfl rfl ao) rfl ?_;exact Or.inr ⟨l,rfl,Or.inr (Or.inr ⟨O.out,(by first|exact s.out|exact Int.not_lt.2 s.out),by rw[lr,a0.out];exact⟨H,L,I,rfl,(b.trans E).grownR af (by omega),(T.mono b.size).keptA aa af⟩⟩)⟩};have O:=qh hk;by_cases aq:k<0;{clear hk;go_wp2_with(refine Ac 0 none 0 0 Ag B ?_;intro w9 f g);refine lg (Aj rfl Ai rfl rfl f) rfl ?_;exact Or.inr ⟨l,rfl,Or.inl ⟨O.out,none,0,0,rfl,A.grownR g (by omega),TmO.nil _ _⟩⟩};(have ar:24<k:=by omega);clear hk;go_wp2_with(refine Ac 0 none 0 0 Ag B ?_;intro w9 f g);refine lg (Aj rfl Ai rfl rfl f) rfl ?_;exact Or.inr ⟨l,rfl,Or.inl ⟨O.out,none,0,0,rfl,A.grownR g (by omega),TmO.nil _ _⟩⟩
namespace Pt
abbrev V:=Int×List Pl.Tm
structure Fine(n:Nat)(p:List Pl.Tm):Prop where
 vars:n<=6
 inv:∀t∈p,InV n t.1
 ok:(resQ (n:Int) p).2.2=0
 text:∀t∈cnP p,(txt t.2).length<=570
inductive Cat where
| e|et (v:V)|t|tt (v:V)|f|a
noncomputable def opV (k:Nat) (p q:List Pl.Tm):List Pl.Tm:=if k=43 then cnP p++cnP q else if k=45 then cnP p++A3 (-1) (cnP q)else Pl.prodT (cnP p) (cnP q)
def VW(k:Nat)(p q:List Pl.Tm):Prop:=(k=43->Fk (cnP p++cnP q))/\(k=45->Fk (cnP p++A3 (-1) (cnP q)))/\(k=42->EP (cnP p) (cnP q)/\¬(cnP p≠[]/\cnP q≠[]/\24<BO (cnP p)+BO (cnP q)))
def BinOK(ev:Bool)(n k:Nat)(v u r:V):Prop :=
 if ev then ∃p q,v=((n:Int),p)/\u=((n:Int),q)/\r=((n:Int),opV k p q)/\Fine n p/\Fine n q/\VW k p q/\Fine n (opV k p q)else v=(0,[])/\u=(0,[])/\r=(0,[])
def ValOK(ev:Bool)(n:Nat)(p:List Pl.Tm)(v:V):Prop:=if ev then v=((n:Int),p)/\Fine n p else v=(0,[])
def UnOK(ev:Bool)(n:Nat)(f:List Pl.Tm->List Pl.Tm)(C:List Pl.Tm->Prop)(v r:V):Prop :=
 if ev then ∃p,v=((n:Int),p)/\r=((n:Int),f (cnP p))/\Fine n p/\C (cnP p)/\Fine n (f (cnP p))else v=(0,[])/\r=(0,[])
inductive G (ev:Bool) (names:List (List UInt8)):Cat->List UInt8->V->List UInt8->Prop where
| num {r:List UInt8} {v:V}:kd r=110->dlen (tk r)=(tk r).length->(tk r).length<=480->ValOK ev names.length (Bc ((W.decV (tk r):Int):Rat)) v->G ev names .a r v (nx r)
| var {r:List UInt8} {v:V} {i:Nat}:kd r=119->i<names.length->names.getD i []=tk r->tk r∉names.take i->ValOK ev names.length [(BP i,1)] v->G ev names .a r v (nx r)
| par {r r':List UInt8} {v:V}:kd r=40->G ev names .e (nx r) v r'->kd r'=41->G ev names .a r v (nx r')
| atom {r r':List UInt8} {v:V}:G ev names .a r v r'->kd r'≠94->G ev names .f r v r'
| pow {r r':List UInt8} {v u:V}:G ev names .a r v r'->kd r'=94->kd (nx r')=110->dlen (tk (nx r'))=(tk (nx r')).length->(tk (nx r')).length<=18->W.decV (tk (nx r'))<=24 ->
  UnOK ev names.length (fun l=>Pl.powT l (W.decV (tk (nx r')))) (fun l=>KD l (W.decV (tk (nx r')))/\¬24<BO l*(W.decV (tk (nx r')):Int)) v u->G ev names .f r u (nx (nx r'))
| term {r r' r2:List UInt8} {v u:V}:G ev names .f r v r'->G ev names (.tt v) r' u r2->G ev names .t r u r2
| tend {r:List UInt8} {v:V}:kd r≠42->kd r≠47->G ev names (.tt v) r v r
| tmul {r r' r2:List UInt8} {v u x y:V}:kd r=42->G ev names .f (nx r) u r'->BinOK ev names.length 42 v u x->G ev names (.tt x) r' y r2->G ev names (.tt v) r y r2
| tdiv {r r2:List UInt8} {v x y:V}:kd r=47->kd (nx r)=110->dlen (tk (nx r))=(tk (nx r)).length->(tk (nx r)).length<=480->0<W.decV (tk (nx r)) ->
  UnOK ev names.length (A3 (((W.decV (tk (nx r)):Int):Rat))⁻¹) (fun l=>BE (A3 (((W.decV (tk (nx r)):Int):Rat))⁻¹ l)) v x->G ev names (.tt x) (nx (nx r)) y r2->G ev names (.tt v) r y r2
| expr {r r' r2:List UInt8} {v u:V}:kd r≠45->G ev names .t r v r'->G ev names (.et v) r' u r2->G ev names .e r u r2
| eneg {r r' r2:List UInt8} {v x u:V}:kd r=45->G ev names .t (nx r) v r'->UnOK ev names.length (A3 (-1)) (fun l=>BE (A3 (-1) l)) v x->G ev names (.et x) r' u r2->G ev names .e r u r2
| eend {r:List UInt8} {v:V}:kd r≠43->kd r≠45->G ev names (.et v) r v r
| eop {r r' r2:List UInt8} {v u x y:V}:(kd r=43\/kd r=45)->G ev names .t (nx r) u r'->BinOK ev names.length (kd r) v u x->G ev names (.et x) r' y r2->G ev names (.et v) r y r2
end Pt
end Go.Proofs.YtpkijbkpjhpfmaaGreatDoor
