/- Part Pq27. -/
import Derived.Test.YtlbmnokpiilfpaaGreatDoorPq25
import Derived.Test.YtlbmnokpiilfpaaGreatDoorPq26
import Derived.Test.YtlbmnokpiilfpaaGreatDoorPq16

set_option linter.all false
set_option maxRecDepth 100000
set_option maxHeartbeats 100000000
namespace Go.Proofs.YtlbmnokpiilfpaaGreatDoor
open Tryz Go Go.RowKit
def oe:=@List.perm_append_comm
variable {s:Bool} {y z:Int} {rows:List (List Value)} {l xs ys:List Int} {cs zs:List Value} {N R b0 base bytes c d g h k m n:Nat} {x:Operand} {a a' b:Option Addr} {q:Rat} {e t:TypeId} {v v':Value} {w w' w1 w9:World}
theorem KC{x y:Nat}(g:Mg w a n c x)(e:Mg w b m d y)(f:n<=100000)(h0:0<y) :
 Calls prog 258 #[.slice a n c,.slice b m d] w (Ju w (x/y) (x%y)):=by
 rcases iH x y with h|h
 · exact Lp g e f h
 · have i:=e.pos h0;rcases iH 1 m with h1|h1
   · exact I8 g e f h (mm:=m-2) (by omega)
   · obtain rfl:m=1:=by omega
     exact Kz g e f h h0
theorem IQ(m : -9223372036854775808<=z/\z<9223372036854775808):Calls prog 186 #[.int .i64 z] w (Nd w z):=by
 by_cases E:z<0
 · obtain⟨x,rfl⟩:∃ x:Nat,z = -(x:Int):=⟨z.natAbs,by omega⟩;have T:IntKind.u64.wrap (-(x:Int))=18446744073709551616-(x:Int):=by show _%18446744073709551616=_;omega
   have Y:IntKind.u64.wrap (-(18446744073709551616-(x:Int)))=(x:Int):=by show _%18446744073709551616=_;omega
   have U : -(18446744073709551616-(x:Int))%18446744073709551616=(x:Int):=by omega
   have P:(x:Int)%4294967296=((x%4294967296:Nat):Int):=by omega
   have R:(x:Int)/4294967296%4294967296=((x/4294967296:Nat):Int):=by omega
   have Q:IntKind.u32.wrap (x:Int)=((x%4294967296:Nat):Int):=Jt x;have S:IntKind.u32.wrap ((x:Int)/4294967296)=((x/4294967296:Nat):Int):=by show _%4294967296=_;omega
   have F:decide (-(x:Int)<0)=true:=iA E
   go_enter func186,ntmps186
   go_upto_region 1 with(fail)
   refine AP ?_;intro l p b j
   go_upto_region 4 with(fail)
   have D:=b;clear b;have I:=D.lt;have C:x/4294967296<4294967296:=by omega
   have B:x%4294967296<4294967296:=io _ (by omega);have a:=(AB l l.heap.size 241 #[.int .u32 ((x%4294967296:Nat):Int),.int .u32 ((x/4294967296:Nat):Int)] 2 rfl (lrf _) (by omega));have g:SlN .u32 (l.alloc (.cells #[.int .u32 ((x%4294967296:Nat):Int),.int .u32 ((x/4294967296:Nat):Int)] 241)) (some ⟨w.heap.size+1,0,none⟩) 2 2 [x%4294967296,x/4294967296]:=by have:=a.sl;rw[j]at this;exact this
   have d:=(Ext.refl l).alloc (.cells #[.int .u32 ((x%4294967296:Nat):Int),.int .u32 ((x/4294967296:Nat):Int)] 241)
   have s:W.bnd 4294967296 [x%4294967296,x/4294967296]:=fun z m=>by
    rcases iE.1 m with rfl|m
    · exact B
    · rw[gL.1 m];exact C
   have y:W.val 4294967296 [x%4294967296,x/4294967296]=x:=by simp only[W.val];omega
   have i:=a.ty;rw[j]at i;clear a;generalize x%4294967296=N at *
   generalize x/4294967296=J at *
   go_wp2_with fail
   refine(Ce g).mono ?_;rintro e P ⟨k,rfl,rfl,K,M⟩;have L:=Dp g i K M s y;have q:=p.trans d;have r:=D.ext d;generalize l.alloc (.cells #[.int .u32 (N:Int),.int .u32 (J:Int)] 241)=V at *
   have v:=qh (Ch (neg:=true) L (z := -(x:Int)) (by simp))
   go_wp2_with fail
   refine v.out.mono ?_;rintro e R ⟨s1,G,O,H,rfl,c,n,A⟩;have f:=r.ext c
   go_wp2_with(refine Aa (vs:=Ac s1 G O H) rfl rfl rfl rfl rfl A6 f rfl (Ae _ _ _ _) ?_;intro X o t)
   exact gF (Ap rfl A6 rfl o) rfl (DK (q.trans c) f (by decide) t (by omega) n A)
 · obtain⟨x,rfl⟩:∃ x:Nat,z=(x:Int):=⟨z.natAbs,by omega⟩;have T:IntKind.u64.wrap (x:Int)=(x:Int):=by show _%18446744073709551616=_;omega
   have P:(x:Int)%4294967296=((x%4294967296:Nat):Int):=by omega
   have R:(x:Int)/4294967296%4294967296=((x/4294967296:Nat):Int):=by omega
   have Q:IntKind.u32.wrap (x:Int)=((x%4294967296:Nat):Int):=Jt x;have S:IntKind.u32.wrap ((x:Int)/4294967296)=((x/4294967296:Nat):Int):=by show _%4294967296=_;omega
   have F:decide ((x:Int)<0)=false:=gR E
   go_enter func186,ntmps186
   go_upto_region 1 with(fail)
   refine AP ?_;intro l p b j
   go_upto_region 4 with(fail)
   have D:=b;clear b;have I:=D.lt;have C:x/4294967296<4294967296:=by omega
   have B:x%4294967296<4294967296:=io _ (by omega);have a:=(AB l l.heap.size 241 #[.int .u32 ((x%4294967296:Nat):Int),.int .u32 ((x/4294967296:Nat):Int)] 2 rfl (lrf _) (by omega));have g:SlN .u32 (l.alloc (.cells #[.int .u32 ((x%4294967296:Nat):Int),.int .u32 ((x/4294967296:Nat):Int)] 241)) (some ⟨w.heap.size+1,0,none⟩) 2 2 [x%4294967296,x/4294967296]:=by have:=a.sl;rw[j]at this;exact this
   have d:=(Ext.refl l).alloc (.cells #[.int .u32 ((x%4294967296:Nat):Int),.int .u32 ((x/4294967296:Nat):Int)] 241)
   have s:W.bnd 4294967296 [x%4294967296,x/4294967296]:=fun z m=>by
    rcases iE.1 m with rfl|m
    · exact B
    · rw[gL.1 m];exact C
   have y:W.val 4294967296 [x%4294967296,x/4294967296]=x:=by simp only[W.val];omega
   have i:=a.ty;rw[j]at i;clear a;generalize x%4294967296=N at *
   generalize x/4294967296=J at *
   go_wp2_with fail
   refine(Ce g).mono ?_;rintro e P ⟨k,rfl,rfl,K,M⟩;have L:=Dp g i K M s y;have q:=p.trans d;have r:=D.ext d;generalize l.alloc (.cells #[.int .u32 (N:Int),.int .u32 (J:Int)] 241)=V at *
   have v:=qh (Ch (neg:=false) L (z:=(x:Int)) (by simp))
   go_wp2_with fail
   refine v.out.mono ?_;rintro e R ⟨s1,G,O,H,rfl,c,n,A⟩;have f:=r.ext c
   go_wp2_with(refine Aa (vs:=Ac s1 G O H) rfl rfl rfl rfl rfl A6 f rfl (Ae _ _ _ _) ?_;intro X o t)
   exact gF (Ap rfl A6 rfl o) rfl (DK (q.trans c) f (by decide) t (by omega) n A)
structure GS(w wr:World)(g:Nat)(aa:Option Addr)(na ca:Nat)(ab:Option Addr)(nb cb X Y:Nat):Prop where
 ext:Ext w wr
 x:Mg wr aa na ca X
 y:Mg wr ab nb cb Y
 g:Nat.gcd X Y=g
 bx:X<P2 3200000
 b_y:Y<P2 3200000
theorem VN(h:ZR w v z)(h':ZR w v' y)(bz:z.natAbs<P2 3200000)(E:y.natAbs<P2 3200000):Calls prog 213 #[v,v'] w (Nd w (Int.gcd z y:Nat)):=by
 obtain⟨s,a,n,c,rfl,HS,hx⟩:=h;obtain⟨t,b,m,d,rfl,HT,hy⟩:=h'
 go_enter func213,ntmps213
 go_upto_region 1 with(fail)
 refine CO ?_;intro A l p q F V;have Z:=p.c 0 rfl;have a0:=p.c 1 rfl;have a2:=q.c 0 rfl;have a3:=q.c 1 rfl;have hR:Arr A (w.heap.size+2) 97 (Ac false none 0 0):=F;have f:Hid (GS w A (Int.gcd z y) a n c b m d z.natAbs y.natAbs):=qh ⟨l,hx.ext l,hy.ext l,rfl,bz,E⟩;generalize z.natAbs=X0 at *
 generalize y.natAbs=M at *
 generalize Int.gcd z y=g at *
 clear V hx hy bz E HS HT p q F;go_wp2
 go_quiet (fail)
 have j:Ext A (A.drewN nq):=(Qt.drewN (Qt.refl A) nq).ext;have G:=hR.ext j;have C:Hid (GS w (A.drewN nq) g a n c b m d X0 M):=qh ⟨f.out.ext.trans j,f.out.x.ext j,f.out.y.ext j,f.out.g,f.out.bx,f.out.b_y⟩;have hS:w.heap.size<=w.heap.size+2:=by omega
 clear f hR;generalize A.drewN nq=w1 at *
 clear Z a0 a2 a3 j l;go_wp2
 go_loopg [5,6] M (fun gk av bv wr=>∃ (N J:Option Addr) (W O B K X Y:Nat),av = .slice N W O/\bv = .slice J B K/\Y<=gk/\Arr wr (w.heap.size+2) 97 (Ac false none 0 0)/\Hid (GS w wr g N W O J B K X Y))
 case atStart=>exact⟨a,b,n,c,m,d,X0,M,rfl,rfl,lrf _,G,C⟩
 case round =>
  clear C G;obtain⟨N,J,W,O,B,K,X,Y,rfl,rfl,T,H,f⟩:=hrel;by_cases h0:B=0
  · have HX:Hid (g=X):=qh (by
     have:=f.out.y.zero.1 h0;have h2:=f.out.g;rw[this,lU]at h2
     exact h2.symm)
    have U:=qh (Ch (neg:=false) f.out.x (z:=(X:Int)) (by simp));have Q:=f.out.ext;subst h0;clear f T
    go_wp2_with fail
    refine U.out.mono ?_;rintro e w2 ⟨s1,a1,n1,c1,rfl,i,D,I⟩;have o:=H.ext i;rw[<-HX.out]at D I
    go_wp2_with(refine Aa (vs:=Ac s1 a1 n1 c1) rfl rfl rfl rfl rfl A6 o rfl (Ae _ _ _ _) ?_;intro w9 P S)
    exact gF (Ap rfl A6 rfl P) rfl (DK (Q.trans i) o (by decide) S (by omega) D I)
  · have r:0<Y:=by
     rcases gX Y with h|h
     · exact absurd (f.out.y.zero.2 h) h0
     · exact h
    have a5:(0:Int)<B:=by omega
    have R:=qh (KC f.out.x f.out.y (f.out.x.len (k:=100000) f.out.bx) r);clear h0
    go_wp2_with fail
    refine R.out.mono ?_;rintro e w2 ⟨qa,qn,qc,ra,rn,rc,rfl,i,_,hr⟩;have o:=H.ext i;have L:Hid (GS w w2 g J B K ra rn rc Y (X%Y)):=qh ⟨f.out.ext.trans i,f.out.y.ext i,hr,by rw[<-f.out.g,kw X Y,nO Y X,kw],f.out.b_y,lm (io _ r) f.out.b_y⟩;have a4:X%Y<Y:=io _ r;go_wp2
    go_roundg (X%Y)
    case rel=>exact⟨_,_,_,_,_,_,Y,X%Y,rfl,rfl,lrf _,o,L⟩
    case measure=>omega
theorem KD(h:ZR w v z)(h':ZR w v' y)(bz:z.natAbs<P2 3200000)(Z:y≠0):Calls prog 215 #[v,v'] w (Yh w (z.tdiv y) (z.tmod y)):=by
 obtain⟨s,a,n,c,rfl,HS,hx⟩:=h;obtain⟨t,b,m,d,rfl,HT,hy⟩:=h';have V:=fun(g:World) (f:Ext w g)=>qh (KC (hx.ext f) (hy.ext f) (hx.len (k:=100000) bz) (by omega));clear bz Z
 go_enter func215,ntmps215
 go_upto_region 1 with(fail)
 refine V9 ?_;intro w0 H D E O P a0;have a3:=D.c 0 rfl;have a7:=D.c 1 rfl;have a4:=E.c 0 rfl;have a8:=E.c 1 rfl;have hR:Arr w0 (w.heap.size+2) 97 (Ac false none 0 0):=O;have T:Arr w0 (w.heap.size+3) 97 (Ac false none 0 0):=P;clear a0
 go_wp2_with fail
 refine(V _ H).out.mono ?_;rintro e w1 ⟨qa,qn,qc,ra,rn,rc,rfl,j,hq,hr⟩;have S:=H.trans j;have a5:=j.cell a3;have a6:=j.cell a4;go_wp2;have q:=fun(g:World) (f:Ext w1 g)=>qh (And.intro (f.cell a5) (f.cell a6))
 refine Ab (by kernel_rfl) (fun g=>Ext w1 g)
  [he (.pointer (some ⟨w.heap.size,0,none⟩)),
 he (.bool s),
 he (.pointer (some ⟨(w.heap.size+1),0,none⟩)),
 he (.bool t),
 he (.bool (s != t)),
 he (.slice qa qn qc),
 hp (fun v g=>ZR g v (z.tdiv y)),
 he (.pointer (some ⟨w.heap.size,0,none⟩)),
 he (.bool s),
 he (.slice ra rn rc),
 hp (fun v g=>ZR g v (z.tmod y))]
  (by kernel_rfl) (fun _ _ e h=>h.trans e) ((Ext.refl w1).drew) ⟨trivial,trivial,trivial,trivial,trivial,trivial,fun v w w' e h=>ZR.ext h e,trivial,trivial,trivial,fun v w w' e h=>ZR.ext h e,trivial⟩ ⟨?o0,?o1,?o2,?o3,?o4,?o5,?o6,?o7,?o8,?o9,?o10,trivial⟩ ?fin
 case o0 | o2 | o7=>exact ofa (d:=0)
 case o1 | o3 | o8=>exact ol
 case o5 | o9=>exact omv
 case o4 =>
  refine Aj rfl fun p g f o h => ?_;have e0:p (.tmp 17)=(.bool s):=h.1;have e1:p (.tmp 19)=(.bool t):=h.2.1;obtain⟨I,J⟩:=(q g f).out;go_simp;cases s <;> cases t <;> rfl
 case o6 =>
  refine Ag rfl fun p g f o W h => ?_;have e1:p (.tmp 20)=(.bool (s != t)):=h.2.1;have e2:p (.tmp 21)=(.slice qa qn qc):=h.2.2.1;obtain⟨I,J⟩:=(q g f).out;refine⟨149,#[.bool (s != t),.slice qa qn qc],by go_simp,(Ch (hq.ext f) (z:=z.tdiv y) (UE HS.out HT.out)).mono ?_⟩;rintro e w' ⟨s',M,n',N,rfl,r,C,B⟩;exact⟨_,rfl,r,s',M,n',N,rfl,C,B⟩
 case o10 =>
  refine Ag rfl fun p g f o W h => ?_;have e1:p (.tmp 24)=(.bool s):=h.2.1;have e2:p (.tmp 25)=(.slice ra rn rc):=h.2.2.1;obtain⟨I,J⟩:=(q g f).out;refine⟨149,#[.bool s,.slice ra rn rc],by go_simp,(Ch (hr.ext f) (z:=z.tmod y) (UF HS.out)).mono ?_⟩;rintro e w' ⟨s',M,n',N,rfl,r,C,B⟩;exact⟨_,rfl,r,s',M,n',N,rfl,C,B⟩
 case fin =>
  intro g f;rintro _ ⟨s1,a1,n1,c1,rfl,K,X⟩;rintro _ ⟨s2,a2,n2,c2,rfl,L,Y⟩;change wpList _ _ _ _ _ _;simp only[lq,lw,lx,lz,Act.put,lj,lk,ly];have x:=(hR.ext j).ext f;have U:=(T.ext j).ext f
  go_wp2_with(first
   | (refine Aa (vs:=Ac s1 a1 n1 c1) rfl rfl rfl rfl rfl A6 x rfl (Ae _ _ _ _) ?_;intro w9 Q l;have A:=U.kept l (by simp))
   | (refine Aa (vs:=Ac s2 a2 n2 c2) rfl rfl rfl rfl rfl A6 A rfl (Ae _ _ _ _) ?_;intro a9 F i))
  have G:=Q.kept i (by simp);have R:=((S.trans f).grownR l (by omega)).grownR i (by omega);exact gF (Np rfl A6 A6 rfl rfl G F) rfl ⟨s1,a1,n1,c1,s2,a2,n2,c2,rfl,R,⟨K,(X.keptA x (by decide) l).keptA A (by decide) i⟩,⟨L,(Y.keptA x (by decide) l).keptA A (by decide) i⟩⟩
theorem Mg.top{x:Nat}(h:Mg w a n c x)(l:0<n):∃ b e t,a=some ⟨b,e,none⟩/\w.cell? ⟨b,e+(n-1),none⟩=some (.int .u32 ((t:Nat):Int))/\0<t/\t<4294967296/\(n=1->x=t)/\(1<n->4294967296<=x):=by
 obtain⟨f,h1,h2,h3⟩:=h;obtain⟨b,e,rfl,i⟩:=h1.at (j:=n-1) (by omega);have g:=h1.len;have d:f≠[]:=by rintro rfl;simp at g;omega
 have m:=h2.nrm d;have k:f.getD (n-1) 0=f.getLast d:=by
  rw[kI,gqq,<-g,gD (by omega),gP]
 refine⟨b,e,f.getD (n-1) 0,rfl,i (n-1) (by omega),by omega,?_,?_,?_⟩
 · rw[k];exact h2.bnd _ (List.getLast_mem d)
 · intro h5;subst h5
   match f,g with
   | [y],_=>have h6:=h2.val;simp[W.val]at h6;simpa using h6.symm
 · intro h5;have h6:=W.nrm_pos (B:=4294967296) (by omega) h2.nrm d;rw[h2.val,g]at h6;exact gJ (by have:=ic (n:=4294967296) (by omega) (show 1<=n-1 by omega);simpa using this) h6
def Xr(w:World)(x:Nat)(e:Ending)(w':World):Prop:=∃ k:Nat,e = .returned (.int .i64 k)/\Ext w w'/\k<=10000000/\(k=1<->x=1)/\(1<k<->1<x)
theorem KE(h:ZR w v z)(q:z.natAbs<P2 3200000):Calls prog 214 #[v] w (Xr w z.natAbs):=by
 have Y:=h;obtain⟨s,a,n,c,rfl,U,y⟩:=h;have O:=y.len (k:=100000) q;by_cases h0:n=0
 · have S:z.natAbs=0:=y.zero.1 h0;subst h0;clear q O
   go_enter func214,ntmps214
   go_upto_region 1 with(fail)
   refine AP ?_;intro H d b o;have A:=b.c 0 rfl;have C:=b.c 1 rfl;go_wp2;go_ret;exact⟨0,rfl,d,by omega,by omega,by omega⟩
 · obtain⟨g,T,t,rfl,p,Q,r,l,m⟩:=y.top (by omega);have P:((n:Int) == 0)=false:=by simpa using h0
   have K:=qh (And.intro l m);have e:IntKind.i64.wrap (32*((n:Int)-1))=((32*(n-1):Nat):Int):=by rw[gI _ (by omega)];omega
   have F:(n:Int)-1=((n-1:Nat):Int):=by omega
   have R:IntKind.i64.wrap ((n:Int)-1)=((n-1:Nat):Int):=by rw[gI _ (by omega)];omega
   clear q l m
   go_enter func214,ntmps214
   go_upto_region 1 with(fail)
   refine AP ?_;intro H d b o;have A:=b.c 0 rfl;have C:=b.c 1 rfl;have Z:=d.cell p;clear p o;obtain⟨B,E⟩:∃ B,32*(n-1)=B:=⟨_,rfl⟩;have M:B<=3200000:=by omega
   have I:Hid (n=1/\B=0\/1<n/\32<=B):=by show _\/_;omega
   rw[E]at e
   go_upto_region 5 with(fail)
   go_loopw[3,4] (fun L D wr=>∃ j u:Nat,L = .int .i64 ((B+j:Nat):Int)/\D = .int .u32 u/\u<4294967296/\wr=H/\j<=32/\Hid (u*2^j<=t/\(j=0->u=t)/\(j=1->u=t/2)/\(2<=j->2<=t))) (fun _ D _=>(intOf D).toNat)
   case atStart=>exact⟨0,t,by go_num,rfl,r,rfl,by omega,qh ⟨by omega,fun _=>rfl,fun h=>by omega,fun h=>by omega⟩⟩
   case round =>
    obtain⟨j,u,rfl,rfl,hu,rfl,X,f⟩:=hrel;by_cases x:0<u
    · have i:(0:Int)<u:=by omega
      have G:j<32:=by
       refine Nat.lt_of_not_le fun p => ?_;have h1:2^32<=2^j:=ic (by omega) p;have h2:1*2^j<=u*2^j:=gH _ x;have h3:=f.out.1;omega
      have J:Hid (u/2*2^(j+1)<=t/\(j+1=0->u/2=t)/\(j+1=1->u/2=t/2)/\(2<=j+1->2<=t)):=by
       obtain⟨h1,h2,h3,h4⟩:=f.out;refine⟨?_,fun h=>by omega,fun h=>by rw[h2 (by omega)],fun h => ?_⟩
       · refine gJ ?_ h1;rw[ip,gV (2^j) 2,<-kB];exact gH _ (oA u 2)
       · by_cases h5:j=1
         · have:=h3 h5;omega
         · exact h4 (by omega)
      have V:((u:Int)).fdiv (2^min (Int.toNat 1) IntKind.u32.bits)=((u/2:Nat):Int):=by
       show((u:Int)).fdiv 2=_;rw[Int.fdiv_eq_ediv_of_nonneg _ (by omega)];rfl
      go_wp2;go_roundw
      case rel=>exact⟨j+1,u/2,by go_num,by go_num,by omega,by first | rfl | trivial,by omega,J⟩
      case measure=>simp[intOf];omega
    · have i:¬ (0:Int)<u:=by omega
      have N:1<=j:=by
       rcases gX j with h|h
       · have:=f.out.2.1 h;omega
       · exact h
      have h1:j=1->t=1:=fun h=>by have:=f.out.2.2.1 h;omega
      have h2:2<=j->2<=t:=f.out.2.2.2;have W:=K.out;have E:=I.out;go_wp2;go_ret;exact⟨B+j,rfl,d,by omega,by omega,by omega⟩
theorem By:Agg prog 99 4:=⟨by kernel_rfl,by kernel_rfl⟩
def QV(w:World)(v:Value)(q:Rat):Prop:=∃ s a n c b m d,v = .agg (Al s a n c false b m d).toArray/\Hid (decide (q.num<0)=s)/\Mg w a n c q.num.natAbs/\Mg w b m d (A9 q).natAbs
theorem QV.ext{w f:World}{v:Value}{q:Rat}(h:QV w v q)(e:Ext w f):QV f v q:=by
 obtain⟨s,a,n,c,b,m,d,h1,h2,h3,h4⟩:=h;exact⟨s,a,n,c,b,m,d,h1,h2,h3.ext e,h4.ext e⟩
theorem CG(h:q.den=1):(A9 q).natAbs=0:=by rw[AG.2 h];rfl
theorem QV.zero(w:World):QV w (.agg (Al false none 0 0 false none 0 0).toArray) 0:=⟨false,none,0,0,none,0,0,rfl,qh rfl,Mg.nil w,Mg.nil w⟩
def OL(w:World)(q:Rat)(e:Ending)(w':World):Prop:=∃ s a n c b m d,e = .returned (.agg (Al s a n c false b m d).toArray)/\Ext w w'/\Hid (decide (q.num<0)=s)/\Mg w' a n c q.num.natAbs/\Mg w' b m d (A9 q).natAbs
theorem OL.r{e:Ending}(h:OL w q e w'):∃ v,e = .returned v/\Ext w w'/\QV w' v q:=by
 obtain⟨s,a,n,c,b,m,d,h1,h2,h3⟩:=h;exact⟨_,h1,h2,s,a,n,c,b,m,d,rfl,h3⟩
theorem Fj(j:Ext w w1)(f:Arr w1 R t cs)(g:241≠t)(e:w1.grownBy w9 (some R))(k:w.heap.size<=R)(i:Hid (decide (q.num<0)=s))(l:Mg w1 a n c q.num.natAbs)(o:Mg w1 b m d (A9 q).natAbs):OL w q (.returned (.agg (Al s a n c false b m d).toArray)) w9 :=
 ⟨s,a,n,c,b,m,d,rfl,j.grownR e k,i,l.keptA f g e,o.keptA f g e⟩
theorem KF(d:Ext w w1)(e:Arr w1 R t cs)(g:241≠t)(f:w1.grownBy w9 (some R))(i:w.heap.size<=R)(b:Hid (decide (z<0)=s))(j:Mg w1 a n c z.natAbs):OL w (z:Rat) (.returned (.agg (Al s a n c false none 0 0).toArray)) w9 :=
 Fj d e g f i b j (by rw[CG (q:=(z:Rat)) rfl];exact Mg.nil w1)
theorem Jv(h:QV w v q):Calls prog 185 #[v] w (Nd w (q.den:Int)):=by
 obtain⟨s,a,n,c,b,m,d,rfl,P,D,x⟩:=h;have y:Hid (decide ((q.den:Int)<0)=false):=qh (gR (by omega));by_cases h1:q.den=1
 · have A:m=0:=x.zero.2 (CG h1);have E:=qh h1;subst A;clear h1 D x
   go_enter func185,ntmps185
   go_upto_region 1 with(fail)
   refine Cf ?_;intro B j f k p;have K:=f.c 0 rfl;have L:=f.c 1 rfl;have M:=f.c 2 rfl;have N:=f.c 3 rfl;have H:Arr B (w.heap.size+1) 97 (Ac false none 0 0):=k;clear p
   go_wp2_with fail
   refine(IQ (z:=1) (by omega)).mono ?_;rintro e Q ⟨s1,F,J,G,rfl,t,r,i⟩;have g:=H.ext t;rw[show(1:Int)=(q.den:Int) by rw[E.out];rfl]at r i
   go_wp2_with(refine Aa (vs:=Ac s1 F J G) rfl rfl rfl rfl rfl A6 g rfl (Ae _ _ _ _) ?_;intro O l o)
   exact gF (Ap rfl A6 rfl l) rfl (DK (j.trans t) g (by decide) o (by omega) r i)
 · have C:=qh (Bi h1);have I:((m:Int) == 0)=false:=by
    have h2:m≠0:=fun h0=>by
     have h3:=x.zero.1 h0;rw[Bi h1]at h3;exact q.den_nz h3
    simpa using h2
   clear h1
   go_enter func185,ntmps185
   go_upto_region 1 with(fail)
   refine Cf ?_;intro B j f k p;have K:=f.c 0 rfl;have L:=f.c 1 rfl;have M:=f.c 2 rfl;have N:=f.c 3 rfl;have g:Arr B (w.heap.size+1) 97 (Ac false none 0 0):=k;have i:=x.ext j;rw[C.out]at i;clear p x D C
   go_wp2_with(refine Aa (vs:=Ac false b m d) rfl rfl rfl rfl rfl A6 g rfl (Ae _ _ _ _) ?_;intro O l o)
   exact gF (Ap rfl A6 rfl l) rfl (DK j g (by decide) o (by omega) y i)
theorem Md(h:QV w v q){r:Int}(l:q.num.sign=r):Calls prog 132 #[v] w fun e y=>e = .returned (.int .i64 r)/\Ext w y:=by
 obtain⟨s,a,n,c,b,m,d,rfl,p,o,x⟩:=h;have j:=fun(z:World) (t:Ext w z)=>qh (KB (v := .agg (Ac s a n c).toArray) ⟨s,a,n,c,rfl,p,o.ext t⟩ l);clear l o x
 go_enter func132,ntmps132
 go_upto_region 1 with(fail)
 refine AP ?_;intro E g f k;have A:=f.c 0 rfl;have B:=f.c 1 rfl;have C:=f.c 2 rfl;have D:=f.c 3 rfl;clear k
 go_wp2_with fail
 refine(j _ g).out.mono ?_;rintro e F ⟨rfl,i⟩;go_wp2;go_ret;exact⟨rfl,g.trans i⟩
theorem Rq:Agg prog 103 5:=⟨by kernel_rfl,by kernel_rfl⟩
theorem AJ:Agg prog 44 2:=⟨by kernel_rfl,by kernel_rfl⟩
theorem Y6(h:k<l.length):l.getD k 0∈l:=by
 rw[gqq,gD h,gP];exact jl h
def XI(w:World)(b0:Nat)(a:Option Addr)(n c:Nat)(xs:List Int):Prop:=SlI w a n c xs/\(0<n->∀ g,blk a=some g->g<b0\/∃ cs fr,w.heap[g]?=some (.cells cs 3 fr))
theorem XI.ext{w b:World}{b0:Nat}{a:Option Addr}{n c:Nat}{xs:List Int}(h:XI w b0 a n c xs)(e:Ext w b):XI b b0 a n c xs:=by
 refine⟨h.1.ext e,fun h0 g i=>(h.2 h0 g i).imp id ?_⟩;rintro⟨d,f,h1⟩;exact⟨d,f,by rw[e.block (iS.1 h1).1];exact h1⟩
def tL(s:Bool)(a:Option Addr)(n c:Nat)(b:Option Addr)(m d:Nat)(e:Option Addr)(k f:Nat):List Value:=Al s a n c false b m d ++ [.slice e k f]
def TC(w:World)(b0:Nat)(row:List Value)(t:Pl.Tm):Prop:=∃ s a n c b m d e k f,row=tL s a n c b m d e k f/\Hid (decide (t.2.num<0)=s)/\Mg w a n c t.2.num.natAbs/\Mg w b m d (A9 t.2).natAbs/\XI w b0 e k f t.1
theorem TC.ext{w g:World}{b0:Nat}{row:List Value}{t:Pl.Tm}(h:TC w b0 row t)(x:Ext w g):TC g b0 row t:=by
 obtain⟨s,a,n,c,b,m,d,e,k,f,h1,h2,h3,h4,h5⟩:=h;exact⟨s,a,n,c,b,m,d,e,k,f,h1,h2,h3.ext x,h4.ext x,h5.ext x⟩
theorem FM{e:Option Addr}{f:Nat}:∀ v∈tL s a n c b m d e k f,v.oneCell'=true:=by
 intro v g;simp only[tL,Al,Ac,jT,jo,iE,kC,mU]at g;rcases g with rfl|rfl|rfl|rfl|rfl <;> rfl
theorem XI.kept{cs:Array Value}{l:Nat×Nat}(h:XI w b0 a n c xs)(m:w.heap[g]?=some (.cells cs t l))(o:3≠t)(h0:b0<=g)(i:w.grownBy w' (some g)):XI w' b0 a n c xs:=by
 have f:0<n->blk a≠some g:=by
  intro b he;rcases h.2 b g he with h1|⟨d,e,h1⟩
  · omega
  · rw[m]at h1;simp only[gK,kz]at h1;exact o h1.2.1.symm
 refine⟨?_,fun b k j => ?_⟩
 · rcases gX n with b|b
   · subst b;exact⟨Sl.len h.1,Sl.cap h.1,Sl.max h.1,fun h=>absurd h (nN _)⟩
   · exact Sl.keptR h.1 i (Or.inr (f b))
 · refine(h.2 b k j).imp id ?_;rintro⟨d,e,h1⟩;exact⟨d,e,by rw[i.block k (iS.1 h1).1 (by rw[<-j];exact f b)];exact h1⟩
theorem TC.kept{w r:World}{b0 g:Nat}{t:TypeId}{i:Array Value}{j:Nat×Nat}{row:List Value}{x:Pl.Tm}(h:TC w b0 row x)(p:w.heap[g]?=some (.cells i t j))(v:3≠t)(hu:241≠t)(h0:b0<=g)(o:w.grownBy r (some g)):TC r b0 row x:=by
 obtain⟨s,a,n,c,b,m,d,e,k,f,h1,h2,h3,h4,h5⟩:=h
 have q:∀ l,some g=some l->∃ i t j,w.heap[l]?=some (.cells i t j)/\241≠t:=fun l he=>by
  injection he with he;subst he;exact⟨_,_,_,p,hu⟩
 exact⟨s,a,n,c,b,m,d,e,k,f,h1,h2,h3.kept o q,h4.kept o q,h5.kept p v h0 o⟩
abbrev tz:Pl.Tm:=([],0)
def TSl(w:World)(b0:Nat)(a:Option Addr)(n c:Nat)(l:List Pl.Tm):Prop:=∃ rows,SlK w 5 a n c rows/\l.length=n/\∀ i,i<n->TC w b0 (rows.getD i []) (l.getD i tz)
theorem TSl.ext{w d:World}{b0:Nat}{a:Option Addr}{n c:Nat}{l:List Pl.Tm}(h:TSl w b0 a n c l)(x:Ext w d):TSl d b0 a n c l:=by
 obtain⟨b,h1,h2,h3⟩:=h;exact⟨b,h1.ext x,h2,fun i e=>(h3 i e).ext x⟩
theorem TSl.nil(w:World)(b0:Nat):TSl w b0 none 0 0 []:=⟨[],SlK.nil w 5,rfl,fun i a=>absurd a (by omega)⟩
theorem TSl.len{l:List Pl.Tm}(h:TSl w b0 a n c l):l.length=n:=h.choose_spec.2.1
theorem TSl.le{l:List Pl.Tm}(h:TSl w b0 a n c l):n<=c/\c<=maxLen:=⟨h.choose_spec.1.cap,h.choose_spec.1.max⟩
def TO(w:World)(b0 base:Nat)(a:Option Addr)(n c:Nat)(l:List Pl.Tm):Prop:=∃ rows,AR w base 103 5 a n c rows/\l.length=n/\∀ i,i<n->TC w b0 (rows.getD i []) (l.getD i tz)
theorem TO.ext{w d:World}{b0 base:Nat}{a:Option Addr}{n c:Nat}{l:List Pl.Tm}(h:TO w b0 base a n c l)(x:Ext w d):TO d b0 base a n c l:=by
 obtain⟨b,h1,h2,h3⟩:=h;exact⟨b,h1.ext x,h2,fun i e=>(h3 i e).ext x⟩
theorem TO.sl{l:List Pl.Tm}(h:TO w b0 base a n c l):TSl w b0 a n c l:=by
 obtain⟨b,h1,h2,h3⟩:=h;exact⟨b,h1.slk (by omega),h2,h3⟩
theorem TO.nil(w:World)(b0 base:Nat):TO w b0 base none 0 0 []:=⟨[],AR.nil _ _ _ _,rfl,fun i a=>absurd a (by omega)⟩
theorem TO.mono{w:World}{b0 base b:Nat}{a:Option Addr}{n c:Nat}{l:List Pl.Tm}(h:TO w b0 base a n c l)(e:b<=base):TO w b0 b a n c l:=by
 obtain⟨d,h1,h2,h3⟩:=h;exact⟨d,h1.mono e,h2,h3⟩
theorem TO.lt{w:World}{b0 base:Nat}{a:Option Addr}{n c:Nat}{l:List Pl.Tm}(h:TO w b0 base a n c l){g:Nat}(d:blk a=some g):base<=g/\g<w.heap.size:=by
 obtain⟨b,h1,_⟩:=h;exact h1.lt d
theorem AR.ty(h:AR w base e k a n c rows){g:Nat}(d:blk a=some g):∃ i l,w.heap[g]?=some (.cells i e l):=by
 rcases h.2.2 with⟨b,_⟩|⟨m,f,j,b,_,o,_⟩
 · simp only[gW]at b;rw[b.1]at d;cases d
 · simp only[gW]at b;rw[b.1]at d;have:m=g:=by simpa[blk]using d
   subst this;exact⟨_,_,o⟩
theorem TSl.at{w:World}{b0:Nat}{a:Option Addr}{n c:Nat}{l:List Pl.Tm}(h:TSl w b0 a n c l){i:Nat}(hi:i<n):∃ b d,a=some ⟨b,d,none⟩/\∃ s j r o m q p e k f,w.cell? ⟨b,d+i*5,none⟩=some (.bool s)/\w.cell? ⟨b,d+i*5+1,none⟩=some (.slice j r o)/\w.cell? ⟨b,d+i*5+2,none⟩=some (.bool false)/\w.cell? ⟨b,d+i*5+3,none⟩=some (.slice m q p)/\w.cell? ⟨b,d+i*5+4,none⟩=some (.slice e k f)/\Hid (decide ((l.getD i tz).2.num<0)=s)/\Mg w j r o (l.getD i tz).2.num.natAbs/\Mg w m q p (A9 (l.getD i tz).2).natAbs/\XI w b0 e k f (l.getD i tz).1:=by
 obtain⟨t,h1,h2,h3⟩:=h;obtain⟨b,d,v,g⟩:=h1.rd (by omega);obtain⟨s,j,r,o,m,q,p,e,k,f,h4,h5,h6,h7,h8⟩:=h3 i hi;refine⟨b,d,v,s,j,r,o,m,q,p,e,k,f,?_,?_,?_,?_,?_,h5,h6,h7,h8⟩
 · have:=g i hi 0 (by omega);rw[h4]at this;exact this
 · have:=g i hi 1 (by omega);rw[h4]at this;exact this
 · have:=g i hi 2 (by omega);rw[h4]at this;exact this
 · have:=g i hi 3 (by omega);rw[h4]at this;exact this
 · have:=g i hi 4 (by omega);rw[h4]at this;exact this
def TB(N:Nat)(l:List Pl.Tm):Prop:=∀ t∈l,t.1.length=N/\∀ x∈t.1,-1099511627776<=x/\x<=1099511627776
theorem TB.perm{l a:List Pl.Tm}(h:TB N l)(p:a.Perm l):TB N a:=fun t b=>h t (p.subset b)
theorem TB.get{l:List Pl.Tm}(h:TB N l){i:Nat}(hi:i<l.length):(l.getD i tz).1.length=N/\∀ x∈(l.getD i tz).1,-1099511627776<=x/\x<=1099511627776:=by
 rw[gqq,gD hi,gP];exact h _ (jl hi)
theorem getD_some{l:List Pl.Tm}{i:Nat}(hi:i<l.length):l[i]?=some (l.getD i tz):=by
 rw[gqq,gD hi,gP]
theorem B8:BV prog 103 [.bool false,.slice none 0 0,.bool false,.slice none 0 0,.slice none 0 0] 5 88:=⟨by kernel_rfl,rfl,by omega⟩
theorem SlK.cl{b a:Nat}(h:SlK w k (some ⟨b,a,none⟩) n c rows){i j:Nat}(hi:i<n)(g:j<k):w.cell? ⟨b,a+i*k+j,none⟩=some ((rows.getD i []).getD j undef):=by
 obtain⟨l,e,d,f⟩:=h.rd (by omega);simp only[gK,iV,jp]at d;obtain⟨rfl,rfl⟩:=d;exact f i hi j g
theorem TSl.row{l:List Pl.Tm}(h:TSl w b0 a n c l){i:Nat}(hi:i<n):∃ b g d s j r o m q p e k f,a=some ⟨b,g,none⟩/\SlK w 5 a n c d/\d.getD i []=tL s j r o m q p e k f/\Hid (decide ((l.getD i tz).2.num<0)=s)/\Mg w j r o (l.getD i tz).2.num.natAbs/\Mg w m q p (A9 (l.getD i tz).2).natAbs/\XI w b0 e k f (l.getD i tz).1:=by
 obtain⟨d,h1,h2,h3⟩:=h;obtain⟨b,g,t,-⟩:=h1.rd (by omega);obtain⟨s,j,r,o,m,q,p,e,k,f,h4,h5⟩:=h3 i hi;exact⟨b,g,d,s,j,r,o,m,q,p,e,k,f,t,h1,h4,h5⟩
theorem TC.grownO{row:List Value}{x:Pl.Tm}(h:TC w b0 row x)(e:AR w base 103 5 a n c rows)(f:b0<=base)(d:w.grownBy w' (blk a)):TC w' b0 row x:=by
 cases b:blk a with
 | none =>
  rw[b]at d;exact h.ext ((Ext.refl w).grown d (fun k i=>by cases i))
 | some g =>
  obtain⟨j,l,h1⟩:=e.ty b;rw[b]at d;exact h.kept h1 (by decide) (by decide) (gJ f (e.lt b).1) d
theorem TO.grow{c':Nat}{l:List Pl.Tm}{row:List Value}{t:Pl.Tm}(d:AR w base 103 5 a n c rows)(j:l.length=n)(m:∀ i,i<n->TC w b0 (rows.getD i []) (l.getD i tz))(p:TC w b0 row t)(f:b0<=base)(k:AR w' base 103 5 a' (n+1) c' (rows ++ [row]))(g:w.grownBy w' (blk a)):TO w' b0 base a' (n+1) c' (l ++ [t]):=by
 refine⟨_,k,by simp[j],fun i q => ?_⟩;have o:rows.length=n:=d.len (by omega);by_cases e:i<n
 · have h1:(rows ++ [row]).getD i []=rows.getD i []:=by rw[gqq,gZ (by omega),<-gqq]
   have h2:(l ++ [t]).getD i tz=l.getD i tz:=by rw[gqq,gZ (by omega),<-gqq]
   rw[h1,h2];exact(m i e).grownO d f g
 · have b:i=n:=by omega
   have h1:(rows ++ [row]).getD i []=row:=by rw[gqq,iu (by omega),o,b,ju];rfl
   have h2:(l ++ [t]).getD i tz=t:=by rw[gqq,iu (by omega),j,b,ju];rfl
   rw[h1,h2];exact p.grownO d f g
section
variable {P:Program} {w:World}
theorem Lq(m:P.underlying t=some (.slice e))(b:BV P e zs k bytes)(l:h<=c) :
 (Instr.sliceAt t (.slice a n c) none (some (.int .i64 h)) none).run P w = .ok (.slice a h c) w:=by
 obtain⟨i,j,o,d,g⟩:=b.parts;have f:(if c=0 then a else a.map (fun x=>x.add 0))=a:=by
  split
  · rfl
  · cases a <;> simp[Addr.add]
 have h0:(0:Int)<=h:=by omega
 have h1:(h:Int)<=c:=by omega
 simp[Instr.sliceAt,Instr.slice,Instr.sliceBounds,Instr.sliceBound,j4 m,asIntOf,sizeOf,typeInfo,j,l,f]
theorem I9(l:P.underlying t=some (.slice e))(b:BV P e zs k bytes)(j:h<=n) :
 (Instr.sliceAt t (.slice a n c) (some (.int .i64 h)) none none).run P w = .ok (.slice (if c=h then a else a.map (fun x=>x.add (h*k))) (n-h) (c-h)) w:=by
 obtain⟨i,g,m,d,f⟩:=b.parts;simp[Instr.sliceAt,Instr.slice,Instr.sliceBounds,Instr.sliceBound,j4 l,asIntOf,sizeOf,typeInfo,g,d,j]
end
section
variable {P:Program} {ops:Array Oper} {hs:List Hd} {a0:Act} {C:World->Prop} {i:Nat} {o:Oper}
theorem Lr{y:Operand}(j:o.guard=none)(f:o.op = .slice t x none (some y) none)
 (p:P.underlying t=some (.slice e)) (b:BV P e zs k bytes) (l:∀ d w,DE d->Cq ops hs a0 o d w [x,y]->d x = .slice a n c/\d y = .int .i64 h) (m:h<=c) :
 obl P C ops hs a0 i o (he (.slice a h c)) :=
 Q8 j fun d w hp _ g=>by
  rw[f]at g;obtain⟨h1,h2⟩:=l d w hp g;simp only[execOp,f,h1,h2,jJ,oW,ij,Lq p b m,gS,iF]
theorem Ja{y:Operand}(j:o.guard=none)(f:o.op = .slice t x (some y) none none)
 (p:P.underlying t=some (.slice e)) (b:BV P e zs k bytes) (l:∀ d w,DE d->Cq ops hs a0 o d w [x,y]->d x = .slice a n c/\d y = .int .i64 h) (m:h<=n) :
 obl P C ops hs a0 i o (he (.slice (if c=h then a else a.map (fun x=>x.add (h*k))) (n-h) (c-h))) :=
 Q8 j fun d w hp _ g=>by
  rw[f]at g;obtain⟨h1,h2⟩:=l d w hp g;simp only[execOp,f,h1,h2,jJ,oW,ij,I9 p b m,gS,iF]
end
theorem TSl.to{l:List Pl.Tm}(q:TSl w b0 a n c l)(f:h<=n):TSl w b0 a h c (l.take h):=by
 obtain⟨d,h1,h2,h3⟩:=q;refine⟨d.take h,⟨by rw[iq,h1.len,jK f],gJ f h1.cap,h1.max,fun r g=>h1.wid r (kU g),fun h0 => ?_⟩,by rw[iq,h2,jK f],fun i e => ?_⟩
 · obtain⟨b,k,m,o⟩:=h1.rd (by omega);refine⟨b,k,m,fun i e j p => ?_⟩;have g:(d.take h).getD i []=d.getD i []:=by rw[gqq,lD e,<-gqq]
   rw[o i (by omega) j p,g]
 · have:=h3 i (by omega);rw[gqq,lD e,<-gqq,gqq (l:=l.take h),lD e,<-gqq];exact this
theorem TSl.fr{l:List Pl.Tm}(q:TSl w b0 a n c l)(s:h<=n):TSl w b0 (if c=h then a else a.map (fun x=>x.add (h*5))) (n-h) (c-h) (l.drop h):=by
 obtain⟨d,h1,h2,h3⟩:=q;have g:=h1.cap;have k:=h1.max;refine⟨d.drop h,⟨by rw[kN,h1.len],by omega,by omega,fun r f=>h1.wid r (mh f),fun h0 => ?_⟩,by rw[kN,h2],fun i o => ?_⟩
 · obtain⟨b,e,rfl,m⟩:=h1.rd (by omega);rw[gT (by omega)];refine⟨b,e+h*5,?_,fun i o j p => ?_⟩
   · show some (Addr.add ⟨b,e,none⟩ (h*5))=_;unfold Addr.add;by_cases h0:h*5=0 <;> simp[h0]
   have f:(d.drop h).getD i []=d.getD (h+i) []:=by rw[gqq,mF,<-gqq]
   have:=m (h+i) (by omega) j p;rw[iW,<-jR]at this;rw[this,f]
 · have:=h3 (h+i) (by omega);rw[gqq,mF,<-gqq,gqq (l:=l.drop h),mF,<-gqq];exact this
def Yl(w:World)(b0:Nat)(l:List Pl.Tm)(e:Ending)(w':World):Prop:=∃ a n c l',e = .returned (.slice a n c)/\Ext w w'/\TSl w' b0 a n c l'/\l'.Perm l/\Pl.desc l'
theorem Rr{x:Int}(h:x≠y):Pl.cmpI x y=if x<y then -1 else 1:=by
 unfold Pl.cmpI;split
 · rfl
 · rw[gY (by omega)]
theorem FN(O:SlI w a n c xs)(P:SlI w b n d ys)(hn:n<=12)(V:∀ x∈xs,-1099511627776<=x/\x<=1099511627776)(C:∀ x∈ys,-1099511627776<=x/\x<=1099511627776) :
 Calls prog 154 #[.slice a n c,.slice b n d] w fun e w'=>e = .returned (.int .i64 (Pl.ordE xs ys))/\Qt w w':=by
 have Z:=gE (GR V (by omega));have HY:=gE (GR C (by omega));have a1:=O.len;have a2:=P.len
 go_enter func154,ntmps154
 go_wp2
 go_loopw[5,6,7] (fun av bv A wr=>∃ (k:Nat) (p q:Int),av = .int .i64 p/\bv = .int .i64 q/\A = .int .i64 k/\k<=n/\Qt w wr/\Hid ((xs.take k).sum=p/\(ys.take k).sum=q)) (fun _ _ A _=>n-(intOf A).toNat)
 case atStart=>exact⟨0,0,0,rfl,rfl,rfl,gO _,Qt.refl _,gE ⟨rfl,rfl⟩⟩
 case round =>
  obtain⟨k,p,q,rfl,rfl,rfl,hk,g,v⟩:=hrel;have T:=Z.out k (by omega);have U:=HY.out k (by omega);rw[v.out.1]at T;rw[v.out.2]at U;by_cases o:k<n
  · obtain⟨S,H,rfl,D⟩:=(O.ext g.ext).at o;obtain⟨B,t,rfl,l⟩:=(P.ext g.ext).at o;have W:=D k o;have X:=l k o;have m1:=V (xs.getD k 0) (by simp[show k<xs.length by omega]);have m2:=C (ys.getD k 0) (by simp[show k<ys.length by omega]);have M:Hid ((xs.take (k+1)).sum=p+xs.getD k 0/\(ys.take (k+1)).sum=q+ys.getD k 0):=gE ⟨by rw[DY (by omega),v.out.1],by rw[DY (by omega),v.out.2]⟩;clear D l;generalize xs.getD k 0=x at *
    generalize ys.getD k 0=y at *
    have w1:IntKind.i64.wrap (p+x)=p+x:=gI _ (by omega);have Y:IntKind.i64.wrap (q+y)=q+y:=gI _ (by omega);go_wp2
    go_quiet (fail)
    go_wp2;go_roundw
    case rel=>exact⟨k+1,p+x,q+y,by first | rfl | go_num | exact iP (Value.int .i64) w1,by first | rfl | go_num | exact iP (Value.int .i64) Y,by go_num,by omega,g.drewN _,M⟩
    case measure=>simp[intOf];omega
  · have N:k=n:=by omega
    subst N
    have J:Hid (Pl.ordE xs ys=if p=q then E7 xs ys k else Pl.cmpI p q):=gE (by
     have h1:=v.out.1;have h2:=v.out.2;unfold Pl.ordE E7;rw[gG (by omega)]at h1 h2 |-;rw[gG (by omega)]
     rw[h1,h2])
    by_cases z:p=q
    · subst z;have i:Hid (Pl.ordE xs ys=E7 xs ys k):=gE (by rw[J.out,gY rfl]);clear T U v J;go_wp2
      go_loopw[8] (fun A wr=>∃ m:Nat,A = .int .i64 ((m:Int)-1)/\m<=k/\Qt w wr/\Hid (E7 xs ys k=E7 xs ys m)) (fun A _=>(intOf A+1).toNat)
      case atStart=>exact⟨k,by first | rfl | go_num,lrf _,g,gE rfl⟩
      case round =>
       obtain⟨m,rfl,hm,E,K⟩:=hrel;by_cases h0:m=0
       · subst h0;have I:Hid (Pl.ordE xs ys=0):=gE (by rw[i.out,K.out,LU]);go_wp2;go_ret;exact⟨by rw[I.out];rfl,E⟩
       · obtain⟨j,rfl⟩:∃ j,m=j+1:=⟨m-1,by omega⟩;have hj:(((j+1:Nat):Int)-1)=(j:Int):=by omega
         rw[hj];obtain⟨S,H,rfl,D⟩:=(O.ext E.ext).at (k:=j) (by omega);obtain⟨B,t,rfl,l⟩:=(P.ext E.ext).at (k:=j) (by omega);have W:=D j (by omega);have X:=l j (by omega);have R:=gE (LW (xs:=xs) (ys:=ys) (k:=j) (by omega) (by omega));clear D l;generalize xs.getD j 0=x at *
         generalize ys.getD j 0=y at *
         by_cases r:x=y
         · have L:Hid (E7 xs ys k=E7 xs ys j):=gE (by rw[K.out,R.out,gY r]);subst r;go_wp2
           go_quiet (fail)
           go_wp2;go_roundw
           case rel=>exact⟨j,by first | rfl | go_num,by omega,E.drewN _,L⟩
           case measure=>simp[intOf]
         · have I:Hid (Pl.ordE xs ys=Pl.cmpI y x):=gE (by rw[i.out,K.out,R.out,gT r]);have Q:=gE (Rr (x:=y) (y:=x) (fun h=>r h.symm));have a0:(j:Int)<k:=by omega
           go_wp2
           go_quiet (fail)
           have d1:(wr.drewN nq).cell? ⟨S,H+j,none⟩=some (.int .i64 x):=W;have d2:(wr.drewN nq).cell? ⟨B,t+j,none⟩=some (.int .i64 y):=X;have F:=E.drewN nq;generalize wr.drewN nq=Y at *
           by_cases G:y<x
           · have f:Hid (Pl.ordE xs ys = -1):=gE (by rw[I.out,Q.out,gY G]);go_wp2
             go_quiet (fail)
             go_wp2;go_ret;exact⟨by rw[f.out];rfl,F.drewN _⟩
           · have f:Hid (Pl.ordE xs ys=1):=gE (by rw[I.out,Q.out,gT G]);go_wp2
             go_quiet (fail)
             go_wp2;go_ret;exact⟨by rw[f.out];rfl,F.drewN _⟩
    · have i:Hid (Pl.ordE xs ys=if p<q then -1 else 1):=gE (by rw[J.out,gT z,Rr z]);by_cases s:p<q
      · have f:Hid (Pl.ordE xs ys = -1):=gE (by rw[i.out,gY s]);go_wp2;go_ret;exact⟨by rw[f.out];rfl,g⟩
      · have f:Hid (Pl.ordE xs ys=1):=gE (by rw[i.out,gT s]);go_wp2;go_ret;exact⟨by rw[f.out];rfl,g⟩
end Go.Proofs.YtlbmnokpiilfpaaGreatDoor
namespace Go.Proofs.YtlbmnokpiilfpaaGreatDoor.Pl
variable {a b c:List Int} {i k n:Nat}
theorem Ls(e:a.length=n)(d:b.length=n)(f:c.length=n)(h1:0<=ordE a b)(h2:0<=ordE b c):0<=ordE a c:=by
 rcases Int.lt_or_eq_of_le h1 with h1|h1
 · rcases Int.lt_or_eq_of_le h2 with h2|h2
   · exact mz (ordE_trans h1 h2)
   · have:=ordE_eq (d.trans f.symm) h2.symm;subst this;exact mz h1
 · have:=ordE_eq (e.trans d.symm) h1.symm;subst this;exact h2
structure MS(n:Nat)(a b o:List Tm)(i k:Nat):Prop where
 perm:o.Perm (a.take i ++ b.take k)
 d:desc o
 up:∀ t∈o,∀ s,s∈a.drop i\/s∈b.drop k->0<=ordE t.1 s.1
 da:desc a
 db:desc b
 la:∀ t∈a,t.1.length=n
 lb:∀ t∈b,t.1.length=n
theorem MS.start{a b:List Tm}(c:desc a)(d:desc b)(la:∀ t∈a,t.1.length=n)(lb:∀ t∈b,t.1.length=n):MS n a b [] 0 0 :=
 ⟨by simp,List.Pairwise.nil,(fun t e=>by cases e),c,d,la,lb⟩
theorem Me{a:List Tm}(h:desc a){i:Nat}{x:Tm}(b:a[i]?=some x):∀ s∈a.drop (i+1),0<=ordE x.1 s.1:=by
 have c:i<a.length:=(iZ.1 b).1;have h1:desc (a.drop i):=List.Pairwise.drop h;rw[iU c]at h1;have h2:a[i]=x:=(iZ.1 b).2;rw[h2]at h1;exact(j9.1 h1).1
theorem MS.left{a b o:List Tm}(h:MS n a b o i k){x:Tm}(m:a[i]?=some x)(z:∀ y,b[k]?=some y->0<=ordE x.1 y.1):MS n a b (o ++ [x]) (i+1) k:=by
 have v:i<a.length:=(iZ.1 m).1;have l:a[i]=x:=(iZ.1 m).2;have q:x∈a:=im m;have g:a.drop i=x :: a.drop (i+1):=by rw[iU v,l]
 have w:∀ s∈b.drop k,0<=ordE x.1 s.1:=by
  intro s c;cases f:b[k]? with
  | none =>
   rw[iX (List.getElem?_eq_none_iff.1 f)]at c;cases c
  | some y =>
   have p:k<b.length:=(iZ.1 f).1;have r:b[k]=y:=(iZ.1 f).2;have h0:=z y f;rw[iU p,r]at c;rcases iE.1 c with rfl|j
   · exact h0
   · exact Ls (h.la x q) (h.lb y (im f)) (h.lb s (mh j)) h0 (Me h.db f s j)
 refine⟨?_,?_,?_,h.da,h.db,h.la,h.lb⟩
 · have h1:a.take (i+1)=a.take i ++ [x]:=by rw[gM v,l]
   rw[h1,iQ];exact((h.perm.append_right [x]).trans (by rw[iQ])).trans ((oe).append_left _)
 · refine List.pairwise_append.2 ⟨h.d,List.pairwise_singleton _ _,fun t e s c => ?_⟩;rw[gL.1 c];exact h.up t e x (Or.inl (by rw[g];exact List.mem_cons_self ..))
 · intro t e s c;rcases iw.1 e with e|e
   · refine h.up t e s (c.imp (fun c => ?_) id);rw[g];exact mi _ c
   · rw[gL.1 e];rcases c with c|c
     · exact Me h.da m s c
     · exact w s c
theorem MS.right{a b o:List Tm}(h:MS n a b o i k){y:Tm}(g:b[k]?=some y)(f:∀ x,a[i]?=some x->0<=ordE y.1 x.1):MS n a b (o ++ [y]) i (k+1):=by
 have h0:MS n b a o k i:=⟨h.perm.trans oe,h.d,fun t e s c=>h.up t e s c.symm,h.db,h.da,h.lb,h.la⟩;have h1:=h0.left g f;exact⟨h1.perm.trans oe,h1.d,fun t e s c=>h1.up t e s c.symm,h.da,h.db,h.la,h.lb⟩
theorem MS.done{a b o:List Tm}(h:MS n a b o a.length b.length):o.Perm (a ++ b):=by
 have:=h.perm
 rwa[nT,nT]at this
end Go.Proofs.YtlbmnokpiilfpaaGreatDoor.Pl
