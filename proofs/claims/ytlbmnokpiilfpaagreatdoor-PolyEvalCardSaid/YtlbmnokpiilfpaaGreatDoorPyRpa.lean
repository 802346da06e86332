/- Part PyRpa. -/
import Derived.Test.YtlbmnokpiilfpaaGreatDoorPy16
import Derived.Test.YtlbmnokpiilfpaaGreatDoorPyNu6

set_option linter.all false
set_option maxRecDepth 100000
set_option maxHeartbeats 100000000
namespace Go.Proofs.YtlbmnokpiilfpaaGreatDoor
open Tryz Go Go.RowKit
variable {s:Bool} {cs:List Value} {N R:Nat} {a b:Option Addr} {q:Rat} {v:Value} {w w':World}
def QBx(w:World)(R:Nat)(q:Rat):Prop:=∃ s a n c b m d,Arr w R 99 (Ah s a n c false b m d)/\Hid (decide (q.num<0)=s)/\Mg w a n c q.num.natAbs/\Mg w b m d (AN q).natAbs
theorem QBx.ext{w f:World}{R:Nat}{q:Rat}(h:QBx w R q)(e:Ext w f):QBx f R q:=by
 obtain⟨s,a,n,c,b,m,d,h1,h2,h3,h4⟩:=h;exact⟨s,a,n,c,b,m,d,h1.ext e,h2,h3.ext e,h4.ext e⟩
theorem QBx.kept{w l:World}{R g:Nat}{q:Rat}{t:TypeId}{cs:List Value}(h:QBx w R q)(j:Arr w g t cs)(k:241≠t)(f:w.grownBy l (some g))(i:R≠g):QBx l R q:=by
 obtain⟨s,a,n,c,b,m,d,h1,h2,h3,h4⟩:=h;exact⟨s,a,n,c,b,m,d,h1.kept f (fun e=>i (by injection e)),h2,h3.keptA j k f,h4.keptA j k f⟩
theorem QBx.put{n c m d:Nat}(e:Arr w R 99 cs)(f:w.grownBy w' (some R))(g:Arr w' R 99 (Ah s a n c false b m d))(h2:Hid (decide (q.num<0)=s))(h3:Mg w a n c q.num.natAbs)(h4:Mg w b m d (AN q).natAbs):QBx w' R q :=
 ⟨s,a,n,c,b,m,d,g,h2,h3.keptA e (by decide) f,h4.keptA e (by decide) f⟩
theorem RB.pow{b:Nat}{q:Rat}(h:Pl.RB b q):∀ k,Pl.RB (b*k+1) (q^k)
 | 0=>by
  rw[Rat.pow_zero];exact⟨Dr (by omega),Dr (by omega)⟩
 | k+1=>by
  rw[Rat.pow_succ];have:=Pl.RB.mul (RB.pow h k) h;rw[show b*(k+1)+1=b*k+1+b by rw[iE,px];omega];exact this
theorem Ff(q:Rat)(m:Nat):∀ n,q^(m+n)=q^m*q^n
 | 0=>by rw[gP,Rat.pow_zero,Rat.mul_one]
 | n+1=>by rw[<-jk,Rat.pow_succ,Rat.pow_succ,Ff q m n,Rat.mul_assoc]
theorem Nu{b:Nat}(h:QV w v q)(hq:Pl.RB b q)(hb:b*N+1<=1000000)(hN:N<=1000000) :
 Calls prog 196 #[v,.int .i64 (N:Int)] w (FL w (q^N)):=by
 obtain⟨s,a,n,c,y,m,d,rfl,HS,hx,hy⟩:=h
 have l:Hid (∀ e,e<=N->Pl.RB 1000000 (q^e)):=qh fun e he=>(RB.pow hq e).mono (by
  have:=gD b he
  omega)
 have ak:Hid (q^0=((1:Int):Rat)):=qh (Rat.pow_zero ..);clear hq hb
 go_enter func196,ntmps196
 go_upto_region 1 with(fail)
 refine Ch ?_;intro w0 B a6 a8 aw;have hA:QBx w0 w.heap.size (q^1):=by
  rw[show q^1=q by rw[show(1:Nat)=0+1 from rfl,Rat.pow_succ,Rat.pow_zero,Rat.one_mul]];exact⟨s,a,n,c,y,m,d,a6,HS,hx.ext B,hy.ext B⟩
 have D:Arr w0 (w.heap.size+1) 99 (Ah false none 0 0 false none 0 0):=a8;clear a6 a8 hx hy HS
 go_wp2_with fail
 refine(Ug (z:=1) (by omega)).mono ?_;rintro e H ⟨s1,a1,n1,c1,b1,m1,d1,rfl,o,i1,j1,k1⟩;have au:(Ah s1 a1 n1 c1 false b1 m1 d1).toArray=#[.bool s1,.slice a1 n1 c1,.bool false,.slice b1 m1 d1]:=rfl;have hY:=Arr.new H 99 (Ah false none 0 0 false none 0 0)
 go_wp2_with(refine Aa (vs:=Ah s1 a1 n1 c1 false b1 m1 d1) rfl rfl rfl rfl rfl AE hY rfl (Ag _ _ _ _ _ _ _ _) ?_;intro w2 a9 Q)
 have hF:Ext H w2:=((Ext.refl H).alloc _).grownR Q (lrf _);have ab:=(B.trans o).trans hF;have hO:QBx w2 H.heap.size (q^0):=by
  rw[ak.out];exact QBx.put hY Q a9 i1 (j1.ext ((Ext.refl H).alloc _)) (k1.ext ((Ext.refl H).alloc _))
 have ad:w.heap.size+2<=H.heap.size:=by have:=o.size;omega
 have hA2:=hA.ext (o.trans hF);have ac:=D.ext (o.trans hF);obtain⟨X,hX⟩:∃ X,H.heap.size=X:=⟨_,rfl⟩;rw[hX]at hO ad;simp only[hX];clear hX hY au Q a9 i1 j1 k1 hF hA D B o aw;simp only[Act.put]
 go_loopw[1] (fun iv wr=>∃ (i e f:Nat),iv = .int .i64 i/\i<=N/\Hid (f+e*i=N)/\Ext w wr/\QBx wr w.heap.size (q^e)/\QBx wr X (q^f)/\Arr wr (w.heap.size+1) 99 (Ah false none 0 0 false none 0 0)) (fun iv _=>(intOf iv).toNat)
 case atStart=>exact⟨N,1,0,rfl,lrf _,qh (by omega),ab,hA2,hO,ac⟩
 case round =>
  clear hA2 hO ac ab;obtain⟨i,e,f,rfl,hi,J,hE,hA,hO,D⟩:=hrel;obtain⟨s2,K,V,M,L,U,O,hA1,i2,j2,k2⟩:=hA;obtain⟨s3,W,n3,Z,Y,m3,d3,g,i3,j3,k3⟩:=hO;have x0:=hA1.c 0 rfl;have x1:=hA1.c 1 rfl;have x2:=hA1.c 2 rfl;have x3:=hA1.c 3 rfl;have z0:=g.c 0 rfl;have z1:=g.c 1 rfl;have z2:=g.c 2 rfl;have z3:=g.c 3 rfl;by_cases R:0<i
  case neg =>
   have aj:¬ (0:Int)<i:=by omega
   have HF:Hid (f=N):=qh (by have h1:=J.out;rw[show i=0 by omega,km]at h1;omega);have aA:(Ah s3 W n3 Z false Y m3 d3).toArray=#[.bool s3,.slice W n3 Z,.bool false,.slice Y m3 d3]:=rfl;clear R
   go_wp2_with(refine Aa (vs:=Ah s3 W n3 Z false Y m3 d3) rfl rfl rfl rfl rfl AE D rfl (Ag _ _ _ _ _ _ _ _) ?_;intro w9 ap ar)
   refine oM (Ai rfl AE rfl ap) rfl ?_;rw[<-HF.out];exact Bu hE D (by decide) ar (by omega) i3 j3 k3
  have aj:(0:Int)<i:=by omega
  have E:e<=N:=by
   have h1:=J.out;have h2:e*1<=e*i:=gD _ (by omega);omega
  have ae:f<=N:=by have h1:=J.out;omega
  have S:=qh (fun(wx:World) (hC:Ext wr wx)=>Gg (v := .agg #[.bool s3,.slice W n3 Z,.bool false,.slice Y m3 d3]) (p:=q^f) ⟨s3,W,n3,Z,Y,m3,d3,rfl,i3,j3.ext hC,k3.ext hC⟩ (v' := .agg #[.bool s2,.slice K V M,.bool false,.slice L U O]) (q:=q^e) ⟨s2,K,V,M,L,U,O,rfl,i2,j2.ext hC,k2.ext hC⟩ (l.out f ae) (l.out e E))
  have ag:=qh (fun(wx:World) (ah:Mg wx K V M (q^e).num.natAbs) (ai:Mg wx L U O (AN (q^e)).natAbs)=>Gg (v := .agg #[.bool s2,.slice K V M,.bool false,.slice L U O]) (p:=q^e) ⟨s2,K,V,M,L,U,O,rfl,i2,ah,ai⟩ (v' := .agg #[.bool s2,.slice K V M,.bool false,.slice L U O]) (q:=q^e) ⟨s2,K,V,M,L,U,O,rfl,i2,ah,ai⟩ (l.out e E) (l.out e E));obtain⟨r,hr⟩:∃ r,i%2=r:=⟨_,rfl⟩;obtain⟨x,af⟩:∃ r,i/2=r:=⟨_,rfl⟩;have ay:(i:Int).tmod 2=(r:Int):=by rw[iJ (by omega)];omega
  have ax:(i:Int).tdiv 2=(x:Int):=by rw[ib (by omega)];omega
  have aC:IntKind.i64.wrap (x:Int)=(x:Int):=oP _ (by omega);have a4:=qh hr;have A:=qh af;have al:Hid (q^e*q^e=q^(e+e)):=qh (Ff q e e).symm;have I:Hid (q^f*q^e=q^(f+e)):=qh (Ff q f e).symm;have az:=qh ad;have a0:Hid (w.heap.size≠X):=qh (by omega);have am:=qh hi;have an:=qh R;clear R E ae l hi hr af;by_cases G:r=1;rotate_left
  case' neg =>
   have aq:((r:Int) == 1)=false:=by simp;omega
   have HJ:Hid (f+(e+e)*x=N):=qh (by
    have h1:=J.out;have h3:=a4.out;have h4:=A.out;have h2:e*i=e*(2*x):=by rw[show 2*x=i by omega]
    rw[h2]at h1;rw[<-Nat.two_mul,oU 2 e,iQ]
    exact h1)
   have P:QBx wr X (q^f):=⟨s3,W,n3,Z,Y,m3,d3,g,i3,j3,k3⟩;obtain⟨wy,T⟩:∃ wy,wr=wy:=⟨_,rfl⟩;clear G g i3 j3 k3 z0 z1 z2 z3 S J I
   go_upto_region 5 with(fail)
   rw[T]at hE hA1 D j2 k2 x0 x1 x2 x3 P
   try rw[T]
   clear T
  case' pos =>
   have aq:((r:Int) == 1)=true:=by simp;omega
   have HJ:Hid (f+e+(e+e)*x=N):=qh (by
    have h1:=J.out;have h3:=a4.out;have h4:=A.out;have h2:e*i=e*(2*x+1):=by rw[show 2*x+1=i by omega]
    rw[h2,iE,px]at h1;rw[<-Nat.two_mul,oU 2 e,iQ]
    omega)
   clear G J
   go_wp2_with fail
   refine(S.out _ (Ext.refl _)).mono ?_;rintro e9 w5 ⟨s5,a5,n5,c5,b5,m5,d5,rfl,j,i5,j5,k5⟩;have t:=g.ext j;have av:(Ah s5 a5 n5 c5 false b5 m5 d5).toArray=#[.bool s5,.slice a5 n5 c5,.bool false,.slice b5 m5 d5]:=rfl;clear S g i3 j3 k3 z0 z1 z2 z3
   go_upto_region 5 with(refine Aa (vs:=Ah s5 a5 n5 c5 false b5 m5 d5) rfl rfl rfl rfl rfl AE t rfl (Ag _ _ _ _ _ _ _ _) ?_;intro wy aa k)
   have P:QBx wy X (q^(f+e)):=by
    rw[<-I.out];exact QBx.put t k aa i5 j5 k5
   replace hE:=(hE.trans j).grownR k (by omega);replace hA1:=(hA1.ext j).kept k (by have:=a0.out;intro e;injection e;omega);replace D:=(D.ext j).kept k (by intro e;injection e;omega);replace j2:=(j2.ext j).keptA t (by decide) k;replace k2:=(k2.ext j).keptA t (by decide) k;have u0:=hA1.c 0 rfl;have u1:=hA1.c 1 rfl;have u2:=hA1.c 2 rfl;have u3:=hA1.c 3 rfl;clear av t k aa i5 j5 k5 j x0 x1 x2 x3 I
  all_goals
   go_wp2_with fail
   refine(ag.out _ j2 k2).mono ?_;rintro e9 w7 ⟨s7,a7,n7,c7,b7,m7,d7,rfl,C,i7,j7,k7⟩;have hA7:=hA1.ext C;have aB:(Ah s7 a7 n7 c7 false b7 m7 d7).toArray=#[.bool s7,.slice a7 n7 c7,.bool false,.slice b7 m7 d7]:=rfl;clear ag hA1 j2 k2
   go_wp2_with(refine Aa (vs:=Ah s7 a7 n7 c7 false b7 m7 d7) rfl rfl rfl rfl rfl AE hA7 rfl (Ag _ _ _ _ _ _ _ _) ?_;intro w8 ao F)
   go_roundw
   case rel =>
    refine⟨x,e+e,_,by go_num,by have h1:=A.out;have h2:=am.out;omega,HJ,(hE.trans C).grownR F (lrf _),?_,(P.ext C).kept hA7 (by decide) F (fun e=>a0.out e.symm),(D.ext C).kept F (by intro e;injection e;omega)⟩;rw[<-al.out];exact QBx.put hA7 F ao i7 j7 k7
   case measure=>have h1:=A.out;have h2:=an.out;simp[intOf];omega
end Go.Proofs.YtlbmnokpiilfpaaGreatDoor
