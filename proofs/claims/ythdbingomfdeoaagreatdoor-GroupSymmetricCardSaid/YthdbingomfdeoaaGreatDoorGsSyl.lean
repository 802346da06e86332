/- Part GsSyl. -/
import Derived.Test.YthdbingomfdeoaaGreatDoorGs17

set_option linter.all false
set_option maxRecDepth 100000
set_option maxHeartbeats 100000000
namespace Go.Proofs.YthdbingomfdeoaaGreatDoor
open Go Go.RowKit
variable {a:List Int} {n:Nat}
theorem Sr{b:List Tx}{c:List Pl.Tm}(A:n<=6)(pa:Af a=true)(j:a.length=n)(i:rdP (n:Int) b=some c)(h:actA (n:Int) a (rdP (n:Int) b)=((n:Int),b,0)):Rl a (unR b) (unR b):=by
 obtain⟨r,g⟩:=JI i;rw[ix]at g;have y:∀ t∈c,InV n t.1:=Mq i;rw[i]at h;have h2:resQ (n:Int) (D6 n a c)=((n:Int),b,0):=by
  have h3:actA (n:Int) a (some c)=resQ (n:Int) (D6 (n:Int).toNat a c):=rfl;rw[h3,ix]at h;exact h
 have o:=JE pa j A y;obtain⟨_,l⟩:=Mr (v:=(n:Int)) (p:=D6 n a c) ⟨by omega,by omega⟩ (by rw[ix];exact o) (by rw[h2]);rw[h2]at l;have m:rdP (n:Int) b=some (cnP (D6 n a c)):=l;rw[i]at m;have e:=fD m
 have k:∀ x,Pl.coef (D6 n a c) x=Pl.coef c x:=fun x=>by
  rw[<-(Cj fun t d=>(o t d).1).2 x,<-e]
 have h6:∀ t∈b.map rdU,t.1.length=n:=fun t d=>g.len t d;refine Rl.mk pa j g g fun f q => ?_;have w:(mvd a f).length=n:=by rw[AV];exact q
 have h7:=Kh (x:=b.map rdU) pa (fun t d=>by rw[j];exact h6 t d) (e:=f) (by rw[j];exact q)
 have h8:∀ t∈WH a (b.map rdU),t.1.length=n:=fun t d=>by
  obtain⟨s,z,rfl⟩:=fy.1 d;show(mvd a s.1).length=n;rw[AV];exact h6 s z
 have h9:=It h8 w;have h10:=It h6 w;rw[RK h6,<-r,k]at h9;rw[<-r]at h10;show Pl.coef (b.map rdU) (mvd a f)=Pl.coef (b.map rdU) f;rw[<-h10,h9,<-h7];rfl
theorem Ss(n:Nat)(d:n<5)(c:List (List PLs)):(autL n c).Pairwise (fun a b=>A8 a b<0):=by
 classical
 exact(Pj n d).2.filter _
theorem Xc(c:n<5){a:List (List PLs)}(f:∀ L∈a,N5 n L):isG (autL n a):=by
 have d:idn n∈autL n a:=(Fs c).2 ⟨CS (by omega),AY n,fun L h=>Kep.one (by omega) (f L h)⟩;have h0:0<(autL n a).length:=gW d;have b:∀ p∈autL n a,Aut n a p:=fun p hp=>(Fs c).1 hp;have m:((autL n a).getD 0 []).length=n:=by
  rw[gqq,eZ h0];exact(b _ (fE _)).2.1
 refine⟨h0,fun g k => ?_,fun i j e l => ?_,fun p hp => ?_⟩
 · rw[m];exact⟨(b g k).1,(b g k).2.1⟩
 · have h1:=gt.1 (Ss n c a) i j (by omega) l e;rw[gqq,eZ (show i<_ by omega),gqq,eZ l];exact h1
 · rw[m]at hp;exact(Fs c).2 (Aut.reach (by omega) f b hp)
theorem VX(d:n<5){a:List Int}{u:PLs}(pa:Af a=true)(f:a.length=n)(h:Rl a u u):a∈autL n [[u],[u,u],[]]:=by
 have c:∀ L:List PLs,(∀ x∈L,x=u)->Kep a L:=fun L e p hp=>⟨p,hp,by rw[e p hp];exact h,rfl⟩;refine(Fs d).2 ⟨pa,f,fun L b=>c L ?_⟩;simp only[fV,ib,kx]at b;rcases b with rfl|rfl|rfl <;> simp
end Go.Proofs.YthdbingomfdeoaaGreatDoor
