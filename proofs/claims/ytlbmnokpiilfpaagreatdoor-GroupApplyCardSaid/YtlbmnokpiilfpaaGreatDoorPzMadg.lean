/- Part PzMadg. -/
import Derived.Test.YtlbmnokpiilfpaaGreatDoorPz20
import Derived.Test.YtlbmnokpiilfpaaGreatDoorPz18

set_option linter.all false
set_option maxRecDepth 100000
set_option maxHeartbeats 100000000
namespace Go.Proofs.YtlbmnokpiilfpaaGreatDoor
open Tryz Go Go.RowKit
variable {n:Int} {gs ps:List (List Int)} {xs ys:List Int} {q:Nat} {a b:Option Addr} {w:World}
theorem lX(n:Int):∃ m:Nat,n%4=(m:Int)/\m<=3:=⟨(n%4).toNat,by omega,by omega⟩
theorem kE(k:q<=4)(hp:Zs gs q)(l:ZW ps)(d:∀ p,p∈ps<->Zz gs q p):GNs ps q/\ps.length<=24:=by
 have b:Zs ps q:=fun p h=>Zq (by omega) hp ((d p).1 h);have a:0<ps.length:=rj ((d _).2 (Z1 _ _));have e:(ps.getD 0 []).length=q:=(b _ (H6 a)).2;have j:isG ps:=by
  refine⟨a,by rw[e];exact b,l,?_⟩;rw[e];rintro p ⟨i,f,rfl⟩;rw[d]
  induction i with
  | nil=>exact Z1 _ q
  | cons g i ih=>exact dP (by omega) hp ((d g).1 (f g (by simp))) (ih fun x m=>f x (by simp[m]))
 have c:GNs ps q:=⟨j,b,e,by omega⟩;exact⟨c,tR (by omega) (kn c k)⟩
theorem je{V W ca cb:Nat}(hx:SlI w a V ca xs)(hy:SlI w b W cb ys) :
 Calls prog 43 #[.int .i64 n,.slice a V ca,.slice b W cb] w (fun e L=>∃ f y v z c,∃ m:Nat,e = .returned (.tuple #[.slice y v z,.int .i64 m])/\Ext w L/\v=f.length/\Own L w.heap.size 24 y v z c/\QEl L w.heap.size c f/\GNs f m/\f.length<=24/\m<=4):=by
 obtain⟨m,T,G⟩:=lX n;have M:=qh T;clear T
 go_enter func43,ntmps43
 go_wp2_with fail
 refine(fH (by omega) (by omega)).mono ?_;rintro e w1 ⟨rfl,rfl⟩;rw[M.out]
 go_wp2_with fail
 obtain⟨q,U⟩:∃ q:Nat,(m:Int)+1=q:=⟨m+1,by omega⟩;have t:q<=4:=by omega
 have a0:1<=q:=by omega
 rw[U];clear U G M;refine(Z4 hx (by omega)).mono ?_;rintro e w2 ⟨N,P,p,rfl,k,hp,pp,Y⟩;have PL:=qh Y;clear Y
 go_wp2_with fail
 refine(Z4 (hy.ext k) (by omega)).mono ?_;rintro e A ⟨O,Q,X,rfl,l,H,K,x⟩;have C:=qh x;clear x
 have s1:=Bu (w:=A) (cs:=#[.slice N q P,.slice O q Q]) (xss:=[p,X]) (n:=2) rfl (by omega) rfl (by
  intro i S;have:i=0\/i=1:=by omega
  rcases this with rfl|rfl
  · exact⟨_,_,_,rfl,hp.ext l⟩
  · exact⟨_,_,_,rfl,H⟩)
 have hA:Ext A (A.alloc (.cells #[.slice N q P,.slice O q Q] 24)):=(Ext.refl A).alloc _;have s:Zs [p,X] q:=by
  intro g R;simp only[qj,rI,vQ]at R;rcases R with rfl|rfl
  · exact⟨pp,PL.out⟩
  · exact⟨K,C.out⟩
 have j:=qh s;clear s
 go_wp2_with fail
 refine(BO s1 (by omega) j.out).mono ?_;rintro e w4 ⟨f,⟨Z,n4,c4,c,rfl,D,r,E,F⟩,J,I⟩;have o:=qh (kE t j.out J I);have B:=qh r;clear r;have d:=((k.trans l).trans hA);go_wp2
 go_ret2
 refine⟨f,Z,n4,c4,c,q,rfl,d.trans D,B.out,Own.mono E d.size,?_,o.out.1,o.out.2,t⟩;intro i S;obtain⟨y,v,z,h1,h2⟩:=F i S;exact⟨y,v,z,h1,Own.mono h2 d.size⟩
end Go.Proofs.YtlbmnokpiilfpaaGreatDoor
