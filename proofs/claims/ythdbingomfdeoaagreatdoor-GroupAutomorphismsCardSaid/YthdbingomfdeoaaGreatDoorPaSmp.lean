/- Part PaSmp. -/
import Derived.Test.YthdbingomfdeoaaGreatDoorPa11

set_option linter.all false
set_option maxRecDepth 100000
set_option maxHeartbeats 100000000
namespace Go.Proofs.YthdbingomfdeoaaGreatDoor
open Tryz Go Go.RowKit
variable {a:Option Addr} {w:World}
theorem Ee{n c k0 nt dd:Nat}{ps:List (Int×List Tx)}(h:PSl w a n c ps) :
 Calls prog 6 #[.slice a n c,.int .i64 (k0:Nat),.int .i64 (nt:Nat),.int .i64 (dd:Nat)] w fun e W=>e = .returned (.bool (decide (ps.length<=k0/\∀ p∈ps,Bp p.2 nt dd)))/\Ext w W:=by
 obtain⟨Q,L,M,P⟩:=h;have O:=L.le;have S:=qh P;have B:=qh M;obtain⟨r,H⟩:∃ r,decide (ps.length<=k0/\∀ p∈ps,Bp p.2 nt dd)=r:=⟨_,rfl⟩;rw[H];have F:=qh H;clear H P M
 go_enter func6,ntmps6
 by_cases x:n<=k0
 case neg =>
  have s:Hid (r=false):=qh (by
   rw[<-F.out]
   exact fw fun h1=>x (by rw[<-B.out];exact h1.1))
  go_wp2;go_ret;exact⟨by rw[s.out];rfl,Ext.refl _⟩
 have R:Hid (ps.length<=k0):=qh (by rw[B.out];exact x);have N:¬ (k0:Int)<n:=by omega
 go_wp2
 go_loopw[9] (fun I wr=>∃ k:Nat,I = .int .i64 k/\k<=n/\Ext w wr/\Hid (∀ i,i<k->Bp (ps.getD i pz).2 nt dd)) (fun I _=>n-(intOf I).toNat)
 case atStart=>exact⟨0,rfl,f8 _,Ext.refl _,qh (fun i D=>absurd D (by omega))⟩
 case round =>
  obtain⟨k,rfl,Y,t,z⟩:=hrel;by_cases o:k<n
  case neg =>
   have v:¬ (k:Int)<n:=by omega
   have s:Hid (r=true):=qh (by
    rw[<-F.out];refine gl ⟨R.out,fun p hp => ?_⟩;obtain⟨i,D,rfl⟩:=fR hp;have h1:=z.out i (by have:=B.out;omega)
    rwa[gqq,eQ D,fC]at h1)
   clear z;go_wp2;go_ret;exact⟨by rw[s.out];rfl,t⟩
  have v:(k:Int)<n:=by omega
  have l:=L.ext t;obtain⟨b,U,rfl,_⟩:=l.rd (by omega);obtain⟨A,m,d,f,y⟩:=S.out k o;have K:Hid (ps.getD k pz∈ps):=qh (by have:=B.out;rw[gqq,eQ (by omega),fC];exact fu _)
  have C:Hid (Bp (ps.getD k pz).2 nt dd->∀ i,i<k+1->Bp (ps.getD i pz).2 nt dd):=qh (fun h1 i D=>by
   by_cases G:i<k
   · exact z.out i G
   · have:i=k:=by omega
     subst this
     exact h1)
  generalize ps.getD k pz=p at *
  obtain⟨J,V⟩:=p;have g:=qh (Ep (va:=J) (nt:=nt) (d:=dd) (y.ext t));have T:(B4 J A m d).toArray=#[.int .i64 J,.slice A m d]:=rfl;simp only at f K C;clear y z;by_cases q:Bp V nt dd
  · have E:=qh (C.out q);rw[gl q]at g;clear q C
    go_wp2_with(refine Cq rfl rfl CM rfl l o ?_;rw[f])
    refine g.out.mono ?_;rintro e X ⟨rfl,j⟩;go_wp2;go_roundw
    case rel=>exact⟨k+1,by go_num,by omega,t.trans j,E⟩
    case measure=>simp[intOf];omega
  · have s:Hid (r=false):=qh (by
     rw[<-F.out]
     exact fw fun h1=>q (h1.2 _ K.out))
    rw[fw q]at g;clear q C
    go_wp2_with(refine Cq rfl rfl CM rfl l o ?_;rw[f])
    refine g.out.mono ?_;rintro e X ⟨rfl,j⟩;go_wp2;go_ret;exact⟨by rw[s.out];rfl,t.trans j⟩
end Go.Proofs.YthdbingomfdeoaaGreatDoor
