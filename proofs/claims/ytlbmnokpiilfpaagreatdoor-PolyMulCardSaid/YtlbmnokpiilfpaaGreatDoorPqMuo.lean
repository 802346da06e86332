/- Part PqMuo. -/
import Derived.Test.YtlbmnokpiilfpaaGreatDoorPqPIb
import Derived.Test.YtlbmnokpiilfpaaGreatDoorPqRmu
import Derived.Test.YtlbmnokpiilfpaaGreatDoorPqRdv

set_option linter.all false
set_option maxRecDepth 100000
set_option maxHeartbeats 100000000
namespace Go.Proofs.YtlbmnokpiilfpaaGreatDoor
open Tryz Go Go.RowKit
variable {i:Int} {b m:Nat}
theorem Ps{N:Nat}{lb:List Pl.Tm}(a:∀ t∈lb,t.1.length=N)(b:(lb.map (·.1)).Nodup)(e:List Int):∀ {la:List Pl.Tm},(∀ s∈la,s.1.length=N)->cnt e (Pl.prodT la lb)<=la.length
 | [],_=>gO _
 | s :: r,ha=>by
  have h1:Pl.prodT (s :: r) lb=lb.map (fun t=>(Pl.plE s.1 t.1,s.2*t.2)) ++ Pl.prodT r lb:=by simp[Pl.prodT]
  have h2:((lb.map (fun t=>(Pl.plE s.1 t.1,s.2*t.2))).map (·.1)).Nodup:=by
   have h3:=IB (t:=s) b a (ha s (by simp));have h4:(lb.map (fun t=>(Pl.plE s.1 t.1,s.2*t.2))).map (·.1)=(shf s lb).map (·.1):=by
    unfold shf;rw[jO,jO];exact kh fun t _=>Pl.plE_comm s.1 t.1
   rw[h4];exact h3
  have h5:=Gh e h2;have h6:=Ps a b e (la:=r) (fun u hu=>ha u (by simp[hu]));rw[h1,JF,j8];omega
theorem XQ{p s l:List Pl.Tm}(a:1<=b)(h:∀ t∈l,Pl.RB b t.2)(e:List Int)(c:cnt e l<=m)(hp:p ++ s=l):Pl.RB (m*(b+1)+1) (Pl.coef p e):=by
 rw[<-DO];have d:∀ t∈p.filter (fun t=>decide (t.1=e)),Pl.RB b t.2:=fun t f=>h t (by rw[<-hp];exact List.mem_append_left _ (mD.1 f).1);refine(Pl.RB.coef a e d).mono ?_;have h1:cnt e p<=m:=by rw[<-hp,JF]at c;omega
 have h2:cnt e p*(b+1)<=m*(b+1):=gH _ h1;show cnt e p*(b+1)+1<=_;omega
section
variable {va vb:Int} {ta tb:List Tx} {la lb:List Pl.Tm}
theorem Wt(b:rdP va ta=some la)(c:rdP vb tb=some lb)(sa:Av ta 8 12)(sb:Av tb 8 12):∀ t∈Pl.prodT la lb,Pl.RB 96 t.2:=fun u hu=>by
 obtain⟨s,d,hu⟩:=jS.1 hu;obtain⟨t,a,rfl⟩:=ie.1 hu;exact Pl.RB.mul (Eu b (k:=12) (fun t a=>(sa.2 t a).1) s d) (Eu c (k:=12) (fun t a=>(sb.2 t a).1) t a)
theorem Pu(a:rdP va ta=some la)(c:rdP vb tb=some lb)(sa:Av ta 8 12)(sb:Av tb 8 12){p s:List Pl.Tm}(hp:p ++ s=Pl.prodT la lb)(e:List Int):Pl.RB 777 (Pl.coef p e):=by
 have h1:=Ps (fun t f=>(BW c).len t f) (Eq (BW c)) e (la:=la) (fun s d=>(BW a).len s d);have h2:la.length<=8:=by rw[BH a];exact sa.1
 exact XQ (b:=96) (m:=8) (by omega) (Wt a c sa sb) e (gJ h1 h2) hp
theorem MB(c:rdP va ta=some la)(sa:Av ta 8 12):Bk (la.map (·.2))<P2 9600:=by
 have h1:=OD (l:=la.map (·.2)) (b:=48) (fun q d=>by
  obtain⟨t,a,rfl⟩:=ie.1 d
  exact(Eu c (k:=12) (fun t a=>(sa.2 t a).1) t a).2)
 have h2:la.length<=8:=by rw[BH c];exact sa.1
 rw[iM]at h1;exact ib h1 (Hq (by omega))
theorem Wu(b:rdP va ta=some la)(c:rdP vb tb=some lb)(sa:Av ta 8 12)(sb:Av tb 8 12):CF la lb:=by
 have n:la.length<=8:=by rw[BH b];exact sa.1
 have o:lb.length<=8:=by rw[BH c];exact sb.1
 have f:(Pl.prodT la lb).length<=64:=by rw[Dg];exact j5 n o
 have q:∀ t∈la,Pl.RB 1000 t.2:=fun t a=>(Eu b (k:=12) (fun t a=>(sa.2 t a).1) t a).mono (by omega);have r:∀ t∈lb,Pl.RB 1000 t.2:=fun t a=>(Eu c (k:=12) (fun t a=>(sb.2 t a).1) t a).mono (by omega);have j:Bp la:=fun t a=>⟨(A5 b t a).1,fun x d=>by have:=(A5 b t a).2 x d;omega⟩;have l:Bp lb:=fun t a=>⟨(A5 c t a).1,fun x d=>by have:=(A5 c t a).2 x d;omega⟩
 refine CF.ofF q r j l (MB b sa) (MB c sb) (by omega) (by omega) (fun p s hp e=>(Pu b c sa sb hp e).mono (by omega)) ⟨fun e h=>⟨RB.str (Pu b c sa sb (s:=[]) (by simp) e) (by omega),?_⟩,by omega⟩;obtain⟨u,hu,rfl⟩:=Pl.coef_present h;obtain⟨s,m,hu⟩:=jS.1 hu;obtain⟨t,a,rfl⟩:=ie.1 hu;have g:=A5 b s m;have i:=A5 c t a;exact⟨DN g.1 i.1,fun x d=>by have:=RT g.2 i.2 x d;omega⟩
theorem XR(va vb:Int)(k f:List Tx):mulR va vb (rdP va k) (rdP vb f)=mulA va vb (rdP va k) (rdP vb f):=by
 cases h1:rdP va k with
 | none=>cases rdP vb f <;> rfl
 | some la =>
  cases h2:rdP vb f with
  | none=>rfl
  | some lb =>
   show(if va=vb then resQ va (Pl.prodT la lb)else((0:Int),([]:List Tx),(4:Int)))=if va=vb then(if la≠[]/\lb≠[]/\24<Bu la+Bu lb then(0,[],2)else resQ va (Pl.prodT la lb))else(0,[],4)
   by_cases j:va=vb
   · subst j;rw[gY rfl,gY rfl];by_cases c:la≠[]/\lb≠[]/\24<Bu la+Bu lb
     · rw[gY c];have d:=Pv.of h1;have e:=Pv.of h2;obtain⟨i,g⟩:=S3 d.can e.can d.inv e.inv c.1 c.2.1;unfold resQ;rw[gT];intro l;have b:=Jq (EI d.inv e.inv);have a:=(Dv (fun t m=>(EI d.inv e.inv t m).1)).1;obtain⟨t,r,he⟩:=je i;rw[he]at l g b a;have h3:=(CN.1 (l.2 t r rfl)).2.2;have h4:=Gg a (by have:=(Dj (b t (by simp)).2.1).1;omega);omega
     · rw[gT c]
   · rw[gT j,gT j]
variable {a b:Option Addr} {n c m d:Nat} {w:World} {v err:Int} {t:List Tx}
theorem QH(j:mulA va vb (rdP va ta) (rdP vb tb)=(v,t,err))(g:AH w a n c ta)(i:AH w b m d tb)(sa:Av ta 8 12)(sb:Av tb 8 12) :
 Calls prog 21 #[.agg #[.int .i64 va,.slice a n c],.agg #[.int .i64 vb,.slice b m d]] w (Jc w v t err) :=
 (Te g i (fun t f=>(sa.2 t f).1) (fun t f=>(sb.2 t f).1) (by have:=g.len;have:=sa.1;omega) (by have:=i.len;have:=sb.1;omega)).mono fun e k h=>by
  rw[XR,j]at h;exact Cl.v h
theorem Lz(d:derA va i (rdP va ta)=(v,t,err))(b:AH w a n c ta)(sa:Av ta 8 12) :
 Calls prog 23 #[.agg #[.int .i64 va,.slice a n c],.int .i64 i] w (Jc w v t err) :=
 (NE b (fun t f=>(sa.2 t f).1) (by have:=b.len;have:=sa.1;omega)).mono fun e g h=>by
  rw[d]at h;exact Cl.v h
end
end Go.Proofs.YtlbmnokpiilfpaaGreatDoor
