/- Part PqBDx1. -/
import Derived.Test.YtlbmnokpiilfpaaGreatDoorPqBCDx1
import Derived.Test.YtlbmnokpiilfpaaGreatDoorPq31

set_option linter.all false
set_option maxRecDepth 100000
set_option maxHeartbeats 100000000
namespace Go.Proofs.YtlbmnokpiilfpaaGreatDoor
open Tryz Go Go.RowKit
variable {x:List Int} {N b0 k:Nat}
def Lb(l:List Pl.Tm):Int:=match l with | [] => -1 | t :: _=>t.1.sum
theorem Y8(a:k<x.length):(x.take (k+1)).sum=(x.take k).sum+x.getD k 0:=by
 rw[gM a,List.sum_append,gqq,gD a];simp
theorem ME(hN:N<=12){a:Option Addr}{n c:Nat}{l:List Pl.Tm}{w:World}(h:TSl w b0 a n c l)(G:TB N l) :
 Calls prog 95 #[.agg (pL (N:Int) a n c).toArray] w fun e w'=>e = .returned (.int .i64 (Lb l))/\Ext w w':=by
 have B:=h.len;have V:=h.le
 go_enter func95,ntmps95
 go_upto_region 1 with(fail)
 refine AP ?_;intro w0 m i C;have p0:=i.c 0 rfl;have p1:=i.c 1 rfl;clear i C;by_cases h0:0<n
 case neg =>
  have he:((n:Int) == 0)=true:=by simp;omega
  have v:Hid (l=[]):=qh (gQ (by omega));clear h0;go_wp2;go_ret;exact⟨by rw[v.out];rfl,m⟩
 have he:((n:Int) == 0)=false:=by simp;omega
 obtain⟨P,Y,K,s1,x1,m1,d1,y1,g1,h1,Q,J,R,rfl,F,f,-,-,-,I⟩:=(h.ext m).row h0;have g4:w0.cell? ⟨P,Y+4,none⟩=some (.slice Q J R):=by have:=F.cl h0 (j:=4) (by omega);rw[f,jg,iO]at this;exact this
 have d:l.getD 0 tz∈l:=im (getD_some (by omega));have M:Hid (Lb l=(l.getD 0 tz).1.sum):=by
  cases l with
  | nil=>simp at B;omega
  | cons t r=>exact qh rfl
 obtain⟨p,q⟩:=G _ d;generalize (l.getD 0 tz).1=x at *
 have s:=I.1;have A:N=J:=by have:=s.len;omega
 subst A;have L:=qh q;have g:=qh p;clear p q d G F f I h;go_wp2
 go_loop[3,4] (fun Z D=>∃ (k:Nat) (S:Int),D = .int .i64 k/\Z = .int .i64 S/\k<=N/\Hid (S=(x.take k).sum) /\ -(1099511627776*(k:Int))<=S/\S<=1099511627776*(k:Int)) (fun _ D=>N-(intOf D).toNat)
 case atStart=>exact⟨0,0,rfl,rfl,gO _,qh rfl,by omega,by omega⟩
 case round =>
  obtain⟨k,S,rfl,rfl,hk,E,T,U⟩:=hrel;by_cases b:k<N
  · have o:(k:Int)<N:=by omega
    obtain⟨b1,o1,rfl,H⟩:=s.at b;have g5:=H k b;have X:=L.out _ (Y6 (by rw[g.out];exact b));have z:Hid (S+x.getD k 0=(x.take (k+1)).sum):=qh (by rw[Y8 (by rw[g.out];exact b),E.out]);generalize x.getD k 0=y at *
    have W:IntKind.i64.wrap (S+y)=S+y:=gI _ (by omega);clear H;go_wp2;go_round
    case rel=>exact⟨k+1,S+y,by go_num,by first | rfl | go_num | rw[W],by omega,z,by omega,by omega⟩
    case measure=>simp[intOf];omega
  · have o:¬ (k:Int)<N:=by omega
    have O:Hid (Lb l=S):=qh (by rw[M.out,E.out,gG (by rw[g.out];omega)]);go_wp2;go_ret;exact⟨by rw[O.out];rfl,m⟩
theorem Vm(va:Int)(ts:List Tx):Lb ((rdR va ts).getD [])=degP va ts:=by
 unfold degP;rw[<-BQ];cases h:rdR va ts with
 | none=>rfl
 | some l =>
  have h1:=AU h;have a:∀ t r,ts=t :: r->A3 t.2=true:=by
   unfold rdR at h;split at h
   · rename_i h3;exact h3.2
   · cases h
  cases ts with
  | nil=>rw[h1.1];rfl
  | cons t r =>
   rw[gY ⟨rfl,by simp⟩,h1.1];show(rdU t).1.sum=Ds t.2;obtain⟨h6,h0,h24⟩:=CN.1 (a t r rfl);unfold Ds;rw[gT (by omega),F8 _ 0 (by omega) h0 (by omega)];show t.2.sum=_;omega
end Go.Proofs.YtlbmnokpiilfpaaGreatDoor
