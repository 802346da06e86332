/- Part PmkLM. -/
import Derived.Test.YtlbmnokpiilfpaaGreatDoorPmk31
set_option maxRecDepth 100000
set_option maxHeartbeats 100000000
namespace Go.Proofs.YtlbmnokpiilfpaaGreatDoor
open Tryz Go Go.RowKit
variable {s:ByteArray} {i vars:Int} {c n:Nat} {A:Option Addr} {w:World}
theorem PBx.nil (w:World):PBx w w []:=⟨Ext.refl w,fun p hp=>by cases hp⟩
theorem Lj {ts:List Tx} (N:AR w) (h:Bk w A n c ts) :
 Calls prog 3 #[.int .i64 vars, .slice A n c, .string s, .int .i64 i] w (Ss w):=by
 have y:=fun (M:World) (hC:Ext w M)=>qh (PN (N.ext hC));have H:=h.len;by_cases v:n<=12/\s.size<=20
 case neg =>
  have z:(12:Int)<n\/¬ (12:Int)<n/\(20:Int)<s.size:=by omega
  clear v;rcases z with V|⟨V,c2⟩
  all_goals
   go_enter func3,ntmps3
   go_wp2_with fail
   refine (y _ (Ext.refl w)).out.mono ?_;rintro e w9 ⟨rfl,hF⟩;go_wp2;go_ret;exact ⟨rfl,(Ext.refl w).trans hF⟩
 obtain ⟨hn,K⟩:=v;have V:¬ (12:Int)<n:=by omega
 have c2:¬ (20:Int)<s.size:=by omega
 obtain ⟨ai,W,_,hq⟩:=id h;have HQ:=qh hq;have HL:=qh H;clear hq H
 go_enter func3,ntmps3
 go_wp2
 go_loopw [9] (fun Z wr=>∃ k:Nat,Z = .int .i64 k/\k<=n/\Ext w wr/\Hid (∀ j,j<k->(ts.getD j tm0).1.length<=12)) (fun Z _=>n-(intOf Z).toNat)
 case atStart=>exact ⟨0,rfl,Nat.zero_le _,Ext.refl _,qh (fun j O=>absurd O (by omega))⟩
 case round =>
  obtain ⟨k,rfl,hk,E,T⟩:=hrel;by_cases p:k<n
  · have I:(k:Int)<n:=by omega
    have F:=W.ext E;obtain ⟨b,L,rfl,a⟩:=F.rd (by omega);obtain ⟨B,ax,P,cx,o,J,Y⟩:=HQ.out k p;have gs:wr.cell? ⟨b,L+k*2,none⟩=some (.string B):=by have:=a k p 0 (by omega); rw [o] at this; exact this
    have gx:wr.cell? ⟨b,L+k*2+1,none⟩=some (.slice ax P cx):=by have:=a k p 1 (by omega); rw [o] at this; exact this
    have U:Hid ((ts.getD k tm0).1.length=B.size):=by show _=_; rw [<-J,Ax]
    clear a o J Y F W;by_cases G:B.size<=12/\P<=12
    · obtain ⟨h1,h2⟩:=G;have d1:¬ (12:Int)<B.size:=by omega
      have d2:¬ (12:Int)<P:=by omega
      have HN:Hid (∀ j,j<k+1->(ts.getD j tm0).1.length<=12):=qh (fun j O=>by
       by_cases X:j<k
       · exact T.out j X
       · have:j=k:=by omega
         subst this;rw [U.out]
         exact h1)
      go_wp2;go_roundw
      case rel=>exact ⟨k+1,by go_num,by omega,E,HN⟩
      case measure=>simp [intOf]; omega
    · have z:(12:Int)<B.size\/¬ (12:Int)<B.size/\(12:Int)<P:=by omega
      clear G;rcases z with d1|⟨d1,d2⟩
      all_goals
       go_wp2_with fail
       refine (y _ (E)).out.mono ?_;rintro e w9 ⟨rfl,hF⟩;go_wp2;go_ret;exact ⟨rfl,(E).trans hF⟩
  · have I:¬ (k:Int)<n:=by omega
    have x:∀ t∈ts,t.1.length<=12:=fun t ht=>by
     obtain ⟨j,O,rfl⟩:=List.getElem_of_mem ht;have h1:=T.out j (by have:=HL.out; omega);rw [gqq,List.getElem?_eq_getElem O,Option.getD_some] at h1;exact h1
    have q:=qh x;have D:=qh K;have C:=qh hn;have d:=(PBx.nil w).ext E;clear x K hn V c2 W HQ T hk p;obtain ⟨⟨Q,t1,e1⟩,h1⟩:∃ r,mkA vars ts=r:=⟨_,rfl⟩;have H1:=qh h1;clear h1;obtain ⟨⟨R,t2,e2⟩,h2⟩:∃ r,cnA vars (Aj s)=r:=⟨_,rfl⟩;have H2:=qh h2;clear h2;obtain ⟨⟨S,t3,e3⟩,h3⟩:∃ r,vrA vars i=r:=⟨_,rfl⟩;have H3:=qh h3;clear h3;have a:=qh (NB H1.out (N.ext d.e) (h.ext d.e) q.out C.out)
    go_wp2_with fail
    refine (a.out).mono ?_;rintro e a0 ⟨ap,aE,ay,rfl,hF,g⟩;have l:=Arr.new a0 28 (Aq 0 none 0 0);clear a
    go_upto_region 9 with (refine EW rfl rfl rfl rfl l rfl ?_; intro aj f m)
    replace d:=d.new hF g f m;clear l f m hF g;have a:=qh (Mu H1.out (h.ext d.e) q.out C.out)
    go_wp2_with fail
    refine (a.out).mono ?_;rintro e a1 ⟨aq,aF,az,rfl,hF,g⟩;have l:=Arr.new a1 28 (Aq 0 none 0 0);clear a
    go_upto_region 10 with (refine EW rfl rfl rfl rfl l rfl ?_; intro ak f m)
    replace d:=d.new hF g f m;clear l f m hF g;have a:=qh (Mv H2.out (N.ext d.e) D.out)
    go_wp2_with fail
    refine (a.out).mono ?_;rintro e a2 ⟨ar,aG,aA,rfl,hF,g⟩;have l:=Arr.new a2 28 (Aq 0 none 0 0);clear a
    go_upto_region 11 with (refine EW rfl rfl rfl rfl l rfl ?_; intro al f m)
    replace d:=d.new hF g f m;clear l f m hF g;have a:=qh (fun M=>K8 (w:=M) H2.out D.out)
    go_wp2_with fail
    refine (a.out _).mono ?_;rintro e a3 ⟨au,aH,aB,rfl,hF,g⟩;have l:=Arr.new a3 28 (Aq 0 none 0 0);clear a
    go_upto_region 12 with (refine EW rfl rfl rfl rfl l rfl ?_; intro am f m)
    replace d:=d.new hF g f m;clear l f m hF g;have a:=qh (PO H3.out (N.ext d.e))
    go_wp2_with fail
    refine (a.out).mono ?_;rintro e a4 ⟨av,aI,aC,rfl,hF,g⟩;have l:=Arr.new a4 28 (Aq 0 none 0 0);clear a
    go_upto_region 13 with (refine EW rfl rfl rfl rfl l rfl ?_; intro an f m)
    replace d:=d.new hF g f m;clear l f m hF g;have a:=qh (fun M=>NC (w:=M) H3.out)
    go_wp2_with fail
    refine (a.out _).mono ?_;rintro e a5 ⟨aw,aJ,aD,rfl,hF,g⟩;have l:=Arr.new a5 28 (Aq 0 none 0 0);clear a
    go_upto_region 14 with (refine EW rfl rfl rfl rfl l rfl ?_; intro ao f m)
    replace d:=d.new hF g f m;clear l f m hF g;obtain ⟨a6,a7⟩:=d.c (i:=0) rfl;obtain ⟨a8,a9⟩:=d.c (i:=1) rfl;have a:=qh (Fq (va:=Q) (vb:=Q) (d.t (i:=0) rfl) (d.t (i:=1) rfl));rw [show decide (Q=Q/\t1=t1)=true by simp] at a
    go_wp2_with fail
    refine a.out.mono ?_;rintro e aK ⟨rfl,hF⟩;replace d:=d.ext hF;clear a hF a6 a7 a8 a9;obtain ⟨aa,ab⟩:=d.c (i:=2) rfl;obtain ⟨ac,ad⟩:=d.c (i:=3) rfl;have a:=qh (Fq (va:=R) (vb:=R) (d.t (i:=2) rfl) (d.t (i:=3) rfl));rw [show decide (R=R/\t2=t2)=true by simp] at a
    go_wp2_with fail
    refine a.out.mono ?_;rintro e aL ⟨rfl,hF⟩;replace d:=d.ext hF;clear a hF aa ab ac ad;obtain ⟨ae,af⟩:=d.c (i:=4) rfl;obtain ⟨ag,ah⟩:=d.c (i:=5) rfl;have a:=qh (Fq (va:=S) (vb:=S) (d.t (i:=4) rfl) (d.t (i:=5) rfl));rw [show decide (S=S/\t3=t3)=true by simp] at a
    go_wp2_with fail
    refine a.out.mono ?_;rintro e aM ⟨rfl,hF⟩;replace d:=d.ext hF;clear a hF ae af ag ah
    go_wp2_with fail
    refine (y _ d.e).out.mono ?_;rintro e aN ⟨rfl,hF⟩;go_wp2;go_ret;exact ⟨rfl,d.e.trans hF⟩
end Go.Proofs.YtlbmnokpiilfpaaGreatDoor
