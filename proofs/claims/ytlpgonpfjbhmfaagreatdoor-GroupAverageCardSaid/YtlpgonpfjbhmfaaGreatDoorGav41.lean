/- Part Gav41. -/
import Derived.Test.YtlpgonpfjbhmfaaGreatDoorGav6
set_option maxRecDepth 100000
set_option maxHeartbeats 100000000
namespace Go.Proofs.YtlpgonpfjbhmfaaGreatDoor
open Tryz Go Go.RowKit
variable {cs:Array Value} {xss:List (List Int)} {xs:List Int} {n:Nat} {w:World}
theorem Gy (hn:cs.size=n) (h6:n≤1000000) (h:cs.toList=xs.map (Value.int .i64)):SlI (w.alloc (.cells cs 3)) (some ⟨w.heap.size,0,none⟩) n n xs:=by
 have:=(Au w 0 3 cs n hn (Nat.zero_le _) h6).sl;rw [h] at this;exact this
theorem Jg (hn:cs.size=n) (h6:n≤1000000) (hl:xss.length=n) (h:∀ i,i<n→∃ a' n' c',cs.toList.getD i undef = .slice a' n' c'∧SlI w a' n' c' (xss.getD i [])) :
 SlL (w.alloc (.cells cs 22)) (some ⟨w.heap.size,0,none⟩) n n xss:=by
 refine ⟨hl,cs.toList,(Au w 0 22 cs n hn (Nat.zero_le _) h6).sl,fun i hi => ?_⟩;obtain ⟨a',n',c',h1,h2⟩:=h i hi;exact ⟨a',n',c',h1,h2.ext ((Ext.refl w).alloc _)⟩
theorem Of:∀ L:List (List Int),L.Nodup→(∀ p,p∈L↔Ch awG 3 p)→L.length≤12:=by
 intro L hn hm;have:=nodup_le L awE hn (fun x hx=>(Qh x).2 ((hm x).1 hx));simp [awE] at this;omega
theorem Og:B5 awG 3:=by
 intro g hg;have:g=[1,2,0]:=by simpa [awG] using hg
 subst this;exact ⟨by decide,rfl⟩
theorem Us:CX awE 0 awE.length:=by
 intro i j h1 h2 h3;have:j<3:=h3;have:(i=0∧j=1)∨(i=0∧j=2)∨(i=1∧j=2):=by omega
 rcases this with ⟨rfl,rfl⟩|⟨rfl,rfl⟩|⟨rfl,rfl⟩ <;> decide
theorem BV:Calls prog 11 #[] w fun e w'=>e = .returned (.bool true)∧Ext w w':=by
 go_enter func11,ntmps11
 go_wp2_with fail
 have s1:SlI ((w.alloc (.cells #[.int .i64 1, .int .i64 0, .int .i64 2] 3)).alloc (.cells #[.int .i64 0, .int .i64 2, .int .i64 1] 3)) (some ⟨w.heap.size,0,none⟩) 3 3 [1,0,2]:=(Gy (w:=w) (cs:=#[.int .i64 1, .int .i64 0, .int .i64 2]) (xs:=[1,0,2]) (n:=3) rfl (by omega) rfl).ext ((Ext.refl _).alloc _);have s2:SlI ((w.alloc (.cells #[.int .i64 1, .int .i64 0, .int .i64 2] 3)).alloc (.cells #[.int .i64 0, .int .i64 2, .int .i64 1] 3)) (some ⟨w.heap.size+1,0,none⟩) 3 3 [0,2,1]:=by
  have:=Gy (w:=w.alloc (.cells #[.int .i64 1, .int .i64 0, .int .i64 2] 3)) (cs:=#[.int .i64 0, .int .i64 2, .int .i64 1]) (xs:=[0,2,1]) (n:=3) rfl (by omega) rfl;simpa using this
 have hE0:Ext w ((w.alloc (.cells #[.int .i64 1, .int .i64 0, .int .i64 2] 3)).alloc (.cells #[.int .i64 0, .int .i64 2, .int .i64 1] 3)):=((Ext.refl w).alloc _).alloc _;refine (K2 s1 s2).mono ?_;rintro e w1 ⟨a1,n1,c1,rfl,hE1,hO1⟩;have hcs:BC [1,0,2] [0,2,1]=([1,2,0],0):=by decide
 rw [hcs] at hO1 ⊢;have hEw1:=hE0.trans hE1;have hsl1:=hO1.sl;clear s1 s2 hE0 hE1 hO1 hcs
 go_wp2_with fail
 have s3:SlL ((w1.alloc (.cells #[.int .i64 1, .int .i64 2, .int .i64 0] 3)).alloc (.cells #[.slice (some ⟨w1.heap.size,0,none⟩) 3 3] 22)) (some ⟨w1.heap.size+1,0,none⟩) 1 1 awG:=by
  have:=Jg (w:=w1.alloc (.cells #[.int .i64 1, .int .i64 2, .int .i64 0] 3)) (cs:=#[.slice (some ⟨w1.heap.size,0,none⟩) 3 3]) (xss:=awG) (n:=1) rfl (by omega) rfl (by
   intro i hi;have:i=0:=by omega
   subst this
   exact ⟨_,_,_,rfl,Gy (w:=w1) (cs:=#[.int .i64 1, .int .i64 2, .int .i64 0]) (xs:=[1,2,0]) (n:=3) rfl (by omega) rfl⟩)
  simpa using this
 have hE2:Ext w1 ((w1.alloc (.cells #[.int .i64 1, .int .i64 2, .int .i64 0] 3)).alloc (.cells #[.slice (some ⟨w1.heap.size,0,none⟩) 3 3] 22)):=((Ext.refl w1).alloc _).alloc _;refine (Ht (n:=3) s3 (by omega) Og (by omega) Of).mono ?_;rintro e w2 ⟨ps,⟨a2,n2,c2,cells,rfl,hE3,hn2,hO2,hQ2⟩,hnd,hmem,hord⟩;have hps:ps=awE:=GA hnd (by decide) (fun x=>by rw [hmem,Qh]) hord Us;subst hps;have hsl2:=Tp hn2 hO2 hQ2;have hEw2:=hEw1.trans (hE2.trans hE3);have hs1:=hsl1.ext (hE2.trans hE3);clear hn2 hO2 hQ2 hnd hmem hord hE2 hE3 hEw1 hsl1 s3
 go_wp2_with fail
 have hE4:Ext w2 (w2.alloc (.cells #[.int .i64 1, .int .i64 2, .int .i64 0] 3)):=(Ext.refl w2).alloc _;refine (FM (hs1.ext hE4) (Gy (w:=w2) (cs:=#[.int .i64 1, .int .i64 2, .int .i64 0]) (xs:=[1,2,0]) (n:=3) rfl (by omega) rfl)).mono ?_;rintro e w3 ⟨rfl,hQ3⟩;have hd:decide (([1,2,0]:List Int)=[1,2,0])=true:=by decide
 rw [hd];have hEw3:=hEw2.trans (hE4.trans hQ3.ext);have hs3:=hsl2.ext (hE4.trans hQ3.ext);clear hEw2 hE4 hQ3 hs1 hsl2 hd
 go_wp2_with fail
 have r0:=Gy (w:=w3) (cs:=#[.int .i64 0, .int .i64 1, .int .i64 2]) (xs:=[0,1,2]) (n:=3) rfl (by omega) rfl;have r1:=Gy (w:=w3.alloc (.cells #[.int .i64 0, .int .i64 1, .int .i64 2] 3)) (cs:=#[.int .i64 1, .int .i64 2, .int .i64 0]) (xs:=[1,2,0]) (n:=3) rfl (by omega) rfl;have r2:=Gy (w:=(w3.alloc (.cells #[.int .i64 0, .int .i64 1, .int .i64 2] 3)).alloc (.cells #[.int .i64 1, .int .i64 2, .int .i64 0] 3)) (cs:=#[.int .i64 2, .int .i64 0, .int .i64 1]) (xs:=[2,0,1]) (n:=3) rfl (by omega) rfl
 have z1:(w3.alloc (.cells #[.int .i64 0, .int .i64 1, .int .i64 2] 3)).heap.size=w3.heap.size+1:=by simp
 have z2:((w3.alloc (.cells #[.int .i64 0, .int .i64 1, .int .i64 2] 3)).alloc (.cells #[.int .i64 1, .int .i64 2, .int .i64 0] 3)).heap.size=w3.heap.size+1+1:=by simp
 have z3:(((w3.alloc (.cells #[.int .i64 0, .int .i64 1, .int .i64 2] 3)).alloc (.cells #[.int .i64 1, .int .i64 2, .int .i64 0] 3)).alloc (.cells #[.int .i64 2, .int .i64 0, .int .i64 1] 3)).heap.size=w3.heap.size+1+1+1:=by simp
 rw [z1] at r1;rw [z2] at r2
 have s4:=Jg (w:=((w3.alloc (.cells #[.int .i64 0, .int .i64 1, .int .i64 2] 3)).alloc (.cells #[.int .i64 1, .int .i64 2, .int .i64 0] 3)).alloc (.cells #[.int .i64 2, .int .i64 0, .int .i64 1] 3))
  (cs:=#[.slice (some ⟨w3.heap.size,0,none⟩) 3 3, .slice (some ⟨w3.heap.size+1,0,none⟩) 3 3, .slice (some ⟨w3.heap.size+1+1,0,none⟩) 3 3]) (xss:=awE) (n:=3) rfl (by omega) rfl (by
   intro i hi;have:i=0∨i=1∨i=2:=by omega
   rcases this with rfl|rfl|rfl
   · exact ⟨_,_,_,rfl,(r0.ext ((Ext.refl _).alloc _)).ext ((Ext.refl _).alloc _)⟩
   · exact ⟨_,_,_,rfl,r1.ext ((Ext.refl _).alloc _)⟩
   · exact ⟨_,_,_,rfl,r2⟩)
 rw [z3] at s4;refine (OR (hs3.ext ((((Ext.refl w3).alloc _).alloc _).alloc _ |>.alloc _)) s4).mono ?_;rintro e w4 ⟨rfl,hQ4⟩;have hd:decide (awE=awE)=true:=by decide
 rw [hd];have hEw4:=(hEw3.trans ((((Ext.refl w3).alloc _).alloc _).alloc _ |>.alloc _)).trans hQ4.ext;clear r0 r1 r2 z1 z2 z3 s4 hQ4 hs3 hd;go_wp2;go_ret;exact ⟨rfl,hEw4⟩
end Go.Proofs.YtlpgonpfjbhmfaaGreatDoor
