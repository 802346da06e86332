/- Part PzMvg. -/
import Derived.Test.YtlbmnokpiilfpaaGreatDoorPz12

set_option linter.all false
set_option maxRecDepth 100000
set_option maxHeartbeats 100000000
namespace Go.Proofs.YtlbmnokpiilfpaaGreatDoor
open Tryz Go Go.RowKit
variable {xs ys:List Int} {c d m n:Nat} {a b:Option Addr} {w:World}
def Zp(xs m:List Int):List Int×Int:=if G1 xs=true/\A3 m=true then(if xs.length=m.length then(mvd xs m,0)else([],4))else([],1)
theorem ie(i:SlI w a n c xs)(o:SlI w b m d ys) :
 Calls prog 46 #[.slice a n c,.slice b m d] w (jn w (Zp xs ys).1 (Zp xs ys).2):=by
 have p:=qh i.len;have x:=qh o.len;by_cases j:G1 xs=true
 · by_cases k:A3 ys=true
   · by_cases l:n=m
     · have s:((n:Int) != (m:Int))=false:=by simp[l]
       have z:=qh l;have g:Hid (Zp xs ys=(mvd xs ys,0)):=by
        show Zp xs ys=(mvd xs ys,0);unfold Zp;rw[pP ⟨j,k⟩,pP (by rw[p.out,x.out,l])]
       have h6:n<=6:=by have:=(G3 j).1;have h:=p.out;omega
       clear l
       go_enter func46,ntmps46
       go_wp2_with fail
       refine(S1 i).mono ?_;rintro e v ⟨rfl,f⟩
       go_wp2_with fail
       refine(IT (o.ext f)).mono ?_;rintro e y ⟨rfl,rfl⟩;rw[k]
       go_wp2_with fail
       obtain rfl:=z.out;refine(eQ (i.ext f) (o.ext f) j).mono ?_;rintro e E ⟨A,C,B,rfl,q,r⟩;go_wp2
       go_ret2
       rw[g.out];exact⟨A,C,B,rfl,f.trans q,Own.mono r f.size⟩
     · have s:((n:Int) != (m:Int))=true:=by simp;omega
       have g:Hid (Zp xs ys=([],4)):=by
        show Zp xs ys=([],4);unfold Zp;rw[pP ⟨j,k⟩,pC (by rw[p.out,x.out];exact l)]
       go_enter func46,ntmps46
       go_wp2_with fail
       refine(S1 i).mono ?_;rintro e v ⟨rfl,f⟩
       go_wp2_with fail
       refine(IT (o.ext f)).mono ?_;rintro e y ⟨rfl,rfl⟩;rw[k];go_wp2
       go_ret2
       rw[g.out];exact⟨none,0,0,rfl,f,Own.nil _ _ _⟩
   · have t:A3 ys=false:=by simpa using k
     have g:Hid (Zp xs ys=([],1)):=by
      show Zp xs ys=([],1);unfold Zp;rw[pC (fun h=>k h.2)]
     go_enter func46,ntmps46
     go_wp2_with fail
     refine(S1 i).mono ?_;rintro e v ⟨rfl,f⟩
     go_wp2_with fail
     refine(IT (o.ext f)).mono ?_;rintro e y ⟨rfl,rfl⟩;rw[t];go_wp2
     go_ret2
     rw[g.out];exact⟨none,0,0,rfl,f,Own.nil _ _ _⟩
 · have D:G1 xs=false:=by simpa using j
   have g:Hid (Zp xs ys=([],1)):=by
    show Zp xs ys=([],1);unfold Zp;rw[pC (fun h=>j h.1)]
   go_enter func46,ntmps46
   go_wp2_with fail
   refine(S1 i).mono ?_;rintro e v ⟨rfl,f⟩;go_wp2
   go_ret2
   rw[g.out];exact⟨none,0,0,rfl,f,Own.nil _ _ _⟩
theorem ig(v:SlI w a n c xs)(J:SlI w b m d ys) :
 Calls prog 45 #[.slice a n c,.slice b m d] w (jn w (Zp xs ys).1 (Zp xs ys).2):=by
 have N:=qh v.len;have L:=qh J.len;by_cases x:G1 xs=true
 · by_cases z:A3 ys=true
   · by_cases H:n=m
     · have S:((n:Int) != (m:Int))=false:=by simp[H]
       have W:=qh H;have p:Hid (Zp xs ys=(mvd xs ys,0)):=by
        show Zp xs ys=(mvd xs ys,0);unfold Zp;rw[pP ⟨x,z⟩,pP (by rw[N.out,L.out,H])]
       have h6:n<=6:=by have:=(G3 x).1;have h:=N.out;omega
       clear H
       go_enter func45,ntmps45
       go_wp2_with fail
       refine(G4 v).mono ?_;rintro e U ⟨rfl,f⟩
       go_wp2_with fail
       refine(E6 (J.ext f)).mono ?_;rintro e X ⟨rfl,rfl⟩;rw[z]
       go_wp2_with fail
       have q:m<=6:=by have:=W.out;omega
       have t:ys.length=n:=by have h1:=W.out;have h2:=L.out;omega
       have I:=v.ext f;refine(ZB (J.ext f) q).mono ?_;rintro e w3 ⟨rfl,s⟩
       go_wp2_with fail
       refine(aL (I.ext s) x t).mono ?_;rintro e M ⟨rfl,B⟩;have G:BI (AY (mvd xs ys)) = .agg ((AY (mvd xs ys)).map (Value.int .i64)).toArray:=rfl;have i:(AY (mvd xs ys)).length=6:=D0 (by rw[H5];omega);rw[G];have hA7:=Arr.new M 132 G2;have A:Agg prog 132 ((AY (mvd xs ys)).map (Value.int .i64)).length:=by rw[pH,i];exact ZF
       have K:G2.length=((AY (mvd xs ys)).map (Value.int .i64)).length:=by rw[pH,i];rfl
       have o:=qh i;have Z:=qh t;clear i t I
       go_upto_region 6 with(refine Aa (vs:=(AY (mvd xs ys)).map (Value.int .i64)) rfl rfl rfl rfl rfl A hA7 K (Cc _) ?_;intro V r F)
       obtain⟨Y,R⟩:∃ y,M.heap.size=y:=⟨_,rfl⟩;rw[R]at r |-;have C:Ext M V:=((Ext.refl M).alloc _).grownR F (lrf _);have D:=((f.trans s).trans B).trans C;have j:SlI V (some ⟨Y,0,none⟩) m 6 (mvd xs ys):=by
        have h1:=r.sl (k:=m) (by rw[pH,o.out];exact q) (by rw[pH,o.out];unfold maxLen;decide);rw[pH,o.out,<-pg]at h1;have h2:=Zn (l:=mvd xs ys);rw[H5,L.out]at h2;rw[h2]at h1;exact h1
       have E:=qh (bH j (by omega) (by simp));have a0:=ZQ (P:=prog) (w:=V) (g:=Y) Q3.arr Pt q;clear hA7 A K r F C j G f s B
       go_wp2_with fail
       refine E.out.mono ?_;rintro e w9 ⟨a9,c9,rfl,O,Q⟩;go_wp2
       go_ret2
       rw[p.out];exact⟨a9,m,c9,rfl,D.trans O,Own.mono Q D.size⟩
     · have S:((n:Int) != (m:Int))=true:=by simp;omega
       have p:Hid (Zp xs ys=([],4)):=by
        show Zp xs ys=([],4);unfold Zp;rw[pP ⟨x,z⟩,pC (by rw[N.out,L.out];exact H)]
       go_enter func45,ntmps45
       go_wp2_with fail
       refine(G4 v).mono ?_;rintro e U ⟨rfl,f⟩
       go_wp2_with fail
       refine(E6 (J.ext f)).mono ?_;rintro e X ⟨rfl,rfl⟩;rw[z];go_wp2
       go_ret2
       rw[p.out];exact⟨none,0,0,rfl,f,Own.nil _ _ _⟩
   · have T:A3 ys=false:=by simpa using z
     have p:Hid (Zp xs ys=([],1)):=by
      show Zp xs ys=([],1);unfold Zp;rw[pC (fun h=>z h.2)]
     go_enter func45,ntmps45
     go_wp2_with fail
     refine(G4 v).mono ?_;rintro e U ⟨rfl,f⟩
     go_wp2_with fail
     refine(E6 (J.ext f)).mono ?_;rintro e X ⟨rfl,rfl⟩;rw[T];go_wp2
     go_ret2
     rw[p.out];exact⟨none,0,0,rfl,f,Own.nil _ _ _⟩
 · have a1:G1 xs=false:=by simpa using x
   have p:Hid (Zp xs ys=([],1)):=by
    show Zp xs ys=([],1);unfold Zp;rw[pC (fun h=>x h.1)]
   go_enter func45,ntmps45
   go_wp2_with fail
   refine(G4 v).mono ?_;rintro e U ⟨rfl,f⟩;go_wp2
   go_ret2
   rw[p.out];exact⟨none,0,0,rfl,f,Own.nil _ _ _⟩
end Go.Proofs.YtlbmnokpiilfpaaGreatDoor
