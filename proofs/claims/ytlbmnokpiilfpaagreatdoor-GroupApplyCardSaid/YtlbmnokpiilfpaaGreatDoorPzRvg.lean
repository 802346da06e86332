/- Part PzRvg. -/
import Derived.Test.YtlbmnokpiilfpaaGreatDoorPz19
import Derived.Test.YtlbmnokpiilfpaaGreatDoorPzRav

set_option linter.all false
set_option maxRecDepth 100000
set_option maxHeartbeats 100000000
namespace Go.Proofs.YtlbmnokpiilfpaaGreatDoor
open Tryz Go Go.RowKit
variable {va:Int} {gs:List (List Int)} {a ag:Option Addr} {w:World}
theorem ez{q cg n c:Nat}{ts:List Tx}(hT:AM w)(V:SlL w ag q cg gs)(hq:q<=1000)(ha:AH w a n c ts)(sa:∀ t∈ts,t.1.length<=570)(E:∀ (N:Nat) (l:List Pl.Tm),va=(N:Int)->rdP va ts=some l->GNs gs N->kR gs N l) :
 Calls prog 49 #[.slice ag q cg,.agg #[.int .i64 va,.slice a n c]] w (Cd w (avG va gs (rdP va ts))):=by
 have X:=qh V.len;have C:=qh (fun(wx:World) (U:Ext w wx)=>bI (V.ext U) (by omega));have L:=qh (fun(wx:World) (U:Ext w wx)=>D7 (vars:=va) (hT.ext U) (ha.ext U) sa);by_cases y:isG gs
 case neg =>
  have z:Hid (avG va gs (rdP va ts)=(0,[],1)):=qh (by
   cases G:rdP va ts with
   | none=>rfl
   | some l=>exact iE y)
  rw[X1 y]at C;clear E y
  go_enter func49,ntmps49
  go_upto_region 1 with(fail)
  refine Cf ?_;intro S j d i O;have v:=d.c 0 rfl;have x:=d.c 1 rfl;have F:Arr S (w.heap.size+1) 28 (Ah 0 none 0 0):=i;clear d i
  go_wp2_with fail
  refine(C.out _ j).mono ?_;rintro e w1 ⟨rfl,b⟩;have g:=qh (j.trans b);have s:=F.ext b;clear v x F
  go_wp2_with(refine Aa (vs:=Ah 0 none 0 0) rfl rfl rfl rfl rfl Ad s rfl (Am _ _ _ _) ?_;intro w9 A B)
  refine py (Ao rfl Ad rfl rfl A) rfl ?_;rw[z.out];exact⟨none,0,0,rfl,g.out.grownR B (by omega),TmO.nil _ _⟩
 rw[au y]at C;cases G:rdP va ts with
 | none =>
  have H:Hid ((rdP va ts).isSome=false):=qh (by rw[G];rfl);have z:=qh (jT va gs);clear E G y
  go_enter func49,ntmps49
  go_upto_region 1 with(fail)
  refine Cf ?_;intro S j d i O;have v:=d.c 0 rfl;have x:=d.c 1 rfl;have F:Arr S (w.heap.size+1) 28 (Ah 0 none 0 0):=i;clear d i
  go_wp2_with fail
  refine(C.out _ j).mono ?_;rintro e w1 ⟨rfl,b⟩;have m:=j.trans b;have o:=b.cell v;have r:=b.cell x
  go_wp2_with fail
  refine(L.out _ m).mono ?_;rintro e T ⟨rfl,f⟩;rw[H.out];have g:=qh (m.trans f);have s:=F.ext (b.trans f);have P:=f.cell o;have Q:=f.cell r;clear v x o r F
  go_wp2_with(refine Aa (vs:=Ah 0 none 0 0) rfl rfl rfl rfl rfl Ad s rfl (Am _ _ _ _) ?_;intro w9 A B)
  refine py (Ao rfl Ad rfl rfl A) rfl ?_;rw[z.out];exact⟨none,0,0,rfl,g.out.grownR B (by omega),TmO.nil _ _⟩
 | some l =>
  by_cases W:((gs.getD 0 []).length:Int)=va
  · have h6:=(AW G).1;obtain⟨N,hN⟩:∃ k:Nat,va=(k:Int):=⟨va.toNat,by omega⟩;subst hN;have K:GNs gs N:=⟨y,by have h1:=y.perms;rw[show(gs.getD 0 []).length=N by omega]at h1;exact h1,by omega,by omega⟩;have h1:=jU (va:=(N:Int)) (l:=l) y W;rw[qZ]at h1;rw[h1];exact eG hT V y K.p ha G sa (E N l rfl G K)
  · have H:Hid ((rdP va ts).isSome=true):=qh (by rw[G];rfl);have z:=qh (eW (l:=l) y W);have Y:0<q:=by have h1:=y.pos;have h2:=X.out;omega
    have I:=qh W;clear E G y W
    go_enter func49,ntmps49
    go_upto_region 1 with(fail)
    refine Cf ?_;intro S j d i O;have v:=d.c 0 rfl;have x:=d.c 1 rfl;have F:Arr S (w.heap.size+1) 28 (Ah 0 none 0 0):=i;clear d i
    go_wp2_with fail
    refine(C.out _ j).mono ?_;rintro e w1 ⟨rfl,b⟩;have m:=j.trans b;have o:=b.cell v;have r:=b.cell x
    go_wp2_with fail
    refine(L.out _ m).mono ?_;rintro e T ⟨rfl,f⟩;rw[H.out];have g:=qh (m.trans f);have s:=F.ext (b.trans f);have P:=f.cell o;have Q:=f.cell r;clear v x o r F;obtain⟨bg,og,a0,Z,a1,rfl,J,R⟩:=(V.ext g.out).at Y;have a2:((Z:Int) != va)=true:=by have h1:=R.len;have h2:=I.out;simp;omega
    rw[qy]at J;clear R I
    go_upto_region 3 with(fail)
    go_region
    have D:Ext T T.drew:=(Ext.refl T).drew;obtain⟨w6,M⟩:∃ w6,T.drew=w6:=⟨_,rfl⟩;rw[M]at D |-;replace s:=s.ext D;replace g:=qh (g.out.trans D);clear M D J P Q
    go_wp2_with(refine Aa (vs:=Ah 0 none 0 0) rfl rfl rfl rfl rfl Ad s rfl (Am _ _ _ _) ?_;intro w9 A B)
    refine py (Ao rfl Ad rfl rfl A) rfl ?_;rw[z.out];exact⟨none,0,0,rfl,g.out.grownR B (by omega),TmO.nil _ _⟩
theorem jW{ts:List Tx}{l:List Pl.Tm}(h:rdP va ts=some l)(a:Av ts 6 8):∀ t∈l,Pl.RB 32 t.2:=Eu h (k:=8) fun t b=>(a.2 t b).1
theorem jh{ts:List Tx}{l:List Pl.Tm}(h:rdP va ts=some l)(a:Av ts 6 8):l.length<=6:=by rw[BH h];exact a.1
section
variable {va v err:Int} {x a ag:Option Addr} {nx cx n c q cg:Nat} {xs:List Int} {gs:List (List Int)} {ts t:List Tx} {w:World}
theorem eI(h:actG va xs (rdP va ts)=(v,t,err))(o:AM w)(q:SlI w x nx cx xs)(p:AH w a n c ts)(i:Av ts 6 8) :
 Calls prog 47 #[.slice x nx cx,.agg #[.int .i64 va,.slice a n c]] w (Jc w v t err) :=
 (fD o q p (Bz i (by omega)) fun l f hp r=>by
  have z:=(AW f).1;have m:=Pv.of f;have g:=dh (n:=va.toNat) hp (by omega) (by omega) m.inv;refine RN (b:=32) (by omega) (fun u hu => ?_) (fun u hu => ?_) ?_
  · obtain⟨s,d,rfl⟩:=dg hu;exact jW f i s d
  · refine⟨(g u hu).1,fun y k=>⟨(g u hu).2.1 y k,?_⟩⟩;obtain⟨s,d,rfl⟩:=dg hu;have h1:=(Dj (g _ hu).2.1).2 y k;have h2:=fa (n:=va.toNat) hp (by omega) (by omega) (m.inv s d);have h3:=am f s d;have h4:(mp va.toNat xs s.1).sum<=24:=by rw[h2];exact h3
    have h5:y<=(mp va.toNat xs s.1).sum:=h1;omega
  · rw[fd];have:=jh f i
    omega).mono fun e A j=>by
  rw[h]at j;exact Cl.v j
theorem fE(h:actG va xs (rdP va ts)=(v,t,err))(i:SlI w x nx cx xs)(f:AH w a n c ts)(g:Av ts 6 8) :
 Calls prog 48 #[.slice x nx cx,.agg #[.int .i64 va,.slice a n c]] w (Jc w v t err) :=
 (gJ i f (fun s b=>pD (g.2 s b).1 (by omega)) (by have h1:=f.len;have h2:=g.1;omega)).mono fun e j d=>by
  rw[h]at d;exact Cl.v d
theorem df(h:avG va gs (rdP va ts)=(v,t,err))(m:AM w)(f:SlL w ag q cg gs)(p:isG gs->q<=24)(b:q<=1000)(o:AH w a n c ts)(j:Av ts 6 8) :
 Calls prog 49 #[.slice ag q cg,.agg #[.int .i64 va,.slice a n c]] w (Jc w v t err) :=
 (ez m f b o (Bz j (by omega)) fun N l k i G=>by
  subst k
  exact lH G (by rw[f.len];exact p G.g) (Bd.of i j (by omega) ll) (am i) (by omega) (by omega) (by omega)).mono fun e r d=>by
  rw[h]at d;exact Cl.v d
theorem eA(h:avG va gs (rdP va ts)=(v,t,err))(i:SlL w ag q cg gs)(j:isG gs->q<=24)(f:AH w a n c ts)(g:Av ts 6 8) :
 Calls prog 50 #[.slice ag q cg,.agg #[.int .i64 va,.slice a n c]] w (Jc w v t err) :=
 (eH i j f (fun s b=>(g.2 s b).1) (by have h1:=f.len;have h2:=g.1;omega)).mono fun e k d=>by
  rw[h]at d;exact Cl.v d
end
end Go.Proofs.YtlbmnokpiilfpaaGreatDoor
