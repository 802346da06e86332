/- Part Rin36. -/
import Derived.Test.YtbiifaciddajnaaGreatDoorRin35
set_option maxRecDepth 100000
set_option maxHeartbeats 100000000
namespace Go.Proofs.YtbiifaciddajnaaGreatDoor
open Go Go.RowKit
structure Bx where
 g:Nat
 v:Int
 a:Option Addr
 n:Nat
 c:Nat
 ts:List Tx
def PBx (w0 w:World) (l:List Bx):Prop:=Ext w0 w∧∀ p∈l,Arr w p.g 24 (polyL p.v p.a p.n p.c)∧TmSl w p.a p.n p.c p.ts
section
variable {w0 w w1 w':World} {l:List Bx} {i:Nat}
theorem PBx.e (h:PBx w0 w l):Ext w0 w:=h.1
theorem PBx.at {g:Nat} {v:Int} {a:Option Addr} {n c:Nat} {ts:List Tx} (h:PBx w0 w l) (hi:l[i]?=some ⟨g,v,a,n,c,ts⟩):Arr w g 24 (polyL v a n c)∧TmSl w a n c ts:=h.2 _ (List.mem_of_getElem? hi)
theorem PBx.c {g:Nat} {v:Int} {a:Option Addr} {n c:Nat} {ts:List Tx} (h:PBx w0 w l) (hi:l[i]?=some ⟨g,v,a,n,c,ts⟩):w.cell? ⟨g,0,none⟩=some (.int .i64 v)∧w.cell? ⟨g,1,none⟩=some (.slice a n c) :=
 ⟨(h.at hi).1.cell (i:=0) (by simp [polyL]),(h.at hi).1.cell (i:=1) (by simp [polyL])⟩
theorem PBx.t {g:Nat} {v:Int} {a:Option Addr} {n c:Nat} {ts:List Tx} (h:PBx w0 w l) (hi:l[i]?=some ⟨g,v,a,n,c,ts⟩):TmSl w a n c ts:=(h.at hi).2
theorem PBx.ext (h:PBx w0 w l) (e:Ext w w'):PBx w0 w' l:=⟨h.1.trans e,fun p hp=>⟨(h.2 p hp).1.ext e,(h.2 p hp).2.ext e⟩⟩
theorem PBx.one {v:Int} {a:Option Addr} {n c:Nat} {ts:List Tx} {g:Nat} (hE:Ext w0 w) (hB:Arr w g 24 (polyL v a n c)) (ht:TmSl w0 a n c ts):PBx w0 w [⟨g,v,a,n,c,ts⟩] :=
 ⟨hE,fun p hp=>by rw [List.mem_singleton.1 hp]; exact ⟨hB,ht.ext hE⟩⟩
theorem PBx.app {l':List Bx} (h:PBx w0 w l) (h':PBx w0 w l'):PBx w0 w (l ++ l'):=⟨h.1,fun p hp=>(List.mem_append.1 hp).elim (h.2 p) (h'.2 p)⟩
theorem PBx.new {v:Int} {a:Option Addr} {n c:Nat} {ts:List Tx} {o:Obj} (h:PBx w0 w l) (hE:Ext w w1) (hO:TmSl w1 a n c ts) (hB:Arr w' w1.heap.size 24 (polyL v a n c)) (hg:(w1.alloc o).grownBy w' (some w1.heap.size)):PBx w0 w' (l ++ [⟨w1.heap.size,v,a,n,c,ts⟩]):=by
 have hF:Ext w1 w':=((Ext.refl w1).alloc _).grownR hg (Nat.le_refl _)
 have h1:=h.ext (hE.trans hF)
 refine ⟨h1.1,fun p hp => ?_⟩
 rcases List.mem_append.1 hp with hp|hp
 · exact h1.2 p hp
 · rw [List.mem_singleton.1 hp]
   exact ⟨hB,hO.ext hF⟩
end
section
variable {P:Program} {w:World}
theorem wl_stPo {ops:Array Oper} {rest:List Oper} {o:Oper} {f:Act} {Q:Exit→Act→World→Prop} {x y:Operand} (hgd:o.guard=none) (ho:o.op = .store 24 x y)
 {g:Nat} {t:TypeId} {cs:List Value} {v:Int} {a:Option Addr} {n c:Nat} (hx:f.eval x = .pointer (some ⟨g,0,none⟩)) (hy:f.eval y = .agg #[.int .i64 v, .slice a n c]) (h:Arr w g t cs) (hl:cs.length=2)
 (hK:∀ w',Arr w' g t (polyL v a n c)→w.grownBy w' (some g)→wpList Tryz.prog ops Q rest (f.put o.dst undef) w'):wpList Tryz.prog ops Q (o :: rest) f w :=
 wl_stArr (vs:=polyL v a n c) hgd ho hx hy rfl agg_Poly h hl (polyL_one _ _ _ _) hK
end
def RetTrue (w:World) (e:Ending) (w':World):Prop:=e = .returned (.bool true)∧Ext w w'
def RetV (w0:World) (v:Int) (ts:List Tx) (err:Int) (e:Ending) (w':World):Prop:=∃ a n c,e = .returned (.tuple #[.agg #[.int .i64 v, .slice a n c], .int .i64 err])∧Ext w0 w'∧TmSl w' a n c ts
theorem RetP.v {w0:World} {v:Int} {ts:List Tx} {err:Int} {e:Ending} {w':World} (h:RetP w0 v ts err e w'):RetV w0 v ts err e w':=by
 obtain ⟨a,n,c,h1,h2,h3⟩:=h
 exact ⟨a,n,c,h1,h2,h3.sl⟩
section
variable {va vb:Int} {a b:Option Addr} {n c m d:Nat} {ta tb:List Tx} {w:World} {v err:Int} {t:List Tx}
theorem poly_MulV (hr:mulA va vb (rdP va ta) (rdP vb tb)=(v,t,err)) (hT:Tabs w) (ha:TmSl w a n c ta) (hb:TmSl w b m d tb) (sa:∀ t∈ta,t.1.length≤570) (sb:∀ t∈tb,t.1.length≤570)
 (hok:∀ la lb,rdP va ta=some la→rdP vb tb=some lb→va=vb→MulOK la lb) :
 Calls Tryz.prog 17 #[.agg #[.int .i64 va, .slice a n c], .agg #[.int .i64 vb, .slice b m d]] w (RetV w v t err) :=
 (poly_Mul hT ha hb sa sb hok).mono fun e w' h=>by
  have h:=h.a
  rw [hr] at h
  exact RetP.v h
theorem poly_AddV (hr:addA va vb (rdP va ta) (rdP vb tb)=(v,t,err)) (hT:Tabs w) (ha:TmSl w a n c ta) (hb:TmSl w b m d tb) (sa:∀ t∈ta,t.1.length≤570) (sb:∀ t∈tb,t.1.length≤570)
 (hok:∀ la lb,rdP va ta=some la→rdP vb tb=some lb→va=vb→SumOK (la ++ lb)) :
 Calls Tryz.prog 18 #[.agg #[.int .i64 va, .slice a n c], .agg #[.int .i64 vb, .slice b m d]] w (RetV w v t err) :=
 (poly_Add hT ha hb sa sb hok).mono fun e w' h=>by
  have h:=h.a
  rw [hr] at h
  exact RetP.v h
end
end Go.Proofs.YtbiifaciddajnaaGreatDoor
namespace Go.Proofs.YtbiifaciddajnaaGreatDoor
open Go Go.RowKit
theorem P2_27:10^8≤P2 27:=by unfold P2; decide
theorem P2_num {k n:Nat} (m:Nat) (h:n≤2^m) (hk:m=k):n≤P2 k:=by rw [←hk]; exact h
section
variable {va vb vc:Int} {ta tb tc:List Tx}
theorem Bd8 {v:Int} {ts:List Tx} {l:List Pl.Tm} (h:rdP v ts=some l) (hs:smallP ts 4 8):Bd v 4 97 124 l:=Bd.of h hs (by omega) P2_27
theorem ring_mul (s1:smallP ta 4 8) (s2:smallP tb 4 8):∀ la lb,rdP va ta=some la→rdP vb tb=some lb→va=vb→MulOK la lb:=by
 rintro la lb h1 h2 rfl
 exact (Bd8 h1 s1).mul (Bd8 h2 s2) (k:=4) (P2_num 4 (by decide) rfl) (by omega) (by omega) (by omega) (by omega)
theorem ring_add (s1:smallP ta 4 8) (s2:smallP tb 4 8):∀ la lb,rdP va ta=some la→rdP vb tb=some lb→va=vb→SumOK (la ++ lb):=by
 rintro la lb h1 h2 rfl
 exact (Bd8 h1 s1).sum (Bd8 h2 s2) (k:=3) (m:=222) (by omega) (by omega) (P2_num 3 (by decide) rfl) (by omega) (by omega) (by omega)
structure RingS (va vb vc v3 v4 v5:Int) (ta tb tc t3 t4 t5:List Tx):Prop where
 v:va=vb∧va=vc∧va=v3∧va=v4∧va=v5
 comm:mulA vb va (rdP vb tb) (rdP va ta)=(v3,t3,0)
 deg:0<ta.length→0<tb.length→degP v3 t3=degP va ta+degP vb tb
 x3:∀ t∈t3,t.1.length≤570
 x4:∀ t∈t4,t.1.length≤570
 x5:∀ t∈t5,t.1.length≤570
 assoc:mulA v3 vc (rdP v3 t3) (rdP vc tc)=mulA va v4 (rdP va ta) (rdP v4 t4)
 m3:∀ la lb,rdP v3 t3=some la→rdP vc tc=some lb→v3=vc→MulOK la lb
 m4:∀ la lb,rdP va ta=some la→rdP v4 t4=some lb→va=v4→MulOK la lb
 m5:∀ la lb,rdP va ta=some la→rdP v5 t5=some lb→va=v5→MulOK la lb
 dist:∀ v6 t6 v7 t7,mulA va vc (rdP va ta) (rdP vc tc)=(v6,t6,0)→mulA va v5 (rdP va ta) (rdP v5 t5)=(v7,t7,0) →
  addA v3 v6 (rdP v3 t3) (rdP v6 t6)=(v7,t7,0)∧(∀ t∈t6,t.1.length≤570)∧∀ la lb,rdP v3 t3=some la→rdP v6 t6=some lb→v3=v6→SumOK (la ++ lb)
theorem mul_fact {v:Int} {t:List Tx} (h:mulA va vb (rdP va ta) (rdP vb tb)=(v,t,0)):∃ la lb,rdP va ta=some la∧rdP vb tb=some lb∧va=vb∧v=va∧rdP v t=some (cnP (Pl.prodT la lb)):=by
 obtain ⟨la,lb,h1,h2,h3,_,h5⟩:=mulA_ok (by rw [h])
 rw [h] at h5
 have pa:=Pv.of h1
 have pb:Pv va lb:=by rw [h3]; exact Pv.of h2
 obtain ⟨g1,g2⟩:=resQ_ok pa.v0 (prod_InV pa.inv pb.inv) (by rw [←h5])
 rw [←h5] at g1 g2
 simp only at g1 g2
 refine ⟨la,lb,h1,h2,h3,g1, ?_⟩
 rw [g1]; exact g2
theorem add_fact {v:Int} {t:List Tx} (h:addA va vb (rdP va ta) (rdP vb tb)=(v,t,0)):∃ la lb,rdP va ta=some la∧rdP vb tb=some lb∧va=vb∧v=va∧rdP v t=some (cnP (la ++ lb)):=by
 obtain ⟨la,lb,h1,h2,h3,h5⟩:=addA_ok (by rw [h])
 rw [h] at h5
 have pa:=Pv.of h1
 have pb:Pv va lb:=by rw [h3]; exact Pv.of h2
 obtain ⟨g1,g2⟩:=resQ_ok pa.v0 (app_InV pa.inv pb.inv) (by rw [←h5])
 rw [←h5] at g1 g2
 simp only at g1 g2
 refine ⟨la,lb,h1,h2,h3,g1, ?_⟩
 rw [g1]; exact g2
theorem ringS {v3 v4 v5:Int} {t3 t4 t5:List Tx} (s1:smallP ta 4 8) (s2:smallP tb 4 8) (s3:smallP tc 4 8) (h3:mulA va vb (rdP va ta) (rdP vb tb)=(v3,t3,0)) (h4:mulA vb vc (rdP vb tb) (rdP vc tc)=(v4,t4,0)) (h5:addA vb vc (rdP vb tb) (rdP vc tc)=(v5,t5,0)) :
 RingS va vb vc v3 v4 v5 ta tb tc t3 t4 t5:=by
 obtain ⟨la,lb,ra,rb,e1,e2,r3⟩:=mul_fact h3
 obtain ⟨lb',lc,rb',rc,e3,e4,r4⟩:=mul_fact h4
 obtain ⟨lb'',lc',rb'',rc',e5,e6,r5⟩:=add_fact h5
 rw [rb] at rb' rb''
 cases rb'; cases rb''
 rw [rc] at rc'
 cases rc'
 subst e1; subst e3; subst e2; subst e4; subst e6
 have ba:=Bd8 ra s1
 have bb:=Bd8 rb s2
 have bc:=Bd8 rc s3
 have b3:=ba.prod bb r3 (k:=4) (P2_num 4 (by decide) rfl)
 have b4:=bb.prod bc r4 (k:=4) (P2_num 4 (by decide) rfl)
 have b5:=bb.app bc r5 (m:=222) (k:=3) (by omega) (by omega) (P2_num 3 (by decide) rfl)
 refine { v:=⟨rfl,rfl,rfl,rfl,rfl⟩,comm := ?_,deg := ?_,x3:=b3.text r3 (by omega) (by omega),x4:=b4.text r4 (by omega) (by omega),x5:=b5.text r5 (by omega) (by omega),assoc := ?_,m3 := ?_,m4 := ?_,m5 := ?_,dist := ?_ }
 · rw [mulA_comm]; exact h3
 · intro n1 n2
   rw [degP_is r3,degP_is ra,degP_is rb]
   have hla:=rdP_len ra
   have hlb:=rdP_len rb
   exact (degL_prod ba.pv.can bb.pv.can ba.pv.inv bb.pv.inv (fun h=>by rw [h] at hla; simp at hla; omega) (fun h=>by rw [h] at hlb; simp at hlb; omega)).2
 · rw [r3,rc,ra,r4]
   exact mulA_assoc ba.pv bb.pv bc.pv
 · intro x y hx hy _
   rw [r3] at hx
   rw [rc] at hy
   cases hx; cases hy
   exact b3.mul bc (k:=6) (P2_num 6 (by decide) rfl) (by omega) (by omega) (by omega) (by omega)
 · intro x y hx hy _
   rw [ra] at hx
   rw [r4] at hy
   cases hx; cases hy
   exact ba.mul b4 (k:=6) (P2_num 6 (by decide) rfl) (by omega) (by omega) (by omega) (by omega)
 · intro x y hx hy _
   rw [ra] at hx
   rw [r5] at hy
   cases hx; cases hy
   exact ba.mul b5 (k:=5) (P2_num 5 (by decide) rfl) (by omega) (by omega) (by omega) (by omega)
 · intro v6 t6 v7 t7 h6 h7
   obtain ⟨la',lc',ra',rc',_,e7,r6⟩:=mul_fact h6
   rw [ra] at ra'
   rw [rc] at rc'
   cases ra'; cases rc'
   subst e7
   have b6:=ba.prod bc r6 (k:=4) (P2_num 4 (by decide) rfl)
   refine ⟨?_,b6.text r6 (by omega) (by omega),fun x y hx hy _ => ?_⟩
   · rw [ra,r5] at h7
     rw [r3,r6,mulA_dist ba.pv bb.pv bc.pv (by rw [h7])]
     exact h7
   · rw [r3] at hx
     rw [r6] at hy
     cases hx; cases hy
     exact b3.sum b6 (k:=5) (m:=1000) (by omega) (by omega) (P2_num 5 (by decide) rfl) (by omega) (by omega) (by omega)
end
end Go.Proofs.YtbiifaciddajnaaGreatDoor
namespace Go.Proofs.YtbiifaciddajnaaGreatDoor
open Go Go.RowKit
theorem arms3 (n m:Nat):n=0∨(0<n∧m=0)∨(0<n∧0<m):=by omega
theorem degF_bnd:∀ (l:List Int) (s:Int),0≤s→s≤24 → -1≤degF s l∧degF s l≤24
 | [],s,h1,h2=>by unfold degF; omega
 | x :: r,s,h1,h2=>by
  unfold degF
  split
  · omega
  · exact degF_bnd r (s+x) (by omega) (by omega)
theorem degP_bnd (va:Int) (ts:List Tx) : -1≤degP va ts∧degP va ts≤24:=by
 unfold degP
 split
 · unfold degS
   split
   · omega
   · rename_i h1 h2
     exact degF_bnd _ 0 (by omega) (by omega)
 · omega
theorem law_PolyRing {va vb vc:Int} {a b c:Option Addr} {na ca nb cb nc cc:Nat} {ta tb tc:List Tx} {w:World} (hT:Tabs w) (ha:TmSl w a na ca ta) (hb:TmSl w b nb cb tb) (hc:TmSl w c nc cc tc) :
 Calls Tryz.prog 3 #[.agg #[.int .i64 va, .slice a na ca], .agg #[.int .i64 vb, .slice b nb cb], .agg #[.int .i64 vc, .slice c nc cc]] w (RetTrue w):=by
 have haw:=fun (wx:World) (hC:Ext w wx)=>qh (law_awake (hT.ext hC))
 have hla:=ha.len
 have hlb:=hb.len
 go_enter Tryz.func3,Tryz.ntmps3
 go_upto_region 1 with (fail)
 refine box3 ?_
 intro w0 hE0 hB0 hB1 hB2 hz0
 have HP:=((PBx.one hE0 hB0 ha).app (PBx.one hE0 hB1 hb)).app (PBx.one hE0 hB2 hc)
 have HLA:=qh hla
 have HLB:=qh hlb
 clear hE0 hB0 hB1 hB2 hz0 ha hb hc hla hlb
 by_cases s1:smallP ta 4 8
 rotate_left
 · obtain ⟨x00,x01⟩:=HP.c (i:=0) rfl
   have hcl:=qh (keep_SmallPoly (va:=va) (nt:=4) (d:=8) (HP.t (i:=0) rfl))
   rw [decide_eq_false s1] at hcl
   clear s1
   go_wp2_with fail
   refine hcl.out.mono ?_
   rintro e w11 ⟨rfl,hF⟩
   replace HP:=HP.ext hF
   clear hcl hF x00 x01
   go_wp2_with fail
   refine (haw _ HP.e).out.mono ?_
   rintro e w12 ⟨rfl,hF⟩
   go_wp2
   go_ret
   exact ⟨rfl,HP.e.trans hF⟩
 obtain ⟨x00,x01⟩:=HP.c (i:=0) rfl
 have hcl:=qh (keep_SmallPoly (va:=va) (nt:=4) (d:=8) (HP.t (i:=0) rfl))
 rw [decide_eq_true s1] at hcl
 have HS1:=qh s1
 clear s1
 go_wp2_with fail
 refine hcl.out.mono ?_
 rintro e w13 ⟨rfl,hF⟩
 replace HP:=HP.ext hF
 clear hcl hF x00 x01
 by_cases s2:smallP tb 4 8
 rotate_left
 · obtain ⟨x10,x11⟩:=HP.c (i:=1) rfl
   have hcl:=qh (keep_SmallPoly (va:=vb) (nt:=4) (d:=8) (HP.t (i:=1) rfl))
   rw [decide_eq_false s2] at hcl
   clear s2
   go_wp2_with fail
   refine hcl.out.mono ?_
   rintro e w14 ⟨rfl,hF⟩
   replace HP:=HP.ext hF
   clear hcl hF x10 x11
   go_wp2_with fail
   refine (haw _ HP.e).out.mono ?_
   rintro e w15 ⟨rfl,hF⟩
   go_wp2
   go_ret
   exact ⟨rfl,HP.e.trans hF⟩
 obtain ⟨x10,x11⟩:=HP.c (i:=1) rfl
 have hcl:=qh (keep_SmallPoly (va:=vb) (nt:=4) (d:=8) (HP.t (i:=1) rfl))
 rw [decide_eq_true s2] at hcl
 have HS2:=qh s2
 clear s2
 go_wp2_with fail
 refine hcl.out.mono ?_
 rintro e w16 ⟨rfl,hF⟩
 replace HP:=HP.ext hF
 clear hcl hF x10 x11
 by_cases s3:smallP tc 4 8
 rotate_left
 · obtain ⟨x20,x21⟩:=HP.c (i:=2) rfl
   have hcl:=qh (keep_SmallPoly (va:=vc) (nt:=4) (d:=8) (HP.t (i:=2) rfl))
   rw [decide_eq_false s3] at hcl
   clear s3
   go_wp2_with fail
   refine hcl.out.mono ?_
   rintro e w17 ⟨rfl,hF⟩
   replace HP:=HP.ext hF
   clear hcl hF x20 x21
   go_wp2_with fail
   refine (haw _ HP.e).out.mono ?_
   rintro e w18 ⟨rfl,hF⟩
   go_wp2
   go_ret
   exact ⟨rfl,HP.e.trans hF⟩
 obtain ⟨x20,x21⟩:=HP.c (i:=2) rfl
 have hcl:=qh (keep_SmallPoly (va:=vc) (nt:=4) (d:=8) (HP.t (i:=2) rfl))
 rw [decide_eq_true s3] at hcl
 have HS3:=qh s3
 clear s3
 go_wp2_with fail
 refine hcl.out.mono ?_
 rintro e w19 ⟨rfl,hF⟩
 replace HP:=HP.ext hF
 clear hcl hF x20 x21
 obtain ⟨⟨v3,t3,e3⟩,h3⟩:∃ r,mulA va vb (rdP va ta) (rdP vb tb)=r:=⟨_,rfl⟩
 have H3:=qh h3
 clear h3
 obtain ⟨⟨v4,t4,e4⟩,h4⟩:∃ r,mulA vb vc (rdP vb tb) (rdP vc tc)=r:=⟨_,rfl⟩
 have H4:=qh h4
 clear h4
 obtain ⟨⟨v5,t5,e5⟩,h5⟩:∃ r,addA vb vc (rdP vb tb) (rdP vc tc)=r:=⟨_,rfl⟩
 have H5:=qh h5
 clear h5
 obtain ⟨x00,x01⟩:=HP.c (i:=0) rfl
 obtain ⟨x10,x11⟩:=HP.c (i:=1) rfl
 have hcl:=qh (poly_MulV H3.out (hT.ext HP.e) (HP.t (i:=0) rfl) (HP.t (i:=1) rfl) (small570 HS1.out (by omega)) (small570 HS2.out (by omega)) (ring_mul HS1.out HS2.out))
 go_wp2_with fail
 refine hcl.out.mono ?_
 rintro e w20 ⟨a20,n20,c20,rfl,hF,hO⟩
 have hY:=Arr.new w20 24 (polyL 0 none 0 0)
 clear hcl x00 x01 x10 x11
 go_upto_region 4 with (refine wl_stPo rfl rfl rfl rfl hY rfl ?_; intro w20' hB hg)
 replace HP:=HP.new hF hO hB hg
 clear hY hB hg hF hO
 obtain ⟨x10,x11⟩:=HP.c (i:=1) rfl
 obtain ⟨x20,x21⟩:=HP.c (i:=2) rfl
 have hcl:=qh (poly_MulV H4.out (hT.ext HP.e) (HP.t (i:=1) rfl) (HP.t (i:=2) rfl) (small570 HS2.out (by omega)) (small570 HS3.out (by omega)) (ring_mul HS2.out HS3.out))
 go_wp2_with fail
 refine hcl.out.mono ?_
 rintro e w21 ⟨a21,n21,c21,rfl,hF,hO⟩
 have hY:=Arr.new w21 24 (polyL 0 none 0 0)
 clear hcl x10 x11 x20 x21
 go_upto_region 5 with (refine wl_stPo rfl rfl rfl rfl hY rfl ?_; intro w21' hB hg)
 replace HP:=HP.new hF hO hB hg
 clear hY hB hg hF hO
 obtain ⟨x10,x11⟩:=HP.c (i:=1) rfl
 obtain ⟨x20,x21⟩:=HP.c (i:=2) rfl
 have hcl:=qh (poly_AddV H5.out (hT.ext HP.e) (HP.t (i:=1) rfl) (HP.t (i:=2) rfl) (small570 HS2.out (by omega)) (small570 HS3.out (by omega)) (ring_add HS2.out HS3.out))
 go_wp2_with fail
 refine hcl.out.mono ?_
 rintro e w22 ⟨a22,n22,c22,rfl,hF,hO⟩
 have hY:=Arr.new w22 24 (polyL 0 none 0 0)
 clear hcl x10 x11 x20 x21
 go_upto_region 6 with (refine wl_stPo rfl rfl rfl rfl hY rfl ?_; intro w22' hB hg)
 replace HP:=HP.new hF hO hB hg
 clear hY hB hg hF hO
 by_cases z3:e3=0
 rotate_left
 · have q3:(e3 != 0)=true:=by simpa using z3
   clear z3
   go_wp2_with fail
   refine (haw _ HP.e).out.mono ?_
   rintro e w23 ⟨rfl,hF⟩
   go_wp2
   go_ret
   exact ⟨rfl,HP.e.trans hF⟩
 subst z3
 by_cases z4:e4=0
 rotate_left
 · have q4:(e4 != 0)=true:=by simpa using z4
   clear z4
   go_wp2_with fail
   refine (haw _ HP.e).out.mono ?_
   rintro e w24 ⟨rfl,hF⟩
   go_wp2
   go_ret
   exact ⟨rfl,HP.e.trans hF⟩
 subst z4
 by_cases z5:e5=0
 rotate_left
 · have q5:(e5 != 0)=true:=by simpa using z5
   clear z5
   go_wp2_with fail
   refine (haw _ HP.e).out.mono ?_
   rintro e w25 ⟨rfl,hF⟩
   go_wp2
   go_ret
   exact ⟨rfl,HP.e.trans hF⟩
 subst z5
 have RS:=ringS HS1.out HS2.out HS3.out H3.out H4.out H5.out
 obtain ⟨g1,g2,g3,g4,g5⟩:=RS.v
 subst g1 g2 g3 g4 g5
 obtain ⟨x00,x01⟩:=HP.c (i:=0) rfl
 obtain ⟨x10,x11⟩:=HP.c (i:=1) rfl
 have hcl:=qh (poly_MulV RS.comm (hT.ext HP.e) (HP.t (i:=1) rfl) (HP.t (i:=0) rfl) (small570 HS2.out (by omega)) (small570 HS1.out (by omega)) (ring_mul HS2.out HS1.out))
 go_wp2_with fail
 refine hcl.out.mono ?_
 rintro e w26 ⟨a26,n26,c26,rfl,hF,hO⟩
 have hY:=Arr.new w26 24 (polyL 0 none 0 0)
 clear hcl x00 x01 x10 x11
 go_upto_region 9 with (refine wl_stPo rfl rfl rfl rfl hY rfl ?_; intro w26' hB hg)
 replace HP:=HP.new hF hO hB hg
 clear hY hB hg hF hO
 obtain ⟨x00,x01⟩:=HP.c (i:=0) rfl
 obtain ⟨x10,x11⟩:=HP.c (i:=1) rfl
 obtain ⟨x30,x31⟩:=HP.c (i:=3) rfl
 obtain ⟨x60,x61⟩:=HP.c (i:=6) rfl
 have hpo:=fun (wx:World) (hC:Ext w26' wx)=>qh (keep_Polys (va:=va) (vb:=va) ((HP.t (i:=3) rfl).ext hC) ((HP.t (i:=6) rfl).ext hC))
 rw [show decide (va=va∧t3=t3)=true by simp] at hpo
 obtain ⟨⟨v7,t7,e7⟩,h7⟩:∃ r,mulA va va (rdP va t3) (rdP va tc)=r:=⟨_,rfl⟩
 have H7:=qh h7
 clear h7
 have H8:=qh (RS.assoc.symm.trans H7.out)
 obtain ⟨⟨v9,t9,e9⟩,h9⟩:∃ r,mulA va va (rdP va ta) (rdP va tc)=r:=⟨_,rfl⟩
 have H9:=qh h9
 clear h9
 obtain ⟨⟨v10,t10,e10⟩,h10⟩:∃ r,mulA va va (rdP va ta) (rdP va t5)=r:=⟨_,rfl⟩
 have H10:=qh h10
 clear h10
 rcases arms3 na nb with n0|⟨n0,n1⟩|⟨n0,n1⟩
 case' inl =>
  have q1:decide ((0:Int)<(na:Int))=false:=decide_eq_false (by omega)
  have HF1:=fun (wx:World) (hC:Ext w26' wx)=>qh (And.intro (hC.cell x00) (And.intro (hC.cell x01) (And.intro (hC.cell x10) (And.intro (hC.cell x11) (And.intro (hC.cell x30) (And.intro (hC.cell x31) (And.intro (hC.cell x60) (hC.cell x61))))))))
  refine wp_region_typed (by kernel_rfl) (fun wx=>Ext w26' wx)
   [he (.int .i64 0),
    he (.bool false),
    he (.bool false),
    he (.agg #[.int .i64 va, .slice a20 n20 c20]),
    he (.agg #[.int .i64 va, .slice a26 n26 c26]),
    hp (fun v wx=>v = .bool true),
    he (.bool false),
    he (.bool false),
    he (.bool false),
    he (.pointer (some ⟨w.heap.size,1,none⟩)),
    he (.slice a na ca),
    he (.int .i64 na),
    he (.bool false),
    he (.bool false),
    he undef,
    he undef,
    he undef,
    he undef,
    he (.bool false),
    he (.bool false),
    he undef,
    he undef,
    he undef,
    he undef,
    he undef,
    he undef,
    he undef,
    he undef,
    he (.bool false),
    he (.bool false)]
   (by kernel_rfl) (fun _ _ e h=>h.trans e) ((Ext.refl w26').drew) ⟨trivial,trivial,trivial,trivial,trivial,fun v w w' e h=>h,trivial,trivial,trivial,trivial,trivial,trivial,trivial,trivial,trivial,trivial,trivial,trivial,trivial,trivial,trivial,trivial,trivial,trivial,trivial,trivial,trivial,trivial,trivial,trivial,trivial⟩ ⟨?o0, ?o1, ?o2, ?o3, ?o4, ?o5, ?o6, ?o7, ?o8, ?o9, ?o10, ?o11, ?o12, ?o13, ?o14, ?o15, ?o16, ?o17, ?o18, ?o19, ?o20, ?o21, ?o22, ?o23, ?o24, ?o25, ?o26, ?o27, ?o28, ?o29,trivial⟩ ?fin
  case o0=>exact omv rfl rfl (fun _ _=>id)
  case o1 =>
   refine obl_pq rfl fun ρ wx hC hcst h => ?_
   have e0:ρ (.tmp 68)=(.int .i64 0):=h.1
   obtain ⟨k0,k1,k2,k3,k4,k5,k6,k7⟩:=(HF1 wx hC).out
   go_simp
   try (first | (intros; omega) | exact IntWalk.i64_in _ (by omega))
  case o2=>exact omv rfl rfl (fun _ _=>id)
  case o3=>exact ol2 rfl rfl (fun _ _=>id) agg_Poly (by assumption) (by assumption)
  case o4=>exact ol2 rfl rfl (fun _ _=>id) agg_Poly (by assumption) (by assumption)
  case o5 =>
   refine obl_cq rfl fun ρ wx hC hcst hfn h => ?_
   have e1:ρ (.tmp 71)=(.agg #[.int .i64 va, .slice a20 n20 c20]):=h.2.1
   have e2:ρ (.tmp 72)=(.agg #[.int .i64 va, .slice a26 n26 c26]):=h.2.2.1
   obtain ⟨k0,k1,k2,k3,k4,k5,k6,k7⟩:=(HF1 wx hC).out
   refine ⟨19,#[.agg #[.int .i64 va, .slice a20 n20 c20], .agg #[.int .i64 va, .slice a26 n26 c26]],by go_simp,((hpo wx hC).out).mono ?_⟩
   rintro e w' ⟨rfl,hE'⟩
   exact ⟨_,rfl,hE',rfl⟩
  case o6 =>
   refine obl_pq rfl fun ρ wx hC hcst h => ?_
   obtain ⟨v0,e0,rfl⟩:=h.1
   obtain ⟨k0,k1,k2,k3,k4,k5,k6,k7⟩:=(HF1 wx hC).out
   go_simp
  case o7 =>
   refine obl_pq rfl fun ρ wx hC hcst h => ?_
   have e0:ρ (.tmp 70)=(.bool false):=h.1
   have e2:ρ (.tmp 74)=(.bool false):=h.2.2.1
   obtain ⟨k0,k1,k2,k3,k4,k5,k6,k7⟩:=(HF1 wx hC).out
   go_simp
  case o8=>exact omv rfl rfl (fun _ _=>id)
  case o9=>exact ofa (d:=1) rfl rfl (fun _ _=>id) (by kernel_rfl) rfl
  case o10=>exact ol rfl rfl (fun _ _=>id) (by kernel_rfl) (by assumption)
  case o11 =>
   refine obl_pq rfl fun ρ wx hC hcst h => ?_
   have e0:ρ (.tmp 78)=(.slice a na ca):=h.1
   obtain ⟨k0,k1,k2,k3,k4,k5,k6,k7⟩:=(HF1 wx hC).out
   go_simp
  case o12 =>
   refine obl_pq rfl fun ρ wx hC hcst h => ?_
   have e0:ρ (.tmp 79)=(.int .i64 na):=h.1
   obtain ⟨k0,k1,k2,k3,k4,k5,k6,k7⟩:=(HF1 wx hC).out
   go_simp
   try (first | (intros; omega) | exact IntWalk.i64_in _ (by omega))
  case o13=>exact omv rfl rfl (fun _ _=>id)
  case o14=>exact obl_none rfl
  case o15=>exact obl_none rfl
  case o16=>exact obl_none rfl
  case o17=>exact obl_none rfl
  case o18 =>
   refine obl_pq rfl fun ρ wx hC hcst h => ?_
   have e0:ρ (.tmp 81)=(.bool false):=h.1
   have e1:ρ (.tmp 85)=undef:=h.2.1
   obtain ⟨k0,k1,k2,k3,k4,k5,k6,k7⟩:=(HF1 wx hC).out
   go_simp
  case o19=>exact omv rfl rfl (fun _ _=>id)
  case o20=>exact obl_none rfl
  case o21=>exact obl_none rfl
  case o22=>exact obl_none rfl
  case o23=>exact obl_none rfl
  case o24=>exact obl_none rfl
  case o25=>exact obl_none rfl
  case o26=>exact obl_none rfl
  case o27=>exact obl_none rfl
  case o28 =>
   refine obl_pq rfl fun ρ wx hC hcst h => ?_
   have e0:ρ (.tmp 87)=(.bool false):=h.1
   have e1:ρ (.tmp 95)=undef:=h.2.1
   obtain ⟨k0,k1,k2,k3,k4,k5,k6,k7⟩:=(HF1 wx hC).out
   go_simp
  case o29 =>
   refine obl_pq rfl fun ρ wx hC hcst h => ?_
   have e0:ρ (.tmp 76)=(.bool false):=h.1
   have e2:ρ (.tmp 96)=(.bool false):=h.2.2.1
   obtain ⟨k0,k1,k2,k3,k4,k5,k6,k7⟩:=(HF1 wx hC).out
   go_simp
  case' fin =>
   intro wx hC
   rintro _ rfl
   change wpList _ _ _ _ _ _
   simp only [List.length_cons,List.length_nil,List.drop_succ_cons,List.drop_zero,Act.put,List.setIfInBounds_toArray,List.set_cons_succ,List.set_cons_zero]
   clear q1 n0
  skip
 case' inr.inl =>
  have q1:decide ((0:Int)<(na:Int))=true:=decide_eq_true (by omega)
  have q2:decide ((0:Int)<(nb:Int))=false:=decide_eq_false (by omega)
  have HF2:=fun (wx:World) (hC:Ext w26' wx)=>qh (And.intro (hC.cell x00) (And.intro (hC.cell x01) (And.intro (hC.cell x10) (And.intro (hC.cell x11) (And.intro (hC.cell x30) (And.intro (hC.cell x31) (And.intro (hC.cell x60) (hC.cell x61))))))))
  refine wp_region_typed (by kernel_rfl) (fun wx=>Ext w26' wx)
   [he (.int .i64 0),
    he (.bool false),
    he (.bool false),
    he (.agg #[.int .i64 va, .slice a20 n20 c20]),
    he (.agg #[.int .i64 va, .slice a26 n26 c26]),
    hp (fun v wx=>v = .bool true),
    he (.bool false),
    he (.bool false),
    he (.bool false),
    he (.pointer (some ⟨w.heap.size,1,none⟩)),
    he (.slice a na ca),
    he (.int .i64 na),
    he (.bool true),
    he (.bool true),
    he (.pointer (some ⟨(w.heap.size+1),1,none⟩)),
    he (.slice b nb cb),
    he (.int .i64 nb),
    he (.bool false),
    he (.bool false),
    he (.bool false),
    he undef,
    he undef,
    he undef,
    he undef,
    he undef,
    he undef,
    he undef,
    he undef,
    he (.bool false),
    he (.bool false)]
   (by kernel_rfl) (fun _ _ e h=>h.trans e) ((Ext.refl w26').drew) ⟨trivial,trivial,trivial,trivial,trivial,fun v w w' e h=>h,trivial,trivial,trivial,trivial,trivial,trivial,trivial,trivial,trivial,trivial,trivial,trivial,trivial,trivial,trivial,trivial,trivial,trivial,trivial,trivial,trivial,trivial,trivial,trivial,trivial⟩ ⟨?o0, ?o1, ?o2, ?o3, ?o4, ?o5, ?o6, ?o7, ?o8, ?o9, ?o10, ?o11, ?o12, ?o13, ?o14, ?o15, ?o16, ?o17, ?o18, ?o19, ?o20, ?o21, ?o22, ?o23, ?o24, ?o25, ?o26, ?o27, ?o28, ?o29,trivial⟩ ?fin
  case o0=>exact omv rfl rfl (fun _ _=>id)
  case o1 =>
   refine obl_pq rfl fun ρ wx hC hcst h => ?_
   have e0:ρ (.tmp 68)=(.int .i64 0):=h.1
   obtain ⟨k0,k1,k2,k3,k4,k5,k6,k7⟩:=(HF2 wx hC).out
   go_simp
   try (first | (intros; omega) | exact IntWalk.i64_in _ (by omega))
  case o2=>exact omv rfl rfl (fun _ _=>id)
  case o3=>exact ol2 rfl rfl (fun _ _=>id) agg_Poly (by assumption) (by assumption)
  case o4=>exact ol2 rfl rfl (fun _ _=>id) agg_Poly (by assumption) (by assumption)
  case o5 =>
   refine obl_cq rfl fun ρ wx hC hcst hfn h => ?_
   have e1:ρ (.tmp 71)=(.agg #[.int .i64 va, .slice a20 n20 c20]):=h.2.1
   have e2:ρ (.tmp 72)=(.agg #[.int .i64 va, .slice a26 n26 c26]):=h.2.2.1
   obtain ⟨k0,k1,k2,k3,k4,k5,k6,k7⟩:=(HF2 wx hC).out
   refine ⟨19,#[.agg #[.int .i64 va, .slice a20 n20 c20], .agg #[.int .i64 va, .slice a26 n26 c26]],by go_simp,((hpo wx hC).out).mono ?_⟩
   rintro e w' ⟨rfl,hE'⟩
   exact ⟨_,rfl,hE',rfl⟩
  case o6 =>
   refine obl_pq rfl fun ρ wx hC hcst h => ?_
   obtain ⟨v0,e0,rfl⟩:=h.1
   obtain ⟨k0,k1,k2,k3,k4,k5,k6,k7⟩:=(HF2 wx hC).out
   go_simp
  case o7 =>
   refine obl_pq rfl fun ρ wx hC hcst h => ?_
   have e0:ρ (.tmp 70)=(.bool false):=h.1
   have e2:ρ (.tmp 74)=(.bool false):=h.2.2.1
   obtain ⟨k0,k1,k2,k3,k4,k5,k6,k7⟩:=(HF2 wx hC).out
   go_simp
  case o8=>exact omv rfl rfl (fun _ _=>id)
  case o9=>exact ofa (d:=1) rfl rfl (fun _ _=>id) (by kernel_rfl) rfl
  case o10=>exact ol rfl rfl (fun _ _=>id) (by kernel_rfl) (by assumption)
  case o11 =>
   refine obl_pq rfl fun ρ wx hC hcst h => ?_
   have e0:ρ (.tmp 78)=(.slice a na ca):=h.1
   obtain ⟨k0,k1,k2,k3,k4,k5,k6,k7⟩:=(HF2 wx hC).out
   go_simp
  case o12 =>
   refine obl_pq rfl fun ρ wx hC hcst h => ?_
   have e0:ρ (.tmp 79)=(.int .i64 na):=h.1
   obtain ⟨k0,k1,k2,k3,k4,k5,k6,k7⟩:=(HF2 wx hC).out
   go_simp
   try (first | (intros; omega) | exact IntWalk.i64_in _ (by omega))
  case o13=>exact omv rfl rfl (fun _ _=>id)
  case o14=>exact ofa (d:=1) rfl rfl (fun _ _=>id) (by kernel_rfl) rfl
  case o15=>exact ol rfl rfl (fun _ _=>id) (by kernel_rfl) (by assumption)
  case o16 =>
   refine obl_pq rfl fun ρ wx hC hcst h => ?_
   have e0:ρ (.tmp 83)=(.slice b nb cb):=h.1
   obtain ⟨k0,k1,k2,k3,k4,k5,k6,k7⟩:=(HF2 wx hC).out
   go_simp
  case o17 =>
   refine obl_pq rfl fun ρ wx hC hcst h => ?_
   have e0:ρ (.tmp 84)=(.int .i64 nb):=h.1
   obtain ⟨k0,k1,k2,k3,k4,k5,k6,k7⟩:=(HF2 wx hC).out
   go_simp
   try (first | (intros; omega) | exact IntWalk.i64_in _ (by omega))
  case o18 =>
   refine obl_pq rfl fun ρ wx hC hcst h => ?_
   have e0:ρ (.tmp 81)=(.bool true):=h.1
   have e1:ρ (.tmp 85)=(.bool false):=h.2.1
   obtain ⟨k0,k1,k2,k3,k4,k5,k6,k7⟩:=(HF2 wx hC).out
   go_simp
  case o19=>exact omv rfl rfl (fun _ _=>id)
  case o20=>exact obl_none rfl
  case o21=>exact obl_none rfl
  case o22=>exact obl_none rfl
  case o23=>exact obl_none rfl
  case o24=>exact obl_none rfl
  case o25=>exact obl_none rfl
  case o26=>exact obl_none rfl
  case o27=>exact obl_none rfl
  case o28 =>
   refine obl_pq rfl fun ρ wx hC hcst h => ?_
   have e0:ρ (.tmp 87)=(.bool false):=h.1
   have e1:ρ (.tmp 95)=undef:=h.2.1
   obtain ⟨k0,k1,k2,k3,k4,k5,k6,k7⟩:=(HF2 wx hC).out
   go_simp
  case o29 =>
   refine obl_pq rfl fun ρ wx hC hcst h => ?_
   have e0:ρ (.tmp 76)=(.bool false):=h.1
   have e2:ρ (.tmp 96)=(.bool false):=h.2.2.1
   obtain ⟨k0,k1,k2,k3,k4,k5,k6,k7⟩:=(HF2 wx hC).out
   go_simp
  case' fin =>
   intro wx hC
   rintro _ rfl
   change wpList _ _ _ _ _ _
   simp only [List.length_cons,List.length_nil,List.drop_succ_cons,List.drop_zero,Act.put,List.setIfInBounds_toArray,List.set_cons_succ,List.set_cons_zero]
   clear q1 q2 n0 n1
  skip
 case' inr.inr =>
  have q1:decide ((0:Int)<(na:Int))=true:=decide_eq_true (by omega)
  have q2:decide ((0:Int)<(nb:Int))=true:=decide_eq_true (by omega)
  have hdg:=RS.deg (by have:=HLA.out; omega) (by have:=HLB.out; omega)
  have hd3:=fun (wx:World) (hC:Ext w26' wx)=>qh (poly_Degree (vars:=va) (hT.ext (HP.e.trans hC)) ((HP.t (i:=3) rfl).ext hC) RS.x3)
  have hd1:=fun (wx:World) (hC:Ext w26' wx)=>qh (poly_Degree (vars:=va) (hT.ext (HP.e.trans hC)) ((HP.t (i:=0) rfl).ext hC) (small570 HS1.out (by omega)))
  have hd2:=fun (wx:World) (hC:Ext w26' wx)=>qh (poly_Degree (vars:=va) (hT.ext (HP.e.trans hC)) ((HP.t (i:=1) rfl).ext hC) (small570 HS2.out (by omega)))
  have hb1:=degP_bnd va ta
  have hb2:=degP_bnd va tb
  rw [hdg] at hd3
  clear hdg
  generalize degP va ta=d1 at *
  generalize degP va tb=d2 at *
  have hw12:IntKind.i64.wrap (d1+d2)=d1+d2:=IntWalk.i64_in _ (by omega)
  have HF3:=fun (wx:World) (hC:Ext w26' wx)=>qh (And.intro (hC.cell x00) (And.intro (hC.cell x01) (And.intro (hC.cell x10) (And.intro (hC.cell x11) (And.intro (hC.cell x30) (And.intro (hC.cell x31) (And.intro (hC.cell x60) (hC.cell x61))))))))
  refine wp_region_typed (by kernel_rfl) (fun wx=>Ext w26' wx)
   [he (.int .i64 0),
    he (.bool false),
    he (.bool false),
    he (.agg #[.int .i64 va, .slice a20 n20 c20]),
    he (.agg #[.int .i64 va, .slice a26 n26 c26]),
    hp (fun v wx=>v = .bool true),
    he (.bool false),
    he (.bool false),
    he (.bool false),
    he (.pointer (some ⟨w.heap.size,1,none⟩)),
    he (.slice a na ca),
    he (.int .i64 na),
    he (.bool true),
    he (.bool true),
    he (.pointer (some ⟨(w.heap.size+1),1,none⟩)),
    he (.slice b nb cb),
    he (.int .i64 nb),
    he (.bool true),
    he (.bool true),
    he (.bool true),
    he (.agg #[.int .i64 va, .slice a20 n20 c20]),
    hp (fun v wx=>v=(.int .i64 (d1+d2))),
    he (.agg #[.int .i64 va, .slice a na ca]),
    hp (fun v wx=>v=(.int .i64 d1)),
    he (.agg #[.int .i64 va, .slice b nb cb]),
    hp (fun v wx=>v=(.int .i64 d2)),
    he (.int .i64 (d1+d2)),
    he (.bool false),
    he (.bool false),
    he (.bool false)]
   (by kernel_rfl) (fun _ _ e h=>h.trans e) ((Ext.refl w26').drew) ⟨trivial,trivial,trivial,trivial,trivial,fun v w w' e h=>h,trivial,trivial,trivial,trivial,trivial,trivial,trivial,trivial,trivial,trivial,trivial,trivial,trivial,trivial,trivial,fun v w w' e h=>h,trivial,fun v w w' e h=>h,trivial,fun v w w' e h=>h,trivial,trivial,trivial,trivial,trivial⟩ ⟨?o0, ?o1, ?o2, ?o3, ?o4, ?o5, ?o6, ?o7, ?o8, ?o9, ?o10, ?o11, ?o12, ?o13, ?o14, ?o15, ?o16, ?o17, ?o18, ?o19, ?o20, ?o21, ?o22, ?o23, ?o24, ?o25, ?o26, ?o27, ?o28, ?o29,trivial⟩ ?fin
  case o0=>exact omv rfl rfl (fun _ _=>id)
  case o1 =>
   refine obl_pq rfl fun ρ wx hC hcst h => ?_
   have e0:ρ (.tmp 68)=(.int .i64 0):=h.1
   obtain ⟨k0,k1,k2,k3,k4,k5,k6,k7⟩:=(HF3 wx hC).out
   go_simp
   try (first | (intros; omega) | exact IntWalk.i64_in _ (by omega))
  case o2=>exact omv rfl rfl (fun _ _=>id)
  case o3=>exact ol2 rfl rfl (fun _ _=>id) agg_Poly (by assumption) (by assumption)
  case o4=>exact ol2 rfl rfl (fun _ _=>id) agg_Poly (by assumption) (by assumption)
  case o5 =>
   refine obl_cq rfl fun ρ wx hC hcst hfn h => ?_
   have e1:ρ (.tmp 71)=(.agg #[.int .i64 va, .slice a20 n20 c20]):=h.2.1
   have e2:ρ (.tmp 72)=(.agg #[.int .i64 va, .slice a26 n26 c26]):=h.2.2.1
   obtain ⟨k0,k1,k2,k3,k4,k5,k6,k7⟩:=(HF3 wx hC).out
   refine ⟨19,#[.agg #[.int .i64 va, .slice a20 n20 c20], .agg #[.int .i64 va, .slice a26 n26 c26]],by go_simp,((hpo wx hC).out).mono ?_⟩
   rintro e w' ⟨rfl,hE'⟩
   exact ⟨_,rfl,hE',rfl⟩
  case o6 =>
   refine obl_pq rfl fun ρ wx hC hcst h => ?_
   obtain ⟨v0,e0,rfl⟩:=h.1
   obtain ⟨k0,k1,k2,k3,k4,k5,k6,k7⟩:=(HF3 wx hC).out
   go_simp
  case o7 =>
   refine obl_pq rfl fun ρ wx hC hcst h => ?_
   have e0:ρ (.tmp 70)=(.bool false):=h.1
   have e2:ρ (.tmp 74)=(.bool false):=h.2.2.1
   obtain ⟨k0,k1,k2,k3,k4,k5,k6,k7⟩:=(HF3 wx hC).out
   go_simp
  case o8=>exact omv rfl rfl (fun _ _=>id)
  case o9=>exact ofa (d:=1) rfl rfl (fun _ _=>id) (by kernel_rfl) rfl
  case o10=>exact ol rfl rfl (fun _ _=>id) (by kernel_rfl) (by assumption)
  case o11 =>
   refine obl_pq rfl fun ρ wx hC hcst h => ?_
   have e0:ρ (.tmp 78)=(.slice a na ca):=h.1
   obtain ⟨k0,k1,k2,k3,k4,k5,k6,k7⟩:=(HF3 wx hC).out
   go_simp
  case o12 =>
   refine obl_pq rfl fun ρ wx hC hcst h => ?_
   have e0:ρ (.tmp 79)=(.int .i64 na):=h.1
   obtain ⟨k0,k1,k2,k3,k4,k5,k6,k7⟩:=(HF3 wx hC).out
   go_simp
   try (first | (intros; omega) | exact IntWalk.i64_in _ (by omega))
  case o13=>exact omv rfl rfl (fun _ _=>id)
  case o14=>exact ofa (d:=1) rfl rfl (fun _ _=>id) (by kernel_rfl) rfl
  case o15=>exact ol rfl rfl (fun _ _=>id) (by kernel_rfl) (by assumption)
  case o16 =>
   refine obl_pq rfl fun ρ wx hC hcst h => ?_
   have e0:ρ (.tmp 83)=(.slice b nb cb):=h.1
   obtain ⟨k0,k1,k2,k3,k4,k5,k6,k7⟩:=(HF3 wx hC).out
   go_simp
  case o17 =>
   refine obl_pq rfl fun ρ wx hC hcst h => ?_
   have e0:ρ (.tmp 84)=(.int .i64 nb):=h.1
   obtain ⟨k0,k1,k2,k3,k4,k5,k6,k7⟩:=(HF3 wx hC).out
   go_simp
   try (first | (intros; omega) | exact IntWalk.i64_in _ (by omega))
  case o18 =>
   refine obl_pq rfl fun ρ wx hC hcst h => ?_
   have e0:ρ (.tmp 81)=(.bool true):=h.1
   have e1:ρ (.tmp 85)=(.bool true):=h.2.1
   obtain ⟨k0,k1,k2,k3,k4,k5,k6,k7⟩:=(HF3 wx hC).out
   go_simp
  case o19=>exact omv rfl rfl (fun _ _=>id)
  case o20=>exact ol2 rfl rfl (fun _ _=>id) agg_Poly (by assumption) (by assumption)
  case o21 =>
   refine obl_cq rfl fun ρ wx hC hcst hfn h => ?_
   have e1:ρ (.tmp 88)=(.agg #[.int .i64 va, .slice a20 n20 c20]):=h.2.1
   obtain ⟨k0,k1,k2,k3,k4,k5,k6,k7⟩:=(HF3 wx hC).out
   refine ⟨20,#[.agg #[.int .i64 va, .slice a20 n20 c20]],by go_simp,((hd3 wx hC).out).mono ?_⟩
   rintro e w' ⟨rfl,hE'⟩
   exact ⟨_,rfl,hE',rfl⟩
  case o22=>exact ol2 rfl rfl (fun _ _=>id) agg_Poly (by assumption) (by assumption)
  case o23 =>
   refine obl_cq rfl fun ρ wx hC hcst hfn h => ?_
   have e1:ρ (.tmp 90)=(.agg #[.int .i64 va, .slice a na ca]):=h.2.1
   obtain ⟨k0,k1,k2,k3,k4,k5,k6,k7⟩:=(HF3 wx hC).out
   refine ⟨20,#[.agg #[.int .i64 va, .slice a na ca]],by go_simp,((hd1 wx hC).out).mono ?_⟩
   rintro e w' ⟨rfl,hE'⟩
   exact ⟨_,rfl,hE',rfl⟩
  case o24=>exact ol2 rfl rfl (fun _ _=>id) agg_Poly (by assumption) (by assumption)
  case o25 =>
   refine obl_cq rfl fun ρ wx hC hcst hfn h => ?_
   have e1:ρ (.tmp 92)=(.agg #[.int .i64 va, .slice b nb cb]):=h.2.1
   obtain ⟨k0,k1,k2,k3,k4,k5,k6,k7⟩:=(HF3 wx hC).out
   refine ⟨20,#[.agg #[.int .i64 va, .slice b nb cb]],by go_simp,((hd2 wx hC).out).mono ?_⟩
   rintro e w' ⟨rfl,hE'⟩
   exact ⟨_,rfl,hE',rfl⟩
  case o26 =>
   refine obl_pq rfl fun ρ wx hC hcst h => ?_
   obtain ⟨v0,e0,rfl⟩:=h.1
   obtain ⟨v1,e1,rfl⟩:=h.2.1
   obtain ⟨k0,k1,k2,k3,k4,k5,k6,k7⟩:=(HF3 wx hC).out
   go_simp
   try (first | (intros; omega) | exact IntWalk.i64_in _ (by omega))
  case o27 =>
   refine obl_pq rfl fun ρ wx hC hcst h => ?_
   obtain ⟨v0,e0,rfl⟩:=h.1
   have e1:ρ (.tmp 94)=(.int .i64 (d1+d2)):=h.2.1
   obtain ⟨k0,k1,k2,k3,k4,k5,k6,k7⟩:=(HF3 wx hC).out
   go_simp
   try (first | (intros; omega) | exact IntWalk.i64_in _ (by omega))
  case o28 =>
   refine obl_pq rfl fun ρ wx hC hcst h => ?_
   have e0:ρ (.tmp 87)=(.bool true):=h.1
   have e1:ρ (.tmp 95)=(.bool false):=h.2.1
   obtain ⟨k0,k1,k2,k3,k4,k5,k6,k7⟩:=(HF3 wx hC).out
   go_simp
  case o29 =>
   refine obl_pq rfl fun ρ wx hC hcst h => ?_
   have e0:ρ (.tmp 76)=(.bool false):=h.1
   have e2:ρ (.tmp 96)=(.bool false):=h.2.2.1
   obtain ⟨k0,k1,k2,k3,k4,k5,k6,k7⟩:=(HF3 wx hC).out
   go_simp
  case' fin =>
   intro wx hC
   rintro _ rfl
   rintro _ rfl
   rintro _ rfl
   rintro _ rfl
   change wpList _ _ _ _ _ _
   simp only [List.length_cons,List.length_nil,List.drop_succ_cons,List.drop_zero,Act.put,List.setIfInBounds_toArray,List.set_cons_succ,List.set_cons_zero]
   clear q1 q2 n0 n1 hd1 hd2 hd3 hb1 hb2 hw12
  skip
 all_goals
  clear hpo
  replace HP:=HP.ext hC
  clear hC x00 x01 x10 x11 x30 x31 x60 x61
  obtain ⟨x20,x21⟩:=HP.c (i:=2) rfl
  obtain ⟨x30,x31⟩:=HP.c (i:=3) rfl
  have hcl:=qh (poly_MulV H7.out (hT.ext HP.e) (HP.t (i:=3) rfl) (HP.t (i:=2) rfl) RS.x3 (small570 HS3.out (by omega)) RS.m3)
  go_wp2_with fail
  refine hcl.out.mono ?_
  rintro e w27 ⟨a27,n27,c27,rfl,hF,hO⟩
  have hY:=Arr.new w27 24 (polyL 0 none 0 0)
  clear hcl x20 x21 x30 x31
  go_upto_region 12 with (refine wl_stPo rfl rfl rfl rfl hY rfl ?_; intro w27' hB hg)
  replace HP:=HP.new hF hO hB hg
  clear hY hB hg hF hO
  obtain ⟨x00,x01⟩:=HP.c (i:=0) rfl
  obtain ⟨x40,x41⟩:=HP.c (i:=4) rfl
  have hcl:=qh (poly_MulV H8.out (hT.ext HP.e) (HP.t (i:=0) rfl) (HP.t (i:=4) rfl) (small570 HS1.out (by omega)) RS.x4 RS.m4)
  go_wp2_with fail
  refine hcl.out.mono ?_
  rintro e w28 ⟨a28,n28,c28,rfl,hF,hO⟩
  have hY:=Arr.new w28 24 (polyL 0 none 0 0)
  clear hcl x00 x01 x40 x41
  go_upto_region 13 with (refine wl_stPo rfl rfl rfl rfl hY rfl ?_; intro w28' hB hg)
  replace HP:=HP.new hF hO hB hg
  clear hY hB hg hF hO
  obtain ⟨x70,x71⟩:=HP.c (i:=7) rfl
  obtain ⟨x80,x81⟩:=HP.c (i:=8) rfl
  have hcl:=qh (keep_Polys (va:=v7) (vb:=v7) (HP.t (i:=7) rfl) (HP.t (i:=8) rfl))
  rw [show decide (v7=v7∧t7=t7)=true by simp] at hcl
  have q7:(e7 != e7)=false:=by simp
  go_wp2_with fail
  refine hcl.out.mono ?_
  rintro e w29 ⟨rfl,hF⟩
  replace HP:=HP.ext hF
  clear hcl hF x70 x71 x80 x81
  obtain ⟨x00,x01⟩:=HP.c (i:=0) rfl
  obtain ⟨x20,x21⟩:=HP.c (i:=2) rfl
  have hcl:=qh (poly_MulV H9.out (hT.ext HP.e) (HP.t (i:=0) rfl) (HP.t (i:=2) rfl) (small570 HS1.out (by omega)) (small570 HS3.out (by omega)) (ring_mul HS1.out HS3.out))
  go_wp2_with fail
  refine hcl.out.mono ?_
  rintro e w30 ⟨a30,n30,c30,rfl,hF,hO⟩
  have hY:=Arr.new w30 24 (polyL 0 none 0 0)
  clear hcl x00 x01 x20 x21
  go_upto_region 16 with (refine wl_stPo rfl rfl rfl rfl hY rfl ?_; intro w30' hB hg)
  replace HP:=HP.new hF hO hB hg
  clear hY hB hg hF hO
  obtain ⟨x00,x01⟩:=HP.c (i:=0) rfl
  obtain ⟨x50,x51⟩:=HP.c (i:=5) rfl
  have hcl:=qh (poly_MulV H10.out (hT.ext HP.e) (HP.t (i:=0) rfl) (HP.t (i:=5) rfl) (small570 HS1.out (by omega)) RS.x5 RS.m5)
  go_wp2_with fail
  refine hcl.out.mono ?_
  rintro e w31 ⟨a31,n31,c31,rfl,hF,hO⟩
  have hY:=Arr.new w31 24 (polyL 0 none 0 0)
  clear hcl x00 x01 x50 x51
  go_upto_region 17 with (refine wl_stPo rfl rfl rfl rfl hY rfl ?_; intro w31' hB hg)
  replace HP:=HP.new hF hO hB hg
  clear hY hB hg hF hO
  by_cases z9:e9=0
  rotate_left
  · have q9:(e9 != 0)=true:=by simpa using z9
    clear z9
    go_wp2_with fail
    refine (haw _ HP.e).out.mono ?_
    rintro e w32 ⟨rfl,hF⟩
    go_wp2
    go_ret
    exact ⟨rfl,HP.e.trans hF⟩
  subst z9
  by_cases z10:e10=0
  rotate_left
  · have q10:(e10 != 0)=true:=by simpa using z10
    clear z10
    go_wp2_with fail
    refine (haw _ HP.e).out.mono ?_
    rintro e w33 ⟨rfl,hF⟩
    go_wp2
    go_ret
    exact ⟨rfl,HP.e.trans hF⟩
  subst z10
  obtain ⟨g1,g2,g3⟩:=RS.dist _ _ _ _ H9.out H10.out
  have H11:=qh g1
  clear g1
  obtain ⟨x30,x31⟩:=HP.c (i:=3) rfl
  obtain ⟨x90,x91⟩:=HP.c (i:=9) rfl
  have hcl:=qh (poly_AddV H11.out (hT.ext HP.e) (HP.t (i:=3) rfl) (HP.t (i:=9) rfl) RS.x3 g2 g3)
  go_wp2_with fail
  refine hcl.out.mono ?_
  rintro e w34 ⟨a34,n34,c34,rfl,hF,hO⟩
  have hY:=Arr.new w34 24 (polyL 0 none 0 0)
  clear hcl x30 x31 x90 x91
  go_upto_region 20 with (refine wl_stPo rfl rfl rfl rfl hY rfl ?_; intro w34' hB hg)
  replace HP:=HP.new hF hO hB hg
  clear hY hB hg hF hO
  obtain ⟨x100,x101⟩:=HP.c (i:=10) rfl
  obtain ⟨x110,x111⟩:=HP.c (i:=11) rfl
  have hcl:=qh (keep_Polys (va:=v10) (vb:=v10) (HP.t (i:=10) rfl) (HP.t (i:=11) rfl))
  rw [show decide (v10=v10∧t10=t10)=true by simp] at hcl
  go_wp2_with fail
  refine hcl.out.mono ?_
  rintro e w35 ⟨rfl,hF⟩
  replace HP:=HP.ext hF
  clear hcl hF x100 x101 x110 x111
  go_wp2_with fail
  refine (haw _ HP.e).out.mono ?_
  rintro e w36 ⟨rfl,hF⟩
  go_wp2
  go_ret
  exact ⟨rfl,HP.e.trans hF⟩
end Go.Proofs.YtbiifaciddajnaaGreatDoor
