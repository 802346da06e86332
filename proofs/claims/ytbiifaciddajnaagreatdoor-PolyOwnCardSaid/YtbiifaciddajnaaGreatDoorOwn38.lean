/- Part Own38. -/
import Derived.Test.YtbiifaciddajnaaGreatDoorOwn37
import Derived.Test.YtbiifaciddajnaaGreatDoorOwn24
import Derived.Test.YtbiifaciddajnaaGreatDoorOwn36
import Derived.ProofKit
import Derived.Lib.LaidTab
import Derived.Stop.LaidErr
import Derived.MakeChecks
import Derived.Test.YtbiifaciddajnaaGreatDoorRows
import Derived.Test.YtbiifaciddajnaaGreatDoorOwn7
set_option maxRecDepth 100000
set_option maxHeartbeats 100000000
namespace Go.Proofs.YtbiifaciddajnaaGreatDoor
open Go Go.RowKit
theorem TmO.kp {S:Nat→Prop} {w w':World} {base:Nat} {a:Option Addr} {n c:Nat} {ts:List Tx} (h:TmO w base a n c ts) (e:Kp S w w') (hS:∀ g,base≤g→¬ S g):TmO w' base a n c ts:=by
 obtain ⟨rows,h1,h2,h3⟩:=h
 have hb:∀ g cs t fr,base≤g→w.heap[g]?=some (.cells cs t fr)→w'.heap[g]?=some (.cells cs t fr):=fun g cs t fr hg hh=>by
  have hlt:g<w.heap.size:=by
   rcases Nat.lt_or_ge g w.heap.size with h|h
   · exact h
   · simp [Array.getElem?_eq_none h] at hh
  rw [e.block g hlt (hS g hg),hh]
 refine ⟨rows,⟨h1.1,h1.2.1, ?_⟩,h2,fun i hi => ?_⟩
 · rcases h1.2.2 with h|⟨g,cap,cur,hv,hg,hh,r⟩
   · exact Or.inl h
   · exact Or.inr ⟨g,cap,cur,hv,hg,hb g _ _ _ hg hh,r⟩
 · obtain ⟨s,a',n',c',k1,k2,k3⟩:=h3 i hi
   exact ⟨s,a',n',c',k1,k2,e.own k3 (fun g hg=>hS g (k3.lt hg).1)⟩
theorem law_PolyOwn {va:Int} {a:Option Addr} {n c:Nat} {ts:List Tx} {w:World} (hT:Tabs w) (hx:TmSl w a n c ts) :
 Calls Tryz.prog 10 #[.agg #[.int .i64 va, .slice a n c]] w fun e w'=>e = .returned (.bool true)∧Ext w w':=by
 have hsp:=fun (wx:World) (hC:Ext w wx)=>qh (keep_SmallPoly (va:=va) (nt:=6) (d:=12) (hx.ext hC))
 have haw:=fun (wx:World) (hC:Ext w wx)=>qh (law_awake (hT.ext hC))
 go_enter Tryz.func10,Tryz.ntmps10
 go_upto_region 1 with (fail)
 refine box1 ?_
 intro w0 hE0 hB0 hz0
 have p00:w0.cell? ⟨w.heap.size,0,none⟩=some (.int .i64 va):=hB0.cell (i:=0) (by simp)
 have p01:w0.cell? ⟨w.heap.size,1,none⟩=some (.slice a n c):=hB0.cell (i:=1) (by simp)
 clear hB0 hz0
 by_cases hsm:smallP ts 6 12
 · have HSM:=qh hsm
   have hvl:=fun (wx:World) (hC:Ext w wx)=>qh (poly_Valid (vars:=va) (hT.ext hC) (hx.ext hC) (small570 hsm (by omega)))
   rw [decide_eq_true hsm] at hsp
   obtain ⟨ol,hol⟩:∃ o,rdP va ts=o:=⟨_,rfl⟩
   rw [hol] at hvl
   have HOL:=qh hol
   clear hsm hol
   go_wp2_with fail
   refine (hsp _ hE0).out.mono ?_
   rintro e w1 ⟨rfl,hE1⟩
   have hEw1:=hE0.trans hE1
   have p00:=hE1.cell p00
   have p01:=hE1.cell p01
   clear hsp hE0 hE1
   go_wp2_with fail
   refine (hvl _ hEw1).out.mono ?_
   rintro e w2 ⟨rfl,hE2⟩
   have hEw2:=hEw1.trans hE2
   have p00:=hE2.cell p00
   have p01:=hE2.cell p01
   clear hvl hE2 hEw1
   cases ol with
   | none =>
    simp only [Option.isSome_none]
    go_wp2_with fail
    refine (haw _ hEw2).out.mono ?_
    rintro e w3 ⟨rfl,hE3⟩
    go_wp2
    go_ret
    exact ⟨rfl,hEw2.trans hE3⟩
   | some l =>
   simp only [Option.isSome_some]
   have hcl:=qh (keep_OwnPoly (va:=va) (hx.ext hEw2) (by have:=HSM.out.1; have:=hx.len; omega) (fun t ht=>by have:=(HSM.out.2 t ht).2; omega))
   go_wp2_with fail
   refine hcl.out.mono ?_
   rintro e w3 ⟨a3,n3,c3,rfl,hE3,hO3⟩
   have hpv3:polyV va a3 n3 c3 = .agg #[.int .i64 va, .slice a3 n3 c3]:=rfl
   rw [hpv3]
   have hpl3:(polyL va a3 n3 c3).toArray=#[.int .i64 va, .slice a3 n3 c3]:=rfl
   have hY3:=Arr.new w3 24 (polyL 0 none 0 0)
   go_upto_region 4 with (refine wl_stArr (vs:=polyL va a3 n3 c3) rfl rfl rfl rfl rfl agg_Poly hY3 rfl (polyL_one _ _ _ _) ?_; intro w4 hB4 hg4)
   have hE34:Ext w3 w4:=((Ext.refl w3).alloc _).grownR hg4 (Nat.le_refl _)
   have hE24:=hE3.trans hE34
   have hEw4:=hEw2.trans hE24
   have hEw3:=hEw2.trans hE3
   have hlt4:=hB4.lt
   have p00:=hE24.cell p00
   have p01:=hE24.cell p01
   obtain ⟨Q3,hQ3⟩:∃ x,w3.heap.size=x:=⟨_,rfl⟩
   rw [hQ3] at hB4 hlt4 ⊢
   clear hcl hpv3 hpl3 hY3 hg4 hE3 hE24 hEw2
   have hY4:=Arr.new w4 24 (polyL 0 none 0 0)
   have hpl4:(polyL va none 0 0).toArray=#[.int .i64 va, .slice none 0 0]:=rfl
   go_upto_region 5 with (refine wl_stArr (vs:=polyL va none 0 0) rfl rfl rfl rfl rfl agg_Poly hY4 rfl (polyL_one _ _ _ _) ?_; intro w5 hB5 hg5)
   have hE45:Ext w4 w5:=((Ext.refl w4).alloc _).grownR hg5 (Nat.le_refl _)
   have hEw5:=hEw4.trans hE45
   have hE35:=hE34.trans hE45
   have p00:=hE45.cell p00
   have p01:=hE45.cell p01
   have hB45:=hB4.ext hE45
   obtain ⟨Q4,hQ4⟩:∃ x,w4.heap.size=x:=⟨_,rfl⟩
   rw [hQ4] at hB5 hlt4 ⊢
   have z0:w5.cell? ⟨Q4,0,none⟩=some (.int .i64 va):=hB5.cell (i:=0) (by simp [polyL])
   have z1:w5.cell? ⟨Q4,1,none⟩=some (.slice none 0 0):=hB5.cell (i:=1) (by simp [polyL])
   clear hY4 hg5 hpl4 hE34 hE45 hEw4 hB4 hB5
   have hcl6:=qh (own_Add (hT.ext hEw5) (hx.ext hEw5) HOL.out HSM.out)
   go_wp2_with fail
   refine hcl6.out.mono ?_
   rintro e w6 ⟨a6,n6,c6,rfl,hE6,hO6⟩
   have hpv6:polyV va a6 n6 c6 = .agg #[.int .i64 va, .slice a6 n6 c6]:=rfl
   rw [hpv6]
   have hpl6:(polyL va a6 n6 c6).toArray=#[.int .i64 va, .slice a6 n6 c6]:=rfl
   have hY6:=Arr.new w6 24 (polyL 0 none 0 0)
   go_upto_region 6 with (refine wl_stArr (vs:=polyL va a6 n6 c6) rfl rfl rfl rfl rfl agg_Poly hY6 rfl (polyL_one _ _ _ _) ?_; intro w7 hB6 hg6)
   have hF6:Ext w6 w7:=((Ext.refl w6).alloc _).grownR hg6 (Nat.le_refl _)
   have hG6:=hE6.trans hF6
   have hlt6:=hB6.lt
   obtain ⟨Q6,hQ6⟩:∃ x,w6.heap.size=x:=⟨_,rfl⟩
   rw [hQ6] at hB6 hlt6 ⊢
   clear hcl6 hpv6 hpl6 hY6 hg6
   have hEw7:=hEw5.trans hG6
   have p00:=hG6.cell p00
   have p01:=hG6.cell p01
   clear z0 z1
   have hcl8:=qh (own_Scale (hT.ext hEw7) (hx.ext hEw7) HOL.out HSM.out)
   go_wp2_with fail
   refine hcl8.out.mono ?_
   rintro e w8 ⟨a8,n8,c8,rfl,hE8,hO8⟩
   have hpv8:polyV va a8 n8 c8 = .agg #[.int .i64 va, .slice a8 n8 c8]:=rfl
   rw [hpv8]
   have hpl8:(polyL va a8 n8 c8).toArray=#[.int .i64 va, .slice a8 n8 c8]:=rfl
   have hY8:=Arr.new w8 24 (polyL 0 none 0 0)
   go_upto_region 7 with (refine wl_stArr (vs:=polyL va a8 n8 c8) rfl rfl rfl rfl rfl agg_Poly hY8 rfl (polyL_one _ _ _ _) ?_; intro w9 hB8 hg8)
   have hF8:Ext w8 w9:=((Ext.refl w8).alloc _).grownR hg8 (Nat.le_refl _)
   have hG8:=hE8.trans hF8
   have hlt8:=hB8.lt
   obtain ⟨Q8,hQ8⟩:∃ x,w8.heap.size=x:=⟨_,rfl⟩
   rw [hQ8] at hB8 hlt8 ⊢
   clear hcl8 hpv8 hpl8 hY8 hg8
   have hEw9:=hEw7.trans hG8
   have p00:=hG8.cell p00
   have p01:=hG8.cell p01
   have hcl10:=qh (own_Pow (hT.ext hEw9) (hx.ext hEw9) HOL.out HSM.out)
   go_wp2_with fail
   refine hcl10.out.mono ?_
   rintro e w10 ⟨a10,n10,c10,rfl,hE10,hO10⟩
   have hpv10:polyV va a10 n10 c10 = .agg #[.int .i64 va, .slice a10 n10 c10]:=rfl
   rw [hpv10]
   have hpl10:(polyL va a10 n10 c10).toArray=#[.int .i64 va, .slice a10 n10 c10]:=rfl
   have hY10:=Arr.new w10 24 (polyL 0 none 0 0)
   go_upto_region 8 with (refine wl_stArr (vs:=polyL va a10 n10 c10) rfl rfl rfl rfl rfl agg_Poly hY10 rfl (polyL_one _ _ _ _) ?_; intro w11 hB10 hg10)
   have hF10:Ext w10 w11:=((Ext.refl w10).alloc _).grownR hg10 (Nat.le_refl _)
   have hG10:=hE10.trans hF10
   have hlt10:=hB10.lt
   obtain ⟨Q10,hQ10⟩:∃ x,w10.heap.size=x:=⟨_,rfl⟩
   rw [hQ10] at hB10 hlt10 ⊢
   clear hcl10 hpv10 hpl10 hY10 hg10
   have hEw11:=hEw9.trans hG10
   have p00:=hG10.cell p00
   have p01:=hG10.cell p01
   -- the boxes
   have hs6:=hE6.size
   have hs8:=hE8.size
   have hs10:=hE10.size
   have hf6:=hF6.size
   have hf8:=hF8.size
   have hf10:=hF10.size
   have hW11:=(hB45.ext hG6).ext (hG8.trans hG10)
   have hB611:=hB6.ext (hG8.trans hG10)
   have hB811:=hB8.ext hG10
   have hO6b:TmO w11 w5.heap.size a6 n6 c6 ts:=hO6.ext (hF6.trans (hG8.trans hG10))
   have hO8b:TmO w11 w7.heap.size a8 n8 c8 ts:=hO8.ext (hF8.trans hG10)
   have hO10b:TmO w11 w9.heap.size a10 n10 c10 ts:=hO10.ext hF10
   have hE311:Ext w3 w11:=hE35.trans (hG6.trans (hG8.trans hG10))
   have hWs11:TmSl w11 a3 n3 c3 ts:=hO3.sl.ext hE311
   have u0:w11.cell? ⟨Q3,0,none⟩=some (.int .i64 va):=hW11.cell (i:=0) (by simp [polyL])
   have u1:w11.cell? ⟨Q3,1,none⟩=some (.slice a3 n3 c3):=hW11.cell (i:=1) (by simp [polyL])
   have x0:w11.cell? ⟨Q6,0,none⟩=some (.int .i64 va):=hB611.cell (i:=0) (by simp [polyL])
   have x1:w11.cell? ⟨Q6,1,none⟩=some (.slice a6 n6 c6):=hB611.cell (i:=1) (by simp [polyL])
   have y0:w11.cell? ⟨Q8,0,none⟩=some (.int .i64 va):=hB811.cell (i:=0) (by simp [polyL])
   have y1:w11.cell? ⟨Q8,1,none⟩=some (.slice a8 n8 c8):=hB811.cell (i:=1) (by simp [polyL])
   have z0:w11.cell? ⟨Q10,0,none⟩=some (.int .i64 va):=hB10.cell (i:=0) (by simp [polyL])
   have z1:w11.cell? ⟨Q10,1,none⟩=some (.slice a10 n10 c10):=hB10.cell (i:=1) (by simp [polyL])
   have hps:=fun (wx:World) (hC:Ext w11 wx)=>qh (keep_Polys (va:=va) (vb:=va) (hO6b.sl.ext hC) (hWs11.ext hC))
   have hpt:=fun (wx:World) (hC:Ext w11 wx)=>qh (keep_Polys (va:=va) (vb:=va) (hO8b.sl.ext hC) (hWs11.ext hC))
   have hpu:=fun (wx:World) (hC:Ext w11 wx)=>qh (keep_Polys (va:=va) (vb:=va) (hO10b.sl.ext hC) (hWs11.ext hC))
   have HTT:Hid (decide (va=va∧ts=ts)=true):=qh (by simp)
   rw [HTT.out] at hps hpt hpu
   go_wp2_with fail
   refine (hps _ (Ext.refl _)).out.mono ?_
   rintro e w12 ⟨rfl,hE12⟩
   have u0:=hE12.cell u0
   have u1:=hE12.cell u1
   have x0:=hE12.cell x0
   have x1:=hE12.cell x1
   have y0:=hE12.cell y0
   have y1:=hE12.cell y1
   have z0:=hE12.cell z0
   have z1:=hE12.cell z1
   have p00:=hE12.cell p00
   have p01:=hE12.cell p01
   go_wp2_with fail
   refine (hpt _ hE12).out.mono ?_
   rintro e w13 ⟨rfl,hE13⟩
   have hE113:=hE12.trans hE13
   have u0:=hE13.cell u0
   have u1:=hE13.cell u1
   have x0:=hE13.cell x0
   have x1:=hE13.cell x1
   have y0:=hE13.cell y0
   have y1:=hE13.cell y1
   have z0:=hE13.cell z0
   have z1:=hE13.cell z1
   have p00:=hE13.cell p00
   have p01:=hE13.cell p01
   go_wp2_with fail
   refine (hpu _ hE113).out.mono ?_
   rintro e w14 ⟨rfl,hE14⟩
   have hE114:=hE113.trans hE14
   have u0:=hE14.cell u0
   have u1:=hE14.cell u1
   have x0:=hE14.cell x0
   have x1:=hE14.cell x1
   have y0:=hE14.cell y0
   have y1:=hE14.cell y1
   have z0:=hE14.cell z0
   have z1:=hE14.cell z1
   have p00:=hE14.cell p00
   have p01:=hE14.cell p01
   have hP0:=p00
   clear hps hpt hpu hE12 hE13 hE113 hE14
   have hEw14:=hEw11.trans hE114
   have hE714:Ext w6 w14:=(hF6.trans (hG8.trans hG10)).trans hE114
   have hE814:Ext w8 w14:=(hF8.trans hG10).trans hE114
   have hE1014:Ext w10 w14:=hF10.trans hE114
   have hE314:=hE311.trans hE114
   have hsz5:w5.heap.size≤w6.heap.size:=hs6
   have hsz7:w6.heap.size≤w7.heap.size:=hf6
   have hsz8:w7.heap.size≤w8.heap.size:=hs8
   have hsz9:w8.heap.size≤w9.heap.size:=hf8
   have hszA:w9.heap.size≤w10.heap.size:=hs10
   have hszw:=hEw3.size
   have hszq:=hE35.size
   have hq3:Q3<w5.heap.size:=hB45.lt
   have hqe6:w6.heap.size=Q6:=hQ6
   have hqe8:w8.heap.size=Q8:=hQ8
   have hqe10:w10.heap.size=Q10:=hQ10
   have kp6:Keep w5.heap.size w6 w14:=(Keep.refl _ _).ext hE714
   have kp8:Keep w7.heap.size w8 w14:=(Keep.refl _ _).ext hE814
   have kp10:Keep w9.heap.size w10 w14:=(Keep.refl _ _).ext hE1014
   clear hE714 hE814 hE1014 hP0
   have hsl6:=qh (keep_SpoilPoly (va:=va) (lim:=w6.heap.size) hO6 (Nat.le_refl _) kp6)
   go_wp2_with fail
   refine hsl6.out.mono ?_
   rintro e w15 ⟨rfl,hK6⟩
   have p00:=hK6.cell p00 (by simp; omega)
   have p01:=hK6.cell p01 (by simp; omega)
   have u0:=hK6.cell u0 (by simp; omega)
   have u1:=hK6.cell u1 (by simp; omega)
   have x0:=hK6.cell x0 (by simp; omega)
   have x1:=hK6.cell x1 (by simp; omega)
   have y0:=hK6.cell y0 (by simp; omega)
   have y1:=hK6.cell y1 (by simp; omega)
   have z0:=hK6.cell z0 (by simp; omega)
   have z1:=hK6.cell z1 (by simp; omega)
   clear hsl6
   have kp8:=kp8.kp hK6 (fun b hb=>Or.inl (by omega))
   have kp10:=kp10.kp hK6 (fun b hb=>Or.inl (by omega))
   have hEw15:=hK6.ext hEw14 (fun b hb=>by omega)
   have hE315:=hK6.ext hE314 (fun b hb=>by omega)
   clear hK6 kp6
   have hsl8:=qh (keep_SpoilPoly (va:=va) (lim:=w8.heap.size) hO8 (Nat.le_refl _) kp8)
   go_wp2_with fail
   refine hsl8.out.mono ?_
   rintro e w16 ⟨rfl,hK8⟩
   have p00:=hK8.cell p00 (by simp; omega)
   have p01:=hK8.cell p01 (by simp; omega)
   have u0:=hK8.cell u0 (by simp; omega)
   have u1:=hK8.cell u1 (by simp; omega)
   have x0:=hK8.cell x0 (by simp; omega)
   have x1:=hK8.cell x1 (by simp; omega)
   have y0:=hK8.cell y0 (by simp; omega)
   have y1:=hK8.cell y1 (by simp; omega)
   have z0:=hK8.cell z0 (by simp; omega)
   have z1:=hK8.cell z1 (by simp; omega)
   clear hsl8
   have kp10:=kp10.kp hK8 (fun b hb=>Or.inl (by omega))
   have hEw16:=hK8.ext hEw15 (fun b hb=>by omega)
   have hE316:=hK8.ext hE315 (fun b hb=>by omega)
   clear hK8 kp8
   have hsl10:=qh (keep_SpoilPoly (va:=va) (lim:=w10.heap.size) hO10 (Nat.le_refl _) kp10)
   go_wp2_with fail
   refine hsl10.out.mono ?_
   rintro e w17 ⟨rfl,hK10⟩
   have p00:=hK10.cell p00 (by simp; omega)
   have p01:=hK10.cell p01 (by simp; omega)
   have u0:=hK10.cell u0 (by simp; omega)
   have u1:=hK10.cell u1 (by simp; omega)
   have x0:=hK10.cell x0 (by simp; omega)
   have x1:=hK10.cell x1 (by simp; omega)
   have y0:=hK10.cell y0 (by simp; omega)
   have y1:=hK10.cell y1 (by simp; omega)
   have z0:=hK10.cell z0 (by simp; omega)
   have z1:=hK10.cell z1 (by simp; omega)
   clear hsl10
   have hEw17:=hK10.ext hEw16 (fun b hb=>by omega)
   have hE317:=hK10.ext hE316 (fun b hb=>by omega)
   clear hK10 kp10
   have hpa:=qh (keep_Polys (va:=va) (vb:=va) (hx.ext hEw17) (hO3.sl.ext hE317))
   rw [show decide (va=va∧ts=ts)=true by simp] at hpa
   go_wp2_with fail
   refine hpa.out.mono ?_
   rintro e w18 ⟨rfl,hE18⟩
   have hEw18:=hEw17.trans hE18
   go_wp2_with fail
   refine (haw _ hEw18).out.mono ?_
   rintro e w19 ⟨rfl,hE19⟩
   go_wp2
   go_ret
   exact ⟨rfl,hEw18.trans hE19⟩
 · rw [decide_eq_false hsm] at hsp
   clear hsm
   go_wp2_with fail
   refine (hsp _ hE0).out.mono ?_
   rintro e w1 ⟨rfl,hE1⟩
   have hEw1:=hE0.trans hE1
   clear hsp hE0 hE1
   go_wp2_with fail
   refine (haw _ hEw1).out.mono ?_
   rintro e w2 ⟨rfl,hE2⟩
   go_wp2
   go_ret
   exact ⟨rfl,hEw1.trans hE2⟩
end Go.Proofs.YtbiifaciddajnaaGreatDoor
namespace Go.Proofs.YtbiifaciddajnaaGreatDoor
open Go Go.RowKit Go.ChangeShapes Go.WideShapes Go.ChangeAt
theorem spot_none {w:World} {x:Addr} {v:Value} (h:w.cell? x=some v):x.spot=none:=by
 unfold World.cell? at h
 split at h
 · cases hs:x.spot with
   | none=>rfl
   | some s=>rw [hs] at h; simp at h
 · cases h
theorem add_none {b off i:Nat}:Addr.add ⟨b,off,none⟩ i=⟨b,off+i,none⟩:=by
 unfold Addr.add
 split
 · next h=>subst h; rfl
 · rfl
theorem slI_row {w:World} {a:Option Addr} {len cap:Nat} {zs:List Int}
 (h:(a=none∧len=0∧cap=0∧zs=[])∨∃ x,a=some x∧len≤cap∧cap≤maxLen∧zs.length=cap∧(∀ i,i<zs.length→w.cell? (x.add i)=some (.int .i64 (zs.getD i 0)))) :
 SlI w a len cap (zs.take len):=by
 rcases h with ⟨rfl,rfl,rfl,rfl⟩|⟨x,rfl,h1,h2,h3,h4⟩
 · exact Sl.nil w
 · refine ⟨by simp; omega,h1,h2,fun hn => ?_⟩
   have h0:=h4 0 (by omega)
   have hs:x.spot=none:=spot_none (x:=x) (by simpa [Addr.add] using h0)
   obtain ⟨b,off,sp⟩:=x
   simp only at hs
   subst hs
   refine ⟨b,off,rfl,fun i hi => ?_⟩
   have:=h4 i (by omega)
   rw [add_none] at this
   rw [this]
   have hi':i<zs.length:=by omega
   simp [List.getD_eq_getElem?_getD,hi,hi']
theorem rows_build {Q:Nat→List Value→Tx→Prop}:∀ n:Nat,(∀ i,i<n→∃ r t,Q i r t)→∃ (rows:List (List Value)) (ts:List Tx),rows.length=n∧ts.length=n∧∀ i,i<n→Q i (rows.getD i []) (ts.getD i tm0)
 | 0,_=>⟨[],[],rfl,rfl,fun i hi=>absurd hi (by omega)⟩
 | n+1,h=>by
  obtain ⟨rows,ts,h1,h2,h3⟩:=rows_build n (fun i hi=>h i (by omega))
  obtain ⟨r,t,h4⟩:=h n (by omega)
  refine ⟨rows ++ [r],ts ++ [t],by simp [h1],by simp [h2],fun i hi => ?_⟩
  by_cases e:i=n
  · subst e
    have e1:(rows ++ [r]).getD i []=r:=by rw [List.getD_eq_getElem?_getD,List.getElem?_append_right (by omega),h1,Nat.sub_self]; rfl
    have e2:(ts ++ [t]).getD i tm0=t:=by rw [List.getD_eq_getElem?_getD,List.getElem?_append_right (by omega),h2,Nat.sub_self]; rfl
    rw [e1,e2]; exact h4
  · rw [List.getD_eq_getElem?_getD,List.getElem?_append_left (by omega),←List.getD_eq_getElem?_getD,List.getD_eq_getElem?_getD (l:=ts ++ [t]),List.getElem?_append_left (by omega),←List.getD_eq_getElem?_getD]
    exact h3 i (by omega)
theorem cells_at {w:World} {base k:Nat} {y:Addr} {cs:List Value} (h:w.cells? base y k=some cs):cs.length=k∧∀ j,j<k→∃ v,cs[j]?=some v∧w.cell? (y.add j)=some v:=by
 unfold World.cells? at h
 split at h
 · refine ⟨by have:=Lib.mapM_length h; simpa using this,fun j hj => ?_⟩
   obtain ⟨b,h1,h2⟩:=Lib.mapM_at h j j (by simp [hj])
   exact ⟨b,h1,h2⟩
 · cases h
theorem cells_Term:Tryz.prog.cellsOf 35=2:=by kernel_rfl
theorem cells_str:Tryz.prog.cellsOf 9=1:=by kernel_rfl
theorem cells_int:Tryz.prog.cellsOf 3=1:=by kernel_rfl
theorem cells_ints:Tryz.prog.cellsOf 33=1:=by kernel_rfl
theorem cells_terms:Tryz.prog.cellsOf 22=1:=by kernel_rfl
theorem open_intsL {H:Type} {enc:TypeId×Value→H} {w:World} {base:Nat} {held:Bool} {fuel:Nat} {cs:List Value} {x:DataW H×List MemPlace}
 (h:DataW.trod enc Tryz.prog w base (fun _=>true) held fuel 33 cs=some x):∃ a n c xs,cs=[.slice a n c]∧SlI w a n c xs:=by
 rcases open_ints Tryz.underlying33 Tryz.underlying3 cells_int h with ⟨hcs,_⟩|⟨y,l,c,zs,hcs,_,hl,hm,hz,_,hcell,hwz⟩
 · exact ⟨none,0,0,_,hcs,slI_row (zs:=[]) (.inl ⟨rfl,rfl,rfl,rfl⟩)⟩
 · exact ⟨_,_,_,_,hcs,slI_row (zs:=zs) (.inr ⟨_,rfl,hl,hm,by simpa using hz,hcell⟩)⟩
theorem open_terms {H:Type} {enc:TypeId×Value→H} {w:World} {base:Nat} {held:Bool} {fuel:Nat} {cs:List Value} {x:DataW H×List MemPlace}
 (h:DataW.trod enc Tryz.prog w base (fun _=>true) held fuel 22 cs=some x):∃ a n c ts,cs=[.slice a n c]∧TmSl w a n c ts:=by
 rcases DataW.trod_slice Tryz.underlying22 h with ⟨hcs,_⟩|⟨y,len,cap,elems,rest,fu,_,hcs,_,hb,hl,hm,hlen,hel,_,_⟩
 · exact ⟨none,0,0,[],hcs,[],SlK.nil w 2,rfl,fun i hi=>absurd hi (by omega)⟩
 · rw [cells_Term] at hel
   have key:∀ i,i<len→∃ (r:List Value) (t:Tx),r.length=2∧TmAt w r t∧∀ j,j<2→w.cell? ((y.add (i*2)).add j)=some (r.getD j undef):=by
    intro i hi
    have h1:=hel i hi
    rw [List.getElem?_eq_getElem (by omega),Option.bind_eq_some_iff] at h1
    obtain ⟨cs',h2,h3⟩:=h1
    obtain ⟨hc2,hcell⟩:=cells_at h2
    obtain ⟨y0,y1,k,_,_,u0,u1⟩:=trod_struct2 Tryz.underlying35 h3
    obtain ⟨s,e0,_,_⟩:=DataW.trod_string Tryz.underlying9 u0
    obtain ⟨a',n',c',xs,e1,hx⟩:=open_intsL u1
    have f0:(cs'.drop 0).take (Tryz.prog.cellsOf 9)=[.string s]:=e0
    have f1:(cs'.drop 1).take (Tryz.prog.cellsOf 33)=[.slice a' n' c']:=e1
    rw [cells_str] at f0
    rw [cells_ints] at f1
    clear e0 e1 u0 u1 h3
    match cs',hc2,f0,f1 with
    | [v0,v1],_,f0,f1 =>
     simp only [List.drop_zero,List.drop_succ_cons,List.take_succ_cons,List.take_zero,List.cons.injEq,and_true] at f0 f1
     subst f0
     subst f1
     refine ⟨[.string s, .slice a' n' c'],(strL s,xs),rfl,⟨s,a',n',c',rfl,rfl,hx⟩,fun j hj => ?_⟩
     obtain ⟨v,h4,h5⟩:=hcell j hj
     rw [h5,List.getD_eq_getElem?_getD,h4]
     rfl
   obtain ⟨rows,ts,h1,h2,h3⟩:=rows_build len key
   refine ⟨some y,len,cap,ts,hcs,rows,⟨h1,hl,hm,fun r hr => ?_,fun h0 => ?_⟩,h2,fun i hi=>(h3 i hi).2.1⟩
   · obtain ⟨i,hi,rfl⟩:=List.mem_iff_getElem.1 hr
     have:=(h3 i (by omega)).1
     simpa [List.getD_eq_getElem?_getD,hi] using this
   · have hs:y.spot=none:=by
      have h4:=(h3 0 h0).2.2 0 (by omega)
      have h5:=spot_none h4
      simpa [Addr.add] using h5
     obtain ⟨b,off,sp⟩:=y
     simp only at hs
     subst hs
     refine ⟨b,off,rfl,fun i hi j hj => ?_⟩
     have h4:=(h3 i hi).2.2 j hj
     rwa [add_none,add_none] at h4
theorem open_poly {H:Type} {enc:TypeId×Value→H} {w:World} {base:Nat} {held:Bool} {fuel:Nat} {cs:List Value} {x:DataW H×List MemPlace}
 (h:DataW.trod enc Tryz.prog w base (fun _=>true) held fuel 24 cs=some x):∃ va a n c ts,cs=[.int .i64 va, .slice a n c]∧TmSl w a n c ts:=by
 obtain ⟨y0,y1,k,_,hl,u0,u1⟩:=trod_struct2 Tryz.underlying24 h
 obtain ⟨va,e0,_⟩:=DataW.trod_int Tryz.underlying3 u0
 obtain ⟨a,n,c,ts,e1,hx⟩:=open_terms u1
 have hc:Tryz.prog.cellsOf 24=2:=by kernel_rfl
 rw [hc] at hl
 have f0:(cs.drop 0).take (Tryz.prog.cellsOf 3)=[.int .i64 va]:=e0
 have f1:(cs.drop 1).take (Tryz.prog.cellsOf 22)=[.slice a n c]:=e1
 rw [cells_int] at f0
 rw [cells_terms] at f1
 clear e0 e1 u0 u1 h
 match cs,hl,f0,f1 with
 | [v0,v1],_,f0,f1 =>
  simp only [List.drop_zero,List.drop_succ_cons,List.take_succ_cons,List.take_zero,List.cons.injEq,and_true] at f0 f1
  subst f0
  subst f1
  exact ⟨va,a,n,c,ts,rfl,hx⟩
end Go.Proofs.YtbiifaciddajnaaGreatDoor
namespace Go.Proofs.YtbiifaciddajnaaGreatDoor
open Go Go.RowKit
theorem g64:Tryz.prog.globalNamed "math/bits.deBruijn64tab" = some 1:=by kernel_rfl
theorem gTen:Tryz.prog.globalNamed "internal/strconv.uint64pow10" = some 0:=by kernel_rfl
theorem data64:(Rows.laid_math_bits_deBruijn64tab:DataW Unit)=Lib.tabData .u8 (Lib.deBruijn64tab.map Int.ofNat):=by kernel_rfl
theorem dataTen:(Rows.laid_internal_strconv_uint64pow10:DataW Unit)=Lib.tabData .u64 Lib.pow10Tab:=by kernel_rfl
theorem tabs_of {W:World} (h:laidMetH Tryz.prog [("math/bits.deBruijn32tab",Rows.laid_math_bits_deBruijn32tab),("math/bits.deBruijn64tab",Rows.laid_math_bits_deBruijn64tab),("internal/strconv.uint64pow10",Rows.laid_internal_strconv_uint64pow10)] W):Tabs W:=by
 rw [MakeChecks.laidMetH_plain _ _ _ (by kernel_rfl)] at h
 have h1:=laidMet.tail h
 have h2:=laidMet.tail h1
 rw [data64] at h1
 rw [dataTen] at h2
 have t1:=Lib.tabIs_of_head g64 (t:=296) (e:=5) (n:=64) (by kernel_rfl) Tryz.underlying296 Tryz.underlying5 (by kernel_rfl) (by kernel_rfl) h1
 have t2:=Lib.tabIs_of_head gTen (t:=286) (e:=221) (n:=20) (by kernel_rfl) Tryz.underlying286 Tryz.underlying221 (by kernel_rfl) (by kernel_rfl) h2
 refine ⟨fun j hj => ?_,t2⟩
 have h3:=t1.cell g64 j (by simpa using hj)
 rw [h3]
 simp [List.getD_eq_getElem?_getD,hj]
end Go.Proofs.YtbiifaciddajnaaGreatDoor
