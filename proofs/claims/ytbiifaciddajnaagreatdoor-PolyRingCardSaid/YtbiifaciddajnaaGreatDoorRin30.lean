/- Part Rin30. -/
import Derived.Test.YtbiifaciddajnaaGreatDoorRin28
set_option maxRecDepth 100000
set_option maxHeartbeats 100000000
namespace Go.Proofs.YtbiifaciddajnaaGreatDoor
open Go Go.RowKit
def unitE (k:Nat):List Int:=ze.set k 1
theorem nrm_one {e:List Int} {q:Rat} (h:e.length=6) (hq:q≠0):Pl.Nrm [(e,q)]:=⟨by simpa using h,by simpa using hq,by simp⟩
theorem retP_end {w wb w7 w8:World} {r:Int×List Tx×Int} {R:Nat} {cs:List Value} {a:Option Addr} {n c:Nat} (hE:Ext w wb) (hE7:Ext wb w7) (hO:TmO w7 wb.heap.size a n c r.2.1) (hR:Arr w7 R 24 cs) (hg:w7.grownBy w8 (some R)) (hw:w.heap.size≤R):RetA3 w r (.returned (.tuple #[polyV r.1 a n c, .int .i64 r.2.2])) w8 :=
 ⟨a,n,c,rfl,(hE.trans hE7).grownR hg hw,(hO.mono hE.size).keptA hR hg⟩
def RetVar (w:World) (vars i:Int) (e:Ending) (w':World):Prop:=(0≤vars∧vars≤6∧0≤i∧i<vars∧RetA3 w (resQ vars [(unitE i.toNat,1)]) e w')∨(¬ (0≤vars∧vars≤6∧0≤i∧i<vars)∧RetP w 0 [] 3 e w')
theorem poly_Var {vars i:Int} {w:World} (hT:Tabs w):Calls Tryz.prog 25 #[.int .i64 vars, .int .i64 i] w (RetVar w vars i):=by
 go_enter Tryz.func25,Tryz.ntmps25
 go_upto_region 1 with (fail)
 refine box1 ?_
 intro w0 hE0 hB0 hz0
 have hR:Arr w0 w.heap.size 24 (polyL 0 none 0 0):=hB0
 have hpz:(polyL 0 none 0 0).toArray=#[.int .i64 0, .slice none 0 0]:=rfl
 clear hB0 hz0
 by_cases hok:0≤vars∧vars≤6∧0≤i∧i<vars
 · obtain ⟨h1,h2,h3,h4⟩:=hok
   obtain ⟨vn,rfl⟩:∃ k:Nat,vars=(k:Int):=⟨vars.toNat,by omega⟩
   obtain ⟨k,rfl⟩:∃ k:Nat,i=(k:Int):=⟨i.toNat,by omega⟩
   have c1:¬ ((vn:Int)<0):=by omega
   have c2:¬ ((6:Int)<(vn:Int)):=by omega
   have c3:¬ ((k:Int)<0):=by omega
   have c4:¬ ((vn:Int)≤(k:Int)):=by omega
   have hsm:=qh (rat_Small (z:=1) (w:=w0) (by omega) (by omega))
   go_wp2_with fail
   refine hsm.out.mono ?_
   rintro e w1 ⟨_,rfl,hE1,s1,a1,n1,e1,b1,m1,d1,rfl,HS1,hx1,hy1⟩
   have hl1:(ratL s1 a1 n1 e1 false b1 m1 d1).toArray=#[.bool s1, .slice a1 n1 e1, .bool false, .slice b1 m1 d1]:=rfl
   have hlz:(entL ze s1 a1 n1 e1 b1 m1 d1).toArray=#[.int .i64 0, .int .i64 0, .int .i64 0, .int .i64 0, .int .i64 0, .int .i64 0, .bool s1, .slice a1 n1 e1, .bool false, .slice b1 m1 d1]:=rfl
   have hY:=Arr.new w1 95 (entL ze false none 0 0 none 0 0)
   go_upto_region 4 with (refine wl_stArr (vs:=entL ze s1 a1 n1 e1 b1 m1 d1) rfl rfl rfl rfl rfl agg_entry hY rfl entL_one ?_; intro w3 hB3 hg3)
   have hE13:Ext w1 w3:=((Ext.refl w1).alloc _).grownR hg3 (Nat.le_refl _)
   have hE03:=hE1.trans hE13
   have hX:w0.heap.size≤w1.heap.size:=hE1.size
   have hx3:=hx1.ext hE13
   have hy3:=hy1.ext hE13
   obtain ⟨X,hXe⟩:∃ x,w1.heap.size=x:=⟨_,rfl⟩
   rw [hXe] at hB3 hX ⊢
   have hq1:((1:Int):Rat)=1:=rfl
   rw [hq1] at hx3 hy3 HS1
   clear hsm hY hg3 hE1 hE13 hx1 hy1 hXe hl1
   have cc0:w3.cell? ⟨X,0,none⟩=some (.int .i64 0):=hB3.cell (i:=0) (by simp [entL,ratL,intL,ze])
   have cc1:w3.cell? ⟨X,1,none⟩=some (.int .i64 0):=hB3.cell (i:=1) (by simp [entL,ratL,intL,ze])
   have cc2:w3.cell? ⟨X,2,none⟩=some (.int .i64 0):=hB3.cell (i:=2) (by simp [entL,ratL,intL,ze])
   have cc3:w3.cell? ⟨X,3,none⟩=some (.int .i64 0):=hB3.cell (i:=3) (by simp [entL,ratL,intL,ze])
   have cc4:w3.cell? ⟨X,4,none⟩=some (.int .i64 0):=hB3.cell (i:=4) (by simp [entL,ratL,intL,ze])
   have cc5:w3.cell? ⟨X,5,none⟩=some (.int .i64 0):=hB3.cell (i:=5) (by simp [entL,ratL,intL,ze])
   have cc6:w3.cell? ⟨X,6,none⟩=some (.bool s1):=hB3.cell (i:=6) (by simp [entL,ratL,intL,ze])
   have cc7:w3.cell? ⟨X,7,none⟩=some (.slice a1 n1 e1):=hB3.cell (i:=7) (by simp [entL,ratL,intL,ze])
   have cc8:w3.cell? ⟨X,8,none⟩=some (.bool false):=hB3.cell (i:=8) (by simp [entL,ratL,intL,ze])
   have cc9:w3.cell? ⟨X,9,none⟩=some (.slice b1 m1 d1):=hB3.cell (i:=9) (by simp [entL,ratL,intL,ze])
   have hk6:k=0∨k=1∨k=2∨k=3∨k=4∨k=5:=by omega
   rcases hk6 with rfl|rfl|rfl|rfl|rfl|rfl
   · have ff:=hB3.frozen 0
     have hB4:Arr (w3.setCell ⟨X,0,none⟩ (.int .i64 1)) X 95 (entL [1,0,0,0,0,0] s1 a1 n1 e1 b1 m1 d1):=hB3.set 0 (.int .i64 1)
     have hgs:=grown_setCell w3 X 0 (.int .i64 1)
     have hU:=hB3.noU entL_nu
     have hx4:=hx3.keptU hU hgs
     have hy4:=hy3.keptU hU hgs
     have hE04:=hE03.grownR hgs hX
     go_upto_region 5 with (fail)
     clear cc0 cc1 cc2 cc3 cc4 cc5 cc6 cc7 cc8 cc9 ff hgs hU hB3 hx3 hy3 hE03
     generalize w3.setCell ⟨X,0,none⟩ (.int .i64 1)=w4 at *
     have dd0:w4.cell? ⟨X,0,none⟩=some (.int .i64 1):=hB4.cell (i:=0) (by simp [entL,ratL,intL])
     have dd1:w4.cell? ⟨X,1,none⟩=some (.int .i64 0):=hB4.cell (i:=1) (by simp [entL,ratL,intL])
     have dd2:w4.cell? ⟨X,2,none⟩=some (.int .i64 0):=hB4.cell (i:=2) (by simp [entL,ratL,intL])
     have dd3:w4.cell? ⟨X,3,none⟩=some (.int .i64 0):=hB4.cell (i:=3) (by simp [entL,ratL,intL])
     have dd4:w4.cell? ⟨X,4,none⟩=some (.int .i64 0):=hB4.cell (i:=4) (by simp [entL,ratL,intL])
     have dd5:w4.cell? ⟨X,5,none⟩=some (.int .i64 0):=hB4.cell (i:=5) (by simp [entL,ratL,intL])
     have dd6:w4.cell? ⟨X,6,none⟩=some (.bool s1):=hB4.cell (i:=6) (by simp [entL,ratL,intL])
     have dd7:w4.cell? ⟨X,7,none⟩=some (.slice a1 n1 e1):=hB4.cell (i:=7) (by simp [entL,ratL,intL])
     have dd8:w4.cell? ⟨X,8,none⟩=some (.bool false):=hB4.cell (i:=8) (by simp [entL,ratL,intL])
     have dd9:w4.cell? ⟨X,9,none⟩=some (.slice b1 m1 d1):=hB4.cell (i:=9) (by simp [entL,ratL,intL])
     have hEO:=entO_lit (e:=[1,0,0,0,0,0]) hE04 rfl ⟨s1,a1,n1,e1,b1,m1,d1,rfl,HS1,hx4,hy4⟩
     have hE05:=hE04.alloc (.cells (entL [1,0,0,0,0,0] s1 a1 n1 e1 b1 m1 d1).toArray 95)
     have hWR:=poly_write (vars:=vn) (w0:=w0) (hT.ext hE0) hE05 hEO (by omega) (by intro t ht; simp only [List.mem_singleton] at ht; subst ht; exact ⟨rfl,by simp⟩) (by intro t ht; simp only [List.mem_singleton] at ht; subst ht; exact strOK_small (by decide) (by decide)) (by omega)
     have HWR:=qh hWR
     clear hWR hEO hE05 hB4
     go_wp2_with fail
     refine HWR.out.mono ?_
     intro e w7 hw
     have hq:=RetWr.q (p:=[(unitE 0,1)]) hw (nrm_one rfl (by decide)) (fun _=>rfl)
     obtain ⟨rr,HRR⟩:∃ r,Hid (resQ (vn:Int) [(unitE 0,1)]=r):=⟨_,qh rfl⟩
     rw [HRR.out] at hq
     obtain ⟨a7,n7,c7,rfl,hE7,hO7⟩:=hq
     have hpv:polyV rr.1 a7 n7 c7 = .agg #[.int .i64 rr.1, .slice a7 n7 c7]:=rfl
     rw [hpv]
     have hpl:(polyL rr.1 a7 n7 c7).toArray=#[.int .i64 rr.1, .slice a7 n7 c7]:=rfl
     have hR7:=hR.ext hE7
     clear hw HWR dd0 dd1 dd2 dd3 dd4 dd5 dd6 dd7 dd8 dd9
     go_wp2_with (refine wl_stArr (vs:=polyL rr.1 a7 n7 c7) rfl rfl rfl rfl rfl agg_Poly hR7 rfl (polyL_one _ _ _ _) ?_; intro w8 hB8 hg8)
     refine bodyPost_ret (res_ct rfl agg_Poly rfl rfl hB8) rfl ?_
     exact Or.inl ⟨by omega,by omega,by omega,by omega,by show RetA3 w (resQ (vn:Int) [(unitE 0,1)]) _ _; rw [HRR.out]; exact retP_end hE0 hE7 hO7 hR7 hg8 (Nat.le_refl _)⟩
   · have ff:=hB3.frozen 1
     have hB4:Arr (w3.setCell ⟨X,1,none⟩ (.int .i64 1)) X 95 (entL [0,1,0,0,0,0] s1 a1 n1 e1 b1 m1 d1):=hB3.set 1 (.int .i64 1)
     have hgs:=grown_setCell w3 X 1 (.int .i64 1)
     have hU:=hB3.noU entL_nu
     have hx4:=hx3.keptU hU hgs
     have hy4:=hy3.keptU hU hgs
     have hE04:=hE03.grownR hgs hX
     go_upto_region 5 with (fail)
     clear cc0 cc1 cc2 cc3 cc4 cc5 cc6 cc7 cc8 cc9 ff hgs hU hB3 hx3 hy3 hE03
     generalize w3.setCell ⟨X,1,none⟩ (.int .i64 1)=w4 at *
     have dd0:w4.cell? ⟨X,0,none⟩=some (.int .i64 0):=hB4.cell (i:=0) (by simp [entL,ratL,intL])
     have dd1:w4.cell? ⟨X,1,none⟩=some (.int .i64 1):=hB4.cell (i:=1) (by simp [entL,ratL,intL])
     have dd2:w4.cell? ⟨X,2,none⟩=some (.int .i64 0):=hB4.cell (i:=2) (by simp [entL,ratL,intL])
     have dd3:w4.cell? ⟨X,3,none⟩=some (.int .i64 0):=hB4.cell (i:=3) (by simp [entL,ratL,intL])
     have dd4:w4.cell? ⟨X,4,none⟩=some (.int .i64 0):=hB4.cell (i:=4) (by simp [entL,ratL,intL])
     have dd5:w4.cell? ⟨X,5,none⟩=some (.int .i64 0):=hB4.cell (i:=5) (by simp [entL,ratL,intL])
     have dd6:w4.cell? ⟨X,6,none⟩=some (.bool s1):=hB4.cell (i:=6) (by simp [entL,ratL,intL])
     have dd7:w4.cell? ⟨X,7,none⟩=some (.slice a1 n1 e1):=hB4.cell (i:=7) (by simp [entL,ratL,intL])
     have dd8:w4.cell? ⟨X,8,none⟩=some (.bool false):=hB4.cell (i:=8) (by simp [entL,ratL,intL])
     have dd9:w4.cell? ⟨X,9,none⟩=some (.slice b1 m1 d1):=hB4.cell (i:=9) (by simp [entL,ratL,intL])
     have hEO:=entO_lit (e:=[0,1,0,0,0,0]) hE04 rfl ⟨s1,a1,n1,e1,b1,m1,d1,rfl,HS1,hx4,hy4⟩
     have hE05:=hE04.alloc (.cells (entL [0,1,0,0,0,0] s1 a1 n1 e1 b1 m1 d1).toArray 95)
     have hWR:=poly_write (vars:=vn) (w0:=w0) (hT.ext hE0) hE05 hEO (by omega) (by intro t ht; simp only [List.mem_singleton] at ht; subst ht; exact ⟨rfl,by simp⟩) (by intro t ht; simp only [List.mem_singleton] at ht; subst ht; exact strOK_small (by decide) (by decide)) (by omega)
     have HWR:=qh hWR
     clear hWR hEO hE05 hB4
     go_wp2_with fail
     refine HWR.out.mono ?_
     intro e w7 hw
     have hq:=RetWr.q (p:=[(unitE 1,1)]) hw (nrm_one rfl (by decide)) (fun _=>rfl)
     obtain ⟨rr,HRR⟩:∃ r,Hid (resQ (vn:Int) [(unitE 1,1)]=r):=⟨_,qh rfl⟩
     rw [HRR.out] at hq
     obtain ⟨a7,n7,c7,rfl,hE7,hO7⟩:=hq
     have hpv:polyV rr.1 a7 n7 c7 = .agg #[.int .i64 rr.1, .slice a7 n7 c7]:=rfl
     rw [hpv]
     have hpl:(polyL rr.1 a7 n7 c7).toArray=#[.int .i64 rr.1, .slice a7 n7 c7]:=rfl
     have hR7:=hR.ext hE7
     clear hw HWR dd0 dd1 dd2 dd3 dd4 dd5 dd6 dd7 dd8 dd9
     go_wp2_with (refine wl_stArr (vs:=polyL rr.1 a7 n7 c7) rfl rfl rfl rfl rfl agg_Poly hR7 rfl (polyL_one _ _ _ _) ?_; intro w8 hB8 hg8)
     refine bodyPost_ret (res_ct rfl agg_Poly rfl rfl hB8) rfl ?_
     exact Or.inl ⟨by omega,by omega,by omega,by omega,by show RetA3 w (resQ (vn:Int) [(unitE 1,1)]) _ _; rw [HRR.out]; exact retP_end hE0 hE7 hO7 hR7 hg8 (Nat.le_refl _)⟩
   · have ff:=hB3.frozen 2
     have hB4:Arr (w3.setCell ⟨X,2,none⟩ (.int .i64 1)) X 95 (entL [0,0,1,0,0,0] s1 a1 n1 e1 b1 m1 d1):=hB3.set 2 (.int .i64 1)
     have hgs:=grown_setCell w3 X 2 (.int .i64 1)
     have hU:=hB3.noU entL_nu
     have hx4:=hx3.keptU hU hgs
     have hy4:=hy3.keptU hU hgs
     have hE04:=hE03.grownR hgs hX
     go_upto_region 5 with (fail)
     clear cc0 cc1 cc2 cc3 cc4 cc5 cc6 cc7 cc8 cc9 ff hgs hU hB3 hx3 hy3 hE03
     generalize w3.setCell ⟨X,2,none⟩ (.int .i64 1)=w4 at *
     have dd0:w4.cell? ⟨X,0,none⟩=some (.int .i64 0):=hB4.cell (i:=0) (by simp [entL,ratL,intL])
     have dd1:w4.cell? ⟨X,1,none⟩=some (.int .i64 0):=hB4.cell (i:=1) (by simp [entL,ratL,intL])
     have dd2:w4.cell? ⟨X,2,none⟩=some (.int .i64 1):=hB4.cell (i:=2) (by simp [entL,ratL,intL])
     have dd3:w4.cell? ⟨X,3,none⟩=some (.int .i64 0):=hB4.cell (i:=3) (by simp [entL,ratL,intL])
     have dd4:w4.cell? ⟨X,4,none⟩=some (.int .i64 0):=hB4.cell (i:=4) (by simp [entL,ratL,intL])
     have dd5:w4.cell? ⟨X,5,none⟩=some (.int .i64 0):=hB4.cell (i:=5) (by simp [entL,ratL,intL])
     have dd6:w4.cell? ⟨X,6,none⟩=some (.bool s1):=hB4.cell (i:=6) (by simp [entL,ratL,intL])
     have dd7:w4.cell? ⟨X,7,none⟩=some (.slice a1 n1 e1):=hB4.cell (i:=7) (by simp [entL,ratL,intL])
     have dd8:w4.cell? ⟨X,8,none⟩=some (.bool false):=hB4.cell (i:=8) (by simp [entL,ratL,intL])
     have dd9:w4.cell? ⟨X,9,none⟩=some (.slice b1 m1 d1):=hB4.cell (i:=9) (by simp [entL,ratL,intL])
     have hEO:=entO_lit (e:=[0,0,1,0,0,0]) hE04 rfl ⟨s1,a1,n1,e1,b1,m1,d1,rfl,HS1,hx4,hy4⟩
     have hE05:=hE04.alloc (.cells (entL [0,0,1,0,0,0] s1 a1 n1 e1 b1 m1 d1).toArray 95)
     have hWR:=poly_write (vars:=vn) (w0:=w0) (hT.ext hE0) hE05 hEO (by omega) (by intro t ht; simp only [List.mem_singleton] at ht; subst ht; exact ⟨rfl,by simp⟩) (by intro t ht; simp only [List.mem_singleton] at ht; subst ht; exact strOK_small (by decide) (by decide)) (by omega)
     have HWR:=qh hWR
     clear hWR hEO hE05 hB4
     go_wp2_with fail
     refine HWR.out.mono ?_
     intro e w7 hw
     have hq:=RetWr.q (p:=[(unitE 2,1)]) hw (nrm_one rfl (by decide)) (fun _=>rfl)
     obtain ⟨rr,HRR⟩:∃ r,Hid (resQ (vn:Int) [(unitE 2,1)]=r):=⟨_,qh rfl⟩
     rw [HRR.out] at hq
     obtain ⟨a7,n7,c7,rfl,hE7,hO7⟩:=hq
     have hpv:polyV rr.1 a7 n7 c7 = .agg #[.int .i64 rr.1, .slice a7 n7 c7]:=rfl
     rw [hpv]
     have hpl:(polyL rr.1 a7 n7 c7).toArray=#[.int .i64 rr.1, .slice a7 n7 c7]:=rfl
     have hR7:=hR.ext hE7
     clear hw HWR dd0 dd1 dd2 dd3 dd4 dd5 dd6 dd7 dd8 dd9
     go_wp2_with (refine wl_stArr (vs:=polyL rr.1 a7 n7 c7) rfl rfl rfl rfl rfl agg_Poly hR7 rfl (polyL_one _ _ _ _) ?_; intro w8 hB8 hg8)
     refine bodyPost_ret (res_ct rfl agg_Poly rfl rfl hB8) rfl ?_
     exact Or.inl ⟨by omega,by omega,by omega,by omega,by show RetA3 w (resQ (vn:Int) [(unitE 2,1)]) _ _; rw [HRR.out]; exact retP_end hE0 hE7 hO7 hR7 hg8 (Nat.le_refl _)⟩
   · have ff:=hB3.frozen 3
     have hB4:Arr (w3.setCell ⟨X,3,none⟩ (.int .i64 1)) X 95 (entL [0,0,0,1,0,0] s1 a1 n1 e1 b1 m1 d1):=hB3.set 3 (.int .i64 1)
     have hgs:=grown_setCell w3 X 3 (.int .i64 1)
     have hU:=hB3.noU entL_nu
     have hx4:=hx3.keptU hU hgs
     have hy4:=hy3.keptU hU hgs
     have hE04:=hE03.grownR hgs hX
     go_upto_region 5 with (fail)
     clear cc0 cc1 cc2 cc3 cc4 cc5 cc6 cc7 cc8 cc9 ff hgs hU hB3 hx3 hy3 hE03
     generalize w3.setCell ⟨X,3,none⟩ (.int .i64 1)=w4 at *
     have dd0:w4.cell? ⟨X,0,none⟩=some (.int .i64 0):=hB4.cell (i:=0) (by simp [entL,ratL,intL])
     have dd1:w4.cell? ⟨X,1,none⟩=some (.int .i64 0):=hB4.cell (i:=1) (by simp [entL,ratL,intL])
     have dd2:w4.cell? ⟨X,2,none⟩=some (.int .i64 0):=hB4.cell (i:=2) (by simp [entL,ratL,intL])
     have dd3:w4.cell? ⟨X,3,none⟩=some (.int .i64 1):=hB4.cell (i:=3) (by simp [entL,ratL,intL])
     have dd4:w4.cell? ⟨X,4,none⟩=some (.int .i64 0):=hB4.cell (i:=4) (by simp [entL,ratL,intL])
     have dd5:w4.cell? ⟨X,5,none⟩=some (.int .i64 0):=hB4.cell (i:=5) (by simp [entL,ratL,intL])
     have dd6:w4.cell? ⟨X,6,none⟩=some (.bool s1):=hB4.cell (i:=6) (by simp [entL,ratL,intL])
     have dd7:w4.cell? ⟨X,7,none⟩=some (.slice a1 n1 e1):=hB4.cell (i:=7) (by simp [entL,ratL,intL])
     have dd8:w4.cell? ⟨X,8,none⟩=some (.bool false):=hB4.cell (i:=8) (by simp [entL,ratL,intL])
     have dd9:w4.cell? ⟨X,9,none⟩=some (.slice b1 m1 d1):=hB4.cell (i:=9) (by simp [entL,ratL,intL])
     have hEO:=entO_lit (e:=[0,0,0,1,0,0]) hE04 rfl ⟨s1,a1,n1,e1,b1,m1,d1,rfl,HS1,hx4,hy4⟩
     have hE05:=hE04.alloc (.cells (entL [0,0,0,1,0,0] s1 a1 n1 e1 b1 m1 d1).toArray 95)
     have hWR:=poly_write (vars:=vn) (w0:=w0) (hT.ext hE0) hE05 hEO (by omega) (by intro t ht; simp only [List.mem_singleton] at ht; subst ht; exact ⟨rfl,by simp⟩) (by intro t ht; simp only [List.mem_singleton] at ht; subst ht; exact strOK_small (by decide) (by decide)) (by omega)
     have HWR:=qh hWR
     clear hWR hEO hE05 hB4
     go_wp2_with fail
     refine HWR.out.mono ?_
     intro e w7 hw
     have hq:=RetWr.q (p:=[(unitE 3,1)]) hw (nrm_one rfl (by decide)) (fun _=>rfl)
     obtain ⟨rr,HRR⟩:∃ r,Hid (resQ (vn:Int) [(unitE 3,1)]=r):=⟨_,qh rfl⟩
     rw [HRR.out] at hq
     obtain ⟨a7,n7,c7,rfl,hE7,hO7⟩:=hq
     have hpv:polyV rr.1 a7 n7 c7 = .agg #[.int .i64 rr.1, .slice a7 n7 c7]:=rfl
     rw [hpv]
     have hpl:(polyL rr.1 a7 n7 c7).toArray=#[.int .i64 rr.1, .slice a7 n7 c7]:=rfl
     have hR7:=hR.ext hE7
     clear hw HWR dd0 dd1 dd2 dd3 dd4 dd5 dd6 dd7 dd8 dd9
     go_wp2_with (refine wl_stArr (vs:=polyL rr.1 a7 n7 c7) rfl rfl rfl rfl rfl agg_Poly hR7 rfl (polyL_one _ _ _ _) ?_; intro w8 hB8 hg8)
     refine bodyPost_ret (res_ct rfl agg_Poly rfl rfl hB8) rfl ?_
     exact Or.inl ⟨by omega,by omega,by omega,by omega,by show RetA3 w (resQ (vn:Int) [(unitE 3,1)]) _ _; rw [HRR.out]; exact retP_end hE0 hE7 hO7 hR7 hg8 (Nat.le_refl _)⟩
   · have ff:=hB3.frozen 4
     have hB4:Arr (w3.setCell ⟨X,4,none⟩ (.int .i64 1)) X 95 (entL [0,0,0,0,1,0] s1 a1 n1 e1 b1 m1 d1):=hB3.set 4 (.int .i64 1)
     have hgs:=grown_setCell w3 X 4 (.int .i64 1)
     have hU:=hB3.noU entL_nu
     have hx4:=hx3.keptU hU hgs
     have hy4:=hy3.keptU hU hgs
     have hE04:=hE03.grownR hgs hX
     go_upto_region 5 with (fail)
     clear cc0 cc1 cc2 cc3 cc4 cc5 cc6 cc7 cc8 cc9 ff hgs hU hB3 hx3 hy3 hE03
     generalize w3.setCell ⟨X,4,none⟩ (.int .i64 1)=w4 at *
     have dd0:w4.cell? ⟨X,0,none⟩=some (.int .i64 0):=hB4.cell (i:=0) (by simp [entL,ratL,intL])
     have dd1:w4.cell? ⟨X,1,none⟩=some (.int .i64 0):=hB4.cell (i:=1) (by simp [entL,ratL,intL])
     have dd2:w4.cell? ⟨X,2,none⟩=some (.int .i64 0):=hB4.cell (i:=2) (by simp [entL,ratL,intL])
     have dd3:w4.cell? ⟨X,3,none⟩=some (.int .i64 0):=hB4.cell (i:=3) (by simp [entL,ratL,intL])
     have dd4:w4.cell? ⟨X,4,none⟩=some (.int .i64 1):=hB4.cell (i:=4) (by simp [entL,ratL,intL])
     have dd5:w4.cell? ⟨X,5,none⟩=some (.int .i64 0):=hB4.cell (i:=5) (by simp [entL,ratL,intL])
     have dd6:w4.cell? ⟨X,6,none⟩=some (.bool s1):=hB4.cell (i:=6) (by simp [entL,ratL,intL])
     have dd7:w4.cell? ⟨X,7,none⟩=some (.slice a1 n1 e1):=hB4.cell (i:=7) (by simp [entL,ratL,intL])
     have dd8:w4.cell? ⟨X,8,none⟩=some (.bool false):=hB4.cell (i:=8) (by simp [entL,ratL,intL])
     have dd9:w4.cell? ⟨X,9,none⟩=some (.slice b1 m1 d1):=hB4.cell (i:=9) (by simp [entL,ratL,intL])
     have hEO:=entO_lit (e:=[0,0,0,0,1,0]) hE04 rfl ⟨s1,a1,n1,e1,b1,m1,d1,rfl,HS1,hx4,hy4⟩
     have hE05:=hE04.alloc (.cells (entL [0,0,0,0,1,0] s1 a1 n1 e1 b1 m1 d1).toArray 95)
     have hWR:=poly_write (vars:=vn) (w0:=w0) (hT.ext hE0) hE05 hEO (by omega) (by intro t ht; simp only [List.mem_singleton] at ht; subst ht; exact ⟨rfl,by simp⟩) (by intro t ht; simp only [List.mem_singleton] at ht; subst ht; exact strOK_small (by decide) (by decide)) (by omega)
     have HWR:=qh hWR
     clear hWR hEO hE05 hB4
     go_wp2_with fail
     refine HWR.out.mono ?_
     intro e w7 hw
     have hq:=RetWr.q (p:=[(unitE 4,1)]) hw (nrm_one rfl (by decide)) (fun _=>rfl)
     obtain ⟨rr,HRR⟩:∃ r,Hid (resQ (vn:Int) [(unitE 4,1)]=r):=⟨_,qh rfl⟩
     rw [HRR.out] at hq
     obtain ⟨a7,n7,c7,rfl,hE7,hO7⟩:=hq
     have hpv:polyV rr.1 a7 n7 c7 = .agg #[.int .i64 rr.1, .slice a7 n7 c7]:=rfl
     rw [hpv]
     have hpl:(polyL rr.1 a7 n7 c7).toArray=#[.int .i64 rr.1, .slice a7 n7 c7]:=rfl
     have hR7:=hR.ext hE7
     clear hw HWR dd0 dd1 dd2 dd3 dd4 dd5 dd6 dd7 dd8 dd9
     go_wp2_with (refine wl_stArr (vs:=polyL rr.1 a7 n7 c7) rfl rfl rfl rfl rfl agg_Poly hR7 rfl (polyL_one _ _ _ _) ?_; intro w8 hB8 hg8)
     refine bodyPost_ret (res_ct rfl agg_Poly rfl rfl hB8) rfl ?_
     exact Or.inl ⟨by omega,by omega,by omega,by omega,by show RetA3 w (resQ (vn:Int) [(unitE 4,1)]) _ _; rw [HRR.out]; exact retP_end hE0 hE7 hO7 hR7 hg8 (Nat.le_refl _)⟩
   · have ff:=hB3.frozen 5
     have hB4:Arr (w3.setCell ⟨X,5,none⟩ (.int .i64 1)) X 95 (entL [0,0,0,0,0,1] s1 a1 n1 e1 b1 m1 d1):=hB3.set 5 (.int .i64 1)
     have hgs:=grown_setCell w3 X 5 (.int .i64 1)
     have hU:=hB3.noU entL_nu
     have hx4:=hx3.keptU hU hgs
     have hy4:=hy3.keptU hU hgs
     have hE04:=hE03.grownR hgs hX
     go_upto_region 5 with (fail)
     clear cc0 cc1 cc2 cc3 cc4 cc5 cc6 cc7 cc8 cc9 ff hgs hU hB3 hx3 hy3 hE03
     generalize w3.setCell ⟨X,5,none⟩ (.int .i64 1)=w4 at *
     have dd0:w4.cell? ⟨X,0,none⟩=some (.int .i64 0):=hB4.cell (i:=0) (by simp [entL,ratL,intL])
     have dd1:w4.cell? ⟨X,1,none⟩=some (.int .i64 0):=hB4.cell (i:=1) (by simp [entL,ratL,intL])
     have dd2:w4.cell? ⟨X,2,none⟩=some (.int .i64 0):=hB4.cell (i:=2) (by simp [entL,ratL,intL])
     have dd3:w4.cell? ⟨X,3,none⟩=some (.int .i64 0):=hB4.cell (i:=3) (by simp [entL,ratL,intL])
     have dd4:w4.cell? ⟨X,4,none⟩=some (.int .i64 0):=hB4.cell (i:=4) (by simp [entL,ratL,intL])
     have dd5:w4.cell? ⟨X,5,none⟩=some (.int .i64 1):=hB4.cell (i:=5) (by simp [entL,ratL,intL])
     have dd6:w4.cell? ⟨X,6,none⟩=some (.bool s1):=hB4.cell (i:=6) (by simp [entL,ratL,intL])
     have dd7:w4.cell? ⟨X,7,none⟩=some (.slice a1 n1 e1):=hB4.cell (i:=7) (by simp [entL,ratL,intL])
     have dd8:w4.cell? ⟨X,8,none⟩=some (.bool false):=hB4.cell (i:=8) (by simp [entL,ratL,intL])
     have dd9:w4.cell? ⟨X,9,none⟩=some (.slice b1 m1 d1):=hB4.cell (i:=9) (by simp [entL,ratL,intL])
     have hEO:=entO_lit (e:=[0,0,0,0,0,1]) hE04 rfl ⟨s1,a1,n1,e1,b1,m1,d1,rfl,HS1,hx4,hy4⟩
     have hE05:=hE04.alloc (.cells (entL [0,0,0,0,0,1] s1 a1 n1 e1 b1 m1 d1).toArray 95)
     have hWR:=poly_write (vars:=vn) (w0:=w0) (hT.ext hE0) hE05 hEO (by omega) (by intro t ht; simp only [List.mem_singleton] at ht; subst ht; exact ⟨rfl,by simp⟩) (by intro t ht; simp only [List.mem_singleton] at ht; subst ht; exact strOK_small (by decide) (by decide)) (by omega)
     have HWR:=qh hWR
     clear hWR hEO hE05 hB4
     go_wp2_with fail
     refine HWR.out.mono ?_
     intro e w7 hw
     have hq:=RetWr.q (p:=[(unitE 5,1)]) hw (nrm_one rfl (by decide)) (fun _=>rfl)
     obtain ⟨rr,HRR⟩:∃ r,Hid (resQ (vn:Int) [(unitE 5,1)]=r):=⟨_,qh rfl⟩
     rw [HRR.out] at hq
     obtain ⟨a7,n7,c7,rfl,hE7,hO7⟩:=hq
     have hpv:polyV rr.1 a7 n7 c7 = .agg #[.int .i64 rr.1, .slice a7 n7 c7]:=rfl
     rw [hpv]
     have hpl:(polyL rr.1 a7 n7 c7).toArray=#[.int .i64 rr.1, .slice a7 n7 c7]:=rfl
     have hR7:=hR.ext hE7
     clear hw HWR dd0 dd1 dd2 dd3 dd4 dd5 dd6 dd7 dd8 dd9
     go_wp2_with (refine wl_stArr (vs:=polyL rr.1 a7 n7 c7) rfl rfl rfl rfl rfl agg_Poly hR7 rfl (polyL_one _ _ _ _) ?_; intro w8 hB8 hg8)
     refine bodyPost_ret (res_ct rfl agg_Poly rfl rfl hB8) rfl ?_
     exact Or.inl ⟨by omega,by omega,by omega,by omega,by show RetA3 w (resQ (vn:Int) [(unitE 5,1)]) _ _; rw [HRR.out]; exact retP_end hE0 hE7 hO7 hR7 hg8 (Nat.le_refl _)⟩
 · have HF:Hid (∀ e w',RetP w 0 [] 3 e w'→RetVar w vars i e w'):=qh (fun e w' h=>Or.inr ⟨hok,h⟩)
   have hcase:vars<0∨(¬ vars<0∧6<vars)∨(¬ vars<0∧¬ 6<vars∧i<0)∨(¬ vars<0∧¬ 6<vars∧¬ i<0∧vars≤i):=by omega
   clear hok
   rcases hcase with h1|⟨h1,h2⟩|⟨h1,h2,h3⟩|⟨h1,h2,h3,h4⟩
   all_goals
    go_wp2_with (refine wl_stArr (vs:=polyL 0 none 0 0) rfl rfl rfl rfl rfl agg_Poly hR rfl (polyL_one _ _ _ _) ?_; intro w9 hB9 hg9)
    refine bodyPost_ret (res_ct rfl agg_Poly rfl rfl hB9) rfl ?_
    exact HF.out _ _ ⟨none,0,0,rfl,hE0.grownR hg9 (Nat.le_refl _),TmO.nil _ _⟩
end Go.Proofs.YtbiifaciddajnaaGreatDoor
