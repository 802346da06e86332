/- Part Rin37. -/
import Derived.Test.YtbiifaciddajnaaGreatDoorRin3
import Derived.Lib.Hide
import Derived.WalkKit
import Derived.Test.YtbiifaciddajnaaGreatDoorRin36
import Derived.Test.YtbiifaciddajnaaGreatDoorRin24
import Derived.Test.YtbiifaciddajnaaGreatDoorRin34
import Derived.ProofKit
import Derived.Lib.LaidTab
import Derived.Stop.LaidErr
import Derived.MakeChecks
import Derived.Test.YtbiifaciddajnaaGreatDoorRows
import Derived.Test.YtbiifaciddajnaaGreatDoorRin7
set_option maxRecDepth 100000
set_option maxHeartbeats 100000000
namespace Go.Proofs.YtbiifaciddajnaaGreatDoor
open Go Go.RowKit
theorem mod_lem {n m:Int} (hm:0<m):(n.tmod m<0→n.tmod m+m=n%m)∧(¬ n.tmod m<0→n.tmod m=n%m) ∧ -m<n.tmod m∧n.tmod m<m:=by
 have e:n%m=(n.tmod m)%m:=by
  have h:=Int.mul_tdiv_add_tmod n m
  generalize n.tdiv m=q at *
  generalize n.tmod m=r at *
  rw [←h,Int.mul_add_emod_self_left]
 have l1:n.tmod m<m:=Int.tmod_lt_of_pos n hm
 have l2 : -m<n.tmod m:=by
  have h:=Int.tmod_lt_of_pos (-n) hm
  rw [Int.neg_tmod] at h
  omega
 generalize n.tmod m=r at *
 refine ⟨fun h => ?_,fun h => ?_,l2,l1⟩
 · rw [e,←Int.add_emod_right,Int.emod_eq_of_lt (by omega) (by omega)]
 · rw [e,Int.emod_eq_of_lt (by omega) (by omega)]
theorem ret_int {k:IntKind} {a b:Int} (h:a=b):Ending.returned (.int k a) = .returned (.int k b):=by rw [h]
theorem keep_Mod {n m:Int} {w:World} (hm:0<m) (hm2:m≤9223372036854775807) :
 Calls Tryz.prog 45 #[.int .i64 n, .int .i64 m] w fun e w'=>e = .returned (.int .i64 (n%m))∧w'=w:=by
 have hne:(m == 0)=false:=by simp; omega
 obtain ⟨c1,c2,c3,c4⟩:=@mod_lem n m hm
 have C1:=qh c1
 have C2:=qh c2
 clear c1 c2
 go_enter Tryz.func45,Tryz.ntmps45
 go_wp2
 · go_ret
   exact ⟨ret_int (C1.out (by assumption)),rfl⟩
 · go_ret
   exact ⟨ret_int (C2.out (by omega)),rfl⟩
end Go.Proofs.YtbiifaciddajnaaGreatDoor
namespace Go.Proofs.YtbiifaciddajnaaGreatDoor
open Go Go.RowKit
theorem law_PolyDerivative {va vb i k:Int} {a b:Option Addr} {na ca nb cb:Nat} {ta tb:List Tx} {w:World} (hT:Tabs w) (hwv:va≤9223372036854775807) (ha:TmSl w a na ca ta) (hb:TmSl w b nb cb tb) :
 Calls Tryz.prog 8 #[.agg #[.int .i64 va, .slice a na ca], .agg #[.int .i64 vb, .slice b nb cb], .int .i64 i, .int .i64 k] w (RetTrue w):=by
 have haw:=fun (wx:World) (hC:Ext w wx)=>qh (law_awake (hT.ext hC))
 go_enter Tryz.func8,Tryz.ntmps8
 go_upto_region 1 with (fail)
 refine box2 ?_
 intro w0 hE0 hB0 hB1 hz0
 have HP:=(PBx.one hE0 hB0 ha).app (PBx.one hE0 hB1 hb)
 clear hE0 hB0 hB1 hz0 ha hb
 by_cases s1:smallP ta 5 8
 rotate_left
 · obtain ⟨x00,x01⟩:=HP.c (i:=0) rfl
   have hcl:=qh (keep_SmallPoly (va:=va) (nt:=5) (d:=8) (HP.t (i:=0) rfl))
   rw [decide_eq_false s1] at hcl
   clear s1
   go_wp2_with fail
   refine hcl.out.mono ?_
   rintro e w11 ⟨rfl,hF⟩
   replace HP:=HP.ext hF
   clear hcl hF x00 x01
   go_wp2_with fail
   refine (haw _ HP.e).out.mono ?_
   rintro e w12 ⟨rfl,hF⟩
   go_wp2
   go_ret
   exact ⟨rfl,HP.e.trans hF⟩
 obtain ⟨x00,x01⟩:=HP.c (i:=0) rfl
 have hcl:=qh (keep_SmallPoly (va:=va) (nt:=5) (d:=8) (HP.t (i:=0) rfl))
 rw [decide_eq_true s1] at hcl
 have HS1:=qh s1
 clear s1
 go_wp2_with fail
 refine hcl.out.mono ?_
 rintro e w13 ⟨rfl,hF⟩
 replace HP:=HP.ext hF
 clear hcl hF x00 x01
 by_cases s2:smallP tb 5 8
 rotate_left
 · obtain ⟨x10,x11⟩:=HP.c (i:=1) rfl
   have hcl:=qh (keep_SmallPoly (va:=vb) (nt:=5) (d:=8) (HP.t (i:=1) rfl))
   rw [decide_eq_false s2] at hcl
   clear s2
   go_wp2_with fail
   refine hcl.out.mono ?_
   rintro e w14 ⟨rfl,hF⟩
   replace HP:=HP.ext hF
   clear hcl hF x10 x11
   go_wp2_with fail
   refine (haw _ HP.e).out.mono ?_
   rintro e w15 ⟨rfl,hF⟩
   go_wp2
   go_ret
   exact ⟨rfl,HP.e.trans hF⟩
 obtain ⟨x10,x11⟩:=HP.c (i:=1) rfl
 have hcl:=qh (keep_SmallPoly (va:=vb) (nt:=5) (d:=8) (HP.t (i:=1) rfl))
 rw [decide_eq_true s2] at hcl
 have HS2:=qh s2
 clear s2
 go_wp2_with fail
 refine hcl.out.mono ?_
 rintro e w16 ⟨rfl,hF⟩
 replace HP:=HP.ext hF
 clear hcl hF x10 x11
 by_cases hv1:va<1
 · obtain ⟨x00,x01⟩:=HP.c (i:=0) rfl
   go_wp2_with fail
   refine (haw _ HP.e).out.mono ?_
   rintro e w17 ⟨rfl,hF⟩
   go_wp2
   go_ret
   exact ⟨rfl,HP.e.trans hF⟩
 obtain ⟨x00,x01⟩:=HP.c (i:=0) rfl
 obtain ⟨x10,x11⟩:=HP.c (i:=1) rfl
 by_cases hvv:va=vb
 rotate_left
 · have qv:(va != vb)=true:=by simpa using hvv
   clear hvv
   go_wp2_with fail
   refine (haw _ HP.e).out.mono ?_
   rintro e w18 ⟨rfl,hF⟩
   go_wp2
   go_ret
   exact ⟨rfl,HP.e.trans hF⟩
 subst hvv
 have qv:(va != va)=false:=by simp
 have hm1:0<va:=by omega
 have hmd:=fun (n:Int) (wx:World)=>qh (keep_Mod (n:=n) (m:=va) (w:=wx) hm1 hwv)
 have hi1:=Int.emod_nonneg i (b:=va) (by omega)
 have hi2:=Int.emod_lt_of_pos i hm1
 have hk1:=Int.emod_nonneg k (b:=va) (by omega)
 have hk2:=Int.emod_lt_of_pos k hm1
 have HI:=qh (And.intro hi1 hi2)
 have HK:=qh (And.intro hk1 hk2)
 clear hi1 hi2 hk1 hk2 hwv
 go_wp2_with fail
 go_quiet ((go_at_call 45; exact Calls.quiet_of_same (hmd _ _).out))
 replace HP:=HP.ext ((Ext.refl _).drewN nq)
 generalize World.drewN w16 nq=wq at *
 obtain ⟨ii,hii⟩:∃ j,i%va=j:=⟨_,rfl⟩
 obtain ⟨kk,hkk⟩:∃ j,k%va=j:=⟨_,rfl⟩
 rw [hii] at HI ⊢
 rw [hkk] at HK ⊢
 clear hmd hii hkk x00 x01 x10 x11 qv hm1
 obtain ⟨⟨v3,t3,e3⟩,h3⟩:∃ r,mulA va va (rdP va ta) (rdP va tb)=r:=⟨_,rfl⟩
 have H3:=qh h3
 clear h3
 obtain ⟨⟨v4,t4,e4⟩,h4⟩:∃ r,derA va ii (rdP va ta)=r:=⟨_,rfl⟩
 have H4:=qh h4
 clear h4
 obtain ⟨⟨v5,t5,e5⟩,h5⟩:∃ r,derA va ii (rdP va tb)=r:=⟨_,rfl⟩
 have H5:=qh h5
 clear h5
 obtain ⟨x00,x01⟩:=HP.c (i:=0) rfl
 obtain ⟨x10,x11⟩:=HP.c (i:=1) rfl
 have hcl:=qh (poly_MulV H3.out (hT.ext HP.e) (HP.t (i:=0) rfl) (HP.t (i:=1) rfl) (small570 HS1.out (by omega)) (small570 HS2.out (by omega)) (der_mul HS1.out HS2.out))
 go_wp2_with fail
 refine hcl.out.mono ?_
 rintro e w19 ⟨a19,n19,c19,rfl,hF,hO⟩
 have hY:=Arr.new w19 24 (polyL 0 none 0 0)
 clear hcl x00 x01 x10 x11
 go_upto_region 5 with (refine wl_stPo rfl rfl rfl rfl hY rfl ?_; intro w19' hB hg)
 replace HP:=HP.new hF hO hB hg
 clear hY hB hg hF hO
 obtain ⟨x00,x01⟩:=HP.c (i:=0) rfl
 have hcl:=qh (poly_DeriveV H4.out (hT.ext HP.e) (HP.t (i:=0) rfl) (small570 HS1.out (by omega)) (der_ok HS1.out ii))
 go_wp2_with fail
 refine hcl.out.mono ?_
 rintro e w20 ⟨a20,n20,c20,rfl,hF,hO⟩
 have hY:=Arr.new w20 24 (polyL 0 none 0 0)
 clear hcl x00 x01
 go_upto_region 6 with (refine wl_stPo rfl rfl rfl rfl hY rfl ?_; intro w20' hB hg)
 replace HP:=HP.new hF hO hB hg
 clear hY hB hg hF hO
 obtain ⟨x10,x11⟩:=HP.c (i:=1) rfl
 have hcl:=qh (poly_DeriveV H5.out (hT.ext HP.e) (HP.t (i:=1) rfl) (small570 HS2.out (by omega)) (der_ok HS2.out ii))
 go_wp2_with fail
 refine hcl.out.mono ?_
 rintro e w21 ⟨a21,n21,c21,rfl,hF,hO⟩
 have hY:=Arr.new w21 24 (polyL 0 none 0 0)
 clear hcl x10 x11
 go_upto_region 7 with (refine wl_stPo rfl rfl rfl rfl hY rfl ?_; intro w21' hB hg)
 replace HP:=HP.new hF hO hB hg
 clear hY hB hg hF hO
 by_cases z3:e3=0
 rotate_left
 · have q3:(e3 != 0)=true:=by simpa using z3
   clear z3
   go_wp2_with fail
   refine (haw _ HP.e).out.mono ?_
   rintro e w22 ⟨rfl,hF⟩
   go_wp2
   go_ret
   exact ⟨rfl,HP.e.trans hF⟩
 subst z3
 by_cases z4:e4=0
 rotate_left
 · have q4:(e4 != 0)=true:=by simpa using z4
   clear z4
   go_wp2_with fail
   refine (haw _ HP.e).out.mono ?_
   rintro e w23 ⟨rfl,hF⟩
   go_wp2
   go_ret
   exact ⟨rfl,HP.e.trans hF⟩
 subst z4
 by_cases z5:e5=0
 rotate_left
 · have q5:(e5 != 0)=true:=by simpa using z5
   clear z5
   go_wp2_with fail
   refine (haw _ HP.e).out.mono ?_
   rintro e w24 ⟨rfl,hF⟩
   go_wp2
   go_ret
   exact ⟨rfl,HP.e.trans hF⟩
 subst z5
 have DS:=derS HS1.out HS2.out HI.out HK.out H3.out H4.out H5.out
 obtain ⟨g1,g2,g3⟩:=DS.v
 subst g1 g2 g3
 obtain ⟨t6,t7,t8,t9,t10,f1,f2,f3,f4,f5,f6,f7,f8,f9,f10,f11,f12⟩:=DS.out
 have F1:=qh f1
 have F2:=qh f2
 have F3:=qh f3
 have F4:=qh f4
 have F5:=qh (And.intro f5 f6)
 have F7:=qh f7
 have F8:=qh f8
 have F9:=qh f9
 have F10:=qh f10
 have F11:=qh (And.intro f11 f12)
 clear f1 f2 f3 f4 f5 f6 f7 f8 f9 f10 f11 f12
 obtain ⟨x20,x21⟩:=HP.c (i:=2) rfl
 have hcl:=qh (poly_DeriveV F1.out (hT.ext HP.e) (HP.t (i:=2) rfl) DS.x3 DS.o3)
 go_wp2_with fail
 refine hcl.out.mono ?_
 rintro e w25 ⟨a25,n25,c25,rfl,hF,hO⟩
 have hY:=Arr.new w25 24 (polyL 0 none 0 0)
 clear hcl x20 x21
 go_upto_region 10 with (refine wl_stPo rfl rfl rfl rfl hY rfl ?_; intro w25' hB hg)
 replace HP:=HP.new hF hO hB hg
 clear hY hB hg hF hO
 obtain ⟨x10,x11⟩:=HP.c (i:=1) rfl
 obtain ⟨x30,x31⟩:=HP.c (i:=3) rfl
 have hcl:=qh (poly_MulV F2.out (hT.ext HP.e) (HP.t (i:=3) rfl) (HP.t (i:=1) rfl) DS.x4 (small570 HS2.out (by omega)) DS.m4)
 go_wp2_with fail
 refine hcl.out.mono ?_
 rintro e w26 ⟨a26,n26,c26,rfl,hF,hO⟩
 have hY:=Arr.new w26 24 (polyL 0 none 0 0)
 clear hcl x10 x11 x30 x31
 go_upto_region 11 with (refine wl_stPo rfl rfl rfl rfl hY rfl ?_; intro w26' hB hg)
 replace HP:=HP.new hF hO hB hg
 clear hY hB hg hF hO
 obtain ⟨x00,x01⟩:=HP.c (i:=0) rfl
 obtain ⟨x40,x41⟩:=HP.c (i:=4) rfl
 have hcl:=qh (poly_MulV F3.out (hT.ext HP.e) (HP.t (i:=0) rfl) (HP.t (i:=4) rfl) (small570 HS1.out (by omega)) DS.x5 DS.m5)
 go_wp2_with fail
 refine hcl.out.mono ?_
 rintro e w27 ⟨a27,n27,c27,rfl,hF,hO⟩
 have hY:=Arr.new w27 24 (polyL 0 none 0 0)
 clear hcl x00 x01 x40 x41
 go_upto_region 12 with (refine wl_stPo rfl rfl rfl rfl hY rfl ?_; intro w27' hB hg)
 replace HP:=HP.new hF hO hB hg
 clear hY hB hg hF hO
 obtain ⟨x60,x61⟩:=HP.c (i:=6) rfl
 obtain ⟨x70,x71⟩:=HP.c (i:=7) rfl
 have hcl:=qh (poly_AddV F4.out (hT.ext HP.e) (HP.t (i:=6) rfl) (HP.t (i:=7) rfl) F5.out.1 F5.out.2 (fun x y p q _=>F7.out x y p q trivial))
 go_wp2_with fail
 refine hcl.out.mono ?_
 rintro e w28 ⟨a28,n28,c28,rfl,hF,hO⟩
 have hY:=Arr.new w28 24 (polyL 0 none 0 0)
 clear hcl x60 x61 x70 x71
 go_upto_region 13 with (refine wl_stPo rfl rfl rfl rfl hY rfl ?_; intro w28' hB hg)
 replace HP:=HP.new hF hO hB hg
 clear hY hB hg hF hO
 obtain ⟨x50,x51⟩:=HP.c (i:=5) rfl
 obtain ⟨x80,x81⟩:=HP.c (i:=8) rfl
 have hcl:=qh (keep_Polys (va:=va) (vb:=va) (HP.t (i:=5) rfl) (HP.t (i:=8) rfl))
 rw [show decide (va=va∧t6=t6)=true by simp] at hcl
 go_wp2_with fail
 refine hcl.out.mono ?_
 rintro e w29 ⟨rfl,hF⟩
 replace HP:=HP.ext hF
 clear hcl hF x50 x51 x80 x81
 obtain ⟨x30,x31⟩:=HP.c (i:=3) rfl
 have hcl:=qh (poly_DeriveV F8.out (hT.ext HP.e) (HP.t (i:=3) rfl) DS.x4 DS.o4)
 go_wp2_with fail
 refine hcl.out.mono ?_
 rintro e w30 ⟨a30,n30,c30,rfl,hF,hO⟩
 have hY:=Arr.new w30 24 (polyL 0 none 0 0)
 clear hcl x30 x31
 go_upto_region 16 with (refine wl_stPo rfl rfl rfl rfl hY rfl ?_; intro w30' hB hg)
 replace HP:=HP.new hF hO hB hg
 clear hY hB hg hF hO
 obtain ⟨x00,x01⟩:=HP.c (i:=0) rfl
 have hcl:=qh (poly_DeriveV F9.out (hT.ext HP.e) (HP.t (i:=0) rfl) (small570 HS1.out (by omega)) (der_ok HS1.out kk))
 go_wp2_with fail
 refine hcl.out.mono ?_
 rintro e w31 ⟨a31,n31,c31,rfl,hF,hO⟩
 have hY:=Arr.new w31 24 (polyL 0 none 0 0)
 clear hcl x00 x01
 go_upto_region 17 with (refine wl_stPo rfl rfl rfl rfl hY rfl ?_; intro w31' hB hg)
 replace HP:=HP.new hF hO hB hg
 clear hY hB hg hF hO
 obtain ⟨x100,x101⟩:=HP.c (i:=10) rfl
 have hcl:=qh (poly_DeriveV F10.out (hT.ext HP.e) (HP.t (i:=10) rfl) F11.out.1 F11.out.2)
 go_wp2_with fail
 refine hcl.out.mono ?_
 rintro e w32 ⟨a32,n32,c32,rfl,hF,hO⟩
 have hY:=Arr.new w32 24 (polyL 0 none 0 0)
 clear hcl x100 x101
 go_upto_region 18 with (refine wl_stPo rfl rfl rfl rfl hY rfl ?_; intro w32' hB hg)
 replace HP:=HP.new hF hO hB hg
 clear hY hB hg hF hO
 obtain ⟨x90,x91⟩:=HP.c (i:=9) rfl
 obtain ⟨x110,x111⟩:=HP.c (i:=11) rfl
 have hcl:=qh (keep_Polys (va:=va) (vb:=va) (HP.t (i:=9) rfl) (HP.t (i:=11) rfl))
 rw [show decide (va=va∧t9=t9)=true by simp] at hcl
 go_wp2_with fail
 refine hcl.out.mono ?_
 rintro e w33 ⟨rfl,hF⟩
 replace HP:=HP.ext hF
 clear hcl hF x90 x91 x110 x111
 go_wp2_with fail
 refine (haw _ HP.e).out.mono ?_
 rintro e w34 ⟨rfl,hF⟩
 go_wp2
 go_ret
 exact ⟨rfl,HP.e.trans hF⟩
end Go.Proofs.YtbiifaciddajnaaGreatDoor
namespace Go.Proofs.YtbiifaciddajnaaGreatDoor
open Go Go.RowKit Go.ChangeShapes Go.WideShapes Go.ChangeAt
theorem spot_none {w:World} {x:Addr} {v:Value} (h:w.cell? x=some v):x.spot=none:=by
 unfold World.cell? at h
 split at h
 · cases hs:x.spot with
   | none=>rfl
   | some s=>rw [hs] at h; simp at h
 · cases h
theorem add_none {b off i:Nat}:Addr.add ⟨b,off,none⟩ i=⟨b,off+i,none⟩:=by
 unfold Addr.add
 split
 · next h=>subst h; rfl
 · rfl
theorem slI_row {w:World} {a:Option Addr} {len cap:Nat} {zs:List Int}
 (h:(a=none∧len=0∧cap=0∧zs=[])∨∃ x,a=some x∧len≤cap∧cap≤maxLen∧zs.length=cap∧(∀ i,i<zs.length→w.cell? (x.add i)=some (.int .i64 (zs.getD i 0)))) :
 SlI w a len cap (zs.take len):=by
 rcases h with ⟨rfl,rfl,rfl,rfl⟩|⟨x,rfl,h1,h2,h3,h4⟩
 · exact Sl.nil w
 · refine ⟨by simp; omega,h1,h2,fun hn => ?_⟩
   have h0:=h4 0 (by omega)
   have hs:x.spot=none:=spot_none (x:=x) (by simpa [Addr.add] using h0)
   obtain ⟨b,off,sp⟩:=x
   simp only at hs
   subst hs
   refine ⟨b,off,rfl,fun i hi => ?_⟩
   have:=h4 i (by omega)
   rw [add_none] at this
   rw [this]
   have hi':i<zs.length:=by omega
   simp [List.getD_eq_getElem?_getD,hi,hi']
theorem rows_build {Q:Nat→List Value→Tx→Prop}:∀ n:Nat,(∀ i,i<n→∃ r t,Q i r t)→∃ (rows:List (List Value)) (ts:List Tx),rows.length=n∧ts.length=n∧∀ i,i<n→Q i (rows.getD i []) (ts.getD i tm0)
 | 0,_=>⟨[],[],rfl,rfl,fun i hi=>absurd hi (by omega)⟩
 | n+1,h=>by
  obtain ⟨rows,ts,h1,h2,h3⟩:=rows_build n (fun i hi=>h i (by omega))
  obtain ⟨r,t,h4⟩:=h n (by omega)
  refine ⟨rows ++ [r],ts ++ [t],by simp [h1],by simp [h2],fun i hi => ?_⟩
  by_cases e:i=n
  · subst e
    have e1:(rows ++ [r]).getD i []=r:=by rw [List.getD_eq_getElem?_getD,List.getElem?_append_right (by omega),h1,Nat.sub_self]; rfl
    have e2:(ts ++ [t]).getD i tm0=t:=by rw [List.getD_eq_getElem?_getD,List.getElem?_append_right (by omega),h2,Nat.sub_self]; rfl
    rw [e1,e2]; exact h4
  · rw [List.getD_eq_getElem?_getD,List.getElem?_append_left (by omega),←List.getD_eq_getElem?_getD,List.getD_eq_getElem?_getD (l:=ts ++ [t]),List.getElem?_append_left (by omega),←List.getD_eq_getElem?_getD]
    exact h3 i (by omega)
theorem cells_at {w:World} {base k:Nat} {y:Addr} {cs:List Value} (h:w.cells? base y k=some cs):cs.length=k∧∀ j,j<k→∃ v,cs[j]?=some v∧w.cell? (y.add j)=some v:=by
 unfold World.cells? at h
 split at h
 · refine ⟨by have:=Lib.mapM_length h; simpa using this,fun j hj => ?_⟩
   obtain ⟨b,h1,h2⟩:=Lib.mapM_at h j j (by simp [hj])
   exact ⟨b,h1,h2⟩
 · cases h
theorem cells_Term:Tryz.prog.cellsOf 35=2:=by kernel_rfl
theorem cells_str:Tryz.prog.cellsOf 9=1:=by kernel_rfl
theorem cells_int:Tryz.prog.cellsOf 3=1:=by kernel_rfl
theorem cells_ints:Tryz.prog.cellsOf 33=1:=by kernel_rfl
theorem cells_terms:Tryz.prog.cellsOf 22=1:=by kernel_rfl
theorem open_intsL {H:Type} {enc:TypeId×Value→H} {w:World} {base:Nat} {held:Bool} {fuel:Nat} {cs:List Value} {x:DataW H×List MemPlace}
 (h:DataW.trod enc Tryz.prog w base (fun _=>true) held fuel 33 cs=some x):∃ a n c xs,cs=[.slice a n c]∧SlI w a n c xs:=by
 rcases open_ints Tryz.underlying33 Tryz.underlying3 cells_int h with ⟨hcs,_⟩|⟨y,l,c,zs,hcs,_,hl,hm,hz,_,hcell,hwz⟩
 · exact ⟨none,0,0,_,hcs,slI_row (zs:=[]) (.inl ⟨rfl,rfl,rfl,rfl⟩)⟩
 · exact ⟨_,_,_,_,hcs,slI_row (zs:=zs) (.inr ⟨_,rfl,hl,hm,by simpa using hz,hcell⟩)⟩
theorem open_terms {H:Type} {enc:TypeId×Value→H} {w:World} {base:Nat} {held:Bool} {fuel:Nat} {cs:List Value} {x:DataW H×List MemPlace}
 (h:DataW.trod enc Tryz.prog w base (fun _=>true) held fuel 22 cs=some x):∃ a n c ts,cs=[.slice a n c]∧TmSl w a n c ts:=by
 rcases DataW.trod_slice Tryz.underlying22 h with ⟨hcs,_⟩|⟨y,len,cap,elems,rest,fu,_,hcs,_,hb,hl,hm,hlen,hel,_,_⟩
 · exact ⟨none,0,0,[],hcs,[],SlK.nil w 2,rfl,fun i hi=>absurd hi (by omega)⟩
 · rw [cells_Term] at hel
   have key:∀ i,i<len→∃ (r:List Value) (t:Tx),r.length=2∧TmAt w r t∧∀ j,j<2→w.cell? ((y.add (i*2)).add j)=some (r.getD j undef):=by
    intro i hi
    have h1:=hel i hi
    rw [List.getElem?_eq_getElem (by omega),Option.bind_eq_some_iff] at h1
    obtain ⟨cs',h2,h3⟩:=h1
    obtain ⟨hc2,hcell⟩:=cells_at h2
    obtain ⟨y0,y1,k,_,_,u0,u1⟩:=trod_struct2 Tryz.underlying35 h3
    obtain ⟨s,e0,_,_⟩:=DataW.trod_string Tryz.underlying9 u0
    obtain ⟨a',n',c',xs,e1,hx⟩:=open_intsL u1
    have f0:(cs'.drop 0).take (Tryz.prog.cellsOf 9)=[.string s]:=e0
    have f1:(cs'.drop 1).take (Tryz.prog.cellsOf 33)=[.slice a' n' c']:=e1
    rw [cells_str] at f0
    rw [cells_ints] at f1
    clear e0 e1 u0 u1 h3
    match cs',hc2,f0,f1 with
    | [v0,v1],_,f0,f1 =>
     simp only [List.drop_zero,List.drop_succ_cons,List.take_succ_cons,List.take_zero,List.cons.injEq,and_true] at f0 f1
     subst f0
     subst f1
     refine ⟨[.string s, .slice a' n' c'],(strL s,xs),rfl,⟨s,a',n',c',rfl,rfl,hx⟩,fun j hj => ?_⟩
     obtain ⟨v,h4,h5⟩:=hcell j hj
     rw [h5,List.getD_eq_getElem?_getD,h4]
     rfl
   obtain ⟨rows,ts,h1,h2,h3⟩:=rows_build len key
   refine ⟨some y,len,cap,ts,hcs,rows,⟨h1,hl,hm,fun r hr => ?_,fun h0 => ?_⟩,h2,fun i hi=>(h3 i hi).2.1⟩
   · obtain ⟨i,hi,rfl⟩:=List.mem_iff_getElem.1 hr
     have:=(h3 i (by omega)).1
     simpa [List.getD_eq_getElem?_getD,hi] using this
   · have hs:y.spot=none:=by
      have h4:=(h3 0 h0).2.2 0 (by omega)
      have h5:=spot_none h4
      simpa [Addr.add] using h5
     obtain ⟨b,off,sp⟩:=y
     simp only at hs
     subst hs
     refine ⟨b,off,rfl,fun i hi j hj => ?_⟩
     have h4:=(h3 i hi).2.2 j hj
     rwa [add_none,add_none] at h4
theorem open_poly {H:Type} {enc:TypeId×Value→H} {w:World} {base:Nat} {held:Bool} {fuel:Nat} {cs:List Value} {x:DataW H×List MemPlace}
 (h:DataW.trod enc Tryz.prog w base (fun _=>true) held fuel 24 cs=some x):∃ va a n c ts,cs=[.int .i64 va, .slice a n c]∧(-9223372036854775808≤va∧va≤9223372036854775807)∧TmSl w a n c ts:=by
 obtain ⟨y0,y1,k,_,hl,u0,u1⟩:=trod_struct2 Tryz.underlying24 h
 obtain ⟨va,e0,_,hwf⟩:=DataW.trod_int Tryz.underlying3 u0
 have hwv : -9223372036854775808≤va∧va≤9223372036854775807:=by
  simp only [Lit.wf,Bool.and_eq_true,decide_eq_true_eq] at hwf
  exact hwf
 obtain ⟨a,n,c,ts,e1,hx⟩:=open_terms u1
 have hc:Tryz.prog.cellsOf 24=2:=by kernel_rfl
 rw [hc] at hl
 have f0:(cs.drop 0).take (Tryz.prog.cellsOf 3)=[.int .i64 va]:=e0
 have f1:(cs.drop 1).take (Tryz.prog.cellsOf 22)=[.slice a n c]:=e1
 rw [cells_int] at f0
 rw [cells_terms] at f1
 clear e0 e1 u0 u1 h
 match cs,hl,f0,f1 with
 | [v0,v1],_,f0,f1 =>
  simp only [List.drop_zero,List.drop_succ_cons,List.take_succ_cons,List.take_zero,List.cons.injEq,and_true] at f0 f1
  subst f0
  subst f1
  exact ⟨va,a,n,c,ts,rfl,hwv,hx⟩
end Go.Proofs.YtbiifaciddajnaaGreatDoor
namespace Go.Proofs.YtbiifaciddajnaaGreatDoor
open Go Go.RowKit
theorem g64:Tryz.prog.globalNamed "math/bits.deBruijn64tab" = some 1:=by kernel_rfl
theorem gTen:Tryz.prog.globalNamed "internal/strconv.uint64pow10" = some 0:=by kernel_rfl
theorem data64:(Rows.laid_math_bits_deBruijn64tab:DataW Unit)=Lib.tabData .u8 (Lib.deBruijn64tab.map Int.ofNat):=by kernel_rfl
theorem dataTen:(Rows.laid_internal_strconv_uint64pow10:DataW Unit)=Lib.tabData .u64 Lib.pow10Tab:=by kernel_rfl
theorem tabs_of {W:World} (h:laidMetH Tryz.prog [("math/bits.deBruijn32tab",Rows.laid_math_bits_deBruijn32tab),("math/bits.deBruijn64tab",Rows.laid_math_bits_deBruijn64tab),("internal/strconv.uint64pow10",Rows.laid_internal_strconv_uint64pow10)] W):Tabs W:=by
 rw [MakeChecks.laidMetH_plain _ _ _ (by kernel_rfl)] at h
 have h1:=laidMet.tail h
 have h2:=laidMet.tail h1
 rw [data64] at h1
 rw [dataTen] at h2
 have t1:=Lib.tabIs_of_head g64 (t:=296) (e:=5) (n:=64) (by kernel_rfl) Tryz.underlying296 Tryz.underlying5 (by kernel_rfl) (by kernel_rfl) h1
 have t2:=Lib.tabIs_of_head gTen (t:=286) (e:=221) (n:=20) (by kernel_rfl) Tryz.underlying286 Tryz.underlying221 (by kernel_rfl) (by kernel_rfl) h2
 refine ⟨fun j hj => ?_,t2⟩
 have h3:=t1.cell g64 j (by simpa using hj)
 rw [h3]
 simp [List.getD_eq_getElem?_getD,hj]
end Go.Proofs.YtbiifaciddajnaaGreatDoor
