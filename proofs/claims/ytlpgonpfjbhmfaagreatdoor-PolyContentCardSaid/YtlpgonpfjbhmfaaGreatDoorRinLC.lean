/- Part RinLC. -/
import Derived.Test.YtlpgonpfjbhmfaaGreatDoorRinCoq
set_option maxRecDepth 100000
set_option maxHeartbeats 100000000
namespace Go.Proofs.YtlpgonpfjbhmfaaGreatDoor
open Go Go.RowKit
theorem law_PolyContent {va vb:Int} {a b:Option Addr} {na ca nb cb:Nat} {ta tb:List Tx} {w:World} (hT:Tabs w) (ha:TmSl w a na ca ta) (hb:TmSl w b nb cb tb) :
 Calls Tryz.prog 4 #[.agg #[.int .i64 va, .slice a na ca], .agg #[.int .i64 vb, .slice b nb cb]] w (RetTrue w):=by
 have haw:=fun (wx:World) (hC:Ext w wx)=>qh (law_awake (hT.ext hC))
 go_enter Tryz.func4,Tryz.ntmps4
 go_upto_region 1 with (fail)
 refine box2 ?_;intro w0 hE0 hB0 hB1 hz0;have HP:=(PBx.one hE0 hB0 ha).app (PBx.one hE0 hB1 hb);clear hE0 hB0 hB1 hz0 ha hb;by_cases s1:smallP ta 5 8;rotate_left
 · obtain ⟨x00,x01⟩:=HP.c (i:=0) rfl;have hcl:=qh (keep_SmallPoly (va:=va) (nt:=5) (d:=8) (HP.t (i:=0) rfl));rw [decide_eq_false s1] at hcl;clear s1
   go_wp2_with fail
   refine hcl.out.mono ?_;rintro e w11 ⟨rfl,hF⟩;replace HP:=HP.ext hF;clear hcl hF x00 x01
   go_wp2_with fail
   refine (haw _ HP.e).out.mono ?_;rintro e w12 ⟨rfl,hF⟩;go_wp2;go_ret;exact ⟨rfl,HP.e.trans hF⟩
 obtain ⟨x00,x01⟩:=HP.c (i:=0) rfl;have hcl:=qh (keep_SmallPoly (va:=va) (nt:=5) (d:=8) (HP.t (i:=0) rfl));rw [decide_eq_true s1] at hcl;have HS1:=qh s1;clear s1
 go_wp2_with fail
 refine hcl.out.mono ?_;rintro e w13 ⟨rfl,hF⟩;replace HP:=HP.ext hF;clear hcl hF x00 x01;by_cases s2:smallP tb 5 8;rotate_left
 · obtain ⟨x10,x11⟩:=HP.c (i:=1) rfl;have hcl:=qh (keep_SmallPoly (va:=vb) (nt:=5) (d:=8) (HP.t (i:=1) rfl));rw [decide_eq_false s2] at hcl;clear s2
   go_wp2_with fail
   refine hcl.out.mono ?_;rintro e w14 ⟨rfl,hF⟩;replace HP:=HP.ext hF;clear hcl hF x10 x11
   go_wp2_with fail
   refine (haw _ HP.e).out.mono ?_;rintro e w15 ⟨rfl,hF⟩;go_wp2;go_ret;exact ⟨rfl,HP.e.trans hF⟩
 obtain ⟨x10,x11⟩:=HP.c (i:=1) rfl;have hcl:=qh (keep_SmallPoly (va:=vb) (nt:=5) (d:=8) (HP.t (i:=1) rfl));rw [decide_eq_true s2] at hcl;have HS2:=qh s2;clear s2
 go_wp2_with fail
 refine hcl.out.mono ?_;rintro e w16 ⟨rfl,hF⟩;replace HP:=HP.ext hF;clear hcl hF x10 x11;obtain ⟨⟨v3,t3,e3⟩,h3⟩:∃ r,mulA va vb (rdP va ta) (rdP vb tb)=r:=⟨_,rfl⟩;have H3:=qh h3;clear h3;obtain ⟨x00,x01⟩:=HP.c (i:=0) rfl;obtain ⟨x10,x11⟩:=HP.c (i:=1) rfl;have hcl:=qh (poly_MulV H3.out (hT.ext HP.e) (HP.t (i:=0) rfl) (HP.t (i:=1) rfl) (small570 HS1.out (by omega)) (small570 HS2.out (by omega)) (cont_mulOK HS1.out HS2.out))
 go_wp2_with fail
 refine hcl.out.mono ?_;rintro e w17 ⟨a17,n17,c17,rfl,hF,hO⟩;have hY:=Arr.new w17 25 (polyL 0 none 0 0);clear hcl x00 x01 x10 x11
 go_upto_region 4 with (refine wl_stPo rfl rfl rfl rfl hY rfl ?_; intro w17' hB hg)
 replace HP:=HP.new hF hO hB hg;clear hY hB hg hF hO;by_cases z3:e3=0;rotate_left
 · have q3:(e3 != 0)=true:=by simpa using z3
   clear z3
   go_wp2_with fail
   refine (haw _ HP.e).out.mono ?_;rintro e w18 ⟨rfl,hF⟩;go_wp2;go_ret;exact ⟨rfl,HP.e.trans hF⟩
 subst z3;obtain ⟨⟨g1,g2⟩,x,y,t6,t7,t8,CS⟩:=contS HS1.out HS2.out H3.out;subst g1 g2;have hRX:=CS.rx;have hRY:=CS.ry;obtain ⟨x00,x01⟩:=HP.c (i:=0) rfl;have hcl:=qh (poly_ContentV CS.ca (hT.ext HP.e) (HP.t (i:=0) rfl) (small570 HS1.out (by omega)) CS.oa)
 go_wp2_with fail
 refine hcl.out.mono ?_;rintro e w19 ⟨rfl,hF⟩;replace HP:=HP.ext hF;clear hcl hF x00 x01;obtain ⟨x10,x11⟩:=HP.c (i:=1) rfl;have hcl:=qh (poly_ContentV CS.cb (hT.ext HP.e) (HP.t (i:=1) rfl) (small570 HS2.out (by omega)) CS.ob)
 go_wp2_with fail
 refine hcl.out.mono ?_;rintro e w20 ⟨rfl,hF⟩;replace HP:=HP.ext hF;clear hcl hF x10 x11;obtain ⟨x20,x21⟩:=HP.c (i:=2) rfl;have hcl:=qh (poly_ContentV CS.cp (hT.ext HP.e) (HP.t (i:=2) rfl) CS.x3 CS.op)
 go_wp2_with fail
 refine hcl.out.mono ?_;rintro e w21 ⟨rfl,hF⟩;replace HP:=HP.ext hF;clear hcl hF x20 x21;obtain ⟨S,hS⟩:∃ S:ByteArray,⟨(txt (x*y)).toArray⟩=S:=⟨_,rfl⟩;have hcl:=qh (rat_MulT (x:=x) (y:=y) (hT.ext HP.e) hRX hRY (txt_570 hRX) (txt_570 hRY));rw [hS] at hcl ⊢;have qS:(S != S)=false:=by show (!(S.data == S.data))=false; simp
 clear hS
 go_wp2_with fail
 refine hcl.out.mono ?_;rintro e w60 ⟨rfl,hF⟩;replace HP:=HP.ext hF;clear hcl hF;obtain ⟨x00,x01⟩:=HP.c (i:=0) rfl;have hcl:=qh (poly_PrimitiveV CS.p6 (hT.ext HP.e) (HP.t (i:=0) rfl) (small570 HS1.out (by omega)) CS.o6)
 go_wp2_with fail
 refine hcl.out.mono ?_;rintro e w22 ⟨a22,n22,c22,rfl,hF,hO⟩;have hY:=Arr.new w22 25 (polyL 0 none 0 0);clear hcl x00 x01
 go_upto_region 12 with (refine wl_stPo rfl rfl rfl rfl hY rfl ?_; intro w22' hB hg)
 replace HP:=HP.new hF hO hB hg;clear hY hB hg hF hO;obtain ⟨x30,x31⟩:=HP.c (i:=3) rfl;have hcl:=qh (poly_ScaleV CS.p7 (hT.ext HP.e) (HP.t (i:=3) rfl) (txt_570 hRX) CS.x6 CS.o7)
 go_wp2_with fail
 refine hcl.out.mono ?_;rintro e w23 ⟨a23,n23,c23,rfl,hF,hO⟩;have hY:=Arr.new w23 25 (polyL 0 none 0 0);clear hcl x30 x31
 go_upto_region 13 with (refine wl_stPo rfl rfl rfl rfl hY rfl ?_; intro w23' hB hg)
 replace HP:=HP.new hF hO hB hg;clear hY hB hg hF hO;obtain ⟨x40,x41⟩:=HP.c (i:=4) rfl;have hcl:=qh (poly_NegV CS.p8 (hT.ext HP.e) (HP.t (i:=4) rfl) CS.x7 CS.o8)
 go_wp2_with fail
 refine hcl.out.mono ?_;rintro e w24 ⟨a24,n24,c24,rfl,hF,hO⟩;have hY:=Arr.new w24 25 (polyL 0 none 0 0);clear hcl x40 x41
 go_upto_region 14 with (refine wl_stPo rfl rfl rfl rfl hY rfl ?_; intro w24' hB hg)
 replace HP:=HP.new hF hO hB hg;clear hY hB hg hF hO;by_cases h7:t7=ta
 · have H7:=h7;clear h7;obtain ⟨x00,x01⟩:=HP.c (i:=0) rfl;obtain ⟨x40,x41⟩:=HP.c (i:=4) rfl;have hcl:=qh (keep_Polys (va:=va) (vb:=va) (HP.t (i:=4) rfl) (HP.t (i:=0) rfl));rw [show decide (va=va∧t7=ta)=true by simp [H7]] at hcl
   go_wp2_with fail
   refine hcl.out.mono ?_;rintro e w25 ⟨rfl,hF⟩;replace HP:=HP.ext hF;clear hcl hF x00 x01 x40 x41
   go_wp2_with fail
   refine (haw _ HP.e).out.mono ?_;rintro e w26 ⟨rfl,hF⟩;go_wp2;go_ret;exact ⟨rfl,HP.e.trans hF⟩
 have H7:=h7;have H8:t8=ta:=CS.out.resolve_left h7;clear h7;obtain ⟨x00,x01⟩:=HP.c (i:=0) rfl;obtain ⟨x40,x41⟩:=HP.c (i:=4) rfl;have hcl:=qh (keep_Polys (va:=va) (vb:=va) (HP.t (i:=4) rfl) (HP.t (i:=0) rfl));rw [show decide (va=va∧t7=ta)=false by simp [H7]] at hcl
 go_wp2_with fail
 refine hcl.out.mono ?_;rintro e w27 ⟨rfl,hF⟩;replace HP:=HP.ext hF;clear hcl hF x00 x01 x40 x41;obtain ⟨x00,x01⟩:=HP.c (i:=0) rfl;obtain ⟨x50,x51⟩:=HP.c (i:=5) rfl;have hcl:=qh (keep_Polys (va:=va) (vb:=va) (HP.t (i:=5) rfl) (HP.t (i:=0) rfl));rw [show decide (va=va∧t8=ta)=true by simp [H8]] at hcl
 go_wp2_with fail
 refine hcl.out.mono ?_;rintro e w28 ⟨rfl,hF⟩;replace HP:=HP.ext hF;clear hcl hF x00 x01 x50 x51
 go_wp2_with fail
 refine (haw _ HP.e).out.mono ?_;rintro e w29 ⟨rfl,hF⟩;go_wp2;go_ret;exact ⟨rfl,HP.e.trans hF⟩
end Go.Proofs.YtlpgonpfjbhmfaaGreatDoor
