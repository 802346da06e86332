/- Part RinCoq. -/
import Derived.Test.YtlpgonpfjbhmfaaGreatDoorRinCop
import Derived.Test.YtlpgonpfjbhmfaaGreatDoorRin37
set_option maxRecDepth 100000
set_option maxHeartbeats 100000000
namespace Go.Proofs.YtlpgonpfjbhmfaaGreatDoor
open Go Go.RowKit
theorem txt_m1:txt (-1)=[45,49]:=by
 have h:readQ [45,49]=some (-1):=by decide
 exact (readQ_eq h).symm
section
variable {va:Int} {a:Option Addr} {n c:Nat} {ta:List Tx} {w:World} {v err:Int} {t:List Tx} {q:Rat}
theorem poly_ContentV (hr:contA (rdP va ta)=(txt q,0)) (hT:Tabs w) (ha:TmSl w a n c ta) (sa:∀ t∈ta,t.1.length≤570) (hok:∀ l,rdP va ta=some l→ContOK l) :
 Calls Tryz.prog 20 #[.agg #[.int .i64 va, .slice a n c]] w fun e w'=>e = .returned (.tuple #[.string ⟨(txt q).toArray⟩, .int .i64 0])∧Ext w w':=by
 have h:=poly_Content (va:=va) hT ha sa hok;rw [hr] at h;exact h
theorem poly_PrimitiveV (hr:primA va (rdP va ta)=(v,t,err)) (hT:Tabs w) (ha:TmSl w a n c ta) (sa:∀ t∈ta,t.1.length≤570) (hok:∀ l,rdP va ta=some l→ContOK l∧FitsP (sclR (primF l) l)) :
 Calls Tryz.prog 22 #[.agg #[.int .i64 va, .slice a n c]] w (RetV w v t err) :=
 (poly_Primitive hT ha sa hok).mono fun e w' h=>by
  rw [hr] at h;exact RetP.v h
theorem poly_ScaleP (hr:sclA va q (rdP va ta)=(v,t,err)) (hT:Tabs w) (ha:TmSl w a n c ta) (hq:(txt q).length≤570) (sa:∀ t∈ta,t.1.length≤570) (hok:∀ l,rdP va ta=some l→FitsP (sclR q l)) :
 Calls Tryz.prog 23 #[.string ⟨(txt q).toArray⟩, .agg #[.int .i64 va, .slice a n c]] w (RetP w v t err):=by
 have hs:readQ (strL ⟨(txt q).toArray⟩)=some q:=by rw [strL_mk]; exact readQ_txt q
 refine (poly_Scale (s:=⟨(txt q).toArray⟩) (va:=va) hT ha (by rw [←strL_len,strL_mk]; exact hq) sa (fun p l h1 h2=>by
  rw [hs] at h1;cases h1
  exact hok l h2)).mono fun e w' h => ?_
 rw [hs] at h;rcases h with ⟨p,l,h1,h2,h3⟩|⟨h1,h2⟩
 · cases h1;rw [h2] at hr;have hr':resQ va (sclR q l)=(v,t,err):=hr;rw [hr'] at h3;exact h3
 · cases hl:rdP va ta with
   | none =>
    rw [hl] at hr;have hr':((0:Int),([]:List Tx),(1:Int))=(v,t,err):=hr;cases hr';exact h2
   | some l =>
    rw [hl] at h1;simp at h1
theorem poly_ScaleV (hr:sclA va q (rdP va ta)=(v,t,err)) (hT:Tabs w) (ha:TmSl w a n c ta) (hq:(txt q).length≤570) (sa:∀ t∈ta,t.1.length≤570) (hok:∀ l,rdP va ta=some l→FitsP (sclR q l)) :
 Calls Tryz.prog 23 #[.string ⟨(txt q).toArray⟩, .agg #[.int .i64 va, .slice a n c]] w (RetV w v t err) :=
 (poly_ScaleP hr hT ha hq sa hok).mono fun _ _ h=>RetP.v h
theorem poly_NegV (hr:sclA va (-1) (rdP va ta)=(v,t,err)) (hT:Tabs w) (ha:TmSl w a n c ta) (sa:∀ t∈ta,t.1.length≤570) (hok:∀ l,rdP va ta=some l→FitsP (sclR (-1) l)) :
 Calls Tryz.prog 24 #[.agg #[.int .i64 va, .slice a n c]] w (RetV w v t err):=by
 have hsc:=fun (wx:World) (hC:Ext w wx)=>qh (poly_ScaleP hr (hT.ext hC) (ha.ext hC) (by rw [txt_m1]; decide) sa hok);rw [txt_m1] at hsc;have hd:(⟨([45,49]:List UInt8).toArray⟩:ByteArray)=⟨#[45,49]⟩:=rfl;rw [hd] at hsc
 go_enter Tryz.func24,Tryz.ntmps24
 go_upto_region 1 with (fail)
 refine box2 ?_;intro w0 hE0 hB0 hB1 hz0;have p00:=hB0.c 0 rfl;have p01:=hB0.c 1 rfl;have hR:Arr w0 (w.heap.size+1) 25 (polyL 0 none 0 0):=hB1;clear hB0 hB1 hz0
 go_wp2_with fail
 refine (hsc _ hE0).out.mono ?_;rintro e w1 ⟨a1,n1,c1,rfl,hE1,hO1⟩;have hpv:polyV v a1 n1 c1 = .agg #[.int .i64 v, .slice a1 n1 c1]:=rfl;rw [hpv];have hR1:=hR.ext hE1;have hpl:(polyL v a1 n1 c1).toArray=#[.int .i64 v, .slice a1 n1 c1]:=rfl;clear p00 p01 hR hsc
 go_wp2_with (refine wl_stArr (vs:=polyL v a1 n1 c1) rfl rfl rfl rfl rfl agg_Poly hR1 rfl (polyL_one _ _ _ _) ?_; intro w9 hB9 hg9)
 refine bodyPost_ret (res_ct rfl agg_Poly rfl rfl hB9) rfl ?_;exact RetP.v (retP_end (r:=(v,t,err)) hE0 hE1 hO1 hR1 hg9 (by omega))
end
end Go.Proofs.YtlpgonpfjbhmfaaGreatDoor
