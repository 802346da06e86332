/- Part Gan21. -/
import Derived.Test.YtlpgonpfjbhmfaaGreatDoorGan20
import Derived.Test.YtlpgonpfjbhmfaaGreatDoorGan17
import Derived.Test.YtlpgonpfjbhmfaaGreatDoorGan18
set_option maxRecDepth 100000
set_option maxHeartbeats 100000000
namespace Go.Proofs.YtlpgonpfjbhmfaaGreatDoor
open Go Go.RowKit
theorem rat_String {w:World} {v:Value} {q:Rat} (hT:Tabs w) (h:RatR w v q) (hb:q.num.natAbs<P2 1920) (hd:q.den<P2 1920):Calls Tryz.prog 54 #[v] w fun e w'=>e = .returned (.string ⟨(txt q).toArray⟩)∧Ext w w':=by
 obtain ⟨_,rfl,s,a,n,c,b,m,d,rfl,HS,hx,hy⟩:=h;have hzr:=fun (wx:World) (hC:Ext w wx)=>qh (int_IsZero (r:=decide (denZ q=0)) (den_int (hy.ext hC)) rfl);have hi64:=fun (wx:World) (hC:Ext w wx)=>qh (int_Int64 (rat_int HS (hx.ext hC)));by_cases h1:q.den=1
 · have hz1:decide (denZ q=0)=true:=by simpa using denZ_zero.2 h1
   have HT:Hid (txt q=Lib.itoa q.num):=by show _=_; unfold txt; rw [if_pos h1,List.append_nil]
   rw [hz1] at hzr;clear hz1 h1 hd
   go_enter Tryz.func54,Tryz.ntmps54
   go_upto_region 1 with (fail)
   refine box1 ?_;intro w0 hE0 hB0 hz0;have p0:=hB0.c 0 rfl;have p1:=hB0.c 1 rfl;have p2:=hB0.c 2 rfl;have p3:=hB0.c 3 rfl;clear hz0
   go_wp2_with fail
   refine (hzr _ hE0).out.mono ?_;rintro e w1 ⟨rfl,hE1⟩;have hEw:=hE0.trans hE1;have r0:=hE1.cell p0;have r1:=hE1.cell p1;by_cases hin : -9223372036854775808≤q.num∧q.num≤9223372036854775807
   · have has:=as64_in hin;have hfi:=fun (wx:World) (hC:Ext w wx)=>qh (rat_FromInt (hT.ext hC) hin.1 hin.2);rw [has] at hi64;clear has hin
     go_wp2_with fail
     refine (hi64 _ hEw).out.mono ?_;rintro e w2 ⟨rfl,hE2⟩
     go_wp2_with fail
     refine (hfi _ (hEw.trans hE2)).out.mono ?_;rintro e w3 ⟨rfl,hE3⟩;go_wp2;go_ret;exact ⟨by rw [HT.out]; rfl,(hEw.trans hE2).trans hE3⟩
   · have has:=as64_out hin;have hst:=fun (wx:World) (hC:Ext w wx)=>qh (int_String (hT.ext hC) (rat_int HS (hx.ext hC)) hb);rw [has] at hi64;clear has hin
     go_wp2_with fail
     refine (hi64 _ hEw).out.mono ?_;rintro e w2 ⟨rfl,hE2⟩;have t0:=hE2.cell r0;have t1:=hE2.cell r1
     go_wp2_with fail
     refine (hst _ (hEw.trans hE2)).out.mono ?_;rintro e w3 ⟨rfl,hE3⟩;go_wp2;go_ret;exact ⟨by rw [HT.out]; rfl,(hEw.trans hE2).trans hE3⟩
 · have hz1:decide (denZ q=0)=false:=by simpa using mt denZ_zero.1 h1
   have HT:Hid (txt q=Lib.itoa q.num ++ 47 :: Lib.itoa (denZ q)):=by
    show _=_;unfold txt;rw [if_neg h1,denZ_of h1,Lib.itoa_nonneg]
   have hdb:(denZ q).natAbs<P2 1920:=by rw [denZ_abs h1]; exact hd
   have hln:(Lib.itoa q.num).length≤700:=by have:=itoa_P2 hb; omega
   rw [hz1] at hzr;clear hz1 h1 hd hi64;have hap:=fun (wx:World) (hC:Ext w wx)=>qh (int_Append (l:=[]) (hT.ext hC) (Ext.refl wx) (Own.nil wx _ _) (rat_int HS (hx.ext hC)) hb (Nat.zero_le _))
   go_enter Tryz.func54,Tryz.ntmps54
   go_upto_region 1 with (fail)
   refine box1 ?_;intro w0 hE0 hB0 hz0;have p0:=hB0.c 0 rfl;have p1:=hB0.c 1 rfl;have p2:=hB0.c 2 rfl;have p3:=hB0.c 3 rfl;clear hz0
   go_wp2_with fail
   refine (hzr _ hE0).out.mono ?_;rintro e w1 ⟨rfl,hE1⟩;have hEw:=hE0.trans hE1;have r0:=hE1.cell p0;have r1:=hE1.cell p1
   go_wp2_with fail
   refine (hap _ hEw).out.mono ?_;rintro e w2 ⟨a2,n2,c2,rfl,hO2,hE2⟩;have hE12:=hEw.trans hE2;have hn2:n2≤700:=by have:=hO2.len; simp at this; omega
   have hO2':Own w2 w1.heap.size 5 a2 n2 c2 ((Lib.itoa q.num).map byteV):=hO2;have hA:=hO2'.alloc (.cells #[.int .u8 47] 5);have hL:=(own_alloc w2 w1.heap.size 5 #[.int .u8 47] 1 rfl hE2.size (by omega)).sl;have hb2:∀ k,blk a2=some k→w1.heap.size≤k:=fun k hk=>(hO2'.lt hk).1;have hbx:=(hB0.ext hE1).lt
   go_upto_region 7 with (refine wl_app rfl rfl Tryz.underlying154 info_u8 rfl rfl hA rfl hL (by simp [Value.oneCell']) (by unfold maxLen; omega) (by omega) (by simp; have:=hE2.size; omega) ?_; intro a7 c7 w7 hO7 hg7 hb7)
   have hE7:Ext w1 w7:=(hE2.alloc _).grown hg7 hb2;have hE17:=hEw.trans hE7;have hO8:Own w7 w1.heap.size 5 a7 (n2+1) c7 ((Lib.itoa q.num ++ [47]).map byteV):=by rw [List.map_append]; exact hO7
   have hap2:=qh (int_Append (hT.ext hEw) hE7 hO8 (den_int (hy.ext hEw)) hdb (by omega));have hB7:=(hB0.ext hE1).ext hE7;have q2:=hB7.c 2 rfl;have q3:=hB7.c 3 rfl
   go_wp2_with fail
   refine hap2.out.mono ?_;rintro e w8 ⟨a8,n8,c8,rfl,hO9,hE8⟩
   go_wp2_with (refine wl_fromBytes rfl rfl Tryz.underlying154 Tryz.underlying5 Tryz.underlying9 rfl hO9.sl ?_)
   go_ret;exact ⟨by rw [HT.out]; rfl,hEw.trans hE8⟩
theorem retR_of {w w1 w9:World} {R:Nat} {ty:TypeId} {cs:List Value} {s:Bool} {a b:Option Addr} {n c m d:Nat} {q:Rat} (hE:Ext w w1) (hR:Arr w1 R ty cs) (hcs:∀ v∈cs,∀ i,v ≠ .int .u64 i) (hg:w1.grownBy w9 (some R)) (hw:w.heap.size≤R) (HS:Hid (decide (q.num<0)=s)) (hx:Wd w1 a n c q.num.natAbs) (hy:Wd w1 b m d (denZ q).natAbs):RetR w q (.returned (.agg (ratL s a n c false b m d).toArray)) w9 :=
 ⟨_,rfl,hE.grownR hg hw,s,a,n,c,b,m,d,rfl,HS,hx.kept hR hcs hg,hy.kept hR hcs hg⟩
theorem rat_IsZero {v:Value} {q:Rat} {w:World} (h:RatR w v q) {r:Bool} (hr:decide (q=0)=r):Calls Tryz.prog 88 #[v] w fun e w'=>e = .returned (.bool r)∧Ext w w':=by
 obtain ⟨_,rfl,s,a,n,c,b,m,d,rfl,HS,hx,hy⟩:=h;have hzr:=fun (wx:World) (hC:Ext w wx)=>qh (int_IsZero (r:=r) (rat_int HS (hx.ext hC)) (by rw [←hr]; exact decide_eq_decide.2 Pl.rat_num_den_zero));clear hr
 go_enter Tryz.func88,Tryz.ntmps88
 go_upto_region 1 with (fail)
 refine box1 ?_;intro w0 hE0 hB0 hz0;have p0:=hB0.c 0 rfl;have p1:=hB0.c 1 rfl;have p2:=hB0.c 2 rfl;have p3:=hB0.c 3 rfl;clear hz0
 go_wp2_with fail
 refine (hzr _ hE0).out.mono ?_;rintro e w1 ⟨rfl,hE1⟩;go_wp2;go_ret;exact ⟨rfl,hE0.trans hE1⟩
theorem rat_Num {v:Value} {q:Rat} {w:World} (h:RatR w v q):Calls Tryz.prog 96 #[v] w (RetI w q.num):=by
 obtain ⟨_,rfl,s,a,n,c,b,m,d,rfl,HS,hx,hy⟩:=h
 go_enter Tryz.func96,Tryz.ntmps96
 go_upto_region 1 with (fail)
 refine box2 ?_;intro w0 hE0 hB0 hB1 hz0;have p0:=hB0.c 0 rfl;have p1:=hB0.c 1 rfl;have p2:=hB0.c 2 rfl;have p3:=hB0.c 3 rfl;have hR:Arr w0 (w.heap.size+1) 90 (intL false none 0 0):=hB1;clear hz0
 go_wp2_with (refine wl_stArr (vs:=intL s a n c) rfl rfl rfl rfl rfl agg_Int hR rfl (intL_one _ _ _ _) ?_; intro w9 hB9 hg9)
 exact bodyPost_ret (res_arr rfl agg_Int rfl hB9) rfl (retI_of hE0 hR (intL_nu _ _ _ _) hg9 (by omega) HS (hx.ext hE0))
theorem rat_Den {v:Value} {q:Rat} {w:World} (h:RatR w v q):Calls Tryz.prog 99 #[v] w (RetI w (q.den:Int)):=by
 obtain ⟨_,rfl,s,a,n,c,b,m,d,rfl,HS,hx,hy⟩:=h;have hzr:=fun (wx:World) (hC:Ext w wx)=>qh (int_IsZero (r:=decide (denZ q=0)) (den_int (hy.ext hC)) rfl);have HSD:Hid (decide ((q.den:Int)<0)=false):=qh (decide_eq_false (by omega))
 go_enter Tryz.func99,Tryz.ntmps99
 go_upto_region 1 with (fail)
 refine box2 ?_;intro w0 hE0 hB0 hB1 hz0;have p0:=hB0.c 0 rfl;have p1:=hB0.c 1 rfl;have p2:=hB0.c 2 rfl;have p3:=hB0.c 3 rfl;have hR:Arr w0 (w.heap.size+1) 90 (intL false none 0 0):=hB1;clear hz0
 go_wp2_with fail
 refine (hzr _ hE0).out.mono ?_;rintro e w1 ⟨rfl,hE1⟩;have hEw:=hE0.trans hE1;have r2:=hE1.cell p2;have r3:=hE1.cell p3;have hRa:=hR.ext hE1;by_cases h1:q.den=1
 · have hz1:decide (denZ q=0)=true:=by simpa using denZ_zero.2 h1
   rw [hz1];have H1:=qh h1;clear hz1 h1
   go_wp2_with fail
   refine (int_New (z:=1) (by omega) (by omega)).mono ?_;rintro e w2 ⟨s1,a1,n1,c1,rfl,hE2,HS1,hx1⟩;have hR1:=hRa.ext hE2
   go_wp2_with (refine wl_stArr (vs:=intL s1 a1 n1 c1) rfl rfl rfl rfl rfl agg_Int hR1 rfl (intL_one _ _ _ _) ?_; intro w9 hB9 hg9)
   refine bodyPost_ret (res_arr rfl agg_Int rfl hB9) rfl ?_;rw [H1.out];exact retI_of (hEw.trans hE2) hR1 (intL_nu _ _ _ _) hg9 (by omega) HS1 hx1
 · have hz1:decide (denZ q=0)=false:=by simpa using mt denZ_zero.1 h1
   have HA:=qh (denZ_abs h1);rw [hz1];clear hz1 h1
   go_wp2_with (refine wl_stArr (vs:=intL false b m d) rfl rfl rfl rfl rfl agg_Int hRa rfl (intL_one _ _ _ _) ?_; intro w9 hB9 hg9)
   refine bodyPost_ret (res_arr rfl agg_Int rfl hB9) rfl (retI_of hEw hRa (intL_nu _ _ _ _) hg9 (by omega) HSD ?_);have h2:=hy.ext hEw;rw [HA.out] at h2;exact h2
theorem rat_lowest {v v':Value} {q:Rat} {w:World} (h:IntR w v q.num) (h':IntR w v' (q.den:Int)):Calls Tryz.prog 115 #[v,v'] w (RetR w q):=by
 have hio:=fun (wx:World) (hC:Ext w wx)=>qh (int_IsOne (r:=decide (q.den=1)) (h'.ext hC) (decide_eq_decide.2 (by omega)));obtain ⟨s,a,n,c,rfl,HS,hx⟩:=h;obtain ⟨t,b,m,d,rfl,HT,hy⟩:=h';have ht:t=false:=by have:=HT.out; rw [←this]; exact decide_eq_false (by omega)
 subst ht;have hy':Wd w b m d q.den:=hy;clear hy
 go_enter Tryz.func115,Tryz.ntmps115
 go_upto_region 1 with (fail)
 refine box3 ?_;intro w0 hE0 hB0 hB1 hB2 hz0;have p00:=hB0.c 0 rfl;have p01:=hB0.c 1 rfl;have p10:=hB1.c 0 rfl;have p11:=hB1.c 1 rfl;have hR:Arr w0 (w.heap.size+2) 97 (ratL false none 0 0 false none 0 0):=hB2;clear hz0
 go_wp2_with fail
 refine (hio _ hE0).out.mono ?_;rintro e w1 ⟨rfl,hE1⟩;have hEw:=hE0.trans hE1;have r00:=hE1.cell p00;have r01:=hE1.cell p01;have r10:=hE1.cell p10;have r11:=hE1.cell p11;have hRa:=hR.ext hE1;by_cases h1:q.den=1
 · have hz1:decide (q.den=1)=true:=by simpa using h1
   have HD:Hid (denZ q=0):=qh (denZ_zero.2 h1);rw [hz1];clear hz1 h1
   go_wp2_with (refine wl_stArr (vs:=ratL s a n c false none 0 0) rfl rfl rfl rfl rfl agg_Ratio hRa rfl (ratL_one _ _ _ _ _ _ _ _) ?_; intro w9 hB9 hg9)
   exact bodyPost_ret (res_arr rfl agg_Ratio rfl hB9) rfl (retR_of hEw hRa (ratL_nu _ _ _ _ _ _ _ _) hg9 (by omega) HS (hx.ext hEw) (by rw [HD.out]; exact Wd.nil _))
 · have hz1:decide (q.den=1)=false:=by simpa using h1
   have HA:=qh (denZ_abs h1);rw [hz1];clear hz1 h1
   go_wp2_with (refine wl_stArr (vs:=ratL s a n c false b m d) rfl rfl rfl rfl rfl agg_Ratio hRa rfl (ratL_one _ _ _ _ _ _ _ _) ?_; intro w9 hB9 hg9)
   exact bodyPost_ret (res_arr rfl agg_Ratio rfl hB9) rfl (retR_of hEw hRa (ratL_nu _ _ _ _ _ _ _ _) hg9 (by omega) HS (hx.ext hEw) (by rw [HA.out]; exact hy'.ext hEw))

def StI (p:Value→World→Prop):Prop:=∀ v w w' g t cs cs',Arr w g t cs→(∀ x∈cs,∀ i,x ≠ .int .u64 i)→w.grownBy w' (some g)→Arr w' g t cs'→cs'.length=cs.length→(∀ x∈cs',∀ i,x ≠ .int .u64 i)→p v w→p v w'
def StX (p:Value→World→Prop):Prop:=∀ v w w',Ext w w'→p v w→p v w'
def NI (z:Int) (v:Value) (w:World):Prop:=∃ s a n c,v = .agg (intL s a n c).toArray∧Hid (decide (z<0)=s)∧Wd w a n c z.natAbs
theorem NI.x (z:Int):StX (NI z):=fun _ _ _ e ⟨s,a,n,c,h1,h2,h3⟩=>⟨s,a,n,c,h1,h2,h3.ext e⟩
theorem NI.i (z:Int):StI (NI z):=fun _ _ _ _ _ _ _ hA hn hg _ _ _ ⟨s,a,n,c,h1,h2,h3⟩=>⟨s,a,n,c,h1,h2,h3.kept hA hn hg⟩
def NII (z y:Int) (v:Value) (w:World):Prop:=∃ s a n c s' a' n' c',v = .tuple #[.agg (intL s a n c).toArray, .agg (intL s' a' n' c').toArray]∧(Hid (decide (z<0)=s)∧Wd w a n c z.natAbs)∧(Hid (decide (y<0)=s')∧Wd w a' n' c' y.natAbs)
theorem NII.x (z y:Int):StX (NII z y):=fun _ _ _ e ⟨s,a,n,c,s',a',n',c',h1,⟨h2,h3⟩,⟨h4,h5⟩⟩=>⟨s,a,n,c,s',a',n',c',h1,⟨h2,h3.ext e⟩,⟨h4,h5.ext e⟩⟩
theorem NII.i (z y:Int):StI (NII z y):=fun _ _ _ _ _ _ _ hA hn hg _ _ _ ⟨s,a,n,c,s',a',n',c',h1,⟨h2,h3⟩,⟨h4,h5⟩⟩=>⟨s,a,n,c,s',a',n',c',h1,⟨h2,h3.kept hA hn hg⟩,⟨h4,h5.kept hA hn hg⟩⟩
def NP (base:Nat) (v:Value) (w:World):Prop:=∃ g cs,v = .pointer (some ⟨g,0,none⟩)∧base≤g∧Arr w g 90 cs∧cs.length=2∧∀ x∈cs,∀ i,x ≠ .int .u64 i
theorem NP.x (b:Nat):StX (NP b):=fun _ _ _ e ⟨g,cs,h1,h2,h3,h4,h5⟩=>⟨g,cs,h1,h2,h3.ext e,h4,h5⟩
theorem NP.i (b:Nat):StI (NP b):=by
 intro v w w' g0 t cs0 cs1 hA hn hg hA' hl hn' ⟨g,cs,h1,h2,h3,h4,h5⟩;by_cases e:g=g0
 · subst e;unfold Arr at hA h3 hA';rw [hA] at h3;simp only [Option.some.injEq,Obj.cells.injEq,and_true] at h3;obtain ⟨h6,h7⟩:=h3;have h8:cs0=cs:=by simpa using h6
   subst h8; subst h7;exact ⟨g,cs1,h1,h2,hA',by omega,hn'⟩
 · exact ⟨g,cs,h1,h2,h3.kept hg (by simpa using e),h4,h5⟩
theorem NT.x:StX (fun _ _=>True):=fun _ _ _ _ _=>trivial
theorem NT.i:StI (fun _ _=>True):=fun _ _ _ _ _ _ _ _ _ _ _ _ _ _=>trivial
theorem run_allocI {o:Oper} (ho:o.op = .alloc 90) (ρ:Operand→Value) (w:World):(execOp ρ o).run Tryz.prog w = .ok (.value (.pointer (some ⟨w.heap.size,0,none⟩))) (w.alloc (.cells (intL false none 0 0).toArray 90)):=by
 simp only [execOp,ho];kernel_rfl
section
variable {ops:Array Oper} {hs:List Hd} {a0:Act} {C:World→Prop} {i:Nat} {o:Oper}
theorem obl_allocI {base:Nat} (hg:o.guard=none) (ho:o.op = .alloc 90) (hCb:∀ w,C w→base≤w.heap.size):obl Tryz.prog C ops hs a0 i o (hp (NP base)) :=
 obl_ext hg fun ρ w _ hC _=>⟨_,_,run_allocI ho ρ w,(Ext.refl w).alloc _,w.heap.size,intL false none 0 0,rfl,hCb w hC,Arr.new w _ _,rfl,intL_nu _ _ _ _⟩
def notesI:List Hd→Prop
 | []=>True
 | h :: r=>(match h.ty with | .eq _=>True | .pr p=>StI p)∧notesI r
theorem notesI_mem:∀ {l:List Hd},notesI l→∀ h∈l,(match h.ty with | .eq _=>True | .pr p=>StI p)
 | [],_,h,hm=>absurd hm (by simp)
 | x :: r,hl,h,hm=>by
  rcases List.mem_cons.1 hm with rfl|hm
  · exact hl.1
  · exact notesI_mem hl.2 h hm
theorem keepsI (hn:notesI hs) {w w':World} {g:Nat} {t:TypeId} {cs cs':List Value} (hA:Arr w g t cs) (hc:∀ x∈cs,∀ i,x ≠ .int .u64 i) (hg:w.grownBy w' (some g)) (hA':Arr w' g t cs') (hl:cs'.length=cs.length) (hc':∀ x∈cs',∀ i,x ≠ .int .u64 i):keeps ops hs i o w w' (List.range hs.length):=by
 refine keeps_of fun j hj v hv => ?_;have hj':j<hs.length:=by
  have:=(List.mem_filter.1 hj).1;simpa using this
 have hm:hdAt hs j∈hs:=by
  rw [hdAt,List.getD_eq_getElem?_getD,List.getElem?_eq_getElem hj'];simp
 have:=notesI_mem hn _ hm;revert this hv;cases (hdAt hs j).ty with
 | eq c=>exact fun hv _=>hv
 | pr p=>exact fun hv hp=>hp v w w' g t cs cs' hA hc hg hA' hl hc' hv
theorem obl_storeI {base:Nat} {z:Int} {x y:Operand} (hg:o.guard=none) (ho:o.op = .store 90 x y) (hn:notesI hs) (hC2:∀ w w' g,C w→base≤g→w.grownBy w' (some g)→C w')
 (h:∀ ρ w,Plain ρ→C w→opnds ops hs a0 o ρ w [x,y]→(∃ v,ρ x=v∧NP base v w)∧(∃ v,ρ y=v∧NI z v w)):obl Tryz.prog C ops hs a0 i o (hmp (fun _ _=>True)):=by
 unfold obl wants;rw [hg];intro ρ w hp hC hx;have hx':opnds ops hs a0 o ρ w [x,y]:=by rw [ho] at hx; exact hx
 obtain ⟨⟨v1,e1,g,cs,rfl,h2,h3,h4,h5⟩,⟨v2,e2,s,a,n,c,rfl,_,_⟩⟩:=h ρ w hp hC hx';have hrun:(execOp ρ o).run Tryz.prog w = .ok .skip (w.setRow g (intL s a n c).toArray):=by
  have:=run_storeArr (P:=Tryz.prog) (w:=w) (ty:=90) (g:=g) (cs:=cs) (vs:=intL s a n c) agg_Int h3 (by rw [h4]; rfl) (intL_one _ _ _ _);simp only [execOp,ho,e1,e2,Sem.run_bind,this,Result.andThen_ok,Sem.run_pure]
 rw [hrun];have hgr:=setRow_grown w g (intL s a n c).toArray;exact ⟨hC2 w _ g hC h2 hgr,keepsI hn h3 h5 hgr (setRow_arr h3 _) (by rw [h4]; rfl) (intL_nu _ _ _ _),trivial⟩
end

end Go.Proofs.YtlpgonpfjbhmfaaGreatDoor
