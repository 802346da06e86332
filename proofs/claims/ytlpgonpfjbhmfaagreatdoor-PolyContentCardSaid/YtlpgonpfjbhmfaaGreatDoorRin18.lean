/- Part Rin18. -/
import Derived.Test.YtlpgonpfjbhmfaaGreatDoorRin17
import Derived.Test.YtlpgonpfjbhmfaaGreatDoorRin14
import Derived.Test.YtlpgonpfjbhmfaaGreatDoorRin15
set_option maxRecDepth 100000
set_option maxHeartbeats 100000000
namespace Go.Proofs.YtlpgonpfjbhmfaaGreatDoor
open Go Go.RowKit
theorem int_Append {wb w:World} {v:Value} {z:Int} {a0:Option Addr} {n0 c0:Nat} {l:List UInt8} (hT:Tabs wb) (hE:Ext wb w) (hO:Own w wb.heap.size 5 a0 n0 c0 (l.map byteV)) (h:IntR wb v z) (hb:z.natAbs<P2 1920) (hn:n0≤10000) :
 Calls Tryz.prog 106 #[v, .slice a0 n0 c0] w (RetAp wb (l ++ Lib.itoa z)):=by
 obtain ⟨s,a,n,c,rfl,HS,hx⟩:=h;cases s with
 | true =>
  have HI:Hid (l ++ Lib.itoa z=(l ++ [45]) ++ Lib.decDigits z.natAbs):=by
   show _=_;have hz:z<0:=by simpa using HS.out
   unfold Lib.itoa;rw [if_pos hz,List.append_assoc];rfl
  go_enter Tryz.func106,Tryz.ntmps106
  go_upto_region 1 with (fail)
  refine box1 ?_;intro w0 hE0 hB0 hz0;have p00:=hB0.c 0 rfl;have p01:=hB0.c 1 rfl;have hE1:=hE.trans hE0;have hO1:=hO.ext hE0;have hA:=hO1.alloc (.cells #[.int .u8 45] 5);have hL:=(own_alloc w0 wb.heap.size 5 #[.int .u8 45] 1 rfl hE1.size (by omega)).sl;have hb2:∀ k,blk a0=some k→wb.heap.size≤k:=fun k hk=>(hO1.lt hk).1;have hP:=hB0.lt;clear hz0
  go_upto_region 3 with (refine wl_app rfl rfl Tryz.underlying154 info_u8 rfl rfl hA rfl hL (by simp [Value.oneCell']) (by unfold maxLen; omega) (by omega) (by simp; have:=hE1.size; omega) ?_; intro a7 c7 w7 hO7 hg7 hb7)
  have hE7:Ext wb w7:=(hE1.alloc _).grown hg7 hb2;have hO8:Own w7 wb.heap.size 5 a7 (n0+1) c7 ((l ++ [45]).map byteV):=by rw [List.map_append]; exact hO7
  have hne:blk a0≠some w.heap.size:=by
   intro he;have:=(hO.lt he).2;omega
  have hB7:=(hB0.alloc (.cells #[.int .u8 45] 5)).kept hg7 (fun he=>hne he.symm);have q1:=hB7.c 1 rfl;have hap:=qh (int_appendWords hT hE7 hO8 (hx.ext hE7) hb (by omega))
  go_wp2_with fail
  refine hap.out.mono ?_;rintro e w8 ⟨a8,n8,c8,rfl,hO9,hE8⟩;go_wp2;go_ret;exact ⟨a8,n8,c8,rfl,by rw [HI.out]; exact hO9,hE8⟩
 | false =>
  have HI:Hid (l ++ Lib.itoa z=l ++ Lib.decDigits z.natAbs):=by
   show _=_;have hz:¬ z<0:=by simpa using HS.out
   unfold Lib.itoa;rw [if_neg hz];congr 2;omega
  go_enter Tryz.func106,Tryz.ntmps106
  go_upto_region 1 with (fail)
  refine box1 ?_;intro w0 hE0 hB0 hz0;have p00:=hB0.c 0 rfl;have p01:=hB0.c 1 rfl;have hE1:=hE.trans hE0;have hap:=qh (int_appendWords hT hE1 (hO.ext hE0) (hx.ext hE1) hb (by omega));clear hz0
  go_wp2_with fail
  refine hap.out.mono ?_;rintro e w8 ⟨a8,n8,c8,rfl,hO9,hE8⟩;go_wp2;go_ret;exact ⟨a8,n8,c8,rfl,by rw [HI.out]; exact hO9,hE8⟩
theorem int_String {w:World} {v:Value} {z:Int} (hT:Tabs w) (h:IntR w v z) (hb:z.natAbs<P2 1920):Calls Tryz.prog 105 #[v] w fun e w'=>e = .returned (.string ⟨(Lib.itoa z).toArray⟩)∧Ext w w':=by
 have hap:=fun (wx:World) (hE:Ext w wx)=>qh (int_Append (l:=[]) (hT.ext hE) (Ext.refl wx) (Own.nil wx _ _) (h.ext hE) hb (Nat.zero_le _));obtain ⟨s,a,n,c,rfl,HS,hx⟩:=h
 go_enter Tryz.func105,Tryz.ntmps105
 go_upto_region 1 with (fail)
 refine box1 ?_;intro w0 hE0 hB0 hz0;have p00:=hB0.c 0 rfl;have p01:=hB0.c 1 rfl;clear hz0
 go_wp2_with fail
 refine (hap _ hE0).out.mono ?_;rintro e w1 ⟨a1,n1,c1,rfl,hO1,hE1⟩
 go_wp2_with (refine wl_fromBytes rfl rfl Tryz.underlying154 Tryz.underlying5 Tryz.underlying9 rfl hO1.sl ?_)
 go_ret;exact ⟨rfl,hE0.trans hE1⟩
theorem P2_ten (b:Nat):P2 b≤10^(b/3+1):=by
 have e:P2 b=8^(b/3)*2^(b%3):=by
  unfold P2
  conv=>lhs; rw [←Nat.div_add_mod b 3,Nat.pow_add,Nat.pow_mul]
 have h1:8^(b/3)≤10^(b/3):=Nat.pow_le_pow_left (by omega) _;have h2:2^(b%3)≤2^2:=Nat.pow_le_pow_right (by omega) (by omega);rw [e,Nat.pow_succ];exact Nat.mul_le_mul h1 (by omega)
theorem dec_P2 {n b:Nat} (h:n<P2 b):(Lib.decDigits n).length≤b/3+1:=W.dec_len (Nat.lt_of_lt_of_le h (P2_ten b)) (by omega)
theorem itoa_P2 {z:Int} {b:Nat} (h:z.natAbs<P2 b):(Lib.itoa z).length≤b/3+2:=by
 have h1:=dec_P2 h;unfold Lib.itoa;split
 · simp; omega
 · have e:z.toNat=z.natAbs:=by omega
   rw [e]; omega
/-! Ratios. -/
theorem agg_Ratio:Agg Tryz.prog 97 4:=⟨by kernel_rfl,by kernel_rfl⟩
def ratL (s:Bool) (a:Option Addr) (n c:Nat) (t:Bool) (b:Option Addr) (m d:Nat):List Value:=intL s a n c ++ intL t b m d
theorem ratL_one (s:Bool) (a:Option Addr) (n c:Nat) (t:Bool) (b:Option Addr) (m d:Nat):∀ v∈ratL s a n c t b m d,v.oneCell'=true:=by
 intro v hv;rcases List.mem_append.1 hv with h|h
 · exact intL_one _ _ _ _ v h
 · exact intL_one _ _ _ _ v h
theorem ratL_nu (s:Bool) (a:Option Addr) (n c:Nat) (t:Bool) (b:Option Addr) (m d:Nat):∀ v∈ratL s a n c t b m d,∀ i,v ≠ .int .u64 i:=by
 intro v hv;rcases List.mem_append.1 hv with h|h
 · exact intL_nu _ _ _ _ v h
 · exact intL_nu _ _ _ _ v h
def denZ (q:Rat):Int:=if q.den=1 then 0 else (q.den:Int)
theorem denZ_nonneg (q:Rat):0≤denZ q:=by unfold denZ; split <;> omega
theorem denZ_zero {q:Rat}:denZ q=0↔q.den=1:=by
 have:=q.den_nz;unfold denZ;split
 · simp [*]
 · constructor
   · intro h; omega
   · intro h; exact absurd h ‹_›
theorem denZ_abs {q:Rat} (h:q.den≠1):(denZ q).natAbs=q.den:=by unfold denZ; rw [if_neg h]; rfl
theorem denZ_of {q:Rat} (h:q.den≠1):denZ q=(q.den:Int):=by unfold denZ; rw [if_neg h]
def RatC (w:World) (cs:List Value) (q:Rat):Prop:=∃ s a n c b m d,cs=ratL s a n c false b m d∧Hid (decide (q.num<0)=s)∧Wd w a n c q.num.natAbs∧Wd w b m d (denZ q).natAbs
theorem RatC.ext {w w':World} {cs:List Value} {q:Rat} (h:RatC w cs q) (e:Ext w w'):RatC w' cs q:=by
 obtain ⟨s,a,n,c,b,m,d,h1,h2,h3,h4⟩:=h;exact ⟨s,a,n,c,b,m,d,h1,h2,h3.ext e,h4.ext e⟩
def RatR (w:World) (v:Value) (q:Rat):Prop:=∃ cs,v = .agg cs.toArray∧RatC w cs q
theorem RatR.ext {w w':World} {v:Value} {q:Rat} (h:RatR w v q) (e:Ext w w'):RatR w' v q:=by
 obtain ⟨cs,h1,h2⟩:=h;exact ⟨cs,h1,h2.ext e⟩
def RetR (w:World) (q:Rat) (e:Ending) (w':World):Prop:=∃ cs,e = .returned (.agg cs.toArray)∧Ext w w'∧RatC w' cs q
theorem den_neg {q:Rat}:Hid (decide (denZ q<0)=false):=qh (decide_eq_false (by have:=denZ_nonneg q; omega))
theorem rat_int {w:World} {a:Option Addr} {n c:Nat} {s:Bool} {q:Rat} (HS:Hid (decide (q.num<0)=s)) (h:Wd w a n c q.num.natAbs):IntR w (.agg (intL s a n c).toArray) q.num:=⟨s,a,n,c,rfl,HS,h⟩
theorem den_int {w:World} {b:Option Addr} {m d:Nat} {q:Rat} (h:Wd w b m d (denZ q).natAbs):IntR w (.agg (intL false b m d).toArray) (denZ q):=⟨false,b,m,d,rfl,den_neg,h⟩
def txt (q:Rat):List UInt8:=Lib.itoa q.num ++ (if q.den=1 then [] else 47 :: Lib.decDigits q.den)
theorem rat_String {w:World} {v:Value} {q:Rat} (hT:Tabs w) (h:RatR w v q) (hb:q.num.natAbs<P2 1920) (hd:q.den<P2 1920):Calls Tryz.prog 54 #[v] w fun e w'=>e = .returned (.string ⟨(txt q).toArray⟩)∧Ext w w':=by
 obtain ⟨_,rfl,s,a,n,c,b,m,d,rfl,HS,hx,hy⟩:=h;have hzr:=fun (wx:World) (hC:Ext w wx)=>qh (int_IsZero (r:=decide (denZ q=0)) (den_int (hy.ext hC)) rfl);have hi64:=fun (wx:World) (hC:Ext w wx)=>qh (int_Int64 (rat_int HS (hx.ext hC)));by_cases h1:q.den=1
 · have hz1:decide (denZ q=0)=true:=by simpa using denZ_zero.2 h1
   have HT:Hid (txt q=Lib.itoa q.num):=by show _=_; unfold txt; rw [if_pos h1,List.append_nil]
   rw [hz1] at hzr;clear hz1 h1 hd
   go_enter Tryz.func54,Tryz.ntmps54
   go_upto_region 1 with (fail)
   refine box1 ?_;intro w0 hE0 hB0 hz0;have p0:=hB0.c 0 rfl;have p1:=hB0.c 1 rfl;have p2:=hB0.c 2 rfl;have p3:=hB0.c 3 rfl;clear hz0
   go_wp2_with fail
   refine (hzr _ hE0).out.mono ?_;rintro e w1 ⟨rfl,hE1⟩;have hEw:=hE0.trans hE1;have r0:=hE1.cell p0;have r1:=hE1.cell p1;by_cases hin : -9223372036854775808≤q.num∧q.num≤9223372036854775807
   · have has:=as64_in hin;have hfi:=fun (wx:World) (hC:Ext w wx)=>qh (rat_FromInt (hT.ext hC) hin.1 hin.2);rw [has] at hi64;clear has hin
     go_wp2_with fail
     refine (hi64 _ hEw).out.mono ?_;rintro e w2 ⟨rfl,hE2⟩
     go_wp2_with fail
     refine (hfi _ (hEw.trans hE2)).out.mono ?_;rintro e w3 ⟨rfl,hE3⟩;go_wp2;go_ret;exact ⟨by rw [HT.out]; rfl,(hEw.trans hE2).trans hE3⟩
   · have has:=as64_out hin;have hst:=fun (wx:World) (hC:Ext w wx)=>qh (int_String (hT.ext hC) (rat_int HS (hx.ext hC)) hb);rw [has] at hi64;clear has hin
     go_wp2_with fail
     refine (hi64 _ hEw).out.mono ?_;rintro e w2 ⟨rfl,hE2⟩;have t0:=hE2.cell r0;have t1:=hE2.cell r1
     go_wp2_with fail
     refine (hst _ (hEw.trans hE2)).out.mono ?_;rintro e w3 ⟨rfl,hE3⟩;go_wp2;go_ret;exact ⟨by rw [HT.out]; rfl,(hEw.trans hE2).trans hE3⟩
 · have hz1:decide (denZ q=0)=false:=by simpa using mt denZ_zero.1 h1
   have HT:Hid (txt q=Lib.itoa q.num ++ 47 :: Lib.itoa (denZ q)):=by
    show _=_;unfold txt;rw [if_neg h1,denZ_of h1,Lib.itoa_nonneg]
   have hdb:(denZ q).natAbs<P2 1920:=by rw [denZ_abs h1]; exact hd
   have hln:(Lib.itoa q.num).length≤700:=by have:=itoa_P2 hb; omega
   rw [hz1] at hzr;clear hz1 h1 hd hi64;have hap:=fun (wx:World) (hC:Ext w wx)=>qh (int_Append (l:=[]) (hT.ext hC) (Ext.refl wx) (Own.nil wx _ _) (rat_int HS (hx.ext hC)) hb (Nat.zero_le _))
   go_enter Tryz.func54,Tryz.ntmps54
   go_upto_region 1 with (fail)
   refine box1 ?_;intro w0 hE0 hB0 hz0;have p0:=hB0.c 0 rfl;have p1:=hB0.c 1 rfl;have p2:=hB0.c 2 rfl;have p3:=hB0.c 3 rfl;clear hz0
   go_wp2_with fail
   refine (hzr _ hE0).out.mono ?_;rintro e w1 ⟨rfl,hE1⟩;have hEw:=hE0.trans hE1;have r0:=hE1.cell p0;have r1:=hE1.cell p1
   go_wp2_with fail
   refine (hap _ hEw).out.mono ?_;rintro e w2 ⟨a2,n2,c2,rfl,hO2,hE2⟩;have hE12:=hEw.trans hE2;have hn2:n2≤700:=by have:=hO2.len; simp at this; omega
   have hO2':Own w2 w1.heap.size 5 a2 n2 c2 ((Lib.itoa q.num).map byteV):=hO2;have hA:=hO2'.alloc (.cells #[.int .u8 47] 5);have hL:=(own_alloc w2 w1.heap.size 5 #[.int .u8 47] 1 rfl hE2.size (by omega)).sl;have hb2:∀ k,blk a2=some k→w1.heap.size≤k:=fun k hk=>(hO2'.lt hk).1;have hbx:=(hB0.ext hE1).lt
   go_upto_region 7 with (refine wl_app rfl rfl Tryz.underlying154 info_u8 rfl rfl hA rfl hL (by simp [Value.oneCell']) (by unfold maxLen; omega) (by omega) (by simp; have:=hE2.size; omega) ?_; intro a7 c7 w7 hO7 hg7 hb7)
   have hE7:Ext w1 w7:=(hE2.alloc _).grown hg7 hb2;have hE17:=hEw.trans hE7;have hO8:Own w7 w1.heap.size 5 a7 (n2+1) c7 ((Lib.itoa q.num ++ [47]).map byteV):=by rw [List.map_append]; exact hO7
   have hap2:=qh (int_Append (hT.ext hEw) hE7 hO8 (den_int (hy.ext hEw)) hdb (by omega));have hB7:=(hB0.ext hE1).ext hE7;have q2:=hB7.c 2 rfl;have q3:=hB7.c 3 rfl
   go_wp2_with fail
   refine hap2.out.mono ?_;rintro e w8 ⟨a8,n8,c8,rfl,hO9,hE8⟩
   go_wp2_with (refine wl_fromBytes rfl rfl Tryz.underlying154 Tryz.underlying5 Tryz.underlying9 rfl hO9.sl ?_)
   go_ret;exact ⟨by rw [HT.out]; rfl,hEw.trans hE8⟩
theorem retR_of {w w1 w9:World} {R:Nat} {ty:TypeId} {cs:List Value} {s:Bool} {a b:Option Addr} {n c m d:Nat} {q:Rat} (hE:Ext w w1) (hR:Arr w1 R ty cs) (hcs:∀ v∈cs,∀ i,v ≠ .int .u64 i) (hg:w1.grownBy w9 (some R)) (hw:w.heap.size≤R) (HS:Hid (decide (q.num<0)=s)) (hx:Wd w1 a n c q.num.natAbs) (hy:Wd w1 b m d (denZ q).natAbs):RetR w q (.returned (.agg (ratL s a n c false b m d).toArray)) w9 :=
 ⟨_,rfl,hE.grownR hg hw,s,a,n,c,b,m,d,rfl,HS,hx.kept hR hcs hg,hy.kept hR hcs hg⟩
theorem rat_Small {z:Int} {w:World} (h1 : -9223372036854775808≤z) (h2:z≤9223372036854775807):Calls Tryz.prog 107 #[.int .i64 z] w (RetR w (z:Rat)):=by
 have hnum:((z:Int):Rat).num=z:=rfl;have hden:denZ ((z:Int):Rat)=0:=denZ_zero.2 rfl
 go_enter Tryz.func107,Tryz.ntmps107
 go_upto_region 1 with (fail)
 refine box1 ?_;intro w0 hE0 hB0 hz0;have hR:Arr w0 w.heap.size 97 (ratL false none 0 0 false none 0 0):=hB0;have HN:=qh hnum;have HD:=qh hden;clear hz0 hnum hden
 go_wp2_with fail
 refine (int_New h1 h2).mono ?_;rintro e w1 ⟨s1,a1,n1,c1,rfl,hE1,HS1,hx1⟩;have hR1:=hR.ext hE1;have hl1:(intL s1 a1 n1 c1).toArray=#[.bool s1, .slice a1 n1 c1]:=rfl
 go_wp2_with (refine wl_stArr (vs:=ratL s1 a1 n1 c1 false none 0 0) rfl rfl rfl rfl rfl agg_Ratio hR1 rfl (ratL_one _ _ _ _ _ _ _ _) ?_; intro w9 hB9 hg9)
 exact bodyPost_ret (res_arr rfl agg_Ratio rfl hB9) rfl (retR_of (hE0.trans hE1) hR1 (ratL_nu _ _ _ _ _ _ _ _) hg9 (by omega) (by rw [HN.out]; exact HS1) (by rw [HN.out]; exact hx1) (by rw [HD.out]; exact Wd.nil _))
theorem rat_IsZero {v:Value} {q:Rat} {w:World} (h:RatR w v q) {r:Bool} (hr:decide (q=0)=r):Calls Tryz.prog 88 #[v] w fun e w'=>e = .returned (.bool r)∧Ext w w':=by
 obtain ⟨_,rfl,s,a,n,c,b,m,d,rfl,HS,hx,hy⟩:=h;have hzr:=fun (wx:World) (hC:Ext w wx)=>qh (int_IsZero (r:=r) (rat_int HS (hx.ext hC)) (by rw [←hr]; exact decide_eq_decide.2 Pl.rat_num_den_zero));clear hr
 go_enter Tryz.func88,Tryz.ntmps88
 go_upto_region 1 with (fail)
 refine box1 ?_;intro w0 hE0 hB0 hz0;have p0:=hB0.c 0 rfl;have p1:=hB0.c 1 rfl;have p2:=hB0.c 2 rfl;have p3:=hB0.c 3 rfl;clear hz0
 go_wp2_with fail
 refine (hzr _ hE0).out.mono ?_;rintro e w1 ⟨rfl,hE1⟩;go_wp2;go_ret;exact ⟨rfl,hE0.trans hE1⟩
theorem rat_Sign {v:Value} {q:Rat} {w:World} (h:RatR w v q) {r:Int} (hr:q.num.sign=r):Calls Tryz.prog 64 #[v] w fun e w'=>e = .returned (.int .i64 r)∧Ext w w':=by
 obtain ⟨_,rfl,s,a,n,c,b,m,d,rfl,HS,hx,hy⟩:=h;have hzr:=fun (wx:World) (hC:Ext w wx)=>qh (int_Sign (r:=r) (rat_int HS (hx.ext hC)) hr);clear hr
 go_enter Tryz.func64,Tryz.ntmps64
 go_upto_region 1 with (fail)
 refine box1 ?_;intro w0 hE0 hB0 hz0;have p0:=hB0.c 0 rfl;have p1:=hB0.c 1 rfl;have p2:=hB0.c 2 rfl;have p3:=hB0.c 3 rfl;clear hz0
 go_wp2_with fail
 refine (hzr _ hE0).out.mono ?_;rintro e w1 ⟨rfl,hE1⟩;go_wp2;go_ret;exact ⟨rfl,hE0.trans hE1⟩
theorem rat_Num {v:Value} {q:Rat} {w:World} (h:RatR w v q):Calls Tryz.prog 96 #[v] w (RetI w q.num):=by
 obtain ⟨_,rfl,s,a,n,c,b,m,d,rfl,HS,hx,hy⟩:=h
 go_enter Tryz.func96,Tryz.ntmps96
 go_upto_region 1 with (fail)
 refine box2 ?_;intro w0 hE0 hB0 hB1 hz0;have p0:=hB0.c 0 rfl;have p1:=hB0.c 1 rfl;have p2:=hB0.c 2 rfl;have p3:=hB0.c 3 rfl;have hR:Arr w0 (w.heap.size+1) 90 (intL false none 0 0):=hB1;clear hz0
 go_wp2_with (refine wl_stArr (vs:=intL s a n c) rfl rfl rfl rfl rfl agg_Int hR rfl (intL_one _ _ _ _) ?_; intro w9 hB9 hg9)
 exact bodyPost_ret (res_arr rfl agg_Int rfl hB9) rfl (retI_of hE0 hR (intL_nu _ _ _ _) hg9 (by omega) HS (hx.ext hE0))
theorem rat_Den {v:Value} {q:Rat} {w:World} (h:RatR w v q):Calls Tryz.prog 99 #[v] w (RetI w (q.den:Int)):=by
 obtain ⟨_,rfl,s,a,n,c,b,m,d,rfl,HS,hx,hy⟩:=h;have hzr:=fun (wx:World) (hC:Ext w wx)=>qh (int_IsZero (r:=decide (denZ q=0)) (den_int (hy.ext hC)) rfl);have HSD:Hid (decide ((q.den:Int)<0)=false):=qh (decide_eq_false (by omega))
 go_enter Tryz.func99,Tryz.ntmps99
 go_upto_region 1 with (fail)
 refine box2 ?_;intro w0 hE0 hB0 hB1 hz0;have p0:=hB0.c 0 rfl;have p1:=hB0.c 1 rfl;have p2:=hB0.c 2 rfl;have p3:=hB0.c 3 rfl;have hR:Arr w0 (w.heap.size+1) 90 (intL false none 0 0):=hB1;clear hz0
 go_wp2_with fail
 refine (hzr _ hE0).out.mono ?_;rintro e w1 ⟨rfl,hE1⟩;have hEw:=hE0.trans hE1;have r2:=hE1.cell p2;have r3:=hE1.cell p3;have hRa:=hR.ext hE1;by_cases h1:q.den=1
 · have hz1:decide (denZ q=0)=true:=by simpa using denZ_zero.2 h1
   rw [hz1];have H1:=qh h1;clear hz1 h1
   go_wp2_with fail
   refine (int_New (z:=1) (by omega) (by omega)).mono ?_;rintro e w2 ⟨s1,a1,n1,c1,rfl,hE2,HS1,hx1⟩;have hR1:=hRa.ext hE2
   go_wp2_with (refine wl_stArr (vs:=intL s1 a1 n1 c1) rfl rfl rfl rfl rfl agg_Int hR1 rfl (intL_one _ _ _ _) ?_; intro w9 hB9 hg9)
   refine bodyPost_ret (res_arr rfl agg_Int rfl hB9) rfl ?_;rw [H1.out];exact retI_of (hEw.trans hE2) hR1 (intL_nu _ _ _ _) hg9 (by omega) HS1 hx1
 · have hz1:decide (denZ q=0)=false:=by simpa using mt denZ_zero.1 h1
   have HA:=qh (denZ_abs h1);rw [hz1];clear hz1 h1
   go_wp2_with (refine wl_stArr (vs:=intL false b m d) rfl rfl rfl rfl rfl agg_Int hRa rfl (intL_one _ _ _ _) ?_; intro w9 hB9 hg9)
   refine bodyPost_ret (res_arr rfl agg_Int rfl hB9) rfl (retI_of hEw hRa (intL_nu _ _ _ _) hg9 (by omega) HSD ?_);have h2:=hy.ext hEw;rw [HA.out] at h2;exact h2
theorem rat_lowest {v v':Value} {q:Rat} {w:World} (h:IntR w v q.num) (h':IntR w v' (q.den:Int)):Calls Tryz.prog 115 #[v,v'] w (RetR w q):=by
 have hio:=fun (wx:World) (hC:Ext w wx)=>qh (int_IsOne (r:=decide (q.den=1)) (h'.ext hC) (decide_eq_decide.2 (by omega)));obtain ⟨s,a,n,c,rfl,HS,hx⟩:=h;obtain ⟨t,b,m,d,rfl,HT,hy⟩:=h';have ht:t=false:=by have:=HT.out; rw [←this]; exact decide_eq_false (by omega)
 subst ht;have hy':Wd w b m d q.den:=hy;clear hy
 go_enter Tryz.func115,Tryz.ntmps115
 go_upto_region 1 with (fail)
 refine box3 ?_;intro w0 hE0 hB0 hB1 hB2 hz0;have p00:=hB0.c 0 rfl;have p01:=hB0.c 1 rfl;have p10:=hB1.c 0 rfl;have p11:=hB1.c 1 rfl;have hR:Arr w0 (w.heap.size+2) 97 (ratL false none 0 0 false none 0 0):=hB2;clear hz0
 go_wp2_with fail
 refine (hio _ hE0).out.mono ?_;rintro e w1 ⟨rfl,hE1⟩;have hEw:=hE0.trans hE1;have r00:=hE1.cell p00;have r01:=hE1.cell p01;have r10:=hE1.cell p10;have r11:=hE1.cell p11;have hRa:=hR.ext hE1;by_cases h1:q.den=1
 · have hz1:decide (q.den=1)=true:=by simpa using h1
   have HD:Hid (denZ q=0):=qh (denZ_zero.2 h1);rw [hz1];clear hz1 h1
   go_wp2_with (refine wl_stArr (vs:=ratL s a n c false none 0 0) rfl rfl rfl rfl rfl agg_Ratio hRa rfl (ratL_one _ _ _ _ _ _ _ _) ?_; intro w9 hB9 hg9)
   exact bodyPost_ret (res_arr rfl agg_Ratio rfl hB9) rfl (retR_of hEw hRa (ratL_nu _ _ _ _ _ _ _ _) hg9 (by omega) HS (hx.ext hEw) (by rw [HD.out]; exact Wd.nil _))
 · have hz1:decide (q.den=1)=false:=by simpa using h1
   have HA:=qh (denZ_abs h1);rw [hz1];clear hz1 h1
   go_wp2_with (refine wl_stArr (vs:=ratL s a n c false b m d) rfl rfl rfl rfl rfl agg_Ratio hRa rfl (ratL_one _ _ _ _ _ _ _ _) ?_; intro w9 hB9 hg9)
   exact bodyPost_ret (res_arr rfl agg_Ratio rfl hB9) rfl (retR_of hEw hRa (ratL_nu _ _ _ _ _ _ _ _) hg9 (by omega) HS (hx.ext hEw) (by rw [HA.out]; exact hy'.ext hEw))
theorem rat_Neg {v:Value} {q:Rat} {w:World} (h:RatR w v q):Calls Tryz.prog 65 #[v] w (RetR w (-q)):=by
 obtain ⟨_,rfl,s,a,n,c,b,m,d,rfl,HS,hx,hy⟩:=h;have hng:=fun (wx:World) (hC:Ext w wx)=>qh (int_Neg (rat_int HS (hx.ext hC)));have HD:Hid (denZ (-q)=denZ q):=qh rfl
 go_enter Tryz.func65,Tryz.ntmps65
 go_upto_region 1 with (fail)
 refine box2 ?_;intro w0 hE0 hB0 hB1 hz0;have p0:=hB0.c 0 rfl;have p1:=hB0.c 1 rfl;have p2:=hB0.c 2 rfl;have p3:=hB0.c 3 rfl;have hR:Arr w0 (w.heap.size+1) 97 (ratL false none 0 0 false none 0 0):=hB1;clear hz0
 refine wp_region_typed2 (by kernel_rfl) (fun wx=>Ext w0 wx)
  [he (.pointer (some ⟨w.heap.size,0,none⟩)),
 he (.agg #[.bool s, .slice a n c]),
 hp (fun v wx=>∃ s' a' n' c',v = .agg (intL s' a' n' c').toArray∧Hid (decide ((-q).num<0)=s')∧Wd wx a' n' c' (-q).num.natAbs),
 he (.pointer (some ⟨w.heap.size,2,none⟩)),
 he (.agg #[.bool false, .slice b m d])]
  (by kernel_rfl) (fun _ _ e h=>h.trans e) ((Ext.refl w0).drew) ⟨trivial,trivial,fun v w w' e ⟨s',a',n',c',h1,h2,h3⟩=>⟨s',a',n',c',h1,h2,h3.ext e⟩,trivial,trivial,trivial⟩ ⟨?o0, ?o1, ?o2, ?o3, ?o4,trivial⟩ ?fin
 case o0=>exact ofa (d:=0) rfl rfl (fun _ _=>id) (by kernel_rfl) rfl
 case o1=>exact ol2 rfl rfl (fun _ _=>id) ⟨by kernel_rfl,by kernel_rfl⟩ (by assumption) (by assumption)
 case o2 =>
  refine obl_cq rfl fun ρ wx hC hcst hfn h => ?_;have e1:ρ (.tmp 4)=(.agg #[.bool s, .slice a n c]):=h.2.1;have k0:=hC.cell p0;have k1:=hC.cell p1;have k2:=hC.cell p2;have k3:=hC.cell p3;refine ⟨117,#[.agg #[.bool s, .slice a n c]],by go_simp,((hng wx (hE0.trans hC)).out).mono ?_⟩;rintro e w' ⟨s',a',n',c',rfl,hE',hs',hn'⟩;exact ⟨_,rfl,hE',s',a',n',c',rfl,hs',hn'⟩
 case o3=>exact ofa (d:=2) rfl rfl (fun _ _=>id) (by kernel_rfl) rfl
 case o4=>exact ol2 rfl rfl (fun _ _=>id) ⟨by kernel_rfl,by kernel_rfl⟩ (by assumption) (by assumption)
 case fin =>
  intro wx hC;rintro _ ⟨s1,a1,n1,c1,rfl,HS1,hx1⟩;change wpList _ _ _ _ _ _;simp only [List.length_cons,List.length_nil,List.drop_succ_cons,List.drop_zero,Act.put,List.setIfInBounds_toArray,List.set_cons_succ,List.set_cons_zero];have hR1:=hR.ext hC;have hl1:(intL s1 a1 n1 c1).toArray=#[.bool s1, .slice a1 n1 c1]:=rfl
  go_wp2_with (refine wl_stArr (vs:=ratL s1 a1 n1 c1 false b m d) rfl rfl rfl rfl rfl agg_Ratio hR1 rfl (ratL_one _ _ _ _ _ _ _ _) ?_; intro w9 hB9 hg9)
  exact bodyPost_ret (res_arr rfl agg_Ratio rfl hB9) rfl (retR_of (hE0.trans hC) hR1 (ratL_nu _ _ _ _ _ _ _ _) hg9 (by omega) HS1 hx1 (by rw [HD.out]; exact hy.ext (hE0.trans hC)))
theorem retII_of {w w1 w9 w10:World} {R R':Nat} {ty ty':TypeId} {cs cs':List Value} {s s':Bool} {a a':Option Addr} {n c n' c':Nat} {z y:Int} (hE:Ext w w1) (hR:Arr w1 R ty cs) (hcs:∀ v∈cs,∀ i,v ≠ .int .u64 i) (hg:w1.grownBy w9 (some R)) (hw:w.heap.size≤R) (hR':Arr w9 R' ty' cs') (hcs':∀ v∈cs',∀ i,v ≠ .int .u64 i) (hg':w9.grownBy w10 (some R')) (hw':w.heap.size≤R') (HS:Hid (decide (z<0)=s)) (hx:Wd w1 a n c z.natAbs) (HS':Hid (decide (y<0)=s')) (hx':Wd w1 a' n' c' y.natAbs):RetII w z y (.returned (.tuple #[.agg (intL s a n c).toArray, .agg (intL s' a' n' c').toArray])) w10 :=
 ⟨s,a,n,c,s',a',n',c',rfl,(hE.grownR hg hw).grownR hg' hw',⟨HS,(hx.kept hR hcs hg).kept hR' hcs' hg'⟩,⟨HS',(hx'.kept hR hcs hg).kept hR' hcs' hg'⟩⟩
theorem rat_cancel {v v':Value} {x:Int} {k:Nat} {w:World} (hT:Tabs w) (h:IntR w v x) (h':IntR w v' (k:Int)) (bx:x.natAbs<P2 9600) (bk:k<P2 9600) (hk:k≠0):Calls Tryz.prog 114 #[v,v'] w (RetII w (x.tdiv ((Nat.gcd x.natAbs k:Nat):Int)) ((k/Nat.gcd x.natAbs k:Nat):Int)):=by
 have hio:=fun (wx:World) (hC:Ext w wx)=>qh (int_IsOne (r:=decide (k=1)) (h'.ext hC) (decide_eq_decide.2 (by omega)));have hgc:=fun (wx:World) (hC:Ext w wx)=>qh (int_GCD (hT.ext hC) (h.ext hC) (h'.ext hC) bx bk);have hgp:0<Nat.gcd x.natAbs k:=Nat.gcd_pos_of_pos_right _ (by omega);have hgb:Nat.gcd x.natAbs k<P2 9600:=Nat.lt_of_le_of_lt (Nat.le_of_dvd (by omega) (Nat.gcd_dvd_right _ _)) bk;have hq1:=fun (wx:World) (hC:Ext w wx) (g:Value) (hg:IntR wx g ((Nat.gcd x.natAbs k:Nat):Int))=>qh (int_Quo (h.ext hC) hg bx hgb (by omega))
 have hq2:=fun (wx:World) (hC:Ext w wx) (g:Value) (hg:IntR wx g ((Nat.gcd x.natAbs k:Nat):Int))=>qh (int_Quo (h'.ext hC) hg bk hgb (by omega));have htd:((k:Int)).tdiv ((Nat.gcd x.natAbs k:Nat):Int)=((k/Nat.gcd x.natAbs k:Nat):Int):=by rw [Int.tdiv_eq_ediv_of_nonneg (by omega)]; push_cast; rfl
 rw [htd] at hq2;clear bx bk hgb hgp htd;obtain ⟨s,a,n,c,rfl,HS,hx⟩:=h;obtain ⟨t,b,m,d,rfl,HT,hy⟩:=h'
 go_enter Tryz.func114,Tryz.ntmps114
 go_upto_region 1 with (fail)
 refine box4 ?_;intro w0 hE0 hB0 hB1 hB2 hB3 hz0;have p00:=hB0.c 0 rfl;have p01:=hB0.c 1 rfl;have p10:=hB1.c 0 rfl;have p11:=hB1.c 1 rfl;have hR:Arr w0 (w.heap.size+2) 90 (intL false none 0 0):=hB2;have hR2:Arr w0 (w.heap.size+3) 90 (intL false none 0 0):=hB3;clear hz0
 go_wp2_with fail
 refine (hio _ hE0).out.mono ?_;rintro e w1 ⟨rfl,hE1⟩;have hEw:=hE0.trans hE1;have r00:=hE1.cell p00;have r01:=hE1.cell p01;have r10:=hE1.cell p10;have r11:=hE1.cell p11;by_cases h1:k=1
 · have hz1:decide (k=1)=true:=by simpa using h1
   have HV:Hid (x.tdiv ((Nat.gcd x.natAbs k:Nat):Int)=x∧((k/Nat.gcd x.natAbs k:Nat):Int)=(k:Int)):=by
    refine qh ?_;subst h1;rw [Nat.gcd_one_right];exact ⟨Int.tdiv_one _,rfl⟩
   rw [hz1];clear hz1 h1;go_wp2;have hRa:=hR.ext hE1;have hRb:=hR2.ext hE1;have c20:=hRa.c 0 rfl;have c21:=hRa.c 1 rfl;have c30:=hRb.c 0 rfl;have c31:=hRb.c 1 rfl;have z20:=hRa.frozen 0;have z21:=hRa.frozen 1;have z30:=hRb.frozen 0;have z31:=hRb.frozen 1
   go_region
   go_wp2;have hA:=(((hRa.set 0 (.bool s)).set 1 (.slice a n c)).far (p:=⟨w.heap.size+3,0,none⟩) (by simp) (.bool t)).far (p:=⟨w.heap.size+3,1,none⟩) (by simp) (.slice b m d);have hB:=(((hRb.far (p:=⟨w.heap.size+2,0,none⟩) (by simp) (.bool s)).far (p:=⟨w.heap.size+2,1,none⟩) (by simp) (.slice a n c)).set 0 (.bool t)).set 1 (.slice b m d);have hE9:=((((hEw.setCell (p:=⟨w.heap.size+2,0,none⟩) (by simp) (.bool s)).setCell (p:=⟨w.heap.size+2,1,none⟩) (by simp) (.slice a n c)).setCell (p:=⟨w.heap.size+3,0,none⟩) (by simp) (.bool t)).setCell (p:=⟨w.heap.size+3,1,none⟩) (by simp) (.slice b m d)).drew
   refine bodyPost_ret (res_cc (cs:=intL s a n c) (cs':=intL t b m d) (t:=90) (t':=90) rfl agg_Int agg_Int rfl rfl hA hB) rfl ?_;rw [HV.out.1,HV.out.2];exact ⟨s,a,n,c,t,b,m,d,rfl,hE9,⟨HS,hx.ext hE9⟩,⟨HT,hy.ext hE9⟩⟩
 · have hz1:decide (k=1)=false:=by simpa using h1
   rw [hz1];clear hz1 h1
   go_wp2_with fail
   refine (hgc _ hEw).out.mono ?_;rintro e w2 ⟨s3,a3,n3,c3,rfl,hE2,HS3,hx3⟩;have hl3:(intL s3 a3 n3 c3).toArray=#[.bool s3, .slice a3 n3 c3]:=rfl;have hE12:=hEw.trans hE2;have t00:=hE2.cell r00;have t01:=hE2.cell r01;have t10:=hE2.cell r10;have t11:=hE2.cell r11;have hY:=Arr.new w2 90 (intL false none 0 0)
   go_upto_region 4 with (refine wl_stArr (vs:=intL s3 a3 n3 c3) rfl rfl rfl rfl rfl agg_Int hY rfl (intL_one _ _ _ _) ?_; intro w3 hB3' hg3)
   have hE3:Ext w2 w3:=((Ext.refl w2).alloc _).grownR hg3 (Nat.le_refl _);have hE13:=hE12.trans hE3;have u00:=hE3.cell t00;have u01:=hE3.cell t01;have u10:=hE3.cell t10;have u11:=hE3.cell t11;have g0:w3.cell? ⟨w2.heap.size,0,none⟩=some (.bool s3):=hB3'.cell (i:=0) (by simp [intL]);have g1:w3.cell? ⟨w2.heap.size,1,none⟩=some (.slice a3 n3 c3):=hB3'.cell (i:=1) (by simp [intL]);have hgv:IntR w3 (.agg (intL s3 a3 n3 c3).toArray) ((Nat.gcd x.natAbs k:Nat):Int):=⟨s3,a3,n3,c3,rfl,HS3,hx3.ext hE3⟩;clear hl3
   have HF1:=fun (wx:World) (hC:Ext w3 wx)=>qh (And.intro (hC.cell u00) (And.intro (hC.cell u01) (And.intro (hC.cell u10) (And.intro (hC.cell u11) (And.intro (hC.cell g0) (hC.cell g1))))))
   refine wp_region_typed2 (by kernel_rfl) (fun wx=>Ext w3 wx)
    [he (.agg #[.bool s, .slice a n c]),
 he (.agg #[.bool s3, .slice a3 n3 c3]),
 hp (fun v wx=>∃ s' a' n' c',v = .agg (intL s' a' n' c').toArray∧Hid (decide (x.tdiv ((Nat.gcd x.natAbs k:Nat):Int)<0)=s')∧Wd wx a' n' c' (Int.natAbs (x.tdiv ((Nat.gcd x.natAbs k:Nat):Int)))),
 he (.agg #[.bool t, .slice b m d]),
 he (.agg #[.bool s3, .slice a3 n3 c3]),
 hp (fun v wx=>∃ s' a' n' c',v = .agg (intL s' a' n' c').toArray∧Hid (decide (((k/Nat.gcd x.natAbs k:Nat):Int)<0)=s')∧Wd wx a' n' c' (Int.natAbs (((k/Nat.gcd x.natAbs k:Nat):Int))))]
    (by kernel_rfl) (fun _ _ e h=>h.trans e) ((Ext.refl w3).drew) ⟨trivial,trivial,fun v w w' e ⟨s',a',n',c',h1,h2,h3⟩=>⟨s',a',n',c',h1,h2,h3.ext e⟩,trivial,trivial,fun v w w' e ⟨s',a',n',c',h1,h2,h3⟩=>⟨s',a',n',c',h1,h2,h3.ext e⟩,trivial⟩ ⟨?o0, ?o1, ?o2, ?o3, ?o4, ?o5,trivial⟩ ?fin
   case o0=>exact ol2 rfl rfl (fun _ _=>id) ⟨by kernel_rfl,by kernel_rfl⟩ (by assumption) (by assumption)
   case o1=>exact ol2 rfl rfl (fun _ _=>id) ⟨by kernel_rfl,by kernel_rfl⟩ (by assumption) (by assumption)
   case o2 =>
    refine obl_cq rfl fun ρ wx hC hcst hfn h => ?_;have e1:ρ (.tmp 14)=(.agg #[.bool s, .slice a n c]):=h.2.1;have e2:ρ (.tmp 15)=(.agg #[.bool s3, .slice a3 n3 c3]):=h.2.2.1;obtain ⟨k00,k01,k10,k11,k20,k21⟩:=(HF1 wx hC).out;refine ⟨119,#[.agg #[.bool s, .slice a n c], .agg #[.bool s3, .slice a3 n3 c3]],by go_simp,((hq1 wx (hE13.trans hC) _ (hgv.ext hC)).out).mono ?_⟩;rintro e w' ⟨s',a',n',c',rfl,hE',hs',hn'⟩;exact ⟨_,rfl,hE',s',a',n',c',rfl,hs',hn'⟩
   case o3=>exact ol2 rfl rfl (fun _ _=>id) ⟨by kernel_rfl,by kernel_rfl⟩ (by assumption) (by assumption)
   case o4=>exact ol2 rfl rfl (fun _ _=>id) ⟨by kernel_rfl,by kernel_rfl⟩ (by assumption) (by assumption)
   case o5 =>
    refine obl_cq rfl fun ρ wx hC hcst hfn h => ?_;have e1:ρ (.tmp 17)=(.agg #[.bool t, .slice b m d]):=h.2.1;have e2:ρ (.tmp 18)=(.agg #[.bool s3, .slice a3 n3 c3]):=h.2.2.1;obtain ⟨k00,k01,k10,k11,k20,k21⟩:=(HF1 wx hC).out;refine ⟨119,#[.agg #[.bool t, .slice b m d], .agg #[.bool s3, .slice a3 n3 c3]],by go_simp,((hq2 wx (hE13.trans hC) _ (hgv.ext hC)).out).mono ?_⟩;rintro e w' ⟨s',a',n',c',rfl,hE',hs',hn'⟩;exact ⟨_,rfl,hE',s',a',n',c',rfl,hs',hn'⟩
   case fin =>
    intro wx hC;rintro _ ⟨s1,a1,n1,c1,rfl,HS1,hx1⟩;rintro _ ⟨s2,a2,n2,c2,rfl,HS2,hx2⟩;change wpList _ _ _ _ _ _;simp only [List.length_cons,List.length_nil,List.drop_succ_cons,List.drop_zero,Act.put,List.setIfInBounds_toArray,List.set_cons_succ,List.set_cons_zero];have hRa:=((((hR.ext hE1).ext hE2).ext hE3).ext hC);have hRb:=((((hR2.ext hE1).ext hE2).ext hE3).ext hC);have hl1:(intL s1 a1 n1 c1).toArray=#[.bool s1, .slice a1 n1 c1]:=rfl;have hl2:(intL s2 a2 n2 c2).toArray=#[.bool s2, .slice a2 n2 c2]:=rfl
    go_wp2_with (first
     | (refine wl_stArr (vs:=intL s1 a1 n1 c1) rfl rfl rfl rfl rfl agg_Int hRa rfl (intL_one _ _ _ _) ?_; intro w9 hB9 hg9; have hRc:=hRb.kept hg9 (by simp))
     | (refine wl_stArr (vs:=intL s2 a2 n2 c2) rfl rfl rfl rfl rfl agg_Int hRc rfl (intL_one _ _ _ _) ?_; intro w10 hB10 hg10))
    have hB9':=hB9.kept hg10 (by simp);exact bodyPost_ret (res_cc rfl agg_Int agg_Int rfl rfl hB9' hB10) rfl (retII_of (hE13.trans hC) hRa (intL_nu _ _ _ _) hg9 (by omega) hRc (intL_nu _ _ _ _) hg10 (by omega) HS1 hx1 HS2 hx2)
def StI (p:Value→World→Prop):Prop:=∀ v w w' g t cs cs',Arr w g t cs→(∀ x∈cs,∀ i,x ≠ .int .u64 i)→w.grownBy w' (some g)→Arr w' g t cs'→cs'.length=cs.length→(∀ x∈cs',∀ i,x ≠ .int .u64 i)→p v w→p v w'
def StX (p:Value→World→Prop):Prop:=∀ v w w',Ext w w'→p v w→p v w'
def NI (z:Int) (v:Value) (w:World):Prop:=∃ s a n c,v = .agg (intL s a n c).toArray∧Hid (decide (z<0)=s)∧Wd w a n c z.natAbs
theorem NI.x (z:Int):StX (NI z):=fun _ _ _ e ⟨s,a,n,c,h1,h2,h3⟩=>⟨s,a,n,c,h1,h2,h3.ext e⟩
theorem NI.i (z:Int):StI (NI z):=fun _ _ _ _ _ _ _ hA hn hg _ _ _ ⟨s,a,n,c,h1,h2,h3⟩=>⟨s,a,n,c,h1,h2,h3.kept hA hn hg⟩
def NII (z y:Int) (v:Value) (w:World):Prop:=∃ s a n c s' a' n' c',v = .tuple #[.agg (intL s a n c).toArray, .agg (intL s' a' n' c').toArray]∧(Hid (decide (z<0)=s)∧Wd w a n c z.natAbs)∧(Hid (decide (y<0)=s')∧Wd w a' n' c' y.natAbs)
theorem NII.x (z y:Int):StX (NII z y):=fun _ _ _ e ⟨s,a,n,c,s',a',n',c',h1,⟨h2,h3⟩,⟨h4,h5⟩⟩=>⟨s,a,n,c,s',a',n',c',h1,⟨h2,h3.ext e⟩,⟨h4,h5.ext e⟩⟩
theorem NII.i (z y:Int):StI (NII z y):=fun _ _ _ _ _ _ _ hA hn hg _ _ _ ⟨s,a,n,c,s',a',n',c',h1,⟨h2,h3⟩,⟨h4,h5⟩⟩=>⟨s,a,n,c,s',a',n',c',h1,⟨h2,h3.kept hA hn hg⟩,⟨h4,h5.kept hA hn hg⟩⟩
def NP (base:Nat) (v:Value) (w:World):Prop:=∃ g cs,v = .pointer (some ⟨g,0,none⟩)∧base≤g∧Arr w g 90 cs∧cs.length=2∧∀ x∈cs,∀ i,x ≠ .int .u64 i
theorem NP.x (b:Nat):StX (NP b):=fun _ _ _ e ⟨g,cs,h1,h2,h3,h4,h5⟩=>⟨g,cs,h1,h2,h3.ext e,h4,h5⟩
theorem NP.i (b:Nat):StI (NP b):=by
 intro v w w' g0 t cs0 cs1 hA hn hg hA' hl hn' ⟨g,cs,h1,h2,h3,h4,h5⟩;by_cases e:g=g0
 · subst e;unfold Arr at hA h3 hA';rw [hA] at h3;simp only [Option.some.injEq,Obj.cells.injEq,and_true] at h3;obtain ⟨h6,h7⟩:=h3;have h8:cs0=cs:=by simpa using h6
   subst h8; subst h7;exact ⟨g,cs1,h1,h2,hA',by omega,hn'⟩
 · exact ⟨g,cs,h1,h2,h3.kept hg (by simpa using e),h4,h5⟩
theorem NT.x:StX (fun _ _=>True):=fun _ _ _ _ _=>trivial
theorem NT.i:StI (fun _ _=>True):=fun _ _ _ _ _ _ _ _ _ _ _ _ _ _=>trivial
theorem run_allocI {o:Oper} (ho:o.op = .alloc 90) (ρ:Operand→Value) (w:World):(execOp ρ o).run Tryz.prog w = .ok (.value (.pointer (some ⟨w.heap.size,0,none⟩))) (w.alloc (.cells (intL false none 0 0).toArray 90)):=by
 simp only [execOp,ho];kernel_rfl
section
variable {ops:Array Oper} {hs:List Hd} {a0:Act} {C:World→Prop} {i:Nat} {o:Oper}
theorem obl_allocI {base:Nat} (hg:o.guard=none) (ho:o.op = .alloc 90) (hCb:∀ w,C w→base≤w.heap.size):obl Tryz.prog C ops hs a0 i o (hp (NP base)) :=
 obl_ext hg fun ρ w _ hC _=>⟨_,_,run_allocI ho ρ w,(Ext.refl w).alloc _,w.heap.size,intL false none 0 0,rfl,hCb w hC,Arr.new w _ _,rfl,intL_nu _ _ _ _⟩
def notesI:List Hd→Prop
 | []=>True
 | h :: r=>(match h.ty with | .eq _=>True | .pr p=>StI p)∧notesI r
theorem notesI_mem:∀ {l:List Hd},notesI l→∀ h∈l,(match h.ty with | .eq _=>True | .pr p=>StI p)
 | [],_,h,hm=>absurd hm (by simp)
 | x :: r,hl,h,hm=>by
  rcases List.mem_cons.1 hm with rfl|hm
  · exact hl.1
  · exact notesI_mem hl.2 h hm
theorem keepsI (hn:notesI hs) {w w':World} {g:Nat} {t:TypeId} {cs cs':List Value} (hA:Arr w g t cs) (hc:∀ x∈cs,∀ i,x ≠ .int .u64 i) (hg:w.grownBy w' (some g)) (hA':Arr w' g t cs') (hl:cs'.length=cs.length) (hc':∀ x∈cs',∀ i,x ≠ .int .u64 i):keeps ops hs i o w w' (List.range hs.length):=by
 refine keeps_of fun j hj v hv => ?_;have hj':j<hs.length:=by
  have:=(List.mem_filter.1 hj).1;simpa using this
 have hm:hdAt hs j∈hs:=by
  rw [hdAt,List.getD_eq_getElem?_getD,List.getElem?_eq_getElem hj'];simp
 have:=notesI_mem hn _ hm;revert this hv;cases (hdAt hs j).ty with
 | eq c=>exact fun hv _=>hv
 | pr p=>exact fun hv hp=>hp v w w' g t cs cs' hA hc hg hA' hl hc' hv
theorem obl_storeI {base:Nat} {z:Int} {x y:Operand} (hg:o.guard=none) (ho:o.op = .store 90 x y) (hn:notesI hs) (hC2:∀ w w' g,C w→base≤g→w.grownBy w' (some g)→C w')
 (h:∀ ρ w,Plain ρ→C w→opnds ops hs a0 o ρ w [x,y]→(∃ v,ρ x=v∧NP base v w)∧(∃ v,ρ y=v∧NI z v w)):obl Tryz.prog C ops hs a0 i o (hmp (fun _ _=>True)):=by
 unfold obl wants;rw [hg];intro ρ w hp hC hx;have hx':opnds ops hs a0 o ρ w [x,y]:=by rw [ho] at hx; exact hx
 obtain ⟨⟨v1,e1,g,cs,rfl,h2,h3,h4,h5⟩,⟨v2,e2,s,a,n,c,rfl,_,_⟩⟩:=h ρ w hp hC hx';have hrun:(execOp ρ o).run Tryz.prog w = .ok .skip (w.setRow g (intL s a n c).toArray):=by
  have:=run_storeArr (P:=Tryz.prog) (w:=w) (ty:=90) (g:=g) (cs:=cs) (vs:=intL s a n c) agg_Int h3 (by rw [h4]; rfl) (intL_one _ _ _ _);simp only [execOp,ho,e1,e2,Sem.run_bind,this,Result.andThen_ok,Sem.run_pure]
 rw [hrun];have hgr:=setRow_grown w g (intL s a n c).toArray;exact ⟨hC2 w _ g hC h2 hgr,keepsI hn h3 h5 hgr (setRow_arr h3 _) (by rw [h4]; rfl) (intL_nu _ _ _ _),trivial⟩
end
end Go.Proofs.YtlpgonpfjbhmfaaGreatDoor
