/- Part Gav23. -/
import Derived.Test.YtlpgonpfjbhmfaaGreatDoorGav22
import Derived.Test.YtlpgonpfjbhmfaaGreatDoorGav19
import Derived.Test.YtlpgonpfjbhmfaaGreatDoorGav20
set_option maxRecDepth 100000
set_option maxHeartbeats 100000000
namespace Go.Proofs.YtlpgonpfjbhmfaaGreatDoor
open Tryz Go Go.RowKit
variable {s s':Bool} {z:Int} {cs cs':List Value} {R R' base c k n:Nat} {o:Oper} {y:Operand} {a a' b:Option Addr} {q:Rat} {ty ty':TypeId} {v v':Value} {w w1 w9:World}
theorem Gp (hT:A2 w) (h:BB w v q) (hb:q.num.natAbs<P2 1920) (hd:q.den<P2 1920):Calls prog 54 #[v] w fun e w'=>e = .returned (.string ⟨(txt q).toArray⟩)∧Ext w w':=by
 obtain ⟨_,rfl,s,a,n,c,b,m,d,rfl,HS,hx,hy⟩:=h;have hzr:=fun (wx:World) (hC:Ext w wx)=>qh (Av (r:=decide (Bu q=0)) (Be (hy.ext hC)) rfl);have hi64:=fun (wx:World) (hC:Ext w wx)=>qh (QG (AX HS (hx.ext hC)));by_cases h1:q.den=1
 · have hz1:decide (Bu q=0)=true:=by simpa using AE.2 h1
   have HT:Hid (txt q=Lib.itoa q.num):=by show _=_; unfold txt; rw [if_pos h1,List.append_nil]
   rw [hz1] at hzr;clear hz1 h1 hd
   go_enter func54,ntmps54
   go_upto_region 1 with (fail)
   refine Bq ?_;intro w0 hE0 hB0 hz0;have p0:=hB0.c 0 rfl;have p1:=hB0.c 1 rfl;have p2:=hB0.c 2 rfl;have p3:=hB0.c 3 rfl;clear hz0
   go_wp2_with fail
   refine (hzr _ hE0).out.mono ?_;rintro e w1 ⟨rfl,hE1⟩;have hEw:=hE0.trans hE1;have r0:=hE1.cell p0;have r1:=hE1.cell p1;by_cases hin : -9223372036854775808≤q.num∧q.num≤9223372036854775807
   · have has:=I8 hin;have hfi:=fun (wx:World) (hC:Ext w wx)=>qh (Nm (hT.ext hC) hin.1 hin.2);rw [has] at hi64;clear has hin
     go_wp2_with fail
     refine (hi64 _ hEw).out.mono ?_;rintro e w2 ⟨rfl,hE2⟩
     go_wp2_with fail
     refine (hfi _ (hEw.trans hE2)).out.mono ?_;rintro e w3 ⟨rfl,hE3⟩;go_wp2;go_ret;exact ⟨by rw [HT.out]; rfl,(hEw.trans hE2).trans hE3⟩
   · have has:=GS hin;have hst:=fun (wx:World) (hC:Ext w wx)=>qh (OJ (hT.ext hC) (AX HS (hx.ext hC)) hb);rw [has] at hi64;clear has hin
     go_wp2_with fail
     refine (hi64 _ hEw).out.mono ?_;rintro e w2 ⟨rfl,hE2⟩;have t0:=hE2.cell r0;have t1:=hE2.cell r1
     go_wp2_with fail
     refine (hst _ (hEw.trans hE2)).out.mono ?_;rintro e w3 ⟨rfl,hE3⟩;go_wp2;go_ret;exact ⟨by rw [HT.out]; rfl,(hEw.trans hE2).trans hE3⟩
 · have hz1:decide (Bu q=0)=false:=by simpa using mt AE.1 h1
   have HT:Hid (txt q=Lib.itoa q.num ++ 47 :: Lib.itoa (Bu q)):=by
    show _=_;unfold txt;rw [if_neg h1,DC h1,Lib.itoa_nonneg]
   have hdb:(Bu q).natAbs<P2 1920:=by rw [Dk h1]; exact hd
   have hln:(Lib.itoa q.num).length≤700:=by have:=PF hb; omega
   rw [hz1] at hzr;clear hz1 h1 hd hi64;have hap:=fun (wx:World) (hC:Ext w wx)=>qh (Gn (l:=[]) (hT.ext hC) (Ext.refl wx) (Own.nil wx _ _) (AX HS (hx.ext hC)) hb (Nat.zero_le _))
   go_enter func54,ntmps54
   go_upto_region 1 with (fail)
   refine Bq ?_;intro w0 hE0 hB0 hz0;have p0:=hB0.c 0 rfl;have p1:=hB0.c 1 rfl;have p2:=hB0.c 2 rfl;have p3:=hB0.c 3 rfl;clear hz0
   go_wp2_with fail
   refine (hzr _ hE0).out.mono ?_;rintro e w1 ⟨rfl,hE1⟩;have hEw:=hE0.trans hE1;have r0:=hE1.cell p0;have r1:=hE1.cell p1
   go_wp2_with fail
   refine (hap _ hEw).out.mono ?_;rintro e w2 ⟨a2,n2,c2,rfl,hO2,hE2⟩;have hE12:=hEw.trans hE2;have hn2:n2≤700:=by have:=hO2.len; simp at this; omega
   have hO2':Own w2 w1.heap.size 5 a2 n2 c2 ((Lib.itoa q.num).map AO):=hO2;have hA:=hO2'.alloc (.cells #[.int .u8 47] 5);have hL:=(Au w2 w1.heap.size 5 #[.int .u8 47] 1 rfl hE2.size (by omega)).sl;have hb2:∀ k,blk a2=some k→w1.heap.size≤k:=fun k hk=>(hO2'.lt hk).1;have hbx:=(hB0.ext hE1).lt
   go_upto_region 7 with (refine Bw rfl rfl underlying154 Df rfl rfl hA rfl hL (by simp [Value.oneCell']) (by unfold maxLen; omega) (by omega) (by simp; have:=hE2.size; omega) ?_; intro a7 c7 w7 hO7 hg7 hb7)
   have hE7:Ext w1 w7:=(hE2.alloc _).grown hg7 hb2;have hE17:=hEw.trans hE7;have hO8:Own w7 w1.heap.size 5 a7 (n2+1) c7 ((Lib.itoa q.num ++ [47]).map AO):=by rw [List.map_append]; exact hO7
   have hap2:=qh (Gn (hT.ext hEw) hE7 hO8 (Be (hy.ext hEw)) hdb (by omega));have hB7:=(hB0.ext hE1).ext hE7;have q2:=hB7.c 2 rfl;have q3:=hB7.c 3 rfl
   go_wp2_with fail
   refine hap2.out.mono ?_;rintro e w8 ⟨a8,n8,c8,rfl,hO9,hE8⟩
   go_wp2_with (refine EH rfl rfl underlying154 underlying5 underlying9 rfl hO9.sl ?_)
   go_ret;exact ⟨by rw [HT.out]; rfl,hEw.trans hE8⟩
theorem Bf {m d:Nat} (hE:Ext w w1) (hR:Arr w1 R ty cs) (hcs:∀ v∈cs,∀ i,v ≠ .int .u64 i) (hg:w1.grownBy w9 (some R)) (hw:w.heap.size≤R) (HS:Hid (decide (q.num<0)=s)) (hx:Wd w1 a n c q.num.natAbs) (hy:Wd w1 b m d (Bu q).natAbs):F4 w q (.returned (.agg (An s a n c false b m d).toArray)) w9 :=
 ⟨_,rfl,hE.grownR hg hw,s,a,n,c,b,m,d,rfl,HS,hx.kept hR hcs hg,hy.kept hR hcs hg⟩
theorem Gq (h:BB w v q) {r:Bool} (hr:decide (q=0)=r):Calls prog 88 #[v] w fun e w'=>e = .returned (.bool r)∧Ext w w':=by
 obtain ⟨_,rfl,s,a,n,c,b,m,d,rfl,HS,hx,hy⟩:=h;have hzr:=fun (wx:World) (hC:Ext w wx)=>qh (Av (r:=r) (AX HS (hx.ext hC)) (by rw [←hr]; exact decide_eq_decide.2 Pl.rat_num_den_zero));clear hr
 go_enter func88,ntmps88
 go_upto_region 1 with (fail)
 refine Bq ?_;intro w0 hE0 hB0 hz0;have p0:=hB0.c 0 rfl;have p1:=hB0.c 1 rfl;have p2:=hB0.c 2 rfl;have p3:=hB0.c 3 rfl;clear hz0
 go_wp2_with fail
 refine (hzr _ hE0).out.mono ?_;rintro e w1 ⟨rfl,hE1⟩;go_wp2;go_ret;exact ⟨rfl,hE0.trans hE1⟩
theorem TT (h:BB w v q):Calls prog 96 #[v] w (Ei w q.num):=by
 obtain ⟨_,rfl,s,a,n,c,b,m,d,rfl,HS,hx,hy⟩:=h
 go_enter func96,ntmps96
 go_upto_region 1 with (fail)
 refine F0 ?_;intro w0 hE0 hB0 hB1 hz0;have p0:=hB0.c 0 rfl;have p1:=hB0.c 1 rfl;have p2:=hB0.c 2 rfl;have p3:=hB0.c 3 rfl;have hR:Arr w0 (w.heap.size+1) 90 (Ab false none 0 0):=hB1;clear hz0
 go_wp2_with (refine Aa (vs:=Ab s a n c) rfl rfl rfl rfl rfl Ad hR rfl (Ai _ _ _ _) ?_; intro w9 hB9 hg9)
 exact bodyPost_ret (Al rfl Ad rfl hB9) rfl (Bt hE0 hR (Aq _ _ _ _) hg9 (by omega) HS (hx.ext hE0))
theorem GU (h:BB w v q):Calls prog 99 #[v] w (Ei w (q.den:Int)):=by
 obtain ⟨_,rfl,s,a,n,c,b,m,d,rfl,HS,hx,hy⟩:=h;have hzr:=fun (wx:World) (hC:Ext w wx)=>qh (Av (r:=decide (Bu q=0)) (Be (hy.ext hC)) rfl);have HSD:Hid (decide ((q.den:Int)<0)=false):=qh (decide_eq_false (by omega))
 go_enter func99,ntmps99
 go_upto_region 1 with (fail)
 refine F0 ?_;intro w0 hE0 hB0 hB1 hz0;have p0:=hB0.c 0 rfl;have p1:=hB0.c 1 rfl;have p2:=hB0.c 2 rfl;have p3:=hB0.c 3 rfl;have hR:Arr w0 (w.heap.size+1) 90 (Ab false none 0 0):=hB1;clear hz0
 go_wp2_with fail
 refine (hzr _ hE0).out.mono ?_;rintro e w1 ⟨rfl,hE1⟩;have hEw:=hE0.trans hE1;have r2:=hE1.cell p2;have r3:=hE1.cell p3;have hRa:=hR.ext hE1;by_cases h1:q.den=1
 · have hz1:decide (Bu q=0)=true:=by simpa using AE.2 h1
   rw [hz1];have H1:=qh h1;clear hz1 h1
   go_wp2_with fail
   refine (Py (z:=1) (by omega) (by omega)).mono ?_;rintro e w2 ⟨s1,a1,n1,c1,rfl,hE2,HS1,hx1⟩;have hR1:=hRa.ext hE2
   go_wp2_with (refine Aa (vs:=Ab s1 a1 n1 c1) rfl rfl rfl rfl rfl Ad hR1 rfl (Ai _ _ _ _) ?_; intro w9 hB9 hg9)
   refine bodyPost_ret (Al rfl Ad rfl hB9) rfl ?_;rw [H1.out];exact Bt (hEw.trans hE2) hR1 (Aq _ _ _ _) hg9 (by omega) HS1 hx1
 · have hz1:decide (Bu q=0)=false:=by simpa using mt AE.1 h1
   have HA:=qh (Dk h1);rw [hz1];clear hz1 h1
   go_wp2_with (refine Aa (vs:=Ab false b m d) rfl rfl rfl rfl rfl Ad hRa rfl (Ai _ _ _ _) ?_; intro w9 hB9 hg9)
   refine bodyPost_ret (Al rfl Ad rfl hB9) rfl (Bt hEw hRa (Aq _ _ _ _) hg9 (by omega) HSD ?_);have h2:=hy.ext hEw;rw [HA.out] at h2;exact h2
theorem CF (h:Ax w v q.num) (h':Ax w v' (q.den:Int)):Calls prog 115 #[v,v'] w (F4 w q):=by
 have hio:=fun (wx:World) (hC:Ext w wx)=>qh (Ct (r:=decide (q.den=1)) (h'.ext hC) (decide_eq_decide.2 (by omega)));obtain ⟨s,a,n,c,rfl,HS,hx⟩:=h;obtain ⟨t,b,m,d,rfl,HT,hy⟩:=h';have ht:t=false:=by have:=HT.out; rw [←this]; exact decide_eq_false (by omega)
 subst ht;have hy':Wd w b m d q.den:=hy;clear hy
 go_enter func115,ntmps115
 go_upto_region 1 with (fail)
 refine F3 ?_;intro w0 hE0 hB0 hB1 hB2 hz0;have p00:=hB0.c 0 rfl;have p01:=hB0.c 1 rfl;have p10:=hB1.c 0 rfl;have p11:=hB1.c 1 rfl;have hR:Arr w0 (w.heap.size+2) 97 (An false none 0 0 false none 0 0):=hB2;clear hz0
 go_wp2_with fail
 refine (hio _ hE0).out.mono ?_;rintro e w1 ⟨rfl,hE1⟩;have hEw:=hE0.trans hE1;have r00:=hE1.cell p00;have r01:=hE1.cell p01;have r10:=hE1.cell p10;have r11:=hE1.cell p11;have hRa:=hR.ext hE1;by_cases h1:q.den=1
 · have hz1:decide (q.den=1)=true:=by simpa using h1
   have HD:Hid (Bu q=0):=qh (AE.2 h1);rw [hz1];clear hz1 h1
   go_wp2_with (refine Aa (vs:=An s a n c false none 0 0) rfl rfl rfl rfl rfl Ac hRa rfl (Ap _ _ _ _ _ _ _ _) ?_; intro w9 hB9 hg9)
   exact bodyPost_ret (Al rfl Ac rfl hB9) rfl (Bf hEw hRa (AC _ _ _ _ _ _ _ _) hg9 (by omega) HS (hx.ext hEw) (by rw [HD.out]; exact Wd.nil _))
 · have hz1:decide (q.den=1)=false:=by simpa using h1
   have HA:=qh (Dk h1);rw [hz1];clear hz1 h1
   go_wp2_with (refine Aa (vs:=An s a n c false b m d) rfl rfl rfl rfl rfl Ac hRa rfl (Ap _ _ _ _ _ _ _ _) ?_; intro w9 hB9 hg9)
   exact bodyPost_ret (Al rfl Ac rfl hB9) rfl (Bf hEw hRa (AC _ _ _ _ _ _ _ _) hg9 (by omega) HS (hx.ext hEw) (by rw [HA.out]; exact hy'.ext hEw))
theorem Sf {w10:World} {n' c':Nat} {y:Int} (hE:Ext w w1) (hR:Arr w1 R ty cs) (hcs:∀ v∈cs,∀ i,v ≠ .int .u64 i) (hg:w1.grownBy w9 (some R)) (hw:w.heap.size≤R) (hR':Arr w9 R' ty' cs') (hcs':∀ v∈cs',∀ i,v ≠ .int .u64 i) (hg':w9.grownBy w10 (some R')) (hw':w.heap.size≤R') (HS:Hid (decide (z<0)=s)) (hx:Wd w1 a n c z.natAbs) (HS':Hid (decide (y<0)=s')) (hx':Wd w1 a' n' c' y.natAbs):RX w z y (.returned (.tuple #[.agg (Ab s a n c).toArray, .agg (Ab s' a' n' c').toArray])) w10 :=
 ⟨s,a,n,c,s',a',n',c',rfl,(hE.grownR hg hw).grownR hg' hw',⟨HS,(hx.kept hR hcs hg).kept hR' hcs' hg'⟩,⟨HS',(hx'.kept hR hcs hg).kept hR' hcs' hg'⟩⟩
theorem JS {x:Int} (hT:A2 w) (h:Ax w v x) (h':Ax w v' (k:Int)) (bx:x.natAbs<P2 9600) (bk:k<P2 9600) (hk:k≠0):Calls prog 114 #[v,v'] w (RX w (x.tdiv ((Nat.gcd x.natAbs k:Nat):Int)) ((k/Nat.gcd x.natAbs k:Nat):Int)):=by
 have hio:=fun (wx:World) (hC:Ext w wx)=>qh (Ct (r:=decide (k=1)) (h'.ext hC) (decide_eq_decide.2 (by omega)));have hgc:=fun (wx:World) (hC:Ext w wx)=>qh (EE (hT.ext hC) (h.ext hC) (h'.ext hC) bx bk);have hgp:0<Nat.gcd x.natAbs k:=Nat.gcd_pos_of_pos_right _ (by omega);have hgb:Nat.gcd x.natAbs k<P2 9600:=Nat.lt_of_le_of_lt (Nat.le_of_dvd (by omega) (Nat.gcd_dvd_right _ _)) bk;have hq1:=fun (wx:World) (hC:Ext w wx) (g:Value) (hg:Ax wx g ((Nat.gcd x.natAbs k:Nat):Int))=>qh (D3 (h.ext hC) hg bx hgb (by omega))
 have hq2:=fun (wx:World) (hC:Ext w wx) (g:Value) (hg:Ax wx g ((Nat.gcd x.natAbs k:Nat):Int))=>qh (D3 (h'.ext hC) hg bk hgb (by omega));have htd:((k:Int)).tdiv ((Nat.gcd x.natAbs k:Nat):Int)=((k/Nat.gcd x.natAbs k:Nat):Int):=by rw [Int.tdiv_eq_ediv_of_nonneg (by omega)]; push_cast; rfl
 rw [htd] at hq2;clear bx bk hgb hgp htd;obtain ⟨s,a,n,c,rfl,HS,hx⟩:=h;obtain ⟨t,b,m,d,rfl,HT,hy⟩:=h'
 go_enter func114,ntmps114
 go_upto_region 1 with (fail)
 refine VD ?_;intro w0 hE0 hB0 hB1 hB2 hB3 hz0;have p00:=hB0.c 0 rfl;have p01:=hB0.c 1 rfl;have p10:=hB1.c 0 rfl;have p11:=hB1.c 1 rfl;have hR:Arr w0 (w.heap.size+2) 90 (Ab false none 0 0):=hB2;have hR2:Arr w0 (w.heap.size+3) 90 (Ab false none 0 0):=hB3;clear hz0
 go_wp2_with fail
 refine (hio _ hE0).out.mono ?_;rintro e w1 ⟨rfl,hE1⟩;have hEw:=hE0.trans hE1;have r00:=hE1.cell p00;have r01:=hE1.cell p01;have r10:=hE1.cell p10;have r11:=hE1.cell p11;by_cases h1:k=1
 · have hz1:decide (k=1)=true:=by simpa using h1
   have HV:Hid (x.tdiv ((Nat.gcd x.natAbs k:Nat):Int)=x∧((k/Nat.gcd x.natAbs k:Nat):Int)=(k:Int)):=by
    refine qh ?_;subst h1;rw [Nat.gcd_one_right];exact ⟨Int.tdiv_one _,rfl⟩
   rw [hz1];clear hz1 h1;go_wp2;have hRa:=hR.ext hE1;have hRb:=hR2.ext hE1;have c20:=hRa.c 0 rfl;have c21:=hRa.c 1 rfl;have c30:=hRb.c 0 rfl;have c31:=hRb.c 1 rfl;have z20:=hRa.frozen 0;have z21:=hRa.frozen 1;have z30:=hRb.frozen 0;have z31:=hRb.frozen 1
   go_region
   go_wp2;have hA:=(((hRa.set 0 (.bool s)).set 1 (.slice a n c)).far (p:=⟨w.heap.size+3,0,none⟩) (by simp) (.bool t)).far (p:=⟨w.heap.size+3,1,none⟩) (by simp) (.slice b m d);have hB:=(((hRb.far (p:=⟨w.heap.size+2,0,none⟩) (by simp) (.bool s)).far (p:=⟨w.heap.size+2,1,none⟩) (by simp) (.slice a n c)).set 0 (.bool t)).set 1 (.slice b m d);have hE9:=((((hEw.setCell (p:=⟨w.heap.size+2,0,none⟩) (by simp) (.bool s)).setCell (p:=⟨w.heap.size+2,1,none⟩) (by simp) (.slice a n c)).setCell (p:=⟨w.heap.size+3,0,none⟩) (by simp) (.bool t)).setCell (p:=⟨w.heap.size+3,1,none⟩) (by simp) (.slice b m d)).drew
   refine bodyPost_ret (Oz (cs:=Ab s a n c) (cs':=Ab t b m d) (t:=90) (t':=90) rfl Ad Ad rfl rfl hA hB) rfl ?_;rw [HV.out.1,HV.out.2];exact ⟨s,a,n,c,t,b,m,d,rfl,hE9,⟨HS,hx.ext hE9⟩,⟨HT,hy.ext hE9⟩⟩
 · have hz1:decide (k=1)=false:=by simpa using h1
   rw [hz1];clear hz1 h1
   go_wp2_with fail
   refine (hgc _ hEw).out.mono ?_;rintro e w2 ⟨s3,a3,n3,c3,rfl,hE2,HS3,hx3⟩;have hl3:(Ab s3 a3 n3 c3).toArray=#[.bool s3, .slice a3 n3 c3]:=rfl;have hE12:=hEw.trans hE2;have t00:=hE2.cell r00;have t01:=hE2.cell r01;have t10:=hE2.cell r10;have t11:=hE2.cell r11;have hY:=Arr.new w2 90 (Ab false none 0 0)
   go_upto_region 4 with (refine Aa (vs:=Ab s3 a3 n3 c3) rfl rfl rfl rfl rfl Ad hY rfl (Ai _ _ _ _) ?_; intro w3 hB3' hg3)
   have hE3:Ext w2 w3:=((Ext.refl w2).alloc _).grownR hg3 (lrf _);have hE13:=hE12.trans hE3;have u00:=hE3.cell t00;have u01:=hE3.cell t01;have u10:=hE3.cell t10;have u11:=hE3.cell t11;have g0:w3.cell? ⟨w2.heap.size,0,none⟩=some (.bool s3):=hB3'.cell (i:=0) (by simp [Ab]);have g1:w3.cell? ⟨w2.heap.size,1,none⟩=some (.slice a3 n3 c3):=hB3'.cell (i:=1) (by simp [Ab]);have hgv:Ax w3 (.agg (Ab s3 a3 n3 c3).toArray) ((Nat.gcd x.natAbs k:Nat):Int):=⟨s3,a3,n3,c3,rfl,HS3,hx3.ext hE3⟩;clear hl3
   have HF1:=fun (wx:World) (hC:Ext w3 wx)=>qh (And.intro (hC.cell u00) (And.intro (hC.cell u01) (And.intro (hC.cell u10) (And.intro (hC.cell u11) (And.intro (hC.cell g0) (hC.cell g1))))))
   refine Af (by kernel_rfl) (fun wx=>Ext w3 wx)
    [he (.agg #[.bool s, .slice a n c]),
 he (.agg #[.bool s3, .slice a3 n3 c3]),
 hp (fun v wx=>∃ s' a' n' c',v = .agg (Ab s' a' n' c').toArray∧Hid (decide (x.tdiv ((Nat.gcd x.natAbs k:Nat):Int)<0)=s')∧Wd wx a' n' c' (Int.natAbs (x.tdiv ((Nat.gcd x.natAbs k:Nat):Int)))),
 he (.agg #[.bool t, .slice b m d]),
 he (.agg #[.bool s3, .slice a3 n3 c3]),
 hp (fun v wx=>∃ s' a' n' c',v = .agg (Ab s' a' n' c').toArray∧Hid (decide (((k/Nat.gcd x.natAbs k:Nat):Int)<0)=s')∧Wd wx a' n' c' (Int.natAbs (((k/Nat.gcd x.natAbs k:Nat):Int))))]
    (by kernel_rfl) (fun _ _ e h=>h.trans e) ((Ext.refl w3).drew) ⟨trivial,trivial,fun v w w' e ⟨s',a',n',c',h1,h2,h3⟩=>⟨s',a',n',c',h1,h2,h3.ext e⟩,trivial,trivial,fun v w w' e ⟨s',a',n',c',h1,h2,h3⟩=>⟨s',a',n',c',h1,h2,h3.ext e⟩,trivial⟩ ⟨?o0, ?o1, ?o2, ?o3, ?o4, ?o5,trivial⟩ ?fin
   case o0=>exact ol2 rfl rfl (fun _ _=>id) ⟨by kernel_rfl,by kernel_rfl⟩ (by assumption) (by assumption)
   case o1=>exact ol2 rfl rfl (fun _ _=>id) ⟨by kernel_rfl,by kernel_rfl⟩ (by assumption) (by assumption)
   case o2 =>
    refine Aj rfl fun ρ wx hC hcst hfn h => ?_;have e1:ρ (.tmp 14)=(.agg #[.bool s, .slice a n c]):=h.2.1;have e2:ρ (.tmp 15)=(.agg #[.bool s3, .slice a3 n3 c3]):=h.2.2.1;obtain ⟨k00,k01,k10,k11,k20,k21⟩:=(HF1 wx hC).out;refine ⟨119,#[.agg #[.bool s, .slice a n c], .agg #[.bool s3, .slice a3 n3 c3]],by go_simp,((hq1 wx (hE13.trans hC) _ (hgv.ext hC)).out).mono ?_⟩;rintro e w' ⟨s',a',n',c',rfl,hE',hs',hn'⟩;exact ⟨_,rfl,hE',s',a',n',c',rfl,hs',hn'⟩
   case o3=>exact ol2 rfl rfl (fun _ _=>id) ⟨by kernel_rfl,by kernel_rfl⟩ (by assumption) (by assumption)
   case o4=>exact ol2 rfl rfl (fun _ _=>id) ⟨by kernel_rfl,by kernel_rfl⟩ (by assumption) (by assumption)
   case o5 =>
    refine Aj rfl fun ρ wx hC hcst hfn h => ?_;have e1:ρ (.tmp 17)=(.agg #[.bool t, .slice b m d]):=h.2.1;have e2:ρ (.tmp 18)=(.agg #[.bool s3, .slice a3 n3 c3]):=h.2.2.1;obtain ⟨k00,k01,k10,k11,k20,k21⟩:=(HF1 wx hC).out;refine ⟨119,#[.agg #[.bool t, .slice b m d], .agg #[.bool s3, .slice a3 n3 c3]],by go_simp,((hq2 wx (hE13.trans hC) _ (hgv.ext hC)).out).mono ?_⟩;rintro e w' ⟨s',a',n',c',rfl,hE',hs',hn'⟩;exact ⟨_,rfl,hE',s',a',n',c',rfl,hs',hn'⟩
   case fin =>
    intro wx hC;rintro _ ⟨s1,a1,n1,c1,rfl,HS1,hx1⟩;rintro _ ⟨s2,a2,n2,c2,rfl,HS2,hx2⟩;change wpList _ _ _ _ _ _;simp only [List.length_cons,List.length_nil,List.drop_succ_cons,List.drop_zero,Act.put,List.setIfInBounds_toArray,List.set_cons_succ,List.set_cons_zero];have hRa:=((((hR.ext hE1).ext hE2).ext hE3).ext hC);have hRb:=((((hR2.ext hE1).ext hE2).ext hE3).ext hC);have hl1:(Ab s1 a1 n1 c1).toArray=#[.bool s1, .slice a1 n1 c1]:=rfl;have hl2:(Ab s2 a2 n2 c2).toArray=#[.bool s2, .slice a2 n2 c2]:=rfl
    go_wp2_with (first
     | (refine Aa (vs:=Ab s1 a1 n1 c1) rfl rfl rfl rfl rfl Ad hRa rfl (Ai _ _ _ _) ?_; intro w9 hB9 hg9; have hRc:=hRb.kept hg9 (by simp))
     | (refine Aa (vs:=Ab s2 a2 n2 c2) rfl rfl rfl rfl rfl Ad hRc rfl (Ai _ _ _ _) ?_; intro w10 hB10 hg10))
    have hB9':=hB9.kept hg10 (by simp);exact bodyPost_ret (Oz rfl Ad Ad rfl rfl hB9' hB10) rfl (Sf (hE13.trans hC) hRa (Aq _ _ _ _) hg9 (by omega) hRc (Aq _ _ _ _) hg10 (by omega) HS1 hx1 HS2 hx2)
def StI (p:Value→World→Prop):Prop:=∀ v w w' g t cs cs',Arr w g t cs→(∀ x∈cs,∀ i,x ≠ .int .u64 i)→w.grownBy w' (some g)→Arr w' g t cs'→cs'.length=cs.length→(∀ x∈cs',∀ i,x ≠ .int .u64 i)→p v w→p v w'
def StX (p:Value→World→Prop):Prop:=∀ v w w',Ext w w'→p v w→p v w'
def NI (z:Int) (v:Value) (w:World):Prop:=∃ s a n c,v = .agg (Ab s a n c).toArray∧Hid (decide (z<0)=s)∧Wd w a n c z.natAbs
theorem NI.x (z:Int):StX (NI z):=fun _ _ _ e ⟨s,a,n,c,h1,h2,h3⟩=>⟨s,a,n,c,h1,h2,h3.ext e⟩
theorem NI.i (z:Int):StI (NI z):=fun _ _ _ _ _ _ _ hA hn hg _ _ _ ⟨s,a,n,c,h1,h2,h3⟩=>⟨s,a,n,c,h1,h2,h3.kept hA hn hg⟩
def NII (z y:Int) (v:Value) (w:World):Prop:=∃ s a n c s' a' n' c',v = .tuple #[.agg (Ab s a n c).toArray, .agg (Ab s' a' n' c').toArray]∧(Hid (decide (z<0)=s)∧Wd w a n c z.natAbs)∧(Hid (decide (y<0)=s')∧Wd w a' n' c' y.natAbs)
theorem NII.x (z y:Int):StX (NII z y):=fun _ _ _ e ⟨s,a,n,c,s',a',n',c',h1,⟨h2,h3⟩,⟨h4,h5⟩⟩=>⟨s,a,n,c,s',a',n',c',h1,⟨h2,h3.ext e⟩,⟨h4,h5.ext e⟩⟩
theorem NII.i (z y:Int):StI (NII z y):=fun _ _ _ _ _ _ _ hA hn hg _ _ _ ⟨s,a,n,c,s',a',n',c',h1,⟨h2,h3⟩,⟨h4,h5⟩⟩=>⟨s,a,n,c,s',a',n',c',h1,⟨h2,h3.kept hA hn hg⟩,⟨h4,h5.kept hA hn hg⟩⟩
def NP (base:Nat) (v:Value) (w:World):Prop:=∃ g cs,v = .pointer (some ⟨g,0,none⟩)∧base≤g∧Arr w g 90 cs∧cs.length=2∧∀ x∈cs,∀ i,x ≠ .int .u64 i
theorem NP.x (b:Nat):StX (NP b):=fun _ _ _ e ⟨g,cs,h1,h2,h3,h4,h5⟩=>⟨g,cs,h1,h2,h3.ext e,h4,h5⟩
theorem NP.i (b:Nat):StI (NP b):=by
 intro v w w' g0 t cs0 cs1 hA hn hg hA' hl hn' ⟨g,cs,h1,h2,h3,h4,h5⟩;by_cases e:g=g0
 · subst e;unfold Arr at hA h3 hA';rw [hA] at h3;simp only [Option.some.injEq,Obj.cells.injEq,and_true] at h3;obtain ⟨h6,h7⟩:=h3;have h8:cs0=cs:=by simpa using h6
   subst h8; subst h7;exact ⟨g,cs1,h1,h2,hA',by omega,hn'⟩
 · exact ⟨g,cs,h1,h2,h3.kept hg (by simpa using e),h4,h5⟩
theorem NT.x:StX (fun _ _=>True):=fun _ _ _ _ _=>trivial
theorem NT.i:StI (fun _ _=>True):=fun _ _ _ _ _ _ _ _ _ _ _ _ _ _=>trivial
theorem CG (ho:o.op = .alloc 90) (ρ:Operand→Value) (w:World):(execOp ρ o).run prog w = .ok (.value (.pointer (some ⟨w.heap.size,0,none⟩))) (w.alloc (.cells (Ab false none 0 0).toArray 90)):=by
 simp only [execOp,ho];kernel_rfl
section
variable {ops:Array Oper} {hs:List Hd} {a0:Act} {C:World→Prop} {i:Nat} {o:Oper}
theorem CH (hg:o.guard=none) (ho:o.op = .alloc 90) (hCb:∀ w,C w→base≤w.heap.size):obl prog C ops hs a0 i o (hp (NP base)) :=
 Bc hg fun ρ w _ hC _=>⟨_,_,CG ho ρ w,(Ext.refl w).alloc _,w.heap.size,Ab false none 0 0,rfl,hCb w hC,Arr.new w _ _,rfl,Aq _ _ _ _⟩
def Mi:List Hd→Prop
 | []=>True
 | h :: r=>(match h.ty with | .eq _=>True | .pr p=>StI p)∧Mi r
theorem JT:∀ {l:List Hd},Mi l→∀ h∈l,(match h.ty with | .eq _=>True | .pr p=>StI p)
 | [],_,h,hm=>absurd hm (by simp)
 | x :: r,hl,h,hm=>by
  rcases List.mem_cons.1 hm with rfl|hm
  · exact hl.1
  · exact JT hl.2 h hm
theorem Vb (hn:Mi hs) {w w':World} {g:Nat} {t:TypeId} {cs cs':List Value} (hA:Arr w g t cs) (hc:∀ x∈cs,∀ i,x ≠ .int .u64 i) (hg:w.grownBy w' (some g)) (hA':Arr w' g t cs') (hl:cs'.length=cs.length) (hc':∀ x∈cs',∀ i,x ≠ .int .u64 i):GM ops hs i o w w' (List.range hs.length):=by
 refine GP fun j hj v hv => ?_;have hj':j<hs.length:=by
  have:=(List.mem_filter.1 hj).1;simpa using this
 have hm:AD hs j∈hs:=by
  rw [AD,gqq,List.getElem?_eq_getElem hj'];simp
 have:=JT hn _ hm;revert this hv;cases (AD hs j).ty with
 | eq c=>exact fun hv _=>hv
 | pr p=>exact fun hv hp=>hp v w w' g t cs cs' hA hc hg hA' hl hc' hv
theorem Gr {x:Operand} (hg:o.guard=none) (ho:o.op = .store 90 x y) (hn:Mi hs) (hC2:∀ w w' g,C w→base≤g→w.grownBy w' (some g)→C w')
 (h:∀ ρ w,D5 ρ→C w→CO ops hs a0 o ρ w [x,y]→(∃ v,ρ x=v∧NP base v w)∧(∃ v,ρ y=v∧NI z v w)):obl prog C ops hs a0 i o (hmp (fun _ _=>True)):=by
 unfold obl Cf;rw [hg];intro ρ w hp hC hx;have hx':CO ops hs a0 o ρ w [x,y]:=by rw [ho] at hx; exact hx
 obtain ⟨⟨v1,e1,g,cs,rfl,h2,h3,h4,h5⟩,⟨v2,e2,s,a,n,c,rfl,_,_⟩⟩:=h ρ w hp hC hx';have hrun:(execOp ρ o).run prog w = .ok .skip (w.setRow g (Ab s a n c).toArray):=by
  have:=EM (P:=prog) (w:=w) (ty:=90) (g:=g) (cs:=cs) (vs:=Ab s a n c) Ad h3 (by rw [h4]; rfl) (Ai _ _ _ _);simp only [execOp,ho,e1,e2,Sem.run_bind,this,Result.andThen_ok,Sem.run_pure]
 rw [hrun];have hgr:=BJ w g (Ab s a n c).toArray;exact ⟨hC2 w _ g hC h2 hgr,Vb hn h3 h5 hgr (C4 h3 _) (by rw [h4]; rfl) (Aq _ _ _ _),trivial⟩
end
end Go.Proofs.YtlpgonpfjbhmfaaGreatDoor
