/- Part Gav28. -/
import Derived.Test.YtlpgonpfjbhmfaaGreatDoorGav27
import Derived.Test.YtlpgonpfjbhmfaaGreatDoorGav3
import Derived.Test.YtlpgonpfjbhmfaaGreatDoorGav19
import Derived.StillTailTactics
set_option maxRecDepth 100000
set_option maxHeartbeats 100000000
namespace Go.Proofs.YtlpgonpfjbhmfaaGreatDoor
open Tryz Go Go.RowKit
variable {s:ByteArray} {vars x y:Int} {e xs ys:List Int} {l:List UInt8} {c d k n:Nat} {a b:Option Addr} {w:World}
def Wq (w:World) (o:Option Rat) (e:Ending) (w':World):Prop:=∃ cs,e = .returned (.tuple #[.agg cs.toArray, .bool o.isSome])∧Ext w w'∧DD w' cs (o.getD 0)
theorem Jc (hd:W.digs l) (hl:l.length≤570):W.decV l<P2 2280:=by
 have h1:=W.decV_lt hd;have h2:10^l.length≤16^l.length:=Nat.pow_le_pow_left (by omega) _;have h3:16^l.length=P2 (4*l.length):=by unfold P2; rw [Nat.pow_mul]
 have h4:P2 (4*l.length)≤P2 2280:=M5 (by omega);omega
theorem En (w:World):DD w (An false none 0 0 false none 0 0) 0:=⟨false,none,0,0,none,0,0,rfl,qh rfl,Wd.nil w,Wd.nil w⟩
theorem GX (hT:A2 w) (hs:s.size≤570):Calls prog 67 #[.string s] w (Wq w (A8 (Am s))):=by
 have hsp:=Ib s;have hzL:(An false none 0 0 false none 0 0).toArray=#[.bool false, .slice none 0 0, .bool false, .slice none 0 0]:=rfl;obtain ⟨⟨⟨neg,num,den⟩,ok⟩,hP⟩:∃ P,CI (Am s)=P:=⟨_,rfl⟩;simp only [hP] at hsp;have hfl:(BN neg num den).toArray=#[.bool neg, .string ⟨num.toArray⟩, .string ⟨den.toArray⟩]:=rfl;rw [hfl] at hsp;cases ok with
 | false =>
  have HQ:Hid (A8 (Am s)=none):=qh (by unfold A8; simp [hP]);rw [HQ.out];clear hP
  go_enter func67,ntmps67
  go_upto_region 1 with (fail)
  refine Bq ?_;intro w0 hE0 hB0 hz0;have hR:Arr w0 w.heap.size 97 (An false none 0 0 false none 0 0):=hB0;clear hB0 hz0
  go_wp2_with fail
  refine (hsp w0 (by omega)).mono ?_;rintro e w1 ⟨rfl,hE1⟩;have hY:=Arr.new w1 85 (BN false [] [])
  go_upto_region 2 with (refine Aa (vs:=BN neg num den) rfl rfl rfl rfl rfl A4 hY rfl (Cb _ _ _) ?_; intro w2 hB2 hg2)
  have hE2:Ext w1 w2:=((Ext.refl w1).alloc _).grownR hg2 (lrf _);have hR2:=(hR.ext hE1).ext hE2;have hEw:=(hE0.trans hE1).trans hE2
  go_wp2_with (refine Aa (vs:=An false none 0 0 false none 0 0) rfl rfl rfl rfl rfl Ac hR2 rfl (Ap _ _ _ _ _ _ _ _) ?_; intro w9 hB9 hg9)
  exact bodyPost_ret (AH rfl Ac rfl rfl hB9) rfl ⟨_,rfl,hEw.grownR hg9 (lrf _),En _⟩
 | true =>
  have hS:=FL hP;have hl:num.length≤570∧den.length≤570:=by
   have h1:=congrArg List.length hS.eq;rw [AJ] at h1;simp only [List.length_append] at h1;refine ⟨by omega, ?_⟩;by_cases h:den=[]
   · simp [h]
   · rw [if_neg h] at h1; simp at h1; omega
  have hp1:=fun wx=>qh (FJ (s:=⟨num.toArray⟩) (w:=wx) (by rw [AU]; exact hS.dn) (by show num.toArray.size≤_; simpa using hl.1));have hp2:=fun wx=>qh (FJ (s:=⟨den.toArray⟩) (w:=wx) (by rw [AU]; exact hS.dd) (by show den.toArray.size≤_; simpa using hl.2));rw [AU] at hp1 hp2;have HB1:=qh (Jc hS.dn hl.1);have HB2:=qh (Jc hS.dd hl.2);obtain ⟨z,hz⟩:∃ z:Int,(if neg=true then -((W.decV num:Nat):Int) else ((W.decV num:Nat):Int))=z:=⟨_,rfl⟩;have hza:z.natAbs=W.decV num:=by rw [←hz]; split <;> omega
  obtain ⟨o,HO⟩:∃ o,Hid (A8 (Am s)=o∧o=if den=[] then some (mkRat z 1) else if z.natAbs.gcd (W.decV den)=1 then some (mkRat z (W.decV den)) else none):=⟨_,qh ⟨rfl,by unfold A8; simp [hP,hz]⟩⟩;rw [HO.out.1]
  have HD0:Hid (den≠[]→W.decV den≠0∧W.decV den≠1):=qh fun hd=>by
   have hdd:Lib.decDigits (W.decV den)=den:=W.dec_of_digs hS.dd hd (fun c r e hc=>by
    have:=hS.nd;rw [e,hc] at this
    simp at this)
   refine ⟨fun h0 => ?_,fun h0 => ?_⟩
   · rw [h0,W.dec_zero] at hdd;have:=hS.nd;rw [←hdd] at this;simp at this
   · rw [h0] at hdd;have:=hS.n1;rw [←hdd] at this;exact this (by rw [Lib.decDigits]; rfl)
  clear hP hS hl
  go_enter func67,ntmps67
  go_upto_region 1 with (fail)
  refine Bq ?_;intro w0 hE0 hB0 hz0;have hR:Arr w0 w.heap.size 97 (An false none 0 0 false none 0 0):=hB0;clear hB0 hz0
  go_wp2_with fail
  refine (hsp w0 (by omega)).mono ?_;rintro e w1 ⟨rfl,hE1⟩;have hY:=Arr.new w1 85 (BN false [] [])
  go_upto_region 2 with (refine Aa (vs:=BN neg num den) rfl rfl rfl rfl rfl A4 hY rfl (Cb _ _ _) ?_; intro w2 hF2 hg2)
  have hE2:Ext w1 w2:=((Ext.refl w1).alloc _).grownR hg2 (lrf _);have hR2:=(hR.ext hE1).ext hE2;have hEw:=(hE0.trans hE1).trans hE2;have hF:w.heap.size<w1.heap.size:=(hR.ext hE1).lt;clear hR hE0 hE1 hE2 hY hg2 hsp;generalize w1.heap.size=F at *
  have c0:=hF2.c 0 rfl;have c1:=hF2.c 1 rfl;have c2:=hF2.c 2 rfl
  go_wp2_with fail
  refine (hp1 w2).out.mono ?_;rintro e w3 ⟨s3,a3,n3,c3,rfl,hE3,HS3,hx3⟩;have hl3:(Ab s3 a3 n3 c3).toArray=#[.bool s3, .slice a3 n3 c3]:=rfl;have hY:=Arr.new w3 97 (An false none 0 0 false none 0 0)
  go_upto_region 5 with (refine Aa (vs:=An s3 a3 n3 c3 false none 0 0) rfl rfl rfl rfl rfl Ac hY rfl (Ap _ _ _ _ _ _ _ _) ?_; intro w4 hX4 hg4)
  have hE4:Ext w3 w4:=((Ext.refl w3).alloc _).grownR hg4 (lrf _);have hE24:=hE3.trans hE4;have hR4:=hR2.ext hE24;have hEw4:=hEw.trans hE24;have hx4:=hx3.ext hE4;have hF4:=hF2.ext hE24;have hX:F<w3.heap.size:=(hF2.ext hE3).lt;clear hR2 hEw hE3 hE4 hx3 hY hg4 hl3 c0 c1 c2 hF2 hE24;generalize w3.heap.size=X at *
  have c0:=hF4.c 0 rfl;have HZA:=qh hza;clear hza;cases neg with
  | true =>
   have hzn:z = -((W.decV num:Nat):Int):=by rw [←hz]; rfl
   have x0:=hX4.c 0 rfl;have x1:=hX4.c 1 rfl;have hng:=L5 (w:=w4) (v := .agg (Ab s3 a3 n3 c3).toArray) ⟨s3,a3,n3,c3,rfl,HS3,hx4⟩;rw [←hzn] at hng;have HNG:=qh hng;have HHZ:=qh hzn;clear hng hz hzn
   go_wp2_with fail
   refine HNG.out.mono ?_;rintro e w45 ⟨s5,a5,n5,c5,rfl,hE45,HS5,hx45⟩;have hl5:(Ab s5 a5 n5 c5).toArray=#[.bool s5, .slice a5 n5 c5]:=rfl;have hX45:=hX4.ext hE45
   go_upto_region 7 with (refine Cn rfl rfl (Ab s5 a5 n5 c5) (An s5 a5 n5 c5 false none 0 0) (by kernel_rfl) rfl rfl rfl hX45 (by simp [An,Ab]) (Ai _ _ _ _) rfl ?_; intro w5 hX5 hg5)
   have hE5:=(hEw4.trans hE45).grownR hg5 (by omega);have hR5:=(hR4.ext hE45).kept hg5 (by simp; omega);have hF5:=(hF4.ext hE45).kept hg5 (by simp; omega);have hx5:=hx45.kept hX45 (AC _ _ _ _ _ _ _ _) hg5;clear x0 x1 c0 HNG HHZ hEw4 hE45 hx45 hX45 hg5 hR4 hF4 hX4 hx4 hl5 HS3;have c2:=hF5.c 2 rfl;have x0:=hX5.c 0 rfl;have x1:=hX5.c 1 rfl;by_cases hd:den=[]
   · subst hd;have HQ:Hid (o=some (mkRat z 1)):=qh (by rw [HO.out.2,if_pos rfl]);have HN:=qh (Pl.rat_eq_mk (q:=mkRat z 1) (n:=z) (d:=1) (by omega) (Nat.gcd_one_right _) rfl);have x2:=hX5.c 2 rfl;have x3:=hX5.c 3 rfl;have hl9:(An s5 a5 n5 c5 false none 0 0).toArray=#[.bool s5, .slice a5 n5 c5, .bool false, .slice none 0 0]:=rfl
     go_wp2_with (refine Aa (vs:=An s5 a5 n5 c5 false none 0 0) rfl rfl rfl rfl rfl Ac hR5 rfl (Ap _ _ _ _ _ _ _ _) ?_; intro w9 hB9 hg9)
     refine bodyPost_ret (AH rfl Ac rfl rfl hB9) rfl ?_;rw [HQ.out];refine ⟨_,rfl,hE5.grownR hg9 (lrf _),s5,a5,n5,c5,none,0,0,rfl, ?_, ?_, ?_⟩
     · show Hid (decide ((mkRat z 1).num<0)=s5); rw [HN.out.1]; exact HS5
     · show Wd w9 a5 n5 c5 (mkRat z 1).num.natAbs; rw [HN.out.1]; exact hx5.kept hR5 (AC _ _ _ _ _ _ _ _) hg9
     · show Wd w9 none 0 0 (Bu (mkRat z 1)).natAbs; rw [AE.2 HN.out.2]; exact Wd.nil _
   · have hdb:den.isEmpty=false:=by cases den with | nil=>exact absurd rfl hd | cons _ _=>rfl
     go_wp2_with fail
     refine (hp2 w5).out.mono ?_;rintro e w6 ⟨s6,a6,n6,c6,rfl,hE6,HS6,hx6⟩;have hs6:s6=false:=by rw [←HS6.out]; exact decide_eq_false (by omega)
     subst hs6;have hl6:(Ab false a6 n6 c6).toArray=#[.bool false, .slice a6 n6 c6]:=rfl;have hX6:=hX5.ext hE6;have hR6:=hR5.ext hE6;have hEw6:=hE5.trans hE6;have hx56:=hx5.ext hE6;clear hX5 hR5 hE5 hx5 x0 x1 c2 hF5
     go_upto_region 10 with (refine Cn rfl rfl (Ab false a6 n6 c6) (An s5 a5 n5 c5 false a6 n6 c6) (by kernel_rfl) rfl rfl rfl hX6 (by simp [An,Ab]) (Ai _ _ _ _) rfl ?_; intro w7 hX7 hg7)
     have hEw7:=hEw6.grownR hg7 (by omega);have hR7:=hR6.kept hg7 (by simp; omega);have hx57:=hx56.kept hX6 (AC _ _ _ _ _ _ _ _) hg7;have hx67:=hx6.kept hX6 (AC _ _ _ _ _ _ _ _) hg7;clear hX6 hR6 hEw6 hx56 hx6 hg7 hl6;have x0:=hX7.c 0 rfl;have x1:=hX7.c 1 rfl;have x2:=hX7.c 2 rfl;have x3:=hX7.c 3 rfl;have hg:=qh (EE (hT.ext hEw7) ⟨s5,a5,n5,c5,rfl,HS5,hx57⟩ ⟨false,a6,n6,c6,rfl,HS6,hx67⟩ (by rw [HZA.out]; exact Ag HB1.out (by omega)) (Ag HB2.out (by omega)));rw [Int.natAbs_natCast] at hg
     go_wp2_with fail
     refine hg.out.mono ?_;rintro e w8 ⟨s8,a8,n8,c8,rfl,hE8,HS8,hx8⟩;have hio:=qh (Ct (w:=w8) ⟨s8,a8,n8,c8,rfl,HS8,hx8⟩ rfl);have hl8:(Ab s8 a8 n8 c8).toArray=#[.bool s8, .slice a8 n8 c8]:=rfl
     go_wp2_with fail
     refine hio.out.mono ?_;rintro e w9 ⟨rfl,hE9⟩;have hE79:=hE8.trans hE9;have hX9:=hX7.ext hE79;have hR9:=hR7.ext hE79;have hEw9:=hEw7.trans hE79;have hx59:=hx57.ext hE79;have hx69:=hx67.ext hE79;clear hX7 hR7 hEw7 hx57 hx67 x0 x1 x2 x3 hE79 hE8 hE9 hx8;have HDz:=qh (HD0.out hd);by_cases h1:z.natAbs.gcd (W.decV den)=1
     · have HQ:Hid (o=some (mkRat z (W.decV den))):=qh (by rw [HO.out.2,if_neg hd,if_pos h1]);have HN:=qh (Pl.rat_eq_mk (q:=mkRat z (W.decV den)) (n:=z) (d:=W.decV den) HDz.out.1 h1 rfl);rw [h1];have x0:=hX9.c 0 rfl;have x1:=hX9.c 1 rfl;have x2:=hX9.c 2 rfl;have x3:=hX9.c 3 rfl;have hl9:(An s5 a5 n5 c5 false a6 n6 c6).toArray=#[.bool s5, .slice a5 n5 c5, .bool false, .slice a6 n6 c6]:=rfl
       go_wp2_with (refine Aa (vs:=An s5 a5 n5 c5 false a6 n6 c6) rfl rfl rfl rfl rfl Ac hR9 rfl (Ap _ _ _ _ _ _ _ _) ?_; intro w10 hB10 hg10)
       refine bodyPost_ret (AH rfl Ac rfl rfl hB10) rfl ?_;rw [HQ.out];refine ⟨_,rfl,hEw9.grownR hg10 (lrf _),s5,a5,n5,c5,a6,n6,c6,rfl, ?_, ?_, ?_⟩
       · show Hid (decide ((mkRat z (W.decV den)).num<0)=s5); rw [HN.out.1]; exact HS5
       · show Wd w10 a5 n5 c5 (mkRat z (W.decV den)).num.natAbs; rw [HN.out.1]; exact hx59.kept hR9 (AC _ _ _ _ _ _ _ _) hg10
       · show Wd w10 a6 n6 c6 (Bu (mkRat z (W.decV den))).natAbs;rw [DC (by rw [HN.out.2]; exact HDz.out.2),HN.out.2];exact hx69.kept hR9 (AC _ _ _ _ _ _ _ _) hg10
     · have HQ:Hid (o=none):=qh (by rw [HO.out.2,if_neg hd,if_neg h1]);have hdec:decide (((z.natAbs.gcd (W.decV den):Nat):Int)=1)=false:=decide_eq_false (by omega);rw [hdec];clear h1
       go_wp2_with (refine Aa (vs:=An false none 0 0 false none 0 0) rfl rfl rfl rfl rfl Ac hR9 rfl (Ap _ _ _ _ _ _ _ _) ?_; intro w10 hB10 hg10)
       refine bodyPost_ret (AH rfl Ac rfl rfl hB10) rfl ?_;rw [HQ.out];exact ⟨_,rfl,hEw9.grownR hg10 (lrf _),En _⟩
  | false =>
   have hzn:z=((W.decV num:Nat):Int):=by rw [←hz]; rfl
   rw [←hzn] at HS3;have hx5:Wd w4 a3 n3 c3 z.natAbs:=by rw [HZA.out]; exact hx4
   have hE5:=hEw4;have hR5:=hR4;have hF5:=hF4;have hX5:=hX4;clear hEw4 hR4 hF4 hX4 hx4 hz hzn
   go_upto_region 7 with (fail)
   clear c0;have c2:=hF5.c 2 rfl;have x0:=hX5.c 0 rfl;have x1:=hX5.c 1 rfl;by_cases hd:den=[]
   · subst hd;have HQ:Hid (o=some (mkRat z 1)):=qh (by rw [HO.out.2,if_pos rfl]);have HN:=qh (Pl.rat_eq_mk (q:=mkRat z 1) (n:=z) (d:=1) (by omega) (Nat.gcd_one_right _) rfl);have x2:=hX5.c 2 rfl;have x3:=hX5.c 3 rfl;have hl9:(An s3 a3 n3 c3 false none 0 0).toArray=#[.bool s3, .slice a3 n3 c3, .bool false, .slice none 0 0]:=rfl
     go_wp2_with (refine Aa (vs:=An s3 a3 n3 c3 false none 0 0) rfl rfl rfl rfl rfl Ac hR5 rfl (Ap _ _ _ _ _ _ _ _) ?_; intro w9 hB9 hg9)
     refine bodyPost_ret (AH rfl Ac rfl rfl hB9) rfl ?_;rw [HQ.out];refine ⟨_,rfl,hE5.grownR hg9 (lrf _),s3,a3,n3,c3,none,0,0,rfl, ?_, ?_, ?_⟩
     · show Hid (decide ((mkRat z 1).num<0)=s3); rw [HN.out.1]; exact HS3
     · show Wd w9 a3 n3 c3 (mkRat z 1).num.natAbs; rw [HN.out.1]; exact hx5.kept hR5 (AC _ _ _ _ _ _ _ _) hg9
     · show Wd w9 none 0 0 (Bu (mkRat z 1)).natAbs; rw [AE.2 HN.out.2]; exact Wd.nil _
   · have hdb:den.isEmpty=false:=by cases den with | nil=>exact absurd rfl hd | cons _ _=>rfl
     go_wp2_with fail
     refine (hp2 w4).out.mono ?_;rintro e w6 ⟨s6,a6,n6,c6,rfl,hE6,HS6,hx6⟩;have hs6:s6=false:=by rw [←HS6.out]; exact decide_eq_false (by omega)
     subst hs6;have hl6:(Ab false a6 n6 c6).toArray=#[.bool false, .slice a6 n6 c6]:=rfl;have hX6:=hX5.ext hE6;have hR6:=hR5.ext hE6;have hEw6:=hE5.trans hE6;have hx56:=hx5.ext hE6;clear hX5 hR5 hE5 hx5 x0 x1 c2 hF5
     go_upto_region 10 with (refine Cn rfl rfl (Ab false a6 n6 c6) (An s3 a3 n3 c3 false a6 n6 c6) (by kernel_rfl) rfl rfl rfl hX6 (by simp [An,Ab]) (Ai _ _ _ _) rfl ?_; intro w7 hX7 hg7)
     have hEw7:=hEw6.grownR hg7 (by omega);have hR7:=hR6.kept hg7 (by simp; omega);have hx57:=hx56.kept hX6 (AC _ _ _ _ _ _ _ _) hg7;have hx67:=hx6.kept hX6 (AC _ _ _ _ _ _ _ _) hg7;clear hX6 hR6 hEw6 hx56 hx6 hg7 hl6;have x0:=hX7.c 0 rfl;have x1:=hX7.c 1 rfl;have x2:=hX7.c 2 rfl;have x3:=hX7.c 3 rfl;have hg:=qh (EE (hT.ext hEw7) ⟨s3,a3,n3,c3,rfl,HS3,hx57⟩ ⟨false,a6,n6,c6,rfl,HS6,hx67⟩ (by rw [HZA.out]; exact Ag HB1.out (by omega)) (Ag HB2.out (by omega)));rw [Int.natAbs_natCast] at hg
     go_wp2_with fail
     refine hg.out.mono ?_;rintro e w8 ⟨s8,a8,n8,c8,rfl,hE8,HS8,hx8⟩;have hio:=qh (Ct (w:=w8) ⟨s8,a8,n8,c8,rfl,HS8,hx8⟩ rfl);have hl8:(Ab s8 a8 n8 c8).toArray=#[.bool s8, .slice a8 n8 c8]:=rfl
     go_wp2_with fail
     refine hio.out.mono ?_;rintro e w9 ⟨rfl,hE9⟩;have hE79:=hE8.trans hE9;have hX9:=hX7.ext hE79;have hR9:=hR7.ext hE79;have hEw9:=hEw7.trans hE79;have hx59:=hx57.ext hE79;have hx69:=hx67.ext hE79;clear hX7 hR7 hEw7 hx57 hx67 x0 x1 x2 x3 hE79 hE8 hE9 hx8;have HDz:=qh (HD0.out hd);by_cases h1:z.natAbs.gcd (W.decV den)=1
     · have HQ:Hid (o=some (mkRat z (W.decV den))):=qh (by rw [HO.out.2,if_neg hd,if_pos h1]);have HN:=qh (Pl.rat_eq_mk (q:=mkRat z (W.decV den)) (n:=z) (d:=W.decV den) HDz.out.1 h1 rfl);rw [h1];have x0:=hX9.c 0 rfl;have x1:=hX9.c 1 rfl;have x2:=hX9.c 2 rfl;have x3:=hX9.c 3 rfl;have hl9:(An s3 a3 n3 c3 false a6 n6 c6).toArray=#[.bool s3, .slice a3 n3 c3, .bool false, .slice a6 n6 c6]:=rfl
       go_wp2_with (refine Aa (vs:=An s3 a3 n3 c3 false a6 n6 c6) rfl rfl rfl rfl rfl Ac hR9 rfl (Ap _ _ _ _ _ _ _ _) ?_; intro w10 hB10 hg10)
       refine bodyPost_ret (AH rfl Ac rfl rfl hB10) rfl ?_;rw [HQ.out];refine ⟨_,rfl,hEw9.grownR hg10 (lrf _),s3,a3,n3,c3,a6,n6,c6,rfl, ?_, ?_, ?_⟩
       · show Hid (decide ((mkRat z (W.decV den)).num<0)=s3); rw [HN.out.1]; exact HS3
       · show Wd w10 a3 n3 c3 (mkRat z (W.decV den)).num.natAbs; rw [HN.out.1]; exact hx59.kept hR9 (AC _ _ _ _ _ _ _ _) hg10
       · show Wd w10 a6 n6 c6 (Bu (mkRat z (W.decV den))).natAbs;rw [DC (by rw [HN.out.2]; exact HDz.out.2),HN.out.2];exact hx69.kept hR9 (AC _ _ _ _ _ _ _ _) hg10
     · have HQ:Hid (o=none):=qh (by rw [HO.out.2,if_neg hd,if_neg h1]);have hdec:decide (((z.natAbs.gcd (W.decV den):Nat):Int)=1)=false:=decide_eq_false (by omega);rw [hdec];clear h1
       go_wp2_with (refine Aa (vs:=An false none 0 0 false none 0 0) rfl rfl rfl rfl rfl Ac hR9 rfl (Ap _ _ _ _ _ _ _ _) ?_; intro w10 hB10 hg10)
       refine bodyPost_ret (AH rfl Ac rfl rfl hB10) rfl ?_;rw [HQ.out];exact ⟨_,rfl,hEw9.grownR hg10 (lrf _),En _⟩
def Ds:Int→List Int→Int
 | s,[]=>s
 | s,x :: t=>if x<0∨24-s<x then -1 else Ds (s+x) t
def Ic (xs:List Int):Int:=if 6<xs.length then -1 else Ds 0 xs
theorem T0 {s:Int} (hk:k<xs.length) (h:Ds 0 xs=Ds s (xs.drop k)) (hb:xs.getD k 0<0∨24-s<xs.getD k 0):Ds 0 xs = -1:=by
 rw [h,List.drop_eq_getElem_cons hk];simp only [gqq,List.getElem?_eq_getElem hk,Option.getD_some] at hb;simp only [Ds];rw [if_pos hb]
theorem Si {s:Int} (hk:k<xs.length) (h:Ds 0 xs=Ds s (xs.drop k)) (hb:¬ (xs.getD k 0<0∨24-s<xs.getD k 0)):Ds 0 xs=Ds (s+xs.getD k 0) (xs.drop (k+1)):=by
 rw [h,List.drop_eq_getElem_cons hk];simp only [gqq,List.getElem?_eq_getElem hk,Option.getD_some] at hb ⊢;simp only [Ds];rw [if_neg hb]
theorem Nw (hx:SlI w a n c xs) :
 Calls prog 111 #[.slice a n c] w fun e w'=>e = .returned (.int .i64 (Ic xs))∧w=w':=by
 have HX:=qh hx.len;have hnn:=hx.le;by_cases h6:6<(n:Int)
 · have HD:Hid (Ic xs = -1):=by
    show Ic xs = -1;unfold Ic;rw [if_pos (by rw [HX.out]; omega)]
   go_enter func111,ntmps111
   go_wp2;go_ret;exact ⟨D0 HD.out,rfl⟩
 · have HD:Hid (Ic xs=Ds 0 xs):=by
    show Ic xs=_;unfold Ic;rw [if_neg (by rw [HX.out]; omega)]
   go_enter func111,ntmps111
   go_wp2
   go_loop [3,11] (fun v i=>∃ (s:Int) (k:Nat),v = .int .i64 s∧i = .int .i64 k∧k≤n∧0≤s∧s≤24∧Hid (Ds 0 xs=Ds s (xs.drop k))) (fun _ i=>n-(intOf i).toNat)
   case atStart=>exact ⟨0,0,rfl,rfl,Nat.zero_le _,by omega,by omega,qh rfl⟩
   case round =>
    obtain ⟨s,k,rfl,rfl,hk,hs0,hs1,HS⟩:=hrel;by_cases hlt:k<n
    · obtain ⟨b1,o1,rfl,hc⟩:=hx.at hlt;have g1:=hc k hlt;have hkl:k<xs.length:=by rw [HX.out]; exact hlt
      have HB:=qh (T0 hkl HS.out);have HT:=qh (Si hkl HS.out);generalize xs.getD k 0=y at *
      clear hc;by_cases hy:y<0
      · go_wp2;go_ret;exact ⟨D0 (by rw [HD.out,HB.out (Or.inl hy)]),rfl⟩
      · have hw:IntKind.i64.wrap (24-s)=24-s:=IntWalk.i64_in _ (by omega);by_cases hy2:24-s<y
        · go_wp2;go_ret;exact ⟨D0 (by rw [HD.out,HB.out (Or.inr hy2)]),rfl⟩
        · have hw2:IntKind.i64.wrap (s+y)=s+y:=IntWalk.i64_in _ (by omega);go_wp2;go_round
          case rel=>exact ⟨s+y,k+1,by go_num,by go_num,by omega,by omega,by omega,qh (HT.out (by omega))⟩
          case measure=>simp [intOf]; omega
    · have ed:xs.drop k=[]:=List.drop_of_length_le (by have:=HX.out; omega);have HE:Hid (Ic xs=s):=by
       show Ic xs=s;rw [HD.out,HS.out,ed];rfl
      go_wp2;go_ret;exact ⟨D0 HE.out,rfl⟩
def Co (xs:List Int):Bool:=decide (0≤Ic xs)
theorem EJ (hx:SlI w a n c xs) :
 Calls prog 80 #[.slice a n c] w fun e w'=>e = .returned (.bool (Co xs))∧w=w':=by
 go_enter func80,ntmps80
 go_wp2_with fail
 refine (Nw hx).mono ?_;rintro e w1 ⟨rfl,rfl⟩;go_wp2;go_ret;exact ⟨rfl,rfl⟩
theorem PM :Calls prog 124 #[.int .i64 x, .int .i64 y] w fun e w'=>e = .returned (.int .i64 (Pl.cmpI x y))∧w'=w:=by
 rcases Int.lt_trichotomy x y with h|h|h
 · have HC:Hid (Pl.cmpI x y = -1):=qh (by unfold Pl.cmpI; rw [if_pos h])
   go_enter func124,ntmps124
   go_wp2;go_ret;exact ⟨by rw [HC.out]; rfl,rfl⟩
 · subst h;have HC:Hid (Pl.cmpI x x=0):=qh (Pl.cmpI_zero.2 rfl)
   go_enter func124,ntmps124
   go_wp2;go_ret;exact ⟨by rw [HC.out]; rfl,rfl⟩
 · have HC:Hid (Pl.cmpI x y=1):=qh (by unfold Pl.cmpI; rw [if_neg (by omega),if_pos h])
   go_enter func124,ntmps124
   go_wp2;go_ret;exact ⟨by rw [HC.out]; rfl,rfl⟩
theorem J0 (hk:k<xs.length):(xs.take (k+1)).sum=(xs.take k).sum+xs.getD k 0:=by
 have e:xs.getD k 0=xs[k]:=by simp [hk]
 rw [List.take_succ_eq_append_getElem hk,e,List.sum_append];simp only [List.sum_cons,List.sum_nil,Int.add_zero]
theorem Mn {xs:List Int} {B:Int} (h:∀ x∈xs,-B≤x∧x≤B) (hB:0≤B):∀ k,k≤xs.length → -(B*k)≤(xs.take k).sum∧(xs.take k).sum≤B*k
 | 0,_=>by simp
 | k+1,hk=>by
  have ih:=Mn h hB k (by omega);have h1:=h (xs.getD k 0) (by simp [show k<xs.length by omega]);rw [J0 (by omega)];have e:B*((k+1:Nat):Int)=B*k+B:=by rw [Int.natCast_add,Int.mul_add]; simp
  rw [e];omega
def IX (xs ys:List Int) (k:Nat):Int:=Pl.ordR (xs.take k).reverse (ys.take k).reverse
theorem QS (xs ys:List Int):IX xs ys 0=0:=by simp [IX,Pl.ordR]
theorem QU (hx:k<xs.length) (hy:k<ys.length):IX xs ys (k+1)=if xs.getD k 0=ys.getD k 0 then IX xs ys k else Pl.cmpI (ys.getD k 0) (xs.getD k 0):=by
 have e1:xs.getD k 0=xs[k]:=by simp [hx]
 have e2:ys.getD k 0=ys[k]:=by simp [hy]
 unfold IX;rw [List.take_succ_eq_append_getElem hx,List.take_succ_eq_append_getElem hy,e1,e2,List.reverse_concat,List.reverse_concat];rfl
theorem J1 (hx:SlI w a n c xs) (hy:SlI w b n d ys) (hn:n≤12) (bx:∀ x∈xs,-1099511627776≤x∧x≤1099511627776) (by_:∀ x∈ys,-1099511627776≤x∧x≤1099511627776) :
 Calls prog 83 #[.slice a n c, .slice b n d] w fun e w'=>e = .returned (.int .i64 (Pl.ordE xs ys))∧Qt w w':=by
 have HX:=qh (Mn bx (by omega));have HY:=qh (Mn by_ (by omega));have hlx:=hx.len;have hly:=hy.len
 go_enter func83,ntmps83
 go_wp2
 go_loop [5,6,12] (fun av bv iv=>∃ (k:Nat) (p q:Int),av = .int .i64 p∧bv = .int .i64 q∧iv = .int .i64 k∧k≤n∧Hid ((xs.take k).sum=p∧(ys.take k).sum=q)) (fun _ _ iv=>n-(intOf iv).toNat)
 case atStart=>exact ⟨0,0,0,rfl,rfl,rfl,Nat.zero_le _,qh ⟨rfl,rfl⟩⟩
 case round =>
  obtain ⟨k,p,q,rfl,rfl,rfl,hk,HS⟩:=hrel;have b1:=HX.out k (by omega);have b2:=HY.out k (by omega);rw [HS.out.1] at b1;rw [HS.out.2] at b2;by_cases hlt:k<n
  · obtain ⟨b',off,rfl,hc⟩:=hx.at hlt;obtain ⟨b'',off',rfl,hc'⟩:=hy.at hlt;have c1:=hc k hlt;have c2:=hc' k hlt;have m1:=bx (xs.getD k 0) (by simp [show k<xs.length by omega]);have m2:=by_ (ys.getD k 0) (by simp [show k<ys.length by omega]);have HS':Hid ((xs.take (k+1)).sum=p+xs.getD k 0∧(ys.take (k+1)).sum=q+ys.getD k 0):=qh ⟨by rw [J0 (by omega),HS.out.1],by rw [J0 (by omega),HS.out.2]⟩;clear hc hc';generalize xs.getD k 0=x at *
    generalize ys.getD k 0=y at *
    have w1:IntKind.i64.wrap (p+x)=p+x:=IntWalk.i64_in _ (by omega);have w2:IntKind.i64.wrap (q+y)=q+y:=IntWalk.i64_in _ (by omega);go_wp2;go_round
    case rel=>exact ⟨k+1,p+x,q+y,by first | rfl | go_num,by first | rfl | go_num,by go_num,by omega,HS'⟩
    case measure=>simp [intOf]; omega
  · have hkn:k=n:=by omega
    subst hkn
    have HE:Hid (Pl.ordE xs ys=if p=q then IX xs ys k else Pl.cmpI p q):=qh (by
     have h1:=HS.out.1;have h2:=HS.out.2;unfold Pl.ordE IX;rw [List.take_of_length_le (by omega)] at h1 h2 ⊢;rw [List.take_of_length_le (by omega)]
     rw [h1,h2])
    by_cases hpq:p=q
    · subst hpq;have HE':Hid (Pl.ordE xs ys=IX xs ys k):=qh (by rw [HE.out,if_pos rfl]);clear b1 b2 HS HE;go_wp2
      go_loopw [9] (fun iv wr=>∃ m:Nat,iv = .int .i64 ((m:Int)-1)∧m≤k∧Qt w wr∧Hid (IX xs ys k=IX xs ys m)) (fun iv _=>(intOf iv+1).toNat)
      case atStart=>exact ⟨k,by first | rfl | go_num,lrf _,Qt.refl _,qh rfl⟩
      case round =>
       obtain ⟨m,rfl,hm,hq,HM⟩:=hrel;by_cases h0:m=0
       · subst h0;have HZ:Hid (Pl.ordE xs ys=0):=qh (by rw [HE'.out,HM.out,QS]);go_wp2;go_ret;exact ⟨by rw [HZ.out]; rfl,hq⟩
       · obtain ⟨j,rfl⟩:∃ j,m=j+1:=⟨m-1,by omega⟩;have hj:(((j+1:Nat):Int)-1)=(j:Int):=by omega
         rw [hj];obtain ⟨b',off,rfl,hc⟩:=(hx.ext hq.ext).at (k:=j) (by omega);obtain ⟨b'',off',rfl,hc'⟩:=(hy.ext hq.ext).at (k:=j) (by omega);have c1:=hc j (by omega);have c2:=hc' j (by omega);have HT:=qh (QU (xs:=xs) (ys:=ys) (k:=j) (by omega) (by omega));clear hc hc';generalize xs.getD j 0=x at *
         generalize ys.getD j 0=y at *
         by_cases hxy:x=y
         · have HM':Hid (IX xs ys k=IX xs ys j):=qh (by rw [HM.out,HT.out,if_pos hxy]);subst hxy;go_wp2
           go_quiet (fail)
           go_wp2;go_roundw
           case rel=>exact ⟨j,by first | rfl | go_num,by omega,hq.drewN _,HM'⟩
           case measure=>simp [intOf]
         · have HZ:Hid (Pl.ordE xs ys=Pl.cmpI y x):=qh (by rw [HE'.out,HM.out,HT.out,if_neg hxy]);go_wp2
           go_quiet (fail)
           have d1:(wr.drewN nq).cell? ⟨b',off+j,none⟩=some (.int .i64 x):=c1;have d2:(wr.drewN nq).cell? ⟨b'',off'+j,none⟩=some (.int .i64 y):=c2;have hq2:=hq.drewN nq;generalize wr.drewN nq=w2 at *
           go_wp2
           go_quiet (exact Calls.quiet_of_same PM)
           go_wp2;go_ret;exact ⟨by rw [HZ.out]; rfl,hq2.drewN _⟩
    · have HE':Hid (Pl.ordE xs ys=Pl.cmpI p q):=qh (by rw [HE.out,if_neg hpq])
      go_wp2_with fail
      refine PM.mono ?_;rintro e w1 ⟨rfl,rfl⟩;go_wp2;go_ret;exact ⟨by rw [HE'.out]; rfl,Qt.refl _⟩
def A9 (vars:Int) (t:List UInt8×List Int):Option Pl.Tm :=
 match A8 t.1 with
 | none=>none
 | some q=>if q≠0∧(t.2.length:Int)=vars∧∀ e∈t.2,0≤e∧e≤1048576 then some (Ae t.2,q) else none
def Wr (w:World) (o:Option Pl.Tm) (e:Ending) (w':World):Prop:=∃ row,e = .returned (.tuple #[.agg row.toArray, .bool o.isSome])∧Ext w w'∧Cm w' row (o.getD ([0,0,0,0,0,0],0))
theorem Eo (w:World):Cm w (At [0,0,0,0,0,0] false none 0 0 none 0 0) ([0,0,0,0,0,0],0):=⟨false,none,0,0,none,0,0,rfl,rfl,En w⟩
theorem B2 {s:Bool} {m:Nat}:∀ v∈At e s a n c b m d,∀ i,v ≠ .int .u64 i:=by
 intro v hv i;rcases List.mem_append.1 hv with hv|hv
 · obtain ⟨x,_,rfl⟩:=List.mem_map.1 hv; simp
 · exact AC _ _ _ _ _ _ _ _ v hv i
theorem Dl (e:List Int) (s:Bool) (a b:Option Addr) (n c m d:Nat):(At e s a n c b m d).length=e.length+4:=by simp [At,An,Ab]
theorem GY:Bh prog 3 (.int .i64 0) 8:=by unfold Bh; kernel_rfl
def ze:List Int:=[0,0,0,0,0,0]
theorem K1 (hT:A2 w) (hs:s.size≤570) (hx:SlI w a n c xs) (hv:vars≤6) :
 Calls prog 125 #[.int .i64 vars, .agg #[.string s, .slice a n c]] w (Wr w (A9 vars (Am s,xs))):=by
 have hrd:=fun (wx:World) (hE:Ext w wx)=>qh (GX (hT.ext hE) hs);have hzL:(At ze false none 0 0 none 0 0).toArray=#[.int .i64 0, .int .i64 0, .int .i64 0, .int .i64 0, .int .i64 0, .int .i64 0, .bool false, .slice none 0 0, .bool false, .slice none 0 0]:=rfl;have hlx:=hx.len;obtain ⟨o,ho⟩:∃ o,A8 (Am s)=o:=⟨_,rfl⟩;obtain ⟨r,hr⟩:∃ r,A9 vars (Am s,xs)=r:=⟨_,rfl⟩;rw [hr];rw [ho] at hrd;unfold A9 at hr;simp only [ho] at hr;clear ho;have HR:=qh hr;clear hr
 go_enter func125,ntmps125
 go_upto_region 1 with (fail)
 refine F0 ?_;intro w0 hE0 hB0 hB1 hz0;have hR:Arr w0 (w.heap.size+1) 111 (At ze false none 0 0 none 0 0):=hB1;have t0:=hB0.c 0 rfl;have t1:=hB0.c 1 rfl;clear hB0 hB1 hz0
 go_wp2_with fail
 refine (hrd w0 hE0).out.mono ?_;rintro e w1 ⟨_,rfl,hE1,s1,a1,n1,c1,b1,m1,d1,rfl,HS1,hx1,hy1⟩;have hl1:(An s1 a1 n1 c1 false b1 m1 d1).toArray=#[.bool s1, .slice a1 n1 c1, .bool false, .slice b1 m1 d1]:=rfl;have hY:=Arr.new w1 97 (An false none 0 0 false none 0 0)
 go_upto_region 2 with (refine Aa (vs:=An s1 a1 n1 c1 false b1 m1 d1) rfl rfl rfl rfl rfl Ac hY rfl (Ap _ _ _ _ _ _ _ _) ?_; intro w2 hX2 hg2)
 have hE2:Ext w1 w2:=((Ext.refl w1).alloc _).grownR hg2 (lrf _);have hE02:=hE1.trans hE2;have hR2:=hR.ext hE02;have u0:=hE02.cell t0;have u1:=hE02.cell t1;have hEw:=hE0.trans hE02;have hX:w.heap.size+1<w1.heap.size:=(hR.ext hE1).lt;have hx2:=hx1.ext hE2;have hy2:=hy1.ext hE2;clear hR t0 t1 hE0 hE1 hE2 hE02 hx1 hy1 hY hg2 hl1;generalize w1.heap.size=X at *
 cases o with
 | none =>
  simp only at HR
  go_wp2_with (refine Aa (vs:=At ze false none 0 0 none 0 0) rfl rfl rfl rfl rfl AA hR2 rfl Bk ?_; intro w9 hB9 hg9)
  refine bodyPost_ret (AH rfl AA rfl rfl hB9) rfl ?_;rw [←HR.out];exact ⟨_,rfl,hEw.grownR hg9 (by omega),Eo _⟩
 | some q =>
  simp only [Option.getD_some] at HR HS1 hx2 hy2;have x0:=hX2.c 0 rfl;have x1:=hX2.c 1 rfl;have x2:=hX2.c 2 rfl;have x3:=hX2.c 3 rfl;have hiz:=qh (Gq (w:=w2) (v := .agg #[.bool s1, .slice a1 n1 c1, .bool false, .slice b1 m1 d1]) (q:=q) ⟨An s1 a1 n1 c1 false b1 m1 d1,rfl,s1,a1,n1,c1,b1,m1,d1,rfl,HS1,hx2,hy2⟩ rfl)
  go_wp2_with fail
  refine hiz.out.mono ?_;rintro e w3 ⟨rfl,hE3⟩;have hR3:=hR2.ext hE3;have hX3:=hX2.ext hE3;have u0':=hE3.cell u0;have u1':=hE3.cell u1;have hEw3:=hEw.trans hE3;have hx3:=hx2.ext hE3;have hy3:=hy2.ext hE3;clear hR2 hX2 u0 u1 hEw hx2 hy2 x0 x1 x2 x3 hE3 hiz;by_cases hq0:q=0
  · rw [decide_eq_true hq0];have HF:Hid (none=r):=qh (by rw [←HR.out,if_neg (fun h=>h.1 hq0)]);clear hq0 HR
    go_wp2_with (refine Aa (vs:=At ze false none 0 0 none 0 0) rfl rfl rfl rfl rfl AA hR3 rfl Bk ?_; intro w9 hB9 hg9)
    refine bodyPost_ret (AH rfl AA rfl rfl hB9) rfl ?_;rw [←HF.out];exact ⟨_,rfl,hEw3.grownR hg9 (by omega),Eo _⟩
  · rw [decide_eq_false hq0];have HQ0:=qh hq0;clear hq0;by_cases hnv:(n:Int)=vars
    · have hxw:=hx.ext hEw3;go_wp2
      go_loop [34] (fun iv=>∃ k:Nat,iv = .int .i64 k∧k≤n∧Hid (∀ i,i<k→0≤xs.getD i 0∧xs.getD i 0≤1048576)) (fun iv=>n-(intOf iv).toNat)
      case atStart=>exact ⟨0,rfl,Nat.zero_le _,qh (fun i hi=>absurd hi (by omega))⟩
      case round =>
       obtain ⟨k,rfl,hk,HK⟩:=hrel;by_cases hlt:k<n
       · obtain ⟨b',off,rfl,hc⟩:=hxw.at hlt;have c1:=hc k hlt;have HM:Hid (xs.getD k 0∈xs):=qh (by simp [show k<xs.length by omega]);clear hc;generalize hxk:xs.getD k 0=x at *
         have HXK:=qh hxk;clear hxk;by_cases hok:0≤x∧x≤1048576
         · obtain ⟨h1,h2⟩:=hok;go_wp2;go_round
           case rel =>
            refine ⟨k+1,by go_num,by omega,qh fun i hi => ?_⟩;by_cases hik:i=k
            · subst hik; rw [HXK.out]; exact ⟨h1,h2⟩
            · exact HK.out i (by omega)
           case measure=>simp [intOf]; omega
         · have HF:Hid (none=r):=qh (by rw [←HR.out,if_neg (fun h=>hok (h.2.2 x HM.out))]);by_cases hneg:x<0
           · clear hok
             go_wp2_with (refine Aa (vs:=At ze false none 0 0 none 0 0) rfl rfl rfl rfl rfl AA hR3 rfl Bk ?_; intro w9 hB9 hg9)
             refine bodyPost_ret (AH rfl AA rfl rfl hB9) rfl ?_;rw [←HF.out];exact ⟨_,rfl,hEw3.grownR hg9 (by omega),Eo _⟩
           · have hbig:1048576<x:=by omega
             clear hok
             go_wp2_with (refine Aa (vs:=At ze false none 0 0 none 0 0) rfl rfl rfl rfl rfl AA hR3 rfl Bk ?_; intro w9 hB9 hg9)
             refine bodyPost_ret (AH rfl AA rfl rfl hB9) rfl ?_;rw [←HF.out];exact ⟨_,rfl,hEw3.grownR hg9 (by omega),Eo _⟩
       · have hkn:k=n:=by omega
         subst hkn
         have HF:Hid (some (Ae xs,q)=r):=qh (by
          have hall:∀ e∈xs,0≤e∧e≤1048576:=fun e he => ?_
          · rw [←HR.out,if_pos ⟨HQ0.out,by rw [hlx]; exact hnv,hall⟩]
          obtain ⟨i,hi,rfl⟩:=List.mem_iff_getElem.1 he;have:=HK.out i (by omega);rw [gqq,List.getElem?_eq_getElem hi] at this
          exact this)
         clear HR HK
         go_upto_region 11 with (fail)
         refine Bq ?_;intro w4 hE4 hY4 hz4;have hY4:Arr w4 w3.heap.size 111 (At ze false none 0 0 none 0 0):=hY4;have hR4:=hR3.ext hE4;have hX4:=hX3.ext hE4;have u1:=hE4.cell u1';have hEw4:=hEw3.trans hE4;have hx4:=hx3.ext hE4;have hy4:=hy3.ext hE4;have hxw4:=hxw.ext hE4;have hYX:X<w3.heap.size:=hX3.lt;clear hz4 hR3 hX3 u1' u0' hEw3 hx3 hy3 hxw hE4;generalize w3.heap.size=Y at *
         have x0:=hX4.c 0 rfl;have x1:=hX4.c 1 rfl;have x2:=hX4.c 2 rfl;have x3:=hX4.c 3 rfl;have hl1:(An s1 a1 n1 c1 false b1 m1 d1).toArray=#[.bool s1, .slice a1 n1 c1, .bool false, .slice b1 m1 d1]:=rfl
         go_upto_region 12 with (refine Cn rfl rfl (An s1 a1 n1 c1 false b1 m1 d1) (At ze s1 a1 n1 c1 b1 m1 d1) (by kernel_rfl) rfl rfl rfl hY4 (by simp [At,An,Ab,ze]) (Ap _ _ _ _ _ _ _ _) rfl ?_; intro w5 hY5 hg5)
         have hEw5:=hEw4.grownR hg5 (by omega);have hR5:=hR4.kept hg5 (by simp; omega);have hx5:=hx4.kept hY4 B2 hg5;have hy5:=hy4.kept hY4 B2 hg5;have hu:w5.cell? ⟨w.heap.size,1,none⟩=some (.slice a k c):=by
          rw [World.cell?_of_block (w:=w4) (hg5.block _ (World.block_lt_of_cell? w4 _ u1) (by simp; omega)),u1]
         have hxw5:=hx.ext hEw5;clear hx4 hy4 hR4 hEw4 hg5 u1 x0 x1 x2 x3 hX4 hY4 hl1 hxw4
         go_still_tail 4,(by kernel_rfl)
         change wpList _ _ _ _ _ w5.drew;have hR6:Arr w5.drew (w.heap.size+1) 111 (At ze false none 0 0 none 0 0):=hR5;have hY6:Arr w5.drew Y 111 (At ze s1 a1 n1 c1 b1 m1 d1):=hY5;have hEw6:Ext w w5.drew:=hEw5.drew;have hx6:Wd w5.drew a1 n1 c1 q.num.natAbs:=hx5.ext (Ext.refl w5).drew;have hy6:Wd w5.drew b1 m1 d1 (Bu q).natAbs:=hy5.ext (Ext.refl w5).drew;clear hR5 hY5 hEw5 hx5 hy5 hu hxw5;generalize w5.drew=w6 at *
         have hxw6:=hx.ext hEw6;have hk6:k≤6:=by omega
         have HZ:Hid ((At ze s1 a1 n1 c1 b1 m1 d1).take 0 ++ xs.map (Value.int .i64) ++ (At ze s1 a1 n1 c1 b1 m1 d1).drop (0+k)=At (Ae xs) s1 a1 n1 c1 b1 m1 d1):=by
          show _=_;have hz:ze=List.replicate 6 0:=rfl;rw [List.take_zero,List.nil_append,Nat.zero_add];unfold At Ae;rw [hz,List.map_replicate,List.map_append,List.map_replicate,List.drop_append,List.drop_replicate,hlx,List.length_replicate,show k-6=0 by omega,List.drop_zero,List.append_assoc]
         have hp6:(Ae xs).length=6:=AQ (by omega);have hAg:Agg prog 111 (At (Ae xs) s1 a1 n1 c1 b1 m1 d1).length:=by rw [Dl,hp6]; exact AA
         have HL:Hid ((At ze false none 0 0 none 0 0).length=(At (Ae xs) s1 a1 n1 c1 b1 m1 d1).length):=qh (by rw [Dl,Dl,hp6]; rfl);have HP6:=qh hp6;have HLX:=qh hlx;clear hp6 hlx hnv
         go_wp2_with (first
          | (refine Ka (sT:=22) rfl rfl underlying22 GY rfl rfl hY6 hxw6 hk6 (by rw [Dl]; simp [ze]; omega) (A6 _) ?_; intro w7 hY7 hg7; rw [HZ.out] at hY7; have hR7:=hR6.kept hg7 (by simp; omega))
          | (refine A5 rfl rfl hAg rfl hY7 ?_)
          | (refine Aa rfl rfl rfl rfl rfl hAg hR7 HL.out Bk ?_; intro w8 hB8 hg8))
         have hx7:=hx6.kept hY6 B2 hg7;have hy7:=hy6.kept hY6 B2 hg7;refine bodyPost_ret (AH rfl hAg rfl rfl hB8) rfl ?_;rw [←HF.out];exact ⟨_,rfl,(hEw6.grownR hg7 (by omega)).grownR hg8 (by omega),s1,a1,n1,c1,b1,m1,d1,rfl,HP6.out,s1,a1,n1,c1,b1,m1,d1,rfl,HS1,hx7.kept hR7 B2 hg8,hy7.kept hR7 B2 hg8⟩
    · have HF:Hid (none=r):=qh (by rw [←HR.out,if_neg (fun h=>hnv (by rw [←h.2.1,hlx]))]);clear HR
      go_wp2_with (refine Aa (vs:=At ze false none 0 0 none 0 0) rfl rfl rfl rfl rfl AA hR3 rfl Bk ?_; intro w9 hB9 hg9)
      refine bodyPost_ret (AH rfl AA rfl rfl hB9) rfl ?_;rw [←HF.out];exact ⟨_,rfl,hEw3.grownR hg9 (by omega),Eo _⟩
end Go.Proofs.YtlpgonpfjbhmfaaGreatDoor
