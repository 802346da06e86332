/- Part Gan11. -/
import Derived.Test.YtlpgonpfjbhmfaaGreatDoorGan10
import Derived.Test.YtlpgonpfjbhmfaaGreatDoorGan2
set_option maxRecDepth 100000
set_option maxHeartbeats 100000000
namespace Go.Proofs.YtlpgonpfjbhmfaaGreatDoor
open Go Go.RowKit
def RetA (wb:World) (ga n ca gb cb p q:Nat) (e:Ending) (w':World):Prop :=
 e = .returned (.tuple #[])∧Ext wb w'∧∃ zs ts,OwnN .u64 w' wb.heap.size 143 ga n ca zs∧OwnN .u64 w' wb.heap.size 143 gb n cb ts∧W.bnd 18446744073709551616 zs∧W.bnd 18446744073709551616 ts∧W.val 18446744073709551616 zs=p∧W.val 18446744073709551616 ts=q
theorem int_apply {wb w:World} {ga gb n ca cb x y u0 u1 v0 v1 p q:Nat} {odd:Bool} {xs ys:List Nat} (hE0:Ext wb w) (hx:OwnN .u64 w wb.heap.size 143 ga n ca xs) (hy:OwnN .u64 w wb.heap.size 143 gb n cb ys) (hne:ga≠gb) (bx:W.bnd 18446744073709551616 xs) (by_:W.bnd 18446744073709551616 ys) (vx:W.val 18446744073709551616 xs=x) (vy:W.val 18446744073709551616 ys=y) (hu0:u0 < 18446744073709551616) (hu1:u1 < 18446744073709551616) (hv0:v0 < 18446744073709551616) (hv1:v1 < 18446744073709551616) (hst:W.Steps x y u0 u1 v0 v1 odd p q) (hn:n≤1000000) :
 Calls Tryz.prog 139 #[.agg (stepsL u0 u1 v0 v1 odd).toArray, .slice (some ⟨ga,0,none⟩) n ca, .slice (some ⟨gb,0,none⟩) n cb] w (RetA wb ga n ca gb cb p q):=by
 have HX:=Lib.hid hx.len;have HY:=Lib.hid hy.len;have HVX:=Lib.hid vx;have HVY:=Lib.hid vy;have HST:=Lib.hid hst;have BX:=Lib.hid bx;have BY:=Lib.hid by_;have hga:=hx.lt;have hgb:=hy.lt;have hga2:=hx.lo;have hgb2:=hy.lo;clear vx vy hst
 go_enter Tryz.func139,Tryz.ntmps139
 go_upto_region 1 with (fail)
 refine box1 ?_;intro w1 hE1 hS1 hz1;have hS2:Arr w1 w.heap.size 184 (stepsL u0 u1 v0 v1 odd):=hS1;have hx1:=hx.ext hE1;have hy1:=hy.ext hE1;have hE2:=hE0.trans hE1;generalize hSz:w.heap.size=S at *
 clear hS1 hx hy hE0 hE1 hz1 hSz;go_wp2
 go_loopw [6,7,8,9,10,11,21] (fun a6 a7 a8 a9 a10 a11 iv wr=>∃ (k cP cQ cR cT bo lo:Nat) (zs ts:List Nat),a6 = .int .u64 cP∧a7 = .int .u64 cQ∧a8 = .int .u64 cR∧a9 = .int .u64 cT∧a10 = .int .u64 bo∧a11 = .int .u64 lo∧iv = .int .i64 k∧k≤n∧(cP < 18446744073709551616∧cQ < 18446744073709551616∧cR < 18446744073709551616∧cT < 18446744073709551616)∧bo≤1∧lo≤1∧Ext wb wr∧Arr wr S 184 (stepsL u0 u1 v0 v1 odd)∧OwnN .u64 wr wb.heap.size 143 ga n ca zs∧OwnN .u64 wr wb.heap.size 143 gb n cb ts∧W.bnd 18446744073709551616 zs∧W.bnd 18446744073709551616 ts∧Hid (zs.drop k=xs.drop k)∧Hid (ts.drop k=ys.drop k)∧Hid (if odd=true then W.val 18446744073709551616 (zs.take k)+v0*W.val 18446744073709551616 (ys.take k)+cP*18446744073709551616^k=u0*W.val 18446744073709551616 (xs.take k)+(cQ+bo)*18446744073709551616^k else W.val 18446744073709551616 (zs.take k)+u0*W.val 18446744073709551616 (xs.take k)+cQ*18446744073709551616^k=v0*W.val 18446744073709551616 (ys.take k)+(cP+bo)*18446744073709551616^k)∧Hid (if odd=true then W.val 18446744073709551616 (ts.take k)+u1*W.val 18446744073709551616 (xs.take k)+cR*18446744073709551616^k=v1*W.val 18446744073709551616 (ys.take k)+(cT+lo)*18446744073709551616^k else W.val 18446744073709551616 (ts.take k)+v1*W.val 18446744073709551616 (ys.take k)+cT*18446744073709551616^k=u1*W.val 18446744073709551616 (xs.take k)+(cR+lo)*18446744073709551616^k)) (fun _ _ _ _ _ _ iv _=>n - (intOf iv).toNat)
 case atStart=>exact ⟨0,0,0,0,0,0,0,xs,ys,rfl,rfl,rfl,rfl,rfl,rfl,rfl,Nat.zero_le _,⟨by omega,by omega,by omega,by omega⟩,by omega,by omega,hE2,hS2,hx1,hy1,bx,by_,Lib.hid rfl,Lib.hid rfl,Lib.hid (by simp [W.val]),Lib.hid (by simp [W.val])⟩
 case round =>
  clear hE2 hS2 hx1 hy1 bx by_;obtain ⟨k,cP,cQ,cR,cT,bo,lo,zs,ts,rfl,rfl,rfl,rfl,rfl,rfl,rfl,hk,⟨hcP,hcQ,hcR,hcT⟩,hbo,hlo,hE,hS,gz,gt,bz,bt,DZ,DT,H1,H2⟩:=hrel;have hSa:S≠ga:=by omega
  have hSb:S≠gb:=by omega
  by_cases hlt:k < n
  · have c1:=gz.cell (i:=k) hlt;have c2:=gt.cell (i:=k) hlt;have f1:=gz.frozen k;have f2:=gt.frozen k;have s0:=hS.c 0 rfl;have s1:=hS.c 1 rfl;have s2:=hS.c 2 rfl;have s3:=hS.c 3 rfl;have s4:=hS.c 4 rfl;have b1:=W.bnd_at bz (i:=k) (by rw [gz.len]; exact hlt);have b2:=W.bnd_at bt (i:=k) (by rw [gt.len]; exact hlt);have hxk:zs.getD k 0=xs.getD k 0:=drop_getD_eq DZ.out;have hyk:ts.getD k 0=ys.getD k 0:=drop_getD_eq DT.out;have HXK:=Lib.hid hxk;have HYK:=Lib.hid hyk;clear hxk hyk;generalize zs.getD k 0=xk at *
    generalize ts.getD k 0=yk at *
    have hkn:(k:Int) < n:=by omega
    go_wp2_with fail
    refine (int_multiplyAdd b1 hu0 hcP).mono ?_;rintro e w2 ⟨lP,cP2,rfl,rfl,hlP,hcP2,e1⟩;have E1:=Lib.hid e1;clear e1
    go_wp2_with fail
    refine (int_multiplyAdd b2 hv0 hcQ).mono ?_;rintro e w2 ⟨lQ,cQ2,rfl,rfl,hlQ,hcQ2,e1⟩;have E2:=Lib.hid e1;clear e1
    go_wp2_with fail
    refine (int_multiplyAdd b2 hv1 hcR).mono ?_;rintro e w2 ⟨lR,cR2,rfl,rfl,hlR,hcR2,e1⟩;have E3:=Lib.hid e1;clear e1
    go_wp2_with fail
    refine (int_multiplyAdd b1 hu1 hcT).mono ?_;rintro e w2 ⟨lT,cT2,rfl,rfl,hlT,hcT2,e1⟩;have E4:=Lib.hid e1;clear e1;cases odd with
    | true =>
     have hsub1:=sub64_run lP lQ bo hbo;have hsub2:=sub64_run lR lT lo hlo;have d1:=subS (x:=lP) (y:=lQ) (c:=bo) (by omega) (by omega) hbo;have d2:=subS (x:=lR) (y:=lT) (c:=lo) (by omega) (by omega) hlo;have q1:(lP+18446744073709551616 - lQ - bo) % 18446744073709551616 < 18446744073709551616:=Nat.mod_lt _ (by omega);have q2:(lR+18446744073709551616 - lT - lo) % 18446744073709551616 < 18446744073709551616:=Nat.mod_lt _ (by omega);have r1:=subC (x:=lP) (y:=lQ) (c:=bo);have r2:=subC (x:=lR) (y:=lT) (c:=lo);generalize (lP+18446744073709551616 - lQ - bo) % 18446744073709551616=dA at *
     generalize (lR+18446744073709551616 - lT - lo) % 18446744073709551616=dB at *
     generalize (if lP < lQ+bo then 1 else 0)=bo2 at *
     generalize (if lR < lT+lo then 1 else 0)=lo2 at *
     have hw1:=gz.set k dA;have hw2:=(gt.kept (grown_setCell wr ga k (.int .u64 (dA:Int))) (by simp; omega)).set k dB;have hw3:=hw1.kept (grown_setCell (wr.setCell ⟨ga,k,none⟩ (.int .u64 (dA:Int))) gb k (.int .u64 (dB:Int))) (by simp; omega);have hw4:=(hS.far (p:=⟨ga,k,none⟩) (by show S≠ga; omega) (.int .u64 (dA:Int))).far (p:=⟨gb,k,none⟩) (by show S≠gb; omega) (.int .u64 (dB:Int));have hw5:=(hE.setCell (p:=⟨ga,k,none⟩) hga2 (.int .u64 (dA:Int))).setCell (p:=⟨gb,k,none⟩) hgb2 (.int .u64 (dB:Int))
     have HN1:=Lib.hid (app_step (B:=18446744073709551616) (zs:=zs) (xs:=ys) (ys:=xs) (k:=k) (d:=dA) (u:=v0) (v:=u0) (c1:=cP) (c2:=cQ+bo) (c1':=cP2) (c2':=cQ2+bo2) (by rw [gz.len]; exact hlt) (by rw [HY.out]; exact hlt) (by rw [HX.out]; exact hlt) (by have:=H1.out; rw [if_pos rfl] at this; exact this) (by rw [←HXK.out,←HYK.out]; have:=E1.out; have:=E2.out; omega))
     have HN2:=Lib.hid (app_step (B:=18446744073709551616) (zs:=ts) (xs:=xs) (ys:=ys) (k:=k) (d:=dB) (u:=u1) (v:=v1) (c1:=cR) (c2:=cT+lo) (c1':=cR2) (c2':=cT2+lo2) (by rw [gt.len]; exact hlt) (by rw [HX.out]; exact hlt) (by rw [HY.out]; exact hlt) (by have:=H2.out; rw [if_pos rfl] at this; exact this) (by rw [←HXK.out,←HYK.out]; have:=E3.out; have:=E4.out; omega));clear d1 d2 E1 E2 E3 E4 H1 H2;go_wp2;go_roundw
     case rel=>exact ⟨k+1,cP2,cQ2,cR2,cT2,bo2,lo2,zs.set k dA,ts.set k dB,rfl,rfl,rfl,rfl,rfl,rfl,by go_num,by omega,⟨hcP2,hcQ2,hcR2,hcT2⟩,r1,r2,hw5,hw4,hw3,hw2,W.bnd_set bz q1,W.bnd_set bt q2,Lib.hid (drop_keep DZ.out),Lib.hid (drop_keep DT.out),Lib.hid (by first | exact HN1.out | (rw [if_pos rfl]; exact HN1.out)),Lib.hid (by first | exact HN2.out | (rw [if_pos rfl]; exact HN2.out))⟩
     case measure=>simp [intOf]; omega
    | false =>
     have hsub1:=sub64_run lQ lP bo hbo;have hsub2:=sub64_run lT lR lo hlo;have d1:=subS (x:=lQ) (y:=lP) (c:=bo) (by omega) (by omega) hbo;have d2:=subS (x:=lT) (y:=lR) (c:=lo) (by omega) (by omega) hlo;have q1:(lQ+18446744073709551616 - lP - bo) % 18446744073709551616 < 18446744073709551616:=Nat.mod_lt _ (by omega);have q2:(lT+18446744073709551616 - lR - lo) % 18446744073709551616 < 18446744073709551616:=Nat.mod_lt _ (by omega);have r1:=subC (x:=lQ) (y:=lP) (c:=bo);have r2:=subC (x:=lT) (y:=lR) (c:=lo);generalize (lQ+18446744073709551616 - lP - bo) % 18446744073709551616=dA at *
     generalize (lT+18446744073709551616 - lR - lo) % 18446744073709551616=dB at *
     generalize (if lQ < lP+bo then 1 else 0)=bo2 at *
     generalize (if lT < lR+lo then 1 else 0)=lo2 at *
     have hw1:=gz.set k dA;have hw2:=(gt.kept (grown_setCell wr ga k (.int .u64 (dA:Int))) (by simp; omega)).set k dB;have hw3:=hw1.kept (grown_setCell (wr.setCell ⟨ga,k,none⟩ (.int .u64 (dA:Int))) gb k (.int .u64 (dB:Int))) (by simp; omega);have hw4:=(hS.far (p:=⟨ga,k,none⟩) (by show S≠ga; omega) (.int .u64 (dA:Int))).far (p:=⟨gb,k,none⟩) (by show S≠gb; omega) (.int .u64 (dB:Int));have hw5:=(hE.setCell (p:=⟨ga,k,none⟩) hga2 (.int .u64 (dA:Int))).setCell (p:=⟨gb,k,none⟩) hgb2 (.int .u64 (dB:Int))
     have HN1:=Lib.hid (app_step (B:=18446744073709551616) (zs:=zs) (xs:=xs) (ys:=ys) (k:=k) (d:=dA) (u:=u0) (v:=v0) (c1:=cQ) (c2:=cP+bo) (c1':=cQ2) (c2':=cP2+bo2) (by rw [gz.len]; exact hlt) (by rw [HX.out]; exact hlt) (by rw [HY.out]; exact hlt) (by have:=H1.out; rw [if_neg (by simp)] at this; exact this) (by rw [←HXK.out,←HYK.out]; have:=E1.out; have:=E2.out; omega))
     have HN2:=Lib.hid (app_step (B:=18446744073709551616) (zs:=ts) (xs:=ys) (ys:=xs) (k:=k) (d:=dB) (u:=v1) (v:=u1) (c1:=cT) (c2:=cR+lo) (c1':=cT2) (c2':=cR2+lo2) (by rw [gt.len]; exact hlt) (by rw [HY.out]; exact hlt) (by rw [HX.out]; exact hlt) (by have:=H2.out; rw [if_neg (by simp)] at this; exact this) (by rw [←HXK.out,←HYK.out]; have:=E3.out; have:=E4.out; omega));clear d1 d2 E1 E2 E3 E4 H1 H2;go_wp2;go_roundw
     case rel=>exact ⟨k+1,cP2,cQ2,cR2,cT2,bo2,lo2,zs.set k dA,ts.set k dB,rfl,rfl,rfl,rfl,rfl,rfl,by go_num,by omega,⟨hcP2,hcQ2,hcR2,hcT2⟩,r1,r2,hw5,hw4,hw3,hw2,W.bnd_set bz q1,W.bnd_set bt q2,Lib.hid (drop_keep DZ.out),Lib.hid (drop_keep DT.out),Lib.hid (by first | exact HN1.out | (rw [if_neg (by simp)]; exact HN1.out)),Lib.hid (by first | exact HN2.out | (rw [if_neg (by simp)]; exact HN2.out))⟩
     case measure=>simp [intOf]; omega
  · have ek:k=n:=by omega
    have hz0:zs.take k=zs:=List.take_of_length_le (by rw [gz.len]; omega);have ht0:ts.take k=ts:=List.take_of_length_le (by rw [gt.len]; omega);have hx0:xs.take k=xs:=List.take_of_length_le (by rw [HX.out]; omega);have hy0:ys.take k=ys:=List.take_of_length_le (by rw [HY.out]; omega);have h1:=H1.out;have h2:=H2.out;rw [hz0,hx0,hy0,HVX.out,HVY.out,ek] at h1;rw [ht0,hx0,hy0,HVX.out,HVY.out,ek] at h2;have l1:=W.val_lt bz;have l2:=W.val_lt bt;have l3:=W.val_lt BY.out;rw [gz.len] at l1;rw [gt.len] at l2;rw [HY.out,HVY.out] at l3;have hle:=HST.out.le;have hqp:=HST.out.lt;have hep:=HST.out.ep
    have heq:=HST.out.eq;have HF:Hid (W.val 18446744073709551616 zs=p∧W.val 18446744073709551616 ts=q):=by
     show _∧_;cases odd with
     | true =>
      rw [if_pos rfl] at h1 h2 hep heq;exact ⟨W.comb_end h1 hep l1 (by omega),W.comb_end h2 heq l2 (by omega)⟩
     | false =>
      rw [if_neg (by simp)] at h1 h2 hep heq;exact ⟨W.comb_end h1 hep l1 (by omega),W.comb_end h2 heq l2 (by omega)⟩
    clear h1 h2 hep heq l1 l2 l3 hz0 ht0 hx0 hy0 ek hle hqp;go_wp2
    go_end0
    exact ⟨rfl,hE,zs,ts,gz,gt,bz,bt,HF.out.1,HF.out.2⟩
theorem int_divideSimple {a b:Option Addr} {n c m d:Nat} {xs ys:List Nat} {x y:Nat} {w:World} (hx:SlN .u64 w a n c xs) (hy:SlN .u64 w b m d ys) (nx:Num 18446744073709551616 xs x) (ny:Num 18446744073709551616 ys y) (hn:n≤100000) (h0:0 < y) :
 Calls Tryz.prog 177 #[.slice a n c, .slice b m d] w (RetQR .u64 18446744073709551616 w (x / y) (x % y)):=by
 by_cases hlt:x < y
 · exact int_divideSimple_small hx hy nx ny hlt
 · have hl:=hy.len;rcases Nat.lt_or_ge m 2 with h2 | h2
   · have hm:m=1:=by
      rcases Nat.eq_zero_or_pos m with h | h
      · subst h;have:ys=[]:=List.eq_nil_of_length_eq_zero hl;have hv:=ny.val;rw [this] at hv;simp only [W.val] at hv;omega
      · omega
     subst hm;exact int_divideSimple_word hx hy nx ny (by omega) (by omega) h0
   · exact int_divideSimple_long hx hy nx ny hn (by omega) (mm:=m - 2) (by omega)
theorem int_divideWords {a b:Option Addr} {n c m d:Nat} {xs ys:List Nat} {x y:Nat} {w:World} (hx:SlN .u64 w a n c xs) (hy:SlN .u64 w b m d ys) (nx:Num 18446744073709551616 xs x) (ny:Num 18446744073709551616 ys y) (hn:n≤100000) (hm:m≤100000) (h0:0 < y) (hc:m < 80∨n < m+80) :
 Calls Tryz.prog 138 #[.slice a n c, .slice b m d] w (RetQR .u64 18446744073709551616 w (x / y) (x % y)):=by
 have hd:=int_divideSimple hx hy nx ny hn h0;have HD:=Lib.hid hd;clear hd;have hw:IntKind.i64.wrap ((n:Int) - m)=(n:Int) - m:=IntWalk.i64_in _ (by omega);by_cases h1:m < 80
 · have h2:¬ ((80:Int)≤(m:Int)):=by omega
   go_enter Tryz.func138,Tryz.ntmps138
   go_wp2_with fail
   refine HD.out.mono ?_;rintro e w' ⟨a1,n1,c1,xs1,a2,n2,c2,ys2,rfl,h⟩;have H:=Lib.hid h;clear h;go_wp2
   go_ret2
   exact ⟨a1,n1,c1,xs1,a2,n2,c2,ys2,rfl,H.out⟩
 · have h2:(80:Int)≤(m:Int):=by omega
   have h3:¬ ((80:Int)≤(n:Int) - m):=by omega
   go_enter Tryz.func138,Tryz.ntmps138
   go_wp2_with fail
   refine HD.out.mono ?_;rintro e w' ⟨a1,n1,c1,xs1,a2,n2,c2,ys2,rfl,h⟩;have H:=Lib.hid h;clear h;go_wp2
   go_ret2
   exact ⟨a1,n1,c1,xs1,a2,n2,c2,ys2,rfl,H.out⟩
def RetClone (w:World) (n:Nat) (xs:List Nat) (e:Ending) (w':World):Prop:=∃ a' c',e = .returned (.slice a' n c')∧Ext w w'∧Own w' w.heap.size 143 a' n c' (xs.map (natV .u64))
theorem cloneU_any {a:Option Addr} {n c:Nat} {xs:List Nat} {w:World} (hx:SlN .u64 w a n c xs) (hn:n≤1000000) :
 Calls Tryz.prog 136 #[.slice a n c] w (RetClone w n xs):=by
 rcases Nat.eq_zero_or_pos n with h0 | h0
 · subst h0;have hxs:xs=[]:=List.eq_nil_of_length_eq_zero hx.len;subst hxs;have heq:=fun w':World=>Lib.run_eql_slice_nil (P:=Tryz.prog) w' 88 143 a 0 c 0 0 Tryz.underlying88;cases a with
   | none =>
    go_enter Tryz.func136,Tryz.ntmps136
    go_wp2;go_ret;exact ⟨none,0,rfl,Ext.refl w,Own.nil _ _ _⟩
   | some p =>
    go_enter Tryz.func136,Tryz.ntmps136
    go_upto_region 3 with (fail)
    have hA:Ext w (w.alloc (.cells #[] 143)):=(Ext.refl w).alloc _;have hO:=own_alloc w w.heap.size 143 #[] 0 rfl (Nat.le_refl _) (by omega)
    go_wp2_with (refine wl_app (news:=[]) rfl rfl Tryz.underlying88 info_u64 rfl rfl hO rfl (hx.ext hA) (by simp) (by unfold maxLen; omega) (by omega) (by simp) ?_; intro a1 c1 w1 hO1 hg1 hb1)
    go_ret;exact ⟨a1,c1,rfl,hA.grown hg1 (fun k hk=>(hO.lt hk).1),hO1⟩
 · refine (cloneU hx hn h0).mono ?_;rintro e w' ⟨g,c',rfl,hE,hO⟩;exact ⟨_,c',rfl,hE,hO⟩
section
variable {P:Program} {ops:Array Oper} {hs:List Hd} {a0:Act} {C:World→Prop} {i:Nat} {o:Oper}
theorem obl_pure {c:Value} (hw:wants hs o=some true) (h:∀ ρ w,Plain ρ→C w→opnds ops hs a0 o ρ w o.op.operands.toList→(execOp ρ o).run P w = .ok (.value c) w) :
 obl P C ops hs a0 i o (he c):=by
 unfold obl;rw [hw];intro ρ w hp hC hx;rw [h ρ w hp hC hx];exact ⟨rfl,rfl⟩
theorem obl_none (hw:wants hs o=some false):obl P C ops hs a0 i o (he undef):=by
 unfold obl;rw [hw];exact fun w _=>rfl
theorem obl_pmove {c:Value} {x:Operand} (hw:wants hs o=some true) (ho:o.op = .move x∨o.op = .assign x) (h:∀ ρ w,Plain ρ→opnds ops hs a0 o ρ w [x]→ρ x=c):obl P C ops hs a0 i o (he c) :=
 obl_pure hw fun ρ w hp _ hx=>by
  rcases ho with ho | ho <;>
  · rw [ho] at hx;simp only [execOp,ho,h ρ w hp hx];rfl
theorem obl_call {p:Value→World→Prop} {cons:Option Nat} (hw:wants hs o=some true)
 (h:∀ ρ w,Plain ρ→C w→opnds ops hs a0 o ρ w o.op.operands.toList→∃ f args,(execOp ρ o).run P w = .ok (.enter f args) w∧Calls P f args w (fun e w'=>∃ u,e = .returned u∧Ext w w'∧p u w')) :
 obl P C ops hs a0 i o ⟨false, .pr p,cons⟩:=by
 unfold obl;rw [hw];intro ρ w hp hC hx;obtain ⟨f,args,hr,hc⟩:=h ρ w hp hC hx;rw [hr];exact hc
theorem obl_pq {c:Value} (hw:wants hs o=some true) (h:∀ ρ w,C w→(∀ v,ρ (.const v)=v)→opnds ops hs a0 o ρ w o.op.operands.toList→(execOp ρ o).run P w = .ok (.value c) w):obl P C ops hs a0 i o (he c):=obl_pure hw fun ρ w hp hC hx=>h ρ w hC hp.const hx
theorem obl_cq {p:Value→World→Prop} {cons:Option Nat} (hw:wants hs o=some true) (h:∀ ρ w,C w→(∀ v,ρ (.const v)=v)→(∀ f,ρ (.func f) = .func (.func f) #[] #[])→opnds ops hs a0 o ρ w o.op.operands.toList→∃ f args,(execOp ρ o).run P w = .ok (.enter f args) w∧Calls P f args w (fun e w'=>∃ u,e = .returned u∧Ext w w'∧p u w')):obl P C ops hs a0 i o ⟨false, .pr p,cons⟩:=obl_call hw fun ρ w hp hC hx=>h ρ w hC hp.const hp.func hx
end
end Go.Proofs.YtlpgonpfjbhmfaaGreatDoor
