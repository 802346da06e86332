/- Part Gan9. -/
import Derived.Test.YtlpgonpfjbhmfaaGreatDoorGan8
import Derived.Test.YtlpgonpfjbhmfaaGreatDoorGan5
import Derived.Shelf.LaysM
import Derived.Shelf.Lays7
import Derived.Shelf.Lays
import Derived.Test.YtlpgonpfjbhmfaaGreatDoorProg
set_option maxRecDepth 100000
set_option maxHeartbeats 100000000
namespace Go.Proofs.YtlpgonpfjbhmfaaGreatDoor
open Go Go.RowKit
theorem copied_le {w:World} {g N:Nat} {xs:List Nat} {t:TypeId} (h:Arr w g t ((List.map (natV .u64) (List.replicate N 0)).take 0 ++ xs.map (natV .u64) ++ (List.map (natV .u64) (List.replicate N 0)).drop (0+xs.length))):ArrN .u64 w g t (xs ++ List.replicate (N - xs.length) 0):=copied h
theorem div_end {x y s Q R:Nat} (hy:0 < y) (h:x*2^s=Q*(y*2^s)+R) (hR:R < y*2^s):x / y=Q∧R / 2^s=x % y:=by
 have hp:=Nat.two_pow_pos s;have hd:2^s∣R:=by
  have h1:2^s∣x*2^s:=Nat.dvd_mul_left _ _;rw [h] at h1;exact (Nat.dvd_add_right ⟨Q*y,by grind⟩).1 h1
 obtain ⟨r,rfl⟩:=hd;have e:x=Q*y+r:=by
  apply Nat.eq_of_mul_eq_mul_right hp;rw [h]
  grind
 have hr:r < y:=by
  rw [Nat.mul_comm] at hR;exact Nat.lt_of_mul_lt_mul_right hR
 rw [Nat.mul_div_cancel_left _ hp,e];exact ⟨by rw [Nat.mul_comm,Nat.mul_add_div hy,Nat.div_eq_of_lt hr,Nat.add_zero],by rw [Nat.mul_comm,Nat.mul_add_mod,Nat.mod_eq_of_lt hr]⟩
theorem div_begin {x y s n m:Nat} (hx:x < 18446744073709551616^n) (hy:18446744073709551616^m≤y) (hmn:m+1≤n):x*2^s < 18446744073709551616^(n - (m+1)+1)*(y*2^s):=by
 have h1:18446744073709551616^(n - (m+1)+1)*18446744073709551616^m=18446744073709551616^n:=by rw [←Nat.pow_add]; congr 1; omega
 have h2:18446744073709551616^(n - (m+1)+1)*18446744073709551616^m≤18446744073709551616^(n - (m+1)+1)*y:=Nat.mul_le_mul_left _ hy;have h3:x*2^s < 18446744073709551616^(n - (m+1)+1)*y*2^s:=Nat.mul_lt_mul_of_pos_right (by omega) (Nat.two_pow_pos s);rw [←Nat.mul_assoc];exact h3
theorem quo_set {qs:List Nat} {i q Q D V V' P:Nat} (hi:i < qs.length) (h0:qs.getD i 0=0) (hP:P=18446744073709551616^i) (h:Q=W.val 18446744073709551616 qs*D+V) (h1:V'+q*D*P=V):Q=W.val 18446744073709551616 (qs.set i q)*D+V':=by
 have h2:=W.val_set (B:=18446744073709551616) (xs:=qs) (i:=i) (v:=q) hi;rw [h0,Nat.mul_zero,Nat.add_zero] at h2;rw [h2,h,←h1,hP]
 grind
theorem quo_low {qs:List Nat} {i q:Nat} (h:∀ j,j < i+1→qs.getD j 0=0):∀ j,j < i→(qs.set i q).getD j 0=0:=by
 intro j hj;have h1:=h j (by omega);have h2:¬ i=j:=by omega
 simpa [List.getD_eq_getElem?_getD,h2] using h1
theorem div_digit {B:Nat} (hB:0 < B) {ls:List Nat} {D i md:Nat} (bz:W.bnd B ls) (hll:i+(md+1)≤ls.length) (hDM:D < B^md) (hD0:0 < D) (HB:W.val B ls < B^(i+1)*D) :
 ∃ q,q < B∧q*D≤W.val B ((ls.drop i).take (md+1))∧W.val B ((ls.drop i).take (md+1)) < (q+1)*D∧W.val B ls=W.val B (ls.take i)+B^i*W.val B ((ls.drop i).take (md+1))∧W.val B (ls.take i) < B^i∧W.val B ls < B^(i+(md+1)):=by
 have hlT:W.val B ls < B^(i+(md+1)):=by
  have h3:B^(i+1)*D≤B^(i+1)*B^md:=Nat.mul_le_mul_left _ (by omega);rw [←Nat.pow_add,show i+1+md=i+(md+1) by omega] at h3;omega
 have hVW:=val_window (B:=B) hB hll hlT;have hlo:=take_lt bz (m:=i) (by omega);have hWD:W.val B ((ls.drop i).take (md+1)) < B*D:=by
  rw [Nat.pow_succ,Nat.mul_assoc,hVW] at HB;have h2:B^i*W.val B ((ls.drop i).take (md+1)) < B^i*(B*D):=by omega
  exact Nat.lt_of_mul_lt_mul_left h2
 generalize W.val B ((ls.drop i).take (md+1))=Wn at *
 have hq1:Wn / D*D≤Wn:=Nat.div_mul_le_self _ _;refine ⟨Wn / D, ?_,hq1, ?_,hVW,hlo,hlT⟩
 · exact Nat.lt_of_mul_lt_mul_right (a:=D) (Nat.lt_of_le_of_lt hq1 hWD)
 · rw [Nat.add_mul,Nat.one_mul];have h1:=Nat.div_add_mod Wn D;have h2:=Nat.mod_lt Wn hD0;rw [Nat.mul_comm] at h1;omega
theorem div_more {V V1 lo P Wn D g q T:Nat} (hV:V=lo+P*Wn) (h1:V1+g*D*P=V+T) (hb:V1 < T) (hq1:q*D≤Wn):q < g:=by
 refine Classical.byContradiction fun hc => ?_;have h2:g*D*P≤q*D*P:=Nat.mul_le_mul_right _ (Nat.mul_le_mul_right _ (by omega));have h3:q*D*P≤Wn*P:=Nat.mul_le_mul_right _ hq1;rw [Nat.mul_comm Wn P] at h3;omega
theorem top_ok {V V' Z M P g D t v cy:Nat} (h1:V'+M*t=Z+M*v) (h2:Z+g*D*P=V+cy*M) (h3:v+cy=t):V'+g*D*P=V:=by
 subst h3;rw [Nat.mul_add,Nat.mul_comm M cy] at h1;omega
theorem top_under {B V V' Z M P g D t v cy:Nat} (h1:V'+M*t=Z+M*v) (h2:Z+g*D*P=V+cy*M) (h3:v+cy=t+B):V'+g*D*P=V+M*B:=by
 have h4:M*(v+cy)=M*(t+B):=by rw [h3]
 rw [Nat.mul_add,Nat.mul_add,Nat.mul_comm M cy] at h4;omega
theorem top_back {B V1 Z V2 M P D u z c ov:Nat} (h1:V2+M*u=Z+M*z) (h2:Z+c*M=V1+1*D*P) (h3:z+B*ov=u+c):V2+ov*(M*B)=V1+D*P:=by
 have h4:M*(z+B*ov)=M*(u+c):=by rw [h3]
 rw [Nat.mul_add,Nat.mul_add,Nat.mul_comm M c,←Nat.mul_assoc] at h4;rw [Nat.one_mul] at h2;rw [Nat.mul_comm ov];omega
theorem set_above {zs ls:List Nat} {p v:Nat} (h:∀ j,p≤j→zs.getD j 0=ls.getD j 0) (h0:∀ j,p+1≤j→ls.getD j 0=0):∀ j,p+1≤j→(zs.set p v).getD j 0=0:=by
 intro j hj;have h1:=h j (by omega);rw [h0 j hj] at h1;have h2:¬ p=j:=by omega
 simpa [List.getD_eq_getElem?_getD,h2] using h1
theorem int_divideSimple_long {a b:Option Addr} {n c m d:Nat} {xs ys:List Nat} {x y:Nat} {w:World} (hx:SlN .u64 w a n c xs) (hy:SlN .u64 w b m d ys) (nx:Num 18446744073709551616 xs x) (ny:Num 18446744073709551616 ys y) (hn:n≤100000) (hge:y≤x) {mm:Nat} (hm2:m=mm+2) :
 Calls Tryz.prog 177 #[.slice a n c, .slice b m d] w (RetQR .u64 18446744073709551616 w (x / y) (x % y)):=by
 have HC:Hid (¬ cmpZ (x:Int) (y:Int) < 0):=Lib.hid (by rw [cmpZ_neg]; omega);have hcw:=fun wx:World=>fun (h1:Ext w wx)=>int_compareWords (hx.ext h1) (hy.ext h1) nx ny;have HX:=Lib.hid hx.len;have HY:=Lib.hid hy.len;have hmn:m≤n:=by
  refine Classical.byContradiction fun hc => ?_;have:=W.len_lt (B:=18446744073709551616) (by omega) nx.bnd ny.nrm (by rw [HX.out,HY.out]; omega);rw [nx.val,ny.val] at this;omega
 have hyne:ys≠[]:=by intro h; have:=HY.out; rw [h] at this; simp at this; omega
 have hylo:=W.nrm_pos (B:=18446744073709551616) (by omega) ny.nrm hyne;rw [HY.out,ny.val] at hylo;have htop:0 < ys.getD (m - 1) 0:=by
  have h1:=ny.nrm hyne;rw [List.getLast_eq_getElem] at h1;have h2:ys.length - 1=m - 1:=by rw [HY.out]
  have h3:m - 1 < ys.length:=by rw [HY.out]; omega
  have h4:ys.getD (m - 1) 0=ys[ys.length - 1]'(by omega):=by
   simp [List.getD_eq_getElem?_getD,h2,h3]
  omega
 have htb:=W.bnd_at ny.bnd (i:=m - 1) (by rw [HY.out]; omega);obtain ⟨s,hs,hlz,hY1,hY2⟩:=lz_spec htop htb;have HSD:Hid (∀ ds,Num 18446744073709551616 ds (y*2^s)→ds.length=m∧9223372036854775808≤ds.getD (mm+1) 0):=by
  show ∀ ds,Num 18446744073709551616 ds (y*2^s)→ds.length=m∧9223372036854775808≤ds.getD (mm+1) 0;intro ds nd;have h1:m - 1=mm+1:=by omega
  rw [h1] at hY1 hY2;have:=shifted_divisor (m:=mm+1) ny (by rw [HY.out]; omega) hs hY1 hY2 nd;exact ⟨by omega,this.2⟩
 have NX:=Lib.hid nx;have NY:=Lib.hid ny;have HYL:=Lib.hid hylo;have HM2:=Lib.hid hm2;have hm1:2≤m:=by omega
 clear nx ny hm2 hY1 hY2 hyne hylo
 go_enter Tryz.func177,Tryz.ntmps177
 go_wp2_with fail
 refine (hcw _ (Ext.refl w)).mono ?_;rintro e w1 ⟨rfl,hQ⟩;have hc:=HC.out;have hc':(0:Int)≤cmpZ (x:Int) (y:Int):=by omega
 generalize cmpZ (x:Int) (y:Int)=cv at *
 clear HC;obtain ⟨b1,o1,rfl,hc1⟩:=(hy.ext hQ.ext).at (j:=0) (by omega);have g1:=hc1 (m - 1) (by omega);have hm1b:((m:Int) == 1)=false:=by simp; omega
 have hwm:IntKind.i64.wrap ((m:Int) - 1)=((m - 1:Nat):Int):=by rw [show (m:Int) - 1=((m - 1:Nat):Int) by omega]; exact IntWalk.i64_in _ (by omega)
 have hwm2:((m - 1:Nat):Int) < (m:Int):=by omega
 have hlz64:=fun wx:World=>lz64_c htb wx;rw [hlz] at hlz64;generalize ys.getD (m - 1) 0=yt at *
 have HM1:Hid (m - 1+1=m):=by show _=_; omega
 generalize m - 1=m1 at *
 clear hc1 hlz htop hcw
 go_wp2_with fail
 refine (hlz64 _).mono ?_;rintro e w2 ⟨rfl,rfl⟩;clear g1
 go_wp2_with fail
 refine (int_shiftLeft (hy.ext hQ.ext) NY.out hs (by omega)).mono ?_;rintro e wD ⟨bd,md,cd,ds,rfl,hED,hd,nd⟩;obtain ⟨hdl,hdt⟩:=HSD.out ds nd;have hmd:md=m:=by rw [←hd.len,hdl]
 subst hmd;have hEw:=hQ.ext.trans hED;have HDT:=Lib.hid hdt;have ND:=Lib.hid nd;obtain ⟨D,hD⟩:∃ D,y*2^s=D:=⟨_,rfl⟩;rw [hD] at ND;have HD:=Lib.hid hD;clear HSD hdt nd hdl hD hED
 go_upto_region 10 with (at_make; refine wl_mk (n:=n+1) rfl rfl Tryz.underlying88 info_u64 rfl rfl rfl (by omega) (by unfold maxLen; omega) ?_; intro w3 hO3 hE3)
 have hEw3:=hEw.trans hE3
 go_wp2_with fail
 refine (int_shiftLeft (hx.ext hEw3) NX.out hs (by omega)).mono ?_;rintro e w4 ⟨ax,nx,cx,us,rfl,hE4,hu,nu⟩;have hul:us.length≤n+1:=by
  refine W.nrm_len (B:=18446744073709551616) (by omega) nu.nrm ?_;rw [nu.val,Nat.pow_succ];have h1:=W.val_lt NX.out.bnd;rw [NX.out.val,HX.out] at h1;have h2:2^s≤18446744073709551616:=by
   have:=Nat.pow_le_pow_right (n:=2) (by omega) (show s≤64 by omega);exact this
  calc x*2^s < 18446744073709551616^n*2^s:=Nat.mul_lt_mul_of_pos_right h1 (Nat.two_pow_pos s)
   _≤18446744073709551616^n*18446744073709551616:=Nat.mul_le_mul_left _ h2
 have hnx:nx≤n+1:=by rw [←hu.len]; exact hul
 have hA4:=(OwnN.of_zeros hO3).arr.ext hE4;have NU:=Lib.hid nu;have HU:=Lib.hid hu.len;clear nu hul
 go_upto_region 11 with (refine wl_cp (sT:=88) rfl rfl Tryz.underlying88 info_u64 rfl rfl hA4 hu (by omega) (by simp; omega) (u64_one _) ?_; intro w5 hB5 hg5)
 have hO5:OwnN .u64 w5 wD.heap.size 143 wD.heap.size (n+1) (n+1) (us ++ List.replicate (n+1 - nx) 0):=by
  have h1:ArrN .u64 w5 wD.heap.size 143 (us ++ List.replicate (n+1 - us.length) 0):=by
   refine copied_le ?_;rw [HU.out];exact hB5
  rw [HU.out] at h1;have hl:(us ++ List.replicate (n+1 - nx) 0).length=n+1:=by simp [HU.out]; omega
  have:=ArrN.own h1 (Nat.le_refl wD.heap.size) (by rw [hl]; unfold maxLen; omega);rw [hl] at this;exact this
 have hE5:Ext wD w5:=(hE3.trans hE4).grownR hg5 (Nat.le_refl _);have hv5:W.val 18446744073709551616 (us ++ List.replicate (n+1 - nx) 0)=x*2^s:=by rw [val_pad,NU.out.val]
 have hb5:W.bnd 18446744073709551616 (us ++ List.replicate (n+1 - nx) 0):=bnd_pad (by omega) NU.out.bnd _;have hst:x*2^s < 18446744073709551616^(n - md+1)*D:=by
  have h1:=W.val_lt NX.out.bnd;rw [NX.out.val,HX.out] at h1;have h2:=HM1.out;have:=div_begin (s:=s) (m:=m1) h1 HYL.out (by omega);rw [h2,HD.out] at this;exact this
 have h51:=hO5.lt;generalize us ++ List.replicate (n+1 - nx) 0=ls0 at *
 have HV5:=Lib.hid hv5;have HST:=Lib.hid hst;clear hB5 hg5 hA4 hO3 hE3 hE4 hEw3 hu hnx NU HU hv5 hst;have hdm:D < 18446744073709551616^md:=by
  have h1:=W.val_lt ND.out.bnd;rw [ND.out.val,hd.len] at h1;exact h1
 have HDM:=Lib.hid hdm;have hD0:0 < D:=by
  rw [←HD.out];refine Nat.mul_pos ?_ (Nat.two_pow_pos s);have h1:=HYL.out;have:=Nat.pow_pos (n:=m1) (show 0 < 18446744073709551616 by omega);omega
 have HD0:=Lib.hid hD0;clear hdm hD0;have hwq:IntKind.i64.wrap ((n:Int) - md)=(((n - md:Nat):Int)):=by rw [show (n:Int) - md=((n - md:Nat):Int) by omega]; exact IntWalk.i64_in _ (by omega)
 obtain ⟨nq,hnq⟩:∃ nq,n - md=nq:=⟨_,rfl⟩;rw [hnq] at hwq HST;have hnqn:nq≤n:=by omega
 have HNQ:Hid (n=nq+md):=by show _=_; omega
 clear hnq
 go_upto_region 12 with (at_make; refine wl_mk (n:=nq+1) rfl rfl Tryz.underlying88 info_u64 rfl rfl rfl (by omega) (by unfold maxLen; omega) ?_; intro w6 hO6 hE6)
 have hO5':=hO5.ext hE6;have hE6':=hE5.trans hE6;go_wp2;rw [show decide (cv < 0)=false by simp; omega]
 go_loopw [13] (fun iv wr=>∃ (k:Nat) (ls qs:List Nat),iv = .int .i64 ((k:Int) - 1)∧k≤nq+1∧Ext wD wr∧OwnN .u64 wr wD.heap.size 143 wD.heap.size (n+1) (n+1) ls∧OwnN .u64 wr w5.heap.size 143 w5.heap.size (nq+1) (nq+1) qs∧W.bnd 18446744073709551616 ls∧W.bnd 18446744073709551616 qs∧Hid (x*2^s=W.val 18446744073709551616 qs*D+W.val 18446744073709551616 ls)∧Hid (∀ j,j < k→qs.getD j 0=0)∧Hid (W.val 18446744073709551616 ls < 18446744073709551616^k*D)) (fun iv _=>(intOf iv+1).toNat)
 case atStart =>
  refine ⟨nq+1,ls0,List.replicate (nq+1) 0,by go_num,Nat.le_refl _,hE6',hO5',OwnN.of_zeros hO6,hb5,fun z hz=>by rw [(List.mem_replicate.1 hz).2]; omega,Lib.hid ?_,Lib.hid (fun j _=>zeros_at _ j),Lib.hid ?_⟩
  · rw [W.val_zeros,Nat.zero_mul,Nat.zero_add,HV5.out]
  · rw [HV5.out]; exact HST.out
 case round =>
  clear hO6 hE6 hO5' hE6' hO5 hE5 hb5 HV5 HST hwq hwm hwm2 hlz64 hm1b htb;obtain ⟨k,ls,qs,rfl,hk,hE,hz,hq,bz,bq,HV,HJ,HB⟩:=hrel;cases k with
  | zero =>
   have hend:x / y=W.val 18446744073709551616 qs∧W.val 18446744073709551616 ls / 2^s=x % y:=by
    have h1:=HV.out;have h2:=HB.out;rw [Nat.pow_zero,Nat.one_mul] at h2;rw [←HD.out] at h1 h2;refine div_end ?_ h1 h2;have h3:=HYL.out;have:=Nat.pow_pos (n:=m1) (show 0 < 18446744073709551616 by omega);omega
   have HEND:=Lib.hid hend;clear hend
   go_wp2_with fail
   refine (int_trim hq.sl).mono ?_;rintro e w7 ⟨q1,rfl,rfl,hq1,ht1⟩;obtain ⟨t1,t2⟩:=trim_num hq.sl hq1 ht1 bq HEND.out.1.symm;clear ht1 hq1
   go_wp2_with fail
   refine (int_trim hz.sl).mono ?_;rintro e w8 ⟨q2,rfl,rfl,hq2,ht2⟩;obtain ⟨t3,t4⟩:=trim_num (v:=W.val 18446744073709551616 ls) hz.sl hq2 ht2 bz rfl;have hsr:=int_shiftRight t3 t4 hs (by omega);have T1:=Lib.hid t1;have T2:=Lib.hid t2;have HSR:=Lib.hid hsr;clear ht2 t1 t2 t3 t4 hsr
   go_wp2_with fail
   refine HSR.out.mono ?_;rintro e w9 ⟨a9,n9,c9,ys9,rfl,hE9,hy9,ny9⟩;rw [HEND.out.2] at ny9;go_wp2
   go_ret2
   exact ⟨_,q1,_,_,a9,n9,c9,ys9,rfl,(hEw.trans hE).trans hE9,T1.out.ext hE9,T2.out,hy9,ny9,fun _ g h=>Or.inl (by have:=hEw.size; cases h; show w.heap.size≤w5.heap.size; omega)⟩
  | succ i =>
   have hw0:((i+1:Nat):Int) - 1=i:=by omega
   rw [hw0];have hib:i≤nq:=by omega
   have him:i+md≤n:=by have:=HNQ.out; omega
   have hll:i+(md+1)≤ls.length:=by rw [hz.len]; omega
   obtain ⟨q,hqb,hq1,hq2,hVW,hlo,hlT⟩:=div_digit (by omega) bz hll HDM.out HD0.out HB.out;have hWl:((ls.drop i).take (md+1)).length=mm+3:=by simp; have:=HM2.out; omega
   have bW:W.bnd 18446744073709551616 ((ls.drop i).take (md+1)):=W.bnd_take (W.bnd_drop bz _) _;have hsW:=hz.arr.part (o:=i) (n:=md+1) (c:=n+1 - i) (by omega) (by omega) (by unfold maxLen; omega);have hest:=fun (wx:World) (hx1:Qt wr wx)=>int_estimate (w:=wx) (n:=md) (m:=mm) (q:=q) (hsW.ext hx1.ext) ((hd.ext hE).ext hx1.ext) bW ND.out.bnd HM2.out (by omega) HDT.out rfl rfl (val_top3 hWl) (val_top2 (by rw [hd.len]; exact HM2.out)) (take_lt bW (by omega)) (take_lt ND.out.bnd (by rw [hd.len]; have:=HM2.out; omega)) (by rw [ND.out.val]; exact hq1) (by rw [ND.out.val]; exact hq2) hqb
   have hsl1:∀ wx:World,(Instr.sliceAt 88 (.slice (some ⟨wD.heap.size,0,none⟩) (n+1) (n+1)) (some (.int .i64 i)) (some (.int .i64 ((i:Int)+md+1))) none).run Tryz.prog wx = .ok (.slice (some ⟨wD.heap.size,i,none⟩) (md+1) (n+1 - i)) wx:=fun wx=>by
    have:=run_slice_mid (P:=Tryz.prog) (w:=wx) (g:=wD.heap.size) (n:=n+1) (c:=n+1) (lo:=i) (hi:=i+md+1) Tryz.underlying88 info_u64 (by omega) (by omega) (by omega);rw [show i+md+1 - i=md+1 by omega,Int.natCast_add,Int.natCast_add] at this;exact this
   have hsl2:∀ wx:World,(Instr.sliceAt 88 (.slice (some ⟨wD.heap.size,0,none⟩) (n+1) (n+1)) (some (.int .i64 i)) (some (.int .i64 ((i:Int)+md))) none).run Tryz.prog wx = .ok (.slice (some ⟨wD.heap.size,i,none⟩) md (n+1 - i)) wx:=fun wx=>by
    have:=run_slice_mid (P:=Tryz.prog) (w:=wx) (g:=wD.heap.size) (n:=n+1) (c:=n+1) (lo:=i) (hi:=i+md) Tryz.underlying88 info_u64 (by omega) (by omega) (by omega);rw [Nat.add_sub_cancel_left,Int.natCast_add] at this;exact this
   have hwa:IntKind.i64.wrap ((i:Int)+md)=(i:Int)+md:=IntWalk.i64_in _ (by omega);have hwa1:IntKind.i64.wrap ((i:Int)+md+1)=(i:Int)+md+1:=IntWalk.i64_in _ (by omega);have hto:((i:Int)+md).toNat=i+md:=by omega
   have HVW:=Lib.hid hVW;have HLO:=Lib.hid hlo;have HQ1:=Lib.hid hq1;have HQ2:=Lib.hid hq2;have HLT:=Lib.hid hlT;clear hVW hlo hq1 hq2 hlT hsW bW hWl
   go_wp2_with fail
   refine (hest wr (Qt.refl _)).mono ?_;rintro e w7 ⟨g,rfl,hgq,hgq1,hgb,hQ7⟩;have hz7:=hz.ext hQ7.ext;have hq7:=hq.ext hQ7.ext;have hE7:=hE.trans hQ7.ext;have hsp:=int_subtractProduct (w:=w7) (o:=i) (c':=n+1 - i) (wd:=g) hz7 (hd.ext hE7) (Or.inr (hd.fresh (Nat.le_refl _) (by omega))) (by omega) bz ND.out.bnd hgb
   go_wp2_with fail
   refine hsp.mono ?_;rintro e w8 ⟨cy,zs,rfl,hcy,hg8,hz8,bz8,hv8,hj8⟩;clear hest hsp hsl1 hsl2;have hq8:=hq7.kept hg8 (by simp; omega);have hE8:=hE7.grownR hg8 (Nat.le_refl _);have gt1:=hz8.cell (i:=i+md) (by omega);have gt2:=hz8.frozen (i+md);have htb:zs.getD (i+md) 0 < 18446744073709551616:=W.bnd_at bz8 (by rw [hz8.len]; omega);rw [ND.out.val] at hv8;have HV8:=Lib.hid hv8;have HJ8:=Lib.hid hj8;have HTOP:Hid (∀ v,W.val 18446744073709551616 (zs.set (i+md) v)+18446744073709551616^(i+md)*zs.getD (i+md) 0=W.val 18446744073709551616 zs+18446744073709551616^(i+md)*v):=by
    show ∀ v,_;intro v;exact W.val_set (by rw [hz8.len]; omega)
   clear hv8 hj8 hz7 hq7 hg8 hz hq;have HZ0:Hid (∀ j,i+md+1≤j→ls.getD j 0=0):=by
    show ∀ j,i+md+1≤j→ls.getD j 0=0;exact fun j hj=>zero_above (by omega) HLT.out (by omega)
   by_cases hcy2:cy≤zs.getD (i+md) 0
   · obtain ⟨v,hv⟩:∃ v,v+cy=zs.getD (i+md) 0:=⟨zs.getD (i+md) 0 - cy,by omega⟩;have hR:=top_ok (HTOP.out v) HV8.out hv;obtain ⟨e1,e2⟩:=div_right HVW.out HLO.out hR HQ2.out hgq;subst e1;have HQS:=Lib.hid (quo_set (qs:=qs) (i:=i) (q:=g) (by rw [hq8.len]; omega) (HJ.out i (by omega)) rfl HV.out hR);have HQL:=Lib.hid (quo_low (q:=g) HJ.out);have HE2:=Lib.hid e2;have hw1:IntKind.u64.wrap (((zs.getD (i+md) 0:Nat):Int) - cy)=(v:Int):=wrap_nat (by omega) (by omega);have hle:(cy:Int)≤((zs.getD (i+md) 0:Nat):Int):=by omega
     have gq1:=hq8.cell (i:=i) (by omega);have gq2:=hq8.frozen i;rw [HJ.out i (by omega)] at gq1;have hz9:=hz8.set (i+md) v;have hq9:=(hq8.kept (grown_setCell w8 wD.heap.size (i+md) (.int .u64 (v:Int))) (by simp; omega)).set i g;have hz10:=hz9.kept (grown_setCell (w8.setCell ⟨wD.heap.size,i+md,none⟩ (.int .u64 (v:Int))) w5.heap.size i (.int .u64 (g:Int))) (by simp; omega);have hE9:=(hE8.setCell (p:=⟨wD.heap.size,i+md,none⟩) (Nat.le_refl _) (.int .u64 (v:Int))).setCell (p:=⟨w5.heap.size,i,none⟩) (by show wD.heap.size≤w5.heap.size; omega) (.int .u64 (g:Int))
     have bz9:=W.bnd_set (i:=i+md) bz8 (show v < 18446744073709551616 by omega);have bq9:=W.bnd_set (i:=i) bq hgb;clear hR e2 hv hcy2;generalize zs.getD (i+md) 0=t at *
     go_wp2;go_roundw
     case rel=>exact ⟨i,zs.set (i+md) v,qs.set i g,by go_num,by omega,hE9,hz10,hq9,bz9,bq9,HQS,HQL,HE2⟩
     case measure=>simp [intOf]
   · obtain ⟨v,hv⟩:∃ v,v+cy=zs.getD (i+md) 0+18446744073709551616:=⟨zs.getD (i+md) 0+18446744073709551616 - cy,by omega⟩;have hvb:v < 18446744073709551616:=by omega
     have hR:=top_under (B:=18446744073709551616) (HTOP.out v) HV8.out hv;have hab:=set_above (v:=v) HJ8.out HZ0.out;have bz9:=W.bnd_set (i:=i+md) bz8 hvb;have hz9:=hz8.set (i+md) v;have hlt9:W.val 18446744073709551616 (zs.set (i+md) v) < 18446744073709551616^(i+md+1):=lt_above (by rw [hz9.len]; omega) bz9 hab;rw [←Nat.pow_succ] at hR;have hgq2:q < g:=div_more HVW.out hR hlt9 HQ1.out;obtain ⟨g2,rfl⟩:∃ g2,g=g2+1:=⟨g - 1,by omega⟩;have hg2:g2=q:=by omega
     subst hg2;have HR:=Lib.hid hR;have HLT9:=Lib.hid hlt9;have HAB:=Lib.hid hab;have hw1:IntKind.u64.wrap (((zs.getD (i+md) 0:Nat):Int) - cy)=(v:Int):=by
      rw [IntKind.wrap_u64];omega
     have hlt:((zs.getD (i+md) 0:Nat):Int) < (cy:Int):=by omega
     have hw2:IntKind.u64.wrap ((g2:Int)+1 - 1)=(g2:Int):=wrap_nat (by omega) (by omega);have hw2':IntKind.u64.wrap (g2:Int)=(g2:Int):=wrap_nat (by omega) (by omega);have hE9:=hE8.setCell (p:=⟨wD.heap.size,i+md,none⟩) (Nat.le_refl _) (.int .u64 (v:Int));have hq9:=hq8.kept (grown_setCell w8 wD.heap.size (i+md) (.int .u64 (v:Int))) (by simp; omega);clear hR hlt9 hab hv hcy2 HV8 HTOP hz8 hq8 hE8;generalize zs.getD (i+md) 0=t at *
     obtain ⟨zs9,hzs9⟩:∃ zs9,zs.set (i+md) v=zs9:=⟨_,rfl⟩;rw [hzs9] at HR HLT9 HAB bz9 hz9;clear hzs9;go_wp2;generalize w8.setCell ⟨wD.heap.size,i+md,none⟩ (.int .u64 (v:Int))=w9 at *
     go_loopw [17,115] (fun cv iv wx=>∃ (k cc:Nat) (zl:List Nat),cv = .int .u64 cc∧iv = .int .i64 k∧k≤md∧cc≤1∧Ext wD wx∧OwnN .u64 wx wD.heap.size 143 wD.heap.size (n+1) (n+1) zl∧OwnN .u64 wx w5.heap.size 143 w5.heap.size (nq+1) (nq+1) qs∧W.bnd 18446744073709551616 zl∧Hid (W.val 18446744073709551616 zl+cc*18446744073709551616^(i+k)=W.val 18446744073709551616 zs9+1*W.val 18446744073709551616 (ds.take k)*18446744073709551616^i)∧Hid (∀ j,i+md≤j→zl.getD j 0=zs9.getD j 0)) (fun _ iv _=>md - (intOf iv).toNat)
     case atStart=>exact ⟨0,0,zs9,rfl,rfl,Nat.zero_le _,by omega,hE9,hz9,hq9,bz9,Lib.hid (by simp [W.val]),Lib.hid (fun _ _=>rfl)⟩
     case round =>
      clear hz9 hq9 bz9 hE9 hE7 hE;obtain ⟨k,cc,zl,rfl,rfl,hkm,hcc,hEx,hzl,hqx,bzl,HL,HLJ⟩:=hrel;by_cases hkl:k < md
      · obtain ⟨b7,o7,rfl,hc7⟩:=(hd.ext hEx).at (j:=k) hkl;have g1:=hc7 k hkl;have g2c:=hzl.cell (i:=i+k) (by omega);have g3:=hzl.frozen (i+k);have hxk:=W.bnd_at bzl (i:=i+k) (by rw [hzl.len]; omega);have hyk:=W.bnd_at ND.out.bnd (i:=k) (by rw [hd.len]; exact hkl);have HS:=Lib.hid (mac_stepO (B:=18446744073709551616) (l:=zl) (xs:=ds) (k:=k) (o:=i) (w:=1) (s:=(zl.getD (i+k) 0+ds.getD k 0+cc) % 18446744073709551616) (c':=(zl.getD (i+k) 0+ds.getD k 0+cc) / 18446744073709551616) (by rw [hzl.len]; omega) (by rw [hd.len]; exact hkl) HL.out (by rw [Nat.mul_one]; exact Nat.mod_add_div _ _))
        have hadd:=add64_run (zl.getD (i+k) 0) (ds.getD k 0) cc hcc;have HJ2:Hid (∀ s j,i+md≤j→(zl.set (i+k) s).getD j 0=zs9.getD j 0):=by
         show ∀ s j,i+md≤j→(zl.set (i+k) s).getD j 0=zs9.getD j 0;intro s j hj;have h1:=HLJ.out j hj;have h2:¬ i+k=j:=by omega
         rw [←h1];simp [List.getD_eq_getElem?_getD,h2]
        have hik:((i:Int)+k).toNat=i+k:=by omega
        have hwik:IntKind.i64.wrap ((i:Int)+k)=(i:Int)+k:=IntWalk.i64_in _ (by omega);generalize zl.getD (i+k) 0=u at *
        generalize ds.getD k 0=dv at *
        have hs1:(u+dv+cc) % 18446744073709551616 < 18446744073709551616:=Nat.mod_lt _ (by omega);have hc1:(u+dv+cc) / 18446744073709551616≤1:=by omega
        generalize (u+dv+cc) % 18446744073709551616=s1 at *
        generalize (u+dv+cc) / 18446744073709551616=c1 at *
        have hqy:=hqx.kept (grown_setCell wr wD.heap.size (i+k) (.int .u64 (s1:Int))) (by simp; omega);clear hc7;go_wp2;go_roundw
        case rel=>exact ⟨k+1,c1,zl.set (i+k) s1,rfl,by go_num,by omega,hc1,hEx.setCell (Nat.le_refl _) _,hzl.set (i+k) s1,hqy,W.bnd_set bzl hs1,HS,Lib.hid (HJ2.out s1)⟩
        case measure=>simp [intOf]; omega
      · have ek:k=md:=by omega
        have HL2:Hid (W.val 18446744073709551616 zl+cc*18446744073709551616^(i+md)=W.val 18446744073709551616 zs9+1*D*18446744073709551616^i):=by
         show _=_;have h1:=HL.out;rw [ek,List.take_of_length_le (by rw [hd.len]; exact Nat.le_refl _),ND.out.val] at h1;exact h1
        have gt1:=hzl.cell (i:=i+md) (by omega);have gt2:=hzl.frozen (i+md);have hub:=W.bnd_at bzl (i:=i+md) (by rw [hzl.len]; omega);have HVS:=Lib.hid (fun z=>W.val_set (B:=18446744073709551616) (xs:=zl) (i:=i+md) (v:=z) (by rw [hzl.len]; omega));have hAB2:=fun z=>set_above (v:=z) HLJ.out HAB.out;generalize zl.getD (i+md) 0=u at *
        obtain ⟨z,hzz⟩:∃ z,(u+cc) % 18446744073709551616=z:=⟨_,rfl⟩;have hzb:z < 18446744073709551616:=by rw [←hzz]; exact Nat.mod_lt _ (by omega)
        have h3:z+18446744073709551616*((u+cc) / 18446744073709551616)=u+cc:=by rw [←hzz]; exact Nat.mod_add_div _ _
        have hT:=top_back (B:=18446744073709551616) (HVS.out z) HL2.out h3;rw [←Nat.pow_succ] at hT;have bzl2:=W.bnd_set (i:=i+md) bzl hzb;have hzl2:=hzl.set (i+md) z;have hlt2:W.val 18446744073709551616 (zl.set (i+md) z) < 18446744073709551616^(i+md+1):=lt_above (by rw [hzl2.len]; omega) bzl2 (hAB2 z);have hDP:D*18446744073709551616^i < 18446744073709551616^(i+md+1):=by
         have h4:D*18446744073709551616^i < 18446744073709551616^md*18446744073709551616^i:=Nat.mul_lt_mul_of_pos_right HDM.out (Nat.pow_pos (by omega));rw [←Nat.pow_add] at h4;exact Nat.lt_of_lt_of_le h4 (Nat.pow_le_pow_right (by omega) (by omega))
        obtain ⟨_,f2,f3⟩:=div_back HVW.out HLO.out HR.out HLT9.out HQ1.out HQ2.out (Nat.le_refl _) hT hlt2 hDP;have HQS:=Lib.hid (quo_set (qs:=qs) (i:=i) (q:=g2) (by rw [hqx.len]; omega) (HJ.out i (by omega)) rfl HV.out f2);have HQL:=Lib.hid (quo_low (q:=g2) HJ.out);have HF3:=Lib.hid f3;have hw3:IntKind.u64.wrap ((u:Int)+(cc:Int))=(z:Int):=by
         have:=wrap_mod (x:=u+cc) (M:=z) hzz;rw [Int.natCast_add] at this;exact this
        have gq1:=hqx.cell (i:=i) (by omega);have gq2:=hqx.frozen i;rw [HJ.out i (by omega)] at gq1;have hq9:=(hqx.kept (grown_setCell wr wD.heap.size (i+md) (.int .u64 (z:Int))) (by simp; omega)).set i g2;have hz10:=hzl2.kept (grown_setCell (wr.setCell ⟨wD.heap.size,i+md,none⟩ (.int .u64 (z:Int))) w5.heap.size i (.int .u64 (g2:Int))) (by simp; omega);have hE9:=(hEx.setCell (p:=⟨wD.heap.size,i+md,none⟩) (Nat.le_refl _) (.int .u64 (z:Int))).setCell (p:=⟨w5.heap.size,i,none⟩) (by show wD.heap.size≤w5.heap.size; omega) (.int .u64 (g2:Int));have bq9:=W.bnd_set (i:=i) bq hqb
        clear hT hlt2 hDP f2 f3 h3 hzz HVS hAB2 HL HL2;go_wp2;go_roundw
        case rel=>exact ⟨i,zl.set (i+md) z,qs.set i g2,by go_num,by omega,hE9,hz10,hq9,bzl2,bq9,HQS,HQL,HF3⟩
        case measure=>simp [intOf]
end Go.Proofs.YtlpgonpfjbhmfaaGreatDoor
namespace Go.Proofs.YtlpgonpfjbhmfaaGreatDoor.W
theorem gcd_two_right {x y k:Nat} (hx:x % 2=1):Nat.gcd x (2^k*y)=Nat.gcd x y:=by
 have h2:Nat.Coprime x 2:=by
  rw [Nat.coprime_comm];rw [Nat.coprime_iff_gcd_eq_one];rw [Nat.gcd_rec,hx];rfl
 have h:Nat.Coprime x (2^k):=Nat.Coprime.pow_right k h2;exact Nat.Coprime.gcd_mul_left_cancel_right y h.symm
theorem gcd_two_left {x y k:Nat} (hy:y % 2=1):Nat.gcd (2^k*x) y=Nat.gcd x y:=by
 rw [Nat.gcd_comm,gcd_two_right hy,Nat.gcd_comm]
theorem or_dvd {x y k:Nat}:2^k∣(x ||| y)↔2^k∣x∧2^k∣y:=by
 simp only [Nat.dvd_iff_mod_eq_zero];rw [Nat.or_mod_two_pow];exact Nat.or_eq_zero_iff
theorem gcd_split {X Y x0 a s m:Nat} (hX:X=2^a*x0) (hx:x0 % 2=1) (hor:X ||| Y=2^s*(2*m+1)):Nat.gcd X Y=2^s*Nat.gcd x0 Y:=by
 have h1:=(or_dvd (x:=X) (y:=Y) (k:=s)).1 ⟨2*m+1,hor⟩;obtain ⟨⟨X',hX'⟩,⟨Y',hY'⟩⟩:=h1;have h2:¬ 2^(s+1)∣(X ||| Y):=by
  rintro ⟨q,hq⟩;rw [hor,Nat.pow_succ,Nat.mul_assoc] at hq;have:=Nat.eq_of_mul_eq_mul_left (Nat.two_pow_pos s) hq;omega
 have hsa:s≤a:=by
  refine Classical.byContradiction fun hc => ?_;have h3:2^(a+1)∣X:=Nat.dvd_trans (Nat.pow_dvd_pow 2 (by omega:a+1≤s)) ⟨X',hX'⟩;obtain ⟨q,hq⟩:=h3;rw [hX,Nat.pow_succ,Nat.mul_assoc] at hq;have:=Nat.eq_of_mul_eq_mul_left (Nat.two_pow_pos a) hq;omega
 have eX:X'=2^(a - s)*x0:=by
  have:2^s*X'=2^s*(2^(a - s)*x0):=by
   rw [←hX',hX,←Nat.mul_assoc,←Nat.pow_add];congr 2;omega
  exact Nat.eq_of_mul_eq_mul_left (Nat.two_pow_pos s) this
 rw [hX',hY',Nat.gcd_mul_left,gcd_two_right hx];congr 1;by_cases has:a=s
 · subst has;rw [eX,Nat.sub_self,Nat.pow_zero,Nat.one_mul]
 · have hY2:Y' % 2=1:=by
    refine Classical.byContradiction fun hc=>h2 (or_dvd.2 ⟨?_, ?_⟩)
    · rw [hX];exact Nat.dvd_trans (Nat.pow_dvd_pow 2 (by omega)) (Nat.dvd_mul_right _ _)
    · rw [hY',Nat.pow_succ];exact Nat.mul_dvd_mul_left _ (by omega)
   rw [eX];exact gcd_two_left hY2
theorem gcd_swap {x y:Nat} (h:x≤y):Nat.gcd x (y - x)=Nat.gcd x y:=by
 rw [Nat.gcd_sub_self_right h]
structure Steps (a b u0 u1 v0 v1:Nat) (odd:Bool) (p q:Nat):Prop where
 ep:if odd=true then p+v0*b=u0*a else p+u0*a=v0*b
 eq:if odd=true then q+u1*a=v1*b else q+v1*b=u1*a
 gcd:Nat.gcd p q=Nat.gcd a b
 lt:q < p
 le:p≤b
theorem gcd_of_comb {a b p q v1 v2 u1 u2:Nat} (h1:v2*p+v1*q=a) (h2:u2*p+u1*q=b) (s:Int) (hp:(p:Int)=s*(u1*a - v1*b)) (hq:(q:Int) = -(s*(u2*a - v2*b))):Nat.gcd p q=Nat.gcd a b:=by
 apply Nat.dvd_antisymm
 · apply Nat.dvd_gcd
   · rw [←h1];exact Nat.dvd_add (Nat.dvd_trans (Nat.gcd_dvd_left p q) (Nat.dvd_mul_left _ _)) (Nat.dvd_trans (Nat.gcd_dvd_right p q) (Nat.dvd_mul_left _ _))
   · rw [←h2];exact Nat.dvd_add (Nat.dvd_trans (Nat.gcd_dvd_left p q) (Nat.dvd_mul_left _ _)) (Nat.dvd_trans (Nat.gcd_dvd_right p q) (Nat.dvd_mul_left _ _))
 · have da:((Nat.gcd a b:Nat):Int)∣(a:Int):=Int.natCast_dvd_natCast.2 (Nat.gcd_dvd_left a b);have db:((Nat.gcd a b:Nat):Int)∣(b:Int):=Int.natCast_dvd_natCast.2 (Nat.gcd_dvd_right a b);apply Nat.dvd_gcd
   · apply Int.natCast_dvd_natCast.1;rw [hp];exact Int.dvd_trans (Int.dvd_sub (Int.dvd_trans da (Int.dvd_mul_left _ _)) (Int.dvd_trans db (Int.dvd_mul_left _ _))) (Int.dvd_mul_left _ _)
   · apply Int.natCast_dvd_natCast.1;rw [hq];exact Int.dvd_neg.2 (Int.dvd_trans (Int.dvd_sub (Int.dvd_trans da (Int.dvd_mul_left _ _)) (Int.dvd_trans db (Int.dvd_mul_left _ _))) (Int.dvd_mul_left _ _))
theorem Leh.good {a b u1 u2 v1 v2:Nat} {A Bb P α β f g s:Int} (h:Leh a b A Bb P α β f g u1 u2 v1 v2 s) (hc1:(v2:Int)≤g) (hc2:(v1:Int)+v2≤f - g) (hu:(u1:Int)≤v1∨((u1:Int)=1∧(v1:Int)=0∧(u2:Int)=0∧s=1)) (hdet:(u1:Int)*v2 - u2*v1=s) (hu2:1≤u2) :
 ∃ p q,Steps a b u1 u2 v1 v2 (decide (s=1)) p q:=by
 have h1:=h.sec hc1;have h2:=h.gap hc2 hu;have sg:=h.sg;obtain ⟨q,hq⟩:=Int.eq_ofNat_of_zero_le h1;obtain ⟨p,hp⟩:=Int.eq_ofNat_of_zero_le (Int.le_trans h1 (Int.le_of_lt h2));have hss:s*s=1:=by rcases sg with rfl | rfl <;> rfl
 have e1:((v2*p+v1*q:Nat):Int)=(a:Int):=by
  rw [Int.natCast_add,Int.natCast_mul,Int.natCast_mul,←hp,←hq];have:(v2:Int)*(s*(u1*a - v1*b))+v1 * -(s*(u2*a - v2*b))=s*(u1*v2 - u2*v1)*a:=by grind
  rw [this,hdet,hss,Int.one_mul]
 have e2:((u2*p+u1*q:Nat):Int)=(b:Int):=by
  rw [Int.natCast_add,Int.natCast_mul,Int.natCast_mul,←hp,←hq];have:(u2:Int)*(s*(u1*a - v1*b))+u1 * -(s*(u2*a - v2*b))=s*(u1*v2 - u2*v1)*b:=by grind
  rw [this,hdet,hss,Int.one_mul]
 have e1':v2*p+v1*q=a:=by omega
 have e2':u2*p+u1*q=b:=by omega
 refine ⟨p,q, ?_, ?_,gcd_of_comb e1' e2' s hp.symm hq.symm,by omega, ?_⟩
 · rcases sg with rfl | rfl
   · simp only [decide_true,if_true];have:((p+v1*b:Nat):Int)=((u1*a:Nat):Int):=by
      rw [Int.natCast_add,Int.natCast_mul,Int.natCast_mul,←hp]; omega
     omega
   · rw [if_neg (by simp)];have:((p+u1*a:Nat):Int)=((v1*b:Nat):Int):=by
      rw [Int.natCast_add,Int.natCast_mul,Int.natCast_mul,←hp]; omega
     omega
 · rcases sg with rfl | rfl
   · simp only [decide_true,if_true];have:((q+u2*a:Nat):Int)=((v2*b:Nat):Int):=by
      rw [Int.natCast_add,Int.natCast_mul,Int.natCast_mul,←hq]; omega
     omega
   · rw [if_neg (by simp)];have:((q+v2*b:Nat):Int)=((u2*a:Nat):Int):=by
      rw [Int.natCast_add,Int.natCast_mul,Int.natCast_mul,←hq]; omega
     omega
 · have h3:1*p≤u2*p:=Nat.mul_le_mul_right _ hu2;omega
theorem head_of {B M a t1 t0 lo s r:Nat} (hB:B=2^s*r) (h0:0 < r) (ha:a=(t1*B+t0)*M+lo) (hlo:lo < M) :
 a / (M*r)=t1*2^s+t0 / r:=by
 have h1:a / M=t1*B+t0:=by
  rw [ha,Nat.mul_comm,Nat.mul_add_div (by omega),Nat.div_eq_of_lt hlo,Nat.add_zero]
 rw [←Nat.div_div_eq_div_mul,h1,hB,show t1*(2^s*r)=r*(t1*2^s) by grind,Nat.mul_add_div h0]
theorem sim_start {a b P:Nat} (hP:0 < P) (hab:b≤a):Leh (a:Int) (b:Int) ((a / P:Nat):Int) ((b / P:Nat):Int) (P:Int) ((a % P:Nat):Int) ((b % P:Nat):Int) ((a / P:Nat):Int) ((b / P:Nat):Int) 1 0 0 1 1:=by
 have h1:=Nat.div_add_mod a P;have h2:=Nat.div_add_mod b P;have h3:=Nat.mod_lt a hP;have h4:=Nat.mod_lt b hP;have h5:b / P≤a / P:=Nat.div_le_div_right hab;refine Leh.start ?_ ?_ (Int.natCast_nonneg _) (Int.ofNat_lt.2 h3) (Int.natCast_nonneg _) (Int.ofNat_lt.2 h4) (Int.natCast_nonneg _) (Int.ofNat_le.2 h5)
 · rw [Nat.mul_comm] at h1;rw [←Int.natCast_mul,←Int.natCast_add];omega
 · rw [Nat.mul_comm] at h2;rw [←Int.natCast_mul,←Int.natCast_add];omega
structure Sim (a b A Bb P α β f g u0 u1 u2 v0 v1 v2:Nat) (odd:Bool):Prop where
 leh:Leh (a:Int) b A Bb P α β f g u1 u2 v1 v2 (if odd=true then -1 else 1)
 hu:(u1≤v1)∨(u1=1∧v1=0∧u2=0∧odd=false)
 det:(u1:Int)*v2 - u2*v1=(if odd=true then -1 else 1)
 good:v0=0∨∃ p q,Steps a b u0 u1 v0 v1 odd p q
 u20:u2=0→v1=0
theorem Sim.start {a b P:Nat} (hP:0 < P) (hab:b≤a):Sim a b (a / P) (b / P) P (a % P) (b % P) (a / P) (b / P) 0 1 0 0 0 1 false :=
 ⟨sim_start hP hab,Or.inr ⟨rfl,rfl,rfl,rfl⟩,by simp,Or.inl rfl,fun _=>rfl⟩
theorem Sim.bound {a b A Bb P α β f g u0 u1 u2 v0 v1 v2:Nat} {odd:Bool} (h:Sim a b A Bb P α β f g u0 u1 u2 v0 v1 v2 odd) (hg:1≤g):v1+v2≤A∧u1≤A+1∧u2≤A:=by
 have e:=h.leh.sv;have vv:=h.leh.vv;have uv:=h.leh.uv;have gf:=h.leh.gf;have e':v2*f+v1*g=A:=by
  have:((v2*f+v1*g:Nat):Int)=(A:Int):=by rw [Int.natCast_add,Int.natCast_mul,Int.natCast_mul]; exact e
  omega
 have h1:v2*1≤v2*f:=Nat.mul_le_mul_left _ (by omega);have h2:v1*1≤v1*g:=Nat.mul_le_mul_left _ hg;rcases h.hu with hu | ⟨rfl,rfl,rfl,_⟩ <;> omega
theorem Sim.step {a b A Bb P α β f g u0 u1 u2 v0 v1 v2:Nat} {odd:Bool} (h:Sim a b A Bb P α β f g u0 u1 u2 v0 v1 v2 odd) (hg:v2≤g) (hc:v1+v2≤f - g) :
 Sim a b A Bb P α β g (f % g) u1 u2 (u1+f / g*u2) v1 v2 (v1+f / g*v2) (!odd)∧v1+f / g*v2≤A∧u1+f / g*u2≤A∧f % g < g:=by
 have v2p:=h.leh.v2p;have gf:=h.leh.gf;have hg1:1≤g:=by omega
 obtain ⟨b1,b2,b3⟩:=h.bound hg1;have hq:(f:Int)=((f / g:Nat):Int)*(g:Int)+((f % g:Nat):Int):=by
  have:=Nat.div_add_mod f g;rw [Nat.mul_comm] at this;rw [←Int.natCast_mul,←Int.natCast_add];omega
 have hr:=Nat.mod_lt f (show 0 < g by omega);have hq1:1≤f / g:=(Nat.le_div_iff_mul_le (by omega)).2 (by omega);have hu':(u1:Int)≤v1∨((u1:Int)=1∧(v1:Int)=0∧(u2:Int)=0∧(if odd=true then -1 else 1:Int)=1):=by
  rcases h.hu with hu | ⟨rfl,rfl,rfl,rfl⟩
  · left; omega
  · right; simp
 have hstep:=h.leh.step hq (by omega) (by omega) (by omega) hu';have hneg : -(if odd=true then -1 else 1:Int)=(if (!odd)=true then -1 else 1:Int):=by cases odd <;> rfl
 rw [hneg] at hstep;have hs2:Leh (a:Int) b A Bb P α β g ((f % g:Nat):Int) u2 ((u1+f / g*u2:Nat):Int) v2 ((v1+f / g*v2:Nat):Int) (if (!odd)=true then -1 else 1):=by
  rw [Int.natCast_add,Int.natCast_add,Int.natCast_mul,Int.natCast_mul];exact hstep
 have e:=hs2.sv;have uv:=hs2.uv;have e':(v1+f / g*v2)*g+v2*(f % g)=A:=by
  have:(((v1+f / g*v2)*g+v2*(f % g):Nat):Int)=(A:Int):=by rw [Int.natCast_add,Int.natCast_mul,Int.natCast_mul]; exact e
  omega
 have k1:(v1+f / g*v2)*1≤(v1+f / g*v2)*g:=Nat.mul_le_mul_left _ hg1;refine ⟨⟨hs2, ?_, ?_, ?_, ?_⟩,by omega,by omega,hr⟩
 · left;have:=h.leh.uv;omega
 · have hd:=h.det;have:(u2:Int)*((v1+f / g*v2:Nat):Int) - ((u1+f / g*u2:Nat):Int)*v2 = -((u1:Int)*v2 - u2*v1):=by
    rw [Int.natCast_add,Int.natCast_add,Int.natCast_mul,Int.natCast_mul]
    grind
   rw [this,hd,hneg]
 · by_cases h0:v1=0
   · exact Or.inl h0
   · right;have hu2:1≤u2:=by
      rcases Nat.eq_zero_or_pos u2 with h2 | h2
      · exact absurd (h.u20 h2) h0
      · exact h2
     obtain ⟨p,q,hpq⟩:=h.leh.good (by omega) (by omega) hu' h.det hu2;refine ⟨p,q, ?_⟩;have:decide ((if odd=true then -1 else 1:Int)=1) = !odd:=by cases odd <;> rfl
     rw [this] at hpq;exact hpq
 · intro h0;have hu1:u1=0:=by omega
   have hu2:f / g*u2=0:=by omega
   have hu20:u2=0:=by
    rcases Nat.mul_eq_zero.1 hu2 with h3 | h3
    · omega
    · exact h3
   subst hu1; subst hu20;have:=h.det;cases odd <;> simp at this
theorem comb_step {D U V M c1 c2 d x y c1' c2' B:Nat} (h:D+U+c1*M=V+c2*M) (e:d+x+c2+B*c1'=y+c1+B*c2') :
 D+M*d+(U+M*x)+c1'*(M*B)=V+M*y+c2'*(M*B):=by
 have e2:M*(d+x+c2+B*c1')=M*(y+c1+B*c2'):=by rw [e]
 grind
theorem comb_end {D p X Y T c1 c2:Nat} (h:D+X+c1*T=Y+c2*T) (hp:p+X=Y) (hD:D < T) (hpT:p < T):D=p:=by
 have h1:D+c1*T=p+c2*T:=by omega
 have h2:=congrArg (· % T) h1;simp only [Nat.add_mul_mod_self_right] at h2
 rwa [Nat.mod_eq_of_lt hD,Nat.mod_eq_of_lt hpT] at h2
end Go.Proofs.YtlpgonpfjbhmfaaGreatDoor.W
namespace Go.Proofs.YtlpgonpfjbhmfaaGreatDoor
open Go.Shelf
def tz64L_ren:Go.Shelf.Ren:=⟨fun | 29=>180 | n=>n,fun | 22=>143 | 3=>3 | 4=>4 | 25=>147 | 54=>242 | 0=>0 | 5=>5 | n=>n,fun | 1=>0 | n=>n⟩
theorem tz64L:Go.Proofs.Lays7.n29 Tryz.prog tz64L_ren:={
 mixed:=by kernel_rfl
 f29:=Tryz.func180.trans (congrArg some (by kernel_rfl))
 t0:=Tryz.underlying0
 a0:=Tryz.isAgg0
 z0:=Tryz.sizeOf0
 v0:=Tryz.zeroValue0
 i0:=by kernel_rfl
 t3:=Tryz.underlying3
 a3:=Tryz.isAgg3
 z3:=Tryz.sizeOf3
 v3:=Tryz.zeroValue3
 i3:=by kernel_rfl
 t4:=Tryz.underlying4
 a4:=Tryz.isAgg4
 z4:=Tryz.sizeOf4
 v4:=Tryz.zeroValue4
 i4:=by kernel_rfl
 t5:=Tryz.underlying5
 a5:=Tryz.isAgg5
 z5:=Tryz.sizeOf5
 v5:=Tryz.zeroValue5
 i5:=by kernel_rfl
 t22:=Tryz.underlying143
 a22:=Tryz.isAgg143
 z22:=Tryz.sizeOf143
 v22:=Tryz.zeroValue143
 i22:=by kernel_rfl
 t25:=Tryz.underlying147
 a25:=Tryz.isAgg147
 z25:=Tryz.sizeOf147
 v25:=Tryz.zeroValue147
 i25:=by kernel_rfl
 t54:=Tryz.underlying242
 a54:=Tryz.isAgg242
 z54:=Tryz.sizeOf242
 g1:=by kernel_rfl }
def fmtIntL_ren:Go.Shelf.Ren:=⟨fun | 173=>112 | 246=>149 | 283=>185 | 284=>186 | 285=>187 | 286=>188 | 129=>165 | 317=>216 | 318=>217 | 319=>218 | 320=>219 | 337=>225 | 338=>180 | n=>n,fun | 2=>2 | 3=>3 | 9=>9 | 4=>4 | 171=>220 | 0=>0 | 53=>143 | 37=>154 | 5=>5 | 173=>222 | 212=>248 | 51=>208 | 20=>20 | 213=>249 | 46=>147 | 232=>257 | 233=>242 | n=>n,fun | 17=>3 | 18=>4 | 19=>0 | n=>n⟩
theorem fmtIntL:Go.Proofs.LaysM.n173 Tryz.prog fmtIntL_ren:={
 mixed:=by kernel_rfl
 f129:=Tryz.func165.trans (congrArg some (by kernel_rfl))
 f173:=Tryz.func112.trans (congrArg some (by kernel_rfl))
 f246:=Tryz.func149.trans (congrArg some (by kernel_rfl))
 f283:=Tryz.func185.trans (congrArg some (by kernel_rfl))
 f284:=Tryz.func186.trans (congrArg some (by kernel_rfl))
 f285:=Tryz.func187.trans (congrArg some (by kernel_rfl))
 f286:=Tryz.func188.trans (congrArg some (by kernel_rfl))
 f317:=Tryz.func216.trans (congrArg some (by kernel_rfl))
 f318:=Tryz.func217.trans (congrArg some (by kernel_rfl))
 f319:=Tryz.func218.trans (congrArg some (by kernel_rfl))
 f320:=Tryz.func219.trans (congrArg some (by kernel_rfl))
 f337:=Tryz.func225.trans (congrArg some (by kernel_rfl))
 f338:=Tryz.func180.trans (congrArg some (by kernel_rfl))
 t0:=Tryz.underlying0
 a0:=Tryz.isAgg0
 z0:=Tryz.sizeOf0
 v0:=Tryz.zeroValue0
 t2:=Tryz.underlying2
 a2:=Tryz.isAgg2
 z2:=Tryz.sizeOf2
 v2:=Tryz.zeroValue2
 t3:=Tryz.underlying3
 a3:=Tryz.isAgg3
 z3:=Tryz.sizeOf3
 v3:=Tryz.zeroValue3
 t4:=Tryz.underlying4
 a4:=Tryz.isAgg4
 z4:=Tryz.sizeOf4
 v4:=Tryz.zeroValue4
 t5:=Tryz.underlying5
 a5:=Tryz.isAgg5
 z5:=Tryz.sizeOf5
 v5:=Tryz.zeroValue5
 t9:=Tryz.underlying9
 a9:=Tryz.isAgg9
 z9:=Tryz.sizeOf9
 v9:=Tryz.zeroValue9
 t20:=Tryz.underlying20
 a20:=Tryz.isAgg20
 z20:=Tryz.sizeOf20
 v20:=Tryz.zeroValue20
 t37:=Tryz.underlying154
 a37:=Tryz.isAgg154
 z37:=Tryz.sizeOf154
 v37:=Tryz.zeroValue154
 t46:=Tryz.underlying147
 a46:=Tryz.isAgg147
 z46:=Tryz.sizeOf147
 v46:=Tryz.zeroValue147
 t51:=Tryz.underlying208
 a51:=Tryz.isAgg208
 z51:=Tryz.sizeOf208
 v51:=Tryz.zeroValue208
 t53:=Tryz.underlying143
 a53:=Tryz.isAgg143
 z53:=Tryz.sizeOf143
 v53:=Tryz.zeroValue143
 t171:=Tryz.underlying220
 a171:=Tryz.isAgg220
 z171:=Tryz.sizeOf220
 v171:=Tryz.zeroValue220
 t173:=Tryz.underlying222
 a173:=Tryz.isAgg222
 z173:=Tryz.sizeOf222
 v173:=Tryz.zeroValue222
 t212:=Tryz.underlying248
 a212:=Tryz.isAgg248
 z212:=Tryz.sizeOf248
 v212:=Tryz.zeroValue248
 t213:=Tryz.underlying249
 a213:=Tryz.isAgg249
 z213:=Tryz.sizeOf249
 t232:=Tryz.underlying257
 a232:=Tryz.isAgg257
 z232:=Tryz.sizeOf257
 v232:=Tryz.zeroValue257
 t233:=Tryz.underlying242
 a233:=Tryz.isAgg242
 z233:=Tryz.sizeOf242
 v233:=Tryz.zeroValue242
 g17:=by kernel_rfl
 g18:=by kernel_rfl
 g19:=by kernel_rfl
 i0:=by kernel_rfl
 i2:=by kernel_rfl
 i3:=by kernel_rfl
 i4:=by kernel_rfl
 i5:=by kernel_rfl
 i9:=by kernel_rfl
 i20:=by kernel_rfl
 i37:=by kernel_rfl
 i46:=by kernel_rfl
 i51:=by kernel_rfl
 i53:=by kernel_rfl
 i171:=by kernel_rfl
 i173:=by kernel_rfl
 i212:=by kernel_rfl
 i232:=by kernel_rfl
 i233:=by kernel_rfl
 m17:=by kernel_rfl
 m18:=by kernel_rfl
 m19:=by kernel_rfl }
def appUL_ren:Go.Shelf.Ren:=⟨fun | 288=>189 | 283=>185 | 284=>186 | 285=>187 | 286=>188 | 129=>165 | 317=>216 | 318=>217 | 319=>218 | 320=>219 | 337=>225 | 338=>180 | n=>n,fun | 37=>154 | 53=>143 | 3=>3 | 4=>4 | 9=>9 | 171=>220 | 0=>0 | 173=>222 | 212=>248 | 51=>208 | 5=>5 | 20=>20 | 213=>249 | 46=>147 | 232=>257 | 233=>242 | n=>n,fun | 17=>3 | 18=>4 | 19=>0 | n=>n⟩
theorem appUL:Go.Proofs.LaysM.n288 Tryz.prog appUL_ren:={
 mixed:=by kernel_rfl
 f129:=Tryz.func165.trans (congrArg some (by kernel_rfl))
 f283:=Tryz.func185.trans (congrArg some (by kernel_rfl))
 f284:=Tryz.func186.trans (congrArg some (by kernel_rfl))
 f285:=Tryz.func187.trans (congrArg some (by kernel_rfl))
 f286:=Tryz.func188.trans (congrArg some (by kernel_rfl))
 f288:=Tryz.func189.trans (congrArg some (by kernel_rfl))
 f317:=Tryz.func216.trans (congrArg some (by kernel_rfl))
 f318:=Tryz.func217.trans (congrArg some (by kernel_rfl))
 f319:=Tryz.func218.trans (congrArg some (by kernel_rfl))
 f320:=Tryz.func219.trans (congrArg some (by kernel_rfl))
 f337:=Tryz.func225.trans (congrArg some (by kernel_rfl))
 f338:=Tryz.func180.trans (congrArg some (by kernel_rfl))
 t0:=Tryz.underlying0
 a0:=Tryz.isAgg0
 z0:=Tryz.sizeOf0
 v0:=Tryz.zeroValue0
 t3:=Tryz.underlying3
 a3:=Tryz.isAgg3
 z3:=Tryz.sizeOf3
 v3:=Tryz.zeroValue3
 t4:=Tryz.underlying4
 a4:=Tryz.isAgg4
 z4:=Tryz.sizeOf4
 v4:=Tryz.zeroValue4
 t5:=Tryz.underlying5
 a5:=Tryz.isAgg5
 z5:=Tryz.sizeOf5
 v5:=Tryz.zeroValue5
 t9:=Tryz.underlying9
 a9:=Tryz.isAgg9
 z9:=Tryz.sizeOf9
 v9:=Tryz.zeroValue9
 t20:=Tryz.underlying20
 a20:=Tryz.isAgg20
 z20:=Tryz.sizeOf20
 v20:=Tryz.zeroValue20
 t37:=Tryz.underlying154
 a37:=Tryz.isAgg154
 z37:=Tryz.sizeOf154
 v37:=Tryz.zeroValue154
 t46:=Tryz.underlying147
 a46:=Tryz.isAgg147
 z46:=Tryz.sizeOf147
 v46:=Tryz.zeroValue147
 t51:=Tryz.underlying208
 a51:=Tryz.isAgg208
 z51:=Tryz.sizeOf208
 v51:=Tryz.zeroValue208
 t53:=Tryz.underlying143
 a53:=Tryz.isAgg143
 z53:=Tryz.sizeOf143
 v53:=Tryz.zeroValue143
 t171:=Tryz.underlying220
 a171:=Tryz.isAgg220
 z171:=Tryz.sizeOf220
 v171:=Tryz.zeroValue220
 t173:=Tryz.underlying222
 a173:=Tryz.isAgg222
 z173:=Tryz.sizeOf222
 v173:=Tryz.zeroValue222
 t212:=Tryz.underlying248
 a212:=Tryz.isAgg248
 z212:=Tryz.sizeOf248
 v212:=Tryz.zeroValue248
 t213:=Tryz.underlying249
 a213:=Tryz.isAgg249
 z213:=Tryz.sizeOf249
 t232:=Tryz.underlying257
 a232:=Tryz.isAgg257
 z232:=Tryz.sizeOf257
 v232:=Tryz.zeroValue257
 t233:=Tryz.underlying242
 a233:=Tryz.isAgg242
 z233:=Tryz.sizeOf242
 v233:=Tryz.zeroValue242
 g17:=by kernel_rfl
 g18:=by kernel_rfl
 g19:=by kernel_rfl
 i0:=by kernel_rfl
 i3:=by kernel_rfl
 i4:=by kernel_rfl
 i5:=by kernel_rfl
 i9:=by kernel_rfl
 i20:=by kernel_rfl
 i37:=by kernel_rfl
 i46:=by kernel_rfl
 i51:=by kernel_rfl
 i53:=by kernel_rfl
 i171:=by kernel_rfl
 i173:=by kernel_rfl
 i212:=by kernel_rfl
 i232:=by kernel_rfl
 i233:=by kernel_rfl
 m17:=by kernel_rfl
 m18:=by kernel_rfl
 m19:=by kernel_rfl }
end Go.Proofs.YtlpgonpfjbhmfaaGreatDoor
