/- Part Gan8. -/
import Derived.Test.YtlpgonpfjbhmfaaGreatDoorGan7
set_option maxRecDepth 100000
set_option maxHeartbeats 100000000
namespace Go.Proofs.YtlpgonpfjbhmfaaGreatDoor
open Go Go.RowKit
theorem shl_step {B:Nat} {l xs:List Nat} {k s L V:Nat} (hk:k+1 < l.length) (hx:k < xs.length) (h:W.val B l=W.val B (xs.take k)*2^s) (h0:l.getD (k+1) 0=0) (e:xs.getD k 0*2^s=V*B+L) :
 W.val B ((l.set k (l.getD k 0+L)).set (k+1) V)=W.val B (xs.take (k+1))*2^s:=by
 have h1:=W.val_set (B:=B) (xs:=l) (i:=k) (v:=l.getD k 0+L) (by omega);have h2:=W.val_set (B:=B) (xs:=l.set k (l.getD k 0+L)) (i:=k+1) (v:=V) (by simpa using hk);have h3:(l.set k (l.getD k 0+L)).getD (k+1) 0=0:=by
  simpa [List.getD_eq_getElem?_getD] using h0
 rw [h3] at h2;rw [W.val_take_succ hx,Nat.add_mul,Nat.mul_assoc,e];rw [Nat.pow_succ] at h2;generalize l.getD k 0=z at *
 generalize W.val B ((l.set k (z+L)).set (k+1) V)=X at *
 generalize W.val B (l.set k (z+L))=Y at *
 generalize W.val B l=Z at *
 generalize W.val B (xs.take k) * 2^s=T at *
 generalize B^k=p at *
 grind
theorem pow_mul_pow {s:Nat} (hs:s≤63):2^(64 - s)*2^s=18446744073709551616:=by rw [←Nat.pow_add,show 64 - s+s=64 by omega]
theorem shl_low {lo s L V:Nat} (hs:s≤63) (e:lo*2^s=V*18446744073709551616+L):L % 2^s=0:=by
 have h1:=pow_mul_pow hs;have h2:2^s∣V*18446744073709551616+L:=by rw [←e]; exact Nat.dvd_mul_left _ _
 have h3:2^s∣V*18446744073709551616:=by rw [←h1]; exact ⟨V*2^(64 - s),by grind⟩
 exact Nat.mod_eq_zero_of_dvd ((Nat.dvd_add_right h3).1 h2)
theorem join_lt {s L z:Nat} (hs:s≤63) (hl:L % 2^s=0) (hL:L < 18446744073709551616) (hz:z < 2^s):z+L < 18446744073709551616:=by
 have h1:=pow_mul_pow hs;have h2:=Nat.div_add_mod L (2^s);rw [hl,Nat.add_zero] at h2;have h3:L / 2^s < 2^(64 - s):=by
  rw [Nat.div_lt_iff_lt_mul (Nat.two_pow_pos s),h1];exact hL
 have h4:2^s*(L / 2^s+1)≤2^s*2^(64 - s):=Nat.mul_le_mul_left _ h3;rw [Nat.mul_comm (2^s) (2^(64 - s)),h1,Nat.mul_add,Nat.mul_one,h2] at h4;omega
theorem int_shiftLeft {a:Option Addr} {n c s:Nat} {xs:List Nat} {x:Nat} {w:World} (hx:SlN .u64 w a n c xs) (nx:Num 18446744073709551616 xs x) (hs:s≤63) (hn:n≤1000000) :
 Calls Tryz.prog 206 #[.slice a n c, .int .u64 s] w (RetN .u64 18446744073709551616 w (x*2^s)):=by
 have HX:=Lib.hid hx.len;have NX:=Lib.hid nx;clear nx;by_cases h0:n=0∨s=0
 · have HZ:Hid (x*2^s=x):=by
    show _=_;rcases h0 with h0 | h0
    · have h1:xs=[]:=List.eq_nil_of_length_eq_zero (by rw [HX.out,h0]);have h2:=NX.out.val;rw [h1] at h2;simp only [W.val] at h2;rw [←h2];simp
    · rw [h0]; simp
   have hpick:((n:Int) == 0)=true∨(((n:Int) == 0)=false∧((s:Int) == 0)=true):=by
    by_cases h1:n=0
    · left; simp [h1]
    · right; exact ⟨by simpa using h1,by simp; omega⟩
   clear h0;rcases hpick with hp | ⟨hp,hp2⟩
   all_goals
    go_enter Tryz.func206,Tryz.ntmps206
    go_wp2;go_ret;exact ⟨a,n,c,xs,rfl,Ext.refl w,hx,⟨NX.out.bnd,NX.out.nrm,by rw [NX.out.val,HZ.out]⟩⟩
 · have hb0:((n:Int) == 0)=false:=by simp; omega
   have hb1:((s:Int) == 0)=false:=by simp; omega
   have hq:(s:Int) / 64=0:=by omega
   have hq':(s:Int).tdiv 64=0:=by rw [Int.tdiv_eq_ediv_of_nonneg (by omega)]; exact hq
   have hr:(s:Int) % 64=s:=by omega
   have hr':(s:Int).tmod 64=s:=by rw [Int.tmod_eq_emod_of_nonneg (by omega)]; exact hr
   clear h0
   go_enter Tryz.func206,Tryz.ntmps206
   go_upto_region 5 with (at_make; refine wl_mk (n:=n+1) rfl rfl Tryz.underlying88 info_u64 rfl rfl rfl (by omega) (by unfold maxLen; omega) ?_; intro w1 hO1 hE1)
   clear hq hq' hr hr' hb0 hb1;go_wp2
   go_loopw [31] (fun iv wr=>∃ (k:Nat) (zs:List Nat),iv = .int .i64 k∧k≤n∧Ext w wr∧OwnN .u64 wr w.heap.size 143 w.heap.size (n+1) (n+1) zs∧W.bnd 18446744073709551616 zs∧Hid (W.val 18446744073709551616 zs=W.val 18446744073709551616 (xs.take k)*2^s)∧Hid (∀ j,k < j→zs.getD j 0=0)∧Hid (zs.getD k 0 < 2^s)) (fun iv _=>n - (intOf iv).toNat)
   case atStart=>exact ⟨0,List.replicate (n+1) 0,rfl,Nat.zero_le _,hE1,OwnN.of_zeros hO1,fun z hz=>by rw [(List.mem_replicate.1 hz).2]; omega,Lib.hid (by rw [W.val_zeros]; simp [W.val]),Lib.hid (fun j _=>zeros_at _ j),Lib.hid (by rw [zeros_at]; exact Nat.two_pow_pos s)⟩
   case round =>
    clear hO1 hE1;obtain ⟨k,zs,rfl,hk,hE,hz,bz,HV,HJ,HP⟩:=hrel;by_cases hlt:k < n
    · obtain ⟨b1,o1,rfl,hc1⟩:=(hx.ext hE).at (j:=k) hlt;have g1:=hc1 k hlt;have g2:=hz.cell (i:=k) (by omega);have g3:=hz.frozen k;have g4:=hz.frozen (k+1);have g5:=hz.cell (i:=k+1) (by omega);rw [HJ.out (k+1) (by omega)] at g5;have hxk:=W.bnd_at NX.out.bnd (i:=k) (by rw [HX.out]; exact hlt);obtain ⟨L,V,hL1,hL2,hV1,hV2,hL3⟩:=shl_parts hs hxk;have hlow:=shl_low hs hL1;have HS:=Lib.hid (shl_step (B:=18446744073709551616) (l:=zs) (xs:=xs) (k:=k) (s:=s) (L:=L) (V:=V) (by rw [hz.len]; omega) (by rw [HX.out]; exact hlt) HV.out (HJ.out _ (by omega)) hL1)
      have hzb:zs.getD k 0 < 18446744073709551616:=W.bnd_at bz (i:=k) (by rw [hz.len]; omega);have hjl:=join_lt hs hlow hL2 HP.out;have HJ2:Hid (∀ v j,k+1 < j→((zs.set k v).set (k+1) V).getD j 0=0):=by
       show ∀ v j,k+1 < j→((zs.set k v).set (k+1) V).getD j 0=0;intro v j hj;have h0:=HJ.out j (by omega);have h1:¬ k=j:=by omega
       have h2:¬ k+1=j:=by omega
       simpa [List.getD_eq_getElem?_getD,h1,h2] using h0
      have HP2:Hid (∀ v,((zs.set k v).set (k+1) V).getD (k+1) 0 < 2^s):=by
       show ∀ v,((zs.set k v).set (k+1) V).getD (k+1) 0 < 2^s;intro v;have h1:k+1 < zs.length:=by rw [hz.len]; omega
       have h2:((zs.set k v).set (k+1) V).getD (k+1) 0=V:=by simp [List.getD_eq_getElem?_getD,h1]
       rw [h2]; exact hV2
      have e5:bits BinOp.or IntKind.u64 ((zs.getD k 0:Nat):Int) (L:Int)=((zs.getD k 0+L:Nat):Int):=by
       rw [u64_or_nat _ L hzb hL2,Nat.or_comm,nat_join s L (zs.getD k 0) hlow HP.out,Nat.add_comm]
      generalize hzz:zs.getD k 0+L=z2 at *
      generalize zs.getD k 0=z at *
      have e6:IntKind.u64.wrap (((xs.getD k 0:Nat):Int)*2^s)=(L:Int):=by
       have:=wrap_mod (x:=xs.getD k 0*2^s) (M:=L) hL3.symm;push_cast at this;exact this
      have e7:((xs.getD k 0:Nat):Int) / 2^(64 - s)=(V:Int):=by rw [hV1]; push_cast; rfl
      clear hL1 hL3 hV1;generalize xs.getD k 0=u at *
      have hVb:V < 18446744073709551616:=by
       have:=Nat.pow_le_pow_right (n:=2) (by omega) (show s≤63 from hs);omega
      clear hc1;go_wp2;go_roundw
      case rel=>exact ⟨k+1,(zs.set k z2).set (k+1) V,by go_num,by omega,(hE.setCell (Nat.le_refl _) _).setCell (Nat.le_refl _) _,(hz.set k z2).set (k+1) V,W.bnd_set (W.bnd_set bz hjl) hVb,HS,Lib.hid (HJ2.out z2),Lib.hid (HP2.out z2)⟩
      case measure=>simp [intOf]; omega
    · have ek:k=n:=by omega
      have hv:W.val 18446744073709551616 zs=x*2^s:=by
       have h1:=HV.out;rw [ek,List.take_of_length_le (by rw [HX.out]; exact Nat.le_refl _),NX.out.val] at h1;exact h1
      go_wp2_with fail
      refine (int_trim hz.sl).mono ?_;rintro e w4 ⟨q,rfl,rfl,hq,ht⟩;obtain ⟨t1,t2⟩:=trim_num hz.sl hq ht bz hv;go_wp2;go_ret;exact ⟨_,q,_,_,rfl,hE,t1,t2⟩
theorem shr_mul {x s:Nat} (hs:s≤63):2^s*(x*2^(64 - s) % 18446744073709551616)=18446744073709551616*(x % 2^s)∧x*2^(64 - s) % 18446744073709551616 % 2^(64 - s)=0:=by
 have h1:=pow_mul_pow hs;have h2:x*2^(64 - s) % 18446744073709551616=x % 2^s*2^(64 - s):=by
  rw [←h1,Nat.mul_comm (2^(64 - s)) (2^s),Nat.mul_mod_mul_right]
 rw [h2];refine ⟨?_,Nat.mul_mod_left _ _⟩;rw [←h1];generalize 2^(64 - s)=p;generalize 2^s=q
 grind
theorem shr_lt {x s:Nat} (hs:s≤63) (hx:x < 18446744073709551616):x / 2^s < 2^(64 - s):=by
 rw [Nat.div_lt_iff_lt_mul (Nat.two_pow_pos s),pow_mul_pow hs];exact hx
theorem or_lt64 {x y:Nat} (hx:x < 18446744073709551616) (hy:y < 18446744073709551616):x ||| y < 18446744073709551616:=Nat.or_lt_two_pow (n:=64) hx hy
theorem shr_word {x y s:Nat} (hs:s≤63) (hx:x < 18446744073709551616):∃ z:Nat,z < 18446744073709551616∧x / 2^s ||| (y*2^(64 - s) % 18446744073709551616)=z∧2^s*z+x % 2^s=x+18446744073709551616*(y % 2^s):=by
 obtain ⟨h1,h2⟩:=shr_mul (x:=y) hs;have h3:=shr_lt hs hx;have h4:=nat_join (64 - s) (y*2^(64 - s) % 18446744073709551616) (x / 2^s) h2 h3;refine ⟨x / 2^s ||| (y*2^(64 - s) % 18446744073709551616),or_lt64 ?_ (Nat.mod_lt _ (by omega)),rfl, ?_⟩
 · have:=Nat.div_le_self x (2^s); omega
 · rw [Nat.or_comm,h4,Nat.mul_add,h1];have:=Nat.div_add_mod x (2^s);generalize 2^s * (x / 2^s)=p at *
   omega
theorem shr_step {B:Nat} {l xs:List Nat} {k s z V:Nat} (hk:k < l.length) (hx:k < xs.length) (h:2^s*W.val B (l.take k)+V=W.val B (xs.take k)+B^k*(xs.getD k 0 % 2^s)) (e:2^s*z+xs.getD k 0 % 2^s=xs.getD k 0+B*(xs.getD (k+1) 0 % 2^s)) :
 2^s*W.val B ((l.set k z).take (k+1))+V=W.val B (xs.take (k+1))+B^(k+1)*(xs.getD (k+1) 0 % 2^s):=by
 have h1:=W.val_take_succ (B:=B) (xs:=l.set k z) (i:=k) (by simpa using hk);have h2:(l.set k z).getD k 0=z:=by simp [List.getD_eq_getElem?_getD,hk]
 have h3:(l.set k z).take k=l.take k:=by rw [List.take_set,List.set_eq_of_length_le (by simp; omega)]
 rw [h2,h3] at h1;rw [h1,W.val_take_succ hx,Nat.pow_succ];generalize xs.getD (k+1) 0 % 2^s=b at *
 generalize xs.getD k 0 % 2^s=a at *
 generalize xs.getD k 0=u at *
 generalize W.val B (l.take k)=A at *
 generalize W.val B (xs.take k)=X at *
 generalize B^k=p at *
 generalize 2^s=q at *
 grind
theorem int_shiftRight {a:Option Addr} {n c s:Nat} {xs:List Nat} {x:Nat} {w:World} (hx:SlN .u64 w a n c xs) (nx:Num 18446744073709551616 xs x) (hs:s≤63) (hn:n≤1000000) :
 Calls Tryz.prog 211 #[.slice a n c, .int .u64 s] w (RetN .u64 18446744073709551616 w (x / 2^s)):=by
 have HX:=Lib.hid hx.len;have NX:=Lib.hid nx;clear nx;have hq:(s:Int) / 64=0:=by omega
 have hq':(s:Int).tdiv 64=0:=by rw [Int.tdiv_eq_ediv_of_nonneg (by omega)]; exact hq
 have hr:(s:Int) % 64=s:=by omega
 have hr':(s:Int).tmod 64=s:=by rw [Int.tmod_eq_emod_of_nonneg (by omega)]; exact hr
 by_cases h0:n=0
 · have HZ:Hid (x / 2^s=0):=by
    show _=_;have h1:xs=[]:=List.eq_nil_of_length_eq_zero (by rw [HX.out,h0]);have h2:=NX.out.val;rw [h1] at h2;simp only [W.val] at h2;rw [←h2];simp
   subst h0
   go_enter Tryz.func211,Tryz.ntmps211
   go_wp2;go_ret;exact ⟨none,0,0,[],rfl,Ext.refl w,SlN.nil _ _,by rw [HZ.out]; exact Num.nil _⟩
 · have hb0:(0:Int) < (n:Int):=by omega
   clear h0
   go_enter Tryz.func211,Tryz.ntmps211
   go_upto_region 5 with (at_make; refine wl_mk (n:=n) rfl rfl Tryz.underlying88 info_u64 rfl rfl rfl (by omega) (by unfold maxLen; omega) ?_; intro w1 hO1 hE1)
   clear hq hq' hr hr' hb0;go_wp2
   go_loopw [27] (fun iv wr=>∃ (k:Nat) (zs:List Nat),iv = .int .i64 k∧k≤n∧Ext w wr∧OwnN .u64 wr w.heap.size 143 w.heap.size n n zs∧W.bnd 18446744073709551616 zs∧Hid (2^s*W.val 18446744073709551616 (zs.take k)+xs.getD 0 0 % 2^s=W.val 18446744073709551616 (xs.take k)+18446744073709551616^k*(xs.getD k 0 % 2^s))) (fun iv _=>n - (intOf iv).toNat)
   case atStart=>exact ⟨0,List.replicate n 0,rfl,Nat.zero_le _,hE1,OwnN.of_zeros hO1,fun z hz=>by rw [(List.mem_replicate.1 hz).2]; omega,Lib.hid (by simp [W.val])⟩
   case round =>
    clear hO1 hE1;obtain ⟨k,zs,rfl,hk,hE,hz,bz,HV⟩:=hrel;by_cases hlt:k < n
    · obtain ⟨b1,o1,rfl,hc1⟩:=(hx.ext hE).at (j:=k) hlt;have g1:=hc1 k hlt;have g2:=hz.cell (i:=k) hlt;have g3:=hz.frozen k;have hxk:=W.bnd_at NX.out.bnd (i:=k) (by rw [HX.out]; exact hlt);by_cases hlast:k+1 < n
      · have g4:=hc1 (k+1) hlast;have hfr:b1≠w.heap.size:=by have:=hx.fresh (Nat.le_refl _) (by omega); simpa [blk] using this
        obtain ⟨z2,hz2,e5,e6⟩:=shr_word (y:=xs.getD (k+1) 0) hs hxk;have HS:=Lib.hid (shr_step (B:=18446744073709551616) (l:=zs) (xs:=xs) (k:=k) (s:=s) (z:=z2) (by rw [hz.len]; omega) (by rw [HX.out]; exact hlt) HV.out e6);obtain ⟨L,hL⟩:∃ L,xs.getD (k+1) 0*2^(64 - s) % 18446744073709551616=L:=⟨_,rfl⟩;obtain ⟨V,hV⟩:∃ V,xs.getD k 0 / 2^s=V:=⟨_,rfl⟩;have hLb:L < 18446744073709551616:=by rw [←hL]; exact Nat.mod_lt _ (by omega)
        have hVb:V < 18446744073709551616:=by rw [←hV]; have:=Nat.div_le_self (xs.getD k 0) (2^s); omega
        rw [hL,hV] at e5;have f5:bits BinOp.or IntKind.u64 (V:Int) (L:Int)=(z2:Int):=by rw [u64_or_nat V L hVb hLb,e5]
        have f6:IntKind.u64.wrap (((xs.getD (k+1) 0:Nat):Int)*2^(64 - s))=(L:Int):=by
         have:=wrap_mod (x:=xs.getD (k+1) 0*2^(64 - s)) (M:=L) hL;push_cast at this;exact this
        have f7:((xs.getD k 0:Nat):Int) / 2^s=(V:Int):=by rw [←hV]; push_cast; rfl
        clear hL hV e5 e6 HV;generalize hyy:xs.getD (k+1) 0=y at *
        generalize xs.getD k 0=u at *
        generalize zs.getD k 0=z at *
        clear hc1;go_wp2;have hE2:=((hE.setCell (p:=⟨w.heap.size,k,none⟩) (Nat.le_refl _) (.int .u64 (V:Int))).setCell (p:=⟨w.heap.size,k,none⟩) (Nat.le_refl _) (.int .u64 (z2:Int))).drewN 1;have hz3:=((hz.set k V).set k z2).drewN 1;rw [List.set_set] at hz3
        go_region
        go_wp2;go_roundw
        case rel=>exact ⟨k+1,zs.set k z2,by go_num,by omega,hE2,hz3,W.bnd_set bz hz2,by rw [hyy]; exact HS⟩
        case measure=>simp [intOf]; omega
      · have hy0:xs.getD (k+1) 0=0:=by
         rw [List.getD_eq_getElem?_getD,List.getElem?_eq_none (by rw [HX.out]; omega)];rfl
        obtain ⟨z2,hz2,e5,e6⟩:=shr_word (y:=0) hs hxk;have HS:=Lib.hid (shr_step (B:=18446744073709551616) (l:=zs) (xs:=xs) (k:=k) (s:=s) (z:=z2) (by rw [hz.len]; omega) (by rw [HX.out]; exact hlt) HV.out (by rw [hy0]; exact e6));have e7:xs.getD k 0 / 2^s=z2:=by rw [←e5]; simp
        have f7:((xs.getD k 0:Nat):Int) / 2^s=(z2:Int):=by rw [←e7]; push_cast; rfl
        clear e5 e6 e7 HV hy0;generalize xs.getD k 0=u at *
        generalize zs.getD k 0=z at *
        clear hc1;go_wp2;go_roundw
        case rel=>exact ⟨k+1,zs.set k z2,by go_num,by omega,hE.setCell (Nat.le_refl _) _,hz.set k z2,W.bnd_set bz hz2,HS⟩
        case measure=>simp [intOf]; omega
    · have ek:k=n:=by omega
      have hv:W.val 18446744073709551616 zs=x / 2^s:=by
       have h1:=HV.out;have h2:xs.getD n 0=0:=by
        rw [List.getD_eq_getElem?_getD,List.getElem?_eq_none (by rw [HX.out]; omega)];rfl
       rw [ek,List.take_of_length_le (by rw [hz.len]; exact Nat.le_refl _),List.take_of_length_le (by rw [HX.out]; exact Nat.le_refl _),NX.out.val,h2,Nat.zero_mod,Nat.mul_zero,Nat.add_zero] at h1;rw [←h1,Nat.mul_add_div (Nat.two_pow_pos s),Nat.div_eq_of_lt (Nat.mod_lt _ (Nat.two_pow_pos s)),Nat.add_zero]
      go_wp2_with fail
      refine (int_trim hz.sl).mono ?_;rintro e w4 ⟨q,rfl,rfl,hq,ht⟩;obtain ⟨t1,t2⟩:=trim_num hz.sl hq ht bz hv;go_wp2;go_ret;exact ⟨_,q,_,_,rfl,hE,t1,t2⟩
theorem bits_Div64_at {hi lo y q r:Nat} {w:World} (hy:y < 18446744073709551616) (hlo:lo < 18446744073709551616) (hh:hi < y) (hr:r < y) (h:hi*18446744073709551616+lo=q*y+r) :
 Calls Tryz.prog 181 #[.int .u64 hi, .int .u64 lo, .int .u64 y] w fun e w'=>e = .returned (.tuple #[.int .u64 (q:Int), .int .u64 (r:Int)])∧Qt w w':=by
 refine (bits_Div64 hy hlo hh).mono ?_;rintro e w' ⟨q2,r2,rfl,_,hr2,h2,hQ⟩;rw [h] at h2;have e1:r=r2:=by
  have:(q*y+r) % y=(q2*y+r2) % y:=by rw [h2]
  rw [Nat.mul_comm,Nat.mul_add_mod,Nat.mod_eq_of_lt hr,Nat.mul_comm,Nat.mul_add_mod,Nat.mod_eq_of_lt hr2] at this;exact this
 subst e1;have e2:q=q2:=Nat.eq_of_mul_eq_mul_right (show 0 < y by omega) (by omega);subst e2;exact ⟨rfl,hQ⟩
theorem guess_ok {b y1 y0 U u g r:Nat} (hg:g*y1+r=U) (hc:g*y0≤b*r+u):g*(y1*b+y0)≤U*b+u:=by
 have h2:g*(y1*b+y0)=g*y1*b+g*y0:=by grind
 have h3:U*b=g*y1*b+r*b:=by rw [←hg]; grind
 have h4:b*r=r*b:=Nat.mul_comm _ _;omega
theorem guess_top {B W D w3 d2 q P lo lo' f s t1 t0:Nat} (hW:W=w3*P+lo) (hD:D=d2*P+lo') (hlo:lo' < P) (hw3:w3=(f*B+t1)*B+t0) (hd2:d2=f*B+s) (hs:s < B) (hf:B≤2*f) (hq:W < (q+1)*D):B≤q+2:=by
 refine Classical.byContradiction fun hc => ?_;have hq3:q+1+2≤B:=by omega
 have h1:(q+1)*D≤(q+1)*(d2*P+P):=Nat.mul_le_mul_left _ (by omega);have h2:(q+1)*(d2*P+P)=(q+1)*(d2+1)*P:=by grind
 have h3:w3*P < (q+1)*(d2+1)*P:=by omega
 have h4:w3 < (q+1)*(d2+1):=Nat.lt_of_mul_lt_mul_right h3;have h5:(q+1)*(d2+1)+2*(d2+1)≤B*(d2+1):=by
  rw [←Nat.add_mul];exact Nat.mul_le_mul_right _ hq3
 have h6:B*(d2+1)=f*B*B+s*B+B:=by rw [hd2]; grind
 have h7:w3=f*B*B+t1*B+t0:=by rw [hw3]; grind
 have h8:s*B+B≤B*B:=by
  have:=Nat.mul_le_mul_right B (show s+1≤B from hs);rw [Nat.add_mul] at this;omega
 have h9:B*B≤2*f*B:=Nat.mul_le_mul_right _ hf;have h10:2*(d2+1)=2*f*B+2*s+2:=by rw [hd2]; grind
 omega
theorem pair_le {p r t:Nat} (_ht:t < 18446744073709551616) (h:p / 18446744073709551616 < r∨(p / 18446744073709551616=r∧p % 18446744073709551616≤t)):p≤18446744073709551616*r+t:=by omega
theorem pair_gt {p r t:Nat} (_ht:t < 18446744073709551616) (h:r < p / 18446744073709551616∨(p / 18446744073709551616=r∧t < p % 18446744073709551616)):18446744073709551616*r+t < p:=by omega
theorem int_estimate {a b:Option Addr} {n c m d:Nat} {ls ds:List Nat} {q w3 d2 P lo lo':Nat} {w:World} (hl:SlN .u64 w a (n+1) c ls) (hd:SlN .u64 w b n d ds) (bl:W.bnd 18446744073709551616 ls) (bd:W.bnd 18446744073709551616 ds) (h2:n=m+2) (hn:n≤1000000) (hf:9223372036854775808≤ds.getD (m+1) 0)
 (hw3:w3=(ls.getD (m+2) 0*18446744073709551616+ls.getD (m+1) 0)*18446744073709551616+ls.getD m 0) (hd2:d2=ds.getD (m+1) 0*18446744073709551616+ds.getD m 0)
 (hW:W.val 18446744073709551616 ls=w3*P+lo) (hD:W.val 18446744073709551616 ds=d2*P+lo') (hlo:lo < P) (hlo':lo' < P) (hq1:q*W.val 18446744073709551616 ds≤W.val 18446744073709551616 ls) (hq2:W.val 18446744073709551616 ls < (q+1)*W.val 18446744073709551616 ds) (hqb:q < 18446744073709551616) :
 Calls Tryz.prog 213 #[.slice a (n+1) c, .slice b n d] w fun e w'=>∃ g:Nat,e = .returned (.int .u64 (g:Int))∧q≤g∧g≤q+1∧g < 18446744073709551616∧Qt w w':=by
 subst h2;have k1:=W.digit_hi hW hlo hD hq1;have hfb:=W.bnd_at bd (i:=m+1) (by rw [hd.len]; omega);have hsb:=W.bnd_at bd (i:=m) (by rw [hd.len]; omega);have ht2:=W.bnd_at bl (i:=m+2) (by rw [hl.len]; omega);have ht1:=W.bnd_at bl (i:=m+1) (by rw [hl.len]; omega);have ht0:=W.bnd_at bl (i:=m) (by rw [hl.len]; omega);obtain ⟨b1,o1,rfl,hc1⟩:=hl.at (j:=0) (by omega);obtain ⟨b2,o2,rfl,hc2⟩:=hd.at (j:=0) (by omega);have g0:=hc1 m (by omega);have g1:=hc1 (m+1) (by omega);have g2:=hc1 (m+2) (by omega);have g3:=hc2 (m+1) (by omega);have g4:=hc2 m (by omega);have k2:18446744073709551616≤d2:=by
  rw [hd2];have h1:1*18446744073709551616≤ds.getD (m+1) 0*18446744073709551616:=Nat.mul_le_mul_right _ (by omega);rw [Nat.one_mul] at h1;exact Nat.le_trans h1 (Nat.le_add_right _ _)
 have HTOP:Hid (ls.getD (m+2) 0=ds.getD (m+1) 0→18446744073709551616≤q+2):=by
  show _→_;intro he;exact guess_top (B:=18446744073709551616) hW hD hlo' (by rw [hw3,he]) hd2 hsb (by omega) hq2
 have HLO:Hid (∀ e,e*d2≤w3→e≤q+1):=by
  show ∀ e,e*d2≤w3→e≤q+1;intro e he;exact W.digit_lo (by omega) hW hD hlo' hq2 he (by omega)
 have HGT:Hid (ls.getD (m+2) 0≤ds.getD (m+1) 0):=by
  show _≤_;refine Classical.byContradiction fun hc => ?_;have h1:W.val 18446744073709551616 ls < 18446744073709551616*W.val 18446744073709551616 ds:=Nat.lt_of_lt_of_le hq2 (Nat.mul_le_mul_right _ hqb);have h3:18446744073709551616*W.val 18446744073709551616 ds < 18446744073709551616*((d2+1)*P):=Nat.mul_lt_mul_of_pos_left (by rw [hD]; grind) (by omega);have h4:w3*P < 18446744073709551616*((d2+1)*P):=by omega
  have h5:18446744073709551616*((d2+1)*P)=(18446744073709551616*(d2+1))*P:=by grind
  rw [h5] at h4;have h6:=Nat.lt_of_mul_lt_mul_right h4;rw [hw3,hd2] at h6;generalize ls.getD (m+2) 0=t2 at *
  generalize ls.getD (m+1) 0=t1 at *
  generalize ls.getD m 0=t0 at *
  generalize ds.getD (m+1) 0=f at *
  generalize ds.getD m 0=s at *
  have h7:(f+1)*18446744073709551616*18446744073709551616≤t2*18446744073709551616*18446744073709551616:=Nat.mul_le_mul_right _ (Nat.mul_le_mul_right _ (by omega));omega
 clear hW hD hq1 hq2 hlo hlo' hc1 hc2 bl bd hl hd;generalize ls.getD (m+2) 0=t2 at *
 generalize ls.getD (m+1) 0=t1 at *
 generalize ls.getD m 0=t0 at *
 generalize ds.getD (m+1) 0=f at *
 generalize ds.getD m 0=s at *
 have hwn:IntKind.i64.wrap ((m:Int)+2)=(m:Int)+2:=IntWalk.i64_in _ (by omega);have hwn1:IntKind.i64.wrap ((m:Int)+2 - 1)=(m:Int)+1:=by rw [show (m:Int)+2 - 1=(m:Int)+1 by omega]; exact IntWalk.i64_in _ (by omega)
 have hwn2:IntKind.i64.wrap ((m:Int)+2 - 2)=(m:Int):=by rw [show (m:Int)+2 - 2=(m:Int) by omega]; exact IntWalk.i64_in _ (by omega)
 have HGTo:=HGT.out;by_cases ht:t2 < f
 · -- the guess by the first words
   obtain ⟨gU,hgU⟩:∃ gU,(t2*18446744073709551616+t1) / f=gU:=⟨_,rfl⟩;obtain ⟨rU,hrU⟩:∃ rU,(t2*18446744073709551616+t1) % f=rU:=⟨_,rfl⟩;have he:t2*18446744073709551616+t1=gU*f+rU:=by
    have:=Nat.div_add_mod (t2*18446744073709551616+t1) f;rw [hgU,hrU,Nat.mul_comm] at this;exact this.symm
   have hrf:rU < f:=by rw [←hrU]; exact Nat.mod_lt _ (by omega)
   have hgb:gU < 18446744073709551616:=by
    rw [←hgU,Nat.div_lt_iff_lt_mul (by omega)];have:(t2+1)*18446744073709551616≤f*18446744073709551616:=Nat.mul_le_mul_right _ ht;rw [Nat.mul_comm 18446744073709551616 f];omega
   have hdv:=fun wx:World=>bits_Div64_at (w:=wx) hfb ht1 ht hrf he;have HE:=Lib.hid he.symm;have HK1:Hid (q*(f*18446744073709551616+s)≤(t2*18446744073709551616+t1)*18446744073709551616+t0):=by show _≤_; rw [←hw3,←hd2]; exact k1
   have HQ:=Lib.hid (W.guess_hi (b:=18446744073709551616) (y1:=f) (y0:=s) (U:=t2*18446744073709551616+t1) (u:=t0) (q:=q) (g:=gU) (r:=rU) HE.out HK1.out ht0 hrf);have HDN:Hid (∀ g r,g*f+r=t2*18446744073709551616+t1→18446744073709551616*r+t0 < g*s→q < g):=by
    show ∀ g r,g*f+r=t2*18446744073709551616+t1→18446744073709551616*r+t0 < g*s→q < g;exact fun g r h1 h2=>W.guess_down (b:=18446744073709551616) (y1:=f) (y0:=s) (U:=t2*18446744073709551616+t1) (u:=t0) (q:=q) (g:=g) (r:=r) h1 HK1.out hqb (Or.inr h2)
   have HOK:Hid (∀ g r,g*f+r=t2*18446744073709551616+t1→g*s≤18446744073709551616*r+t0→g≤q+1):=by
    show ∀ g r,g*f+r=t2*18446744073709551616+t1→g*s≤18446744073709551616*r+t0→g≤q+1;intro g r h1 h2;refine HLO.out g ?_;rw [hw3,hd2];exact guess_ok h1 h2
   clear hgU hrU he HK1 HLO HTOP HGT HGTo hw3 hd2 k1 k2
   go_enter Tryz.func213,Tryz.ntmps213
   go_wp2
   go_quiet (fail)
   have g0':(w.drewN nq).cell? ⟨b1,o1+m,none⟩=some (.int .u64 (t0:Int)):=g0;have g1':(w.drewN nq).cell? ⟨b1,o1+(m+1),none⟩=some (.int .u64 (t1:Int)):=g1;have g2':(w.drewN nq).cell? ⟨b1,o1+(m+2),none⟩=some (.int .u64 (t2:Int)):=g2;have hQ1:Qt w (w.drewN nq):=(Qt.refl w).drewN _;generalize w.drewN nq=w2 at *
   clear g0 g1 g2 g3 g4
   go_wp2_with fail
   go_quiet ((exact Calls.quiet_of (hdv _)))
   have g0:(w2.drewN nq).cell? ⟨b1,o1+m,none⟩=some (.int .u64 (t0:Int)):=g0';have hQ2:Qt w (w2.drewN nq):=hQ1.drewN _;generalize w2.drewN nq=w3 at *
   clear g0' g1' g2' hQ1 hdv;go_wp2;rw [show decide (f≤t2)=false by simp; omega]
   go_loopw [8,9] (fun gv rv wr=>∃ g r:Nat,gv = .int .u64 (g:Int)∧rv = .int .u64 (r:Int)∧Hid (g*f+r=t2*18446744073709551616+t1)∧Hid (q≤g)∧g < 18446744073709551616∧r < 18446744073709551616∧wr=w3) (fun gv _ _=>(intOf gv).toNat)
   case atStart=>exact ⟨gU,rU,rfl,rfl,HE,HQ,hgb,by omega,rfl⟩
   case round =>
    clear HE HQ hgb hrf;obtain ⟨g,r,rfl,rfl,HE,HQ,hgb,hrb,rfl⟩:=hrel;have hmul:=mul64_c (x:=g) (y:=s) hgb hsb;obtain ⟨ph,hph⟩:∃ ph,g*s / 18446744073709551616=ph:=⟨_,rfl⟩;obtain ⟨pl,hpl⟩:∃ pl,g*s % 18446744073709551616=pl:=⟨_,rfl⟩;rw [hph,hpl] at hmul;by_cases hc:ph < r∨(ph=r∧pl≤t0)
    · have HF:Hid (g≤q+1):=HOK.out g r HE.out (pair_le ht0 (by rw [hph,hpl]; exact hc));have hpick:(ph:Int) < r∨((r:Int)≤(ph:Int)∧((ph:Int) == (r:Int))=true∧(pl:Int)≤t0):=by
       rcases hc with h | ⟨h1,h2⟩
       · left; omega
       · right; exact ⟨by omega,by simp; omega,by omega⟩
      clear hc hph hpl;rcases hpick with h1 | ⟨h1,h2,h3⟩
      all_goals
       go_wp2_with (go_at_call 204; refine (hmul _).mono ?_; rintro e w1 ⟨rfl,rfl⟩)
       go_ret;exact ⟨g,rfl,HQ.out,HF.out,hgb,hQ2⟩
    · have hp:r < ph∨(ph=r∧t0 < pl):=by omega
      have HD:=Lib.hid (HDN.out g r HE.out (pair_gt ht0 (by rw [hph,hpl]; exact hp)));obtain ⟨g2,rfl⟩:∃ g2,g=g2+1:=⟨g - 1,by have:=HD.out; omega⟩;have hw1:IntKind.u64.wrap ((g2:Int)+1 - 1)=g2:=wrap_nat (by omega) (by omega);have HE2:Hid (g2*f+(r+f)=t2*18446744073709551616+t1):=by
       have h1:=HE.out;show _=_;rw [←h1]
       grind
      have hw1':IntKind.u64.wrap (g2:Int)=g2:=wrap_nat (by omega) (by omega);have HQ2:Hid (q≤g2):=by have:=HD.out; show _≤_; omega
      have hpick:((r:Int)≤(ph:Int)∧((ph:Int) == (r:Int))=false)∨((r:Int)≤(ph:Int)∧((ph:Int) == (r:Int))=true∧(t0:Int) < pl):=by
       rcases hp with h | ⟨h1,h2⟩
       · left; exact ⟨by omega,by simp; omega⟩
       · right; exact ⟨by omega,by simp; omega,by omega⟩
      clear hc hp hph hpl;by_cases hov:r+f < 18446744073709551616
      · obtain ⟨r2,hr2⟩:∃ r2,r+f=r2:=⟨_,rfl⟩;rw [hr2] at HE2 hov;have hw2:IntKind.u64.wrap ((r:Int)+(f:Int))=(r2:Int):=wrap_nat (by omega) hov;have hge:(f:Int)≤(r2:Int):=by omega
        clear hr2;rcases hpick with ⟨h1,h2⟩ | ⟨h1,h2,h3⟩
        all_goals
         go_wp2_with (go_at_call 204; refine (hmul _).mono ?_; rintro e w1 ⟨rfl,rfl⟩)
         go_roundw
         case rel=>exact ⟨g2,r2,by go_num,rfl,HE2,HQ2,by omega,hov,trivial⟩
         case measure=>simp [intOf]
      · have HF:Hid (g2≤q+1):=HOK.out g2 (r+f) HE2.out (by
         have h1:g2*s≤18446744073709551616*s:=Nat.mul_le_mul_right _ (by omega);have h2:18446744073709551616*s≤18446744073709551616*(r+f):=Nat.mul_le_mul_left _ (by omega)
         omega)
        have hw2:IntKind.u64.wrap ((r:Int)+(f:Int))=((r+f - 18446744073709551616:Nat):Int):=by
         rw [IntKind.wrap_u64];omega
        have hlt:((r+f - 18446744073709551616:Nat):Int) < f:=by omega
        generalize r+f - 18446744073709551616=r2 at *
        rcases hpick with ⟨h1,h2⟩ | ⟨h1,h2,h3⟩
        all_goals
         go_wp2_with (go_at_call 204; refine (hmul _).mono ?_; rintro e w1 ⟨rfl,rfl⟩)
         go_ret;exact ⟨g2,rfl,HQ2.out,HF.out,by omega,hQ2⟩
 · have he:t2=f:=by omega
   have hB:=HTOP.out he;subst he
   go_enter Tryz.func213,Tryz.ntmps213
   go_wp2
   go_quiet (fail)
   have g2':(w.drewN nq).cell? ⟨b1,o1+(m+2),none⟩=some (.int .u64 (t2:Int)):=g2;have hQ:Qt w (w.drewN nq):=(Qt.refl w).drewN _;generalize w.drewN nq=w2 at *
   go_wp2;go_ret;exact ⟨18446744073709551615,rfl,by omega,by omega,by omega,hQ⟩
theorem zero_above {B:Nat} (hB:0 < B) {l:List Nat} {p j:Nat} (h:W.val B l < B^p) (hj:p≤j):l.getD j 0=0:=by
 refine Classical.byContradiction fun hne => ?_;have hl:j < l.length:=by
  refine Classical.byContradiction fun hc=>hne ?_;rw [List.getD_eq_getElem?_getD,List.getElem?_eq_none (by omega)];rfl
 have h1:=W.val_split (B:=B) l j (by omega);rw [drop_at hl] at h1;simp only [W.val] at h1;generalize l.getD j 0=x at *
 have h2:B^j*1≤B^j*(x+B*W.val B (l.drop (j+1))):=Nat.mul_le_mul_left _ (by omega);have h3:B^p≤B^j:=Nat.pow_le_pow_right hB hj;omega
theorem val_zero {B:Nat}:∀ {l:List Nat},(∀ j,l.getD j 0=0)→W.val B l=0
 | [],_=>rfl
 | x :: l,h=>by
  have h0:=h 0;simp at h0;have h1:W.val B l=0:=val_zero fun j=>by have:=h (j+1); simpa using this
  simp [W.val,h0,h1]
theorem drop_getD (l:List Nat) (p j:Nat):(l.drop p).getD j 0=l.getD (p+j) 0:=by
 simp [List.getD_eq_getElem?_getD,List.getElem?_drop]
theorem val_above {B:Nat} {l:List Nat} {p:Nat} (hp:p≤l.length) (h:∀ j,p≤j→l.getD j 0=0):W.val B l=W.val B (l.take p):=by
 rw [W.val_split (B:=B) l p hp,val_zero (l:=l.drop p),Nat.mul_zero,Nat.add_zero];intro j;rw [drop_getD];exact h _ (by omega)
theorem lt_above {B:Nat} {l:List Nat} {p:Nat} (hp:p≤l.length) (hb:W.bnd B l) (h:∀ j,p≤j→l.getD j 0=0):W.val B l < B^p:=by
 rw [val_above hp h];have:=W.val_lt (W.bnd_take hb p);rw [List.length_take,Nat.min_eq_left hp] at this;exact this
theorem val_window {B:Nat} (hB:0 < B) {l:List Nat} {i m:Nat} (hl:i+m≤l.length) (h:W.val B l < B^(i+m)):W.val B l=W.val B (l.take i)+B^i*W.val B ((l.drop i).take m):=by
 rw [W.val_split (B:=B) l i (by omega)];congr 2;refine val_above (by simp; omega) fun j hj => ?_;rw [drop_getD];exact zero_above hB h (by omega)
theorem val_top2 {B:Nat} {l:List Nat} {m:Nat} (hl:l.length=m+2):W.val B l=(l.getD (m+1) 0*B+l.getD m 0)*B^m+W.val B (l.take m):=by
 rw [W.val_split (B:=B) l m (by omega),drop_at (by omega),drop_at (xs:=l) (k:=m+1) (by omega),List.drop_of_length_le (by omega)];simp only [W.val]
 grind
theorem val_top3 {B:Nat} {l:List Nat} {m:Nat} (hl:l.length=m+3):W.val B l=((l.getD (m+2) 0*B+l.getD (m+1) 0)*B+l.getD m 0)*B^m+W.val B (l.take m):=by
 rw [W.val_split (B:=B) l m (by omega),drop_at (by omega),drop_at (xs:=l) (k:=m+1) (by omega),drop_at (xs:=l) (k:=m+1+1) (by omega),List.drop_of_length_le (by omega)];simp only [W.val]
 grind
theorem take_lt {B:Nat} {l:List Nat} (hb:W.bnd B l) {m:Nat} (hm:m≤l.length):W.val B (l.take m) < B^m:=by
 have:=W.val_lt (W.bnd_take hb m);rw [List.length_take,Nat.min_eq_left hm] at this;exact this
theorem div_right {V V' lo P Wn D g q:Nat} (hV:V=lo+P*Wn) (hlo:lo < P) (h1:V'+g*D*P=V) (hq2:Wn < (q+1)*D) (hgq:q≤g):g=q∧V' < P*D:=by
 have h2:g*D*P < P*(Wn+1):=by rw [Nat.mul_add,Nat.mul_one]; omega
 have h3:g*D < Wn+1:=by
  rw [Nat.mul_comm] at h2;exact Nat.lt_of_mul_lt_mul_left h2
 have h4:g < q+1:=Nat.lt_of_mul_lt_mul_right (a:=D) (by omega);have e:g=q:=by omega
 refine ⟨e, ?_⟩;subst e;have h5:P*(Wn+1)≤P*((g+1)*D):=Nat.mul_le_mul_left _ hq2;have h6:P*((g+1)*D)=g*D*P+P*D:=by grind
 rw [Nat.mul_add,Nat.mul_one] at h5;omega
theorem div_back {V V1 V2 lo P Wn D g q T ov:Nat} (hV:V=lo+P*Wn) (hlo:lo < P) (h1:V1+g*D*P=V+T) (hb:V1 < T) (hq1:q*D≤Wn) (hq2:Wn < (q+1)*D) (hg:g≤q+1) (h2:V2+ov*T=V1+D*P) (hb2:V2 < T) (hDP:D*P < T):g=q+1∧V2+q*D*P=V∧V2 < P*D:=by
 have h3:V < g*D*P:=by omega
 have h4:P*Wn < P*(g*D):=by rw [Nat.mul_comm P (g*D)]; omega
 have h5:Wn < g*D:=Nat.lt_of_mul_lt_mul_left h4;have h6:q < g:=by
  refine Classical.byContradiction fun hc => ?_;have:g*D≤q*D:=Nat.mul_le_mul_right _ (by omega);omega
 have e:g=q+1:=by omega
 subst e;have h7:(q+1)*D*P=q*D*P+D*P:=by grind
 have h9:q*D*P≤V:=by
  have:q*D*P≤Wn*P:=Nat.mul_le_mul_right _ hq1;rw [Nat.mul_comm Wn P] at this;omega
 have h8:ov=1:=by
  have h10:V1+D*P=(V - q*D*P)+T:=by omega
  rcases Nat.lt_or_ge ov 1 with h | h
  · have:ov=0:=by omega
    subst this;omega
  · rcases Nat.lt_or_ge 1 ov with h' | h'
    · exfalso;have h11:2*T≤ov*T:=Nat.mul_le_mul_right _ h';omega
    · omega
 subst h8;rw [Nat.one_mul] at h2;have h10:V2+q*D*P=V:=by omega
 refine ⟨rfl,h10, ?_⟩;have h5:P*(Wn+1)≤P*((q+1)*D):=Nat.mul_le_mul_left _ hq2;have h6:P*((q+1)*D)=q*D*P+P*D:=by grind
 rw [Nat.mul_add,Nat.mul_one] at h5;omega
def RetQR (k:IntKind) (B:Nat) (w:World) (q r:Nat) (e:Ending) (w':World):Prop:=∃ a n c xs a' n' c' ys,e = .returned (.tuple #[.slice a n c, .slice a' n' c'])∧Ext w w'∧SlN k w' a n c xs∧Num B xs q∧SlN k w' a' n' c' ys∧Num B ys r∧SrcN w.heap.size (fun _=>False) a n
theorem cmpZ_neg {x y:Nat}:cmpZ (x:Int) (y:Int) < 0↔x < y:=by
 unfold cmpZ;split
 · constructor <;> intro _ <;> omega
 · split
   · constructor <;> intro _ <;> omega
   · constructor <;> intro _ <;> omega
theorem int_divideSimple_small {a b:Option Addr} {n c m d:Nat} {xs ys:List Nat} {x y:Nat} {w:World} (hx:SlN .u64 w a n c xs) (hy:SlN .u64 w b m d ys) (nx:Num 18446744073709551616 xs x) (ny:Num 18446744073709551616 ys y) (hlt:x < y) :
 Calls Tryz.prog 177 #[.slice a n c, .slice b m d] w (RetQR .u64 18446744073709551616 w (x / y) (x % y)):=by
 have HC:Hid (cmpZ (x:Int) (y:Int) < 0):=Lib.hid (cmpZ_neg.2 hlt);have hcw:=fun wx:World=>fun (h1:Ext w wx)=>int_compareWords (hx.ext h1) (hy.ext h1) nx ny;have NX:=Lib.hid nx;have HL:=Lib.hid hlt;clear nx ny hlt
 go_enter Tryz.func177,Tryz.ntmps177
 go_wp2_with fail
 refine (hcw _ (Ext.refl w)).mono ?_;rintro e w1 ⟨rfl,hQ⟩;have hc:=HC.out;generalize cmpZ (x:Int) (y:Int)=cv at *
 clear HC;go_wp2
 go_ret2
 refine ⟨none,0,0,[],a,n,c,xs,rfl,hQ.ext,SlN.nil _ _, ?_,hx.ext hQ.ext, ?_,fun h=>absurd h (by omega)⟩
 · rw [Nat.div_eq_of_lt HL.out]; exact Num.nil _
 · rw [Nat.mod_eq_of_lt HL.out]; exact NX.out
theorem int_divideSimple_word {a b:Option Addr} {n c d:Nat} {xs ys:List Nat} {x y:Nat} {w:World} (hx:SlN .u64 w a n c xs) (hy:SlN .u64 w b 1 d ys) (nx:Num 18446744073709551616 xs x) (ny:Num 18446744073709551616 ys y) (hn:n≤1000000) (hge:y≤x) (h0:0 < y) :
 Calls Tryz.prog 177 #[.slice a n c, .slice b 1 d] w (RetQR .u64 18446744073709551616 w (x / y) (x % y)):=by
 have HC:Hid (¬ cmpZ (x:Int) (y:Int) < 0):=Lib.hid (by rw [cmpZ_neg]; omega);have hcw:=fun wx:World=>fun (h1:Ext w wx)=>int_compareWords (hx.ext h1) (hy.ext h1) nx ny;have NX:=Lib.hid nx;have hyd:ys.getD 0 0=y∧y < 18446744073709551616:=by
  have h1:=ny.val;obtain ⟨z,hz⟩:=List.length_eq_one_iff.1 hy.len;have h2:=ny.bnd z (by rw [hz]; simp);rw [hz] at h1;simp [W.val] at h1;rw [hz];simp;omega
 obtain ⟨hy0,hyb⟩:=hyd;clear nx ny
 go_enter Tryz.func177,Tryz.ntmps177
 go_wp2_with fail
 refine (hcw _ (Ext.refl w)).mono ?_;rintro e w1 ⟨rfl,hQ⟩;have hc:=HC.out;have hc':(0:Int)≤cmpZ (x:Int) (y:Int):=by omega
 generalize cmpZ (x:Int) (y:Int)=cv at *
 clear HC;obtain ⟨b1,o1,rfl,hc1⟩:=(hy.ext hQ.ext).at (j:=0) (by omega);have g1:=hc1 0 (by omega);rw [hy0,Nat.add_zero] at g1;clear hc1
 go_wp2_with fail
 refine (int_divideWord (hx.ext hQ.ext) NX.out.bnd NX.out.val hyb h0 hn).mono ?_;rintro e w2 ⟨a',n',c',zs,rfl,hE2,hz,nz,hsrc⟩;have hmb:x % y < 18446744073709551616:=by have:=Nat.mod_lt x h0; omega
 have hfw:=fun wx:World=>int_fromWord (w:=wx) hmb;obtain ⟨r,hr⟩:∃ r,x % y=r:=⟨_,rfl⟩;rw [hr] at hfw ⊢;have HR:=Lib.hid hr;clear hr hmb
 go_wp2_with fail
 refine (hfw _).mono ?_;rintro e w3 ⟨a3,n3,c3,ys3,rfl,hE3,hy3,ny3⟩;go_wp2
 go_ret2
 exact ⟨a',n',c',zs,a3,n3,c3,ys3,rfl,(hQ.ext.trans hE2).trans hE3,hz.ext hE3,nz,hy3,by rw [HR.out]; exact ny3,hsrc.of hQ.ext.size (fun _ h=>h.elim)⟩
theorem val_last {B:Nat} {l:List Nat} {m:Nat} (hl:l.length=m+1):W.val B l=l.getD m 0*B^m+W.val B (l.take m):=by
 rw [W.val_split (B:=B) l m (by omega),drop_at (by omega),List.drop_of_length_le (by omega)];simp only [W.val]
 grind
theorem shifted_divisor {ys ds:List Nat} {y s m:Nat} (ny:Num 18446744073709551616 ys y) (hl:ys.length=m+1) (hs:s≤63) (h1:9223372036854775808≤ys.getD m 0*2^s) (h2:ys.getD m 0*2^s < 18446744073709551616) (nd:Num 18446744073709551616 ds (y*2^s)):ds.length=m+1∧9223372036854775808≤ds.getD m 0:=by
 have e1:=val_last (B:=18446744073709551616) hl;rw [ny.val] at e1;have b1:=take_lt ny.bnd (m:=m) (by omega);generalize ys.getD m 0=u at *
 generalize W.val 18446744073709551616 (ys.take m)=v at *
 have e2:y*2^s=u*2^s*18446744073709551616^m+v*2^s:=by rw [e1]; grind
 have h3:u*2^s+2^s≤18446744073709551616:=by
  have h4:u < 2^(64 - s):=by
   refine Nat.lt_of_mul_lt_mul_right (a:=2^s) ?_;rw [pow_mul_pow hs];exact h2
  have h5:(u+1)*2^s≤2^(64 - s)*2^s:=Nat.mul_le_mul_right _ h4;rw [pow_mul_pow hs,Nat.add_mul,Nat.one_mul] at h5;exact h5
 have h6:y*2^s < 18446744073709551616^(m+1):=by
  rw [e2,Nat.pow_succ];have h7:v*2^s < 18446744073709551616^m*2^s:=Nat.mul_lt_mul_of_pos_right b1 (Nat.two_pow_pos s);have h8:(u*2^s+2^s)*18446744073709551616^m≤18446744073709551616*18446744073709551616^m:=Nat.mul_le_mul_right _ h3;rw [Nat.add_mul] at h8;rw [Nat.mul_comm (18446744073709551616^m) (2^s)] at h7;rw [Nat.mul_comm (18446744073709551616^m) 18446744073709551616];omega
 have h9:9223372036854775808*18446744073709551616^m≤y*2^s:=by
  rw [e2];exact Nat.le_trans (Nat.mul_le_mul_right _ h1) (Nat.le_add_right _ _)
 have l1:ds.length≤m+1:=W.nrm_len (B:=18446744073709551616) (by omega) nd.nrm (by rw [nd.val]; exact h6);have l2:m+1≤ds.length:=by
  refine Classical.byContradiction fun hc => ?_;have h10:=W.val_lt nd.bnd;rw [nd.val] at h10;have h11:18446744073709551616^ds.length≤18446744073709551616^m:=Nat.pow_le_pow_right (by omega) (by omega);have h12:1*18446744073709551616^m≤9223372036854775808*18446744073709551616^m:=Nat.mul_le_mul_right _ (by omega);rw [Nat.one_mul] at h12;omega
 have l3:ds.length=m+1:=by omega
 refine ⟨l3, ?_⟩;have e3:=val_last (B:=18446744073709551616) l3;rw [nd.val] at e3;have b3:=take_lt nd.bnd (m:=m) (by omega);generalize ds.getD m 0=t at *
 refine Classical.byContradiction fun hc => ?_;have h13:(t+1)*18446744073709551616^m≤9223372036854775808*18446744073709551616^m:=Nat.mul_le_mul_right _ (by omega);rw [Nat.add_mul,Nat.one_mul] at h13;omega
end Go.Proofs.YtlpgonpfjbhmfaaGreatDoor
