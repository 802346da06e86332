/- Part Gan7. -/
import Derived.Test.YtlpgonpfjbhmfaaGreatDoorGan6
import Derived.Laws.BitsAllLaws
import Derived.Lib.ItoaNum
set_option maxRecDepth 100000
set_option maxHeartbeats 100000000
namespace Go.Proofs.YtlpgonpfjbhmfaaGreatDoor
open Go Go.RowKit
theorem lz64_c {x:Nat} (hx:x < 18446744073709551616) (w:World):Calls Tryz.prog 175 #[.int .u64 x] w fun e w'=>e = .returned (.int .i64 (64 - Lib.bitLen x))∧w'=w:=by
 have:=Any.bits_LeadingZeros64 lz64L (x:Int) w (by omega) (by omega);rw [Int.toNat_natCast] at this;exact this
theorem lz_spec {y:Nat} (h0:0 < y) (hy:y < 18446744073709551616):∃ s:Nat,s≤63∧(64 - (Lib.bitLen y:Int))=s∧9223372036854775808≤y*2^s∧y*2^s < 18446744073709551616:=by
 obtain ⟨h1,h2,h3⟩:=Lib.bitLenAux_bounds 64 y (by omega) (by omega);have h4:Lib.bitLenAux 64 y≤64:=Lib.bitLen_le y 64 (by omega) (by omega);refine ⟨64 - Lib.bitLen y, ?_, ?_, ?_, ?_⟩
 · unfold Lib.bitLen; omega
 · unfold Lib.bitLen; omega
 · unfold Lib.bitLen;generalize Lib.bitLenAux 64 y=k at *
   have e:2^(k - 1)*2^(64 - k)=2^63:=by rw [←Nat.pow_add]; congr 1; omega
   have:=Nat.mul_le_mul_right (2^(64 - k)) h2;rw [e] at this;omega
 · unfold Lib.bitLen;generalize Lib.bitLenAux 64 y=k at *
   have e:2^k*2^(64 - k)=2^64:=by rw [←Nat.pow_add]; congr 1; omega
   have:=Nat.mul_lt_mul_of_pos_right h3 (Nat.two_pow_pos (64 - k));rw [e] at this;omega
theorem bits_Div64_zero {lo y:Nat} {w:World} (hy:y < 18446744073709551616) (hlo:lo < 18446744073709551616) (h0:0 < y) :
 Calls Tryz.prog 181 #[.int .u64 0, .int .u64 lo, .int .u64 y] w fun e w'=>e = .returned (.tuple #[.int .u64 ((lo / y:Nat):Int), .int .u64 ((lo % y:Nat):Int)])∧Qt w w':=by
 have hb:((y:Int) == 0)=false:=by simp; omega
 have hq:IntKind.u64.wrap ((lo:Int) / (y:Int))=((lo / y:Nat):Int):=by
  rw [←Int.natCast_ediv];have h1:=Nat.div_le_self lo y;generalize lo / y=q at *
  exact wrap_u64 (by omega) (by omega)
 have hr:(lo:Int) % (y:Int)=((lo % y:Nat):Int):=(Int.natCast_emod _ _).symm;generalize lo / y=q at *
 generalize lo % y=r at *
 go_enter Tryz.func181,Tryz.ntmps181
 go_wp2
 go_quiet (fail)
 go_wp2
 go_ret2
 exact ⟨by rw [←hq,←hr]; rfl,(Qt.refl w).drewN _⟩
theorem div_halves {N y Y U L s u1 u0 Q1 R1 Q0 R0:Nat} (hY:Y=y*2^s) (hL:L=u1*4294967296+u0) (hN:U*18446744073709551616+L=N*2^s) (hQ1:U*4294967296+u1=Q1*Y+R1) (hQ0:R1*4294967296+u0=Q0*Y+R0) (hR0:R0 < Y) :
 N / y=Q1*4294967296+Q0∧N % y=R0 / 2^s:=by
 have hp:0 < 2^s:=Nat.two_pow_pos s;have e:N*2^s=(Q1*4294967296+Q0)*Y+R0:=by
  rw [←hN,hL];have h1:U*18446744073709551616+(u1*4294967296+u0)=(U*4294967296+u1)*4294967296+u0:=by grind
  rw [h1,hQ1];have h2:(Q1*Y+R1)*4294967296+u0=Q1*Y*4294967296+(R1*4294967296+u0):=by grind
  rw [h2,hQ0]
  grind
 subst hY;have hy:0 < y:=by
  rcases Nat.eq_zero_or_pos y with h | h
  · rw [h] at hR0; simp at hR0
  · exact h
 -- the rest is a multiple of the power
 have hd:2^s∣R0:=by
  have h1:2^s∣N*2^s:=Nat.dvd_mul_left _ _;rw [e] at h1;refine (Nat.dvd_add_right ?_).1 h1;exact ⟨(Q1*4294967296+Q0)*y,by grind⟩
 obtain ⟨r,hr⟩:=hd;subst hr;have e2:N=(Q1*4294967296+Q0)*y+r:=by
  apply Nat.eq_of_mul_eq_mul_right hp;rw [e]
  grind
 have hr:r < y:=by
  rw [Nat.mul_comm] at hR0;exact Nat.lt_of_mul_lt_mul_right hR0
 rw [Nat.mul_div_cancel_left _ hp];generalize Q1*4294967296+Q0=q at e2 ⊢;subst e2;refine ⟨?_, ?_⟩
 · rw [Nat.mul_comm,Nat.mul_add_div hy,Nat.div_eq_of_lt hr,Nat.add_zero]
 · rw [Nat.mul_comm,Nat.mul_add_mod,Nat.mod_eq_of_lt hr]
theorem shl_parts {lo s:Nat} (hs:s≤63) (hlo:lo < 18446744073709551616):∃ L V:Nat,lo*2^s=V*18446744073709551616+L∧L < 18446744073709551616∧V=lo / 2^(64 - s)∧V < 2^s∧L=lo*2^s % 18446744073709551616:=by
 have e:2^(64 - s)*2^s=18446744073709551616:=by rw [←Nat.pow_add,show 64 - s+s=64 by omega]
 refine ⟨lo*2^s % 18446744073709551616,lo / 2^(64 - s), ?_,Nat.mod_lt _ (by omega),rfl, ?_,rfl⟩
 · have h1:lo*2^s / 18446744073709551616=lo / 2^(64 - s):=by
    rw [←e,Nat.mul_div_mul_right _ _ (Nat.two_pow_pos s)]
   have h2:=Nat.div_add_mod (lo*2^s) 18446744073709551616;rw [h1,Nat.mul_comm 18446744073709551616] at h2;exact h2.symm
 · rw [Nat.div_lt_iff_lt_mul (Nat.two_pow_pos _),Nat.mul_comm,e];exact hlo
theorem wrap_mod {x M:Nat} (h:x % 18446744073709551616=M):IntKind.u64.wrap (x:Int)=(M:Int):=by
 rw [IntKind.wrap_u64,←h];omega
theorem wrap_sub3 {U u Q Y R:Nat} (h:U*4294967296+u=Q*Y+R) (hR:R < 18446744073709551616):IntKind.u64.wrap (IntKind.u64.wrap (IntKind.u64.wrap ((U:Int)*4294967296)+u) - IntKind.u64.wrap ((Q:Int)*Y))=(R:Int):=by
 have hz:((Q*Y:Nat):Int)=(Q:Int)*Y:=Int.natCast_mul Q Y;rw [←hz];generalize Q * Y=z at *
 simp only [IntKind.wrap_u64];omega
theorem wrap_sub2 {U g y r:Nat} (h:U=g*y+r) (hr:r < 18446744073709551616):IntKind.u64.wrap ((U:Int) - IntKind.u64.wrap ((g:Int)*y))=(r:Int):=by
 have hz:((g*y:Nat):Int)=(g:Int)*y:=Int.natCast_mul g y;rw [←hz];generalize g * y=z at *
 simp only [IntKind.wrap_u64];omega
theorem wrap_nat {x:Int} {n:Nat} (h:x=(n:Int)) (hn:n < 18446744073709551616):IntKind.u64.wrap x=(n:Int):=by
 rw [h];exact wrap_u64 (by omega) (by omega)
theorem bits_Div64_pos {hi lo y:Nat} {w:World} (hy:y < 18446744073709551616) (hlo:lo < 18446744073709551616) (hh:hi < y) (h0:0 < hi) :
 Calls Tryz.prog 181 #[.int .u64 hi, .int .u64 lo, .int .u64 y] w fun e w'=>e = .returned (.tuple #[.int .u64 (((hi*18446744073709551616+lo) / y:Nat):Int), .int .u64 (((hi*18446744073709551616+lo) % y:Nat):Int)])∧Qt w w':=by
 have hb:((y:Int) == 0)=false:=by simp; omega
 have hb2:((hi:Int) == 0)=false:=by simp; omega
 obtain ⟨s,hs,hlz,hY1,hY2⟩:=lz_spec (by omega) hy;obtain ⟨Y,hY⟩:∃ Y,y*2^s=Y:=⟨_,rfl⟩;rw [hY] at hY1 hY2;have e1:IntKind.u64.wrap ((y:Int)*2^s)=(Y:Int):=wrap_nat (by rw [←hY]; push_cast; rfl) hY2;obtain ⟨L,V,hL1,hL2,hV1,hV2,hL3⟩:=shl_parts hs hlo;obtain ⟨H,hH⟩:∃ H,hi*2^s=H:=⟨_,rfl⟩;have hHY:H+2^s≤Y:=by
  rw [←hH,←hY];have:=Nat.mul_le_mul_right (2^s) hh;rw [Nat.succ_mul] at this;exact this
 obtain ⟨U,hU⟩:∃ U,H+V=U:=⟨_,rfl⟩;have e4:IntKind.u64.wrap ((hi:Int)*2^s)=(H:Int):=wrap_nat (by rw [←hH]; push_cast; rfl) (by omega);have e5:bits BinOp.or IntKind.u64 (H:Int) ((lo:Int) / 2^(64 - s))=(U:Int):=by
  have:(lo:Int) / 2^(64 - s)=(V:Int):=by rw [hV1]; push_cast; rfl
  rw [this,u64_or_nat H V (by omega) (by omega),nat_join s H V (by rw [←hH]; exact Nat.mul_mod_left _ _) hV2,hU]
 have e6:IntKind.u64.wrap ((lo:Int)*2^s)=(L:Int):=by
  have:=wrap_mod (x:=lo*2^s) (M:=L) hL3.symm;push_cast at this;exact this
 have hN:U*18446744073709551616+L=(hi*18446744073709551616+lo)*2^s:=by
  rw [←hU,←hH];have h1:(hi*18446744073709551616+lo)*2^s=hi*2^s*18446744073709551616+lo*2^s:=by grind
  rw [h1,hL1]
  grind
 obtain ⟨y1,hy1⟩:∃ y1,Y / 4294967296=y1:=⟨_,rfl⟩;obtain ⟨y0,hy0⟩:∃ y0,Y % 4294967296=y0:=⟨_,rfl⟩;obtain ⟨u1,hu1⟩:∃ u1,L / 4294967296=u1:=⟨_,rfl⟩;obtain ⟨u0,hu0⟩:∃ u0,L % 4294967296=u0:=⟨_,rfl⟩;have e2:(Y:Int) / 4294967296=(y1:Int):=by omega
 have e3:bits BinOp.and IntKind.u64 (Y:Int) 4294967295=(y0:Int):=by
  have:=u64_and_nat Y 4294967295 hY2 (by omega);rw [Nat.and_two_pow_sub_one_eq_mod Y 32] at this;rw [←hy0];exact this
 have e7:(L:Int) / 4294967296=(u1:Int):=by omega
 have e8:bits BinOp.and IntKind.u64 (L:Int) 4294967295=(u0:Int):=by
  have:=u64_and_nat L 4294967295 hL2 (by omega);rw [Nat.and_two_pow_sub_one_eq_mod L 32] at this;rw [←hu0];exact this
 have hUY:U < Y:=by omega
 have hy1b:2147483648≤y1∧y1 < 4294967296:=by omega
 have hy0b:y0 < 4294967296:=by omega
 have hu1b:u1 < 4294967296:=by omega
 have hu0b:u0 < 4294967296:=by omega
 have HY10:Hid (Y=y1*4294967296+y0):=by show _=_; omega
 obtain ⟨Q1,hQ1'⟩:∃ Q1,(U*4294967296+u1) / Y=Q1:=⟨_,rfl⟩;obtain ⟨R1,hR1'⟩:∃ R1,(U*4294967296+u1) % Y=R1:=⟨_,rfl⟩;have hQ1:U*4294967296+u1=Q1*Y+R1:=by
  have:=Nat.div_add_mod (U*4294967296+u1) Y;rw [hQ1',hR1',Nat.mul_comm] at this;exact this.symm
 have hR1:R1 < Y:=by rw [←hR1']; exact Nat.mod_lt _ (by omega)
 obtain ⟨Q0,hQ0'⟩:∃ Q0,(R1*4294967296+u0) / Y=Q0:=⟨_,rfl⟩;obtain ⟨R0,hR0'⟩:∃ R0,(R1*4294967296+u0) % Y=R0:=⟨_,rfl⟩;have hQ0:R1*4294967296+u0=Q0*Y+R0:=by
  have:=Nat.div_add_mod (R1*4294967296+u0) Y;rw [hQ0',hR0',Nat.mul_comm] at this;exact this.symm
 have hR0:R0 < Y:=by rw [←hR0']; exact Nat.mod_lt _ (by omega)
 obtain ⟨f1,f2⟩:=div_halves (N:=hi*18446744073709551616+lo) (y:=y) (Y:=Y) (U:=U) (L:=L) (s:=s) (u1:=u1) (u0:=u0) (Q1:=Q1) (R1:=R1) (Q0:=Q0) (R0:=R0) hY.symm (by omega) hN hQ1 hQ0 hR0;obtain ⟨QQ,hQQ⟩:∃ QQ,Q1*4294967296+Q0=QQ:=⟨_,rfl⟩;obtain ⟨RR,hRR⟩:∃ RR,R0 / 2^s=RR:=⟨_,rfl⟩;rw [hQQ] at f1;rw [hRR] at f2;have F1:=Lib.hid f1;have F2:=Lib.hid f2;have kr:(R0:Int) / 2^s=(RR:Int):=by rw [←hRR]; push_cast; rfl
 have HQ1:=Lib.hid hQ1;have HQ0:=Lib.hid hQ0;have HQ1le:Hid (Q1*(y1*4294967296+y0)≤U*4294967296+u1):=by show _≤_; rw [←HY10.out]; omega
 have HQ1lt:Hid (U*4294967296+u1 < (Q1+1)*(y1*4294967296+y0)):=by show _ < _; rw [←HY10.out,Nat.add_mul]; omega
 have HQ0le:Hid (Q0*(y1*4294967296+y0)≤R1*4294967296+u0):=by show _≤_; rw [←HY10.out]; omega
 have HQ0lt:Hid (R1*4294967296+u0 < (Q0+1)*(y1*4294967296+y0)):=by show _ < _; rw [←HY10.out,Nat.add_mul]; omega
 have HUY:Hid (U < y1*4294967296+y0):=by show _ < _; rw [←HY10.out]; omega
 have HR1Y:Hid (R1 < y1*4294967296+y0):=by show _ < _; rw [←HY10.out]; omega
 have hQ1b:=W.digit_lt (b:=4294967296) (y:=y1*4294967296+y0) (U:=U) (u:=u1) HUY.out (by omega) HQ1le.out;have hQ0b:=W.digit_lt (b:=4294967296) (y:=y1*4294967296+y0) (U:=R1) (u:=u0) HR1Y.out (by omega) HQ0le.out;have kq0:IntKind.u64.wrap ((Q1:Int)*4294967296)=(Q1:Int)*4294967296:=wrap_u64 (by omega) (by omega);have kq:IntKind.u64.wrap ((Q1:Int)*4294967296+(Q0:Int))=(QQ:Int):=wrap_nat (by omega) (by omega);obtain ⟨gU,hgU⟩:∃ gU,U / y1=gU:=⟨_,rfl⟩;obtain ⟨rU,hrU⟩:∃ rU,U % y1=rU:=⟨_,rfl⟩;have k1e:gU*y1+rU=U:=by rw [←hgU,←hrU,Nat.mul_comm]; exact Nat.div_add_mod _ _
 have k1r:rU < y1:=by rw [←hrU]; exact Nat.mod_lt _ (by omega)
 have k1l:gU≤U:=by rw [←hgU]; exact Nat.div_le_self _ _
 have k1:IntKind.u64.wrap ((U:Int) / (y1:Int))=(gU:Int):=wrap_nat (by rw [←hgU]; exact (Int.natCast_ediv _ _).symm) (by omega);have k1':IntKind.u64.wrap ((U:Int).tdiv (y1:Int))=(gU:Int):=by rw [Int.tdiv_eq_ediv_of_nonneg (by omega)]; exact k1
 have k2:IntKind.u64.wrap ((U:Int) - IntKind.u64.wrap ((gU:Int)*(y1:Int)))=(rU:Int):=wrap_sub2 k1e.symm (by omega);have HgU:=Lib.hid k1e;have HgUl:Hid (gU≤4294967297):=by have:=W.guess_le (b:=4294967296) (y1:=y1) (y0:=y0) (U:=U) (by omega) (by omega) (by rw [←HY10.out]; omega); rw [hgU] at this; exact this
 clear k1e k1l hgU hrU;obtain ⟨gR,hgR⟩:∃ gR,R1 / y1=gR:=⟨_,rfl⟩;obtain ⟨rR,hrR⟩:∃ rR,R1 % y1=rR:=⟨_,rfl⟩;have k3e:gR*y1+rR=R1:=by rw [←hgR,←hrR,Nat.mul_comm]; exact Nat.div_add_mod _ _
 have k3r:rR < y1:=by rw [←hrR]; exact Nat.mod_lt _ (by omega)
 have k3l:gR≤R1:=by rw [←hgR]; exact Nat.div_le_self _ _
 have k3:IntKind.u64.wrap ((R1:Int) / (y1:Int))=(gR:Int):=wrap_nat (by rw [←hgR]; exact (Int.natCast_ediv _ _).symm) (by omega);have k3':IntKind.u64.wrap ((R1:Int).tdiv (y1:Int))=(gR:Int):=by rw [Int.tdiv_eq_ediv_of_nonneg (by omega)]; exact k3
 have k4:IntKind.u64.wrap ((R1:Int) - IntKind.u64.wrap ((gR:Int)*(y1:Int)))=(rR:Int):=wrap_sub2 k3e.symm (by omega);have HgR:=Lib.hid k3e;have HgRl:Hid (gR≤4294967297):=by have:=W.guess_le (b:=4294967296) (y1:=y1) (y0:=y0) (U:=R1) (by omega) (by omega) (by rw [←HY10.out]; omega); rw [hgR] at this; exact this
 clear k3e k3l hgR hrR;have k5:=wrap_sub3 (U:=U) (u:=u1) (Q:=Q1) (Y:=Y) (R:=R1) hQ1 (by omega);have k6:=wrap_sub3 (U:=R1) (u:=u0) (Q:=Q0) (Y:=Y) (R:=R0) hQ0 (by omega);rw [f1,f2];clear hL1 hV1 hV2 hL3 hH hHY hU hN hy1 hy0 hu1 hu0 hQ1' hR1' hQ0' hR0' f1 f2 hY
 go_enter Tryz.func181,Tryz.ntmps181
 generalize hK:(4294967296:Int)=K at kq0 kq k5 k6 ⊢;have HK:=Lib.hid hK;clear hK
 go_wp2_with fail
 refine (lz64_c hy _).mono ?_;rintro e w1 ⟨rfl,rfl⟩;rw [hlz];clear hlz;clear hQ1 hQ0;go_wp2
 go_loop [15,16] (fun gv rv=>∃ g r:Nat,gv = .int .u64 g∧rv = .int .u64 r∧Hid (g*y1+r=U)∧Hid (Q1≤g)∧Hid (g≤4294967297∧r < 4294967296)) (fun gv _=>(intOf gv).toNat)
 case atStart=>exact ⟨gU,rU,rfl,rfl,HgU,Lib.hid (W.guess_hi (b:=4294967296) (y1:=y1) (y0:=y0) (U:=U) (u:=u1) (q:=Q1) (g:=gU) (r:=rU) HgU.out HQ1le.out (by omega) (by omega)),Lib.hid ⟨HgUl.out,by omega⟩⟩
 case round =>
  obtain ⟨g,r,rfl,rfl,HG,HQG,HB⟩:=hrel;obtain ⟨hgb,hrb⟩:=HB.out;obtain ⟨p,hp⟩:∃ p,g*y0=p:=⟨_,rfl⟩;obtain ⟨p2,hp2⟩:∃ p2,4294967296*r+u1=p2:=⟨_,rfl⟩;have hwr:IntKind.u64.wrap (K*(r:Int))=K*(r:Int):=by rw [←show (4294967296:Int)=K from HK.out]; exact wrap_u64 (by omega) (by omega)
  have hwp2:IntKind.u64.wrap (K*(r:Int)+(u1:Int))=(p2:Int):=by rw [←show (4294967296:Int)=K from HK.out]; exact wrap_nat (by omega) (by omega)
  have HP:=Lib.hid hp;have HP2:=Lib.hid hp2;clear hp hp2;have HQb:Hid (Q1 < 4294967296):=W.digit_lt (b:=4294967296) (y:=y1*4294967296+y0) (U:=U) (u:=u1) HUY.out (by omega) HQ1le.out;by_cases hc:4294967296≤g∨(g < 4294967296∧p2 < p)
  · have HD:Hid (Q1 < g):=W.guess_down (b:=4294967296) (y1:=y1) (y0:=y0) (U:=U) (u:=u1) HG.out HQ1le.out HQb.out (by rw [HP.out,HP2.out]; omega);obtain ⟨g2,rfl⟩:∃ g2,g=g2+1:=⟨g - 1,by have:=HD.out; omega⟩;have hw1:IntKind.u64.wrap ((g2:Int)+1 - 1)=g2:=wrap_nat (by omega) (by omega);have hw1':IntKind.u64.wrap (g2:Int)=g2:=wrap_nat (by omega) (by omega);obtain ⟨r2,hr2⟩:∃ r2,r+y1=r2:=⟨_,rfl⟩;have hw2:IntKind.u64.wrap ((r:Int)+(y1:Int))=(r2:Int):=wrap_nat (by omega) (by omega);have HG2:Hid (g2*y1+r2=U):=by
     have h1:=HG.out;show _=_;rw [←hr2,←h1]
     grind
    have HQ2:Hid (Q1≤g2):=by have:=HD.out; show _≤_; omega
    have HR2:=Lib.hid hr2;clear hr2;have hpick:K≤(g2:Int)+1∨((g2:Int)+1 < K∧IntKind.u64.wrap (((g2:Int)+1)*(y0:Int))=(p:Int)∧(p2:Int) < p):=by
     have hKK:=HK.out;rcases hc with h | ⟨h1,h2⟩
     · left; omega
     · right;refine ⟨by omega,wrap_nat (by rw [←HP.out]; push_cast; rfl) ?_,by omega⟩;rw [←HP.out];have:(g2+1)*y0≤4294967295*4294967295:=Nat.mul_le_mul (by omega) (by omega);omega
    clear hc;by_cases hov:4294967296≤r2
    · have HF:Hid (g2=Q1):=by
       show _=_;have h1:=W.guess_done (b:=4294967296) (y1:=y1) (y0:=y0) (U:=U) (u:=u1) (q:=Q1) HG2.out HQ1lt.out (W.guess_over hov (by omega) (by omega));have h2:=HQ2.out;omega
      have hF:=HF.out;subst hF;have hovK:K≤(r2:Int):=by have:=HK.out; omega
      rcases hpick with hk | ⟨hk1,hk2,hk3⟩
      all_goals
       go_wp2
       go_loop [18,16] (fun gv rv=>∃ g r:Nat,gv = .int .u64 g∧rv = .int .u64 r∧Hid (g*y1+r=R1)∧Hid (Q0≤g)∧Hid (g≤4294967297∧r < 4294967296)) (fun gv _=>(intOf gv).toNat)
       case atStart=>exact ⟨gR,rR,rfl,rfl,HgR,Lib.hid (W.guess_hi (b:=4294967296) (y1:=y1) (y0:=y0) (U:=R1) (u:=u0) (q:=Q0) (g:=gR) (r:=rR) HgR.out HQ0le.out (by omega) (by omega)),Lib.hid ⟨HgRl.out,by omega⟩⟩
       case round =>
        obtain ⟨g,r,rfl,rfl,HG,HQG,HB⟩:=hrel;obtain ⟨hgb,hrb⟩:=HB.out;obtain ⟨p,hp⟩:∃ p,g*y0=p:=⟨_,rfl⟩;obtain ⟨p2,hp2⟩:∃ p2,4294967296*r+u0=p2:=⟨_,rfl⟩;have hwr:IntKind.u64.wrap (K*(r:Int))=K*(r:Int):=by rw [←show (4294967296:Int)=K from HK.out]; exact wrap_u64 (by omega) (by omega)
        have hwp2:IntKind.u64.wrap (K*(r:Int)+(u0:Int))=(p2:Int):=by rw [←show (4294967296:Int)=K from HK.out]; exact wrap_nat (by omega) (by omega)
        have HP:=Lib.hid hp;have HP2:=Lib.hid hp2;clear hp hp2;have HQb:Hid (Q0 < 4294967296):=W.digit_lt (b:=4294967296) (y:=y1*4294967296+y0) (U:=R1) (u:=u0) HR1Y.out (by omega) HQ0le.out;by_cases hc:4294967296≤g∨(g < 4294967296∧p2 < p)
        · have HD:Hid (Q0 < g):=W.guess_down (b:=4294967296) (y1:=y1) (y0:=y0) (U:=R1) (u:=u0) HG.out HQ0le.out HQb.out (by rw [HP.out,HP2.out]; omega);obtain ⟨g2,rfl⟩:∃ g2,g=g2+1:=⟨g - 1,by have:=HD.out; omega⟩;have hw1:IntKind.u64.wrap ((g2:Int)+1 - 1)=g2:=wrap_nat (by omega) (by omega);have hw1':IntKind.u64.wrap (g2:Int)=g2:=wrap_nat (by omega) (by omega);obtain ⟨r2,hr2⟩:∃ r2,r+y1=r2:=⟨_,rfl⟩;have hw2:IntKind.u64.wrap ((r:Int)+(y1:Int))=(r2:Int):=wrap_nat (by omega) (by omega);have HG2:Hid (g2*y1+r2=R1):=by
           have h1:=HG.out;show _=_;rw [←hr2,←h1]
           grind
          have HQ2:Hid (Q0≤g2):=by have:=HD.out; show _≤_; omega
          have HR2:=Lib.hid hr2;clear hr2;have hpick:K≤(g2:Int)+1∨((g2:Int)+1 < K∧IntKind.u64.wrap (((g2:Int)+1)*(y0:Int))=(p:Int)∧(p2:Int) < p):=by
           have hKK:=HK.out;rcases hc with h | ⟨h1,h2⟩
           · left; omega
           · right;refine ⟨by omega,wrap_nat (by rw [←HP.out]; push_cast; rfl) ?_,by omega⟩;rw [←HP.out];have:(g2+1)*y0≤4294967295*4294967295:=Nat.mul_le_mul (by omega) (by omega);omega
          clear hc;by_cases hov:4294967296≤r2
          · have HF:Hid (g2=Q0):=by
             show _=_;have h1:=W.guess_done (b:=4294967296) (y1:=y1) (y0:=y0) (U:=R1) (u:=u0) (q:=Q0) HG2.out HQ0lt.out (W.guess_over hov (by omega) (by omega));have h2:=HQ2.out;omega
            have hF:=HF.out;subst hF;have hovK:K≤(r2:Int):=by have:=HK.out; omega
            rcases hpick with hk | ⟨hk1,hk2,hk3⟩
            all_goals
             go_wp2
             go_ret2
             exact ⟨rfl,Qt.refl _⟩
          · have hovK:(r2:Int) < K:=by have:=HK.out; omega
            rcases hpick with hk | ⟨hk1,hk2,hk3⟩
            all_goals
             go_wp2;go_round
             case rel=>exact ⟨g2,r2,by go_num,rfl,HG2,HQ2,Lib.hid ⟨by omega,by omega⟩⟩
             case measure=>simp [intOf]
        · have HF:Hid (g=Q0):=by
           show _=_;have h1:=W.guess_done (b:=4294967296) (y1:=y1) (y0:=y0) (U:=R1) (u:=u0) (q:=Q0) HG.out HQ0lt.out (by rw [HP.out,HP2.out]; omega);have h2:=HQG.out;omega
          have hg1:(g:Int) < K:=by have:=HK.out; omega
          have hwp:IntKind.u64.wrap ((g:Int)*(y0:Int))=(p:Int):=by
           refine wrap_nat (by rw [←HP.out]; push_cast; rfl) ?_;rw [←HP.out];have:g*y0≤4294967295*4294967295:=Nat.mul_le_mul (by omega) (by omega);omega
          have hle:(p:Int)≤(p2:Int):=by omega
          have hF:=HF.out;subst hF;clear hc;go_wp2
          go_ret2
          exact ⟨rfl,Qt.refl _⟩
    · have hovK:(r2:Int) < K:=by have:=HK.out; omega
      rcases hpick with hk | ⟨hk1,hk2,hk3⟩
      all_goals
       go_wp2;go_round
       case rel=>exact ⟨g2,r2,by go_num,rfl,HG2,HQ2,Lib.hid ⟨by omega,by omega⟩⟩
       case measure=>simp [intOf]
  · have HF:Hid (g=Q1):=by
     show _=_;have h1:=W.guess_done (b:=4294967296) (y1:=y1) (y0:=y0) (U:=U) (u:=u1) (q:=Q1) HG.out HQ1lt.out (by rw [HP.out,HP2.out]; omega);have h2:=HQG.out;omega
    have hg1:(g:Int) < K:=by have:=HK.out; omega
    have hwp:IntKind.u64.wrap ((g:Int)*(y0:Int))=(p:Int):=by
     refine wrap_nat (by rw [←HP.out]; push_cast; rfl) ?_;rw [←HP.out];have:g*y0≤4294967295*4294967295:=Nat.mul_le_mul (by omega) (by omega);omega
    have hle:(p:Int)≤(p2:Int):=by omega
    have hF:=HF.out;subst hF;clear hc;go_wp2
    go_loop [18,16] (fun gv rv=>∃ g r:Nat,gv = .int .u64 g∧rv = .int .u64 r∧Hid (g*y1+r=R1)∧Hid (Q0≤g)∧Hid (g≤4294967297∧r < 4294967296)) (fun gv _=>(intOf gv).toNat)
    case atStart=>exact ⟨gR,rR,rfl,rfl,HgR,Lib.hid (W.guess_hi (b:=4294967296) (y1:=y1) (y0:=y0) (U:=R1) (u:=u0) (q:=Q0) (g:=gR) (r:=rR) HgR.out HQ0le.out (by omega) (by omega)),Lib.hid ⟨HgRl.out,by omega⟩⟩
    case round =>
     obtain ⟨g,r,rfl,rfl,HG,HQG,HB⟩:=hrel;obtain ⟨hgb,hrb⟩:=HB.out;obtain ⟨p,hp⟩:∃ p,g*y0=p:=⟨_,rfl⟩;obtain ⟨p2,hp2⟩:∃ p2,4294967296*r+u0=p2:=⟨_,rfl⟩;have hwr:IntKind.u64.wrap (K*(r:Int))=K*(r:Int):=by rw [←show (4294967296:Int)=K from HK.out]; exact wrap_u64 (by omega) (by omega)
     have hwp2:IntKind.u64.wrap (K*(r:Int)+(u0:Int))=(p2:Int):=by rw [←show (4294967296:Int)=K from HK.out]; exact wrap_nat (by omega) (by omega)
     have HP:=Lib.hid hp;have HP2:=Lib.hid hp2;clear hp hp2;have HQb:Hid (Q0 < 4294967296):=W.digit_lt (b:=4294967296) (y:=y1*4294967296+y0) (U:=R1) (u:=u0) HR1Y.out (by omega) HQ0le.out;by_cases hc:4294967296≤g∨(g < 4294967296∧p2 < p)
     · have HD:Hid (Q0 < g):=W.guess_down (b:=4294967296) (y1:=y1) (y0:=y0) (U:=R1) (u:=u0) HG.out HQ0le.out HQb.out (by rw [HP.out,HP2.out]; omega);obtain ⟨g2,rfl⟩:∃ g2,g=g2+1:=⟨g - 1,by have:=HD.out; omega⟩;have hw1:IntKind.u64.wrap ((g2:Int)+1 - 1)=g2:=wrap_nat (by omega) (by omega);have hw1':IntKind.u64.wrap (g2:Int)=g2:=wrap_nat (by omega) (by omega);obtain ⟨r2,hr2⟩:∃ r2,r+y1=r2:=⟨_,rfl⟩;have hw2:IntKind.u64.wrap ((r:Int)+(y1:Int))=(r2:Int):=wrap_nat (by omega) (by omega);have HG2:Hid (g2*y1+r2=R1):=by
        have h1:=HG.out;show _=_;rw [←hr2,←h1]
        grind
       have HQ2:Hid (Q0≤g2):=by have:=HD.out; show _≤_; omega
       have HR2:=Lib.hid hr2;clear hr2;have hpick:K≤(g2:Int)+1∨((g2:Int)+1 < K∧IntKind.u64.wrap (((g2:Int)+1)*(y0:Int))=(p:Int)∧(p2:Int) < p):=by
        have hKK:=HK.out;rcases hc with h | ⟨h1,h2⟩
        · left; omega
        · right;refine ⟨by omega,wrap_nat (by rw [←HP.out]; push_cast; rfl) ?_,by omega⟩;rw [←HP.out];have:(g2+1)*y0≤4294967295*4294967295:=Nat.mul_le_mul (by omega) (by omega);omega
       clear hc;by_cases hov:4294967296≤r2
       · have HF:Hid (g2=Q0):=by
          show _=_;have h1:=W.guess_done (b:=4294967296) (y1:=y1) (y0:=y0) (U:=R1) (u:=u0) (q:=Q0) HG2.out HQ0lt.out (W.guess_over hov (by omega) (by omega));have h2:=HQ2.out;omega
         have hF:=HF.out;subst hF;have hovK:K≤(r2:Int):=by have:=HK.out; omega
         rcases hpick with hk | ⟨hk1,hk2,hk3⟩
         all_goals
          go_wp2
          go_ret2
          exact ⟨rfl,Qt.refl _⟩
       · have hovK:(r2:Int) < K:=by have:=HK.out; omega
         rcases hpick with hk | ⟨hk1,hk2,hk3⟩
         all_goals
          go_wp2;go_round
          case rel=>exact ⟨g2,r2,by go_num,rfl,HG2,HQ2,Lib.hid ⟨by omega,by omega⟩⟩
          case measure=>simp [intOf]
     · have HF:Hid (g=Q0):=by
        show _=_;have h1:=W.guess_done (b:=4294967296) (y1:=y1) (y0:=y0) (U:=R1) (u:=u0) (q:=Q0) HG.out HQ0lt.out (by rw [HP.out,HP2.out]; omega);have h2:=HQG.out;omega
       have hg1:(g:Int) < K:=by have:=HK.out; omega
       have hwp:IntKind.u64.wrap ((g:Int)*(y0:Int))=(p:Int):=by
        refine wrap_nat (by rw [←HP.out]; push_cast; rfl) ?_;rw [←HP.out];have:g*y0≤4294967295*4294967295:=Nat.mul_le_mul (by omega) (by omega);omega
       have hle:(p:Int)≤(p2:Int):=by omega
       have hF:=HF.out;subst hF;clear hc;go_wp2
       go_ret2
       exact ⟨rfl,Qt.refl _⟩
theorem bits_Div64 {hi lo y:Nat} {w:World} (hy:y < 18446744073709551616) (hlo:lo < 18446744073709551616) (hh:hi < y) :
 Calls Tryz.prog 181 #[.int .u64 hi, .int .u64 lo, .int .u64 y] w fun e w'=>∃ q r:Nat,e = .returned (.tuple #[.int .u64 (q:Int), .int .u64 (r:Int)])∧q < 18446744073709551616∧r < y∧hi*18446744073709551616+lo=q*y+r∧Qt w w':=by
 rcases Nat.eq_zero_or_pos hi with h0 | h0
 · subst h0;refine (bits_Div64_zero hy hlo hh).mono ?_;rintro e w' ⟨rfl,hq⟩;refine ⟨lo / y,lo % y,rfl, ?_,Nat.mod_lt _ hh, ?_,hq⟩
   · have:=Nat.div_le_self lo y; omega
   · have:=Nat.div_add_mod lo y;rw [Nat.mul_comm] at this;rw [Nat.zero_mul,Nat.zero_add];exact this.symm
 · refine (bits_Div64_pos hy hlo hh h0).mono ?_;rintro e w' ⟨rfl,hq⟩;refine ⟨(hi*18446744073709551616+lo) / y,(hi*18446744073709551616+lo) % y,rfl, ?_,Nat.mod_lt _ (by omega), ?_,hq⟩
   · rw [Nat.div_lt_iff_lt_mul (by omega)];have:(hi+1)*18446744073709551616≤y*18446744073709551616:=Nat.mul_le_mul_right _ hh;omega
   · have:=Nat.div_add_mod (hi*18446744073709551616+lo) y;rw [Nat.mul_comm] at this;exact this.symm
theorem drop_at {xs:List Nat} {k:Nat} (h:k < xs.length):xs.drop k=xs.getD k 0 :: xs.drop (k+1):=by
 rw [List.drop_eq_getElem_cons h,List.getD_eq_getElem?_getD,List.getElem?_eq_getElem h];rfl
theorem drop_set {zs:List Nat} {k q:Nat} (h:k < zs.length):(zs.set k q).drop k=q :: zs.drop (k+1):=by
 rw [drop_at (xs:=zs.set k q) (by simpa using h)];have h1:(zs.set k q).getD k 0=q:=by simp [List.getD_eq_getElem?_getD,h]
 have h2:(zs.set k q).drop (k+1)=zs.drop (k+1):=by rw [List.drop_set]; simp
 rw [h1,h2]
theorem div_step {B:Nat} {xs zs:List Nat} {k q r r' d:Nat} (hx:k < xs.length) (hz:k < zs.length) (h:W.val B (xs.drop (k+1))=W.val B (zs.drop (k+1))*d+r) (e:r*B+xs.getD k 0=q*d+r') :
 W.val B (xs.drop k)=W.val B ((zs.set k q).drop k)*d+r':=by
 rw [drop_at hx,drop_set hz];simp only [W.val];rw [h];generalize xs.getD k 0=x at *
 generalize W.val B (zs.drop (k+1))=Z at *
 have h1:x+B*(Z*d+r)=B*Z*d+(r*B+x):=by grind
 rw [h1,e]
 grind
theorem int_divideWord {a:Option Addr} {n c d:Nat} {xs:List Nat} {x:Nat} {w:World} (hx:SlN .u64 w a n c xs) (bx:W.bnd 18446744073709551616 xs) (hv:W.val 18446744073709551616 xs=x) (hd:d < 18446744073709551616) (h0:0 < d) (hn:n≤1000000) :
 Calls Tryz.prog 212 #[.slice a n c, .int .u64 d] w fun e w'=>∃ a' n' c' ys,e = .returned (.tuple #[.slice a' n' c', .int .u64 ((x % d:Nat):Int)])∧Ext w w'∧SlN .u64 w' a' n' c' ys∧Num 18446744073709551616 ys (x / d)∧SrcN w.heap.size (fun _=>False) a' n':=by
 have HX:=Lib.hid hx.len;have BX:=Lib.hid bx;have HV:=Lib.hid hv;clear bx hv
 go_enter Tryz.func212,Tryz.ntmps212
 go_upto_region 3 with (at_make; refine wl_mk (n:=n) rfl rfl Tryz.underlying88 info_u64 rfl rfl rfl (by omega) (by unfold maxLen; omega) ?_; intro w1 hO1 hE1)
 go_wp2
 go_loopw [7,8] (fun rv iv wr=>∃ (k r:Nat) (zs:List Nat),k≤n∧rv = .int .u64 r∧iv = .int .i64 ((k:Int) - 1)∧r < d∧Ext w wr∧OwnN .u64 wr w.heap.size 143 w.heap.size n n zs∧W.bnd 18446744073709551616 zs∧Hid (W.val 18446744073709551616 (xs.drop k)=W.val 18446744073709551616 (zs.drop k)*d+r)) (fun _ v _=>(intOf v+1).toNat)
 case atStart=>exact ⟨n,0,List.replicate n 0,Nat.le_refl _,rfl,by go_num,h0,hE1,OwnN.of_zeros hO1,fun z hz=>by rw [(List.mem_replicate.1 hz).2]; omega,Lib.hid (by rw [List.drop_of_length_le (by rw [HX.out]; exact Nat.le_refl _),List.drop_of_length_le (by simp)]; simp [W.val])⟩
 case round =>
  clear hO1 hE1;obtain ⟨k,r,zs,hk,rfl,rfl,hr,hE,hz,bz,HE⟩:=hrel;cases k with
  | zero =>
   have hval:x / d=W.val 18446744073709551616 zs∧x % d=r:=by
    have h1:=HE.out;rw [List.drop_zero,List.drop_zero,HV.out] at h1;rw [h1,Nat.mul_comm];exact ⟨by rw [Nat.mul_add_div h0,Nat.div_eq_of_lt hr,Nat.add_zero],by rw [Nat.mul_add_mod,Nat.mod_eq_of_lt hr]⟩
   go_wp2_with fail
   refine (int_trim hz.sl).mono ?_;rintro e w4 ⟨q,rfl,rfl,hq,ht⟩;obtain ⟨t1,t2⟩:=trim_num hz.sl hq ht bz hval.1.symm;go_wp2
   go_ret2
   exact ⟨_,q,_,_,by rw [hval.2]; rfl,hE,t1,t2,fun _ g h=>Or.inl (by cases h; exact Nat.le_refl _)⟩
  | succ k =>
   obtain ⟨b1,o1,rfl,hc1⟩:=(hx.ext hE).at (j:=k) (by omega);have g1:=hc1 k (by omega);have hw0:((k+1:Nat):Int) - 1=k:=by omega
   rw [hw0];have hxk:=W.bnd_at BX.out (i:=k) (by rw [HX.out]; omega);have HST:=Lib.hid (fun q r'=>div_step (B:=18446744073709551616) (xs:=xs) (zs:=zs) (k:=k) (q:=q) (r:=r) (r':=r') (d:=d) (by rw [HX.out]; omega) (by rw [hz.len]; omega) HE.out);generalize xs.getD k 0=u at *
   have hdv:=fun wx:World=>bits_Div64 (w:=wx) (hi:=r) (lo:=u) (y:=d) hd hxk hr;clear hc1
   go_wp2_with fail
   refine (hdv _).mono ?_;rintro e w2 ⟨q,r',rfl,hq,hr',he,hQ⟩;have g3:=(hz.ext hQ.ext).frozen k;have HS:=Lib.hid (HST.out q r' he);have hz2:=hz.ext hQ.ext;have hE2:=hE.trans hQ.ext;have g4:=hz2.cell (i:=k) (by omega);clear he;go_wp2;go_roundw
   case rel=>exact ⟨k,r',zs.set k q,by omega,rfl,by go_num,hr',hE2.setCell (Nat.le_refl _) _,hz2.set k q,W.bnd_set bz hq,HS⟩
   case measure=>simp [intOf]
theorem int_remainderWord {a:Option Addr} {n c d:Nat} {xs:List Nat} {x:Nat} {w:World} (hx:SlN .u64 w a n c xs) (bx:W.bnd 18446744073709551616 xs) (hv:W.val 18446744073709551616 xs=x) (hd:d < 18446744073709551616) (h0:0 < d) (hn:n≤1000000) :
 Calls Tryz.prog 143 #[.slice a n c, .int .u64 d] w fun e w'=>e = .returned (.int .u64 ((x % d:Nat):Int))∧Qt w w':=by
 have HX:=Lib.hid hx.len;have BX:=Lib.hid bx;have HV:=Lib.hid hv;clear bx hv
 go_enter Tryz.func143,Tryz.ntmps143
 go_wp2
 go_loopw [5,6] (fun rv iv wr=>∃ (k r:Nat),k≤n∧rv = .int .u64 r∧iv = .int .i64 ((k:Int) - 1)∧r < d∧Qt w wr∧Hid (W.val 18446744073709551616 (xs.drop k) % d=r)) (fun _ v _=>(intOf v+1).toNat)
 case atStart=>exact ⟨n,0,Nat.le_refl _,rfl,by go_num,h0,Qt.refl _,Lib.hid (by rw [List.drop_of_length_le (by rw [HX.out]; exact Nat.le_refl _)]; simp [W.val])⟩
 case round =>
  obtain ⟨k,r,hk,rfl,rfl,hr,hQ,HE⟩:=hrel;cases k with
  | zero =>
   have hval:x % d=r:=by
    have h1:=HE.out;rw [List.drop_zero,HV.out] at h1;exact h1
   go_wp2;go_ret;exact ⟨by rw [hval]; rfl,hQ⟩
  | succ k =>
   obtain ⟨b1,o1,rfl,hc1⟩:=(hx.ext hQ.ext).at (j:=k) (by omega);have g1:=hc1 k (by omega);have hw0:((k+1:Nat):Int) - 1=k:=by omega
   rw [hw0];have hxk:=W.bnd_at BX.out (i:=k) (by rw [HX.out]; omega);have HST:Hid (∀ q r',r*18446744073709551616+xs.getD k 0=q*d+r'→r' < d→W.val 18446744073709551616 (xs.drop k) % d=r'):=by
    show ∀ q r',r*18446744073709551616+xs.getD k 0=q*d+r'→r' < d→W.val 18446744073709551616 (xs.drop k) % d=r';intro q r' e hr';rw [drop_at (by rw [HX.out]; omega)];simp only [W.val];have h1:=HE.out;have h2:=Nat.div_add_mod (W.val 18446744073709551616 (xs.drop (k+1))) d;rw [h1] at h2;rw [←h2];generalize W.val 18446744073709551616 (xs.drop (k+1)) / d=Z;generalize xs.getD k 0=u at *
    have h3:u+18446744073709551616*(d*Z+r)=d*(18446744073709551616*Z+q)+r':=by grind
    rw [h3,Nat.mul_add_mod,Nat.mod_eq_of_lt hr']
   generalize xs.getD k 0=u at *
   have hdv:=fun wx:World=>bits_Div64 (w:=wx) (hi:=r) (lo:=u) (y:=d) hd hxk hr;clear hc1
   go_wp2_with fail
   refine (hdv _).mono ?_;rintro e w2 ⟨q,r',rfl,hq,hr',he,hQ2⟩;have HS:=Lib.hid (HST.out q r' he hr');clear he;go_wp2;go_roundw
   case rel=>exact ⟨k,r',by omega,rfl,by go_num,hr',hQ.trans hQ2,HS⟩
   case measure=>simp [intOf]
theorem msc_stepO {B:Nat} {l xs:List Nat} {V c k o s c' w:Nat} (hk:o+k < l.length) (hx:k < xs.length) (h:W.val B l+w*W.val B (xs.take k)*B^o=V+c*B^(o+k)) (e:s+xs.getD k 0*w+c=l.getD (o+k) 0+B*c') :
 W.val B (l.set (o+k) s)+w*W.val B (xs.take (k+1))*B^o=V+c'*B^(o+(k+1)):=by
 have h1:=W.val_set (B:=B) (xs:=l) (i:=o+k) (v:=s) hk;have h2:=W.val_take_succ (B:=B) hx;rw [h2,←Nat.add_assoc,Nat.pow_succ];have h3:B^(o+k)=B^o*B^k:=Nat.pow_add _ _ _;rw [h3] at h h1 ⊢;generalize l.getD (o+k) 0=x at *
 generalize xs.getD k 0=y at *
 generalize W.val B (l.set (o+k) s)=a at *
 generalize W.val B l=b at *
 generalize W.val B (xs.take k)=d at *
 generalize B^k=p at *
 generalize B^o=q at *
 grind
theorem msc_word {z u wd cy:Nat} (hz:z < 18446744073709551616) (hu:u < 18446744073709551616) (hw:wd < 18446744073709551616) (hc:cy < 18446744073709551616) :
 u*wd / 18446744073709551616+(u*wd % 18446744073709551616+cy+0) / 18446744073709551616 < 18446744073709551616∧u*wd / 18446744073709551616+(u*wd % 18446744073709551616+cy+0) / 18446744073709551616+(if z < (u*wd % 18446744073709551616+cy+0) % 18446744073709551616+0 then 1 else 0) < 18446744073709551616 ∧
 (z+18446744073709551616 - (u*wd % 18446744073709551616+cy+0) % 18446744073709551616 - 0) % 18446744073709551616+u*wd+cy=z+18446744073709551616*(u*wd / 18446744073709551616+(u*wd % 18446744073709551616+cy+0) / 18446744073709551616+(if z < (u*wd % 18446744073709551616+cy+0) % 18446744073709551616+0 then 1 else 0)):=by
 have:u*wd≤18446744073709551615*18446744073709551615:=Nat.mul_le_mul (by omega) (by omega);generalize u * wd=p at *
 split <;> omega
theorem int_subtractProduct {base g N C o n c' d wd:Nat} {a:Option Addr} {zs xs:List Nat} {w:World} (hz:OwnN .u64 w base 143 g N C zs) (hx:SlN .u64 w a n d xs) (hne:blk a=none∨blk a≠some g) (ho:o+n≤N) (bz:W.bnd 18446744073709551616 zs) (bx:W.bnd 18446744073709551616 xs) (hw:wd < 18446744073709551616) :
 Calls Tryz.prog 214 #[.slice (some ⟨g,o,none⟩) n c', .slice a n d, .int .u64 wd] w fun e w'=>∃ (cy:Nat) (zs':List Nat),e = .returned (.int .u64 cy)∧cy < 18446744073709551616∧w.grownBy w' (some g)∧OwnN .u64 w' base 143 g N C zs'∧W.bnd 18446744073709551616 zs'∧W.val 18446744073709551616 zs'+wd*W.val 18446744073709551616 xs*18446744073709551616^o=W.val 18446744073709551616 zs+cy*18446744073709551616^(o+n)∧(∀ j,o+n≤j→zs'.getD j 0=zs.getD j 0):=by
 have HZ:=Lib.hid hz.len;have HX:=Lib.hid hx.len;have hnn:=hx.le;have BX:=Lib.hid bx;clear bx
 go_enter Tryz.func214,Tryz.ntmps214
 go_wp2
 go_loopw [7,16] (fun cv iv wr=>∃ (k cy:Nat) (ls:List Nat),cv = .int .u64 cy∧iv = .int .i64 k∧k≤n∧cy < 18446744073709551616∧w.grownBy wr (some g)∧OwnN .u64 wr base 143 g N C ls∧W.bnd 18446744073709551616 ls∧Hid (W.val 18446744073709551616 ls+wd*W.val 18446744073709551616 (xs.take k)*18446744073709551616^o=W.val 18446744073709551616 zs+cy*18446744073709551616^(o+k))∧Hid (∀ j,o+n≤j→ls.getD j 0=zs.getD j 0)) (fun _ iv _=>n - (intOf iv).toNat)
 case atStart=>exact ⟨0,0,zs,rfl,rfl,Nat.zero_le _,by omega,grown_self _ _,hz,bz,Lib.hid (by simp [W.val]),Lib.hid (fun _ _=>rfl)⟩
 case round =>
  clear hz bz;obtain ⟨k,cy,ls,rfl,rfl,hk,hcy,hg,hl,bl,HE,HJ⟩:=hrel;by_cases hlt:k < n
  · obtain ⟨b1,o1,rfl,hc1⟩:=(hx.kept hg hne).at (j:=k) hlt;have g1:=hc1 k hlt;have g2:=hl.cell (i:=o+k) (by omega);have g3:=hl.frozen (o+k);have hzk:=W.bnd_at bl (i:=o+k) (by rw [hl.len]; omega);have hxk:=W.bnd_at BX.out (i:=k) (by rw [HX.out]; exact hlt);obtain ⟨m1,m2,m3⟩:=msc_word hzk hxk hw hcy;have HS:=Lib.hid (msc_stepO (B:=18446744073709551616) (l:=ls) (xs:=xs) (k:=k) (o:=o) (w:=wd) (by rw [hl.len]; omega) (by rw [HX.out]; exact hlt) HE.out m3);have hkn:(k:Int) < n:=by omega
    have HJ2:Hid (∀ s j,o+n≤j→(ls.set (o+k) s).getD j 0=zs.getD j 0):=by
     show ∀ s j,o+n≤j→(ls.set (o+k) s).getD j 0=zs.getD j 0;intro s j hj;rw [←HJ.out j hj];have hne:¬ o+k=j:=by omega
     simp [List.getD_eq_getElem?_getD,hne]
    generalize ls.getD (o+k) 0=z at *
    generalize xs.getD k 0=u at *
    have hmul:=mul64_c hxk hw;have hadd1:∀ wx:World,(callFunc 203 #[.int .u64 ((u*wd % 18446744073709551616:Nat):Int), .int .u64 (cy:Int), .int .u64 0]).run Tryz.prog wx = .ok (.value (.tuple #[.int .u64 (((u*wd % 18446744073709551616+cy+0) % 18446744073709551616:Nat):Int), .int .u64 (((u*wd % 18446744073709551616+cy+0) / 18446744073709551616:Nat):Int)])) wx:=fun wx=>add64_run (u*wd % 18446744073709551616) cy 0 (by omega) wx;generalize u * wd / 18446744073709551616=ph at *
    generalize u * wd % 18446744073709551616=pl at *
    generalize hs1:(pl+cy+0) % 18446744073709551616=s1 at *
    generalize hc1':(pl+cy+0) / 18446744073709551616=c1 at *
    have hadd2:∀ wx:World,(callFunc 179 #[.int .u64 (z:Int), .int .u64 (s1:Int), .int .u64 0]).run Tryz.prog wx = .ok (.value (.tuple #[.int .u64 (((z+18446744073709551616 - s1 - 0) % 18446744073709551616:Nat):Int), .int .u64 ((if z < s1+0 then 1 else 0:Nat):Int)])) wx:=fun wx=>sub64_run z s1 0 (by omega) wx;have hs2:(z+18446744073709551616 - s1 - 0) % 18446744073709551616 < 18446744073709551616:=Nat.mod_lt _ (by omega);generalize (z+18446744073709551616 - s1 - 0) % 18446744073709551616=s2 at *
    generalize (if z < s1+0 then 1 else 0)=c2 at *
    have hw1:IntKind.u64.wrap ((ph:Int)+c1)=((ph+c1:Nat):Int):=by rw [wrap_u64 (by omega) (by omega)]; omega
    have hw2:IntKind.u64.wrap (((ph+c1:Nat):Int)+c2)=((ph+c1+c2:Nat):Int):=by rw [wrap_u64 (by omega) (by omega)]; omega
    have hw3:IntKind.u64.wrap ((ph:Int)+(c1:Int)+c2)=((ph+c1+c2:Nat):Int):=by rw [wrap_u64 (by omega) (by omega)]; omega
    clear hc1 hs1 hc1' m3
    go_wp2_with (go_at_call 204; refine (hmul _).mono ?_; rintro e w1 ⟨rfl,rfl⟩)
    go_roundw
    case rel=>exact ⟨k+1,ph+c1+c2,ls.set (o+k) s2,by first | rfl | go_num,by go_num,by omega,m2,grown_set hg _ _,hl.set (o+k) s2,W.bnd_set bl hs2,HS,Lib.hid (HJ2.out s2)⟩
    case measure=>simp [intOf]; omega
  · have ek:k=n:=by omega
    go_wp2;go_ret;have h1:=HE.out;rw [ek,List.take_of_length_le (by rw [HX.out]; exact Nat.le_refl _)] at h1;exact ⟨cy,ls,rfl,hcy,hg,hl,bl,h1,HJ.out⟩
end Go.Proofs.YtlpgonpfjbhmfaaGreatDoor
