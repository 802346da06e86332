/- Part Gav13. -/
import Derived.Test.YtlpgonpfjbhmfaaGreatDoorGav12
set_option maxRecDepth 100000
set_option maxHeartbeats 100000000
namespace Go.Proofs.YtlpgonpfjbhmfaaGreatDoor
open Tryz Go Go.RowKit
variable {odd:Bool} {xs ys zs:List Nat} {cs:List Value} {B base c d k n s x y:Nat} {a b:Option Addr} {e:TypeId} {w wb:World}
theorem AR:Agg prog 184 5:=⟨by kernel_rfl,by kernel_rfl⟩
def Bj (u0 u1 v0 v1:Nat) (odd:Bool):List Value:=[.int .u64 u0, .int .u64 u1, .int .u64 v0, .int .u64 v1, .bool odd]
theorem Cj (u0 u1 v0 v1:Nat) (odd:Bool):∀ v∈Bj u0 u1 v0 v1 odd,v.oneCell'=true:=by
 intro v hv;simp only [Bj,List.mem_cons,List.not_mem_nil,or_false] at hv;rcases hv with rfl | rfl | rfl | rfl | rfl <;> rfl
theorem FG (hs:s≤63):18446744073709551616=2^s*2^(64 - s):=by rw [←Nat.pow_add,show s+(64 - s)=64 by omega]
theorem LY {t1 t0:Nat} (hs:s≤63) (h0:t0 < 18446744073709551616):t1*2^s ||| t0 / 2^(64 - s)=t1*2^s+t0 / 2^(64 - s):=by
 have h:t0 / 2^(64 - s) < 2^s:=by
  rw [Nat.div_lt_iff_lt_mul (Nat.two_pow_pos _),←FG hs];exact h0
 have:=Nat.shiftLeft_add_eq_or_of_lt h t1;rw [Nat.shiftLeft_eq] at this;exact this.symm
def Wk (w:World) (x y:Nat) (e:Ending) (w':World):Prop :=
 ∃ u0 u1 v0 v1 odd,e = .returned (.agg (Bj u0 u1 v0 v1 odd).toArray)∧Ext w w'∧u0 < 18446744073709551616∧u1 < 18446744073709551616∧v0 < 18446744073709551616∧v1 < 18446744073709551616∧(v0=0∨∃ p q,W.Steps x y u0 u1 v0 v1 odd p q)
theorem GG {m:Nat} (hx:SlN .u64 w a n c xs) (hy:SlN .u64 w b m d ys) (nx:Num 18446744073709551616 xs x) (ny:Num 18446744073709551616 ys y) (hn:n≤100000) (hge:y≤x) {nn:Nat} (hn2:n=nn+2) :
 Calls prog 137 #[.slice a n c, .slice b m d] w (Wk w x y):=by
 have HX:=Lib.hid hx.len;have HY:=Lib.hid hy.len;have hmn:m≤n:=by
  refine Classical.byContradiction fun hc => ?_;have:=W.len_lt (B:=18446744073709551616) (by omega) nx.bnd ny.nrm (by rw [HX.out,HY.out]; omega);rw [nx.val,ny.val] at this;omega
 have hxne:xs≠[]:=by intro h; have:=HX.out; rw [h] at this; simp at this; omega
 have htop:0 < xs.getD (nn+1) 0:=by
  have h1:=nx.nrm hxne;rw [List.getLast_eq_getElem] at h1;have h2:xs.length - 1=nn+1:=by rw [HX.out]; omega
  have h3:nn+1 < xs.length:=by rw [HX.out]; omega
  have h4:xs.getD (nn+1) 0=xs[xs.length - 1]'(by omega):=by
   simp [h2,h3]
  omega
 have htb:=W.bnd_at nx.bnd (i:=nn+1) (by rw [HX.out]; omega);have ht0:=W.bnd_at nx.bnd (i:=nn) (by rw [HX.out]; omega);obtain ⟨s,hs,hlz,hY1,hY2⟩:=MS htop htb;have hlz64:=fun wx:World=>Pj htb wx;rw [hlz] at hlz64;obtain ⟨P,hP⟩:∃ P,18446744073709551616^nn*2^(64 - s)=P:=⟨_,rfl⟩;have hP0:0 < P:=by rw [←hP]; exact Nat.mul_pos (Nat.pow_pos (by omega)) (Nat.two_pow_pos _)
 have hA:x / P=xs.getD (nn+1) 0*2^s+xs.getD nn 0 / 2^(64 - s):=by
  rw [←hP];refine W.head_of (FG hs) (Nat.two_pow_pos _) (lo:=W.val 18446744073709551616 (xs.take nn)) ?_ ?_
  · rw [←nx.val];exact Jr (by rw [HX.out]; omega)
  · exact Dx nx.bnd (by rw [HX.out]; omega)
 have hAb:xs.getD (nn+1) 0*2^s+xs.getD nn 0 / 2^(64 - s) < 18446744073709551616:=by
  rw [←LY hs ht0];exact LU hY2 (by have:=Nat.div_le_self (xs.getD nn 0) (2^(64 - s)); omega)
 have hBA:y / P≤x / P:=Nat.div_le_div_right hge;have hB1:m=nn+2→y / P=ys.getD (nn+1) 0*2^s+ys.getD nn 0 / 2^(64 - s):=by
  intro hm;rw [←hP];refine W.head_of (FG hs) (Nat.two_pow_pos _) (lo:=W.val 18446744073709551616 (ys.take nn)) ?_ ?_
  · rw [←ny.val];exact Jr (by rw [HY.out]; omega)
  · exact Dx ny.bnd (by rw [HY.out]; omega)
 have hB2:m=nn+1→y / P=ys.getD nn 0 / 2^(64 - s):=by
  intro hm;rw [←hP]
  have:=W.head_of (t1:=0) (FG hs) (Nat.two_pow_pos _) (a:=y) (t0:=ys.getD nn 0) (M:=18446744073709551616^nn) (lo:=W.val 18446744073709551616 (ys.take nn)) (by
   rw [←ny.val,Nat.zero_mul,Nat.zero_add];have:=GF (B:=18446744073709551616) (l:=ys) (m:=nn) (by rw [HY.out]; omega)
   rw [this]) (Dx ny.bnd (by rw [HY.out]; omega))
  rw [this,Nat.zero_mul,Nat.zero_add]
 have hB3:m≤nn→y / P=0:=by
  intro hm;apply Nat.div_eq_of_lt;have h1:=W.val_lt ny.bnd;rw [ny.val,HY.out] at h1;have h2:18446744073709551616^m≤18446744073709551616^nn:=Nat.pow_le_pow_right (by omega) hm;have h3:18446744073709551616^nn*1≤18446744073709551616^nn*2^(64 - s):=Nat.mul_le_mul_left _ (Nat.two_pow_pos _);omega
 have hS0:=Lib.hid (W.Sim.start hP0 hge);obtain ⟨A,hAe⟩:∃ A,x / P=A:=⟨_,rfl⟩;obtain ⟨Bb,hBe⟩:∃ Bb,y / P=Bb:=⟨_,rfl⟩;rw [hAe,hBe] at hS0;rw [hAe] at hA hBA;rw [hBe] at hBA hB1 hB2 hB3;generalize x % P=α at *
 generalize y % P=β at *
 clear hAe hBe hP hP0 hxne;have hAb2:A < 18446744073709551616:=by rw [hA]; exact hAb
 have hBb2:Bb < 18446744073709551616:=by omega
 obtain ⟨b1,o1,rfl,hc1⟩:=hx.at (j:=0) (by omega);have g1:=hc1 (nn+1) (by omega);have g0:=hc1 nn (by omega);have fA:bits BinOp.or IntKind.u64 ((xs.getD (nn+1) 0*2^s:Nat):Int) ((xs.getD nn 0 / 2^(64 - s):Nat):Int)=(A:Int):=by
  rw [u64_or_nat _ _ hY2 (by have:=Nat.div_le_self (xs.getD nn 0) (2^(64 - s)); omega),LY hs ht0,hA]
 have fA1:IntKind.u64.wrap (((xs.getD (nn+1) 0:Nat):Int)*2^s)=((xs.getD (nn+1) 0*2^s:Nat):Int):=Ah (by push_cast; rfl) hY2;have fA2:((xs.getD nn 0:Nat):Int) / 2^(64 - s)=((xs.getD nn 0 / 2^(64 - s):Nat):Int):=by push_cast; rfl
 generalize xs.getD nn 0 / 2^(64 - s)=q0 at *
 generalize xs.getD (nn+1) 0 * 2^s=q1 at *
 generalize xs.getD (nn+1) 0=t1 at *
 generalize xs.getD nn 0=t0 at *
 have hw1:IntKind.i64.wrap ((n:Int) - 1)=((nn+1:Nat):Int):=by rw [show (n:Int) - 1=((nn+1:Nat):Int) by omega]; exact IntWalk.i64_in _ (by omega)
 have hw2:IntKind.i64.wrap ((n:Int) - 2)=((nn:Nat):Int):=by rw [show (n:Int) - 2=((nn:Nat):Int) by omega]; exact IntWalk.i64_in _ (by omega)
 have hl1:((nn+1:Nat):Int) < (n:Int):=by omega
 have hl2:((nn:Nat):Int) < (n:Int):=by omega
 have hws:IntKind.u64.wrap (64 - (s:Int))=((64 - s:Nat):Int):=by rw [IntKind.wrap_u64]; omega
 have HN:Hid (n=nn+2):=Lib.hid hn2;obtain ⟨N1,hN1⟩:∃ N1,nn+1=N1:=⟨_,rfl⟩;rw [hN1] at g1 hw1 hl1;have HN1:=Lib.hid hN1;clear hc1 hlz hA hAb hY1 htop hn2 hN1
 go_enter func137,ntmps137
 go_upto_region 1 with (fail)
 refine Bq ?_;intro w0 hE0 hR0 hz0;have gg1:=hE0.cell g1;have gg0:=hE0.cell g0;have hy0:=hy.ext hE0;clear g1 g0 hx hy
 go_wp2_with fail
 refine (hlz64 _).mono ?_;rintro e w2 ⟨rfl,rfl⟩;go_wp2
 go_quiet (fail)
 have hE1:=hE0.drewN nq;have hR1:=hR0.drewN nq;have hy1:=hy0.ext ((Ext.refl w2).drewN nq);have hz1:(w2.drewN nq).heap.size=w.heap.size+1:=hz0;generalize w2.drewN nq=w3 at *
 clear hy0 hE0 hR0 hz0 gg1 gg0 fA fA1 fA2 hlz64;have hz1':w.heap.size < w3.heap.size:=by omega
 have HZ1:=Lib.hid hz1;clear hz1;have hcase:m=nn+2∨m=nn+1∨m≤nn:=by have:=HN.out; omega
 rcases hcase with hm | hm | hm
 · obtain ⟨b2,o2,rfl,hc2⟩:=hy1.at (j:=0) (by omega);have e1:=hB1 hm;have k1:=W.bnd_at ny.bnd (i:=nn+1) (by rw [HY.out]; omega);have k0:=W.bnd_at ny.bnd (i:=nn) (by rw [HY.out]; omega);have g1:=hc2 (nn+1) (by omega);have g0:=hc2 nn (by omega);rw [HN1.out] at g1;have hY3:ys.getD (nn+1) 0*2^s < 18446744073709551616:=by
    have h1:ys.getD (nn+1) 0*2^s≤Bb:=by rw [e1]; exact Nat.le_add_right _ _
    omega
   have fA:bits BinOp.or IntKind.u64 ((ys.getD (nn+1) 0*2^s:Nat):Int) ((ys.getD nn 0 / 2^(64 - s):Nat):Int)=(Bb:Int):=by
    rw [u64_or_nat _ _ hY3 (by have:=Nat.div_le_self (ys.getD nn 0) (2^(64 - s)); omega),LY hs k0,e1]
   have fA1:IntKind.u64.wrap (((ys.getD (nn+1) 0:Nat):Int)*2^s)=((ys.getD (nn+1) 0*2^s:Nat):Int):=Ah (by push_cast; rfl) hY3;have fA2:((ys.getD nn 0:Nat):Int) / 2^(64 - s)=((ys.getD nn 0 / 2^(64 - s):Nat):Int):=by push_cast; rfl
   rw [HN1.out] at fA fA1;clear e1 hY3 hB1 hB2 hB3;generalize ys.getD nn 0 / 2^(64 - s)=p0 at *
   generalize ys.getD N1 0 * 2^s=p1 at *
   generalize ys.getD N1 0=y1 at *
   generalize ys.getD nn 0=y0 at *
   have hmb:((m:Int) == (n:Int))=true:=by have:=HN.out; simp; omega
   have hl3:((N1:Nat):Int) < (m:Int):=by have:=HN1.out; omega
   have hl4:((nn:Nat):Int) < (m:Int):=by omega
   clear hm hc2;go_wp2
   go_quiet (fail)
   go_upto_region 10 with (fail)
   have hE2:=hE1.drewN nq;have hR2:=hR1.drewN nq;have hz2:w.heap.size < (w3.drewN nq).heap.size:=hz1';generalize w3.drewN nq=w4 at *
   clear g1 g0 fA fA1 fA2 hmb hl3 hl4 k0 k1 hE1 hR1 hz1' hy1;go_wp2;refine Bq ?_;intro w5 hE5 hS5 hz5;have hR5:Arr w5 w.heap.size 184 (Bj 0 0 0 0 false):=hR2.ext hE5;have hS6:Arr w5 w4.heap.size 184 (Bj 0 1 0 0 false):=hS5;have hE6:=hE2.trans hE5;clear hR2 hS5 hE2 hE5;generalize hS:w4.heap.size=S at *
   have HSz:=Lib.hid hS;clear hS hz5
   go_loopw [7,8,10,11] (fun fv gv uv vv wr=>∃ (f g u0 u1 u2 v0 v1 v2:Nat) (odd:Bool),fv = .int .u64 f∧gv = .int .u64 g∧uv = .int .u64 u2∧vv = .int .u64 v2∧Ext w wr∧Arr wr w.heap.size 184 (Bj 0 0 0 0 false)∧Arr wr S 184 (Bj u0 u1 v0 v1 odd)∧Hid (W.Sim x y A Bb P α β f g u0 u1 u2 v0 v1 v2 odd)∧(f < 18446744073709551616∧g < 18446744073709551616)∧(u0 < 18446744073709551616∧u1 < 18446744073709551616∧u2 < 18446744073709551616)∧(v0 < 18446744073709551616∧v1 < 18446744073709551616∧v2 < 18446744073709551616)) (fun _ gv _ _ _=>(intOf gv).toNat)
   case atStart=>exact ⟨A,Bb,0,1,0,0,0,1,false,rfl,rfl,rfl,rfl,hE6,hR5,hS6,hS0,⟨by omega,by omega⟩,⟨by omega,by omega,by omega⟩,⟨by omega,by omega,by omega⟩⟩
   case round =>
    clear hE6 hR5 hS6 hS0;obtain ⟨f,g,u0,u1,u2,v0,v1,v2,odd,rfl,rfl,rfl,rfl,hE,hR,hS,HS,⟨hf,hg⟩,⟨hu0,hu1,hu2⟩,⟨hv0,hv1,hv2⟩⟩:=hrel;have hv2p:=HS.out.leh.v2p;have hgf:=HS.out.leh.gf;have hfin:(v0=0∨∃ p q,W.Steps x y u0 u1 v0 v1 odd p q):=HS.out.good;have HFIN:=Lib.hid hfin;clear hfin;have s0:=hS.c 0 rfl;have s1:=hS.c 1 rfl;have s2:=hS.c 2 rfl;have s3:=hS.c 3 rfl;have s4:=hS.c 4 rfl;by_cases hc1:v2≤g
    · obtain ⟨k1,k2,k3⟩:=HS.out.bound (by omega);have hww:IntKind.u64.wrap ((v1:Int)+v2)=((v1+v2:Nat):Int):=Ah (by push_cast; rfl) (by omega);have hww2:IntKind.u64.wrap ((f:Int) - g)=((f - g:Nat):Int):=Ah (by omega) (by omega);have hle:(v2:Int)≤(g:Int):=by omega
      by_cases hc2:v1+v2≤f - g
      · obtain ⟨HS2,kv,ku,hlt⟩:=HS.out.step hc1 hc2;have hg0:((g:Int) == 0)=false:=by simp; omega
        have hquo:(f:Int).tdiv g=((f / g:Nat):Int):=by rw [Int.tdiv_eq_ediv_of_nonneg (by omega)]; push_cast; rfl
        have hquo':(f:Int) / g=((f / g:Nat):Int):=by push_cast; rfl
        have hrem:(f:Int).tmod g=((f % g:Nat):Int):=by rw [Int.tmod_eq_emod_of_nonneg (by omega)]; push_cast; rfl
        have hrem':(f:Int) % g=((f % g:Nat):Int):=by push_cast; rfl
        have hle2:((v1+v2:Nat):Int)≤((f - g:Nat):Int):=by omega
        have HS3:=Lib.hid HS2;have hqf:f / g≤f:=Nat.div_le_self _ _;clear HS2 HS HFIN;generalize f / g=q at *
        generalize f % g=r at *
        have hwq:IntKind.u64.wrap (q:Int)=(q:Int):=Ah rfl (by omega);have m1:IntKind.u64.wrap ((q:Int)*u2)=((q*u2:Nat):Int):=Ah (by push_cast; rfl) (by omega);have m2:IntKind.u64.wrap ((q:Int)*v2)=((q*v2:Nat):Int):=Ah (by push_cast; rfl) (by omega);have m3:IntKind.u64.wrap ((u1:Int)+((q*u2:Nat):Int))=((u1+q*u2:Nat):Int):=Ah (by omega) (by omega);have m4:IntKind.u64.wrap ((v1:Int)+((q*v2:Nat):Int))=((v1+q*v2:Nat):Int):=Ah (by omega) (by omega);generalize hU:u1+q * u2=U at *
        generalize hV:v1+q * v2=V at *
        generalize q * u2=qu at *
        generalize q * v2=qv at *
        generalize v1+v2=vs at *
        generalize f - g=fg at *
        clear hU hV hqf;go_wp2
        go_quiet (fail)
        have hSq:=hS.drewN nq;have hRq:=hR.drewN nq;have hEq:=hE.drewN nq;have t0:(wr.drewN nq).cell? ⟨S,0,none⟩=_:=s0;have t1:(wr.drewN nq).cell? ⟨S,1,none⟩=_:=s1;have t2:(wr.drewN nq).cell? ⟨S,2,none⟩=_:=s2;have t3:(wr.drewN nq).cell? ⟨S,3,none⟩=_:=s3;have t4:(wr.drewN nq).cell? ⟨S,4,none⟩=_:=s4;generalize wr.drewN nq=wq at *
        clear s0 s1 s2 s3 s4 hS hR hE;have hS7:=((((hSq.set 0 (.int .u64 u1)).set 1 (.int .u64 u2)).set 2 (.int .u64 v1)).set 3 (.int .u64 v2)).set 4 (.bool (!odd));have hR7:=((((hRq.far (p:=⟨S,0,none⟩) (by show w.heap.size≠S; omega) (.int .u64 u1)).far (p:=⟨S,1,none⟩) (by show w.heap.size≠S; omega) (.int .u64 u2)).far (p:=⟨S,2,none⟩) (by show w.heap.size≠S; omega) (.int .u64 v1)).far (p:=⟨S,3,none⟩) (by show w.heap.size≠S; omega) (.int .u64 v2)).far (p:=⟨S,4,none⟩) (by show w.heap.size≠S; omega) (.bool (!odd))
        have hE7:=((((hEq.setCell (p:=⟨S,0,none⟩) (by show w.heap.size≤S; omega) (.int .u64 u1)).setCell (p:=⟨S,1,none⟩) (by show w.heap.size≤S; omega) (.int .u64 u2)).setCell (p:=⟨S,2,none⟩) (by show w.heap.size≤S; omega) (.int .u64 v1)).setCell (p:=⟨S,3,none⟩) (by show w.heap.size≤S; omega) (.int .u64 v2)).setCell (p:=⟨S,4,none⟩) (by show w.heap.size≤S; omega) (.bool (!odd));have z0:=hSq.frozen 0;have z1:=hSq.frozen 1;have z2:=hSq.frozen 2;have z3:=hSq.frozen 3;have z4:=hSq.frozen 4;go_wp2;go_roundw
        case rel=>exact ⟨g,r,u1,u2,U,v1,v2,V,!odd,rfl,rfl,rfl,rfl,hE7,hR7,hS7,HS3,⟨hg,by omega⟩,⟨hu1,hu2,by omega⟩,⟨hv1,hv2,by omega⟩⟩
        case measure=>simp [intOf]; omega
      · have hgt:¬ (((v1+v2:Nat):Int)≤((f - g:Nat):Int)):=by omega
        have hgt2:((f - g:Nat):Int) < ((v1+v2:Nat):Int):=by omega
        have hgt3:decide (v1+v2≤f - g)=false:=by simp; omega
        generalize v1+v2=vs at *
        generalize f - g=fg at *
        clear hc2 HS
        go_upto_region 19 with (fail)
        go_wp2_with (first
         | (refine A5 rfl rfl AR rfl hS ?_)
         | (refine Aa rfl rfl rfl rfl rfl AR hR rfl (Cj _ _ _ _ _) ?_; intro w9 hB9 hg9))
        refine bodyPost_ret (v := .agg (Bj u0 u1 v0 v1 odd).toArray) (Al rfl AR rfl hB9) rfl ⟨u0,u1,v0,v1,odd,rfl,hE.grownR hg9 (lrf _),hu0,hu1,hv0,hv1,HFIN.out⟩
    · have hgt:¬ ((v2:Int)≤(g:Int)):=by omega
      have hgt2:(g:Int) < (v2:Int):=by omega
      clear hc1 HS
      go_upto_region 19 with (fail)
      go_wp2_with (first
       | (refine A5 rfl rfl AR rfl hS ?_)
       | (refine Aa rfl rfl rfl rfl rfl AR hR rfl (Cj _ _ _ _ _) ?_; intro w9 hB9 hg9))
      refine bodyPost_ret (v := .agg (Bj u0 u1 v0 v1 odd).toArray) (Al rfl AR rfl hB9) rfl ⟨u0,u1,v0,v1,odd,rfl,hE.grownR hg9 (lrf _),hu0,hu1,hv0,hv1,HFIN.out⟩
 · obtain ⟨b2,o2,rfl,hc2⟩:=hy1.at (j:=0) (by omega);have e1:=hB2 hm;have g0:=hc2 nn (by omega);have fA2:((ys.getD nn 0:Nat):Int) / 2^(64 - s)=(Bb:Int):=by rw [e1]; push_cast; rfl
   clear e1 hB1 hB2 hB3;generalize ys.getD nn 0=y0 at *
   have hmb:((m:Int) == (n:Int))=false:=by have:=HN.out; simp; omega
   have hmb2:((m:Int) == ((N1:Nat):Int))=true:=by have:=HN1.out; simp; omega
   have hl4:((nn:Nat):Int) < (m:Int):=by omega
   clear hm hc2
   go_upto_region 10 with (fail)
   obtain ⟨w4,hw4⟩:∃ w4,w3=w4:=⟨_,rfl⟩;subst hw4;have hE2:=hE1;have hR2:=hR1;have hz2:=hz1';clear g0 fA2 hmb hmb2 hl4 hE1 hR1 hz1' hy1;go_wp2;refine Bq ?_;intro w5 hE5 hS5 hz5;have hR5:Arr w5 w.heap.size 184 (Bj 0 0 0 0 false):=hR2.ext hE5;have hS6:Arr w5 w3.heap.size 184 (Bj 0 1 0 0 false):=hS5;have hE6:=hE2.trans hE5;clear hR2 hS5 hE2 hE5;generalize hS:w3.heap.size=S at *
   have HSz:=Lib.hid hS;clear hS hz5
   go_loopw [7,8,10,11] (fun fv gv uv vv wr=>∃ (f g u0 u1 u2 v0 v1 v2:Nat) (odd:Bool),fv = .int .u64 f∧gv = .int .u64 g∧uv = .int .u64 u2∧vv = .int .u64 v2∧Ext w wr∧Arr wr w.heap.size 184 (Bj 0 0 0 0 false)∧Arr wr S 184 (Bj u0 u1 v0 v1 odd)∧Hid (W.Sim x y A Bb P α β f g u0 u1 u2 v0 v1 v2 odd)∧(f < 18446744073709551616∧g < 18446744073709551616)∧(u0 < 18446744073709551616∧u1 < 18446744073709551616∧u2 < 18446744073709551616)∧(v0 < 18446744073709551616∧v1 < 18446744073709551616∧v2 < 18446744073709551616)) (fun _ gv _ _ _=>(intOf gv).toNat)
   case atStart=>exact ⟨A,Bb,0,1,0,0,0,1,false,rfl,rfl,rfl,rfl,hE6,hR5,hS6,hS0,⟨by omega,by omega⟩,⟨by omega,by omega,by omega⟩,⟨by omega,by omega,by omega⟩⟩
   case round =>
    clear hE6 hR5 hS6 hS0;obtain ⟨f,g,u0,u1,u2,v0,v1,v2,odd,rfl,rfl,rfl,rfl,hE,hR,hS,HS,⟨hf,hg⟩,⟨hu0,hu1,hu2⟩,⟨hv0,hv1,hv2⟩⟩:=hrel;have hv2p:=HS.out.leh.v2p;have hgf:=HS.out.leh.gf;have hfin:(v0=0∨∃ p q,W.Steps x y u0 u1 v0 v1 odd p q):=HS.out.good;have HFIN:=Lib.hid hfin;clear hfin;have s0:=hS.c 0 rfl;have s1:=hS.c 1 rfl;have s2:=hS.c 2 rfl;have s3:=hS.c 3 rfl;have s4:=hS.c 4 rfl;by_cases hc1:v2≤g
    · obtain ⟨k1,k2,k3⟩:=HS.out.bound (by omega);have hww:IntKind.u64.wrap ((v1:Int)+v2)=((v1+v2:Nat):Int):=Ah (by push_cast; rfl) (by omega);have hww2:IntKind.u64.wrap ((f:Int) - g)=((f - g:Nat):Int):=Ah (by omega) (by omega);have hle:(v2:Int)≤(g:Int):=by omega
      by_cases hc2:v1+v2≤f - g
      · obtain ⟨HS2,kv,ku,hlt⟩:=HS.out.step hc1 hc2;have hg0:((g:Int) == 0)=false:=by simp; omega
        have hquo:(f:Int).tdiv g=((f / g:Nat):Int):=by rw [Int.tdiv_eq_ediv_of_nonneg (by omega)]; push_cast; rfl
        have hquo':(f:Int) / g=((f / g:Nat):Int):=by push_cast; rfl
        have hrem:(f:Int).tmod g=((f % g:Nat):Int):=by rw [Int.tmod_eq_emod_of_nonneg (by omega)]; push_cast; rfl
        have hrem':(f:Int) % g=((f % g:Nat):Int):=by push_cast; rfl
        have hle2:((v1+v2:Nat):Int)≤((f - g:Nat):Int):=by omega
        have HS3:=Lib.hid HS2;have hqf:f / g≤f:=Nat.div_le_self _ _;clear HS2 HS HFIN;generalize f / g=q at *
        generalize f % g=r at *
        have hwq:IntKind.u64.wrap (q:Int)=(q:Int):=Ah rfl (by omega);have m1:IntKind.u64.wrap ((q:Int)*u2)=((q*u2:Nat):Int):=Ah (by push_cast; rfl) (by omega);have m2:IntKind.u64.wrap ((q:Int)*v2)=((q*v2:Nat):Int):=Ah (by push_cast; rfl) (by omega);have m3:IntKind.u64.wrap ((u1:Int)+((q*u2:Nat):Int))=((u1+q*u2:Nat):Int):=Ah (by omega) (by omega);have m4:IntKind.u64.wrap ((v1:Int)+((q*v2:Nat):Int))=((v1+q*v2:Nat):Int):=Ah (by omega) (by omega);generalize hU:u1+q * u2=U at *
        generalize hV:v1+q * v2=V at *
        generalize q * u2=qu at *
        generalize q * v2=qv at *
        generalize v1+v2=vs at *
        generalize f - g=fg at *
        clear hU hV hqf;go_wp2
        go_quiet (fail)
        have hSq:=hS.drewN nq;have hRq:=hR.drewN nq;have hEq:=hE.drewN nq;have t0:(wr.drewN nq).cell? ⟨S,0,none⟩=_:=s0;have t1:(wr.drewN nq).cell? ⟨S,1,none⟩=_:=s1;have t2:(wr.drewN nq).cell? ⟨S,2,none⟩=_:=s2;have t3:(wr.drewN nq).cell? ⟨S,3,none⟩=_:=s3;have t4:(wr.drewN nq).cell? ⟨S,4,none⟩=_:=s4;generalize wr.drewN nq=wq at *
        clear s0 s1 s2 s3 s4 hS hR hE;have hS7:=((((hSq.set 0 (.int .u64 u1)).set 1 (.int .u64 u2)).set 2 (.int .u64 v1)).set 3 (.int .u64 v2)).set 4 (.bool (!odd));have hR7:=((((hRq.far (p:=⟨S,0,none⟩) (by show w.heap.size≠S; omega) (.int .u64 u1)).far (p:=⟨S,1,none⟩) (by show w.heap.size≠S; omega) (.int .u64 u2)).far (p:=⟨S,2,none⟩) (by show w.heap.size≠S; omega) (.int .u64 v1)).far (p:=⟨S,3,none⟩) (by show w.heap.size≠S; omega) (.int .u64 v2)).far (p:=⟨S,4,none⟩) (by show w.heap.size≠S; omega) (.bool (!odd))
        have hE7:=((((hEq.setCell (p:=⟨S,0,none⟩) (by show w.heap.size≤S; omega) (.int .u64 u1)).setCell (p:=⟨S,1,none⟩) (by show w.heap.size≤S; omega) (.int .u64 u2)).setCell (p:=⟨S,2,none⟩) (by show w.heap.size≤S; omega) (.int .u64 v1)).setCell (p:=⟨S,3,none⟩) (by show w.heap.size≤S; omega) (.int .u64 v2)).setCell (p:=⟨S,4,none⟩) (by show w.heap.size≤S; omega) (.bool (!odd));have z0:=hSq.frozen 0;have z1:=hSq.frozen 1;have z2:=hSq.frozen 2;have z3:=hSq.frozen 3;have z4:=hSq.frozen 4;go_wp2;go_roundw
        case rel=>exact ⟨g,r,u1,u2,U,v1,v2,V,!odd,rfl,rfl,rfl,rfl,hE7,hR7,hS7,HS3,⟨hg,by omega⟩,⟨hu1,hu2,by omega⟩,⟨hv1,hv2,by omega⟩⟩
        case measure=>simp [intOf]; omega
      · have hgt:¬ (((v1+v2:Nat):Int)≤((f - g:Nat):Int)):=by omega
        have hgt2:((f - g:Nat):Int) < ((v1+v2:Nat):Int):=by omega
        have hgt3:decide (v1+v2≤f - g)=false:=by simp; omega
        generalize v1+v2=vs at *
        generalize f - g=fg at *
        clear hc2 HS
        go_upto_region 19 with (fail)
        go_wp2_with (first
         | (refine A5 rfl rfl AR rfl hS ?_)
         | (refine Aa rfl rfl rfl rfl rfl AR hR rfl (Cj _ _ _ _ _) ?_; intro w9 hB9 hg9))
        refine bodyPost_ret (v := .agg (Bj u0 u1 v0 v1 odd).toArray) (Al rfl AR rfl hB9) rfl ⟨u0,u1,v0,v1,odd,rfl,hE.grownR hg9 (lrf _),hu0,hu1,hv0,hv1,HFIN.out⟩
    · have hgt:¬ ((v2:Int)≤(g:Int)):=by omega
      have hgt2:(g:Int) < (v2:Int):=by omega
      clear hc1 HS
      go_upto_region 19 with (fail)
      go_wp2_with (first
       | (refine A5 rfl rfl AR rfl hS ?_)
       | (refine Aa rfl rfl rfl rfl rfl AR hR rfl (Cj _ _ _ _ _) ?_; intro w9 hB9 hg9))
      refine bodyPost_ret (v := .agg (Bj u0 u1 v0 v1 odd).toArray) (Al rfl AR rfl hB9) rfl ⟨u0,u1,v0,v1,odd,rfl,hE.grownR hg9 (lrf _),hu0,hu1,hv0,hv1,HFIN.out⟩
 · have e1:=hB3 hm;subst e1;clear hB1 hB2 hB3;have hmb:((m:Int) == (n:Int))=false:=by have:=HN.out; simp; omega
   have hmb2:((m:Int) == ((N1:Nat):Int))=false:=by have:=HN1.out; simp; omega
   clear hm
   go_upto_region 10 with (fail)
   have hE2:=hE1;have hR2:=hR1;have hz2:=hz1';clear hmb hmb2 hE1 hR1 hz1' hy1;go_wp2;refine Bq ?_;intro w5 hE5 hS5 hz5;have hR5:Arr w5 w.heap.size 184 (Bj 0 0 0 0 false):=hR2.ext hE5;have hS6:Arr w5 w3.heap.size 184 (Bj 0 1 0 0 false):=hS5;have hE6:=hE2.trans hE5;clear hR2 hS5 hE2 hE5;generalize hS:w3.heap.size=S at *
   have HSz:=Lib.hid hS;clear hS hz5
   go_loopw [7,8,10,11] (fun fv gv uv vv wr=>∃ (f g u0 u1 u2 v0 v1 v2:Nat) (odd:Bool),fv = .int .u64 f∧gv = .int .u64 g∧uv = .int .u64 u2∧vv = .int .u64 v2∧Ext w wr∧Arr wr w.heap.size 184 (Bj 0 0 0 0 false)∧Arr wr S 184 (Bj u0 u1 v0 v1 odd)∧Hid (W.Sim x y A 0 P α β f g u0 u1 u2 v0 v1 v2 odd)∧(f < 18446744073709551616∧g < 18446744073709551616)∧(u0 < 18446744073709551616∧u1 < 18446744073709551616∧u2 < 18446744073709551616)∧(v0 < 18446744073709551616∧v1 < 18446744073709551616∧v2 < 18446744073709551616)) (fun _ gv _ _ _=>(intOf gv).toNat)
   case atStart=>exact ⟨A,0,0,1,0,0,0,1,false,rfl,rfl,rfl,rfl,hE6,hR5,hS6,hS0,⟨by omega,by omega⟩,⟨by omega,by omega,by omega⟩,⟨by omega,by omega,by omega⟩⟩
   case round =>
    clear hE6 hR5 hS6 hS0;obtain ⟨f,g,u0,u1,u2,v0,v1,v2,odd,rfl,rfl,rfl,rfl,hE,hR,hS,HS,⟨hf,hg⟩,⟨hu0,hu1,hu2⟩,⟨hv0,hv1,hv2⟩⟩:=hrel;have hv2p:=HS.out.leh.v2p;have hgf:=HS.out.leh.gf;have hfin:(v0=0∨∃ p q,W.Steps x y u0 u1 v0 v1 odd p q):=HS.out.good;have HFIN:=Lib.hid hfin;clear hfin;have s0:=hS.c 0 rfl;have s1:=hS.c 1 rfl;have s2:=hS.c 2 rfl;have s3:=hS.c 3 rfl;have s4:=hS.c 4 rfl;by_cases hc1:v2≤g
    · obtain ⟨k1,k2,k3⟩:=HS.out.bound (by omega);have hww:IntKind.u64.wrap ((v1:Int)+v2)=((v1+v2:Nat):Int):=Ah (by push_cast; rfl) (by omega);have hww2:IntKind.u64.wrap ((f:Int) - g)=((f - g:Nat):Int):=Ah (by omega) (by omega);have hle:(v2:Int)≤(g:Int):=by omega
      by_cases hc2:v1+v2≤f - g
      · obtain ⟨HS2,kv,ku,hlt⟩:=HS.out.step hc1 hc2;have hg0:((g:Int) == 0)=false:=by simp; omega
        have hquo:(f:Int).tdiv g=((f / g:Nat):Int):=by rw [Int.tdiv_eq_ediv_of_nonneg (by omega)]; push_cast; rfl
        have hquo':(f:Int) / g=((f / g:Nat):Int):=by push_cast; rfl
        have hrem:(f:Int).tmod g=((f % g:Nat):Int):=by rw [Int.tmod_eq_emod_of_nonneg (by omega)]; push_cast; rfl
        have hrem':(f:Int) % g=((f % g:Nat):Int):=by push_cast; rfl
        have hle2:((v1+v2:Nat):Int)≤((f - g:Nat):Int):=by omega
        have HS3:=Lib.hid HS2;have hqf:f / g≤f:=Nat.div_le_self _ _;clear HS2 HS HFIN;generalize f / g=q at *
        generalize f % g=r at *
        have hwq:IntKind.u64.wrap (q:Int)=(q:Int):=Ah rfl (by omega);have m1:IntKind.u64.wrap ((q:Int)*u2)=((q*u2:Nat):Int):=Ah (by push_cast; rfl) (by omega);have m2:IntKind.u64.wrap ((q:Int)*v2)=((q*v2:Nat):Int):=Ah (by push_cast; rfl) (by omega);have m3:IntKind.u64.wrap ((u1:Int)+((q*u2:Nat):Int))=((u1+q*u2:Nat):Int):=Ah (by omega) (by omega);have m4:IntKind.u64.wrap ((v1:Int)+((q*v2:Nat):Int))=((v1+q*v2:Nat):Int):=Ah (by omega) (by omega);generalize hU:u1+q * u2=U at *
        generalize hV:v1+q * v2=V at *
        generalize q * u2=qu at *
        generalize q * v2=qv at *
        generalize v1+v2=vs at *
        generalize f - g=fg at *
        clear hU hV hqf;go_wp2
        go_quiet (fail)
        have hSq:=hS.drewN nq;have hRq:=hR.drewN nq;have hEq:=hE.drewN nq;have t0:(wr.drewN nq).cell? ⟨S,0,none⟩=_:=s0;have t1:(wr.drewN nq).cell? ⟨S,1,none⟩=_:=s1;have t2:(wr.drewN nq).cell? ⟨S,2,none⟩=_:=s2;have t3:(wr.drewN nq).cell? ⟨S,3,none⟩=_:=s3;have t4:(wr.drewN nq).cell? ⟨S,4,none⟩=_:=s4;generalize wr.drewN nq=wq at *
        clear s0 s1 s2 s3 s4 hS hR hE;have hS7:=((((hSq.set 0 (.int .u64 u1)).set 1 (.int .u64 u2)).set 2 (.int .u64 v1)).set 3 (.int .u64 v2)).set 4 (.bool (!odd));have hR7:=((((hRq.far (p:=⟨S,0,none⟩) (by show w.heap.size≠S; omega) (.int .u64 u1)).far (p:=⟨S,1,none⟩) (by show w.heap.size≠S; omega) (.int .u64 u2)).far (p:=⟨S,2,none⟩) (by show w.heap.size≠S; omega) (.int .u64 v1)).far (p:=⟨S,3,none⟩) (by show w.heap.size≠S; omega) (.int .u64 v2)).far (p:=⟨S,4,none⟩) (by show w.heap.size≠S; omega) (.bool (!odd))
        have hE7:=((((hEq.setCell (p:=⟨S,0,none⟩) (by show w.heap.size≤S; omega) (.int .u64 u1)).setCell (p:=⟨S,1,none⟩) (by show w.heap.size≤S; omega) (.int .u64 u2)).setCell (p:=⟨S,2,none⟩) (by show w.heap.size≤S; omega) (.int .u64 v1)).setCell (p:=⟨S,3,none⟩) (by show w.heap.size≤S; omega) (.int .u64 v2)).setCell (p:=⟨S,4,none⟩) (by show w.heap.size≤S; omega) (.bool (!odd));have z0:=hSq.frozen 0;have z1:=hSq.frozen 1;have z2:=hSq.frozen 2;have z3:=hSq.frozen 3;have z4:=hSq.frozen 4;go_wp2;go_roundw
        case rel=>exact ⟨g,r,u1,u2,U,v1,v2,V,!odd,rfl,rfl,rfl,rfl,hE7,hR7,hS7,HS3,⟨hg,by omega⟩,⟨hu1,hu2,by omega⟩,⟨hv1,hv2,by omega⟩⟩
        case measure=>simp [intOf]; omega
      · have hgt:¬ (((v1+v2:Nat):Int)≤((f - g:Nat):Int)):=by omega
        have hgt2:((f - g:Nat):Int) < ((v1+v2:Nat):Int):=by omega
        have hgt3:decide (v1+v2≤f - g)=false:=by simp; omega
        generalize v1+v2=vs at *
        generalize f - g=fg at *
        clear hc2 HS
        go_upto_region 19 with (fail)
        go_wp2_with (first
         | (refine A5 rfl rfl AR rfl hS ?_)
         | (refine Aa rfl rfl rfl rfl rfl AR hR rfl (Cj _ _ _ _ _) ?_; intro w9 hB9 hg9))
        refine bodyPost_ret (v := .agg (Bj u0 u1 v0 v1 odd).toArray) (Al rfl AR rfl hB9) rfl ⟨u0,u1,v0,v1,odd,rfl,hE.grownR hg9 (lrf _),hu0,hu1,hv0,hv1,HFIN.out⟩
    · have hgt:¬ ((v2:Int)≤(g:Int)):=by omega
      have hgt2:(g:Int) < (v2:Int):=by omega
      clear hc1 HS
      go_upto_region 19 with (fail)
      go_wp2_with (first
       | (refine A5 rfl rfl AR rfl hS ?_)
       | (refine Aa rfl rfl rfl rfl rfl AR hR rfl (Cj _ _ _ _ _) ?_; intro w9 hB9 hg9))
      refine bodyPost_ret (v := .agg (Bj u0 u1 v0 v1 odd).toArray) (Al rfl AR rfl hB9) rfl ⟨u0,u1,v0,v1,odd,rfl,hE.grownR hg9 (lrf _),hu0,hu1,hv0,hv1,HFIN.out⟩
theorem Own.upto (h:Own w base e a n c cs) {k:Nat} (hk:k≤n):Own w base e a k c (cs.take k):=by
 have hl:=h.len;refine ⟨by simp; omega, ?_⟩;rcases h.2 with ⟨hv,h0⟩ | ⟨g,cap,cur,hv,hg,hh,hnc,hm,hs,ht⟩
 · subst h0;have hk0:k=0:=by omega
   subst hk0;simp only [Value.slice.injEq] at hv;exact Or.inl ⟨by rw [hv.1,hv.2.2],rfl⟩
 · simp only [Value.slice.injEq] at hv;refine Or.inr ⟨g,cap,cur,by rw [hv.1,hv.2.2],hg,hh,by omega,hm,hs, ?_⟩;rw [←ht,List.take_take];congr 1;omega
theorem Az.upto {k:IntKind} {w:World} {base:Nat} {e:TypeId} {g n c:Nat} {xs:List Nat} (h:Az k w base e g n c xs) {m:Nat} (hm:m≤n):Az k w base e g m c (xs.take m):=by
 have:=Own.upto h hm;rw [←List.map_take] at this;exact this
def VE (x y c:Nat) (w:World) (e:Ending) (w':World):Prop:=∃ l h:Nat,e = .returned (.tuple #[.int .u64 l, .int .u64 h])∧w=w'∧l < 18446744073709551616∧h < 18446744073709551616∧l+18446744073709551616*h=x*y+c
theorem B7 (hx:x < 18446744073709551616) (hy:y < 18446744073709551616) (hc:c < 18446744073709551616) :
 Calls prog 178 #[.int .u64 x, .int .u64 y, .int .u64 c] w (VE x y c w):=by
 have hm:=Jj hx hy;have hp:x*y≤18446744073709551615*18446744073709551615:=Nat.mul_le_mul (by omega) (by omega);have HP:Hid (x*y % 18446744073709551616+18446744073709551616*(x*y / 18446744073709551616)=x*y):=Lib.hid (Nat.mod_add_div _ _);have hl:x*y % 18446744073709551616 < 18446744073709551616:=Nat.mod_lt _ (by omega);have hh:x*y / 18446744073709551616≤18446744073709551614:=by omega
 generalize x * y / 18446744073709551616=hi at *
 generalize x * y % 18446744073709551616=lo at *
 have hadd:∀ wx:World,(callFunc 203 #[.int .u64 (lo:Int), .int .u64 (c:Int), .int .u64 0]).run prog wx = .ok (.value (.tuple #[.int .u64 (((lo+c+0) % 18446744073709551616:Nat):Int), .int .u64 (((lo+c+0) / 18446744073709551616:Nat):Int)])) wx:=fun wx=>BS lo c 0 (by omega) wx;have HS:Hid ((lo+c+0) % 18446744073709551616+18446744073709551616*((lo+c+0) / 18446744073709551616)=lo+c):=Lib.hid (Nat.mod_add_div _ _);have hs:(lo+c+0) % 18446744073709551616 < 18446744073709551616:=Nat.mod_lt _ (by omega);have hcc:(lo+c+0) / 18446744073709551616≤1:=by omega
 generalize (lo+c+0) % 18446744073709551616=l at *
 generalize (lo+c+0) / 18446744073709551616=cc at *
 have hw:IntKind.u64.wrap ((hi:Int)+(cc:Int))=((hi+cc:Nat):Int):=Ah (by omega) (by omega);have HF:Hid (l+18446744073709551616*(hi+cc)=x*y+c):=by show _=_; have h1:=HP.out; have h2:=HS.out; omega
 have hf:hi+cc < 18446744073709551616:=by omega
 generalize hi+cc=hf' at *
 clear HP HS hp
 go_enter func178,ntmps178
 go_wp2_with fail
 refine (hm _).mono ?_;rintro e w1 ⟨rfl,rfl⟩;go_wp2
 go_ret2
 exact ⟨l,hf',rfl,rfl,hs,hf,HF.out⟩
theorem GH {u v c1 c2 c1' c2':Nat} (hk:k < zs.length) (hx:k < xs.length) (hy:k < ys.length) (h:W.val B (zs.take k)+u*W.val B (xs.take k)+c1*B^k=v*W.val B (ys.take k)+c2*B^k) (e:d+xs.getD k 0*u+c2+B*c1'=ys.getD k 0*v+c1+B*c2') :
 W.val B ((zs.set k d).take (k+1))+u*W.val B (xs.take (k+1))+c1'*B^(k+1)=v*W.val B (ys.take (k+1))+c2'*B^(k+1):=by
 have h1:=W.comb_step h e;have e1:W.val B ((zs.set k d).take (k+1))=W.val B (zs.take k)+B^k*d:=by
  rw [W.val_take_succ (by simpa using hk)];congr 1
  · rw [List.take_set_of_le (lrf _)]
  · simp [hk]
 rw [e1,W.val_take_succ hx,W.val_take_succ hy,Nat.pow_succ];have e2:u*(W.val B (xs.take k)+B^k*xs.getD k 0)=u*W.val B (xs.take k)+B^k*(xs.getD k 0*u):=by grind
 have e3:v*(W.val B (ys.take k)+B^k*ys.getD k 0)=v*W.val B (ys.take k)+B^k*(ys.getD k 0*v):=by grind
 rw [e2,e3];exact h1
theorem Eh (h:zs.drop k=xs.drop k):(zs.set k d).drop (k+1)=xs.drop (k+1):=by
 rw [List.drop_set_of_lt (by omega),←List.drop_drop,←List.drop_drop,h]
theorem ED (h:zs.drop k=xs.drop k):zs.getD k 0=xs.getD k 0:=by
 have:=congrArg (fun l:List Nat=>l.getD 0 0) h;simpa using this
def Wl (wb:World) (ga n ca gb cb p q:Nat) (e:Ending) (w':World):Prop :=
 e = .returned (.tuple #[])∧Ext wb w'∧∃ zs ts,Az .u64 w' wb.heap.size 143 ga n ca zs∧Az .u64 w' wb.heap.size 143 gb n cb ts∧W.bnd 18446744073709551616 zs∧W.bnd 18446744073709551616 ts∧W.val 18446744073709551616 zs=p∧W.val 18446744073709551616 ts=q
theorem Lg {ga gb ca cb u0 u1 v0 v1 p q:Nat} (hE0:Ext wb w) (hx:Az .u64 w wb.heap.size 143 ga n ca xs) (hy:Az .u64 w wb.heap.size 143 gb n cb ys) (hne:ga≠gb) (bx:W.bnd 18446744073709551616 xs) (by_:W.bnd 18446744073709551616 ys) (vx:W.val 18446744073709551616 xs=x) (vy:W.val 18446744073709551616 ys=y) (hu0:u0 < 18446744073709551616) (hu1:u1 < 18446744073709551616) (hv0:v0 < 18446744073709551616) (hv1:v1 < 18446744073709551616) (hst:W.Steps x y u0 u1 v0 v1 odd p q) (hn:n≤1000000) :
 Calls prog 139 #[.agg (Bj u0 u1 v0 v1 odd).toArray, .slice (some ⟨ga,0,none⟩) n ca, .slice (some ⟨gb,0,none⟩) n cb] w (Wl wb ga n ca gb cb p q):=by
 have HX:=Lib.hid hx.len;have HY:=Lib.hid hy.len;have HVX:=Lib.hid vx;have HVY:=Lib.hid vy;have HST:=Lib.hid hst;have BX:=Lib.hid bx;have BY:=Lib.hid by_;have hga:=hx.lt;have hgb:=hy.lt;have hga2:=hx.lo;have hgb2:=hy.lo;clear vx vy hst
 go_enter func139,ntmps139
 go_upto_region 1 with (fail)
 refine Bq ?_;intro w1 hE1 hS1 hz1;have hS2:Arr w1 w.heap.size 184 (Bj u0 u1 v0 v1 odd):=hS1;have hx1:=hx.ext hE1;have hy1:=hy.ext hE1;have hE2:=hE0.trans hE1;generalize hSz:w.heap.size=S at *
 clear hS1 hx hy hE0 hE1 hz1 hSz;go_wp2
 go_loopw [6,7,8,9,10,11,21] (fun a6 a7 a8 a9 a10 a11 iv wr=>∃ (k cP cQ cR cT bo lo:Nat) (zs ts:List Nat),a6 = .int .u64 cP∧a7 = .int .u64 cQ∧a8 = .int .u64 cR∧a9 = .int .u64 cT∧a10 = .int .u64 bo∧a11 = .int .u64 lo∧iv = .int .i64 k∧k≤n∧(cP < 18446744073709551616∧cQ < 18446744073709551616∧cR < 18446744073709551616∧cT < 18446744073709551616)∧bo≤1∧lo≤1∧Ext wb wr∧Arr wr S 184 (Bj u0 u1 v0 v1 odd)∧Az .u64 wr wb.heap.size 143 ga n ca zs∧Az .u64 wr wb.heap.size 143 gb n cb ts∧W.bnd 18446744073709551616 zs∧W.bnd 18446744073709551616 ts∧Hid (zs.drop k=xs.drop k)∧Hid (ts.drop k=ys.drop k)∧Hid (if odd=true then W.val 18446744073709551616 (zs.take k)+v0*W.val 18446744073709551616 (ys.take k)+cP*18446744073709551616^k=u0*W.val 18446744073709551616 (xs.take k)+(cQ+bo)*18446744073709551616^k else W.val 18446744073709551616 (zs.take k)+u0*W.val 18446744073709551616 (xs.take k)+cQ*18446744073709551616^k=v0*W.val 18446744073709551616 (ys.take k)+(cP+bo)*18446744073709551616^k)∧Hid (if odd=true then W.val 18446744073709551616 (ts.take k)+u1*W.val 18446744073709551616 (xs.take k)+cR*18446744073709551616^k=v1*W.val 18446744073709551616 (ys.take k)+(cT+lo)*18446744073709551616^k else W.val 18446744073709551616 (ts.take k)+v1*W.val 18446744073709551616 (ys.take k)+cT*18446744073709551616^k=u1*W.val 18446744073709551616 (xs.take k)+(cR+lo)*18446744073709551616^k)) (fun _ _ _ _ _ _ iv _=>n - (intOf iv).toNat)
 case atStart=>exact ⟨0,0,0,0,0,0,0,xs,ys,rfl,rfl,rfl,rfl,rfl,rfl,rfl,Nat.zero_le _,⟨by omega,by omega,by omega,by omega⟩,by omega,by omega,hE2,hS2,hx1,hy1,bx,by_,Lib.hid rfl,Lib.hid rfl,Lib.hid (by simp [W.val]),Lib.hid (by simp [W.val])⟩
 case round =>
  clear hE2 hS2 hx1 hy1 bx by_;obtain ⟨k,cP,cQ,cR,cT,bo,lo,zs,ts,rfl,rfl,rfl,rfl,rfl,rfl,rfl,hk,⟨hcP,hcQ,hcR,hcT⟩,hbo,hlo,hE,hS,gz,gt,bz,bt,DZ,DT,H1,H2⟩:=hrel;have hSa:S≠ga:=by omega
  have hSb:S≠gb:=by omega
  by_cases hlt:k < n
  · have c1:=gz.cell (i:=k) hlt;have c2:=gt.cell (i:=k) hlt;have f1:=gz.frozen k;have f2:=gt.frozen k;have s0:=hS.c 0 rfl;have s1:=hS.c 1 rfl;have s2:=hS.c 2 rfl;have s3:=hS.c 3 rfl;have s4:=hS.c 4 rfl;have b1:=W.bnd_at bz (i:=k) (by rw [gz.len]; exact hlt);have b2:=W.bnd_at bt (i:=k) (by rw [gt.len]; exact hlt);have hxk:zs.getD k 0=xs.getD k 0:=ED DZ.out;have hyk:ts.getD k 0=ys.getD k 0:=ED DT.out;have HXK:=Lib.hid hxk;have HYK:=Lib.hid hyk;clear hxk hyk;generalize zs.getD k 0=xk at *
    generalize ts.getD k 0=yk at *
    have hkn:(k:Int) < n:=by omega
    go_wp2_with fail
    refine (B7 b1 hu0 hcP).mono ?_;rintro e w2 ⟨lP,cP2,rfl,rfl,hlP,hcP2,e1⟩;have E1:=Lib.hid e1;clear e1
    go_wp2_with fail
    refine (B7 b2 hv0 hcQ).mono ?_;rintro e w2 ⟨lQ,cQ2,rfl,rfl,hlQ,hcQ2,e1⟩;have E2:=Lib.hid e1;clear e1
    go_wp2_with fail
    refine (B7 b2 hv1 hcR).mono ?_;rintro e w2 ⟨lR,cR2,rfl,rfl,hlR,hcR2,e1⟩;have E3:=Lib.hid e1;clear e1
    go_wp2_with fail
    refine (B7 b1 hu1 hcT).mono ?_;rintro e w2 ⟨lT,cT2,rfl,rfl,hlT,hcT2,e1⟩;have E4:=Lib.hid e1;clear e1;cases odd with
    | true =>
     have hsub1:=Dd lP lQ bo hbo;have hsub2:=Dd lR lT lo hlo;have d1:=Tt (x:=lP) (y:=lQ) (c:=bo) (by omega) (by omega) hbo;have d2:=Tt (x:=lR) (y:=lT) (c:=lo) (by omega) (by omega) hlo;have q1:(lP+18446744073709551616 - lQ - bo) % 18446744073709551616 < 18446744073709551616:=Nat.mod_lt _ (by omega);have q2:(lR+18446744073709551616 - lT - lo) % 18446744073709551616 < 18446744073709551616:=Nat.mod_lt _ (by omega);have r1:=Rx (x:=lP) (y:=lQ) (c:=bo);have r2:=Rx (x:=lR) (y:=lT) (c:=lo);generalize (lP+18446744073709551616 - lQ - bo) % 18446744073709551616=dA at *
     generalize (lR+18446744073709551616 - lT - lo) % 18446744073709551616=dB at *
     generalize (if lP < lQ+bo then 1 else 0)=bo2 at *
     generalize (if lR < lT+lo then 1 else 0)=lo2 at *
     have hw1:=gz.set k dA;have hw2:=(gt.kept (Ao wr ga k (.int .u64 (dA:Int))) (by simp; omega)).set k dB;have hw3:=hw1.kept (Ao (wr.setCell ⟨ga,k,none⟩ (.int .u64 (dA:Int))) gb k (.int .u64 (dB:Int))) (by simp; omega);have hw4:=(hS.far (p:=⟨ga,k,none⟩) (by show S≠ga; omega) (.int .u64 (dA:Int))).far (p:=⟨gb,k,none⟩) (by show S≠gb; omega) (.int .u64 (dB:Int));have hw5:=(hE.setCell (p:=⟨ga,k,none⟩) hga2 (.int .u64 (dA:Int))).setCell (p:=⟨gb,k,none⟩) hgb2 (.int .u64 (dB:Int))
     have HN1:=Lib.hid (GH (B:=18446744073709551616) (zs:=zs) (xs:=ys) (ys:=xs) (k:=k) (d:=dA) (u:=v0) (v:=u0) (c1:=cP) (c2:=cQ+bo) (c1':=cP2) (c2':=cQ2+bo2) (by rw [gz.len]; exact hlt) (by rw [HY.out]; exact hlt) (by rw [HX.out]; exact hlt) (by have:=H1.out; rw [if_pos rfl] at this; exact this) (by rw [←HXK.out,←HYK.out]; have:=E1.out; have:=E2.out; omega))
     have HN2:=Lib.hid (GH (B:=18446744073709551616) (zs:=ts) (xs:=xs) (ys:=ys) (k:=k) (d:=dB) (u:=u1) (v:=v1) (c1:=cR) (c2:=cT+lo) (c1':=cR2) (c2':=cT2+lo2) (by rw [gt.len]; exact hlt) (by rw [HX.out]; exact hlt) (by rw [HY.out]; exact hlt) (by have:=H2.out; rw [if_pos rfl] at this; exact this) (by rw [←HXK.out,←HYK.out]; have:=E3.out; have:=E4.out; omega));clear d1 d2 E1 E2 E3 E4 H1 H2;go_wp2;go_roundw
     case rel=>exact ⟨k+1,cP2,cQ2,cR2,cT2,bo2,lo2,zs.set k dA,ts.set k dB,rfl,rfl,rfl,rfl,rfl,rfl,by go_num,by omega,⟨hcP2,hcQ2,hcR2,hcT2⟩,r1,r2,hw5,hw4,hw3,hw2,W.bnd_set bz q1,W.bnd_set bt q2,Lib.hid (Eh DZ.out),Lib.hid (Eh DT.out),Lib.hid (by first | exact HN1.out | (rw [if_pos rfl]; exact HN1.out)),Lib.hid (by first | exact HN2.out | (rw [if_pos rfl]; exact HN2.out))⟩
     case measure=>simp [intOf]; omega
    | false =>
     have hsub1:=Dd lQ lP bo hbo;have hsub2:=Dd lT lR lo hlo;have d1:=Tt (x:=lQ) (y:=lP) (c:=bo) (by omega) (by omega) hbo;have d2:=Tt (x:=lT) (y:=lR) (c:=lo) (by omega) (by omega) hlo;have q1:(lQ+18446744073709551616 - lP - bo) % 18446744073709551616 < 18446744073709551616:=Nat.mod_lt _ (by omega);have q2:(lT+18446744073709551616 - lR - lo) % 18446744073709551616 < 18446744073709551616:=Nat.mod_lt _ (by omega);have r1:=Rx (x:=lQ) (y:=lP) (c:=bo);have r2:=Rx (x:=lT) (y:=lR) (c:=lo);generalize (lQ+18446744073709551616 - lP - bo) % 18446744073709551616=dA at *
     generalize (lT+18446744073709551616 - lR - lo) % 18446744073709551616=dB at *
     generalize (if lQ < lP+bo then 1 else 0)=bo2 at *
     generalize (if lT < lR+lo then 1 else 0)=lo2 at *
     have hw1:=gz.set k dA;have hw2:=(gt.kept (Ao wr ga k (.int .u64 (dA:Int))) (by simp; omega)).set k dB;have hw3:=hw1.kept (Ao (wr.setCell ⟨ga,k,none⟩ (.int .u64 (dA:Int))) gb k (.int .u64 (dB:Int))) (by simp; omega);have hw4:=(hS.far (p:=⟨ga,k,none⟩) (by show S≠ga; omega) (.int .u64 (dA:Int))).far (p:=⟨gb,k,none⟩) (by show S≠gb; omega) (.int .u64 (dB:Int));have hw5:=(hE.setCell (p:=⟨ga,k,none⟩) hga2 (.int .u64 (dA:Int))).setCell (p:=⟨gb,k,none⟩) hgb2 (.int .u64 (dB:Int))
     have HN1:=Lib.hid (GH (B:=18446744073709551616) (zs:=zs) (xs:=xs) (ys:=ys) (k:=k) (d:=dA) (u:=u0) (v:=v0) (c1:=cQ) (c2:=cP+bo) (c1':=cQ2) (c2':=cP2+bo2) (by rw [gz.len]; exact hlt) (by rw [HX.out]; exact hlt) (by rw [HY.out]; exact hlt) (by have:=H1.out; rw [if_neg (by simp)] at this; exact this) (by rw [←HXK.out,←HYK.out]; have:=E1.out; have:=E2.out; omega))
     have HN2:=Lib.hid (GH (B:=18446744073709551616) (zs:=ts) (xs:=ys) (ys:=xs) (k:=k) (d:=dB) (u:=v1) (v:=u1) (c1:=cT) (c2:=cR+lo) (c1':=cT2) (c2':=cR2+lo2) (by rw [gt.len]; exact hlt) (by rw [HY.out]; exact hlt) (by rw [HX.out]; exact hlt) (by have:=H2.out; rw [if_neg (by simp)] at this; exact this) (by rw [←HXK.out,←HYK.out]; have:=E3.out; have:=E4.out; omega));clear d1 d2 E1 E2 E3 E4 H1 H2;go_wp2;go_roundw
     case rel=>exact ⟨k+1,cP2,cQ2,cR2,cT2,bo2,lo2,zs.set k dA,ts.set k dB,rfl,rfl,rfl,rfl,rfl,rfl,by go_num,by omega,⟨hcP2,hcQ2,hcR2,hcT2⟩,r1,r2,hw5,hw4,hw3,hw2,W.bnd_set bz q1,W.bnd_set bt q2,Lib.hid (Eh DZ.out),Lib.hid (Eh DT.out),Lib.hid (by first | exact HN1.out | (rw [if_neg (by simp)]; exact HN1.out)),Lib.hid (by first | exact HN2.out | (rw [if_neg (by simp)]; exact HN2.out))⟩
     case measure=>simp [intOf]; omega
  · have ek:k=n:=by omega
    have hz0:zs.take k=zs:=List.take_of_length_le (by rw [gz.len]; omega);have ht0:ts.take k=ts:=List.take_of_length_le (by rw [gt.len]; omega);have hx0:xs.take k=xs:=List.take_of_length_le (by rw [HX.out]; omega);have hy0:ys.take k=ys:=List.take_of_length_le (by rw [HY.out]; omega);have h1:=H1.out;have h2:=H2.out;rw [hz0,hx0,hy0,HVX.out,HVY.out,ek] at h1;rw [ht0,hx0,hy0,HVX.out,HVY.out,ek] at h2;have l1:=W.val_lt bz;have l2:=W.val_lt bt;have l3:=W.val_lt BY.out;rw [gz.len] at l1;rw [gt.len] at l2;rw [HY.out,HVY.out] at l3;have hle:=HST.out.le;have hqp:=HST.out.lt;have hep:=HST.out.ep
    have heq:=HST.out.eq;have HF:Hid (W.val 18446744073709551616 zs=p∧W.val 18446744073709551616 ts=q):=by
     show _∧_;cases odd with
     | true =>
      rw [if_pos rfl] at h1 h2 hep heq;exact ⟨W.comb_end h1 hep l1 (by omega),W.comb_end h2 heq l2 (by omega)⟩
     | false =>
      rw [if_neg (by simp)] at h1 h2 hep heq;exact ⟨W.comb_end h1 hep l1 (by omega),W.comb_end h2 heq l2 (by omega)⟩
    clear h1 h2 hep heq l1 l2 l3 hz0 ht0 hx0 hy0 ek hle hqp;go_wp2
    go_end0
    exact ⟨rfl,hE,zs,ts,gz,gt,bz,bt,HF.out.1,HF.out.2⟩
end Go.Proofs.YtlpgonpfjbhmfaaGreatDoor
