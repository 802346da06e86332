/- Part Gan10. -/
import Derived.Test.YtlpgonpfjbhmfaaGreatDoorGan9
import Derived.Shelf.Spec.TrailingZeros
import Derived.Shelf.Strconv.AppendInt10
import Derived.Shelf.Strconv.Itoa4
import Derived.Test.YtlpgonpfjbhmfaaGreatDoorGan3
set_option maxRecDepth 100000
set_option maxHeartbeats 100000000
namespace Go.Proofs.YtlpgonpfjbhmfaaGreatDoor
open Go Go.RowKit
structure Tabs (w:World):Prop where
 tz:TabAt 0 Lib.deBruijn64tab w
 ten:Lib.TabIs Tryz.prog w "internal/strconv.uint64pow10" .u64 Lib.pow10Tab
theorem Tabs.ext {w w':World} (h:Tabs w) (e:Ext w w'):Tabs w' :=
 ⟨fun j hj=>e.cell (h.tz j hj),Lib.tabBelow_of_tabIs h.ten w' e⟩
theorem tz64_c {x:Nat} (h0:0 < x) (hx:x < 18446744073709551616):∃ k m,k < 64∧x=2^k*(2*m+1)∧∀ w,Tabs w→Calls Tryz.prog 180 #[.int .u64 x] w fun e w'=>e = .returned (.int .i64 (k:Nat))∧w=w':=by
 obtain ⟨m,h1,h2⟩:=Lib.ctzFrom_spec 64 x h0 hx;have h3:Lib.ctz 64 x=Lib.ctzFrom 64 x:=by unfold Lib.ctz; rw [if_neg (by omega)]
 refine ⟨_,m,h2,h1,fun w hT => ?_⟩;refine (Any7.bits_TrailingZeros64 tz64L x hx w (fun _=>hT.tz)).mono ?_;rintro e w' ⟨rfl,rfl⟩;rw [h3];exact ⟨rfl,rfl⟩
theorem odd_pos {k m x:Nat} (h:x=2^k*(2*m+1)):x / 2^k=2*m+1:=by
 rw [h,Nat.mul_div_cancel_left _ (Nat.two_pow_pos k)]
theorem int_gcdWord {x y:Nat} {w:World} (hT:Tabs w) (hx:x < 18446744073709551616) (hy:y < 18446744073709551616) :
 Calls Tryz.prog 142 #[.int .u64 x, .int .u64 y] w fun e w'=>e = .returned (.int .u64 (Nat.gcd x y:Nat))∧w=w':=by
 have hor:=u64_or_nat x y hx hy;by_cases h0:x=0
 · subst h0;have hor0:bits BinOp.or IntKind.u64 0 (y:Int)=(y:Int):=by
    rw [Nat.zero_or] at hor;exact hor
   rw [Nat.gcd_zero_left];clear hor
   go_enter Tryz.func142,Tryz.ntmps142
   go_wp2;go_ret;exact ⟨rfl,rfl⟩
 by_cases h1:y=0
 · subst h1;have hor0:bits BinOp.or IntKind.u64 (x:Int) 0=(x:Int):=by
    rw [Nat.or_zero] at hor;exact hor
   rw [Nat.gcd_zero_right];have hb:((x:Int) == 0)=false:=by simpa using h0
   clear hor
   go_enter Tryz.func142,Tryz.ntmps142
   go_wp2;go_ret;exact ⟨rfl,rfl⟩
 have hb:((x:Int) == 0)=false:=by simpa using h0
 have hb1:((y:Int) == 0)=false:=by simpa using h1
 have hob:x ||| y < 18446744073709551616:=or_lt64 hx hy
 have ho0:0 < x ||| y:=by
  rcases Nat.eq_zero_or_pos (x ||| y) with h | h
  · exact absurd (Nat.or_eq_zero_iff.1 h).1 h0
  · exact h
 obtain ⟨s,m,hs,hsm,hc1⟩:=tz64_c ho0 hob;obtain ⟨a,x0,ha,hxa,hc2⟩:=tz64_c (x:=x) (by omega) hx;have HG:Hid (Nat.gcd x y=2^s*Nat.gcd (2*x0+1) y):=Lib.hid (W.gcd_split hxa (by omega) hsm);have hxd:(x:Int) / 2^a=((2*x0+1:Nat):Int):=by
  have:=odd_pos hxa;rw [←this]; push_cast; rfl
 have hxb:2*x0+1 < 18446744073709551616:=by
  have:1*(2*x0+1)≤2^a*(2*x0+1):=Nat.mul_le_mul_right _ (Nat.two_pow_pos a);omega
 clear hsm hxa;generalize x ||| y=o at *
 go_enter Tryz.func142,Tryz.ntmps142
 go_wp2_with fail
 refine (hc1 _ hT).mono ?_;rintro e w1 ⟨rfl,rfl⟩
 go_wp2_with fail
 refine (hc2 _ hT).mono ?_;rintro e w1 ⟨rfl,rfl⟩;go_wp2;have hg0:Hid (Nat.gcd (2*x0+1) y=Nat.gcd (2*x0+1) y):=Lib.hid rfl;obtain ⟨G,hG⟩:∃ G,Nat.gcd (2*x0+1) y=G:=⟨_,rfl⟩;have HG2:=Lib.hid hG;have hGb:2^s*G < 18446744073709551616:=by
  rw [←hG,←HG.out];have:=Nat.le_of_dvd (by omega) (Nat.gcd_dvd_left x y);omega
 rw [hG] at HG;clear hg0 hG hc1 hc2 hxd hor
 go_loop [0,1] (fun xv yv=>∃ p q:Nat,xv = .int .u64 (2*(p:Int)+1)∧yv = .int .u64 q∧2*p+1 < 18446744073709551616∧q < 18446744073709551616∧Hid (Nat.gcd (2*p+1) q=G)) (fun xv yv=>(intOf xv+intOf yv).toNat)
 case atStart=>exact ⟨x0,y,rfl,rfl,hxb,hy,HG2⟩
 case round =>
  clear HG2 hxb hb hb1 h0 h1 hob ho0 ha;obtain ⟨p,q,rfl,rfl,hp,hq,HI⟩:=hrel;by_cases hq0:q=0
  · subst hq0;have HP:Hid (2*p+1=G):=by show _=_; have:=HI.out; rw [Nat.gcd_zero_right] at this; exact this
    have hsl:IntKind.u64.wrap ((2*(p:Int)+1)*2^s)=((Nat.gcd x y:Nat):Int):=by
     have h1:(2*(p:Int)+1)*2^s=((2^s*G:Nat):Int):=by
      rw [←HP.out]; push_cast; exact Int.mul_comm _ _
     rw [h1,HG.out];exact wrap_nat rfl hGb
    obtain ⟨gg,hgg⟩:∃ gg,Nat.gcd x y=gg:=⟨_,rfl⟩;rw [hgg] at hsl;have HGG:=Lib.hid hgg;clear HI HP HG hgg;go_wp2;go_ret;exact ⟨by rw [HGG.out]; rfl,rfl⟩
  · obtain ⟨k,m2,hk,hqk,hc3⟩:=tz64_c (x:=q) (by omega) hq;have hqb:((q:Int) != 0)=true:=by simpa using hq0
    have hqd:(q:Int) / 2^k=2*(m2:Int)+1:=by
     have:=odd_pos hqk;have h2:(q:Int) / 2^k=((q / 2^k:Nat):Int):=by push_cast; rfl
     rw [h2,this]; push_cast; rfl
    have hm2:2*m2+1≤q:=by
     have:1*(2*m2+1)≤2^k*(2*m2+1):=Nat.mul_le_mul_right _ (Nat.two_pow_pos k);omega
    have HI2:Hid (Nat.gcd (2*p+1) (2*m2+1)=G):=by
     show _=_;have:=HI.out;rw [hqk,W.gcd_two_right (by omega)] at this;exact this
    clear HI hqk;by_cases hlt:m2 < p
    · have hgt:2*(m2:Int)+1 < 2*(p:Int)+1:=by omega
      have hw:IntKind.u64.wrap (2*(p:Int)+1 - (2*(m2:Int)+1))=((2*(p - m2):Nat):Int):=by
       rw [IntKind.wrap_u64]; omega
      go_wp2_with fail
      refine (hc3 _ hT).mono ?_;rintro e w1 ⟨rfl,rfl⟩;go_wp2;go_round
      case rel =>
       refine ⟨m2,2*(p - m2),rfl,rfl,by omega,by omega,Lib.hid ?_⟩;rw [←HI2.out,Nat.gcd_comm (2*p+1),show 2*(p - m2)=2*p+1 - (2*m2+1) by omega];exact W.gcd_swap (by omega)
      case measure=>simp [intOf]; omega
    · have hgt:¬ (2*(m2:Int)+1 < 2*(p:Int)+1):=by omega
      have hw:IntKind.u64.wrap (2*(m2:Int)+1 - (2*(p:Int)+1))=((2*(m2 - p):Nat):Int):=by
       rw [IntKind.wrap_u64]; omega
      go_wp2_with fail
      refine (hc3 _ hT).mono ?_;rintro e w1 ⟨rfl,rfl⟩;go_wp2;go_round
      case rel =>
       refine ⟨p,2*(m2 - p),rfl,rfl,by omega,by omega,Lib.hid ?_⟩;rw [←HI2.out,show 2*(m2 - p)=2*m2+1 - (2*p+1) by omega];exact W.gcd_swap (by omega)
      case measure=>simp [intOf]; omega
section
variable {P:Program} {c:Code} {Q:Exit→Act→World→Prop} {f:Act} {w:World}
theorem box1 {cs:Array Value} {t:TypeId} (h:∀ w0,Ext w w0→Arr w0 w.heap.size t cs.toList→w0.heap.size=w.heap.size+1→Code.wp P c Q f w0):Code.wp P c Q f (w.alloc (.cells cs t)) :=
 h _ ((Ext.refl w).alloc _) (Arr.new w t cs.toList) (by simp)
theorem box2 {cs cs':Array Value} {t t':TypeId} (h:∀ w0,Ext w w0→Arr w0 w.heap.size t cs.toList→Arr w0 (w.heap.size+1) t' cs'.toList→w0.heap.size=w.heap.size+2→Code.wp P c Q f w0):Code.wp P c Q f ((w.alloc (.cells cs t)).alloc (.cells cs' t')) :=
 h _ (((Ext.refl w).alloc _).alloc _) ((Arr.new w t cs.toList).alloc _) (by have:=Arr.new (w.alloc (.cells cs t)) t' cs'.toList; simpa using this) (by simp)
theorem box3 {cs cs' cs'':Array Value} {t t' t'':TypeId} (h:∀ w0,Ext w w0→Arr w0 w.heap.size t cs.toList→Arr w0 (w.heap.size+1) t' cs'.toList→Arr w0 (w.heap.size+2) t'' cs''.toList→w0.heap.size=w.heap.size+3→Code.wp P c Q f w0):Code.wp P c Q f (((w.alloc (.cells cs t)).alloc (.cells cs' t')).alloc (.cells cs'' t'')) :=
 h _ ((((Ext.refl w).alloc _).alloc _).alloc _) (((Arr.new w t cs.toList).alloc _).alloc _) (by have:=(Arr.new (w.alloc (.cells cs t)) t' cs'.toList).alloc (.cells cs'' t''); simpa using this) (by have:=Arr.new ((w.alloc (.cells cs t)).alloc (.cells cs' t')) t'' cs''.toList; simpa using this) (by simp)
theorem box4 {cs cs' cs'' cs3:Array Value} {t t' t'' t3:TypeId} (h:∀ w0,Ext w w0→Arr w0 w.heap.size t cs.toList→Arr w0 (w.heap.size+1) t' cs'.toList→Arr w0 (w.heap.size+2) t'' cs''.toList→Arr w0 (w.heap.size+3) t3 cs3.toList→w0.heap.size=w.heap.size+4→Code.wp P c Q f w0):Code.wp P c Q f ((((w.alloc (.cells cs t)).alloc (.cells cs' t')).alloc (.cells cs'' t'')).alloc (.cells cs3 t3)) :=
 h _ (((((Ext.refl w).alloc _).alloc _).alloc _).alloc _) ((((Arr.new w t cs.toList).alloc _).alloc _).alloc _) (by have:=((Arr.new (w.alloc (.cells cs t)) t' cs'.toList).alloc (.cells cs'' t'')).alloc (.cells cs3 t3); simpa using this) (by have:=(Arr.new ((w.alloc (.cells cs t)).alloc (.cells cs' t')) t'' cs''.toList).alloc (.cells cs3 t3); simpa using this) (by have:=Arr.new (((w.alloc (.cells cs t)).alloc (.cells cs' t')).alloc (.cells cs'' t'')) t3 cs3.toList; simpa using this) (by simp)
end
section
variable {P:Program} {w:World}
theorem ld_row {ty:TypeId} {g:Nat} {t:TypeId} {cs:List Value} (ha:Agg P ty cs.length) (h:Arr w g t cs):(loadVar ty ⟨g,0,none⟩).run P w = .ok (.agg cs.toArray) w:=by
 obtain ⟨d,hu,hd,hi⟩:=ha.parts;exact run_loadVar_row (P:=P) w g t ty cs.toArray (0,0) d h hu (by cases d <;> first | rfl | exact absurd hd (by simp)) (by simpa using hi)
theorem res_cc {fn:Func} {p q:Tmp} {ty ty':TypeId} (hr:fn.results=#[.cell p ty, .cell q ty']) {tmps:Array Value} {g g':Nat} {t t':TypeId} {cs cs':List Value} (ha:Agg P ty cs.length) (ha':Agg P ty' cs'.length)
 (hp:tmps.getD p undef = .pointer (some ⟨g,0,none⟩)) (hq:tmps.getD q undef = .pointer (some ⟨g',0,none⟩)) (h:Arr w g t cs) (h':Arr w g' t' cs'):(results fn tmps).run P w = .ok (.tuple #[.agg cs.toArray, .agg cs'.toArray]) w:=by
 have hp':tmps[p]?.getD undef = .pointer (some ⟨g,0,none⟩):=by simpa using hp
 have hq':tmps[q]?.getD undef = .pointer (some ⟨g',0,none⟩):=by simpa using hq
 simp [results,hr,hp',hq',asAddr,ld_row ha h,ld_row ha' h']
theorem res_ct {fn:Func} {p q:Tmp} {ty:TypeId} (hr:fn.results=#[.cell p ty, .tmp q]) {tmps:Array Value} {g:Nat} {t:TypeId} {cs:List Value} {v:Value} (ha:Agg P ty cs.length)
 (hp:tmps.getD p undef = .pointer (some ⟨g,0,none⟩)) (hq:tmps.getD q undef=v) (h:Arr w g t cs):(results fn tmps).run P w = .ok (.tuple #[.agg cs.toArray,v]) w:=by
 have hp':tmps[p]?.getD undef = .pointer (some ⟨g,0,none⟩):=by simpa using hp
 have hq':tmps[q]?.getD undef=v:=by simpa using hq
 simp [results,hr,hp',hq',asAddr,ld_row ha h]
end
theorem agg_steps:Agg Tryz.prog 184 5:=⟨by kernel_rfl,by kernel_rfl⟩
def stepsL (u0 u1 v0 v1:Nat) (odd:Bool):List Value:=[.int .u64 u0, .int .u64 u1, .int .u64 v0, .int .u64 v1, .bool odd]
theorem stepsL_one (u0 u1 v0 v1:Nat) (odd:Bool):∀ v∈stepsL u0 u1 v0 v1 odd,v.oneCell'=true:=by
 intro v hv;simp only [stepsL,List.mem_cons,List.not_mem_nil,or_false] at hv;rcases hv with rfl | rfl | rfl | rfl | rfl <;> rfl
theorem pow_split {s:Nat} (hs:s≤63):18446744073709551616=2^s*2^(64 - s):=by rw [←Nat.pow_add,show s+(64 - s)=64 by omega]
theorem head_or {t1 t0 s:Nat} (hs:s≤63) (h0:t0 < 18446744073709551616):t1*2^s ||| t0 / 2^(64 - s)=t1*2^s+t0 / 2^(64 - s):=by
 have h:t0 / 2^(64 - s) < 2^s:=by
  rw [Nat.div_lt_iff_lt_mul (Nat.two_pow_pos _),←pow_split hs];exact h0
 have:=Nat.shiftLeft_add_eq_or_of_lt h t1;rw [Nat.shiftLeft_eq] at this;exact this.symm
def RetS (w:World) (x y:Nat) (e:Ending) (w':World):Prop :=
 ∃ u0 u1 v0 v1 odd,e = .returned (.agg (stepsL u0 u1 v0 v1 odd).toArray)∧Ext w w'∧u0 < 18446744073709551616∧u1 < 18446744073709551616∧v0 < 18446744073709551616∧v1 < 18446744073709551616∧(v0=0∨∃ p q,W.Steps x y u0 u1 v0 v1 odd p q)
theorem int_simulate {a b:Option Addr} {n c m d:Nat} {xs ys:List Nat} {x y:Nat} {w:World} (hx:SlN .u64 w a n c xs) (hy:SlN .u64 w b m d ys) (nx:Num 18446744073709551616 xs x) (ny:Num 18446744073709551616 ys y) (hn:n≤100000) (hge:y≤x) {nn:Nat} (hn2:n=nn+2) :
 Calls Tryz.prog 137 #[.slice a n c, .slice b m d] w (RetS w x y):=by
 have HX:=Lib.hid hx.len;have HY:=Lib.hid hy.len;have hmn:m≤n:=by
  refine Classical.byContradiction fun hc => ?_;have:=W.len_lt (B:=18446744073709551616) (by omega) nx.bnd ny.nrm (by rw [HX.out,HY.out]; omega);rw [nx.val,ny.val] at this;omega
 have hxne:xs≠[]:=by intro h; have:=HX.out; rw [h] at this; simp at this; omega
 have htop:0 < xs.getD (nn+1) 0:=by
  have h1:=nx.nrm hxne;rw [List.getLast_eq_getElem] at h1;have h2:xs.length - 1=nn+1:=by rw [HX.out]; omega
  have h3:nn+1 < xs.length:=by rw [HX.out]; omega
  have h4:xs.getD (nn+1) 0=xs[xs.length - 1]'(by omega):=by
   simp [List.getD_eq_getElem?_getD,h2,h3]
  omega
 have htb:=W.bnd_at nx.bnd (i:=nn+1) (by rw [HX.out]; omega);have ht0:=W.bnd_at nx.bnd (i:=nn) (by rw [HX.out]; omega);obtain ⟨s,hs,hlz,hY1,hY2⟩:=lz_spec htop htb;have hlz64:=fun wx:World=>lz64_c htb wx;rw [hlz] at hlz64;obtain ⟨P,hP⟩:∃ P,18446744073709551616^nn*2^(64 - s)=P:=⟨_,rfl⟩;have hP0:0 < P:=by rw [←hP]; exact Nat.mul_pos (Nat.pow_pos (by omega)) (Nat.two_pow_pos _)
 have hA:x / P=xs.getD (nn+1) 0*2^s+xs.getD nn 0 / 2^(64 - s):=by
  rw [←hP];refine W.head_of (pow_split hs) (Nat.two_pow_pos _) (lo:=W.val 18446744073709551616 (xs.take nn)) ?_ ?_
  · rw [←nx.val];exact val_top2 (by rw [HX.out]; omega)
  · exact take_lt nx.bnd (by rw [HX.out]; omega)
 have hAb:xs.getD (nn+1) 0*2^s+xs.getD nn 0 / 2^(64 - s) < 18446744073709551616:=by
  rw [←head_or hs ht0];exact or_lt64 hY2 (by have:=Nat.div_le_self (xs.getD nn 0) (2^(64 - s)); omega)
 have hBA:y / P≤x / P:=Nat.div_le_div_right hge;have hB1:m=nn+2→y / P=ys.getD (nn+1) 0*2^s+ys.getD nn 0 / 2^(64 - s):=by
  intro hm;rw [←hP];refine W.head_of (pow_split hs) (Nat.two_pow_pos _) (lo:=W.val 18446744073709551616 (ys.take nn)) ?_ ?_
  · rw [←ny.val];exact val_top2 (by rw [HY.out]; omega)
  · exact take_lt ny.bnd (by rw [HY.out]; omega)
 have hB2:m=nn+1→y / P=ys.getD nn 0 / 2^(64 - s):=by
  intro hm;rw [←hP]
  have:=W.head_of (t1:=0) (pow_split hs) (Nat.two_pow_pos _) (a:=y) (t0:=ys.getD nn 0) (M:=18446744073709551616^nn) (lo:=W.val 18446744073709551616 (ys.take nn)) (by
   rw [←ny.val,Nat.zero_mul,Nat.zero_add];have:=val_last (B:=18446744073709551616) (l:=ys) (m:=nn) (by rw [HY.out]; omega)
   rw [this]) (take_lt ny.bnd (by rw [HY.out]; omega))
  rw [this,Nat.zero_mul,Nat.zero_add]
 have hB3:m≤nn→y / P=0:=by
  intro hm;apply Nat.div_eq_of_lt;have h1:=W.val_lt ny.bnd;rw [ny.val,HY.out] at h1;have h2:18446744073709551616^m≤18446744073709551616^nn:=Nat.pow_le_pow_right (by omega) hm;have h3:18446744073709551616^nn*1≤18446744073709551616^nn*2^(64 - s):=Nat.mul_le_mul_left _ (Nat.two_pow_pos _);omega
 have hS0:=Lib.hid (W.Sim.start hP0 hge);obtain ⟨A,hAe⟩:∃ A,x / P=A:=⟨_,rfl⟩;obtain ⟨Bb,hBe⟩:∃ Bb,y / P=Bb:=⟨_,rfl⟩;rw [hAe,hBe] at hS0;rw [hAe] at hA hBA;rw [hBe] at hBA hB1 hB2 hB3;generalize x % P=α at *
 generalize y % P=β at *
 clear hAe hBe hP hP0 hxne;have hAb2:A < 18446744073709551616:=by rw [hA]; exact hAb
 have hBb2:Bb < 18446744073709551616:=by omega
 obtain ⟨b1,o1,rfl,hc1⟩:=hx.at (j:=0) (by omega);have g1:=hc1 (nn+1) (by omega);have g0:=hc1 nn (by omega);have fA:bits BinOp.or IntKind.u64 ((xs.getD (nn+1) 0*2^s:Nat):Int) ((xs.getD nn 0 / 2^(64 - s):Nat):Int)=(A:Int):=by
  rw [u64_or_nat _ _ hY2 (by have:=Nat.div_le_self (xs.getD nn 0) (2^(64 - s)); omega),head_or hs ht0,hA]
 have fA1:IntKind.u64.wrap (((xs.getD (nn+1) 0:Nat):Int)*2^s)=((xs.getD (nn+1) 0*2^s:Nat):Int):=wrap_nat (by push_cast; rfl) hY2;have fA2:((xs.getD nn 0:Nat):Int) / 2^(64 - s)=((xs.getD nn 0 / 2^(64 - s):Nat):Int):=by push_cast; rfl
 generalize xs.getD nn 0 / 2^(64 - s)=q0 at *
 generalize xs.getD (nn+1) 0 * 2^s=q1 at *
 generalize xs.getD (nn+1) 0=t1 at *
 generalize xs.getD nn 0=t0 at *
 have hw1:IntKind.i64.wrap ((n:Int) - 1)=((nn+1:Nat):Int):=by rw [show (n:Int) - 1=((nn+1:Nat):Int) by omega]; exact IntWalk.i64_in _ (by omega)
 have hw2:IntKind.i64.wrap ((n:Int) - 2)=((nn:Nat):Int):=by rw [show (n:Int) - 2=((nn:Nat):Int) by omega]; exact IntWalk.i64_in _ (by omega)
 have hl1:((nn+1:Nat):Int) < (n:Int):=by omega
 have hl2:((nn:Nat):Int) < (n:Int):=by omega
 have hws:IntKind.u64.wrap (64 - (s:Int))=((64 - s:Nat):Int):=by rw [IntKind.wrap_u64]; omega
 have HN:Hid (n=nn+2):=Lib.hid hn2;obtain ⟨N1,hN1⟩:∃ N1,nn+1=N1:=⟨_,rfl⟩;rw [hN1] at g1 hw1 hl1;have HN1:=Lib.hid hN1;clear hc1 hlz hA hAb hY1 htop hn2 hN1
 go_enter Tryz.func137,Tryz.ntmps137
 go_upto_region 1 with (fail)
 refine box1 ?_;intro w0 hE0 hR0 hz0;have gg1:=hE0.cell g1;have gg0:=hE0.cell g0;have hy0:=hy.ext hE0;clear g1 g0 hx hy
 go_wp2_with fail
 refine (hlz64 _).mono ?_;rintro e w2 ⟨rfl,rfl⟩;go_wp2
 go_quiet (fail)
 have hE1:=hE0.drewN nq;have hR1:=hR0.drewN nq;have hy1:=hy0.ext ((Ext.refl w2).drewN nq);have hz1:(w2.drewN nq).heap.size=w.heap.size+1:=hz0;generalize w2.drewN nq=w3 at *
 clear hy0 hE0 hR0 hz0 gg1 gg0 fA fA1 fA2 hlz64;have hz1':w.heap.size < w3.heap.size:=by omega
 have HZ1:=Lib.hid hz1;clear hz1;have hcase:m=nn+2∨m=nn+1∨m≤nn:=by have:=HN.out; omega
 rcases hcase with hm | hm | hm
 · obtain ⟨b2,o2,rfl,hc2⟩:=hy1.at (j:=0) (by omega);have e1:=hB1 hm;have k1:=W.bnd_at ny.bnd (i:=nn+1) (by rw [HY.out]; omega);have k0:=W.bnd_at ny.bnd (i:=nn) (by rw [HY.out]; omega);have g1:=hc2 (nn+1) (by omega);have g0:=hc2 nn (by omega);rw [HN1.out] at g1;have hY3:ys.getD (nn+1) 0*2^s < 18446744073709551616:=by
    have h1:ys.getD (nn+1) 0*2^s≤Bb:=by rw [e1]; exact Nat.le_add_right _ _
    omega
   have fA:bits BinOp.or IntKind.u64 ((ys.getD (nn+1) 0*2^s:Nat):Int) ((ys.getD nn 0 / 2^(64 - s):Nat):Int)=(Bb:Int):=by
    rw [u64_or_nat _ _ hY3 (by have:=Nat.div_le_self (ys.getD nn 0) (2^(64 - s)); omega),head_or hs k0,e1]
   have fA1:IntKind.u64.wrap (((ys.getD (nn+1) 0:Nat):Int)*2^s)=((ys.getD (nn+1) 0*2^s:Nat):Int):=wrap_nat (by push_cast; rfl) hY3;have fA2:((ys.getD nn 0:Nat):Int) / 2^(64 - s)=((ys.getD nn 0 / 2^(64 - s):Nat):Int):=by push_cast; rfl
   rw [HN1.out] at fA fA1;clear e1 hY3 hB1 hB2 hB3;generalize ys.getD nn 0 / 2^(64 - s)=p0 at *
   generalize ys.getD N1 0 * 2^s=p1 at *
   generalize ys.getD N1 0=y1 at *
   generalize ys.getD nn 0=y0 at *
   have hmb:((m:Int) == (n:Int))=true:=by have:=HN.out; simp; omega
   have hl3:((N1:Nat):Int) < (m:Int):=by have:=HN1.out; omega
   have hl4:((nn:Nat):Int) < (m:Int):=by omega
   clear hm hc2;go_wp2
   go_quiet (fail)
   go_upto_region 10 with (fail)
   have hE2:=hE1.drewN nq;have hR2:=hR1.drewN nq;have hz2:w.heap.size < (w3.drewN nq).heap.size:=hz1';generalize w3.drewN nq=w4 at *
   clear g1 g0 fA fA1 fA2 hmb hl3 hl4 k0 k1 hE1 hR1 hz1' hy1;go_wp2;refine box1 ?_;intro w5 hE5 hS5 hz5;have hR5:Arr w5 w.heap.size 184 (stepsL 0 0 0 0 false):=hR2.ext hE5;have hS6:Arr w5 w4.heap.size 184 (stepsL 0 1 0 0 false):=hS5;have hE6:=hE2.trans hE5;clear hR2 hS5 hE2 hE5;generalize hS:w4.heap.size=S at *
   have HSz:=Lib.hid hS;clear hS hz5
   go_loopw [7,8,10,11] (fun fv gv uv vv wr=>∃ (f g u0 u1 u2 v0 v1 v2:Nat) (odd:Bool),fv = .int .u64 f∧gv = .int .u64 g∧uv = .int .u64 u2∧vv = .int .u64 v2∧Ext w wr∧Arr wr w.heap.size 184 (stepsL 0 0 0 0 false)∧Arr wr S 184 (stepsL u0 u1 v0 v1 odd)∧Hid (W.Sim x y A Bb P α β f g u0 u1 u2 v0 v1 v2 odd)∧(f < 18446744073709551616∧g < 18446744073709551616)∧(u0 < 18446744073709551616∧u1 < 18446744073709551616∧u2 < 18446744073709551616)∧(v0 < 18446744073709551616∧v1 < 18446744073709551616∧v2 < 18446744073709551616)) (fun _ gv _ _ _=>(intOf gv).toNat)
   case atStart=>exact ⟨A,Bb,0,1,0,0,0,1,false,rfl,rfl,rfl,rfl,hE6,hR5,hS6,hS0,⟨by omega,by omega⟩,⟨by omega,by omega,by omega⟩,⟨by omega,by omega,by omega⟩⟩
   case round =>
    clear hE6 hR5 hS6 hS0;obtain ⟨f,g,u0,u1,u2,v0,v1,v2,odd,rfl,rfl,rfl,rfl,hE,hR,hS,HS,⟨hf,hg⟩,⟨hu0,hu1,hu2⟩,⟨hv0,hv1,hv2⟩⟩:=hrel;have hv2p:=HS.out.leh.v2p;have hgf:=HS.out.leh.gf;have hfin:(v0=0∨∃ p q,W.Steps x y u0 u1 v0 v1 odd p q):=HS.out.good;have HFIN:=Lib.hid hfin;clear hfin;have s0:=hS.c 0 rfl;have s1:=hS.c 1 rfl;have s2:=hS.c 2 rfl;have s3:=hS.c 3 rfl;have s4:=hS.c 4 rfl;by_cases hc1:v2≤g
    · obtain ⟨k1,k2,k3⟩:=HS.out.bound (by omega);have hww:IntKind.u64.wrap ((v1:Int)+v2)=((v1+v2:Nat):Int):=wrap_nat (by push_cast; rfl) (by omega);have hww2:IntKind.u64.wrap ((f:Int) - g)=((f - g:Nat):Int):=wrap_nat (by omega) (by omega);have hle:(v2:Int)≤(g:Int):=by omega
      by_cases hc2:v1+v2≤f - g
      · obtain ⟨HS2,kv,ku,hlt⟩:=HS.out.step hc1 hc2;have hg0:((g:Int) == 0)=false:=by simp; omega
        have hquo:(f:Int).tdiv g=((f / g:Nat):Int):=by rw [Int.tdiv_eq_ediv_of_nonneg (by omega)]; push_cast; rfl
        have hquo':(f:Int) / g=((f / g:Nat):Int):=by push_cast; rfl
        have hrem:(f:Int).tmod g=((f % g:Nat):Int):=by rw [Int.tmod_eq_emod_of_nonneg (by omega)]; push_cast; rfl
        have hrem':(f:Int) % g=((f % g:Nat):Int):=by push_cast; rfl
        have hle2:((v1+v2:Nat):Int)≤((f - g:Nat):Int):=by omega
        have HS3:=Lib.hid HS2;have hqf:f / g≤f:=Nat.div_le_self _ _;clear HS2 HS HFIN;generalize f / g=q at *
        generalize f % g=r at *
        have hwq:IntKind.u64.wrap (q:Int)=(q:Int):=wrap_nat rfl (by omega);have m1:IntKind.u64.wrap ((q:Int)*u2)=((q*u2:Nat):Int):=wrap_nat (by push_cast; rfl) (by omega);have m2:IntKind.u64.wrap ((q:Int)*v2)=((q*v2:Nat):Int):=wrap_nat (by push_cast; rfl) (by omega);have m3:IntKind.u64.wrap ((u1:Int)+((q*u2:Nat):Int))=((u1+q*u2:Nat):Int):=wrap_nat (by omega) (by omega);have m4:IntKind.u64.wrap ((v1:Int)+((q*v2:Nat):Int))=((v1+q*v2:Nat):Int):=wrap_nat (by omega) (by omega);generalize hU:u1+q * u2=U at *
        generalize hV:v1+q * v2=V at *
        generalize q * u2=qu at *
        generalize q * v2=qv at *
        generalize v1+v2=vs at *
        generalize f - g=fg at *
        clear hU hV hqf;go_wp2
        go_quiet (fail)
        have hSq:=hS.drewN nq;have hRq:=hR.drewN nq;have hEq:=hE.drewN nq;have t0:(wr.drewN nq).cell? ⟨S,0,none⟩=_:=s0;have t1:(wr.drewN nq).cell? ⟨S,1,none⟩=_:=s1;have t2:(wr.drewN nq).cell? ⟨S,2,none⟩=_:=s2;have t3:(wr.drewN nq).cell? ⟨S,3,none⟩=_:=s3;have t4:(wr.drewN nq).cell? ⟨S,4,none⟩=_:=s4;generalize wr.drewN nq=wq at *
        clear s0 s1 s2 s3 s4 hS hR hE;have hS7:=((((hSq.set 0 (.int .u64 u1)).set 1 (.int .u64 u2)).set 2 (.int .u64 v1)).set 3 (.int .u64 v2)).set 4 (.bool (!odd));have hR7:=((((hRq.far (p:=⟨S,0,none⟩) (by show w.heap.size≠S; omega) (.int .u64 u1)).far (p:=⟨S,1,none⟩) (by show w.heap.size≠S; omega) (.int .u64 u2)).far (p:=⟨S,2,none⟩) (by show w.heap.size≠S; omega) (.int .u64 v1)).far (p:=⟨S,3,none⟩) (by show w.heap.size≠S; omega) (.int .u64 v2)).far (p:=⟨S,4,none⟩) (by show w.heap.size≠S; omega) (.bool (!odd))
        have hE7:=((((hEq.setCell (p:=⟨S,0,none⟩) (by show w.heap.size≤S; omega) (.int .u64 u1)).setCell (p:=⟨S,1,none⟩) (by show w.heap.size≤S; omega) (.int .u64 u2)).setCell (p:=⟨S,2,none⟩) (by show w.heap.size≤S; omega) (.int .u64 v1)).setCell (p:=⟨S,3,none⟩) (by show w.heap.size≤S; omega) (.int .u64 v2)).setCell (p:=⟨S,4,none⟩) (by show w.heap.size≤S; omega) (.bool (!odd));have z0:=hSq.frozen 0;have z1:=hSq.frozen 1;have z2:=hSq.frozen 2;have z3:=hSq.frozen 3;have z4:=hSq.frozen 4;go_wp2;go_roundw
        case rel=>exact ⟨g,r,u1,u2,U,v1,v2,V,!odd,rfl,rfl,rfl,rfl,hE7,hR7,hS7,HS3,⟨hg,by omega⟩,⟨hu1,hu2,by omega⟩,⟨hv1,hv2,by omega⟩⟩
        case measure=>simp [intOf]; omega
      · have hgt:¬ (((v1+v2:Nat):Int)≤((f - g:Nat):Int)):=by omega
        have hgt2:((f - g:Nat):Int) < ((v1+v2:Nat):Int):=by omega
        have hgt3:decide (v1+v2≤f - g)=false:=by simp; omega
        generalize v1+v2=vs at *
        generalize f - g=fg at *
        clear hc2 HS
        go_upto_region 19 with (fail)
        go_wp2_with (first
         | (refine wl_ldArr rfl rfl agg_steps rfl hS ?_)
         | (refine wl_stArr rfl rfl rfl rfl rfl agg_steps hR rfl (stepsL_one _ _ _ _ _) ?_; intro w9 hB9 hg9))
        refine bodyPost_ret (v := .agg (stepsL u0 u1 v0 v1 odd).toArray) (res_arr rfl agg_steps rfl hB9) rfl ⟨u0,u1,v0,v1,odd,rfl,hE.grownR hg9 (Nat.le_refl _),hu0,hu1,hv0,hv1,HFIN.out⟩
    · have hgt:¬ ((v2:Int)≤(g:Int)):=by omega
      have hgt2:(g:Int) < (v2:Int):=by omega
      clear hc1 HS
      go_upto_region 19 with (fail)
      go_wp2_with (first
       | (refine wl_ldArr rfl rfl agg_steps rfl hS ?_)
       | (refine wl_stArr rfl rfl rfl rfl rfl agg_steps hR rfl (stepsL_one _ _ _ _ _) ?_; intro w9 hB9 hg9))
      refine bodyPost_ret (v := .agg (stepsL u0 u1 v0 v1 odd).toArray) (res_arr rfl agg_steps rfl hB9) rfl ⟨u0,u1,v0,v1,odd,rfl,hE.grownR hg9 (Nat.le_refl _),hu0,hu1,hv0,hv1,HFIN.out⟩
 · obtain ⟨b2,o2,rfl,hc2⟩:=hy1.at (j:=0) (by omega);have e1:=hB2 hm;have g0:=hc2 nn (by omega);have fA2:((ys.getD nn 0:Nat):Int) / 2^(64 - s)=(Bb:Int):=by rw [e1]; push_cast; rfl
   clear e1 hB1 hB2 hB3;generalize ys.getD nn 0=y0 at *
   have hmb:((m:Int) == (n:Int))=false:=by have:=HN.out; simp; omega
   have hmb2:((m:Int) == ((N1:Nat):Int))=true:=by have:=HN1.out; simp; omega
   have hl4:((nn:Nat):Int) < (m:Int):=by omega
   clear hm hc2
   go_upto_region 10 with (fail)
   obtain ⟨w4,hw4⟩:∃ w4,w3=w4:=⟨_,rfl⟩;subst hw4;have hE2:=hE1;have hR2:=hR1;have hz2:=hz1';clear g0 fA2 hmb hmb2 hl4 hE1 hR1 hz1' hy1;go_wp2;refine box1 ?_;intro w5 hE5 hS5 hz5;have hR5:Arr w5 w.heap.size 184 (stepsL 0 0 0 0 false):=hR2.ext hE5;have hS6:Arr w5 w3.heap.size 184 (stepsL 0 1 0 0 false):=hS5;have hE6:=hE2.trans hE5;clear hR2 hS5 hE2 hE5;generalize hS:w3.heap.size=S at *
   have HSz:=Lib.hid hS;clear hS hz5
   go_loopw [7,8,10,11] (fun fv gv uv vv wr=>∃ (f g u0 u1 u2 v0 v1 v2:Nat) (odd:Bool),fv = .int .u64 f∧gv = .int .u64 g∧uv = .int .u64 u2∧vv = .int .u64 v2∧Ext w wr∧Arr wr w.heap.size 184 (stepsL 0 0 0 0 false)∧Arr wr S 184 (stepsL u0 u1 v0 v1 odd)∧Hid (W.Sim x y A Bb P α β f g u0 u1 u2 v0 v1 v2 odd)∧(f < 18446744073709551616∧g < 18446744073709551616)∧(u0 < 18446744073709551616∧u1 < 18446744073709551616∧u2 < 18446744073709551616)∧(v0 < 18446744073709551616∧v1 < 18446744073709551616∧v2 < 18446744073709551616)) (fun _ gv _ _ _=>(intOf gv).toNat)
   case atStart=>exact ⟨A,Bb,0,1,0,0,0,1,false,rfl,rfl,rfl,rfl,hE6,hR5,hS6,hS0,⟨by omega,by omega⟩,⟨by omega,by omega,by omega⟩,⟨by omega,by omega,by omega⟩⟩
   case round =>
    clear hE6 hR5 hS6 hS0;obtain ⟨f,g,u0,u1,u2,v0,v1,v2,odd,rfl,rfl,rfl,rfl,hE,hR,hS,HS,⟨hf,hg⟩,⟨hu0,hu1,hu2⟩,⟨hv0,hv1,hv2⟩⟩:=hrel;have hv2p:=HS.out.leh.v2p;have hgf:=HS.out.leh.gf;have hfin:(v0=0∨∃ p q,W.Steps x y u0 u1 v0 v1 odd p q):=HS.out.good;have HFIN:=Lib.hid hfin;clear hfin;have s0:=hS.c 0 rfl;have s1:=hS.c 1 rfl;have s2:=hS.c 2 rfl;have s3:=hS.c 3 rfl;have s4:=hS.c 4 rfl;by_cases hc1:v2≤g
    · obtain ⟨k1,k2,k3⟩:=HS.out.bound (by omega);have hww:IntKind.u64.wrap ((v1:Int)+v2)=((v1+v2:Nat):Int):=wrap_nat (by push_cast; rfl) (by omega);have hww2:IntKind.u64.wrap ((f:Int) - g)=((f - g:Nat):Int):=wrap_nat (by omega) (by omega);have hle:(v2:Int)≤(g:Int):=by omega
      by_cases hc2:v1+v2≤f - g
      · obtain ⟨HS2,kv,ku,hlt⟩:=HS.out.step hc1 hc2;have hg0:((g:Int) == 0)=false:=by simp; omega
        have hquo:(f:Int).tdiv g=((f / g:Nat):Int):=by rw [Int.tdiv_eq_ediv_of_nonneg (by omega)]; push_cast; rfl
        have hquo':(f:Int) / g=((f / g:Nat):Int):=by push_cast; rfl
        have hrem:(f:Int).tmod g=((f % g:Nat):Int):=by rw [Int.tmod_eq_emod_of_nonneg (by omega)]; push_cast; rfl
        have hrem':(f:Int) % g=((f % g:Nat):Int):=by push_cast; rfl
        have hle2:((v1+v2:Nat):Int)≤((f - g:Nat):Int):=by omega
        have HS3:=Lib.hid HS2;have hqf:f / g≤f:=Nat.div_le_self _ _;clear HS2 HS HFIN;generalize f / g=q at *
        generalize f % g=r at *
        have hwq:IntKind.u64.wrap (q:Int)=(q:Int):=wrap_nat rfl (by omega);have m1:IntKind.u64.wrap ((q:Int)*u2)=((q*u2:Nat):Int):=wrap_nat (by push_cast; rfl) (by omega);have m2:IntKind.u64.wrap ((q:Int)*v2)=((q*v2:Nat):Int):=wrap_nat (by push_cast; rfl) (by omega);have m3:IntKind.u64.wrap ((u1:Int)+((q*u2:Nat):Int))=((u1+q*u2:Nat):Int):=wrap_nat (by omega) (by omega);have m4:IntKind.u64.wrap ((v1:Int)+((q*v2:Nat):Int))=((v1+q*v2:Nat):Int):=wrap_nat (by omega) (by omega);generalize hU:u1+q * u2=U at *
        generalize hV:v1+q * v2=V at *
        generalize q * u2=qu at *
        generalize q * v2=qv at *
        generalize v1+v2=vs at *
        generalize f - g=fg at *
        clear hU hV hqf;go_wp2
        go_quiet (fail)
        have hSq:=hS.drewN nq;have hRq:=hR.drewN nq;have hEq:=hE.drewN nq;have t0:(wr.drewN nq).cell? ⟨S,0,none⟩=_:=s0;have t1:(wr.drewN nq).cell? ⟨S,1,none⟩=_:=s1;have t2:(wr.drewN nq).cell? ⟨S,2,none⟩=_:=s2;have t3:(wr.drewN nq).cell? ⟨S,3,none⟩=_:=s3;have t4:(wr.drewN nq).cell? ⟨S,4,none⟩=_:=s4;generalize wr.drewN nq=wq at *
        clear s0 s1 s2 s3 s4 hS hR hE;have hS7:=((((hSq.set 0 (.int .u64 u1)).set 1 (.int .u64 u2)).set 2 (.int .u64 v1)).set 3 (.int .u64 v2)).set 4 (.bool (!odd));have hR7:=((((hRq.far (p:=⟨S,0,none⟩) (by show w.heap.size≠S; omega) (.int .u64 u1)).far (p:=⟨S,1,none⟩) (by show w.heap.size≠S; omega) (.int .u64 u2)).far (p:=⟨S,2,none⟩) (by show w.heap.size≠S; omega) (.int .u64 v1)).far (p:=⟨S,3,none⟩) (by show w.heap.size≠S; omega) (.int .u64 v2)).far (p:=⟨S,4,none⟩) (by show w.heap.size≠S; omega) (.bool (!odd))
        have hE7:=((((hEq.setCell (p:=⟨S,0,none⟩) (by show w.heap.size≤S; omega) (.int .u64 u1)).setCell (p:=⟨S,1,none⟩) (by show w.heap.size≤S; omega) (.int .u64 u2)).setCell (p:=⟨S,2,none⟩) (by show w.heap.size≤S; omega) (.int .u64 v1)).setCell (p:=⟨S,3,none⟩) (by show w.heap.size≤S; omega) (.int .u64 v2)).setCell (p:=⟨S,4,none⟩) (by show w.heap.size≤S; omega) (.bool (!odd));have z0:=hSq.frozen 0;have z1:=hSq.frozen 1;have z2:=hSq.frozen 2;have z3:=hSq.frozen 3;have z4:=hSq.frozen 4;go_wp2;go_roundw
        case rel=>exact ⟨g,r,u1,u2,U,v1,v2,V,!odd,rfl,rfl,rfl,rfl,hE7,hR7,hS7,HS3,⟨hg,by omega⟩,⟨hu1,hu2,by omega⟩,⟨hv1,hv2,by omega⟩⟩
        case measure=>simp [intOf]; omega
      · have hgt:¬ (((v1+v2:Nat):Int)≤((f - g:Nat):Int)):=by omega
        have hgt2:((f - g:Nat):Int) < ((v1+v2:Nat):Int):=by omega
        have hgt3:decide (v1+v2≤f - g)=false:=by simp; omega
        generalize v1+v2=vs at *
        generalize f - g=fg at *
        clear hc2 HS
        go_upto_region 19 with (fail)
        go_wp2_with (first
         | (refine wl_ldArr rfl rfl agg_steps rfl hS ?_)
         | (refine wl_stArr rfl rfl rfl rfl rfl agg_steps hR rfl (stepsL_one _ _ _ _ _) ?_; intro w9 hB9 hg9))
        refine bodyPost_ret (v := .agg (stepsL u0 u1 v0 v1 odd).toArray) (res_arr rfl agg_steps rfl hB9) rfl ⟨u0,u1,v0,v1,odd,rfl,hE.grownR hg9 (Nat.le_refl _),hu0,hu1,hv0,hv1,HFIN.out⟩
    · have hgt:¬ ((v2:Int)≤(g:Int)):=by omega
      have hgt2:(g:Int) < (v2:Int):=by omega
      clear hc1 HS
      go_upto_region 19 with (fail)
      go_wp2_with (first
       | (refine wl_ldArr rfl rfl agg_steps rfl hS ?_)
       | (refine wl_stArr rfl rfl rfl rfl rfl agg_steps hR rfl (stepsL_one _ _ _ _ _) ?_; intro w9 hB9 hg9))
      refine bodyPost_ret (v := .agg (stepsL u0 u1 v0 v1 odd).toArray) (res_arr rfl agg_steps rfl hB9) rfl ⟨u0,u1,v0,v1,odd,rfl,hE.grownR hg9 (Nat.le_refl _),hu0,hu1,hv0,hv1,HFIN.out⟩
 · have e1:=hB3 hm;subst e1;clear hB1 hB2 hB3;have hmb:((m:Int) == (n:Int))=false:=by have:=HN.out; simp; omega
   have hmb2:((m:Int) == ((N1:Nat):Int))=false:=by have:=HN1.out; simp; omega
   clear hm
   go_upto_region 10 with (fail)
   have hE2:=hE1;have hR2:=hR1;have hz2:=hz1';clear hmb hmb2 hE1 hR1 hz1' hy1;go_wp2;refine box1 ?_;intro w5 hE5 hS5 hz5;have hR5:Arr w5 w.heap.size 184 (stepsL 0 0 0 0 false):=hR2.ext hE5;have hS6:Arr w5 w3.heap.size 184 (stepsL 0 1 0 0 false):=hS5;have hE6:=hE2.trans hE5;clear hR2 hS5 hE2 hE5;generalize hS:w3.heap.size=S at *
   have HSz:=Lib.hid hS;clear hS hz5
   go_loopw [7,8,10,11] (fun fv gv uv vv wr=>∃ (f g u0 u1 u2 v0 v1 v2:Nat) (odd:Bool),fv = .int .u64 f∧gv = .int .u64 g∧uv = .int .u64 u2∧vv = .int .u64 v2∧Ext w wr∧Arr wr w.heap.size 184 (stepsL 0 0 0 0 false)∧Arr wr S 184 (stepsL u0 u1 v0 v1 odd)∧Hid (W.Sim x y A 0 P α β f g u0 u1 u2 v0 v1 v2 odd)∧(f < 18446744073709551616∧g < 18446744073709551616)∧(u0 < 18446744073709551616∧u1 < 18446744073709551616∧u2 < 18446744073709551616)∧(v0 < 18446744073709551616∧v1 < 18446744073709551616∧v2 < 18446744073709551616)) (fun _ gv _ _ _=>(intOf gv).toNat)
   case atStart=>exact ⟨A,0,0,1,0,0,0,1,false,rfl,rfl,rfl,rfl,hE6,hR5,hS6,hS0,⟨by omega,by omega⟩,⟨by omega,by omega,by omega⟩,⟨by omega,by omega,by omega⟩⟩
   case round =>
    clear hE6 hR5 hS6 hS0;obtain ⟨f,g,u0,u1,u2,v0,v1,v2,odd,rfl,rfl,rfl,rfl,hE,hR,hS,HS,⟨hf,hg⟩,⟨hu0,hu1,hu2⟩,⟨hv0,hv1,hv2⟩⟩:=hrel;have hv2p:=HS.out.leh.v2p;have hgf:=HS.out.leh.gf;have hfin:(v0=0∨∃ p q,W.Steps x y u0 u1 v0 v1 odd p q):=HS.out.good;have HFIN:=Lib.hid hfin;clear hfin;have s0:=hS.c 0 rfl;have s1:=hS.c 1 rfl;have s2:=hS.c 2 rfl;have s3:=hS.c 3 rfl;have s4:=hS.c 4 rfl;by_cases hc1:v2≤g
    · obtain ⟨k1,k2,k3⟩:=HS.out.bound (by omega);have hww:IntKind.u64.wrap ((v1:Int)+v2)=((v1+v2:Nat):Int):=wrap_nat (by push_cast; rfl) (by omega);have hww2:IntKind.u64.wrap ((f:Int) - g)=((f - g:Nat):Int):=wrap_nat (by omega) (by omega);have hle:(v2:Int)≤(g:Int):=by omega
      by_cases hc2:v1+v2≤f - g
      · obtain ⟨HS2,kv,ku,hlt⟩:=HS.out.step hc1 hc2;have hg0:((g:Int) == 0)=false:=by simp; omega
        have hquo:(f:Int).tdiv g=((f / g:Nat):Int):=by rw [Int.tdiv_eq_ediv_of_nonneg (by omega)]; push_cast; rfl
        have hquo':(f:Int) / g=((f / g:Nat):Int):=by push_cast; rfl
        have hrem:(f:Int).tmod g=((f % g:Nat):Int):=by rw [Int.tmod_eq_emod_of_nonneg (by omega)]; push_cast; rfl
        have hrem':(f:Int) % g=((f % g:Nat):Int):=by push_cast; rfl
        have hle2:((v1+v2:Nat):Int)≤((f - g:Nat):Int):=by omega
        have HS3:=Lib.hid HS2;have hqf:f / g≤f:=Nat.div_le_self _ _;clear HS2 HS HFIN;generalize f / g=q at *
        generalize f % g=r at *
        have hwq:IntKind.u64.wrap (q:Int)=(q:Int):=wrap_nat rfl (by omega);have m1:IntKind.u64.wrap ((q:Int)*u2)=((q*u2:Nat):Int):=wrap_nat (by push_cast; rfl) (by omega);have m2:IntKind.u64.wrap ((q:Int)*v2)=((q*v2:Nat):Int):=wrap_nat (by push_cast; rfl) (by omega);have m3:IntKind.u64.wrap ((u1:Int)+((q*u2:Nat):Int))=((u1+q*u2:Nat):Int):=wrap_nat (by omega) (by omega);have m4:IntKind.u64.wrap ((v1:Int)+((q*v2:Nat):Int))=((v1+q*v2:Nat):Int):=wrap_nat (by omega) (by omega);generalize hU:u1+q * u2=U at *
        generalize hV:v1+q * v2=V at *
        generalize q * u2=qu at *
        generalize q * v2=qv at *
        generalize v1+v2=vs at *
        generalize f - g=fg at *
        clear hU hV hqf;go_wp2
        go_quiet (fail)
        have hSq:=hS.drewN nq;have hRq:=hR.drewN nq;have hEq:=hE.drewN nq;have t0:(wr.drewN nq).cell? ⟨S,0,none⟩=_:=s0;have t1:(wr.drewN nq).cell? ⟨S,1,none⟩=_:=s1;have t2:(wr.drewN nq).cell? ⟨S,2,none⟩=_:=s2;have t3:(wr.drewN nq).cell? ⟨S,3,none⟩=_:=s3;have t4:(wr.drewN nq).cell? ⟨S,4,none⟩=_:=s4;generalize wr.drewN nq=wq at *
        clear s0 s1 s2 s3 s4 hS hR hE;have hS7:=((((hSq.set 0 (.int .u64 u1)).set 1 (.int .u64 u2)).set 2 (.int .u64 v1)).set 3 (.int .u64 v2)).set 4 (.bool (!odd));have hR7:=((((hRq.far (p:=⟨S,0,none⟩) (by show w.heap.size≠S; omega) (.int .u64 u1)).far (p:=⟨S,1,none⟩) (by show w.heap.size≠S; omega) (.int .u64 u2)).far (p:=⟨S,2,none⟩) (by show w.heap.size≠S; omega) (.int .u64 v1)).far (p:=⟨S,3,none⟩) (by show w.heap.size≠S; omega) (.int .u64 v2)).far (p:=⟨S,4,none⟩) (by show w.heap.size≠S; omega) (.bool (!odd))
        have hE7:=((((hEq.setCell (p:=⟨S,0,none⟩) (by show w.heap.size≤S; omega) (.int .u64 u1)).setCell (p:=⟨S,1,none⟩) (by show w.heap.size≤S; omega) (.int .u64 u2)).setCell (p:=⟨S,2,none⟩) (by show w.heap.size≤S; omega) (.int .u64 v1)).setCell (p:=⟨S,3,none⟩) (by show w.heap.size≤S; omega) (.int .u64 v2)).setCell (p:=⟨S,4,none⟩) (by show w.heap.size≤S; omega) (.bool (!odd));have z0:=hSq.frozen 0;have z1:=hSq.frozen 1;have z2:=hSq.frozen 2;have z3:=hSq.frozen 3;have z4:=hSq.frozen 4;go_wp2;go_roundw
        case rel=>exact ⟨g,r,u1,u2,U,v1,v2,V,!odd,rfl,rfl,rfl,rfl,hE7,hR7,hS7,HS3,⟨hg,by omega⟩,⟨hu1,hu2,by omega⟩,⟨hv1,hv2,by omega⟩⟩
        case measure=>simp [intOf]; omega
      · have hgt:¬ (((v1+v2:Nat):Int)≤((f - g:Nat):Int)):=by omega
        have hgt2:((f - g:Nat):Int) < ((v1+v2:Nat):Int):=by omega
        have hgt3:decide (v1+v2≤f - g)=false:=by simp; omega
        generalize v1+v2=vs at *
        generalize f - g=fg at *
        clear hc2 HS
        go_upto_region 19 with (fail)
        go_wp2_with (first
         | (refine wl_ldArr rfl rfl agg_steps rfl hS ?_)
         | (refine wl_stArr rfl rfl rfl rfl rfl agg_steps hR rfl (stepsL_one _ _ _ _ _) ?_; intro w9 hB9 hg9))
        refine bodyPost_ret (v := .agg (stepsL u0 u1 v0 v1 odd).toArray) (res_arr rfl agg_steps rfl hB9) rfl ⟨u0,u1,v0,v1,odd,rfl,hE.grownR hg9 (Nat.le_refl _),hu0,hu1,hv0,hv1,HFIN.out⟩
    · have hgt:¬ ((v2:Int)≤(g:Int)):=by omega
      have hgt2:(g:Int) < (v2:Int):=by omega
      clear hc1 HS
      go_upto_region 19 with (fail)
      go_wp2_with (first
       | (refine wl_ldArr rfl rfl agg_steps rfl hS ?_)
       | (refine wl_stArr rfl rfl rfl rfl rfl agg_steps hR rfl (stepsL_one _ _ _ _ _) ?_; intro w9 hB9 hg9))
      refine bodyPost_ret (v := .agg (stepsL u0 u1 v0 v1 odd).toArray) (res_arr rfl agg_steps rfl hB9) rfl ⟨u0,u1,v0,v1,odd,rfl,hE.grownR hg9 (Nat.le_refl _),hu0,hu1,hv0,hv1,HFIN.out⟩
theorem Own.upto {w:World} {base:Nat} {e:TypeId} {a:Option Addr} {n c:Nat} {cs:List Value} (h:Own w base e a n c cs) {k:Nat} (hk:k≤n):Own w base e a k c (cs.take k):=by
 have hl:=h.len;refine ⟨by simp; omega, ?_⟩;rcases h.2 with ⟨hv,h0⟩ | ⟨g,cap,cur,hv,hg,hh,hnc,hm,hs,ht⟩
 · subst h0;have hk0:k=0:=by omega
   subst hk0;simp only [Value.slice.injEq] at hv;exact Or.inl ⟨by rw [hv.1,hv.2.2],rfl⟩
 · simp only [Value.slice.injEq] at hv;refine Or.inr ⟨g,cap,cur,by rw [hv.1,hv.2.2],hg,hh,by omega,hm,hs, ?_⟩;rw [←ht,List.take_take];congr 1;omega
theorem OwnN.upto {k:IntKind} {w:World} {base:Nat} {e:TypeId} {g n c:Nat} {xs:List Nat} (h:OwnN k w base e g n c xs) {m:Nat} (hm:m≤n):OwnN k w base e g m c (xs.take m):=by
 have:=Own.upto h hm;rw [←List.map_take] at this;exact this
def RetMA (x y c:Nat) (w:World) (e:Ending) (w':World):Prop:=∃ l h:Nat,e = .returned (.tuple #[.int .u64 l, .int .u64 h])∧w=w'∧l < 18446744073709551616∧h < 18446744073709551616∧l+18446744073709551616*h=x*y+c
theorem int_multiplyAdd {x y c:Nat} {w:World} (hx:x < 18446744073709551616) (hy:y < 18446744073709551616) (hc:c < 18446744073709551616) :
 Calls Tryz.prog 178 #[.int .u64 x, .int .u64 y, .int .u64 c] w (RetMA x y c w):=by
 have hm:=mul64_c hx hy;have hp:x*y≤18446744073709551615*18446744073709551615:=Nat.mul_le_mul (by omega) (by omega);have HP:Hid (x*y % 18446744073709551616+18446744073709551616*(x*y / 18446744073709551616)=x*y):=Lib.hid (Nat.mod_add_div _ _);have hl:x*y % 18446744073709551616 < 18446744073709551616:=Nat.mod_lt _ (by omega);have hh:x*y / 18446744073709551616≤18446744073709551614:=by omega
 generalize x * y / 18446744073709551616=hi at *
 generalize x * y % 18446744073709551616=lo at *
 have hadd:∀ wx:World,(callFunc 203 #[.int .u64 (lo:Int), .int .u64 (c:Int), .int .u64 0]).run Tryz.prog wx = .ok (.value (.tuple #[.int .u64 (((lo+c+0) % 18446744073709551616:Nat):Int), .int .u64 (((lo+c+0) / 18446744073709551616:Nat):Int)])) wx:=fun wx=>add64_run lo c 0 (by omega) wx;have HS:Hid ((lo+c+0) % 18446744073709551616+18446744073709551616*((lo+c+0) / 18446744073709551616)=lo+c):=Lib.hid (Nat.mod_add_div _ _);have hs:(lo+c+0) % 18446744073709551616 < 18446744073709551616:=Nat.mod_lt _ (by omega);have hcc:(lo+c+0) / 18446744073709551616≤1:=by omega
 generalize (lo+c+0) % 18446744073709551616=l at *
 generalize (lo+c+0) / 18446744073709551616=cc at *
 have hw:IntKind.u64.wrap ((hi:Int)+(cc:Int))=((hi+cc:Nat):Int):=wrap_nat (by omega) (by omega);have HF:Hid (l+18446744073709551616*(hi+cc)=x*y+c):=by show _=_; have h1:=HP.out; have h2:=HS.out; omega
 have hf:hi+cc < 18446744073709551616:=by omega
 generalize hi+cc=hf' at *
 clear HP HS hp
 go_enter Tryz.func178,Tryz.ntmps178
 go_wp2_with fail
 refine (hm _).mono ?_;rintro e w1 ⟨rfl,rfl⟩;go_wp2
 go_ret2
 exact ⟨l,hf',rfl,rfl,hs,hf,HF.out⟩
theorem app_step {B:Nat} {zs xs ys:List Nat} {k d u v c1 c2 c1' c2':Nat} (hk:k < zs.length) (hx:k < xs.length) (hy:k < ys.length) (h:W.val B (zs.take k)+u*W.val B (xs.take k)+c1*B^k=v*W.val B (ys.take k)+c2*B^k) (e:d+xs.getD k 0*u+c2+B*c1'=ys.getD k 0*v+c1+B*c2') :
 W.val B ((zs.set k d).take (k+1))+u*W.val B (xs.take (k+1))+c1'*B^(k+1)=v*W.val B (ys.take (k+1))+c2'*B^(k+1):=by
 have h1:=W.comb_step h e;have e1:W.val B ((zs.set k d).take (k+1))=W.val B (zs.take k)+B^k*d:=by
  rw [W.val_take_succ (by simpa using hk)];congr 1
  · rw [List.take_set_of_le (Nat.le_refl _)]
  · simp [List.getD_eq_getElem?_getD,hk]
 rw [e1,W.val_take_succ hx,W.val_take_succ hy,Nat.pow_succ];have e2:u*(W.val B (xs.take k)+B^k*xs.getD k 0)=u*W.val B (xs.take k)+B^k*(xs.getD k 0*u):=by grind
 have e3:v*(W.val B (ys.take k)+B^k*ys.getD k 0)=v*W.val B (ys.take k)+B^k*(ys.getD k 0*v):=by grind
 rw [e2,e3];exact h1
theorem drop_keep {zs xs:List Nat} {k d:Nat} (h:zs.drop k=xs.drop k):(zs.set k d).drop (k+1)=xs.drop (k+1):=by
 rw [List.drop_set_of_lt (by omega),←List.drop_drop,←List.drop_drop,h]
theorem drop_getD_eq {zs xs:List Nat} {k:Nat} (h:zs.drop k=xs.drop k):zs.getD k 0=xs.getD k 0:=by
 have:=congrArg (fun l:List Nat=>l.getD 0 0) h;simpa [List.getD_eq_getElem?_getD] using this
end Go.Proofs.YtlpgonpfjbhmfaaGreatDoor
