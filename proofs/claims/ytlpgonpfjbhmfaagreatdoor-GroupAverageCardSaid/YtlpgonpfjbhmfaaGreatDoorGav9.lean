/- Part Gav9. -/
import Derived.Test.YtlpgonpfjbhmfaaGreatDoorGav8
import Derived.Laws.BitsAllLaws
import Derived.Lib.ItoaNum
set_option maxRecDepth 100000
set_option maxHeartbeats 100000000
namespace Go.Proofs.YtlpgonpfjbhmfaaGreatDoor
open Tryz Go Go.RowKit
variable {xs ys zs zs':List Nat} {B M U Y b' c d lo m n s v x y:Nat} {a b:Option Addr} {w w':World}
theorem FE (n j:Nat):(List.replicate n 0).getD j 0=0:=by
 rw [gqq,List.getElem?_replicate];split <;> rfl
theorem Ou {X V wd cy i:Nat} (hj:i+n < zs'.length) (hz:W.val B zs=X*V) (h:W.val B zs'+cy*B^(i+n)=W.val B zs+wd*X*B^i) (h0:zs'.getD (i+n) 0=0) :
 W.val B (zs'.set (i+n) cy)=X*(V+B^i*wd):=by
 have h1:=W.val_set (B:=B) (xs:=zs') (i:=i+n) (v:=cy) hj;rw [h0] at h1;generalize W.val B (zs'.set (i+n) cy)=a at *
 generalize W.val B zs'=b at *
 generalize W.val B zs=d at *
 generalize B^(i+n)=p at *
 generalize B^i=q at *
 grind
def Src (w:World) (S:Nat→Prop) (a:Option Addr):Prop:=∀ g,blk a=some g→w.heap.size≤g∨S g
def Hx (b:Nat) (S:Nat→Prop) (a:Option Addr) (n:Nat):Prop:=0 < n→∀ g,blk a=some g→b≤g∨S g
theorem Hx.of {b:Nat} {S S':Nat→Prop} (h:Hx b S a n) (hb:b'≤b) (hS:∀ g,S g→b'≤g∨S' g):Hx b' S' a n:=fun h0 g hg=>(h h0 g hg).elim (fun h=>Or.inl (Nat.le_trans hb h)) (hS g)
def Tw (k:IntKind) (B:Nat) (w:World) (S:Nat→Prop) (v:Nat) (e:Ending) (w':World):Prop:=∃ a n c xs,e = .returned (.slice a n c)∧Ext w w'∧SlN k w' a n c xs∧Num B xs v∧Src w S a
theorem Tw.plain {k:IntKind} {S:Nat→Prop} {e:Ending} (h:Tw k B w S v e w'):Iv k B w v e w':=by
 obtain ⟨a,n,c,xs,h1,h2,h3,h4,_⟩:=h;exact ⟨a,n,c,xs,h1,h2,h3,h4⟩
theorem DY (hx:SlN .u64 w a n c xs) (hy:SlN .u64 w b m d ys) (nx:Num 18446744073709551616 xs x) (ny:Num 18446744073709551616 ys y) (hn:n≤1000000) (hm:m≤1000000) (hs40:n < 40∨m < 40) :
 Calls prog 133 #[.slice a n c, .slice b m d] w (Tw .u64 18446744073709551616 w (fun g=>blk a=some g∨blk b=some g) (x*y)):=by
 have HX:=Lib.hid hx.len;have HY:=Lib.hid hy.len;have NX:=Lib.hid nx;have NY:=Lib.hid ny;clear nx ny;by_cases hs:n < m
 · go_enter func133,ntmps133
   by_cases h0:n=0
   · have HZ:Hid (x*y=0):=by
      show _=_;have h1:xs=[]:=List.eq_nil_of_length_eq_zero (by rw [HX.out,h0]);have h2:=NX.out.val;rw [h1] at h2;simp only [W.val] at h2;rw [←h2];simp
     subst h0;go_wp2;go_ret;exact ⟨none,0,0,[],rfl,Ext.refl w,SlN.nil _ _,by rw [HZ.out]; exact Num.nil _,fun g h=>by cases h⟩
   · have hb0:((n:Int) == 0)=false:=by simp; omega
     have hm0:0 < n:=by omega
     obtain ⟨b0,o0,ha0,hc0⟩:=hx.at hm0;have g0:=hc0 0 hm0;rw [Nat.add_zero] at g0;by_cases h1:n=1∧xs.getD 0 0=1
     · have HZ:Hid (x*y=y):=by
        show _=_;have h2:=NX.out.val;obtain ⟨z,hz⟩:=List.length_eq_one_iff.1 (HX.out.trans h1.1);have h3:=h1.2;rw [hz] at h2 h3;simp [W.val] at h2 h3;subst h3;rw [←h2];simp
       have e1:=h1.1;rw [h1.2] at g0;subst e1;subst ha0;clear hc0;go_wp2;go_ret;exact ⟨b,m,d,ys,rfl,Ext.refl w,hy,⟨NY.out.bnd,NY.out.nrm,by rw [NY.out.val,HZ.out]⟩,fun g h=>Or.inr (Or.inr h)⟩
     · have hpick:(((n:Int) == 1)=false)∨(((n:Int) == 1)=true∧(((xs.getD 0 0:Nat):Int) == 1)=false):=by
        by_cases h2:n=1
        · exact Or.inr ⟨by simp [h2],Hu (b:=1) (fun h=>h1 ⟨h2,h⟩)⟩
        · exact Or.inl (by simp; omega)
       subst ha0;generalize xs.getD 0 0=y0 at *
       clear hc0 h1 h0;have h40:(n:Int) < 40:=by omega
       rcases hpick with hp | ⟨hp,hp2⟩
       all_goals
        go_upto_region 10 with (at_make; refine Eg (n:=m+n) rfl rfl underlying88 Ay rfl rfl rfl (by omega) (by unfold maxLen; omega) ?_; intro w1 hO1 hE1)
        go_wp2
        go_loopw [55] (fun iv wr=>∃ (i:Nat) (zs:List Nat),iv = .int .i64 i∧i≤n∧Ext w wr∧Az .u64 wr w.heap.size 143 w.heap.size (m+n) (m+n) zs∧W.bnd 18446744073709551616 zs∧Hid (W.val 18446744073709551616 zs=y*W.val 18446744073709551616 (xs.take i))∧Hid (∀ j,i+m≤j→zs.getD j 0=0)) (fun iv _=>n - (intOf iv).toNat)
        case atStart=>exact ⟨0,List.replicate (m+n) 0,rfl,Nat.zero_le _,hE1,Az.of_zeros hO1,fun z hz=>by rw [(List.mem_replicate.1 hz).2]; omega,Lib.hid (by rw [W.val_zeros]; simp [W.val]),Lib.hid (fun j _=>FE _ j)⟩
        case round =>
         clear hO1 hE1;obtain ⟨i,zs,rfl,hi,hE,hz,bz,HV,HJ⟩:=hrel;by_cases hlt:i < n
         · obtain ⟨b9,o9,e9,hc9⟩:=(hx.ext hE).at (j:=i) hlt;simp only [Option.some.injEq,Addr.mk.injEq,and_true] at e9;obtain ⟨rfl,rfl⟩:=e9;have g9:=hc9 i hlt;have hyi:=W.bnd_at NX.out.bnd (i:=i) (by rw [HX.out]; exact hlt);have HT:=Lib.hid (W.val_take_succ (B:=18446744073709551616) (xs:=xs) (i:=i) (by rw [HX.out]; exact hlt))
           have hsl:∀ wx:World,(Instr.sliceAt 88 (.slice (some ⟨w.heap.size,0,none⟩) (m+n) (m+n)) (some (.int .i64 i)) (some (.int .i64 ((i:Int)+m))) none).run prog wx = .ok (.slice (some ⟨w.heap.size,i,none⟩) m (m+n - i)) wx:=fun wx=>by
            have:=Cd (P:=prog) (w:=wx) (g:=w.heap.size) (n:=m+n) (c:=m+n) (lo:=i) (hi:=i+m) underlying88 Ay (by omega) (by omega) (by omega);rw [Nat.add_sub_cancel_left,Int.natCast_add] at this;exact this
           have hwa:IntKind.i64.wrap ((i:Int)+m)=(i:Int)+m:=IntWalk.i64_in _ (by omega);generalize xs.getD i 0=wd at *
           have hp:=CY (w:=wr) (o:=i) (c':=m+n - i) hz (hy.ext hE) (Or.inr (hy.fresh (lrf _) (by omega))) (by omega) bz NY.out.bnd hyi;clear hc9
           go_wp2_with fail
           refine hp.mono ?_;rintro e w2 ⟨cy,zs',rfl,hcy,hg2,hz2,bz2,hv2,hj2⟩;have hgc:=hz2.cell (i:=i+m) (by omega);have hgf:=hz2.frozen (i+m);have HS:=Lib.hid (Ou (B:=18446744073709551616) (zs:=zs) (zs':=zs') (X:=y) (i:=i) (n:=m) (cy:=cy) (by rw [hz2.len]; omega) HV.out (by rw [←NY.out.val]; exact hv2) (by rw [hj2 _ (lrf _)]; exact HJ.out _ (lrf _)));have HJ2:Hid (∀ j,i+1+m≤j→(zs'.set (i+m) cy).getD j 0=0):=by
            show ∀ j,i+1+m≤j→(zs'.set (i+m) cy).getD j 0=0;intro j hj;have hne:¬ i+m=j:=by omega
            have h1:=hj2 j (by omega);rw [HJ.out j (by omega)] at h1;simpa [hne] using h1
           have hE2:=hE.grownR hg2 (lrf _);have hto:((i:Int)+m).toNat=i+m:=by omega
           go_wp2;go_roundw
           case rel=>exact ⟨i+1,zs'.set (i+m) cy,by go_num,by omega,hE2.setCell (lrf _) _,hz2.set (i+m) cy,W.bnd_set bz2 hcy,Lib.hid (by rw [HT.out]; exact HS.out),HJ2⟩
           case measure=>simp [intOf]; omega
         · have ei:i=n:=by omega
           have hv:W.val 18446744073709551616 zs=x*y:=by
            have h1:=HV.out;rw [ei,List.take_of_length_le (by rw [HX.out]; exact lrf _),NX.out.val] at h1;rw [h1,Nat.mul_comm]
           go_wp2_with fail
           refine (Bl hz.sl).mono ?_;rintro e w4 ⟨q,rfl,rfl,hq,ht⟩;obtain ⟨t1,t2⟩:=BF hz.sl hq ht bz hv;go_wp2;go_ret;exact ⟨_,q,_,_,rfl,hE,t1,t2,fun g h=>Or.inl (by cases h; exact lrf _)⟩
 · go_enter func133,ntmps133
   by_cases h0:m=0
   · have HZ:Hid (x*y=0):=by
      show _=_;have h1:ys=[]:=List.eq_nil_of_length_eq_zero (by rw [HY.out,h0]);have h2:=NY.out.val;rw [h1] at h2;simp only [W.val] at h2;rw [←h2];simp
     subst h0;go_wp2;go_ret;exact ⟨none,0,0,[],rfl,Ext.refl w,SlN.nil _ _,by rw [HZ.out]; exact Num.nil _,fun g h=>by cases h⟩
   · have hb0:((m:Int) == 0)=false:=by simp; omega
     have hm0:0 < m:=by omega
     obtain ⟨b0,o0,ha0,hc0⟩:=hy.at hm0;have g0:=hc0 0 hm0;rw [Nat.add_zero] at g0;by_cases h1:m=1∧ys.getD 0 0=1
     · have HZ:Hid (x*y=x):=by
        show _=_;have h2:=NY.out.val;obtain ⟨z,hz⟩:=List.length_eq_one_iff.1 (HY.out.trans h1.1);have h3:=h1.2;rw [hz] at h2 h3;simp [W.val] at h2 h3;subst h3;rw [←h2];simp
       have e1:=h1.1;rw [h1.2] at g0;subst e1;subst ha0;clear hc0;go_wp2;go_ret;exact ⟨a,n,c,xs,rfl,Ext.refl w,hx,⟨NX.out.bnd,NX.out.nrm,by rw [NX.out.val,HZ.out]⟩,fun g h=>Or.inr (Or.inl h)⟩
     · have hpick:(((m:Int) == 1)=false)∨(((m:Int) == 1)=true∧(((ys.getD 0 0:Nat):Int) == 1)=false):=by
        by_cases h2:m=1
        · exact Or.inr ⟨by simp [h2],Hu (b:=1) (fun h=>h1 ⟨h2,h⟩)⟩
        · exact Or.inl (by simp; omega)
       subst ha0;generalize ys.getD 0 0=y0 at *
       clear hc0 h1 h0;have h40:(m:Int) < 40:=by omega
       rcases hpick with hp | ⟨hp,hp2⟩
       all_goals
        go_upto_region 10 with (at_make; refine Eg (n:=n+m) rfl rfl underlying88 Ay rfl rfl rfl (by omega) (by unfold maxLen; omega) ?_; intro w1 hO1 hE1)
        go_wp2
        go_loopw [55] (fun iv wr=>∃ (i:Nat) (zs:List Nat),iv = .int .i64 i∧i≤m∧Ext w wr∧Az .u64 wr w.heap.size 143 w.heap.size (n+m) (n+m) zs∧W.bnd 18446744073709551616 zs∧Hid (W.val 18446744073709551616 zs=x*W.val 18446744073709551616 (ys.take i))∧Hid (∀ j,i+n≤j→zs.getD j 0=0)) (fun iv _=>m - (intOf iv).toNat)
        case atStart=>exact ⟨0,List.replicate (n+m) 0,rfl,Nat.zero_le _,hE1,Az.of_zeros hO1,fun z hz=>by rw [(List.mem_replicate.1 hz).2]; omega,Lib.hid (by rw [W.val_zeros]; simp [W.val]),Lib.hid (fun j _=>FE _ j)⟩
        case round =>
         clear hO1 hE1;obtain ⟨i,zs,rfl,hi,hE,hz,bz,HV,HJ⟩:=hrel;by_cases hlt:i < m
         · obtain ⟨b9,o9,e9,hc9⟩:=(hy.ext hE).at (j:=i) hlt;simp only [Option.some.injEq,Addr.mk.injEq,and_true] at e9;obtain ⟨rfl,rfl⟩:=e9;have g9:=hc9 i hlt;have hyi:=W.bnd_at NY.out.bnd (i:=i) (by rw [HY.out]; exact hlt);have HT:=Lib.hid (W.val_take_succ (B:=18446744073709551616) (xs:=ys) (i:=i) (by rw [HY.out]; exact hlt))
           have hsl:∀ wx:World,(Instr.sliceAt 88 (.slice (some ⟨w.heap.size,0,none⟩) (n+m) (n+m)) (some (.int .i64 i)) (some (.int .i64 ((i:Int)+n))) none).run prog wx = .ok (.slice (some ⟨w.heap.size,i,none⟩) n (n+m - i)) wx:=fun wx=>by
            have:=Cd (P:=prog) (w:=wx) (g:=w.heap.size) (n:=n+m) (c:=n+m) (lo:=i) (hi:=i+n) underlying88 Ay (by omega) (by omega) (by omega);rw [Nat.add_sub_cancel_left,Int.natCast_add] at this;exact this
           have hwa:IntKind.i64.wrap ((i:Int)+n)=(i:Int)+n:=IntWalk.i64_in _ (by omega);generalize ys.getD i 0=wd at *
           have hp:=CY (w:=wr) (o:=i) (c':=n+m - i) hz (hx.ext hE) (Or.inr (hx.fresh (lrf _) (by omega))) (by omega) bz NX.out.bnd hyi;clear hc9
           go_wp2_with fail
           refine hp.mono ?_;rintro e w2 ⟨cy,zs',rfl,hcy,hg2,hz2,bz2,hv2,hj2⟩;have hgc:=hz2.cell (i:=i+n) (by omega);have hgf:=hz2.frozen (i+n);have HS:=Lib.hid (Ou (B:=18446744073709551616) (zs:=zs) (zs':=zs') (X:=x) (i:=i) (n:=n) (cy:=cy) (by rw [hz2.len]; omega) HV.out (by rw [←NX.out.val]; exact hv2) (by rw [hj2 _ (lrf _)]; exact HJ.out _ (lrf _)));have HJ2:Hid (∀ j,i+1+n≤j→(zs'.set (i+n) cy).getD j 0=0):=by
            show ∀ j,i+1+n≤j→(zs'.set (i+n) cy).getD j 0=0;intro j hj;have hne:¬ i+n=j:=by omega
            have h1:=hj2 j (by omega);rw [HJ.out j (by omega)] at h1;simpa [hne] using h1
           have hE2:=hE.grownR hg2 (lrf _);have hto:((i:Int)+n).toNat=i+n:=by omega
           go_wp2;go_roundw
           case rel=>exact ⟨i+1,zs'.set (i+n) cy,by go_num,by omega,hE2.setCell (lrf _) _,hz2.set (i+n) cy,W.bnd_set bz2 hcy,Lib.hid (by rw [HT.out]; exact HS.out),HJ2⟩
           case measure=>simp [intOf]; omega
         · have ei:i=m:=by omega
           have hv:W.val 18446744073709551616 zs=x*y:=by
            have h1:=HV.out;rw [ei,List.take_of_length_le (by rw [HY.out]; exact lrf _),NY.out.val] at h1;exact h1
           go_wp2_with fail
           refine (Bl hz.sl).mono ?_;rintro e w4 ⟨q,rfl,rfl,hq,ht⟩;obtain ⟨t1,t2⟩:=BF hz.sl hq ht bz hv;go_wp2;go_ret;exact ⟨_,q,_,_,rfl,hE,t1,t2,fun g h=>Or.inl (by cases h; exact lrf _)⟩
theorem Hy (hx:SlN .u64 w a n c xs) (hy:SlN .u64 w b m d ys) (nx:Num 18446744073709551616 xs x) (ny:Num 18446744073709551616 ys y) (hn:n≤1000000) (hm:m≤1000000) (hs40:n < 40∨m < 40) :
 Calls prog 133 #[.slice a n c, .slice b m d] w (Iv .u64 18446744073709551616 w (x*y)) :=
 (DY hx hy nx ny hn hm hs40).mono fun _ _ h=>h.plain
theorem Pj (hx:x < 18446744073709551616) (w:World):Calls prog 175 #[.int .u64 x] w fun e w'=>e = .returned (.int .i64 (64 - Lib.bitLen x))∧w'=w:=by
 have:=Any.bits_LeadingZeros64 Wh (x:Int) w (by omega) (by omega);rw [Int.toNat_natCast] at this;exact this
theorem MS (h0:0 < y) (hy:y < 18446744073709551616):∃ s:Nat,s≤63∧(64 - (Lib.bitLen y:Int))=s∧9223372036854775808≤y*2^s∧y*2^s < 18446744073709551616:=by
 obtain ⟨h1,h2,h3⟩:=Lib.bitLenAux_bounds 64 y (by omega) (by omega);have h4:Lib.bitLenAux 64 y≤64:=Lib.bitLen_le y 64 (by omega) (by omega);refine ⟨64 - Lib.bitLen y, ?_, ?_, ?_, ?_⟩
 · unfold Lib.bitLen; omega
 · unfold Lib.bitLen; omega
 · unfold Lib.bitLen;generalize Lib.bitLenAux 64 y=k at *
   have e:2^(k - 1)*2^(64 - k)=2^63:=by rw [←Nat.pow_add]; congr 1; omega
   have:=Nat.mul_le_mul_right (2^(64 - k)) h2;rw [e] at this;omega
 · unfold Lib.bitLen;generalize Lib.bitLenAux 64 y=k at *
   have e:2^k*2^(64 - k)=2^64:=by rw [←Nat.pow_add]; congr 1; omega
   have:=Nat.mul_lt_mul_of_pos_right h3 (Nat.two_pow_pos (64 - k));rw [e] at this;omega
theorem I3 (hy:y < 18446744073709551616) (hlo:lo < 18446744073709551616) (h0:0 < y) :
 Calls prog 181 #[.int .u64 0, .int .u64 lo, .int .u64 y] w fun e w'=>e = .returned (.tuple #[.int .u64 ((lo / y:Nat):Int), .int .u64 ((lo % y:Nat):Int)])∧Qt w w':=by
 have hb:((y:Int) == 0)=false:=by simp; omega
 have hq:IntKind.u64.wrap ((lo:Int) / (y:Int))=((lo / y:Nat):Int):=by
  rw [←Int.natCast_ediv];have h1:=Nat.div_le_self lo y;generalize lo / y=q at *
  exact wrap_u64 (by omega) (by omega)
 have hr:(lo:Int) % (y:Int)=((lo % y:Nat):Int):=(Int.natCast_emod _ _).symm;generalize lo / y=q at *
 generalize lo % y=r at *
 go_enter func181,ntmps181
 go_wp2
 go_quiet (fail)
 go_wp2
 go_ret2
 exact ⟨by rw [←hq,←hr]; rfl,(Qt.refl w).drewN _⟩
theorem Pk {N L u1 u0 Q1 R1 Q0 R0:Nat} (hY:Y=y*2^s) (hL:L=u1*4294967296+u0) (hN:U*18446744073709551616+L=N*2^s) (hQ1:U*4294967296+u1=Q1*Y+R1) (hQ0:R1*4294967296+u0=Q0*Y+R0) (hR0:R0 < Y) :
 N / y=Q1*4294967296+Q0∧N % y=R0 / 2^s:=by
 have hp:0 < 2^s:=Nat.two_pow_pos s;have e:N*2^s=(Q1*4294967296+Q0)*Y+R0:=by
  rw [←hN,hL];have h1:U*18446744073709551616+(u1*4294967296+u0)=(U*4294967296+u1)*4294967296+u0:=by grind
  rw [h1,hQ1];have h2:(Q1*Y+R1)*4294967296+u0=Q1*Y*4294967296+(R1*4294967296+u0):=by grind
  rw [h2,hQ0]
  grind
 subst hY;have hy:0 < y:=by
  rcases Nat.eq_zero_or_pos y with h | h
  · rw [h] at hR0; simp at hR0
  · exact h
 -- the rest is a multiple of the power
 have hd:2^s∣R0:=by
  have h1:2^s∣N*2^s:=Nat.dvd_mul_left _ _;rw [e] at h1;refine (Nat.dvd_add_right ?_).1 h1;exact ⟨(Q1*4294967296+Q0)*y,by grind⟩
 obtain ⟨r,hr⟩:=hd;subst hr;have e2:N=(Q1*4294967296+Q0)*y+r:=by
  apply Nat.eq_of_mul_eq_mul_right hp;rw [e]
  grind
 have hr:r < y:=by
  rw [Nat.mul_comm] at hR0;exact Nat.lt_of_mul_lt_mul_right hR0
 rw [Nat.mul_div_cancel_left _ hp];generalize Q1*4294967296+Q0=q at e2 ⊢;subst e2;refine ⟨?_, ?_⟩
 · rw [Nat.mul_comm,Nat.mul_add_div hy,Nat.div_eq_of_lt hr,Nat.add_zero]
 · rw [Nat.mul_comm,Nat.mul_add_mod,Nat.mod_eq_of_lt hr]
theorem LR (hs:s≤63) (hlo:lo < 18446744073709551616):∃ L V:Nat,lo*2^s=V*18446744073709551616+L∧L < 18446744073709551616∧V=lo / 2^(64 - s)∧V < 2^s∧L=lo*2^s % 18446744073709551616:=by
 have e:2^(64 - s)*2^s=18446744073709551616:=by rw [←Nat.pow_add,show 64 - s+s=64 by omega]
 refine ⟨lo*2^s % 18446744073709551616,lo / 2^(64 - s), ?_,Nat.mod_lt _ (by omega),rfl, ?_,rfl⟩
 · have h1:lo*2^s / 18446744073709551616=lo / 2^(64 - s):=by
    rw [←e,Nat.mul_div_mul_right _ _ (Nat.two_pow_pos s)]
   have h2:=Nat.div_add_mod (lo*2^s) 18446744073709551616;rw [h1,Nat.mul_comm 18446744073709551616] at h2;exact h2.symm
 · rw [Nat.div_lt_iff_lt_mul (Nat.two_pow_pos _),Nat.mul_comm,e];exact hlo
theorem Hz (h:x % 18446744073709551616=M):IntKind.u64.wrap (x:Int)=(M:Int):=by
 rw [IntKind.wrap_u64,←h];omega
theorem LS {u Q R:Nat} (h:U*4294967296+u=Q*Y+R) (hR:R < 18446744073709551616):IntKind.u64.wrap (IntKind.u64.wrap (IntKind.u64.wrap ((U:Int)*4294967296)+u) - IntKind.u64.wrap ((Q:Int)*Y))=(R:Int):=by
 have hz:((Q*Y:Nat):Int)=(Q:Int)*Y:=Int.natCast_mul Q Y;rw [←hz];generalize Q * Y=z at *
 simp only [IntKind.wrap_u64];omega
theorem LT {g r:Nat} (h:U=g*y+r) (hr:r < 18446744073709551616):IntKind.u64.wrap ((U:Int) - IntKind.u64.wrap ((g:Int)*y))=(r:Int):=by
 have hz:((g*y:Nat):Int)=(g:Int)*y:=Int.natCast_mul g y;rw [←hz];generalize g * y=z at *
 simp only [IntKind.wrap_u64];omega
theorem Ah {x:Int} (h:x=(n:Int)) (hn:n < 18446744073709551616):IntKind.u64.wrap x=(n:Int):=by
 rw [h];exact wrap_u64 (by omega) (by omega)
theorem KQ {hi:Nat} (hy:y < 18446744073709551616) (hlo:lo < 18446744073709551616) (hh:hi < y) (h0:0 < hi) :
 Calls prog 181 #[.int .u64 hi, .int .u64 lo, .int .u64 y] w fun e w'=>e = .returned (.tuple #[.int .u64 (((hi*18446744073709551616+lo) / y:Nat):Int), .int .u64 (((hi*18446744073709551616+lo) % y:Nat):Int)])∧Qt w w':=by
 have hb:((y:Int) == 0)=false:=by simp; omega
 have hb2:((hi:Int) == 0)=false:=by simp; omega
 obtain ⟨s,hs,hlz,hY1,hY2⟩:=MS (by omega) hy;obtain ⟨Y,hY⟩:∃ Y,y*2^s=Y:=⟨_,rfl⟩;rw [hY] at hY1 hY2;have e1:IntKind.u64.wrap ((y:Int)*2^s)=(Y:Int):=Ah (by rw [←hY]; push_cast; rfl) hY2;obtain ⟨L,V,hL1,hL2,hV1,hV2,hL3⟩:=LR hs hlo;obtain ⟨H,hH⟩:∃ H,hi*2^s=H:=⟨_,rfl⟩;have hHY:H+2^s≤Y:=by
  rw [←hH,←hY];have:=Nat.mul_le_mul_right (2^s) hh;rw [Nat.succ_mul] at this;exact this
 obtain ⟨U,hU⟩:∃ U,H+V=U:=⟨_,rfl⟩;have e4:IntKind.u64.wrap ((hi:Int)*2^s)=(H:Int):=Ah (by rw [←hH]; push_cast; rfl) (by omega);have e5:bits BinOp.or IntKind.u64 (H:Int) ((lo:Int) / 2^(64 - s))=(U:Int):=by
  have:(lo:Int) / 2^(64 - s)=(V:Int):=by rw [hV1]; push_cast; rfl
  rw [this,u64_or_nat H V (by omega) (by omega),nat_join s H V (by rw [←hH]; exact Nat.mul_mod_left _ _) hV2,hU]
 have e6:IntKind.u64.wrap ((lo:Int)*2^s)=(L:Int):=by
  have:=Hz (x:=lo*2^s) (M:=L) hL3.symm;push_cast at this;exact this
 have hN:U*18446744073709551616+L=(hi*18446744073709551616+lo)*2^s:=by
  rw [←hU,←hH];have h1:(hi*18446744073709551616+lo)*2^s=hi*2^s*18446744073709551616+lo*2^s:=by grind
  rw [h1,hL1]
  grind
 obtain ⟨y1,hy1⟩:∃ y1,Y / 4294967296=y1:=⟨_,rfl⟩;obtain ⟨y0,hy0⟩:∃ y0,Y % 4294967296=y0:=⟨_,rfl⟩;obtain ⟨u1,hu1⟩:∃ u1,L / 4294967296=u1:=⟨_,rfl⟩;obtain ⟨u0,hu0⟩:∃ u0,L % 4294967296=u0:=⟨_,rfl⟩;have e2:(Y:Int) / 4294967296=(y1:Int):=by omega
 have e3:bits BinOp.and IntKind.u64 (Y:Int) 4294967295=(y0:Int):=by
  have:=u64_and_nat Y 4294967295 hY2 (by omega);rw [Nat.and_two_pow_sub_one_eq_mod Y 32] at this;rw [←hy0];exact this
 have e7:(L:Int) / 4294967296=(u1:Int):=by omega
 have e8:bits BinOp.and IntKind.u64 (L:Int) 4294967295=(u0:Int):=by
  have:=u64_and_nat L 4294967295 hL2 (by omega);rw [Nat.and_two_pow_sub_one_eq_mod L 32] at this;rw [←hu0];exact this
 have hUY:U < Y:=by omega
 have hy1b:2147483648≤y1∧y1 < 4294967296:=by omega
 have hy0b:y0 < 4294967296:=by omega
 have hu1b:u1 < 4294967296:=by omega
 have hu0b:u0 < 4294967296:=by omega
 have HY10:Hid (Y=y1*4294967296+y0):=by show _=_; omega
 obtain ⟨Q1,hQ1'⟩:∃ Q1,(U*4294967296+u1) / Y=Q1:=⟨_,rfl⟩;obtain ⟨R1,hR1'⟩:∃ R1,(U*4294967296+u1) % Y=R1:=⟨_,rfl⟩;have hQ1:U*4294967296+u1=Q1*Y+R1:=by
  have:=Nat.div_add_mod (U*4294967296+u1) Y;rw [hQ1',hR1',Nat.mul_comm] at this;exact this.symm
 have hR1:R1 < Y:=by rw [←hR1']; exact Nat.mod_lt _ (by omega)
 obtain ⟨Q0,hQ0'⟩:∃ Q0,(R1*4294967296+u0) / Y=Q0:=⟨_,rfl⟩;obtain ⟨R0,hR0'⟩:∃ R0,(R1*4294967296+u0) % Y=R0:=⟨_,rfl⟩;have hQ0:R1*4294967296+u0=Q0*Y+R0:=by
  have:=Nat.div_add_mod (R1*4294967296+u0) Y;rw [hQ0',hR0',Nat.mul_comm] at this;exact this.symm
 have hR0:R0 < Y:=by rw [←hR0']; exact Nat.mod_lt _ (by omega)
 obtain ⟨f1,f2⟩:=Pk (N:=hi*18446744073709551616+lo) (y:=y) (Y:=Y) (U:=U) (L:=L) (s:=s) (u1:=u1) (u0:=u0) (Q1:=Q1) (R1:=R1) (Q0:=Q0) (R0:=R0) hY.symm (by omega) hN hQ1 hQ0 hR0;obtain ⟨QQ,hQQ⟩:∃ QQ,Q1*4294967296+Q0=QQ:=⟨_,rfl⟩;obtain ⟨RR,hRR⟩:∃ RR,R0 / 2^s=RR:=⟨_,rfl⟩;rw [hQQ] at f1;rw [hRR] at f2;have F1:=Lib.hid f1;have F2:=Lib.hid f2;have kr:(R0:Int) / 2^s=(RR:Int):=by rw [←hRR]; push_cast; rfl
 have HQ1:=Lib.hid hQ1;have HQ0:=Lib.hid hQ0;have HQ1le:Hid (Q1*(y1*4294967296+y0)≤U*4294967296+u1):=by show _≤_; rw [←HY10.out]; omega
 have HQ1lt:Hid (U*4294967296+u1 < (Q1+1)*(y1*4294967296+y0)):=by show _ < _; rw [←HY10.out,Nat.add_mul]; omega
 have HQ0le:Hid (Q0*(y1*4294967296+y0)≤R1*4294967296+u0):=by show _≤_; rw [←HY10.out]; omega
 have HQ0lt:Hid (R1*4294967296+u0 < (Q0+1)*(y1*4294967296+y0)):=by show _ < _; rw [←HY10.out,Nat.add_mul]; omega
 have HUY:Hid (U < y1*4294967296+y0):=by show _ < _; rw [←HY10.out]; omega
 have HR1Y:Hid (R1 < y1*4294967296+y0):=by show _ < _; rw [←HY10.out]; omega
 have hQ1b:=W.digit_lt (b:=4294967296) (y:=y1*4294967296+y0) (U:=U) (u:=u1) HUY.out (by omega) HQ1le.out;have hQ0b:=W.digit_lt (b:=4294967296) (y:=y1*4294967296+y0) (U:=R1) (u:=u0) HR1Y.out (by omega) HQ0le.out;have kq0:IntKind.u64.wrap ((Q1:Int)*4294967296)=(Q1:Int)*4294967296:=wrap_u64 (by omega) (by omega);have kq:IntKind.u64.wrap ((Q1:Int)*4294967296+(Q0:Int))=(QQ:Int):=Ah (by omega) (by omega);obtain ⟨gU,hgU⟩:∃ gU,U / y1=gU:=⟨_,rfl⟩;obtain ⟨rU,hrU⟩:∃ rU,U % y1=rU:=⟨_,rfl⟩;have k1e:gU*y1+rU=U:=by rw [←hgU,←hrU,Nat.mul_comm]; exact Nat.div_add_mod _ _
 have k1r:rU < y1:=by rw [←hrU]; exact Nat.mod_lt _ (by omega)
 have k1l:gU≤U:=by rw [←hgU]; exact Nat.div_le_self _ _
 have k1:IntKind.u64.wrap ((U:Int) / (y1:Int))=(gU:Int):=Ah (by rw [←hgU]; exact (Int.natCast_ediv _ _).symm) (by omega);have k1':IntKind.u64.wrap ((U:Int).tdiv (y1:Int))=(gU:Int):=by rw [Int.tdiv_eq_ediv_of_nonneg (by omega)]; exact k1
 have k2:IntKind.u64.wrap ((U:Int) - IntKind.u64.wrap ((gU:Int)*(y1:Int)))=(rU:Int):=LT k1e.symm (by omega);have HgU:=Lib.hid k1e;have HgUl:Hid (gU≤4294967297):=by have:=W.guess_le (b:=4294967296) (y1:=y1) (y0:=y0) (U:=U) (by omega) (by omega) (by rw [←HY10.out]; omega); rw [hgU] at this; exact this
 clear k1e k1l hgU hrU;obtain ⟨gR,hgR⟩:∃ gR,R1 / y1=gR:=⟨_,rfl⟩;obtain ⟨rR,hrR⟩:∃ rR,R1 % y1=rR:=⟨_,rfl⟩;have k3e:gR*y1+rR=R1:=by rw [←hgR,←hrR,Nat.mul_comm]; exact Nat.div_add_mod _ _
 have k3r:rR < y1:=by rw [←hrR]; exact Nat.mod_lt _ (by omega)
 have k3l:gR≤R1:=by rw [←hgR]; exact Nat.div_le_self _ _
 have k3:IntKind.u64.wrap ((R1:Int) / (y1:Int))=(gR:Int):=Ah (by rw [←hgR]; exact (Int.natCast_ediv _ _).symm) (by omega);have k3':IntKind.u64.wrap ((R1:Int).tdiv (y1:Int))=(gR:Int):=by rw [Int.tdiv_eq_ediv_of_nonneg (by omega)]; exact k3
 have k4:IntKind.u64.wrap ((R1:Int) - IntKind.u64.wrap ((gR:Int)*(y1:Int)))=(rR:Int):=LT k3e.symm (by omega);have HgR:=Lib.hid k3e;have HgRl:Hid (gR≤4294967297):=by have:=W.guess_le (b:=4294967296) (y1:=y1) (y0:=y0) (U:=R1) (by omega) (by omega) (by rw [←HY10.out]; omega); rw [hgR] at this; exact this
 clear k3e k3l hgR hrR;have k5:=LS (U:=U) (u:=u1) (Q:=Q1) (Y:=Y) (R:=R1) hQ1 (by omega);have k6:=LS (U:=R1) (u:=u0) (Q:=Q0) (Y:=Y) (R:=R0) hQ0 (by omega);rw [f1,f2];clear hL1 hV1 hV2 hL3 hH hHY hU hN hy1 hy0 hu1 hu0 hQ1' hR1' hQ0' hR0' f1 f2 hY
 go_enter func181,ntmps181
 generalize hK:(4294967296:Int)=K at kq0 kq k5 k6 ⊢;have HK:=Lib.hid hK;clear hK
 go_wp2_with fail
 refine (Pj hy _).mono ?_;rintro e w1 ⟨rfl,rfl⟩;rw [hlz];clear hlz;clear hQ1 hQ0;go_wp2
 go_loop [15,16] (fun gv rv=>∃ g r:Nat,gv = .int .u64 g∧rv = .int .u64 r∧Hid (g*y1+r=U)∧Hid (Q1≤g)∧Hid (g≤4294967297∧r < 4294967296)) (fun gv _=>(intOf gv).toNat)
 case atStart=>exact ⟨gU,rU,rfl,rfl,HgU,Lib.hid (W.guess_hi (b:=4294967296) (y1:=y1) (y0:=y0) (U:=U) (u:=u1) (q:=Q1) (g:=gU) (r:=rU) HgU.out HQ1le.out (by omega) (by omega)),Lib.hid ⟨HgUl.out,by omega⟩⟩
 case round =>
  obtain ⟨g,r,rfl,rfl,HG,HQG,HB⟩:=hrel;obtain ⟨hgb,hrb⟩:=HB.out;obtain ⟨p,hp⟩:∃ p,g*y0=p:=⟨_,rfl⟩;obtain ⟨p2,hp2⟩:∃ p2,4294967296*r+u1=p2:=⟨_,rfl⟩;have hwr:IntKind.u64.wrap (K*(r:Int))=K*(r:Int):=by rw [←show (4294967296:Int)=K from HK.out]; exact wrap_u64 (by omega) (by omega)
  have hwp2:IntKind.u64.wrap (K*(r:Int)+(u1:Int))=(p2:Int):=by rw [←show (4294967296:Int)=K from HK.out]; exact Ah (by omega) (by omega)
  have HP:=Lib.hid hp;have HP2:=Lib.hid hp2;clear hp hp2;have HQb:Hid (Q1 < 4294967296):=W.digit_lt (b:=4294967296) (y:=y1*4294967296+y0) (U:=U) (u:=u1) HUY.out (by omega) HQ1le.out;by_cases hc:4294967296≤g∨(g < 4294967296∧p2 < p)
  · have HD:Hid (Q1 < g):=W.guess_down (b:=4294967296) (y1:=y1) (y0:=y0) (U:=U) (u:=u1) HG.out HQ1le.out HQb.out (by rw [HP.out,HP2.out]; omega);obtain ⟨g2,rfl⟩:∃ g2,g=g2+1:=⟨g - 1,by have:=HD.out; omega⟩;have hw1:IntKind.u64.wrap ((g2:Int)+1 - 1)=g2:=Ah (by omega) (by omega);have hw1':IntKind.u64.wrap (g2:Int)=g2:=Ah (by omega) (by omega);obtain ⟨r2,hr2⟩:∃ r2,r+y1=r2:=⟨_,rfl⟩;have hw2:IntKind.u64.wrap ((r:Int)+(y1:Int))=(r2:Int):=Ah (by omega) (by omega);have HG2:Hid (g2*y1+r2=U):=by
     have h1:=HG.out;show _=_;rw [←hr2,←h1]
     grind
    have HQ2:Hid (Q1≤g2):=by have:=HD.out; show _≤_; omega
    have HR2:=Lib.hid hr2;clear hr2;have hpick:K≤(g2:Int)+1∨((g2:Int)+1 < K∧IntKind.u64.wrap (((g2:Int)+1)*(y0:Int))=(p:Int)∧(p2:Int) < p):=by
     have hKK:=HK.out;rcases hc with h | ⟨h1,h2⟩
     · left; omega
     · right;refine ⟨by omega,Ah (by rw [←HP.out]; push_cast; rfl) ?_,by omega⟩;rw [←HP.out];have:(g2+1)*y0≤4294967295*4294967295:=Nat.mul_le_mul (by omega) (by omega);omega
    clear hc;by_cases hov:4294967296≤r2
    · have HF:Hid (g2=Q1):=by
       show _=_;have h1:=W.guess_done (b:=4294967296) (y1:=y1) (y0:=y0) (U:=U) (u:=u1) (q:=Q1) HG2.out HQ1lt.out (W.guess_over hov (by omega) (by omega));have h2:=HQ2.out;omega
      have hF:=HF.out;subst hF;have hovK:K≤(r2:Int):=by have:=HK.out; omega
      rcases hpick with hk | ⟨hk1,hk2,hk3⟩
      all_goals
       go_wp2
       go_loop [18,16] (fun gv rv=>∃ g r:Nat,gv = .int .u64 g∧rv = .int .u64 r∧Hid (g*y1+r=R1)∧Hid (Q0≤g)∧Hid (g≤4294967297∧r < 4294967296)) (fun gv _=>(intOf gv).toNat)
       case atStart=>exact ⟨gR,rR,rfl,rfl,HgR,Lib.hid (W.guess_hi (b:=4294967296) (y1:=y1) (y0:=y0) (U:=R1) (u:=u0) (q:=Q0) (g:=gR) (r:=rR) HgR.out HQ0le.out (by omega) (by omega)),Lib.hid ⟨HgRl.out,by omega⟩⟩
       case round =>
        obtain ⟨g,r,rfl,rfl,HG,HQG,HB⟩:=hrel;obtain ⟨hgb,hrb⟩:=HB.out;obtain ⟨p,hp⟩:∃ p,g*y0=p:=⟨_,rfl⟩;obtain ⟨p2,hp2⟩:∃ p2,4294967296*r+u0=p2:=⟨_,rfl⟩;have hwr:IntKind.u64.wrap (K*(r:Int))=K*(r:Int):=by rw [←show (4294967296:Int)=K from HK.out]; exact wrap_u64 (by omega) (by omega)
        have hwp2:IntKind.u64.wrap (K*(r:Int)+(u0:Int))=(p2:Int):=by rw [←show (4294967296:Int)=K from HK.out]; exact Ah (by omega) (by omega)
        have HP:=Lib.hid hp;have HP2:=Lib.hid hp2;clear hp hp2;have HQb:Hid (Q0 < 4294967296):=W.digit_lt (b:=4294967296) (y:=y1*4294967296+y0) (U:=R1) (u:=u0) HR1Y.out (by omega) HQ0le.out;by_cases hc:4294967296≤g∨(g < 4294967296∧p2 < p)
        · have HD:Hid (Q0 < g):=W.guess_down (b:=4294967296) (y1:=y1) (y0:=y0) (U:=R1) (u:=u0) HG.out HQ0le.out HQb.out (by rw [HP.out,HP2.out]; omega);obtain ⟨g2,rfl⟩:∃ g2,g=g2+1:=⟨g - 1,by have:=HD.out; omega⟩;have hw1:IntKind.u64.wrap ((g2:Int)+1 - 1)=g2:=Ah (by omega) (by omega);have hw1':IntKind.u64.wrap (g2:Int)=g2:=Ah (by omega) (by omega);obtain ⟨r2,hr2⟩:∃ r2,r+y1=r2:=⟨_,rfl⟩;have hw2:IntKind.u64.wrap ((r:Int)+(y1:Int))=(r2:Int):=Ah (by omega) (by omega);have HG2:Hid (g2*y1+r2=R1):=by
           have h1:=HG.out;show _=_;rw [←hr2,←h1]
           grind
          have HQ2:Hid (Q0≤g2):=by have:=HD.out; show _≤_; omega
          have HR2:=Lib.hid hr2;clear hr2;have hpick:K≤(g2:Int)+1∨((g2:Int)+1 < K∧IntKind.u64.wrap (((g2:Int)+1)*(y0:Int))=(p:Int)∧(p2:Int) < p):=by
           have hKK:=HK.out;rcases hc with h | ⟨h1,h2⟩
           · left; omega
           · right;refine ⟨by omega,Ah (by rw [←HP.out]; push_cast; rfl) ?_,by omega⟩;rw [←HP.out];have:(g2+1)*y0≤4294967295*4294967295:=Nat.mul_le_mul (by omega) (by omega);omega
          clear hc;by_cases hov:4294967296≤r2
          · have HF:Hid (g2=Q0):=by
             show _=_;have h1:=W.guess_done (b:=4294967296) (y1:=y1) (y0:=y0) (U:=R1) (u:=u0) (q:=Q0) HG2.out HQ0lt.out (W.guess_over hov (by omega) (by omega));have h2:=HQ2.out;omega
            have hF:=HF.out;subst hF;have hovK:K≤(r2:Int):=by have:=HK.out; omega
            rcases hpick with hk | ⟨hk1,hk2,hk3⟩
            all_goals
             go_wp2
             go_ret2
             exact ⟨rfl,Qt.refl _⟩
          · have hovK:(r2:Int) < K:=by have:=HK.out; omega
            rcases hpick with hk | ⟨hk1,hk2,hk3⟩
            all_goals
             go_wp2;go_round
             case rel=>exact ⟨g2,r2,by go_num,rfl,HG2,HQ2,Lib.hid ⟨by omega,by omega⟩⟩
             case measure=>simp [intOf]
        · have HF:Hid (g=Q0):=by
           show _=_;have h1:=W.guess_done (b:=4294967296) (y1:=y1) (y0:=y0) (U:=R1) (u:=u0) (q:=Q0) HG.out HQ0lt.out (by rw [HP.out,HP2.out]; omega);have h2:=HQG.out;omega
          have hg1:(g:Int) < K:=by have:=HK.out; omega
          have hwp:IntKind.u64.wrap ((g:Int)*(y0:Int))=(p:Int):=by
           refine Ah (by rw [←HP.out]; push_cast; rfl) ?_;rw [←HP.out];have:g*y0≤4294967295*4294967295:=Nat.mul_le_mul (by omega) (by omega);omega
          have hle:(p:Int)≤(p2:Int):=by omega
          have hF:=HF.out;subst hF;clear hc;go_wp2
          go_ret2
          exact ⟨rfl,Qt.refl _⟩
    · have hovK:(r2:Int) < K:=by have:=HK.out; omega
      rcases hpick with hk | ⟨hk1,hk2,hk3⟩
      all_goals
       go_wp2;go_round
       case rel=>exact ⟨g2,r2,by go_num,rfl,HG2,HQ2,Lib.hid ⟨by omega,by omega⟩⟩
       case measure=>simp [intOf]
  · have HF:Hid (g=Q1):=by
     show _=_;have h1:=W.guess_done (b:=4294967296) (y1:=y1) (y0:=y0) (U:=U) (u:=u1) (q:=Q1) HG.out HQ1lt.out (by rw [HP.out,HP2.out]; omega);have h2:=HQG.out;omega
    have hg1:(g:Int) < K:=by have:=HK.out; omega
    have hwp:IntKind.u64.wrap ((g:Int)*(y0:Int))=(p:Int):=by
     refine Ah (by rw [←HP.out]; push_cast; rfl) ?_;rw [←HP.out];have:g*y0≤4294967295*4294967295:=Nat.mul_le_mul (by omega) (by omega);omega
    have hle:(p:Int)≤(p2:Int):=by omega
    have hF:=HF.out;subst hF;clear hc;go_wp2
    go_loop [18,16] (fun gv rv=>∃ g r:Nat,gv = .int .u64 g∧rv = .int .u64 r∧Hid (g*y1+r=R1)∧Hid (Q0≤g)∧Hid (g≤4294967297∧r < 4294967296)) (fun gv _=>(intOf gv).toNat)
    case atStart=>exact ⟨gR,rR,rfl,rfl,HgR,Lib.hid (W.guess_hi (b:=4294967296) (y1:=y1) (y0:=y0) (U:=R1) (u:=u0) (q:=Q0) (g:=gR) (r:=rR) HgR.out HQ0le.out (by omega) (by omega)),Lib.hid ⟨HgRl.out,by omega⟩⟩
    case round =>
     obtain ⟨g,r,rfl,rfl,HG,HQG,HB⟩:=hrel;obtain ⟨hgb,hrb⟩:=HB.out;obtain ⟨p,hp⟩:∃ p,g*y0=p:=⟨_,rfl⟩;obtain ⟨p2,hp2⟩:∃ p2,4294967296*r+u0=p2:=⟨_,rfl⟩;have hwr:IntKind.u64.wrap (K*(r:Int))=K*(r:Int):=by rw [←show (4294967296:Int)=K from HK.out]; exact wrap_u64 (by omega) (by omega)
     have hwp2:IntKind.u64.wrap (K*(r:Int)+(u0:Int))=(p2:Int):=by rw [←show (4294967296:Int)=K from HK.out]; exact Ah (by omega) (by omega)
     have HP:=Lib.hid hp;have HP2:=Lib.hid hp2;clear hp hp2;have HQb:Hid (Q0 < 4294967296):=W.digit_lt (b:=4294967296) (y:=y1*4294967296+y0) (U:=R1) (u:=u0) HR1Y.out (by omega) HQ0le.out;by_cases hc:4294967296≤g∨(g < 4294967296∧p2 < p)
     · have HD:Hid (Q0 < g):=W.guess_down (b:=4294967296) (y1:=y1) (y0:=y0) (U:=R1) (u:=u0) HG.out HQ0le.out HQb.out (by rw [HP.out,HP2.out]; omega);obtain ⟨g2,rfl⟩:∃ g2,g=g2+1:=⟨g - 1,by have:=HD.out; omega⟩;have hw1:IntKind.u64.wrap ((g2:Int)+1 - 1)=g2:=Ah (by omega) (by omega);have hw1':IntKind.u64.wrap (g2:Int)=g2:=Ah (by omega) (by omega);obtain ⟨r2,hr2⟩:∃ r2,r+y1=r2:=⟨_,rfl⟩;have hw2:IntKind.u64.wrap ((r:Int)+(y1:Int))=(r2:Int):=Ah (by omega) (by omega);have HG2:Hid (g2*y1+r2=R1):=by
        have h1:=HG.out;show _=_;rw [←hr2,←h1]
        grind
       have HQ2:Hid (Q0≤g2):=by have:=HD.out; show _≤_; omega
       have HR2:=Lib.hid hr2;clear hr2;have hpick:K≤(g2:Int)+1∨((g2:Int)+1 < K∧IntKind.u64.wrap (((g2:Int)+1)*(y0:Int))=(p:Int)∧(p2:Int) < p):=by
        have hKK:=HK.out;rcases hc with h | ⟨h1,h2⟩
        · left; omega
        · right;refine ⟨by omega,Ah (by rw [←HP.out]; push_cast; rfl) ?_,by omega⟩;rw [←HP.out];have:(g2+1)*y0≤4294967295*4294967295:=Nat.mul_le_mul (by omega) (by omega);omega
       clear hc;by_cases hov:4294967296≤r2
       · have HF:Hid (g2=Q0):=by
          show _=_;have h1:=W.guess_done (b:=4294967296) (y1:=y1) (y0:=y0) (U:=R1) (u:=u0) (q:=Q0) HG2.out HQ0lt.out (W.guess_over hov (by omega) (by omega));have h2:=HQ2.out;omega
         have hF:=HF.out;subst hF;have hovK:K≤(r2:Int):=by have:=HK.out; omega
         rcases hpick with hk | ⟨hk1,hk2,hk3⟩
         all_goals
          go_wp2
          go_ret2
          exact ⟨rfl,Qt.refl _⟩
       · have hovK:(r2:Int) < K:=by have:=HK.out; omega
         rcases hpick with hk | ⟨hk1,hk2,hk3⟩
         all_goals
          go_wp2;go_round
          case rel=>exact ⟨g2,r2,by go_num,rfl,HG2,HQ2,Lib.hid ⟨by omega,by omega⟩⟩
          case measure=>simp [intOf]
     · have HF:Hid (g=Q0):=by
        show _=_;have h1:=W.guess_done (b:=4294967296) (y1:=y1) (y0:=y0) (U:=R1) (u:=u0) (q:=Q0) HG.out HQ0lt.out (by rw [HP.out,HP2.out]; omega);have h2:=HQG.out;omega
       have hg1:(g:Int) < K:=by have:=HK.out; omega
       have hwp:IntKind.u64.wrap ((g:Int)*(y0:Int))=(p:Int):=by
        refine Ah (by rw [←HP.out]; push_cast; rfl) ?_;rw [←HP.out];have:g*y0≤4294967295*4294967295:=Nat.mul_le_mul (by omega) (by omega);omega
       have hle:(p:Int)≤(p2:Int):=by omega
       have hF:=HF.out;subst hF;clear hc;go_wp2
       go_ret2
       exact ⟨rfl,Qt.refl _⟩
end Go.Proofs.YtlpgonpfjbhmfaaGreatDoor
