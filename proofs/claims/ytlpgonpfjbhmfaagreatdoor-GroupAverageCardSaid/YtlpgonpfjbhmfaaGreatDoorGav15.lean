/- Part Gav15. -/
import Derived.Test.YtlpgonpfjbhmfaaGreatDoorGav14
import Derived.Test.YtlpgonpfjbhmfaaGreatDoorGav6
set_option maxRecDepth 100000
set_option maxHeartbeats 100000000
namespace Go.Proofs.YtlpgonpfjbhmfaaGreatDoor
open Tryz Go Go.RowKit
variable {neg:Bool} {z:Int} {xs ys zs zs':List Nat} {l:List Oper} {B V X c cx d g m n nx x y:Nat} {a ax ay b:Option Addr} {w w' w1 w2:World}
def P2 (b:Nat):Nat:=2^b
theorem RS (b:Nat):0 < P2 b:=Nat.two_pow_pos b
theorem BZ (a b:Nat):P2 (a+b)=P2 a*P2 b:=Nat.pow_add 2 a b
theorem M5 {a b:Nat} (h:a≤b):P2 a≤P2 b:=Nat.pow_le_pow_right (by omega) h
theorem RT (k:Nat):P2 (64*k)=18446744073709551616^k:=by unfold P2; rw [Nat.pow_mul]
theorem B0 {a b:Nat} (hx:x < P2 a) (hy:y < P2 b):x*y < P2 (a+b):=by
 rw [BZ]; exact Nat.mul_lt_mul'' hx hy
theorem L3 {a:Nat} (hx:x < P2 a) (hy:y < P2 a):x+y < P2 (a+1):=by
 rw [BZ]; show x+y < P2 a*2; omega
theorem Ag {a b:Nat} (hx:x < P2 a) (h:a≤b):x < P2 b:=Nat.lt_of_lt_of_le hx (M5 h)
theorem Ad:Agg prog 90 2:=⟨by kernel_rfl,by kernel_rfl⟩
theorem qh {p:Prop} (h:p):Hid p:=Lib.hid h
def Ab (neg:Bool) (a:Option Addr) (n c:Nat):List Value:=[.bool neg, .slice a n c]
theorem Ai (neg:Bool) (a:Option Addr) (n c:Nat):∀ v∈Ab neg a n c,v.oneCell'=true:=by
 intro v hv;simp only [Ab,List.mem_cons,List.not_mem_nil,or_false] at hv;rcases hv with rfl | rfl <;> rfl
def Wd (w:World) (a:Option Addr) (n c:Nat) (x:Nat):Prop:=∃ xs,SlN .u64 w a n c xs∧Num 18446744073709551616 xs x
theorem Wd.ext {w w':World} {a:Option Addr} {n c x:Nat} (h:Wd w a n c x) (e:Ext w w'):Wd w' a n c x:=by
 obtain ⟨xs,h1,h2⟩:=h;exact ⟨xs,h1.ext e,h2⟩
theorem Wd.len {w:World} {a:Option Addr} {n c x:Nat} (h:Wd w a n c x) {k:Nat} (hb:x < P2 (64*k)):n≤k:=by
 obtain ⟨xs,h1,h2⟩:=h;rw [RT] at hb;have:=Dy h2 hb;rw [h1.len] at this;exact this
theorem Wd.nil (w:World):Wd w none 0 0 0:=⟨[],SlN.nil _ _,Num.nil _⟩
theorem Wd.zero (h:Wd w a n c x):n=0↔x=0:=by
 obtain ⟨xs,h1,h2⟩:=h;constructor
 · intro h0;exact Fc h2 (by rw [h1.len]; exact h0)
 · intro h0;have h3:=(W.nrm_zero (B:=18446744073709551616) (by omega) h2.nrm).1 (by rw [h2.val,h0]);rw [←h1.len,h3];rfl
theorem Wd.one (h:Wd w a 1 c x):∃ b o,a=some ⟨b,o,none⟩∧w.cell? ⟨b,o,none⟩=some (.int .u64 (x:Int))∧x < 18446744073709551616∧0 < x:=by
 obtain ⟨xs,h1,h2⟩:=h;obtain ⟨k1,k2,k3⟩:=LZ h2 h1.len;obtain ⟨b,o,rfl,hc⟩:=h1.at (j:=0) (by omega);have:=hc 0 (by omega);rw [k1,Nat.add_zero] at this;exact ⟨b,o,rfl,this,k2,k3⟩
theorem Wd.big (h:Wd w a n c x) (hn:2≤n):18446744073709551616≤x:=by
 obtain ⟨xs,h1,h2⟩:=h;have hne:xs≠[]:=by intro h; have:=h1.len; rw [h] at this; simp at this; omega
 have:=W.nrm_pos (B:=18446744073709551616) (by omega) h2.nrm hne;rw [h1.len,h2.val] at this;have h3:18446744073709551616^1≤18446744073709551616^(n - 1):=Nat.pow_le_pow_right (by omega) (by omega);omega
def KS (w:World) (x:Nat) (e:Ending) (w':World):Prop:=∃ a n c,e = .returned (.slice a n c)∧Ext w w'∧Wd w' a n c x
theorem Iv.wd {e:Ending} (h:Iv .u64 18446744073709551616 w x e w'):KS w x e w':=by
 obtain ⟨a,n,c,xs,h1,h2,h3,h4⟩:=h;exact ⟨a,n,c,h1,h2,xs,h3,h4⟩
theorem UB (hT:A2 w) (hx:Wd w a n c x) (hy:Wd w b m d y) (bx:x < P2 9600) (by_:y < P2 9600) :
 Calls prog 94 #[.slice a n c, .slice b m d] w (KS w (Nat.gcd x y)):=by
 have h1:=hx.len (k:=150) bx;have h2:=hy.len (k:=150) by_;obtain ⟨xs,h3,h4⟩:=hx;obtain ⟨ys,h5,h6⟩:=hy;exact (L1 hT h3 h5 h4 h6 h1 h2).mono fun _ _ h=>h.wd
theorem RU (hx:Wd w a n c x) (hy:Wd w b m d y) (bx:x < P2 9600) (by_:y < P2 9600) (hs:x < P2 2496∨y < P2 2496) :
 Calls prog 133 #[.slice a n c, .slice b m d] w (KS w (x*y)):=by
 have h1:=hx.len (k:=150) bx;have h2:=hy.len (k:=150) by_;have h0:n < 40∨m < 40:=by
  rcases hs with h | h
  · left; have:=hx.len (k:=39) h; omega
  · right; have:=hy.len (k:=39) h; omega
 obtain ⟨xs,h3,h4⟩:=hx;obtain ⟨ys,h5,h6⟩:=hy;exact (Hy h3 h5 h4 h6 (by omega) (by omega) h0).mono fun _ _ h=>h.wd
def Ax (w:World) (v:Value) (z:Int):Prop:=∃ s a n c,v = .agg (Ab s a n c).toArray∧Hid (decide (z < 0)=s)∧Wd w a n c z.natAbs
theorem Ax.ext {w w':World} {v:Value} {z:Int} (h:Ax w v z) (e:Ext w w'):Ax w' v z:=by
 obtain ⟨s,a,n,c,h1,hs,h2⟩:=h;exact ⟨s,a,n,c,h1,hs,h2.ext e⟩
def Ei (w:World) (z:Int) (e:Ending) (w':World):Prop:=∃ s a n c,e = .returned (.agg (Ab s a n c).toArray)∧Ext w w'∧Hid (decide (z < 0)=s)∧Wd w' a n c z.natAbs
theorem Ei.r {e:Ending} (h:Ei w z e w'):∃ v,e = .returned v∧Ext w w'∧Ax w' v z:=by
 obtain ⟨s,a,n,c,h1,h2,h3,h4⟩:=h;exact ⟨_,h1,h2,s,a,n,c,rfl,h3,h4⟩
theorem Wd.kept {w w':World} {a:Option Addr} {n c x R:Nat} {t:TypeId} {cs:List Value} (h:Wd w a n c x) (hR:Arr w R t cs) (hcs:∀ v∈cs,∀ i,v ≠ .int .u64 i) (hg:w.grownBy w' (some R)):Wd w' a n c x:=by
 obtain ⟨xs,h1,h2⟩:=h;refine ⟨xs, ?_,h2⟩;rcases Nat.eq_zero_or_pos n with h0 | h0
 · subst h0;exact ⟨Sl.len h1,Sl.cap h1,Sl.max h1,fun h=>absurd h (Nat.lt_irrefl _)⟩
 · refine h1.kept hg (Or.inr fun he => ?_);obtain ⟨b,o,rfl,hc⟩:=h1.at (j:=0) h0;simp only [blk,Option.map_some,Option.some.injEq] at he;subst he;have h3:=hc 0 h0;have h4:w.cell? ⟨b,o+0,none⟩=cs[o+0]?:=by
    unfold Arr at hR;simp [World.cell?,hR]
   rw [h4] at h3;exact hcs _ (List.mem_of_getElem? h3) _ rfl
theorem Aq (s:Bool) (a:Option Addr) (n c:Nat):∀ v∈Ab s a n c,∀ i,v ≠ .int .u64 i:=by
 intro v hv i;simp only [Ab,List.mem_cons,List.not_mem_nil,or_false] at hv;rcases hv with rfl | rfl <;> simp
theorem UX {S:Nat→Prop} (hx:Wd w a n c x) (hy:Wd w b m d y) (bx:x < P2 9600) (by_:y < P2 9600) (hs:x < P2 2496∨y < P2 2496) (h1:0 < n→∀ g,blk a=some g→S g) (h2:0 < m→∀ g,blk b=some g→S g) :
 Calls prog 133 #[.slice a n c, .slice b m d] w fun e w'=>∃ a' n' c',e = .returned (.slice a' n' c')∧Ext w w'∧Wd w' a' n' c' (x*y)∧Hx w.heap.size S a' n':=by
 have k1:=hx.len (k:=150) bx;have k2:=hy.len (k:=150) by_;have k3:=hx.zero;have k4:=hy.zero;have h0:n < 40∨m < 40:=by
  rcases hs with h | h
  · left; have:=hx.len (k:=39) h; omega
  · right; have:=hy.len (k:=39) h; omega
 obtain ⟨xs,h3,h4⟩:=hx;obtain ⟨ys,h5,h6⟩:=hy;refine (DY h3 h5 h4 h6 (by omega) (by omega) h0).mono ?_;rintro e w' ⟨a',n',c',zs,rfl,hE,hz,nz,hsrc⟩;refine ⟨a',n',c',rfl,hE,⟨zs,hz,nz⟩,fun hn g hg => ?_⟩;have hw:Wd w' a' n' c' (x*y):=⟨zs,hz,nz⟩;have hp:¬ x*y=0:=fun h=>by have:=hw.zero.2 h; omega
 have hx0:0 < n:=by
  rcases Nat.eq_zero_or_pos n with h | h
  · exact absurd (by rw [k3.1 h,Nat.zero_mul]) hp
  · exact h
 have hy0:0 < m:=by
  rcases Nat.eq_zero_or_pos m with h | h
  · exact absurd (by rw [k4.1 h,Nat.mul_zero]) hp
  · exact h
 rcases hsrc g hg with h | h | h
 · exact Or.inl h
 · exact Or.inr (h1 hx0 g h)
 · exact Or.inr (h2 hy0 g h)
def VF (w:World) (a:Option Addr) (n c:Nat) (z:Int) (e:Ending) (w':World):Prop:=∃ s,e = .returned (.agg (Ab s a n c).toArray)∧Ext w w'∧Hid (decide (z < 0)=s)∧Wd w' a n c z.natAbs
theorem Fd (hx:Wd w a n c x) {z:Int} (hz:z=if neg=true then -(x:Int) else x) :
 Calls prog 144 #[.bool neg, .slice a n c] w (VF w a n c z):=by
 have hn0:=hx.zero;have HA:Hid (z.natAbs=x):=by show _=_; rw [hz]; split <;> omega
 cases neg with
 | true =>
  have HZ:Hid (decide (z < 0)=decide (0 < n)):=by show _=_; rw [hz,if_pos rfl]; apply decide_eq_decide.2; omega
  clear hn0 hz
  go_enter func144,ntmps144
  go_upto_region 1 with (fail)
  refine Bq ?_;intro w0 hE0 hB0 hz0
  go_wp2_with (refine Aa (vs:=Ab _ a n c) rfl rfl rfl rfl rfl Ad hB0 rfl (Ai _ _ _ _) ?_; intro w1 hB1 hg1)
  refine bodyPost_ret (v := .agg (Ab (decide (0 < n)) a n c).toArray) (Al rfl Ad rfl hB1) rfl ⟨_,rfl,hE0.grownR hg1 (lrf _),HZ,by rw [HA.out]; exact hx.ext (hE0.grownR hg1 (lrf _))⟩
 | false =>
  have HZ:Hid (decide (z < 0)=false):=by show _=_; rw [hz,if_neg (by simp)]; simp
  clear hn0 hz
  go_enter func144,ntmps144
  go_upto_region 1 with (fail)
  refine Bq ?_;intro w0 hE0 hB0 hz0
  go_wp2_with (refine Aa (vs:=Ab _ a n c) rfl rfl rfl rfl rfl Ad hB0 rfl (Ai _ _ _ _) ?_; intro w1 hB1 hg1)
  refine bodyPost_ret (v := .agg (Ab false a n c).toArray) (Al rfl Ad rfl hB1) rfl ⟨_,rfl,hE0.grownR hg1 (lrf _),HZ,by rw [HA.out]; exact hx.ext (hE0.grownR hg1 (lrf _))⟩
theorem BM (hx:Wd w a n c x) {z:Int} (hz:z=if neg=true then -(x:Int) else x) :
 Calls prog 144 #[.bool neg, .slice a n c] w (Ei w z) :=
 (Fd hx hz).mono fun _ _ ⟨s,h1,h2,h3,h4⟩=>⟨s,a,n,c,h1,h2,h3,h4⟩
theorem Qw {r:Option Nat} (h:w.grownBy w1 r) (k:w1.grownBy w2 (some g)) (hg:w.heap.size≤g):w.grownBy w2 r :=
 ⟨k.os.trans h.os,k.tape.trans h.tape,k.output.trans h.output,Nat.le_trans h.size k.size,fun b hb hne=>by
  rw [k.block b (Nat.lt_of_lt_of_le hb h.size) (by intro he; simp only [Option.some.injEq] at he; omega),h.block b hb hne]⟩
structure Tot (w:World) (a:Option Addr) (base:Nat) (wr:World) (a':Option Addr) (n c:Nat) (zs:List Nat):Prop where
 grown:w.grownBy wr (blk a)
 own:Own wr base 143 a' n c (zs.map (BO .u64))
 src:blk a'=blk a∨∃ g,blk a'=some g∧w.heap.size≤g
 bnd:W.bnd 18446744073709551616 zs
section
variable {w wr w2:World} {a a' a2:Option Addr} {base n c n2 c2:Nat} {zs zs2:List Nat}
theorem Tot.len (h:Tot w a base wr a' n c zs):zs.length=n:=by have:=h.own.len; simpa using this
theorem Tot.step (h:Tot w a base wr a' n c zs) (hg:wr.grownBy w2 (blk a')) (ho:Own w2 base 143 a2 n2 c2 (zs2.map (BO .u64))) (hs:blk a2=blk a'∨blk a2=some wr.heap.size) (hb:W.bnd 18446744073709551616 zs2):Tot w a base w2 a2 n2 c2 zs2:=by
 have hgr:w.grownBy w2 (blk a):=by
  rcases h.src with e|⟨g,e,hle⟩
  · rw [e] at hg; exact Oq h.grown hg
  · rw [e] at hg; exact Qw h.grown hg hle
 refine ⟨hgr,ho, ?_,hb⟩;rcases hs with e|e
 · rw [e]; exact h.src
 · exact Or.inr ⟨_,e,h.grown.size⟩
theorem Tot.ext (h:Tot w a base wr a' n c zs) (e:Ext wr w2):Tot w a base w2 a' n c zs:=⟨Rv h.grown e,h.own.ext e,h.src,h.bnd⟩
theorem Tot.slice (h:Tot w a base wr a' n c zs) (hx:SlN .u64 w ax nx cx xs) (hne:blk ax≠blk a):SlN .u64 wr ax nx cx xs:=hx.kept h.grown (Or.inr hne)
theorem Tot.sep (h:Tot w a base wr a' n c zs) (hx:SlN .u64 w ax nx cx xs) (h0:0<nx) (hne:blk ax≠blk a) {g:Nat} (hg:blk a'=some g):blk ax≠some g:=by
 rcases h.src with e|⟨g',e,hle⟩
 · rw [←hg,e]; exact hne
 · rw [hg] at e;simp only [Option.some.injEq] at e;subst e;exact hx.fresh hle h0
end
def F7:Value→Nat | .slice _ n _=>n | _=>0
theorem M6 {S wd cy i:Nat} (hz:W.val B zs=V+X*S) (h:W.val B zs'+cy*B^(i+n)=W.val B zs+wd*X*B^i):W.val B zs'+cy*B^(i+n)=V+X*(S+B^i*wd):=by
 rw [h,hz];generalize B^i=p
 grind
def Wm (w:World) (a:Option Addr) (base n m V:Nat) (e:Ending) (w':World):Prop :=
 ∃ a' n' c' zs,e = .returned (.slice a' n' c')∧Tot w a base w' a' n' c' zs∧W.val 18446744073709551616 zs=V∧n'≤max n m+40
theorem CU {base ny cy' Y:Nat} (hO:Own w base 143 a n c (zs.map (BO .u64))) (bz:W.bnd 18446744073709551616 zs) (hV:W.val 18446744073709551616 zs=V) (hx:SlN .u64 w ax nx cx xs) (hy:SlN .u64 w ay ny cy' ys) (nX:Num 18446744073709551616 xs X) (nY:Num 18446744073709551616 ys Y) (hx0:0<nx) (hy0:0<ny) (hneX:blk ax≠blk a) (hneY:blk ay≠blk a) (h40:nx<40∨ny<40) (bx:nx≤100000) (by_:ny≤100000) (bn:n≤1000000000) (hb:base≤w.heap.size) :
 Calls prog 168 #[.slice a n c, .slice ax nx cx, .slice ay ny cy'] w (Wm w a base n (nx+ny) (V+X*Y)):=by
 have HX:=qh hx.len;have HY:=qh hy.len;have NX:=qh nX;have NY:=qh nY;have HV:=qh hV;clear nX nY hV;by_cases hs:nx<ny
 · go_enter func168,ntmps168
   go_wp2
   go_loopw [0] (fun tv wr=>∃ (a':Option Addr) (n' c':Nat) (zs':List Nat),tv = .slice a' n' c'∧Tot w a base wr a' n' c' zs'∧n'≤max n (nx+ny)∧Hid (W.val 18446744073709551616 zs'=V)) (fun tv _=>ny+nx-F7 tv)
   case atStart=>exact ⟨a,n,c,zs,rfl,⟨Dc _ _,hO,Or.inl rfl,bz⟩,by omega,HV⟩
   case round =>
    obtain ⟨a1,n1,c1,zs1,rfl,hT,hn1,HV1⟩:=hrel;have hsz:=hT.grown.size;by_cases hlt:n1<ny+nx
    · have hA:=(Ext.refl wr).alloc (.cells #[.int .u64 0] 143);have hT1:=hT.ext hA;have hO1:=hT1.own;have hS1:=(Au wr base 143 #[.int .u64 0] 1 rfl (by omega) (by omega)).sl
      go_wp2_with (refine Bw rfl rfl underlying88 Ay rfl rfl hO1 rfl hS1 (by simp [Value.oneCell']) (by unfold maxLen; omega) (by omega) (by simp; omega) ?_; intro a2 c2 w2 hO2 hg2 hb2)
      go_roundw
      case rel =>
       refine ⟨a2,n1+1,c2,zs1 ++ [0],rfl,hT1.step hg2 (by rw [List.map_append]; exact hO2) hb2 (W.bnd_app hT.bnd (by intro x hx; simp at hx; omega)),by omega,qh ?_⟩;rw [W.val_snoc,HV1.out,Nat.mul_zero,Nat.add_zero]
      case measure=>simp [F7]; omega
    · obtain ⟨wo,rfl⟩:∃ x:World,x=wr:=⟨_,rfl⟩;clear hsz;have hn1':n1=max n (nx+ny)∨n1=n1:=Or.inr rfl;clear hn1';go_wp2
      go_loopw [0,38] (fun tv iv wr=>∃ (i:Nat) (a':Option Addr) (n' c':Nat) (zs':List Nat),tv = .slice a' n' c'∧iv = .int .i64 i∧i≤nx∧Tot w a base wr a' n' c' zs'∧ny+nx≤n'∧n'≤max n (nx+ny)+i∧Hid (W.val 18446744073709551616 zs'=V+Y*W.val 18446744073709551616 (xs.take i))) (fun _ iv _=>nx-(intOf iv).toNat)
      case atStart=>exact ⟨0,a1,n1,c1,zs1,rfl,rfl,Nat.zero_le _,hT,by omega,by omega,qh (by rw [HV1.out]; simp [W.val])⟩
      case round =>
       clear hT hn1 HV1 hlt;obtain ⟨i,a2,n2,c2,zs2,rfl,rfl,hi,hT,hn2,hm2,HV2⟩:=hrel;by_cases hlt:i<nx
       · obtain ⟨g,rfl,hg0,hg1⟩:=hT.own.place (by omega);have hyw:=hT.slice hx hneX;obtain ⟨b9,o9,e9,hc9⟩:=hyw.at (j:=i) hlt;subst e9;have g9:=hc9 i hlt;have hyi:=W.bnd_at NX.out.bnd (i:=i) (by rw [HX.out]; exact hlt);have HTK:=qh (W.val_take_succ (B:=18446744073709551616) (xs:=xs) (i:=i) (by rw [HX.out]; exact hlt))
         have hsl:∀ wx:World,(Instr.sliceAt 88 (.slice (some ⟨g,0,none⟩) n2 c2) (some (.int .i64 i)) (some (.int .i64 ((i:Int)+ny))) none).run prog wx = .ok (.slice (some ⟨g,i,none⟩) ny (c2-i)) wx:=fun wx=>by
          have hcap:=hT.own.cap;have:=Cd (P:=prog) (w:=wx) (g:=g) (n:=n2) (c:=c2) (lo:=i) (hi:=i+ny) underlying88 Ay (by omega) (by omega) (by omega);rw [Nat.add_sub_cancel_left,Int.natCast_add] at this;exact this
         have hwa:IntKind.i64.wrap ((i:Int)+ny)=(i:Int)+ny:=IntWalk.i64_in _ (by omega);have hON:Az .u64 wr base 143 g n2 c2 zs2:=hT.own;have hp:=CY (w:=wr) (o:=i) (c':=c2-i) hON (hT.slice hy hneY) (Or.inr (hT.sep hy hy0 hneY rfl)) (by omega) hT.bnd NY.out.bnd hyi;have HVX:=qh NY.out.val;generalize xs.getD i 0=wd at *
         clear hc9
         go_upto_region 11 with (fail)
         refine hp.mono ?_;rintro e w2 ⟨cy,zs3,rfl,hcy,hg2,hz3,bz3,hv3,hj3⟩;have hT3:Tot w a base w2 (some ⟨g,0,none⟩) n2 c2 zs3:=hT.step hg2 hz3 (Or.inl rfl) bz3;have HV3:Hid (W.val 18446744073709551616 zs3+cy*18446744073709551616^(i+ny)=V+Y*W.val 18446744073709551616 (xs.take (i+1))):=qh (by rw [HTK.out]; exact M6 HV2.out (by rw [←HVX.out]; exact hv3));clear hp hsl hv3 hj3 hz3 hg2 bz3 hON HV2 hT g9 hyw;go_wp2
         go_loopw [0,9,10] (fun tv cv kv wr=>∃ (k cy:Nat) (a':Option Addr) (n' c':Nat) (zs':List Nat),tv = .slice a' n' c'∧cv = .int .u64 cy∧kv = .int .i64 k∧cy<18446744073709551616∧k≤n'∧Tot w a base wr a' n' c' zs'∧ny+nx≤n'∧(n'≤max n (nx+ny)+i∨(n'≤max n (nx+ny)+i+1∧cy=0))∧Hid (W.val 18446744073709551616 zs'+cy*18446744073709551616^k=V+Y*W.val 18446744073709551616 (xs.take (i+1)))) (fun tv cv kv _=>F7 tv-(intOf kv).toNat+min 1 (intOf cv).toNat)
         case atStart=>exact ⟨i+ny,cy,_,n2,c2,zs3,rfl,rfl,by go_num,hcy,by omega,hT3,hn2,Or.inl hm2,HV3⟩
         case round =>
          clear hT3 HV3 hn2 hm2 hcy hg0 hg1;obtain ⟨k,cy,a4,n4,c4,zs4,rfl,rfl,rfl,hcy,hk,hT,hn4,hm4,HV4⟩:=hrel;by_cases hc0:cy=0
          · subst hc0;go_wp2;go_roundw
            case rel=>exact ⟨i+1,a4,n4,c4,zs4,rfl,by go_num,by omega,hT,hn4,by omega,qh (by have:=HV4.out; rw [Nat.zero_mul,Nat.add_zero] at this; exact this)⟩
            case measure=>simp [intOf]; omega
          · have hm4':n4≤max n (nx+ny)+i:=by omega
            have hcne:((cy:Int) != 0)=true:=KP (b:=0) hc0;have hci:¬ ((cy:Int)=0):=by omega
            have hsz:=hT.grown.size;by_cases hkn:k=n4
            · subst hkn;have hA:=(Ext.refl wr).alloc (.cells #[.int .u64 0] 143);have hT1:=hT.ext hA;have hO1:=hT1.own;have hS1:=(Au wr base 143 #[.int .u64 0] 1 rfl (by omega) (by omega)).sl
              go_upto_region 16 with (refine Bw rfl rfl underlying88 Ay rfl rfl hO1 rfl hS1 (by simp [Value.oneCell']) (by unfold maxLen; omega) (by omega) (by simp; omega) ?_; intro a5 c5 w5 hO5 hg5 hb5)
              have hT5:Tot w a base w5 a5 (k+1) c5 (zs4 ++ [0]):=hT1.step hg5 (by rw [List.map_append]; exact hO5) hb5 (W.bnd_app hT.bnd (by intro x hx; simp at hx; omega));have hl4:=hT.len;clear hO5 hg5 hb5 hS1 hO1 hT1 hA hT;obtain ⟨g5,rfl,hg50,hg51⟩:=hT5.own.place (by omega);have hON:Az .u64 w5 base 143 g5 (k+1) c5 (zs4 ++ [0]):=hT5.own;have q2:=hON.cell (i:=k) (by omega);have q3:=hON.frozen k;have hz0:(zs4 ++ [0]).getD k 0=0:=by rw [gqq,List.getElem?_append_right (by omega),hl4,Nat.sub_self]; rfl
              rw [hz0] at q2;have hadd:∀ wx:World,(callFunc 203 #[.int .u64 0, .int .u64 (cy:Int), .int .u64 0]).run prog wx = .ok (.value (.tuple #[.int .u64 (((0+cy+0)%18446744073709551616:Nat):Int), .int .u64 (((0+cy+0)/18446744073709551616:Nat):Int)])) wx:=fun wx=>BS 0 cy 0 (by omega) wx;have e1:(0+cy+0)%18446744073709551616=cy:=by omega
              have e2:(0+cy+0)/18446744073709551616=0:=by omega
              rw [e1,e2] at hadd;have HS:=qh (W.add_step0 (B:=18446744073709551616) (l:=zs4 ++ [0]) (k:=k) (s:=cy) (c':=0) (V:=V+Y*W.val 18446744073709551616 (xs.take (i+1))) (c:=cy) (by simp [hl4]) (by rw [W.val_snoc,Nat.mul_zero,Nat.add_zero]; exact HV4.out) (by rw [hz0]; omega));go_wp2;go_roundw
              case rel=>exact ⟨k+1,0,_,k+1,c5,_,rfl,rfl,by go_num,by omega,by omega,hT5.step (Ao w5 g5 k (.int .u64 (cy:Int))) (hON.set k cy) (Or.inl rfl) (W.bnd_set hT5.bnd hcy),by omega,Or.inr ⟨by omega,rfl⟩,HS⟩
              case measure =>
               simp only [F7,intOf];omega
            · have hlt4:k<n4:=by omega
              have hbk:((k:Int) == n4)=false:=Hu hkn;obtain ⟨g5,rfl,hg50,hg51⟩:=hT.own.place (by omega);have hON:Az .u64 wr base 143 g5 n4 c4 zs4:=hT.own;have q2:=hON.cell (i:=k) hlt4;have q3:=hON.frozen k;have hzk:=W.bnd_at hT.bnd (i:=k) (by rw [hT.len]; exact hlt4);have HS:=qh (W.add_step0 (B:=18446744073709551616) (l:=zs4) (k:=k) (s:=(zs4.getD k 0+cy+0)%18446744073709551616) (c':=(zs4.getD k 0+cy+0)/18446744073709551616) (by rw [hT.len]; exact hlt4) HV4.out (by rw [UA]; omega))
              have hadd:∀ wx:World,(callFunc 203 #[.int .u64 ((zs4.getD k 0:Nat):Int), .int .u64 (cy:Int), .int .u64 0]).run prog wx = .ok (.value (.tuple #[.int .u64 (((zs4.getD k 0+cy+0)%18446744073709551616:Nat):Int), .int .u64 (((zs4.getD k 0+cy+0)/18446744073709551616:Nat):Int)])) wx:=fun wx=>BS (zs4.getD k 0) cy 0 (by omega) wx;have hs:(zs4.getD k 0+cy+0)%18446744073709551616<18446744073709551616:=Nat.mod_lt _ (by omega);have hC:(zs4.getD k 0+cy+0)/18446744073709551616<18446744073709551616:=by omega
              generalize (zs4.getD k 0+cy+0)%18446744073709551616=s at *
              generalize (zs4.getD k 0+cy+0)/18446744073709551616=cc at *
              generalize zs4.getD k 0=u at *
              go_wp2;go_roundw
              case rel=>exact ⟨k+1,cc,_,n4,c4,zs4.set k s,rfl,rfl,by go_num,hC,by omega,hT.step (zs2:=zs4.set k s) (Ao wr g5 k (.int .u64 (s:Int))) (hON.set k s) (Or.inl rfl) (W.bnd_set hT.bnd hs),hn4,Or.inl hm4',HS⟩
              case measure =>
               simp only [F7,intOf];omega
       · have ei:i=nx:=by omega
         subst ei;go_wp2;go_ret;refine ⟨a2,n2,c2,zs2,rfl,hT, ?_,by omega⟩;rw [HV2.out,List.take_of_length_le (by rw [HX.out]; exact lrf _),NX.out.val];rw [Nat.mul_comm Y X]
 · go_enter func168,ntmps168
   go_wp2
   go_loopw [0] (fun tv wr=>∃ (a':Option Addr) (n' c':Nat) (zs':List Nat),tv = .slice a' n' c'∧Tot w a base wr a' n' c' zs'∧n'≤max n (nx+ny)∧Hid (W.val 18446744073709551616 zs'=V)) (fun tv _=>nx+ny-F7 tv)
   case atStart=>exact ⟨a,n,c,zs,rfl,⟨Dc _ _,hO,Or.inl rfl,bz⟩,by omega,HV⟩
   case round =>
    obtain ⟨a1,n1,c1,zs1,rfl,hT,hn1,HV1⟩:=hrel;have hsz:=hT.grown.size;by_cases hlt:n1<nx+ny
    · have hA:=(Ext.refl wr).alloc (.cells #[.int .u64 0] 143);have hT1:=hT.ext hA;have hO1:=hT1.own;have hS1:=(Au wr base 143 #[.int .u64 0] 1 rfl (by omega) (by omega)).sl
      go_wp2_with (refine Bw rfl rfl underlying88 Ay rfl rfl hO1 rfl hS1 (by simp [Value.oneCell']) (by unfold maxLen; omega) (by omega) (by simp; omega) ?_; intro a2 c2 w2 hO2 hg2 hb2)
      go_roundw
      case rel =>
       refine ⟨a2,n1+1,c2,zs1 ++ [0],rfl,hT1.step hg2 (by rw [List.map_append]; exact hO2) hb2 (W.bnd_app hT.bnd (by intro x hx; simp at hx; omega)),by omega,qh ?_⟩;rw [W.val_snoc,HV1.out,Nat.mul_zero,Nat.add_zero]
      case measure=>simp [F7]; omega
    · obtain ⟨wo,rfl⟩:∃ x:World,x=wr:=⟨_,rfl⟩;clear hsz;have hn1':n1=max n (nx+ny)∨n1=n1:=Or.inr rfl;clear hn1';go_wp2
      go_loopw [0,38] (fun tv iv wr=>∃ (i:Nat) (a':Option Addr) (n' c':Nat) (zs':List Nat),tv = .slice a' n' c'∧iv = .int .i64 i∧i≤ny∧Tot w a base wr a' n' c' zs'∧nx+ny≤n'∧n'≤max n (nx+ny)+i∧Hid (W.val 18446744073709551616 zs'=V+X*W.val 18446744073709551616 (ys.take i))) (fun _ iv _=>ny-(intOf iv).toNat)
      case atStart=>exact ⟨0,a1,n1,c1,zs1,rfl,rfl,Nat.zero_le _,hT,by omega,by omega,qh (by rw [HV1.out]; simp [W.val])⟩
      case round =>
       clear hT hn1 HV1 hlt;obtain ⟨i,a2,n2,c2,zs2,rfl,rfl,hi,hT,hn2,hm2,HV2⟩:=hrel;by_cases hlt:i<ny
       · obtain ⟨g,rfl,hg0,hg1⟩:=hT.own.place (by omega);have hyw:=hT.slice hy hneY;obtain ⟨b9,o9,e9,hc9⟩:=hyw.at (j:=i) hlt;subst e9;have g9:=hc9 i hlt;have hyi:=W.bnd_at NY.out.bnd (i:=i) (by rw [HY.out]; exact hlt);have HTK:=qh (W.val_take_succ (B:=18446744073709551616) (xs:=ys) (i:=i) (by rw [HY.out]; exact hlt))
         have hsl:∀ wx:World,(Instr.sliceAt 88 (.slice (some ⟨g,0,none⟩) n2 c2) (some (.int .i64 i)) (some (.int .i64 ((i:Int)+nx))) none).run prog wx = .ok (.slice (some ⟨g,i,none⟩) nx (c2-i)) wx:=fun wx=>by
          have hcap:=hT.own.cap;have:=Cd (P:=prog) (w:=wx) (g:=g) (n:=n2) (c:=c2) (lo:=i) (hi:=i+nx) underlying88 Ay (by omega) (by omega) (by omega);rw [Nat.add_sub_cancel_left,Int.natCast_add] at this;exact this
         have hwa:IntKind.i64.wrap ((i:Int)+nx)=(i:Int)+nx:=IntWalk.i64_in _ (by omega);have hON:Az .u64 wr base 143 g n2 c2 zs2:=hT.own;have hp:=CY (w:=wr) (o:=i) (c':=c2-i) hON (hT.slice hx hneX) (Or.inr (hT.sep hx hx0 hneX rfl)) (by omega) hT.bnd NX.out.bnd hyi;have HVX:=qh NX.out.val;generalize ys.getD i 0=wd at *
         clear hc9
         go_upto_region 11 with (fail)
         refine hp.mono ?_;rintro e w2 ⟨cy,zs3,rfl,hcy,hg2,hz3,bz3,hv3,hj3⟩;have hT3:Tot w a base w2 (some ⟨g,0,none⟩) n2 c2 zs3:=hT.step hg2 hz3 (Or.inl rfl) bz3;have HV3:Hid (W.val 18446744073709551616 zs3+cy*18446744073709551616^(i+nx)=V+X*W.val 18446744073709551616 (ys.take (i+1))):=qh (by rw [HTK.out]; exact M6 HV2.out (by rw [←HVX.out]; exact hv3));clear hp hsl hv3 hj3 hz3 hg2 bz3 hON HV2 hT g9 hyw;go_wp2
         go_loopw [0,9,10] (fun tv cv kv wr=>∃ (k cy:Nat) (a':Option Addr) (n' c':Nat) (zs':List Nat),tv = .slice a' n' c'∧cv = .int .u64 cy∧kv = .int .i64 k∧cy<18446744073709551616∧k≤n'∧Tot w a base wr a' n' c' zs'∧nx+ny≤n'∧(n'≤max n (nx+ny)+i∨(n'≤max n (nx+ny)+i+1∧cy=0))∧Hid (W.val 18446744073709551616 zs'+cy*18446744073709551616^k=V+X*W.val 18446744073709551616 (ys.take (i+1)))) (fun tv cv kv _=>F7 tv-(intOf kv).toNat+min 1 (intOf cv).toNat)
         case atStart=>exact ⟨i+nx,cy,_,n2,c2,zs3,rfl,rfl,by go_num,hcy,by omega,hT3,hn2,Or.inl hm2,HV3⟩
         case round =>
          clear hT3 HV3 hn2 hm2 hcy hg0 hg1;obtain ⟨k,cy,a4,n4,c4,zs4,rfl,rfl,rfl,hcy,hk,hT,hn4,hm4,HV4⟩:=hrel;by_cases hc0:cy=0
          · subst hc0;go_wp2;go_roundw
            case rel=>exact ⟨i+1,a4,n4,c4,zs4,rfl,by go_num,by omega,hT,hn4,by omega,qh (by have:=HV4.out; rw [Nat.zero_mul,Nat.add_zero] at this; exact this)⟩
            case measure=>simp [intOf]; omega
          · have hm4':n4≤max n (nx+ny)+i:=by omega
            have hcne:((cy:Int) != 0)=true:=KP (b:=0) hc0;have hci:¬ ((cy:Int)=0):=by omega
            have hsz:=hT.grown.size;by_cases hkn:k=n4
            · subst hkn;have hA:=(Ext.refl wr).alloc (.cells #[.int .u64 0] 143);have hT1:=hT.ext hA;have hO1:=hT1.own;have hS1:=(Au wr base 143 #[.int .u64 0] 1 rfl (by omega) (by omega)).sl
              go_upto_region 16 with (refine Bw rfl rfl underlying88 Ay rfl rfl hO1 rfl hS1 (by simp [Value.oneCell']) (by unfold maxLen; omega) (by omega) (by simp; omega) ?_; intro a5 c5 w5 hO5 hg5 hb5)
              have hT5:Tot w a base w5 a5 (k+1) c5 (zs4 ++ [0]):=hT1.step hg5 (by rw [List.map_append]; exact hO5) hb5 (W.bnd_app hT.bnd (by intro x hx; simp at hx; omega));have hl4:=hT.len;clear hO5 hg5 hb5 hS1 hO1 hT1 hA hT;obtain ⟨g5,rfl,hg50,hg51⟩:=hT5.own.place (by omega);have hON:Az .u64 w5 base 143 g5 (k+1) c5 (zs4 ++ [0]):=hT5.own;have q2:=hON.cell (i:=k) (by omega);have q3:=hON.frozen k;have hz0:(zs4 ++ [0]).getD k 0=0:=by rw [gqq,List.getElem?_append_right (by omega),hl4,Nat.sub_self]; rfl
              rw [hz0] at q2;have hadd:∀ wx:World,(callFunc 203 #[.int .u64 0, .int .u64 (cy:Int), .int .u64 0]).run prog wx = .ok (.value (.tuple #[.int .u64 (((0+cy+0)%18446744073709551616:Nat):Int), .int .u64 (((0+cy+0)/18446744073709551616:Nat):Int)])) wx:=fun wx=>BS 0 cy 0 (by omega) wx;have e1:(0+cy+0)%18446744073709551616=cy:=by omega
              have e2:(0+cy+0)/18446744073709551616=0:=by omega
              rw [e1,e2] at hadd;have HS:=qh (W.add_step0 (B:=18446744073709551616) (l:=zs4 ++ [0]) (k:=k) (s:=cy) (c':=0) (V:=V+X*W.val 18446744073709551616 (ys.take (i+1))) (c:=cy) (by simp [hl4]) (by rw [W.val_snoc,Nat.mul_zero,Nat.add_zero]; exact HV4.out) (by rw [hz0]; omega));go_wp2;go_roundw
              case rel=>exact ⟨k+1,0,_,k+1,c5,_,rfl,rfl,by go_num,by omega,by omega,hT5.step (Ao w5 g5 k (.int .u64 (cy:Int))) (hON.set k cy) (Or.inl rfl) (W.bnd_set hT5.bnd hcy),by omega,Or.inr ⟨by omega,rfl⟩,HS⟩
              case measure =>
               simp only [F7,intOf];omega
            · have hlt4:k<n4:=by omega
              have hbk:((k:Int) == n4)=false:=Hu hkn;obtain ⟨g5,rfl,hg50,hg51⟩:=hT.own.place (by omega);have hON:Az .u64 wr base 143 g5 n4 c4 zs4:=hT.own;have q2:=hON.cell (i:=k) hlt4;have q3:=hON.frozen k;have hzk:=W.bnd_at hT.bnd (i:=k) (by rw [hT.len]; exact hlt4);have HS:=qh (W.add_step0 (B:=18446744073709551616) (l:=zs4) (k:=k) (s:=(zs4.getD k 0+cy+0)%18446744073709551616) (c':=(zs4.getD k 0+cy+0)/18446744073709551616) (by rw [hT.len]; exact hlt4) HV4.out (by rw [UA]; omega))
              have hadd:∀ wx:World,(callFunc 203 #[.int .u64 ((zs4.getD k 0:Nat):Int), .int .u64 (cy:Int), .int .u64 0]).run prog wx = .ok (.value (.tuple #[.int .u64 (((zs4.getD k 0+cy+0)%18446744073709551616:Nat):Int), .int .u64 (((zs4.getD k 0+cy+0)/18446744073709551616:Nat):Int)])) wx:=fun wx=>BS (zs4.getD k 0) cy 0 (by omega) wx;have hs:(zs4.getD k 0+cy+0)%18446744073709551616<18446744073709551616:=Nat.mod_lt _ (by omega);have hC:(zs4.getD k 0+cy+0)/18446744073709551616<18446744073709551616:=by omega
              generalize (zs4.getD k 0+cy+0)%18446744073709551616=s at *
              generalize (zs4.getD k 0+cy+0)/18446744073709551616=cc at *
              generalize zs4.getD k 0=u at *
              go_wp2;go_roundw
              case rel=>exact ⟨k+1,cc,_,n4,c4,zs4.set k s,rfl,rfl,by go_num,hC,by omega,hT.step (zs2:=zs4.set k s) (Ao wr g5 k (.int .u64 (s:Int))) (hON.set k s) (Or.inl rfl) (W.bnd_set hT.bnd hs),hn4,Or.inl hm4',HS⟩
              case measure =>
               simp only [F7,intOf];omega
       · have ei:i=ny:=by omega
         subst ei;go_wp2;go_ret;refine ⟨a2,n2,c2,zs2,rfl,hT, ?_,by omega⟩;rw [HV2.out,List.take_of_length_le (by rw [HY.out]; exact lrf _),NY.out.val]
def GJ (ops:Array Oper) (n:Nat) (i:Nat) (o:Oper):Bool :=
 (List.range n).all (fun j=>(anc ops 3 (BP o)).contains j) || (BP o).any (fun k=>n≤k && k<i)
def CN (ops:Array Oper) (cons:List (Option Nat)) (size:Nat):Bool :=
 let n:=cons.length
 decide (n≤ops.size) && (List.range ops.size).all (fun i=>match ops[i]? with | some o=>if i<n then L7 ops cons n size i o else GJ ops n i o | none=>false) &&
 cons.all (fun k=>match k with | some k=>k<n | none=>true) &&
 Region.seqB .any ops (ops.size-n) n ((Array.range ops.size).map (fun j=>decide (j<n)))
section
variable {P:Program} {Q:Exit→Act→World→Prop}
theorem GK {a:Act} (C:World→Prop) (hs:List Hd)
 (hok:CN l.toArray (hs.map (·.cons)) a.tmps.size=true)
 (hCe:∀ w w',Ext w w'→C w→C w') (hC:C w.drew) (hst:F8 hs)
 (hobl:KT P C l.toArray hs a 0 l hs)
 (hend:∀ w',C w'→DN w' (fun a'=>wpList P l.toArray Q (l.drop hs.length) a' w') l hs a):wpAny P .any l.toArray Q l.toArray.size (Array.replicate l.toArray.size false) a w.drew:=by
 unfold CN at hok;simp only [Bool.and_eq_true,List.length_map,decide_eq_true_eq] at hok;obtain ⟨⟨⟨hn,hall⟩,hcons⟩,hseq⟩:=hok;have hsz:l.toArray.size=l.length:=by simp
 have hall':∀ i o,l.toArray[i]?=some o→(i<hs.length→DI l.toArray (hs.map (·.cons)) hs.length a.tmps.size i o)∧(hs.length≤i→GJ l.toArray hs.length i o=true):=by
  intro i o ho;have hi:i<l.toArray.size:=(Array.getElem?_eq_some_iff.1 ho).1;have:=List.all_eq_true.1 hall i (by simpa using hi);rw [ho] at this;simp only at this;refine ⟨fun h => ?_,fun h => ?_⟩
  · rw [if_pos h] at this;exact Fg this
  · rw [if_neg (by omega)] at this;exact this
 have key:∀ m listed a' w',unl listed hs.length=m→GO l.toArray hs a C listed a' w'→wpAny P .any l.toArray Q (m+(l.toArray.size-hs.length)) listed a' w':=by
  intro m
  induction m with
  | zero =>
   intro listed a' w' hu inv;have hheads:=Ff hu;have hlist:listed=(Array.range l.toArray.size).map (fun j=>decide (j<hs.length)):=by
    apply Array.ext
    · rw [inv.size]; simp
    · intro i h1 h2;simp only [Array.getElem_map,Array.getElem_range];by_cases hi:i<hs.length
      · have:=hheads i hi;simp [h1] at this;simp [this,hi]
      · have:=inv.tailF i (by omega);simp [h1] at this;simp [this,hi]
   -- the frame
   have ha:a'=CV (fun j=>match AY l.toArray j with | some d=>a'.tmps.getD d undef | none=>Classical.epsilon (fun v=>(AD hs j).ty.ok v w')) 0 l hs a:=by
    apply Ma
    · rw [Ea]; exact inv.defers
    · rw [Fh]; exact inv.tmps
    · intro t;by_cases hex:∃ j o,j<hs.length∧l[j]?=some o∧o.dst=some t
      · obtain ⟨j,o,hj,ho,hd⟩:=hex;have hoA:l.toArray[j]?=some o:=by simpa using ho
        have hf:=(hall' j o hoA).1 hj
        rw [Gm hs l 0 a j o hj ho hd (hf.dst t hd) (by
         intro k' o' hk' ho' hd';have hoA':l.toArray[k']?=some o':=by simpa using ho'
         by_cases hkj:k'=j
         · exact hkj
         · have:=hf.apart k' hk' hkj (by rw [BA hoA',hd',hd]);rw [hd] at this
           cases this)]
        rw [Nat.zero_add,BA hoA,hd]
      · rw [DA hs l 0 a (fun k o hk ho hd=>hex ⟨k,o,hk,ho,hd⟩)];refine inv.frame t fun j hj _ hd=>hex ?_;unfold AY at hd;cases ho:l.toArray[j]? with
        | none=>rw [ho] at hd; cases hd
        | some o=>rw [ho] at hd; exact ⟨j,o,hj,by simpa using ho,hd⟩
   have hfin:=Gl (vs:=fun j=>match AY l.toArray j with | some d=>a'.tmps.getD d undef | none=>Classical.epsilon (fun v=>(AD hs j).ty.ok v w')) hs l 0 a (hend w' inv.world)
    (by
     intro k hk c hc;rw [Nat.zero_add];cases hd:AY l.toArray k with
     | some d=>exact inv.values k c hk (hheads k hk) hc d hd
     | none =>
      have:(AD hs k).ty.ok (Classical.epsilon (fun v=>(AD hs k).ty.ok v w')) w':=by
       apply Classical.epsilon_spec (p:=fun v=>(AD hs k).ty.ok v w');refine ⟨c, ?_⟩;rw [show (AD hs k).ty = .eq c from hc];rfl
      have h2:(AD hs k).ty = .eq c:=hc;rw [h2] at this;simp only [Ty.ok] at this;rw [h2]
      exact this)
    (by
     intro k hk p hp hc;rw [Nat.zero_add]
     obtain ⟨v,hv,hvd⟩:=inv.facts k hk (hheads k hk) (by
      intro k' hck;have h1:(AD hs k).cons=none:=hc;rw [h1] at hck
      cases hck)
     have h2:(AD hs k).ty = .pr p:=hp;cases hd:AY l.toArray k with
     | some d =>
      simp only;rw [hvd d hd];rw [h2] at hv;exact hv
     | none =>
      have:(AD hs k).ty.ok (Classical.epsilon (fun v=>(AD hs k).ty.ok v w')) w':=Classical.epsilon_spec (p:=fun v=>(AD hs k).ty.ok v w') ⟨v,hv⟩;simp only;rw [h2] at this ⊢
      exact this)
   rw [←ha] at hfin;rw [Nat.zero_add];have hl:(l.drop hs.length).length=l.toArray.size-hs.length:=by simp
   rw [←hl];rw [←hl,←hlist] at hseq;exact wpAny_of_seq (l.drop hs.length) hs.length listed a' w' (by intro j; simp) hseq hfin
  | succ m ih =>
   intro listed a' w' hu inv;rw [show m+1+(l.toArray.size-hs.length)=(m+(l.toArray.size-hs.length))+1 by omega];refine ⟨fun hempty => ?_,fun i hi => ?_⟩
   · obtain ⟨j,hj,hjf,hjk⟩:=EG (listed:=listed) (n:=hs.length) (by omega);have hjl:j<l.toArray.size:=by omega
     have ho:l.toArray[j]?=some l.toArray[j]:=Array.getElem?_eq_getElem hjl;have hf:=(hall' j _ ho).1 hj
     have:j∈Region.ready .any l.toArray listed:=JF (by
      have:j<listed.size:=by rw [inv.size]; exact hjl
      simpa [this] using hjf) ho (fun p hp=>hjk p (hf.lt p hp))
     rw [hempty] at this;cases this
   · obtain ⟨h0,o,ho,hpr⟩:=DO hi;have hil:i<listed.size:=by rw [inv.size]; exact (Array.getElem?_eq_some_iff.1 ho).1
     have hif:listed.getD i false=false:=by simpa [hil] using h0
     have hin:i<hs.length:=by
      rcases Nat.lt_or_ge i hs.length with h|h
      · exact h
      · exfalso;have ht:=(hall' i o ho).2 h;unfold GJ at ht;simp only [Bool.or_eq_true,List.all_eq_true,List.mem_range,List.contains_iff_mem,List.any_eq_true,Bool.and_eq_true,decide_eq_true_eq] at ht;rcases ht with ht|⟨k,hk,hk1,_⟩
        · obtain ⟨j,hj,hjf,_⟩:=EG (listed:=listed) (n:=hs.length) (by omega);rw [CE inv.closed 3 (BP o) hpr j (ht j hj)] at hjf;cases hjf
        · have:=hpr k hk;rw [inv.tailF k hk1] at this;cases this
     refine Nj (by simpa using hobl) hst hCe inv hi hin (fun o' ho'=>(hall' i o' ho').1 hin) fun a2 w2 inv2 => ?_;refine ih _ a2 w2 ?_ inv2;have:=I7 hil hif hin;omega
 have hstart:GO l.toArray hs a C (Array.replicate l.toArray.size false) a w.drew:=by
  have hf:∀ j,(Array.replicate l.toArray.size false).getD j false=false:=fun j=>getD_replicate_false _ j;refine ⟨by simp,fun j _=>hf j,(fun j h=>by rw [hf j] at h; cases h),hC,rfl,rfl,fun _ _=>rfl,(fun j _ h=>by rw [hf j] at h; cases h),(fun j c _ h=>by rw [hf j] at h; cases h)⟩
 have hcount:unl (Array.replicate l.toArray.size false) hs.length=hs.length:=by
  have:∀ n,unl (Array.replicate l.toArray.size false) n=n:=by
   intro n
   induction n with
   | zero=>rfl
   | succ n ih=>rw [unl,ih,getD_replicate_false]; simp
  exact this _
 have:=key hs.length _ a w.drew hcount hstart
 rwa [show hs.length+(l.toArray.size-hs.length)=l.toArray.size by omega] at this
theorem Af {id:Nat} {a:Act} (hm:P.follows .mixedOrders=true) (C:World→Prop) (hs:List Hd)
 (hok:CN l.toArray (hs.map (·.cons)) a.tmps.size=true)
 (hCe:∀ w w',Ext w w'→C w→C w') (hC:C w.drew) (hst:F8 hs)
 (hobl:KT P C l.toArray hs a 0 l hs)
 (hend:∀ w',C w'→DN w' (fun a'=>wpList P l.toArray Q (l.drop hs.length) a' w') l hs a):(Code.region id l.toArray true).wp P Q a w :=
 wp_region_any hm (GK C hs hok hCe hC hst hobl hend)
end
end Go.Proofs.YtlpgonpfjbhmfaaGreatDoor
