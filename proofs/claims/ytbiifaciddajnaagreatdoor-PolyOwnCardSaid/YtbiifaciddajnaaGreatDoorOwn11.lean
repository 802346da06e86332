/- Part Own11. -/
import Derived.Test.YtbiifaciddajnaaGreatDoorOwn10
import Derived.Test.YtbiifaciddajnaaGreatDoorOwn9
set_option maxRecDepth 100000
set_option maxHeartbeats 100000000
namespace Go.Proofs.YtbiifaciddajnaaGreatDoor
open Go Go.RowKit
theorem grown_far {w w1 w2:World} {r:Option Nat} {g:Nat} (h:w.grownBy w1 r) (k:w1.grownBy w2 (some g)) (hg:w.heap.size≤g):w.grownBy w2 r :=
 ⟨k.os.trans h.os,k.tape.trans h.tape,k.output.trans h.output,Nat.le_trans h.size k.size,fun b hb hne=>by
  rw [k.block b (Nat.lt_of_lt_of_le hb h.size) (by intro he; simp only [Option.some.injEq] at he; omega),h.block b hb hne]⟩
structure Tot (w:World) (a:Option Addr) (base:Nat) (wr:World) (a':Option Addr) (n c:Nat) (zs:List Nat):Prop where
 grown:w.grownBy wr (blk a)
 own:Own wr base 221 a' n c (zs.map (natV .u64))
 src:blk a'=blk a∨∃ g,blk a'=some g∧w.heap.size≤g
 bnd:W.bnd 18446744073709551616 zs
section
variable {w wr w2:World} {a a' a2:Option Addr} {base n c n2 c2:Nat} {zs zs2:List Nat}
theorem Tot.len (h:Tot w a base wr a' n c zs):zs.length=n:=by have:=h.own.len; simpa using this
theorem Tot.step (h:Tot w a base wr a' n c zs) (hg:wr.grownBy w2 (blk a')) (ho:Own w2 base 221 a2 n2 c2 (zs2.map (natV .u64))) (hs:blk a2=blk a'∨blk a2=some wr.heap.size) (hb:W.bnd 18446744073709551616 zs2):Tot w a base w2 a2 n2 c2 zs2:=by
 have hgr:w.grownBy w2 (blk a):=by
  rcases h.src with e|⟨g,e,hle⟩
  · rw [e] at hg; exact grown_tr h.grown hg
  · rw [e] at hg; exact grown_far h.grown hg hle
 refine ⟨hgr,ho, ?_,hb⟩
 rcases hs with e|e
 · rw [e]; exact h.src
 · exact Or.inr ⟨_,e,h.grown.size⟩
theorem Tot.ext (h:Tot w a base wr a' n c zs) (e:Ext wr w2):Tot w a base w2 a' n c zs:=⟨grown_ext h.grown e,h.own.ext e,h.src,h.bnd⟩
theorem Tot.slice {ax:Option Addr} {nx cx:Nat} {xs:List Nat} (h:Tot w a base wr a' n c zs) (hx:SlN .u64 w ax nx cx xs) (hne:blk ax≠blk a):SlN .u64 wr ax nx cx xs:=hx.kept h.grown (Or.inr hne)
theorem Tot.sep {ax:Option Addr} {nx cx:Nat} {xs:List Nat} (h:Tot w a base wr a' n c zs) (hx:SlN .u64 w ax nx cx xs) (h0:0<nx) (hne:blk ax≠blk a) {g:Nat} (hg:blk a'=some g):blk ax≠some g:=by
 rcases h.src with e|⟨g',e,hle⟩
 · rw [←hg,e]; exact hne
 · rw [hg] at e
   simp only [Option.some.injEq] at e
   subst e
   exact hx.fresh hle h0
end
def slLen:Value→Nat | .slice _ n _=>n | _=>0
theorem acc_step {B:Nat} {zs zs':List Nat} {V X S wd cy i n:Nat} (hz:W.val B zs=V+X*S) (h:W.val B zs'+cy*B^(i+n)=W.val B zs+wd*X*B^i):W.val B zs'+cy*B^(i+n)=V+X*(S+B^i*wd):=by
 rw [h,hz]
 generalize B^i=p
 grind
def RetT (w:World) (a:Option Addr) (base n m V:Nat) (e:Ending) (w':World):Prop :=
 ∃ a' n' c' zs,e = .returned (.slice a' n' c')∧Tot w a base w' a' n' c' zs∧W.val 18446744073709551616 zs=V∧n'≤max n m+40
theorem int_accumulate {base n c nx cx ny cy' X Y V:Nat} {a ax ay:Option Addr} {zs xs ys:List Nat} {w:World} (hO:Own w base 221 a n c (zs.map (natV .u64))) (bz:W.bnd 18446744073709551616 zs) (hV:W.val 18446744073709551616 zs=V) (hx:SlN .u64 w ax nx cx xs) (hy:SlN .u64 w ay ny cy' ys) (nX:Num 18446744073709551616 xs X) (nY:Num 18446744073709551616 ys Y) (hx0:0<nx) (hy0:0<ny) (hneX:blk ax≠blk a) (hneY:blk ay≠blk a) (h40:nx<40∨ny<40) (bx:nx≤100000) (by_:ny≤100000) (bn:n≤1000000000) (hb:base≤w.heap.size) :
 Calls Tryz.prog 223 #[.slice a n c, .slice ax nx cx, .slice ay ny cy'] w (RetT w a base n (nx+ny) (V+X*Y)):=by
 have HX:=qh hx.len
 have HY:=qh hy.len
 have NX:=qh nX
 have NY:=qh nY
 have HV:=qh hV
 clear nX nY hV
 by_cases hs:nx<ny
 · go_enter Tryz.func223,Tryz.ntmps223
   go_wp2
   go_loopw [0] (fun tv wr=>∃ (a':Option Addr) (n' c':Nat) (zs':List Nat),tv = .slice a' n' c'∧Tot w a base wr a' n' c' zs'∧n'≤max n (nx+ny)∧Hid (W.val 18446744073709551616 zs'=V)) (fun tv _=>ny+nx-slLen tv)
   case atStart=>exact ⟨a,n,c,zs,rfl,⟨grown_self _ _,hO,Or.inl rfl,bz⟩,by omega,HV⟩
   case round =>
    obtain ⟨a1,n1,c1,zs1,rfl,hT,hn1,HV1⟩:=hrel
    have hsz:=hT.grown.size
    by_cases hlt:n1<ny+nx
    · have hA:=(Ext.refl wr).alloc (.cells #[.int .u64 0] 221)
      have hT1:=hT.ext hA
      have hO1:=hT1.own
      have hS1:=(own_alloc wr base 221 #[.int .u64 0] 1 rfl (by omega) (by omega)).sl
      go_wp2_with (refine wl_app rfl rfl Tryz.underlying84 info_u64 rfl rfl hO1 rfl hS1 (by simp [Value.oneCell']) (by unfold maxLen; omega) (by omega) (by simp; omega) ?_; intro a2 c2 w2 hO2 hg2 hb2)
      go_roundw
      case rel =>
       refine ⟨a2,n1+1,c2,zs1 ++ [0],rfl,hT1.step hg2 (by rw [List.map_append]; exact hO2) hb2 (W.bnd_app hT.bnd (by intro x hx; simp at hx; omega)),by omega,qh ?_⟩
       rw [W.val_snoc,HV1.out,Nat.mul_zero,Nat.add_zero]
      case measure=>simp [slLen]; omega
    · obtain ⟨wo,rfl⟩:∃ x:World,x=wr:=⟨_,rfl⟩
      clear hsz
      have hn1':n1=max n (nx+ny)∨n1=n1:=Or.inr rfl
      clear hn1'
      go_wp2
      go_loopw [0,38] (fun tv iv wr=>∃ (i:Nat) (a':Option Addr) (n' c':Nat) (zs':List Nat),tv = .slice a' n' c'∧iv = .int .i64 i∧i≤nx∧Tot w a base wr a' n' c' zs'∧ny+nx≤n'∧n'≤max n (nx+ny)+i∧Hid (W.val 18446744073709551616 zs'=V+Y*W.val 18446744073709551616 (xs.take i))) (fun _ iv _=>nx-(intOf iv).toNat)
      case atStart=>exact ⟨0,a1,n1,c1,zs1,rfl,rfl,Nat.zero_le _,hT,by omega,by omega,qh (by rw [HV1.out]; simp [W.val])⟩
      case round =>
       clear hT hn1 HV1 hlt
       obtain ⟨i,a2,n2,c2,zs2,rfl,rfl,hi,hT,hn2,hm2,HV2⟩:=hrel
       by_cases hlt:i<nx
       · obtain ⟨g,rfl,hg0,hg1⟩:=hT.own.place (by omega)
         have hyw:=hT.slice hx hneX
         obtain ⟨b9,o9,e9,hc9⟩:=hyw.at (j:=i) hlt
         subst e9
         have g9:=hc9 i hlt
         have hyi:=W.bnd_at NX.out.bnd (i:=i) (by rw [HX.out]; exact hlt)
         have HTK:=qh (W.val_take_succ (B:=18446744073709551616) (xs:=xs) (i:=i) (by rw [HX.out]; exact hlt))
         have hsl:∀ wx:World,(Instr.sliceAt 84 (.slice (some ⟨g,0,none⟩) n2 c2) (some (.int .i64 i)) (some (.int .i64 ((i:Int)+ny))) none).run Tryz.prog wx = .ok (.slice (some ⟨g,i,none⟩) ny (c2-i)) wx:=fun wx=>by
          have hcap:=hT.own.cap
          have:=run_slice_mid (P:=Tryz.prog) (w:=wx) (g:=g) (n:=n2) (c:=c2) (lo:=i) (hi:=i+ny) Tryz.underlying84 info_u64 (by omega) (by omega) (by omega)
          rw [Nat.add_sub_cancel_left,Int.natCast_add] at this
          exact this
         have hwa:IntKind.i64.wrap ((i:Int)+ny)=(i:Int)+ny:=IntWalk.i64_in _ (by omega)
         have hON:OwnN .u64 wr base 221 g n2 c2 zs2:=hT.own
         have hp:=int_addProduct (w:=wr) (o:=i) (c':=c2-i) hON (hT.slice hy hneY) (Or.inr (hT.sep hy hy0 hneY rfl)) (by omega) hT.bnd NY.out.bnd hyi
         have HVX:=qh NY.out.val
         generalize xs.getD i 0=wd at *
         clear hc9
         go_upto_region 11 with (fail)
         refine hp.mono ?_
         rintro e w2 ⟨cy,zs3,rfl,hcy,hg2,hz3,bz3,hv3,hj3⟩
         have hT3:Tot w a base w2 (some ⟨g,0,none⟩) n2 c2 zs3:=hT.step hg2 hz3 (Or.inl rfl) bz3
         have HV3:Hid (W.val 18446744073709551616 zs3+cy*18446744073709551616^(i+ny)=V+Y*W.val 18446744073709551616 (xs.take (i+1))):=qh (by rw [HTK.out]; exact acc_step HV2.out (by rw [←HVX.out]; exact hv3))
         clear hp hsl hv3 hj3 hz3 hg2 bz3 hON HV2 hT g9 hyw
         go_wp2
         go_loopw [0,9,10] (fun tv cv kv wr=>∃ (k cy:Nat) (a':Option Addr) (n' c':Nat) (zs':List Nat),tv = .slice a' n' c'∧cv = .int .u64 cy∧kv = .int .i64 k∧cy<18446744073709551616∧k≤n'∧Tot w a base wr a' n' c' zs'∧ny+nx≤n'∧(n'≤max n (nx+ny)+i∨(n'≤max n (nx+ny)+i+1∧cy=0))∧Hid (W.val 18446744073709551616 zs'+cy*18446744073709551616^k=V+Y*W.val 18446744073709551616 (xs.take (i+1)))) (fun tv cv kv _=>slLen tv-(intOf kv).toNat+min 1 (intOf cv).toNat)
         case atStart=>exact ⟨i+ny,cy,_,n2,c2,zs3,rfl,rfl,by go_num,hcy,by omega,hT3,hn2,Or.inl hm2,HV3⟩
         case round =>
          clear hT3 HV3 hn2 hm2 hcy hg0 hg1
          obtain ⟨k,cy,a4,n4,c4,zs4,rfl,rfl,rfl,hcy,hk,hT,hn4,hm4,HV4⟩:=hrel
          by_cases hc0:cy=0
          · subst hc0
            go_wp2
            go_roundw
            case rel=>exact ⟨i+1,a4,n4,c4,zs4,rfl,by go_num,by omega,hT,hn4,by omega,qh (by have:=HV4.out; rw [Nat.zero_mul,Nat.add_zero] at this; exact this)⟩
            case measure=>simp [intOf]; omega
          · have hm4':n4≤max n (nx+ny)+i:=by omega
            have hcne:((cy:Int) != 0)=true:=bne_natT (b:=0) hc0
            have hci:¬ ((cy:Int)=0):=by omega
            have hsz:=hT.grown.size
            by_cases hkn:k=n4
            · subst hkn
              have hA:=(Ext.refl wr).alloc (.cells #[.int .u64 0] 221)
              have hT1:=hT.ext hA
              have hO1:=hT1.own
              have hS1:=(own_alloc wr base 221 #[.int .u64 0] 1 rfl (by omega) (by omega)).sl
              go_upto_region 16 with (refine wl_app rfl rfl Tryz.underlying84 info_u64 rfl rfl hO1 rfl hS1 (by simp [Value.oneCell']) (by unfold maxLen; omega) (by omega) (by simp; omega) ?_; intro a5 c5 w5 hO5 hg5 hb5)
              have hT5:Tot w a base w5 a5 (k+1) c5 (zs4 ++ [0]):=hT1.step hg5 (by rw [List.map_append]; exact hO5) hb5 (W.bnd_app hT.bnd (by intro x hx; simp at hx; omega))
              have hl4:=hT.len
              clear hO5 hg5 hb5 hS1 hO1 hT1 hA hT
              obtain ⟨g5,rfl,hg50,hg51⟩:=hT5.own.place (by omega)
              have hON:OwnN .u64 w5 base 221 g5 (k+1) c5 (zs4 ++ [0]):=hT5.own
              have q2:=hON.cell (i:=k) (by omega)
              have q3:=hON.frozen k
              have hz0:(zs4 ++ [0]).getD k 0=0:=by rw [List.getD_eq_getElem?_getD,List.getElem?_append_right (by omega),hl4,Nat.sub_self]; rfl
              rw [hz0] at q2
              have hadd:∀ wx:World,(callFunc 252 #[.int .u64 0, .int .u64 (cy:Int), .int .u64 0]).run Tryz.prog wx = .ok (.value (.tuple #[.int .u64 (((0+cy+0)%18446744073709551616:Nat):Int), .int .u64 (((0+cy+0)/18446744073709551616:Nat):Int)])) wx:=fun wx=>add64_run 0 cy 0 (by omega) wx
              have e1:(0+cy+0)%18446744073709551616=cy:=by omega
              have e2:(0+cy+0)/18446744073709551616=0:=by omega
              rw [e1,e2] at hadd
              have HS:=qh (W.add_step0 (B:=18446744073709551616) (l:=zs4 ++ [0]) (k:=k) (s:=cy) (c':=0) (V:=V+Y*W.val 18446744073709551616 (xs.take (i+1))) (c:=cy) (by simp [hl4]) (by rw [W.val_snoc,Nat.mul_zero,Nat.add_zero]; exact HV4.out) (by rw [hz0]; omega))
              go_wp2
              go_roundw
              case rel=>exact ⟨k+1,0,_,k+1,c5,_,rfl,rfl,by go_num,by omega,by omega,hT5.step (grown_setCell w5 g5 k (.int .u64 (cy:Int))) (hON.set k cy) (Or.inl rfl) (W.bnd_set hT5.bnd hcy),by omega,Or.inr ⟨by omega,rfl⟩,HS⟩
              case measure =>
               simp only [slLen,intOf]
               omega
            · have hlt4:k<n4:=by omega
              have hbk:((k:Int) == n4)=false:=beq_natF hkn
              obtain ⟨g5,rfl,hg50,hg51⟩:=hT.own.place (by omega)
              have hON:OwnN .u64 wr base 221 g5 n4 c4 zs4:=hT.own
              have q2:=hON.cell (i:=k) hlt4
              have q3:=hON.frozen k
              have hzk:=W.bnd_at hT.bnd (i:=k) (by rw [hT.len]; exact hlt4)
              have HS:=qh (W.add_step0 (B:=18446744073709551616) (l:=zs4) (k:=k) (s:=(zs4.getD k 0+cy+0)%18446744073709551616) (c':=(zs4.getD k 0+cy+0)/18446744073709551616) (by rw [hT.len]; exact hlt4) HV4.out (by rw [addS]; omega))
              have hadd:∀ wx:World,(callFunc 252 #[.int .u64 ((zs4.getD k 0:Nat):Int), .int .u64 (cy:Int), .int .u64 0]).run Tryz.prog wx = .ok (.value (.tuple #[.int .u64 (((zs4.getD k 0+cy+0)%18446744073709551616:Nat):Int), .int .u64 (((zs4.getD k 0+cy+0)/18446744073709551616:Nat):Int)])) wx:=fun wx=>add64_run (zs4.getD k 0) cy 0 (by omega) wx
              have hs:(zs4.getD k 0+cy+0)%18446744073709551616<18446744073709551616:=Nat.mod_lt _ (by omega)
              have hC:(zs4.getD k 0+cy+0)/18446744073709551616<18446744073709551616:=by omega
              generalize (zs4.getD k 0+cy+0)%18446744073709551616=s at *
              generalize (zs4.getD k 0+cy+0)/18446744073709551616=cc at *
              generalize zs4.getD k 0=u at *
              go_wp2
              go_roundw
              case rel=>exact ⟨k+1,cc,_,n4,c4,zs4.set k s,rfl,rfl,by go_num,hC,by omega,hT.step (zs2:=zs4.set k s) (grown_setCell wr g5 k (.int .u64 (s:Int))) (hON.set k s) (Or.inl rfl) (W.bnd_set hT.bnd hs),hn4,Or.inl hm4',HS⟩
              case measure =>
               simp only [slLen,intOf]
               omega
       · have ei:i=nx:=by omega
         subst ei
         go_wp2
         go_ret
         refine ⟨a2,n2,c2,zs2,rfl,hT, ?_,by omega⟩
         rw [HV2.out,List.take_of_length_le (by rw [HX.out]; exact Nat.le_refl _),NX.out.val]
         rw [Nat.mul_comm Y X]
 · go_enter Tryz.func223,Tryz.ntmps223
   go_wp2
   go_loopw [0] (fun tv wr=>∃ (a':Option Addr) (n' c':Nat) (zs':List Nat),tv = .slice a' n' c'∧Tot w a base wr a' n' c' zs'∧n'≤max n (nx+ny)∧Hid (W.val 18446744073709551616 zs'=V)) (fun tv _=>nx+ny-slLen tv)
   case atStart=>exact ⟨a,n,c,zs,rfl,⟨grown_self _ _,hO,Or.inl rfl,bz⟩,by omega,HV⟩
   case round =>
    obtain ⟨a1,n1,c1,zs1,rfl,hT,hn1,HV1⟩:=hrel
    have hsz:=hT.grown.size
    by_cases hlt:n1<nx+ny
    · have hA:=(Ext.refl wr).alloc (.cells #[.int .u64 0] 221)
      have hT1:=hT.ext hA
      have hO1:=hT1.own
      have hS1:=(own_alloc wr base 221 #[.int .u64 0] 1 rfl (by omega) (by omega)).sl
      go_wp2_with (refine wl_app rfl rfl Tryz.underlying84 info_u64 rfl rfl hO1 rfl hS1 (by simp [Value.oneCell']) (by unfold maxLen; omega) (by omega) (by simp; omega) ?_; intro a2 c2 w2 hO2 hg2 hb2)
      go_roundw
      case rel =>
       refine ⟨a2,n1+1,c2,zs1 ++ [0],rfl,hT1.step hg2 (by rw [List.map_append]; exact hO2) hb2 (W.bnd_app hT.bnd (by intro x hx; simp at hx; omega)),by omega,qh ?_⟩
       rw [W.val_snoc,HV1.out,Nat.mul_zero,Nat.add_zero]
      case measure=>simp [slLen]; omega
    · obtain ⟨wo,rfl⟩:∃ x:World,x=wr:=⟨_,rfl⟩
      clear hsz
      have hn1':n1=max n (nx+ny)∨n1=n1:=Or.inr rfl
      clear hn1'
      go_wp2
      go_loopw [0,38] (fun tv iv wr=>∃ (i:Nat) (a':Option Addr) (n' c':Nat) (zs':List Nat),tv = .slice a' n' c'∧iv = .int .i64 i∧i≤ny∧Tot w a base wr a' n' c' zs'∧nx+ny≤n'∧n'≤max n (nx+ny)+i∧Hid (W.val 18446744073709551616 zs'=V+X*W.val 18446744073709551616 (ys.take i))) (fun _ iv _=>ny-(intOf iv).toNat)
      case atStart=>exact ⟨0,a1,n1,c1,zs1,rfl,rfl,Nat.zero_le _,hT,by omega,by omega,qh (by rw [HV1.out]; simp [W.val])⟩
      case round =>
       clear hT hn1 HV1 hlt
       obtain ⟨i,a2,n2,c2,zs2,rfl,rfl,hi,hT,hn2,hm2,HV2⟩:=hrel
       by_cases hlt:i<ny
       · obtain ⟨g,rfl,hg0,hg1⟩:=hT.own.place (by omega)
         have hyw:=hT.slice hy hneY
         obtain ⟨b9,o9,e9,hc9⟩:=hyw.at (j:=i) hlt
         subst e9
         have g9:=hc9 i hlt
         have hyi:=W.bnd_at NY.out.bnd (i:=i) (by rw [HY.out]; exact hlt)
         have HTK:=qh (W.val_take_succ (B:=18446744073709551616) (xs:=ys) (i:=i) (by rw [HY.out]; exact hlt))
         have hsl:∀ wx:World,(Instr.sliceAt 84 (.slice (some ⟨g,0,none⟩) n2 c2) (some (.int .i64 i)) (some (.int .i64 ((i:Int)+nx))) none).run Tryz.prog wx = .ok (.slice (some ⟨g,i,none⟩) nx (c2-i)) wx:=fun wx=>by
          have hcap:=hT.own.cap
          have:=run_slice_mid (P:=Tryz.prog) (w:=wx) (g:=g) (n:=n2) (c:=c2) (lo:=i) (hi:=i+nx) Tryz.underlying84 info_u64 (by omega) (by omega) (by omega)
          rw [Nat.add_sub_cancel_left,Int.natCast_add] at this
          exact this
         have hwa:IntKind.i64.wrap ((i:Int)+nx)=(i:Int)+nx:=IntWalk.i64_in _ (by omega)
         have hON:OwnN .u64 wr base 221 g n2 c2 zs2:=hT.own
         have hp:=int_addProduct (w:=wr) (o:=i) (c':=c2-i) hON (hT.slice hx hneX) (Or.inr (hT.sep hx hx0 hneX rfl)) (by omega) hT.bnd NX.out.bnd hyi
         have HVX:=qh NX.out.val
         generalize ys.getD i 0=wd at *
         clear hc9
         go_upto_region 11 with (fail)
         refine hp.mono ?_
         rintro e w2 ⟨cy,zs3,rfl,hcy,hg2,hz3,bz3,hv3,hj3⟩
         have hT3:Tot w a base w2 (some ⟨g,0,none⟩) n2 c2 zs3:=hT.step hg2 hz3 (Or.inl rfl) bz3
         have HV3:Hid (W.val 18446744073709551616 zs3+cy*18446744073709551616^(i+nx)=V+X*W.val 18446744073709551616 (ys.take (i+1))):=qh (by rw [HTK.out]; exact acc_step HV2.out (by rw [←HVX.out]; exact hv3))
         clear hp hsl hv3 hj3 hz3 hg2 bz3 hON HV2 hT g9 hyw
         go_wp2
         go_loopw [0,9,10] (fun tv cv kv wr=>∃ (k cy:Nat) (a':Option Addr) (n' c':Nat) (zs':List Nat),tv = .slice a' n' c'∧cv = .int .u64 cy∧kv = .int .i64 k∧cy<18446744073709551616∧k≤n'∧Tot w a base wr a' n' c' zs'∧nx+ny≤n'∧(n'≤max n (nx+ny)+i∨(n'≤max n (nx+ny)+i+1∧cy=0))∧Hid (W.val 18446744073709551616 zs'+cy*18446744073709551616^k=V+X*W.val 18446744073709551616 (ys.take (i+1)))) (fun tv cv kv _=>slLen tv-(intOf kv).toNat+min 1 (intOf cv).toNat)
         case atStart=>exact ⟨i+nx,cy,_,n2,c2,zs3,rfl,rfl,by go_num,hcy,by omega,hT3,hn2,Or.inl hm2,HV3⟩
         case round =>
          clear hT3 HV3 hn2 hm2 hcy hg0 hg1
          obtain ⟨k,cy,a4,n4,c4,zs4,rfl,rfl,rfl,hcy,hk,hT,hn4,hm4,HV4⟩:=hrel
          by_cases hc0:cy=0
          · subst hc0
            go_wp2
            go_roundw
            case rel=>exact ⟨i+1,a4,n4,c4,zs4,rfl,by go_num,by omega,hT,hn4,by omega,qh (by have:=HV4.out; rw [Nat.zero_mul,Nat.add_zero] at this; exact this)⟩
            case measure=>simp [intOf]; omega
          · have hm4':n4≤max n (nx+ny)+i:=by omega
            have hcne:((cy:Int) != 0)=true:=bne_natT (b:=0) hc0
            have hci:¬ ((cy:Int)=0):=by omega
            have hsz:=hT.grown.size
            by_cases hkn:k=n4
            · subst hkn
              have hA:=(Ext.refl wr).alloc (.cells #[.int .u64 0] 221)
              have hT1:=hT.ext hA
              have hO1:=hT1.own
              have hS1:=(own_alloc wr base 221 #[.int .u64 0] 1 rfl (by omega) (by omega)).sl
              go_upto_region 16 with (refine wl_app rfl rfl Tryz.underlying84 info_u64 rfl rfl hO1 rfl hS1 (by simp [Value.oneCell']) (by unfold maxLen; omega) (by omega) (by simp; omega) ?_; intro a5 c5 w5 hO5 hg5 hb5)
              have hT5:Tot w a base w5 a5 (k+1) c5 (zs4 ++ [0]):=hT1.step hg5 (by rw [List.map_append]; exact hO5) hb5 (W.bnd_app hT.bnd (by intro x hx; simp at hx; omega))
              have hl4:=hT.len
              clear hO5 hg5 hb5 hS1 hO1 hT1 hA hT
              obtain ⟨g5,rfl,hg50,hg51⟩:=hT5.own.place (by omega)
              have hON:OwnN .u64 w5 base 221 g5 (k+1) c5 (zs4 ++ [0]):=hT5.own
              have q2:=hON.cell (i:=k) (by omega)
              have q3:=hON.frozen k
              have hz0:(zs4 ++ [0]).getD k 0=0:=by rw [List.getD_eq_getElem?_getD,List.getElem?_append_right (by omega),hl4,Nat.sub_self]; rfl
              rw [hz0] at q2
              have hadd:∀ wx:World,(callFunc 252 #[.int .u64 0, .int .u64 (cy:Int), .int .u64 0]).run Tryz.prog wx = .ok (.value (.tuple #[.int .u64 (((0+cy+0)%18446744073709551616:Nat):Int), .int .u64 (((0+cy+0)/18446744073709551616:Nat):Int)])) wx:=fun wx=>add64_run 0 cy 0 (by omega) wx
              have e1:(0+cy+0)%18446744073709551616=cy:=by omega
              have e2:(0+cy+0)/18446744073709551616=0:=by omega
              rw [e1,e2] at hadd
              have HS:=qh (W.add_step0 (B:=18446744073709551616) (l:=zs4 ++ [0]) (k:=k) (s:=cy) (c':=0) (V:=V+X*W.val 18446744073709551616 (ys.take (i+1))) (c:=cy) (by simp [hl4]) (by rw [W.val_snoc,Nat.mul_zero,Nat.add_zero]; exact HV4.out) (by rw [hz0]; omega))
              go_wp2
              go_roundw
              case rel=>exact ⟨k+1,0,_,k+1,c5,_,rfl,rfl,by go_num,by omega,by omega,hT5.step (grown_setCell w5 g5 k (.int .u64 (cy:Int))) (hON.set k cy) (Or.inl rfl) (W.bnd_set hT5.bnd hcy),by omega,Or.inr ⟨by omega,rfl⟩,HS⟩
              case measure =>
               simp only [slLen,intOf]
               omega
            · have hlt4:k<n4:=by omega
              have hbk:((k:Int) == n4)=false:=beq_natF hkn
              obtain ⟨g5,rfl,hg50,hg51⟩:=hT.own.place (by omega)
              have hON:OwnN .u64 wr base 221 g5 n4 c4 zs4:=hT.own
              have q2:=hON.cell (i:=k) hlt4
              have q3:=hON.frozen k
              have hzk:=W.bnd_at hT.bnd (i:=k) (by rw [hT.len]; exact hlt4)
              have HS:=qh (W.add_step0 (B:=18446744073709551616) (l:=zs4) (k:=k) (s:=(zs4.getD k 0+cy+0)%18446744073709551616) (c':=(zs4.getD k 0+cy+0)/18446744073709551616) (by rw [hT.len]; exact hlt4) HV4.out (by rw [addS]; omega))
              have hadd:∀ wx:World,(callFunc 252 #[.int .u64 ((zs4.getD k 0:Nat):Int), .int .u64 (cy:Int), .int .u64 0]).run Tryz.prog wx = .ok (.value (.tuple #[.int .u64 (((zs4.getD k 0+cy+0)%18446744073709551616:Nat):Int), .int .u64 (((zs4.getD k 0+cy+0)/18446744073709551616:Nat):Int)])) wx:=fun wx=>add64_run (zs4.getD k 0) cy 0 (by omega) wx
              have hs:(zs4.getD k 0+cy+0)%18446744073709551616<18446744073709551616:=Nat.mod_lt _ (by omega)
              have hC:(zs4.getD k 0+cy+0)/18446744073709551616<18446744073709551616:=by omega
              generalize (zs4.getD k 0+cy+0)%18446744073709551616=s at *
              generalize (zs4.getD k 0+cy+0)/18446744073709551616=cc at *
              generalize zs4.getD k 0=u at *
              go_wp2
              go_roundw
              case rel=>exact ⟨k+1,cc,_,n4,c4,zs4.set k s,rfl,rfl,by go_num,hC,by omega,hT.step (zs2:=zs4.set k s) (grown_setCell wr g5 k (.int .u64 (s:Int))) (hON.set k s) (Or.inl rfl) (W.bnd_set hT.bnd hs),hn4,Or.inl hm4',HS⟩
              case measure =>
               simp only [slLen,intOf]
               omega
       · have ei:i=ny:=by omega
         subst ei
         go_wp2
         go_ret
         refine ⟨a2,n2,c2,zs2,rfl,hT, ?_,by omega⟩
         rw [HV2.out,List.take_of_length_le (by rw [HY.out]; exact Nat.le_refl _),NY.out.val]
end Go.Proofs.YtbiifaciddajnaaGreatDoor
namespace Go.Proofs.YtbiifaciddajnaaGreatDoor
open Go Go.RowKit
def tailOk2 (ops:Array Oper) (n:Nat) (i:Nat) (o:Oper):Bool :=
 (List.range n).all (fun j=>(anc ops 3 (preds o)).contains j) || (preds o).any (fun k=>n≤k && k<i)
def regionOk2 (ops:Array Oper) (cons:List (Option Nat)) (size:Nat):Bool :=
 let n:=cons.length
 decide (n≤ops.size) && (List.range ops.size).all (fun i=>match ops[i]? with | some o=>if i<n then headOk ops cons n size i o else tailOk2 ops n i o | none=>false) &&
 cons.all (fun k=>match k with | some k=>k<n | none=>true) &&
 Region.seqB .any ops (ops.size-n) n ((Array.range ops.size).map (fun j=>decide (j<n)))
section
variable {P:Program} {Q:Exit→Act→World→Prop}
theorem wpAny_typed2 {a:Act} {w:World} {l:List Oper} (C:World→Prop) (hs:List Hd)
 (hok:regionOk2 l.toArray (hs.map (·.cons)) a.tmps.size=true)
 (hCe:∀ w w',Ext w w'→C w→C w') (hC:C w.drew) (hst:stabs hs)
 (hobl:obls P C l.toArray hs a 0 l hs)
 (hend:∀ w',C w'→After w' (fun a'=>wpList P l.toArray Q (l.drop hs.length) a' w') l hs a):wpAny P .any l.toArray Q l.toArray.size (Array.replicate l.toArray.size false) a w.drew:=by
 unfold regionOk2 at hok
 simp only [Bool.and_eq_true,List.length_map,decide_eq_true_eq] at hok
 obtain ⟨⟨⟨hn,hall⟩,hcons⟩,hseq⟩:=hok
 have hsz:l.toArray.size=l.length:=by simp
 have hall':∀ i o,l.toArray[i]?=some o→(i<hs.length→HeadFacts l.toArray (hs.map (·.cons)) hs.length a.tmps.size i o)∧(hs.length≤i→tailOk2 l.toArray hs.length i o=true):=by
  intro i o ho
  have hi:i<l.toArray.size:=(Array.getElem?_eq_some_iff.1 ho).1
  have:=List.all_eq_true.1 hall i (by simpa using hi)
  rw [ho] at this
  simp only at this
  refine ⟨fun h => ?_,fun h => ?_⟩
  · rw [if_pos h] at this
    exact headOk_spec this
  · rw [if_neg (by omega)] at this
    exact this
 have key:∀ m listed a' w',unl listed hs.length=m→RInv l.toArray hs a C listed a' w'→wpAny P .any l.toArray Q (m+(l.toArray.size-hs.length)) listed a' w':=by
  intro m
  induction m with
  | zero =>
   intro listed a' w' hu inv
   have hheads:=unl_zero hu
   have hlist:listed=(Array.range l.toArray.size).map (fun j=>decide (j<hs.length)):=by
    apply Array.ext
    · rw [inv.size]; simp
    · intro i h1 h2
      simp only [Array.getElem_map,Array.getElem_range]
      by_cases hi:i<hs.length
      · have:=hheads i hi
        simp [h1] at this
        simp [this,hi]
      · have:=inv.tailF i (by omega)
        simp [h1] at this
        simp [this,hi]
   -- the frame
   have ha:a'=putAll (fun j=>match dstAt l.toArray j with | some d=>a'.tmps.getD d undef | none=>Classical.epsilon (fun v=>(hdAt hs j).ty.ok v w')) 0 l hs a:=by
    apply act_ext
    · rw [putAll_defers]; exact inv.defers
    · rw [putAll_size]; exact inv.tmps
    · intro t
      by_cases hex:∃ j o,j<hs.length∧l[j]?=some o∧o.dst=some t
      · obtain ⟨j,o,hj,ho,hd⟩:=hex
        have hoA:l.toArray[j]?=some o:=by simpa using ho
        have hf:=(hall' j o hoA).1 hj
        rw [putAll_own hs l 0 a j o hj ho hd (hf.dst t hd) (by
         intro k' o' hk' ho' hd'
         have hoA':l.toArray[k']?=some o':=by simpa using ho'
         by_cases hkj:k'=j
         · exact hkj
         · have:=hf.apart k' hk' hkj (by rw [dstAt_some hoA',hd',hd])
           rw [hd] at this
           cases this)]
        rw [Nat.zero_add,dstAt_some hoA,hd]
      · rw [putAll_other hs l 0 a (fun k o hk ho hd=>hex ⟨k,o,hk,ho,hd⟩)]
        refine inv.frame t fun j hj _ hd=>hex ?_
        unfold dstAt at hd
        cases ho:l.toArray[j]? with
        | none=>rw [ho] at hd; cases hd
        | some o=>rw [ho] at hd; exact ⟨j,o,hj,by simpa using ho,hd⟩
   have hfin:=after_inst (vs:=fun j=>match dstAt l.toArray j with | some d=>a'.tmps.getD d undef | none=>Classical.epsilon (fun v=>(hdAt hs j).ty.ok v w')) hs l 0 a (hend w' inv.world)
    (by
     intro k hk c hc
     rw [Nat.zero_add]
     cases hd:dstAt l.toArray k with
     | some d=>exact inv.values k c hk (hheads k hk) hc d hd
     | none =>
      have:(hdAt hs k).ty.ok (Classical.epsilon (fun v=>(hdAt hs k).ty.ok v w')) w':=by
       apply Classical.epsilon_spec (p:=fun v=>(hdAt hs k).ty.ok v w')
       refine ⟨c, ?_⟩
       rw [show (hdAt hs k).ty = .eq c from hc]
       rfl
      have h2:(hdAt hs k).ty = .eq c:=hc
      rw [h2] at this
      simp only [Ty.ok] at this
      rw [h2]
      exact this)
    (by
     intro k hk p hp hc
     rw [Nat.zero_add]
     obtain ⟨v,hv,hvd⟩:=inv.facts k hk (hheads k hk) (by
      intro k' hck
      have h1:(hdAt hs k).cons=none:=hc
      rw [h1] at hck
      cases hck)
     have h2:(hdAt hs k).ty = .pr p:=hp
     cases hd:dstAt l.toArray k with
     | some d =>
      simp only
      rw [hvd d hd]
      rw [h2] at hv
      exact hv
     | none =>
      have:(hdAt hs k).ty.ok (Classical.epsilon (fun v=>(hdAt hs k).ty.ok v w')) w':=Classical.epsilon_spec (p:=fun v=>(hdAt hs k).ty.ok v w') ⟨v,hv⟩
      simp only
      rw [h2] at this ⊢
      exact this)
   rw [←ha] at hfin
   rw [Nat.zero_add]
   have hl:(l.drop hs.length).length=l.toArray.size-hs.length:=by simp
   rw [←hl]
   rw [←hl,←hlist] at hseq
   exact wpAny_of_seq (l.drop hs.length) hs.length listed a' w' (by intro j; simp) hseq hfin
  | succ m ih =>
   intro listed a' w' hu inv
   rw [show m+1+(l.toArray.size-hs.length)=(m+(l.toArray.size-hs.length))+1 by omega]
   refine ⟨fun hempty => ?_,fun i hi => ?_⟩
   · obtain ⟨j,hj,hjf,hjk⟩:=unl_pos (listed:=listed) (n:=hs.length) (by omega)
     have hjl:j<l.toArray.size:=by omega
     have ho:l.toArray[j]?=some l.toArray[j]:=Array.getElem?_eq_getElem hjl
     have hf:=(hall' j _ ho).1 hj
     have:j∈Region.ready .any l.toArray listed:=ready_of (by
      have:j<listed.size:=by rw [inv.size]; exact hjl
      simpa [this] using hjf) ho (fun p hp=>hjk p (hf.lt p hp))
     rw [hempty] at this
     cases this
   · obtain ⟨h0,o,ho,hpr⟩:=ready_spec hi
     have hil:i<listed.size:=by rw [inv.size]; exact (Array.getElem?_eq_some_iff.1 ho).1
     have hif:listed.getD i false=false:=by simpa [hil] using h0
     have hin:i<hs.length:=by
      rcases Nat.lt_or_ge i hs.length with h|h
      · exact h
      · exfalso
        have ht:=(hall' i o ho).2 h
        unfold tailOk2 at ht
        simp only [Bool.or_eq_true,List.all_eq_true,List.mem_range,List.contains_iff_mem,List.any_eq_true,Bool.and_eq_true,decide_eq_true_eq] at ht
        rcases ht with ht|⟨k,hk,hk1,_⟩
        · obtain ⟨j,hj,hjf,_⟩:=unl_pos (listed:=listed) (n:=hs.length) (by omega)
          rw [anc_listed inv.closed 3 (preds o) hpr j (ht j hj)] at hjf
          cases hjf
        · have:=hpr k hk
          rw [inv.tailF k hk1] at this
          cases this
     refine step_inv (by simpa using hobl) hst hCe inv hi hin (fun o' ho'=>(hall' i o' ho').1 hin) fun a2 w2 inv2 => ?_
     refine ih _ a2 w2 ?_ inv2
     have:=unl_set hil hif hin
     omega
 have hstart:RInv l.toArray hs a C (Array.replicate l.toArray.size false) a w.drew:=by
  have hf:∀ j,(Array.replicate l.toArray.size false).getD j false=false:=fun j=>getD_replicate_false _ j
  refine ⟨by simp,fun j _=>hf j,(fun j h=>by rw [hf j] at h; cases h),hC,rfl,rfl,fun _ _=>rfl,(fun j _ h=>by rw [hf j] at h; cases h),(fun j c _ h=>by rw [hf j] at h; cases h)⟩
 have hcount:unl (Array.replicate l.toArray.size false) hs.length=hs.length:=by
  have:∀ n,unl (Array.replicate l.toArray.size false) n=n:=by
   intro n
   induction n with
   | zero=>rfl
   | succ n ih=>rw [unl,ih,getD_replicate_false]; simp
  exact this _
 have:=key hs.length _ a w.drew hcount hstart
 rwa [show hs.length+(l.toArray.size-hs.length)=l.toArray.size by omega] at this
theorem wp_region_typed2 {id:Nat} {a:Act} {w:World} {l:List Oper} (hm:P.follows .mixedOrders=true) (C:World→Prop) (hs:List Hd)
 (hok:regionOk2 l.toArray (hs.map (·.cons)) a.tmps.size=true)
 (hCe:∀ w w',Ext w w'→C w→C w') (hC:C w.drew) (hst:stabs hs)
 (hobl:obls P C l.toArray hs a 0 l hs)
 (hend:∀ w',C w'→After w' (fun a'=>wpList P l.toArray Q (l.drop hs.length) a' w') l hs a):(Code.region id l.toArray true).wp P Q a w :=
 wp_region_any hm (wpAny_typed2 C hs hok hCe hC hst hobl hend)
end
end Go.Proofs.YtbiifaciddajnaaGreatDoor
namespace Go.Proofs.YtbiifaciddajnaaGreatDoor
open Go Go.RowKit
def addE (j:Nat) (o:Oper):Oper:={ o with after:=o.after.push { on:=j,ground := .data } }
theorem execOp_addE (j:Nat) (o:Oper) (ρ:Operand→Value):execOp ρ (addE j o)=execOp ρ o:=by
 obtain ⟨dst,op,type,pos,after,guard⟩:=o
 cases op <;> rfl
section
variable {P:Program} {Q:Exit→Act→World→Prop}
theorem get_addE (l:List Oper) (m j:Nat):(l.modify m (addE 0)).toArray[j]?=(l.toArray[j]?).map (fun o=>if m=j then addE 0 o else o):=by
 simp only [List.getElem?_toArray,List.getElem?_modify]
 cases l[j]? with
 | none=>rfl
 | some o=>by_cases h:m=j <;> simp [h]
theorem ready_addE {l:List Oper} {m j:Nat} {L:Array Bool} (h0:L.getD 0 false=true):j∈Region.ready .any (l.modify m (addE 0)).toArray L↔j∈Region.ready .any l.toArray L:=by
 rw [mem_ready,mem_ready,get_addE]
 constructor
 · rintro ⟨h1,o,ho,hall⟩
   cases hj:l.toArray[j]? with
   | none=>rw [hj] at ho; cases ho
   | some o' =>
    rw [hj] at ho
    simp only [Option.map_some,Option.some.injEq] at ho
    refine ⟨h1,o',rfl,fun e he hb=>hall e ?_ hb⟩
    rw [←ho]
    split
    · exact Array.mem_push_of_mem _ he
    · exact he
 · rintro ⟨h1,o,ho,hall⟩
   rw [ho]
   refine ⟨h1,_,rfl,fun e he hb => ?_⟩
   split at he
   · rcases Array.mem_push.1 he with he|he
     · exact hall e he hb
     · rw [he]; exact h0
   · exact hall e he hb
theorem yielded_addE (l:List Oper) (m:Nat) (t:Array Value):yielded (l.modify m (addE 0)).toArray t=yielded l.toArray t:=by
 funext g
 unfold yielded
 rw [get_addE]
 cases l.toArray[g]? with
 | none=>rfl
 | some o=>by_cases h:m=g <;> simp [h,addE]
theorem wpOp_addE {l:List Oper} {m i:Nat} {K:Act→World→Prop} {a:Act} {w:World} (h:wpOp P (l.modify m (addE 0)).toArray Q i K a w):wpOp P l.toArray Q i K a w:=by
 unfold wpOp at *
 rw [get_addE] at h
 cases ho:l.toArray[i]? with
 | none=>rw [ho] at h; exact h
 | some o =>
  rw [ho] at h
  simp only [Option.map_some,yielded_addE] at h
  by_cases hm:m=i
  · simp only [if_pos hm] at h
    have e1:Region.wanted (addE 0 o) (yielded l.toArray a.tmps)=Region.wanted o (yielded l.toArray a.tmps):=rfl
    have e2:Oper.wp P (addE 0 o) a w K Q=Oper.wp P o a w K Q:=by unfold Oper.wp; rw [execOp_addE]; rfl
    have e3:Oper.asks P (addE 0 o) a w=Oper.asks P o a w:=by unfold Oper.asks; rw [execOp_addE]
    rw [e1,e2,e3] at h
    exact h
  · simp only [if_neg hm] at h
    exact h
theorem wpAny_addE {l:List Oper} {m:Nat}:∀ (f:Nat) (L:Array Bool) (a:Act) (w:World),L.getD 0 false=true→wpAny P .any (l.modify m (addE 0)).toArray Q f L a w→wpAny P .any l.toArray Q f L a w
 | 0,L,a,w,h0,h=>by
  refine ⟨?_,h.2⟩
  refine List.eq_nil_iff_forall_not_mem.2 fun j hj => ?_
  have:=(ready_addE (m:=m) h0).2 hj
  rw [h.1] at this
  cases this
 | f+1,L,a,w,h0,h=>by
  refine ⟨fun hr=>h.1 (List.eq_nil_iff_forall_not_mem.2 fun j hj => ?_),fun i hi => ?_⟩
  · have:=(ready_addE h0).1 hj
    rw [hr] at this
    cases this
  · exact wpOp_mono (fun a' w' h'=>wpAny_addE f _ a' w' (getD_set_true h0) h') (wpOp_addE (h.2 i ((ready_addE h0).2 hi)))
def isSel:Op→Bool | .select _ _=>true | _=>false
def floatOk (ops:Array Oper):Bool :=
 (match ops[0]? with
  | some o=>(match o.op with | .move _=>true | _=>false) && o.guard.isNone && o.after.isEmpty && (List.range ops.size).all (fun j=>j == 0 || (match ops[j]? with | some oj=>oj.after.any (fun e=>Region.binds .any e && e.on == 0) || o.apart ops oj | none=>true))
  | none=>false) && (List.range ops.size).all (fun j=>match ops[j]? with | some o => !isSel o.op | none=>true)
theorem wp_region_typedF {id:Nat} {a:Act} {w:World} {l:List Oper} (m:Nat) (hm0:m≠0) (hm:P.follows .mixedOrders=true) (C:World→Prop) (hs:List Hd)
 (hok:regionOk2 (l.modify m (addE 0)).toArray (hs.map (·.cons)) a.tmps.size=true) (hfl:floatOk l.toArray=true)
 (hQ:∀ c a w d v,Q (.panic c) (Act.put a d v) w→Q (.panic c) a w)
 (hCe:∀ w w',Ext w w'→C w→C w') (hC:C w.drew) (hst:stabs hs)
 (hobl:obls P C (l.modify m (addE 0)).toArray hs a 0 (l.modify m (addE 0)) hs)
 (hend:∀ w',C w'→After w' (fun a'=>wpList P (l.modify m (addE 0)).toArray Q ((l.modify m (addE 0)).drop hs.length) a' w') (l.modify m (addE 0)) hs a):(Code.region id l.toArray true).wp P Q a w:=by
 have h:=wpAny_typed2 (P:=P) (Q:=Q) C hs hok hCe hC hst hobl hend
 refine wp_region_any hm ?_
 unfold floatOk at hfl
 simp only [Bool.and_eq_true] at hfl
 obtain ⟨h1,h2⟩:=hfl
 cases h0:l.toArray[0]? with
 | none=>rw [h0] at h1; cases h1
 | some o =>
  rw [h0] at h1
  simp only [Bool.and_eq_true] at h1
  obtain ⟨⟨⟨hmv,hgd⟩,haf⟩,hap⟩:=h1
  obtain ⟨x,hx⟩:∃ x,o.op = .move x:=by
   cases hop:o.op <;> rw [hop] at hmv <;> first | exact ⟨_,rfl⟩ | cases hmv
  have hgn:o.guard=none:=by simpa using hgd
  have han:o.after=#[]:=by simpa using haf
  have hsz:0<l.toArray.size:=(Array.getElem?_eq_some_iff.1 h0).1
  have hlen:(l.modify m (addE 0)).toArray.size=l.toArray.size:=by simp
  rw [hlen] at h
  obtain ⟨k,hk⟩:∃ k,l.toArray.size=k+1:=⟨l.toArray.size-1,by omega⟩
  rw [hk] at h ⊢
  have hy:Yields P l.toArray o (a.eval x) a:=Or.inl ⟨by simp [Region.wanted,hgn],fun w=>by simp only [execOp,hx]; rfl⟩
  have hr:0∈Region.ready .any l.toArray (Array.replicate (k+1) false):=by
   rw [mem_ready]
   refine ⟨by simp,o,h0,fun e he => ?_⟩
   rw [han] at he
   simp at he
  have hsel:∀ (j:Nat) (o:Oper) cs b,l.toArray[j]?=some o→o.op ≠ .select cs b:=by
   intro j oj cs b hj hc
   have hjl:j<l.toArray.size:=(Array.getElem?_eq_some_iff.1 hj).1
   have:=List.all_eq_true.1 h2 j (List.mem_range.2 hjl)
   rw [hj] at this
   simp [hc,isSel] at this
  refine wpAny_first (i:=0) (oi:=o) (v:=a.eval x) h0 hsel (fun c a w=>hQ c a w _ _) k _ a _ ?_ hr hy ?_
  · intro j oj hj hne _ hnot
    have hjl:j<l.toArray.size:=(Array.getElem?_eq_some_iff.1 hj).1
    have:=List.all_eq_true.1 hap j (List.mem_range.2 hjl)
    rw [hj] at this
    simp only [Bool.or_eq_true,beq_iff_eq] at this
    rcases this with h|h|h
    · exact absurd h hne
    · obtain ⟨e,he,hb⟩:=Array.any_eq_true'.1 h
      simp only [Bool.and_eq_true,beq_iff_eq] at hb
      exact absurd hb.2 (hnot e he hb.1)
    · exact h
  · refine wpAny_addE (m:=m) k _ _ _ (by simp) ?_
    have hg:(l.modify m (addE 0)).toArray[0]?=some o:=by rw [get_addE,h0]; simp [hm0]
    have hr':0∈Region.ready .any (l.modify m (addE 0)).toArray (Array.replicate (k+1) false):=by
     rw [mem_ready]
     refine ⟨by simp,o,hg,fun e he => ?_⟩
     rw [han] at he
     simp at he
    have h3:=h.2 0 hr'
    unfold wpOp at h3
    rw [hg] at h3
    simp only at h3
    rw [if_pos (by simp [Region.wanted,hgn])] at h3
    rcases h3 with h3|h3
    · simp only [Oper.wp,execOp,hx] at h3
      exact h3
    · exfalso
      have:=h3.1
      simp only [Oper.asks,execOp,hx] at this
      exact absurd (show noRoomEvent∈(#[]:Array Event) from this.1) (by simp)
end
end Go.Proofs.YtbiifaciddajnaaGreatDoor
