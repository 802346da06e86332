/- Part Gan6. -/
import Derived.Test.YtlpgonpfjbhmfaaGreatDoorGan5
import Derived.WalkSpells
import Derived.Deep.CutBlock
import Derived.Deep.DeepCutAuto
set_option maxRecDepth 100000
set_option maxHeartbeats 100000000
namespace Go.Proofs.YtlpgonpfjbhmfaaGreatDoor
open Go Go.RowKit
theorem run_slice_mid {P:Program} {w:World} {t e:TypeId} {z:Value} {bytes:Nat} {g n c lo hi:Nat} (ht:P.underlying t=some (.slice e)) (hinfo:Elem1 P e z bytes) (h1:lo≤hi) (h2:hi≤c) (h3:lo < c) :
 (Instr.sliceAt t (.slice (some ⟨g,0,none⟩) n c) (some (.int .i64 lo)) (some (.int .i64 hi)) none).run P w = .ok (.slice (some ⟨g,lo,none⟩) (hi - lo) (c - lo)) w:=by
 obtain ⟨i,hii,hz,hsize,hby⟩:=info_parts hinfo;have e0:¬ c=lo:=by omega
 have e1:Addr.add ⟨g,0,none⟩ lo=⟨g,lo,none⟩:=by
  unfold Addr.add;by_cases h0:lo=0 <;> simp [h0]
 have k1:(lo:Int)≤hi:=by omega
 have k2:(hi:Int)≤c:=by omega
 simp [Instr.sliceAt,Instr.slice,Instr.sliceBounds,Instr.sliceBound,run_underlying ht,asIntOf,sizeOf,typeInfo,hii,hsize,h1,h2,e0,e1]
theorem sub0S {x:Nat} (hx:x < 18446744073709551616):(x+18446744073709551616 - 0 - 1) % 18446744073709551616+1=x+18446744073709551616*(if x < 0+1 then 1 else 0):=by
 split <;> omega
theorem int_subtractFrom {base g n c m d:Nat} {b:Option Addr} {xs ys:List Nat} {w:World} (hx:OwnN .u64 w base 143 g n c xs) (hy:SlN .u64 w b m d ys) (hne:blk b=none∨blk b≠some g) (bx:W.bnd 18446744073709551616 xs) (by_:W.bnd 18446744073709551616 ys) (hmn:m≤n) (hfit:W.val 18446744073709551616 ys≤W.val 18446744073709551616 xs) :
 Calls Tryz.prog 182 #[.slice (some ⟨g,0,none⟩) n c, .slice b m d] w fun e w'=>e = .returned (.tuple #[])∧w.grownBy w' (some g)∧∃ zs,OwnN .u64 w' base 143 g n c zs∧W.bnd 18446744073709551616 zs∧W.val 18446744073709551616 zs=W.val 18446744073709551616 xs - W.val 18446744073709551616 ys:=by
 have HX:=Lib.hid hx.len;have HY:=Lib.hid hy.len;have hnn:=hx.le;have hmm:=hy.le;have BY:=Lib.hid by_;have HF:=Lib.hid hfit;clear by_ hfit
 go_enter Tryz.func182,Tryz.ntmps182
 go_wp2
 go_loopw [4,10] (fun cv iv wr=>∃ (k cy:Nat) (zs:List Nat),cv = .int .u64 cy∧iv = .int .i64 k∧k≤m∧cy≤1∧w.grownBy wr (some g)∧OwnN .u64 wr base 143 g n c zs∧W.bnd 18446744073709551616 zs∧Hid (W.val 18446744073709551616 zs+W.val 18446744073709551616 (ys.take k)=W.val 18446744073709551616 xs+cy*18446744073709551616^k)) (fun _ iv _=>m - (intOf iv).toNat)
 case atStart=>exact ⟨0,0,xs,rfl,rfl,Nat.zero_le _,by omega,grown_self _ _,hx,bx,Lib.hid (by simp [W.val])⟩
 case round =>
  obtain ⟨k,cy,zs,rfl,rfl,hk,hcy,hg,hz,bz,HE⟩:=hrel;by_cases hlt:k < m
  · obtain ⟨b1,o1,rfl,hc1⟩:=(hy.kept hg hne).at (j:=k) hlt;have g1:=hc1 k hlt;have g2:=hz.cell (i:=k) (by omega);have g3:=hz.frozen k;have hxk:=W.bnd_at bz (i:=k) (by rw [hz.len]; omega);have hyk:=W.bnd_at BY.out (i:=k) (by rw [HY.out]; exact hlt);have HS:=Lib.hid (W.sub_step (B:=18446744073709551616) (l:=zs) (ys:=ys) (k:=k) (by rw [hz.len]; omega) (by rw [HY.out]; exact hlt) HE.out (subS (x:=zs.getD k 0) (y:=ys.getD k 0) (c:=cy) hxk hyk hcy));have hadd:=sub64_run (zs.getD k 0) (ys.getD k 0) cy hcy;have hC:=subC (x:=zs.getD k 0) (y:=ys.getD k 0) (c:=cy);have hkn:(k:Int) < n:=by omega
    generalize zs.getD k 0=u at *
    generalize ys.getD k 0=v at *
    have hs:(u+18446744073709551616 - v - cy) % 18446744073709551616 < 18446744073709551616:=Nat.mod_lt _ (by omega);generalize (u+18446744073709551616 - v - cy) % 18446744073709551616=s at *
    generalize (if u < v+cy then 1 else 0)=c2 at *
    clear hc1;go_wp2;go_roundw
    case rel=>exact ⟨k+1,c2,zs.set k s,rfl,by go_num,by omega,hC,grown_set hg _ _,hz.set k s,W.bnd_set bz hs,HS⟩
    case measure=>simp [intOf]; omega
  · have ek:k=m:=by omega
    have HE2:Hid (W.val 18446744073709551616 zs=(W.val 18446744073709551616 xs - W.val 18446744073709551616 ys)+cy*18446744073709551616^m):=by
     have:=HE.out;rw [ek,List.take_of_length_le (by rw [HY.out]; exact Nat.le_refl _)] at this;have h2:=HF.out;show _=_;omega
    clear HE ek;go_wp2
    go_loopw [4,7] (fun cv iv wr=>∃ (k cy:Nat) (zs:List Nat),cv = .int .u64 cy∧iv = .int .i64 k∧m≤k∧k≤n∧cy≤1∧w.grownBy wr (some g)∧OwnN .u64 wr base 143 g n c zs∧W.bnd 18446744073709551616 zs∧Hid (W.val 18446744073709551616 zs=(W.val 18446744073709551616 xs - W.val 18446744073709551616 ys)+cy*18446744073709551616^k)) (fun _ iv _=>n - (intOf iv).toNat)
    case atStart=>exact ⟨m,cy,zs,rfl,rfl,Nat.le_refl _,hmn,hcy,hg,hz,bz,HE2⟩
    case round =>
     clear hg hz bz HE2 hlt hk hcy;obtain ⟨k,cy,zs,rfl,rfl,hk0,hk,hcy,hg,hz,bz,HE⟩:=hrel;have hcy2:cy=0∨cy=1:=by omega
     rcases hcy2 with rfl | rfl
     · go_wp2
       go_end0
       exact ⟨rfl,hg,zs,hz,bz,by have:=HE.out; rw [Nat.zero_mul,Nat.add_zero] at this; exact this⟩
     · by_cases hlt:k < n
       · have g2:=hz.cell (i:=k) hlt;have g3:=hz.frozen k;have hxk:=W.bnd_at bz (i:=k) (by rw [hz.len]; exact hlt);have HS:=Lib.hid (W.sub_step0 (B:=18446744073709551616) (l:=zs) (k:=k) (s:=(zs.getD k 0+18446744073709551616 - 0 - 1) % 18446744073709551616) (c':=if zs.getD k 0 < 0+1 then 1 else 0) (by rw [hz.len]; exact hlt) HE.out (sub0S hxk))
         have hadd:∀ wx:World,(callFunc 179 #[.int .u64 ((zs.getD k 0:Nat):Int), .int .u64 0, .int .u64 1]).run Tryz.prog wx = .ok (.value (.tuple #[.int .u64 (((zs.getD k 0+18446744073709551616 - 0 - 1) % 18446744073709551616:Nat):Int), .int .u64 ((if zs.getD k 0 < 0+1 then 1 else 0:Nat):Int)])) wx:=fun wx=>sub64_run (zs.getD k 0) 0 1 (by omega) wx;have hC:=subC (x:=zs.getD k 0) (y:=0) (c:=1);have hs:(zs.getD k 0+18446744073709551616 - 0 - 1) % 18446744073709551616 < 18446744073709551616:=Nat.mod_lt _ (by omega)
         generalize (zs.getD k 0+18446744073709551616 - 0 - 1) % 18446744073709551616=s at *
         generalize (if zs.getD k 0 < 0+1 then 1 else 0)=c2 at *
         generalize zs.getD k 0=u at *
         go_wp2;go_roundw
         case rel=>exact ⟨k+1,c2,zs.set k s,rfl,by go_num,by omega,by omega,hC,grown_set hg _ _,hz.set k s,W.bnd_set bz hs,HS⟩
         case measure=>simp [intOf]; omega
       · exfalso;have ek:k=n:=by omega
         have h1:=HE.out;have h2:=W.val_lt bz;rw [hz.len] at h2;rw [ek] at h1;omega
theorem cloneU {a:Option Addr} {n c:Nat} {xs:List Nat} {w:World} (hx:SlN .u64 w a n c xs) (hn:n≤1000000) (h0:0 < n) :
 Calls Tryz.prog 136 #[.slice a n c] w (fun e w'=>∃ g c',e = .returned (.slice (some ⟨g,0,none⟩) n c')∧Ext w w'∧OwnN .u64 w' w.heap.size 143 g n c' xs):=by
 obtain ⟨b,o,rfl,_⟩:=hx.at h0;have heq:=fun w':World=>Lib.run_eql_slice_nil (P:=Tryz.prog) w' 88 143 (some ⟨b,o,none⟩) n c 0 0 Tryz.underlying88
 go_enter Tryz.func136,Tryz.ntmps136
 go_upto_region 3 with (fail)
 have hA:Ext w (w.alloc (.cells #[] 143)):=(Ext.refl w).alloc _;have hO:=own_alloc w w.heap.size 143 #[] 0 rfl (Nat.le_refl _) (by omega);have h1c:∀ u∈xs.map (natV .u64),u.oneCell'=true:=by
  intro u hu;obtain ⟨x,_,rfl⟩:=List.mem_map.1 hu;rfl
 go_wp2_with (refine wl_app rfl rfl Tryz.underlying88 info_u64 rfl rfl hO rfl (hx.ext hA) h1c (by unfold maxLen; omega) (by omega) (by simp) ?_; intro a1 c1 w1 hO1 hg1 hb1)
 go_ret;have hO2:Own w1 w.heap.size 143 a1 n c1 (xs.map (natV .u64)):=by simpa using hO1
 obtain ⟨g,rfl,_,_⟩:=hO2.place h0;exact ⟨g,c1,rfl,hA.grown hg1 (fun k hk=>(hO.lt hk).1),hO2⟩
theorem wrap_u64 {x:Int} (h0:0≤x) (h1:x < 18446744073709551616):IntKind.u64.wrap x=x:=by
 rw [IntKind.wrap_u64];exact Int.emod_eq_of_lt h0 h1
theorem mul64_c {x y:Nat} (hx:x < 18446744073709551616) (hy:y < 18446744073709551616) (w:World):Calls Tryz.prog 204 #[.int .u64 x, .int .u64 y] w fun e w'=>e = .returned (.tuple #[.int .u64 ((x*y / 18446744073709551616:Nat):Int), .int .u64 ((x*y % 18446744073709551616:Nat):Int)])∧w'=w:=Any.bits_Mul64 mul64L x y hx hy w
theorem mac_stepO {B:Nat} {l xs:List Nat} {V c k o s c' w:Nat} (hk:o+k < l.length) (hx:k < xs.length) (h:W.val B l+c*B^(o+k)=V+w*W.val B (xs.take k)*B^o) (e:s+B*c'=l.getD (o+k) 0+xs.getD k 0*w+c) :
 W.val B (l.set (o+k) s)+c'*B^(o+(k+1))=V+w*W.val B (xs.take (k+1))*B^o:=by
 have h1:=W.val_set (B:=B) (xs:=l) (i:=o+k) (v:=s) hk;have h2:=W.val_take_succ (B:=B) hx;rw [h2,←Nat.add_assoc,Nat.pow_succ];have h3:B^(o+k)=B^o*B^k:=Nat.pow_add _ _ _;rw [h3] at h h1 ⊢;generalize l.getD (o+k) 0=x at *
 generalize xs.getD k 0=y at *
 generalize W.val B (l.set (o+k) s)=a at *
 generalize W.val B l=b at *
 generalize W.val B (xs.take k)=d at *
 generalize B^k=p at *
 generalize B^o=q at *
 grind
theorem mac_word {z u wd cy:Nat} (hz:z < 18446744073709551616) (hu:u < 18446744073709551616) (hw:wd < 18446744073709551616) (hc:cy < 18446744073709551616) :
 u*wd / 18446744073709551616+(u*wd % 18446744073709551616+cy+0) / 18446744073709551616 < 18446744073709551616∧u*wd / 18446744073709551616+(u*wd % 18446744073709551616+cy+0) / 18446744073709551616+(z+(u*wd % 18446744073709551616+cy+0) % 18446744073709551616+0) / 18446744073709551616 < 18446744073709551616 ∧
 (z+(u*wd % 18446744073709551616+cy+0) % 18446744073709551616+0) % 18446744073709551616+18446744073709551616*(u*wd / 18446744073709551616+(u*wd % 18446744073709551616+cy+0) / 18446744073709551616+(z+(u*wd % 18446744073709551616+cy+0) % 18446744073709551616+0) / 18446744073709551616)=z+u*wd+cy:=by
 have:u*wd≤18446744073709551615*18446744073709551615:=Nat.mul_le_mul (by omega) (by omega);generalize u * wd=p at *
 omega
theorem int_addProduct {base g N C o n c' d wd:Nat} {a:Option Addr} {zs xs:List Nat} {w:World} (hz:OwnN .u64 w base 143 g N C zs) (hx:SlN .u64 w a n d xs) (hne:blk a=none∨blk a≠some g) (ho:o+n≤N) (bz:W.bnd 18446744073709551616 zs) (bx:W.bnd 18446744073709551616 xs) (hw:wd < 18446744073709551616) :
 Calls Tryz.prog 170 #[.slice (some ⟨g,o,none⟩) n c', .slice a n d, .int .u64 wd] w fun e w'=>∃ (cy:Nat) (zs':List Nat),e = .returned (.int .u64 cy)∧cy < 18446744073709551616∧w.grownBy w' (some g)∧OwnN .u64 w' base 143 g N C zs'∧W.bnd 18446744073709551616 zs'∧W.val 18446744073709551616 zs'+cy*18446744073709551616^(o+n)=W.val 18446744073709551616 zs+wd*W.val 18446744073709551616 xs*18446744073709551616^o∧(∀ j,o+n≤j→zs'.getD j 0=zs.getD j 0):=by
 have HZ:=Lib.hid hz.len;have HX:=Lib.hid hx.len;have hnn:=hx.le;have BX:=Lib.hid bx;clear bx
 go_enter Tryz.func170,Tryz.ntmps170
 go_wp2
 go_loopw [7,16] (fun cv iv wr=>∃ (k cy:Nat) (ls:List Nat),cv = .int .u64 cy∧iv = .int .i64 k∧k≤n∧cy < 18446744073709551616∧w.grownBy wr (some g)∧OwnN .u64 wr base 143 g N C ls∧W.bnd 18446744073709551616 ls∧Hid (W.val 18446744073709551616 ls+cy*18446744073709551616^(o+k)=W.val 18446744073709551616 zs+wd*W.val 18446744073709551616 (xs.take k)*18446744073709551616^o)∧Hid (∀ j,o+n≤j→ls.getD j 0=zs.getD j 0)) (fun _ iv _=>n - (intOf iv).toNat)
 case atStart=>exact ⟨0,0,zs,rfl,rfl,Nat.zero_le _,by omega,grown_self _ _,hz,bz,Lib.hid (by simp [W.val]),Lib.hid (fun _ _=>rfl)⟩
 case round =>
  clear hz bz;obtain ⟨k,cy,ls,rfl,rfl,hk,hcy,hg,hl,bl,HE,HJ⟩:=hrel;by_cases hlt:k < n
  · obtain ⟨b1,o1,rfl,hc1⟩:=(hx.kept hg hne).at (j:=k) hlt;have g1:=hc1 k hlt;have g2:=hl.cell (i:=o+k) (by omega);have g3:=hl.frozen (o+k);have hzk:=W.bnd_at bl (i:=o+k) (by rw [hl.len]; omega);have hxk:=W.bnd_at BX.out (i:=k) (by rw [HX.out]; exact hlt);obtain ⟨m1,m2,m3⟩:=mac_word hzk hxk hw hcy;have HS:=Lib.hid (mac_stepO (B:=18446744073709551616) (l:=ls) (xs:=xs) (k:=k) (o:=o) (w:=wd) (by rw [hl.len]; omega) (by rw [HX.out]; exact hlt) HE.out m3);have hkn:(k:Int) < n:=by omega
    have HJ2:Hid (∀ s j,o+n≤j→(ls.set (o+k) s).getD j 0=zs.getD j 0):=by
     show ∀ s j,o+n≤j→(ls.set (o+k) s).getD j 0=zs.getD j 0;intro s j hj;rw [←HJ.out j hj];have hne:¬ o+k=j:=by omega
     simp [List.getD_eq_getElem?_getD,hne]
    generalize ls.getD (o+k) 0=z at *
    generalize xs.getD k 0=u at *
    have hmul:=mul64_c hxk hw;have hadd1:∀ wx:World,(callFunc 203 #[.int .u64 ((u*wd % 18446744073709551616:Nat):Int), .int .u64 (cy:Int), .int .u64 0]).run Tryz.prog wx = .ok (.value (.tuple #[.int .u64 (((u*wd % 18446744073709551616+cy+0) % 18446744073709551616:Nat):Int), .int .u64 (((u*wd % 18446744073709551616+cy+0) / 18446744073709551616:Nat):Int)])) wx:=fun wx=>add64_run (u*wd % 18446744073709551616) cy 0 (by omega) wx;generalize u * wd / 18446744073709551616=ph at *
    generalize u * wd % 18446744073709551616=pl at *
    generalize hs1:(pl+cy+0) % 18446744073709551616=s1 at *
    generalize hc1':(pl+cy+0) / 18446744073709551616=c1 at *
    have hadd2:∀ wx:World,(callFunc 203 #[.int .u64 (z:Int), .int .u64 (s1:Int), .int .u64 0]).run Tryz.prog wx = .ok (.value (.tuple #[.int .u64 (((z+s1+0) % 18446744073709551616:Nat):Int), .int .u64 (((z+s1+0) / 18446744073709551616:Nat):Int)])) wx:=fun wx=>add64_run z s1 0 (by omega) wx;have hs2:(z+s1+0) % 18446744073709551616 < 18446744073709551616:=Nat.mod_lt _ (by omega);generalize (z+s1+0) % 18446744073709551616=s2 at *
    generalize (z+s1+0) / 18446744073709551616=c2 at *
    have hw1:IntKind.u64.wrap ((ph:Int)+c1)=((ph+c1:Nat):Int):=by rw [wrap_u64 (by omega) (by omega)]; omega
    have hw2:IntKind.u64.wrap (((ph+c1:Nat):Int)+c2)=((ph+c1+c2:Nat):Int):=by rw [wrap_u64 (by omega) (by omega)]; omega
    have hw3:IntKind.u64.wrap ((ph:Int)+(c1:Int)+c2)=((ph+c1+c2:Nat):Int):=by rw [wrap_u64 (by omega) (by omega)]; omega
    clear hc1 hs1 hc1' m3
    go_wp2_with (go_at_call 204; refine (hmul _).mono ?_; rintro e w1 ⟨rfl,rfl⟩)
    go_roundw
    case rel=>exact ⟨k+1,ph+c1+c2,ls.set (o+k) s2,by first | rfl | go_num,by go_num,by omega,m2,grown_set hg _ _,hl.set (o+k) s2,W.bnd_set bl hs2,HS,Lib.hid (HJ2.out s2)⟩
    case measure=>simp [intOf]; omega
  · have ek:k=n:=by omega
    go_wp2;go_ret;have h1:=HE.out;rw [ek,List.take_of_length_le (by rw [HX.out]; exact Nat.le_refl _)] at h1;exact ⟨cy,ls,rfl,hcy,hg,hl,bl,h1,HJ.out⟩
theorem u64_one (xs:List Nat):∀ v∈xs.map (natV .u64),v.oneCell'=true:=by
 intro u hu;obtain ⟨x,_,rfl⟩:=List.mem_map.1 hu;rfl
theorem val_pad (B:Nat) (xs:List Nat) (n:Nat):W.val B (xs ++ List.replicate n 0)=W.val B xs:=by
 rw [W.val_app,W.val_zeros];simp
theorem bnd_pad {B:Nat} (hB:0 < B) {xs:List Nat} (h:W.bnd B xs) (n:Nat):W.bnd B (xs ++ List.replicate n 0):=by
 refine W.bnd_app h ?_;intro x hx;rw [(List.mem_replicate.1 hx).2];exact hB
theorem copied {w:World} {g N:Nat} {xs:List Nat} {t:TypeId} (h:Arr w g t ((List.map (natV .u64) (List.replicate N 0)).take 0 ++ xs.map (natV .u64) ++ (List.map (natV .u64) (List.replicate N 0)).drop (0+xs.length))):ArrN .u64 w g t (xs ++ List.replicate (N - xs.length) 0):=by
 unfold ArrN;rw [List.map_append];simpa using h
theorem int_addTail {a b:Option Addr} {n c m d:Nat} {xs ys:List Nat} {x y:Nat} {w:World} (hx:SlN .u64 w a n c xs) (hy:SlN .u64 w b m d ys) (nx:Num 18446744073709551616 xs x) (ny:Num 18446744073709551616 ys y) (hmn:m≤n) (hn:n≤1000000) (h0:0 < m) {w1:World} {g:Nat} (hg0:w.heap.size≤g) (hE1:Ext w w1) (hA1:ArrN .u64 w1 g 143 (xs ++ List.replicate 1 0)) :
 Calls Tryz.prog 172 #[.slice (some ⟨g,0,none⟩) (n+1) (n+1), .slice b m d] w1 fun e w'=>e = .returned (.tuple #[])∧Ext w w'∧∃ zs,OwnN .u64 w' w.heap.size 143 g (n+1) (n+1) zs∧W.bnd 18446744073709551616 zs∧W.val 18446744073709551616 zs=x+y:=by
 have hl:(xs ++ List.replicate 1 0).length=n+1:=by simp [hx.len]
 have hO:OwnN .u64 w1 w.heap.size 143 g (n+1) (n+1) (xs ++ List.replicate 1 0):=by
  have:=ArrN.own hA1 hg0 (by rw [hl]; unfold maxLen; omega);rw [hl] at this;exact this
 have hv:W.val 18446744073709551616 (xs ++ List.replicate 1 0)=x:=by rw [val_pad,nx.val]
 refine (int_addInto hO (hy.ext hE1) (Or.inr (hy.fresh hg0 h0)) (bnd_pad (by omega) nx.bnd 1) ny.bnd (by omega) ?_).mono ?_
 · have h1:=W.val_lt nx.bnd;have h2:=W.val_lt ny.bnd;rw [hx.len] at h1;rw [hy.len] at h2;have h3:18446744073709551616^m≤18446744073709551616^n:=Nat.pow_le_pow_right (by omega) hmn;have h4:18446744073709551616^(n+1)=18446744073709551616^n*18446744073709551616:=Nat.pow_succ _ _;rw [val_pad];omega
 · rintro e w2 ⟨rfl,hg,zs,hz,bz,hvz⟩;exact ⟨rfl,hE1.grownR hg hg0,zs,hz,bz,by rw [hvz,hv,ny.val]⟩
theorem int_addWords {a b:Option Addr} {n c m d:Nat} {xs ys:List Nat} {x y:Nat} {w:World} (hx:SlN .u64 w a n c xs) (hy:SlN .u64 w b m d ys) (nx:Num 18446744073709551616 xs x) (ny:Num 18446744073709551616 ys y) (hn:n≤1000000) (hm:m≤1000000) :
 Calls Tryz.prog 151 #[.slice a n c, .slice b m d] w (RetN .u64 18446744073709551616 w (x+y)):=by
 have HX:=Lib.hid hx.len;have HY:=Lib.hid hy.len;have NX:=Lib.hid nx;have NY:=Lib.hid ny;clear nx ny;by_cases hs:n < m
 · go_enter Tryz.func151,Tryz.ntmps151
   by_cases h0:n=0
   · have HZ:Hid (x+y=y):=by
      show _=_;have h1:xs=[]:=List.eq_nil_of_length_eq_zero (by rw [HX.out,h0]);have h2:=NX.out.val;rw [h1] at h2;simp only [W.val] at h2;omega
     subst h0;go_wp2;go_ret;exact ⟨b,m,d,ys,rfl,Ext.refl w,hy,⟨NY.out.bnd,NY.out.nrm,by rw [NY.out.val,HZ.out]⟩⟩
   · have hb0:((n:Int) == 0)=false:=by simp; omega
     have hm0:0 < n:=by omega
     clear h0
     go_upto_region 6 with (at_make; refine wl_mk (n:=m+1) rfl rfl Tryz.underlying88 info_u64 rfl rfl rfl (by omega) (by unfold maxLen; omega) ?_; intro w1 hO1 hE1)
     have hA1:=(OwnN.of_zeros hO1).arr
     go_upto_region 7 with (refine wl_cp (sT:=88) rfl rfl Tryz.underlying88 info_u64 rfl rfl hA1 (hy.ext hE1) (by omega) (by simp) (u64_one _) ?_; intro w2 hB2 hg2)
     have hA2:ArrN .u64 w2 w.heap.size 143 (ys ++ List.replicate 1 0):=by
      rw [←show m+1 - ys.length=1 from by rw [HY.out]; omega];refine copied ?_;rw [HY.out];exact hB2
     have hE2:Ext w w2:=hE1.grownR hg2 (Nat.le_refl _);clear hO1 hE1 hA1 hB2 hg2
     go_wp2_with fail
     refine (int_addTail hy hx NY.out NX.out (by omega) hm hm0 (Nat.le_refl _) hE2 hA2).mono ?_;rintro e w3 ⟨rfl,hE3,zs,hz,bz,hv⟩
     go_wp2_with fail
     refine (int_trim hz.sl).mono ?_;rintro e w4 ⟨q,rfl,rfl,hq,ht⟩;obtain ⟨t1,t2⟩:=trim_num hz.sl hq ht bz hv;go_wp2;go_ret;exact ⟨_,q,_,_,rfl,hE3,t1,by rw [Nat.add_comm]; exact t2⟩
 · go_enter Tryz.func151,Tryz.ntmps151
   by_cases h0:m=0
   · have HZ:Hid (x+y=x):=by
      show _=_;have h1:ys=[]:=List.eq_nil_of_length_eq_zero (by rw [HY.out,h0]);have h2:=NY.out.val;rw [h1] at h2;simp only [W.val] at h2;omega
     subst h0;go_wp2;go_ret;exact ⟨a,n,c,xs,rfl,Ext.refl w,hx,⟨NX.out.bnd,NX.out.nrm,by rw [NX.out.val,HZ.out]⟩⟩
   · have hb0:((m:Int) == 0)=false:=by simp; omega
     have hm0:0 < m:=by omega
     clear h0
     go_upto_region 6 with (at_make; refine wl_mk (n:=n+1) rfl rfl Tryz.underlying88 info_u64 rfl rfl rfl (by omega) (by unfold maxLen; omega) ?_; intro w1 hO1 hE1)
     have hA1:=(OwnN.of_zeros hO1).arr
     go_upto_region 7 with (refine wl_cp (sT:=88) rfl rfl Tryz.underlying88 info_u64 rfl rfl hA1 (hx.ext hE1) (by omega) (by simp) (u64_one _) ?_; intro w2 hB2 hg2)
     have hA2:ArrN .u64 w2 w.heap.size 143 (xs ++ List.replicate 1 0):=by
      rw [←show n+1 - xs.length=1 from by rw [HX.out]; omega];refine copied ?_;rw [HX.out];exact hB2
     have hE2:Ext w w2:=hE1.grownR hg2 (Nat.le_refl _);clear hO1 hE1 hA1 hB2 hg2
     go_wp2_with fail
     refine (int_addTail hx hy NX.out NY.out (by omega) hn hm0 (Nat.le_refl _) hE2 hA2).mono ?_;rintro e w3 ⟨rfl,hE3,zs,hz,bz,hv⟩
     go_wp2_with fail
     refine (int_trim hz.sl).mono ?_;rintro e w4 ⟨q,rfl,rfl,hq,ht⟩;obtain ⟨t1,t2⟩:=trim_num hz.sl hq ht bz hv;go_wp2;go_ret;exact ⟨_,q,_,_,rfl,hE3,t1,by exact t2⟩
theorem int_subtractWords {a b:Option Addr} {n c m d:Nat} {xs ys:List Nat} {x y:Nat} {w:World} (hx:SlN .u64 w a n c xs) (hy:SlN .u64 w b m d ys) (nx:Num 18446744073709551616 xs x) (ny:Num 18446744073709551616 ys y) (hn:n≤1000000) (hle:y≤x) :
 Calls Tryz.prog 152 #[.slice a n c, .slice b m d] w (RetN .u64 18446744073709551616 w (x - y)):=by
 have HX:=Lib.hid hx.len;have HY:=Lib.hid hy.len;have NX:=Lib.hid nx;have NY:=Lib.hid ny;have HLE:=Lib.hid hle;clear nx ny hle
 go_enter Tryz.func152,Tryz.ntmps152
 by_cases h0:m=0
 · have HZ:Hid (x - y=x):=by
    show _=_;have h1:ys=[]:=List.eq_nil_of_length_eq_zero (by rw [HY.out,h0]);have h2:=NY.out.val;rw [h1] at h2;simp only [W.val] at h2;omega
   subst h0;go_wp2;go_ret;exact ⟨a,n,c,xs,rfl,Ext.refl w,hx,⟨NX.out.bnd,NX.out.nrm,by rw [NX.out.val,HZ.out]⟩⟩
 · have hb0:((m:Int) == 0)=false:=by simp; omega
   have hm0:0 < m:=by omega
   have hmn:m≤n:=by
    refine Classical.byContradiction fun hc => ?_;have:=W.len_lt (B:=18446744073709551616) (by omega) NX.out.bnd NY.out.nrm (by rw [HX.out,HY.out]; omega);rw [NX.out.val,NY.out.val] at this;have:=HLE.out;omega
   clear h0
   go_wp2_with fail
   refine (cloneU hx hn (by omega)).mono ?_;rintro e w1 ⟨g,c1,rfl,hE1,hO1⟩;have hlo:=hO1.lo
   go_wp2_with fail
   refine (int_subtractFrom hO1 (hy.ext hE1) (Or.inr (hy.fresh hlo hm0)) NX.out.bnd NY.out.bnd hmn (by rw [NX.out.val,NY.out.val]; exact HLE.out)).mono ?_;rintro e w2 ⟨rfl,hg,zs,hz,bz,hv⟩;rw [NX.out.val,NY.out.val] at hv;have hE2:=hE1.grownR hg hlo
   go_wp2_with fail
   refine (int_trim hz.sl).mono ?_;rintro e w4 ⟨q,rfl,rfl,hq,ht⟩;obtain ⟨t1,t2⟩:=trim_num hz.sl hq ht bz hv;go_wp2;go_ret;exact ⟨_,q,_,_,rfl,hE2,t1,t2⟩
theorem zeros_at (n j:Nat):(List.replicate n 0).getD j 0=0:=by
 rw [List.getD_eq_getElem?_getD,List.getElem?_replicate];split <;> rfl
theorem mul_step {B:Nat} {zs zs':List Nat} {X V wd cy i n:Nat} (hj:i+n < zs'.length) (hz:W.val B zs=X*V) (h:W.val B zs'+cy*B^(i+n)=W.val B zs+wd*X*B^i) (h0:zs'.getD (i+n) 0=0) :
 W.val B (zs'.set (i+n) cy)=X*(V+B^i*wd):=by
 have h1:=W.val_set (B:=B) (xs:=zs') (i:=i+n) (v:=cy) hj;rw [h0] at h1;generalize W.val B (zs'.set (i+n) cy)=a at *
 generalize W.val B zs'=b at *
 generalize W.val B zs=d at *
 generalize B^(i+n)=p at *
 generalize B^i=q at *
 grind
def Src (w:World) (S:Nat→Prop) (a:Option Addr):Prop:=∀ g,blk a=some g→w.heap.size≤g∨S g
def SrcN (b:Nat) (S:Nat→Prop) (a:Option Addr) (n:Nat):Prop:=0 < n→∀ g,blk a=some g→b≤g∨S g
theorem SrcN.of {b b':Nat} {S S':Nat→Prop} {a:Option Addr} {n:Nat} (h:SrcN b S a n) (hb:b'≤b) (hS:∀ g,S g→b'≤g∨S' g):SrcN b' S' a n:=fun h0 g hg=>(h h0 g hg).elim (fun h=>Or.inl (Nat.le_trans hb h)) (hS g)
def RetNF (k:IntKind) (B:Nat) (w:World) (S:Nat→Prop) (v:Nat) (e:Ending) (w':World):Prop:=∃ a n c xs,e = .returned (.slice a n c)∧Ext w w'∧SlN k w' a n c xs∧Num B xs v∧Src w S a
theorem RetNF.plain {k:IntKind} {B:Nat} {w:World} {S:Nat→Prop} {v:Nat} {e:Ending} {w':World} (h:RetNF k B w S v e w'):RetN k B w v e w':=by
 obtain ⟨a,n,c,xs,h1,h2,h3,h4,_⟩:=h;exact ⟨a,n,c,xs,h1,h2,h3,h4⟩
theorem int_multiplyWordsF {a b:Option Addr} {n c m d:Nat} {xs ys:List Nat} {x y:Nat} {w:World} (hx:SlN .u64 w a n c xs) (hy:SlN .u64 w b m d ys) (nx:Num 18446744073709551616 xs x) (ny:Num 18446744073709551616 ys y) (hn:n≤1000000) (hm:m≤1000000) (hs40:n < 40∨m < 40) :
 Calls Tryz.prog 133 #[.slice a n c, .slice b m d] w (RetNF .u64 18446744073709551616 w (fun g=>blk a=some g∨blk b=some g) (x*y)):=by
 have HX:=Lib.hid hx.len;have HY:=Lib.hid hy.len;have NX:=Lib.hid nx;have NY:=Lib.hid ny;clear nx ny;by_cases hs:n < m
 · go_enter Tryz.func133,Tryz.ntmps133
   by_cases h0:n=0
   · have HZ:Hid (x*y=0):=by
      show _=_;have h1:xs=[]:=List.eq_nil_of_length_eq_zero (by rw [HX.out,h0]);have h2:=NX.out.val;rw [h1] at h2;simp only [W.val] at h2;rw [←h2];simp
     subst h0;go_wp2;go_ret;exact ⟨none,0,0,[],rfl,Ext.refl w,SlN.nil _ _,by rw [HZ.out]; exact Num.nil _,fun g h=>by cases h⟩
   · have hb0:((n:Int) == 0)=false:=by simp; omega
     have hm0:0 < n:=by omega
     obtain ⟨b0,o0,ha0,hc0⟩:=hx.at hm0;have g0:=hc0 0 hm0;rw [Nat.add_zero] at g0;by_cases h1:n=1∧xs.getD 0 0=1
     · have HZ:Hid (x*y=y):=by
        show _=_;have h2:=NX.out.val;obtain ⟨z,hz⟩:=List.length_eq_one_iff.1 (HX.out.trans h1.1);have h3:=h1.2;rw [hz] at h2 h3;simp [W.val] at h2 h3;subst h3;rw [←h2];simp
       have e1:=h1.1;rw [h1.2] at g0;subst e1;subst ha0;clear hc0;go_wp2;go_ret;exact ⟨b,m,d,ys,rfl,Ext.refl w,hy,⟨NY.out.bnd,NY.out.nrm,by rw [NY.out.val,HZ.out]⟩,fun g h=>Or.inr (Or.inr h)⟩
     · have hpick:(((n:Int) == 1)=false)∨(((n:Int) == 1)=true∧(((xs.getD 0 0:Nat):Int) == 1)=false):=by
        by_cases h2:n=1
        · exact Or.inr ⟨by simp [h2],beq_natF (b:=1) (fun h=>h1 ⟨h2,h⟩)⟩
        · exact Or.inl (by simp; omega)
       subst ha0;generalize xs.getD 0 0=y0 at *
       clear hc0 h1 h0;have h40:(n:Int) < 40:=by omega
       rcases hpick with hp | ⟨hp,hp2⟩
       all_goals
        go_upto_region 10 with (at_make; refine wl_mk (n:=m+n) rfl rfl Tryz.underlying88 info_u64 rfl rfl rfl (by omega) (by unfold maxLen; omega) ?_; intro w1 hO1 hE1)
        go_wp2
        go_loopw [55] (fun iv wr=>∃ (i:Nat) (zs:List Nat),iv = .int .i64 i∧i≤n∧Ext w wr∧OwnN .u64 wr w.heap.size 143 w.heap.size (m+n) (m+n) zs∧W.bnd 18446744073709551616 zs∧Hid (W.val 18446744073709551616 zs=y*W.val 18446744073709551616 (xs.take i))∧Hid (∀ j,i+m≤j→zs.getD j 0=0)) (fun iv _=>n - (intOf iv).toNat)
        case atStart=>exact ⟨0,List.replicate (m+n) 0,rfl,Nat.zero_le _,hE1,OwnN.of_zeros hO1,fun z hz=>by rw [(List.mem_replicate.1 hz).2]; omega,Lib.hid (by rw [W.val_zeros]; simp [W.val]),Lib.hid (fun j _=>zeros_at _ j)⟩
        case round =>
         clear hO1 hE1;obtain ⟨i,zs,rfl,hi,hE,hz,bz,HV,HJ⟩:=hrel;by_cases hlt:i < n
         · obtain ⟨b9,o9,e9,hc9⟩:=(hx.ext hE).at (j:=i) hlt;simp only [Option.some.injEq,Addr.mk.injEq,and_true] at e9;obtain ⟨rfl,rfl⟩:=e9;have g9:=hc9 i hlt;have hyi:=W.bnd_at NX.out.bnd (i:=i) (by rw [HX.out]; exact hlt);have HT:=Lib.hid (W.val_take_succ (B:=18446744073709551616) (xs:=xs) (i:=i) (by rw [HX.out]; exact hlt))
           have hsl:∀ wx:World,(Instr.sliceAt 88 (.slice (some ⟨w.heap.size,0,none⟩) (m+n) (m+n)) (some (.int .i64 i)) (some (.int .i64 ((i:Int)+m))) none).run Tryz.prog wx = .ok (.slice (some ⟨w.heap.size,i,none⟩) m (m+n - i)) wx:=fun wx=>by
            have:=run_slice_mid (P:=Tryz.prog) (w:=wx) (g:=w.heap.size) (n:=m+n) (c:=m+n) (lo:=i) (hi:=i+m) Tryz.underlying88 info_u64 (by omega) (by omega) (by omega);rw [Nat.add_sub_cancel_left,Int.natCast_add] at this;exact this
           have hwa:IntKind.i64.wrap ((i:Int)+m)=(i:Int)+m:=IntWalk.i64_in _ (by omega);generalize xs.getD i 0=wd at *
           have hp:=int_addProduct (w:=wr) (o:=i) (c':=m+n - i) hz (hy.ext hE) (Or.inr (hy.fresh (Nat.le_refl _) (by omega))) (by omega) bz NY.out.bnd hyi;clear hc9
           go_wp2_with fail
           refine hp.mono ?_;rintro e w2 ⟨cy,zs',rfl,hcy,hg2,hz2,bz2,hv2,hj2⟩;have hgc:=hz2.cell (i:=i+m) (by omega);have hgf:=hz2.frozen (i+m);have HS:=Lib.hid (mul_step (B:=18446744073709551616) (zs:=zs) (zs':=zs') (X:=y) (i:=i) (n:=m) (cy:=cy) (by rw [hz2.len]; omega) HV.out (by rw [←NY.out.val]; exact hv2) (by rw [hj2 _ (Nat.le_refl _)]; exact HJ.out _ (Nat.le_refl _)));have HJ2:Hid (∀ j,i+1+m≤j→(zs'.set (i+m) cy).getD j 0=0):=by
            show ∀ j,i+1+m≤j→(zs'.set (i+m) cy).getD j 0=0;intro j hj;have hne:¬ i+m=j:=by omega
            have h1:=hj2 j (by omega);rw [HJ.out j (by omega)] at h1;simpa [List.getD_eq_getElem?_getD,hne] using h1
           have hE2:=hE.grownR hg2 (Nat.le_refl _);have hto:((i:Int)+m).toNat=i+m:=by omega
           go_wp2;go_roundw
           case rel=>exact ⟨i+1,zs'.set (i+m) cy,by go_num,by omega,hE2.setCell (Nat.le_refl _) _,hz2.set (i+m) cy,W.bnd_set bz2 hcy,Lib.hid (by rw [HT.out]; exact HS.out),HJ2⟩
           case measure=>simp [intOf]; omega
         · have ei:i=n:=by omega
           have hv:W.val 18446744073709551616 zs=x*y:=by
            have h1:=HV.out;rw [ei,List.take_of_length_le (by rw [HX.out]; exact Nat.le_refl _),NX.out.val] at h1;rw [h1,Nat.mul_comm]
           go_wp2_with fail
           refine (int_trim hz.sl).mono ?_;rintro e w4 ⟨q,rfl,rfl,hq,ht⟩;obtain ⟨t1,t2⟩:=trim_num hz.sl hq ht bz hv;go_wp2;go_ret;exact ⟨_,q,_,_,rfl,hE,t1,t2,fun g h=>Or.inl (by cases h; exact Nat.le_refl _)⟩
 · go_enter Tryz.func133,Tryz.ntmps133
   by_cases h0:m=0
   · have HZ:Hid (x*y=0):=by
      show _=_;have h1:ys=[]:=List.eq_nil_of_length_eq_zero (by rw [HY.out,h0]);have h2:=NY.out.val;rw [h1] at h2;simp only [W.val] at h2;rw [←h2];simp
     subst h0;go_wp2;go_ret;exact ⟨none,0,0,[],rfl,Ext.refl w,SlN.nil _ _,by rw [HZ.out]; exact Num.nil _,fun g h=>by cases h⟩
   · have hb0:((m:Int) == 0)=false:=by simp; omega
     have hm0:0 < m:=by omega
     obtain ⟨b0,o0,ha0,hc0⟩:=hy.at hm0;have g0:=hc0 0 hm0;rw [Nat.add_zero] at g0;by_cases h1:m=1∧ys.getD 0 0=1
     · have HZ:Hid (x*y=x):=by
        show _=_;have h2:=NY.out.val;obtain ⟨z,hz⟩:=List.length_eq_one_iff.1 (HY.out.trans h1.1);have h3:=h1.2;rw [hz] at h2 h3;simp [W.val] at h2 h3;subst h3;rw [←h2];simp
       have e1:=h1.1;rw [h1.2] at g0;subst e1;subst ha0;clear hc0;go_wp2;go_ret;exact ⟨a,n,c,xs,rfl,Ext.refl w,hx,⟨NX.out.bnd,NX.out.nrm,by rw [NX.out.val,HZ.out]⟩,fun g h=>Or.inr (Or.inl h)⟩
     · have hpick:(((m:Int) == 1)=false)∨(((m:Int) == 1)=true∧(((ys.getD 0 0:Nat):Int) == 1)=false):=by
        by_cases h2:m=1
        · exact Or.inr ⟨by simp [h2],beq_natF (b:=1) (fun h=>h1 ⟨h2,h⟩)⟩
        · exact Or.inl (by simp; omega)
       subst ha0;generalize ys.getD 0 0=y0 at *
       clear hc0 h1 h0;have h40:(m:Int) < 40:=by omega
       rcases hpick with hp | ⟨hp,hp2⟩
       all_goals
        go_upto_region 10 with (at_make; refine wl_mk (n:=n+m) rfl rfl Tryz.underlying88 info_u64 rfl rfl rfl (by omega) (by unfold maxLen; omega) ?_; intro w1 hO1 hE1)
        go_wp2
        go_loopw [55] (fun iv wr=>∃ (i:Nat) (zs:List Nat),iv = .int .i64 i∧i≤m∧Ext w wr∧OwnN .u64 wr w.heap.size 143 w.heap.size (n+m) (n+m) zs∧W.bnd 18446744073709551616 zs∧Hid (W.val 18446744073709551616 zs=x*W.val 18446744073709551616 (ys.take i))∧Hid (∀ j,i+n≤j→zs.getD j 0=0)) (fun iv _=>m - (intOf iv).toNat)
        case atStart=>exact ⟨0,List.replicate (n+m) 0,rfl,Nat.zero_le _,hE1,OwnN.of_zeros hO1,fun z hz=>by rw [(List.mem_replicate.1 hz).2]; omega,Lib.hid (by rw [W.val_zeros]; simp [W.val]),Lib.hid (fun j _=>zeros_at _ j)⟩
        case round =>
         clear hO1 hE1;obtain ⟨i,zs,rfl,hi,hE,hz,bz,HV,HJ⟩:=hrel;by_cases hlt:i < m
         · obtain ⟨b9,o9,e9,hc9⟩:=(hy.ext hE).at (j:=i) hlt;simp only [Option.some.injEq,Addr.mk.injEq,and_true] at e9;obtain ⟨rfl,rfl⟩:=e9;have g9:=hc9 i hlt;have hyi:=W.bnd_at NY.out.bnd (i:=i) (by rw [HY.out]; exact hlt);have HT:=Lib.hid (W.val_take_succ (B:=18446744073709551616) (xs:=ys) (i:=i) (by rw [HY.out]; exact hlt))
           have hsl:∀ wx:World,(Instr.sliceAt 88 (.slice (some ⟨w.heap.size,0,none⟩) (n+m) (n+m)) (some (.int .i64 i)) (some (.int .i64 ((i:Int)+n))) none).run Tryz.prog wx = .ok (.slice (some ⟨w.heap.size,i,none⟩) n (n+m - i)) wx:=fun wx=>by
            have:=run_slice_mid (P:=Tryz.prog) (w:=wx) (g:=w.heap.size) (n:=n+m) (c:=n+m) (lo:=i) (hi:=i+n) Tryz.underlying88 info_u64 (by omega) (by omega) (by omega);rw [Nat.add_sub_cancel_left,Int.natCast_add] at this;exact this
           have hwa:IntKind.i64.wrap ((i:Int)+n)=(i:Int)+n:=IntWalk.i64_in _ (by omega);generalize ys.getD i 0=wd at *
           have hp:=int_addProduct (w:=wr) (o:=i) (c':=n+m - i) hz (hx.ext hE) (Or.inr (hx.fresh (Nat.le_refl _) (by omega))) (by omega) bz NX.out.bnd hyi;clear hc9
           go_wp2_with fail
           refine hp.mono ?_;rintro e w2 ⟨cy,zs',rfl,hcy,hg2,hz2,bz2,hv2,hj2⟩;have hgc:=hz2.cell (i:=i+n) (by omega);have hgf:=hz2.frozen (i+n);have HS:=Lib.hid (mul_step (B:=18446744073709551616) (zs:=zs) (zs':=zs') (X:=x) (i:=i) (n:=n) (cy:=cy) (by rw [hz2.len]; omega) HV.out (by rw [←NX.out.val]; exact hv2) (by rw [hj2 _ (Nat.le_refl _)]; exact HJ.out _ (Nat.le_refl _)));have HJ2:Hid (∀ j,i+1+n≤j→(zs'.set (i+n) cy).getD j 0=0):=by
            show ∀ j,i+1+n≤j→(zs'.set (i+n) cy).getD j 0=0;intro j hj;have hne:¬ i+n=j:=by omega
            have h1:=hj2 j (by omega);rw [HJ.out j (by omega)] at h1;simpa [List.getD_eq_getElem?_getD,hne] using h1
           have hE2:=hE.grownR hg2 (Nat.le_refl _);have hto:((i:Int)+n).toNat=i+n:=by omega
           go_wp2;go_roundw
           case rel=>exact ⟨i+1,zs'.set (i+n) cy,by go_num,by omega,hE2.setCell (Nat.le_refl _) _,hz2.set (i+n) cy,W.bnd_set bz2 hcy,Lib.hid (by rw [HT.out]; exact HS.out),HJ2⟩
           case measure=>simp [intOf]; omega
         · have ei:i=m:=by omega
           have hv:W.val 18446744073709551616 zs=x*y:=by
            have h1:=HV.out;rw [ei,List.take_of_length_le (by rw [HY.out]; exact Nat.le_refl _),NY.out.val] at h1;exact h1
           go_wp2_with fail
           refine (int_trim hz.sl).mono ?_;rintro e w4 ⟨q,rfl,rfl,hq,ht⟩;obtain ⟨t1,t2⟩:=trim_num hz.sl hq ht bz hv;go_wp2;go_ret;exact ⟨_,q,_,_,rfl,hE,t1,t2,fun g h=>Or.inl (by cases h; exact Nat.le_refl _)⟩
theorem int_multiplyWords {a b:Option Addr} {n c m d:Nat} {xs ys:List Nat} {x y:Nat} {w:World} (hx:SlN .u64 w a n c xs) (hy:SlN .u64 w b m d ys) (nx:Num 18446744073709551616 xs x) (ny:Num 18446744073709551616 ys y) (hn:n≤1000000) (hm:m≤1000000) (hs40:n < 40∨m < 40) :
 Calls Tryz.prog 133 #[.slice a n c, .slice b m d] w (RetN .u64 18446744073709551616 w (x*y)) :=
 (int_multiplyWordsF hx hy nx ny hn hm hs40).mono fun _ _ h=>h.plain
end Go.Proofs.YtlpgonpfjbhmfaaGreatDoor
