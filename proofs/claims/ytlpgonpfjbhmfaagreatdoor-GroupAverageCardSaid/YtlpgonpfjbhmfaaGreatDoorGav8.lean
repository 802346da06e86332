/- Part Gav8. -/
import Derived.Test.YtlpgonpfjbhmfaaGreatDoorGav7
import Derived.WalkSpells
import Derived.Deep.CutBlock
import Derived.Deep.DeepCutAuto
set_option maxRecDepth 100000
set_option maxHeartbeats 100000000
namespace Go.Proofs.YtlpgonpfjbhmfaaGreatDoor
open Tryz Go Go.RowKit
variable {l xs ys zs:List Nat} {B N base bytes c c' d g i m n o wd x y:Nat} {a b:Option Addr} {P:Program} {e t:TypeId} {z:Value} {w:World}
theorem Tr (hl:xs.length=ys.length) (hi:i < xs.length) (hd:xs.drop (i+1)=ys.drop (i+1)) (bx:W.bnd B xs) (hlt:xs.getD i 0 < ys.getD i 0):W.val B xs < W.val B ys:=by
 have e1:=W.val_split (B:=B) xs (i+1) (by omega);have e2:=W.val_split (B:=B) ys (i+1) (by omega);rw [W.val_take_succ hi] at e1;rw [W.val_take_succ (by omega)] at e2;have b1:=W.val_lt (W.bnd_take bx i);rw [List.length_take,Nat.min_eq_left (by omega)] at b1;rw [e1,e2,hd];have h1:B^i*(xs.getD i 0+1)≤B^i*ys.getD i 0:=Nat.mul_le_mul_left _ hlt;have h2:B^i*(xs.getD i 0+1)=B^i*xs.getD i 0+B^i:=by rw [Nat.mul_add,Nat.mul_one]
 omega
theorem MP {x y:Int} (h:x < y):Ba x y = -1:=by simp [Ba,h]
theorem MQ {x y:Int} (h:y < x):Ba x y=1:=by
 have:¬ x < y:=by omega
 simp [Ba,h,this]
theorem Uz (x:Int):Ba x x=0:=by simp [Ba]
theorem Qi (h:x≠y):(x < y∧Ba x y = -1)∨(y < x∧Ba x y=1):=by
 rcases Nat.lt_or_gt_of_ne h with h1 | h1
 · exact Or.inl ⟨h1,MP (by omega)⟩
 · exact Or.inr ⟨h1,MQ (by omega)⟩
theorem KP {a b:Nat} (h:a≠b):((a:Int) != (b:Int))=true:=by simp; omega
theorem Ts {a b:Nat} (h:a=b):((a:Int) != (b:Int))=false:=by simp [h]
theorem Hu {a b:Nat} (h:a≠b):((a:Int) == (b:Int))=false:=by simp; omega
theorem VB (x y:Int) (w:World):Calls prog 174 #[.int .u64 x, .int .u64 y] w fun e w'=>e = .returned (.int .i64 (Ba x y))∧Qt w w' :=
 (MN x y w).mono fun _ _ ⟨h1,h2⟩=>⟨h1,h2 ▸ Qt.refl _⟩
theorem Bi (hx:SlN .u64 w a n c xs) (hy:SlN .u64 w b m d ys) (nx:Num 18446744073709551616 xs x) (ny:Num 18446744073709551616 ys y) :
 Calls prog 135 #[.slice a n c, .slice b m d] w fun e w'=>e = .returned (.int .i64 (Ba x y))∧Qt w w':=by
 have HX:=Lib.hid hx.len;have HY:=Lib.hid hy.len;have hnn:=hx.le;have hmm:=hy.le;have NX:=Lib.hid nx;have NY:=Lib.hid ny;clear nx ny;by_cases hl:n=m
 · have hne:((n:Int) != (m:Int))=false:=by simp [hl]
   have HL:=Lib.hid hl;clear hl
   go_enter func135,ntmps135
   go_wp2
   go_loopw [5] (fun v wr=>∃ k:Nat,k≤n∧v = .int .i64 ((k:Int) - 1)∧Qt w wr∧Hid (xs.drop k=ys.drop k)) (fun v _=>(intOf v+1).toNat)
   case atStart=>exact ⟨n,lrf _,by go_num,Qt.refl _,Lib.hid (by rw [List.drop_of_length_le (by rw [HX.out]; exact lrf _),List.drop_of_length_le (by rw [HY.out,HL.out]; exact lrf _)])⟩
   case round =>
    obtain ⟨k,hk,rfl,hQ,HD⟩:=hrel;cases k with
    | zero =>
     have HE:Hid (x=y):=by
      have:=HD.out;rw [List.drop_zero,List.drop_zero] at this;show x=y;rw [←NX.out.val,←NY.out.val,this]
     go_wp2;go_ret;exact ⟨D0 (by rw [HE.out,Uz]),hQ⟩
    | succ k =>
     have hk2:k < m:=by have:=HL.out; omega
     obtain ⟨b1,o1,rfl,hc1⟩:=(hx.ext hQ.ext).at (j:=k) (by omega);obtain ⟨b2,o2,rfl,hc2⟩:=(hy.ext hQ.ext).at (j:=k) hk2;have g1:=hc1 k (by omega);have g2:=hc2 k hk2;have hw0:((k+1:Nat):Int) - 1=k:=by omega
     rw [hw0];by_cases he:xs.getD k 0=ys.getD k 0
     · have hb:(((xs.getD k 0:Nat):Int) != ((ys.getD k 0:Nat):Int))=false:=Ts he;have HD2:Hid (xs.drop k=ys.drop k):=by
        show _=_;rw [List.drop_eq_getElem_cons (l:=xs) (by rw [HX.out]; omega),List.drop_eq_getElem_cons (l:=ys) (by rw [HY.out]; exact hk2),HD.out];simp only [gqq,List.getElem?_eq_getElem (show k < xs.length by rw [HX.out]; omega),List.getElem?_eq_getElem (show k < ys.length by rw [HY.out]; exact hk2),Option.getD_some] at he;rw [he]
       generalize xs.getD k 0=u at *
       generalize ys.getD k 0=v at *
       clear he hc1 hc2;go_wp2
       go_quiet (fail)
       go_wp2;go_roundw
       case rel=>exact ⟨k,by omega,by go_num,hQ.drewN _,HD2⟩
       case measure=>simp [intOf]
     · have hb:(((xs.getD k 0:Nat):Int) != ((ys.getD k 0:Nat):Int))=true:=KP he;have HC:Hid (Ba x y=Ba ((xs.getD k 0:Nat):Int) ((ys.getD k 0:Nat):Int)):=by
        show _=_;rcases Qi he with ⟨h1,h2⟩ | ⟨h1,h2⟩
        · have:=Tr (B:=18446744073709551616) (by rw [HX.out,HY.out,HL.out]) (by rw [HX.out]; omega) HD.out NX.out.bnd h1;rw [NX.out.val,NY.out.val] at this;rw [h2,MP (by omega)]
        · have:=Tr (B:=18446744073709551616) (xs:=ys) (ys:=xs) (by rw [HX.out,HY.out,HL.out]) (by rw [HY.out]; omega) HD.out.symm NY.out.bnd h1;rw [NX.out.val,NY.out.val] at this;rw [h2,MQ (by omega)]
       generalize xs.getD k 0=u at *
       generalize ys.getD k 0=v at *
       clear he hc1 hc2;have hkn:(k:Int) < n:=by omega
       have hkm:(k:Int) < m:=by omega
       go_wp2
       go_quiet (fail)
       go_wp2;have g1q:(wr.drewN nq).cell? _=_:=g1;have g2q:(wr.drewN nq).cell? _=_:=g2;have hQq:=hQ.drewN nq;generalize wr.drewN nq=wq at *
       clear g1 g2
       go_quiet ((go_at_call 174; exact Calls.quiet_of (VB _ _ _)))
       go_wp2;go_ret;exact ⟨D0 HC.out,hQq.drewN _⟩
 · have hne:((n:Int) != (m:Int))=true:=by simp; omega
   have HC:Hid (Ba x y=Ba n m):=by
    show _=_;rcases Qi hl with ⟨h1,h2⟩ | ⟨h1,h2⟩
    · have:=W.len_lt (B:=18446744073709551616) (by omega) NX.out.bnd NY.out.nrm (by rw [HX.out,HY.out]; exact h1);rw [NX.out.val,NY.out.val] at this;rw [h2,MP (by omega)]
    · have:=W.len_lt (B:=18446744073709551616) (by omega) NY.out.bnd NX.out.nrm (by rw [HX.out,HY.out]; exact h1);rw [NX.out.val,NY.out.val] at this;rw [h2,MQ (by omega)]
   clear hl
   go_enter func135,ntmps135
   go_wp2_with fail
   refine (MO _ _ _).mono ?_;rintro e w1 ⟨rfl,rfl⟩;go_wp2;go_ret;exact ⟨D0 HC.out,Qt.refl _⟩
theorem UA:(x+y+c) % 18446744073709551616+18446744073709551616*((x+y+c) / 18446744073709551616)=x+y+c:=Nat.mod_add_div _ _
theorem Wi (hx:x < 18446744073709551616) (hy:y < 18446744073709551616) (hc:c≤1):(x+y+c) / 18446744073709551616≤1:=by omega
theorem Tt (hx:x < 18446744073709551616) (hy:y < 18446744073709551616) (hc:c≤1):(x+18446744073709551616 - y - c) % 18446744073709551616+y+c=x+18446744073709551616*(if x < y+c then 1 else 0):=by
 split <;> omega
theorem Rx:(if x < y+c then 1 else 0)≤1:=by split <;> omega
theorem Ot (hx:Az .u64 w base 143 g n c xs) (hy:SlN .u64 w b m d ys) (hne:blk b=none∨blk b≠some g) (bx:W.bnd 18446744073709551616 xs) (by_:W.bnd 18446744073709551616 ys) (hmn:m≤n) (hfit:W.val 18446744073709551616 xs+W.val 18446744073709551616 ys < 18446744073709551616^n) :
 Calls prog 172 #[.slice (some ⟨g,0,none⟩) n c, .slice b m d] w fun e w'=>e = .returned (.tuple #[])∧w.grownBy w' (some g)∧∃ zs,Az .u64 w' base 143 g n c zs∧W.bnd 18446744073709551616 zs∧W.val 18446744073709551616 zs=W.val 18446744073709551616 xs+W.val 18446744073709551616 ys:=by
 have HX:=Lib.hid hx.len;have HY:=Lib.hid hy.len;have hnn:=hx.le;have hmm:=hy.le;have BY:=Lib.hid by_;have HF:=Lib.hid hfit;clear by_ hfit
 go_enter func172,ntmps172
 go_wp2
 go_loopw [4,10] (fun cv iv wr=>∃ (k cy:Nat) (zs:List Nat),cv = .int .u64 cy∧iv = .int .i64 k∧k≤m∧cy≤1∧w.grownBy wr (some g)∧Az .u64 wr base 143 g n c zs∧W.bnd 18446744073709551616 zs∧Hid (W.val 18446744073709551616 zs+cy*18446744073709551616^k=W.val 18446744073709551616 xs+W.val 18446744073709551616 (ys.take k))) (fun _ iv _=>m - (intOf iv).toNat)
 case atStart=>exact ⟨0,0,xs,rfl,rfl,Nat.zero_le _,by omega,Dc _ _,hx,bx,Lib.hid (by simp [W.val])⟩
 case round =>
  obtain ⟨k,cy,zs,rfl,rfl,hk,hcy,hg,hz,bz,HE⟩:=hrel;by_cases hlt:k < m
  · obtain ⟨b1,o1,rfl,hc1⟩:=(hy.kept hg hne).at (j:=k) hlt;have g1:=hc1 k hlt;have g2:=hz.cell (i:=k) (by omega);have g3:=hz.frozen k;have hxk:=W.bnd_at bz (i:=k) (by rw [hz.len]; omega);have hyk:=W.bnd_at BY.out (i:=k) (by rw [HY.out]; exact hlt);have HS:=Lib.hid (W.add_step (B:=18446744073709551616) (l:=zs) (ys:=ys) (k:=k) (by rw [hz.len]; omega) (by rw [HY.out]; exact hlt) HE.out (UA (x:=zs.getD k 0) (y:=ys.getD k 0) (c:=cy)));have hadd:=BS (zs.getD k 0) (ys.getD k 0) cy hcy;have hC:=Wi hxk hyk hcy;have hkn:(k:Int) < n:=by omega
    generalize zs.getD k 0=u at *
    generalize ys.getD k 0=v at *
    have hs:(u+v+cy) % 18446744073709551616 < 18446744073709551616:=Nat.mod_lt _ (by omega);generalize (u+v+cy) % 18446744073709551616=s at *
    generalize (u+v+cy) / 18446744073709551616=c2 at *
    clear hc1;go_wp2;go_roundw
    case rel=>exact ⟨k+1,c2,zs.set k s,rfl,by go_num,by omega,hC,DL hg _ _,hz.set k s,W.bnd_set bz hs,HS⟩
    case measure=>simp [intOf]; omega
  · have ek:k=m:=by omega
    have HE2:Hid (W.val 18446744073709551616 zs+cy*18446744073709551616^m=W.val 18446744073709551616 xs+W.val 18446744073709551616 ys):=by
     have:=HE.out;rw [ek,List.take_of_length_le (by rw [HY.out]; exact lrf _)] at this;exact this
    clear HE ek;go_wp2
    go_loopw [4,7] (fun cv iv wr=>∃ (k cy:Nat) (zs:List Nat),cv = .int .u64 cy∧iv = .int .i64 k∧m≤k∧k≤n∧cy≤1∧w.grownBy wr (some g)∧Az .u64 wr base 143 g n c zs∧W.bnd 18446744073709551616 zs∧Hid (W.val 18446744073709551616 zs+cy*18446744073709551616^k=W.val 18446744073709551616 xs+W.val 18446744073709551616 ys)) (fun _ iv _=>n - (intOf iv).toNat)
    case atStart=>exact ⟨m,cy,zs,rfl,rfl,lrf _,hmn,hcy,hg,hz,bz,HE2⟩
    case round =>
     clear hg hz bz HE2 hlt hk hcy;obtain ⟨k,cy,zs,rfl,rfl,hk0,hk,hcy,hg,hz,bz,HE⟩:=hrel;have hcy2:cy=0∨cy=1:=by omega
     rcases hcy2 with rfl | rfl
     · go_wp2
       go_end0
       exact ⟨rfl,hg,zs,hz,bz,by have:=HE.out; rw [Nat.zero_mul,Nat.add_zero] at this; exact this⟩
     · by_cases hlt:k < n
       · have g2:=hz.cell (i:=k) hlt;have g3:=hz.frozen k;have hxk:=W.bnd_at bz (i:=k) (by rw [hz.len]; exact hlt);have HS:=Lib.hid (W.add_step0 (B:=18446744073709551616) (l:=zs) (k:=k) (s:=(zs.getD k 0+0+1) % 18446744073709551616) (c':=(zs.getD k 0+0+1) / 18446744073709551616) (by rw [hz.len]; exact hlt) HE.out (by rw [UA]))
         have hadd:∀ wx:World,(callFunc 203 #[.int .u64 ((zs.getD k 0:Nat):Int), .int .u64 0, .int .u64 1]).run prog wx = .ok (.value (.tuple #[.int .u64 (((zs.getD k 0+0+1) % 18446744073709551616:Nat):Int), .int .u64 (((zs.getD k 0+0+1) / 18446744073709551616:Nat):Int)])) wx:=fun wx=>BS (zs.getD k 0) 0 1 (by omega) wx;have hC:=Wi hxk (y:=0) (c:=1) (by omega) (by omega);have hs:(zs.getD k 0+0+1) % 18446744073709551616 < 18446744073709551616:=Nat.mod_lt _ (by omega);generalize (zs.getD k 0+0+1) % 18446744073709551616=s at *
         generalize (zs.getD k 0+0+1) / 18446744073709551616=c2 at *
         generalize zs.getD k 0=u at *
         go_wp2;go_roundw
         case rel=>exact ⟨k+1,c2,zs.set k s,rfl,by go_num,by omega,by omega,hC,DL hg _ _,hz.set k s,W.bnd_set bz hs,HS⟩
         case measure=>simp [intOf]; omega
       · exfalso;have ek:k=n:=by omega
         have h1:=HE.out;have h2:=HF.out;rw [ek] at h1;omega
theorem Cd {lo hi:Nat} (ht:P.underlying t=some (.slice e)) (hinfo:Bh P e z bytes) (h1:lo≤hi) (h2:hi≤c) (h3:lo < c) :
 (Instr.sliceAt t (.slice (some ⟨g,0,none⟩) n c) (some (.int .i64 lo)) (some (.int .i64 hi)) none).run P w = .ok (.slice (some ⟨g,lo,none⟩) (hi - lo) (c - lo)) w:=by
 obtain ⟨i,hii,hz,hsize,hby⟩:=info_parts hinfo;have e0:¬ c=lo:=by omega
 have e1:Addr.add ⟨g,0,none⟩ lo=⟨g,lo,none⟩:=by
  unfold Addr.add;by_cases h0:lo=0 <;> simp [h0]
 have k1:(lo:Int)≤hi:=by omega
 have k2:(hi:Int)≤c:=by omega
 simp [Instr.sliceAt,Instr.slice,Instr.sliceBounds,Instr.sliceBound,run_underlying ht,asIntOf,sizeOf,typeInfo,hii,hsize,h1,h2,e0,e1]
theorem Wj (hx:x < 18446744073709551616):(x+18446744073709551616 - 0 - 1) % 18446744073709551616+1=x+18446744073709551616*(if x < 0+1 then 1 else 0):=by
 split <;> omega
theorem EA (hx:Az .u64 w base 143 g n c xs) (hy:SlN .u64 w b m d ys) (hne:blk b=none∨blk b≠some g) (bx:W.bnd 18446744073709551616 xs) (by_:W.bnd 18446744073709551616 ys) (hmn:m≤n) (hfit:W.val 18446744073709551616 ys≤W.val 18446744073709551616 xs) :
 Calls prog 182 #[.slice (some ⟨g,0,none⟩) n c, .slice b m d] w fun e w'=>e = .returned (.tuple #[])∧w.grownBy w' (some g)∧∃ zs,Az .u64 w' base 143 g n c zs∧W.bnd 18446744073709551616 zs∧W.val 18446744073709551616 zs=W.val 18446744073709551616 xs - W.val 18446744073709551616 ys:=by
 have HX:=Lib.hid hx.len;have HY:=Lib.hid hy.len;have hnn:=hx.le;have hmm:=hy.le;have BY:=Lib.hid by_;have HF:=Lib.hid hfit;clear by_ hfit
 go_enter func182,ntmps182
 go_wp2
 go_loopw [4,10] (fun cv iv wr=>∃ (k cy:Nat) (zs:List Nat),cv = .int .u64 cy∧iv = .int .i64 k∧k≤m∧cy≤1∧w.grownBy wr (some g)∧Az .u64 wr base 143 g n c zs∧W.bnd 18446744073709551616 zs∧Hid (W.val 18446744073709551616 zs+W.val 18446744073709551616 (ys.take k)=W.val 18446744073709551616 xs+cy*18446744073709551616^k)) (fun _ iv _=>m - (intOf iv).toNat)
 case atStart=>exact ⟨0,0,xs,rfl,rfl,Nat.zero_le _,by omega,Dc _ _,hx,bx,Lib.hid (by simp [W.val])⟩
 case round =>
  obtain ⟨k,cy,zs,rfl,rfl,hk,hcy,hg,hz,bz,HE⟩:=hrel;by_cases hlt:k < m
  · obtain ⟨b1,o1,rfl,hc1⟩:=(hy.kept hg hne).at (j:=k) hlt;have g1:=hc1 k hlt;have g2:=hz.cell (i:=k) (by omega);have g3:=hz.frozen k;have hxk:=W.bnd_at bz (i:=k) (by rw [hz.len]; omega);have hyk:=W.bnd_at BY.out (i:=k) (by rw [HY.out]; exact hlt);have HS:=Lib.hid (W.sub_step (B:=18446744073709551616) (l:=zs) (ys:=ys) (k:=k) (by rw [hz.len]; omega) (by rw [HY.out]; exact hlt) HE.out (Tt (x:=zs.getD k 0) (y:=ys.getD k 0) (c:=cy) hxk hyk hcy));have hadd:=Dd (zs.getD k 0) (ys.getD k 0) cy hcy;have hC:=Rx (x:=zs.getD k 0) (y:=ys.getD k 0) (c:=cy);have hkn:(k:Int) < n:=by omega
    generalize zs.getD k 0=u at *
    generalize ys.getD k 0=v at *
    have hs:(u+18446744073709551616 - v - cy) % 18446744073709551616 < 18446744073709551616:=Nat.mod_lt _ (by omega);generalize (u+18446744073709551616 - v - cy) % 18446744073709551616=s at *
    generalize (if u < v+cy then 1 else 0)=c2 at *
    clear hc1;go_wp2;go_roundw
    case rel=>exact ⟨k+1,c2,zs.set k s,rfl,by go_num,by omega,hC,DL hg _ _,hz.set k s,W.bnd_set bz hs,HS⟩
    case measure=>simp [intOf]; omega
  · have ek:k=m:=by omega
    have HE2:Hid (W.val 18446744073709551616 zs=(W.val 18446744073709551616 xs - W.val 18446744073709551616 ys)+cy*18446744073709551616^m):=by
     have:=HE.out;rw [ek,List.take_of_length_le (by rw [HY.out]; exact lrf _)] at this;have h2:=HF.out;show _=_;omega
    clear HE ek;go_wp2
    go_loopw [4,7] (fun cv iv wr=>∃ (k cy:Nat) (zs:List Nat),cv = .int .u64 cy∧iv = .int .i64 k∧m≤k∧k≤n∧cy≤1∧w.grownBy wr (some g)∧Az .u64 wr base 143 g n c zs∧W.bnd 18446744073709551616 zs∧Hid (W.val 18446744073709551616 zs=(W.val 18446744073709551616 xs - W.val 18446744073709551616 ys)+cy*18446744073709551616^k)) (fun _ iv _=>n - (intOf iv).toNat)
    case atStart=>exact ⟨m,cy,zs,rfl,rfl,lrf _,hmn,hcy,hg,hz,bz,HE2⟩
    case round =>
     clear hg hz bz HE2 hlt hk hcy;obtain ⟨k,cy,zs,rfl,rfl,hk0,hk,hcy,hg,hz,bz,HE⟩:=hrel;have hcy2:cy=0∨cy=1:=by omega
     rcases hcy2 with rfl | rfl
     · go_wp2
       go_end0
       exact ⟨rfl,hg,zs,hz,bz,by have:=HE.out; rw [Nat.zero_mul,Nat.add_zero] at this; exact this⟩
     · by_cases hlt:k < n
       · have g2:=hz.cell (i:=k) hlt;have g3:=hz.frozen k;have hxk:=W.bnd_at bz (i:=k) (by rw [hz.len]; exact hlt);have HS:=Lib.hid (W.sub_step0 (B:=18446744073709551616) (l:=zs) (k:=k) (s:=(zs.getD k 0+18446744073709551616 - 0 - 1) % 18446744073709551616) (c':=if zs.getD k 0 < 0+1 then 1 else 0) (by rw [hz.len]; exact hlt) HE.out (Wj hxk))
         have hadd:∀ wx:World,(callFunc 179 #[.int .u64 ((zs.getD k 0:Nat):Int), .int .u64 0, .int .u64 1]).run prog wx = .ok (.value (.tuple #[.int .u64 (((zs.getD k 0+18446744073709551616 - 0 - 1) % 18446744073709551616:Nat):Int), .int .u64 ((if zs.getD k 0 < 0+1 then 1 else 0:Nat):Int)])) wx:=fun wx=>Dd (zs.getD k 0) 0 1 (by omega) wx;have hC:=Rx (x:=zs.getD k 0) (y:=0) (c:=1);have hs:(zs.getD k 0+18446744073709551616 - 0 - 1) % 18446744073709551616 < 18446744073709551616:=Nat.mod_lt _ (by omega)
         generalize (zs.getD k 0+18446744073709551616 - 0 - 1) % 18446744073709551616=s at *
         generalize (if zs.getD k 0 < 0+1 then 1 else 0)=c2 at *
         generalize zs.getD k 0=u at *
         go_wp2;go_roundw
         case rel=>exact ⟨k+1,c2,zs.set k s,rfl,by go_num,by omega,by omega,hC,DL hg _ _,hz.set k s,W.bnd_set bz hs,HS⟩
         case measure=>simp [intOf]; omega
       · exfalso;have ek:k=n:=by omega
         have h1:=HE.out;have h2:=W.val_lt bz;rw [hz.len] at h2;rw [ek] at h1;omega
theorem Tu (hx:SlN .u64 w a n c xs) (hn:n≤1000000) (h0:0 < n) :
 Calls prog 136 #[.slice a n c] w (fun e w'=>∃ g c',e = .returned (.slice (some ⟨g,0,none⟩) n c')∧Ext w w'∧Az .u64 w' w.heap.size 143 g n c' xs):=by
 obtain ⟨b,o,rfl,_⟩:=hx.at h0;have heq:=fun w':World=>Lib.run_eql_slice_nil (P:=prog) w' 88 143 (some ⟨b,o,none⟩) n c 0 0 underlying88
 go_enter func136,ntmps136
 go_upto_region 3 with (fail)
 have hA:Ext w (w.alloc (.cells #[] 143)):=(Ext.refl w).alloc _;have hO:=Au w w.heap.size 143 #[] 0 rfl (lrf _) (by omega);have h1c:∀ u∈xs.map (BO .u64),u.oneCell'=true:=by
  intro u hu;obtain ⟨x,_,rfl⟩:=List.mem_map.1 hu;rfl
 go_wp2_with (refine Bw rfl rfl underlying88 Ay rfl rfl hO rfl (hx.ext hA) h1c (by unfold maxLen; omega) (by omega) (by simp) ?_; intro a1 c1 w1 hO1 hg1 hb1)
 go_ret;have hO2:Own w1 w.heap.size 143 a1 n c1 (xs.map (BO .u64)):=by simpa using hO1
 obtain ⟨g,rfl,_,_⟩:=hO2.place h0;exact ⟨g,c1,rfl,hA.grown hg1 (fun k hk=>(hO.lt hk).1),hO2⟩
theorem wrap_u64 {x:Int} (h0:0≤x) (h1:x < 18446744073709551616):IntKind.u64.wrap x=x:=by
 rw [IntKind.wrap_u64];exact Int.emod_eq_of_lt h0 h1
theorem Jj (hx:x < 18446744073709551616) (hy:y < 18446744073709551616) (w:World):Calls prog 204 #[.int .u64 x, .int .u64 y] w fun e w'=>e = .returned (.tuple #[.int .u64 ((x*y / 18446744073709551616:Nat):Int), .int .u64 ((x*y % 18446744073709551616:Nat):Int)])∧w'=w:=Any.bits_Mul64 VA x y hx hy w
theorem LQ {V k s w:Nat} (hk:o+k < l.length) (hx:k < xs.length) (h:W.val B l+c*B^(o+k)=V+w*W.val B (xs.take k)*B^o) (e:s+B*c'=l.getD (o+k) 0+xs.getD k 0*w+c) :
 W.val B (l.set (o+k) s)+c'*B^(o+(k+1))=V+w*W.val B (xs.take (k+1))*B^o:=by
 have h1:=W.val_set (B:=B) (xs:=l) (i:=o+k) (v:=s) hk;have h2:=W.val_take_succ (B:=B) hx;rw [h2,←Nat.add_assoc,Nat.pow_succ];have h3:B^(o+k)=B^o*B^k:=Nat.pow_add _ _ _;rw [h3] at h h1 ⊢;generalize l.getD (o+k) 0=x at *
 generalize xs.getD k 0=y at *
 generalize W.val B (l.set (o+k) s)=a at *
 generalize W.val B l=b at *
 generalize W.val B (xs.take k)=d at *
 generalize B^k=p at *
 generalize B^o=q at *
 grind
theorem Tv {z u cy:Nat} (hz:z < 18446744073709551616) (hu:u < 18446744073709551616) (hw:wd < 18446744073709551616) (hc:cy < 18446744073709551616) :
 u*wd / 18446744073709551616+(u*wd % 18446744073709551616+cy+0) / 18446744073709551616 < 18446744073709551616∧u*wd / 18446744073709551616+(u*wd % 18446744073709551616+cy+0) / 18446744073709551616+(z+(u*wd % 18446744073709551616+cy+0) % 18446744073709551616+0) / 18446744073709551616 < 18446744073709551616 ∧
 (z+(u*wd % 18446744073709551616+cy+0) % 18446744073709551616+0) % 18446744073709551616+18446744073709551616*(u*wd / 18446744073709551616+(u*wd % 18446744073709551616+cy+0) / 18446744073709551616+(z+(u*wd % 18446744073709551616+cy+0) % 18446744073709551616+0) / 18446744073709551616)=z+u*wd+cy:=by
 have:u*wd≤18446744073709551615*18446744073709551615:=Nat.mul_le_mul (by omega) (by omega);generalize u * wd=p at *
 omega
theorem CY {C:Nat} (hz:Az .u64 w base 143 g N C zs) (hx:SlN .u64 w a n d xs) (hne:blk a=none∨blk a≠some g) (ho:o+n≤N) (bz:W.bnd 18446744073709551616 zs) (bx:W.bnd 18446744073709551616 xs) (hw:wd < 18446744073709551616) :
 Calls prog 170 #[.slice (some ⟨g,o,none⟩) n c', .slice a n d, .int .u64 wd] w fun e w'=>∃ (cy:Nat) (zs':List Nat),e = .returned (.int .u64 cy)∧cy < 18446744073709551616∧w.grownBy w' (some g)∧Az .u64 w' base 143 g N C zs'∧W.bnd 18446744073709551616 zs'∧W.val 18446744073709551616 zs'+cy*18446744073709551616^(o+n)=W.val 18446744073709551616 zs+wd*W.val 18446744073709551616 xs*18446744073709551616^o∧(∀ j,o+n≤j→zs'.getD j 0=zs.getD j 0):=by
 have HZ:=Lib.hid hz.len;have HX:=Lib.hid hx.len;have hnn:=hx.le;have BX:=Lib.hid bx;clear bx
 go_enter func170,ntmps170
 go_wp2
 go_loopw [7,16] (fun cv iv wr=>∃ (k cy:Nat) (ls:List Nat),cv = .int .u64 cy∧iv = .int .i64 k∧k≤n∧cy < 18446744073709551616∧w.grownBy wr (some g)∧Az .u64 wr base 143 g N C ls∧W.bnd 18446744073709551616 ls∧Hid (W.val 18446744073709551616 ls+cy*18446744073709551616^(o+k)=W.val 18446744073709551616 zs+wd*W.val 18446744073709551616 (xs.take k)*18446744073709551616^o)∧Hid (∀ j,o+n≤j→ls.getD j 0=zs.getD j 0)) (fun _ iv _=>n - (intOf iv).toNat)
 case atStart=>exact ⟨0,0,zs,rfl,rfl,Nat.zero_le _,by omega,Dc _ _,hz,bz,Lib.hid (by simp [W.val]),Lib.hid (fun _ _=>rfl)⟩
 case round =>
  clear hz bz;obtain ⟨k,cy,ls,rfl,rfl,hk,hcy,hg,hl,bl,HE,HJ⟩:=hrel;by_cases hlt:k < n
  · obtain ⟨b1,o1,rfl,hc1⟩:=(hx.kept hg hne).at (j:=k) hlt;have g1:=hc1 k hlt;have g2:=hl.cell (i:=o+k) (by omega);have g3:=hl.frozen (o+k);have hzk:=W.bnd_at bl (i:=o+k) (by rw [hl.len]; omega);have hxk:=W.bnd_at BX.out (i:=k) (by rw [HX.out]; exact hlt);obtain ⟨m1,m2,m3⟩:=Tv hzk hxk hw hcy;have HS:=Lib.hid (LQ (B:=18446744073709551616) (l:=ls) (xs:=xs) (k:=k) (o:=o) (w:=wd) (by rw [hl.len]; omega) (by rw [HX.out]; exact hlt) HE.out m3);have hkn:(k:Int) < n:=by omega
    have HJ2:Hid (∀ s j,o+n≤j→(ls.set (o+k) s).getD j 0=zs.getD j 0):=by
     show ∀ s j,o+n≤j→(ls.set (o+k) s).getD j 0=zs.getD j 0;intro s j hj;rw [←HJ.out j hj];have hne:¬ o+k=j:=by omega
     simp [hne]
    generalize ls.getD (o+k) 0=z at *
    generalize xs.getD k 0=u at *
    have hmul:=Jj hxk hw;have hadd1:∀ wx:World,(callFunc 203 #[.int .u64 ((u*wd % 18446744073709551616:Nat):Int), .int .u64 (cy:Int), .int .u64 0]).run prog wx = .ok (.value (.tuple #[.int .u64 (((u*wd % 18446744073709551616+cy+0) % 18446744073709551616:Nat):Int), .int .u64 (((u*wd % 18446744073709551616+cy+0) / 18446744073709551616:Nat):Int)])) wx:=fun wx=>BS (u*wd % 18446744073709551616) cy 0 (by omega) wx;generalize u * wd / 18446744073709551616=ph at *
    generalize u * wd % 18446744073709551616=pl at *
    generalize hs1:(pl+cy+0) % 18446744073709551616=s1 at *
    generalize hc1':(pl+cy+0) / 18446744073709551616=c1 at *
    have hadd2:∀ wx:World,(callFunc 203 #[.int .u64 (z:Int), .int .u64 (s1:Int), .int .u64 0]).run prog wx = .ok (.value (.tuple #[.int .u64 (((z+s1+0) % 18446744073709551616:Nat):Int), .int .u64 (((z+s1+0) / 18446744073709551616:Nat):Int)])) wx:=fun wx=>BS z s1 0 (by omega) wx;have hs2:(z+s1+0) % 18446744073709551616 < 18446744073709551616:=Nat.mod_lt _ (by omega);generalize (z+s1+0) % 18446744073709551616=s2 at *
    generalize (z+s1+0) / 18446744073709551616=c2 at *
    have hw1:IntKind.u64.wrap ((ph:Int)+c1)=((ph+c1:Nat):Int):=by rw [wrap_u64 (by omega) (by omega)]; omega
    have hw2:IntKind.u64.wrap (((ph+c1:Nat):Int)+c2)=((ph+c1+c2:Nat):Int):=by rw [wrap_u64 (by omega) (by omega)]; omega
    have hw3:IntKind.u64.wrap ((ph:Int)+(c1:Int)+c2)=((ph+c1+c2:Nat):Int):=by rw [wrap_u64 (by omega) (by omega)]; omega
    clear hc1 hs1 hc1' m3
    go_wp2_with (go_at_call 204; refine (hmul _).mono ?_; rintro e w1 ⟨rfl,rfl⟩)
    go_roundw
    case rel=>exact ⟨k+1,ph+c1+c2,ls.set (o+k) s2,by first | rfl | go_num,by go_num,by omega,m2,DL hg _ _,hl.set (o+k) s2,W.bnd_set bl hs2,HS,Lib.hid (HJ2.out s2)⟩
    case measure=>simp [intOf]; omega
  · have ek:k=n:=by omega
    go_wp2;go_ret;have h1:=HE.out;rw [ek,List.take_of_length_le (by rw [HX.out]; exact lrf _)] at h1;exact ⟨cy,ls,rfl,hcy,hg,hl,bl,h1,HJ.out⟩
theorem Jk (xs:List Nat):∀ v∈xs.map (BO .u64),v.oneCell'=true:=by
 intro u hu;obtain ⟨x,_,rfl⟩:=List.mem_map.1 hu;rfl
theorem Hv (B:Nat) (xs:List Nat) (n:Nat):W.val B (xs ++ List.replicate n 0)=W.val B xs:=by
 rw [W.val_app,W.val_zeros];simp
theorem Jl (hB:0 < B) {xs:List Nat} (h:W.bnd B xs) (n:Nat):W.bnd B (xs ++ List.replicate n 0):=by
 refine W.bnd_app h ?_;intro x hx;rw [(List.mem_replicate.1 hx).2];exact hB
theorem Pi (h:Arr w g t ((List.map (BO .u64) (List.replicate N 0)).take 0 ++ xs.map (BO .u64) ++ (List.map (BO .u64) (List.replicate N 0)).drop (0+xs.length))):BT .u64 w g t (xs ++ List.replicate (N - xs.length) 0):=by
 unfold BT;rw [List.map_append];simpa using h
theorem IP (hx:SlN .u64 w a n c xs) (hy:SlN .u64 w b m d ys) (nx:Num 18446744073709551616 xs x) (ny:Num 18446744073709551616 ys y) (hmn:m≤n) (hn:n≤1000000) (h0:0 < m) {w1:World} {g:Nat} (hg0:w.heap.size≤g) (hE1:Ext w w1) (hA1:BT .u64 w1 g 143 (xs ++ List.replicate 1 0)) :
 Calls prog 172 #[.slice (some ⟨g,0,none⟩) (n+1) (n+1), .slice b m d] w1 fun e w'=>e = .returned (.tuple #[])∧Ext w w'∧∃ zs,Az .u64 w' w.heap.size 143 g (n+1) (n+1) zs∧W.bnd 18446744073709551616 zs∧W.val 18446744073709551616 zs=x+y:=by
 have hl:(xs ++ List.replicate 1 0).length=n+1:=by simp [hx.len]
 have hO:Az .u64 w1 w.heap.size 143 g (n+1) (n+1) (xs ++ List.replicate 1 0):=by
  have:=BT.own hA1 hg0 (by rw [hl]; unfold maxLen; omega);rw [hl] at this;exact this
 have hv:W.val 18446744073709551616 (xs ++ List.replicate 1 0)=x:=by rw [Hv,nx.val]
 refine (Ot hO (hy.ext hE1) (Or.inr (hy.fresh hg0 h0)) (Jl (by omega) nx.bnd 1) ny.bnd (by omega) ?_).mono ?_
 · have h1:=W.val_lt nx.bnd;have h2:=W.val_lt ny.bnd;rw [hx.len] at h1;rw [hy.len] at h2;have h3:18446744073709551616^m≤18446744073709551616^n:=Nat.pow_le_pow_right (by omega) hmn;have h4:18446744073709551616^(n+1)=18446744073709551616^n*18446744073709551616:=Nat.pow_succ _ _;rw [Hv];omega
 · rintro e w2 ⟨rfl,hg,zs,hz,bz,hvz⟩;exact ⟨rfl,hE1.grownR hg hg0,zs,hz,bz,by rw [hvz,hv,ny.val]⟩
theorem MR (hx:SlN .u64 w a n c xs) (hy:SlN .u64 w b m d ys) (nx:Num 18446744073709551616 xs x) (ny:Num 18446744073709551616 ys y) (hn:n≤1000000) (hm:m≤1000000) :
 Calls prog 151 #[.slice a n c, .slice b m d] w (Iv .u64 18446744073709551616 w (x+y)):=by
 have HX:=Lib.hid hx.len;have HY:=Lib.hid hy.len;have NX:=Lib.hid nx;have NY:=Lib.hid ny;clear nx ny;by_cases hs:n < m
 · go_enter func151,ntmps151
   by_cases h0:n=0
   · have HZ:Hid (x+y=y):=by
      show _=_;have h1:xs=[]:=List.eq_nil_of_length_eq_zero (by rw [HX.out,h0]);have h2:=NX.out.val;rw [h1] at h2;simp only [W.val] at h2;omega
     subst h0;go_wp2;go_ret;exact ⟨b,m,d,ys,rfl,Ext.refl w,hy,⟨NY.out.bnd,NY.out.nrm,by rw [NY.out.val,HZ.out]⟩⟩
   · have hb0:((n:Int) == 0)=false:=by simp; omega
     have hm0:0 < n:=by omega
     clear h0
     go_upto_region 6 with (at_make; refine Eg (n:=m+1) rfl rfl underlying88 Ay rfl rfl rfl (by omega) (by unfold maxLen; omega) ?_; intro w1 hO1 hE1)
     have hA1:=(Az.of_zeros hO1).arr
     go_upto_region 7 with (refine Ka (sT:=88) rfl rfl underlying88 Ay rfl rfl hA1 (hy.ext hE1) (by omega) (by simp) (Jk _) ?_; intro w2 hB2 hg2)
     have hA2:BT .u64 w2 w.heap.size 143 (ys ++ List.replicate 1 0):=by
      rw [←show m+1 - ys.length=1 from by rw [HY.out]; omega];refine Pi ?_;rw [HY.out];exact hB2
     have hE2:Ext w w2:=hE1.grownR hg2 (lrf _);clear hO1 hE1 hA1 hB2 hg2
     go_wp2_with fail
     refine (IP hy hx NY.out NX.out (by omega) hm hm0 (lrf _) hE2 hA2).mono ?_;rintro e w3 ⟨rfl,hE3,zs,hz,bz,hv⟩
     go_wp2_with fail
     refine (Bl hz.sl).mono ?_;rintro e w4 ⟨q,rfl,rfl,hq,ht⟩;obtain ⟨t1,t2⟩:=BF hz.sl hq ht bz hv;go_wp2;go_ret;exact ⟨_,q,_,_,rfl,hE3,t1,by rw [Nat.add_comm]; exact t2⟩
 · go_enter func151,ntmps151
   by_cases h0:m=0
   · have HZ:Hid (x+y=x):=by
      show _=_;have h1:ys=[]:=List.eq_nil_of_length_eq_zero (by rw [HY.out,h0]);have h2:=NY.out.val;rw [h1] at h2;simp only [W.val] at h2;omega
     subst h0;go_wp2;go_ret;exact ⟨a,n,c,xs,rfl,Ext.refl w,hx,⟨NX.out.bnd,NX.out.nrm,by rw [NX.out.val,HZ.out]⟩⟩
   · have hb0:((m:Int) == 0)=false:=by simp; omega
     have hm0:0 < m:=by omega
     clear h0
     go_upto_region 6 with (at_make; refine Eg (n:=n+1) rfl rfl underlying88 Ay rfl rfl rfl (by omega) (by unfold maxLen; omega) ?_; intro w1 hO1 hE1)
     have hA1:=(Az.of_zeros hO1).arr
     go_upto_region 7 with (refine Ka (sT:=88) rfl rfl underlying88 Ay rfl rfl hA1 (hx.ext hE1) (by omega) (by simp) (Jk _) ?_; intro w2 hB2 hg2)
     have hA2:BT .u64 w2 w.heap.size 143 (xs ++ List.replicate 1 0):=by
      rw [←show n+1 - xs.length=1 from by rw [HX.out]; omega];refine Pi ?_;rw [HX.out];exact hB2
     have hE2:Ext w w2:=hE1.grownR hg2 (lrf _);clear hO1 hE1 hA1 hB2 hg2
     go_wp2_with fail
     refine (IP hx hy NX.out NY.out (by omega) hn hm0 (lrf _) hE2 hA2).mono ?_;rintro e w3 ⟨rfl,hE3,zs,hz,bz,hv⟩
     go_wp2_with fail
     refine (Bl hz.sl).mono ?_;rintro e w4 ⟨q,rfl,rfl,hq,ht⟩;obtain ⟨t1,t2⟩:=BF hz.sl hq ht bz hv;go_wp2;go_ret;exact ⟨_,q,_,_,rfl,hE3,t1,by exact t2⟩
theorem Hw (hx:SlN .u64 w a n c xs) (hy:SlN .u64 w b m d ys) (nx:Num 18446744073709551616 xs x) (ny:Num 18446744073709551616 ys y) (hn:n≤1000000) (hle:y≤x) :
 Calls prog 152 #[.slice a n c, .slice b m d] w (Iv .u64 18446744073709551616 w (x - y)):=by
 have HX:=Lib.hid hx.len;have HY:=Lib.hid hy.len;have NX:=Lib.hid nx;have NY:=Lib.hid ny;have HLE:=Lib.hid hle;clear nx ny hle
 go_enter func152,ntmps152
 by_cases h0:m=0
 · have HZ:Hid (x - y=x):=by
    show _=_;have h1:ys=[]:=List.eq_nil_of_length_eq_zero (by rw [HY.out,h0]);have h2:=NY.out.val;rw [h1] at h2;simp only [W.val] at h2;omega
   subst h0;go_wp2;go_ret;exact ⟨a,n,c,xs,rfl,Ext.refl w,hx,⟨NX.out.bnd,NX.out.nrm,by rw [NX.out.val,HZ.out]⟩⟩
 · have hb0:((m:Int) == 0)=false:=by simp; omega
   have hm0:0 < m:=by omega
   have hmn:m≤n:=by
    refine Classical.byContradiction fun hc => ?_;have:=W.len_lt (B:=18446744073709551616) (by omega) NX.out.bnd NY.out.nrm (by rw [HX.out,HY.out]; omega);rw [NX.out.val,NY.out.val] at this;have:=HLE.out;omega
   clear h0
   go_wp2_with fail
   refine (Tu hx hn (by omega)).mono ?_;rintro e w1 ⟨g,c1,rfl,hE1,hO1⟩;have hlo:=hO1.lo
   go_wp2_with fail
   refine (EA hO1 (hy.ext hE1) (Or.inr (hy.fresh hlo hm0)) NX.out.bnd NY.out.bnd hmn (by rw [NX.out.val,NY.out.val]; exact HLE.out)).mono ?_;rintro e w2 ⟨rfl,hg,zs,hz,bz,hv⟩;rw [NX.out.val,NY.out.val] at hv;have hE2:=hE1.grownR hg hlo
   go_wp2_with fail
   refine (Bl hz.sl).mono ?_;rintro e w4 ⟨q,rfl,rfl,hq,ht⟩;obtain ⟨t1,t2⟩:=BF hz.sl hq ht bz hv;go_wp2;go_ret;exact ⟨_,q,_,_,rfl,hE2,t1,t2⟩
end Go.Proofs.YtlpgonpfjbhmfaaGreatDoor
