/- Part Rin3. -/
import Derived.Shelf.Spec.BitsCarry
import Derived.Shelf.Bits.Mul64
import Derived.Shelf.Small.Bits
import Derived.Test.YtlpgonpfjbhmfaaGreatDoorProg
import Derived.Test.YtlpgonpfjbhmfaaGreatDoorRin2
import Derived.Deep.QuietTactic
import Derived.BigQuiet
import Derived.WalkSpells
import Derived.Deep.CutBlock
import Derived.Deep.DeepCutAuto
set_option maxRecDepth 100000
set_option maxHeartbeats 100000000
namespace Go.Proofs.YtlpgonpfjbhmfaaGreatDoor
open Go.Shelf
def add64L_ren:Go.Shelf.Ren:=⟨fun | 25=>203 | n=>n,fun | 22=>143 | n=>n,fun | n=>n⟩
theorem add64L:Go.Proofs.Lays7.n25 Tryz.prog add64L_ren:={
 mixed:=by kernel_rfl
 f25:=Tryz.func203.trans (congrArg some (by kernel_rfl))
 t22:=Tryz.underlying143
 a22:=Tryz.isAgg143
 z22:=Tryz.sizeOf143
 v22:=Tryz.zeroValue143
 i22:=by kernel_rfl }
def sub64L_ren:Go.Shelf.Ren:=⟨fun | 26=>179 | n=>n,fun | 22=>143 | n=>n,fun | n=>n⟩
theorem sub64L:Go.Proofs.Lays7.n26 Tryz.prog sub64L_ren:={
 mixed:=by kernel_rfl
 f26:=Tryz.func179.trans (congrArg some (by kernel_rfl))
 t22:=Tryz.underlying143
 a22:=Tryz.isAgg143
 z22:=Tryz.sizeOf143
 v22:=Tryz.zeroValue143
 i22:=by kernel_rfl }
def mul64L_ren:Go.Shelf.Ren:=⟨fun | 264=>204 | n=>n,fun | 53=>143 | 46=>147 | n=>n,fun | n=>n⟩
theorem mul64L:Go.Proofs.Lays.n264 Tryz.prog mul64L_ren:={
 mixed:=by kernel_rfl
 f264:=Tryz.func204.trans (congrArg some (by kernel_rfl))
 t46:=Tryz.underlying147
 a46:=Tryz.isAgg147
 z46:=Tryz.sizeOf147
 v46:=Tryz.zeroValue147
 t53:=Tryz.underlying143
 a53:=Tryz.isAgg143
 z53:=Tryz.sizeOf143
 v53:=Tryz.zeroValue143 }
def lz64L_ren:Go.Shelf.Ren:=⟨fun | 134=>175 | 129=>165 | n=>n,fun | 53=>143 | 3=>3 | 4=>4 | 46=>147 | 5=>5 | 9=>9 | n=>n,fun | n=>n⟩
theorem lz64L:Go.Proofs.Lays.n134 Tryz.prog lz64L_ren:={
 mixed:=by kernel_rfl
 f129:=Tryz.func165.trans (congrArg some (by kernel_rfl))
 f134:=Tryz.func175.trans (congrArg some (by kernel_rfl))
 t3:=Tryz.underlying3
 a3:=Tryz.isAgg3
 z3:=Tryz.sizeOf3
 v3:=Tryz.zeroValue3
 t4:=Tryz.underlying4
 a4:=Tryz.isAgg4
 z4:=Tryz.sizeOf4
 v4:=Tryz.zeroValue4
 t5:=Tryz.underlying5
 a5:=Tryz.isAgg5
 z5:=Tryz.sizeOf5
 v5:=Tryz.zeroValue5
 t9:=Tryz.underlying9
 a9:=Tryz.isAgg9
 z9:=Tryz.sizeOf9
 v9:=Tryz.zeroValue9
 t46:=Tryz.underlying147
 a46:=Tryz.isAgg147
 z46:=Tryz.sizeOf147
 v46:=Tryz.zeroValue147
 t53:=Tryz.underlying143
 a53:=Tryz.isAgg143
 z53:=Tryz.sizeOf143
 v53:=Tryz.zeroValue143 }
def len64L_ren:Go.Shelf.Ren:=⟨fun | 129=>165 | n=>n,fun | 53=>143 | 3=>3 | 4=>4 | 46=>147 | 5=>5 | 9=>9 | n=>n,fun | n=>n⟩
theorem len64L:Go.Proofs.Lays.n129 Tryz.prog len64L_ren:={
 mixed:=by kernel_rfl
 f129:=Tryz.func165.trans (congrArg some (by kernel_rfl))
 t3:=Tryz.underlying3
 a3:=Tryz.isAgg3
 z3:=Tryz.sizeOf3
 v3:=Tryz.zeroValue3
 t4:=Tryz.underlying4
 a4:=Tryz.isAgg4
 z4:=Tryz.sizeOf4
 v4:=Tryz.zeroValue4
 t5:=Tryz.underlying5
 a5:=Tryz.isAgg5
 z5:=Tryz.sizeOf5
 v5:=Tryz.zeroValue5
 t9:=Tryz.underlying9
 a9:=Tryz.isAgg9
 z9:=Tryz.sizeOf9
 v9:=Tryz.zeroValue9
 t46:=Tryz.underlying147
 a46:=Tryz.isAgg147
 z46:=Tryz.sizeOf147
 v46:=Tryz.zeroValue147
 t53:=Tryz.underlying143
 a53:=Tryz.isAgg143
 z53:=Tryz.sizeOf143
 v53:=Tryz.zeroValue143 }
end Go.Proofs.YtlpgonpfjbhmfaaGreatDoor
namespace Go.Proofs.YtlpgonpfjbhmfaaGreatDoor
open Go Go.RowKit
theorem info_u64:Elem1 Tryz.prog 143 (.int .u64 0) 8:=by unfold Elem1; kernel_rfl
theorem add64_run (x y c:Nat) (hc:c≤1) (w:World):(callFunc 203 #[.int .u64 x, .int .u64 y, .int .u64 c]).run Tryz.prog w = .ok (.value (.tuple #[.int .u64 (((x+y+c) % 18446744073709551616:Nat):Int), .int .u64 (((x+y+c) / 18446744073709551616:Nat):Int)])) w:=Any7.bits_Add64 add64L x y c hc w
theorem sub64_run (x y c:Nat) (hc:c≤1) (w:World):(callFunc 179 #[.int .u64 x, .int .u64 y, .int .u64 c]).run Tryz.prog w = .ok (.value (.tuple #[.int .u64 (((x+18446744073709551616 - y - c) % 18446744073709551616:Nat):Int), .int .u64 ((if x < y+c then 1 else 0:Nat):Int)])) w:=Any7.bits_Sub64 sub64L x y c hc w
theorem int_trim {a:Option Addr} {n c:Nat} {xs:List Nat} {w:World} (hx:SlN .u64 w a n c xs) :
 Calls Tryz.prog 140 #[.slice a n c] w fun e w'=>∃ m,e = .returned (.slice a m c)∧w=w'∧m≤n∧W.trim xs=xs.take m:=by
 have HX:=Lib.hid hx.len;have hnn:=hx.le;have hcap:=hx.cap
 go_enter Tryz.func140,Tryz.ntmps140
 go_wp2
 go_loop [3] (fun v=>∃ k:Nat,k≤n∧v = .int .i64 k∧Hid (W.trim xs=W.trimTo xs k)) (fun v=>(intOf v).toNat)
 case atStart=>exact ⟨n,Nat.le_refl _,rfl,Lib.hid (by unfold W.trim; rw [HX.out])⟩
 case round =>
  obtain ⟨k,hk,rfl,HT⟩:=hrel;have hsl:=fun wx:World=>run_slice_to (P:=Tryz.prog) (w:=wx) (a:=a) (n:=n) Tryz.underlying88 info_u64 (k:=k) (c:=c) (by omega);cases k with
  | zero =>
   go_wp2;go_ret;exact ⟨0,rfl,rfl,by omega,by rw [HT.out]; rfl⟩
  | succ k =>
   obtain ⟨b,o,rfl,hc⟩:=hx.at (j:=k) (by omega);have g1:=hc k (by omega);have hw:IntKind.i64.wrap ((k:Int)+1 - 1)=k:=by rw [Int.add_sub_cancel]; exact IntWalk.i64_in _ (by omega)
   have hw2:IntKind.i64.wrap (k:Int)=k:=IntWalk.i64_in _ (by omega);by_cases hz:xs.getD k 0=0
   · have HT2:Hid (W.trim xs=W.trimTo xs k):=by
      show _=_;rw [HT.out];exact if_pos hz
     rw [hz] at g1;clear hz hc;go_wp2;go_round
     case rel=>exact ⟨k,by omega,rfl,HT2⟩
     case measure=>simp [intOf]
   · have HT2:Hid (W.trim xs=xs.take (k+1)):=by
      show _=_;rw [HT.out];exact if_neg hz
     have hne:(((xs.getD k 0:Nat):Int) == 0)=false:=by simpa using hz
     generalize xs.getD k 0=y at *
     clear hz hc;go_wp2;go_ret;exact ⟨k+1,rfl,rfl,by omega,HT2.out⟩
theorem trim_num {w:World} {a:Option Addr} {n c m:Nat} {xs:List Nat} {v:Nat} (hx:SlN .u64 w a n c xs) (hm:m≤n) (ht:W.trim xs=xs.take m) (hb:W.bnd 18446744073709551616 xs) (hv:W.val 18446744073709551616 xs=v):SlN .u64 w a m c (W.trim xs)∧Num 18446744073709551616 (W.trim xs) v :=
 ⟨by rw [ht]; exact hx.upto hm,Num.trim hb hv⟩
theorem int_fromWord {x:Nat} {w:World} (hx:x < 18446744073709551616):Calls Tryz.prog 141 #[.int .u64 x] w (RetN .u64 18446744073709551616 w x):=by
 by_cases h0:x=0
 · subst h0
   go_enter Tryz.func141,Tryz.ntmps141
   go_wp2;go_ret;exact ⟨none,0,0,[],rfl,Ext.refl w,SlN.nil _ _,Num.nil _⟩
 · have hb:((x:Int) == 0)=false:=by simpa using h0
   go_enter Tryz.func141,Tryz.ntmps141
   go_wp2;go_ret;refine ⟨_,1,1,[x],rfl,(Ext.refl w).alloc _,(own_alloc w w.heap.size 143 #[.int .u64 x] 1 rfl (Nat.le_refl _) (by omega)).sl,⟨?_,W.nrm_single h0,by simp [W.val]⟩⟩;intro y hy;simp only [List.mem_singleton] at hy;subst hy;exact hx
theorem cmpU_isNaN (x:Int) (w:World):Calls Tryz.prog 205 #[.int .u64 x] w fun e w'=>e = .returned (.bool false)∧w=w':=by
 have h:(x != x)=false:=by simp
 go_enter Tryz.func205,Tryz.ntmps205
 go_wp2;go_ret;exact ⟨rfl,rfl⟩
theorem cmpI_isNaN (x:Int) (w:World):Calls Tryz.prog 155 #[.int .i64 x] w fun e w'=>e = .returned (.bool false)∧w=w':=by
 have h:(x != x)=false:=by simp
 go_enter Tryz.func155,Tryz.ntmps155
 go_wp2;go_ret;exact ⟨rfl,rfl⟩
def cmpZ (x y:Int):Int:=if x < y then -1 else if y < x then 1 else 0
theorem cmpU_Compare (x y:Int) (w:World):Calls Tryz.prog 174 #[.int .u64 x, .int .u64 y] w fun e w'=>e = .returned (.int .i64 (cmpZ x y))∧w=w':=by
 by_cases h1:x < y
 · have H:Hid (cmpZ x y = -1):=by show _=_; simp [cmpZ,h1]
   go_enter Tryz.func174,Tryz.ntmps174
   go_wp2_with (go_at_call 205; refine (cmpU_isNaN _ _).mono ?_; rintro e w1 ⟨rfl,rfl⟩)
   go_ret;exact ⟨retN H.out,rfl⟩
 · by_cases h2:y < x
   · have H:Hid (cmpZ x y=1):=by show _=_; simp [cmpZ,h1,h2]
     go_enter Tryz.func174,Tryz.ntmps174
     go_wp2_with (go_at_call 205; refine (cmpU_isNaN _ _).mono ?_; rintro e w1 ⟨rfl,rfl⟩)
     go_ret;exact ⟨retN H.out,rfl⟩
   · have H:Hid (cmpZ x y=0):=by show _=_; simp [cmpZ,h1,h2]
     go_enter Tryz.func174,Tryz.ntmps174
     go_wp2_with (go_at_call 205; refine (cmpU_isNaN _ _).mono ?_; rintro e w1 ⟨rfl,rfl⟩)
     go_ret;exact ⟨retN H.out,rfl⟩
theorem cmpI_Compare (x y:Int) (w:World):Calls Tryz.prog 124 #[.int .i64 x, .int .i64 y] w fun e w'=>e = .returned (.int .i64 (cmpZ x y))∧w=w':=by
 by_cases h1:x < y
 · have H:Hid (cmpZ x y = -1):=by show _=_; simp [cmpZ,h1]
   go_enter Tryz.func124,Tryz.ntmps124
   go_wp2_with (go_at_call 155; refine (cmpI_isNaN _ _).mono ?_; rintro e w1 ⟨rfl,rfl⟩)
   go_ret;exact ⟨retN H.out,rfl⟩
 · by_cases h2:y < x
   · have H:Hid (cmpZ x y=1):=by show _=_; simp [cmpZ,h1,h2]
     go_enter Tryz.func124,Tryz.ntmps124
     go_wp2_with (go_at_call 155; refine (cmpI_isNaN _ _).mono ?_; rintro e w1 ⟨rfl,rfl⟩)
     go_ret;exact ⟨retN H.out,rfl⟩
   · have H:Hid (cmpZ x y=0):=by show _=_; simp [cmpZ,h1,h2]
     go_enter Tryz.func124,Tryz.ntmps124
     go_wp2_with (go_at_call 155; refine (cmpI_isNaN _ _).mono ?_; rintro e w1 ⟨rfl,rfl⟩)
     go_ret;exact ⟨retN H.out,rfl⟩
theorem cmp_at {B:Nat} {xs ys:List Nat} {i:Nat} (hl:xs.length=ys.length) (hi:i < xs.length) (hd:xs.drop (i+1)=ys.drop (i+1)) (bx:W.bnd B xs) (hlt:xs.getD i 0 < ys.getD i 0):W.val B xs < W.val B ys:=by
 have e1:=W.val_split (B:=B) xs (i+1) (by omega);have e2:=W.val_split (B:=B) ys (i+1) (by omega);rw [W.val_take_succ hi] at e1;rw [W.val_take_succ (by omega)] at e2;have b1:=W.val_lt (W.bnd_take bx i);rw [List.length_take,Nat.min_eq_left (by omega)] at b1;rw [e1,e2,hd];have h1:B^i*(xs.getD i 0+1)≤B^i*ys.getD i 0:=Nat.mul_le_mul_left _ hlt;have h2:B^i*(xs.getD i 0+1)=B^i*xs.getD i 0+B^i:=by rw [Nat.mul_add,Nat.mul_one]
 omega
theorem cmpZ_lt {x y:Int} (h:x < y):cmpZ x y = -1:=by simp [cmpZ,h]
theorem cmpZ_gt {x y:Int} (h:y < x):cmpZ x y=1:=by
 have:¬ x < y:=by omega
 simp [cmpZ,h,this]
theorem cmpZ_eq (x:Int):cmpZ x x=0:=by simp [cmpZ]
theorem cmpZ_ne {x y:Nat} (h:x≠y):(x < y∧cmpZ x y = -1)∨(y < x∧cmpZ x y=1):=by
 rcases Nat.lt_or_gt_of_ne h with h1 | h1
 · exact Or.inl ⟨h1,cmpZ_lt (by omega)⟩
 · exact Or.inr ⟨h1,cmpZ_gt (by omega)⟩
theorem bne_natT {a b:Nat} (h:a≠b):((a:Int) != (b:Int))=true:=by simp; omega
theorem bne_natF {a b:Nat} (h:a=b):((a:Int) != (b:Int))=false:=by simp [h]
theorem beq_natF {a b:Nat} (h:a≠b):((a:Int) == (b:Int))=false:=by simp; omega
theorem cmpU_q (x y:Int) (w:World):Calls Tryz.prog 174 #[.int .u64 x, .int .u64 y] w fun e w'=>e = .returned (.int .i64 (cmpZ x y))∧Qt w w' :=
 (cmpU_Compare x y w).mono fun _ _ ⟨h1,h2⟩=>⟨h1,h2 ▸ Qt.refl _⟩
theorem int_compareWords {a b:Option Addr} {n c m d:Nat} {xs ys:List Nat} {x y:Nat} {w:World} (hx:SlN .u64 w a n c xs) (hy:SlN .u64 w b m d ys) (nx:Num 18446744073709551616 xs x) (ny:Num 18446744073709551616 ys y) :
 Calls Tryz.prog 135 #[.slice a n c, .slice b m d] w fun e w'=>e = .returned (.int .i64 (cmpZ x y))∧Qt w w':=by
 have HX:=Lib.hid hx.len;have HY:=Lib.hid hy.len;have hnn:=hx.le;have hmm:=hy.le;have NX:=Lib.hid nx;have NY:=Lib.hid ny;clear nx ny;by_cases hl:n=m
 · have hne:((n:Int) != (m:Int))=false:=by simp [hl]
   have HL:=Lib.hid hl;clear hl
   go_enter Tryz.func135,Tryz.ntmps135
   go_wp2
   go_loopw [5] (fun v wr=>∃ k:Nat,k≤n∧v = .int .i64 ((k:Int) - 1)∧Qt w wr∧Hid (xs.drop k=ys.drop k)) (fun v _=>(intOf v+1).toNat)
   case atStart=>exact ⟨n,Nat.le_refl _,by go_num,Qt.refl _,Lib.hid (by rw [List.drop_of_length_le (by rw [HX.out]; exact Nat.le_refl _),List.drop_of_length_le (by rw [HY.out,HL.out]; exact Nat.le_refl _)])⟩
   case round =>
    obtain ⟨k,hk,rfl,hQ,HD⟩:=hrel;cases k with
    | zero =>
     have HE:Hid (x=y):=by
      have:=HD.out;rw [List.drop_zero,List.drop_zero] at this;show x=y;rw [←NX.out.val,←NY.out.val,this]
     go_wp2;go_ret;exact ⟨retN (by rw [HE.out,cmpZ_eq]),hQ⟩
    | succ k =>
     have hk2:k < m:=by have:=HL.out; omega
     obtain ⟨b1,o1,rfl,hc1⟩:=(hx.ext hQ.ext).at (j:=k) (by omega);obtain ⟨b2,o2,rfl,hc2⟩:=(hy.ext hQ.ext).at (j:=k) hk2;have g1:=hc1 k (by omega);have g2:=hc2 k hk2;have hw0:((k+1:Nat):Int) - 1=k:=by omega
     rw [hw0];by_cases he:xs.getD k 0=ys.getD k 0
     · have hb:(((xs.getD k 0:Nat):Int) != ((ys.getD k 0:Nat):Int))=false:=bne_natF he;have HD2:Hid (xs.drop k=ys.drop k):=by
        show _=_;rw [List.drop_eq_getElem_cons (l:=xs) (by rw [HX.out]; omega),List.drop_eq_getElem_cons (l:=ys) (by rw [HY.out]; exact hk2),HD.out];simp only [List.getD_eq_getElem?_getD,List.getElem?_eq_getElem (show k < xs.length by rw [HX.out]; omega),List.getElem?_eq_getElem (show k < ys.length by rw [HY.out]; exact hk2),Option.getD_some] at he;rw [he]
       generalize xs.getD k 0=u at *
       generalize ys.getD k 0=v at *
       clear he hc1 hc2;go_wp2
       go_quiet (fail)
       go_wp2;go_roundw
       case rel=>exact ⟨k,by omega,by go_num,hQ.drewN _,HD2⟩
       case measure=>simp [intOf]
     · have hb:(((xs.getD k 0:Nat):Int) != ((ys.getD k 0:Nat):Int))=true:=bne_natT he;have HC:Hid (cmpZ x y=cmpZ ((xs.getD k 0:Nat):Int) ((ys.getD k 0:Nat):Int)):=by
        show _=_;rcases cmpZ_ne he with ⟨h1,h2⟩ | ⟨h1,h2⟩
        · have:=cmp_at (B:=18446744073709551616) (by rw [HX.out,HY.out,HL.out]) (by rw [HX.out]; omega) HD.out NX.out.bnd h1;rw [NX.out.val,NY.out.val] at this;rw [h2,cmpZ_lt (by omega)]
        · have:=cmp_at (B:=18446744073709551616) (xs:=ys) (ys:=xs) (by rw [HX.out,HY.out,HL.out]) (by rw [HY.out]; omega) HD.out.symm NY.out.bnd h1;rw [NX.out.val,NY.out.val] at this;rw [h2,cmpZ_gt (by omega)]
       generalize xs.getD k 0=u at *
       generalize ys.getD k 0=v at *
       clear he hc1 hc2;have hkn:(k:Int) < n:=by omega
       have hkm:(k:Int) < m:=by omega
       go_wp2
       go_quiet (fail)
       go_wp2;have g1q:(wr.drewN nq).cell? _=_:=g1;have g2q:(wr.drewN nq).cell? _=_:=g2;have hQq:=hQ.drewN nq;generalize wr.drewN nq=wq at *
       clear g1 g2
       go_quiet ((go_at_call 174; exact Calls.quiet_of (cmpU_q _ _ _)))
       go_wp2;go_ret;exact ⟨retN HC.out,hQq.drewN _⟩
 · have hne:((n:Int) != (m:Int))=true:=by simp; omega
   have HC:Hid (cmpZ x y=cmpZ n m):=by
    show _=_;rcases cmpZ_ne hl with ⟨h1,h2⟩ | ⟨h1,h2⟩
    · have:=W.len_lt (B:=18446744073709551616) (by omega) NX.out.bnd NY.out.nrm (by rw [HX.out,HY.out]; exact h1);rw [NX.out.val,NY.out.val] at this;rw [h2,cmpZ_lt (by omega)]
    · have:=W.len_lt (B:=18446744073709551616) (by omega) NY.out.bnd NX.out.nrm (by rw [HX.out,HY.out]; exact h1);rw [NX.out.val,NY.out.val] at this;rw [h2,cmpZ_gt (by omega)]
   clear hl
   go_enter Tryz.func135,Tryz.ntmps135
   go_wp2_with fail
   refine (cmpI_Compare _ _ _).mono ?_;rintro e w1 ⟨rfl,rfl⟩;go_wp2;go_ret;exact ⟨retN HC.out,Qt.refl _⟩
theorem addS {x y c:Nat}:(x+y+c) % 18446744073709551616+18446744073709551616*((x+y+c) / 18446744073709551616)=x+y+c:=Nat.mod_add_div _ _
theorem addC {x y c:Nat} (hx:x < 18446744073709551616) (hy:y < 18446744073709551616) (hc:c≤1):(x+y+c) / 18446744073709551616≤1:=by omega
theorem subS {x y c:Nat} (hx:x < 18446744073709551616) (hy:y < 18446744073709551616) (hc:c≤1):(x+18446744073709551616 - y - c) % 18446744073709551616+y+c=x+18446744073709551616*(if x < y+c then 1 else 0):=by
 split <;> omega
theorem subC {x y c:Nat}:(if x < y+c then 1 else 0)≤1:=by split <;> omega
theorem int_addInto {base g n c m d:Nat} {b:Option Addr} {xs ys:List Nat} {w:World} (hx:OwnN .u64 w base 143 g n c xs) (hy:SlN .u64 w b m d ys) (hne:blk b=none∨blk b≠some g) (bx:W.bnd 18446744073709551616 xs) (by_:W.bnd 18446744073709551616 ys) (hmn:m≤n) (hfit:W.val 18446744073709551616 xs+W.val 18446744073709551616 ys < 18446744073709551616^n) :
 Calls Tryz.prog 172 #[.slice (some ⟨g,0,none⟩) n c, .slice b m d] w fun e w'=>e = .returned (.tuple #[])∧w.grownBy w' (some g)∧∃ zs,OwnN .u64 w' base 143 g n c zs∧W.bnd 18446744073709551616 zs∧W.val 18446744073709551616 zs=W.val 18446744073709551616 xs+W.val 18446744073709551616 ys:=by
 have HX:=Lib.hid hx.len;have HY:=Lib.hid hy.len;have hnn:=hx.le;have hmm:=hy.le;have BY:=Lib.hid by_;have HF:=Lib.hid hfit;clear by_ hfit
 go_enter Tryz.func172,Tryz.ntmps172
 go_wp2
 go_loopw [4,10] (fun cv iv wr=>∃ (k cy:Nat) (zs:List Nat),cv = .int .u64 cy∧iv = .int .i64 k∧k≤m∧cy≤1∧w.grownBy wr (some g)∧OwnN .u64 wr base 143 g n c zs∧W.bnd 18446744073709551616 zs∧Hid (W.val 18446744073709551616 zs+cy*18446744073709551616^k=W.val 18446744073709551616 xs+W.val 18446744073709551616 (ys.take k))) (fun _ iv _=>m - (intOf iv).toNat)
 case atStart=>exact ⟨0,0,xs,rfl,rfl,Nat.zero_le _,by omega,grown_self _ _,hx,bx,Lib.hid (by simp [W.val])⟩
 case round =>
  obtain ⟨k,cy,zs,rfl,rfl,hk,hcy,hg,hz,bz,HE⟩:=hrel;by_cases hlt:k < m
  · obtain ⟨b1,o1,rfl,hc1⟩:=(hy.kept hg hne).at (j:=k) hlt;have g1:=hc1 k hlt;have g2:=hz.cell (i:=k) (by omega);have g3:=hz.frozen k;have hxk:=W.bnd_at bz (i:=k) (by rw [hz.len]; omega);have hyk:=W.bnd_at BY.out (i:=k) (by rw [HY.out]; exact hlt);have HS:=Lib.hid (W.add_step (B:=18446744073709551616) (l:=zs) (ys:=ys) (k:=k) (by rw [hz.len]; omega) (by rw [HY.out]; exact hlt) HE.out (addS (x:=zs.getD k 0) (y:=ys.getD k 0) (c:=cy)));have hadd:=add64_run (zs.getD k 0) (ys.getD k 0) cy hcy;have hC:=addC hxk hyk hcy;have hkn:(k:Int) < n:=by omega
    generalize zs.getD k 0=u at *
    generalize ys.getD k 0=v at *
    have hs:(u+v+cy) % 18446744073709551616 < 18446744073709551616:=Nat.mod_lt _ (by omega);generalize (u+v+cy) % 18446744073709551616=s at *
    generalize (u+v+cy) / 18446744073709551616=c2 at *
    clear hc1;go_wp2;go_roundw
    case rel=>exact ⟨k+1,c2,zs.set k s,rfl,by go_num,by omega,hC,grown_set hg _ _,hz.set k s,W.bnd_set bz hs,HS⟩
    case measure=>simp [intOf]; omega
  · have ek:k=m:=by omega
    have HE2:Hid (W.val 18446744073709551616 zs+cy*18446744073709551616^m=W.val 18446744073709551616 xs+W.val 18446744073709551616 ys):=by
     have:=HE.out;rw [ek,List.take_of_length_le (by rw [HY.out]; exact Nat.le_refl _)] at this;exact this
    clear HE ek;go_wp2
    go_loopw [4,7] (fun cv iv wr=>∃ (k cy:Nat) (zs:List Nat),cv = .int .u64 cy∧iv = .int .i64 k∧m≤k∧k≤n∧cy≤1∧w.grownBy wr (some g)∧OwnN .u64 wr base 143 g n c zs∧W.bnd 18446744073709551616 zs∧Hid (W.val 18446744073709551616 zs+cy*18446744073709551616^k=W.val 18446744073709551616 xs+W.val 18446744073709551616 ys)) (fun _ iv _=>n - (intOf iv).toNat)
    case atStart=>exact ⟨m,cy,zs,rfl,rfl,Nat.le_refl _,hmn,hcy,hg,hz,bz,HE2⟩
    case round =>
     clear hg hz bz HE2 hlt hk hcy;obtain ⟨k,cy,zs,rfl,rfl,hk0,hk,hcy,hg,hz,bz,HE⟩:=hrel;have hcy2:cy=0∨cy=1:=by omega
     rcases hcy2 with rfl | rfl
     · go_wp2
       go_end0
       exact ⟨rfl,hg,zs,hz,bz,by have:=HE.out; rw [Nat.zero_mul,Nat.add_zero] at this; exact this⟩
     · by_cases hlt:k < n
       · have g2:=hz.cell (i:=k) hlt;have g3:=hz.frozen k;have hxk:=W.bnd_at bz (i:=k) (by rw [hz.len]; exact hlt);have HS:=Lib.hid (W.add_step0 (B:=18446744073709551616) (l:=zs) (k:=k) (s:=(zs.getD k 0+0+1) % 18446744073709551616) (c':=(zs.getD k 0+0+1) / 18446744073709551616) (by rw [hz.len]; exact hlt) HE.out (by rw [addS]))
         have hadd:∀ wx:World,(callFunc 203 #[.int .u64 ((zs.getD k 0:Nat):Int), .int .u64 0, .int .u64 1]).run Tryz.prog wx = .ok (.value (.tuple #[.int .u64 (((zs.getD k 0+0+1) % 18446744073709551616:Nat):Int), .int .u64 (((zs.getD k 0+0+1) / 18446744073709551616:Nat):Int)])) wx:=fun wx=>add64_run (zs.getD k 0) 0 1 (by omega) wx;have hC:=addC hxk (y:=0) (c:=1) (by omega) (by omega);have hs:(zs.getD k 0+0+1) % 18446744073709551616 < 18446744073709551616:=Nat.mod_lt _ (by omega);generalize (zs.getD k 0+0+1) % 18446744073709551616=s at *
         generalize (zs.getD k 0+0+1) / 18446744073709551616=c2 at *
         generalize zs.getD k 0=u at *
         go_wp2;go_roundw
         case rel=>exact ⟨k+1,c2,zs.set k s,rfl,by go_num,by omega,by omega,hC,grown_set hg _ _,hz.set k s,W.bnd_set bz hs,HS⟩
         case measure=>simp [intOf]; omega
       · exfalso;have ek:k=n:=by omega
         have h1:=HE.out;have h2:=HF.out;rw [ek] at h1;omega
theorem run_slice_mid {P:Program} {w:World} {t e:TypeId} {z:Value} {bytes:Nat} {g n c lo hi:Nat} (ht:P.underlying t=some (.slice e)) (hinfo:Elem1 P e z bytes) (h1:lo≤hi) (h2:hi≤c) (h3:lo < c) :
 (Instr.sliceAt t (.slice (some ⟨g,0,none⟩) n c) (some (.int .i64 lo)) (some (.int .i64 hi)) none).run P w = .ok (.slice (some ⟨g,lo,none⟩) (hi - lo) (c - lo)) w:=by
 obtain ⟨i,hii,hz,hsize,hby⟩:=info_parts hinfo;have e0:¬ c=lo:=by omega
 have e1:Addr.add ⟨g,0,none⟩ lo=⟨g,lo,none⟩:=by
  unfold Addr.add;by_cases h0:lo=0 <;> simp [h0]
 have k1:(lo:Int)≤hi:=by omega
 have k2:(hi:Int)≤c:=by omega
 simp [Instr.sliceAt,Instr.slice,Instr.sliceBounds,Instr.sliceBound,run_underlying ht,asIntOf,sizeOf,typeInfo,hii,hsize,h1,h2,e0,e1]
theorem sub0S {x:Nat} (hx:x < 18446744073709551616):(x+18446744073709551616 - 0 - 1) % 18446744073709551616+1=x+18446744073709551616*(if x < 0+1 then 1 else 0):=by
 split <;> omega
theorem int_subtractFrom {base g n c m d:Nat} {b:Option Addr} {xs ys:List Nat} {w:World} (hx:OwnN .u64 w base 143 g n c xs) (hy:SlN .u64 w b m d ys) (hne:blk b=none∨blk b≠some g) (bx:W.bnd 18446744073709551616 xs) (by_:W.bnd 18446744073709551616 ys) (hmn:m≤n) (hfit:W.val 18446744073709551616 ys≤W.val 18446744073709551616 xs) :
 Calls Tryz.prog 182 #[.slice (some ⟨g,0,none⟩) n c, .slice b m d] w fun e w'=>e = .returned (.tuple #[])∧w.grownBy w' (some g)∧∃ zs,OwnN .u64 w' base 143 g n c zs∧W.bnd 18446744073709551616 zs∧W.val 18446744073709551616 zs=W.val 18446744073709551616 xs - W.val 18446744073709551616 ys:=by
 have HX:=Lib.hid hx.len;have HY:=Lib.hid hy.len;have hnn:=hx.le;have hmm:=hy.le;have BY:=Lib.hid by_;have HF:=Lib.hid hfit;clear by_ hfit
 go_enter Tryz.func182,Tryz.ntmps182
 go_wp2
 go_loopw [4,10] (fun cv iv wr=>∃ (k cy:Nat) (zs:List Nat),cv = .int .u64 cy∧iv = .int .i64 k∧k≤m∧cy≤1∧w.grownBy wr (some g)∧OwnN .u64 wr base 143 g n c zs∧W.bnd 18446744073709551616 zs∧Hid (W.val 18446744073709551616 zs+W.val 18446744073709551616 (ys.take k)=W.val 18446744073709551616 xs+cy*18446744073709551616^k)) (fun _ iv _=>m - (intOf iv).toNat)
 case atStart=>exact ⟨0,0,xs,rfl,rfl,Nat.zero_le _,by omega,grown_self _ _,hx,bx,Lib.hid (by simp [W.val])⟩
 case round =>
  obtain ⟨k,cy,zs,rfl,rfl,hk,hcy,hg,hz,bz,HE⟩:=hrel;by_cases hlt:k < m
  · obtain ⟨b1,o1,rfl,hc1⟩:=(hy.kept hg hne).at (j:=k) hlt;have g1:=hc1 k hlt;have g2:=hz.cell (i:=k) (by omega);have g3:=hz.frozen k;have hxk:=W.bnd_at bz (i:=k) (by rw [hz.len]; omega);have hyk:=W.bnd_at BY.out (i:=k) (by rw [HY.out]; exact hlt);have HS:=Lib.hid (W.sub_step (B:=18446744073709551616) (l:=zs) (ys:=ys) (k:=k) (by rw [hz.len]; omega) (by rw [HY.out]; exact hlt) HE.out (subS (x:=zs.getD k 0) (y:=ys.getD k 0) (c:=cy) hxk hyk hcy));have hadd:=sub64_run (zs.getD k 0) (ys.getD k 0) cy hcy;have hC:=subC (x:=zs.getD k 0) (y:=ys.getD k 0) (c:=cy);have hkn:(k:Int) < n:=by omega
    generalize zs.getD k 0=u at *
    generalize ys.getD k 0=v at *
    have hs:(u+18446744073709551616 - v - cy) % 18446744073709551616 < 18446744073709551616:=Nat.mod_lt _ (by omega);generalize (u+18446744073709551616 - v - cy) % 18446744073709551616=s at *
    generalize (if u < v+cy then 1 else 0)=c2 at *
    clear hc1;go_wp2;go_roundw
    case rel=>exact ⟨k+1,c2,zs.set k s,rfl,by go_num,by omega,hC,grown_set hg _ _,hz.set k s,W.bnd_set bz hs,HS⟩
    case measure=>simp [intOf]; omega
  · have ek:k=m:=by omega
    have HE2:Hid (W.val 18446744073709551616 zs=(W.val 18446744073709551616 xs - W.val 18446744073709551616 ys)+cy*18446744073709551616^m):=by
     have:=HE.out;rw [ek,List.take_of_length_le (by rw [HY.out]; exact Nat.le_refl _)] at this;have h2:=HF.out;show _=_;omega
    clear HE ek;go_wp2
    go_loopw [4,7] (fun cv iv wr=>∃ (k cy:Nat) (zs:List Nat),cv = .int .u64 cy∧iv = .int .i64 k∧m≤k∧k≤n∧cy≤1∧w.grownBy wr (some g)∧OwnN .u64 wr base 143 g n c zs∧W.bnd 18446744073709551616 zs∧Hid (W.val 18446744073709551616 zs=(W.val 18446744073709551616 xs - W.val 18446744073709551616 ys)+cy*18446744073709551616^k)) (fun _ iv _=>n - (intOf iv).toNat)
    case atStart=>exact ⟨m,cy,zs,rfl,rfl,Nat.le_refl _,hmn,hcy,hg,hz,bz,HE2⟩
    case round =>
     clear hg hz bz HE2 hlt hk hcy;obtain ⟨k,cy,zs,rfl,rfl,hk0,hk,hcy,hg,hz,bz,HE⟩:=hrel;have hcy2:cy=0∨cy=1:=by omega
     rcases hcy2 with rfl | rfl
     · go_wp2
       go_end0
       exact ⟨rfl,hg,zs,hz,bz,by have:=HE.out; rw [Nat.zero_mul,Nat.add_zero] at this; exact this⟩
     · by_cases hlt:k < n
       · have g2:=hz.cell (i:=k) hlt;have g3:=hz.frozen k;have hxk:=W.bnd_at bz (i:=k) (by rw [hz.len]; exact hlt);have HS:=Lib.hid (W.sub_step0 (B:=18446744073709551616) (l:=zs) (k:=k) (s:=(zs.getD k 0+18446744073709551616 - 0 - 1) % 18446744073709551616) (c':=if zs.getD k 0 < 0+1 then 1 else 0) (by rw [hz.len]; exact hlt) HE.out (sub0S hxk))
         have hadd:∀ wx:World,(callFunc 179 #[.int .u64 ((zs.getD k 0:Nat):Int), .int .u64 0, .int .u64 1]).run Tryz.prog wx = .ok (.value (.tuple #[.int .u64 (((zs.getD k 0+18446744073709551616 - 0 - 1) % 18446744073709551616:Nat):Int), .int .u64 ((if zs.getD k 0 < 0+1 then 1 else 0:Nat):Int)])) wx:=fun wx=>sub64_run (zs.getD k 0) 0 1 (by omega) wx;have hC:=subC (x:=zs.getD k 0) (y:=0) (c:=1);have hs:(zs.getD k 0+18446744073709551616 - 0 - 1) % 18446744073709551616 < 18446744073709551616:=Nat.mod_lt _ (by omega)
         generalize (zs.getD k 0+18446744073709551616 - 0 - 1) % 18446744073709551616=s at *
         generalize (if zs.getD k 0 < 0+1 then 1 else 0)=c2 at *
         generalize zs.getD k 0=u at *
         go_wp2;go_roundw
         case rel=>exact ⟨k+1,c2,zs.set k s,rfl,by go_num,by omega,by omega,hC,grown_set hg _ _,hz.set k s,W.bnd_set bz hs,HS⟩
         case measure=>simp [intOf]; omega
       · exfalso;have ek:k=n:=by omega
         have h1:=HE.out;have h2:=W.val_lt bz;rw [hz.len] at h2;rw [ek] at h1;omega
theorem cloneU {a:Option Addr} {n c:Nat} {xs:List Nat} {w:World} (hx:SlN .u64 w a n c xs) (hn:n≤1000000) (h0:0 < n) :
 Calls Tryz.prog 136 #[.slice a n c] w (fun e w'=>∃ g c',e = .returned (.slice (some ⟨g,0,none⟩) n c')∧Ext w w'∧OwnN .u64 w' w.heap.size 143 g n c' xs):=by
 obtain ⟨b,o,rfl,_⟩:=hx.at h0;have heq:=fun w':World=>Lib.run_eql_slice_nil (P:=Tryz.prog) w' 88 143 (some ⟨b,o,none⟩) n c 0 0 Tryz.underlying88
 go_enter Tryz.func136,Tryz.ntmps136
 go_upto_region 3 with (fail)
 have hA:Ext w (w.alloc (.cells #[] 143)):=(Ext.refl w).alloc _;have hO:=own_alloc w w.heap.size 143 #[] 0 rfl (Nat.le_refl _) (by omega);have h1c:∀ u∈xs.map (natV .u64),u.oneCell'=true:=by
  intro u hu;obtain ⟨x,_,rfl⟩:=List.mem_map.1 hu;rfl
 go_wp2_with (refine wl_app rfl rfl Tryz.underlying88 info_u64 rfl rfl hO rfl (hx.ext hA) h1c (by unfold maxLen; omega) (by omega) (by simp) ?_; intro a1 c1 w1 hO1 hg1 hb1)
 go_ret;have hO2:Own w1 w.heap.size 143 a1 n c1 (xs.map (natV .u64)):=by simpa using hO1
 obtain ⟨g,rfl,_,_⟩:=hO2.place h0;exact ⟨g,c1,rfl,hA.grown hg1 (fun k hk=>(hO.lt hk).1),hO2⟩
theorem wrap_u64 {x:Int} (h0:0≤x) (h1:x < 18446744073709551616):IntKind.u64.wrap x=x:=by
 rw [IntKind.wrap_u64];exact Int.emod_eq_of_lt h0 h1
theorem mul64_c {x y:Nat} (hx:x < 18446744073709551616) (hy:y < 18446744073709551616) (w:World):Calls Tryz.prog 204 #[.int .u64 x, .int .u64 y] w fun e w'=>e = .returned (.tuple #[.int .u64 ((x*y / 18446744073709551616:Nat):Int), .int .u64 ((x*y % 18446744073709551616:Nat):Int)])∧w'=w:=Any.bits_Mul64 mul64L x y hx hy w
theorem mac_stepO {B:Nat} {l xs:List Nat} {V c k o s c' w:Nat} (hk:o+k < l.length) (hx:k < xs.length) (h:W.val B l+c*B^(o+k)=V+w*W.val B (xs.take k)*B^o) (e:s+B*c'=l.getD (o+k) 0+xs.getD k 0*w+c) :
 W.val B (l.set (o+k) s)+c'*B^(o+(k+1))=V+w*W.val B (xs.take (k+1))*B^o:=by
 have h1:=W.val_set (B:=B) (xs:=l) (i:=o+k) (v:=s) hk;have h2:=W.val_take_succ (B:=B) hx;rw [h2,←Nat.add_assoc,Nat.pow_succ];have h3:B^(o+k)=B^o*B^k:=Nat.pow_add _ _ _;rw [h3] at h h1 ⊢;generalize l.getD (o+k) 0=x at *
 generalize xs.getD k 0=y at *
 generalize W.val B (l.set (o+k) s)=a at *
 generalize W.val B l=b at *
 generalize W.val B (xs.take k)=d at *
 generalize B^k=p at *
 generalize B^o=q at *
 grind
theorem mac_word {z u wd cy:Nat} (hz:z < 18446744073709551616) (hu:u < 18446744073709551616) (hw:wd < 18446744073709551616) (hc:cy < 18446744073709551616) :
 u*wd / 18446744073709551616+(u*wd % 18446744073709551616+cy+0) / 18446744073709551616 < 18446744073709551616∧u*wd / 18446744073709551616+(u*wd % 18446744073709551616+cy+0) / 18446744073709551616+(z+(u*wd % 18446744073709551616+cy+0) % 18446744073709551616+0) / 18446744073709551616 < 18446744073709551616 ∧
 (z+(u*wd % 18446744073709551616+cy+0) % 18446744073709551616+0) % 18446744073709551616+18446744073709551616*(u*wd / 18446744073709551616+(u*wd % 18446744073709551616+cy+0) / 18446744073709551616+(z+(u*wd % 18446744073709551616+cy+0) % 18446744073709551616+0) / 18446744073709551616)=z+u*wd+cy:=by
 have:u*wd≤18446744073709551615*18446744073709551615:=Nat.mul_le_mul (by omega) (by omega);generalize u * wd=p at *
 omega
theorem int_addProduct {base g N C o n c' d wd:Nat} {a:Option Addr} {zs xs:List Nat} {w:World} (hz:OwnN .u64 w base 143 g N C zs) (hx:SlN .u64 w a n d xs) (hne:blk a=none∨blk a≠some g) (ho:o+n≤N) (bz:W.bnd 18446744073709551616 zs) (bx:W.bnd 18446744073709551616 xs) (hw:wd < 18446744073709551616) :
 Calls Tryz.prog 170 #[.slice (some ⟨g,o,none⟩) n c', .slice a n d, .int .u64 wd] w fun e w'=>∃ (cy:Nat) (zs':List Nat),e = .returned (.int .u64 cy)∧cy < 18446744073709551616∧w.grownBy w' (some g)∧OwnN .u64 w' base 143 g N C zs'∧W.bnd 18446744073709551616 zs'∧W.val 18446744073709551616 zs'+cy*18446744073709551616^(o+n)=W.val 18446744073709551616 zs+wd*W.val 18446744073709551616 xs*18446744073709551616^o∧(∀ j,o+n≤j→zs'.getD j 0=zs.getD j 0):=by
 have HZ:=Lib.hid hz.len;have HX:=Lib.hid hx.len;have hnn:=hx.le;have BX:=Lib.hid bx;clear bx
 go_enter Tryz.func170,Tryz.ntmps170
 go_wp2
 go_loopw [7,16] (fun cv iv wr=>∃ (k cy:Nat) (ls:List Nat),cv = .int .u64 cy∧iv = .int .i64 k∧k≤n∧cy < 18446744073709551616∧w.grownBy wr (some g)∧OwnN .u64 wr base 143 g N C ls∧W.bnd 18446744073709551616 ls∧Hid (W.val 18446744073709551616 ls+cy*18446744073709551616^(o+k)=W.val 18446744073709551616 zs+wd*W.val 18446744073709551616 (xs.take k)*18446744073709551616^o)∧Hid (∀ j,o+n≤j→ls.getD j 0=zs.getD j 0)) (fun _ iv _=>n - (intOf iv).toNat)
 case atStart=>exact ⟨0,0,zs,rfl,rfl,Nat.zero_le _,by omega,grown_self _ _,hz,bz,Lib.hid (by simp [W.val]),Lib.hid (fun _ _=>rfl)⟩
 case round =>
  clear hz bz;obtain ⟨k,cy,ls,rfl,rfl,hk,hcy,hg,hl,bl,HE,HJ⟩:=hrel;by_cases hlt:k < n
  · obtain ⟨b1,o1,rfl,hc1⟩:=(hx.kept hg hne).at (j:=k) hlt;have g1:=hc1 k hlt;have g2:=hl.cell (i:=o+k) (by omega);have g3:=hl.frozen (o+k);have hzk:=W.bnd_at bl (i:=o+k) (by rw [hl.len]; omega);have hxk:=W.bnd_at BX.out (i:=k) (by rw [HX.out]; exact hlt);obtain ⟨m1,m2,m3⟩:=mac_word hzk hxk hw hcy;have HS:=Lib.hid (mac_stepO (B:=18446744073709551616) (l:=ls) (xs:=xs) (k:=k) (o:=o) (w:=wd) (by rw [hl.len]; omega) (by rw [HX.out]; exact hlt) HE.out m3);have hkn:(k:Int) < n:=by omega
    have HJ2:Hid (∀ s j,o+n≤j→(ls.set (o+k) s).getD j 0=zs.getD j 0):=by
     show ∀ s j,o+n≤j→(ls.set (o+k) s).getD j 0=zs.getD j 0;intro s j hj;rw [←HJ.out j hj];have hne:¬ o+k=j:=by omega
     simp [List.getD_eq_getElem?_getD,hne]
    generalize ls.getD (o+k) 0=z at *
    generalize xs.getD k 0=u at *
    have hmul:=mul64_c hxk hw;have hadd1:∀ wx:World,(callFunc 203 #[.int .u64 ((u*wd % 18446744073709551616:Nat):Int), .int .u64 (cy:Int), .int .u64 0]).run Tryz.prog wx = .ok (.value (.tuple #[.int .u64 (((u*wd % 18446744073709551616+cy+0) % 18446744073709551616:Nat):Int), .int .u64 (((u*wd % 18446744073709551616+cy+0) / 18446744073709551616:Nat):Int)])) wx:=fun wx=>add64_run (u*wd % 18446744073709551616) cy 0 (by omega) wx;generalize u * wd / 18446744073709551616=ph at *
    generalize u * wd % 18446744073709551616=pl at *
    generalize hs1:(pl+cy+0) % 18446744073709551616=s1 at *
    generalize hc1':(pl+cy+0) / 18446744073709551616=c1 at *
    have hadd2:∀ wx:World,(callFunc 203 #[.int .u64 (z:Int), .int .u64 (s1:Int), .int .u64 0]).run Tryz.prog wx = .ok (.value (.tuple #[.int .u64 (((z+s1+0) % 18446744073709551616:Nat):Int), .int .u64 (((z+s1+0) / 18446744073709551616:Nat):Int)])) wx:=fun wx=>add64_run z s1 0 (by omega) wx;have hs2:(z+s1+0) % 18446744073709551616 < 18446744073709551616:=Nat.mod_lt _ (by omega);generalize (z+s1+0) % 18446744073709551616=s2 at *
    generalize (z+s1+0) / 18446744073709551616=c2 at *
    have hw1:IntKind.u64.wrap ((ph:Int)+c1)=((ph+c1:Nat):Int):=by rw [wrap_u64 (by omega) (by omega)]; omega
    have hw2:IntKind.u64.wrap (((ph+c1:Nat):Int)+c2)=((ph+c1+c2:Nat):Int):=by rw [wrap_u64 (by omega) (by omega)]; omega
    have hw3:IntKind.u64.wrap ((ph:Int)+(c1:Int)+c2)=((ph+c1+c2:Nat):Int):=by rw [wrap_u64 (by omega) (by omega)]; omega
    clear hc1 hs1 hc1' m3
    go_wp2_with (go_at_call 204; refine (hmul _).mono ?_; rintro e w1 ⟨rfl,rfl⟩)
    go_roundw
    case rel=>exact ⟨k+1,ph+c1+c2,ls.set (o+k) s2,by first | rfl | go_num,by go_num,by omega,m2,grown_set hg _ _,hl.set (o+k) s2,W.bnd_set bl hs2,HS,Lib.hid (HJ2.out s2)⟩
    case measure=>simp [intOf]; omega
  · have ek:k=n:=by omega
    go_wp2;go_ret;have h1:=HE.out;rw [ek,List.take_of_length_le (by rw [HX.out]; exact Nat.le_refl _)] at h1;exact ⟨cy,ls,rfl,hcy,hg,hl,bl,h1,HJ.out⟩
theorem u64_one (xs:List Nat):∀ v∈xs.map (natV .u64),v.oneCell'=true:=by
 intro u hu;obtain ⟨x,_,rfl⟩:=List.mem_map.1 hu;rfl
theorem val_pad (B:Nat) (xs:List Nat) (n:Nat):W.val B (xs ++ List.replicate n 0)=W.val B xs:=by
 rw [W.val_app,W.val_zeros];simp
theorem bnd_pad {B:Nat} (hB:0 < B) {xs:List Nat} (h:W.bnd B xs) (n:Nat):W.bnd B (xs ++ List.replicate n 0):=by
 refine W.bnd_app h ?_;intro x hx;rw [(List.mem_replicate.1 hx).2];exact hB
theorem copied {w:World} {g N:Nat} {xs:List Nat} {t:TypeId} (h:Arr w g t ((List.map (natV .u64) (List.replicate N 0)).take 0 ++ xs.map (natV .u64) ++ (List.map (natV .u64) (List.replicate N 0)).drop (0+xs.length))):ArrN .u64 w g t (xs ++ List.replicate (N - xs.length) 0):=by
 unfold ArrN;rw [List.map_append];simpa using h
theorem int_addTail {a b:Option Addr} {n c m d:Nat} {xs ys:List Nat} {x y:Nat} {w:World} (hx:SlN .u64 w a n c xs) (hy:SlN .u64 w b m d ys) (nx:Num 18446744073709551616 xs x) (ny:Num 18446744073709551616 ys y) (hmn:m≤n) (hn:n≤1000000) (h0:0 < m) {w1:World} {g:Nat} (hg0:w.heap.size≤g) (hE1:Ext w w1) (hA1:ArrN .u64 w1 g 143 (xs ++ List.replicate 1 0)) :
 Calls Tryz.prog 172 #[.slice (some ⟨g,0,none⟩) (n+1) (n+1), .slice b m d] w1 fun e w'=>e = .returned (.tuple #[])∧Ext w w'∧∃ zs,OwnN .u64 w' w.heap.size 143 g (n+1) (n+1) zs∧W.bnd 18446744073709551616 zs∧W.val 18446744073709551616 zs=x+y:=by
 have hl:(xs ++ List.replicate 1 0).length=n+1:=by simp [hx.len]
 have hO:OwnN .u64 w1 w.heap.size 143 g (n+1) (n+1) (xs ++ List.replicate 1 0):=by
  have:=ArrN.own hA1 hg0 (by rw [hl]; unfold maxLen; omega);rw [hl] at this;exact this
 have hv:W.val 18446744073709551616 (xs ++ List.replicate 1 0)=x:=by rw [val_pad,nx.val]
 refine (int_addInto hO (hy.ext hE1) (Or.inr (hy.fresh hg0 h0)) (bnd_pad (by omega) nx.bnd 1) ny.bnd (by omega) ?_).mono ?_
 · have h1:=W.val_lt nx.bnd;have h2:=W.val_lt ny.bnd;rw [hx.len] at h1;rw [hy.len] at h2;have h3:18446744073709551616^m≤18446744073709551616^n:=Nat.pow_le_pow_right (by omega) hmn;have h4:18446744073709551616^(n+1)=18446744073709551616^n*18446744073709551616:=Nat.pow_succ _ _;rw [val_pad];omega
 · rintro e w2 ⟨rfl,hg,zs,hz,bz,hvz⟩;exact ⟨rfl,hE1.grownR hg hg0,zs,hz,bz,by rw [hvz,hv,ny.val]⟩
theorem int_addWords {a b:Option Addr} {n c m d:Nat} {xs ys:List Nat} {x y:Nat} {w:World} (hx:SlN .u64 w a n c xs) (hy:SlN .u64 w b m d ys) (nx:Num 18446744073709551616 xs x) (ny:Num 18446744073709551616 ys y) (hn:n≤1000000) (hm:m≤1000000) :
 Calls Tryz.prog 151 #[.slice a n c, .slice b m d] w (RetN .u64 18446744073709551616 w (x+y)):=by
 have HX:=Lib.hid hx.len;have HY:=Lib.hid hy.len;have NX:=Lib.hid nx;have NY:=Lib.hid ny;clear nx ny;by_cases hs:n < m
 · go_enter Tryz.func151,Tryz.ntmps151
   by_cases h0:n=0
   · have HZ:Hid (x+y=y):=by
      show _=_;have h1:xs=[]:=List.eq_nil_of_length_eq_zero (by rw [HX.out,h0]);have h2:=NX.out.val;rw [h1] at h2;simp only [W.val] at h2;omega
     subst h0;go_wp2;go_ret;exact ⟨b,m,d,ys,rfl,Ext.refl w,hy,⟨NY.out.bnd,NY.out.nrm,by rw [NY.out.val,HZ.out]⟩⟩
   · have hb0:((n:Int) == 0)=false:=by simp; omega
     have hm0:0 < n:=by omega
     clear h0
     go_upto_region 6 with (at_make; refine wl_mk (n:=m+1) rfl rfl Tryz.underlying88 info_u64 rfl rfl rfl (by omega) (by unfold maxLen; omega) ?_; intro w1 hO1 hE1)
     have hA1:=(OwnN.of_zeros hO1).arr
     go_upto_region 7 with (refine wl_cp (sT:=88) rfl rfl Tryz.underlying88 info_u64 rfl rfl hA1 (hy.ext hE1) (by omega) (by simp) (u64_one _) ?_; intro w2 hB2 hg2)
     have hA2:ArrN .u64 w2 w.heap.size 143 (ys ++ List.replicate 1 0):=by
      rw [←show m+1 - ys.length=1 from by rw [HY.out]; omega];refine copied ?_;rw [HY.out];exact hB2
     have hE2:Ext w w2:=hE1.grownR hg2 (Nat.le_refl _);clear hO1 hE1 hA1 hB2 hg2
     go_wp2_with fail
     refine (int_addTail hy hx NY.out NX.out (by omega) hm hm0 (Nat.le_refl _) hE2 hA2).mono ?_;rintro e w3 ⟨rfl,hE3,zs,hz,bz,hv⟩
     go_wp2_with fail
     refine (int_trim hz.sl).mono ?_;rintro e w4 ⟨q,rfl,rfl,hq,ht⟩;obtain ⟨t1,t2⟩:=trim_num hz.sl hq ht bz hv;go_wp2;go_ret;exact ⟨_,q,_,_,rfl,hE3,t1,by rw [Nat.add_comm]; exact t2⟩
 · go_enter Tryz.func151,Tryz.ntmps151
   by_cases h0:m=0
   · have HZ:Hid (x+y=x):=by
      show _=_;have h1:ys=[]:=List.eq_nil_of_length_eq_zero (by rw [HY.out,h0]);have h2:=NY.out.val;rw [h1] at h2;simp only [W.val] at h2;omega
     subst h0;go_wp2;go_ret;exact ⟨a,n,c,xs,rfl,Ext.refl w,hx,⟨NX.out.bnd,NX.out.nrm,by rw [NX.out.val,HZ.out]⟩⟩
   · have hb0:((m:Int) == 0)=false:=by simp; omega
     have hm0:0 < m:=by omega
     clear h0
     go_upto_region 6 with (at_make; refine wl_mk (n:=n+1) rfl rfl Tryz.underlying88 info_u64 rfl rfl rfl (by omega) (by unfold maxLen; omega) ?_; intro w1 hO1 hE1)
     have hA1:=(OwnN.of_zeros hO1).arr
     go_upto_region 7 with (refine wl_cp (sT:=88) rfl rfl Tryz.underlying88 info_u64 rfl rfl hA1 (hx.ext hE1) (by omega) (by simp) (u64_one _) ?_; intro w2 hB2 hg2)
     have hA2:ArrN .u64 w2 w.heap.size 143 (xs ++ List.replicate 1 0):=by
      rw [←show n+1 - xs.length=1 from by rw [HX.out]; omega];refine copied ?_;rw [HX.out];exact hB2
     have hE2:Ext w w2:=hE1.grownR hg2 (Nat.le_refl _);clear hO1 hE1 hA1 hB2 hg2
     go_wp2_with fail
     refine (int_addTail hx hy NX.out NY.out (by omega) hn hm0 (Nat.le_refl _) hE2 hA2).mono ?_;rintro e w3 ⟨rfl,hE3,zs,hz,bz,hv⟩
     go_wp2_with fail
     refine (int_trim hz.sl).mono ?_;rintro e w4 ⟨q,rfl,rfl,hq,ht⟩;obtain ⟨t1,t2⟩:=trim_num hz.sl hq ht bz hv;go_wp2;go_ret;exact ⟨_,q,_,_,rfl,hE3,t1,by exact t2⟩
theorem int_subtractWords {a b:Option Addr} {n c m d:Nat} {xs ys:List Nat} {x y:Nat} {w:World} (hx:SlN .u64 w a n c xs) (hy:SlN .u64 w b m d ys) (nx:Num 18446744073709551616 xs x) (ny:Num 18446744073709551616 ys y) (hn:n≤1000000) (hle:y≤x) :
 Calls Tryz.prog 152 #[.slice a n c, .slice b m d] w (RetN .u64 18446744073709551616 w (x - y)):=by
 have HX:=Lib.hid hx.len;have HY:=Lib.hid hy.len;have NX:=Lib.hid nx;have NY:=Lib.hid ny;have HLE:=Lib.hid hle;clear nx ny hle
 go_enter Tryz.func152,Tryz.ntmps152
 by_cases h0:m=0
 · have HZ:Hid (x - y=x):=by
    show _=_;have h1:ys=[]:=List.eq_nil_of_length_eq_zero (by rw [HY.out,h0]);have h2:=NY.out.val;rw [h1] at h2;simp only [W.val] at h2;omega
   subst h0;go_wp2;go_ret;exact ⟨a,n,c,xs,rfl,Ext.refl w,hx,⟨NX.out.bnd,NX.out.nrm,by rw [NX.out.val,HZ.out]⟩⟩
 · have hb0:((m:Int) == 0)=false:=by simp; omega
   have hm0:0 < m:=by omega
   have hmn:m≤n:=by
    refine Classical.byContradiction fun hc => ?_;have:=W.len_lt (B:=18446744073709551616) (by omega) NX.out.bnd NY.out.nrm (by rw [HX.out,HY.out]; omega);rw [NX.out.val,NY.out.val] at this;have:=HLE.out;omega
   clear h0
   go_wp2_with fail
   refine (cloneU hx hn (by omega)).mono ?_;rintro e w1 ⟨g,c1,rfl,hE1,hO1⟩;have hlo:=hO1.lo
   go_wp2_with fail
   refine (int_subtractFrom hO1 (hy.ext hE1) (Or.inr (hy.fresh hlo hm0)) NX.out.bnd NY.out.bnd hmn (by rw [NX.out.val,NY.out.val]; exact HLE.out)).mono ?_;rintro e w2 ⟨rfl,hg,zs,hz,bz,hv⟩;rw [NX.out.val,NY.out.val] at hv;have hE2:=hE1.grownR hg hlo
   go_wp2_with fail
   refine (int_trim hz.sl).mono ?_;rintro e w4 ⟨q,rfl,rfl,hq,ht⟩;obtain ⟨t1,t2⟩:=trim_num hz.sl hq ht bz hv;go_wp2;go_ret;exact ⟨_,q,_,_,rfl,hE2,t1,t2⟩
end Go.Proofs.YtlpgonpfjbhmfaaGreatDoor
