/- Part Pz3. -/
import Derived.Test.YtlbmnokpiilfpaaGreatDoorPz2
import Derived.Shelf.Spec.BitsCarry
import Derived.Shelf.Bits.Mul64
import Derived.Shelf.Small.Bits
import Derived.Test.YtlbmnokpiilfpaaGreatDoorProg
import Derived.Deep.QuietTactic
import Derived.BigQuiet
import Derived.WalkSpells
import Derived.Deep.CutBlock
import Derived.Deep.DeepCutAuto
import Derived.Laws.BitsAllLaws
import Derived.Lib.ItoaNum
set_option linter.all false
set_option maxRecDepth 100000
set_option maxHeartbeats 100000000
namespace Go.Proofs.YtlbmnokpiilfpaaGreatDoor
open Go Go.RowKit
def oE:=@Int.add_sub_cancel
def oG:=@Nat.dvd_add_right
def oR:=@nat_join
def pD:=@Nat.le_trans
def pS:=@Nat.lt_of_lt_of_le
def pg:=@List.map_take
def q7:=@Int.natCast_mul
def qE:=@Nat.div_le_self
def qI:=@Int.tdiv_eq_ediv_of_nonneg
def qK:=@Nat.mul_le_mul
def qM:=@Nat.div_add_mod
def qS:=@List.mem_replicate
def qZ:=@Int.toNat_natCast
def qe:=@Int.natCast_add
def qr:=@Nat.two_pow_pos
def r7:=@Nat.zero_mul
def rG:=@Nat.mod_eq_of_lt
def rH:=@Nat.div_eq_of_lt
def rM:=@Nat.mul_add
def rQ:=@Nat.lt_of_mul_lt_mul_right
def re:=@Nat.div_lt_iff_lt_mul
def rh:=@Nat.mul_lt_mul_of_pos_right
def rz:=@IntKind.wrap_u64
def sG:=@Nat.pow_add
def sX:=@Nat.mod_add_div
def tH:=@Nat.mul_add_div
def tN:=@Nat.dvd_mul_left
def v8:=@Nat.mul_add_mod
def vH:=@Nat.eq_of_mul_eq_mul_right
def vV:=@Nat.mul_div_cancel_left
def vm:=@Nat.add_sub_cancel_left
def wQ:=@u64_or_nat
def wW:=@Nat.mul_mod_left
def wY:=@List.length_eq_one_iff
def wh:=@Nat.and_two_pow_sub_one_eq_mod
def wm:=@Int.natCast_ediv
variable {cs:List Value} {base g n:Nat} {row:Option Nat} {e:TypeId} {a b c w w' w0 w1:World}
def BL(k:IntKind)(x:Nat):Value := .int k (x:Int)
def SlN(k:IntKind)(w:World)(a:Option Addr)(n c:Nat)(xs:List Nat):Prop:=Sl w a n c (xs.map (BL k))
def B3(k:IntKind)(w:World)(g:Nat)(t:TypeId)(xs:List Nat):Prop:=Arr w g t (xs.map (BL k))
section
variable {k:IntKind} {w w':World} {a:Option Addr} {n c:Nat} {xs:List Nat}
theorem SlN.ext(h:SlN k w a n c xs)(e:Ext w w'):SlN k w' a n c xs:=Sl.ext h e
theorem SlN.len(h:SlN k w a n c xs):xs.length=n:=by have:=Sl.len h;simpa using this
theorem SlN.le(h:SlN k w a n c xs):n<=9223372036854775807:=by
 have h1:=Sl.cap h;have h2:=Sl.max h;unfold maxLen at h2;omega
theorem SlN.cap(h:SlN k w a n c xs):n<=c:=Sl.cap h
theorem SlN.nil(k:IntKind)(w:World):SlN k w none 0 0 []:=Sl.nil w
theorem SlN.at(h:SlN k w a n c xs){j:Nat}(m:j<n) :
 ∃ b d,a=some ⟨b,d,none⟩/\∀ i,i<n->w.cell? ⟨b,d+i,none⟩=some (.int k ((xs.getD i 0:Nat):Int)):=by
 obtain⟨b,d,f,g⟩:=Sl.rd h (by omega);refine⟨b,d,f,fun i l => ?_⟩;rw[g i l];have o:=h.len;have e:i<xs.length:=by omega
 simp[e,BL]
theorem SlN.upto(h:SlN k w a n c xs){m:Nat}(b:m<=n):SlN k w a m c (xs.take m):=by
 have:=Sl.upto h b
 rwa[<-pg]at this
theorem Sl.keptR(h:Sl w a n c cs)(j:w.grownBy w' row)(d:blk a=none\/blk a≠row):Sl w' a n c cs:=by
 refine⟨h.len,h.cap,h.max,fun h0 => ?_⟩;obtain⟨b,e,rfl,g⟩:=h.rd h0;refine⟨b,e,rfl,fun i k => ?_⟩;have h1:=g i k;have f:b<w.heap.size:=qV w ⟨b,e+i,none⟩ h1;rcases d with d|d
 · simp[blk]at d
 · rw[sc (w:=w) (j.block b f d),h1]
theorem SlN.kept(h:SlN k w a n c xs)(d:w.grownBy w' row)(b:blk a=none\/blk a≠row):SlN k w' a n c xs:=Sl.keptR h d b
theorem SlN.fresh(h:SlN k w0 a n c xs){g:Nat}(i:w0.heap.size<=g)(h0:0<n):blk a≠some g:=by
 obtain⟨b,d,rfl,e⟩:=Sl.rd h h0;have f:b<w0.heap.size:=qV w0 ⟨b,d+0,none⟩ (e 0 h0);simp[blk];omega
end
section
variable {k:IntKind} {w w':World} {g:Nat} {t:TypeId} {xs:List Nat}
theorem B3.lt(h:B3 k w g t xs):g<w.heap.size:=Arr.lt h
theorem B3.cell(h:B3 k w g t xs){i:Nat}(hi:i<xs.length):w.cell? ⟨g,i,none⟩=some (.int k ((xs.getD i 0:Nat):Int)):=by
 rw[Arr.cell h (by simpa using hi)];simp[hi,BL]
theorem B3.frozen(h:B3 k w g t xs)(i:Nat):w.frozen? ⟨g,i,none⟩=false:=Arr.frozen h i
theorem B3.set(h:B3 k w g t xs)(i:Nat)(v:Nat):B3 k (w.setCell ⟨g,i,none⟩ (.int k (v:Int))) g t (xs.set i v):=by
 have:=Arr.set h i (BL k v)
 rwa[<-tU]at this
theorem B3.drewN(h:B3 k w g t xs)(n:Nat):B3 k (w.drewN n) g t xs:=Arr.drewN h n
theorem B3.ext(h:B3 k w g t xs)(e:Ext w w'):B3 k w' g t xs:=Arr.ext h e
theorem B3.alloc(h:B3 k w g t xs)(o:Obj):B3 k (w.alloc o) g t xs:=Arr.alloc h o
theorem B3.kept{row:Option Nat}(h:B3 k w g t xs)(a:w.grownBy w' row)(b:some g≠row):B3 k w' g t xs:=Arr.kept h a b
theorem B3.part(h:B3 k w g t xs){o n c:Nat}(e:o+n<=xs.length)(a:n<=c)(d:c<=maxLen):SlN k w (some ⟨g,o,none⟩) n c ((xs.drop o).take n):=by
 refine⟨by simp;omega,a,d,fun _=>⟨g,o,rfl,fun i b => ?_⟩⟩;rw[h.cell (i:=o+i) (by omega)];have h1:i<n:=b;have h2:o+i<xs.length:=by omega
 simp[h1,h2,BL]
theorem B3.sl(h:B3 k w g t xs){n c:Nat}(d:n<=xs.length)(a:n<=c)(b:c<=maxLen):SlN k w (some ⟨g,0,none⟩) n c (xs.take n):=by
 have:=h.part (o:=0) (n:=n) (by omega) a b;simpa using this
end
theorem Own.arr(h:Own w base e (some ⟨g,0,none⟩) n n cs):Arr w g e cs:=by
 have k:=h.len;rcases h.2 with⟨a,_⟩|⟨j,c,b,a,_,d,_,_,f,i⟩
 · simp at a
 · simp only[pI,pz,qq,qO,tP]at a;obtain⟨rfl,rfl⟩:=a;unfold Arr;rw[d];have:b.toList=cs:=by
    rw[<-i];exact(pu (by simp[f])).symm
   rw[<-this]
structure Num(B:Nat)(xs:List Nat)(v:Nat):Prop where
 bnd:W.bnd B xs
 nrm:W.nrm xs
 val:W.val B xs=v
theorem Num.nil(B:Nat):Num B [] 0:=⟨fun x a=>(by simp at a),W.nrm_nil,rfl⟩
theorem Num.trim{B:Nat}{xs:List Nat}{v:Nat}(h:W.bnd B xs)(a:W.val B xs=v):Num B (W.trim xs) v:=⟨W.bnd_trim h,W.trim_nrm xs,by rw[W.trim_val];exact a⟩
def Hy(k:IntKind)(B:Nat)(w:World)(v:Nat)(e:Ending)(w':World):Prop:=∃ a n c xs,e = .returned (.slice a n c)/\Ext w w'/\SlN k w' a n c xs/\Num B xs v
def Az(k:IntKind)(w:World)(base:Nat)(e:TypeId)(g n c:Nat)(xs:List Nat):Prop:=Own w base e (some ⟨g,0,none⟩) n c (xs.map (BL k))
section
variable {k:IntKind} {w w':World} {base:Nat} {e:TypeId} {g n c:Nat} {xs:List Nat}
theorem Az.len(h:Az k w base e g n c xs):xs.length=n:=by have:=Own.len h;simpa using this
theorem Az.le(h:Az k w base e g n c xs):n<=9223372036854775807:=by
 have h1:=Own.cap h;have h2:=(Own.sl h).max;unfold maxLen at h2;omega
theorem Az.lo(h:Az k w base e g n c xs):base<=g:=(Own.lt h (k:=g) rfl).1
theorem Az.lt(h:Az k w base e g n c xs):g<w.heap.size:=(Own.lt h (k:=g) rfl).2
theorem Az.cell(h:Az k w base e g n c xs){i:Nat}(hi:i<n):w.cell? ⟨g,i,none⟩=some (.int k ((xs.getD i 0:Nat):Int)):=by
 have b:=h.len;have a:i<xs.length:=by omega
 rw[Own.cellAt h hi];simp[a,BL]
theorem Az.frozen(h:Az k w base e g n c xs)(i:Nat):w.frozen? ⟨g,i,none⟩=false:=Own.frozenAt h i
theorem Az.set(h:Az k w base e g n c xs)(i v:Nat):Az k (w.setCell ⟨g,i,none⟩ (.int k (v:Int))) base e g n c (xs.set i v):=by
 have:=Own.stored h i (BL k v)
 rwa[<-tU]at this
theorem Az.ext(h:Az k w base e g n c xs)(x:Ext w w'):Az k w' base e g n c xs:=Own.ext h x
theorem Az.drewN(h:Az k w base e g n c xs)(m:Nat):Az k (w.drewN m) base e g n c xs:=Own.drewN h m
theorem Az.mono{a:Nat}(h:Az k w base e g n c xs)(b:a<=base):Az k w a e g n c xs:=Own.mono h b
theorem Az.kept{row:Option Nat}(h:Az k w base e g n c xs)(b:w.grownBy w' row)(a:some g≠row):Az k w' base e g n c xs:=Own.kept h b (Or.inr a)
theorem Az.sl(h:Az k w base e g n c xs):SlN k w (some ⟨g,0,none⟩) n c xs:=Own.sl h
theorem Az.of_zeros(h:Own w base e (some ⟨g,0,none⟩) n c (List.replicate n (.int k 0))):Az k w base e g n c (List.replicate n 0):=by
 unfold Az;rw[tV];exact h
theorem Az.arr(h:Az k w base e g n n xs):B3 k w g e xs:=Own.arr h
theorem B3.own(h:B3 k w g e xs)(a:base<=g)(b:xs.length<=maxLen):Az k w base e g xs.length xs.length xs:=by
 refine⟨by simp,Or.inr ⟨g,xs.length,(xs.map (BL k)).toArray,rfl,a,h,lrf _,b,by simp,?_⟩⟩;rw[sH];exact pu (by simp)
end
theorem C8(w:World)(row:Option Nat):w.grownBy w row:=vR w row
theorem JI(h:a.grownBy b row)(k:b.grownBy c row):a.grownBy c row :=
 ⟨k.os.trans h.os,k.tape.trans h.tape,k.output.trans h.output,pD h.size k.size,fun i e d=>(k.block i (pS e h.size) d).trans (h.block i e d)⟩
theorem Hz(h:a.grownBy b row)(k:Ext b c):a.grownBy c row :=
 ⟨k.os.trans h.os,k.tape.trans h.tape,k.output.trans h.output,pD h.size k.size,fun i e d=>(k.block (pS e h.size)).trans (h.block i e d)⟩
theorem DP(h:a.grownBy b (some g))(j:Nat)(u:Value):a.grownBy (b.setCell ⟨g,j,none⟩ u) (some g):=JI h (Ar b g j u)
theorem Ext.grownR(h:Ext w w1)(a:w1.grownBy w' (some g))(c:w.heap.size<=g):Ext w w':=h.grown a (fun k b=>by simp only[pz]at b;omega)
end Go.Proofs.YtlbmnokpiilfpaaGreatDoor
namespace Go.Proofs.YtlbmnokpiilfpaaGreatDoor
open Go.Shelf
def PY:Go.Shelf.Ren:=⟨fun | 25=>300 | n=>n,fun | 22=>238 | n=>n,fun | n=>n⟩
theorem W4:Go.Proofs.Lays7.n25 Tryz.prog PY:={
 mixed:=by kernel_rfl
 f25:=Tryz.func300.trans (q9 some (by kernel_rfl))
 t22:=Tryz.underlying238
 a22:=Tryz.isAgg238
 z22:=Tryz.sizeOf238
 v22:=Tryz.zeroValue238
 i22:=by kernel_rfl }
def PZ:Go.Shelf.Ren:=⟨fun | 26=>291 | n=>n,fun | 22=>238 | n=>n,fun | n=>n⟩
theorem W5:Go.Proofs.Lays7.n26 Tryz.prog PZ:={
 mixed:=by kernel_rfl
 f26:=Tryz.func291.trans (q9 some (by kernel_rfl))
 t22:=Tryz.underlying238
 a22:=Tryz.isAgg238
 z22:=Tryz.sizeOf238
 v22:=Tryz.zeroValue238
 i22:=by kernel_rfl }
def P0:Go.Shelf.Ren:=⟨fun | 264=>301 | n=>n,fun | 53=>238 | 46=>222 | n=>n,fun | n=>n⟩
theorem W6:Go.Proofs.Lays.n264 Tryz.prog P0:={
 mixed:=by kernel_rfl
 f264:=Tryz.func301.trans (q9 some (by kernel_rfl))
 t46:=Tryz.underlying222
 a46:=Tryz.isAgg222
 z46:=Tryz.sizeOf222
 v46:=Tryz.zeroValue222
 t53:=Tryz.underlying238
 a53:=Tryz.isAgg238
 z53:=Tryz.sizeOf238
 v53:=Tryz.zeroValue238 }
def Sr:Go.Shelf.Ren:=⟨fun | 134=>287 | 129=>253 | n=>n,fun | 53=>238 | 3=>3 | 4=>4 | 46=>222 | 5=>5 | 9=>9 | n=>n,fun | n=>n⟩
theorem X5:Go.Proofs.Lays.n134 Tryz.prog Sr:={
 mixed:=by kernel_rfl
 f129:=Tryz.func253.trans (q9 some (by kernel_rfl))
 f134:=Tryz.func287.trans (q9 some (by kernel_rfl))
 t3:=Tryz.underlying3
 a3:=Tryz.isAgg3
 z3:=Tryz.sizeOf3
 v3:=Tryz.zeroValue3
 t4:=Tryz.underlying4
 a4:=Tryz.isAgg4
 z4:=Tryz.sizeOf4
 v4:=Tryz.zeroValue4
 t5:=Tryz.underlying5
 a5:=Tryz.isAgg5
 z5:=Tryz.sizeOf5
 v5:=Tryz.zeroValue5
 t9:=Tryz.underlying9
 a9:=Tryz.isAgg9
 z9:=Tryz.sizeOf9
 v9:=Tryz.zeroValue9
 t46:=Tryz.underlying222
 a46:=Tryz.isAgg222
 z46:=Tryz.sizeOf222
 v46:=Tryz.zeroValue222
 t53:=Tryz.underlying238
 a53:=Tryz.isAgg238
 z53:=Tryz.sizeOf238
 v53:=Tryz.zeroValue238 }
end Go.Proofs.YtlbmnokpiilfpaaGreatDoor
namespace Go.Proofs.YtlbmnokpiilfpaaGreatDoor
open Tryz Go Go.RowKit
variable {l xs ys zs zs':List Nat} {B C M N U V Y b' base bytes c c' cy d g hi i k lo m n o r s u v wd x y:Nat} {a b:Option Addr} {P:Program} {e t:TypeId} {z:Value} {w w':World}
theorem AK:Ca prog 238 (.int .u64 0) 8:=by unfold Ca;kernel_rfl
theorem Cz(x y c:Nat)(a:c<=1)(w:World):(callFunc 300 #[.int .u64 x,.int .u64 y,.int .u64 c]).run prog w = .ok (.value (.tuple #[.int .u64 (((x+y+c)%18446744073709551616:Nat):Int),.int .u64 (((x+y+c)/18446744073709551616:Nat):Int)])) w:=Any7.bits_Add64 W4 x y c a w
theorem Df(x y c:Nat)(a:c<=1)(w:World):(callFunc 291 #[.int .u64 x,.int .u64 y,.int .u64 c]).run prog w = .ok (.value (.tuple #[.int .u64 (((x+18446744073709551616-y-c)%18446744073709551616:Nat):Int),.int .u64 ((if x<y+c then 1 else 0:Nat):Int)])) w:=Any7.bits_Sub64 W5 x y c a w
theorem Bq(g:SlN .u64 w a n c xs) :
 Calls prog 231 #[.slice a n c] w fun e A=>∃ m,e = .returned (.slice a m c)/\w=A/\m<=n/\W.trim xs=xs.take m:=by
 have q:=lz g.len;have t:=g.le;have p:=g.cap
 go_enter func231,ntmps231
 go_wp2
 go_loop[3] (fun v=>∃ k:Nat,k<=n/\v = .int .i64 k/\Hid (W.trim xs=W.trimTo xs k)) (fun v=>(intOf v).toNat)
 case atStart=>exact⟨n,lrf _,rfl,lz (by unfold W.trim;rw[q.out])⟩
 case round =>
  obtain⟨k,C,rfl,i⟩:=hrel;have x:=fun B:World=>Fc (P:=prog) (w:=B) (a:=a) (n:=n) underlying81 AK (k:=k) (c:=c) (by omega);cases k with
  | zero =>
   go_wp2;go_ret;exact⟨0,rfl,rfl,by omega,by rw[i.out];rfl⟩
  | succ k =>
   obtain⟨b,o,rfl,l⟩:=g.at (j:=k) (by omega);have r:=l k (by omega);have D:IntKind.i64.wrap ((k:Int)+1-1)=k:=by rw[oE];exact pq _ (by omega)
   have z:IntKind.i64.wrap (k:Int)=k:=pq _ (by omega);by_cases f:xs.getD k 0=0
   · have d:Hid (W.trim xs=W.trimTo xs k):=by
      show _=_;rw[i.out];exact pP f
     rw[f]at r;clear f l;go_wp2;go_round
     case rel=>exact⟨k,by omega,rfl,d⟩
     case measure=>simp[intOf]
   · have d:Hid (W.trim xs=xs.take (k+1)):=by
      show _=_;rw[i.out];exact pC f
     have s:(((xs.getD k 0:Nat):Int) == 0)=false:=by simpa using f
     generalize xs.getD k 0=y at *
     clear f l;go_wp2;go_ret;exact⟨k+1,rfl,rfl,by omega,d.out⟩
theorem BE(g:SlN .u64 w a n c xs)(d:m<=n)(e:W.trim xs=xs.take m)(b:W.bnd 18446744073709551616 xs)(f:W.val 18446744073709551616 xs=v):SlN .u64 w a m c (W.trim xs)/\Num 18446744073709551616 (W.trim xs) v :=
 ⟨by rw[e];exact g.upto d,Num.trim b f⟩
def Src(w:World)(S:Nat->Prop)(a:Option Addr):Prop:=∀ g,blk a=some g->w.heap.size<=g\/S g
def Hg(b:Nat)(S:Nat->Prop)(a:Option Addr)(n:Nat):Prop:=0<n->∀ g,blk a=some g->b<=g\/S g
theorem Hg.of{b:Nat}{S S':Nat->Prop}(h:Hg b S a n)(d:b'<=b)(c:∀ g,S g->b'<=g\/S' g):Hg b' S' a n:=fun h0 g e=>(h h0 g e).elim (fun h=>Or.inl (pD d h)) (c g)
def Un(k:IntKind)(B:Nat)(w:World)(S:Nat->Prop)(v:Nat)(e:Ending)(w':World):Prop:=∃ a n c xs,e = .returned (.slice a n c)/\Ext w w'/\SlN k w' a n c xs/\Num B xs v/\Src w S a
theorem Un.plain{k:IntKind}{S:Nat->Prop}{e:Ending}(h:Un k B w S v e w'):Hy k B w v e w':=by
 obtain⟨a,n,c,b,h1,h2,h3,h4,_⟩:=h;exact⟨a,n,c,b,h1,h2,h3,h4⟩
theorem Ct(b:x<18446744073709551616):Calls prog 217 #[.int .u64 x] w (Un .u64 18446744073709551616 w (fun _=>False) x):=by
 by_cases h0:x=0
 · subst h0
   go_enter func217,ntmps217
   go_wp2;go_ret;exact⟨none,0,0,[],rfl,Ext.refl w,SlN.nil _ _,Num.nil _,fun _ h=>by cases h⟩
 · have c:((x:Int) == 0)=false:=by simpa using h0
   go_enter func217,ntmps217
   go_wp2;go_ret;refine⟨_,1,1,[x],rfl,(Ext.refl w).alloc _,(AB w w.heap.size 238 #[.int .u64 x] 1 rfl (lrf _) (by omega)).sl,⟨?_,W.nrm_single h0,by simp[W.val]⟩,fun g h=>Or.inl (by cases h;exact lrf _)⟩;intro y a;simp only[pF]at a;subst a;exact b
theorem DJ(a:x<18446744073709551616):Calls prog 217 #[.int .u64 x] w (Hy .u64 18446744073709551616 w x) :=
 (Ct a).mono fun _ _ h=>h.plain
theorem GA(x:Int)(w:World):Calls prog 310 #[.int .u64 x] w fun e a=>e = .returned (.bool false)/\w=a:=by
 have h:(x != x)=false:=by simp
 go_enter func310,ntmps310
 go_wp2;go_ret;exact⟨rfl,rfl⟩
theorem GB(x:Int)(w:World):Calls prog 254 #[.int .i64 x] w fun e a=>e = .returned (.bool false)/\w=a:=by
 have h:(x != x)=false:=by simp
 go_enter func254,ntmps254
 go_wp2;go_ret;exact⟨rfl,rfl⟩
def AZ(x y:Int):Int:=if x<y then -1 else if y<x then 1 else 0
theorem M0(x y:Int)(w:World):Calls prog 281 #[.int .u64 x,.int .u64 y] w fun e b=>e = .returned (.int .i64 (AZ x y))/\w=b:=by
 by_cases h1:x<y
 · have H:Hid (AZ x y = -1):=by show _=_;simp[AZ,h1]
   go_enter func281,ntmps281
   go_wp2_with(go_at_call 310;refine(GA _ _).mono ?_;rintro e a ⟨rfl,rfl⟩)
   go_ret;exact⟨DF H.out,rfl⟩
 · by_cases h2:y<x
   · have H:Hid (AZ x y=1):=by show _=_;simp[AZ,h1,h2]
     go_enter func281,ntmps281
     go_wp2_with(go_at_call 310;refine(GA _ _).mono ?_;rintro e a ⟨rfl,rfl⟩)
     go_ret;exact⟨DF H.out,rfl⟩
   · have H:Hid (AZ x y=0):=by show _=_;simp[AZ,h1,h2]
     go_enter func281,ntmps281
     go_wp2_with(go_at_call 310;refine(GA _ _).mono ?_;rintro e a ⟨rfl,rfl⟩)
     go_ret;exact⟨DF H.out,rfl⟩
theorem M1(x y:Int)(w:World):Calls prog 207 #[.int .i64 x,.int .i64 y] w fun e b=>e = .returned (.int .i64 (AZ x y))/\w=b:=by
 by_cases h1:x<y
 · have H:Hid (AZ x y = -1):=by show _=_;simp[AZ,h1]
   go_enter func207,ntmps207
   go_wp2_with(go_at_call 254;refine(GB _ _).mono ?_;rintro e a ⟨rfl,rfl⟩)
   go_ret;exact⟨DF H.out,rfl⟩
 · by_cases h2:y<x
   · have H:Hid (AZ x y=1):=by show _=_;simp[AZ,h1,h2]
     go_enter func207,ntmps207
     go_wp2_with(go_at_call 254;refine(GB _ _).mono ?_;rintro e a ⟨rfl,rfl⟩)
     go_ret;exact⟨DF H.out,rfl⟩
   · have H:Hid (AZ x y=0):=by show _=_;simp[AZ,h1,h2]
     go_enter func207,ntmps207
     go_wp2_with(go_at_call 254;refine(GB _ _).mono ?_;rintro e a ⟨rfl,rfl⟩)
     go_ret;exact⟨DF H.out,rfl⟩
theorem M2(g:xs.length=ys.length)(hi:i<xs.length)(f:xs.drop (i+1)=ys.drop (i+1))(e:W.bnd B xs)(a:xs.getD i 0<ys.getD i 0):W.val B xs<W.val B ys:=by
 have b:=W.val_split (B:=B) xs (i+1) (by omega);have c:=W.val_split (B:=B) ys (i+1) (by omega);rw[W.val_take_succ hi]at b;rw[W.val_take_succ (by omega)]at c;have d:=W.val_lt (W.bnd_take e i);rw[qg,rA (by omega)]at d;rw[b,c,f];have h1:B^i*(xs.getD i 0+1)<=B^i*ys.getD i 0:=qp _ a;have h2:B^i*(xs.getD i 0+1)=B^i*xs.getD i 0+B^i:=by rw[rM,sH]
 omega
theorem G7{x y:Int}(h:x<y):AZ x y = -1:=by simp[AZ,h]
theorem G8{x y:Int}(h:y<x):AZ x y=1:=by
 have:¬ x<y:=by omega
 simp[AZ,h,this]
theorem Q9(x:Int):AZ x x=0:=by simp[AZ]
theorem Jn(h:x≠y):(x<y/\AZ x y = -1)\/(y<x/\AZ x y=1):=by
 rcases Nat.lt_or_gt_of_ne h with h1|h1
 · exact Or.inl ⟨h1,G7 (by omega)⟩
 · exact Or.inr ⟨h1,G8 (by omega)⟩
theorem Kh{a b:Nat}(h:a≠b):((a:Int) != (b:Int))=true:=by simp;omega
theorem Ox{a b:Nat}(h:a=b):((a:Int) != (b:Int))=false:=by simp[h]
theorem Ki{a b:Nat}(h:a≠b):((a:Int) == (b:Int))=false:=by simp;omega
theorem W8(x y:Int)(w:World):Calls prog 281 #[.int .u64 x,.int .u64 y] w fun e a=>e = .returned (.int .i64 (AZ x y))/\Qt w a :=
 (M0 x y w).mono fun _ _ ⟨h1,h2⟩=>⟨h1,h2 ▸ Qt.refl _⟩
theorem Bl(H:SlN .u64 w a n c xs)(I:SlN .u64 w b m d ys)(L:Num 18446744073709551616 xs x)(M:Num 18446744073709551616 ys y) :
 Calls prog 232 #[.slice a n c,.slice b m d] w fun e V=>e = .returned (.int .i64 (AZ x y))/\Qt w V:=by
 have g:=lz H.len;have i:=lz I.len;have U:=H.le;have T:=I.le;have o:=lz L;have p:=lz M;clear L M;by_cases t:n=m
 · have F:((n:Int) != (m:Int))=false:=by simp[t]
   have A:=lz t;clear t
   go_enter func232,ntmps232
   go_wp2
   go_loopw[5] (fun v wr=>∃ k:Nat,k<=n/\v = .int .i64 ((k:Int)-1)/\Qt w wr/\Hid (xs.drop k=ys.drop k)) (fun v _=>(intOf v+1).toNat)
   case atStart=>exact⟨n,lrf _,by go_num,Qt.refl _,lz (by rw[qm (by rw[g.out];exact lrf _),qm (by rw[i.out,A.out];exact lrf _)])⟩
   case round =>
    obtain⟨k,Z,rfl,s,z⟩:=hrel;cases k with
    | zero =>
     have N:Hid (x=y):=by
      have:=z.out;rw[qN,qN]at this;show x=y;rw[<-o.out.val,<-p.out.val,this]
     go_wp2;go_ret;exact⟨DF (by rw[N.out,Q9]),s⟩
    | succ k =>
     have f:k<m:=by have:=A.out;omega
     obtain⟨X,o1,rfl,q⟩:=(H.ext s.ext).at (j:=k) (by omega);obtain⟨Y,o2,rfl,r⟩:=(I.ext s.ext).at (j:=k) f;have J:=q k (by omega);have K:=r k f;have G:((k+1:Nat):Int)-1=k:=by omega
     rw[G];by_cases he:xs.getD k 0=ys.getD k 0
     · have Q:(((xs.getD k 0:Nat):Int) != ((ys.getD k 0:Nat):Int))=false:=Ox he;have D:Hid (xs.drop k=ys.drop k):=by
        show _=_;rw[qo (l:=xs) (by rw[g.out];omega),qo (l:=ys) (by rw[i.out];exact f),z.out];simp only[gqq,oO (show k<xs.length by rw[g.out];omega),oO (show k<ys.length by rw[i.out];exact f),pY]at he;rw[he]
       generalize xs.getD k 0=u at *
       generalize ys.getD k 0=v at *
       clear he q r;go_wp2
       go_quiet (fail)
       go_wp2;go_roundw
       case rel=>exact⟨k,by omega,by go_num,s.drewN _,D⟩
       case measure=>simp[intOf]
     · have Q:(((xs.getD k 0:Nat):Int) != ((ys.getD k 0:Nat):Int))=true:=Kh he;have C:Hid (AZ x y=AZ ((xs.getD k 0:Nat):Int) ((ys.getD k 0:Nat):Int)):=by
        show _=_;rcases Jn he with⟨h1,h2⟩|⟨h1,h2⟩
        · have:=M2 (B:=18446744073709551616) (by rw[g.out,i.out,A.out]) (by rw[g.out];omega) z.out o.out.bnd h1;rw[o.out.val,p.out.val]at this;rw[h2,G7 (by omega)]
        · have:=M2 (B:=18446744073709551616) (xs:=ys) (ys:=xs) (by rw[g.out,i.out,A.out]) (by rw[i.out];omega) z.out.symm p.out.bnd h1;rw[o.out.val,p.out.val]at this;rw[h2,G8 (by omega)]
       generalize xs.getD k 0=u at *
       generalize ys.getD k 0=v at *
       clear he q r;have S:(k:Int)<n:=by omega
       have R:(k:Int)<m:=by omega
       go_wp2
       go_quiet (fail)
       go_wp2;have O:(wr.drewN nq).cell? _=_:=J;have P:(wr.drewN nq).cell? _=_:=K;have E:=s.drewN nq;generalize wr.drewN nq=wq at *
       clear J K
       go_quiet ((go_at_call 281;exact sV (W8 _ _ _)))
       go_wp2;go_ret;exact⟨DF C.out,E.drewN _⟩
 · have F:((n:Int) != (m:Int))=true:=by simp;omega
   have C:Hid (AZ x y=AZ n m):=by
    show _=_;rcases Jn t with⟨h1,h2⟩|⟨h1,h2⟩
    · have:=W.len_lt (B:=18446744073709551616) (by omega) o.out.bnd p.out.nrm (by rw[g.out,i.out];exact h1);rw[o.out.val,p.out.val]at this;rw[h2,G7 (by omega)]
    · have:=W.len_lt (B:=18446744073709551616) (by omega) p.out.bnd o.out.nrm (by rw[g.out,i.out];exact h1);rw[o.out.val,p.out.val]at this;rw[h2,G8 (by omega)]
   clear t
   go_enter func232,ntmps232
   go_wp2_with fail
   refine(M1 _ _ _).mono ?_;rintro e w1 ⟨rfl,rfl⟩;go_wp2;go_ret;exact⟨DF C.out,Qt.refl _⟩
theorem W9:(x+y+c)%18446744073709551616+18446744073709551616*((x+y+c)/18446744073709551616)=x+y+c:=sX _ _
theorem X6(b:x<18446744073709551616)(d:y<18446744073709551616)(a:c<=1):(x+y+c)/18446744073709551616<=1:=by omega
theorem TM(b:x<18446744073709551616)(d:y<18446744073709551616)(a:c<=1):(x+18446744073709551616-y-c)%18446744073709551616+y+c=x+18446744073709551616*(if x<y+c then 1 else 0):=by
 split <;> omega
theorem Ss:(if x<y+c then 1 else 0)<=1:=by split <;> omega
theorem Oy(T:Az .u64 w base 238 g n c xs)(U:SlN .u64 w b m d ys)(R:blk b=none\/blk b≠some g)(bx:W.bnd 18446744073709551616 xs)(F:W.bnd 18446744073709551616 ys)(Q:m<=n)(t:W.val 18446744073709551616 xs+W.val 18446744073709551616 ys<18446744073709551616^n) :
 Calls prog 266 #[.slice (some ⟨g,0,none⟩) n c,.slice b m d] w fun e Y=>e = .returned (.tuple #[])/\w.grownBy Y (some g)/\∃ a,Az .u64 Y base 238 g n c a/\W.bnd 18446744073709551616 a/\W.val 18446744073709551616 a=W.val 18446744073709551616 xs+W.val 18446744073709551616 ys:=by
 have HX:=lz T.len;have M:=lz U.len;have a3:=T.le;have a2:=U.le;have Z:=lz F;have HF:=lz t;clear F t
 go_enter func266,ntmps266
 go_wp2
 go_loopw[4,10] (fun O D wr=>∃ (k o:Nat) (a:List Nat),O = .int .u64 o/\D = .int .i64 k/\k<=m/\o<=1/\w.grownBy wr (some g)/\Az .u64 wr base 238 g n c a/\W.bnd 18446744073709551616 a/\Hid (W.val 18446744073709551616 a+o*18446744073709551616^k=W.val 18446744073709551616 xs+W.val 18446744073709551616 (ys.take k))) (fun _ D _=>m-(intOf D).toNat)
 case atStart=>exact⟨0,0,xs,rfl,rfl,pE _,by omega,C8 _ _,T,bx,lz (by simp[W.val])⟩
 case round =>
  obtain⟨k,o,a,rfl,rfl,X,q,A,p,r,z⟩:=hrel;by_cases f:k<m
  · obtain⟨b1,o1,rfl,H⟩:=(U.kept A R).at (j:=k) f;have g1:=H k f;have g2:=p.cell (i:=k) (by omega);have g3:=p.frozen k;have C:=W.bnd_at r (i:=k) (by rw[p.len];omega);have V:=W.bnd_at Z.out (i:=k) (by rw[M.out];exact f);have L:=lz (W.add_step (B:=18446744073709551616) (l:=a) (ys:=ys) (k:=k) (by rw[p.len];omega) (by rw[M.out];exact f) z.out (W9 (x:=a.getD k 0) (y:=ys.getD k 0) (c:=o)));have G:=Cz (a.getD k 0) (ys.getD k 0) o q;have P:=X6 C V q;have a1:(k:Int)<n:=by omega
    generalize a.getD k 0=u at *
    generalize ys.getD k 0=v at *
    have S:(u+v+o)%18446744073709551616<18446744073709551616:=qf _ (by omega);generalize (u+v+o)%18446744073709551616=s at *
    generalize (u+v+o)/18446744073709551616=N at *
    clear H;go_wp2;go_roundw
    case rel=>exact⟨k+1,N,a.set k s,rfl,by go_num,by omega,P,DP A _ _,p.set k s,W.bnd_set r S,L⟩
    case measure=>simp[intOf];omega
  · have J:k=m:=by omega
    have E:Hid (W.val 18446744073709551616 a+o*18446744073709551616^m=W.val 18446744073709551616 xs+W.val 18446744073709551616 ys):=by
     have:=z.out;rw[J,pu (by rw[M.out];exact lrf _)]at this;exact this
    clear z J;go_wp2
    go_loopw[4,7] (fun O D wr=>∃ (k o:Nat) (a:List Nat),O = .int .u64 o/\D = .int .i64 k/\m<=k/\k<=n/\o<=1/\w.grownBy wr (some g)/\Az .u64 wr base 238 g n c a/\W.bnd 18446744073709551616 a/\Hid (W.val 18446744073709551616 a+o*18446744073709551616^k=W.val 18446744073709551616 xs+W.val 18446744073709551616 ys)) (fun _ D _=>n-(intOf D).toNat)
    case atStart=>exact⟨m,o,a,rfl,rfl,lrf _,Q,q,A,p,r,E⟩
    case round =>
     clear A p r E f X q;obtain⟨k,o,a,rfl,rfl,a0,X,q,A,p,r,z⟩:=hrel;have I:o=0\/o=1:=by omega
     rcases I with rfl|rfl
     · go_wp2
       go_end0
       exact⟨rfl,A,a,p,r,by have:=z.out;rw[r7,qy]at this;exact this⟩
     · by_cases f:k<n
       · have g2:=p.cell (i:=k) f;have g3:=p.frozen k;have C:=W.bnd_at r (i:=k) (by rw[p.len];exact f);have L:=lz (W.add_step0 (B:=18446744073709551616) (l:=a) (k:=k) (s:=(a.getD k 0+0+1)%18446744073709551616) (c':=(a.getD k 0+0+1)/18446744073709551616) (by rw[p.len];exact f) z.out (by rw[W9]))
         have G:∀ K:World,(callFunc 300 #[.int .u64 ((a.getD k 0:Nat):Int),.int .u64 0,.int .u64 1]).run prog K = .ok (.value (.tuple #[.int .u64 (((a.getD k 0+0+1)%18446744073709551616:Nat):Int),.int .u64 (((a.getD k 0+0+1)/18446744073709551616:Nat):Int)])) K:=fun K=>Cz (a.getD k 0) 0 1 (by omega) K;have P:=X6 C (y:=0) (c:=1) (by omega) (by omega);have S:(a.getD k 0+0+1)%18446744073709551616<18446744073709551616:=qf _ (by omega);generalize (a.getD k 0+0+1)%18446744073709551616=s at *
         generalize (a.getD k 0+0+1)/18446744073709551616=N at *
         generalize a.getD k 0=u at *
         go_wp2;go_roundw
         case rel=>exact⟨k+1,N,a.set k s,rfl,by go_num,by omega,by omega,P,DP A _ _,p.set k s,W.bnd_set r S,L⟩
         case measure=>simp[intOf];omega
       · exfalso;have J:k=n:=by omega
         have h1:=z.out;have h2:=HF.out;rw[J]at h1;omega
theorem CH(k:P.underlying t=some (.slice e))(a:Ca P e z bytes)(h1:lo<=hi)(h2:hi<=c)(h3:lo<c) :
 (Instr.sliceAt t (.slice (some ⟨g,0,none⟩) n c) (some (.int .i64 lo)) (some (.int .i64 hi)) none).run P w = .ok (.slice (some ⟨g,lo,none⟩) (hi-lo) (c-lo)) w:=by
 obtain⟨i,d,l,b,j⟩:=vw a;have e0:¬ c=lo:=by omega
 have f:Addr.add ⟨g,0,none⟩ lo=⟨g,lo,none⟩:=by
  unfold Addr.add;by_cases h0:lo=0 <;> simp[h0]
 have m:(lo:Int)<=hi:=by omega
 have o:(hi:Int)<=c:=by omega
 simp[Instr.sliceAt,Instr.slice,Instr.sliceBounds,Instr.sliceBound,qF k,asIntOf,sizeOf,typeInfo,d,b,h1,h2,e0,f]
theorem Yp(a:x<18446744073709551616):(x+18446744073709551616-0-1)%18446744073709551616+1=x+18446744073709551616*(if x<0+1 then 1 else 0):=by
 split <;> omega
theorem EM(T:Az .u64 w base 238 g n c xs)(U:SlN .u64 w b m d ys)(R:blk b=none\/blk b≠some g)(bx:W.bnd 18446744073709551616 xs)(F:W.bnd 18446744073709551616 ys)(Q:m<=n)(t:W.val 18446744073709551616 ys<=W.val 18446744073709551616 xs) :
 Calls prog 282 #[.slice (some ⟨g,0,none⟩) n c,.slice b m d] w fun e Y=>e = .returned (.tuple #[])/\w.grownBy Y (some g)/\∃ a,Az .u64 Y base 238 g n c a/\W.bnd 18446744073709551616 a/\W.val 18446744073709551616 a=W.val 18446744073709551616 xs-W.val 18446744073709551616 ys:=by
 have HX:=lz T.len;have M:=lz U.len;have a3:=T.le;have a2:=U.le;have Z:=lz F;have HF:=lz t;clear F t
 go_enter func282,ntmps282
 go_wp2
 go_loopw[4,10] (fun O D wr=>∃ (k f:Nat) (a:List Nat),O = .int .u64 f/\D = .int .i64 k/\k<=m/\f<=1/\w.grownBy wr (some g)/\Az .u64 wr base 238 g n c a/\W.bnd 18446744073709551616 a/\Hid (W.val 18446744073709551616 a+W.val 18446744073709551616 (ys.take k)=W.val 18446744073709551616 xs+f*18446744073709551616^k)) (fun _ D _=>m-(intOf D).toNat)
 case atStart=>exact⟨0,0,xs,rfl,rfl,pE _,by omega,C8 _ _,T,bx,lz (by simp[W.val])⟩
 case round =>
  obtain⟨k,f,a,rfl,rfl,X,q,A,p,r,z⟩:=hrel;by_cases o:k<m
  · obtain⟨b1,o1,rfl,H⟩:=(U.kept A R).at (j:=k) o;have g1:=H k o;have g2:=p.cell (i:=k) (by omega);have g3:=p.frozen k;have C:=W.bnd_at r (i:=k) (by rw[p.len];omega);have V:=W.bnd_at Z.out (i:=k) (by rw[M.out];exact o);have L:=lz (W.sub_step (B:=18446744073709551616) (l:=a) (ys:=ys) (k:=k) (by rw[p.len];omega) (by rw[M.out];exact o) z.out (TM (x:=a.getD k 0) (y:=ys.getD k 0) (c:=f) C V q));have G:=Df (a.getD k 0) (ys.getD k 0) f q;have P:=Ss (x:=a.getD k 0) (y:=ys.getD k 0) (c:=f);have a1:(k:Int)<n:=by omega
    generalize a.getD k 0=u at *
    generalize ys.getD k 0=v at *
    have S:(u+18446744073709551616-v-f)%18446744073709551616<18446744073709551616:=qf _ (by omega);generalize (u+18446744073709551616-v-f)%18446744073709551616=s at *
    generalize (if u<v+f then 1 else 0)=N at *
    clear H;go_wp2;go_roundw
    case rel=>exact⟨k+1,N,a.set k s,rfl,by go_num,by omega,P,DP A _ _,p.set k s,W.bnd_set r S,L⟩
    case measure=>simp[intOf];omega
  · have J:k=m:=by omega
    have E:Hid (W.val 18446744073709551616 a=(W.val 18446744073709551616 xs-W.val 18446744073709551616 ys)+f*18446744073709551616^m):=by
     have:=z.out;rw[J,pu (by rw[M.out];exact lrf _)]at this;have h2:=HF.out;show _=_;omega
    clear z J;go_wp2
    go_loopw[4,7] (fun O D wr=>∃ (k f:Nat) (a:List Nat),O = .int .u64 f/\D = .int .i64 k/\m<=k/\k<=n/\f<=1/\w.grownBy wr (some g)/\Az .u64 wr base 238 g n c a/\W.bnd 18446744073709551616 a/\Hid (W.val 18446744073709551616 a=(W.val 18446744073709551616 xs-W.val 18446744073709551616 ys)+f*18446744073709551616^k)) (fun _ D _=>n-(intOf D).toNat)
    case atStart=>exact⟨m,f,a,rfl,rfl,lrf _,Q,q,A,p,r,E⟩
    case round =>
     clear A p r E o X q;obtain⟨k,f,a,rfl,rfl,a0,X,q,A,p,r,z⟩:=hrel;have I:f=0\/f=1:=by omega
     rcases I with rfl|rfl
     · go_wp2
       go_end0
       exact⟨rfl,A,a,p,r,by have:=z.out;rw[r7,qy]at this;exact this⟩
     · by_cases o:k<n
       · have g2:=p.cell (i:=k) o;have g3:=p.frozen k;have C:=W.bnd_at r (i:=k) (by rw[p.len];exact o);have L:=lz (W.sub_step0 (B:=18446744073709551616) (l:=a) (k:=k) (s:=(a.getD k 0+18446744073709551616-0-1)%18446744073709551616) (c':=if a.getD k 0<0+1 then 1 else 0) (by rw[p.len];exact o) z.out (Yp C))
         have G:∀ K:World,(callFunc 291 #[.int .u64 ((a.getD k 0:Nat):Int),.int .u64 0,.int .u64 1]).run prog K = .ok (.value (.tuple #[.int .u64 (((a.getD k 0+18446744073709551616-0-1)%18446744073709551616:Nat):Int),.int .u64 ((if a.getD k 0<0+1 then 1 else 0:Nat):Int)])) K:=fun K=>Df (a.getD k 0) 0 1 (by omega) K;have P:=Ss (x:=a.getD k 0) (y:=0) (c:=1);have S:(a.getD k 0+18446744073709551616-0-1)%18446744073709551616<18446744073709551616:=qf _ (by omega);generalize (a.getD k 0+18446744073709551616-0-1)%18446744073709551616=s at *
         generalize (if a.getD k 0<0+1 then 1 else 0)=N at *
         generalize a.getD k 0=u at *
         go_wp2;go_roundw
         case rel=>exact⟨k+1,N,a.set k s,rfl,by go_num,by omega,by omega,P,DP A _ _,p.set k s,W.bnd_set r S,L⟩
         case measure=>simp[intOf];omega
       · exfalso;have J:k=n:=by omega
         have h1:=z.out;have h2:=W.val_lt r;rw[p.len]at h2;rw[J]at h1;omega
theorem Ul(s:SlN .u64 w a n c xs)(B:n<=1000000)(h0:0<n) :
 Calls prog 238 #[.slice a n c] w (fun e f=>∃ g m,e = .returned (.slice (some ⟨g,0,none⟩) n m)/\Ext w f/\Az .u64 f w.heap.size 238 g n m xs):=by
 obtain⟨b,o,rfl,_⟩:=s.at h0;have y:=fun f:World=>Lib.run_eql_slice_nil (P:=prog) f 81 238 (some ⟨b,o,none⟩) n c 0 0 underlying81
 go_enter func238,ntmps238
 go_upto_region 3 with(fail)
 have q:Ext w (w.alloc (.cells #[] 238)):=(Ext.refl w).alloc _;have r:=AB w w.heap.size 238 #[] 0 rfl (lrf _) (by omega);have i:∀ u∈xs.map (BL .u64),u.oneCell'=true:=by
  intro u hu;obtain⟨x,_,rfl⟩:=pU.1 hu;rfl
 go_wp2_with(refine B5 rfl rfl underlying81 AK rfl rfl r rfl (s.ext q) i (by unfold maxLen;omega) (by omega) (by simp) ?_;intro t p A j l v)
 go_ret;have d:Own A w.heap.size 238 t n p (xs.map (BL .u64)):=by simpa using j
 obtain⟨g,rfl,_,_⟩:=d.place h0;exact⟨g,p,rfl,q.grown l (fun k z=>(r.lt z).1),d⟩
theorem wrap_u64{x:Int}(h0:0<=x)(h1:x<18446744073709551616):IntKind.u64.wrap x=x:=by
 rw[rz];exact Int.emod_eq_of_lt h0 h1
theorem Jw(a:x<18446744073709551616)(b:y<18446744073709551616)(w:World):Calls prog 301 #[.int .u64 x,.int .u64 y] w fun e c=>e = .returned (.tuple #[.int .u64 ((x*y/18446744073709551616:Nat):Int),.int .u64 ((x*y%18446744073709551616:Nat):Int)])/\c=w:=Any.bits_Mul64 W6 x y a b w
theorem Mj{w:Nat}(f:o+k<l.length)(g:k<xs.length)(h:W.val B l+c*B^(o+k)=V+w*W.val B (xs.take k)*B^o)(e:s+B*c'=l.getD (o+k) 0+xs.getD k 0*w+c) :
 W.val B (l.set (o+k) s)+c'*B^(o+(k+1))=V+w*W.val B (xs.take (k+1))*B^o:=by
 have h1:=W.val_set (B:=B) (xs:=l) (i:=o+k) (v:=s) f;have h2:=W.val_take_succ (B:=B) g;rw[h2,<-sB,qB];have h3:B^(o+k)=B^o*B^k:=sG _ _ _;rw[h3]at h h1 |-;generalize l.getD (o+k) 0=x at *
 generalize xs.getD k 0=y at *
 generalize W.val B (l.set (o+k) s)=a at *
 generalize W.val B l=b at *
 generalize W.val B (xs.take k)=d at *
 generalize B^k=p at *
 generalize B^o=q at *
 grind
theorem Um{z:Nat}(c:z<18446744073709551616)(hu:u<18446744073709551616)(b:wd<18446744073709551616)(a:cy<18446744073709551616) :
 u*wd/18446744073709551616+(u*wd%18446744073709551616+cy+0)/18446744073709551616<18446744073709551616/\u*wd/18446744073709551616+(u*wd%18446744073709551616+cy+0)/18446744073709551616+(z+(u*wd%18446744073709551616+cy+0)%18446744073709551616+0)/18446744073709551616<18446744073709551616 /\
 (z+(u*wd%18446744073709551616+cy+0)%18446744073709551616+0)%18446744073709551616+18446744073709551616*(u*wd/18446744073709551616+(u*wd%18446744073709551616+cy+0)/18446744073709551616+(z+(u*wd%18446744073709551616+cy+0)%18446744073709551616+0)/18446744073709551616)=z+u*wd+cy:=by
 have:u*wd<=18446744073709551615*18446744073709551615:=qK (by omega) (by omega);generalize u * wd=p at *
 omega
theorem Eb(Q:Az .u64 w base 238 g N C zs)(P:SlN .u64 w a n d xs)(r:blk a=none\/blk a≠some g)(ho:o+n<=N)(Y:W.bnd 18446744073709551616 zs)(X:W.bnd 18446744073709551616 xs)(Z:wd<18446744073709551616) :
 Calls prog 264 #[.slice (some ⟨g,o,none⟩) n c',.slice a n d,.int .u64 wd] w fun e w'=>∃ (b:Nat) (p:List Nat),e = .returned (.int .u64 b)/\b<18446744073709551616/\w.grownBy w' (some g)/\Az .u64 w' base 238 g N C p/\W.bnd 18446744073709551616 p/\W.val 18446744073709551616 p+b*18446744073709551616^(o+n)=W.val 18446744073709551616 zs+wd*W.val 18446744073709551616 xs*18446744073709551616^o/\(∀ j,o+n<=j->p.getD j 0=zs.getD j 0):=by
 have HZ:=lz Q.len;have H:=lz P.len;have a1:=P.le;have BX:=lz X;clear X
 go_enter func264,ntmps264
 go_wp2
 go_loopw[7,16] (fun cv S wr=>∃ (k b:Nat) (c:List Nat),cv = .int .u64 b/\S = .int .i64 k/\k<=n/\b<18446744073709551616/\w.grownBy wr (some g)/\Az .u64 wr base 238 g N C c/\W.bnd 18446744073709551616 c/\Hid (W.val 18446744073709551616 c+b*18446744073709551616^(o+k)=W.val 18446744073709551616 zs+wd*W.val 18446744073709551616 (xs.take k)*18446744073709551616^o)/\Hid (∀ j,o+n<=j->c.getD j 0=zs.getD j 0)) (fun _ S _=>n-(intOf S).toNat)
 case atStart=>exact⟨0,0,zs,rfl,rfl,pE _,by omega,C8 _ _,Q,Y,lz (by simp[W.val]),lz (fun _ _=>rfl)⟩
 case round =>
  clear Q Y;obtain⟨k,b,c,rfl,rfl,hk,D,L,v,I,U,V⟩:=hrel;by_cases f:k<n
  · obtain⟨b1,o1,rfl,y⟩:=(P.kept L r).at (j:=k) f;have g1:=y k f;have g2:=v.cell (i:=o+k) (by omega);have g3:=v.frozen (o+k);have R:=W.bnd_at I (i:=o+k) (by rw[v.len];omega);have F:=W.bnd_at BX.out (i:=k) (by rw[H.out];exact f);obtain⟨m1,m2,m3⟩:=Um R F Z D;have HS:=lz (Mj (B:=18446744073709551616) (l:=c) (xs:=xs) (k:=k) (o:=o) (w:=wd) (by rw[v.len];omega) (by rw[H.out];exact f) U.out m3);have a0:(k:Int)<n:=by omega
    have G:Hid (∀ s j,o+n<=j->(c.set (o+k) s).getD j 0=zs.getD j 0):=by
     show ∀ s j,o+n<=j->(c.set (o+k) s).getD j 0=zs.getD j 0;intro s j hj;rw[<-V.out j hj];have r:¬ o+k=j:=by omega
     simp[r]
    generalize c.getD (o+k) 0=z at *
    generalize xs.getD k 0=u at *
    have E:=Jw F Z;have J:∀ m:World,(callFunc 300 #[.int .u64 ((u*wd%18446744073709551616:Nat):Int),.int .u64 (b:Int),.int .u64 0]).run prog m = .ok (.value (.tuple #[.int .u64 (((u*wd%18446744073709551616+b+0)%18446744073709551616:Nat):Int),.int .u64 (((u*wd%18446744073709551616+b+0)/18446744073709551616:Nat):Int)])) m:=fun m=>Cz (u*wd%18446744073709551616) b 0 (by omega) m;generalize u * wd/18446744073709551616=t at *
    generalize u * wd%18446744073709551616=pl at *
    generalize M:(pl+b+0)%18446744073709551616=s1 at *
    generalize A:(pl+b+0)/18446744073709551616=q at *
    have K:∀ m:World,(callFunc 300 #[.int .u64 (z:Int),.int .u64 (s1:Int),.int .u64 0]).run prog m = .ok (.value (.tuple #[.int .u64 (((z+s1+0)%18446744073709551616:Nat):Int),.int .u64 (((z+s1+0)/18446744073709551616:Nat):Int)])) m:=fun m=>Cz z s1 0 (by omega) m;have O:(z+s1+0)%18446744073709551616<18446744073709551616:=qf _ (by omega);generalize (z+s1+0)%18446744073709551616=T at *
    generalize (z+s1+0)/18446744073709551616=x at *
    have a2:IntKind.u64.wrap ((t:Int)+q)=((t+q:Nat):Int):=by rw[wrap_u64 (by omega) (by omega)];omega
    have a3:IntKind.u64.wrap (((t+q:Nat):Int)+x)=((t+q+x:Nat):Int):=by rw[wrap_u64 (by omega) (by omega)];omega
    have a4:IntKind.u64.wrap ((t:Int)+(q:Int)+x)=((t+q+x:Nat):Int):=by rw[wrap_u64 (by omega) (by omega)];omega
    clear y M A m3
    go_wp2_with(go_at_call 301;refine(E _).mono ?_;rintro e w1 ⟨rfl,rfl⟩)
    go_roundw
    case rel=>exact⟨k+1,t+q+x,c.set (o+k) T,by first | rfl | go_num,by go_num,by omega,m2,DP L _ _,v.set (o+k) T,W.bnd_set I O,HS,lz (G.out T)⟩
    case measure=>simp[intOf];omega
  · have ek:k=n:=by omega
    go_wp2;go_ret;have h1:=U.out;rw[ek,pu (by rw[H.out];exact lrf _)]at h1;exact⟨b,c,rfl,D,L,v,I,h1,V.out⟩
theorem Jx(xs:List Nat):∀ v∈xs.map (BL .u64),v.oneCell'=true:=by
 intro u hu;obtain⟨x,_,rfl⟩:=pU.1 hu;rfl
theorem He(B:Nat)(xs:List Nat)(n:Nat):W.val B (xs ++ List.replicate n 0)=W.val B xs:=by
 rw[W.val_app,W.val_zeros];simp
theorem Jy(a:0<B){xs:List Nat}(h:W.bnd B xs)(n:Nat):W.bnd B (xs ++ List.replicate n 0):=by
 refine W.bnd_app h ?_;intro x b;rw[(qS.1 b).2];exact a
theorem Qg(h:Arr w g t ((List.map (BL .u64) (List.replicate N 0)).take 0 ++ xs.map (BL .u64) ++ (List.map (BL .u64) (List.replicate N 0)).drop (0+xs.length))):B3 .u64 w g t (xs ++ List.replicate (N-xs.length) 0):=by
 unfold B3;rw[qw];simpa using h
theorem IU(t:SlN .u64 w a n c xs)(p:SlN .u64 w b m d ys)(q:Num 18446744073709551616 xs x)(r:Num 18446744073709551616 ys y)(l:m<=n)(E:n<=1000000)(h0:0<m){k:World}{g:Nat}(f:w.heap.size<=g)(i:Ext w k)(hA1:B3 .u64 k g 238 (xs ++ List.replicate 1 0)) :
 Calls prog 266 #[.slice (some ⟨g,0,none⟩) (n+1) (n+1),.slice b m d] k fun e v=>e = .returned (.tuple #[])/\Ext w v/\∃ j,Az .u64 v w.heap.size 238 g (n+1) (n+1) j/\W.bnd 18446744073709551616 j/\W.val 18446744073709551616 j=x+y:=by
 have s:(xs ++ List.replicate 1 0).length=n+1:=by simp[t.len]
 have A:Az .u64 k w.heap.size 238 g (n+1) (n+1) (xs ++ List.replicate 1 0):=by
  have:=B3.own hA1 f (by rw[s];unfold maxLen;omega);rw[s]at this;exact this
 have C:W.val 18446744073709551616 (xs ++ List.replicate 1 0)=x:=by rw[He,q.val]
 refine(Oy A (p.ext i) (Or.inr (p.fresh f h0)) (Jy (by omega) q.bnd 1) r.bnd (by omega) ?_).mono ?_
 · have h1:=W.val_lt q.bnd;have h2:=W.val_lt r.bnd;rw[t.len]at h1;rw[p.len]at h2;have h3:18446744073709551616^m<=18446744073709551616^n:=pR (by omega) l;have h4:18446744073709551616^(n+1)=18446744073709551616^n*18446744073709551616:=qB _ _;rw[He];omega
 · rintro e F ⟨rfl,B,j,D,z,o⟩;exact⟨rfl,i.grownR B f,j,D,z,by rw[o,C,r.val]⟩
theorem Nk(s:SlN .u64 w a n c xs)(t:SlN .u64 w b m d ys)(K:Num 18446744073709551616 xs x)(L:Num 18446744073709551616 ys y)(N:n<=1000000)(M:m<=1000000) :
 Calls prog 255 #[.slice a n c,.slice b m d] w (Hy .u64 18446744073709551616 w (x+y)):=by
 have A:=lz s.len;have B:=lz t.len;have p:=lz K;have r:=lz L;clear K L;by_cases S:n<m
 · go_enter func255,ntmps255
   by_cases h0:n=0
   · have C:Hid (x+y=y):=by
      show _=_;have h1:xs=[]:=pG (by rw[A.out,h0]);have h2:=p.out.val;rw[h1]at h2;simp only[W.val]at h2;omega
     subst h0;go_wp2;go_ret;exact⟨b,m,d,ys,rfl,Ext.refl w,t,⟨r.out.bnd,r.out.nrm,by rw[r.out.val,C.out]⟩⟩
   · have E:((n:Int) == 0)=false:=by simp;omega
     have o:0<n:=by omega
     clear h0
     go_upto_region 6 with(at_make;refine C6 (n:=m+1) rfl rfl underlying81 AK rfl rfl rfl (by omega) (by unfold maxLen;omega) ?_;intro O i f)
     have hA1:=(Az.of_zeros i).arr
     go_upto_region 7 with(refine LF (sT:=81) rfl rfl underlying81 AK rfl rfl hA1 (t.ext f) (by omega) (by simp) (Jx _) ?_;intro z g j)
     have hA2:B3 .u64 z w.heap.size 238 (ys ++ List.replicate 1 0):=by
      rw[<-show m+1-ys.length=1 from by rw[B.out];omega];refine Qg ?_;rw[B.out];exact g
     have k:Ext w z:=f.grownR j (lrf _);clear i f hA1 g j
     go_wp2_with fail
     refine(IU t s r.out p.out (by omega) M o (lrf _) k hA2).mono ?_;rintro e P ⟨rfl,l,R,v,D,H⟩
     go_wp2_with fail
     refine(Bq v.sl).mono ?_;rintro e Q ⟨q,rfl,rfl,F,G⟩;obtain⟨I,J⟩:=BE v.sl F G D H;go_wp2;go_ret;exact⟨_,q,_,_,rfl,l,I,by rw[rO];exact J⟩
 · go_enter func255,ntmps255
   by_cases h0:m=0
   · have C:Hid (x+y=x):=by
      show _=_;have h1:ys=[]:=pG (by rw[B.out,h0]);have h2:=r.out.val;rw[h1]at h2;simp only[W.val]at h2;omega
     subst h0;go_wp2;go_ret;exact⟨a,n,c,xs,rfl,Ext.refl w,s,⟨p.out.bnd,p.out.nrm,by rw[p.out.val,C.out]⟩⟩
   · have E:((m:Int) == 0)=false:=by simp;omega
     have o:0<m:=by omega
     clear h0
     go_upto_region 6 with(at_make;refine C6 (n:=n+1) rfl rfl underlying81 AK rfl rfl rfl (by omega) (by unfold maxLen;omega) ?_;intro O i f)
     have hA1:=(Az.of_zeros i).arr
     go_upto_region 7 with(refine LF (sT:=81) rfl rfl underlying81 AK rfl rfl hA1 (s.ext f) (by omega) (by simp) (Jx _) ?_;intro z g j)
     have hA2:B3 .u64 z w.heap.size 238 (xs ++ List.replicate 1 0):=by
      rw[<-show n+1-xs.length=1 from by rw[A.out];omega];refine Qg ?_;rw[A.out];exact g
     have k:Ext w z:=f.grownR j (lrf _);clear i f hA1 g j
     go_wp2_with fail
     refine(IU s t p.out r.out (by omega) N o (lrf _) k hA2).mono ?_;rintro e P ⟨rfl,l,R,v,D,H⟩
     go_wp2_with fail
     refine(Bq v.sl).mono ?_;rintro e Q ⟨q,rfl,rfl,F,G⟩;obtain⟨I,J⟩:=BE v.sl F G D H;go_wp2;go_ret;exact⟨_,q,_,_,rfl,l,I,by exact J⟩
theorem Hf(v:SlN .u64 w a n c xs)(z:SlN .u64 w b m d ys)(E:Num 18446744073709551616 xs x)(F:Num 18446744073709551616 ys y)(L:n<=1000000)(o:y<=x) :
 Calls prog 256 #[.slice a n c,.slice b m d] w (Hy .u64 18446744073709551616 w (x-y)):=by
 have G:=lz v.len;have A:=lz z.len;have f:=lz E;have i:=lz F;have j:=lz o;clear E F o
 go_enter func256,ntmps256
 by_cases h0:m=0
 · have H:Hid (x-y=x):=by
    show _=_;have h1:ys=[]:=pG (by rw[A.out,h0]);have h2:=i.out.val;rw[h1]at h2;simp only[W.val]at h2;omega
   subst h0;go_wp2;go_ret;exact⟨a,n,c,xs,rfl,Ext.refl w,v,⟨f.out.bnd,f.out.nrm,by rw[f.out.val,H.out]⟩⟩
 · have J:((m:Int) == 0)=false:=by simp;omega
   have s:0<m:=by omega
   have t:m<=n:=by
    refine pQ fun R => ?_;have:=W.len_lt (B:=18446744073709551616) (by omega) f.out.bnd i.out.nrm (by rw[G.out,A.out];omega);rw[f.out.val,i.out.val]at this;have:=j.out;omega
   clear h0
   go_wp2_with fail
   refine(Ul v L (by omega)).mono ?_;rintro e S ⟨g,Q,rfl,k,l⟩;have p:=l.lo
   go_wp2_with fail
   refine(EM l (z.ext k) (Or.inr (z.fresh p s)) f.out.bnd i.out.bnd t (by rw[f.out.val,i.out.val];exact j.out)).mono ?_;rintro e T ⟨rfl,K,V,D,I,C⟩;rw[f.out.val,i.out.val]at C;have r:=k.grownR K p
   go_wp2_with fail
   refine(Bq D.sl).mono ?_;rintro e U ⟨q,rfl,rfl,M,N⟩;obtain⟨O,P⟩:=BE D.sl M N I C;go_wp2;go_ret;exact⟨_,q,_,_,rfl,r,O,P⟩
theorem FR(n j:Nat):(List.replicate n 0).getD j 0=0:=by
 rw[gqq,List.getElem?_replicate];split <;> rfl
theorem OT{X:Nat}(c:i+n<zs'.length)(e:W.val B zs=X*V)(h:W.val B zs'+cy*B^(i+n)=W.val B zs+wd*X*B^i)(h0:zs'.getD (i+n) 0=0) :
 W.val B (zs'.set (i+n) cy)=X*(V+B^i*wd):=by
 have h1:=W.val_set (B:=B) (xs:=zs') (i:=i+n) (v:=cy) c;rw[h0]at h1;generalize W.val B (zs'.set (i+n) cy)=a at *
 generalize W.val B zs'=b at *
 generalize W.val B zs=d at *
 generalize B^(i+n)=p at *
 generalize B^i=q at *
 grind
theorem Ec(T:SlN .u64 w a n c xs)(U:SlN .u64 w b m d ys)(nx:Num 18446744073709551616 xs x)(ny:Num 18446744073709551616 ys y)(hn:n<=1000000)(hm:m<=1000000)(a7:n<40\/m<40) :
 Calls prog 222 #[.slice a n c,.slice b m d] w (Un .u64 18446744073709551616 w (fun g=>blk a=some g\/blk b=some g) (x*y)):=by
 have Z:=lz T.len;have HY:=lz U.len;have E:=lz nx;have F:=lz ny;clear nx ny;by_cases hs:n<m
 · go_enter func222,ntmps222
   by_cases h0:n=0
   · have J:Hid (x*y=0):=by
      show _=_;have h1:xs=[]:=pG (by rw[Z.out,h0]);have h2:=E.out.val;rw[h1]at h2;simp only[W.val]at h2;rw[<-h2];simp
     subst h0;go_wp2;go_ret;exact⟨none,0,0,[],rfl,Ext.refl w,SlN.nil _ _,by rw[J.out];exact Num.nil _,fun g h=>by cases h⟩
   · have a0:((n:Int) == 0)=false:=by simp;omega
     have D:0<n:=by omega
     obtain⟨b0,o0,v,l⟩:=T.at D;have g0:=l 0 D;rw[qy]at g0;by_cases h1:n=1/\xs.getD 0 0=1
     · have J:Hid (x*y=y):=by
        show _=_;have h2:=E.out.val;obtain⟨z,r⟩:=wY.1 (Z.out.trans h1.1);have h3:=h1.2;rw[r]at h2 h3;simp[W.val]at h2 h3;subst h3;rw[<-h2];simp
       have e1:=h1.1;rw[h1.2]at g0;subst e1;subst v;clear l;go_wp2;go_ret;exact⟨b,m,d,ys,rfl,Ext.refl w,U,⟨F.out.bnd,F.out.nrm,by rw[F.out.val,J.out]⟩,fun g h=>Or.inr (Or.inr h)⟩
     · have p:(((n:Int) == 1)=false)\/(((n:Int) == 1)=true/\(((xs.getD 0 0:Nat):Int) == 1)=false):=by
        by_cases h2:n=1
        · exact Or.inr ⟨by simp[h2],Ki (b:=1) (fun h=>h1 ⟨h2,h⟩)⟩
        · exact Or.inl (by simp;omega)
       subst v;generalize xs.getD 0 0=y0 at *
       clear l h1 h0;have h40:(n:Int)<40:=by omega
       rcases p with hp|⟨hp,a3⟩
       all_goals
        go_upto_region 10 with(at_make;refine C6 (n:=m+n) rfl rfl underlying81 AK rfl rfl rfl (by omega) (by unfold maxLen;omega) ?_;intro w1 t s)
        go_wp2
        go_loopw[55] (fun S wr=>∃ (i:Nat) (zs:List Nat),S = .int .i64 i/\i<=n/\Ext w wr/\Az .u64 wr w.heap.size 238 w.heap.size (m+n) (m+n) zs/\W.bnd 18446744073709551616 zs/\Hid (W.val 18446744073709551616 zs=y*W.val 18446744073709551616 (xs.take i))/\Hid (∀ j,i+m<=j->zs.getD j 0=0)) (fun S _=>n-(intOf S).toNat)
        case atStart=>exact⟨0,List.replicate (m+n) 0,rfl,pE _,s,Az.of_zeros t,fun z r=>by rw[(qS.1 r).2];omega,lz (by rw[W.val_zeros];simp[W.val]),lz (fun j _=>FR _ j)⟩
        case round =>
         clear t s;obtain⟨i,zs,rfl,hi,G,r,bz,Y,V⟩:=hrel;by_cases f:i<n
         · obtain⟨b9,o9,e9,A⟩:=(T.ext G).at (j:=i) f;simp only[pz,qq,qO]at e9;obtain⟨rfl,rfl⟩:=e9;have g9:=A i f;have R:=W.bnd_at E.out.bnd (i:=i) (by rw[Z.out];exact f);have HT:=lz (W.val_take_succ (B:=18446744073709551616) (xs:=xs) (i:=i) (by rw[Z.out];exact f))
           have a4:∀ H:World,(Instr.sliceAt 81 (.slice (some ⟨w.heap.size,0,none⟩) (m+n) (m+n)) (some (.int .i64 i)) (some (.int .i64 ((i:Int)+m))) none).run prog H = .ok (.slice (some ⟨w.heap.size,i,none⟩) m (m+n-i)) H:=fun H=>by
            have:=CH (P:=prog) (w:=H) (g:=w.heap.size) (n:=m+n) (c:=m+n) (lo:=i) (hi:=i+m) underlying81 AK (by omega) (by omega) (by omega);rw[vm,qe]at this;exact this
           have a6:IntKind.i64.wrap ((i:Int)+m)=(i:Int)+m:=pq _ (by omega);generalize xs.getD i 0=wd at *
           have hp:=Eb (w:=wr) (o:=i) (c':=m+n-i) r (U.ext G) (Or.inr (U.fresh (lrf _) (by omega))) (by omega) bz F.out.bnd R;clear A
           go_wp2_with fail
           refine hp.mono ?_;rintro e w2 ⟨cy,zs',rfl,M,N,k,K,Q,C⟩;have a1:=k.cell (i:=i+m) (by omega);have a2:=k.frozen (i+m);have HS:=lz (OT (B:=18446744073709551616) (zs:=zs) (zs':=zs') (X:=y) (i:=i) (n:=m) (cy:=cy) (by rw[k.len];omega) Y.out (by rw[<-F.out.val];exact Q) (by rw[C _ (lrf _)];exact V.out _ (lrf _)));have I:Hid (∀ j,i+1+m<=j->(zs'.set (i+m) cy).getD j 0=0):=by
            show ∀ j,i+1+m<=j->(zs'.set (i+m) cy).getD j 0=0;intro j hj;have O:¬ i+m=j:=by omega
            have h1:=C j (by omega);rw[V.out j (by omega)]at h1;simpa[O]using h1
           have L:=G.grownR N (lrf _);have a5:((i:Int)+m).toNat=i+m:=by omega
           go_wp2;go_roundw
           case rel=>exact⟨i+1,zs'.set (i+m) cy,by go_num,by omega,L.setCell (lrf _) _,k.set (i+m) cy,W.bnd_set K M,lz (by rw[HT.out];exact HS.out),I⟩
           case measure=>simp[intOf];omega
         · have ei:i=n:=by omega
           have hv:W.val 18446744073709551616 zs=x*y:=by
            have h1:=Y.out;rw[ei,pu (by rw[Z.out];exact lrf _),E.out.val]at h1;rw[h1,pM]
           go_wp2_with fail
           refine(Bq r.sl).mono ?_;rintro e w4 ⟨q,rfl,rfl,hq,ht⟩;obtain⟨t1,t2⟩:=BE r.sl hq ht bz hv;go_wp2;go_ret;exact⟨_,q,_,_,rfl,G,t1,t2,fun g h=>Or.inl (by cases h;exact lrf _)⟩
 · go_enter func222,ntmps222
   by_cases h0:m=0
   · have J:Hid (x*y=0):=by
      show _=_;have h1:ys=[]:=pG (by rw[HY.out,h0]);have h2:=F.out.val;rw[h1]at h2;simp only[W.val]at h2;rw[<-h2];simp
     subst h0;go_wp2;go_ret;exact⟨none,0,0,[],rfl,Ext.refl w,SlN.nil _ _,by rw[J.out];exact Num.nil _,fun g h=>by cases h⟩
   · have a0:((m:Int) == 0)=false:=by simp;omega
     have D:0<m:=by omega
     obtain⟨b0,o0,v,l⟩:=U.at D;have g0:=l 0 D;rw[qy]at g0;by_cases h1:m=1/\ys.getD 0 0=1
     · have J:Hid (x*y=x):=by
        show _=_;have h2:=F.out.val;obtain⟨z,r⟩:=wY.1 (HY.out.trans h1.1);have h3:=h1.2;rw[r]at h2 h3;simp[W.val]at h2 h3;subst h3;rw[<-h2];simp
       have e1:=h1.1;rw[h1.2]at g0;subst e1;subst v;clear l;go_wp2;go_ret;exact⟨a,n,c,xs,rfl,Ext.refl w,T,⟨E.out.bnd,E.out.nrm,by rw[E.out.val,J.out]⟩,fun g h=>Or.inr (Or.inl h)⟩
     · have p:(((m:Int) == 1)=false)\/(((m:Int) == 1)=true/\(((ys.getD 0 0:Nat):Int) == 1)=false):=by
        by_cases h2:m=1
        · exact Or.inr ⟨by simp[h2],Ki (b:=1) (fun h=>h1 ⟨h2,h⟩)⟩
        · exact Or.inl (by simp;omega)
       subst v;generalize ys.getD 0 0=y0 at *
       clear l h1 h0;have h40:(m:Int)<40:=by omega
       rcases p with hp|⟨hp,a3⟩
       all_goals
        go_upto_region 10 with(at_make;refine C6 (n:=n+m) rfl rfl underlying81 AK rfl rfl rfl (by omega) (by unfold maxLen;omega) ?_;intro w1 t s)
        go_wp2
        go_loopw[55] (fun S wr=>∃ (i:Nat) (zs:List Nat),S = .int .i64 i/\i<=m/\Ext w wr/\Az .u64 wr w.heap.size 238 w.heap.size (n+m) (n+m) zs/\W.bnd 18446744073709551616 zs/\Hid (W.val 18446744073709551616 zs=x*W.val 18446744073709551616 (ys.take i))/\Hid (∀ j,i+n<=j->zs.getD j 0=0)) (fun S _=>m-(intOf S).toNat)
        case atStart=>exact⟨0,List.replicate (n+m) 0,rfl,pE _,s,Az.of_zeros t,fun z r=>by rw[(qS.1 r).2];omega,lz (by rw[W.val_zeros];simp[W.val]),lz (fun j _=>FR _ j)⟩
        case round =>
         clear t s;obtain⟨i,zs,rfl,hi,G,r,bz,Y,V⟩:=hrel;by_cases f:i<m
         · obtain⟨b9,o9,e9,A⟩:=(U.ext G).at (j:=i) f;simp only[pz,qq,qO]at e9;obtain⟨rfl,rfl⟩:=e9;have g9:=A i f;have R:=W.bnd_at F.out.bnd (i:=i) (by rw[HY.out];exact f);have HT:=lz (W.val_take_succ (B:=18446744073709551616) (xs:=ys) (i:=i) (by rw[HY.out];exact f))
           have a4:∀ H:World,(Instr.sliceAt 81 (.slice (some ⟨w.heap.size,0,none⟩) (n+m) (n+m)) (some (.int .i64 i)) (some (.int .i64 ((i:Int)+n))) none).run prog H = .ok (.slice (some ⟨w.heap.size,i,none⟩) n (n+m-i)) H:=fun H=>by
            have:=CH (P:=prog) (w:=H) (g:=w.heap.size) (n:=n+m) (c:=n+m) (lo:=i) (hi:=i+n) underlying81 AK (by omega) (by omega) (by omega);rw[vm,qe]at this;exact this
           have a6:IntKind.i64.wrap ((i:Int)+n)=(i:Int)+n:=pq _ (by omega);generalize ys.getD i 0=wd at *
           have hp:=Eb (w:=wr) (o:=i) (c':=n+m-i) r (T.ext G) (Or.inr (T.fresh (lrf _) (by omega))) (by omega) bz E.out.bnd R;clear A
           go_wp2_with fail
           refine hp.mono ?_;rintro e w2 ⟨cy,zs',rfl,M,N,k,K,Q,C⟩;have a1:=k.cell (i:=i+n) (by omega);have a2:=k.frozen (i+n);have HS:=lz (OT (B:=18446744073709551616) (zs:=zs) (zs':=zs') (X:=x) (i:=i) (n:=n) (cy:=cy) (by rw[k.len];omega) Y.out (by rw[<-E.out.val];exact Q) (by rw[C _ (lrf _)];exact V.out _ (lrf _)));have I:Hid (∀ j,i+1+n<=j->(zs'.set (i+n) cy).getD j 0=0):=by
            show ∀ j,i+1+n<=j->(zs'.set (i+n) cy).getD j 0=0;intro j hj;have O:¬ i+n=j:=by omega
            have h1:=C j (by omega);rw[V.out j (by omega)]at h1;simpa[O]using h1
           have L:=G.grownR N (lrf _);have a5:((i:Int)+n).toNat=i+n:=by omega
           go_wp2;go_roundw
           case rel=>exact⟨i+1,zs'.set (i+n) cy,by go_num,by omega,L.setCell (lrf _) _,k.set (i+n) cy,W.bnd_set K M,lz (by rw[HT.out];exact HS.out),I⟩
           case measure=>simp[intOf];omega
         · have ei:i=m:=by omega
           have hv:W.val 18446744073709551616 zs=x*y:=by
            have h1:=Y.out;rw[ei,pu (by rw[HY.out];exact lrf _),F.out.val]at h1;exact h1
           go_wp2_with fail
           refine(Bq r.sl).mono ?_;rintro e w4 ⟨q,rfl,rfl,hq,ht⟩;obtain⟨t1,t2⟩:=BE r.sl hq ht bz hv;go_wp2;go_ret;exact⟨_,q,_,_,rfl,G,t1,t2,fun g h=>Or.inl (by cases h;exact lrf _)⟩
theorem Qh(b:x<18446744073709551616)(w:World):Calls prog 287 #[.int .u64 x] w fun e a=>e = .returned (.int .i64 (64-Lib.bitLen x))/\a=w:=by
 have:=Any.bits_LeadingZeros64 X5 (x:Int) w (by omega) (by omega);rw[qZ]at this;exact this
theorem Nl(h0:0<y)(a:y<18446744073709551616):∃ s:Nat,s<=63/\(64-(Lib.bitLen y:Int))=s/\9223372036854775808<=y*2^s/\y*2^s<18446744073709551616:=by
 obtain⟨h1,h2,h3⟩:=Lib.bitLenAux_bounds 64 y (by omega) (by omega);have h4:Lib.bitLenAux 64 y<=64:=Lib.bitLen_le y 64 (by omega) (by omega);refine⟨64-Lib.bitLen y,?_,?_,?_,?_⟩
 · unfold Lib.bitLen;omega
 · unfold Lib.bitLen;omega
 · unfold Lib.bitLen;generalize Lib.bitLenAux 64 y=k at *
   have e:2^(k-1)*2^(64-k)=2^63:=by rw[<-sG];congr 1;omega
   have:=px (2^(64-k)) h2;rw[e]at this;omega
 · unfold Lib.bitLen;generalize Lib.bitLenAux 64 y=k at *
   have e:2^k*2^(64-k)=2^64:=by rw[<-sG];congr 1;omega
   have:=rh h3 (qr (64-k));rw[e]at this;omega
theorem Jb(g:y<18446744073709551616)(a:lo<18446744073709551616)(h0:0<y) :
 Calls prog 293 #[.int .u64 0,.int .u64 lo,.int .u64 y] w fun e d=>e = .returned (.tuple #[.int .u64 ((lo/y:Nat):Int),.int .u64 ((lo%y:Nat):Int)])/\Qt w d:=by
 have f:((y:Int) == 0)=false:=by simp;omega
 have b:IntKind.u64.wrap ((lo:Int)/(y:Int))=((lo/y:Nat):Int):=by
  rw[<-wm];have h1:=qE lo y;generalize lo/y=q at *
  exact wrap_u64 (by omega) (by omega)
 have c:(lo:Int)%(y:Int)=((lo%y:Nat):Int):=(Int.natCast_emod _ _).symm;generalize lo/y=q at *
 generalize lo%y=r at *
 go_enter func293,ntmps293
 go_wp2
 go_quiet (fail)
 go_wp2
 go_ret2
 exact⟨by rw[<-b,<-c];rfl,(Qt.refl w).drewN _⟩
theorem Qi{L u1 u0 Q1 R1 Q0 R0:Nat}(k:Y=y*2^s)(i:L=u1*4294967296+u0)(j:U*18446744073709551616+L=N*2^s)(f:U*4294967296+u1=Q1*Y+R1)(d:R1*4294967296+u0=Q0*Y+R0)(b:R0<Y) :
 N/y=Q1*4294967296+Q0/\N%y=R0/2^s:=by
 have hp:0<2^s:=qr s;have e:N*2^s=(Q1*4294967296+Q0)*Y+R0:=by
  rw[<-j,i];have h1:U*18446744073709551616+(u1*4294967296+u0)=(U*4294967296+u1)*4294967296+u0:=by grind
  rw[h1,f];have h2:(Q1*Y+R1)*4294967296+u0=Q1*Y*4294967296+(R1*4294967296+u0):=by grind
  rw[h2,d]
  grind
 subst k;have m:0<y:=by
  rcases pT y with h|h
  · rw[h]at b;simp at b
  · exact h
 -- the rest is a multiple of the power
 have l:2^s∣R0:=by
  have h1:2^s∣N*2^s:=tN _ _;rw[e]at h1;refine(oG ?_).1 h1;exact⟨(Q1*4294967296+Q0)*y,by grind⟩
 obtain⟨r,c⟩:=l;subst c;have g:N=(Q1*4294967296+Q0)*y+r:=by
  apply vH hp;rw[e]
  grind
 have c:r<y:=by
  rw[pM]at b;exact rQ b
 rw[vV _ hp];generalize Q1*4294967296+Q0=q at g |-;subst g;refine⟨?_,?_⟩
 · rw[pM,tH m,rH c,qy]
 · rw[pM,v8,rG c]
theorem Mk(b:s<=63)(a:lo<18446744073709551616):∃ L V:Nat,lo*2^s=V*18446744073709551616+L/\L<18446744073709551616/\V=lo/2^(64-s)/\V<2^s/\L=lo*2^s%18446744073709551616:=by
 have e:2^(64-s)*2^s=18446744073709551616:=by rw[<-sG,show 64-s+s=64 by omega]
 refine⟨lo*2^s%18446744073709551616,lo/2^(64-s),?_,qf _ (by omega),rfl,?_,rfl⟩
 · have h1:lo*2^s/18446744073709551616=lo/2^(64-s):=by
    rw[<-e,Nat.mul_div_mul_right _ _ (qr s)]
   have h2:=qM (lo*2^s) 18446744073709551616;rw[h1,pM 18446744073709551616]at h2;exact h2.symm
 · rw[re (qr _),pM,e];exact a
theorem Hi(h:x%18446744073709551616=M):IntKind.u64.wrap (x:Int)=(M:Int):=by
 rw[rz,<-h];omega
theorem Ml{Q R:Nat}(h:U*4294967296+u=Q*Y+R)(b:R<18446744073709551616):IntKind.u64.wrap (IntKind.u64.wrap (IntKind.u64.wrap ((U:Int)*4294967296)+u)-IntKind.u64.wrap ((Q:Int)*Y))=(R:Int):=by
 have a:((Q*Y:Nat):Int)=(Q:Int)*Y:=q7 Q Y;rw[<-a];generalize Q * Y=z at *
 simp only[rz];omega
theorem Mm(h:U=g*y+r)(b:r<18446744073709551616):IntKind.u64.wrap ((U:Int)-IntKind.u64.wrap ((g:Int)*y))=(r:Int):=by
 have a:((g*y:Nat):Int)=(g:Int)*y:=q7 g y;rw[<-a];generalize g * y=z at *
 simp only[rz];omega
theorem Au{x:Int}(h:x=(n:Int))(a:n<18446744073709551616):IntKind.u64.wrap x=(n:Int):=by
 rw[h];exact wrap_u64 (by omega) (by omega)
theorem KO(hy:y<18446744073709551616)(bi:lo<18446744073709551616)(hh:hi<y)(h0:0<hi) :
 Calls prog 293 #[.int .u64 hi,.int .u64 lo,.int .u64 y] w fun e w'=>e = .returned (.tuple #[.int .u64 (((hi*18446744073709551616+lo)/y:Nat):Int),.int .u64 (((hi*18446744073709551616+lo)%y:Nat):Int)])/\Qt w w':=by
 have hb:((y:Int) == 0)=false:=by simp;omega
 have bL:((hi:Int) == 0)=false:=by simp;omega
 obtain⟨s,hs,b1,bg,a7⟩:=Nl (by omega) hy;obtain⟨Y,hY⟩:∃ Y,y*2^s=Y:=⟨_,rfl⟩;rw[hY]at bg a7;have e1:IntKind.u64.wrap ((y:Int)*2^s)=(Y:Int):=Au (by rw[<-hY];push_cast;rfl) a7;obtain⟨L,V,ap,bb,av,ax,aq⟩:=Mk hs bi;obtain⟨H,hH⟩:∃ H,hi*2^s=H:=⟨_,rfl⟩;have ba:H+2^s<=Y:=by
  rw[<-hH,<-hY];have:=px (2^s) hh;rw[Nat.succ_mul]at this;exact this
 obtain⟨U,hU⟩:∃ U,H+V=U:=⟨_,rfl⟩;have e4:IntKind.u64.wrap ((hi:Int)*2^s)=(H:Int):=Au (by rw[<-hH];push_cast;rfl) (by omega);have e5:bits BinOp.or IntKind.u64 (H:Int) ((lo:Int)/2^(64-s))=(U:Int):=by
  have:(lo:Int)/2^(64-s)=(V:Int):=by rw[av];push_cast;rfl
  rw[this,wQ H V (by omega) (by omega),oR s H V (by rw[<-hH];exact wW _ _) ax,hU]
 have e6:IntKind.u64.wrap ((lo:Int)*2^s)=(L:Int):=by
  have:=Hi (x:=lo*2^s) (M:=L) aq.symm;push_cast at this;exact this
 have hN:U*18446744073709551616+L=(hi*18446744073709551616+lo)*2^s:=by
  rw[<-hU,<-hH];have h1:(hi*18446744073709551616+lo)*2^s=hi*2^s*18446744073709551616+lo*2^s:=by grind
  rw[h1,ap]
  grind
 obtain⟨y1,bk⟩:∃ y1,Y/4294967296=y1:=⟨_,rfl⟩;obtain⟨y0,b8⟩:∃ y0,Y%4294967296=y0:=⟨_,rfl⟩;obtain⟨u1,bj⟩:∃ u1,L/4294967296=u1:=⟨_,rfl⟩;obtain⟨u0,b3⟩:∃ u0,L%4294967296=u0:=⟨_,rfl⟩;have e2:(Y:Int)/4294967296=(y1:Int):=by omega
 have e3:bits BinOp.and IntKind.u64 (Y:Int) 4294967295=(y0:Int):=by
  have:=u64_and_nat Y 4294967295 a7 (by omega);rw[wh Y 32]at this;rw[<-b8];exact this
 have e7:(L:Int)/4294967296=(u1:Int):=by omega
 have e8:bits BinOp.and IntKind.u64 (L:Int) 4294967295=(u0:Int):=by
  have:=u64_and_nat L 4294967295 bb (by omega);rw[wh L 32]at this;rw[<-b3];exact this
 have bK:U<Y:=by omega
 have bv:2147483648<=y1/\y1<4294967296:=by omega
 have bt:y0<4294967296:=by omega
 have bs:u1<4294967296:=by omega
 have bq:u0<4294967296:=by omega
 have f:Hid (Y=y1*4294967296+y0):=by show _=_;omega
 obtain⟨Q1,ag⟩:∃ Q1,(U*4294967296+u1)/Y=Q1:=⟨_,rfl⟩;obtain⟨R1,S⟩:∃ R1,(U*4294967296+u1)%Y=R1:=⟨_,rfl⟩;have a6:U*4294967296+u1=Q1*Y+R1:=by
  have:=qM (U*4294967296+u1) Y;rw[ag,S,pM]at this;exact this.symm
 have bG:R1<Y:=by rw[<-S];exact qf _ (by omega)
 obtain⟨Q0,ad⟩:∃ Q0,(R1*4294967296+u0)/Y=Q0:=⟨_,rfl⟩;obtain⟨R0,P⟩:∃ R0,(R1*4294967296+u0)%Y=R0:=⟨_,rfl⟩;have a5:R1*4294967296+u0=Q0*Y+R0:=by
  have:=qM (R1*4294967296+u0) Y;rw[ad,P,pM]at this;exact this.symm
 have bf:R0<Y:=by rw[<-P];exact qf _ (by omega)
 obtain⟨f1,f2⟩:=Qi (N:=hi*18446744073709551616+lo) (y:=y) (Y:=Y) (U:=U) (L:=L) (s:=s) (u1:=u1) (u0:=u0) (Q1:=Q1) (R1:=R1) (Q0:=Q0) (R0:=R0) hY.symm (by omega) hN a6 a5 bf;obtain⟨QQ,bd⟩:∃ QQ,Q1*4294967296+Q0=QQ:=⟨_,rfl⟩;obtain⟨RR,ar⟩:∃ RR,R0/2^s=RR:=⟨_,rfl⟩;rw[bd]at f1;rw[ar]at f2;have F1:=lz f1;have F2:=lz f2;have kr:(R0:Int)/2^s=(RR:Int):=by rw[<-ar];push_cast;rfl
 have bz:=lz a6;have bx:=lz a5;have n:Hid (Q1*(y1*4294967296+y0)<=U*4294967296+u1):=by show _<=_;rw[<-f.out];omega
 have F:Hid (U*4294967296+u1<(Q1+1)*(y1*4294967296+y0)):=by show _<_;rw[<-f.out,qJ];omega
 have d:Hid (Q0*(y1*4294967296+y0)<=R1*4294967296+u0):=by show _<=_;rw[<-f.out];omega
 have m:Hid (R1*4294967296+u0<(Q0+1)*(y1*4294967296+y0)):=by show _<_;rw[<-f.out,qJ];omega
 have ak:Hid (U<y1*4294967296+y0):=by show _<_;rw[<-f.out];omega
 have J:Hid (R1<y1*4294967296+y0):=by show _<_;rw[<-f.out];omega
 have bp:=W.digit_lt (b:=4294967296) (y:=y1*4294967296+y0) (U:=U) (u:=u1) ak.out (by omega) n.out;have bo:=W.digit_lt (b:=4294967296) (y:=y1*4294967296+y0) (U:=R1) (u:=u0) J.out (by omega) d.out;have bn:IntKind.u64.wrap ((Q1:Int)*4294967296)=(Q1:Int)*4294967296:=wrap_u64 (by omega) (by omega);have kq:IntKind.u64.wrap ((Q1:Int)*4294967296+(Q0:Int))=(QQ:Int):=Au (by omega) (by omega);obtain⟨gU,Z⟩:∃ gU,U/y1=gU:=⟨_,rfl⟩;obtain⟨rU,a9⟩:∃ rU,U%y1=rU:=⟨_,rfl⟩;have aa:gU*y1+rU=U:=by rw[<-Z,<-a9,pM];exact qM _ _
 have bR:rU<y1:=by rw[<-a9];exact qf _ (by omega)
 have bl:gU<=U:=by rw[<-Z];exact qE _ _
 have k1:IntKind.u64.wrap ((U:Int)/(y1:Int))=(gU:Int):=Au (by rw[<-Z];exact(wm _ _).symm) (by omega);have bN:IntKind.u64.wrap ((U:Int).tdiv (y1:Int))=(gU:Int):=by rw[qI (by omega)];exact k1
 have k2:IntKind.u64.wrap ((U:Int)-IntKind.u64.wrap ((gU:Int)*(y1:Int)))=(rU:Int):=Mm aa.symm (by omega);have al:=lz aa;have b9:Hid (gU<=4294967297):=by have:=W.guess_le (b:=4294967296) (y1:=y1) (y0:=y0) (U:=U) (by omega) (by omega) (by rw[<-f.out];omega);rw[Z]at this;exact this
 clear aa bl Z a9;obtain⟨C,X⟩:∃ C,R1/y1=C:=⟨_,rfl⟩;obtain⟨rR,a8⟩:∃ rR,R1%y1=rR:=⟨_,rfl⟩;have ab:C*y1+rR=R1:=by rw[<-X,<-a8,pM];exact qM _ _
 have c0:rR<y1:=by rw[<-a8];exact qf _ (by omega)
 have bm:C<=R1:=by rw[<-X];exact qE _ _
 have k3:IntKind.u64.wrap ((R1:Int)/(y1:Int))=(C:Int):=Au (by rw[<-X];exact(wm _ _).symm) (by omega);have bW:IntKind.u64.wrap ((R1:Int).tdiv (y1:Int))=(C:Int):=by rw[qI (by omega)];exact k3
 have k4:IntKind.u64.wrap ((R1:Int)-IntKind.u64.wrap ((C:Int)*(y1:Int)))=(rR:Int):=Mm ab.symm (by omega);have a4:=lz ab;have ac:Hid (C<=4294967297):=by have:=W.guess_le (b:=4294967296) (y1:=y1) (y0:=y0) (U:=R1) (by omega) (by omega) (by rw[<-f.out];omega);rw[X]at this;exact this
 clear ab bm X a8;have k5:=Ml (U:=U) (u:=u1) (Q:=Q1) (Y:=Y) (R:=R1) a6 (by omega);have k6:=Ml (U:=R1) (u:=u0) (Q:=Q0) (Y:=Y) (R:=R0) a5 (by omega);rw[f1,f2];clear ap av ax aq hH ba hU hN bk b8 bj b3 ag S ad P f1 f2 hY
 go_enter func293,ntmps293
 generalize hK:(4294967296:Int)=K at bn kq k5 k6 |-;have o:=lz hK;clear hK
 go_wp2_with fail
 refine(Qh hy _).mono ?_;rintro e w1 ⟨rfl,rfl⟩;rw[b1];clear b1;clear a6 a5;go_wp2
 go_loop[15,16] (fun O rv=>∃ g r:Nat,O = .int .u64 g/\rv = .int .u64 r/\Hid (g*y1+r=U)/\Hid (Q1<=g)/\Hid (g<=4294967297/\r<4294967296)) (fun O _=>(intOf O).toNat)
 case atStart=>exact⟨gU,rU,rfl,rfl,al,lz (W.guess_hi (b:=4294967296) (y1:=y1) (y0:=y0) (U:=U) (u:=u1) (q:=Q1) (g:=gU) (r:=rU) al.out n.out (by omega) (by omega)),lz ⟨b9.out,by omega⟩⟩
 case round =>
  obtain⟨g,r,rfl,rfl,E,G,HB⟩:=hrel;obtain⟨aA,b2⟩:=HB.out;obtain⟨p,hp⟩:∃ p,g*y0=p:=⟨_,rfl⟩;obtain⟨l,B⟩:∃ l,4294967296*r+u1=l:=⟨_,rfl⟩;have b7:IntKind.u64.wrap (K*(r:Int))=K*(r:Int):=by rw[<-show(4294967296:Int)=K from o.out];exact wrap_u64 (by omega) (by omega)
  have ai:IntKind.u64.wrap (K*(r:Int)+(u1:Int))=(l:Int):=by rw[<-show(4294967296:Int)=K from o.out];exact Au (by omega) (by omega)
  have k:=lz hp;have v:=lz B;clear hp B;have I:Hid (Q1<4294967296):=W.digit_lt (b:=4294967296) (y:=y1*4294967296+y0) (U:=U) (u:=u1) ak.out (by omega) n.out;by_cases T:4294967296<=g\/(g<4294967296/\l<p)
  · have HD:Hid (Q1<g):=W.guess_down (b:=4294967296) (y1:=y1) (y0:=y0) (U:=U) (u:=u1) E.out n.out I.out (by rw[k.out,v.out];omega);obtain⟨a,rfl⟩:∃ a,g=a+1:=⟨g-1,by have:=HD.out;omega⟩;have b4:IntKind.u64.wrap ((a:Int)+1-1)=a:=Au (by omega) (by omega);have ah:IntKind.u64.wrap (a:Int)=a:=Au (by omega) (by omega);obtain⟨i,j⟩:∃ i,r+y1=i:=⟨_,rfl⟩;have b5:IntKind.u64.wrap ((r:Int)+(y1:Int))=(i:Int):=Au (by omega) (by omega);have t:Hid (a*y1+i=U):=by
     have h1:=E.out;show _=_;rw[<-j,<-h1]
     grind
    have z:Hid (Q1<=a):=by have:=HD.out;show _<=_;omega
    have aj:=lz j;clear j;have c:K<=(a:Int)+1\/((a:Int)+1<K/\IntKind.u64.wrap (((a:Int)+1)*(y0:Int))=(p:Int)/\(l:Int)<p):=by
     have ao:=o.out;rcases T with h|⟨h1,h2⟩
     · left;omega
     · right;refine⟨by omega,Au (by rw[<-k.out];push_cast;rfl) ?_,by omega⟩;rw[<-k.out];have:(a+1)*y0<=4294967295*4294967295:=qK (by omega) (by omega);omega
    clear T;by_cases a3:4294967296<=i
    · have D:Hid (a=Q1):=by
       show _=_;have h1:=W.guess_done (b:=4294967296) (y1:=y1) (y0:=y0) (U:=U) (u:=u1) (q:=Q1) t.out F.out (W.guess_over a3 (by omega) (by omega));have h2:=z.out;omega
      have hF:=D.out;subst hF;have A:K<=(i:Int):=by have:=o.out;omega
      rcases c with hk|⟨a0,a1,a2⟩
      all_goals
       go_wp2
       go_loop[18,16] (fun O rv=>∃ g r:Nat,O = .int .u64 g/\rv = .int .u64 r/\Hid (g*y1+r=R1)/\Hid (Q0<=g)/\Hid (g<=4294967297/\r<4294967296)) (fun O _=>(intOf O).toNat)
       case atStart=>exact⟨C,rR,rfl,rfl,a4,lz (W.guess_hi (b:=4294967296) (y1:=y1) (y0:=y0) (U:=R1) (u:=u0) (q:=Q0) (g:=C) (r:=rR) a4.out d.out (by omega) (by omega)),lz ⟨ac.out,by omega⟩⟩
       case round =>
        obtain⟨g,r,rfl,rfl,E,G,HB⟩:=hrel;obtain⟨aA,b2⟩:=HB.out;obtain⟨p,hp⟩:∃ p,g*y0=p:=⟨_,rfl⟩;obtain⟨l,B⟩:∃ l,4294967296*r+u0=l:=⟨_,rfl⟩;have b7:IntKind.u64.wrap (K*(r:Int))=K*(r:Int):=by rw[<-show(4294967296:Int)=K from o.out];exact wrap_u64 (by omega) (by omega)
        have ai:IntKind.u64.wrap (K*(r:Int)+(u0:Int))=(l:Int):=by rw[<-show(4294967296:Int)=K from o.out];exact Au (by omega) (by omega)
        have k:=lz hp;have v:=lz B;clear hp B;have I:Hid (Q0<4294967296):=W.digit_lt (b:=4294967296) (y:=y1*4294967296+y0) (U:=R1) (u:=u0) J.out (by omega) d.out;by_cases T:4294967296<=g\/(g<4294967296/\l<p)
        · have HD:Hid (Q0<g):=W.guess_down (b:=4294967296) (y1:=y1) (y0:=y0) (U:=R1) (u:=u0) E.out d.out I.out (by rw[k.out,v.out];omega);obtain⟨a,rfl⟩:∃ a,g=a+1:=⟨g-1,by have:=HD.out;omega⟩;have b4:IntKind.u64.wrap ((a:Int)+1-1)=a:=Au (by omega) (by omega);have ah:IntKind.u64.wrap (a:Int)=a:=Au (by omega) (by omega);obtain⟨i,j⟩:∃ i,r+y1=i:=⟨_,rfl⟩;have b5:IntKind.u64.wrap ((r:Int)+(y1:Int))=(i:Int):=Au (by omega) (by omega);have t:Hid (a*y1+i=R1):=by
           have h1:=E.out;show _=_;rw[<-j,<-h1]
           grind
          have z:Hid (Q0<=a):=by have:=HD.out;show _<=_;omega
          have aj:=lz j;clear j;have c:K<=(a:Int)+1\/((a:Int)+1<K/\IntKind.u64.wrap (((a:Int)+1)*(y0:Int))=(p:Int)/\(l:Int)<p):=by
           have ao:=o.out;rcases T with h|⟨h1,h2⟩
           · left;omega
           · right;refine⟨by omega,Au (by rw[<-k.out];push_cast;rfl) ?_,by omega⟩;rw[<-k.out];have:(a+1)*y0<=4294967295*4294967295:=qK (by omega) (by omega);omega
          clear T;by_cases a3:4294967296<=i
          · have D:Hid (a=Q0):=by
             show _=_;have h1:=W.guess_done (b:=4294967296) (y1:=y1) (y0:=y0) (U:=R1) (u:=u0) (q:=Q0) t.out m.out (W.guess_over a3 (by omega) (by omega));have h2:=z.out;omega
            have hF:=D.out;subst hF;have A:K<=(i:Int):=by have:=o.out;omega
            rcases c with hk|⟨a0,a1,a2⟩
            all_goals
             go_wp2
             go_ret2
             exact⟨rfl,Qt.refl _⟩
          · have A:(i:Int)<K:=by have:=o.out;omega
            rcases c with hk|⟨a0,a1,a2⟩
            all_goals
             go_wp2;go_round
             case rel=>exact⟨a,i,by go_num,rfl,t,z,lz ⟨by omega,by omega⟩⟩
             case measure=>simp[intOf]
        · have D:Hid (g=Q0):=by
           show _=_;have h1:=W.guess_done (b:=4294967296) (y1:=y1) (y0:=y0) (U:=R1) (u:=u0) (q:=Q0) E.out m.out (by rw[k.out,v.out];omega);have h2:=G.out;omega
          have ay:(g:Int)<K:=by have:=o.out;omega
          have b6:IntKind.u64.wrap ((g:Int)*(y0:Int))=(p:Int):=by
           refine Au (by rw[<-k.out];push_cast;rfl) ?_;rw[<-k.out];have:g*y0<=4294967295*4294967295:=qK (by omega) (by omega);omega
          have b0:(p:Int)<=(l:Int):=by omega
          have hF:=D.out;subst hF;clear T;go_wp2
          go_ret2
          exact⟨rfl,Qt.refl _⟩
    · have A:(i:Int)<K:=by have:=o.out;omega
      rcases c with hk|⟨a0,a1,a2⟩
      all_goals
       go_wp2;go_round
       case rel=>exact⟨a,i,by go_num,rfl,t,z,lz ⟨by omega,by omega⟩⟩
       case measure=>simp[intOf]
  · have D:Hid (g=Q1):=by
     show _=_;have h1:=W.guess_done (b:=4294967296) (y1:=y1) (y0:=y0) (U:=U) (u:=u1) (q:=Q1) E.out F.out (by rw[k.out,v.out];omega);have h2:=G.out;omega
    have ay:(g:Int)<K:=by have:=o.out;omega
    have b6:IntKind.u64.wrap ((g:Int)*(y0:Int))=(p:Int):=by
     refine Au (by rw[<-k.out];push_cast;rfl) ?_;rw[<-k.out];have:g*y0<=4294967295*4294967295:=qK (by omega) (by omega);omega
    have b0:(p:Int)<=(l:Int):=by omega
    have hF:=D.out;subst hF;clear T;go_wp2
    go_loop[18,16] (fun O rv=>∃ g r:Nat,O = .int .u64 g/\rv = .int .u64 r/\Hid (g*y1+r=R1)/\Hid (Q0<=g)/\Hid (g<=4294967297/\r<4294967296)) (fun O _=>(intOf O).toNat)
    case atStart=>exact⟨C,rR,rfl,rfl,a4,lz (W.guess_hi (b:=4294967296) (y1:=y1) (y0:=y0) (U:=R1) (u:=u0) (q:=Q0) (g:=C) (r:=rR) a4.out d.out (by omega) (by omega)),lz ⟨ac.out,by omega⟩⟩
    case round =>
     obtain⟨g,r,rfl,rfl,E,G,HB⟩:=hrel;obtain⟨aA,b2⟩:=HB.out;obtain⟨p,hp⟩:∃ p,g*y0=p:=⟨_,rfl⟩;obtain⟨l,B⟩:∃ l,4294967296*r+u0=l:=⟨_,rfl⟩;have b7:IntKind.u64.wrap (K*(r:Int))=K*(r:Int):=by rw[<-show(4294967296:Int)=K from o.out];exact wrap_u64 (by omega) (by omega)
     have ai:IntKind.u64.wrap (K*(r:Int)+(u0:Int))=(l:Int):=by rw[<-show(4294967296:Int)=K from o.out];exact Au (by omega) (by omega)
     have k:=lz hp;have v:=lz B;clear hp B;have I:Hid (Q0<4294967296):=W.digit_lt (b:=4294967296) (y:=y1*4294967296+y0) (U:=R1) (u:=u0) J.out (by omega) d.out;by_cases T:4294967296<=g\/(g<4294967296/\l<p)
     · have HD:Hid (Q0<g):=W.guess_down (b:=4294967296) (y1:=y1) (y0:=y0) (U:=R1) (u:=u0) E.out d.out I.out (by rw[k.out,v.out];omega);obtain⟨a,rfl⟩:∃ a,g=a+1:=⟨g-1,by have:=HD.out;omega⟩;have b4:IntKind.u64.wrap ((a:Int)+1-1)=a:=Au (by omega) (by omega);have ah:IntKind.u64.wrap (a:Int)=a:=Au (by omega) (by omega);obtain⟨i,j⟩:∃ i,r+y1=i:=⟨_,rfl⟩;have b5:IntKind.u64.wrap ((r:Int)+(y1:Int))=(i:Int):=Au (by omega) (by omega);have t:Hid (a*y1+i=R1):=by
        have h1:=E.out;show _=_;rw[<-j,<-h1]
        grind
       have z:Hid (Q0<=a):=by have:=HD.out;show _<=_;omega
       have aj:=lz j;clear j;have c:K<=(a:Int)+1\/((a:Int)+1<K/\IntKind.u64.wrap (((a:Int)+1)*(y0:Int))=(p:Int)/\(l:Int)<p):=by
        have ao:=o.out;rcases T with h|⟨h1,h2⟩
        · left;omega
        · right;refine⟨by omega,Au (by rw[<-k.out];push_cast;rfl) ?_,by omega⟩;rw[<-k.out];have:(a+1)*y0<=4294967295*4294967295:=qK (by omega) (by omega);omega
       clear T;by_cases a3:4294967296<=i
       · have D:Hid (a=Q0):=by
          show _=_;have h1:=W.guess_done (b:=4294967296) (y1:=y1) (y0:=y0) (U:=R1) (u:=u0) (q:=Q0) t.out m.out (W.guess_over a3 (by omega) (by omega));have h2:=z.out;omega
         have hF:=D.out;subst hF;have A:K<=(i:Int):=by have:=o.out;omega
         rcases c with hk|⟨a0,a1,a2⟩
         all_goals
          go_wp2
          go_ret2
          exact⟨rfl,Qt.refl _⟩
       · have A:(i:Int)<K:=by have:=o.out;omega
         rcases c with hk|⟨a0,a1,a2⟩
         all_goals
          go_wp2;go_round
          case rel=>exact⟨a,i,by go_num,rfl,t,z,lz ⟨by omega,by omega⟩⟩
          case measure=>simp[intOf]
     · have D:Hid (g=Q0):=by
        show _=_;have h1:=W.guess_done (b:=4294967296) (y1:=y1) (y0:=y0) (U:=R1) (u:=u0) (q:=Q0) E.out m.out (by rw[k.out,v.out];omega);have h2:=G.out;omega
       have ay:(g:Int)<K:=by have:=o.out;omega
       have b6:IntKind.u64.wrap ((g:Int)*(y0:Int))=(p:Int):=by
        refine Au (by rw[<-k.out];push_cast;rfl) ?_;rw[<-k.out];have:g*y0<=4294967295*4294967295:=qK (by omega) (by omega);omega
       have b0:(p:Int)<=(l:Int):=by omega
       have hF:=D.out;subst hF;clear T;go_wp2
       go_ret2
       exact⟨rfl,Qt.refl _⟩
theorem Fk(f:y<18446744073709551616)(a:lo<18446744073709551616)(b:hi<y) :
 Calls prog 293 #[.int .u64 hi,.int .u64 lo,.int .u64 y] w fun e d=>∃ q r:Nat,e = .returned (.tuple #[.int .u64 (q:Int),.int .u64 (r:Int)])/\q<18446744073709551616/\r<y/\hi*18446744073709551616+lo=q*y+r/\Qt w d:=by
 rcases pT hi with h0|h0
 · subst h0;refine(Jb f a b).mono ?_;rintro e d ⟨rfl,c⟩;refine⟨lo/y,lo%y,rfl,?_,qf _ b,?_,c⟩
   · have:=qE lo y;omega
   · have:=qM lo y;rw[pM]at this;rw[r7,qA];exact this.symm
 · refine(KO f a b h0).mono ?_;rintro e d ⟨rfl,c⟩;refine⟨(hi*18446744073709551616+lo)/y,(hi*18446744073709551616+lo)%y,rfl,?_,qf _ (by omega),?_,c⟩
   · rw[re (by omega)];have:(hi+1)*18446744073709551616<=y*18446744073709551616:=px _ b;omega
   · have:=qM (hi*18446744073709551616+lo) y;rw[pM]at this;exact this.symm
theorem Dq(h:k<xs.length):xs.drop k=xs.getD k 0 :: xs.drop (k+1):=by
 rw[qo h,gqq,oO h];rfl
theorem drop_set{zs:List Nat}{k q:Nat}(h:k<zs.length):(zs.set k q).drop k=q :: zs.drop (k+1):=by
 rw[Dq (xs:=zs.set k q) (by simpa using h)];have h1:(zs.set k q).getD k 0=q:=by simp[h]
 have h2:(zs.set k q).drop (k+1)=zs.drop (k+1):=by rw[List.drop_set];simp
 rw[h1,h2]
theorem KT{q r':Nat}(a:k<xs.length)(b:k<zs.length)(h:W.val B (xs.drop (k+1))=W.val B (zs.drop (k+1))*d+r)(e:r*B+xs.getD k 0=q*d+r') :
 W.val B (xs.drop k)=W.val B ((zs.set k q).drop k)*d+r':=by
 rw[Dq a,drop_set b];simp only[W.val];rw[h];generalize xs.getD k 0=x at *
 generalize W.val B (zs.drop (k+1))=Z at *
 have h1:x+B*(Z*d+r)=B*Z*d+(r*B+x):=by grind
 rw[h1,e]
 grind
theorem KU(R:SlN .u64 w a n c xs)(N:W.bnd 18446744073709551616 xs)(Q:W.val 18446744073709551616 xs=x)(Y:d<18446744073709551616)(h0:0<d)(hn:n<=1000000) :
 Calls prog 318 #[.slice a n c,.int .u64 d] w fun e S=>∃ A L P T,e = .returned (.tuple #[.slice A L P,.int .u64 ((x%d:Nat):Int)])/\Ext w S/\SlN .u64 S A L P T/\Num 18446744073709551616 T (x/d)/\Hg w.heap.size (fun _=>False) A L:=by
 have t:=lz R.len;have U:=lz N;have X:=lz Q;clear N Q
 go_enter func318,ntmps318
 go_upto_region 3 with(at_make;refine C6 (n:=n) rfl rfl underlying81 AK rfl rfl rfl (by omega) (by unfold maxLen;omega) ?_;intro w1 m l)
 go_wp2
 go_loopw[7,8] (fun rv iv wr=>∃ (k r:Nat) (zs:List Nat),k<=n/\rv = .int .u64 r/\iv = .int .i64 ((k:Int)-1)/\r<d/\Ext w wr/\Az .u64 wr w.heap.size 238 w.heap.size n n zs/\W.bnd 18446744073709551616 zs/\Hid (W.val 18446744073709551616 (xs.drop k)=W.val 18446744073709551616 (zs.drop k)*d+r)) (fun _ v _=>(intOf v+1).toNat)
 case atStart=>exact⟨n,0,List.replicate n 0,lrf _,rfl,by go_num,h0,l,Az.of_zeros m,fun z f=>by rw[(qS.1 f).2];omega,lz (by rw[qm (by rw[t.out];exact lrf _),qm (by simp)];simp[W.val])⟩
 case round =>
  clear m l;obtain⟨k,r,zs,hk,rfl,rfl,H,C,f,O,M⟩:=hrel;cases k with
  | zero =>
   have b:x/d=W.val 18446744073709551616 zs/\x%d=r:=by
    have h1:=M.out;rw[qN,qN,X.out]at h1;rw[h1,pM];exact⟨by rw[tH h0,rH H,qy],by rw[v8,rG H]⟩
   go_wp2_with fail
   refine(Bq f.sl).mono ?_;rintro e w4 ⟨q,rfl,rfl,G,Z⟩;obtain⟨t1,t2⟩:=BE f.sl G Z O b.1.symm;go_wp2
   go_ret2
   exact⟨_,q,_,_,by rw[b.2];rfl,C,t1,t2,fun _ g h=>Or.inl (by cases h;exact lrf _)⟩
  | succ k =>
   obtain⟨b1,o1,rfl,o⟩:=(R.ext C).at (j:=k) (by omega);have g1:=o k (by omega);have J:((k+1:Nat):Int)-1=k:=by omega
   rw[J];have K:=W.bnd_at U.out (i:=k) (by rw[t.out];omega);have s:=lz (fun q r'=>KT (B:=18446744073709551616) (xs:=xs) (zs:=zs) (k:=k) (q:=q) (r:=r) (r':=r') (d:=d) (by rw[t.out];omega) (by rw[f.len];omega) M.out);generalize xs.getD k 0=u at *
   have F:=fun wx:World=>Fk (w:=wx) (hi:=r) (lo:=u) (y:=d) Y K H;clear o
   go_wp2_with fail
   refine(F _).mono ?_;rintro e w2 ⟨q,r',rfl,G,I,he,E⟩;have g3:=(f.ext E.ext).frozen k;have V:=lz (s.out q r' he);have p:=f.ext E.ext;have D:=C.trans E.ext;have g4:=p.cell (i:=k) (by omega);clear he;go_wp2;go_roundw
   case rel=>exact⟨k,r',zs.set k q,by omega,rfl,by go_num,I,D.setCell (lrf _) _,p.set k q,W.bnd_set O G,V⟩
   case measure=>simp[intOf]
theorem Eo(E:SlN .u64 w a n c xs)(C:W.bnd 18446744073709551616 xs)(D:W.val 18446744073709551616 xs=x)(I:d<18446744073709551616)(h0:0<d)(R:n<=1000000) :
 Calls prog 243 #[.slice a n c,.int .u64 d] w fun e M=>e = .returned (.int .u64 ((x%d:Nat):Int))/\Qt w M:=by
 have o:=lz E.len;have F:=lz C;have H:=lz D;clear C D
 go_enter func243,ntmps243
 go_wp2
 go_loopw[5,6] (fun L K wr=>∃ (k r:Nat),k<=n/\L = .int .u64 r/\K = .int .i64 ((k:Int)-1)/\r<d/\Qt w wr/\Hid (W.val 18446744073709551616 (xs.drop k)%d=r)) (fun _ v _=>(intOf v+1).toNat)
 case atStart=>exact⟨n,0,lrf _,rfl,by go_num,h0,Qt.refl _,lz (by rw[qm (by rw[o.out];exact lrf _)];simp[W.val])⟩
 case round =>
  obtain⟨k,r,Q,rfl,rfl,J,p,B⟩:=hrel;cases k with
  | zero =>
   have l:x%d=r:=by
    have h1:=B.out;rw[qN,H.out]at h1;exact h1
   go_wp2;go_ret;exact⟨by rw[l];rfl,p⟩
  | succ k =>
   obtain⟨O,T,rfl,g⟩:=(E.ext p.ext).at (j:=k) (by omega);have P:=g k (by omega);have z:((k+1:Nat):Int)-1=k:=by omega
   rw[z];have A:=W.bnd_at F.out (i:=k) (by rw[o.out];omega);have m:Hid (∀ q b,r*18446744073709551616+xs.getD k 0=q*d+b->b < d->W.val 18446744073709551616 (xs.drop k)%d=b):=by
    show ∀ q b,r*18446744073709551616+xs.getD k 0=q*d+b->b < d->W.val 18446744073709551616 (xs.drop k)%d=b;intro q b e f;rw[Dq (by rw[o.out];omega)];simp only[W.val];have h1:=B.out;have h2:=qM (W.val 18446744073709551616 (xs.drop (k+1))) d;rw[h1]at h2;rw[<-h2];generalize W.val 18446744073709551616 (xs.drop (k+1))/d=Z;generalize xs.getD k 0=u at *
    have h3:u+18446744073709551616*(d*Z+r)=d*(18446744073709551616*Z+q)+b:=by grind
    rw[h3,v8,rG f]
   generalize xs.getD k 0=u at *
   have t:=fun N:World=>Fk (w:=N) (hi:=r) (lo:=u) (y:=d) I A J;clear g
   go_wp2_with fail
   refine(t _).mono ?_;rintro e U ⟨q,b,rfl,S,f,he,s⟩;have G:=lz (m.out q b he f);clear he;go_wp2;go_roundw
   case rel=>exact⟨k,b,by omega,rfl,by go_num,f,p.trans s,G⟩
   case measure=>simp[intOf]
theorem SJ{w:Nat}(f:o+k<l.length)(g:k<xs.length)(h:W.val B l+w*W.val B (xs.take k)*B^o=V+c*B^(o+k))(e:s+xs.getD k 0*w+c=l.getD (o+k) 0+B*c') :
 W.val B (l.set (o+k) s)+w*W.val B (xs.take (k+1))*B^o=V+c'*B^(o+(k+1)):=by
 have h1:=W.val_set (B:=B) (xs:=l) (i:=o+k) (v:=s) f;have h2:=W.val_take_succ (B:=B) g;rw[h2,<-sB,qB];have h3:B^(o+k)=B^o*B^k:=sG _ _ _;rw[h3]at h h1 |-;generalize l.getD (o+k) 0=x at *
 generalize xs.getD k 0=y at *
 generalize W.val B (l.set (o+k) s)=a at *
 generalize W.val B l=b at *
 generalize W.val B (xs.take k)=d at *
 generalize B^k=p at *
 generalize B^o=q at *
 grind
theorem Us{z:Nat}(c:z<18446744073709551616)(hu:u<18446744073709551616)(b:wd<18446744073709551616)(a:cy<18446744073709551616) :
 u*wd/18446744073709551616+(u*wd%18446744073709551616+cy+0)/18446744073709551616<18446744073709551616/\u*wd/18446744073709551616+(u*wd%18446744073709551616+cy+0)/18446744073709551616+(if z<(u*wd%18446744073709551616+cy+0)%18446744073709551616+0 then 1 else 0)<18446744073709551616 /\
 (z+18446744073709551616-(u*wd%18446744073709551616+cy+0)%18446744073709551616-0)%18446744073709551616+u*wd+cy=z+18446744073709551616*(u*wd/18446744073709551616+(u*wd%18446744073709551616+cy+0)/18446744073709551616+(if z<(u*wd%18446744073709551616+cy+0)%18446744073709551616+0 then 1 else 0)):=by
 have:u*wd<=18446744073709551615*18446744073709551615:=qK (by omega) (by omega);generalize u * wd=p at *
 split <;> omega
theorem Gi(Q:Az .u64 w base 238 g N C zs)(P:SlN .u64 w a n d xs)(r:blk a=none\/blk a≠some g)(ho:o+n<=N)(Y:W.bnd 18446744073709551616 zs)(X:W.bnd 18446744073709551616 xs)(Z:wd<18446744073709551616) :
 Calls prog 320 #[.slice (some ⟨g,o,none⟩) n c',.slice a n d,.int .u64 wd] w fun e w'=>∃ (b:Nat) (p:List Nat),e = .returned (.int .u64 b)/\b<18446744073709551616/\w.grownBy w' (some g)/\Az .u64 w' base 238 g N C p/\W.bnd 18446744073709551616 p/\W.val 18446744073709551616 p+wd*W.val 18446744073709551616 xs*18446744073709551616^o=W.val 18446744073709551616 zs+b*18446744073709551616^(o+n)/\(∀ j,o+n<=j->p.getD j 0=zs.getD j 0):=by
 have HZ:=lz Q.len;have H:=lz P.len;have a1:=P.le;have BX:=lz X;clear X
 go_enter func320,ntmps320
 go_wp2
 go_loopw[7,16] (fun cv S wr=>∃ (k b:Nat) (c:List Nat),cv = .int .u64 b/\S = .int .i64 k/\k<=n/\b<18446744073709551616/\w.grownBy wr (some g)/\Az .u64 wr base 238 g N C c/\W.bnd 18446744073709551616 c/\Hid (W.val 18446744073709551616 c+wd*W.val 18446744073709551616 (xs.take k)*18446744073709551616^o=W.val 18446744073709551616 zs+b*18446744073709551616^(o+k))/\Hid (∀ j,o+n<=j->c.getD j 0=zs.getD j 0)) (fun _ S _=>n-(intOf S).toNat)
 case atStart=>exact⟨0,0,zs,rfl,rfl,pE _,by omega,C8 _ _,Q,Y,lz (by simp[W.val]),lz (fun _ _=>rfl)⟩
 case round =>
  clear Q Y;obtain⟨k,b,c,rfl,rfl,hk,D,L,v,I,U,V⟩:=hrel;by_cases f:k<n
  · obtain⟨b1,o1,rfl,y⟩:=(P.kept L r).at (j:=k) f;have g1:=y k f;have g2:=v.cell (i:=o+k) (by omega);have g3:=v.frozen (o+k);have R:=W.bnd_at I (i:=o+k) (by rw[v.len];omega);have F:=W.bnd_at BX.out (i:=k) (by rw[H.out];exact f);obtain⟨m1,m2,m3⟩:=Us R F Z D;have HS:=lz (SJ (B:=18446744073709551616) (l:=c) (xs:=xs) (k:=k) (o:=o) (w:=wd) (by rw[v.len];omega) (by rw[H.out];exact f) U.out m3);have a0:(k:Int)<n:=by omega
    have G:Hid (∀ s j,o+n<=j->(c.set (o+k) s).getD j 0=zs.getD j 0):=by
     show ∀ s j,o+n<=j->(c.set (o+k) s).getD j 0=zs.getD j 0;intro s j hj;rw[<-V.out j hj];have r:¬ o+k=j:=by omega
     simp[r]
    generalize c.getD (o+k) 0=z at *
    generalize xs.getD k 0=u at *
    have E:=Jw F Z;have J:∀ m:World,(callFunc 300 #[.int .u64 ((u*wd%18446744073709551616:Nat):Int),.int .u64 (b:Int),.int .u64 0]).run prog m = .ok (.value (.tuple #[.int .u64 (((u*wd%18446744073709551616+b+0)%18446744073709551616:Nat):Int),.int .u64 (((u*wd%18446744073709551616+b+0)/18446744073709551616:Nat):Int)])) m:=fun m=>Cz (u*wd%18446744073709551616) b 0 (by omega) m;generalize u * wd/18446744073709551616=t at *
    generalize u * wd%18446744073709551616=pl at *
    generalize M:(pl+b+0)%18446744073709551616=s1 at *
    generalize A:(pl+b+0)/18446744073709551616=q at *
    have K:∀ m:World,(callFunc 291 #[.int .u64 (z:Int),.int .u64 (s1:Int),.int .u64 0]).run prog m = .ok (.value (.tuple #[.int .u64 (((z+18446744073709551616-s1-0)%18446744073709551616:Nat):Int),.int .u64 ((if z<s1+0 then 1 else 0:Nat):Int)])) m:=fun m=>Df z s1 0 (by omega) m;have O:(z+18446744073709551616-s1-0)%18446744073709551616<18446744073709551616:=qf _ (by omega);generalize (z+18446744073709551616-s1-0)%18446744073709551616=T at *
    generalize (if z<s1+0 then 1 else 0)=x at *
    have a2:IntKind.u64.wrap ((t:Int)+q)=((t+q:Nat):Int):=by rw[wrap_u64 (by omega) (by omega)];omega
    have a3:IntKind.u64.wrap (((t+q:Nat):Int)+x)=((t+q+x:Nat):Int):=by rw[wrap_u64 (by omega) (by omega)];omega
    have a4:IntKind.u64.wrap ((t:Int)+(q:Int)+x)=((t+q+x:Nat):Int):=by rw[wrap_u64 (by omega) (by omega)];omega
    clear y M A m3
    go_wp2_with(go_at_call 301;refine(E _).mono ?_;rintro e w1 ⟨rfl,rfl⟩)
    go_roundw
    case rel=>exact⟨k+1,t+q+x,c.set (o+k) T,by first | rfl | go_num,by go_num,by omega,m2,DP L _ _,v.set (o+k) T,W.bnd_set I O,HS,lz (G.out T)⟩
    case measure=>simp[intOf];omega
  · have ek:k=n:=by omega
    go_wp2;go_ret;have h1:=U.out;rw[ek,pu (by rw[H.out];exact lrf _)]at h1;exact⟨b,c,rfl,D,L,v,I,h1,V.out⟩
end Go.Proofs.YtlbmnokpiilfpaaGreatDoor
