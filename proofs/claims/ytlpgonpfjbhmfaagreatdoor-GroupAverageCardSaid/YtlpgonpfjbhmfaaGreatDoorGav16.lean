/- Part Gav16. -/
import Derived.Test.YtlpgonpfjbhmfaaGreatDoorGav15
set_option maxRecDepth 100000
set_option maxHeartbeats 100000000
namespace Go.Proofs.YtlpgonpfjbhmfaaGreatDoor
open Tryz Go Go.RowKit
variable {s:Bool} {y z:Int} {l:List Oper} {cs:List Value} {R c d i j m n x:Nat} {a b:Option Addr} {t:TypeId} {v v':Value} {w w' w1 w9:World}
def Dz (j:Nat) (o:Oper):Oper:={ o with after:=o.after.push { on:=j,ground := .data } }
theorem Iz (j:Nat) (o:Oper) (ρ:Operand→Value):execOp ρ (Dz j o)=execOp ρ o:=by
 obtain ⟨dst,op,type,pos,after,guard⟩:=o;cases op <;> rfl
section
variable {P:Program} {Q:Exit→Act→World→Prop}
theorem GL (l:List Oper) (m j:Nat):(l.modify m (Dz 0)).toArray[j]?=(l.toArray[j]?).map (fun o=>if m=j then Dz 0 o else o):=by
 simp only [List.getElem?_toArray,List.getElem?_modify];cases l[j]? with
 | none=>rfl
 | some o=>by_cases h:m=j <;> simp [h]
theorem Gh {L:Array Bool} (h0:L.getD 0 false=true):j∈Region.ready .any (l.modify m (Dz 0)).toArray L↔j∈Region.ready .any l.toArray L:=by
 rw [mem_ready,mem_ready,GL];constructor
 · rintro ⟨h1,o,ho,hall⟩;cases hj:l.toArray[j]? with
   | none=>rw [hj] at ho; cases ho
   | some o' =>
    rw [hj] at ho;simp only [Option.map_some,Option.some.injEq] at ho;refine ⟨h1,o',rfl,fun e he hb=>hall e ?_ hb⟩;rw [←ho];split
    · exact Array.mem_push_of_mem _ he
    · exact he
 · rintro ⟨h1,o,ho,hall⟩;rw [ho];refine ⟨h1,_,rfl,fun e he hb => ?_⟩;split at he
   · rcases Array.mem_push.1 he with he|he
     · exact hall e he hb
     · rw [he]; exact h0
   · exact hall e he hb
theorem L4 (l:List Oper) (m:Nat) (t:Array Value):yielded (l.modify m (Dz 0)).toArray t=yielded l.toArray t:=by
 funext g;unfold yielded;rw [GL];cases l.toArray[g]? with
 | none=>rfl
 | some o=>by_cases h:m=g <;> simp [h,Dz]
theorem Qx {K:Act→World→Prop} {a:Act} (h:wpOp P (l.modify m (Dz 0)).toArray Q i K a w):wpOp P l.toArray Q i K a w:=by
 unfold wpOp at *
 rw [GL] at h;cases ho:l.toArray[i]? with
 | none=>rw [ho] at h; exact h
 | some o =>
  rw [ho] at h;simp only [Option.map_some,L4] at h;by_cases hm:m=i
  · simp only [if_pos hm] at h;have e1:Region.wanted (Dz 0 o) (yielded l.toArray a.tmps)=Region.wanted o (yielded l.toArray a.tmps):=rfl;have e2:Oper.wp P (Dz 0 o) a w K Q=Oper.wp P o a w K Q:=by unfold Oper.wp; rw [Iz]; rfl
    have e3:Oper.asks P (Dz 0 o) a w=Oper.asks P o a w:=by unfold Oper.asks; rw [Iz]
    rw [e1,e2,e3] at h;exact h
  · simp only [if_neg hm] at h;exact h
theorem Jt {l:List Oper} {m:Nat}:∀ (f:Nat) (L:Array Bool) (a:Act) (w:World),L.getD 0 false=true→wpAny P .any (l.modify m (Dz 0)).toArray Q f L a w→wpAny P .any l.toArray Q f L a w
 | 0,L,a,w,h0,h=>by
  refine ⟨?_,h.2⟩;refine List.eq_nil_iff_forall_not_mem.2 fun j hj => ?_;have:=(Gh (m:=m) h0).2 hj;rw [h.1] at this;cases this
 | f+1,L,a,w,h0,h=>by
  refine ⟨fun hr=>h.1 (List.eq_nil_iff_forall_not_mem.2 fun j hj => ?_),fun i hi => ?_⟩
  · have:=(Gh h0).1 hj;rw [hr] at this;cases this
  · exact wpOp_mono (fun a' w' h'=>Jt f _ a' w' (getD_set_true h0) h') (Qx (h.2 i ((Gh h0).2 hi)))
def VG:Op→Bool | .select _ _=>true | _=>false
def Px (ops:Array Oper):Bool :=
 (match ops[0]? with
  | some o=>(match o.op with | .move _=>true | _=>false) && o.guard.isNone && o.after.isEmpty && (List.range ops.size).all (fun j=>j == 0 || (match ops[j]? with | some oj=>oj.after.any (fun e=>Region.binds .any e && e.on == 0) || o.apart ops oj | none=>true))
  | none=>false) && (List.range ops.size).all (fun j=>match ops[j]? with | some o => !VG o.op | none=>true)
theorem Cs {id:Nat} {a:Act} (m:Nat) (hm0:m≠0) (hm:P.follows .mixedOrders=true) (C:World→Prop) (hs:List Hd)
 (hok:CN (l.modify m (Dz 0)).toArray (hs.map (·.cons)) a.tmps.size=true) (hfl:Px l.toArray=true)
 (hQ:∀ c a w d v,Q (.panic c) (Act.put a d v) w→Q (.panic c) a w)
 (hCe:∀ w w',Ext w w'→C w→C w') (hC:C w.drew) (hst:F8 hs)
 (hobl:KT P C (l.modify m (Dz 0)).toArray hs a 0 (l.modify m (Dz 0)) hs)
 (hend:∀ w',C w'→DN w' (fun a'=>wpList P (l.modify m (Dz 0)).toArray Q ((l.modify m (Dz 0)).drop hs.length) a' w') (l.modify m (Dz 0)) hs a):(Code.region id l.toArray true).wp P Q a w:=by
 have h:=GK (P:=P) (Q:=Q) C hs hok hCe hC hst hobl hend;refine wp_region_any hm ?_;unfold Px at hfl;simp only [Bool.and_eq_true] at hfl;obtain ⟨h1,h2⟩:=hfl;cases h0:l.toArray[0]? with
 | none=>rw [h0] at h1; cases h1
 | some o =>
  rw [h0] at h1;simp only [Bool.and_eq_true] at h1;obtain ⟨⟨⟨hmv,hgd⟩,haf⟩,hap⟩:=h1;obtain ⟨x,hx⟩:∃ x,o.op = .move x:=by
   cases hop:o.op <;> rw [hop] at hmv <;> first | exact ⟨_,rfl⟩ | cases hmv
  have hgn:o.guard=none:=by simpa using hgd
  have han:o.after=#[]:=by simpa using haf
  have hsz:0<l.toArray.size:=(Array.getElem?_eq_some_iff.1 h0).1;have hlen:(l.modify m (Dz 0)).toArray.size=l.toArray.size:=by simp
  rw [hlen] at h;obtain ⟨k,hk⟩:∃ k,l.toArray.size=k+1:=⟨l.toArray.size-1,by omega⟩;rw [hk] at h ⊢;have hy:Yields P l.toArray o (a.eval x) a:=Or.inl ⟨by simp [Region.wanted,hgn],fun w=>by simp only [execOp,hx]; rfl⟩;have hr:0∈Region.ready .any l.toArray (Array.replicate (k+1) false):=by
   rw [mem_ready];refine ⟨by simp,o,h0,fun e he => ?_⟩;rw [han] at he;simp at he
  have hsel:∀ (j:Nat) (o:Oper) cs b,l.toArray[j]?=some o→o.op ≠ .select cs b:=by
   intro j oj cs b hj hc;have hjl:j<l.toArray.size:=(Array.getElem?_eq_some_iff.1 hj).1;have:=List.all_eq_true.1 h2 j (List.mem_range.2 hjl);rw [hj] at this;simp [hc,VG] at this
  refine wpAny_first (i:=0) (oi:=o) (v:=a.eval x) h0 hsel (fun c a w=>hQ c a w _ _) k _ a _ ?_ hr hy ?_
  · intro j oj hj hne _ hnot;have hjl:j<l.toArray.size:=(Array.getElem?_eq_some_iff.1 hj).1;have:=List.all_eq_true.1 hap j (List.mem_range.2 hjl);rw [hj] at this;simp only [Bool.or_eq_true,beq_iff_eq] at this;rcases this with h|h|h
    · exact absurd h hne
    · obtain ⟨e,he,hb⟩:=Array.any_eq_true'.1 h;simp only [Bool.and_eq_true,beq_iff_eq] at hb;exact absurd hb.2 (hnot e he hb.1)
    · exact h
  · refine Jt (m:=m) k _ _ _ (by simp) ?_;have hg:(l.modify m (Dz 0)).toArray[0]?=some o:=by rw [GL,h0]; simp [hm0]
    have hr':0∈Region.ready .any (l.modify m (Dz 0)).toArray (Array.replicate (k+1) false):=by
     rw [mem_ready];refine ⟨by simp,o,hg,fun e he => ?_⟩;rw [han] at he;simp at he
    have h3:=h.2 0 hr';unfold wpOp at h3;rw [hg] at h3;simp only at h3;rw [if_pos (by simp [Region.wanted,hgn])] at h3;rcases h3 with h3|h3
    · simp only [Oper.wp,execOp,hx] at h3;exact h3
    · exfalso;have:=h3.1;simp only [Oper.asks,execOp,hx] at this;exact absurd (show noRoomEvent∈(#[]:Array Event) from this.1) (by simp)
end
theorem VH {y:Nat} (hx:Wd w a n c x) (hy:Wd w b m d y) (bx:x<P2 9600) (by_:y<P2 9600) :
 Calls prog 151 #[.slice a n c, .slice b m d] w (KS w (x+y)):=by
 have h1:=hx.len (k:=150) bx;have h2:=hy.len (k:=150) by_;obtain ⟨xs,h3,h4⟩:=hx;obtain ⟨ys,h5,h6⟩:=hy;exact (MR h3 h5 h4 h6 (by omega) (by omega)).mono fun _ _ h=>h.wd
theorem UC {y:Nat} (hx:Wd w a n c x) (hy:Wd w b m d y) (bx:x<P2 9600) (hle:y≤x) :
 Calls prog 152 #[.slice a n c, .slice b m d] w (KS w (x-y)):=by
 have h1:=hx.len (k:=150) bx;obtain ⟨xs,h3,h4⟩:=hx;obtain ⟨ys,h5,h6⟩:=hy;exact (Hw h3 h5 h4 h6 (by omega) hle).mono fun _ _ h=>h.wd
theorem UD {y:Nat} (hx:Wd w a n c x) (hy:Wd w b m d y) :
 Calls prog 135 #[.slice a n c, .slice b m d] w fun e w'=>e = .returned (.int .i64 (Ba x y))∧Qt w w':=by
 obtain ⟨xs,h3,h4⟩:=hx;obtain ⟨ys,h5,h6⟩:=hy;exact Bi h3 h5 h4 h6
def VI (w:World) (q r:Nat) (e:Ending) (w':World):Prop:=∃ a n c a' n' c',e = .returned (.tuple #[.slice a n c, .slice a' n' c'])∧Ext w w'∧Wd w' a n c q∧Wd w' a' n' c' r∧Hx w.heap.size (fun _=>False) a n
theorem UE {y:Nat} (hx:Wd w a n c x) (hy:Wd w b m d y) (bx:x<P2 9600) (by_:y<P2 9600) (h0:0<y) :
 Calls prog 138 #[.slice a n c, .slice b m d] w (VI w (x/y) (x%y)):=by
 have h1:=hx.len (k:=150) bx;have h2:=hy.len (k:=150) by_;obtain ⟨xs,h3,h4⟩:=hx;obtain ⟨ys,h5,h6⟩:=hy;refine (Dq h3 h5 h4 h6 (by omega) (by omega) h0 (by omega)).mono ?_;rintro e w' ⟨a1,n1,c1,xs1,a2,n2,c2,ys2,rfl,hE,s1,m1,s2,m2,hsrc⟩;exact ⟨a1,n1,c1,a2,n2,c2,rfl,hE,⟨xs1,s1,m1⟩,⟨ys2,s2,m2⟩,hsrc⟩
def Ju (w:World) (S:Nat→Prop) (z:Int) (e:Ending) (w':World):Prop:=∃ s a n c,e = .returned (.agg (Ab s a n c).toArray)∧Ext w w'∧Hid (decide (z<0)=s)∧Wd w' a n c z.natAbs∧Hx w.heap.size S a n
theorem Ju.plain {S:Nat→Prop} {e:Ending} (h:Ju w S z e w'):Ei w z e w':=by
 obtain ⟨s,a,n,c,h1,h2,h3,h4,_⟩:=h;exact ⟨s,a,n,c,h1,h2,h3,h4⟩
def H3 (S:Nat→Prop) (v:Value):Prop:=∀ s a n c,v = .agg (Ab s a n c).toArray→0<n→∀ g,blk a=some g→S g
theorem H3.at {S:Nat→Prop} (h:H3 S (.agg (Ab s a n c).toArray)):0<n→∀ g,blk a=some g→S g:=h s a n c rfl
theorem I4 {S:Nat→Prop} (h:0<n→∀ g,blk a=some g→S g):H3 S (.agg (Ab s a n c).toArray):=by
 intro s' a' n' c' e;simp only [Ab,Value.agg.injEq,Array.mk.injEq,List.cons.injEq,Value.bool.injEq,Value.slice.injEq,and_true] at e;obtain ⟨_,rfl,rfl,rfl⟩:=e;exact h
theorem UF (hx:x<18446744073709551616):Calls prog 141 #[.int .u64 x] w (KS w x):=(DH hx).mono fun _ _ h=>h.wd
theorem Fe {S:Nat→Prop} (hE:Ext w w1) (hR:Arr w1 R t cs) (hcs:∀ v∈cs,∀ i,v ≠ .int .u64 i) (hg:w1.grownBy w9 (some R)) (hw:w.heap.size≤R) (HS:Hid (decide (z<0)=s)) (hx:Wd w1 a n c z.natAbs) (hf:Hx w.heap.size S a n):Ju w S z (.returned (.agg (Ab s a n c).toArray)) w9 :=
 ⟨s,a,n,c,rfl,hE.grownR hg hw,HS,hx.kept hR hcs hg,hf⟩
theorem Bt (hE:Ext w w1) (hR:Arr w1 R t cs) (hcs:∀ v∈cs,∀ i,v ≠ .int .u64 i) (hg:w1.grownBy w9 (some R)) (hw:w.heap.size≤R) (HS:Hid (decide (z<0)=s)) (hx:Wd w1 a n c z.natAbs):Ei w z (.returned (.agg (Ab s a n c).toArray)) w9 :=
 ⟨s,a,n,c,rfl,hE.grownR hg hw,HS,hx.kept hR hcs hg⟩
theorem L5 (h:Ax w v z):Calls prog 117 #[v] w (Ei w (-z)):=by
 obtain ⟨s,a,n,c,rfl,HS,hx⟩:=h
 go_enter func117,ntmps117
 go_upto_region 1 with (fail)
 refine F0 ?_;intro w0 hE0 hB0 hB1 hz0;have p00:=hB0.c 0 rfl;have p01:=hB0.c 1 rfl;have hsg:=qh (BM (neg := !s) (hx.ext hE0) (z := -z) (by rw [←HS.out]; by_cases h:z<0 <;> simp [h] <;> omega));have hR:Arr w0 (w.heap.size+1) 90 (Ab false none 0 0):=hB1;clear hz0
 go_wp2_with fail
 refine hsg.out.mono ?_;rintro e w1 ⟨s1,a1,n1,c1,rfl,hE1,HS1,hx1⟩;have hR1:=hR.ext hE1
 go_wp2_with (refine Aa (vs:=Ab s1 a1 n1 c1) rfl rfl rfl rfl rfl Ad hR1 rfl (Ai _ _ _ _) ?_; intro w9 hB9 hg9)
 exact bodyPost_ret (Al rfl Ad rfl hB9) rfl (Bt (hE0.trans hE1) hR1 (Aq _ _ _ _) hg9 (by omega) HS1 hx1)
theorem Av (h:Ax w v z) {r:Bool} (hr:decide (z=0)=r):Calls prog 103 #[v] w fun e w'=>e = .returned (.bool r)∧Ext w w':=by
 obtain ⟨s,a,n,c,rfl,HS,hx⟩:=h;have hrr:((n:Int) == 0)=r:=by
  have:=hx.zero;rw [←hr,Bool.eq_iff_iff];simp;omega
 clear hr
 go_enter func103,ntmps103
 go_upto_region 1 with (fail)
 refine Bq ?_;intro w0 hE0 hB0 hz0;have p00:=hB0.c 0 rfl;have p01:=hB0.c 1 rfl;go_wp2;go_ret;exact ⟨rfl,hE0⟩
theorem M7 (h:Ax w v z) {r:Int} (hr:z.sign=r):Calls prog 116 #[v] w fun e w'=>e = .returned (.int .i64 r)∧Ext w w':=by
 obtain ⟨s,a,n,c,rfl,HS,hx⟩:=h;have hn0:=hx.zero;by_cases h0:z=0
 · have hn:n=0:=hn0.2 (by omega);have HR:Hid (r=0):=by show _=_; rw [←hr,h0]; rfl
   subst hn;clear hr h0 hn0
   go_enter func116,ntmps116
   go_upto_region 1 with (fail)
   refine Bq ?_;intro w0 hE0 hB0 hz0;have p00:=hB0.c 0 rfl;have p01:=hB0.c 1 rfl;go_wp2;go_ret;exact ⟨by rw [HR.out]; rfl,hE0⟩
 · have hnb:((n:Int) == 0)=false:=by
    have:n≠0:=fun h=>h0 (by have:=hn0.1 h; omega);simpa using this
   clear hn0;cases s with
   | true =>
    have hz:z<0:=by simpa using HS.out
    have HR:Hid (r = -1):=by show _=_; rw [←hr,Int.sign_eq_neg_one_of_neg hz]
    clear hr h0 hz
    go_enter func116,ntmps116
    go_upto_region 1 with (fail)
    refine Bq ?_;intro w0 hE0 hB0 hz0;have p00:=hB0.c 0 rfl;have p01:=hB0.c 1 rfl;go_wp2;go_ret;exact ⟨by rw [HR.out]; rfl,hE0⟩
   | false =>
    have hz:¬ z<0:=by simpa using HS.out
    have HR:Hid (r=1):=by show _=_; rw [←hr,Int.sign_eq_one_of_pos (by omega)]
    clear hr h0 hz
    go_enter func116,ntmps116
    go_upto_region 1 with (fail)
    refine Bq ?_;intro w0 hE0 hB0 hz0;have p00:=hB0.c 0 rfl;have p01:=hB0.c 1 rfl;go_wp2;go_ret;exact ⟨by rw [HR.out]; rfl,hE0⟩
theorem Ct (h:Ax w v z) {r:Bool} (hr:decide (z=1)=r):Calls prog 51 #[v] w fun e w'=>e = .returned (.bool r)∧Ext w w':=by
 obtain ⟨s,a,n,c,rfl,HS,hx⟩:=h;cases s with
 | true =>
  have hz:z<0:=by simpa using HS.out
  have HR:Hid (r=false):=by show _=_; rw [←hr]; simp; omega
  clear hr hz
  go_enter func51,ntmps51
  go_upto_region 1 with (fail)
  refine Bq ?_;intro w0 hE0 hB0 hz0;have p00:=hB0.c 0 rfl;have p01:=hB0.c 1 rfl;go_wp2;go_ret;exact ⟨by rw [HR.out]; rfl,hE0⟩
 | false =>
  have hz:¬ z<0:=by simpa using HS.out
  by_cases hn:n=1
  · subst hn;obtain ⟨b,o,rfl,hc,k1,k2⟩:=hx.one;have hrr:((z.natAbs:Int) == 1)=r:=by
     rw [←hr,Bool.eq_iff_iff];simp;omega
    clear hr hz;generalize z.natAbs=x at *
    go_enter func51,ntmps51
    go_upto_region 1 with (fail)
    refine Bq ?_;intro w0 hE0 hB0 hz0;have p00:=hB0.c 0 rfl;have p01:=hB0.c 1 rfl;have hc0:=hE0.cell hc;clear hz0 hc;go_wp2;go_ret;exact ⟨rfl,hE0⟩
  · have hnb:((n:Int) == 1)=false:=by simp; omega
    have HR:Hid (r=false):=by
     show _=_;rw [←hr];have h1:z≠1:=by
      intro h1;have h2:=hx.len (k:=1) (by rw [h1,RT]; decide);have h3:=hx.zero;omega
     simp [h1]
    clear hr hz hn
    go_enter func51,ntmps51
    go_upto_region 1 with (fail)
    refine Bq ?_;intro w0 hE0 hB0 hz0;have p00:=hB0.c 0 rfl;have p01:=hB0.c 1 rfl;go_wp2;go_ret;exact ⟨by rw [HR.out]; rfl,hE0⟩
theorem Py (h1 : -9223372036854775808≤z) (h2:z≤9223372036854775807):Calls prog 146 #[.int .i64 z] w (Ei w z):=by
 by_cases hz:z<0
 · have HS:Hid (decide (z<0)=true):=qh (by simpa using hz);have hw:IntKind.u64.wrap (-IntKind.u64.wrap z)=(z.natAbs:Int):=by rw [IntKind.wrap_u64,IntKind.wrap_u64]; omega
   have hb:z.natAbs<18446744073709551616:=by omega
   go_enter func146,ntmps146
   go_upto_region 1 with (fail)
   refine Bq ?_;intro w0 hE0 hB0 hz0;have hR:Arr w0 w.heap.size 90 (Ab false none 0 0):=hB0;clear hz0
   go_wp2_with fail
   refine (UF hb).mono ?_;rintro e w1 ⟨a1,n1,c1,rfl,hE1,hx1⟩;have hR1:=hR.ext hE1
   go_wp2_with (refine Aa (vs:=Ab true a1 n1 c1) rfl rfl rfl rfl rfl Ad hR1 rfl (Ai _ _ _ _) ?_; intro w9 hB9 hg9)
   exact bodyPost_ret (Al rfl Ad rfl hB9) rfl (Bt (hE0.trans hE1) hR1 (Aq _ _ _ _) hg9 (by omega) HS hx1)
 · have HS:Hid (decide (z<0)=false):=qh (by simpa using hz);have hw:IntKind.u64.wrap z=(z.natAbs:Int):=by rw [IntKind.wrap_u64]; omega
   have hb:z.natAbs<18446744073709551616:=by omega
   go_enter func146,ntmps146
   go_upto_region 1 with (fail)
   refine Bq ?_;intro w0 hE0 hB0 hz0;have hR:Arr w0 w.heap.size 90 (Ab false none 0 0):=hB0;clear hz0
   go_wp2_with fail
   refine (UF hb).mono ?_;rintro e w1 ⟨a1,n1,c1,rfl,hE1,hx1⟩;have hR1:=hR.ext hE1
   go_wp2_with (refine Aa (vs:=Ab false a1 n1 c1) rfl rfl rfl rfl rfl Ad hR1 rfl (Ai _ _ _ _) ?_; intro w9 hB9 hg9)
   exact bodyPost_ret (Al rfl Ad rfl hB9) rfl (Bt (hE0.trans hE1) hR1 (Aq _ _ _ _) hg9 (by omega) HS hx1)
theorem EE (hT:A2 w) (h:Ax w v z) (h':Ax w v' y) (bz:z.natAbs<P2 9600) (by_:y.natAbs<P2 9600):Calls prog 50 #[v,v'] w (Ei w ((Nat.gcd z.natAbs y.natAbs:Nat):Int)):=by
 obtain ⟨s,a,n,c,rfl,HS,hx⟩:=h;obtain ⟨t,b,m,d,rfl,HT,hy⟩:=h'
 go_enter func50,ntmps50
 go_upto_region 1 with (fail)
 refine F3 ?_;intro w0 hE0 hB0 hB1 hB2 hz0;have p00:=hB0.c 0 rfl;have p01:=hB0.c 1 rfl;have p10:=hB1.c 0 rfl;have p11:=hB1.c 1 rfl;have hR:Arr w0 (w.heap.size+2) 90 (Ab false none 0 0):=hB2;have hg:=qh (UB (hT.ext hE0) (hx.ext hE0) (hy.ext hE0) bz by_);have HS1:Hid (decide (((Nat.gcd z.natAbs y.natAbs:Nat):Int)<0)=false):=qh (by simp);clear hz0
 go_wp2_with fail
 refine hg.out.mono ?_;rintro e w1 ⟨a1,n1,c1,rfl,hE1,hx1⟩;have hR1:=hR.ext hE1
 go_wp2_with (refine Aa (vs:=Ab false a1 n1 c1) rfl rfl rfl rfl rfl Ad hR1 rfl (Ai _ _ _ _) ?_; intro w9 hB9 hg9)
 exact bodyPost_ret (Al rfl Ad rfl hB9) rfl (Bt (hE0.trans hE1) hR1 (Aq _ _ _ _) hg9 (by omega) HS1 hx1)
theorem OA {t:Bool} (hs:decide (z<0)=s) (ht:decide (y<0)=t):z*y=if (s != t)=true then -((z.natAbs*y.natAbs:Nat):Int) else ((z.natAbs*y.natAbs:Nat):Int):=by
 rw [←Int.natAbs_mul];subst hs; subst ht;by_cases h1:z<0 <;> by_cases h2:y<0 <;> simp [h1,h2]
 · have:=Int.mul_nonneg_of_nonpos_of_nonpos (Int.le_of_lt h1) (Int.le_of_lt h2); omega
 · have:=Int.mul_nonpos_of_nonpos_of_nonneg (Int.le_of_lt h1) (show 0≤y by omega); omega
 · have:=Int.mul_nonpos_of_nonneg_of_nonpos (show 0≤z by omega) (Int.le_of_lt h2); omega
 · have:=Int.mul_nonneg (show 0≤z by omega) (show 0≤y by omega); omega
theorem Jv {S:Nat→Prop} (h:Ax w v z) (h':Ax w v' y) (bz:z.natAbs<P2 9600) (by_:y.natAbs<P2 9600) (hsm:z.natAbs<P2 2496∨y.natAbs<P2 2496) (hS1:H3 S v) (hS2:H3 S v'):Calls prog 98 #[v,v'] w (Ju w S (z*y)):=by
 obtain ⟨s,a,n,c,rfl,HS,hx⟩:=h;obtain ⟨t,b,m,d,rfl,HT,hy⟩:=h';have hs1:=hS1.at
 have hs2:=hS2.at
 clear hS1 hS2
 go_enter func98,ntmps98
 go_upto_region 1 with (fail)
 refine F3 ?_;intro w0 hE0 hB0 hB1 hB2 hz0;have p00:=hB0.c 0 rfl;have p01:=hB0.c 1 rfl;have p10:=hB1.c 0 rfl;have p11:=hB1.c 1 rfl;have hR:Arr w0 (w.heap.size+2) 90 (Ab false none 0 0):=hB2;have hmul:=fun (wx:World) (hC:Ext w0 wx)=>qh (UX ((hx.ext hE0).ext hC) ((hy.ext hE0).ext hC) bz by_ hsm hs1 hs2);clear hz0 bz by_ hsm;have HF1:=fun (wx:World) (hC:Ext w0 wx)=>qh (And.intro (hC.cell p00) (And.intro (hC.cell p01) (And.intro (hC.cell p10) (hC.cell p11))))
 refine AM (by kernel_rfl) (fun wx=>Ext w0 wx)
  [he (.pointer (some ⟨w.heap.size,0,none⟩)),
 he (.bool s),
 he (.pointer (some ⟨(w.heap.size+1),0,none⟩)),
 he (.bool t),
 he (.bool (s != t)),
 he (.pointer (some ⟨w.heap.size,1,none⟩)),
 he (.slice a n c),
 he (.pointer (some ⟨(w.heap.size+1),1,none⟩)),
 he (.slice b m d),
 hp (fun v wx=>∃ a' n' c',v = .slice a' n' c'∧Wd wx a' n' c' (z.natAbs*y.natAbs)∧Hx w.heap.size S a' n'),
 hp (fun v wx=>∃ s' a' n' c',v = .agg (Ab s' a' n' c').toArray∧Hid (decide (z*y<0)=s')∧Wd wx a' n' c' (z*y).natAbs∧Hx w.heap.size S a' n')]
  (by kernel_rfl) (fun _ _ e h=>h.trans e) ((Ext.refl w0).drew) ⟨trivial,trivial,trivial,trivial,trivial,trivial,trivial,trivial,trivial,fun v w w' e ⟨a',n',c',h1,h2,h3⟩=>⟨a',n',c',h1,h2.ext e,h3⟩,fun v w w' e ⟨s',a',n',c',h1,h2,h3,h4⟩=>⟨s',a',n',c',h1,h2,h3.ext e,h4⟩,trivial⟩ ⟨?o0, ?o1, ?o2, ?o3, ?o4, ?o5, ?o6, ?o7, ?o8, ?o9, ?o10,trivial⟩ ?fin
 case o0=>exact ofa (d:=0) rfl rfl (fun _ _=>id) (by kernel_rfl) rfl
 case o1=>exact ol rfl rfl (fun _ _=>id) (by kernel_rfl) (by assumption)
 case o2=>exact ofa (d:=0) rfl rfl (fun _ _=>id) (by kernel_rfl) rfl
 case o3=>exact ol rfl rfl (fun _ _=>id) (by kernel_rfl) (by assumption)
 case o4 =>
  refine AB rfl fun ρ wx hC hcst h => ?_;have e0:ρ (.tmp 6)=(.bool s):=h.1;have e1:ρ (.tmp 8)=(.bool t):=h.2.1;obtain ⟨k00,k01,k10,k11⟩:=(HF1 wx hC).out;go_simp;cases s <;> cases t <;> rfl
 case o5=>exact ofa (d:=1) rfl rfl (fun _ _=>id) (by kernel_rfl) rfl
 case o6=>exact ol rfl rfl (fun _ _=>id) (by kernel_rfl) (by assumption)
 case o7=>exact ofa (d:=1) rfl rfl (fun _ _=>id) (by kernel_rfl) rfl
 case o8=>exact ol rfl rfl (fun _ _=>id) (by kernel_rfl) (by assumption)
 case o9 =>
  refine Aj rfl fun ρ wx hC hcst hfn h => ?_;have e1:ρ (.tmp 11)=(.slice a n c):=h.2.1;have e2:ρ (.tmp 13)=(.slice b m d):=h.2.2.1;obtain ⟨k00,k01,k10,k11⟩:=(HF1 wx hC).out;refine ⟨133,#[.slice a n c, .slice b m d],by go_simp,((hmul wx hC).out).mono ?_⟩;rintro e w' ⟨a',n',c',rfl,hE',hn',hf'⟩;exact ⟨_,rfl,hE',a',n',c',rfl,hn',hf'.of (hE0.trans hC).size (fun _ h=>Or.inr h)⟩
 case o10 =>
  refine Aj rfl fun ρ wx hC hcst hfn h => ?_;have e1:ρ (.tmp 9)=(.bool (s != t)):=h.2.1;obtain ⟨v2,e2,a2,n2,c2,rfl,d2,f2⟩:=h.2.2.1;obtain ⟨k00,k01,k10,k11⟩:=(HF1 wx hC).out;refine ⟨144,#[.bool (s != t), .slice a2 n2 c2],by go_simp,(Fd d2 (z:=z*y) (OA HS.out HT.out)).mono ?_⟩;rintro e w' ⟨s',rfl,hE',hs',hn'⟩;exact ⟨_,rfl,hE',s',a2,n2,c2,rfl,hs',hn',f2⟩
 case fin =>
  intro wx hC;rintro _ ⟨_,_,_,rfl,_,_⟩;rintro _ ⟨s1,a1,n1,c1,rfl,HS1,hx1,hf1⟩;change wpList _ _ _ _ _ _;simp only [List.length_cons,List.length_nil,List.drop_succ_cons,List.drop_zero,Act.put,List.setIfInBounds_toArray,List.set_cons_succ,List.set_cons_zero];have hR1:=hR.ext hC
  go_wp2_with (refine Aa (vs:=Ab s1 a1 n1 c1) rfl rfl rfl rfl rfl Ad hR1 rfl (Ai _ _ _ _) ?_; intro w9 hB9 hg9)
  exact bodyPost_ret (Al rfl Ad rfl hB9) rfl (Fe (hE0.trans hC) hR1 (Aq _ _ _ _) hg9 (by omega) HS1 hx1 hf1)
theorem CB (h:Ax w v z) (h':Ax w v' y) (bz:z.natAbs<P2 9600) (by_:y.natAbs<P2 9600) (hsm:z.natAbs<P2 2496∨y.natAbs<P2 2496):Calls prog 98 #[v,v'] w (Ei w (z*y)) :=
 (Jv (S:=fun _=>True) h h' bz by_ hsm (fun _ _ _ _ _ _ _ _=>trivial) (fun _ _ _ _ _ _ _ _=>trivial)).mono fun _ _ h=>h.plain
end Go.Proofs.YtlpgonpfjbhmfaaGreatDoor
