/- Part Gan28. -/
import Derived.Test.YtlpgonpfjbhmfaaGreatDoorGan26
import Derived.Test.YtlpgonpfjbhmfaaGreatDoorGan27
import Derived.Test.YtlpgonpfjbhmfaaGreatDoorGan16
set_option maxRecDepth 100000
set_option maxHeartbeats 100000000
namespace Go.Proofs.YtlpgonpfjbhmfaaGreatDoor
open Go Go.RowKit
section
variable {P:Program} {w:World}
theorem wl_idx {ops:Array Oper} {rest:List Oper} {o:Oper} {f:Act} {Q:Exit→Act→World→Prop} {t et:TypeId} {x i:Operand} (hgd:o.guard=none) (ho:o.op = .index t x i) (hk:KeyT P t et)
 {cs:Array Value} {k:Nat} {v:Value} (hx:f.eval x = .agg cs) (hi:f.eval i = .int .i64 (k:Int)) (h6:k<6) (hc:cs[k]?=some v) (hK:wpList P ops Q rest (f.put o.dst v) w):wpList P ops Q (o :: rest) f w:=by
 refine wpList_plain hgd fun K hK' => ?_;obtain ⟨inf,hinf,hs⟩:∃ i,P.info? et=some i∧i.size=1:=by
  have:=hk.size;cases h:P.info? et with
  | none=>rw [h] at this; cases this
  | some i=>rw [h] at this; exact ⟨i,rfl,by simpa using this⟩
 have hr:(Instr.index t (.agg cs) (.int .i64 (k:Int))).run P w = .ok v w:=by
  have hb:(0:Int)≤(k:Int)∧(k:Int)<((6:Nat):Int):=by omega
  simp only [Instr.index,asIntOf,Sem.run_bind,Sem.run_pure,Result.andThen_ok,run_underlying hk.arr];rw [if_pos hb];simp [sizeOf,typeInfo,hinf,hs,run_part_int w hk cs k v hc]
 unfold Oper.wp execOp;simp only [ho,hx,hi,Sem.run_bind,hr,Result.andThen_ok,Sem.run_pure,Oper.upon];exact hK' _ _ hK
end
abbrev plusE (a b:List Int):List Int:=Pl.plE a b
def plusSt (x0 x1 x2 x3 x4 x5 y0 y1 y2 y3 y4 y5:Int):Nat→List Int
 | 0=>[x0,x1,x2,x3,x4,x5]
 | 1=>[x0+y0,x1,x2,x3,x4,x5]
 | 2=>[x0+y0,x1+y1,x2,x3,x4,x5]
 | 3=>[x0+y0,x1+y1,x2+y2,x3,x4,x5]
 | 4=>[x0+y0,x1+y1,x2+y2,x3+y3,x4,x5]
 | 5=>[x0+y0,x1+y1,x2+y2,x3+y3,x4+y4,x5]
 | _=>[x0+y0,x1+y1,x2+y2,x3+y3,x4+y4,x5+y5]
theorem exps_plus {xs ys:List Int} {w:World} (hx:xs.length=6) (hy:ys.length=6) (bx:∀ x∈xs,0≤x∧x≤1099511627776) (by_:∀ x∈ys,0≤x∧x≤1099511627776) :
 Calls Tryz.prog 87 #[keyV xs,keyV ys] w fun e w'=>e = .returned (keyV (plusE xs ys))∧Ext w w':=by
 obtain ⟨x0,x1,x2,x3,x4,x5,rfl⟩:=six_of hx;obtain ⟨y0,y1,y2,y3,y4,y5,rfl⟩:=six_of hy;have bx0:=bx x0 (by simp);have by0:=by_ y0 (by simp);have bx1:=bx x1 (by simp);have by1:=by_ y1 (by simp);have bx2:=bx x2 (by simp);have by2:=by_ y2 (by simp);have bx3:=bx x3 (by simp);have by3:=by_ y3 (by simp);have bx4:=bx x4 (by simp);have by4:=by_ y4 (by simp);have bx5:=bx x5 (by simp);have by5:=by_ y5 (by simp);clear bx by_ hx hy;have hl:keyV [x0,x1,x2,x3,x4,x5] = .agg #[.int .i64 x0, .int .i64 x1, .int .i64 x2, .int .i64 x3, .int .i64 x4, .int .i64 x5]:=rfl
 have hl':keyV [y0,y1,y2,y3,y4,y5] = .agg #[.int .i64 y0, .int .i64 y1, .int .i64 y2, .int .i64 y3, .int .i64 y4, .int .i64 y5]:=rfl;rw [hl,hl']
 go_enter Tryz.func87,Tryz.ntmps87
 go_upto_region 1 with (fail)
 refine box3 ?_;intro w0 hE0 hB0 hB1 hB2 hz0;have hA0:Arr w0 w.heap.size 109 ((plusSt x0 x1 x2 x3 x4 x5 y0 y1 y2 y3 y4 y5 0).map (Value.int .i64)):=hB0;have hR:Arr w0 (w.heap.size+2) 109 (ze.map (Value.int .i64)):=hB2;have d0:=hB1.c 0 rfl;have d1:=hB1.c 1 rfl;have d2:=hB1.c 2 rfl;have d3:=hB1.c 3 rfl;have d4:=hB1.c 4 rfl;have d5:=hB1.c 5 rfl;clear hB0 hB1 hB2 hz0;go_wp2
 go_loopw [8] (fun iv wr=>∃ k:Nat,iv = .int .i64 k∧k≤6∧Ext w wr∧Arr wr w.heap.size 109 ((plusSt x0 x1 x2 x3 x4 x5 y0 y1 y2 y3 y4 y5 k).map (Value.int .i64))∧Arr wr (w.heap.size+2) 109 (ze.map (Value.int .i64))) (fun iv _=>6-(intOf iv).toNat)
 case atStart=>exact ⟨0,rfl,by omega,hE0,hA0,hR⟩
 case round =>
  clear hA0 hR hE0 d0 d1 d2 d3 d4 d5;obtain ⟨k,rfl,hk,hE,hA,hR⟩:=hrel;have hk6:k=0∨k=1∨k=2∨k=3∨k=4∨k=5∨k=6:=by omega
  rcases hk6 with rfl|rfl|rfl|rfl|rfl|rfl|rfl
  · have c1:=hA.c 0 rfl;have c2:=hA.frozen 0;have hw:IntKind.i64.wrap (x0+y0)=x0+y0:=IntWalk.i64_in _ (by omega)
    go_wp2_with (refine wl_idx rfl rfl keyT_exps (k:=0) rfl rfl (by omega) rfl ?_)
    go_roundw
    case rel=>exact ⟨1,by go_num,by omega,hE.setCell (Nat.le_refl _) _,hA.set 0 (.int .i64 (x0+y0)),hR.far (by simp) _⟩
    case measure=>simp [intOf]
  · have c1:=hA.c 1 rfl;have c2:=hA.frozen 1;have hw:IntKind.i64.wrap (x1+y1)=x1+y1:=IntWalk.i64_in _ (by omega)
    go_wp2_with (refine wl_idx rfl rfl keyT_exps (k:=1) rfl rfl (by omega) rfl ?_)
    go_roundw
    case rel=>exact ⟨2,by go_num,by omega,hE.setCell (Nat.le_refl _) _,hA.set 1 (.int .i64 (x1+y1)),hR.far (by simp) _⟩
    case measure=>simp [intOf]
  · have c1:=hA.c 2 rfl;have c2:=hA.frozen 2;have hw:IntKind.i64.wrap (x2+y2)=x2+y2:=IntWalk.i64_in _ (by omega)
    go_wp2_with (refine wl_idx rfl rfl keyT_exps (k:=2) rfl rfl (by omega) rfl ?_)
    go_roundw
    case rel=>exact ⟨3,by go_num,by omega,hE.setCell (Nat.le_refl _) _,hA.set 2 (.int .i64 (x2+y2)),hR.far (by simp) _⟩
    case measure=>simp [intOf]
  · have c1:=hA.c 3 rfl;have c2:=hA.frozen 3;have hw:IntKind.i64.wrap (x3+y3)=x3+y3:=IntWalk.i64_in _ (by omega)
    go_wp2_with (refine wl_idx rfl rfl keyT_exps (k:=3) rfl rfl (by omega) rfl ?_)
    go_roundw
    case rel=>exact ⟨4,by go_num,by omega,hE.setCell (Nat.le_refl _) _,hA.set 3 (.int .i64 (x3+y3)),hR.far (by simp) _⟩
    case measure=>simp [intOf]
  · have c1:=hA.c 4 rfl;have c2:=hA.frozen 4;have hw:IntKind.i64.wrap (x4+y4)=x4+y4:=IntWalk.i64_in _ (by omega)
    go_wp2_with (refine wl_idx rfl rfl keyT_exps (k:=4) rfl rfl (by omega) rfl ?_)
    go_roundw
    case rel=>exact ⟨5,by go_num,by omega,hE.setCell (Nat.le_refl _) _,hA.set 4 (.int .i64 (x4+y4)),hR.far (by simp) _⟩
    case measure=>simp [intOf]
  · have c1:=hA.c 5 rfl;have c2:=hA.frozen 5;have hw:IntKind.i64.wrap (x5+y5)=x5+y5:=IntWalk.i64_in _ (by omega)
    go_wp2_with (refine wl_idx rfl rfl keyT_exps (k:=5) rfl rfl (by omega) rfl ?_)
    go_roundw
    case rel=>exact ⟨6,by go_num,by omega,hE.setCell (Nat.le_refl _) _,hA.set 5 (.int .i64 (x5+y5)),hR.far (by simp) _⟩
    case measure=>simp [intOf]
  · have hA6:Arr wr w.heap.size 109 ([x0+y0,x1+y1,x2+y2,x3+y3,x4+y4,x5+y5].map (Value.int .i64)):=hA;have c0:=hA6.c 0 rfl;have c1:=hA6.c 1 rfl;have c2:=hA6.c 2 rfl;have c3:=hA6.c 3 rfl;have c4:=hA6.c 4 rfl;have c5:=hA6.c 5 rfl;have hl9:([x0+y0,x1+y1,x2+y2,x3+y3,x4+y4,x5+y5].map (Value.int .i64)).toArray=#[.int .i64 (x0+y0), .int .i64 (x1+y1), .int .i64 (x2+y2), .int .i64 (x3+y3), .int .i64 (x4+y4), .int .i64 (x5+y5)]:=rfl
    go_wp2_with (refine wl_stArr (vs:=[x0+y0,x1+y1,x2+y2,x3+y3,x4+y4,x5+y5].map (Value.int .i64)) rfl rfl rfl rfl rfl agg_exps hR rfl (ints_one _) ?_; intro w9 hB9 hg9)
    exact bodyPost_ret (res_arr rfl agg_exps rfl hB9) rfl ⟨rfl,hE.grownR hg9 (by omega)⟩
def degL (l:List Pl.Tm):Int:=l.foldl (fun m t=>max m t.1.sum) (-1)
theorem degL_take {l:List Pl.Tm} {k:Nat} (h:k<l.length):degL (l.take (k+1))=max (degL (l.take k)) (l.getD k ([],0)).1.sum:=by
 unfold degL;rw [List.take_succ_eq_append_getElem h,List.foldl_append];simp [List.getD_eq_getElem?_getD,h]
theorem degL_bnd {l:List Pl.Tm} (hb:smallE l) : -1≤degL l∧degL l≤6597069766656:=by
 have key:∀ (l:List Pl.Tm) (m:Int),smallE l → -1≤m→m≤6597069766656 → -1≤l.foldl (fun m t=>max m t.1.sum) m∧l.foldl (fun m t=>max m t.1.sum) m≤6597069766656:=by
  intro l
  induction l with
  | nil=>intro m _ h1 h2; exact ⟨h1,h2⟩
  | cons t r ih =>
   intro m hb h1 h2;obtain ⟨h6,hx⟩:=hb t (by simp);obtain ⟨x0,x1,x2,x3,x4,x5,he⟩:=six_of h6;rw [he] at hx;have b0:=hx x0 (by simp);have b1:=hx x1 (by simp);have b2:=hx x2 (by simp);have b3:=hx x3 (by simp);have b4:=hx x4 (by simp);have b5:=hx x5 (by simp);refine ih _ (fun s hs=>hb s (by simp [hs])) ?_ ?_
   · simp only [he]; omega
   · simp only [he,List.sum_cons,List.sum_nil]; omega
 exact key l (-1) hb (by omega) (by omega)
def sumSt (x0 x1 x2 x3 x4 x5:Int):Nat→Int
 | 0=>0
 | 1=>x0
 | 2=>x0+x1
 | 3=>x0+x1+x2
 | 4=>x0+x1+x2+x3
 | 5=>x0+x1+x2+x3+x4
 | _=>x0+x1+x2+x3+x4+x5
theorem poly_degree {a:Option Addr} {n c:Nat} {l:List Pl.Tm} {w:World} (hL:EntSl w a n c l) (hb:smallE l):Calls Tryz.prog 44 #[.slice a n c] w fun e w'=>e = .returned (.int .i64 (degL l))∧Ext w w':=by
 obtain ⟨rows,hS,hlen,hR⟩:=hL;have HR:=qh hR;have HB:=qh hb;have HLN:=qh hlen;have hnn:=hS.le;clear hR hb hlen
 go_enter Tryz.func44,Tryz.ntmps44
 go_wp2
 go_loopw [3,11] (fun mv iv wr=>∃ (k:Nat) (m:Int),mv = .int .i64 m∧iv = .int .i64 k∧k≤n∧Ext w wr∧Hid (m=degL (l.take k))) (fun _ iv _=>n-(intOf iv).toNat)
 case atStart=>exact ⟨0,-1,rfl,rfl,Nat.zero_le _,Ext.refl w,qh rfl⟩
 case round =>
  obtain ⟨k,m,rfl,rfl,hk,hE,HM⟩:=hrel;by_cases hlt:k<n
  · have hSw:=hS.ext hE;obtain ⟨bb,off,rfl,_⟩:=hSw.rd (by omega);obtain ⟨sx,ax,nx,cx,bx,mx,dx,hrow,h6,_⟩:=HR.out k hlt;have HDT:=qh (degL_take (l:=l) (k:=k) (by rw [HLN.out]; exact hlt));have hbt:=(HB.out (l.getD k ([],0)) (by simp [List.getD_eq_getElem?_getD,HLN.out,hlt])).2;have hmb : -1≤m∧m≤6597069766656:=by rw [HM.out]; exact degL_bnd (fun t ht=>HB.out t (List.mem_of_mem_take ht))
    generalize l.getD k ([],0)=t at *
    obtain ⟨te,tq⟩:=t;obtain ⟨x0,x1,x2,x3,x4,x5,h6e⟩:=six_of h6;simp only at h6e hrow HDT hbt;subst h6e;have b0:=hbt x0 (by simp);have b1:=hbt x1 (by simp);have b2:=hbt x2 (by simp);have b3:=hbt x3 (by simp);have b4:=hbt x4 (by simp);have b5:=hbt x5 (by simp);have hY:=Arr.new wr 111 (entL [0,0,0,0,0,0] false none 0 0 none 0 0)
    go_upto_region 5 with (first
     | (refine wl_ldK rfl rfl agg_entry rfl hSw hlt ?_; rw [hrow])
     | (refine wl_stArr (vs:=(entL [x0,x1,x2,x3,x4,x5] sx ax nx cx bx mx dx)) rfl rfl rfl rfl rfl agg_entry hY rfl entL_one ?_; intro w3 hB3 hg3))
    have hE3:Ext wr w3:=((Ext.refl wr).alloc _).grownR hg3 (Nat.le_refl _);have hEw:=hE.trans hE3;clear hY hg3 hE hE3 hrow h6 hSw hbt;generalize wr.heap.size=X at *
    have c0:=hB3.c 0 rfl;have c1:=hB3.c 1 rfl;have c2:=hB3.c 2 rfl;have c3:=hB3.c 3 rfl;have c4:=hB3.c 4 rfl;have c5:=hB3.c 5 rfl;clear hB3;go_wp2
    go_loop [6,17] (fun sv iv=>∃ j:Nat,sv = .int .i64 (sumSt x0 x1 x2 x3 x4 x5 j)∧iv = .int .i64 j∧j≤6) (fun _ iv=>6-(intOf iv).toNat)
    case atStart=>exact ⟨0,rfl,rfl,by omega⟩
    case round =>
     obtain ⟨j,rfl,rfl,hj⟩:=hrel;have hk6:j=0∨j=1∨j=2∨j=3∨j=4∨j=5∨j=6:=by omega
     rcases hk6 with rfl|rfl|rfl|rfl|rfl|rfl|rfl
     · have hw:IntKind.i64.wrap (sumSt x0 x1 x2 x3 x4 x5 0+x0)=sumSt x0 x1 x2 x3 x4 x5 1:=by
        have e:sumSt x0 x1 x2 x3 x4 x5 1=sumSt x0 x1 x2 x3 x4 x5 0+x0:=by simp [sumSt]
        rw [e];exact IntWalk.i64_in _ (by simp only [sumSt]; omega)
       go_wp2_with (refine wl_idx rfl rfl keyT_exps (k:=0) rfl rfl (by omega) rfl ?_)
       go_round
       case rel=>exact ⟨1,rfl,by go_num,by omega⟩
       case measure=>simp [intOf]
     · have hw:IntKind.i64.wrap (sumSt x0 x1 x2 x3 x4 x5 1+x1)=sumSt x0 x1 x2 x3 x4 x5 2:=by
        have e:sumSt x0 x1 x2 x3 x4 x5 2=sumSt x0 x1 x2 x3 x4 x5 1+x1:=by simp [sumSt]
        rw [e];exact IntWalk.i64_in _ (by simp only [sumSt]; omega)
       go_wp2_with (refine wl_idx rfl rfl keyT_exps (k:=1) rfl rfl (by omega) rfl ?_)
       go_round
       case rel=>exact ⟨2,rfl,by go_num,by omega⟩
       case measure=>simp [intOf]
     · have hw:IntKind.i64.wrap (sumSt x0 x1 x2 x3 x4 x5 2+x2)=sumSt x0 x1 x2 x3 x4 x5 3:=by
        have e:sumSt x0 x1 x2 x3 x4 x5 3=sumSt x0 x1 x2 x3 x4 x5 2+x2:=by simp [sumSt]
        rw [e];exact IntWalk.i64_in _ (by simp only [sumSt]; omega)
       go_wp2_with (refine wl_idx rfl rfl keyT_exps (k:=2) rfl rfl (by omega) rfl ?_)
       go_round
       case rel=>exact ⟨3,rfl,by go_num,by omega⟩
       case measure=>simp [intOf]
     · have hw:IntKind.i64.wrap (sumSt x0 x1 x2 x3 x4 x5 3+x3)=sumSt x0 x1 x2 x3 x4 x5 4:=by
        have e:sumSt x0 x1 x2 x3 x4 x5 4=sumSt x0 x1 x2 x3 x4 x5 3+x3:=by simp [sumSt]
        rw [e];exact IntWalk.i64_in _ (by simp only [sumSt]; omega)
       go_wp2_with (refine wl_idx rfl rfl keyT_exps (k:=3) rfl rfl (by omega) rfl ?_)
       go_round
       case rel=>exact ⟨4,rfl,by go_num,by omega⟩
       case measure=>simp [intOf]
     · have hw:IntKind.i64.wrap (sumSt x0 x1 x2 x3 x4 x5 4+x4)=sumSt x0 x1 x2 x3 x4 x5 5:=by
        have e:sumSt x0 x1 x2 x3 x4 x5 5=sumSt x0 x1 x2 x3 x4 x5 4+x4:=by simp [sumSt]
        rw [e];exact IntWalk.i64_in _ (by simp only [sumSt]; omega)
       go_wp2_with (refine wl_idx rfl rfl keyT_exps (k:=4) rfl rfl (by omega) rfl ?_)
       go_round
       case rel=>exact ⟨5,rfl,by go_num,by omega⟩
       case measure=>simp [intOf]
     · have hw:IntKind.i64.wrap (sumSt x0 x1 x2 x3 x4 x5 5+x5)=sumSt x0 x1 x2 x3 x4 x5 6:=by
        have e:sumSt x0 x1 x2 x3 x4 x5 6=sumSt x0 x1 x2 x3 x4 x5 5+x5:=by simp [sumSt]
        rw [e];exact IntWalk.i64_in _ (by simp only [sumSt]; omega)
       go_wp2_with (refine wl_idx rfl rfl keyT_exps (k:=5) rfl rfl (by omega) rfl ?_)
       go_round
       case rel=>exact ⟨6,rfl,by go_num,by omega⟩
       case measure=>simp [intOf]
     · have HS6:Hid (sumSt x0 x1 x2 x3 x4 x5 6=[x0,x1,x2,x3,x4,x5].sum):=qh (by simp [sumSt]; omega);go_wp2;go_roundw
       case rel=>exact ⟨k+1,_,rfl,by go_num,by omega,hEw,qh (by rw [HDT.out,←HM.out,←HS6.out])⟩
       case measure=>simp [intOf]; omega
  · have hkn:k=n:=by omega
    subst hkn;go_wp2;go_ret;exact ⟨retN (by rw [HM.out,List.take_of_length_le (by rw [HLN.out]; exact Nat.le_refl _)]),hE⟩
open Classical in
noncomputable def rdP (vars:Int) (ts:List Tx):Option (List Pl.Tm):=if ts.length≤4096∧∀ t r,ts=t :: r→validS t.2=true then rdWF vars ts else none
theorem poly_read {vars:Int} {a:Option Addr} {n c:Nat} {ts:List Tx} {w:World} (hT:Tabs w) (h:TmSl w a n c ts) (hs:∀ t∈ts,t.1.length≤570) :
 Calls Tryz.prog 33 #[.agg #[.int .i64 vars, .slice a n c]] w (RetL w (rdP vars ts)):=by
 have hlen:=h.len;have hwf:=fun (wx:World) (hC:Ext w wx) (hn:n≤4096)=>qh (poly_readWF (vars:=vars) (hT.ext hC) (h.ext hC) hs hn);have hno:¬ n≤4096→rdP vars ts=none:=fun h=>by unfold rdP; exact if_neg (fun h'=>h (by omega))
 obtain ⟨rows,hS,_,hq⟩:=h;have hnn:=hS.le
 go_enter Tryz.func33,Tryz.ntmps33
 go_upto_region 1 with (fail)
 refine box1 ?_;intro w0 hE0 hB0 hz0;have p0:=hB0.c 0 rfl;have p1:=hB0.c 1 rfl;clear hB0 hz0 hs;by_cases hbig:4096<n
 · have HN:=qh (hno (by omega));go_wp2
   go_ret2
   rw [HN.out];exact ⟨none,0,0,rfl,hE0,EntSl.nil _⟩
 · have hwf:=hwf w0 hE0 (by omega);clear hno
   go_wp2_with fail
   refine hwf.out.mono ?_;rintro e w1 ⟨a1,n1,c1,rfl,hE1,hL1⟩;have p1:=hE1.cell p1;have hEw:=hE0.trans hE1;cases hwq:rdWF vars ts with
   | none =>
    have HN:Hid (rdP vars ts=none):=qh (by unfold rdP; rw [hwq]; split <;> rfl);rw [hwq] at hL1;clear hwf hwq;go_wp2
    go_ret2
    rw [HN.out];exact ⟨none,0,0,rfl,hEw,EntSl.nil _⟩
   | some l =>
    rw [hwq] at hL1;simp only [Option.getD_some,Option.isSome_some] at hL1 ⊢;rcases Nat.eq_zero_or_pos n with h0|h0
    · have HN:Hid (rdP vars ts=some l):=qh (by
       unfold rdP
       rw [hwq,if_pos ⟨by omega,fun t r e=>by rw [e] at hlen; simp at hlen; omega⟩])
      have hn0:¬ ((0:Int)<(n:Int)):=by omega
      clear hwf hwq;go_wp2
      go_ret2
      rw [HN.out];exact ⟨a1,n1,c1,rfl,hEw,hL1⟩
    · have hn0:(0:Int)<(n:Int):=by omega
      obtain ⟨bb,off,rfl,hc⟩:=(hS.ext hEw).rd h0;obtain ⟨s,ax,nx,cx,hrow,_,hxs⟩:=hq 0 h0;have hce:=hc 0 h0 1 (by omega);rw [hrow] at hce;have hce':w1.cell? ⟨bb,off+1,none⟩=some (.slice ax nx cx):=hce;have hce0:=hc 0 h0 0 (by omega);rw [hrow] at hce0;have hce0':w1.cell? ⟨bb,off,none⟩=some (.string s):=by simpa using hce0
      have hmv:=fun (wx:World) (hq:Ext w1 wx)=>qh (mono_Valid ((hxs.ext hEw).ext hq));have HX:Hid (∀ t r,ts=t :: r→t.2=(ts.getD 0 tm0).2):=qh (fun t r e=>by rw [e]; rfl);generalize (ts.getD 0 tm0).2=xs at *
      cases hvx:validS xs with
      | true =>
       have HN:Hid (rdP vars ts=some l):=qh (by
        unfold rdP
        rw [hwq,if_pos ⟨by omega,fun t r e=>by rw [HX.out t r e]; exact hvx⟩])
       rw [hvx] at hmv;clear hwf hwq hvx hc hce hce0
       go_wp2_with fail
       refine (hmv _ (Ext.refl _)).out.mono ?_;rintro e w2 ⟨rfl,rfl⟩;go_wp2
       go_ret2
       rw [HN.out];exact ⟨a1,n1,c1,rfl,hEw,hL1⟩
      | false =>
       have HN:Hid (rdP vars ts=none):=qh (by
        unfold rdP;rw [if_neg];rintro ⟨_,h2⟩;cases hts:ts with
        | nil=>rw [hts] at hlen; simp at hlen; omega
        | cons t r =>
         have h3:=h2 t r hts;rw [HX.out t r hts,hvx] at h3
         cases h3)
       rw [hvx] at hmv;clear hwf hwq hvx hc hce hce0
       go_wp2_with fail
       refine (hmv _ (Ext.refl _)).out.mono ?_;rintro e w2 ⟨rfl,rfl⟩;go_wp2
       go_ret2
       rw [HN.out];exact ⟨none,0,0,rfl,hEw,EntSl.nil _⟩
theorem poly_Valid {vars:Int} {a:Option Addr} {n c:Nat} {ts:List Tx} {w:World} (hT:Tabs w) (h:TmSl w a n c ts) (hs:∀ t∈ts,t.1.length≤570) :
 Calls Tryz.prog 9 #[.agg #[.int .i64 vars, .slice a n c]] w fun e w'=>e = .returned (.bool (rdP vars ts).isSome)∧Ext w w':=by
 have hrd:=fun (wx:World) (hC:Ext w wx)=>qh (poly_read (vars:=vars) (hT.ext hC) (h.ext hC) hs);obtain ⟨o,ho⟩:∃ o,rdP vars ts=o:=⟨_,rfl⟩;rw [ho] at hrd ⊢;clear ho
 go_enter Tryz.func9,Tryz.ntmps9
 go_upto_region 1 with (fail)
 refine box1 ?_;intro w0 hE0 hB0 hz0;have p0:=hB0.c 0 rfl;have p1:=hB0.c 1 rfl;clear hB0 hz0
 go_wp2_with fail
 refine (hrd _ hE0).out.mono ?_;rintro e w1 ⟨a1,n1,c1,rfl,hE1,_⟩;go_wp2;go_ret;exact ⟨rfl,hE0.trans hE1⟩
structure SumF where
 p:Nat
 qa:Option Nat
 qb:Option Nat
 z:Int
def SumF.has (f:SumF) (b:Nat):Prop:=b=f.p∨f.qa=some b∨f.qb=some b
def ptrV (p:Nat):Value := .pointer (some ⟨p,0,none⟩)
abbrev SF:=List (List Int×SumF)
def mapF (fs:SF):List (List Int×Value):=fs.map (fun f=>(f.1,ptrV f.2.p))
def lzF (fs:SF):List (List Int×Int):=fs.map (fun f=>(f.1,f.2.z))
def lqF (fs:SF):List Pl.Tm:=(lzF fs).map (fun f=>(f.1,(f.2:Rat)))
theorem und_mapS:Tryz.prog.underlying 176=some (.map 109 177):=by kernel_rfl
theorem zero_ptr (w:World):(zeroValue 177).run Tryz.prog w = .ok (.pointer none) w:=Tryz.zeroValue177 w
theorem mapF_keys (fs:SF):(mapF fs).map (·.1)=fs.map (·.1):=by simp [mapF]
theorem lqF_keys (fs:SF):(lqF fs).map (·.1)=fs.map (·.1):=by simp [lqF,lzF]
theorem sum_blocks {w:World} {base p N:Nat} {qa qb:Option Nat} {z:Int} (h:SumIs w base p qa qb N z):∀ b,(b=p∨qa=some b∨qb=some b)→∃ cs t fr,w.heap[b]?=some (.cells cs t fr):=by
 obtain ⟨pa,pn,pc,na,nn,nc,ps,ns,h1,h2,h3,h4,h5,_⟩:=h;intro b hb;rcases hb with rfl|hb|hb
 · exact ⟨_,_,_,h1⟩
 · rcases h4.2 with ⟨hv,_⟩|⟨g,cap,cur,hv,_,hh,_⟩
   · simp only [Value.slice.injEq] at hv;rw [←h2,hv.1] at hb;simp [blk] at hb
   · simp only [Value.slice.injEq] at hv;rw [←h2,hv.1] at hb;have:g=b:=by simpa [blk] using hb
     subst this;exact ⟨_,_,_,hh⟩
 · rcases h5.2 with ⟨hv,_⟩|⟨g,cap,cur,hv,_,hh,_⟩
   · simp only [Value.slice.injEq] at hv;rw [←h3,hv.1] at hb;simp [blk] at hb
   · simp only [Value.slice.injEq] at hv;rw [←h3,hv.1] at hb;have:g=b:=by simpa [blk] using hb
     subst this;exact ⟨_,_,_,hh⟩
structure SumsIs (w2:World) (r Nb:Nat) (fs:SF) (wr:World):Prop where
 ext:Ext w2 wr
 rge:w2.heap.size≤r
 map:MapIs wr r (mapF fs)
 sums:∀ f∈fs,SumIs wr w2.heap.size f.2.p f.2.qa f.2.qb Nb f.2.z
 dist:∀ (i j:Nat) f g,i≠j→fs[i]?=some f→fs[j]?=some g→∀ b,f.2.has b→¬ g.2.has b
section
variable {w2 wr w':World} {r Nb:Nat} {fs:SF}
theorem SumsIs.step (h:SumsIs w2 r Nb fs wr) (e:Ext wr w'):SumsIs w2 r Nb fs w':=⟨h.ext.trans e,h.rge,h.map.ext e,fun f hf=>(h.sums f hf).ext e,h.dist⟩
theorem SumsIs.lt (h:SumsIs w2 r Nb fs wr) {f:List Int×SumF} (hf:f∈fs) {b:Nat} (hb:f.2.has b):w2.heap.size≤b∧b<wr.heap.size:=by
 have hl:=(h.sums f hf).lt;rcases hb with rfl|hb|hb
 · exact hl.1
 · exact hl.2.1 b hb
 · exact hl.2.2 b hb
theorem SumsIs.ne (h:SumsIs w2 r Nb fs wr) {f:List Int×SumF} (hf:f∈fs) {b:Nat} (hb:f.2.has b):b≠r:=by
 rintro rfl;obtain ⟨cs,t,fr,e⟩:=sum_blocks (h.sums f hf) b hb;rw [h.map.obj] at e;cases e
theorem SumsIs.nodup (h:SumsIs w2 r Nb fs wr):(fs.map (·.1)).Nodup:=by rw [←mapF_keys]; exact h.map.nodup
theorem SumsIs.le {Nb':Nat} (h:SumsIs w2 r Nb fs wr) (hN:Nb≤Nb'):SumsIs w2 r Nb' fs wr:=⟨h.ext,h.rge,h.map,fun f hf=>(h.sums f hf).le hN,h.dist⟩
theorem SumsIs.new (h:SumsIs w2 r Nb fs wr) {key:List Int} {p:Nat} {w3 w4:World} (hk:key ∉ fs.map (·.1)) (hE:Ext wr w3) (hA:Arr w3 p 149 (sumL none 0 0 none 0 0)) (hp:wr.heap.size≤p)
 (hM:MapIs w4 r (putM (mapF fs) key (ptrV p))) (hg:w3.grownBy w4 (some r)):SumsIs w2 r Nb (fs ++ [(key,⟨p,none,none,0⟩)]) w4:=by
 have hput:putM (mapF fs) key (ptrV p)=mapF (fs ++ [(key,⟨p,none,none,0⟩)]):=by
  have hn:findE key 0 (mapF fs)=none:=findE_none.2 (by rw [mapF_keys]; exact hk);unfold putM;rw [hn];simp [mapF]
 rw [hput] at hM;have hrp:p≠r:=by have:=h.map.lt; omega
 have hA4:Arr w4 p 149 (sumL none 0 0 none 0 0):=hA.kept hg (by simpa using hrp);have hw2:=h.ext.size;refine ⟨(h.ext.trans hE).grownR hg h.rge,h.rge,hM,fun f hf => ?_,fun i j f g hij hi hj b hb => ?_⟩
 · rcases List.mem_append.1 hf with hf|hf
   · have h3:=(h.sums f hf).ext hE;refine h3.kp (Kp.ofGrown hg (S:=fun b=>b=r) (fun g hg=>by simpa using hg.symm)) ?_ ?_ ?_
     · exact h.ne hf (Or.inl rfl)
     · exact fun g hg=>h.ne hf (Or.inr (Or.inl hg))
     · exact fun g hg=>h.ne hf (Or.inr (Or.inr hg))
   · simp only [List.mem_singleton] at hf;subst hf;exact (SumIs.new hA4 (by omega)).le (Nat.zero_le _)
 · have key2:∀ (i:Nat) (f:List Int×SumF),(fs ++ [(key,(⟨p,none,none,0⟩:SumF))])[i]?=some f→(i<fs.length∧fs[i]?=some f)∨(i=fs.length∧f=(key,⟨p,none,none,0⟩)):=by
    intro i f hi;rcases Nat.lt_or_ge i fs.length with h1|h1
    · rw [List.getElem?_append_left h1] at hi;exact Or.inl ⟨h1,hi⟩
    · rw [List.getElem?_append_right h1] at hi;right;rcases Nat.eq_zero_or_pos (i-fs.length) with h2|h2
      · rw [h2] at hi;simp at hi;exact ⟨by omega,hi.symm⟩
      · rw [List.getElem?_eq_none (by simp; omega)] at hi;cases hi
   rcases key2 i f hi with ⟨h1,h2⟩|⟨h1,rfl⟩
   · rcases key2 j g hj with ⟨h3,h4⟩|⟨h3,rfl⟩
     · exact h.dist i j f g hij h2 h4 b hb
     · intro hb2;have hlt:=(h.lt (List.mem_of_getElem? h2) hb).2;rcases hb2 with hb2|hb2|hb2
       · simp only at hb2; omega
       · cases hb2
       · cases hb2
   · rcases key2 j g hj with ⟨h3,h4⟩|⟨h3,_⟩
     · intro hb2;have hlt:=(h.lt (List.mem_of_getElem? h4) hb2).2;rcases hb with hb|hb|hb
       · simp only at hb; omega
       · cases hb
       · cases hb
     · omega
theorem has_new {f:SumF} {qa' qb':Option Nat} {z':Int} {H:Nat} (ha:qa'=f.qa∨∃ g,qa'=some g∧H≤g) (hb:qb'=f.qb∨∃ g,qb'=some g∧H≤g) {b:Nat} (h:(⟨f.p,qa',qb',z'⟩:SumF).has b):f.has b∨H≤b:=by
 rcases h with h|h|h
 · exact Or.inl (Or.inl h)
 · rcases ha with e|⟨g,e,hg⟩
   · rw [show (⟨f.p,qa',qb',z'⟩:SumF).qa=qa' from rfl,e] at h;exact Or.inl (Or.inr (Or.inl h))
   · rw [show (⟨f.p,qa',qb',z'⟩:SumF).qa=qa' from rfl,e] at h;right;have:g=b:=by simpa using h
     omega
 · rcases hb with e|⟨g,e,hg⟩
   · rw [show (⟨f.p,qa',qb',z'⟩:SumF).qb=qb' from rfl,e] at h;exact Or.inl (Or.inr (Or.inr h))
   · rw [show (⟨f.p,qa',qb',z'⟩:SumF).qb=qb' from rfl,e] at h;right;have:g=b:=by simpa using h
     omega
theorem SumsIs.add (h:SumsIs w2 r Nb fs wr) {i:Nat} {key:List Int} {f:SumF} {qa' qb':Option Nat} {Nb':Nat} {z':Int} (hi:fs[i]?=some (key,f)) (hS:SumIs w' w2.heap.size f.p qa' qb' Nb' z') (hK:Kp (fun b=>f.has b) wr w')
 (ha:qa'=f.qa∨∃ g,qa'=some g∧wr.heap.size≤g) (hb:qb'=f.qb∨∃ g,qb'=some g∧wr.heap.size≤g) (hN:Nb≤Nb'):SumsIs w2 r Nb' (fs.set i (key,⟨f.p,qa',qb',z'⟩)) w':=by
 have hfm:=List.mem_of_getElem? hi;have hil:i<fs.length:=(List.getElem?_eq_some_iff.1 hi).1;have hmap:mapF (fs.set i (key,⟨f.p,qa',qb',z'⟩))=mapF fs:=by
  unfold mapF;rw [List.map_set];apply List.ext_getElem?;intro t;rw [List.getElem?_set];by_cases ht:i=t
  · subst ht;simp [hil];have e:fs[i]=(key,f):=(List.getElem?_eq_some_iff.1 hi).2;rw [e];exact ⟨rfl,rfl⟩
  · simp [ht]
 have hset:∀ (t:Nat) (g:List Int×SumF),(fs.set i (key,(⟨f.p,qa',qb',z'⟩:SumF)))[t]?=some g→(t=i∧g=(key,⟨f.p,qa',qb',z'⟩))∨(t≠i∧fs[t]?=some g):=by
  intro t g hg;rw [List.getElem?_set] at hg;by_cases ht:i=t
  · subst ht;simp [hil] at hg;exact Or.inl ⟨rfl,hg.symm⟩
  · rw [if_neg ht] at hg;exact Or.inr ⟨fun e=>ht e.symm,hg⟩
 refine ⟨hK.ext h.ext (fun b hb=>(h.lt hfm hb).1),h.rge, ?_,fun g hg => ?_,fun s t g1 g2 hst hs ht b hb1 => ?_⟩
 · rw [hmap];exact h.map.of_block (hK.block r h.map.lt (fun hh=>h.ne hfm hh rfl))
 · obtain ⟨t,ht⟩:=List.mem_iff_getElem?.1 hg;rcases hset t g ht with ⟨_,rfl⟩|⟨hne,hg0⟩
   · exact hS
   · have hd:=h.dist t i g (key,f) hne hg0 hi;refine ((h.sums g (List.mem_of_getElem? hg0)).kp hK ?_ ?_ ?_).le hN
     · exact hd _ (Or.inl rfl)
     · exact fun b hb=>hd b (Or.inr (Or.inl hb))
     · exact fun b hb=>hd b (Or.inr (Or.inr hb))
 · rcases hset s g1 hs with ⟨rfl,rfl⟩|⟨hsi,h1⟩
   · rcases hset t g2 ht with ⟨rfl,_⟩|⟨hti,h2⟩
     · exact absurd rfl hst
     · intro hb2;rcases has_new ha hb hb1 with h3|h3
       · exact h.dist s t (key,f) g2 hst hi h2 b h3 hb2
       · have:=(h.lt (List.mem_of_getElem? h2) hb2).2; omega
   · rcases hset t g2 ht with ⟨rfl,rfl⟩|⟨hti,h2⟩
     · intro hb2;rcases has_new ha hb hb2 with h3|h3
       · exact h.dist t s (key,f) g1 (fun e=>hst e.symm) hi h1 b h3 hb1
       · have:=(h.lt (List.mem_of_getElem? h1) hb1).2; omega
     · exact h.dist s t g1 g2 hst h1 h2 b hb1
end
theorem posK_map {α β:Type} (g:α→β) (k:List Int):∀ (l:List (List Int×α)) (i:Nat),Pl.posK k i (l.map (fun f=>(f.1,g f.2)))=(Pl.posK k i l).map (fun p=>(p.1,g p.2))
 | [],_=>rfl
 | (k',v) :: r,i=>by
  simp only [List.map_cons,Pl.posK];by_cases h:k=k'
  · simp [h]
  · simp only [if_neg h]; exact posK_map g k r (i+1)
theorem posK_get {α:Type} (k:List Int):∀ (l:List (List Int×α)) (j i:Nat) (v:α),Pl.posK k j l=some (i,v)→j≤i∧l[i-j]?=some (k,v)
 | [],_,_,_,h=>by simp [Pl.posK] at h
 | (k',x) :: r,j,i,v,h=>by
  unfold Pl.posK at h;by_cases hk:k=k'
  · rw [if_pos hk] at h;simp only [Option.some.injEq,Prod.mk.injEq] at h;obtain ⟨rfl,rfl⟩:=h;subst hk;simp
  · rw [if_neg hk] at h;obtain ⟨h1,h2⟩:=posK_get k r (j+1) i v h;refine ⟨by omega, ?_⟩;rw [show i-j=(i-(j+1))+1 by omega];simpa using h2
theorem posK_none {α:Type} {k:List Int}:∀ {l:List (List Int×α)} {i:Nat},Pl.posK k i l=none→k ∉ l.map (·.1)
 | [],_,_=>by simp
 | (k',v) :: r,i,h=>by
  unfold Pl.posK at h;by_cases hk:k=k'
  · rw [if_pos hk] at h; cases h
  · rw [if_neg hk] at h;have:=posK_none h;simp [hk];simpa using this
theorem posK_app {α:Type} {k:List Int} {v:α}:∀ {l:List (List Int×α)} {i:Nat},Pl.posK k i l=none→Pl.posK k i (l ++ [(k,v)])=some (i+l.length,v)
 | [],i,_=>by simp [Pl.posK]
 | (k',x) :: r,i,h=>by
  unfold Pl.posK at h;by_cases hk:k=k'
  · rw [if_pos hk] at h; cases h
  · rw [if_neg hk] at h;rw [List.cons_append,Pl.posK,if_neg hk,posK_app h];simp; omega
theorem lqF_pos (fs:SF) (k:List Int):Pl.posK k 0 (lqF fs)=(Pl.posK k 0 fs).map (fun p=>(p.1,(p.2.z:Rat))):=by
 unfold lqF lzF;rw [List.map_map];exact posK_map (fun f:SumF=>(f.z:Rat)) k fs 0
theorem mapF_look {fs:SF} {k:List Int}:lookD (.pointer none) (mapF fs) k=match Pl.posK k 0 fs with | some p=>ptrV p.2.p | none => .pointer none:=by
 rw [lookD_get];unfold Pl.getK mapF;rw [posK_map (fun f:SumF=>ptrV f.p) k fs 0];cases Pl.posK k 0 fs <;> rfl
theorem lqF_step {fs:SF} {i:Nat} {key:List Int} {f:SumF} {qa' qb':Option Nat} {x:Int} (hn:(fs.map (·.1)).Nodup) (hp:Pl.posK key 0 fs=some (i,f)) (e:List Int) :
 Pl.coef (lqF (fs.set i (key,⟨f.p,qa',qb',f.z+x⟩))) e=Pl.coef (lqF fs) e+Pl.coef [(key,(x:Rat))] e:=by
 have h1:Pl.posK key 0 (lqF fs)=some (i,(f.z:Rat)):=by rw [lqF_pos,hp]; rfl
 have h2:lqF (fs.set i (key,⟨f.p,qa',qb',f.z+x⟩))=Pl.putK (lqF fs) key (Pl.getK 0 (lqF fs) key+(x:Rat)):=by
  have h3:Pl.getK 0 (lqF fs) key=(f.z:Rat):=by unfold Pl.getK; rw [h1]; rfl
  rw [h3];unfold Pl.putK;rw [h1];unfold lqF lzF;rw [List.map_set,List.map_set,Rat.intCast_add]
 rw [h2,Pl.coef_step (by rw [lqF_keys]; exact hn)]
theorem lqF_new (fs:SF) (key:List Int) (p:Nat) (e:List Int):Pl.coef (lqF (fs ++ [(key,⟨p,none,none,0⟩)])) e=Pl.coef (lqF fs) e:=by
 unfold lqF lzF;rw [List.map_append,List.map_append,Pl.coef_app];have:Pl.coef (List.map (fun f:List Int×Int=>(f.1,(f.2:Rat))) (List.map (fun f:List Int×SumF=>(f.1,f.2.z)) [(key,⟨p,none,none,0⟩)])) e=0:=by
  simp only [List.map_cons,List.map_nil,Pl.coef];split <;> grind
 rw [this]
 grind
def Keep (H0:Nat) (w4 wr:World):Prop:=w4.heap.size≤wr.heap.size∧∀ b,H0≤b→b<w4.heap.size→wr.heap[b]?=w4.heap[b]?
theorem Keep.refl (H0:Nat) (w:World):Keep H0 w w:=⟨Nat.le_refl _,fun _ _ _=>rfl⟩
theorem Keep.ext {H0:Nat} {w4 wr w':World} (h:Keep H0 w4 wr) (e:Ext wr w'):Keep H0 w4 w':=⟨Nat.le_trans h.1 e.size,fun b h1 h2=>(e.block (Nat.lt_of_lt_of_le h2 h.1)).trans (h.2 b h1 h2)⟩
theorem Keep.kp {H0:Nat} {S:Nat→Prop} {w4 wr w':World} (h:Keep H0 w4 wr) (e:Kp S wr w') (hS:∀ b,S b→b<H0∨w4.heap.size≤b):Keep H0 w4 w' :=
 ⟨Nat.le_trans h.1 e.size,fun b h1 h2=>(e.block b (Nat.lt_of_lt_of_le h2 h.1) (fun x=>by have:=hS b x; omega)).trans (h.2 b h1 h2)⟩
theorem Keep.arr {H0:Nat} {w4 wr:World} {g:Nat} {t:TypeId} {cs:List Value} (h:Keep H0 w4 wr) (hA:Arr w4 g t cs) (hg:H0≤g):Arr wr g t cs:=(h.2 g hg hA.lt).trans hA
theorem Keep.wd {H0:Nat} {w2 w4 wr:World} {a:Option Addr} {n c x:Nat} (h:Keep H0 w4 wr) (hx:Wd w4 a n c x) (h4:Ext w2 w4) (hr:Ext w2 wr) (hs:0<n→∀ g,blk a=some g→H0≤g∨g<w2.heap.size):Wd wr a n c x:=by
 obtain ⟨xs,h1,h2⟩:=hx;refine ⟨xs, ?_,h2⟩;refine ⟨Sl.len h1,Sl.cap h1,Sl.max h1,fun h0 => ?_⟩;obtain ⟨b,o,rfl,hc⟩:=Sl.rd h1 h0;refine ⟨b,o,rfl,fun i hi => ?_⟩;have h5:=hc i hi;have hlt:b<w4.heap.size:=World.block_lt_of_cell? w4 ⟨b,o+i,none⟩ h5;have hblk:wr.heap[b]?=w4.heap[b]?:=by
  rcases hs h0 b rfl with h6|h6
  · exact h.2 b h6 hlt
  · rw [hr.block h6,h4.block h6]
 rw [World.cell?_of_block (w:=w4) hblk,h5]
def Gap (H0 H1:Nat) (fs:SF):Prop:=∀ f∈fs,∀ b,f.2.has b→b<H0∨H1≤b
theorem Gap.add {H0 H1 H:Nat} {fs:SF} (h:Gap H0 H1 fs) {i:Nat} {key:List Int} {f:SumF} {qa' qb':Option Nat} {z':Int} (hi:fs[i]?=some (key,f)) (hH:H1≤H)
 (ha:qa'=f.qa∨∃ g,qa'=some g∧H≤g) (hb:qb'=f.qb∨∃ g,qb'=some g∧H≤g):Gap H0 H1 (fs.set i (key,⟨f.p,qa',qb',z'⟩)):=by
 intro g hg b hb1;rcases List.mem_or_eq_of_mem_set hg with hg|rfl
 · exact h g hg b hb1
 · rcases has_new ha hb hb1 with h3|h3
   · exact h _ (List.mem_of_getElem? hi) b h3
   · right; omega
theorem Gap.new {H0 H1:Nat} {fs:SF} (h:Gap H0 H1 fs) {key:List Int} {p:Nat} (hp:H1≤p):Gap H0 H1 (fs ++ [(key,⟨p,none,none,0⟩)]):=by
 intro g hg b hb;rcases List.mem_append.1 hg with hg|hg
 · exact h g hg b hb
 · simp only [List.mem_singleton] at hg;subst hg;rcases hb with hb|hb|hb
   · right; simp only at hb; omega
   · cases hb
   · cases hb
def IntC (w:World) (row:List Value) (z:Int):Prop:=∃ s a n c,row=intL s a n c∧Hid (decide (z<0)=s)∧Wd w a n c z.natAbs
theorem IntC.ext {w w':World} {row:List Value} {z:Int} (h:IntC w row z) (e:Ext w w'):IntC w' row z:=by
 obtain ⟨s,a,n,c,h1,h2,h3⟩:=h;exact ⟨s,a,n,c,h1,h2,h3.ext e⟩
theorem IntC.keptU {w w':World} {row:List Value} {z:Int} {g:Nat} (h:IntC w row z) (hU:NoU w g) (hg:w.grownBy w' (some g)):IntC w' row z:=by
 obtain ⟨s,a,n,c,h1,h2,h3⟩:=h;exact ⟨s,a,n,c,h1,h2,h3.keptU hU hg⟩
theorem elem_Int:ElemK Tryz.prog 90 (intL false none 0 0) 2 32:=⟨by kernel_rfl,rfl,by omega⟩
def NEn (e:List Int) (q:Rat) (v:Value) (w:World):Prop:=∃ s a n c b m d,v = .agg (entL e s a n c b m d).toArray∧RatC w (ratL s a n c false b m d) q
theorem NEn.x (e:List Int) (q:Rat):StX (NEn e q):=fun _ _ _ x ⟨s,a,n,c,b,m,d,h1,h2⟩=>⟨s,a,n,c,b,m,d,h1,h2.ext x⟩
end Go.Proofs.YtlpgonpfjbhmfaaGreatDoor
