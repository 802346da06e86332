/- Part Gan18. -/
import Derived.Test.YtlpgonpfjbhmfaaGreatDoorGan17
import Derived.Test.YtlpgonpfjbhmfaaGreatDoorGan15
import Derived.Test.YtlpgonpfjbhmfaaGreatDoorGan16
import Derived.Test.YtlpgonpfjbhmfaaGreatDoorGan3
import Derived.Lib.ConvBytes
import Derived.Laws.IdiomStrings
import Derived.Lib.ItoaNum
set_option maxRecDepth 100000
set_option maxHeartbeats 100000000
namespace Go.Proofs.YtlpgonpfjbhmfaaGreatDoor
open Go Go.RowKit
structure PairJ (l:List Oper) (k1 k2 s1 j1:Nat) (T:TypeId) (zs:List Value) (base:Nat) (listed:Array Bool) (a:Act) (w:World):Prop where
 p1:listed.getD k1 false=true→∃ g,slotOf l.toArray k1 a = .pointer (some ⟨g,0,none⟩)∧base≤g∧g<w.heap.size∧(listed.getD s1 false=false→Arr w g T zs)∧(listed.getD s1 false=true→∃ cs:List Value,slotOf l.toArray j1 a = .agg cs.toArray∧Arr w g T cs)
 p2:listed.getD k2 false=true→∃ g,slotOf l.toArray k2 a = .pointer (some ⟨g,0,none⟩)∧base≤g∧g<w.heap.size∧Arr w g T zs
 ne:listed.getD k1 false=true→listed.getD k2 false=true→slotOf l.toArray k1 a≠slotOf l.toArray k2 a
 js:listed.getD s1 false=true→listed.getD j1 false=true∧listed.getD k1 false=true
 lo:base≤w.heap.size
theorem getD_set_ne {listed:Array Bool} {i j:Nat} (h:j≠i):(listed.setIfInBounds i true).getD j false=listed.getD j false:=by
 have hji:¬ i=j:=fun e=>h e.symm;rw [Array.getD_eq_getD_getElem?,Array.getElem?_setIfInBounds,if_neg hji,Array.getD_eq_getD_getElem?]
section
variable {P:Program} {Q:Exit→Act→World→Prop}
theorem wp_region_pair {id:Nat} {a:Act} {w:World} {l:List Oper} (hm:P.follows .mixedOrders=true) (C:World→Prop) (hs:List Hd)
 (hok:regionOk2 l.toArray (hs.map (·.cons)) a.tmps.size=true)
 (hCe:∀ w w',Ext w w'→C w→C w') (hC:C w.drew) (hst:stabs hs)
 (hobl:obls P C l.toArray hs a 0 l hs) (k1 k2 s1 j1:Nat) (T:TypeId) (zs:List Value)
 (hn:k1<hs.length∧k2<hs.length∧s1<hs.length∧j1<hs.length) (hd4:k1≠k2∧k1≠s1∧k2≠s1∧j1≠s1∧j1≠k1∧j1≠k2)
 (hk:∀ k,k=k1∨k=k2→∀ o,l.toArray[k]?=some o→o.guard=none∧o.dst.isSome=true∧∀ ρ wx,(execOp ρ o).run P wx = .ok (.value (.pointer (some ⟨wx.heap.size,0,none⟩))) (wx.alloc (.cells zs.toArray T)))
 (hs1:∀ o,l.toArray[s1]?=some o→o.guard=none∧o.dst=none∧∃ d1 dj,dstAt l.toArray k1=some d1∧dstAt l.toArray j1=some dj∧o.op = .store T (.tmp d1) (.tmp dj))
 (hp1:k1∈predsAt l.toArray s1∧j1∈predsAt l.toArray s1)
 (hnm:∀ i,i<hs.length→i≠s1→(hdAt hs i).mu=false)
 (hag:Agg P T zs.length)
 (hj1:(hdAt hs j1).cons=none∧∀ v w,(hdAt hs j1).ty.ok v w→∃ cs:List Value,v = .agg cs.toArray∧cs.length=zs.length∧∀ x∈cs,x.oneCell'=true)
 (hend:∀ w',C w'→After w' (fun a'=>(∃ (g1 g2:Nat) (cs:List Value),slotOf l.toArray k1 a' = .pointer (some ⟨g1,0,none⟩)∧slotOf l.toArray k2 a' = .pointer (some ⟨g2,0,none⟩)∧w.heap.size≤g1∧w.heap.size≤g2∧g1≠g2∧slotOf l.toArray j1 a' = .agg cs.toArray∧Arr w' g1 T cs∧Arr w' g2 T zs)→wpList P l.toArray Q (l.drop hs.length) a' w') l hs a):(Code.region id l.toArray true).wp P Q a w:=by
 refine wp_region_typed4 hm C hs hok hCe hC hst hobl (fun listed a' w'=>PairJ l k1 k2 s1 j1 T zs w.heap.size listed a' w') ?_ ?_ ?_
 · refine ⟨fun h => ?_,fun h => ?_,fun h => ?_,fun h => ?_,Nat.le_refl _⟩
   all_goals (rw [getD_replicate_false] at h; cases h)
 · intro listed a' w' i o u w2 inv J hin ho hif hpr hres hval inv2 hoth hown;obtain ⟨n1,n2,n3,n4⟩:=hn;obtain ⟨d1,d2,d3,d4,d5,d6⟩:=hd4;by_cases his:i=s1
   · subst his;obtain ⟨hg,hdst,t1,tj,e1,e2,hop⟩:=hs1 o ho;rw [predsAt_some ho] at hp1;have hl1:=hpr k1 hp1.1;have hlj:=hpr j1 hp1.2;obtain ⟨g,hg1,hg2,hg3,hg4,_⟩:=J.p1 hl1;obtain ⟨v,hv,hvd⟩:=inv.facts j1 n4 hlj (fun k hck=>by rw [hj1.1] at hck; cases hck);obtain ⟨cs,rfl,hcl,hone⟩:=hj1.2 v w' hv;have hsj:=hvd tj e2;have hs1':a'.tmps.getD t1 undef = .pointer (some ⟨g,0,none⟩):=by
      have:=hg1;unfold slotOf at this;rw [e1] at this;exact this
     have hA:=hg4 hif;have hrun:(execOp a'.eval o).run P w' = .ok .skip (w'.setRow g cs.toArray):=by
      have:=run_storeArr (P:=P) (w:=w') (ty:=T) (g:=g) (t:=T) (cs:=zs) (vs:=cs) (by rw [hcl]; exact hag) hA hcl.symm hone;have e3:a'.eval (.tmp t1) = .pointer (some ⟨g,0,none⟩):=hs1';have e4:a'.eval (.tmp tj) = .agg cs.toArray:=hsj;simp only [execOp,hop,e3,e4,Sem.run_bind,this,Result.andThen_ok,Sem.run_pure]
     have hw2:w2=w'.setRow g cs.toArray:=by
      have:=hval (by unfold Region.wanted; rw [hg]);rw [hrun] at this;exact this
     have hgrow:w'.grownBy w2 (some g):=by rw [hw2]; exact setRow_grown w' g _
     have hA2:Arr w2 g T cs:=by rw [hw2]; exact setRow_arr hA cs
     have hset:(listed.setIfInBounds i true).getD i false=true:=by
      have:i<listed.size:=by rw [inv.size]; exact (Array.getElem?_eq_some_iff.1 ho).1
      simp [this]
     refine ⟨fun _=>⟨g,by rw [hoth k1 n1 d2,hg1],hg2,Nat.lt_of_lt_of_le hg3 hgrow.size,(fun h=>by rw [hset] at h; cases h),fun _=>⟨cs, ?_,hA2⟩⟩,fun h => ?_,fun h1 h2 => ?_,fun _=>⟨by rw [getD_set_ne d4]; exact hlj,by rw [getD_set_ne d2]; exact hl1⟩,Nat.le_trans J.lo hgrow.size⟩
     · rw [hoth j1 n4 d4];unfold slotOf;rw [e2];exact hsj
     · rw [getD_set_ne d3] at h;obtain ⟨g',q1,q2,q3,q4⟩:=J.p2 h;have hne:=J.ne hl1 h;rw [hg1,q1] at hne;refine ⟨g',by rw [hoth k2 n2 d3,q1],q2,Nat.lt_of_lt_of_le q3 hgrow.size,q4.kept hgrow ?_⟩;intro e;simp only [Option.some.injEq] at e;subst e;exact hne rfl
     · rw [getD_set_ne d3] at h2;rw [hoth k1 n1 d2,hoth k2 n2 d3];exact J.ne hl1 h2
   · have hE:Ext w' w2:=by
      rcases hres with hres|hres
      · unfold resultOf at hres;cases hty:(hdAt hs i).ty with
        | eq c=>rw [hty] at hres; rw [hres.1]; exact Ext.refl _
        | pr p =>
         rw [hty] at hres;simp only [hnm i hin his] at hres;exact hres.1
      · rw [hres]; exact Ext.refl _
     have hs1l:(listed.setIfInBounds i true).getD s1 false=listed.getD s1 false:=getD_set_ne (fun e=>his e.symm);have hset:(listed.setIfInBounds i true).getD i false=true:=by
      have:i<listed.size:=by rw [inv.size]; exact (Array.getElem?_eq_some_iff.1 ho).1
      simp [this]
     have hal:i=k1∨i=k2→slotOf l.toArray i (a'.put o.dst u) = .pointer (some ⟨w'.heap.size,0,none⟩)∧w2=w'.alloc (.cells zs.toArray T):=by
      intro hik;obtain ⟨hg,hds,hrun⟩:=hk i hik o ho;have:=hval (by unfold Region.wanted; rw [hg]);rw [hrun] at this;obtain ⟨e1,e2⟩:=this;cases hd:o.dst with
      | none=>rw [hd] at hds; cases hds
      | some d =>
       have:=hown d hd;rw [hd] at this;exact ⟨by rw [this,e1],e2⟩
     have old1:k1≠i→(listed.setIfInBounds i true).getD k1 false=true→∃ g,slotOf l.toArray k1 (a'.put o.dst u) = .pointer (some ⟨g,0,none⟩)∧w.heap.size≤g∧g<w'.heap.size∧((listed.setIfInBounds i true).getD s1 false=false→Arr w2 g T zs)∧((listed.setIfInBounds i true).getD s1 false=true→∃ cs:List Value,slotOf l.toArray j1 (a'.put o.dst u) = .agg cs.toArray∧Arr w2 g T cs):=by
      intro hne h;rw [getD_set_ne hne] at h;obtain ⟨g,q1,q2,q3,q4,q5⟩:=J.p1 h;refine ⟨g,by rw [hoth k1 n1 hne,q1],q2,q3,fun hf => ?_,fun ht => ?_⟩
      · rw [hs1l] at hf;exact (q4 hf).ext hE
      · rw [hs1l] at ht;obtain ⟨cs,r1,r2⟩:=q5 ht;have hij:j1≠i:=by
         rintro rfl;have:=(J.js ht).1;rw [hif] at this;cases this
        exact ⟨cs,by rw [hoth j1 n4 hij,r1],r2.ext hE⟩
     have old2:k2≠i→(listed.setIfInBounds i true).getD k2 false=true→∃ g,slotOf l.toArray k2 (a'.put o.dst u) = .pointer (some ⟨g,0,none⟩)∧w.heap.size≤g∧g<w'.heap.size∧Arr w2 g T zs:=by
      intro hne h;rw [getD_set_ne hne] at h;obtain ⟨g,q1,q2,q3,q4⟩:=J.p2 h;exact ⟨g,by rw [hoth k2 n2 hne,q1],q2,q3,q4.ext hE⟩
     refine ⟨fun h => ?_,fun h => ?_,fun h1 h2 => ?_,fun h => ?_,Nat.le_trans J.lo hE.size⟩
     · by_cases hi1:i=k1
       · subst hi1;obtain ⟨r1,r2⟩:=hal (Or.inl rfl);have hsn:listed.getD s1 false=false:=by
          cases hh:listed.getD s1 false with
          | false=>rfl
          | true=>have:=(J.js hh).2; rw [hif] at this; cases this
         refine ⟨w'.heap.size,r1,J.lo,by rw [r2]; simp,fun _=>by rw [r2]; exact Arr.new w' T zs,fun ht => ?_⟩;rw [hs1l,hsn] at ht;cases ht
       · obtain ⟨g,q1,q2,q3,q4,q5⟩:=old1 (fun e=>hi1 e.symm) h;exact ⟨g,q1,q2,Nat.lt_of_lt_of_le q3 hE.size,q4,q5⟩
     · by_cases hi2:i=k2
       · subst hi2;obtain ⟨r1,r2⟩:=hal (Or.inr rfl);exact ⟨w'.heap.size,r1,J.lo,by rw [r2]; simp,by rw [r2]; exact Arr.new w' T zs⟩
       · obtain ⟨g,q1,q2,q3,q4⟩:=old2 (fun e=>hi2 e.symm) h;exact ⟨g,q1,q2,Nat.lt_of_lt_of_le q3 hE.size,q4⟩
     · by_cases hi1:i=k1
       · subst hi1;obtain ⟨r1,_⟩:=hal (Or.inl rfl);obtain ⟨g,q1,_,q3,_⟩:=old2 (fun e=>d1 e.symm) h2;rw [r1,q1];simp only [ne_eq,Value.pointer.injEq,Option.some.injEq,Addr.mk.injEq,and_true];omega
       · by_cases hi2:i=k2
         · subst hi2;obtain ⟨r1,_⟩:=hal (Or.inr rfl);obtain ⟨g,q1,_,q3,_⟩:=old1 d1 h1;rw [r1,q1];simp only [ne_eq,Value.pointer.injEq,Option.some.injEq,Addr.mk.injEq,and_true];omega
         · rw [hoth k1 n1 (fun e=>hi1 e.symm),hoth k2 n2 (fun e=>hi2 e.symm)];rw [getD_set_ne (fun e=>hi1 e.symm)] at h1;rw [getD_set_ne (fun e=>hi2 e.symm)] at h2;exact J.ne h1 h2
     · rw [hs1l] at h;obtain ⟨q1,q2⟩:=J.js h;constructor
       · by_cases hij:j1=i
         · rw [hij]; exact hset
         · rw [getD_set_ne hij]; exact q1
       · by_cases hij:k1=i
         · rw [hij]; exact hset
         · rw [getD_set_ne hij]; exact q2
 · intro w' hC';have h0:=hend w' hC';revert h0;have key:∀ (os:List Oper) (r:List Hd) (b:Act) (K K':Act→Prop),(∀ x,K x→K' x)→After w' K os r b→After w' K' os r b:=by
    intro os
    induction os with
    | nil=>intro r b K K' hKK h; cases r <;> exact hKK _ h
    | cons o os ih =>
     intro r b K K' hKK h;cases r with
     | nil=>exact hKK _ h
     | cons hd r =>
      simp only [After] at h ⊢;cases hty:hd.ty with
      | eq c=>rw [hty] at h; simp only at h ⊢; exact ih r _ K K' hKK h
      | pr p =>
       rw [hty] at h;simp only at h ⊢;cases hc:hd.cons with
       | none=>rw [hc] at h; simp only at h ⊢; exact fun v hv=>ih r _ K K' hKK (h v hv)
       | some k=>rw [hc] at h; simp only at h ⊢; exact fun v=>ih r _ K K' hKK (h v)
   refine key l hs a _ _ fun a' h0 J=>h0 ?_;have hall:∀ j,j<hs.length→((Array.range l.toArray.size).map (fun j=>decide (j<hs.length))).getD j false=true:=by
    intro j hj;have hsz:hs.length≤l.toArray.size:=by
     have:=hok;unfold regionOk2 at this;simp only [Bool.and_eq_true,List.length_map,decide_eq_true_eq] at this;exact this.1.1.1
    have:j<l.toArray.size:=by omega
    simp only [Array.getD_eq_getD_getElem?,Array.getElem?_map,Array.getElem?_range,this,if_true,Option.map_some,Option.getD_some,decide_eq_true_eq];exact hj
   obtain ⟨n1,n2,n3,n4⟩:=hn;obtain ⟨g1,q1,q2,_,_,q5⟩:=J.p1 (hall k1 n1);obtain ⟨g2,r1,r2,_,r4⟩:=J.p2 (hall k2 n2);obtain ⟨cs,t1,t2⟩:=q5 (hall s1 n3);refine ⟨g1,g2,cs,q1,r1,q2,r2, ?_,t1,t2,r4⟩;have:=J.ne (hall k1 n1) (hall k2 n2);rw [q1,r1] at this;intro e;subst e;exact this rfl
end
theorem neg_pow (a:Nat):∀ e:Nat,(-(a:Int))^e=if e%2=1 then -((a^e:Nat):Int) else ((a^e:Nat):Int)
 | 0=>by simp
 | e+1=>by
  rw [Int.pow_succ,neg_pow a e];by_cases h:e%2=1
  · rw [if_pos h,if_neg (by omega),Nat.pow_succ]; push_cast; grind
  · rw [if_neg h,if_pos (by omega),Nat.pow_succ]; push_cast; grind
theorem sg_pow {z:Int} {e:Nat} {s:Bool} (hs:decide (z<0)=s):z^e=if (s && decide (e%2=1))=true then -((z.natAbs^e:Nat):Int) else ((z.natAbs^e:Nat):Int):=by
 subst hs;by_cases h:z<0
 · have h0:z = -(z.natAbs:Int):=by omega
   have h1:=neg_pow z.natAbs e;rw [←h0] at h1;rw [h1];simp [h]
 · have h0:z=(z.natAbs:Int):=by omega
   have h1:z^e=((z.natAbs^e:Nat):Int):=by rw [Int.natCast_pow,←h0]
   rw [h1];simp [h]
theorem int_Pow {v:Value} {z:Int} {e:Nat} {w:World} (h:IntR w v z) (bz:z.natAbs<P2 2496) (he:e<18446744073709551616) (hb:z.natAbs^e<P2 4990):Calls Tryz.prog 97 #[v, .int .u64 e] w (RetI w (z^e)):=by
 obtain ⟨s,a,n,c,rfl,HS,hx⟩:=h;have hpw:=fun (wx:World) (hC:Ext w wx)=>qh (int_powerWords (hx.ext hC) bz he hb);have hand:bits BinOp.and IntKind.u64 (e:Int) 1=((e%2:Nat):Int):=by
  have:=bits_and_u64_nat e 1 he (by omega);rw [Nat.and_one_is_mod] at this;exact this
 have HPW:=qh (sg_pow (e:=e) HS.out);clear bz hb;obtain ⟨x,hxe⟩:∃ x,z.natAbs^e=x:=⟨_,rfl⟩;rw [hxe] at HPW;have hpw':=fun (wx:World) (hC:Ext w wx)=>by have:=hpw wx hC; rw [hxe] at this; exact this
 clear hpw hxe;cases s with
 | true =>
  by_cases hodd:e%2=1
  · rw [hodd] at hand;have HP2:Hid (z^e=if true=true then -(x:Int) else (x:Int)):=by show _=_; have:=HPW.out; simpa [hodd] using this
    clear HPW hodd
    go_enter Tryz.func97,Tryz.ntmps97
    go_upto_region 1 with (fail)
    refine box2 ?_;intro w0 hE0 hB0 hB1 hz0;have p00:=hB0.c 0 rfl;have p01:=hB0.c 1 rfl;have hR:Arr w0 (w.heap.size+1) 90 (intL false none 0 0):=hB1;clear hz0
    go_wp2_with fail
    refine (hpw' _ hE0).out.mono ?_;rintro e2 w1 ⟨a2,n2,c2,rfl,hE1,hp⟩;have hsg:=qh (int_signed (neg:=true) hp HP2.out)
    go_wp2_with fail
    refine hsg.out.mono ?_;rintro e2 w2 ⟨s1,a1,n1,c1,rfl,hE2,HS1,hx1⟩;have hR1:=(hR.ext hE1).ext hE2
    go_wp2_with (refine wl_stArr (vs:=intL s1 a1 n1 c1) rfl rfl rfl rfl rfl agg_Int hR1 rfl (intL_one _ _ _ _) ?_; intro w9 hB9 hg9)
    exact bodyPost_ret (res_arr rfl agg_Int rfl hB9) rfl (retI_of ((hE0.trans hE1).trans hE2) hR1 (intL_nu _ _ _ _) hg9 (by omega) HS1 hx1)
  · have h0:e%2=0:=by omega
    rw [h0] at hand;have HP2:Hid (z^e=if false=true then -(x:Int) else (x:Int)):=by show _=_; have:=HPW.out; simpa [h0] using this
    clear HPW hodd h0
    go_enter Tryz.func97,Tryz.ntmps97
    go_upto_region 1 with (fail)
    refine box2 ?_;intro w0 hE0 hB0 hB1 hz0;have p00:=hB0.c 0 rfl;have p01:=hB0.c 1 rfl;have hR:Arr w0 (w.heap.size+1) 90 (intL false none 0 0):=hB1;clear hz0
    go_wp2_with fail
    refine (hpw' _ hE0).out.mono ?_;rintro e2 w1 ⟨a2,n2,c2,rfl,hE1,hp⟩;have hsg:=qh (int_signed (neg:=false) hp HP2.out)
    go_wp2_with fail
    refine hsg.out.mono ?_;rintro e2 w2 ⟨s1,a1,n1,c1,rfl,hE2,HS1,hx1⟩;have hR1:=(hR.ext hE1).ext hE2
    go_wp2_with (refine wl_stArr (vs:=intL s1 a1 n1 c1) rfl rfl rfl rfl rfl agg_Int hR1 rfl (intL_one _ _ _ _) ?_; intro w9 hB9 hg9)
    exact bodyPost_ret (res_arr rfl agg_Int rfl hB9) rfl (retI_of ((hE0.trans hE1).trans hE2) hR1 (intL_nu _ _ _ _) hg9 (by omega) HS1 hx1)
 | false =>
  have HP2:Hid (z^e=if false=true then -(x:Int) else (x:Int)):=by show _=_; have:=HPW.out; simpa using this
  clear HPW hand
  go_enter Tryz.func97,Tryz.ntmps97
  go_upto_region 1 with (fail)
  refine box2 ?_;intro w0 hE0 hB0 hB1 hz0;have p00:=hB0.c 0 rfl;have p01:=hB0.c 1 rfl;have hR:Arr w0 (w.heap.size+1) 90 (intL false none 0 0):=hB1;clear hz0
  go_wp2_with fail
  refine (hpw' _ hE0).out.mono ?_;rintro e2 w1 ⟨a2,n2,c2,rfl,hE1,hp⟩;have hsg:=qh (int_signed (neg:=false) hp HP2.out)
  go_wp2_with fail
  refine hsg.out.mono ?_;rintro e2 w2 ⟨s1,a1,n1,c1,rfl,hE2,HS1,hx1⟩;have hR1:=(hR.ext hE1).ext hE2
  go_wp2_with (refine wl_stArr (vs:=intL s1 a1 n1 c1) rfl rfl rfl rfl rfl agg_Int hR1 rfl (intL_one _ _ _ _) ?_; intro w9 hB9 hg9)
  exact bodyPost_ret (res_arr rfl agg_Int rfl hB9) rfl (retI_of ((hE0.trans hE1).trans hE2) hR1 (intL_nu _ _ _ _) hg9 (by omega) HS1 hx1)
def as64 (z:Int):Value:=if -9223372036854775808≤z∧z≤9223372036854775807 then .tuple #[.int .i64 z, .bool true] else .tuple #[.int .i64 0, .bool false]
theorem as64_in {z:Int} (h : -9223372036854775808≤z∧z≤9223372036854775807):as64 z = .tuple #[.int .i64 z, .bool true]:=if_pos h
theorem as64_out {z:Int} (h:¬ (-9223372036854775808≤z∧z≤9223372036854775807)):as64 z = .tuple #[.int .i64 0, .bool false]:=if_neg h
theorem int_Int64 {v:Value} {z:Int} {w:World} (h:IntR w v z):Calls Tryz.prog 104 #[v] w fun e w'=>e = .returned (as64 z)∧Ext w w':=by
 obtain ⟨s,a,n,c,rfl,HS,hx⟩:=h;have hn0:=hx.zero;rcases Nat.lt_or_ge n 2 with hn2|hn2
 · by_cases hn:n=0
   · have HZ:Hid (as64 z = .tuple #[.int .i64 0, .bool true]):=by
      have h0:z=0:=by have:=hn0.1 hn; omega
      rw [h0];exact qh (as64_in (by omega))
     subst hn;clear hn0 hn2
     go_enter Tryz.func104,Tryz.ntmps104
     go_upto_region 1 with (fail)
     refine box1 ?_;intro w0 hE0 hB0 hz0;have p00:=hB0.c 0 rfl;have p01:=hB0.c 1 rfl;clear hz0;go_wp2
     go_ret2
     exact ⟨by rw [HZ.out]; rfl,hE0⟩
   · have hn1:n=1:=by omega
     subst hn1;obtain ⟨b,o,rfl,hc,k1,k2⟩:=hx.one;have hx1:(z.natAbs:Int)=if s=true then -z else z:=by have:=HS.out; cases s <;> simp at this ⊢ <;> omega
     clear hn0 hn hn2;cases s with
     | true =>
      simp only [if_true] at hx1;by_cases hr:z.natAbs≤9223372036854775808
      · have HZ:=qh (as64_in (z:=z) (by omega));have hwr:IntKind.i64.wrap (IntKind.u64.wrap (-(z.natAbs:Int)))=z:=by rw [IntKind.wrap_u64,IntKind.wrap_i64]; omega
        have hle:(z.natAbs:Int)≤9223372036854775808:=by omega
        generalize z.natAbs=x at *
        clear hr hx1
        go_enter Tryz.func104,Tryz.ntmps104
        go_upto_region 1 with (fail)
        refine box1 ?_;intro w0 hE0 hB0 hz0;have p00:=hB0.c 0 rfl;have p01:=hB0.c 1 rfl;have hc0:=hE0.cell hc;clear hc;clear hz0;go_wp2
        go_ret2
        exact ⟨by rw [HZ.out,←hwr]; rfl,hE0⟩
      · have HZ:=qh (as64_out (z:=z) (by omega));have hle:¬ ((z.natAbs:Int)≤9223372036854775808):=by omega
        generalize z.natAbs=x at *
        clear hr hx1
        go_enter Tryz.func104,Tryz.ntmps104
        go_upto_region 1 with (fail)
        refine box1 ?_;intro w0 hE0 hB0 hz0;have p00:=hB0.c 0 rfl;have p01:=hB0.c 1 rfl;have hc0:=hE0.cell hc;clear hc;clear hz0;go_wp2
        go_ret2
        exact ⟨by rw [HZ.out]; rfl,hE0⟩
     | false =>
      simp only [Bool.false_eq_true,if_false] at hx1;by_cases hr:z.natAbs≤9223372036854775807
      · have HZ:=qh (as64_in (z:=z) (by omega));have hwr:IntKind.i64.wrap (z.natAbs:Int)=z:=by rw [IntKind.wrap_i64]; omega
        have hle:(z.natAbs:Int)≤9223372036854775807:=by omega
        generalize z.natAbs=x at *
        clear hr hx1
        go_enter Tryz.func104,Tryz.ntmps104
        go_upto_region 1 with (fail)
        refine box1 ?_;intro w0 hE0 hB0 hz0;have p00:=hB0.c 0 rfl;have p01:=hB0.c 1 rfl;have hc0:=hE0.cell hc;clear hc;clear hz0;go_wp2
        go_ret2
        exact ⟨by rw [HZ.out,←hwr]; rfl,hE0⟩
      · have HZ:=qh (as64_out (z:=z) (by omega));have hle:¬ ((z.natAbs:Int)≤9223372036854775807):=by omega
        generalize z.natAbs=x at *
        clear hr hx1
        go_enter Tryz.func104,Tryz.ntmps104
        go_upto_region 1 with (fail)
        refine box1 ?_;intro w0 hE0 hB0 hz0;have p00:=hB0.c 0 rfl;have p01:=hB0.c 1 rfl;have hc0:=hE0.cell hc;clear hc;clear hz0;go_wp2
        go_ret2
        exact ⟨by rw [HZ.out]; rfl,hE0⟩
 · have hbig:=hx.big hn2;have HZ:=qh (as64_out (z:=z) (by omega));obtain ⟨xs,h1,h2⟩:=hx;obtain ⟨b,o,rfl,hcc⟩:=h1.at (j:=0) (by omega);have hc:=hcc 0 (by omega);rw [Nat.add_zero] at hc;have hnb:((n:Int) == 0)=false:=by simp; omega
   have hgt:(1:Int)<(n:Int):=by omega
   generalize xs.getD 0 0=x at *
   clear hbig hn0 hcc
   go_enter Tryz.func104,Tryz.ntmps104
   go_upto_region 1 with (fail)
   refine box1 ?_;intro w0 hE0 hB0 hz0;have p00:=hB0.c 0 rfl;have p01:=hB0.c 1 rfl;have hc0:=hE0.cell hc;clear hc;clear hz0;go_wp2
   go_ret2
   exact ⟨by rw [HZ.out]; rfl,hE0⟩
def byteV (b:UInt8):Value := .int .u8 (b.toNat:Int)
def strL (s:ByteArray):List UInt8:=s.data.toList
theorem strL_len (s:ByteArray):(strL s).length=s.size:=by unfold strL; rw [Array.length_toList]; rfl
theorem strL_mk (l:List UInt8):strL ⟨l.toArray⟩=l:=rfl
theorem str_ext {s t:ByteArray} (h:strL s=strL t):s=t:=by
 cases s with | mk a=>cases t with | mk b =>
 unfold strL at h;simp only at h;have:=Array.ext' h;rw [this]
theorem strL_extract (s:ByteArray) (i j:Nat):strL (s.extract i j)=((strL s).drop i).take (j-i):=by
 unfold strL;rw [ByteArray.data_extract,Array.toList_extract]
theorem byteV_one (l:List UInt8):∀ v∈l.map byteV,v.oneCell'=true:=by
 intro v hv;obtain ⟨b,_,rfl⟩:=List.mem_map.1 hv;rfl
section
variable {P:Program} {w:World}
theorem run_toBytes {src dst e:TypeId} {s:ByteArray} {u:TypeDesc} (hs:P.underlying src=some u) (hd:P.underlying dst=some (.slice e)) (he:P.underlying e=some (.int .u8)) (hm:s.size≤maxLen) :
 ∃ c w',(convert src dst (.string s)).run P w = .ok (.slice (some ⟨w.heap.size,0,none⟩) s.size c) w'∧Ext w w'∧Sl w' (some ⟨w.heap.size,0,none⟩) s.size c ((strL s).map byteV):=by
 refine ⟨_,_,Lib.run_convert_string_bytes w src dst e s hs hd he, ?_, ?_⟩
 · refine ⟨rfl,rfl,rfl,by rw [Lib.bytesWorld_size]; omega,fun k hk=>Lib.bytesWorld_at_old w e s k hk⟩
 · refine ⟨by rw [List.length_map,strL_len],grownCap_ge w s.size 0 e,grownCap_le_maxLen w s.size 0 e hm,fun _=>⟨w.heap.size,0,rfl,fun i hi => ?_⟩⟩;rw [Nat.zero_add,Lib.bytesWorld_cell w e s i hi];have h1:i<(strL s).length:=by rw [strL_len]; exact hi
   have h2:s.data.toList.getD i 0=(strL s)[i]:=by
    show (strL s).getD i 0=_;rw [List.getD_eq_getElem?_getD,List.getElem?_eq_getElem h1];rfl
   rw [h2];simp [List.getD_eq_getElem?_getD,h1,byteV]
theorem wl_toBytes {ops:Array Oper} {rest:List Oper} {o:Oper} {f:Act} {Q:Exit→Act→World→Prop} {x:Operand} {src dst:TypeId} (hgd:o.guard=none) (ho:o.op = .convert src dst x)
 {e:TypeId} {s:ByteArray} {u:TypeDesc} (hs:P.underlying src=some u) (hd:P.underlying dst=some (.slice e)) (he:P.underlying e=some (.int .u8)) (hx:f.eval x = .string s) (hm:s.size≤maxLen)
 (hK:∀ c w',Ext w w'→Sl w' (some ⟨w.heap.size,0,none⟩) s.size c ((strL s).map byteV)→wpList P ops Q rest (f.put o.dst (.slice (some ⟨w.heap.size,0,none⟩) s.size c)) w'):wpList P ops Q (o :: rest) f w:=by
 refine wpList_plain hgd fun K hK' => ?_;obtain ⟨c,w',hrun,h2,h3⟩:=run_toBytes (P:=P) (w:=w) hs hd he hm;unfold Oper.wp execOp;simp only [ho,hx,Sem.run_bind,hrun,Result.andThen_ok,Sem.run_pure,Oper.upon];exact hK' _ _ (hK c w' h2 h3)
theorem run_fromBytes {src dst e:TypeId} {a:Option Addr} {n c:Nat} {l:List UInt8} (hs:P.underlying src=some (.slice e)) (he:P.underlying e=some (.int .u8)) (hd:P.underlying dst=some .string) (hl:Sl w a n c (l.map byteV)) :
 (convert src dst (.slice a n c)).run P w = .ok (.string ⟨l.toArray⟩) w:=by
 have hn:n=l.length:=by have:=hl.len; simpa using this.symm
 subst hn;cases a with
 | none =>
  have h0:l=[]:=by
   rcases Nat.eq_zero_or_pos l.length with h|h
   · exact List.eq_nil_of_length_eq_zero h
   · obtain ⟨b,o,h1,_⟩:=hl.rd h;cases h1
  subst h0;show (convert src dst (.slice none 0 c)).run P w=_;rw [run_convert_bytes_string w src dst e none 0 c hs he hd];simp [Conv.bytesToString];rfl
 | some ad =>
  refine run_convert_bytes_back w src dst e ad c l hs he hd fun j hj => ?_;obtain ⟨b,o,h1,hc⟩:=hl.rd (by omega);simp only [Option.some.injEq] at h1;subst h1;have h2:=hc j hj;have h3:(l.map byteV).getD j undef = .int .u8 (l[j].toNat:Int):=by simp [List.getD_eq_getElem?_getD,hj,byteV]
  rw [h3] at h2;rw [←h2];unfold Addr.add;by_cases h0:j=0 <;> simp [h0]
theorem wl_fromBytes {ops:Array Oper} {rest:List Oper} {o:Oper} {f:Act} {Q:Exit→Act→World→Prop} {x:Operand} {src dst:TypeId} (hgd:o.guard=none) (ho:o.op = .convert src dst x)
 {e:TypeId} {a:Option Addr} {n c:Nat} {l:List UInt8} (hs:P.underlying src=some (.slice e)) (he:P.underlying e=some (.int .u8)) (hd:P.underlying dst=some .string) (hx:f.eval x = .slice a n c) (hl:Sl w a n c (l.map byteV))
 (hK:wpList P ops Q rest (f.put o.dst (.string ⟨l.toArray⟩)) w):wpList P ops Q (o :: rest) f w:=by
 refine wpList_plain hgd fun K hK' => ?_;have hrun:=run_fromBytes (P:=P) (w:=w) hs he hd hl;unfold Oper.wp execOp;simp only [ho,hx,Sem.run_bind,hrun,Result.andThen_ok,Sem.run_pure,Oper.upon];exact hK' _ _ hK
end
end Go.Proofs.YtlpgonpfjbhmfaaGreatDoor
namespace Go.Proofs.YtlpgonpfjbhmfaaGreatDoor.W
open Go
def decV (l:List UInt8):Nat:=l.foldl (fun n c=>10*n+(c.toNat-48)) 0
def isDig (c:UInt8):Prop:=48≤c.toNat∧c.toNat≤57
def digs (l:List UInt8):Prop:=∀ c∈l,isDig c
theorem decV_snoc (l:List UInt8) (c:UInt8):decV (l ++ [c])=10*decV l+(c.toNat-48):=by simp [decV]
theorem foldl_shift:∀ (l:List UInt8) (n:Nat),l.foldl (fun n c=>10*n+(c.toNat-48)) n=n*10^l.length+decV l
 | [],n=>by simp [decV]
 | c :: r,n=>by
  have h1:=foldl_shift r (10*n+(c.toNat-48));have h2:=foldl_shift r (10*0+(c.toNat-48));have h3:decV (c :: r)=r.foldl (fun n c=>10*n+(c.toNat-48)) (10*0+(c.toNat-48)):=rfl;rw [List.foldl_cons,h1,h3,h2,List.length_cons,Nat.pow_succ]
  grind
theorem decV_app (a b:List UInt8):decV (a ++ b)=decV a*10^b.length+decV b:=by
 have:decV (a ++ b)=b.foldl (fun n c=>10*n+(c.toNat-48)) (decV a):=by simp [decV]
 rw [this,foldl_shift]
theorem decV_cons (c:UInt8) (r:List UInt8):decV (c :: r)=(c.toNat-48)*10^r.length+decV r:=by
 have:=decV_app [c] r;simpa [decV] using this
theorem decV_lt:∀ {l:List UInt8},digs l→decV l<10^l.length
 | [],_=>by simp [decV]
 | c :: r,h=>by
  have h1:=decV_lt (l:=r) (fun x hx=>h x (by simp [hx]));have h2:=h c (by simp);rw [decV_cons,List.length_cons,Nat.pow_succ];have h3:(c.toNat-48)*10^r.length≤9*10^r.length:=Nat.mul_le_mul_right _ (by have:=h2.2; omega);omega
theorem toNat_ofNat {n:Nat} (h:n<256):(UInt8.ofNat n).toNat=n:=by simp; omega
theorem digs_dec (n:Nat):digs (Lib.decDigits n):=by
 induction n using Nat.strongRecOn with
 | _ n ih =>
  rw [Lib.decDigits];split
  · intro c hc;simp only [List.mem_singleton] at hc;subst hc;unfold isDig;rw [toNat_ofNat (by omega)];omega
  · intro c hc;rcases List.mem_append.1 hc with h|h
    · exact ih (n/10) (by omega) c h
    · simp only [List.mem_singleton] at h;subst h;unfold isDig;rw [toNat_ofNat (by omega)];omega
theorem decV_dec (n:Nat):decV (Lib.decDigits n)=n:=by
 induction n using Nat.strongRecOn with
 | _ n ih =>
  rw [Lib.decDigits];split
  · simp only [decV,List.foldl];rw [toNat_ofNat (by omega)];omega
  · rw [decV_snoc,ih (n/10) (by omega),toNat_ofNat (by omega)];omega
theorem dec_ne (n:Nat):Lib.decDigits n≠[]:=by
 rw [Lib.decDigits];split <;> simp
theorem dec_zero:Lib.decDigits 0=[48]:=by rw [Lib.decDigits]; rfl
theorem dec_head {n:Nat} (h:0<n):∃ c r,Lib.decDigits n=c :: r∧c≠48:=by
 induction n using Nat.strongRecOn with
 | _ n ih =>
  rw [Lib.decDigits];split
  · refine ⟨_,[],rfl,fun hc => ?_⟩;have:=congrArg UInt8.toNat hc;rw [toNat_ofNat (by omega)] at this;simp at this;omega
  · obtain ⟨c,r,e,hc⟩:=ih (n/10) (by omega) (by omega);exact ⟨c,r ++ [UInt8.ofNat (48+n%10)],by rw [e]; rfl,hc⟩
theorem dig_back {c:UInt8} (h:isDig c):UInt8.ofNat (48+(c.toNat-48))=c:=by
 apply UInt8.toNat_inj.1;rw [toNat_ofNat (by have:=h.2; omega)];have:=h.1;omega
theorem dec_of_digs:∀ {l:List UInt8} (_:digs l) (_:l≠[]) (_:∀ c r,l=c :: r→c=48→r=[]),Lib.decDigits (decV l)=l:=by
 intro l
 induction h:l.length using Nat.strongRecOn generalizing l with
 | _ n ih =>
  intro hd hne hz;obtain ⟨a,c,rfl⟩:∃ a c,l=a ++ [c]:=⟨l.dropLast,l.getLast hne,(List.dropLast_concat_getLast hne).symm⟩;have hc:isDig c:=hd c (by simp);by_cases ha:a=[]
  · subst ha;have e:decV ([] ++ [c])=c.toNat-48:=by simp [decV]
    rw [e,Lib.decDigits,dif_pos (by have:=hc.2; omega),dig_back hc];rfl
  · have hda:digs a:=fun x hx=>hd x (by simp [hx]);have hza:∀ c' r,a=c' :: r→c'=48→r=[]:=by
     intro c' r e e0;subst e;have:=hz c' (r ++ [c]) rfl e0;simp at this
    have ih':=ih a.length (by rw [←h]; simp) rfl hda ha hza;have hpos:0<decV a:=by
     rcases Nat.eq_zero_or_pos (decV a) with h0|h0
     · rw [h0,dec_zero] at ih';have:=hz 48 [c] (by rw [←ih']; rfl) rfl;simp at this
     · exact h0
    rw [decV_snoc,Lib.decDigits,dif_neg (by omega)];have h1:(10*decV a+(c.toNat-48))/10=decV a:=by have:=hc.2; omega
    have h2:(10*decV a+(c.toNat-48))%10=c.toNat-48:=by have:=hc.2; omega
    rw [h1,h2,ih',dig_back hc]
def decPad (k n:Nat):List UInt8:=List.replicate (k-(Lib.decDigits n).length) 48 ++ Lib.decDigits n
theorem decV_zeros:∀ k,decV (List.replicate k 48)=0
 | 0=>rfl
 | k+1=>by rw [List.replicate_succ',decV_snoc,decV_zeros k]; rfl
theorem dec_len {n k:Nat} (h:n<10^k) (hk:0<k):(Lib.decDigits n).length≤k:=by
 induction n using Nat.strongRecOn generalizing k with
 | _ n ih =>
  rw [Lib.decDigits];split
  · simp; omega
  · have:2≤k:=by
     rcases Nat.lt_or_ge k 2 with h2|h2
     · have:k=1:=by omega
       subst this;omega
     · exact h2
    have h3:=ih (n/10) (by omega) (k:=k-1) (by
     rw [Nat.div_lt_iff_lt_mul (by omega),←Nat.pow_succ,show (k-1).succ=k by omega]
     exact h) (by omega)
    simp;omega
theorem decPad_len {k n:Nat} (h:n<10^k) (hk:0<k):(decPad k n).length=k:=by
 have:=dec_len h hk;simp [decPad];omega
theorem dec_split {k a b:Nat} (ha:0<a) (hb:b<10^k) (hk:0<k):Lib.decDigits (a*10^k+b)=Lib.decDigits a ++ decPad k b:=by
 have hd:digs (Lib.decDigits a ++ decPad k b):=by
  intro c hc;rcases List.mem_append.1 hc with h|h
  · exact digs_dec a c h
  · rcases List.mem_append.1 h with h|h
    · rw [(List.mem_replicate.1 h).2]; exact ⟨by decide,by decide⟩
    · exact digs_dec b c h
 have hv:decV (Lib.decDigits a ++ decPad k b)=a*10^k+b:=by
  rw [decV_app,decV_dec,decPad_len hb hk];unfold decPad;rw [decV_app,decV_zeros,decV_dec];omega
 obtain ⟨c,r,e,hc⟩:=dec_head ha;rw [←hv];refine dec_of_digs hd (by rw [e]; simp) ?_;intro c' r' e' e0;rw [e] at e';simp only [List.cons_append,List.cons.injEq] at e';exact absurd (e'.1.trans e0) hc
end Go.Proofs.YtlpgonpfjbhmfaaGreatDoor.W
namespace Go.Proofs.YtlpgonpfjbhmfaaGreatDoor
open Go Go.RowKit
theorem nrm_of_ge {B:Nat} {zs:List Nat} {n:Nat} (hl:zs.length=n+1) (hb:W.bnd B zs) (hv:B^n≤W.val B zs):W.nrm zs:=by
 intro hne h0;rw [List.getLast_eq_getElem] at h0;have h1:=val_last (B:=B) hl;have h2:=take_lt hb (m:=n) (by omega);have h3:zs.getD n 0=zs[zs.length-1]'(by omega):=by
  have:zs.length-1=n:=by omega
  simp [List.getD_eq_getElem?_getD,this,show n<zs.length by omega]
 rw [h3,h0,Nat.zero_mul,Nat.zero_add] at h1;omega
theorem chunk_lt {l:List UInt8} (hd:W.digs l) (hl:l.length≤19):W.decV l<10000000000000000000:=by
 have h1:=W.decV_lt hd;have h2:10^l.length≤10^19:=Nat.pow_le_pow_right (by omega) hl;omega
theorem take_digs {l:List UInt8} (hd:W.digs l) (k:Nat):W.digs (l.take k):=fun c hc=>hd c (List.mem_of_mem_take hc)
theorem drop_digs {l:List UInt8} (hd:W.digs l) (k:Nat):W.digs (l.drop k):=fun c hc=>hd c (List.mem_of_mem_drop hc)
theorem mulp_step {B:Nat} {zs xs:List Nat} {k d u c c' V:Nat} (hk:k<zs.length) (hx:k<xs.length) (h:W.val B (zs.take k)+c*B^k=u*W.val B (xs.take k)+V) (e:d+B*c'=xs.getD k 0*u+c) :
 W.val B ((zs.set k d).take (k+1))+c'*B^(k+1)=u*W.val B (xs.take (k+1))+V:=by
 have e1:W.val B ((zs.set k d).take (k+1))=W.val B (zs.take k)+B^k*d:=by
  rw [W.val_take_succ (by simpa using hk)];congr 1
  · rw [List.take_set_of_le (Nat.le_refl _)]
  · simp [List.getD_eq_getElem?_getD,hk]
 rw [e1,W.val_take_succ hx,Nat.pow_succ];have e2:B^k*(d+B*c')=B^k*(xs.getD k 0*u+c):=by rw [e]
 grind
theorem int_parseSimple {s:ByteArray} {w:World} (hd:W.digs (strL s)) (hs:s.size≤600) :
 Calls Tryz.prog 173 #[.string s] w (RetW w (W.decV (strL s))):=by
 have HD:=qh hd;clear hd
 go_enter Tryz.func173,Tryz.ntmps173
 go_wp2
 go_loopw [0,3] (fun dv xv wr=>∃ (j:Nat) (t:ByteArray) (a:Option Addr) (n c:Nat) (xs:List Nat),dv = .string t∧xv = .slice a n c∧j≤s.size∧Hid (strL t=(strL s).drop j)∧t.size+j=s.size∧n≤j∧Ext w wr∧Own wr w.heap.size 143 a n c (xs.map (natV .u64))∧Hid (Num 18446744073709551616 xs (W.decV ((strL s).take j)))) (fun dv _ _=>match dv with | .string t=>t.size | _=>0)
 case atStart=>exact ⟨0,s,none,0,0,[],rfl,rfl,Nat.zero_le _,qh rfl,by omega,by omega,Ext.refl w,Own.nil _ _ _,qh (Num.nil _)⟩
 case round =>
  obtain ⟨j,t,a,n,c,xs,rfl,rfl,hj,HT,hts,hnj,hE,hO,HN⟩:=hrel;by_cases h0:t.size=0
  · have HF:Hid (Num 18446744073709551616 xs (W.decV (strL s))):=by
     have h1:=HN.out;rw [List.take_of_length_le (by rw [strL_len]; omega)] at h1;exact qh h1
    have hgt:¬ (0:Int)<(t.size:Int):=by omega
    clear h0;go_wp2;go_ret;exact ⟨a,n,c,rfl,hE,xs,hO.sl,HF.out⟩
  · have hgt:(0:Int)<(t.size:Int):=by omega
    obtain ⟨z,hz⟩:∃ z,(t.size-1)%19+1=z:=⟨_,rfl⟩;have hz1:1≤z:=by omega
    have hz2:z≤19:=by omega
    have hz3:z≤t.size:=by omega
    have hw1:IntKind.i64.wrap ((t.size:Int)-1)=((t.size-1:Nat):Int):=by rw [show (t.size:Int)-1=((t.size-1:Nat):Int) by omega]; exact IntWalk.i64_in _ (by omega)
    have hw2:((t.size-1:Nat):Int).tmod 19=(((t.size-1)%19:Nat):Int):=by rw [Int.tmod_eq_emod_of_nonneg (by omega)]; omega
    have hw2':((t.size-1:Nat):Int)%19=(((t.size-1)%19:Nat):Int):=by omega
    have hw3:IntKind.i64.wrap ((((t.size-1)%19:Nat):Int)+1)=(z:Int):=by rw [show (((t.size-1)%19:Nat):Int)+1=(z:Int) by omega]; exact IntWalk.i64_in _ (by omega)
    clear hz;generalize (t.size-1)%19=z0 at *
    generalize t.size-1=t1 at *
    have hzi:(z:Int)≤(t.size:Int):=by omega
    go_upto_region 6 with (refine wl_toBytes rfl rfl Tryz.underlying9 Tryz.underlying154 Tryz.underlying5 rfl (by unfold maxLen; simp; omega) ?_; intro cb w1 hE1 hS1)
    have hcl:strL (t.extract 0 z)=((strL s).drop j).take z:=by rw [strL_extract,HT.out,List.drop_zero,Nat.sub_zero]
    have hcd:W.digs (strL (t.extract 0 z)):=by rw [hcl]; exact take_digs (drop_digs HD.out j) z
    have hcz:(strL (t.extract 0 z)).length=z:=by rw [hcl,List.length_take,List.length_drop,strL_len]; omega
    have HCL:=qh hcl;clear hcl;have hxz:(t.extract 0 z).size=z:=by simp; omega
    rw [hxz] at hS1;clear hxz;generalize strL (t.extract 0 z)=cl at *
    have HCD:=qh hcd;have HCZ:=qh hcz;clear hcd hcz hw1 hw2 hw2' hw3
    go_loop [5,6,25] (fun cv bv iv=>∃ (k ch P:Nat),k≤z∧cv = .int .u64 ch∧bv = .int .u64 P∧iv = .int .i64 k∧ch<10000000000000000000∧P≤10000000000000000000∧Hid (W.decV (cl.take k)=ch∧10^k=P)) (fun _ _ iv=>z-(intOf iv).toNat)
    case atStart=>exact ⟨0,0,1,Nat.zero_le _,rfl,rfl,rfl,by omega,by omega,qh ⟨rfl,rfl⟩⟩
    case round =>
     obtain ⟨k,ch,P,hk,rfl,rfl,rfl,hch,hP,HCH⟩:=hrel;by_cases hlt:k<z
     · obtain ⟨b1,o1,hb1,hcell⟩:=hS1.rd (by omega);simp only [Option.some.injEq,Addr.mk.injEq,and_true] at hb1;obtain ⟨hb1,ho1⟩:=hb1;have g1:=hcell k hlt;rw [←hb1,←ho1,Nat.zero_add] at g1;have hkl:k<cl.length:=by rw [HCZ.out]; exact hlt
       have e1:(cl.map byteV).getD k undef = .int .u8 ((cl[k].toNat:Nat):Int):=by simp [List.getD_eq_getElem?_getD,hkl,byteV]
       rw [e1] at g1;have hdg:=HCD.out cl[k] (List.getElem_mem hkl);have htk:cl.take (k+1)=cl.take k ++ [cl[k]]:=List.take_succ_eq_append_getElem hkl;have hnew:W.decV (cl.take (k+1))=10*ch+(cl[k].toNat-48):=by rw [htk,W.decV_snoc,HCH.out.1]
       have hnl:=chunk_lt (take_digs HCD.out (k+1)) (by rw [List.length_take,HCZ.out]; omega);have hpn:10^(k+1)≤10^19:=Nat.pow_le_pow_right (by omega) (by omega);rw [Nat.pow_succ,HCH.out.2] at hpn;rw [hnew] at hnl;have HNEW:=qh hnew;have HCH2:Hid (10^(k+1)=P*10):=by show _=_; rw [Nat.pow_succ,HCH.out.2]
       obtain ⟨hd1,hd2⟩:=hdg;generalize cl[k].toNat=cb1 at *
       have a1:IntKind.u64.wrap (10*(ch:Int))=((10*ch:Nat):Int):=wrap_nat (by omega) (by omega);have a2:IntKind.u8.wrap ((cb1:Int)-48)=((cb1-48:Nat):Int):=by rw [IntKind.wrap_u8]; omega
       have a3:IntKind.u64.wrap ((cb1-48:Nat):Int)=((cb1-48:Nat):Int):=wrap_nat rfl (by omega);have a4:IntKind.u64.wrap (((10*ch:Nat):Int)+((cb1-48:Nat):Int))=((10*ch+(cb1-48):Nat):Int):=wrap_nat (by omega) (by omega);have a5:IntKind.u64.wrap ((P:Int)*10)=((P*10:Nat):Int):=wrap_nat (by omega) (by omega);have b2:10*ch+(cb1-48)<10000000000000000000:=by omega
       have b3:P*10≤10000000000000000000:=by omega
       clear hnew htk e1 hcell hb1 ho1 hnl hpn;generalize 10 * ch+(cb1-48)=ch2 at *
       generalize 10 * ch=ch1 at *
       generalize cb1-48=d1 at *
       generalize P * 10=P1 at *
       go_wp2;go_round
       case rel=>exact ⟨k+1,ch2,P1,by omega,rfl,rfl,by go_num,b2,b3,qh ⟨HNEW.out,HCH2.out⟩⟩
       case measure=>simp [intOf]; omega
     · have ek:k=z:=by omega
       have HC2:Hid (W.decV cl=ch∧10^z=P):=by
        have h1:=HCH.out;rw [ek,List.take_of_length_le (by rw [HCZ.out]; exact Nat.le_refl _)] at h1;exact qh h1
       clear ek HCH hS1;have hO1:=hO.ext hE1;have hEE:=hE.trans hE1;have hUL:Hid (xs.length=n):=qh (by have:=hO.len; simpa using this);go_wp2;obtain ⟨wo,hwo⟩:∃ wo:World,wo=wr:=⟨_,rfl⟩;subst hwo
       go_loopw [9,44] (fun cv iv wx=>∃ (q cy:Nat) (zs:List Nat),q≤n∧cv = .int .u64 cy∧iv = .int .i64 q∧cy<18446744073709551616∧Ext w wx∧Own wx w.heap.size 143 a n c (zs.map (natV .u64))∧Hid (W.bnd 18446744073709551616 zs∧zs.drop q=xs.drop q∧W.val 18446744073709551616 (zs.take q)+cy*18446744073709551616^q=P*W.val 18446744073709551616 (xs.take q)+ch)) (fun _ iv _=>n-(intOf iv).toNat)
       case atStart=>exact ⟨0,ch,xs,Nat.zero_le _,rfl,rfl,by omega,hEE,hO1,qh ⟨HN.out.bnd,rfl,by simp [W.val]⟩⟩
       case round =>
        clear hO1 hEE;obtain ⟨q,cy,zs,hq,rfl,rfl,hcy,hEx,hOz,HZ⟩:=hrel;have hzl:zs.length=n:=by have:=hOz.len; simpa using this
        have HZL:=qh hzl;clear hzl;by_cases hlt2:q<n
        · obtain ⟨g,rfl,hg1,hg2⟩:=hOz.place (by omega);have hOn:OwnN .u64 wr w.heap.size 143 g n c zs:=hOz;have g1:=hOn.cell (i:=q) hlt2;have f1:=hOn.frozen q;have hb:=W.bnd_at HZ.out.1 (i:=q) (by rw [HZL.out]; exact hlt2);have hxq:zs.getD q 0=xs.getD q 0:=drop_getD_eq HZ.out.2.1;have HXQ:=qh hxq;clear hxq;generalize zs.getD q 0=xq at *
          go_wp2_with fail
          refine (int_multiplyAdd hb (show P<18446744073709551616 by omega) hcy).mono ?_;rintro e2 w2 ⟨lo,hi,rfl,rfl,hlo,hhi,e1⟩;have HS:=qh (mulp_step (B:=18446744073709551616) (zs:=zs) (xs:=xs) (k:=q) (d:=lo) (u:=P) (c:=cy) (c':=hi) (V:=ch) (by rw [HZL.out]; exact hlt2) (by rw [hUL.out]; exact hlt2) HZ.out.2.2 (by rw [←HXQ.out]; exact e1));have hO9:Own (wr.setCell ⟨g,q,none⟩ (.int .u64 (lo:Int))) w.heap.size 143 (some ⟨g,0,none⟩) n c ((zs.set q lo).map (natV .u64)):=hOn.set q lo;have hE9:=hEx.setCell (p:=⟨g,q,none⟩) hg1 (.int .u64 (lo:Int));clear e1;go_wp2;go_roundw
          case rel=>exact ⟨q+1,hi,zs.set q lo,by omega,rfl,by go_num,hhi,hE9,hO9,qh ⟨W.bnd_set HZ.out.1 hlo,drop_keep HZ.out.2.1,HS.out⟩⟩
          case measure=>simp [intOf]; omega
        · have eq:q=n:=by omega
          have hval:W.val 18446744073709551616 zs+cy*18446744073709551616^n=P*W.val 18446744073709551616 xs+ch:=by
           have h1:=HZ.out.2.2;rw [eq,List.take_of_length_le (by rw [HZL.out]; exact Nat.le_refl _),List.take_of_length_le (by rw [hUL.out]; exact Nat.le_refl _)] at h1;exact h1
          rw [HN.out.val] at hval;have hnew:P*W.decV ((strL s).take j)+ch=W.decV ((strL s).take (j+z)):=by
           have h1:(strL s).take (j+z)=(strL s).take j ++ cl:=by rw [HCL.out,List.take_add]
           rw [h1,W.decV_app,HCZ.out,HC2.out.1,HC2.out.2,Nat.mul_comm]
          rw [hnew] at hval;have HVAL:=qh hval;have HNEW:=qh hnew;have hxs:strL (t.extract z t.size)=(strL s).drop (j+z):=by
           rw [strL_extract,HT.out,List.drop_drop,List.take_of_length_le (by rw [List.length_drop,strL_len]; omega)]
          have HXS:=qh hxs;have hsz:(t.extract z t.size).size=t.size-z:=by simp
          clear hval hnew hxs eq;by_cases hc0:cy=0
          · have hNum:Num 18446744073709551616 zs (W.decV ((strL s).take (j+z))):=by
             have h1:=HVAL.out;rw [hc0,Nat.zero_mul,Nat.add_zero] at h1;refine ⟨HZ.out.1, ?_,h1⟩;rcases Nat.eq_zero_or_pos n with hn0|hn0
             · have:zs=[]:=List.eq_nil_of_length_eq_zero (by rw [HZL.out,hn0]);rw [this]; exact W.nrm_nil
             · refine nrm_of_ge (B:=18446744073709551616) (n:=n-1) (by rw [HZL.out]; omega) HZ.out.1 ?_;rw [h1,←HNEW.out];have h2:=W.nrm_pos (B:=18446744073709551616) (by omega) HN.out.nrm (by intro h; have:=hUL.out; rw [h] at this; simp at this; omega);rw [hUL.out,HN.out.val] at h2;have h3:1*W.decV ((strL s).take j)≤P*W.decV ((strL s).take j):=Nat.mul_le_mul_right _ (by rw [←HC2.out.2]; exact Nat.pow_pos (by omega));omega
            have HNUM:=qh hNum;subst hc0;clear hNum HVAL HNEW HZ;generalize t.extract z t.size=t2 at *
            go_wp2;go_roundw
            case rel=>exact ⟨j+z,t2,a,n,c,zs,rfl,rfl,by omega,HXS,by omega,by omega,hEx,hOz,HNUM⟩
            case measure=>simp; omega
          · have hcb:((cy:Int) != 0)=true:=by simp; omega
            have hNum:Num 18446744073709551616 (zs ++ [cy]) (W.decV ((strL s).take (j+z))):=by
             refine ⟨W.bnd_app HZ.out.1 (fun y hy=>by simp at hy; omega),fun hne=>by simp; exact hc0, ?_⟩;rw [W.val_snoc,HZL.out,←HVAL.out,Nat.mul_comm]
            have HNUM:=qh hNum;have hA:=hOz.alloc (.cells #[.int .u64 (cy:Int)] 143);have hL:=(own_alloc wr w.heap.size 143 #[.int .u64 (cy:Int)] 1 rfl hEx.size (by omega)).sl;have hb2:∀ k,blk a=some k→w.heap.size≤k:=fun k hk=>(hOz.lt hk).1;clear hNum HVAL HNEW HZ;generalize t.extract z t.size=t2 at *
            go_wp2_with (refine wl_app rfl rfl Tryz.underlying88 info_u64 rfl rfl hA rfl hL (by simp [Value.oneCell']) (by unfold maxLen; omega) (by omega) (by simp; have:=hEx.size; omega) ?_; intro a7 c7 w7 hO7 hg7 hb7)
            have hE7:Ext w w7:=(hEx.alloc _).grown hg7 hb2;have hO8:Own w7 w.heap.size 143 a7 (n+1) c7 ((zs ++ [cy]).map (natV .u64)):=by rw [List.map_append]; exact hO7
            go_roundw
            case rel=>exact ⟨j+z,t2,a7,n+1,c7,zs ++ [cy],rfl,rfl,by omega,HXS,by omega,by omega,hE7,hO8,HNUM⟩
            case measure=>simp; omega
end Go.Proofs.YtlpgonpfjbhmfaaGreatDoor
