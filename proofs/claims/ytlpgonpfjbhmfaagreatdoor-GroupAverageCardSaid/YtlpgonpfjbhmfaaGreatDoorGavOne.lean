/- Part GavOne. -/
import Derived.Test.YtlpgonpfjbhmfaaGreatDoorGav20
set_option maxRecDepth 100000
set_option maxHeartbeats 100000000
namespace Go.Proofs.YtlpgonpfjbhmfaaGreatDoor
open Go Go.RowKit
variable {a:Act} {l:List Oper} {w:World}
structure WL (l:List Oper) (k1 s1 j1:Nat) (T:TypeId) (zs:List Value) (base:Nat) (listed:Array Bool) (a:Act) (w:World):Prop where
 p1:listed.getD k1 false=true→∃ g,AP l.toArray k1 a = .pointer (some ⟨g,0,none⟩)∧base≤g∧g<w.heap.size∧(listed.getD s1 false=false→Arr w g T zs)∧(listed.getD s1 false=true→∃ cs:List Value,AP l.toArray j1 a = .agg cs.toArray∧Arr w g T cs)
 js:listed.getD s1 false=true→listed.getD j1 false=true∧listed.getD k1 false=true
 lo:base≤w.heap.size
section
variable {P:Program} {Q:Exit→Act→World→Prop}
theorem WH {id:Nat} (hm:P.follows .mixedOrders=true) (C:World→Prop) (hs:List Hd)
 (hok:CN l.toArray (hs.map (·.cons)) a.tmps.size=true)
 (hCe:∀ w w',Ext w w'→C w→C w') (hC:C w.drew) (hst:F8 hs)
 (hobl:KT P C l.toArray hs a 0 l hs) (k1 s1 j1:Nat) (T:TypeId) (zs:List Value)
 (hn:k1<hs.length∧s1<hs.length∧j1<hs.length) (hd4:k1≠s1∧j1≠s1∧j1≠k1)
 (hk:∀ o,l.toArray[k1]?=some o→o.guard=none∧o.dst.isSome=true∧∀ ρ wx,(execOp ρ o).run P wx = .ok (.value (.pointer (some ⟨wx.heap.size,0,none⟩))) (wx.alloc (.cells zs.toArray T)))
 (hs1:∀ o,l.toArray[s1]?=some o→o.guard=none∧o.dst=none∧∃ d1 dj,AY l.toArray k1=some d1∧AY l.toArray j1=some dj∧o.op = .store T (.tmp d1) (.tmp dj))
 (hp1:k1∈Cu l.toArray s1∧j1∈Cu l.toArray s1)
 (hnm:∀ i,i<hs.length→i≠s1→(AD hs i).mu=false)
 (hag:Agg P T zs.length)
 (hj1:(AD hs j1).cons=none∧∀ v w,(AD hs j1).ty.ok v w→∃ cs:List Value,v = .agg cs.toArray∧cs.length=zs.length∧∀ x∈cs,x.oneCell'=true)
 (hend:∀ w',C w'→DN w' (fun a'=>(∃ (g1:Nat) (cs:List Value),AP l.toArray k1 a' = .pointer (some ⟨g1,0,none⟩)∧w.heap.size≤g1∧AP l.toArray j1 a' = .agg cs.toArray∧Arr w' g1 T cs)→wpList P l.toArray Q (l.drop hs.length) a' w') l hs a):(Code.region id l.toArray true).wp P Q a w:=by
 refine H7 hm C hs hok hCe hC hst hobl (fun listed a' w'=>WL l k1 s1 j1 T zs w.heap.size listed a' w') ?_ ?_ ?_
 · refine ⟨fun h => ?_,fun h => ?_,lrf _⟩
   all_goals (rw [getD_replicate_false] at h; cases h)
 · intro listed a' w' i o u w2 inv J hin ho hif hpr hres hval inv2 hoth hown;obtain ⟨n1,n3,n4⟩:=hn;obtain ⟨d2,d4,d5⟩:=hd4;by_cases his:i=s1
   · subst his;obtain ⟨hg,hdst,t1,tj,e1,e2,hop⟩:=hs1 o ho;rw [EF ho] at hp1;have hl1:=hpr k1 hp1.1;have hlj:=hpr j1 hp1.2;obtain ⟨g,hg1,hg2,hg3,hg4,_⟩:=J.p1 hl1;obtain ⟨v,hv,hvd⟩:=inv.facts j1 n4 hlj (fun k hck=>by rw [hj1.1] at hck; cases hck);obtain ⟨cs,rfl,hcl,hone⟩:=hj1.2 v w' hv;have hsj:=hvd tj e2;have hs1':a'.tmps.getD t1 undef = .pointer (some ⟨g,0,none⟩):=by
      have:=hg1;unfold AP at this;rw [e1] at this;exact this
     have hA:=hg4 hif;have hrun:(execOp a'.eval o).run P w' = .ok .skip (w'.setRow g cs.toArray):=by
      have:=EM (P:=P) (w:=w') (ty:=T) (g:=g) (t:=T) (cs:=zs) (vs:=cs) (by rw [hcl]; exact hag) hA hcl.symm hone;have e3:a'.eval (.tmp t1) = .pointer (some ⟨g,0,none⟩):=hs1';have e4:a'.eval (.tmp tj) = .agg cs.toArray:=hsj;simp only [execOp,hop,e3,e4,Sem.run_bind,this,Result.andThen_ok,Sem.run_pure]
     have hw2:w2=w'.setRow g cs.toArray:=by
      have:=hval (by unfold Region.wanted; rw [hg]);rw [hrun] at this;exact this
     have hgrow:w'.grownBy w2 (some g):=by rw [hw2]; exact BJ w' g _
     have hA2:Arr w2 g T cs:=by rw [hw2]; exact C4 hA cs
     have hset:(listed.setIfInBounds i true).getD i false=true:=by
      have:i<listed.size:=by rw [inv.size]; exact (Array.getElem?_eq_some_iff.1 ho).1
      simp [this]
     refine ⟨fun _=>⟨g,by rw [hoth k1 n1 d2,hg1],hg2,Nat.lt_of_lt_of_le hg3 hgrow.size,(fun h=>by rw [hset] at h; cases h),fun _=>⟨cs, ?_,hA2⟩⟩,fun _=>⟨by rw [getD_set_ne d4]; exact hlj,by rw [getD_set_ne d2]; exact hl1⟩,Nat.le_trans J.lo hgrow.size⟩;rw [hoth j1 n4 d4];unfold AP;rw [e2];exact hsj
   · have hE:Ext w' w2:=by
      rcases hres with hres|hres
      · unfold Ej at hres;cases hty:(AD hs i).ty with
        | eq c=>rw [hty] at hres; rw [hres.1]; exact Ext.refl _
        | pr p =>
         rw [hty] at hres;simp only [hnm i hin his] at hres;exact hres.1
      · rw [hres]; exact Ext.refl _
     have hs1l:(listed.setIfInBounds i true).getD s1 false=listed.getD s1 false:=getD_set_ne (fun e=>his e.symm);have hset:(listed.setIfInBounds i true).getD i false=true:=by
      have:i<listed.size:=by rw [inv.size]; exact (Array.getElem?_eq_some_iff.1 ho).1
      simp [this]
     refine ⟨fun h => ?_,fun h => ?_,Nat.le_trans J.lo hE.size⟩
     · by_cases hi1:i=k1
       · subst hi1;obtain ⟨hg,hds,hrun⟩:=hk o ho;have hv1:=hval (by unfold Region.wanted; rw [hg]);rw [hrun] at hv1;obtain ⟨e1,e2⟩:=hv1;have hsl:AP l.toArray i (a'.put o.dst u) = .pointer (some ⟨w'.heap.size,0,none⟩):=by
          cases hd:o.dst with
          | none=>rw [hd] at hds; cases hds
          | some d =>
           have:=hown d hd;rw [hd] at this;rw [this,e1]
         have hsn:listed.getD s1 false=false:=by
          cases hh:listed.getD s1 false with
          | false=>rfl
          | true=>have:=(J.js hh).2; rw [hif] at this; cases this
         refine ⟨w'.heap.size,hsl,J.lo,by rw [e2]; simp,fun _=>by rw [e2]; exact Arr.new w' T zs,fun ht => ?_⟩;rw [hs1l,hsn] at ht;cases ht
       · have hne:k1≠i:=fun e=>hi1 e.symm;rw [getD_set_ne hne] at h;obtain ⟨g,q1,q2,q3,q4,q5⟩:=J.p1 h;refine ⟨g,by rw [hoth k1 n1 hne,q1],q2,Nat.lt_of_lt_of_le q3 hE.size,fun hf => ?_,fun ht => ?_⟩
         · rw [hs1l] at hf;exact (q4 hf).ext hE
         · rw [hs1l] at ht;obtain ⟨cs,r1,r2⟩:=q5 ht;have hij:j1≠i:=by
            rintro rfl;have:=(J.js ht).1;rw [hif] at this;cases this
           exact ⟨cs,by rw [hoth j1 n4 hij,r1],r2.ext hE⟩
     · rw [hs1l] at h;obtain ⟨q1,q2⟩:=J.js h;constructor
       · by_cases hij:j1=i
         · rw [hij]; exact hset
         · rw [getD_set_ne hij]; exact q1
       · by_cases hij:k1=i
         · rw [hij]; exact hset
         · rw [getD_set_ne hij]; exact q2
 · intro w' hC';have h0:=hend w' hC';revert h0;have key:∀ (os:List Oper) (r:List Hd) (b:Act) (K K':Act→Prop),(∀ x,K x→K' x)→DN w' K os r b→DN w' K' os r b:=by
    intro os
    induction os with
    | nil=>intro r b K K' hKK h; cases r <;> exact hKK _ h
    | cons o os ih =>
     intro r b K K' hKK h;cases r with
     | nil=>exact hKK _ h
     | cons hd r =>
      simp only [DN] at h ⊢;cases hty:hd.ty with
      | eq c=>rw [hty] at h; simp only at h ⊢; exact ih r _ K K' hKK h
      | pr p =>
       rw [hty] at h;simp only at h ⊢;cases hc:hd.cons with
       | none=>rw [hc] at h; simp only at h ⊢; exact fun v hv=>ih r _ K K' hKK (h v hv)
       | some k=>rw [hc] at h; simp only at h ⊢; exact fun v=>ih r _ K K' hKK (h v)
   refine key l hs a _ _ fun a' h0 J=>h0 ?_;have hall:∀ j,j<hs.length→((Array.range l.toArray.size).map (fun j=>decide (j<hs.length))).getD j false=true:=by
    intro j hj;have hsz:hs.length≤l.toArray.size:=by
     have:=hok;unfold CN at this;simp only [Bool.and_eq_true,List.length_map,decide_eq_true_eq] at this;exact this.1.1.1
    have:j<l.toArray.size:=by omega
    simp only [Array.getD_eq_getD_getElem?,Array.getElem?_map,Array.getElem?_range,this,if_true,Option.map_some,Option.getD_some,decide_eq_true_eq];exact hj
   obtain ⟨n1,n3,n4⟩:=hn;obtain ⟨g1,q1,q2,_,_,q5⟩:=J.p1 (hall k1 n1);obtain ⟨cs,t1,t2⟩:=q5 (hall s1 n3);exact ⟨g1,cs,q1,q2,t1,t2⟩
end
end Go.Proofs.YtlpgonpfjbhmfaaGreatDoor
