/- Part Gav20. -/
import Derived.Test.YtlpgonpfjbhmfaaGreatDoorGav19
import Derived.Test.YtlpgonpfjbhmfaaGreatDoorGav17
import Derived.Test.YtlpgonpfjbhmfaaGreatDoorGav18
import Derived.Test.YtlpgonpfjbhmfaaGreatDoorGav3
import Derived.Lib.ConvBytes
import Derived.Laws.IdiomStrings
set_option maxRecDepth 100000
set_option maxHeartbeats 100000000
namespace Go.Proofs.YtlpgonpfjbhmfaaGreatDoor
open Tryz Go Go.RowKit
variable {a f:Act} {ops:Array Oper} {s t:ByteArray} {Q:Exit→Act→World→Prop} {z:Int} {l rest:List Oper} {c e i j n:Nat} {o:Oper} {x:Operand} {dst src:TypeId} {v:Value} {w:World}
def R8 (P:Program) (ops:Array Oper) (o:Oper) (a:Act) (w:World) (u:Value) (w':World):Prop :=
 Region.wanted o (yielded ops a.tmps)=true→match (execOp a.eval o).run P w with | .ok (.value v) wv=>u=v∧w'=wv | .ok .skip wv=>w'=wv | _=>True
section
variable {P:Program} {Q:Exit→Act→World→Prop}
theorem KU {R:Value→World→Prop} {K:Act→World→Prop} (h:Gj P R ((execOp a.eval o).run P w))
 (hK:∀ u w',R u w'→(match (execOp a.eval o).run P w with | .ok (.value v) wv=>u=v∧w'=wv | .ok .skip wv=>w'=wv | _=>True)→K (a.put o.dst u) w'):o.wp P a w K Q:=by
 unfold Oper.wp;generalize (execOp a.eval o).run P w=r at *
 cases r with
 | ok n w' =>
  cases n <;> simp only [Gj] at h <;> simp only [Oper.upon]
  case value u=>exact hK u w' h ⟨rfl,rfl⟩
  case skip=>exact hK undef w' h rfl
  case enter f args=>exact h.mono fun e w'' ⟨u,he,hr⟩=>by subst he; exact hK u w'' hr trivial
 | halt x w'=>simp only [Gj] at h
end
section
variable {P:Program} {ops:Array Oper} {hs:List Hd} {a0:Act} {C:World→Prop} {Q:Exit→Act→World→Prop}
theorem QF (hobl:KT P C ops hs a0 0 ops.toList hs) (hst:F8 hs) (hCe:∀ w w',Ext w w'→C w→C w') {listed:Array Bool} {a:Act} {w:World}
 (inv:GO ops hs a0 C listed a w) {i:Nat} (hi:i∈Region.ready .any ops listed) (hin:i<hs.length)
 (hok:∀ o,ops[i]?=some o→DI ops (hs.map (·.cons)) hs.length a0.tmps.size i o) {K:Act→World→Prop}
 (hK:∀ o u w',ops[i]?=some o→(Ej C ops hs i o (AD hs i) w u w'∨w'=w)→R8 P ops o a w u w'→GO ops hs a0 C (listed.setIfInBounds i true) (a.put o.dst u) w'→K (a.put o.dst u) w'):wpOp P ops Q i K a w:=by
 obtain ⟨h0,o,ho,hpr⟩:=DO hi;have hk:=hok o ho;have hil:i<listed.size:=by
  rw [inv.size];exact (Array.getElem?_eq_some_iff.1 ho).1
 have hif:listed.getD i false=false:=by
  simpa [hil] using h0
 have hnot:listed.getD i false≠true:=by rw [hif]; simp
 have hset:(listed.setIfInBounds i true).getD i false=true:=by simp [hil]
 have hob:obl P C ops hs a0 i o (AD hs i):=by
  have:=Nh hs ops.toList 0 hobl i o (by simpa using ho) hin;simpa [AD] using this
 -- the operands
 have hopn:CO ops hs a0 o a.eval w o.op.operands.toList:=by
  refine JK fun x hx => ?_;cases x with
  | tmp t =>
   have htl:t∈D4 ops o:=by
    unfold D4 OD;rw [List.mem_append];left;rw [List.mem_filterMap];exact ⟨_,hx,rfl⟩
   simp only [JD];cases hs':Nf ops o t with
   | none =>
    simp only [Act.eval];refine inv.frame t fun j hj hl hd => ?_;rcases hk.look t htl j hj hd with h|h|h
    · subst h; exact hnot hl
    · exact JJ hs' h hd
    · exact hnot (inv.closed j hl i h)
   | some j =>
    obtain ⟨hjp,hjd⟩:=JI hs';have hjn:j<hs.length:=by have:=hk.lt j hjp; omega
    have hjl:=hpr j hjp;simp only;cases hty:(AD hs j).ty with
    | eq c=>exact inv.values j c hjn hjl hty t hjd
    | pr p =>
     obtain ⟨v,hv,hvd⟩:=inv.facts j hjn hjl (by
      intro k hck;have:=hk.cons j hjp k (by rw [Ni hjn]; exact hck);rcases this with h|h|h
      · subst h; exact hif
      · by_cases hlk:listed.getD k false=true
        · exact absurd (inv.closed k hlk i h) hnot
        · simpa using hlk
      · exact absurd hjd (h t htl))
     rw [hty] at hv;exact ⟨v,hvd t hjd,hv⟩
  | _=>trivial
 -- behind the operation
 have hnew:∀ u w',C w'→(AD hs i).ty.ok u w' →
  (∀ j,j<hs.length→j≠i→listed.getD j false=true→(∀ k,(AD hs j).cons=some k→(listed.setIfInBounds i true).getD k false=false)→∀ v,(AD hs j).ty.ok v w→(AD hs j).ty.ok v w') →
  GO ops hs a0 C (listed.setIfInBounds i true) (a.put o.dst u) w':=by
  intro u w' hC hu hkeep;have hslot:∀ j,j<hs.length→j≠i→∀ d,AY ops j=some d→(a.put o.dst u).tmps.getD d undef=a.tmps.getD d undef:=by
   intro j hj hne d hd;cases hod:o.dst with
   | none=>rfl
   | some d' =>
    rw [Cw];have:d'≠d:=by
     rintro rfl;have:=hk.apart j hj hne (by rw [hd,hod]);rw [hod] at this;cases this
    rw [if_neg (fun h=>this h.1)]
  have hown:∀ d,AY ops i=some d→(a.put o.dst u).tmps.getD d undef=u:=by
   intro d hd;rw [BA ho] at hd;rw [hd,Cw,if_pos ⟨rfl,by rw [inv.tmps]; exact hk.dst d hd⟩]
  have hback:∀ j,j≠i→(listed.setIfInBounds i true).getD j false=true→listed.getD j false=true:=by
   intro j hne h
   rwa [getD_set_ne false (Ne.symm hne)] at h
  refine ⟨by rw [Array.size_setIfInBounds]; exact inv.size, ?_, ?_,hC,by rw [Gk]; exact inv.defers,by rw [GQ]; exact inv.tmps, ?_, ?_, ?_⟩
  · intro j hj;rw [getD_set_ne false (by omega)];exact inv.tailF j hj
  · intro j hj p hp;by_cases hji:j=i
    · subst hji;rw [EF ho] at hp;exact getD_set_true (hpr p hp)
    · exact getD_set_true (inv.closed j (hback j hji hj) p hp)
  · intro t ht;have h1:o.dst≠some t:=by
     have:=ht i hin hset
     rwa [BA ho] at this
    have h2:a.tmps.getD t undef=a0.tmps.getD t undef:=inv.frame t fun j hj hl=>ht j hj (getD_set_true hl);cases hod:o.dst with
    | none=>exact h2
    | some d' =>
     rw [Cw,if_neg (fun h=>h1 (by rw [hod,h.1]))];exact h2
  · intro j hj hl hal;by_cases hji:j=i
    · subst hji;exact ⟨u,hu,hown⟩
    · have hl':=hback j hji hl
      obtain ⟨v,hv,hvd⟩:=inv.facts j hj hl' (by
       intro k hck;have:=hal k hck;by_cases hlk:listed.getD k false=true
       · rw [getD_set_true hlk] at this; cases this
       · simpa using hlk)
      exact ⟨v,hkeep j hj hji hl' hal v hv,fun d hd=>by rw [hslot j hj hji d hd]; exact hvd d hd⟩
  · intro j c hj hl hty d hd;by_cases hji:j=i
    · subst hji;rw [hty] at hu;rw [hown d hd];exact hu
    · rw [hslot j hj hji d hd];exact inv.values j c hj (hback j hji hl) hty d hd
 -- the guard
 have hwant:∀ b,Cf hs o=some b→Region.wanted o (yielded ops a.tmps)=b:=by
  intro b hb;unfold Cf at hb;unfold Region.wanted;cases hg:o.guard with
  | none =>
   rw [hg] at hb;simpa using hb
  | some g =>
   obtain ⟨j,b'⟩:=g;rw [hg] at hb;simp only at hb ⊢;have hgo:=hk.grd;unfold I6 at hgo;rw [hg] at hgo;simp only [Bool.and_eq_true,List.contains_iff_mem] at hgo;obtain ⟨hjp,hds⟩:=hgo;obtain ⟨d,hd⟩:=Option.isSome_iff_exists.1 hds;have hjn:j<hs.length:=by have:=hk.lt j hjp; omega
   cases hty:(AD hs j).ty with
   | pr p=>rw [hty] at hb; cases hb
   | eq c =>
    rw [hty] at hb;cases c with
    | bool c =>
     simp only [Option.some.injEq] at hb;have hv:=inv.values j _ hjn (hpr j hjp) hty d hd;have hy:yielded ops a.tmps j=some c:=by
      unfold yielded;have hd':(ops[j]?).bind (·.dst)=some d:=hd;rw [hd'];have:a.tmps[d]?=some (.bool c):=by
       rw [Array.getD_eq_getD_getElem?] at hv;cases hx:a.tmps[d]? with
       | none=>rw [hx] at hv; cases hv
       | some y=>rw [hx] at hv; simpa using hv
      simp [this]
     rw [hy,←hb];cases c <;> cases b' <;> rfl
    | _=>cases hb
 unfold wpOp;rw [ho];simp only;unfold obl at hob;cases hw:Cf hs o with
 | none=>rw [hw] at hob; exact hob.elim
 | some b =>
  rw [hw] at hob;rw [hwant b hw];cases b with
  | true =>
   rw [if_pos rfl];left;refine KU (hob a.eval w (JE a) inv.world hopn) fun u w' hr hv=>hK o u w' ho (Or.inl hr) (fun _=>hv) ?_;unfold Ej at hr;cases hty:(AD hs i).ty with
   | eq c =>
    rw [hty] at hr;obtain ⟨rfl,rfl⟩:=hr;exact hnew u w' inv.world (by rw [hty]; rfl) fun _ _ _ _ _ v hv=>hv
   | pr p =>
    rw [hty] at hr;simp only at hr;by_cases hmu:(AD hs i).mu=true
    · rw [if_pos hmu] at hr;obtain ⟨hC',hkp,hp⟩:=hr;refine hnew u w' hC' (by rw [hty]; exact hp) fun j hj hne hl hal v hv => ?_;cases htj:(AD hs j).ty with
      | eq c=>rw [htj] at hv; exact hv
      | pr p' =>
       rw [←htj];refine H5 hkp j (by simpa using hj) ?_ v hv;have c1:i ∉ anc ops 3 (Cu ops j):=fun h=>hnot (CE inv.closed 3 _ (inv.closed j hl) i h);have c2:∀ k,(AD hs j).cons=some k→k≠i∧k ∉ anc ops 3 (BP o):=by
        intro k hck;have hk':=hal k hck;refine ⟨?_,fun hm => ?_⟩
        · rintro rfl;rw [hset] at hk';cases hk'
        · rw [getD_set_true (CE inv.closed 3 _ hpr k hm)] at hk';cases hk'
       unfold Dj;rw [htj];cases hc:(AD hs j).cons with
       | none=>simp [hne,c1]
       | some k =>
        obtain ⟨d1,d2⟩:=c2 k hc;simp [hne,c1,d1,d2]
    · rw [if_neg hmu] at hr
      exact hnew u w' (hCe w w' hr.1 inv.world) (by rw [hty]; exact hr.2) fun j hj _ _ _ v hv =>
       PC (H6 hst _ (by rw [AD,gqq,List.getElem?_eq_getElem hj]; simp)) hr.1 hv
  | false =>
   simp only [Bool.false_eq_true,if_false];exact hK o undef w ho (Or.inr rfl) (fun hwt=>by rw [hwant false hw] at hwt; cases hwt) (hnew undef w inv.world (hob w inv.world) fun _ _ _ _ _ v hv=>hv)
end
section
variable {P:Program} {Q:Exit→Act→World→Prop}
theorem H7 {id:Nat} (hm:P.follows .mixedOrders=true) (C:World→Prop) (hs:List Hd)
 (hok:CN l.toArray (hs.map (·.cons)) a.tmps.size=true)
 (hCe:∀ w w',Ext w w'→C w→C w') (hC:C w.drew) (hst:F8 hs)
 (hobl:KT P C l.toArray hs a 0 l hs) (J:Array Bool→Act→World→Prop) (hJ0:J (Array.replicate l.toArray.size false) a w.drew)
 (hJ:∀ listed a' w' i o u w2,GO l.toArray hs a C listed a' w'→J listed a' w'→i<hs.length→l.toArray[i]?=some o→listed.getD i false=false→(∀ p∈BP o,listed.getD p false=true)→(Ej C l.toArray hs i o (AD hs i) w' u w2∨w2=w')→R8 P l.toArray o a' w' u w2→GO l.toArray hs a C (listed.setIfInBounds i true) (a'.put o.dst u) w2→(∀ j,j<hs.length→j≠i→AP l.toArray j (a'.put o.dst u)=AP l.toArray j a')→(∀ d,o.dst=some d→AP l.toArray i (a'.put o.dst u)=u)→J (listed.setIfInBounds i true) (a'.put o.dst u) w2)
 (hend:∀ w',C w'→DN w' (fun a'=>J ((Array.range l.toArray.size).map (fun j=>decide (j<hs.length))) a' w'→wpList P l.toArray Q (l.drop hs.length) a' w') l hs a):(Code.region id l.toArray true).wp P Q a w:=by
 refine wp_region_any hm ?_;unfold CN at hok;simp only [Bool.and_eq_true,List.length_map,decide_eq_true_eq] at hok;obtain ⟨⟨⟨hn,hall⟩,hcons⟩,hseq⟩:=hok;have hsz:l.toArray.size=l.length:=by simp
 have hall':∀ i o,l.toArray[i]?=some o→(i<hs.length→DI l.toArray (hs.map (·.cons)) hs.length a.tmps.size i o)∧(hs.length≤i→GJ l.toArray hs.length i o=true):=by
  intro i o ho;have hi:i<l.toArray.size:=(Array.getElem?_eq_some_iff.1 ho).1;have:=List.all_eq_true.1 hall i (by simpa using hi);rw [ho] at this;simp only at this;refine ⟨fun h => ?_,fun h => ?_⟩
  · rw [if_pos h] at this;exact Fg this
  · rw [if_neg (by omega)] at this;exact this
 have key:∀ m listed a' w',unl listed hs.length=m→GO l.toArray hs a C listed a' w'→J listed a' w'→wpAny P .any l.toArray Q (m+(l.toArray.size-hs.length)) listed a' w':=by
  intro m
  induction m with
  | zero =>
   intro listed a' w' hu inv alc;have hheads:=Ff hu;have hlist:listed=(Array.range l.toArray.size).map (fun j=>decide (j<hs.length)):=by
    apply Array.ext
    · rw [inv.size]; simp
    · intro i h1 h2;simp only [Array.getElem_map,Array.getElem_range];by_cases hi:i<hs.length
      · have:=hheads i hi;simp [h1] at this;simp [this,hi]
      · have:=inv.tailF i (by omega);simp [h1] at this;simp [this,hi]
   -- the frame
   have ha:a'=CV (fun j=>match AY l.toArray j with | some d=>a'.tmps.getD d undef | none=>Classical.epsilon (fun v=>(AD hs j).ty.ok v w')) 0 l hs a:=by
    apply Ma
    · rw [Ea]; exact inv.defers
    · rw [Fh]; exact inv.tmps
    · intro t;by_cases hex:∃ j o,j<hs.length∧l[j]?=some o∧o.dst=some t
      · obtain ⟨j,o,hj,ho,hd⟩:=hex;have hoA:l.toArray[j]?=some o:=by simpa using ho
        have hf:=(hall' j o hoA).1 hj
        rw [Gm hs l 0 a j o hj ho hd (hf.dst t hd) (by
         intro k' o' hk' ho' hd';have hoA':l.toArray[k']?=some o':=by simpa using ho'
         by_cases hkj:k'=j
         · exact hkj
         · have:=hf.apart k' hk' hkj (by rw [BA hoA',hd',hd]);rw [hd] at this
           cases this)]
        rw [Nat.zero_add,BA hoA,hd]
      · rw [DA hs l 0 a (fun k o hk ho hd=>hex ⟨k,o,hk,ho,hd⟩)];refine inv.frame t fun j hj _ hd=>hex ?_;unfold AY at hd;cases ho:l.toArray[j]? with
        | none=>rw [ho] at hd; cases hd
        | some o=>rw [ho] at hd; exact ⟨j,o,hj,by simpa using ho,hd⟩
   have hfin:=Gl (vs:=fun j=>match AY l.toArray j with | some d=>a'.tmps.getD d undef | none=>Classical.epsilon (fun v=>(AD hs j).ty.ok v w')) hs l 0 a (hend w' inv.world)
    (by
     intro k hk c hc;rw [Nat.zero_add];cases hd:AY l.toArray k with
     | some d=>exact inv.values k c hk (hheads k hk) hc d hd
     | none =>
      have:(AD hs k).ty.ok (Classical.epsilon (fun v=>(AD hs k).ty.ok v w')) w':=by
       apply Classical.epsilon_spec (p:=fun v=>(AD hs k).ty.ok v w');refine ⟨c, ?_⟩;rw [show (AD hs k).ty = .eq c from hc];rfl
      have h2:(AD hs k).ty = .eq c:=hc;rw [h2] at this;simp only [Ty.ok] at this;rw [h2]
      exact this)
    (by
     intro k hk p hp hc;rw [Nat.zero_add]
     obtain ⟨v,hv,hvd⟩:=inv.facts k hk (hheads k hk) (by
      intro k' hck;have h1:(AD hs k).cons=none:=hc;rw [h1] at hck
      cases hck)
     have h2:(AD hs k).ty = .pr p:=hp;cases hd:AY l.toArray k with
     | some d =>
      simp only;rw [hvd d hd];rw [h2] at hv;exact hv
     | none =>
      have:(AD hs k).ty.ok (Classical.epsilon (fun v=>(AD hs k).ty.ok v w')) w':=Classical.epsilon_spec (p:=fun v=>(AD hs k).ty.ok v w') ⟨v,hv⟩;simp only;rw [h2] at this ⊢
      exact this)
   rw [←ha] at hfin;rw [Nat.zero_add];have hl:(l.drop hs.length).length=l.toArray.size-hs.length:=by simp
   rw [←hl];rw [←hl,←hlist] at hseq;exact wpAny_of_seq (l.drop hs.length) hs.length listed a' w' (by intro j; simp) hseq (hfin (hlist ▸ alc))
  | succ m ih =>
   intro listed a' w' hu inv alc;rw [show m+1+(l.toArray.size-hs.length)=(m+(l.toArray.size-hs.length))+1 by omega];refine ⟨fun hempty => ?_,fun i hi => ?_⟩
   · obtain ⟨j,hj,hjf,hjk⟩:=EG (listed:=listed) (n:=hs.length) (by omega);have hjl:j<l.toArray.size:=by omega
     have ho:l.toArray[j]?=some l.toArray[j]:=Array.getElem?_eq_getElem hjl;have hf:=(hall' j _ ho).1 hj
     have:j∈Region.ready .any l.toArray listed:=JF (by
      have:j<listed.size:=by rw [inv.size]; exact hjl
      simpa [this] using hjf) ho (fun p hp=>hjk p (hf.lt p hp))
     rw [hempty] at this;cases this
   · obtain ⟨h0,o,ho,hpr⟩:=DO hi;have hil:i<listed.size:=by rw [inv.size]; exact (Array.getElem?_eq_some_iff.1 ho).1
     have hif:listed.getD i false=false:=by simpa [hil] using h0
     have hin:i<hs.length:=by
      rcases Nat.lt_or_ge i hs.length with h|h
      · exact h
      · exfalso;have ht:=(hall' i o ho).2 h;unfold GJ at ht;simp only [Bool.or_eq_true,List.all_eq_true,List.mem_range,List.contains_iff_mem,List.any_eq_true,Bool.and_eq_true,decide_eq_true_eq] at ht;rcases ht with ht|⟨k,hk,hk1,_⟩
        · obtain ⟨j,hj,hjf,_⟩:=EG (listed:=listed) (n:=hs.length) (by omega);rw [CE inv.closed 3 (BP o) hpr j (ht j hj)] at hjf;cases hjf
        · have:=hpr k hk;rw [inv.tailF k hk1] at this;cases this
     refine QF (by simpa using hobl) hst hCe inv hi hin (fun o' ho'=>(hall' i o' ho').1 hin) fun o2 u w2 ho2 hres hval inv2 => ?_;refine ih _ _ w2 ?_ inv2 (hJ listed a' w' i o2 u w2 inv alc hin ho2 hif (by rw [ho] at ho2; simp only [Option.some.injEq] at ho2; rw [←ho2]; exact hpr) hres hval inv2 ?_ ?_);rotate_left
     · intro j hj hji;have hf:=(hall' i o2 ho2).1 hin;cases hd:o2.dst with
       | none=>rfl
       | some d =>
        unfold AP;cases hdj:AY l.toArray j with
        | none=>rfl
        | some dj =>
         simp only;rw [Cw,if_neg];intro hh;have:=hf.apart j hj hji (by rw [hdj,hd,hh.1]);rw [hd] at this;cases this
     · intro d hd;unfold AP;rw [BA ho2,hd];simp only;rw [Cw,if_pos ⟨rfl,by rw [inv.tmps]; exact (hall' i o2 ho2).1 hin |>.dst d hd⟩]
     have:=I7 hil hif hin;omega
 have hstart:GO l.toArray hs a C (Array.replicate l.toArray.size false) a w.drew:=by
  have hf:∀ j,(Array.replicate l.toArray.size false).getD j false=false:=fun j=>getD_replicate_false _ j;refine ⟨by simp,fun j _=>hf j,(fun j h=>by rw [hf j] at h; cases h),hC,rfl,rfl,fun _ _=>rfl,(fun j _ h=>by rw [hf j] at h; cases h),(fun j c _ h=>by rw [hf j] at h; cases h)⟩
 have hcount:unl (Array.replicate l.toArray.size false) hs.length=hs.length:=by
  have:∀ n,unl (Array.replicate l.toArray.size false) n=n:=by
   intro n
   induction n with
   | zero=>rfl
   | succ n ih=>rw [unl,ih,getD_replicate_false]; simp
  exact this _
 have:=key hs.length _ a w.drew hcount hstart hJ0
 rwa [show hs.length+(l.toArray.size-hs.length)=l.toArray.size by omega] at this
end
structure VN (l:List Oper) (k1 k2 s1 j1:Nat) (T:TypeId) (zs:List Value) (base:Nat) (listed:Array Bool) (a:Act) (w:World):Prop where
 p1:listed.getD k1 false=true→∃ g,AP l.toArray k1 a = .pointer (some ⟨g,0,none⟩)∧base≤g∧g<w.heap.size∧(listed.getD s1 false=false→Arr w g T zs)∧(listed.getD s1 false=true→∃ cs:List Value,AP l.toArray j1 a = .agg cs.toArray∧Arr w g T cs)
 p2:listed.getD k2 false=true→∃ g,AP l.toArray k2 a = .pointer (some ⟨g,0,none⟩)∧base≤g∧g<w.heap.size∧Arr w g T zs
 ne:listed.getD k1 false=true→listed.getD k2 false=true→AP l.toArray k1 a≠AP l.toArray k2 a
 js:listed.getD s1 false=true→listed.getD j1 false=true∧listed.getD k1 false=true
 lo:base≤w.heap.size
theorem getD_set_ne {listed:Array Bool} (h:j≠i):(listed.setIfInBounds i true).getD j false=listed.getD j false:=by
 have hji:¬ i=j:=fun e=>h e.symm;rw [Array.getD_eq_getD_getElem?,Array.getElem?_setIfInBounds,if_neg hji,Array.getD_eq_getD_getElem?]
section
variable {P:Program} {Q:Exit→Act→World→Prop}
theorem DP {id:Nat} (hm:P.follows .mixedOrders=true) (C:World→Prop) (hs:List Hd)
 (hok:CN l.toArray (hs.map (·.cons)) a.tmps.size=true)
 (hCe:∀ w w',Ext w w'→C w→C w') (hC:C w.drew) (hst:F8 hs)
 (hobl:KT P C l.toArray hs a 0 l hs) (k1 k2 s1 j1:Nat) (T:TypeId) (zs:List Value)
 (hn:k1<hs.length∧k2<hs.length∧s1<hs.length∧j1<hs.length) (hd4:k1≠k2∧k1≠s1∧k2≠s1∧j1≠s1∧j1≠k1∧j1≠k2)
 (hk:∀ k,k=k1∨k=k2→∀ o,l.toArray[k]?=some o→o.guard=none∧o.dst.isSome=true∧∀ ρ wx,(execOp ρ o).run P wx = .ok (.value (.pointer (some ⟨wx.heap.size,0,none⟩))) (wx.alloc (.cells zs.toArray T)))
 (hs1:∀ o,l.toArray[s1]?=some o→o.guard=none∧o.dst=none∧∃ d1 dj,AY l.toArray k1=some d1∧AY l.toArray j1=some dj∧o.op = .store T (.tmp d1) (.tmp dj))
 (hp1:k1∈Cu l.toArray s1∧j1∈Cu l.toArray s1)
 (hnm:∀ i,i<hs.length→i≠s1→(AD hs i).mu=false)
 (hag:Agg P T zs.length)
 (hj1:(AD hs j1).cons=none∧∀ v w,(AD hs j1).ty.ok v w→∃ cs:List Value,v = .agg cs.toArray∧cs.length=zs.length∧∀ x∈cs,x.oneCell'=true)
 (hend:∀ w',C w'→DN w' (fun a'=>(∃ (g1 g2:Nat) (cs:List Value),AP l.toArray k1 a' = .pointer (some ⟨g1,0,none⟩)∧AP l.toArray k2 a' = .pointer (some ⟨g2,0,none⟩)∧w.heap.size≤g1∧w.heap.size≤g2∧g1≠g2∧AP l.toArray j1 a' = .agg cs.toArray∧Arr w' g1 T cs∧Arr w' g2 T zs)→wpList P l.toArray Q (l.drop hs.length) a' w') l hs a):(Code.region id l.toArray true).wp P Q a w:=by
 refine H7 hm C hs hok hCe hC hst hobl (fun listed a' w'=>VN l k1 k2 s1 j1 T zs w.heap.size listed a' w') ?_ ?_ ?_
 · refine ⟨fun h => ?_,fun h => ?_,fun h => ?_,fun h => ?_,lrf _⟩
   all_goals (rw [getD_replicate_false] at h; cases h)
 · intro listed a' w' i o u w2 inv J hin ho hif hpr hres hval inv2 hoth hown;obtain ⟨n1,n2,n3,n4⟩:=hn;obtain ⟨d1,d2,d3,d4,d5,d6⟩:=hd4;by_cases his:i=s1
   · subst his;obtain ⟨hg,hdst,t1,tj,e1,e2,hop⟩:=hs1 o ho;rw [EF ho] at hp1;have hl1:=hpr k1 hp1.1;have hlj:=hpr j1 hp1.2;obtain ⟨g,hg1,hg2,hg3,hg4,_⟩:=J.p1 hl1;obtain ⟨v,hv,hvd⟩:=inv.facts j1 n4 hlj (fun k hck=>by rw [hj1.1] at hck; cases hck);obtain ⟨cs,rfl,hcl,hone⟩:=hj1.2 v w' hv;have hsj:=hvd tj e2;have hs1':a'.tmps.getD t1 undef = .pointer (some ⟨g,0,none⟩):=by
      have:=hg1;unfold AP at this;rw [e1] at this;exact this
     have hA:=hg4 hif;have hrun:(execOp a'.eval o).run P w' = .ok .skip (w'.setRow g cs.toArray):=by
      have:=EM (P:=P) (w:=w') (ty:=T) (g:=g) (t:=T) (cs:=zs) (vs:=cs) (by rw [hcl]; exact hag) hA hcl.symm hone;have e3:a'.eval (.tmp t1) = .pointer (some ⟨g,0,none⟩):=hs1';have e4:a'.eval (.tmp tj) = .agg cs.toArray:=hsj;simp only [execOp,hop,e3,e4,Sem.run_bind,this,Result.andThen_ok,Sem.run_pure]
     have hw2:w2=w'.setRow g cs.toArray:=by
      have:=hval (by unfold Region.wanted; rw [hg]);rw [hrun] at this;exact this
     have hgrow:w'.grownBy w2 (some g):=by rw [hw2]; exact BJ w' g _
     have hA2:Arr w2 g T cs:=by rw [hw2]; exact C4 hA cs
     have hset:(listed.setIfInBounds i true).getD i false=true:=by
      have:i<listed.size:=by rw [inv.size]; exact (Array.getElem?_eq_some_iff.1 ho).1
      simp [this]
     refine ⟨fun _=>⟨g,by rw [hoth k1 n1 d2,hg1],hg2,Nat.lt_of_lt_of_le hg3 hgrow.size,(fun h=>by rw [hset] at h; cases h),fun _=>⟨cs, ?_,hA2⟩⟩,fun h => ?_,fun h1 h2 => ?_,fun _=>⟨by rw [getD_set_ne d4]; exact hlj,by rw [getD_set_ne d2]; exact hl1⟩,Nat.le_trans J.lo hgrow.size⟩
     · rw [hoth j1 n4 d4];unfold AP;rw [e2];exact hsj
     · rw [getD_set_ne d3] at h;obtain ⟨g',q1,q2,q3,q4⟩:=J.p2 h;have hne:=J.ne hl1 h;rw [hg1,q1] at hne;refine ⟨g',by rw [hoth k2 n2 d3,q1],q2,Nat.lt_of_lt_of_le q3 hgrow.size,q4.kept hgrow ?_⟩;intro e;simp only [Option.some.injEq] at e;subst e;exact hne rfl
     · rw [getD_set_ne d3] at h2;rw [hoth k1 n1 d2,hoth k2 n2 d3];exact J.ne hl1 h2
   · have hE:Ext w' w2:=by
      rcases hres with hres|hres
      · unfold Ej at hres;cases hty:(AD hs i).ty with
        | eq c=>rw [hty] at hres; rw [hres.1]; exact Ext.refl _
        | pr p =>
         rw [hty] at hres;simp only [hnm i hin his] at hres;exact hres.1
      · rw [hres]; exact Ext.refl _
     have hs1l:(listed.setIfInBounds i true).getD s1 false=listed.getD s1 false:=getD_set_ne (fun e=>his e.symm);have hset:(listed.setIfInBounds i true).getD i false=true:=by
      have:i<listed.size:=by rw [inv.size]; exact (Array.getElem?_eq_some_iff.1 ho).1
      simp [this]
     have hal:i=k1∨i=k2→AP l.toArray i (a'.put o.dst u) = .pointer (some ⟨w'.heap.size,0,none⟩)∧w2=w'.alloc (.cells zs.toArray T):=by
      intro hik;obtain ⟨hg,hds,hrun⟩:=hk i hik o ho;have:=hval (by unfold Region.wanted; rw [hg]);rw [hrun] at this;obtain ⟨e1,e2⟩:=this;cases hd:o.dst with
      | none=>rw [hd] at hds; cases hds
      | some d =>
       have:=hown d hd;rw [hd] at this;exact ⟨by rw [this,e1],e2⟩
     have old1:k1≠i→(listed.setIfInBounds i true).getD k1 false=true→∃ g,AP l.toArray k1 (a'.put o.dst u) = .pointer (some ⟨g,0,none⟩)∧w.heap.size≤g∧g<w'.heap.size∧((listed.setIfInBounds i true).getD s1 false=false→Arr w2 g T zs)∧((listed.setIfInBounds i true).getD s1 false=true→∃ cs:List Value,AP l.toArray j1 (a'.put o.dst u) = .agg cs.toArray∧Arr w2 g T cs):=by
      intro hne h;rw [getD_set_ne hne] at h;obtain ⟨g,q1,q2,q3,q4,q5⟩:=J.p1 h;refine ⟨g,by rw [hoth k1 n1 hne,q1],q2,q3,fun hf => ?_,fun ht => ?_⟩
      · rw [hs1l] at hf;exact (q4 hf).ext hE
      · rw [hs1l] at ht;obtain ⟨cs,r1,r2⟩:=q5 ht;have hij:j1≠i:=by
         rintro rfl;have:=(J.js ht).1;rw [hif] at this;cases this
        exact ⟨cs,by rw [hoth j1 n4 hij,r1],r2.ext hE⟩
     have old2:k2≠i→(listed.setIfInBounds i true).getD k2 false=true→∃ g,AP l.toArray k2 (a'.put o.dst u) = .pointer (some ⟨g,0,none⟩)∧w.heap.size≤g∧g<w'.heap.size∧Arr w2 g T zs:=by
      intro hne h;rw [getD_set_ne hne] at h;obtain ⟨g,q1,q2,q3,q4⟩:=J.p2 h;exact ⟨g,by rw [hoth k2 n2 hne,q1],q2,q3,q4.ext hE⟩
     refine ⟨fun h => ?_,fun h => ?_,fun h1 h2 => ?_,fun h => ?_,Nat.le_trans J.lo hE.size⟩
     · by_cases hi1:i=k1
       · subst hi1;obtain ⟨r1,r2⟩:=hal (Or.inl rfl);have hsn:listed.getD s1 false=false:=by
          cases hh:listed.getD s1 false with
          | false=>rfl
          | true=>have:=(J.js hh).2; rw [hif] at this; cases this
         refine ⟨w'.heap.size,r1,J.lo,by rw [r2]; simp,fun _=>by rw [r2]; exact Arr.new w' T zs,fun ht => ?_⟩;rw [hs1l,hsn] at ht;cases ht
       · obtain ⟨g,q1,q2,q3,q4,q5⟩:=old1 (fun e=>hi1 e.symm) h;exact ⟨g,q1,q2,Nat.lt_of_lt_of_le q3 hE.size,q4,q5⟩
     · by_cases hi2:i=k2
       · subst hi2;obtain ⟨r1,r2⟩:=hal (Or.inr rfl);exact ⟨w'.heap.size,r1,J.lo,by rw [r2]; simp,by rw [r2]; exact Arr.new w' T zs⟩
       · obtain ⟨g,q1,q2,q3,q4⟩:=old2 (fun e=>hi2 e.symm) h;exact ⟨g,q1,q2,Nat.lt_of_lt_of_le q3 hE.size,q4⟩
     · by_cases hi1:i=k1
       · subst hi1;obtain ⟨r1,_⟩:=hal (Or.inl rfl);obtain ⟨g,q1,_,q3,_⟩:=old2 (fun e=>d1 e.symm) h2;rw [r1,q1];simp only [ne_eq,Value.pointer.injEq,Option.some.injEq,Addr.mk.injEq,and_true];omega
       · by_cases hi2:i=k2
         · subst hi2;obtain ⟨r1,_⟩:=hal (Or.inr rfl);obtain ⟨g,q1,_,q3,_⟩:=old1 d1 h1;rw [r1,q1];simp only [ne_eq,Value.pointer.injEq,Option.some.injEq,Addr.mk.injEq,and_true];omega
         · rw [hoth k1 n1 (fun e=>hi1 e.symm),hoth k2 n2 (fun e=>hi2 e.symm)];rw [getD_set_ne (fun e=>hi1 e.symm)] at h1;rw [getD_set_ne (fun e=>hi2 e.symm)] at h2;exact J.ne h1 h2
     · rw [hs1l] at h;obtain ⟨q1,q2⟩:=J.js h;constructor
       · by_cases hij:j1=i
         · rw [hij]; exact hset
         · rw [getD_set_ne hij]; exact q1
       · by_cases hij:k1=i
         · rw [hij]; exact hset
         · rw [getD_set_ne hij]; exact q2
 · intro w' hC';have h0:=hend w' hC';revert h0;have key:∀ (os:List Oper) (r:List Hd) (b:Act) (K K':Act→Prop),(∀ x,K x→K' x)→DN w' K os r b→DN w' K' os r b:=by
    intro os
    induction os with
    | nil=>intro r b K K' hKK h; cases r <;> exact hKK _ h
    | cons o os ih =>
     intro r b K K' hKK h;cases r with
     | nil=>exact hKK _ h
     | cons hd r =>
      simp only [DN] at h ⊢;cases hty:hd.ty with
      | eq c=>rw [hty] at h; simp only at h ⊢; exact ih r _ K K' hKK h
      | pr p =>
       rw [hty] at h;simp only at h ⊢;cases hc:hd.cons with
       | none=>rw [hc] at h; simp only at h ⊢; exact fun v hv=>ih r _ K K' hKK (h v hv)
       | some k=>rw [hc] at h; simp only at h ⊢; exact fun v=>ih r _ K K' hKK (h v)
   refine key l hs a _ _ fun a' h0 J=>h0 ?_;have hall:∀ j,j<hs.length→((Array.range l.toArray.size).map (fun j=>decide (j<hs.length))).getD j false=true:=by
    intro j hj;have hsz:hs.length≤l.toArray.size:=by
     have:=hok;unfold CN at this;simp only [Bool.and_eq_true,List.length_map,decide_eq_true_eq] at this;exact this.1.1.1
    have:j<l.toArray.size:=by omega
    simp only [Array.getD_eq_getD_getElem?,Array.getElem?_map,Array.getElem?_range,this,if_true,Option.map_some,Option.getD_some,decide_eq_true_eq];exact hj
   obtain ⟨n1,n2,n3,n4⟩:=hn;obtain ⟨g1,q1,q2,_,_,q5⟩:=J.p1 (hall k1 n1);obtain ⟨g2,r1,r2,_,r4⟩:=J.p2 (hall k2 n2);obtain ⟨cs,t1,t2⟩:=q5 (hall s1 n3);refine ⟨g1,g2,cs,q1,r1,q2,r2, ?_,t1,t2,r4⟩;have:=J.ne (hall k1 n1) (hall k2 n2);rw [q1,r1] at this;intro e;subst e;exact this rfl
end
theorem PD (a:Nat):∀ e:Nat,(-(a:Int))^e=if e%2=1 then -((a^e:Nat):Int) else ((a^e:Nat):Int)
 | 0=>by simp
 | e+1=>by
  rw [Int.pow_succ,PD a e];by_cases h:e%2=1
  · rw [if_pos h,if_neg (by omega),Nat.pow_succ]; push_cast; grind
  · rw [if_neg h,if_pos (by omega),Nat.pow_succ]; push_cast; grind
theorem U4 {s:Bool} (hs:decide (z<0)=s):z^e=if (s && decide (e%2=1))=true then -((z.natAbs^e:Nat):Int) else ((z.natAbs^e:Nat):Int):=by
 subst hs;by_cases h:z<0
 · have h0:z = -(z.natAbs:Int):=by omega
   have h1:=PD z.natAbs e;rw [←h0] at h1;rw [h1];simp [h]
 · have h0:z=(z.natAbs:Int):=by omega
   have h1:z^e=((z.natAbs^e:Nat):Int):=by rw [Int.natCast_pow,←h0]
   rw [h1];simp [h]
theorem Me (h:Ax w v z) (bz:z.natAbs<P2 2496) (he:e<18446744073709551616) (hb:z.natAbs^e<P2 4990):Calls prog 97 #[v, .int .u64 e] w (Ei w (z^e)):=by
 obtain ⟨s,a,n,c,rfl,HS,hx⟩:=h;have hpw:=fun (wx:World) (hC:Ext w wx)=>qh (JB (hx.ext hC) bz he hb);have hand:bits BinOp.and IntKind.u64 (e:Int) 1=((e%2:Nat):Int):=by
  have:=bits_and_u64_nat e 1 he (by omega);rw [Nat.and_one_is_mod] at this;exact this
 have HPW:=qh (U4 (e:=e) HS.out);clear bz hb;obtain ⟨x,hxe⟩:∃ x,z.natAbs^e=x:=⟨_,rfl⟩;rw [hxe] at HPW;have hpw':=fun (wx:World) (hC:Ext w wx)=>by have:=hpw wx hC; rw [hxe] at this; exact this
 clear hpw hxe;cases s with
 | true =>
  by_cases hodd:e%2=1
  · rw [hodd] at hand;have HP2:Hid (z^e=if true=true then -(x:Int) else (x:Int)):=by show _=_; have:=HPW.out; simpa [hodd] using this
    clear HPW hodd
    go_enter func97,ntmps97
    go_upto_region 1 with (fail)
    refine F0 ?_;intro w0 hE0 hB0 hB1 hz0;have p00:=hB0.c 0 rfl;have p01:=hB0.c 1 rfl;have hR:Arr w0 (w.heap.size+1) 90 (Ab false none 0 0):=hB1;clear hz0
    go_wp2_with fail
    refine (hpw' _ hE0).out.mono ?_;rintro e2 w1 ⟨a2,n2,c2,rfl,hE1,hp⟩;have hsg:=qh (BM (neg:=true) hp HP2.out)
    go_wp2_with fail
    refine hsg.out.mono ?_;rintro e2 w2 ⟨s1,a1,n1,c1,rfl,hE2,HS1,hx1⟩;have hR1:=(hR.ext hE1).ext hE2
    go_wp2_with (refine Aa (vs:=Ab s1 a1 n1 c1) rfl rfl rfl rfl rfl Ad hR1 rfl (Ai _ _ _ _) ?_; intro w9 hB9 hg9)
    exact bodyPost_ret (Al rfl Ad rfl hB9) rfl (Bt ((hE0.trans hE1).trans hE2) hR1 (Aq _ _ _ _) hg9 (by omega) HS1 hx1)
  · have h0:e%2=0:=by omega
    rw [h0] at hand;have HP2:Hid (z^e=if false=true then -(x:Int) else (x:Int)):=by show _=_; have:=HPW.out; simpa [h0] using this
    clear HPW hodd h0
    go_enter func97,ntmps97
    go_upto_region 1 with (fail)
    refine F0 ?_;intro w0 hE0 hB0 hB1 hz0;have p00:=hB0.c 0 rfl;have p01:=hB0.c 1 rfl;have hR:Arr w0 (w.heap.size+1) 90 (Ab false none 0 0):=hB1;clear hz0
    go_wp2_with fail
    refine (hpw' _ hE0).out.mono ?_;rintro e2 w1 ⟨a2,n2,c2,rfl,hE1,hp⟩;have hsg:=qh (BM (neg:=false) hp HP2.out)
    go_wp2_with fail
    refine hsg.out.mono ?_;rintro e2 w2 ⟨s1,a1,n1,c1,rfl,hE2,HS1,hx1⟩;have hR1:=(hR.ext hE1).ext hE2
    go_wp2_with (refine Aa (vs:=Ab s1 a1 n1 c1) rfl rfl rfl rfl rfl Ad hR1 rfl (Ai _ _ _ _) ?_; intro w9 hB9 hg9)
    exact bodyPost_ret (Al rfl Ad rfl hB9) rfl (Bt ((hE0.trans hE1).trans hE2) hR1 (Aq _ _ _ _) hg9 (by omega) HS1 hx1)
 | false =>
  have HP2:Hid (z^e=if false=true then -(x:Int) else (x:Int)):=by show _=_; have:=HPW.out; simpa using this
  clear HPW hand
  go_enter func97,ntmps97
  go_upto_region 1 with (fail)
  refine F0 ?_;intro w0 hE0 hB0 hB1 hz0;have p00:=hB0.c 0 rfl;have p01:=hB0.c 1 rfl;have hR:Arr w0 (w.heap.size+1) 90 (Ab false none 0 0):=hB1;clear hz0
  go_wp2_with fail
  refine (hpw' _ hE0).out.mono ?_;rintro e2 w1 ⟨a2,n2,c2,rfl,hE1,hp⟩;have hsg:=qh (BM (neg:=false) hp HP2.out)
  go_wp2_with fail
  refine hsg.out.mono ?_;rintro e2 w2 ⟨s1,a1,n1,c1,rfl,hE2,HS1,hx1⟩;have hR1:=(hR.ext hE1).ext hE2
  go_wp2_with (refine Aa (vs:=Ab s1 a1 n1 c1) rfl rfl rfl rfl rfl Ad hR1 rfl (Ai _ _ _ _) ?_; intro w9 hB9 hg9)
  exact bodyPost_ret (Al rfl Ad rfl hB9) rfl (Bt ((hE0.trans hE1).trans hE2) hR1 (Aq _ _ _ _) hg9 (by omega) HS1 hx1)
def TO (z:Int):Value:=if -9223372036854775808≤z∧z≤9223372036854775807 then .tuple #[.int .i64 z, .bool true] else .tuple #[.int .i64 0, .bool false]
theorem I8 (h : -9223372036854775808≤z∧z≤9223372036854775807):TO z = .tuple #[.int .i64 z, .bool true]:=if_pos h
theorem GS (h:¬ (-9223372036854775808≤z∧z≤9223372036854775807)):TO z = .tuple #[.int .i64 0, .bool false]:=if_neg h
theorem QG (h:Ax w v z):Calls prog 104 #[v] w fun e w'=>e = .returned (TO z)∧Ext w w':=by
 obtain ⟨s,a,n,c,rfl,HS,hx⟩:=h;have hn0:=hx.zero;rcases Nat.lt_or_ge n 2 with hn2|hn2
 · by_cases hn:n=0
   · have HZ:Hid (TO z = .tuple #[.int .i64 0, .bool true]):=by
      have h0:z=0:=by have:=hn0.1 hn; omega
      rw [h0];exact qh (I8 (by omega))
     subst hn;clear hn0 hn2
     go_enter func104,ntmps104
     go_upto_region 1 with (fail)
     refine Bq ?_;intro w0 hE0 hB0 hz0;have p00:=hB0.c 0 rfl;have p01:=hB0.c 1 rfl;clear hz0;go_wp2
     go_ret2
     exact ⟨by rw [HZ.out]; rfl,hE0⟩
   · have hn1:n=1:=by omega
     subst hn1;obtain ⟨b,o,rfl,hc,k1,k2⟩:=hx.one;have hx1:(z.natAbs:Int)=if s=true then -z else z:=by have:=HS.out; cases s <;> simp at this ⊢ <;> omega
     clear hn0 hn hn2;cases s with
     | true =>
      simp only [if_true] at hx1;by_cases hr:z.natAbs≤9223372036854775808
      · have HZ:=qh (I8 (z:=z) (by omega));have hwr:IntKind.i64.wrap (IntKind.u64.wrap (-(z.natAbs:Int)))=z:=by rw [IntKind.wrap_u64,IntKind.wrap_i64]; omega
        have hle:(z.natAbs:Int)≤9223372036854775808:=by omega
        generalize z.natAbs=x at *
        clear hr hx1
        go_enter func104,ntmps104
        go_upto_region 1 with (fail)
        refine Bq ?_;intro w0 hE0 hB0 hz0;have p00:=hB0.c 0 rfl;have p01:=hB0.c 1 rfl;have hc0:=hE0.cell hc;clear hc;clear hz0;go_wp2
        go_ret2
        exact ⟨by rw [HZ.out,←hwr]; rfl,hE0⟩
      · have HZ:=qh (GS (z:=z) (by omega));have hle:¬ ((z.natAbs:Int)≤9223372036854775808):=by omega
        generalize z.natAbs=x at *
        clear hr hx1
        go_enter func104,ntmps104
        go_upto_region 1 with (fail)
        refine Bq ?_;intro w0 hE0 hB0 hz0;have p00:=hB0.c 0 rfl;have p01:=hB0.c 1 rfl;have hc0:=hE0.cell hc;clear hc;clear hz0;go_wp2
        go_ret2
        exact ⟨by rw [HZ.out]; rfl,hE0⟩
     | false =>
      simp only [Bool.false_eq_true,if_false] at hx1;by_cases hr:z.natAbs≤9223372036854775807
      · have HZ:=qh (I8 (z:=z) (by omega));have hwr:IntKind.i64.wrap (z.natAbs:Int)=z:=by rw [IntKind.wrap_i64]; omega
        have hle:(z.natAbs:Int)≤9223372036854775807:=by omega
        generalize z.natAbs=x at *
        clear hr hx1
        go_enter func104,ntmps104
        go_upto_region 1 with (fail)
        refine Bq ?_;intro w0 hE0 hB0 hz0;have p00:=hB0.c 0 rfl;have p01:=hB0.c 1 rfl;have hc0:=hE0.cell hc;clear hc;clear hz0;go_wp2
        go_ret2
        exact ⟨by rw [HZ.out,←hwr]; rfl,hE0⟩
      · have HZ:=qh (GS (z:=z) (by omega));have hle:¬ ((z.natAbs:Int)≤9223372036854775807):=by omega
        generalize z.natAbs=x at *
        clear hr hx1
        go_enter func104,ntmps104
        go_upto_region 1 with (fail)
        refine Bq ?_;intro w0 hE0 hB0 hz0;have p00:=hB0.c 0 rfl;have p01:=hB0.c 1 rfl;have hc0:=hE0.cell hc;clear hc;clear hz0;go_wp2
        go_ret2
        exact ⟨by rw [HZ.out]; rfl,hE0⟩
 · have hbig:=hx.big hn2;have HZ:=qh (GS (z:=z) (by omega));obtain ⟨xs,h1,h2⟩:=hx;obtain ⟨b,o,rfl,hcc⟩:=h1.at (j:=0) (by omega);have hc:=hcc 0 (by omega);rw [Nat.add_zero] at hc;have hnb:((n:Int) == 0)=false:=by simp; omega
   have hgt:(1:Int)<(n:Int):=by omega
   generalize xs.getD 0 0=x at *
   clear hbig hn0 hcc
   go_enter func104,ntmps104
   go_upto_region 1 with (fail)
   refine Bq ?_;intro w0 hE0 hB0 hz0;have p00:=hB0.c 0 rfl;have p01:=hB0.c 1 rfl;have hc0:=hE0.cell hc;clear hc;clear hz0;go_wp2
   go_ret2
   exact ⟨by rw [HZ.out]; rfl,hE0⟩
def AO (b:UInt8):Value := .int .u8 (b.toNat:Int)
def Am (s:ByteArray):List UInt8:=s.data.toList
theorem AJ (s:ByteArray):(Am s).length=s.size:=by unfold Am; rw [Array.length_toList]; rfl
theorem AU (l:List UInt8):Am ⟨l.toArray⟩=l:=rfl
theorem TP (h:Am s=Am t):s=t:=by
 cases s with | mk a=>cases t with | mk b =>
 unfold Am at h;simp only at h;have:=Array.ext' h;rw [this]
theorem B1 (s:ByteArray) (i j:Nat):Am (s.extract i j)=((Am s).drop i).take (j-i):=by
 unfold Am;rw [ByteArray.data_extract,Array.toList_extract]
theorem FH (l:List UInt8):∀ v∈l.map AO,v.oneCell'=true:=by
 intro v hv;obtain ⟨b,_,rfl⟩:=List.mem_map.1 hv;rfl
section
variable {P:Program} {w:World}
theorem Nk {e:TypeId} {u:TypeDesc} (hs:P.underlying src=some u) (hd:P.underlying dst=some (.slice e)) (he:P.underlying e=some (.int .u8)) (hm:s.size≤maxLen) :
 ∃ c w',(convert src dst (.string s)).run P w = .ok (.slice (some ⟨w.heap.size,0,none⟩) s.size c) w'∧Ext w w'∧Sl w' (some ⟨w.heap.size,0,none⟩) s.size c ((Am s).map AO):=by
 refine ⟨_,_,Lib.run_convert_string_bytes w src dst e s hs hd he, ?_, ?_⟩
 · refine ⟨rfl,rfl,rfl,by rw [Lib.bytesWorld_size]; omega,fun k hk=>Lib.bytesWorld_at_old w e s k hk⟩
 · refine ⟨by rw [List.length_map,AJ],grownCap_ge w s.size 0 e,grownCap_le_maxLen w s.size 0 e hm,fun _=>⟨w.heap.size,0,rfl,fun i hi => ?_⟩⟩;rw [Nat.zero_add,Lib.bytesWorld_cell w e s i hi];have h1:i<(Am s).length:=by rw [AJ]; exact hi
   have h2:s.data.toList.getD i 0=(Am s)[i]:=by
    show (Am s).getD i 0=_;rw [gqq,List.getElem?_eq_getElem h1];rfl
   rw [h2];simp [h1,AO]
theorem OG (hgd:o.guard=none) (ho:o.op = .convert src dst x)
 {e:TypeId} {s:ByteArray} {u:TypeDesc} (hs:P.underlying src=some u) (hd:P.underlying dst=some (.slice e)) (he:P.underlying e=some (.int .u8)) (hx:f.eval x = .string s) (hm:s.size≤maxLen)
 (hK:∀ c w',Ext w w'→Sl w' (some ⟨w.heap.size,0,none⟩) s.size c ((Am s).map AO)→wpList P ops Q rest (f.put o.dst (.slice (some ⟨w.heap.size,0,none⟩) s.size c)) w'):wpList P ops Q (o :: rest) f w:=by
 refine wpList_plain hgd fun K hK' => ?_;obtain ⟨c,w',hrun,h2,h3⟩:=Nk (P:=P) (w:=w) hs hd he hm;unfold Oper.wp execOp;simp only [ho,hx,Sem.run_bind,hrun,Result.andThen_ok,Sem.run_pure,Oper.upon];exact hK' _ _ (hK c w' h2 h3)
theorem KV {e:TypeId} {a:Option Addr} {l:List UInt8} (hs:P.underlying src=some (.slice e)) (he:P.underlying e=some (.int .u8)) (hd:P.underlying dst=some .string) (hl:Sl w a n c (l.map AO)) :
 (convert src dst (.slice a n c)).run P w = .ok (.string ⟨l.toArray⟩) w:=by
 have hn:n=l.length:=by have:=hl.len; simpa using this.symm
 subst hn;cases a with
 | none =>
  have h0:l=[]:=by
   rcases Nat.eq_zero_or_pos l.length with h|h
   · exact List.eq_nil_of_length_eq_zero h
   · obtain ⟨b,o,h1,_⟩:=hl.rd h;cases h1
  subst h0;show (convert src dst (.slice none 0 c)).run P w=_;rw [run_convert_bytes_string w src dst e none 0 c hs he hd];simp [Conv.bytesToString];rfl
 | some ad =>
  refine run_convert_bytes_back w src dst e ad c l hs he hd fun j hj => ?_;obtain ⟨b,o,h1,hc⟩:=hl.rd (by omega);simp only [Option.some.injEq] at h1;subst h1;have h2:=hc j hj;have h3:(l.map AO).getD j undef = .int .u8 (l[j].toNat:Int):=by simp [hj,AO]
  rw [h3] at h2;rw [←h2];unfold Addr.add;by_cases h0:j=0 <;> simp [h0]
theorem EH (hgd:o.guard=none) (ho:o.op = .convert src dst x)
 {e:TypeId} {a:Option Addr} {n c:Nat} {l:List UInt8} (hs:P.underlying src=some (.slice e)) (he:P.underlying e=some (.int .u8)) (hd:P.underlying dst=some .string) (hx:f.eval x = .slice a n c) (hl:Sl w a n c (l.map AO))
 (hK:wpList P ops Q rest (f.put o.dst (.string ⟨l.toArray⟩)) w):wpList P ops Q (o :: rest) f w:=by
 refine wpList_plain hgd fun K hK' => ?_;have hrun:=KV (P:=P) (w:=w) hs he hd hl;unfold Oper.wp execOp;simp only [ho,hx,Sem.run_bind,hrun,Result.andThen_ok,Sem.run_pure,Oper.upon];exact hK' _ _ hK
end
end Go.Proofs.YtlpgonpfjbhmfaaGreatDoor
