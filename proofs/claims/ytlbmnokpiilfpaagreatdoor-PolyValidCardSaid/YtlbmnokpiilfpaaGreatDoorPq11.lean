/- Part Pq11. -/
import Derived.Test.YtlbmnokpiilfpaaGreatDoorPq10
import Derived.Test.YtlbmnokpiilfpaaGreatDoorPq9
import Derived.Lib.ConvBytes
import Derived.Laws.IdiomStrings
import Derived.Lib.ItoaNum
set_option linter.all false
set_option maxRecDepth 100000
set_option maxHeartbeats 100000000
namespace Go.Proofs.YtlbmnokpiilfpaaGreatDoor
open Tryz Go Go.RowKit
def m7:=@List.foldl_cons
def oU:=@UInt8.toNat_inj
variable {a f:Act} {ops:Array Oper} {s t:ByteArray} {Q:Exit->Act->World->Prop} {z:Int} {l rest:List Oper} {c e i j n:Nat} {o:Oper} {x:Operand} {dst src:TypeId} {v:Value} {w:World}
def Tp(P:Program)(ops:Array Oper)(o:Oper)(a:Act)(w:World)(u:Value)(w':World):Prop :=
 Region.wanted o (yielded ops a.tmps)=true->match (execOp a.eval o).run P w with | .ok (.value v) wv=>u=v/\w'=wv | .ok .skip wv=>w'=wv | _=>True
section
variable {P:Program} {Q:Exit->Act->World->Prop}
theorem Le{R:Value->World->Prop}{K:Act->World->Prop}(h:Gy P R ((execOp a.eval o).run P w))
 (c:∀ u b,R u b->(match (execOp a.eval o).run P w with | .ok (.value v) wv=>u=v/\b=wv | .ok .skip wv=>b=wv | _=>True)->K (a.put o.dst u) b):o.wp P a w K Q:=by
 unfold Oper.wp;generalize (execOp a.eval o).run P w=r at *
 cases r with
 | ok n b =>
  cases n <;> simp only[Gy]at h <;> simp only[Oper.upon]
  case value u=>exact c u b h ⟨rfl,rfl⟩
  case skip=>exact c undef b h rfl
  case enter f args=>exact h.mono fun e d ⟨u,he,g⟩=>by subst he;exact c u d g trivial
 | halt x b=>simp only[Gy]at h
end
section
variable {P:Program} {ops:Array Oper} {hs:List Hd} {a0:Act} {C:World->Prop} {Q:Exit->Act->World->Prop}
theorem R4(a8:MX P C ops hs a0 0 ops.toList hs)(ae:GZ hs)(ab:∀ w m,Ext w m->C w->C m){listed:Array Bool}{a:Act}{w:World}
 (e:I6 ops hs a0 C listed a w) {i:Nat} (hi:i∈Region.ready .any ops listed) (a2:i<hs.length)
 (ad:∀ o,ops[i]?=some o->EF ops (hs.map (·.cons)) hs.length a0.tmps.size i o) {K:Act->World->Prop}
 (hK:∀ o u m,ops[i]?=some o->(ED C ops hs i o (AQ hs i) w u m\/m=w)->Tp P ops o a w u m->I6 ops hs a0 C (listed.setIfInBounds i true) (a.put o.dst u) m->K (a.put o.dst u) m):wpOp P ops Q i K a w:=by
 obtain⟨h0,o,L,N⟩:=E9 hi;have V:=ad o L;have a1:i<listed.size:=by
  rw[e.size];exact(iS.1 L).1
 have Z:listed.getD i false=false:=by
  simpa[a1]using h0
 have y:listed.getD i false≠true:=by rw[Z];simp
 have R:(listed.setIfInBounds i true).getD i false=true:=by simp[a1]
 have A:obl P C ops hs a0 i o (AQ hs i):=by
  have:=Ou hs ops.toList 0 a8 i o (by simpa using L) a2;simpa[AQ]using this
 -- the operands
 have a9:Cq ops hs a0 o a.eval w o.op.operands.toList:=by
  refine Ke fun x hx => ?_;cases x with
  | tmp t =>
   have a6:t∈Em ops o:=by
    unfold Em PW;rw[iw];left;rw[List.mem_filterMap];exact⟨_,hx,rfl⟩
   simp only[Ln];cases a5:Oo ops o t with
   | none =>
    simp only[Act.eval];refine e.frame t fun j g H n => ?_;rcases V.look t a6 j g n with h|h|h
    · subst h;exact y H
    · exact Kd a5 h n
    · exact y (e.closed j H i h)
   | some j =>
    obtain⟨U,S⟩:=Kc a5;have T:j<hs.length:=by have:=V.lt j U;omega
    have a3:=N j U;simp only;cases f:(AQ hs j).ty with
    | eq c=>exact e.values j c T a3 f t S
    | pr p =>
     obtain⟨v,q,Y⟩:=e.facts j T a3 (by
      intro k D;have:=V.cons j U k (by rw[Ov T];exact D);rcases this with h|h|h
      · subst h;exact Z
      · by_cases E:listed.getD k false=true
        · exact absurd (e.closed k E i h) y
        · simpa using E
      · exact absurd S (h t a6))
     rw[f]at q;exact⟨v,Y t S,q⟩
  | _=>trivial
 -- behind the operation
 have s:∀ u m,C m->(AQ hs i).ty.ok u m ->
  (∀ j,j<hs.length->j≠i->listed.getD j false=true->(∀ k,(AQ hs j).cons=some k->(listed.setIfInBounds i true).getD k false=false)->∀ v,(AQ hs j).ty.ok v w->(AQ hs j).ty.ok v m) ->
  I6 ops hs a0 C (listed.setIfInBounds i true) (a.put o.dst u) m:=by
  intro u m hC hu W;have F:∀ j,j<hs.length->j≠i->∀ d,Bf ops j=some d->(a.put o.dst u).tmps.getD d undef=a.tmps.getD d undef:=by
   intro j g z d n;cases M:o.dst with
   | none=>rfl
   | some d' =>
    rw[CE];have:d'≠d:=by
     rintro rfl;have:=V.apart j g z (by rw[n,M]);rw[M]at this;cases this
    rw[gT (fun h=>this h.1)]
  have O:∀ d,Bf ops i=some d->(a.put o.dst u).tmps.getD d undef=u:=by
   intro d n;rw[B7 L]at n;rw[n,CE,gY ⟨rfl,by rw[e.tmps];exact V.dst d n⟩]
  have r:∀ j,j≠i->(listed.setIfInBounds i true).getD j false=true->listed.getD j false=true:=by
   intro j z h
   rwa[nK false (Ne.symm z)]at h
  refine⟨by rw[pe];exact e.size,?_,?_,hC,by rw[Gz];exact e.defers,by rw[G0];exact e.tmps,?_,?_,?_⟩
  · intro j g;rw[nK false (by omega)];exact e.tailF j g
  · intro j g p hp;by_cases l:j=i
    · subst l;rw[Fa L]at hp;exact kV (N p hp)
    · exact kV (e.closed j (r j l g) p hp)
  · intro t ht;have h1:o.dst≠some t:=by
     have:=ht i a2 R
     rwa[B7 L]at this
    have h2:a.tmps.getD t undef=a0.tmps.getD t undef:=e.frame t fun j g H=>ht j g (kV H);cases M:o.dst with
    | none=>exact h2
    | some d' =>
     rw[CE,gT (fun h=>h1 (by rw[M,h.1]))];exact h2
  · intro j g H I;by_cases l:j=i
    · subst l;exact⟨u,hu,O⟩
    · have a4:=r j l H
      obtain⟨v,q,Y⟩:=e.facts j g a4 (by
       intro k D;have:=I k D;by_cases E:listed.getD k false=true
       · rw[kV E]at this;cases this
       · simpa using E)
      exact⟨v,W j g l a4 I v q,fun d n=>by rw[F j g l d n];exact Y d n⟩
  · intro j c g H f d n;by_cases l:j=i
    · subst l;rw[f]at hu;rw[O d n];exact hu
    · rw[F j g l d n];exact e.values j c g (r j l H) f d n
 -- the guard
 have G:=Oq V.grd (fun j g c f d n=>e.values j c (by have:=V.lt j g;omega) (N j g) f d n);unfold wpOp;rw[L];simp only;unfold obl at A;cases hw:Cr hs o with
 | none=>rw[hw]at A;exact A.elim
 | some b =>
  rw[hw]at A;rw[G b hw];cases b with
  | true =>
   rw[gY rfl];left;refine Le (A a.eval w (J9 a) e.world a9) fun u m B q=>hK o u m L (Or.inl B) (fun _=>q) ?_;unfold ED at B;cases f:(AQ hs i).ty with
   | eq c =>
    rw[f]at B;obtain⟨rfl,rfl⟩:=B;exact s u m e.world (by rw[f];rfl) fun _ _ _ _ _ v q=>q
   | pr p =>
    rw[f]at B;simp only at B;by_cases hmu:(AQ hs i).mu=true
    · rw[gY hmu]at B;obtain⟨aa,ac,hp⟩:=B;refine s u m aa (by rw[f];exact hp) fun j g z H I v q => ?_;cases X:(AQ hs j).ty with
      | eq c=>rw[X]at q;exact q
      | pr p' =>
       rw[<-X];refine Ik ac j (by simpa using g) ?_ v q;have c1:i ∉ anc ops 3 (Cy ops j):=fun h=>y (CM e.closed 3 _ (e.closed j H) i h);have c2:∀ k,(AQ hs j).cons=some k->k≠i/\k ∉ anc ops 3 (B4 o):=by
        intro k D;have J:=I k D;refine⟨?_,fun hm => ?_⟩
        · rintro rfl;rw[R]at J;cases J
        · rw[kV (CM e.closed 3 _ N k hm)]at J;cases J
       unfold D8;rw[X];cases hc:(AQ hs j).cons with
       | none=>simp[z,c1]
       | some k =>
        obtain⟨d1,d2⟩:=c2 k hc;simp[z,c1,d1,d2]
    · rw[gT hmu]at B
      exact s u m (ab w m B.1 e.world) (by rw[f];exact B.2) fun j g _ _ _ v q =>
       Q6 (Il ae _ (by rw[AQ,gqq,gD g];simp)) B.1 q
  | false =>
   simp only[lA,mV];exact hK o undef w L (Or.inr rfl) (fun a7=>by rw[G false hw]at a7;cases a7) (s undef w e.world (A w e.world) fun _ _ _ _ _ v q=>q)
end
section
variable {P:Program} {Q:Exit->Act->World->Prop}
theorem Ia{id:Nat}(hm:P.follows .mixedOrders=true)(C:World->Prop)(b:List Hd)
 (U:CX l.toArray (b.map (·.cons)) a.tmps.size=true)
 (a9:∀ w f,Ext w f->C w->C f) (hC:C w.drew) (ah:GZ b)
 (a6:MX P C l.toArray b a 0 l b) (J:Array Bool->Act->World->Prop) (aa:J (Array.replicate l.toArray.size false) a w.drew)
 (hJ:∀ listed r f i o u O,I6 l.toArray b a C listed r f->J listed r f->i<b.length->l.toArray[i]?=some o->listed.getD i false=false->(∀ p∈B4 o,listed.getD p false=true)->(ED C l.toArray b i o (AQ b i) f u O\/O=f)->Tp P l.toArray o r f u O->I6 l.toArray b a C (listed.setIfInBounds i true) (r.put o.dst u) O->(∀ j,j<b.length->j≠i->AX l.toArray j (r.put o.dst u)=AX l.toArray j r)->(∀ d,o.dst=some d->AX l.toArray i (r.put o.dst u)=u)->J (listed.setIfInBounds i true) (r.put o.dst u) O)
 (Z:∀ f,C f->EE f (fun r=>J ((Array.range l.toArray.size).map (fun j=>decide (j<b.length))) r f->wpList P l.toArray Q (l.drop b.length) r f) l b a):(Code.region id l.toArray true).wp P Q a w:=by
 refine pf hm ?_;unfold CX at U;simp only[jn,iM,jV]at U;obtain⟨⟨⟨hn,W⟩,ak⟩,M⟩:=U;have al:l.toArray.size=l.length:=by simp
 have g:∀ i o,l.toArray[i]?=some o->(i<b.length->EF l.toArray (b.map (·.cons)) b.length a.tmps.size i o)/\(b.length<=i->Ho l.toArray b.length i o=true):=by
  intro i o x;have L:i<l.toArray.size:=(iS.1 x).1;have:=jI.1 W i (by simpa using L);rw[x]at this;simp only at this;refine⟨fun h => ?_,fun h => ?_⟩
  · rw[gY h]at this;exact IJ this
  · rw[gT (by omega)]at this;exact this
 have aj:∀ m listed r f,unl listed b.length=m->I6 l.toArray b a C listed r f->J listed r f->wpAny P .any l.toArray Q (m+(l.toArray.size-b.length)) listed r f:=by
  intro m
  induction m with
  | zero =>
   intro listed r f hu e R;have s:=G5 hu;have B:listed=(Array.range l.toArray.size).map (fun j=>decide (j<b.length)):=by
    apply Array.ext
    · rw[e.size];simp
    · intro i h1 h2;simp only[Array.getElem_map,Array.getElem_range];by_cases L:i<b.length
      · have:=s i L;simp[h1]at this;simp[this,L]
      · have:=e.tailF i (by omega);simp[h1]at this;simp[this,L]
   -- the frame
   have ha:r=De (fun j=>match Bf l.toArray j with | some d=>r.tmps.getD d undef | none=>Classical.epsilon (fun v=>(AQ b j).ty.ok v f)) 0 l b a:=by
    apply Q7
    · rw[Gl];exact e.defers
    · rw[IK];exact e.tmps
    · intro t;by_cases S:∃ j o,j<b.length/\l[j]?=some o/\o.dst=some t
      · obtain⟨j,o,D,x,q⟩:=S;have a4:l.toArray[j]?=some o:=by simpa using x
        have A:=(g j o a4).1 D
        rw[Kg b l 0 a j o D x q (A.dst t q) (by
         intro k' o' af T ab;have a5:l.toArray[k']?=some o':=by simpa using T
         by_cases a3:k'=j
         · exact a3
         · have:=A.apart k' af a3 (by rw[B7 a5,ab,q]);rw[q]at this
           cases this)]
        rw[iz,B7 a4,q]
      · rw[Fb b l 0 a (fun k o H x q=>S ⟨k,o,H,x,q⟩)];refine e.frame t fun j D _ q=>S ?_;unfold Bf at q;cases x:l.toArray[j]? with
        | none=>rw[x]at q;cases q
        | some o=>rw[x]at q;exact⟨j,o,D,by simpa using x,q⟩
   have K:=Kf (vs:=fun j=>match Bf l.toArray j with | some d=>r.tmps.getD d undef | none=>Classical.epsilon (fun v=>(AQ b j).ty.ok v f)) b l 0 a (Z f e.world)
    (by
     intro k H c X;rw[iz];cases q:Bf l.toArray k with
     | some d=>exact e.values k c H (s k H) X d q
     | none =>
      have:(AQ b k).ty.ok (Classical.epsilon (fun v=>(AQ b k).ty.ok v f)) f:=by
       apply lT (p:=fun v=>(AQ b k).ty.ok v f);refine⟨c,?_⟩;rw[show(AQ b k).ty = .eq c from X];rfl
      have h2:(AQ b k).ty = .eq c:=X;rw[h2]at this;simp only[Ty.ok]at this;rw[h2]
      exact this)
    (by
     intro k H p hp X;rw[iz]
     obtain⟨v,hv,ai⟩:=e.facts k H (s k H) (by
      intro k' Y;have h1:(AQ b k).cons=none:=X;rw[h1]at Y
      cases Y)
     have h2:(AQ b k).ty = .pr p:=hp;cases q:Bf l.toArray k with
     | some d =>
      simp only;rw[ai d q];rw[h2]at hv;exact hv
     | none =>
      have:(AQ b k).ty.ok (Classical.epsilon (fun v=>(AQ b k).ty.ok v f)) f:=lT (p:=fun v=>(AQ b k).ty.ok v f) ⟨v,hv⟩;simp only;rw[h2]at this |-
      exact this)
   rw[<-ha]at K;rw[iz];have hl:(l.drop b.length).length=l.toArray.size-b.length:=by simp
   rw[<-hl];rw[<-hl,<-B]at M;exact wpAny_of_seq (l.drop b.length) b.length listed r f (by intro j;simp) M (K (B ▸ R))
  | succ m ih =>
   intro listed r f hu e R;rw[show m+1+(l.toArray.size-b.length)=(m+(l.toArray.size-b.length))+1 by omega];refine⟨fun F => ?_,fun i L => ?_⟩
   · obtain⟨j,D,G,ae⟩:=G6 (listed:=listed) (n:=b.length) (by omega);have a2:j<l.toArray.size:=by omega
     have x:l.toArray[j]?=some l.toArray[j]:=kR a2;have A:=(g j _ x).1 D
     have:j∈Region.ready .any l.toArray listed:=Ot (by
      have:j<listed.size:=by rw[e.size];exact a2
      simpa[this]using G) x (fun p hp=>ae p (A.lt p hp))
     rw[F]at this;cases this
   · obtain⟨h0,o,x,V⟩:=E9 L;have a1:i<listed.size:=by rw[e.size];exact(iS.1 x).1
     have a0:listed.getD i false=false:=by simpa[a1]using h0
     have z:i<b.length:=by
      rcases iH i b.length with h|h
      · exact h
      · exfalso;have ht:=(g i o x).2 h;unfold Ho at ht;simp only[mH,jI,lQ,jA,List.any_eq_true,jn,jV]at ht;rcases ht with ht|⟨k,H,ag,_⟩
        · obtain⟨j,D,G,_⟩:=G6 (listed:=listed) (n:=b.length) (by omega);rw[CM e.closed 12 (B4 o) V j (ht j D)]at G;cases G
        · have:=V k H;rw[e.tailF k ag]at this;cases this
     refine R4 (by simpa using a6) ah a9 e L z (fun o' T=>(g i o' T).1 z) fun o2 u O y a7 a8 N => ?_;refine ih _ _ O ?_ N (hJ listed r f i o2 u O e R z y a0 (by rw[x]at y;simp only[gK]at y;rw[<-y];exact V) a7 a8 N ?_ ?_);rotate_left
     · intro j D ad;have A:=(g i o2 y).1 z;cases q:o2.dst with
       | none=>rfl
       | some d =>
        unfold AX;cases ac:Bf l.toArray j with
        | none=>rfl
        | some dj =>
         simp only;rw[CE,gT];intro hh;have:=A.apart j D ad (by rw[ac,q,hh.1]);rw[q]at this;cases this
     · intro d q;unfold AX;rw[B7 y,q];simp only;rw[CE,gY ⟨rfl,by rw[e.tmps];exact(g i o2 y).1 z |>.dst d q⟩]
     have:=MZ a1 a0 z;omega
 have I:I6 l.toArray b a C (Array.replicate l.toArray.size false) a w.drew:=by
  have A:∀ j,(Array.replicate l.toArray.size false).getD j false=false:=fun j=>kT _ j;refine⟨by simp,fun j _=>A j,(fun j h=>by rw[A j]at h;cases h),hC,rfl,rfl,fun _ _=>rfl,(fun j _ h=>by rw[A j]at h;cases h),(fun j c _ h=>by rw[A j]at h;cases h)⟩
 have E:unl (Array.replicate l.toArray.size false) b.length=b.length:=by
  have:∀ n,unl (Array.replicate l.toArray.size false) n=n:=by
   intro n
   induction n with
   | zero=>rfl
   | succ n ih=>rw[unl,ih,kT];simp
  exact this _
 have:=aj b.length _ a w.drew E I aa
 rwa[show b.length+(l.toArray.size-b.length)=l.toArray.size by omega]at this
end
structure XX(l:List Oper)(k1 k2 s1 j1:Nat)(T:TypeId)(zs:List Value)(base:Nat)(listed:Array Bool)(a:Act)(w:World):Prop where
 p1:listed.getD k1 false=true->∃ g,AX l.toArray k1 a = .pointer (some ⟨g,0,none⟩)/\base<=g/\g<w.heap.size/\(listed.getD s1 false=false->Arr w g T zs)/\(listed.getD s1 false=true->∃ cs:List Value,AX l.toArray j1 a = .agg cs.toArray/\Arr w g T cs)
 p2:listed.getD k2 false=true->∃ g,AX l.toArray k2 a = .pointer (some ⟨g,0,none⟩)/\base<=g/\g<w.heap.size/\Arr w g T zs
 ne:listed.getD k1 false=true->listed.getD k2 false=true->AX l.toArray k1 a≠AX l.toArray k2 a
 js:listed.getD s1 false=true->listed.getD j1 false=true/\listed.getD k1 false=true
 lo:base<=w.heap.size
theorem Ba{listed:Array Bool}(h:j≠i):(listed.setIfInBounds i true).getD j false=listed.getD j false:=by
 have a:¬ i=j:=fun e=>h e.symm;rw[ki,oT,gT a,ki]
section
variable {P:Program} {Q:Exit->Act->World->Prop}
theorem DR{id:Nat}(hm:P.follows .mixedOrders=true)(C:World->Prop)(y:List Hd)
 (ad:CX l.toArray (y.map (·.cons)) a.tmps.size=true)
 (an:∀ w q,Ext w q->C w->C q) (hC:C w.drew) (aB:GZ y)
 (ai:MX P C l.toArray y a 0 l y) (s A s1 F:Nat) (T:TypeId) (zs:List Value)
 (hn:s<y.length/\A<y.length/\s1<y.length/\F<y.length) (ap:s≠A/\s≠s1/\A≠s1/\F≠s1/\F≠s/\F≠A)
 (hk:∀ k,k=s\/k=A->∀ o,l.toArray[k]?=some o->o.guard=none/\o.dst.isSome=true/\∀ ρ wx,(execOp ρ o).run P wx = .ok (.value (.pointer (some ⟨wx.heap.size,0,none⟩))) (wx.alloc (.cells zs.toArray T)))
 (az:∀ o,l.toArray[s1]?=some o->o.guard=none/\o.dst=none/\∃ d1 dj,Bf l.toArray s=some d1/\Bf l.toArray F=some dj/\o.op = .store T (.tmp d1) (.tmp dj))
 (a3:s∈Cy l.toArray s1/\F∈Cy l.toArray s1)
 (ax:∀ i,i<y.length->i≠s1->(AQ y i).mu=false)
 (ao:Agg P T zs.length)
 (ab:(AQ y F).cons=none/\∀ v w,(AQ y F).ty.ok v w->∃ cs:List Value,v = .agg cs.toArray/\cs.length=zs.length/\∀ x∈cs,x.oneCell'=true)
 (ah:∀ q,C q->EE q (fun G=>(∃ (g1 g2:Nat) (cs:List Value),AX l.toArray s G = .pointer (some ⟨g1,0,none⟩)/\AX l.toArray A G = .pointer (some ⟨g2,0,none⟩)/\w.heap.size<=g1/\w.heap.size<=g2/\g1≠g2/\AX l.toArray F G = .agg cs.toArray/\Arr q g1 T cs/\Arr q g2 T zs)->wpList P l.toArray Q (l.drop y.length) G q) l y a):(Code.region id l.toArray true).wp P Q a w:=by
 refine Ia hm C y ad an hC aB ai (fun f G q=>XX l s A s1 F T zs w.heap.size f G q) ?_ ?_ ?_
 · refine⟨fun h => ?_,fun h => ?_,fun h => ?_,fun h => ?_,lrf _⟩
   all_goals (rw[kT]at h;cases h)
 · intro f G q i o u w2 a4 J aw ho a1 ae n a5 aF m ak;obtain⟨n1,n2,n3,n4⟩:=hn;obtain⟨d1,d2,d3,d4,d5,d6⟩:=ap;by_cases a2:i=s1
   · subst a2;obtain⟨hg,aE,t1,tj,e1,e2,ay⟩:=az o ho;rw[Fa ho]at a3;have Y:=ae s a3.1;have ac:=ae F a3.2;obtain⟨g,a0,aq,ar,au,_⟩:=J.p1 Y;obtain⟨v,hv,aC⟩:=a4.facts F n4 ac (fun k a8=>by rw[ab.1]at a8;cases a8);obtain⟨cs,rfl,a9,aj⟩:=ab.2 v q hv;have af:=aC tj e2;have al:G.tmps.getD t1 undef = .pointer (some ⟨g,0,none⟩):=by
      have:=a0;unfold AX at this;rw[e1]at this;exact this
     have hA:=au a1;have U:(execOp G.eval o).run P q = .ok .skip (q.setRow g cs.toArray):=by
      have:=DG (P:=P) (w:=q) (ty:=T) (g:=g) (t:=T) (cs:=zs) (vs:=cs) (by rw[a9];exact ao) hA a9.symm aj;have e3:G.eval (.tmp t1) = .pointer (some ⟨g,0,none⟩):=al;have e4:G.eval (.tmp tj) = .agg cs.toArray:=af;simp only[execOp,ay,e3,e4,ij,this,gS,iF]
     have ag:w2=q.setRow g cs.toArray:=by
      have:=a5 (by unfold Region.wanted;rw[hg]);rw[U]at this;exact this
     have z:q.grownBy w2 (some g):=by rw[ag];exact BK q g _
     have hA2:Arr w2 g T cs:=by rw[ag];exact Cm hA cs
     have L:(f.setIfInBounds i true).getD i false=true:=by
      have:i<f.size:=by rw[a4.size];exact(iS.1 ho).1
      simp[this]
     refine⟨fun _=>⟨g,by rw[m s n1 d2,a0],aq,ib ar z.size,(fun h=>by rw[L]at h;cases h),fun _=>⟨cs,?_,hA2⟩⟩,fun h => ?_,fun h1 h2 => ?_,fun _=>⟨by rw[Ba d4];exact ac,by rw[Ba d2];exact Y⟩,gJ J.lo z.size⟩
     · rw[m F n4 d4];unfold AX;rw[e2];exact af
     · rw[Ba d3]at h;obtain⟨g',B,R,W,Z⟩:=J.p2 h;have E:=J.ne Y h;rw[a0,B]at E;refine⟨g',by rw[m A n2 d3,B],R,ib W z.size,Z.kept z ?_⟩;intro e;simp only[gK]at e;subst e;exact E rfl
     · rw[Ba d3]at h2;rw[m s n1 d2,m A n2 d3];exact J.ne Y h2
   · have hE:Ext q w2:=by
      rcases n with n|n
      · unfold ED at n;cases V:(AQ y i).ty with
        | eq c=>rw[V]at n;rw[n.1];exact Ext.refl _
        | pr p =>
         rw[V]at n;simp only[ax i aw a2]at n;exact n.1
      · rw[n];exact Ext.refl _
     have I:(f.setIfInBounds i true).getD s1 false=f.getD s1 false:=Ba (fun e=>a2 e.symm);have L:(f.setIfInBounds i true).getD i false=true:=by
      have:i<f.size:=by rw[a4.size];exact(iS.1 ho).1
      simp[this]
     have X:i=s\/i=A->AX l.toArray i (G.put o.dst u) = .pointer (some ⟨q.heap.size,0,none⟩)/\w2=q.alloc (.cells zs.toArray T):=by
      intro av;obtain⟨hg,aa,U⟩:=hk i av o ho;have:=a5 (by unfold Region.wanted;rw[hg]);rw[U]at this;obtain⟨e1,e2⟩:=this;cases hd:o.dst with
      | none=>rw[hd]at aa;cases aa
      | some d =>
       have:=ak d hd;rw[hd]at this;exact⟨by rw[this,e1],e2⟩
     have a6:s≠i->(f.setIfInBounds i true).getD s false=true->∃ g,AX l.toArray s (G.put o.dst u) = .pointer (some ⟨g,0,none⟩)/\w.heap.size<=g/\g<q.heap.size/\((f.setIfInBounds i true).getD s1 false=false->Arr w2 g T zs)/\((f.setIfInBounds i true).getD s1 false=true->∃ cs:List Value,AX l.toArray F (G.put o.dst u) = .agg cs.toArray/\Arr w2 g T cs):=by
      intro E h;rw[Ba E]at h;obtain⟨g,B,R,W,Z,q5⟩:=J.p1 h;refine⟨g,by rw[m s n1 E,B],R,W,fun hf => ?_,fun ht => ?_⟩
      · rw[I]at hf;exact(Z hf).ext hE
      · rw[I]at ht;obtain⟨cs,S,r2⟩:=q5 ht;have H:F≠i:=by
         rintro rfl;have:=(J.js ht).1;rw[a1]at this;cases this
        exact⟨cs,by rw[m F n4 H,S],r2.ext hE⟩
     have a7:A≠i->(f.setIfInBounds i true).getD A false=true->∃ g,AX l.toArray A (G.put o.dst u) = .pointer (some ⟨g,0,none⟩)/\w.heap.size<=g/\g<q.heap.size/\Arr w2 g T zs:=by
      intro E h;rw[Ba E]at h;obtain⟨g,B,R,W,Z⟩:=J.p2 h;exact⟨g,by rw[m A n2 E,B],R,W,Z.ext hE⟩
     refine⟨fun h => ?_,fun h => ?_,fun h1 h2 => ?_,fun h => ?_,gJ J.lo hE.size⟩
     · by_cases N:i=s
       · subst N;obtain⟨S,r2⟩:=X (Or.inl rfl);have aA:f.getD s1 false=false:=by
          cases hh:f.getD s1 false with
          | false=>rfl
          | true=>have:=(J.js hh).2;rw[a1]at this;cases this
         refine⟨q.heap.size,S,J.lo,by rw[r2];simp,fun _=>by rw[r2];exact Arr.new q T zs,fun ht => ?_⟩;rw[I,aA]at ht;cases ht
       · obtain⟨g,B,R,W,Z,q5⟩:=a6 (fun e=>N e.symm) h;exact⟨g,B,R,ib W hE.size,Z,q5⟩
     · by_cases O:i=A
       · subst O;obtain⟨S,r2⟩:=X (Or.inr rfl);exact⟨q.heap.size,S,J.lo,by rw[r2];simp,by rw[r2];exact Arr.new q T zs⟩
       · obtain⟨g,B,R,W,Z⟩:=a7 (fun e=>O e.symm) h;exact⟨g,B,R,ib W hE.size,Z⟩
     · by_cases N:i=s
       · subst N;obtain⟨S,_⟩:=X (Or.inl rfl);obtain⟨g,B,_,W,_⟩:=a7 (fun e=>d1 e.symm) h2;rw[S,B];simp only[ne_eq,l4,gK,iV,jp];omega
       · by_cases O:i=A
         · subst O;obtain⟨S,_⟩:=X (Or.inr rfl);obtain⟨g,B,_,W,_⟩:=a6 d1 h1;rw[S,B];simp only[ne_eq,l4,gK,iV,jp];omega
         · rw[m s n1 (fun e=>N e.symm),m A n2 (fun e=>O e.symm)];rw[Ba (fun e=>N e.symm)]at h1;rw[Ba (fun e=>O e.symm)]at h2;exact J.ne h1 h2
     · rw[I]at h;obtain⟨B,R⟩:=J.js h;constructor
       · by_cases H:F=i
         · rw[H];exact L
         · rw[Ba H];exact B
       · by_cases H:s=i
         · rw[H];exact L
         · rw[Ba H];exact R
 · intro q am;have h0:=ah q am;revert h0;have aD:∀ (os:List Oper) (r:List Hd) (b:Act) (K K':Act->Prop),(∀ x,K x->K' x)->EE q K os r b->EE q K' os r b:=by
    intro os
    induction os with
    | nil=>intro r b K K' M h;cases r <;> exact M _ h
    | cons o os ih =>
     intro r b K K' M h;cases r with
     | nil=>exact M _ h
     | cons hd r =>
      simp only[EE]at h |-;cases V:hd.ty with
      | eq c=>rw[V]at h;simp only at h |-; exact ih r _ K K' M h
      | pr p =>
       rw[V]at h;simp only at h |-;cases hc:hd.cons with
       | none=>rw[hc]at h;simp only at h |-; exact fun v hv=>ih r _ K K' M (h v hv)
       | some k=>rw[hc]at h;simp only at h |-; exact fun v=>ih r _ K K' M (h v)
   refine aD l y a _ _ fun G h0 J=>h0 ?_;have D:∀ j,j<y.length->((Array.range l.toArray.size).map (fun j=>decide (j<y.length))).getD j false=true:=by
    intro j hj;have aG:y.length<=l.toArray.size:=by
     have:=ad;unfold CX at this;simp only[jn,iM,jV]at this;exact this.1.1.1
    have:j<l.toArray.size:=by omega
    simp only[ki,Array.getElem?_map,Array.getElem?_range,this,li,jJ,gP,jV];exact hj
   obtain⟨n1,n2,n3,n4⟩:=hn;obtain⟨g1,B,R,_,_,q5⟩:=J.p1 (D s n1);obtain⟨g2,S,r2,_,r4⟩:=J.p2 (D A n2);obtain⟨cs,t1,t2⟩:=q5 (D s1 n3);refine⟨g1,g2,cs,B,S,R,r2,?_,t1,t2,r4⟩;have:=J.ne (D s n1) (D A n2);rw[B,S]at this;intro e;subst e;exact this rfl
end
theorem QN(a:Nat):∀ e:Nat,(-(a:Int))^e=if e%2=1 then -((a^e:Nat):Int)else((a^e:Nat):Int)
 | 0=>by simp
 | e+1=>by
  rw[Int.pow_succ,QN a e];by_cases h:e%2=1
  · rw[gY h,gT (by omega),ip];push_cast;grind
  · rw[gT h,gY (by omega),ip];push_cast;grind
theorem WS{s:Bool}(a:decide (z<0)=s):z^e=if(s && decide (e%2=1))=true then -((z.natAbs^e:Nat):Int)else((z.natAbs^e:Nat):Int):=by
 subst a;by_cases h:z<0
 · have h0:z = -(z.natAbs:Int):=by omega
   have h1:=QN z.natAbs e;rw[<-h0]at h1;rw[h1];simp[h]
 · have h0:z=(z.natAbs:Int):=by omega
   have h1:z^e=((z.natAbs^e:Nat):Int):=by rw[Int.natCast_pow,<-h0]
   rw[h1];simp[h]
theorem MI(h:AF w v z)(P:z.natAbs<P2 2496)(he:e<18446744073709551616)(R:z.natAbs^e<P2 4990):Calls prog 189 #[v,.int .u64 e] w (EP w (z^e)):=by
 obtain⟨s,a,n,c,rfl,W,X⟩:=h;have H:=fun(M:World) (N:Ext w M)=>qh (K2 (X.ext N) P he R);have q:bits BinOp.and IntKind.u64 (e:Int) 1=((e%2:Nat):Int):=by
  have:=bits_and_u64_nat e 1 he (by omega);rw[Nat.and_one_is_mod]at this;exact this
 have j:=qh (WS (e:=e) W.out);clear P R;obtain⟨x,C⟩:∃ x,z.natAbs^e=x:=⟨_,rfl⟩;rw[C]at j;have t:=fun(M:World) (N:Ext w M)=>by have:=H M N;rw[C]at this;exact this
 clear H C;cases s with
 | true =>
  by_cases k:e%2=1
  · rw[k]at q;have l:Hid (z^e=if true=true then -(x:Int)else(x:Int)):=by show _=_;have:=j.out;simpa[k]using this
    clear j k
    go_enter func189,ntmps189
    go_upto_region 1 with(fail)
    refine Cf ?_;intro L d b o B;have J:=b.c 0 rfl;have K:=b.c 1 rfl;have G:Arr L (w.heap.size+1) 83 (Ac false none 0 0):=o;clear B
    go_wp2_with fail
    refine(t _ d).out.mono ?_;rintro F T ⟨O,S,Q,rfl,f,hp⟩;have y:=qh (BR (neg:=true) hp l.out)
    go_wp2_with fail
    refine y.out.mono ?_;rintro F U ⟨s1,D,I,E,rfl,g,m,A⟩;have i:=(G.ext f).ext g
    go_wp2_with(refine Aa (vs:=Ac s1 D I E) rfl rfl rfl rfl rfl Ai i rfl (Ae _ _ _ _) ?_;intro V p r)
    exact gF (Ap rfl Ai rfl p) rfl (BA ((d.trans f).trans g) i (Ax _ _ _ _) r (by omega) m A)
  · have h0:e%2=0:=by omega
    rw[h0]at q;have l:Hid (z^e=if false=true then -(x:Int)else(x:Int)):=by show _=_;have:=j.out;simpa[h0]using this
    clear j k h0
    go_enter func189,ntmps189
    go_upto_region 1 with(fail)
    refine Cf ?_;intro L d b o B;have J:=b.c 0 rfl;have K:=b.c 1 rfl;have G:Arr L (w.heap.size+1) 83 (Ac false none 0 0):=o;clear B
    go_wp2_with fail
    refine(t _ d).out.mono ?_;rintro F T ⟨O,S,Q,rfl,f,hp⟩;have y:=qh (BR (neg:=false) hp l.out)
    go_wp2_with fail
    refine y.out.mono ?_;rintro F U ⟨s1,D,I,E,rfl,g,m,A⟩;have i:=(G.ext f).ext g
    go_wp2_with(refine Aa (vs:=Ac s1 D I E) rfl rfl rfl rfl rfl Ai i rfl (Ae _ _ _ _) ?_;intro V p r)
    exact gF (Ap rfl Ai rfl p) rfl (BA ((d.trans f).trans g) i (Ax _ _ _ _) r (by omega) m A)
 | false =>
  have l:Hid (z^e=if false=true then -(x:Int)else(x:Int)):=by show _=_;have:=j.out;simpa using this
  clear j q
  go_enter func189,ntmps189
  go_upto_region 1 with(fail)
  refine Cf ?_;intro L d b o B;have J:=b.c 0 rfl;have K:=b.c 1 rfl;have G:Arr L (w.heap.size+1) 83 (Ac false none 0 0):=o;clear B
  go_wp2_with fail
  refine(t _ d).out.mono ?_;rintro F T ⟨O,S,Q,rfl,f,hp⟩;have y:=qh (BR (neg:=false) hp l.out)
  go_wp2_with fail
  refine y.out.mono ?_;rintro F U ⟨s1,D,I,E,rfl,g,m,A⟩;have i:=(G.ext f).ext g
  go_wp2_with(refine Aa (vs:=Ac s1 D I E) rfl rfl rfl rfl rfl Ai i rfl (Ae _ _ _ _) ?_;intro V p r)
  exact gF (Ap rfl Ai rfl p) rfl (BA ((d.trans f).trans g) i (Ax _ _ _ _) r (by omega) m A)
def Vo(z:Int):Value:=if -9223372036854775808<=z/\z<=9223372036854775807 then .tuple #[.int .i64 z,.bool true]else .tuple #[.int .i64 0,.bool false]
theorem Ji(h : -9223372036854775808<=z/\z<=9223372036854775807):Vo z = .tuple #[.int .i64 z,.bool true]:=gY h
theorem GL(h:¬ (-9223372036854775808<=z/\z<=9223372036854775807)):Vo z = .tuple #[.int .i64 0,.bool false]:=gT h
theorem R6(h:AF w v z):Calls prog 193 #[v] w fun e L=>e = .returned (Vo z)/\Ext w L:=by
 obtain⟨s,a,n,c,rfl,I,F⟩:=h;have r:=F.zero;rcases iH n 2 with t|t
 · by_cases G:n=0
   · have l:Hid (Vo z = .tuple #[.int .i64 0,.bool true]):=by
      have h0:z=0:=by have:=r.1 G;omega
      rw[h0];exact qh (Ji (by omega))
     subst G;clear r t
     go_enter func193,ntmps193
     go_upto_region 1 with(fail)
     refine AP ?_;intro E f d g;have m:=d.c 0 rfl;have p:=d.c 1 rfl;clear g;go_wp2
     go_ret2
     exact⟨by rw[l.out];rfl,f⟩
   · have H:n=1:=by omega
     subst H;obtain⟨b,o,rfl,k,N,O⟩:=F.one;have i:(z.natAbs:Int)=if s=true then -z else z:=by have:=I.out;cases s <;> simp at this |- <;> omega
     clear r G t;cases s with
     | true =>
      simp only[li]at i;by_cases D:z.natAbs<=9223372036854775808
      · have l:=qh (Ji (z:=z) (by omega));have A:IntKind.i64.wrap (IntKind.u64.wrap (-(z.natAbs:Int)))=z:=by rw[jU,IntKind.wrap_i64];omega
        have y:(z.natAbs:Int)<=9223372036854775808:=by omega
        generalize z.natAbs=x at *
        clear D i
        go_enter func193,ntmps193
        go_upto_region 1 with(fail)
        refine AP ?_;intro E f d g;have m:=d.c 0 rfl;have p:=d.c 1 rfl;have q:=f.cell k;clear k;clear g;go_wp2
        go_ret2
        exact⟨by rw[l.out,<-A];rfl,f⟩
      · have l:=qh (GL (z:=z) (by omega));have y:¬ ((z.natAbs:Int)<=9223372036854775808):=by omega
        generalize z.natAbs=x at *
        clear D i
        go_enter func193,ntmps193
        go_upto_region 1 with(fail)
        refine AP ?_;intro E f d g;have m:=d.c 0 rfl;have p:=d.c 1 rfl;have q:=f.cell k;clear k;clear g;go_wp2
        go_ret2
        exact⟨by rw[l.out];rfl,f⟩
     | false =>
      simp only[lA,mV]at i;by_cases D:z.natAbs<=9223372036854775807
      · have l:=qh (Ji (z:=z) (by omega));have A:IntKind.i64.wrap (z.natAbs:Int)=z:=by rw[IntKind.wrap_i64];omega
        have y:(z.natAbs:Int)<=9223372036854775807:=by omega
        generalize z.natAbs=x at *
        clear D i
        go_enter func193,ntmps193
        go_upto_region 1 with(fail)
        refine AP ?_;intro E f d g;have m:=d.c 0 rfl;have p:=d.c 1 rfl;have q:=f.cell k;clear k;clear g;go_wp2
        go_ret2
        exact⟨by rw[l.out,<-A];rfl,f⟩
      · have l:=qh (GL (z:=z) (by omega));have y:¬ ((z.natAbs:Int)<=9223372036854775807):=by omega
        generalize z.natAbs=x at *
        clear D i
        go_enter func193,ntmps193
        go_upto_region 1 with(fail)
        refine AP ?_;intro E f d g;have m:=d.c 0 rfl;have p:=d.c 1 rfl;have q:=f.cell k;clear k;clear g;go_wp2
        go_ret2
        exact⟨by rw[l.out];rfl,f⟩
 · have B:=F.big t;have l:=qh (GL (z:=z) (by omega));obtain⟨M,h1,h2⟩:=F;obtain⟨b,o,rfl,C⟩:=h1.at (j:=0) (by omega);have k:=C 0 (by omega);rw[iO]at k;have K:((n:Int) == 0)=false:=by simp;omega
   have J:(1:Int)<(n:Int):=by omega
   generalize M.getD 0 0=x at *
   clear B r C
   go_enter func193,ntmps193
   go_upto_region 1 with(fail)
   refine AP ?_;intro E f d g;have m:=d.c 0 rfl;have p:=d.c 1 rfl;have q:=f.cell k;clear k;clear g;go_wp2
   go_ret2
   exact⟨by rw[l.out];rfl,f⟩
def A2(b:UInt8):Value := .int .u8 (b.toNat:Int)
def An(s:ByteArray):List UInt8:=s.data.toList
theorem Ay(s:ByteArray):(An s).length=s.size:=by unfold An;rw[Array.length_toList];rfl
theorem Cw(l:List UInt8):An ⟨l.toArray⟩=l:=rfl
theorem EX(h:An s=An t):s=t:=by
 cases s with | mk a=>cases t with | mk b =>
 unfold An at h;simp only at h;have:=pm h;rw[this]
theorem Bc(s:ByteArray)(i j:Nat):An (s.extract i j)=((An s).drop i).take (j-i):=by
 unfold An;rw[ByteArray.data_extract,Array.toList_extract]
theorem LN(l:List UInt8):∀ v∈l.map A2,v.oneCell'=true:=by
 intro v a;obtain⟨b,_,rfl⟩:=ie.1 a;rfl
section
variable {P:Program} {w:World}
theorem NW{e:TypeId}{u:TypeDesc}(j:P.underlying src=some u)(d:P.underlying dst=some (.slice e))(he:P.underlying e=some (.int .u8))(g:s.size<=maxLen) :
 ∃ c a,(convert src dst (.string s)).run P w = .ok (.slice (some ⟨w.heap.size,0,none⟩) s.size c) a/\Ext w a/\Sl a (some ⟨w.heap.size,0,none⟩) s.size c ((An s).map A2):=by
 refine⟨_,_,Lib.run_convert_string_bytes w src dst e s j d he,?_,?_⟩
 · refine⟨rfl,rfl,rfl,by rw[Lib.bytesWorld_size];omega,fun k f=>Lib.bytesWorld_at_old w e s k f⟩
 · refine⟨by rw[iM,Ay],grownCap_ge w s.size 0 e,grownCap_le_maxLen w s.size 0 e g,fun _=>⟨w.heap.size,0,rfl,fun i b => ?_⟩⟩;rw[iz,Lib.bytesWorld_cell w e s i b];have h1:i<(An s).length:=by rw[Ay];exact b
   have h2:s.data.toList.getD i 0=(An s)[i]:=by
    show(An s).getD i 0=_;rw[gqq,gD h1];rfl
   rw[h2];simp[h1,A2]
theorem PH(g:o.guard=none)(l:o.op = .convert src dst x)
 {e:TypeId} {s:ByteArray} {u:TypeDesc} (m:P.underlying src=some u) (j:P.underlying dst=some (.slice e)) (he:P.underlying e=some (.int .u8)) (n:f.eval x = .string s) (k:s.size<=maxLen)
 (i:∀ c b,Ext w b->Sl b (some ⟨w.heap.size,0,none⟩) s.size c ((An s).map A2)->wpList P ops Q rest (f.put o.dst (.slice (some ⟨w.heap.size,0,none⟩) s.size c)) b):wpList P ops Q (o :: rest) f w:=by
 refine jf g fun K d => ?_;obtain⟨c,b,a,h2,h3⟩:=NW (P:=P) (w:=w) m j he k;unfold Oper.wp execOp;simp only[l,n,ij,a,gS,iF,Oper.upon];exact d _ _ (i c b h2 h3)
theorem Lf{e:TypeId}{a:Option Addr}{l:List UInt8}(i:P.underlying src=some (.slice e))(he:P.underlying e=some (.int .u8))(f:P.underlying dst=some .string)(d:Sl w a n c (l.map A2)) :
 (convert src dst (.slice a n c)).run P w = .ok (.string ⟨l.toArray⟩) w:=by
 have m:n=l.length:=by have:=d.len;simpa using this.symm
 subst m;cases a with
 | none =>
  have h0:l=[]:=by
   rcases gX l.length with h|h
   · exact gQ h
   · obtain⟨b,o,h1,_⟩:=d.rd h;cases h1
  subst h0;show(convert src dst (.slice none 0 c)).run P w=_;rw[run_convert_bytes_string w src dst e none 0 c i he f];simp[Conv.bytesToString];rfl
 | some ad =>
  refine run_convert_bytes_back w src dst e ad c l i he f fun j g => ?_;obtain⟨b,o,h1,k⟩:=d.rd (by omega);simp only[gK]at h1;subst h1;have h2:=k j g;have h3:(l.map A2).getD j undef = .int .u8 (l[j].toNat:Int):=by simp[g,A2]
  rw[h3]at h2;rw[<-h2];unfold Addr.add;by_cases h0:j=0 <;> simp[h0]
theorem EY(g:o.guard=none)(m:o.op = .convert src dst x)
 {e:TypeId} {a:Option Addr} {n c:Nat} {l:List UInt8} (p:P.underlying src=some (.slice e)) (he:P.underlying e=some (.int .u8)) (j:P.underlying dst=some .string) (q:f.eval x = .slice a n c) (k:Sl w a n c (l.map A2))
 (i:wpList P ops Q rest (f.put o.dst (.string ⟨l.toArray⟩)) w):wpList P ops Q (o :: rest) f w:=by
 refine jf g fun K d => ?_;have b:=Lf (P:=P) (w:=w) p he j k;unfold Oper.wp execOp;simp only[m,q,ij,b,gS,iF,Oper.upon];exact d _ _ i
end
end Go.Proofs.YtlbmnokpiilfpaaGreatDoor
namespace Go.Proofs.YtlbmnokpiilfpaaGreatDoor.W
open Go
variable {k n:Nat}
def decV(l:List UInt8):Nat:=l.foldl (fun n c=>10*n+(c.toNat-48)) 0
def isDig(c:UInt8):Prop:=48<=c.toNat/\c.toNat<=57
def digs(l:List UInt8):Prop:=∀ c∈l,isDig c
theorem decV_snoc(l:List UInt8)(c:UInt8):decV (l ++ [c])=10*decV l+(c.toNat-48):=by simp[decV]
theorem FB:∀ (l:List UInt8) (n:Nat),l.foldl (fun n c=>10*n+(c.toNat-48)) n=n*10^l.length+decV l
 | [],n=>by simp[decV]
 | c :: r,n=>by
  have h1:=FB r (10*n+(c.toNat-48));have h2:=FB r (10*0+(c.toNat-48));have h3:decV (c :: r)=r.foldl (fun n c=>10*n+(c.toNat-48)) (10*0+(c.toNat-48)):=rfl;rw[m7,h1,h3,h2,j8,ip]
  grind
theorem decV_app(a b:List UInt8):decV (a ++ b)=decV a*10^b.length+decV b:=by
 have:decV (a ++ b)=b.foldl (fun n c=>10*n+(c.toNat-48)) (decV a):=by simp[decV]
 rw[this,FB]
theorem R7(c:UInt8)(r:List UInt8):decV (c :: r)=(c.toNat-48)*10^r.length+decV r:=by
 have:=decV_app [c] r;simpa[decV]using this
theorem decV_lt:∀ {l:List UInt8},digs l->decV l<10^l.length
 | [],_=>by simp[decV]
 | c :: r,h=>by
  have h1:=decV_lt (l:=r) (fun x a=>h x (by simp[a]));have h2:=h c (by simp);rw[R7,j8,ip];have h3:(c.toNat-48)*10^r.length<=9*10^r.length:=gH _ (by have:=h2.2;omega);omega
theorem CS(h:n<256):(UInt8.ofNat n).toNat=n:=by simp;omega
theorem digs_dec(n:Nat):digs (Lib.decDigits n):=by
 induction n using Nat.strongRecOn with
 | _ n ih =>
  rw[Lib.decDigits];split
  · intro c a;simp only[gL]at a;subst a;unfold isDig;rw[CS (by omega)];omega
  · intro c a;rcases iw.1 a with h|h
    · exact ih (n/10) (by omega) c h
    · simp only[gL]at h;subst h;unfold isDig;rw[CS (by omega)];omega
theorem decV_dec(n:Nat):decV (Lib.decDigits n)=n:=by
 induction n using Nat.strongRecOn with
 | _ n ih =>
  rw[Lib.decDigits];split
  · simp only[decV,List.foldl];rw[CS (by omega)];omega
  · rw[decV_snoc,ih (n/10) (by omega),CS (by omega)];omega
theorem dec_ne(n:Nat):Lib.decDigits n≠[]:=by
 rw[Lib.decDigits];split <;> simp
theorem dec_zero:Lib.decDigits 0=[48]:=by rw[Lib.decDigits];rfl
theorem dec_head(h:0<n):∃ c r,Lib.decDigits n=c :: r/\c≠48:=by
 induction n using Nat.strongRecOn with
 | _ n ih =>
  rw[Lib.decDigits];split
  · refine⟨_,[],rfl,fun a => ?_⟩;have:=iP UInt8.toNat a;rw[CS (by omega)]at this;simp at this;omega
  · obtain⟨c,r,e,a⟩:=ih (n/10) (by omega) (by omega);exact⟨c,r ++ [UInt8.ofNat (48+n%10)],by rw[e];rfl,a⟩
theorem NZ{c:UInt8}(h:isDig c):UInt8.ofNat (48+(c.toNat-48))=c:=by
 apply oU.1;rw[CS (by have:=h.2;omega)];have:=h.1;omega
theorem dec_of_digs:∀ {l:List UInt8} (_:digs l) (_:l≠[]) (_:∀ c r,l=c :: r->c=48->r=[]),Lib.decDigits (decV l)=l:=by
 intro l
 induction h:l.length using Nat.strongRecOn generalizing l with
 | _ n ih =>
  intro m f p;obtain⟨a,c,rfl⟩:∃ a c,l=a ++ [c]:=⟨l.dropLast,l.getLast f,(oS f).symm⟩;have d:isDig c:=m c (by simp);by_cases k:a=[]
  · subst k;have e:decV ([] ++ [c])=c.toNat-48:=by simp[decV]
    rw[e,Lib.decDigits,dif_pos (by have:=d.2;omega),NZ d];rfl
  · have i:digs a:=fun x q=>m x (by simp[q]);have j:∀ g r,a=g :: r->g=48->r=[]:=by
     intro g r e e0;subst e;have:=p g (r ++ [c]) rfl e0;simp at this
    have b:=ih a.length (by rw[<-h];simp) rfl i k j;have o:0<decV a:=by
     rcases gX (decV a)with h0|h0
     · rw[h0,dec_zero]at b;have:=p 48 [c] (by rw[<-b];rfl) rfl;simp at this
     · exact h0
    rw[decV_snoc,Lib.decDigits,dif_neg (by omega)];have h1:(10*decV a+(c.toNat-48))/10=decV a:=by have:=d.2;omega
    have h2:(10*decV a+(c.toNat-48))%10=c.toNat-48:=by have:=d.2;omega
    rw[h1,h2,b,NZ d]
def EZ(k n:Nat):List UInt8:=List.replicate (k-(Lib.decDigits n).length) 48 ++ Lib.decDigits n
theorem JR:∀ k,decV (List.replicate k 48)=0
 | 0=>rfl
 | k+1=>by rw[lB,decV_snoc,JR k];rfl
theorem dec_len(h:n<10^k)(a:0<k):(Lib.decDigits n).length<=k:=by
 induction n using Nat.strongRecOn generalizing k with
 | _ n ih =>
  rw[Lib.decDigits];split
  · simp;omega
  · have:2<=k:=by
     rcases iH k 2 with h2|h2
     · have:k=1:=by omega
       subst this;omega
     · exact h2
    have h3:=ih (n/10) (by omega) (k:=k-1) (by
     rw[jm (by omega),<-ip,show(k-1).succ=k by omega]
     exact h) (by omega)
    simp;omega
theorem JS(h:n<10^k)(a:0<k):(EZ k n).length=k:=by
 have:=dec_len h a;simp[EZ];omega
theorem R8{a b:Nat}(g:0<a)(i:b<10^k)(l:0<k):Lib.decDigits (a*10^k+b)=Lib.decDigits a ++ EZ k b:=by
 have j:digs (Lib.decDigits a ++ EZ k b):=by
  intro c f;rcases iw.1 f with h|h
  · exact digs_dec a c h
  · rcases iw.1 h with h|h
    · rw[(jb.1 h).2];exact⟨by decide,by decide⟩
    · exact digs_dec b c h
 have m:decV (Lib.decDigits a ++ EZ k b)=a*10^k+b:=by
  rw[decV_app,decV_dec,JS i l];unfold EZ;rw[decV_app,JR,decV_dec];omega
 obtain⟨c,r,e,f⟩:=dec_head g;rw[<-m];refine dec_of_digs j (by rw[e];simp) ?_;intro n o d e0;rw[e]at d;simp only[jT,lh]at d;exact absurd (d.1.trans e0) f
end Go.Proofs.YtlbmnokpiilfpaaGreatDoor.W
