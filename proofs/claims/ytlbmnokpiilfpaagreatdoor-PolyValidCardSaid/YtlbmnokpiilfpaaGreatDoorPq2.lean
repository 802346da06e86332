/- Part Pq2. -/
import Derived.Test.YtlbmnokpiilfpaaGreatDoorPq1
import Derived.Orders
import Derived.StillTail
import Derived.Shelf.Spec.BitsCarry
import Derived.Shelf.Bits.Mul64
import Derived.Shelf.Small.Bits
import Derived.Test.YtlbmnokpiilfpaaGreatDoorProg
import Derived.Deep.QuietTactic
import Derived.BigQuiet
set_option linter.all false
set_option maxRecDepth 100000
set_option maxHeartbeats 100000000
namespace Go.Proofs.YtlbmnokpiilfpaaGreatDoor
open Go Go.RowKit
def gE:=@Lib.hid
def gI:=@IntWalk.i64_in
def gL:=@List.mem_singleton
def gY:=@if_pos
def io:=@Nat.mod_lt
def iE:=@List.mem_cons
def iO:=@Nat.add_zero
def iP:=@congrArg
def iS:=@Array.getElem?_eq_some_iff
def iU:=@List.drop_eq_getElem_cons
def iX:=@List.drop_of_length_le
def iY:=@Option.isSome_iff_exists
def jg:=@Nat.zero_mul
def jn:=@Bool.and_eq_true
def jA:=@List.contains_iff_mem
def jB:=@Nat.mul_add
def jI:=@List.all_eq_true
def jS:=@List.mem_flatMap
def jW:=@Nat.add_comm
def ki:=@Array.getD_eq_getD_getElem?
def kl:=@List.getElem?_cons_zero
def kD:=@List.getD_cons_zero
def kH:=@Nat.mod_add_div
def kK:=@Option.bind_some
def kV:=@getD_set_true
def lA:=@Bool.false_eq_true
def lS:=@Calls.quiet_of
def mi:=@List.mem_cons_of_mem
def mH:=@Bool.or_eq_true
def mL:=@Array.getElem?_setIfInBounds_ne
def mV:=@if_false
def nK:=@getD_set_ne
def ou:=@beq_iff_eq
def oC:=@mem_ready
def oE:=@Int.add_sub_cancel
def oI:=@Bool.not_eq_true'
def pb:=@bne_iff_ne
def pe:=@Array.size_setIfInBounds
variable {a b:Act} {ops:Array Oper} {l:List Nat} {bytes i j n:Nat} {o:Oper} {cons:Option Nat} {e t:TypeId} {c v z:Value} {w w':World}
inductive Ty where
 | eq (c:Value)
 | pr (p:Value->World->Prop)
def Ty.ok:Ty->Value->World->Prop
 | .eq c,v,_=>v=c
 | .pr p,v,w=>p v w
structure Hd where
 mu:Bool
 ty:Ty
 cons:Option Nat
def he(c:Value):Hd:=⟨false,.eq c,none⟩
def hp(p:Value->World->Prop):Hd:=⟨false,.pr p,none⟩
def hu(k:Nat)(p:Value->World->Prop):Hd:=⟨false,.pr p,some k⟩
def hmp(p:Value->World->Prop):Hd:=⟨true,.pr p,none⟩
def hmu(k:Nat)(p:Value->World->Prop):Hd:=⟨true,.pr p,some k⟩
def B4(o:Oper):List Nat:=(o.after.toList.filter (Region.binds .any ·)).map (·.on)
def Bf(ops:Array Oper)(j:Nat):Option Tmp:=(ops[j]?).bind (·.dst)
def Oo(ops:Array Oper)(o:Oper)(t:Tmp):Option Nat:=(B4 o).find? (fun j=>Bf ops j == some t)
def anc(ops:Array Oper):Nat->List Nat->List Nat
 | 0,l=>l
 | f+1,l=>l ++ anc ops f (l.flatMap fun j=>((ops[j]?).map B4).getD [])
def PW(o:Oper):List Tmp:=o.op.operands.toList.filterMap fun | .tmp t=>some t | _=>none
def Em(ops:Array Oper)(o:Oper):List Tmp:=PW o ++ (match o.guard with | some (j,_)=>(Bf ops j).toList | none=>[])
def Jm(ops:Array Oper)(o:Oper):Bool:=match o.guard with | some (j,_)=>(B4 o).contains j && (Bf ops j).isSome | none=>true
def Cy(ops:Array Oper)(j:Nat):List Nat:=((ops[j]?).map B4).getD []
def PX(ops:Array Oper)(cons:List (Option Nat))(n size:Nat)(i:Nat)(o:Oper):Bool :=
 (B4 o).all (· < i) && (o.dst.all (· < size)) && Jm ops o &&
 (Em ops o).all (fun t=>(List.range n).all fun j=>Bf ops j != some t || j == i || (B4 o).contains j || (Cy ops j).contains i) &&
 (List.range n).all (fun j=>j == i || Bf ops j != o.dst || o.dst == none) &&
 (B4 o).all (fun j=>match (cons[j]?).bind id with | some k=>k == i || (Cy ops k).contains i || !((Em ops o).any fun t=>Bf ops j == some t) | none=>true)
def hd0:Hd:=⟨false,.eq undef,none⟩
def AQ(hs:List Hd)(j:Nat):Hd:=hs.getD j hd0
def Ln(ops:Array Oper)(hs:List Hd)(a0:Act)(o:Oper)(ρ:Operand->Value)(w:World):Operand->Prop
 | .tmp t=>match Oo ops o t with
  | some j=>match (AQ hs j).ty with
   | .eq c=>ρ (.tmp t)=c
   | .pr p=>∃ v,ρ (.tmp t)=v/\p v w
  | none=>ρ (.tmp t)=a0.eval (.tmp t)
 | _=>True
def Cq(ops:Array Oper)(hs:List Hd)(a0:Act)(o:Oper)(ρ:Operand->Value)(w:World):List Operand->Prop
 | []=>True
 | x :: r=>Ln ops hs a0 o ρ w x/\Cq ops hs a0 o ρ w r
structure DE(ρ:Operand->Value):Prop where
 const:∀ v,ρ (.const v)=v
 global:∀ g,ρ (.global g) = .pointer (some ⟨g,0,none⟩)
 func:∀ f,ρ (.func f) = .func (.func f) #[] #[]
theorem J9(a:Act):DE a.eval:=⟨fun _=>rfl,fun _=>rfl,fun _=>rfl⟩
def Gy(P:Program)(R:Value->World->Prop):Result Next->Prop
 | .ok (.value u) w'=>R u w'
 | .ok .skip w'=>R undef w'
 | .ok (.enter f args) w'=>Calls P f args w' (fun e w''=>∃ u,e = .returned u/\R u w'')
 | _=>False
def Cr(hs:List Hd)(o:Oper):Option Bool :=
 match o.guard with
 | none=>some true
 | some (j,b)=>match (AQ hs j).ty with
  | .eq (.bool c)=>some (c == b)
  | .eq (.tuple _)=>some false
  | _=>none
def D8(ops:Array Oper)(hs:List Hd)(i:Nat)(o:Oper)(j:Nat):Bool :=
 j != i && (match (AQ hs j).ty with | .eq _=>false | .pr _=>true) && !(anc ops 3 (Cy ops j)).contains i &&
 !(match (AQ hs j).cons with | some k=>k == i || (anc ops 3 (B4 o)).contains k | none=>false)
def Gk(ops:Array Oper)(hs:List Hd)(i:Nat)(o:Oper)(w w':World):List Nat->Prop
 | []=>True
 | j :: r=>(if D8 ops hs i o j then ∀ v,(AQ hs j).ty.ok v w->(AQ hs j).ty.ok v w' else True)/\Gk ops hs i o w w' r
def ED(C:World->Prop)(ops:Array Oper)(hs:List Hd)(i:Nat)(o:Oper)(h:Hd)(w:World)(u:Value)(w':World):Prop :=
 match h.ty with
 | .eq c=>w'=w/\u=c
 | .pr p=>if h.mu then C w'/\Gk ops hs i o w w' (List.range hs.length)/\p u w' else Ext w w'/\p u w'
def obl(P:Program)(C:World->Prop)(ops:Array Oper)(hs:List Hd)(a0:Act)(i:Nat)(o:Oper)(h:Hd):Prop :=
 match Cr hs o with
 | some true=>∀ ρ w,DE ρ->C w->Cq ops hs a0 o ρ w o.op.operands.toList->Gy P (ED C ops hs i o h w) ((execOp ρ o).run P w)
 | some false=>∀ w,C w->h.ty.ok undef w
 | none=>False
def MX(P:Program)(C:World->Prop)(ops:Array Oper)(hs:List Hd)(a0:Act):Nat->List Oper->List Hd->Prop
 | _,_,[]=>True
 | i,o :: os,h :: r=>obl P C ops hs a0 i o h/\MX P C ops hs a0 (i+1) os r
 | _,[],_ :: _=>False
theorem Oq{t:List Hd}(f:Jm ops o=true)(l:∀ j∈B4 o,∀ c,(AQ t j).ty = .eq c->∀ d,Bf ops j=some d->a.tmps.getD d undef=c):∀ b,Cr t o=some b->Region.wanted o (yielded ops a.tmps)=b:=by
 intro b e;unfold Cr at e;unfold Region.wanted;cases r:o.guard with
 | none =>
  rw[r]at e;simpa using e
 | some g =>
  obtain⟨j,w⟩:=g;rw[r]at e;simp only at e |-;unfold Jm at f;rw[r]at f;simp only[jn,jA]at f;obtain⟨s,q⟩:=f;obtain⟨d,v⟩:=iY.1 q;have n:(ops[j]?).bind (·.dst)=some d:=v;cases i:(AQ t j).ty with
  | pr p=>rw[i]at e;cases e
  | eq c =>
   rw[i]at e;have k:=l j s c i d v;rw[ki]at k;unfold yielded;rw[n,kK];cases c with
   | bool c =>
    simp only[gK]at e;have h1:a.tmps[d]?=some (.bool c):=by
     cases m:a.tmps[d]? with
     | none=>rw[m]at k;cases k
     | some y=>rw[m]at k;simpa using k
    rw[h1,<-e];cases c <;> cases w <;> rfl
   | tuple xs =>
    simp only[gK]at e;rw[<-e];cases m:a.tmps[d]? with
    | none=>rfl
    | some y =>
     rw[m,gP]at k;rw[k];rfl
   | _=>cases e
def EE(w:World)(K:Act->Prop):List Oper->List Hd->Act->Prop
 | o :: os,h :: r,a=>match h.ty with
  | .eq c=>EE w K os r (a.put o.dst c)
  | .pr p=>match h.cons with
   | none=>∀ v,p v w->EE w K os r (a.put o.dst v)
   | some _=>∀ v,EE w K os r (a.put o.dst v)
 | _,_,a=>K a
def VA(h:Hd):Prop:=match h.ty with | .eq _=>True | .pr p=>∀ v w w',Ext w w'->p v w->p v w'
def GZ:List Hd->Prop
 | []=>True
 | h :: r=>VA h/\GZ r
/-! ### Soundness -/
section
variable {P:Program} {ops:Array Oper} {hs:List Hd} {a0:Act} {C:World->Prop} {Q:Exit->Act->World->Prop}
def AX(ops:Array Oper)(j:Nat)(a:Act):Value:=match Bf ops j with | some d=>a.tmps.getD d undef | none=>undef
structure I6(ops:Array Oper)(hs:List Hd)(a0:Act)(C:World->Prop)(listed:Array Bool)(a:Act)(w:World):Prop where
 size:listed.size=ops.size
 tailF:∀ j,hs.length<=j->listed.getD j false=false
 closed:∀ j,listed.getD j false=true->∀ p∈Cy ops j,listed.getD p false=true
 world:C w
 defers:a.defers=a0.defers
 tmps:a.tmps.size=a0.tmps.size
 frame:∀ t,(∀ j,j<hs.length->listed.getD j false=true->Bf ops j≠some t)->a.tmps.getD t undef=a0.tmps.getD t undef
 facts:∀ j,j<hs.length->listed.getD j false=true->(∀ k,(AQ hs j).cons=some k->listed.getD k false=false)->∃ v,(AQ hs j).ty.ok v w/\∀ d,Bf ops j=some d->a.tmps.getD d undef=v
 values:∀ j c,j<hs.length->listed.getD j false=true->(AQ hs j).ty = .eq c->∀ d,Bf ops j=some d->a.tmps.getD d undef=c
theorem CM{listed:Array Bool}(a:∀ j,listed.getD j false=true->∀ p∈Cy ops j,listed.getD p false=true) :
 ∀ (f:Nat) (l:List Nat),(∀ j∈l,listed.getD j false=true)->∀ j∈anc ops f l,listed.getD j false=true
 | 0,_,h,j,hj=>h j hj
 | f+1,l,h,j,hj=>by
  simp only[anc,iw]at hj;rcases hj with hj|hj
  · exact h j hj
  · refine CM a f _ ?_ j hj;intro k hk;rw[jS]at hk;obtain⟨m,hm,hk⟩:=hk;exact a m (h m hm) k hk
theorem L5 :j∈B4 o<->∃ e∈o.after,Region.binds .any e=true/\e.on=j:=by
 simp[B4,and_assoc]
theorem E9{listed:Array Bool}(h:i∈Region.ready .any ops listed) :
 listed.getD i true=false/\∃ o,ops[i]?=some o/\∀ p∈B4 o,listed.getD p false=true:=by
 obtain⟨h0,o,c,a⟩:=oC.1 h;refine⟨h0,o,c,fun p hp => ?_⟩;obtain⟨e,he,b,rfl⟩:=L5.1 hp;exact a e he b
theorem Ot{listed:Array Bool}(h0:listed.getD i true=false)(b:ops[i]?=some o)(h:∀ p∈B4 o,listed.getD p false=true):i∈Region.ready .any ops listed :=
 oC.2 ⟨h0,o,b,fun e he a=>h _ (L5.2 ⟨e,he,a,rfl⟩)⟩
theorem Fa(a:ops[i]?=some o):Cy ops i=B4 o:=by simp[Cy,a]
theorem B7(a:ops[i]?=some o):Bf ops i=o.dst:=by simp[Bf,a]
theorem Ik{i:Nat}{o:Oper}{w a:World}:∀ {l:List Nat},Gk ops hs i o w a l->∀ j∈l,D8 ops hs i o j=true->∀ v,(AQ hs j).ty.ok v w->(AQ hs j).ty.ok v a
 | _ :: _,h,j,hj,hm,v,hv=>by
  rcases iE.1 hj with rfl|hj
  · have h1:=h.1;rw[gY hm]at h1;exact h1 v hv
  · exact Ik h.2 j hj hm v hv
theorem Ka{i:Nat}{o:Oper}{w b:World}:∀ {l:List Nat},(∀ j∈l.filter (D8 ops hs i o),∀ v,(AQ hs j).ty.ok v w->(AQ hs j).ty.ok v b)->Gk ops hs i o w b l
 | [],_=>trivial
 | j :: r,h=>by
  refine⟨?_,Ka fun k a=>h k (by
   rw[List.filter_cons];split
   · exact mi _ a
   · exact a)⟩
  by_cases hm:D8 ops hs i o j=true
  · rw[gY hm];exact h j (by rw[List.filter_cons,gY hm];simp)
  · rw[gT hm];trivial
theorem L6(h:l.filter (D8 ops hs i o)=[j])(b:∀ v,(AQ hs j).ty.ok v w->(AQ hs j).ty.ok v w'):Gk ops hs i o w w' l :=
 Ka (by
  rw[h];intro k a;rw[gL]at a;subst a
  exact b)
theorem Il:∀ {l:List Hd},GZ l->∀ h∈l,VA h
 | _ :: _,hh,h,hm=>by
  rcases iE.1 hm with rfl|hm
  · exact hh.1
  · exact Il hh.2 h hm
theorem Q6{h:Hd}(a:VA h){v:Value}{w d:World}(e:Ext w d)(b:h.ty.ok v w):h.ty.ok v d:=by
 unfold VA at a;revert a b;cases h.ty with
 | eq c=>exact fun _ b=>b
 | pr p=>exact fun a b=>a v w d e b
theorem MY{R:Value->World->Prop}{K:Act->World->Prop}(h:Gy P R ((execOp a.eval o).run P w))
 (c:∀ u b,R u b->K (a.put o.dst u) b):o.wp P a w K Q:=by
 unfold Oper.wp;generalize (execOp a.eval o).run P w=r at *
 cases r with
 | ok n b =>
  cases n <;> simp only[Gy]at h <;> simp only[Oper.upon]
  case value u=>exact c u b h
  case skip=>exact c undef b h
  case enter f args=>exact h.mono fun e d ⟨u,he,g⟩=>by subst he;exact c u d g
 | halt x b=>simp only[Gy]at h
theorem CE{d t:Tmp}:(a.put (some d) v).tmps.getD t undef=if d=t/\d<a.tmps.size then v else a.tmps.getD t undef:=by
 simp only[Act.put,ki];by_cases h:d=t
 · subst h;by_cases h2:d<a.tmps.size
   · simp[h2]
   · simp[h2]
 · rw[mL h];simp[h]
theorem G0{d:Option Tmp}:(a.put d v).tmps.size=a.tmps.size:=by cases d <;> simp[Act.put]
theorem Gz{d:Option Tmp}:(a.put d v).defers=a.defers:=by cases d <;> rfl
def unl(listed:Array Bool):Nat->Nat
 | 0=>0
 | n+1=>unl listed n+(if listed.getD n false=true then 0 else 1)
theorem Kb{listed:Array Bool}{i:Nat}:∀ {n:Nat},n<=i->unl (listed.setIfInBounds i true) n=unl listed n
 | 0,_=>rfl
 | n+1,h=>by rw[unl,unl,Kb (by omega),nK false (by omega)]
theorem MZ{listed:Array Bool}{i:Nat}(b:i<listed.size)(a:listed.getD i false=false):∀ {n:Nat},i<n->unl (listed.setIfInBounds i true) n+1=unl listed n
 | 0,h=>by omega
 | n+1,h=>by
  rw[unl,unl];by_cases hi:i=n
  · subst hi;rw[Kb (lrf _),a];have:(listed.setIfInBounds i true).getD i false=true:=by simp[b]
    rw[this];simp
  · rw[nK false hi,<-MZ b a (n:=n) (by omega)];omega
theorem G5{listed:Array Bool}:∀ {n:Nat},unl listed n=0->∀ j,j<n->listed.getD j false=true
 | 0,_,j,hj=>by omega
 | n+1,h,j,hj=>by
  rw[unl]at h;by_cases hj':j=n
  · subst hj';by_cases hx:listed.getD j false=true
    · exact hx
    · rw[gT hx]at h;omega
  · exact G5 (n:=n) (by omega) j (by omega)
theorem G6{listed:Array Bool}:∀ {n:Nat},unl listed n≠0->∃ j,j<n/\listed.getD j false=false/\∀ k,k<j->listed.getD k false=true
 | 0,h=>absurd rfl h
 | n+1,h=>by
  by_cases h0:unl listed n=0
  · refine⟨n,by omega,?_,fun k a=>G5 h0 k a⟩;rw[unl,h0]at h;by_cases hx:listed.getD n false=true
    · rw[gY hx]at h;omega
    · simpa using hx
  · obtain⟨j,hj,h1,h2⟩:=G6 h0;exact⟨j,by omega,h1,h2⟩
theorem Ou(r:List Hd):∀ (a:List Oper) (b:Nat),MX P C ops hs a0 b a r->∀ (k:Nat) (o:Oper),a[k]?=some o->k<r.length->obl P C ops hs a0 (b+k) o (r.getD k hd0):=by
 induction r with
 | nil=>intro a b _ k o _ d;simp at d
 | cons h r ih =>
  intro a b e k o c d;cases a with
  | nil=>simp at c
  | cons o' a =>
   cases k with
   | zero =>
    simp only[kl,gK]at c;subst c;exact e.1
   | succ k =>
    have:=ih a (b+1) e.2 k o (by simpa using c) (by simpa using d);rw[jR,jW 1 k]at this;simpa using this
structure EF(ops:Array Oper)(cons:List (Option Nat))(n size:Nat)(i:Nat)(o:Oper):Prop where
 lt:∀ p∈B4 o,p<i
 dst:∀ d,o.dst=some d->d<size
 grd:Jm ops o=true
 look:∀ t∈Em ops o,∀ j,j<n->Bf ops j=some t->j=i\/j∈B4 o\/i∈Cy ops j
 apart:∀ j,j<n->j≠i->Bf ops j=o.dst->o.dst=none
 cons:∀ j∈B4 o,∀ k,(cons[j]?).bind id=some k->k=i\/i∈Cy ops k\/∀ t∈Em ops o,Bf ops j≠some t
theorem IJ{a:List (Option Nat)}{size:Nat}(h:PX ops a n size i o=true):EF ops a n size i o:=by
 unfold PX at h;simp only[jn]at h;obtain⟨⟨⟨⟨⟨h1,h2⟩,h3⟩,h4⟩,h5⟩,h6⟩:=h;refine⟨?_,?_,h3,?_,?_,?_⟩
 · intro p hp;simpa using jI.1 h1 p hp
 · intro d b;rw[b]at h2;simpa using h2
 · intro t g j c b;have:=jI.1 (jI.1 h4 t g) j (by simpa using c);simp only[mH,pb,ne_eq,ou,jA]at this;rcases this with((h|h) | h) | h
   · exact absurd b h
   · exact Or.inl h
   · exact Or.inr (Or.inl h)
   · exact Or.inr (Or.inr h)
 · intro j c e b;have:=jI.1 h5 j (by simpa using c);simp only[mH,pb,ne_eq,ou]at this;rcases this with(h|h) | h
   · exact absurd h e
   · exact absurd b h
   · exact h
 · intro j c k f;have:=jI.1 h6 j c;rw[f]at this;simp only[mH,ou,jA,oI,List.any_eq_false]at this;rcases this with(h|h) | h
   · exact Or.inl h
   · exact Or.inr (Or.inl h)
   · exact Or.inr (Or.inr h)
theorem Ov(a:j<hs.length):((hs.map (·.cons))[j]?).bind id=(AQ hs j).cons:=by
 simp[AQ,a]
theorem Kc{t:Tmp}(h:Oo ops o t=some j):j∈B4 o/\Bf ops j=some t:=by
 have h1:=List.mem_of_find?_eq_some h;have h2:=List.find?_some h;exact⟨h1,by simpa using h2⟩
theorem Kd{t:Tmp}(h:Oo ops o t=none){j:Nat}(a:j∈B4 o):Bf ops j≠some t:=by
 have:=List.find?_eq_none.1 h j a;simpa using this
theorem Ke{o:Oper}{a:Operand->Value}{w:World}:∀ {l:List Operand},(∀ x∈l,Ln ops hs a0 o a w x)->Cq ops hs a0 o a w l
 | [],_=>trivial
 | x :: r,h=>⟨h x (by simp),Ke fun y b=>h y (by simp[b])⟩
theorem TL(a7:MX P C ops hs a0 0 ops.toList hs)(ad:GZ hs)(aa:∀ w n,Ext w n->C w->C n){listed:Array Bool}{a:Act}{w:World}
 (e:I6 ops hs a0 C listed a w) {i:Nat} (hi:i∈Region.ready .any ops listed) (a2:i<hs.length)
 (ac:∀ o,ops[i]?=some o->EF ops (hs.map (·.cons)) hs.length a0.tmps.size i o) {K:Act->World->Prop}
 (hK:∀ a' n,I6 ops hs a0 C (listed.setIfInBounds i true) a' n->K a' n):wpOp P ops Q i K a w:=by
 obtain⟨h0,o,V,L⟩:=E9 hi;have T:=ac o V;have a1:i<listed.size:=by
  rw[e.size];exact(iS.1 V).1
 have Z:listed.getD i false=false:=by
  simpa[a1]using h0
 have s:listed.getD i false≠true:=by rw[Z];simp
 have N:(listed.setIfInBounds i true).getD i false=true:=by simp[a1]
 have A:obl P C ops hs a0 i o (AQ hs i):=by
  have:=Ou hs ops.toList 0 a7 i o (by simpa using V) a2;simpa[AQ]using this
 -- the operands
 have a8:Cq ops hs a0 o a.eval w o.op.operands.toList:=by
  refine Ke fun x hx => ?_;cases x with
  | tmp t =>
   have a6:t∈Em ops o:=by
    unfold Em PW;rw[iw];left;rw[List.mem_filterMap];exact⟨_,hx,rfl⟩
   simp only[Ln];cases a5:Oo ops o t with
   | none =>
    simp only[Act.eval];refine e.frame t fun j g G m => ?_;rcases T.look t a6 j g m with h|h|h
    · subst h;exact s G
    · exact Kd a5 h m
    · exact s (e.closed j G i h)
   | some j =>
    obtain⟨S,O⟩:=Kc a5;have R:j<hs.length:=by have:=T.lt j S;omega
    have a3:=L j S;simp only;cases f:(AQ hs j).ty with
    | eq c=>exact e.values j c R a3 f t O
    | pr p =>
     obtain⟨v,y,X⟩:=e.facts j R a3 (by
      intro k B;have:=T.cons j S k (by rw[Ov R];exact B);rcases this with h|h|h
      · subst h;exact Z
      · by_cases D:listed.getD k false=true
        · exact absurd (e.closed k D i h) s
        · simpa using D
      · exact absurd O (h t a6))
     rw[f]at y;exact⟨v,X t O,y⟩
  | _=>trivial
 -- behind the operation
 have r:∀ u n,C n->(AQ hs i).ty.ok u n ->
  (∀ j,j<hs.length->j≠i->listed.getD j false=true->(∀ k,(AQ hs j).cons=some k->(listed.setIfInBounds i true).getD k false=false)->∀ v,(AQ hs j).ty.ok v w->(AQ hs j).ty.ok v n) ->
  I6 ops hs a0 C (listed.setIfInBounds i true) (a.put o.dst u) n:=by
  intro u n hC hu U;have F:∀ j,j<hs.length->j≠i->∀ d,Bf ops j=some d->(a.put o.dst u).tmps.getD d undef=a.tmps.getD d undef:=by
   intro j g z d m;cases J:o.dst with
   | none=>rfl
   | some d' =>
    rw[CE];have:d'≠d:=by
     rintro rfl;have:=T.apart j g z (by rw[m,J]);rw[J]at this;cases this
    rw[gT (fun h=>this h.1)]
  have M:∀ d,Bf ops i=some d->(a.put o.dst u).tmps.getD d undef=u:=by
   intro d m;rw[B7 V]at m;rw[m,CE,gY ⟨rfl,by rw[e.tmps];exact T.dst d m⟩]
  have q:∀ j,j≠i->(listed.setIfInBounds i true).getD j false=true->listed.getD j false=true:=by
   intro j z h
   rwa[nK false (Ne.symm z)]at h
  refine⟨by rw[pe];exact e.size,?_,?_,hC,by rw[Gz];exact e.defers,by rw[G0];exact e.tmps,?_,?_,?_⟩
  · intro j g;rw[nK false (by omega)];exact e.tailF j g
  · intro j g p hp;by_cases l:j=i
    · subst l;rw[Fa V]at hp;exact kV (L p hp)
    · exact kV (e.closed j (q j l g) p hp)
  · intro t ht;have h1:o.dst≠some t:=by
     have:=ht i a2 N
     rwa[B7 V]at this
    have h2:a.tmps.getD t undef=a0.tmps.getD t undef:=e.frame t fun j g G=>ht j g (kV G);cases J:o.dst with
    | none=>exact h2
    | some d' =>
     rw[CE,gT (fun h=>h1 (by rw[J,h.1]))];exact h2
  · intro j g G H;by_cases l:j=i
    · subst l;exact⟨u,hu,M⟩
    · have a4:=q j l G
      obtain⟨v,y,X⟩:=e.facts j g a4 (by
       intro k B;have:=H k B;by_cases D:listed.getD k false=true
       · rw[kV D]at this;cases this
       · simpa using D)
      exact⟨v,U j g l a4 H v y,fun d m=>by rw[F j g l d m];exact X d m⟩
  · intro j c g G f d m;by_cases l:j=i
    · subst l;rw[f]at hu;rw[M d m];exact hu
    · rw[F j g l d m];exact e.values j c g (q j l G) f d m
 -- the guard
 have Y:=Oq T.grd (fun j g c f d m=>e.values j c (by have:=T.lt j g;omega) (L j g) f d m);unfold wpOp;rw[V];simp only;unfold obl at A;cases hw:Cr hs o with
 | none=>rw[hw]at A;exact A.elim
 | some b =>
  rw[hw]at A;rw[Y b hw];cases b with
  | true =>
   rw[gY rfl];left;refine MY (A a.eval w (J9 a) e.world a8) fun u n E=>hK _ _ ?_;unfold ED at E;cases f:(AQ hs i).ty with
   | eq c =>
    rw[f]at E;obtain⟨rfl,rfl⟩:=E;exact r u n e.world (by rw[f];rfl) fun _ _ _ _ _ v y=>y
   | pr p =>
    rw[f]at E;simp only at E;by_cases hmu:(AQ hs i).mu=true
    · rw[gY hmu]at E;obtain⟨a9,ab,hp⟩:=E;refine r u n a9 (by rw[f];exact hp) fun j g z G H v y => ?_;cases W:(AQ hs j).ty with
      | eq c=>rw[W]at y;exact y
      | pr p' =>
       rw[<-W];refine Ik ab j (by simpa using g) ?_ v y;have c1:i ∉ anc ops 3 (Cy ops j):=fun h=>s (CM e.closed 3 _ (e.closed j G) i h);have c2:∀ k,(AQ hs j).cons=some k->k≠i/\k ∉ anc ops 3 (B4 o):=by
        intro k B;have I:=H k B;refine⟨?_,fun hm => ?_⟩
        · rintro rfl;rw[N]at I;cases I
        · rw[kV (CM e.closed 3 _ L k hm)]at I;cases I
       unfold D8;rw[W];cases hc:(AQ hs j).cons with
       | none=>simp[z,c1]
       | some k =>
        obtain⟨d1,d2⟩:=c2 k hc;simp[z,c1,d1,d2]
    · rw[gT hmu]at E
      exact r u n (aa w n E.1 e.world) (by rw[f];exact E.2) fun j g _ _ _ v y =>
       Q6 (Il ad _ (by rw[AQ,gqq,gD g];simp)) E.1 y
  | false =>
   simp only[lA,mV];exact hK _ _ (r undef w e.world (A w e.world) fun _ _ _ _ _ v y=>y)
def De(vs:Nat->Value):Nat->List Oper->List Hd->Act->Act
 | i,o :: os,_ :: r,a=>De vs (i+1) os r (a.put o.dst (vs i))
 | _,_,_,a=>a
theorem Kf{K:Act->Prop}{vs:Nat->Value}:∀ (r:List Hd) (d:List Oper) (i:Nat) (a:Act),EE w K d r a ->
 (∀ k,k<r.length->∀ c,(r.getD k hd0).ty = .eq c->vs (i+k)=c) ->
 (∀ k,k<r.length->∀ p,(r.getD k hd0).ty = .pr p->(r.getD k hd0).cons=none->p (vs (i+k)) w)->K (De vs i d r a):=by
 intro r
 induction r with
 | nil =>
  intro d i a h _ _;cases d <;> exact h
 | cons h r ih =>
  intro d i a b h1 h2;cases d with
  | nil=>exact b
  | cons o d =>
   have g:∀ k,k<r.length->∀ c,(r.getD k hd0).ty = .eq c->vs (i+1+k)=c:=by
    intro k l c f;have:=h1 (k+1) (by simpa using l) c (by simpa using f)
    rwa[jR,jW 1 k]
   have j:∀ k,k<r.length->∀ p,(r.getD k hd0).ty = .pr p->(r.getD k hd0).cons=none->p (vs (i+1+k)) w:=by
    intro k l p hp f;have:=h2 (k+1) (by simpa using l) p (by simpa using hp) (by simpa using f)
    rwa[jR,jW 1 k]
   unfold EE at b;unfold De;have m:=h1 0 (by simp);have n:=h2 0 (by simp);simp only[kD,iO]at m n;cases e:h.ty with
   | eq c =>
    rw[e]at b;rw[m c e];exact ih d (i+1) _ b g j
   | pr p =>
    rw[e]at b;simp only at b;cases f:h.cons with
    | none =>
     rw[f]at b;exact ih d (i+1) _ (b _ (n p e f)) g j
    | some k =>
     rw[f]at b;exact ih d (i+1) _ (b _) g j
theorem IK{vs:Nat->Value}:∀ (r:List Hd) (b:List Oper) (i:Nat) (a:Act),(De vs i b r a).tmps.size=a.tmps.size:=by
 intro r
 induction r with
 | nil=>intro b i a;cases b <;> rfl
 | cons h r ih =>
  intro b i a;cases b with
  | nil=>rfl
  | cons o b=>unfold De;rw[ih,G0]
theorem Gl{vs:Nat->Value}:∀ (r:List Hd) (b:List Oper) (i:Nat) (a:Act),(De vs i b r a).defers=a.defers:=by
 intro r
 induction r with
 | nil=>intro b i a;cases b <;> rfl
 | cons h r ih =>
  intro b i a;cases b with
  | nil=>rfl
  | cons o b=>unfold De;rw[ih,Gz]
theorem Fb{vs:Nat->Value}{t:Tmp}:∀ (r:List Hd) (b:List Oper) (i:Nat) (a:Act),(∀ k o,k<r.length->b[k]?=some o->o.dst≠some t)->(De vs i b r a).tmps.getD t undef=a.tmps.getD t undef:=by
 intro r
 induction r with
 | nil=>intro b i a _;cases b <;> rfl
 | cons h r ih =>
  intro b i a c;cases b with
  | nil=>rfl
  | cons o b =>
   unfold De;rw[ih b (i+1) _ (fun k j f g=>c (k+1) j (by simpa using f) (by simpa using g))];have:=c 0 o (by simp) rfl;cases e:o.dst with
   | none=>rfl
   | some d=>rw[CE,gT (fun h=>this (by rw[e,h.1]))]
theorem Kg{vs:Nat->Value}{t:Tmp}:∀ (r:List Hd) (d:List Oper) (i:Nat) (a:Act) (k:Nat) (o:Oper),k<r.length->d[k]?=some o->o.dst=some t->t<a.tmps.size ->
 (∀ j n,j < r.length->d[j]?=some n->n.dst=some t->j=k)->(De vs i d r a).tmps.getD t undef=vs (i+k):=by
 intro r
 induction r with
 | nil=>intro d i a k o m;simp at m
 | cons h r ih =>
  intro d i a k o m l p q c;cases d with
  | nil=>simp at l
  | cons n d =>
   unfold De;cases k with
   | zero =>
    simp only[kl,gK]at l;subst l
    rw[Fb r d (i+1) _ (fun k g f b e=>by
     have:=c (k+1) g (by simpa using f) (by simpa using b) e
     omega)]
    rw[p,CE,gY ⟨rfl,q⟩,iO]
   | succ k =>
    rw[ih d (i+1) _ k o (by simpa using m) (by simpa using l) p (by rw[G0];exact q) (fun j g f b e=>by
     have:=c (j+1) g (by simpa using f) (by simpa using b) e
     omega)]
    rw[jR,jW 1 k]
theorem Q7(h1:a.defers=b.defers)(h2:a.tmps.size=b.tmps.size)(h3:∀ t,a.tmps.getD t undef=b.tmps.getD t undef):a=b:=by
 cases a;cases b;simp only at h1 h2 h3;subst h1;congr 1;apply Array.ext h2;intro i c d;have:=h3 i;simpa[c,d]using this
end
/-! ### The operations' notes,kind by kind -/
section
variable {P:Program} {ops:Array Oper} {hs:List Hd} {a0:Act} {C:World->Prop} {i:Nat} {o:Oper}
theorem Q8(d:o.guard=none)(h:∀ a w,DE a->C w->Cq ops hs a0 o a w o.op.operands.toList->(execOp a o).run P w = .ok (.value c) w) :
 obl P C ops hs a0 i o (he c):=by
 unfold obl Cr;rw[d];intro a w hp b e;rw[h a w hp b e];exact⟨rfl,rfl⟩
theorem AE{p:Value->World->Prop}(d:o.guard=none)
 (h:∀ a w,DE a->C w->Cq ops hs a0 o a w o.op.operands.toList->∃ v b,(execOp a o).run P w = .ok (.value v) b/\Ext w b/\p v b) :
 obl P C ops hs a0 i o ⟨false,.pr p,cons⟩:=by
 unfold obl Cr;rw[d];intro a w hp c f;obtain⟨v,b,e,h1,h2⟩:=h a w hp c f;rw[e];exact⟨h1,h2⟩
end
section
variable {P:Program} {w:World}
theorem Fc{a:Option Addr}{c k:Nat}(m:P.underlying t=some (.slice e))(b:Ca P e z bytes)(l:k<=c) :
 (Instr.sliceAt t (.slice a n c) none (some (.int .i64 k)) none).run P w = .ok (.slice a k c) w:=by
 obtain⟨i,j,o,d,g⟩:=nH b;have f:(if c=0 then a else a.map (fun x=>x.add 0))=a:=by
  split
  · rfl
  · cases a <;> simp[Addr.add]
 have h0:(0:Int)<=k:=by omega
 have h1:(k:Int)<=c:=by omega
 simp[Instr.sliceAt,Instr.slice,Instr.sliceBounds,Instr.sliceBound,j4 m,asIntOf,sizeOf,typeInfo,j,l,f]
theorem W3:Array.range 0=#[]:=by decide
theorem Ow(f:P.underlying t=some (.slice e))(a:Ca P e z bytes) :
 (Instr.buildSlice t 0 #[]).run P w = .ok (.slice (some ⟨w.heap.size,0,none⟩) 0 0) (w.alloc (.cells #[] e)):=by
 obtain⟨i,d,g,b,c⟩:=nH a;simp[Instr.buildSlice,j4 f,sizeOf,typeInfo,d,Instr.fill,newRow,W3]
end
theorem Cc(xs:List Int):∀ u∈xs.map (Value.int .i64),u.oneCell'=true:=ints_oneCell .i64 xs
end Go.Proofs.YtlbmnokpiilfpaaGreatDoor
namespace Go.Proofs.YtlbmnokpiilfpaaGreatDoor
open Go.Shelf
def PY:Go.Shelf.Ren:=⟨fun | 25=>300 | n=>n,fun | 22=>238 | n=>n,fun | n=>n⟩
theorem W4:Go.Proofs.Lays7.n25 Tryz.prog PY:={
 mixed:=by kernel_rfl
 f25:=Tryz.func300.trans (iP some (by kernel_rfl))
 t22:=Tryz.underlying238
 a22:=Tryz.isAgg238
 z22:=Tryz.sizeOf238
 v22:=Tryz.zeroValue238
 i22:=by kernel_rfl }
def PZ:Go.Shelf.Ren:=⟨fun | 26=>291 | n=>n,fun | 22=>238 | n=>n,fun | n=>n⟩
theorem W5:Go.Proofs.Lays7.n26 Tryz.prog PZ:={
 mixed:=by kernel_rfl
 f26:=Tryz.func291.trans (iP some (by kernel_rfl))
 t22:=Tryz.underlying238
 a22:=Tryz.isAgg238
 z22:=Tryz.sizeOf238
 v22:=Tryz.zeroValue238
 i22:=by kernel_rfl }
def P0:Go.Shelf.Ren:=⟨fun | 264=>301 | n=>n,fun | 53=>238 | 46=>222 | n=>n,fun | n=>n⟩
theorem W6:Go.Proofs.Lays.n264 Tryz.prog P0:={
 mixed:=by kernel_rfl
 f264:=Tryz.func301.trans (iP some (by kernel_rfl))
 t46:=Tryz.underlying222
 a46:=Tryz.isAgg222
 z46:=Tryz.sizeOf222
 v46:=Tryz.zeroValue222
 t53:=Tryz.underlying238
 a53:=Tryz.isAgg238
 z53:=Tryz.sizeOf238
 v53:=Tryz.zeroValue238 }
def Sr:Go.Shelf.Ren:=⟨fun | 134=>287 | 129=>253 | n=>n,fun | 53=>238 | 3=>3 | 4=>4 | 46=>222 | 5=>5 | 9=>9 | n=>n,fun | n=>n⟩
theorem X5:Go.Proofs.Lays.n134 Tryz.prog Sr:={
 mixed:=by kernel_rfl
 f129:=Tryz.func253.trans (iP some (by kernel_rfl))
 f134:=Tryz.func287.trans (iP some (by kernel_rfl))
 t3:=Tryz.underlying3
 a3:=Tryz.isAgg3
 z3:=Tryz.sizeOf3
 v3:=Tryz.zeroValue3
 t4:=Tryz.underlying4
 a4:=Tryz.isAgg4
 z4:=Tryz.sizeOf4
 v4:=Tryz.zeroValue4
 t5:=Tryz.underlying5
 a5:=Tryz.isAgg5
 z5:=Tryz.sizeOf5
 v5:=Tryz.zeroValue5
 t9:=Tryz.underlying9
 a9:=Tryz.isAgg9
 z9:=Tryz.sizeOf9
 v9:=Tryz.zeroValue9
 t46:=Tryz.underlying222
 a46:=Tryz.isAgg222
 z46:=Tryz.sizeOf222
 v46:=Tryz.zeroValue222
 t53:=Tryz.underlying238
 a53:=Tryz.isAgg238
 z53:=Tryz.sizeOf238
 v53:=Tryz.zeroValue238 }
def P3:Go.Shelf.Ren:=⟨fun | 129=>253 | n=>n,fun | 53=>238 | 3=>3 | 4=>4 | 46=>222 | 5=>5 | 9=>9 | n=>n,fun | n=>n⟩
theorem W7:Go.Proofs.Lays.n129 Tryz.prog P3:={
 mixed:=by kernel_rfl
 f129:=Tryz.func253.trans (iP some (by kernel_rfl))
 t3:=Tryz.underlying3
 a3:=Tryz.isAgg3
 z3:=Tryz.sizeOf3
 v3:=Tryz.zeroValue3
 t4:=Tryz.underlying4
 a4:=Tryz.isAgg4
 z4:=Tryz.sizeOf4
 v4:=Tryz.zeroValue4
 t5:=Tryz.underlying5
 a5:=Tryz.isAgg5
 z5:=Tryz.sizeOf5
 v5:=Tryz.zeroValue5
 t9:=Tryz.underlying9
 a9:=Tryz.isAgg9
 z9:=Tryz.sizeOf9
 v9:=Tryz.zeroValue9
 t46:=Tryz.underlying222
 a46:=Tryz.isAgg222
 z46:=Tryz.sizeOf222
 v46:=Tryz.zeroValue222
 t53:=Tryz.underlying238
 a53:=Tryz.isAgg238
 z53:=Tryz.sizeOf238
 v53:=Tryz.zeroValue238 }
end Go.Proofs.YtlbmnokpiilfpaaGreatDoor
namespace Go.Proofs.YtlbmnokpiilfpaaGreatDoor
open Tryz Go Go.RowKit
variable {xs ys:List Nat} {B c d i m n v x y:Nat} {a b:Option Addr} {w:World}
theorem AK:Ca prog 238 (.int .u64 0) 8:=by unfold Ca;kernel_rfl
theorem Cz(x y c:Nat)(a:c<=1)(w:World):(callFunc 300 #[.int .u64 x,.int .u64 y,.int .u64 c]).run prog w = .ok (.value (.tuple #[.int .u64 (((x+y+c)%18446744073709551616:Nat):Int),.int .u64 (((x+y+c)/18446744073709551616:Nat):Int)])) w:=Any7.bits_Add64 W4 x y c a w
theorem Df(x y c:Nat)(a:c<=1)(w:World):(callFunc 291 #[.int .u64 x,.int .u64 y,.int .u64 c]).run prog w = .ok (.value (.tuple #[.int .u64 (((x+18446744073709551616-y-c)%18446744073709551616:Nat):Int),.int .u64 ((if x<y+c then 1 else 0:Nat):Int)])) w:=Any7.bits_Sub64 W5 x y c a w
theorem Bq(g:SlN .u64 w a n c xs) :
 Calls prog 231 #[.slice a n c] w fun e A=>∃ m,e = .returned (.slice a m c)/\w=A/\m<=n/\W.trim xs=xs.take m:=by
 have q:=gE g.len;have t:=g.le;have p:=g.cap
 go_enter func231,ntmps231
 go_wp2
 go_loop[3] (fun v=>∃ k:Nat,k<=n/\v = .int .i64 k/\Hid (W.trim xs=W.trimTo xs k)) (fun v=>(intOf v).toNat)
 case atStart=>exact⟨n,lrf _,rfl,gE (by unfold W.trim;rw[q.out])⟩
 case round =>
  obtain⟨k,C,rfl,i⟩:=hrel;have x:=fun B:World=>Fc (P:=prog) (w:=B) (a:=a) (n:=n) underlying81 AK (k:=k) (c:=c) (by omega);cases k with
  | zero =>
   go_wp2;go_ret;exact⟨0,rfl,rfl,by omega,by rw[i.out];rfl⟩
  | succ k =>
   obtain⟨b,o,rfl,l⟩:=g.at (j:=k) (by omega);have r:=l k (by omega);have D:IntKind.i64.wrap ((k:Int)+1-1)=k:=by rw[oE];exact gI _ (by omega)
   have z:IntKind.i64.wrap (k:Int)=k:=gI _ (by omega);by_cases f:xs.getD k 0=0
   · have d:Hid (W.trim xs=W.trimTo xs k):=by
      show _=_;rw[i.out];exact gY f
     rw[f]at r;clear f l;go_wp2;go_round
     case rel=>exact⟨k,by omega,rfl,d⟩
     case measure=>simp[intOf]
   · have d:Hid (W.trim xs=xs.take (k+1)):=by
      show _=_;rw[i.out];exact gT f
     have s:(((xs.getD k 0:Nat):Int) == 0)=false:=by simpa using f
     generalize xs.getD k 0=y at *
     clear f l;go_wp2;go_ret;exact⟨k+1,rfl,rfl,by omega,d.out⟩
theorem BE(g:SlN .u64 w a n c xs)(d:m<=n)(e:W.trim xs=xs.take m)(b:W.bnd 18446744073709551616 xs)(f:W.val 18446744073709551616 xs=v):SlN .u64 w a m c (W.trim xs)/\Num 18446744073709551616 (W.trim xs) v :=
 ⟨by rw[e];exact g.upto d,Num.trim b f⟩
theorem DJ(b:x<18446744073709551616):Calls prog 217 #[.int .u64 x] w (Hy .u64 18446744073709551616 w x):=by
 by_cases h0:x=0
 · subst h0
   go_enter func217,ntmps217
   go_wp2;go_ret;exact⟨none,0,0,[],rfl,Ext.refl w,SlN.nil _ _,Num.nil _⟩
 · have c:((x:Int) == 0)=false:=by simpa using h0
   go_enter func217,ntmps217
   go_wp2;go_ret;refine⟨_,1,1,[x],rfl,(Ext.refl w).alloc _,(AB w w.heap.size 238 #[.int .u64 x] 1 rfl (lrf _) (by omega)).sl,⟨?_,W.nrm_single h0,by simp[W.val]⟩⟩;intro y a;simp only[gL]at a;subst a;exact b
theorem GA(x:Int)(w:World):Calls prog 310 #[.int .u64 x] w fun e a=>e = .returned (.bool false)/\w=a:=by
 have h:(x != x)=false:=by simp
 go_enter func310,ntmps310
 go_wp2;go_ret;exact⟨rfl,rfl⟩
theorem GB(x:Int)(w:World):Calls prog 254 #[.int .i64 x] w fun e a=>e = .returned (.bool false)/\w=a:=by
 have h:(x != x)=false:=by simp
 go_enter func254,ntmps254
 go_wp2;go_ret;exact⟨rfl,rfl⟩
def AZ(x y:Int):Int:=if x<y then -1 else if y<x then 1 else 0
theorem M0(x y:Int)(w:World):Calls prog 281 #[.int .u64 x,.int .u64 y] w fun e b=>e = .returned (.int .i64 (AZ x y))/\w=b:=by
 by_cases h1:x<y
 · have H:Hid (AZ x y = -1):=by show _=_;simp[AZ,h1]
   go_enter func281,ntmps281
   go_wp2_with(go_at_call 310;refine(GA _ _).mono ?_;rintro e a ⟨rfl,rfl⟩)
   go_ret;exact⟨DF H.out,rfl⟩
 · by_cases h2:y<x
   · have H:Hid (AZ x y=1):=by show _=_;simp[AZ,h1,h2]
     go_enter func281,ntmps281
     go_wp2_with(go_at_call 310;refine(GA _ _).mono ?_;rintro e a ⟨rfl,rfl⟩)
     go_ret;exact⟨DF H.out,rfl⟩
   · have H:Hid (AZ x y=0):=by show _=_;simp[AZ,h1,h2]
     go_enter func281,ntmps281
     go_wp2_with(go_at_call 310;refine(GA _ _).mono ?_;rintro e a ⟨rfl,rfl⟩)
     go_ret;exact⟨DF H.out,rfl⟩
theorem M1(x y:Int)(w:World):Calls prog 207 #[.int .i64 x,.int .i64 y] w fun e b=>e = .returned (.int .i64 (AZ x y))/\w=b:=by
 by_cases h1:x<y
 · have H:Hid (AZ x y = -1):=by show _=_;simp[AZ,h1]
   go_enter func207,ntmps207
   go_wp2_with(go_at_call 254;refine(GB _ _).mono ?_;rintro e a ⟨rfl,rfl⟩)
   go_ret;exact⟨DF H.out,rfl⟩
 · by_cases h2:y<x
   · have H:Hid (AZ x y=1):=by show _=_;simp[AZ,h1,h2]
     go_enter func207,ntmps207
     go_wp2_with(go_at_call 254;refine(GB _ _).mono ?_;rintro e a ⟨rfl,rfl⟩)
     go_ret;exact⟨DF H.out,rfl⟩
   · have H:Hid (AZ x y=0):=by show _=_;simp[AZ,h1,h2]
     go_enter func207,ntmps207
     go_wp2_with(go_at_call 254;refine(GB _ _).mono ?_;rintro e a ⟨rfl,rfl⟩)
     go_ret;exact⟨DF H.out,rfl⟩
theorem M2(g:xs.length=ys.length)(hi:i<xs.length)(f:xs.drop (i+1)=ys.drop (i+1))(e:W.bnd B xs)(a:xs.getD i 0<ys.getD i 0):W.val B xs<W.val B ys:=by
 have b:=W.val_split (B:=B) xs (i+1) (by omega);have c:=W.val_split (B:=B) ys (i+1) (by omega);rw[W.val_take_succ hi]at b;rw[W.val_take_succ (by omega)]at c;have d:=W.val_lt (W.bnd_take e i);rw[iq,jK (by omega)]at d;rw[b,c,f];have h1:B^i*(xs.getD i 0+1)<=B^i*ys.getD i 0:=iB _ a;have h2:B^i*(xs.getD i 0+1)=B^i*xs.getD i 0+B^i:=by rw[jB,km]
 omega
theorem G7{x y:Int}(h:x<y):AZ x y = -1:=by simp[AZ,h]
theorem G8{x y:Int}(h:y<x):AZ x y=1:=by
 have:¬ x<y:=by omega
 simp[AZ,h,this]
theorem Q9(x:Int):AZ x x=0:=by simp[AZ]
theorem Jn(h:x≠y):(x<y/\AZ x y = -1)\/(y<x/\AZ x y=1):=by
 rcases Nat.lt_or_gt_of_ne h with h1|h1
 · exact Or.inl ⟨h1,G7 (by omega)⟩
 · exact Or.inr ⟨h1,G8 (by omega)⟩
theorem Kh{a b:Nat}(h:a≠b):((a:Int) != (b:Int))=true:=by simp;omega
theorem Ox{a b:Nat}(h:a=b):((a:Int) != (b:Int))=false:=by simp[h]
theorem Ki{a b:Nat}(h:a≠b):((a:Int) == (b:Int))=false:=by simp;omega
theorem W8(x y:Int)(w:World):Calls prog 281 #[.int .u64 x,.int .u64 y] w fun e a=>e = .returned (.int .i64 (AZ x y))/\Qt w a :=
 (M0 x y w).mono fun _ _ ⟨h1,h2⟩=>⟨h1,h2 ▸ Qt.refl _⟩
theorem Bl(H:SlN .u64 w a n c xs)(I:SlN .u64 w b m d ys)(L:Num 18446744073709551616 xs x)(M:Num 18446744073709551616 ys y) :
 Calls prog 232 #[.slice a n c,.slice b m d] w fun e V=>e = .returned (.int .i64 (AZ x y))/\Qt w V:=by
 have g:=gE H.len;have i:=gE I.len;have U:=H.le;have T:=I.le;have o:=gE L;have p:=gE M;clear L M;by_cases t:n=m
 · have F:((n:Int) != (m:Int))=false:=by simp[t]
   have A:=gE t;clear t
   go_enter func232,ntmps232
   go_wp2
   go_loopw[5] (fun v wr=>∃ k:Nat,k<=n/\v = .int .i64 ((k:Int)-1)/\Qt w wr/\Hid (xs.drop k=ys.drop k)) (fun v _=>(intOf v+1).toNat)
   case atStart=>exact⟨n,lrf _,by go_num,Qt.refl _,gE (by rw[iX (by rw[g.out];exact lrf _),iX (by rw[i.out,A.out];exact lrf _)])⟩
   case round =>
    obtain⟨k,Z,rfl,s,z⟩:=hrel;cases k with
    | zero =>
     have N:Hid (x=y):=by
      have:=z.out;rw[ji,ji]at this;show x=y;rw[<-o.out.val,<-p.out.val,this]
     go_wp2;go_ret;exact⟨DF (by rw[N.out,Q9]),s⟩
    | succ k =>
     have f:k<m:=by have:=A.out;omega
     obtain⟨X,o1,rfl,q⟩:=(H.ext s.ext).at (j:=k) (by omega);obtain⟨Y,o2,rfl,r⟩:=(I.ext s.ext).at (j:=k) f;have J:=q k (by omega);have K:=r k f;have G:((k+1:Nat):Int)-1=k:=by omega
     rw[G];by_cases he:xs.getD k 0=ys.getD k 0
     · have Q:(((xs.getD k 0:Nat):Int) != ((ys.getD k 0:Nat):Int))=false:=Ox he;have D:Hid (xs.drop k=ys.drop k):=by
        show _=_;rw[iU (l:=xs) (by rw[g.out];omega),iU (l:=ys) (by rw[i.out];exact f),z.out];simp only[gqq,gD (show k<xs.length by rw[g.out];omega),gD (show k<ys.length by rw[i.out];exact f),gP]at he;rw[he]
       generalize xs.getD k 0=u at *
       generalize ys.getD k 0=v at *
       clear he q r;go_wp2
       go_quiet (fail)
       go_wp2;go_roundw
       case rel=>exact⟨k,by omega,by go_num,s.drewN _,D⟩
       case measure=>simp[intOf]
     · have Q:(((xs.getD k 0:Nat):Int) != ((ys.getD k 0:Nat):Int))=true:=Kh he;have C:Hid (AZ x y=AZ ((xs.getD k 0:Nat):Int) ((ys.getD k 0:Nat):Int)):=by
        show _=_;rcases Jn he with⟨h1,h2⟩|⟨h1,h2⟩
        · have:=M2 (B:=18446744073709551616) (by rw[g.out,i.out,A.out]) (by rw[g.out];omega) z.out o.out.bnd h1;rw[o.out.val,p.out.val]at this;rw[h2,G7 (by omega)]
        · have:=M2 (B:=18446744073709551616) (xs:=ys) (ys:=xs) (by rw[g.out,i.out,A.out]) (by rw[i.out];omega) z.out.symm p.out.bnd h1;rw[o.out.val,p.out.val]at this;rw[h2,G8 (by omega)]
       generalize xs.getD k 0=u at *
       generalize ys.getD k 0=v at *
       clear he q r;have S:(k:Int)<n:=by omega
       have R:(k:Int)<m:=by omega
       go_wp2
       go_quiet (fail)
       go_wp2;have O:(wr.drewN nq).cell? _=_:=J;have P:(wr.drewN nq).cell? _=_:=K;have E:=s.drewN nq;generalize wr.drewN nq=wq at *
       clear J K
       go_quiet ((go_at_call 281;exact lS (W8 _ _ _)))
       go_wp2;go_ret;exact⟨DF C.out,E.drewN _⟩
 · have F:((n:Int) != (m:Int))=true:=by simp;omega
   have C:Hid (AZ x y=AZ n m):=by
    show _=_;rcases Jn t with⟨h1,h2⟩|⟨h1,h2⟩
    · have:=W.len_lt (B:=18446744073709551616) (by omega) o.out.bnd p.out.nrm (by rw[g.out,i.out];exact h1);rw[o.out.val,p.out.val]at this;rw[h2,G7 (by omega)]
    · have:=W.len_lt (B:=18446744073709551616) (by omega) p.out.bnd o.out.nrm (by rw[g.out,i.out];exact h1);rw[o.out.val,p.out.val]at this;rw[h2,G8 (by omega)]
   clear t
   go_enter func232,ntmps232
   go_wp2_with fail
   refine(M1 _ _ _).mono ?_;rintro e w1 ⟨rfl,rfl⟩;go_wp2;go_ret;exact⟨DF C.out,Qt.refl _⟩
theorem W9:(x+y+c)%18446744073709551616+18446744073709551616*((x+y+c)/18446744073709551616)=x+y+c:=kH _ _
theorem X6(b:x<18446744073709551616)(d:y<18446744073709551616)(a:c<=1):(x+y+c)/18446744073709551616<=1:=by omega
theorem TM(b:x<18446744073709551616)(d:y<18446744073709551616)(a:c<=1):(x+18446744073709551616-y-c)%18446744073709551616+y+c=x+18446744073709551616*(if x<y+c then 1 else 0):=by
 split <;> omega
theorem Ss:(if x<y+c then 1 else 0)<=1:=by split <;> omega
theorem Oy{base g:Nat}(T:Az .u64 w base 238 g n c xs)(U:SlN .u64 w b m d ys)(R:blk b=none\/blk b≠some g)(bx:W.bnd 18446744073709551616 xs)(F:W.bnd 18446744073709551616 ys)(Q:m<=n)(t:W.val 18446744073709551616 xs+W.val 18446744073709551616 ys<18446744073709551616^n) :
 Calls prog 266 #[.slice (some ⟨g,0,none⟩) n c,.slice b m d] w fun e Y=>e = .returned (.tuple #[])/\w.grownBy Y (some g)/\∃ a,Az .u64 Y base 238 g n c a/\W.bnd 18446744073709551616 a/\W.val 18446744073709551616 a=W.val 18446744073709551616 xs+W.val 18446744073709551616 ys:=by
 have HX:=gE T.len;have M:=gE U.len;have a3:=T.le;have a2:=U.le;have Z:=gE F;have HF:=gE t;clear F t
 go_enter func266,ntmps266
 go_wp2
 go_loopw[4,10] (fun O D wr=>∃ (k o:Nat) (a:List Nat),O = .int .u64 o/\D = .int .i64 k/\k<=m/\o<=1/\w.grownBy wr (some g)/\Az .u64 wr base 238 g n c a/\W.bnd 18446744073709551616 a/\Hid (W.val 18446744073709551616 a+o*18446744073709551616^k=W.val 18446744073709551616 xs+W.val 18446744073709551616 (ys.take k))) (fun _ D _=>m-(intOf D).toNat)
 case atStart=>exact⟨0,0,xs,rfl,rfl,gO _,by omega,C8 _ _,T,bx,gE (by simp[W.val])⟩
 case round =>
  obtain⟨k,o,a,rfl,rfl,X,q,A,p,r,z⟩:=hrel;by_cases f:k<m
  · obtain⟨b1,o1,rfl,H⟩:=(U.kept A R).at (j:=k) f;have g1:=H k f;have g2:=p.cell (i:=k) (by omega);have g3:=p.frozen k;have C:=W.bnd_at r (i:=k) (by rw[p.len];omega);have V:=W.bnd_at Z.out (i:=k) (by rw[M.out];exact f);have L:=gE (W.add_step (B:=18446744073709551616) (l:=a) (ys:=ys) (k:=k) (by rw[p.len];omega) (by rw[M.out];exact f) z.out (W9 (x:=a.getD k 0) (y:=ys.getD k 0) (c:=o)));have G:=Cz (a.getD k 0) (ys.getD k 0) o q;have P:=X6 C V q;have a1:(k:Int)<n:=by omega
    generalize a.getD k 0=u at *
    generalize ys.getD k 0=v at *
    have S:(u+v+o)%18446744073709551616<18446744073709551616:=io _ (by omega);generalize (u+v+o)%18446744073709551616=s at *
    generalize (u+v+o)/18446744073709551616=N at *
    clear H;go_wp2;go_roundw
    case rel=>exact⟨k+1,N,a.set k s,rfl,by go_num,by omega,P,DP A _ _,p.set k s,W.bnd_set r S,L⟩
    case measure=>simp[intOf];omega
  · have J:k=m:=by omega
    have E:Hid (W.val 18446744073709551616 a+o*18446744073709551616^m=W.val 18446744073709551616 xs+W.val 18446744073709551616 ys):=by
     have:=z.out;rw[J,gG (by rw[M.out];exact lrf _)]at this;exact this
    clear z J;go_wp2
    go_loopw[4,7] (fun O D wr=>∃ (k o:Nat) (a:List Nat),O = .int .u64 o/\D = .int .i64 k/\m<=k/\k<=n/\o<=1/\w.grownBy wr (some g)/\Az .u64 wr base 238 g n c a/\W.bnd 18446744073709551616 a/\Hid (W.val 18446744073709551616 a+o*18446744073709551616^k=W.val 18446744073709551616 xs+W.val 18446744073709551616 ys)) (fun _ D _=>n-(intOf D).toNat)
    case atStart=>exact⟨m,o,a,rfl,rfl,lrf _,Q,q,A,p,r,E⟩
    case round =>
     clear A p r E f X q;obtain⟨k,o,a,rfl,rfl,a0,X,q,A,p,r,z⟩:=hrel;have I:o=0\/o=1:=by omega
     rcases I with rfl|rfl
     · go_wp2
       go_end0
       exact⟨rfl,A,a,p,r,by have:=z.out;rw[jg,iO]at this;exact this⟩
     · by_cases f:k<n
       · have g2:=p.cell (i:=k) f;have g3:=p.frozen k;have C:=W.bnd_at r (i:=k) (by rw[p.len];exact f);have L:=gE (W.add_step0 (B:=18446744073709551616) (l:=a) (k:=k) (s:=(a.getD k 0+0+1)%18446744073709551616) (c':=(a.getD k 0+0+1)/18446744073709551616) (by rw[p.len];exact f) z.out (by rw[W9]))
         have G:∀ K:World,(callFunc 300 #[.int .u64 ((a.getD k 0:Nat):Int),.int .u64 0,.int .u64 1]).run prog K = .ok (.value (.tuple #[.int .u64 (((a.getD k 0+0+1)%18446744073709551616:Nat):Int),.int .u64 (((a.getD k 0+0+1)/18446744073709551616:Nat):Int)])) K:=fun K=>Cz (a.getD k 0) 0 1 (by omega) K;have P:=X6 C (y:=0) (c:=1) (by omega) (by omega);have S:(a.getD k 0+0+1)%18446744073709551616<18446744073709551616:=io _ (by omega);generalize (a.getD k 0+0+1)%18446744073709551616=s at *
         generalize (a.getD k 0+0+1)/18446744073709551616=N at *
         generalize a.getD k 0=u at *
         go_wp2;go_roundw
         case rel=>exact⟨k+1,N,a.set k s,rfl,by go_num,by omega,by omega,P,DP A _ _,p.set k s,W.bnd_set r S,L⟩
         case measure=>simp[intOf];omega
       · exfalso;have J:k=n:=by omega
         have h1:=z.out;have h2:=HF.out;rw[J]at h1;omega
end Go.Proofs.YtlbmnokpiilfpaaGreatDoor
