/- Part Gav2. -/
import Derived.Test.YtlpgonpfjbhmfaaGreatDoorGav1
import Derived.Orders
import Derived.StillTail
set_option maxRecDepth 100000
set_option maxHeartbeats 100000000
namespace Go.Proofs.YtlpgonpfjbhmfaaGreatDoor
open Go Go.RowKit
variable {b:Act} {l:List Nat} {news xs ys:List Value} {base bytes i j k n:Nat} {o:Oper} {s x y:Operand} {a:Option Addr} {cons:Option Nat} {e t:TypeId} {c v v0 z:Value} {w w':World}
inductive Ty where
 | eq (c:Value)
 | pr (p:Value→World→Prop)
def Ty.ok:Ty→Value→World→Prop
 | .eq c,v,_=>v=c
 | .pr p,v,w=>p v w
structure Hd where
 mu:Bool
 ty:Ty
 cons:Option Nat
def he (c:Value):Hd:=⟨false, .eq c,none⟩
def hp (p:Value→World→Prop):Hd:=⟨false, .pr p,none⟩
def hu (k:Nat) (p:Value→World→Prop):Hd:=⟨false, .pr p,some k⟩
def hmp (p:Value→World→Prop):Hd:=⟨true, .pr p,none⟩
def hmu (k:Nat) (p:Value→World→Prop):Hd:=⟨true, .pr p,some k⟩
def BP (o:Oper):List Nat:=(o.after.toList.filter (Region.binds .any ·)).map (·.on)
def AY (ops:Array Oper) (j:Nat):Option Tmp:=(ops[j]?).bind (·.dst)
def Nf (ops:Array Oper) (o:Oper) (t:Tmp):Option Nat:=(BP o).find? (fun j=>AY ops j == some t)
def anc (ops:Array Oper):Nat→List Nat→List Nat
 | 0,l=>l
 | f+1,l=>l ++ anc ops f (l.flatMap fun j=>((ops[j]?).map BP).getD [])
def OD (o:Oper):List Tmp:=o.op.operands.toList.filterMap fun | .tmp t=>some t | _=>none
def D4 (ops:Array Oper) (o:Oper):List Tmp:=OD o ++ (match o.guard with | some (j,_)=>(AY ops j).toList | none=>[])
def I6 (ops:Array Oper) (o:Oper):Bool:=match o.guard with | some (j,_)=>(BP o).contains j && (AY ops j).isSome | none=>true
def Cu (ops:Array Oper) (j:Nat):List Nat:=((ops[j]?).map BP).getD []
def L7 (ops:Array Oper) (cons:List (Option Nat)) (n size:Nat) (i:Nat) (o:Oper):Bool :=
 (BP o).all (· < i) && (o.dst.all (· < size)) && I6 ops o &&
 (D4 ops o).all (fun t=>(List.range n).all fun j=>AY ops j != some t || j == i || (BP o).contains j || (Cu ops j).contains i) &&
 (List.range n).all (fun j=>j == i || AY ops j != o.dst || o.dst == none) &&
 (BP o).all (fun j=>match (cons[j]?).bind id with | some k=>k == i || (Cu ops k).contains i || !((D4 ops o).any fun t=>AY ops j == some t) | none=>true)
def OE (n:Nat) (i:Nat) (o:Oper):Bool :=
 (List.range n).all (fun j=>(BP o).contains j) || (BP o).any (fun k=>n≤k && k < i)
def Ng (ops:Array Oper) (cons:List (Option Nat)) (size:Nat):Bool :=
 let n:=cons.length
 decide (n≤ops.size) && (List.range ops.size).all (fun i=>match ops[i]? with | some o=>if i < n then L7 ops cons n size i o else OE n i o | none=>false) &&
 cons.all (fun k=>match k with | some k=>k < n | none=>true) &&
 Region.seqB .any ops (ops.size - n) n ((Array.range ops.size).map (fun j=>decide (j < n)))
def hd0:Hd:=⟨false, .eq undef,none⟩
def AD (hs:List Hd) (j:Nat):Hd:=hs.getD j hd0
def JD (ops:Array Oper) (hs:List Hd) (a0:Act) (o:Oper) (ρ:Operand→Value) (w:World):Operand→Prop
 | .tmp t=>match Nf ops o t with
  | some j=>match (AD hs j).ty with
   | .eq c=>ρ (.tmp t)=c
   | .pr p=>∃ v,ρ (.tmp t)=v∧p v w
  | none=>ρ (.tmp t)=a0.eval (.tmp t)
 | _=>True
def CO (ops:Array Oper) (hs:List Hd) (a0:Act) (o:Oper) (ρ:Operand→Value) (w:World):List Operand→Prop
 | []=>True
 | x :: r=>JD ops hs a0 o ρ w x∧CO ops hs a0 o ρ w r
structure D5 (ρ:Operand→Value):Prop where
 const:∀ v,ρ (.const v)=v
 global:∀ g,ρ (.global g) = .pointer (some ⟨g,0,none⟩)
 func:∀ f,ρ (.func f) = .func (.func f) #[] #[]
theorem JE (a:Act):D5 a.eval:=⟨fun _=>rfl,fun _=>rfl,fun _=>rfl⟩
def Gj (P:Program) (R:Value→World→Prop):Result Next→Prop
 | .ok (.value u) w'=>R u w'
 | .ok .skip w'=>R undef w'
 | .ok (.enter f args) w'=>Calls P f args w' (fun e w''=>∃ u,e = .returned u∧R u w'')
 | _=>False
def Cf (hs:List Hd) (o:Oper):Option Bool :=
 match o.guard with
 | none=>some true
 | some (j,b)=>match (AD hs j).ty with
  | .eq (.bool c)=>some (c == b)
  | _=>none
def Dj (ops:Array Oper) (hs:List Hd) (i:Nat) (o:Oper) (j:Nat):Bool :=
 j != i && (match (AD hs j).ty with | .eq _=>false | .pr _=>true) && !(anc ops 3 (Cu ops j)).contains i &&
 !(match (AD hs j).cons with | some k=>k == i || (anc ops 3 (BP o)).contains k | none=>false)
def GM (ops:Array Oper) (hs:List Hd) (i:Nat) (o:Oper) (w w':World):List Nat→Prop
 | []=>True
 | j :: r=>(if Dj ops hs i o j then ∀ v,(AD hs j).ty.ok v w→(AD hs j).ty.ok v w' else True)∧GM ops hs i o w w' r
def Ej (C:World→Prop) (ops:Array Oper) (hs:List Hd) (i:Nat) (o:Oper) (h:Hd) (w:World) (u:Value) (w':World):Prop :=
 match h.ty with
 | .eq c=>w'=w∧u=c
 | .pr p=>if h.mu then C w'∧GM ops hs i o w w' (List.range hs.length)∧p u w' else Ext w w'∧p u w'
def obl (P:Program) (C:World→Prop) (ops:Array Oper) (hs:List Hd) (a0:Act) (i:Nat) (o:Oper) (h:Hd):Prop :=
 match Cf hs o with
 | some true=>∀ ρ w,D5 ρ→C w→CO ops hs a0 o ρ w o.op.operands.toList→Gj P (Ej C ops hs i o h w) ((execOp ρ o).run P w)
 | some false=>∀ w,C w→h.ty.ok undef w
 | none=>False
def KT (P:Program) (C:World→Prop) (ops:Array Oper) (hs:List Hd) (a0:Act):Nat→List Oper→List Hd→Prop
 | _,_,[]=>True
 | i,o :: os,h :: r=>obl P C ops hs a0 i o h∧KT P C ops hs a0 (i+1) os r
 | _,[],_ :: _=>False
def DN (w:World) (K:Act→Prop):List Oper→List Hd→Act→Prop
 | o :: os,h :: r,a=>match h.ty with
  | .eq c=>DN w K os r (a.put o.dst c)
  | .pr p=>match h.cons with
   | none=>∀ v,p v w→DN w K os r (a.put o.dst v)
   | some _=>∀ v,DN w K os r (a.put o.dst v)
 | _,_,a=>K a
theorem QD (w:World) (K:Act→Prop) (os:List Oper) (a:Act):DN w K os [] a=K a:=by cases os <;> rfl
def stab (h:Hd):Prop:=match h.ty with | .eq _=>True | .pr p=>∀ v w w',Ext w w'→p v w→p v w'
def F8:List Hd→Prop
 | []=>True
 | h :: r=>stab h∧F8 r
/-! ### Soundness -/
section
variable {P:Program} {ops:Array Oper} {hs:List Hd} {a0:Act} {C:World→Prop} {Q:Exit→Act→World→Prop}
def AP (ops:Array Oper) (j:Nat) (a:Act):Value:=match AY ops j with | some d=>a.tmps.getD d undef | none=>undef
structure GO (ops:Array Oper) (hs:List Hd) (a0:Act) (C:World→Prop) (listed:Array Bool) (a:Act) (w:World):Prop where
 size:listed.size=ops.size
 tailF:∀ j,hs.length≤j→listed.getD j false=false
 closed:∀ j,listed.getD j false=true→∀ p∈Cu ops j,listed.getD p false=true
 world:C w
 defers:a.defers=a0.defers
 tmps:a.tmps.size=a0.tmps.size
 frame:∀ t,(∀ j,j < hs.length→listed.getD j false=true→AY ops j≠some t)→a.tmps.getD t undef=a0.tmps.getD t undef
 facts:∀ j,j < hs.length→listed.getD j false=true→(∀ k,(AD hs j).cons=some k→listed.getD k false=false)→∃ v,(AD hs j).ty.ok v w∧∀ d,AY ops j=some d→a.tmps.getD d undef=v
 values:∀ j c,j < hs.length→listed.getD j false=true→(AD hs j).ty = .eq c→∀ d,AY ops j=some d→a.tmps.getD d undef=c
theorem CE {listed:Array Bool} (hcl:∀ j,listed.getD j false=true→∀ p∈Cu ops j,listed.getD p false=true) :
 ∀ (f:Nat) (l:List Nat),(∀ j∈l,listed.getD j false=true)→∀ j∈anc ops f l,listed.getD j false=true
 | 0,_,h,j,hj=>h j hj
 | f+1,l,h,j,hj=>by
  simp only [anc,List.mem_append] at hj;rcases hj with hj | hj
  · exact h j hj
  · refine CE hcl f _ ?_ j hj;intro k hk;rw [List.mem_flatMap] at hk;obtain ⟨m,hm,hk⟩:=hk;exact hcl m (h m hm) k hk
theorem Ll :j∈BP o↔∃ e∈o.after,Region.binds .any e=true∧e.on=j:=by
 simp [BP,and_assoc]
theorem DO {listed:Array Bool} (h:i∈Region.ready .any ops listed) :
 listed.getD i true=false∧∃ o,ops[i]?=some o∧∀ p∈BP o,listed.getD p false=true:=by
 obtain ⟨h0,o,ho,hall⟩:=mem_ready.1 h;refine ⟨h0,o,ho,fun p hp => ?_⟩;obtain ⟨e,he,hb,rfl⟩:=Ll.1 hp;exact hall e he hb
theorem JF {listed:Array Bool} (h0:listed.getD i true=false) (ho:ops[i]?=some o) (h:∀ p∈BP o,listed.getD p false=true):i∈Region.ready .any ops listed :=
 mem_ready.2 ⟨h0,o,ho,fun e he hb=>h _ (Ll.2 ⟨e,he,hb,rfl⟩)⟩
theorem EF (ho:ops[i]?=some o):Cu ops i=BP o:=by simp [Cu,ho]
theorem BA (ho:ops[i]?=some o):AY ops i=o.dst:=by simp [AY,ho]
theorem H5 {i:Nat} {o:Oper} {w w':World}:∀ {l:List Nat},GM ops hs i o w w' l→∀ j∈l,Dj ops hs i o j=true→∀ v,(AD hs j).ty.ok v w→(AD hs j).ty.ok v w'
 | _ :: _,h,j,hj,hm,v,hv=>by
  rcases List.mem_cons.1 hj with rfl | hj
  · have h1:=h.1;rw [if_pos hm] at h1;exact h1 v hv
  · exact H5 h.2 j hj hm v hv
theorem GP {i:Nat} {o:Oper} {w w':World}:∀ {l:List Nat},(∀ j∈l.filter (Dj ops hs i o),∀ v,(AD hs j).ty.ok v w→(AD hs j).ty.ok v w')→GM ops hs i o w w' l
 | [],_=>trivial
 | j :: r,h=>by
  refine ⟨?_,GP fun k hk=>h k (by
   rw [List.filter_cons];split
   · exact List.mem_cons_of_mem _ hk
   · exact hk)⟩
  by_cases hm:Dj ops hs i o j=true
  · rw [if_pos hm];exact h j (by rw [List.filter_cons,if_pos hm]; simp)
  · rw [if_neg hm];trivial
theorem JG (h:l.filter (Dj ops hs i o)=[]):GM ops hs i o w w' l :=
 GP (by rw [h]; intro j hj; cases hj)
theorem QE (h:l.filter (Dj ops hs i o)=[j]) (hk:∀ v,(AD hs j).ty.ok v w→(AD hs j).ty.ok v w'):GM ops hs i o w w' l :=
 GP (by
  rw [h];intro k hj;rw [List.mem_singleton] at hj;subst hj
  exact hk)
theorem H6:∀ {l:List Hd},F8 l→∀ h∈l,stab h
 | _ :: _,hh,h,hm=>by
  rcases List.mem_cons.1 hm with rfl | hm
  · exact hh.1
  · exact H6 hh.2 h hm
theorem PC {h:Hd} (hst:stab h) {v:Value} {w w':World} (e:Ext w w') (hv:h.ty.ok v w):h.ty.ok v w':=by
 unfold stab at hst;revert hst hv;cases h.ty with
 | eq c=>exact fun _ hv=>hv
 | pr p=>exact fun hst hv=>hst v w w' e hv
theorem L9 {a:Act} {R:Value→World→Prop} {K:Act→World→Prop} (h:Gj P R ((execOp a.eval o).run P w))
 (hK:∀ u w',R u w'→K (a.put o.dst u) w'):o.wp P a w K Q:=by
 unfold Oper.wp;generalize (execOp a.eval o).run P w=r at *
 cases r with
 | ok n w' =>
  cases n <;> simp only [Gj] at h <;> simp only [Oper.upon]
  case value u=>exact hK u w' h
  case skip=>exact hK undef w' h
  case enter f args=>exact h.mono fun e w'' ⟨u,he,hr⟩=>by subst he; exact hK u w'' hr
 | halt x w'=>simp only [Gj] at h
theorem Cw {a:Act} {d t:Tmp}:(a.put (some d) v).tmps.getD t undef=if d=t∧d < a.tmps.size then v else a.tmps.getD t undef:=by
 simp only [Act.put,Array.getD_eq_getD_getElem?];by_cases h:d=t
 · subst h;by_cases h2:d < a.tmps.size
   · simp [h2]
   · simp [h2]
 · rw [Array.getElem?_setIfInBounds_ne h];simp [h]
theorem GQ {a:Act} {d:Option Tmp}:(a.put d v).tmps.size=a.tmps.size:=by cases d <;> simp [Act.put]
theorem Gk {a:Act} {d:Option Tmp}:(a.put d v).defers=a.defers:=by cases d <;> rfl
def unl (listed:Array Bool):Nat→Nat
 | 0=>0
 | n+1=>unl listed n+(if listed.getD n false=true then 0 else 1)
theorem JH {listed:Array Bool} {i:Nat}:∀ {n:Nat},n≤i→unl (listed.setIfInBounds i true) n=unl listed n
 | 0,_=>rfl
 | n+1,h=>by rw [unl,unl,JH (by omega),getD_set_ne false (by omega)]
theorem I7 {listed:Array Bool} {i:Nat} (hs:i < listed.size) (hf:listed.getD i false=false):∀ {n:Nat},i < n→unl (listed.setIfInBounds i true) n+1=unl listed n
 | 0,h=>by omega
 | n+1,h=>by
  rw [unl,unl];by_cases hi:i=n
  · subst hi;rw [JH (lrf _),hf];have:(listed.setIfInBounds i true).getD i false=true:=by simp [hs]
    rw [this];simp
  · rw [getD_set_ne false hi,←I7 hs hf (n:=n) (by omega)];omega
theorem Ff {listed:Array Bool}:∀ {n:Nat},unl listed n=0→∀ j,j < n→listed.getD j false=true
 | 0,_,j,hj=>by omega
 | n+1,h,j,hj=>by
  rw [unl] at h;by_cases hj':j=n
  · subst hj';by_cases hx:listed.getD j false=true
    · exact hx
    · rw [if_neg hx] at h; omega
  · exact Ff (n:=n) (by omega) j (by omega)
theorem EG {listed:Array Bool}:∀ {n:Nat},unl listed n≠0→∃ j,j < n∧listed.getD j false=false∧∀ k,k < j→listed.getD k false=true
 | 0,h=>absurd rfl h
 | n+1,h=>by
  by_cases h0:unl listed n=0
  · refine ⟨n,by omega, ?_,fun k hk=>Ff h0 k hk⟩;rw [unl,h0] at h;by_cases hx:listed.getD n false=true
    · rw [if_pos hx] at h; omega
    · simpa using hx
  · obtain ⟨j,hj,h1,h2⟩:=EG h0;exact ⟨j,by omega,h1,h2⟩
theorem Nh (r:List Hd):∀ (os:List Oper) (i0:Nat),KT P C ops hs a0 i0 os r→∀ (k:Nat) (o:Oper),os[k]?=some o→k < r.length→obl P C ops hs a0 (i0+k) o (r.getD k hd0):=by
 induction r with
 | nil=>intro os i0 _ k o _ hk; simp at hk
 | cons h r ih =>
  intro os i0 hh k o ho hk;cases os with
  | nil=>simp at ho
  | cons o' os =>
   cases k with
   | zero =>
    simp only [List.getElem?_cons_zero,Option.some.injEq] at ho;subst ho;exact hh.1
   | succ k =>
    have:=ih os (i0+1) hh.2 k o (by simpa using ho) (by simpa using hk);rw [Nat.add_assoc,Nat.add_comm 1 k] at this;simpa using this
structure DI (ops:Array Oper) (cons:List (Option Nat)) (n size:Nat) (i:Nat) (o:Oper):Prop where
 lt:∀ p∈BP o,p < i
 dst:∀ d,o.dst=some d→d < size
 grd:I6 ops o=true
 look:∀ t∈D4 ops o,∀ j,j < n→AY ops j=some t→j=i∨j∈BP o∨i∈Cu ops j
 apart:∀ j,j < n→j≠i→AY ops j=o.dst→o.dst=none
 cons:∀ j∈BP o,∀ k,(cons[j]?).bind id=some k→k=i∨i∈Cu ops k∨∀ t∈D4 ops o,AY ops j≠some t
theorem Fg {cons:List (Option Nat)} {size:Nat} (h:L7 ops cons n size i o=true):DI ops cons n size i o:=by
 unfold L7 at h;simp only [Bool.and_eq_true] at h;obtain ⟨⟨⟨⟨⟨h1,h2⟩,h3⟩,h4⟩,h5⟩,h6⟩:=h;refine ⟨?_, ?_,h3, ?_, ?_, ?_⟩
 · intro p hp;simpa using List.all_eq_true.1 h1 p hp
 · intro d hd;rw [hd] at h2;simpa using h2
 · intro t ht j hj hd;have:=List.all_eq_true.1 (List.all_eq_true.1 h4 t ht) j (by simpa using hj);simp only [Bool.or_eq_true,bne_iff_ne,ne_eq,beq_iff_eq,List.contains_iff_mem] at this;rcases this with ((h | h) | h) | h
   · exact absurd hd h
   · exact Or.inl h
   · exact Or.inr (Or.inl h)
   · exact Or.inr (Or.inr h)
 · intro j hj hne hd;have:=List.all_eq_true.1 h5 j (by simpa using hj);simp only [Bool.or_eq_true,bne_iff_ne,ne_eq,beq_iff_eq] at this;rcases this with (h | h) | h
   · exact absurd h hne
   · exact absurd hd h
   · exact h
 · intro j hj k hk;have:=List.all_eq_true.1 h6 j hj;rw [hk] at this;simp only [Bool.or_eq_true,beq_iff_eq,List.contains_iff_mem,Bool.not_eq_true',List.any_eq_false] at this;rcases this with (h | h) | h
   · exact Or.inl h
   · exact Or.inr (Or.inl h)
   · exact Or.inr (Or.inr h)
theorem Ni (hj:j < hs.length):((hs.map (·.cons))[j]?).bind id=(AD hs j).cons:=by
 simp [AD,hj]
theorem JI {t:Tmp} (h:Nf ops o t=some j):j∈BP o∧AY ops j=some t:=by
 have h1:=List.mem_of_find?_eq_some h;have h2:=List.find?_some h;exact ⟨h1,by simpa using h2⟩
theorem JJ {t:Tmp} (h:Nf ops o t=none) {j:Nat} (hj:j∈BP o):AY ops j≠some t:=by
 have:=List.find?_eq_none.1 h j hj;simpa using this
theorem JK {o:Oper} {ρ:Operand→Value} {w:World}:∀ {l:List Operand},(∀ x∈l,JD ops hs a0 o ρ w x)→CO ops hs a0 o ρ w l
 | [],_=>trivial
 | x :: r,h=>⟨h x (by simp),JK fun y hy=>h y (by simp [hy])⟩
theorem Nj (hobl:KT P C ops hs a0 0 ops.toList hs) (hst:F8 hs) (hCe:∀ w w',Ext w w'→C w→C w') {listed:Array Bool} {a:Act} {w:World}
 (inv:GO ops hs a0 C listed a w) {i:Nat} (hi:i∈Region.ready .any ops listed) (hin:i < hs.length)
 (hok:∀ o,ops[i]?=some o→DI ops (hs.map (·.cons)) hs.length a0.tmps.size i o) {K:Act→World→Prop}
 (hK:∀ a' w',GO ops hs a0 C (listed.setIfInBounds i true) a' w'→K a' w'):wpOp P ops Q i K a w:=by
 obtain ⟨h0,o,ho,hpr⟩:=DO hi;have hk:=hok o ho;have hil:i < listed.size:=by
  rw [inv.size];exact (Array.getElem?_eq_some_iff.1 ho).1
 have hif:listed.getD i false=false:=by
  simpa [hil] using h0
 have hnot:listed.getD i false≠true:=by rw [hif]; simp
 have hset:(listed.setIfInBounds i true).getD i false=true:=by simp [hil]
 have hob:obl P C ops hs a0 i o (AD hs i):=by
  have:=Nh hs ops.toList 0 hobl i o (by simpa using ho) hin;simpa [AD] using this
 -- the operands
 have hopn:CO ops hs a0 o a.eval w o.op.operands.toList:=by
  refine JK fun x hx => ?_;cases x with
  | tmp t =>
   have htl:t∈D4 ops o:=by
    unfold D4 OD;rw [List.mem_append];left;rw [List.mem_filterMap];exact ⟨_,hx,rfl⟩
   simp only [JD];cases hs':Nf ops o t with
   | none =>
    simp only [Act.eval];refine inv.frame t fun j hj hl hd => ?_;rcases hk.look t htl j hj hd with h | h | h
    · subst h; exact hnot hl
    · exact JJ hs' h hd
    · exact hnot (inv.closed j hl i h)
   | some j =>
    obtain ⟨hjp,hjd⟩:=JI hs';have hjn:j < hs.length:=by have:=hk.lt j hjp; omega
    have hjl:=hpr j hjp;simp only;cases hty:(AD hs j).ty with
    | eq c=>exact inv.values j c hjn hjl hty t hjd
    | pr p =>
     obtain ⟨v,hv,hvd⟩:=inv.facts j hjn hjl (by
      intro k hck;have:=hk.cons j hjp k (by rw [Ni hjn]; exact hck);rcases this with h | h | h
      · subst h; exact hif
      · by_cases hlk:listed.getD k false=true
        · exact absurd (inv.closed k hlk i h) hnot
        · simpa using hlk
      · exact absurd hjd (h t htl))
     rw [hty] at hv;exact ⟨v,hvd t hjd,hv⟩
  | _=>trivial
 -- behind the operation
 have hnew:∀ u w',C w'→(AD hs i).ty.ok u w' →
  (∀ j,j < hs.length→j≠i→listed.getD j false=true→(∀ k,(AD hs j).cons=some k→(listed.setIfInBounds i true).getD k false=false)→∀ v,(AD hs j).ty.ok v w→(AD hs j).ty.ok v w') →
  GO ops hs a0 C (listed.setIfInBounds i true) (a.put o.dst u) w':=by
  intro u w' hC hu hkeep;have hslot:∀ j,j < hs.length→j≠i→∀ d,AY ops j=some d→(a.put o.dst u).tmps.getD d undef=a.tmps.getD d undef:=by
   intro j hj hne d hd;cases hod:o.dst with
   | none=>rfl
   | some d' =>
    rw [Cw];have:d'≠d:=by
     rintro rfl;have:=hk.apart j hj hne (by rw [hd,hod]);rw [hod] at this;cases this
    rw [if_neg (fun h=>this h.1)]
  have hown:∀ d,AY ops i=some d→(a.put o.dst u).tmps.getD d undef=u:=by
   intro d hd;rw [BA ho] at hd;rw [hd,Cw,if_pos ⟨rfl,by rw [inv.tmps]; exact hk.dst d hd⟩]
  have hback:∀ j,j≠i→(listed.setIfInBounds i true).getD j false=true→listed.getD j false=true:=by
   intro j hne h
   rwa [getD_set_ne false (Ne.symm hne)] at h
  refine ⟨by rw [Array.size_setIfInBounds]; exact inv.size, ?_, ?_,hC,by rw [Gk]; exact inv.defers,by rw [GQ]; exact inv.tmps, ?_, ?_, ?_⟩
  · intro j hj;rw [getD_set_ne false (by omega)];exact inv.tailF j hj
  · intro j hj p hp;by_cases hji:j=i
    · subst hji;rw [EF ho] at hp;exact getD_set_true (hpr p hp)
    · exact getD_set_true (inv.closed j (hback j hji hj) p hp)
  · intro t ht;have h1:o.dst≠some t:=by
     have:=ht i hin hset
     rwa [BA ho] at this
    have h2:a.tmps.getD t undef=a0.tmps.getD t undef:=inv.frame t fun j hj hl=>ht j hj (getD_set_true hl);cases hod:o.dst with
    | none=>exact h2
    | some d' =>
     rw [Cw,if_neg (fun h=>h1 (by rw [hod,h.1]))];exact h2
  · intro j hj hl hal;by_cases hji:j=i
    · subst hji;exact ⟨u,hu,hown⟩
    · have hl':=hback j hji hl
      obtain ⟨v,hv,hvd⟩:=inv.facts j hj hl' (by
       intro k hck;have:=hal k hck;by_cases hlk:listed.getD k false=true
       · rw [getD_set_true hlk] at this; cases this
       · simpa using hlk)
      exact ⟨v,hkeep j hj hji hl' hal v hv,fun d hd=>by rw [hslot j hj hji d hd]; exact hvd d hd⟩
  · intro j c hj hl hty d hd;by_cases hji:j=i
    · subst hji;rw [hty] at hu;rw [hown d hd];exact hu
    · rw [hslot j hj hji d hd];exact inv.values j c hj (hback j hji hl) hty d hd
 -- the guard
 have hwant:∀ b,Cf hs o=some b→Region.wanted o (yielded ops a.tmps)=b:=by
  intro b hb;unfold Cf at hb;unfold Region.wanted;cases hg:o.guard with
  | none =>
   rw [hg] at hb;simpa using hb
  | some g =>
   obtain ⟨j,b'⟩:=g;rw [hg] at hb;simp only at hb ⊢;have hgo:=hk.grd;unfold I6 at hgo;rw [hg] at hgo;simp only [Bool.and_eq_true,List.contains_iff_mem] at hgo;obtain ⟨hjp,hds⟩:=hgo;obtain ⟨d,hd⟩:=Option.isSome_iff_exists.1 hds;have hjn:j < hs.length:=by have:=hk.lt j hjp; omega
   cases hty:(AD hs j).ty with
   | pr p=>rw [hty] at hb; cases hb
   | eq c =>
    rw [hty] at hb;cases c with
    | bool c =>
     simp only [Option.some.injEq] at hb;have hv:=inv.values j _ hjn (hpr j hjp) hty d hd;have hy:yielded ops a.tmps j=some c:=by
      unfold yielded;have hd':(ops[j]?).bind (·.dst)=some d:=hd;rw [hd'];have:a.tmps[d]?=some (.bool c):=by
       rw [Array.getD_eq_getD_getElem?] at hv;cases hx:a.tmps[d]? with
       | none=>rw [hx] at hv; cases hv
       | some y=>rw [hx] at hv; simpa using hv
      simp [this]
     rw [hy,←hb];cases c <;> cases b' <;> rfl
    | _=>cases hb
 unfold wpOp;rw [ho];simp only;unfold obl at hob;cases hw:Cf hs o with
 | none=>rw [hw] at hob; exact hob.elim
 | some b =>
  rw [hw] at hob;rw [hwant b hw];cases b with
  | true =>
   rw [if_pos rfl];left;refine L9 (hob a.eval w (JE a) inv.world hopn) fun u w' hr=>hK _ _ ?_;unfold Ej at hr;cases hty:(AD hs i).ty with
   | eq c =>
    rw [hty] at hr;obtain ⟨rfl,rfl⟩:=hr;exact hnew u w' inv.world (by rw [hty]; rfl) fun _ _ _ _ _ v hv=>hv
   | pr p =>
    rw [hty] at hr;simp only at hr;by_cases hmu:(AD hs i).mu=true
    · rw [if_pos hmu] at hr;obtain ⟨hC',hkp,hp⟩:=hr;refine hnew u w' hC' (by rw [hty]; exact hp) fun j hj hne hl hal v hv => ?_;cases htj:(AD hs j).ty with
      | eq c=>rw [htj] at hv; exact hv
      | pr p' =>
       rw [←htj];refine H5 hkp j (by simpa using hj) ?_ v hv;have c1:i ∉ anc ops 3 (Cu ops j):=fun h=>hnot (CE inv.closed 3 _ (inv.closed j hl) i h);have c2:∀ k,(AD hs j).cons=some k→k≠i∧k ∉ anc ops 3 (BP o):=by
        intro k hck;have hk':=hal k hck;refine ⟨?_,fun hm => ?_⟩
        · rintro rfl;rw [hset] at hk';cases hk'
        · rw [getD_set_true (CE inv.closed 3 _ hpr k hm)] at hk';cases hk'
       unfold Dj;rw [htj];cases hc:(AD hs j).cons with
       | none=>simp [hne,c1]
       | some k =>
        obtain ⟨d1,d2⟩:=c2 k hc;simp [hne,c1,d1,d2]
    · rw [if_neg hmu] at hr
      exact hnew u w' (hCe w w' hr.1 inv.world) (by rw [hty]; exact hr.2) fun j hj _ _ _ v hv =>
       PC (H6 hst _ (by rw [AD,gqq,List.getElem?_eq_getElem hj]; simp)) hr.1 hv
  | false =>
   simp only [Bool.false_eq_true,if_false];exact hK _ _ (hnew undef w inv.world (hob w inv.world) fun _ _ _ _ _ v hv=>hv)
def CV (vs:Nat→Value):Nat→List Oper→List Hd→Act→Act
 | i,o :: os,_ :: r,a=>CV vs (i+1) os r (a.put o.dst (vs i))
 | _,_,_,a=>a
theorem Gl {K:Act→Prop} {vs:Nat→Value}:∀ (r:List Hd) (os:List Oper) (i:Nat) (a:Act),DN w K os r a →
 (∀ k,k < r.length→∀ c,(r.getD k hd0).ty = .eq c→vs (i+k)=c) →
 (∀ k,k < r.length→∀ p,(r.getD k hd0).ty = .pr p→(r.getD k hd0).cons=none→p (vs (i+k)) w)→K (CV vs i os r a):=by
 intro r
 induction r with
 | nil =>
  intro os i a h _ _;cases os <;> exact h
 | cons h r ih =>
  intro os i a hA h1 h2;cases os with
  | nil=>exact hA
  | cons o os =>
   have g1:∀ k,k < r.length→∀ c,(r.getD k hd0).ty = .eq c→vs (i+1+k)=c:=by
    intro k hk c hc;have:=h1 (k+1) (by simpa using hk) c (by simpa using hc)
    rwa [Nat.add_assoc,Nat.add_comm 1 k]
   have g2:∀ k,k < r.length→∀ p,(r.getD k hd0).ty = .pr p→(r.getD k hd0).cons=none→p (vs (i+1+k)) w:=by
    intro k hk p hp hc;have:=h2 (k+1) (by simpa using hk) p (by simpa using hp) (by simpa using hc)
    rwa [Nat.add_assoc,Nat.add_comm 1 k]
   unfold DN at hA;unfold CV;have e1:=h1 0 (by simp);have e2:=h2 0 (by simp);simp only [List.getD_cons_zero,Nat.add_zero] at e1 e2;cases hty:h.ty with
   | eq c =>
    rw [hty] at hA;rw [e1 c hty];exact ih os (i+1) _ hA g1 g2
   | pr p =>
    rw [hty] at hA;simp only at hA;cases hc:h.cons with
    | none =>
     rw [hc] at hA;exact ih os (i+1) _ (hA _ (e2 p hty hc)) g1 g2
    | some k =>
     rw [hc] at hA;exact ih os (i+1) _ (hA _) g1 g2
theorem Fh {vs:Nat→Value}:∀ (r:List Hd) (os:List Oper) (i:Nat) (a:Act),(CV vs i os r a).tmps.size=a.tmps.size:=by
 intro r
 induction r with
 | nil=>intro os i a; cases os <;> rfl
 | cons h r ih =>
  intro os i a;cases os with
  | nil=>rfl
  | cons o os=>unfold CV; rw [ih,GQ]
theorem Ea {vs:Nat→Value}:∀ (r:List Hd) (os:List Oper) (i:Nat) (a:Act),(CV vs i os r a).defers=a.defers:=by
 intro r
 induction r with
 | nil=>intro os i a; cases os <;> rfl
 | cons h r ih =>
  intro os i a;cases os with
  | nil=>rfl
  | cons o os=>unfold CV; rw [ih,Gk]
theorem DA {vs:Nat→Value} {t:Tmp}:∀ (r:List Hd) (os:List Oper) (i:Nat) (a:Act),(∀ k o,k < r.length→os[k]?=some o→o.dst≠some t)→(CV vs i os r a).tmps.getD t undef=a.tmps.getD t undef:=by
 intro r
 induction r with
 | nil=>intro os i a _; cases os <;> rfl
 | cons h r ih =>
  intro os i a hno;cases os with
  | nil=>rfl
  | cons o os =>
   unfold CV;rw [ih os (i+1) _ (fun k o' hk ho=>hno (k+1) o' (by simpa using hk) (by simpa using ho))];have:=hno 0 o (by simp) rfl;cases hd:o.dst with
   | none=>rfl
   | some d=>rw [Cw,if_neg (fun h=>this (by rw [hd,h.1]))]
theorem Gm {vs:Nat→Value} {t:Tmp}:∀ (r:List Hd) (os:List Oper) (i:Nat) (a:Act) (k:Nat) (o:Oper),k < r.length→os[k]?=some o→o.dst=some t→t < a.tmps.size →
 (∀ k' o',k' < r.length→os[k']?=some o'→o'.dst=some t→k'=k)→(CV vs i os r a).tmps.getD t undef=vs (i+k):=by
 intro r
 induction r with
 | nil=>intro os i a k o hk; simp at hk
 | cons h r ih =>
  intro os i a k o hk ho hd ht huniq;cases os with
  | nil=>simp at ho
  | cons o' os =>
   unfold CV;cases k with
   | zero =>
    simp only [List.getElem?_cons_zero,Option.some.injEq] at ho;subst ho
    rw [DA r os (i+1) _ (fun k o'' hk' ho'' hd'=>by
     have:=huniq (k+1) o'' (by simpa using hk') (by simpa using ho'') hd'
     omega)]
    rw [hd,Cw,if_pos ⟨rfl,ht⟩,Nat.add_zero]
   | succ k =>
    rw [ih os (i+1) _ k o (by simpa using hk) (by simpa using ho) hd (by rw [GQ]; exact ht) (fun k' o'' hk' ho'' hd'=>by
     have:=huniq (k'+1) o'' (by simpa using hk') (by simpa using ho'') hd'
     omega)]
    rw [Nat.add_assoc,Nat.add_comm 1 k]
theorem Ma {a:Act} (h1:a.defers=b.defers) (h2:a.tmps.size=b.tmps.size) (h3:∀ t,a.tmps.getD t undef=b.tmps.getD t undef):a=b:=by
 cases a;cases b;simp only at h1 h2 h3;subst h1;congr 1;apply Array.ext h2;intro i hi1 hi2;have:=h3 i;simpa [hi1,hi2] using this
theorem AM {id:Nat} {a:Act} {l:List Oper} (hm:P.follows .mixedOrders=true) (C:World→Prop) (hs:List Hd)
 (hok:Ng l.toArray (hs.map (·.cons)) a.tmps.size=true)
 (hCe:∀ w w',Ext w w'→C w→C w') (hC:C w.drew) (hst:F8 hs)
 (hobl:KT P C l.toArray hs a 0 l hs)
 (hend:∀ w',C w'→DN w' (fun a'=>wpList P l.toArray Q (l.drop hs.length) a' w') l hs a):(Code.region id l.toArray true).wp P Q a w:=by
 refine wp_region_any hm ?_;unfold Ng at hok;simp only [Bool.and_eq_true,List.length_map,decide_eq_true_eq] at hok;obtain ⟨⟨⟨hn,hall⟩,hcons⟩,hseq⟩:=hok;have hsz:l.toArray.size=l.length:=by simp
 have hall':∀ i o,l.toArray[i]?=some o→(i < hs.length→DI l.toArray (hs.map (·.cons)) hs.length a.tmps.size i o)∧(hs.length≤i→OE hs.length i o=true):=by
  intro i o ho;have hi:i < l.toArray.size:=(Array.getElem?_eq_some_iff.1 ho).1;have:=List.all_eq_true.1 hall i (by simpa using hi);rw [ho] at this;simp only at this;refine ⟨fun h => ?_,fun h => ?_⟩
  · rw [if_pos h] at this;exact Fg this
  · rw [if_neg (by omega)] at this;exact this
 have key:∀ m listed a' w',unl listed hs.length=m→GO l.toArray hs a C listed a' w'→wpAny P .any l.toArray Q (m+(l.toArray.size - hs.length)) listed a' w':=by
  intro m
  induction m with
  | zero =>
   intro listed a' w' hu inv;have hheads:=Ff hu;have hlist:listed=(Array.range l.toArray.size).map (fun j=>decide (j < hs.length)):=by
    apply Array.ext
    · rw [inv.size]; simp
    · intro i h1 h2;simp only [Array.getElem_map,Array.getElem_range];by_cases hi:i < hs.length
      · have:=hheads i hi;simp [h1] at this;simp [this,hi]
      · have:=inv.tailF i (by omega);simp [h1] at this;simp [this,hi]
   -- the frame
   have ha:a'=CV (fun j=>match AY l.toArray j with | some d=>a'.tmps.getD d undef | none=>Classical.epsilon (fun v=>(AD hs j).ty.ok v w')) 0 l hs a:=by
    apply Ma
    · rw [Ea]; exact inv.defers
    · rw [Fh]; exact inv.tmps
    · intro t;by_cases hex:∃ j o,j < hs.length∧l[j]?=some o∧o.dst=some t
      · obtain ⟨j,o,hj,ho,hd⟩:=hex;have hoA:l.toArray[j]?=some o:=by simpa using ho
        have hf:=(hall' j o hoA).1 hj
        rw [Gm hs l 0 a j o hj ho hd (hf.dst t hd) (by
         intro k' o' hk' ho' hd';have hoA':l.toArray[k']?=some o':=by simpa using ho'
         by_cases hkj:k'=j
         · exact hkj
         · have:=hf.apart k' hk' hkj (by rw [BA hoA',hd',hd]);rw [hd] at this
           cases this)]
        rw [Nat.zero_add,BA hoA,hd]
      · rw [DA hs l 0 a (fun k o hk ho hd=>hex ⟨k,o,hk,ho,hd⟩)];refine inv.frame t fun j hj _ hd=>hex ?_;unfold AY at hd;cases ho:l.toArray[j]? with
        | none=>rw [ho] at hd; cases hd
        | some o=>rw [ho] at hd; exact ⟨j,o,hj,by simpa using ho,hd⟩
   have hfin:=Gl (vs:=fun j=>match AY l.toArray j with | some d=>a'.tmps.getD d undef | none=>Classical.epsilon (fun v=>(AD hs j).ty.ok v w')) hs l 0 a (hend w' inv.world)
    (by
     intro k hk c hc;rw [Nat.zero_add];cases hd:AY l.toArray k with
     | some d=>exact inv.values k c hk (hheads k hk) hc d hd
     | none =>
      have:(AD hs k).ty.ok (Classical.epsilon (fun v=>(AD hs k).ty.ok v w')) w':=by
       apply Classical.epsilon_spec (p:=fun v=>(AD hs k).ty.ok v w');refine ⟨c, ?_⟩;rw [show (AD hs k).ty = .eq c from hc];rfl
      have h2:(AD hs k).ty = .eq c:=hc;rw [h2] at this;simp only [Ty.ok] at this;rw [h2]
      exact this)
    (by
     intro k hk p hp hc;rw [Nat.zero_add]
     obtain ⟨v,hv,hvd⟩:=inv.facts k hk (hheads k hk) (by
      intro k' hck;have h1:(AD hs k).cons=none:=hc;rw [h1] at hck
      cases hck)
     have h2:(AD hs k).ty = .pr p:=hp;cases hd:AY l.toArray k with
     | some d =>
      simp only;rw [hvd d hd];rw [h2] at hv;exact hv
     | none =>
      have:(AD hs k).ty.ok (Classical.epsilon (fun v=>(AD hs k).ty.ok v w')) w':=Classical.epsilon_spec (p:=fun v=>(AD hs k).ty.ok v w') ⟨v,hv⟩;simp only;rw [h2] at this ⊢
      exact this)
   rw [←ha] at hfin;rw [Nat.zero_add];have hl:(l.drop hs.length).length=l.toArray.size - hs.length:=by simp
   rw [←hl];rw [←hl,←hlist] at hseq;exact wpAny_of_seq (l.drop hs.length) hs.length listed a' w' (by intro j; simp) hseq hfin
  | succ m ih =>
   intro listed a' w' hu inv;rw [show m+1+(l.toArray.size - hs.length)=(m+(l.toArray.size - hs.length))+1 by omega];refine ⟨fun hempty => ?_,fun i hi => ?_⟩
   · obtain ⟨j,hj,hjf,hjk⟩:=EG (listed:=listed) (n:=hs.length) (by omega);have hjl:j < l.toArray.size:=by omega
     have ho:l.toArray[j]?=some l.toArray[j]:=Array.getElem?_eq_getElem hjl;have hf:=(hall' j _ ho).1 hj
     have:j∈Region.ready .any l.toArray listed:=JF (by
      have:j < listed.size:=by rw [inv.size]; exact hjl
      simpa [this] using hjf) ho (fun p hp=>hjk p (hf.lt p hp))
     rw [hempty] at this;cases this
   · obtain ⟨h0,o,ho,hpr⟩:=DO hi;have hil:i < listed.size:=by rw [inv.size]; exact (Array.getElem?_eq_some_iff.1 ho).1
     have hif:listed.getD i false=false:=by simpa [hil] using h0
     have hin:i < hs.length:=by
      rcases Nat.lt_or_ge i hs.length with h | h
      · exact h
      · exfalso;have ht:=(hall' i o ho).2 h;unfold OE at ht;simp only [Bool.or_eq_true,List.all_eq_true,List.mem_range,List.contains_iff_mem,List.any_eq_true,Bool.and_eq_true,decide_eq_true_eq] at ht;rcases ht with ht | ⟨k,hk,hk1,_⟩
        · obtain ⟨j,hj,hjf,_⟩:=EG (listed:=listed) (n:=hs.length) (by omega);rw [hpr j (ht j hj)] at hjf;cases hjf
        · have:=hpr k hk;rw [inv.tailF k hk1] at this;cases this
     refine Nj (by simpa using hobl) hst hCe inv hi hin (fun o' ho'=>(hall' i o' ho').1 hin) fun a2 w2 inv2 => ?_;refine ih _ a2 w2 ?_ inv2;have:=I7 hil hif hin;omega
 have hstart:GO l.toArray hs a C (Array.replicate l.toArray.size false) a w.drew:=by
  have hf:∀ j,(Array.replicate l.toArray.size false).getD j false=false:=fun j=>getD_replicate_false _ j;refine ⟨by simp,fun j _=>hf j,(fun j h=>by rw [hf j] at h; cases h),hC,rfl,rfl,fun _ _=>rfl,(fun j _ h=>by rw [hf j] at h; cases h),(fun j c _ h=>by rw [hf j] at h; cases h)⟩
 have hcount:unl (Array.replicate l.toArray.size false) hs.length=hs.length:=by
  have:∀ n,unl (Array.replicate l.toArray.size false) n=n:=by
   intro n
   induction n with
   | zero=>rfl
   | succ n ih=>rw [unl,ih,getD_replicate_false]; simp
  exact this _
 have:=key hs.length _ a w.drew hcount hstart
 rwa [show hs.length+(l.toArray.size - hs.length)=l.toArray.size by omega] at this
end
/-! ### The operations' notes,kind by kind -/
section
variable {P:Program} {ops:Array Oper} {hs:List Hd} {a0:Act} {C:World→Prop} {i:Nat} {o:Oper}
theorem Mb (hg:o.guard=none) (h:∀ ρ w,D5 ρ→C w→CO ops hs a0 o ρ w o.op.operands.toList→(execOp ρ o).run P w = .ok (.value c) w) :
 obl P C ops hs a0 i o (he c):=by
 unfold obl Cf;rw [hg];intro ρ w hp hC hx;rw [h ρ w hp hC hx];exact ⟨rfl,rfl⟩
theorem Bc {p:Value→World→Prop} (hg:o.guard=none)
 (h:∀ ρ w,D5 ρ→C w→CO ops hs a0 o ρ w o.op.operands.toList→∃ v w',(execOp ρ o).run P w = .ok (.value v) w'∧Ext w w'∧p v w') :
 obl P C ops hs a0 i o ⟨false, .pr p,cons⟩:=by
 unfold obl Cf;rw [hg];intro ρ w hp hC hx;obtain ⟨v,w',hr,h1,h2⟩:=h ρ w hp hC hx;rw [hr];exact ⟨h1,h2⟩
theorem TN {p:Value→World→Prop} (hg:o.guard=none)
 (h:∀ ρ w,D5 ρ→C w→CO ops hs a0 o ρ w o.op.operands.toList→∃ v w',(execOp ρ o).run P w = .ok (.value v) w'∧C w'∧GM ops hs i o w w' (List.range hs.length)∧p v w') :
 obl P C ops hs a0 i o ⟨true, .pr p,cons⟩:=by
 unfold obl Cf;rw [hg];intro ρ w hp hC hx;obtain ⟨v,w',hr,h1,h2,h3⟩:=h ρ w hp hC hx;rw [hr];exact ⟨h1,h2,h3⟩
theorem Fi (hg:o.guard=none) (ho:o.op = .move x) (h:∀ ρ w,D5 ρ→CO ops hs a0 o ρ w [x]→ρ x=c):obl P C ops hs a0 i o (he c) :=
 Mb hg fun ρ w hp _ hx=>by
  rw [ho] at hx;simp only [execOp,ho,h ρ w hp hx];rfl
end
section
variable {P:Program} {w:World}
theorem GR {c:Nat} (ht:P.underlying t=some (.slice e)) (hinfo:Bh P e z bytes) (hk:k≤c) :
 (Instr.sliceAt t (.slice a n c) none (some (.int .i64 k)) none).run P w = .ok (.slice a k c) w:=by
 obtain ⟨i,hi,hz,hsize,hby⟩:=info_parts hinfo;have e1:(if c=0 then a else a.map (fun x=>x.add 0))=a:=by
  split
  · rfl
  · cases a <;> simp [Addr.add]
 have h0:(0:Int)≤k:=by omega
 have h1:(k:Int)≤c:=by omega
 simp [Instr.sliceAt,Instr.slice,Instr.sliceBounds,Instr.sliceBound,run_underlying ht,asIntOf,sizeOf,typeInfo,hi,hk,e1]
theorem Fj {c:Nat} (ht:P.underlying t=some (.slice e)) (hinfo:Bh P e z bytes) (hk:k≤n) :
 (Instr.sliceAt t (.slice a n c) (some (.int .i64 k)) none none).run P w = .ok (.slice (if c=k then a else a.map (fun x=>x.add k)) (n - k) (c - k)) w:=by
 obtain ⟨i,hi,hz,hsize,hby⟩:=info_parts hinfo;simp [Instr.sliceAt,Instr.slice,Instr.sliceBounds,Instr.sliceBound,run_underlying ht,asIntOf,sizeOf,typeInfo,hi,hsize,hk]
theorem U2:Array.range 0=#[]:=by decide
theorem U3:Array.range 1=#[0]:=by decide
theorem R4 (ht:P.underlying t=some (.slice e)) (hinfo:Bh P e z bytes) :
 (Instr.buildSlice t 0 #[]).run P w = .ok (.slice (some ⟨w.heap.size,0,none⟩) 0 0) (w.alloc (.cells #[] e)):=by
 obtain ⟨i,hi,hz,hsize,hby⟩:=info_parts hinfo;simp [Instr.buildSlice,run_underlying ht,sizeOf,typeInfo,hi,Instr.fill,newRow,U2]
theorem R5 (ht:P.underlying t=some (.slice e)) (hinfo:Bh P e z bytes) (hz1:z.cells=#[z]) (hv:v.cells=#[v]) :
 (Instr.buildSlice t 1 #[(0,v)]).run P w = .ok (.slice (some ⟨w.heap.size,0,none⟩) 1 1) (w.alloc (.cells #[v] e)):=by
 obtain ⟨i,hi,hz,hsize,hby⟩:=info_parts hinfo;simp [Instr.buildSlice,run_underlying ht,sizeOf,typeInfo,hi,hsize,Instr.fill,zeroValue,hz,hz1,hv,newRow,U3]
end
section
variable {P:Program} {ops:Array Oper} {hs:List Hd} {a0:Act} {C:World→Prop} {i:Nat} {o:Oper}
theorem Mc {c:Nat} (hg:o.guard=none) (ho:o.op = .slice t x none (some y) none)
 (ht:P.underlying t=some (.slice e)) (hinfo:Bh P e z bytes) (h:∀ ρ w,D5 ρ→CO ops hs a0 o ρ w [x,y]→ρ x = .slice a n c∧ρ y = .int .i64 k) (hk:k≤c) :
 obl P C ops hs a0 i o (he (.slice a k c)) :=
 Mb hg fun ρ w hp _ hx=>by
  rw [ho] at hx;obtain ⟨h1,h2⟩:=h ρ w hp hx;simp only [execOp,ho,h1,h2,Option.map_some,Option.map_none,Sem.run_bind,GR ht hinfo hk,Result.andThen_ok,Sem.run_pure]
theorem JL {c:Nat} (hg:o.guard=none) (ho:o.op = .slice t x (some y) none none)
 (ht:P.underlying t=some (.slice e)) (hinfo:Bh P e z bytes) (h:∀ ρ w,D5 ρ→CO ops hs a0 o ρ w [x,y]→ρ x = .slice a n c∧ρ y = .int .i64 k) (hk:k≤n) :
 obl P C ops hs a0 i o (he (.slice (if c=k then a else a.map (fun x=>x.add k)) (n - k) (c - k))) :=
 Mb hg fun ρ w hp _ hx=>by
  rw [ho] at hx;obtain ⟨h1,h2⟩:=h ρ w hp hx;simp only [execOp,ho,h1,h2,Option.map_some,Option.map_none,Sem.run_bind,Fj ht hinfo hk,Result.andThen_ok,Sem.run_pure]
theorem R6 (hg:o.guard=none) (ho:o.op = .buildSlice t 0 #[])
 (ht:P.underlying t=some (.slice e)) (hinfo:Bh P e z bytes) (hb:∀ w,C w→base≤w.heap.size) :
 obl P C ops hs a0 i o ⟨false, .pr (fun v wx=>∃ g,v = .slice (some ⟨g,0,none⟩) 0 0∧Own wx base e (some ⟨g,0,none⟩) 0 0 []),cons⟩ :=
 Bc hg fun ρ w hp hC hx=>by
  refine ⟨_,_, ?_,(Ext.refl w).alloc (.cells #[] e),w.heap.size,rfl,Au w base e #[] 0 rfl (hb w hC) (by omega)⟩;simp [execOp,ho,R4 ht hinfo]
theorem R7 (hg:o.guard=none) (ho:o.op = .buildSlice t 1 #[(0,x)])
 (ht:P.underlying t=some (.slice e)) (hinfo:Bh P e z bytes) (hz1:z.cells=#[z]) (hv:v0.cells=#[v0]) (hb:∀ w,C w→base≤w.heap.size)
 (h:∀ ρ w,D5 ρ→CO ops hs a0 o ρ w [x]→ρ x=v0) :
 obl P C ops hs a0 i o ⟨false, .pr (fun v wx=>∃ g,v = .slice (some ⟨g,0,none⟩) 1 1∧Own wx base e (some ⟨g,0,none⟩) 1 1 [v0]),cons⟩ :=
 Bc hg fun ρ w hp hC hx=>by
  rw [ho] at hx;have h1:=h ρ w hp hx;refine ⟨_,_, ?_,(Ext.refl w).alloc (.cells #[v0] e),w.heap.size,rfl,Au w base e #[v0] 1 rfl (hb w hC) (by omega)⟩;simp [execOp,ho,h1,R5 ht hinfo hz1 hv]
theorem Md {m N:Nat} (hg:o.guard=none)
 (ho:o.op = .call { callee := .builtin .append,args:=#[s,x],argTypes:=#[t,t] })
 (ht:P.underlying t=some (.slice e)) (hinfo:Bh P e z bytes) (hz1:z.cells.size=1) (h1:∀ u∈news,u.oneCell'=true) (hN:n+m=N) (h63:N≤maxLen) (hbytes:N*bytes≤140737488355328)
 (hys:xs ++ news=ys) (hb:∀ w,C w→base≤w.heap.size)
 (h:∀ ρ w,D5 ρ→C w→CO ops hs a0 o ρ w [s,x]→∃ a c A cx,ρ s = .slice a n c∧Own w base e a n c xs∧ρ x = .slice A m cx∧Sl w A m cx news ∧
  ∀ w',w.grownBy w' (blk a)→C w'∧GM ops hs i o w w' (List.range hs.length)) :
 obl P C ops hs a0 i o ⟨true, .pr (fun v wx=>∃ a1 c1,v = .slice a1 N c1∧Own wx base e a1 N c1 ys),cons⟩ :=
 TN hg fun ρ w hp hC hx=>by
  rw [ho] at hx;obtain ⟨a,c,A,cx,hs1,hown,hx1,hsl,hk⟩:=h ρ w hp hC hx;subst hN;subst hys;obtain ⟨a',c',w',hrun,h2,h3,_⟩:=Pn (P:=P) (ty:=o.type) ht hinfo hz1 hown hsl h1 h63 hbytes (hb w hC);obtain ⟨k1,k2⟩:=hk w' h3;refine ⟨_,w', ?_,k1,k2,a',c',rfl,h2⟩;unfold execOp;simp only [ho,resolve,invoke,builtin,Sem.run_bind,Sem.run_pure,Result.andThen_ok,List.map_toArray,List.map_cons,List.map_nil,hs1,hx1,hrun]
end
theorem A6 (xs:List Int):∀ u∈xs.map (Value.int .i64),u.oneCell'=true:=ints_oneCell .i64 xs
end Go.Proofs.YtlpgonpfjbhmfaaGreatDoor
