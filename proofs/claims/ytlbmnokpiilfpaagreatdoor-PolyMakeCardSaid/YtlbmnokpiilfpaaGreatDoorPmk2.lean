/- Part Pmk2. -/
import Derived.Test.YtlbmnokpiilfpaaGreatDoorPmk1
import Derived.Orders
import Derived.StillTail
import Derived.Shelf.Spec.BitsCarry
import Derived.Shelf.Bits.Mul64
import Derived.Shelf.Small.Bits
import Derived.Test.YtlbmnokpiilfpaaGreatDoorProg
import Derived.Deep.QuietTactic
import Derived.BigQuiet
set_option maxRecDepth 100000
set_option maxHeartbeats 100000000
namespace Go.Proofs.YtlbmnokpiilfpaaGreatDoor
open Go Go.RowKit
variable {a b:Act} {l:List Nat} {news xs ys:List Value} {base bytes i j n:Nat} {o:Oper} {s x:Operand} {cons:Option Nat} {e t:TypeId} {c v z:Value} {w w':World}
inductive Ty where
 | eq (c:Value)
 | pr (p:Value->World->Prop)
def Ty.ok:Ty->Value->World->Prop
 | .eq c,v,_=>v=c
 | .pr p,v,w=>p v w
structure Hd where
 mu:Bool
 ty:Ty
 cons:Option Nat
def he (c:Value):Hd:=⟨false, .eq c,none⟩
def hp (p:Value->World->Prop):Hd:=⟨false, .pr p,none⟩
def hu (k:Nat) (p:Value->World->Prop):Hd:=⟨false, .pr p,some k⟩
def hmp (p:Value->World->Prop):Hd:=⟨true, .pr p,none⟩
def hmu (k:Nat) (p:Value->World->Prop):Hd:=⟨true, .pr p,some k⟩
def Bz (o:Oper):List Nat:=(o.after.toList.filter (Region.binds .any ·)).map (·.on)
def A1 (ops:Array Oper) (j:Nat):Option Tmp:=(ops[j]?).bind (·.dst)
def LS (ops:Array Oper) (o:Oper) (t:Tmp):Option Nat:=(Bz o).find? (fun j=>A1 ops j == some t)
def anc (ops:Array Oper):Nat->List Nat->List Nat
 | 0,l=>l
 | f+1,l=>l ++ anc ops f (l.flatMap fun j=>((ops[j]?).map Bz).getD [])
def M4 (o:Oper):List Tmp:=o.op.operands.toList.filterMap fun | .tmp t=>some t | _=>none
def Dh (ops:Array Oper) (o:Oper):List Tmp:=M4 o ++ (match o.guard with | some (j,_)=>(A1 ops j).toList | none=>[])
def Hn (ops:Array Oper) (o:Oper):Bool:=match o.guard with | some (j,_)=>(Bz o).contains j && (A1 ops j).isSome | none=>true
def BS (ops:Array Oper) (j:Nat):List Nat:=((ops[j]?).map Bz).getD []
def M5 (ops:Array Oper) (cons:List (Option Nat)) (n size:Nat) (i:Nat) (o:Oper):Bool :=
 (Bz o).all (· < i) && (o.dst.all (· < size)) && Hn ops o &&
 (Dh ops o).all (fun t=>(List.range n).all fun j=>A1 ops j != some t || j == i || (Bz o).contains j || (BS ops j).contains i) &&
 (List.range n).all (fun j=>j == i || A1 ops j != o.dst || o.dst == none) &&
 (Bz o).all (fun j=>match (cons[j]?).bind id with | some k=>k == i || (BS ops k).contains i || !((Dh ops o).any fun t=>A1 ops j == some t) | none=>true)
def hd0:Hd:=⟨false, .eq undef,none⟩
def AD (hs:List Hd) (j:Nat):Hd:=hs.getD j hd0
def Jp (ops:Array Oper) (hs:List Hd) (a0:Act) (o:Oper) (ρ:Operand->Value) (w:World):Operand->Prop
 | .tmp t=>match LS ops o t with
  | some j=>match (AD hs j).ty with
   | .eq c=>ρ (.tmp t)=c
   | .pr p=>∃ v,ρ (.tmp t)=v/\p v w
  | none=>ρ (.tmp t)=a0.eval (.tmp t)
 | _=>True
def B0 (ops:Array Oper) (hs:List Hd) (a0:Act) (o:Oper) (ρ:Operand->Value) (w:World):List Operand->Prop
 | []=>True
 | x :: r=>Jp ops hs a0 o ρ w x/\B0 ops hs a0 o ρ w r
structure Di (ρ:Operand->Value):Prop where
 const:∀ v,ρ (.const v)=v
 global:∀ g,ρ (.global g) = .pointer (some ⟨g,0,none⟩)
 func:∀ f,ρ (.func f) = .func (.func f) #[] #[]
theorem Iw (a:Act):Di a.eval:=⟨fun _=>rfl,fun _=>rfl,fun _=>rfl⟩
def Fk (P:Program) (R:Value->World->Prop):Result Next->Prop
 | .ok (.value u) w'=>R u w'
 | .ok .skip w'=>R undef w'
 | .ok (.enter f args) w'=>Calls P f args w' (fun e w''=>∃ u,e = .returned u/\R u w'')
 | _=>False
def BA (hs:List Hd) (o:Oper):Option Bool :=
 match o.guard with
 | none=>some true
 | some (j,b)=>match (AD hs j).ty with
  | .eq (.bool c)=>some (c == b)
  | _=>none
def C8 (ops:Array Oper) (hs:List Hd) (i:Nat) (o:Oper) (j:Nat):Bool :=
 j != i && (match (AD hs j).ty with | .eq _=>false | .pr _=>true) && !(anc ops 3 (BS ops j)).contains i &&
 !(match (AD hs j).cons with | some k=>k == i || (anc ops 3 (Bz o)).contains k | none=>false)
def E5 (ops:Array Oper) (hs:List Hd) (i:Nat) (o:Oper) (w w':World):List Nat->Prop
 | []=>True
 | j :: r=>(if C8 ops hs i o j then ∀ v,(AD hs j).ty.ok v w->(AD hs j).ty.ok v w' else True)/\E5 ops hs i o w w' r
def Dz (C:World->Prop) (ops:Array Oper) (hs:List Hd) (i:Nat) (o:Oper) (h:Hd) (w:World) (u:Value) (w':World):Prop :=
 match h.ty with
 | .eq c=>w'=w/\u=c
 | .pr p=>if h.mu then C w'/\E5 ops hs i o w w' (List.range hs.length)/\p u w' else Ext w w'/\p u w'
def obl (P:Program) (C:World->Prop) (ops:Array Oper) (hs:List Hd) (a0:Act) (i:Nat) (o:Oper) (h:Hd):Prop :=
 match BA hs o with
 | some true=>∀ ρ w,Di ρ->C w->B0 ops hs a0 o ρ w o.op.operands.toList->Fk P (Dz C ops hs i o h w) ((execOp ρ o).run P w)
 | some false=>∀ w,C w->h.ty.ok undef w
 | none=>False
def KC (P:Program) (C:World->Prop) (ops:Array Oper) (hs:List Hd) (a0:Act):Nat->List Oper->List Hd->Prop
 | _,_,[]=>True
 | i,o :: os,h :: r=>obl P C ops hs a0 i o h/\KC P C ops hs a0 (i+1) os r
 | _,[],_ :: _=>False
def DA (w:World) (K:Act->Prop):List Oper->List Hd->Act->Prop
 | o :: os,h :: r,a=>match h.ty with
  | .eq c=>DA w K os r (a.put o.dst c)
  | .pr p=>match h.cons with
   | none=>∀ v,p v w->DA w K os r (a.put o.dst v)
   | some _=>∀ v,DA w K os r (a.put o.dst v)
 | _,_,a=>K a
def RT (h:Hd):Prop:=match h.ty with | .eq _=>True | .pr p=>∀ v w w',Ext w w'->p v w->p v w'
def FH:List Hd->Prop
 | []=>True
 | h :: r=>RT h/\FH r
/-! ### Soundness -/
section
variable {P:Program} {ops:Array Oper} {hs:List Hd} {a0:Act} {C:World->Prop} {Q:Exit->Act->World->Prop}
def AK (ops:Array Oper) (j:Nat) (a:Act):Value:=match A1 ops j with | some d=>a.tmps.getD d undef | none=>undef
structure Ha (ops:Array Oper) (hs:List Hd) (a0:Act) (C:World->Prop) (listed:Array Bool) (a:Act) (w:World):Prop where
 size:listed.size=ops.size
 tailF:∀ j,hs.length<=j->listed.getD j false=false
 closed:∀ j,listed.getD j false=true->∀ p∈BS ops j,listed.getD p false=true
 world:C w
 defers:a.defers=a0.defers
 tmps:a.tmps.size=a0.tmps.size
 frame:∀ t,(∀ j,j<hs.length->listed.getD j false=true->A1 ops j≠some t)->a.tmps.getD t undef=a0.tmps.getD t undef
 facts:∀ j,j<hs.length->listed.getD j false=true->(∀ k,(AD hs j).cons=some k->listed.getD k false=false)->∃ v,(AD hs j).ty.ok v w/\∀ d,A1 ops j=some d->a.tmps.getD d undef=v
 values:∀ j c,j<hs.length->listed.getD j false=true->(AD hs j).ty = .eq c->∀ d,A1 ops j=some d->a.tmps.getD d undef=c
theorem B6 {listed:Array Bool} (a:∀ j,listed.getD j false=true->∀ p∈BS ops j,listed.getD p false=true) :
 ∀ (f:Nat) (l:List Nat),(∀ j∈l,listed.getD j false=true)->∀ j∈anc ops f l,listed.getD j false=true
 | 0,_,h,j,hj=>h j hj
 | f+1,l,h,j,hj=>by
  simp only [anc,List.mem_append] at hj;rcases hj with hj|hj
  · exact h j hj
  · refine B6 a f _ ?_ j hj;intro k hk;rw [List.mem_flatMap] at hk;obtain ⟨m,hm,hk⟩:=hk;exact a m (h m hm) k hk
theorem JT :j∈Bz o<->∃ e∈o.after,Region.binds .any e=true/\e.on=j:=by
 simp [Bz,and_assoc]
theorem D0 {listed:Array Bool} (h:i∈Region.ready .any ops listed) :
 listed.getD i true=false/\∃ o,ops[i]?=some o/\∀ p∈Bz o,listed.getD p false=true:=by
 obtain ⟨h0,o,c,a⟩:=mem_ready.1 h;refine ⟨h0,o,c,fun p hp => ?_⟩;obtain ⟨e,he,b,rfl⟩:=JT.1 hp;exact a e he b
theorem LT {listed:Array Bool} (h0:listed.getD i true=false) (b:ops[i]?=some o) (h:∀ p∈Bz o,listed.getD p false=true):i∈Region.ready .any ops listed :=
 mem_ready.2 ⟨h0,o,b,fun e he a=>h _ (JT.2 ⟨e,he,a,rfl⟩)⟩
theorem D4 (a:ops[i]?=some o):BS ops i=Bz o:=by simp [BS,a]
theorem Bw (a:ops[i]?=some o):A1 ops i=o.dst:=by simp [A1,a]
theorem Gu {i:Nat} {o:Oper} {w a:World}:∀ {l:List Nat},E5 ops hs i o w a l->∀ j∈l,C8 ops hs i o j=true->∀ v,(AD hs j).ty.ok v w->(AD hs j).ty.ok v a
 | _ :: _,h,j,hj,hm,v,hv=>by
  rcases List.mem_cons.1 hj with rfl|hj
  · have h1:=h.1;rw [if_pos hm] at h1;exact h1 v hv
  · exact Gu h.2 j hj hm v hv
theorem Ix {i:Nat} {o:Oper} {w b:World}:∀ {l:List Nat},(∀ j∈l.filter (C8 ops hs i o),∀ v,(AD hs j).ty.ok v w->(AD hs j).ty.ok v b)->E5 ops hs i o w b l
 | [],_=>trivial
 | j :: r,h=>by
  refine ⟨?_,Ix fun k a=>h k (by
   rw [List.filter_cons];split
   · exact List.mem_cons_of_mem _ a
   · exact a)⟩
  by_cases hm:C8 ops hs i o j=true
  · rw [if_pos hm];exact h j (by rw [List.filter_cons,if_pos hm]; simp)
  · rw [if_neg hm];trivial
theorem JU (h:l.filter (C8 ops hs i o)=[j]) (b:∀ v,(AD hs j).ty.ok v w->(AD hs j).ty.ok v w'):E5 ops hs i o w w' l :=
 Ix (by
  rw [h];intro k a;rw [List.mem_singleton] at a;subst a
  exact b)
theorem Gv:∀ {l:List Hd},FH l->∀ h∈l,RT h
 | _ :: _,hh,h,hm=>by
  rcases List.mem_cons.1 hm with rfl|hm
  · exact hh.1
  · exact Gv hh.2 h hm
theorem Og {h:Hd} (a:RT h) {v:Value} {w d:World} (e:Ext w d) (b:h.ty.ok v w):h.ty.ok v d:=by
 unfold RT at a;revert a b;cases h.ty with
 | eq c=>exact fun _ b=>b
 | pr p=>exact fun a b=>a v w d e b
theorem KD {R:Value->World->Prop} {K:Act->World->Prop} (h:Fk P R ((execOp a.eval o).run P w))
 (c:∀ u b,R u b->K (a.put o.dst u) b):o.wp P a w K Q:=by
 unfold Oper.wp;generalize (execOp a.eval o).run P w=r at *
 cases r with
 | ok n b =>
  cases n <;> simp only [Fk] at h <;> simp only [Oper.upon]
  case value u=>exact c u b h
  case skip=>exact c undef b h
  case enter f args=>exact h.mono fun e d ⟨u,he,g⟩=>by subst he; exact c u d g
 | halt x b=>simp only [Fk] at h
theorem B3 {d t:Tmp}:(a.put (some d) v).tmps.getD t undef=if d=t/\d<a.tmps.size then v else a.tmps.getD t undef:=by
 simp only [Act.put,Array.getD_eq_getD_getElem?];by_cases h:d=t
 · subst h;by_cases h2:d<a.tmps.size
   · simp [h2]
   · simp [h2]
 · rw [Array.getElem?_setIfInBounds_ne h];simp [h]
theorem FJ {d:Option Tmp}:(a.put d v).tmps.size=a.tmps.size:=by cases d <;> simp [Act.put]
theorem Fl {d:Option Tmp}:(a.put d v).defers=a.defers:=by cases d <;> rfl
def unl (listed:Array Bool):Nat->Nat
 | 0=>0
 | n+1=>unl listed n+(if listed.getD n false=true then 0 else 1)
theorem Iy {listed:Array Bool} {i:Nat}:∀ {n:Nat},n<=i->unl (listed.setIfInBounds i true) n=unl listed n
 | 0,_=>rfl
 | n+1,h=>by rw [unl,unl,Iy (by omega),getD_set_ne false (by omega)]
theorem KE {listed:Array Bool} {i:Nat} (b:i<listed.size) (a:listed.getD i false=false):∀ {n:Nat},i<n->unl (listed.setIfInBounds i true) n+1=unl listed n
 | 0,h=>by omega
 | n+1,h=>by
  rw [unl,unl];by_cases hi:i=n
  · subst hi;rw [Iy (lrf _),a];have:(listed.setIfInBounds i true).getD i false=true:=by simp [b]
    rw [this];simp
  · rw [getD_set_ne false hi,<-KE b a (n:=n) (by omega)];omega
theorem FK {listed:Array Bool}:∀ {n:Nat},unl listed n=0->∀ j,j<n->listed.getD j false=true
 | 0,_,j,hj=>by omega
 | n+1,h,j,hj=>by
  rw [unl] at h;by_cases hj':j=n
  · subst hj';by_cases hx:listed.getD j false=true
    · exact hx
    · rw [if_neg hx] at h; omega
  · exact FK (n:=n) (by omega) j (by omega)
theorem FL {listed:Array Bool}:∀ {n:Nat},unl listed n≠0->∃ j,j<n/\listed.getD j false=false/\∀ k,k<j->listed.getD k false=true
 | 0,h=>absurd rfl h
 | n+1,h=>by
  by_cases h0:unl listed n=0
  · refine ⟨n,by omega, ?_,fun k a=>FK h0 k a⟩;rw [unl,h0] at h;by_cases hx:listed.getD n false=true
    · rw [if_pos hx] at h; omega
    · simpa using hx
  · obtain ⟨j,hj,h1,h2⟩:=FL h0;exact ⟨j,by omega,h1,h2⟩
theorem LU (r:List Hd):∀ (a:List Oper) (b:Nat),KC P C ops hs a0 b a r->∀ (k:Nat) (o:Oper),a[k]?=some o->k<r.length->obl P C ops hs a0 (b+k) o (r.getD k hd0):=by
 induction r with
 | nil=>intro a b _ k o _ d; simp at d
 | cons h r ih =>
  intro a b e k o c d;cases a with
  | nil=>simp at c
  | cons o' a =>
   cases k with
   | zero =>
    simp only [List.getElem?_cons_zero,Option.some.injEq] at c;subst c;exact e.1
   | succ k =>
    have:=ih a (b+1) e.2 k o (by simpa using c) (by simpa using d);rw [Nat.add_assoc,Nat.add_comm 1 k] at this;simpa using this
structure DC (ops:Array Oper) (cons:List (Option Nat)) (n size:Nat) (i:Nat) (o:Oper):Prop where
 lt:∀ p∈Bz o,p<i
 dst:∀ d,o.dst=some d->d<size
 grd:Hn ops o=true
 look:∀ t∈Dh ops o,∀ j,j<n->A1 ops j=some t->j=i\/j∈Bz o\/i∈BS ops j
 apart:∀ j,j<n->j≠i->A1 ops j=o.dst->o.dst=none
 cons:∀ j∈Bz o,∀ k,(cons[j]?).bind id=some k->k=i\/i∈BS ops k\/∀ t∈Dh ops o,A1 ops j≠some t
theorem GU {a:List (Option Nat)} {size:Nat} (h:M5 ops a n size i o=true):DC ops a n size i o:=by
 unfold M5 at h;simp only [Bool.and_eq_true] at h;obtain ⟨⟨⟨⟨⟨h1,h2⟩,h3⟩,h4⟩,h5⟩,h6⟩:=h;refine ⟨?_, ?_,h3, ?_, ?_, ?_⟩
 · intro p hp;simpa using List.all_eq_true.1 h1 p hp
 · intro d b;rw [b] at h2;simpa using h2
 · intro t g j c b;have:=List.all_eq_true.1 (List.all_eq_true.1 h4 t g) j (by simpa using c);simp only [Bool.or_eq_true,bne_iff_ne,ne_eq,beq_iff_eq,List.contains_iff_mem] at this;rcases this with ((h|h) | h) | h
   · exact absurd b h
   · exact Or.inl h
   · exact Or.inr (Or.inl h)
   · exact Or.inr (Or.inr h)
 · intro j c e b;have:=List.all_eq_true.1 h5 j (by simpa using c);simp only [Bool.or_eq_true,bne_iff_ne,ne_eq,beq_iff_eq] at this;rcases this with (h|h) | h
   · exact absurd h e
   · exact absurd b h
   · exact h
 · intro j c k f;have:=List.all_eq_true.1 h6 j c;rw [f] at this;simp only [Bool.or_eq_true,beq_iff_eq,List.contains_iff_mem,Bool.not_eq_true',List.any_eq_false] at this;rcases this with (h|h) | h
   · exact Or.inl h
   · exact Or.inr (Or.inl h)
   · exact Or.inr (Or.inr h)
theorem LW (a:j<hs.length):((hs.map (·.cons))[j]?).bind id=(AD hs j).cons:=by
 simp [AD,a]
theorem Iz {t:Tmp} (h:LS ops o t=some j):j∈Bz o/\A1 ops j=some t:=by
 have h1:=List.mem_of_find?_eq_some h;have h2:=List.find?_some h;exact ⟨h1,by simpa using h2⟩
theorem IA {t:Tmp} (h:LS ops o t=none) {j:Nat} (a:j∈Bz o):A1 ops j≠some t:=by
 have:=List.find?_eq_none.1 h j a;simpa using this
theorem IB {o:Oper} {a:Operand->Value} {w:World}:∀ {l:List Operand},(∀ x∈l,Jp ops hs a0 o a w x)->B0 ops hs a0 o a w l
 | [],_=>trivial
 | x :: r,h=>⟨h x (by simp),IB fun y b=>h y (by simp [b])⟩
theorem Qw (ab:KC P C ops hs a0 0 ops.toList hs) (aj:FH hs) (ae:∀ w r,Ext w r->C w->C r) {listed:Array Bool} {a:Act} {w:World}
 (e:Ha ops hs a0 C listed a w) {i:Nat} (hi:i∈Region.ready .any ops listed) (a5:i<hs.length)
 (ai:∀ o,ops[i]?=some o->DC ops (hs.map (·.cons)) hs.length a0.tmps.size i o) {K:Act->World->Prop}
 (hK:∀ a' r,Ha ops hs a0 C (listed.setIfInBounds i true) a' r->K a' r):wpOp P ops Q i K a w:=by
 obtain ⟨h0,o,Z,T⟩:=D0 hi;have X:=ai o Z;have a4:i<listed.size:=by
  rw [e.size];exact (Array.getElem?_eq_some_iff.1 Z).1
 have a3:listed.getD i false=false:=by
  simpa [a4] using h0
 have A:listed.getD i false≠true:=by rw [a3]; simp
 have V:(listed.setIfInBounds i true).getD i false=true:=by simp [a4]
 have E:obl P C ops hs a0 i o (AD hs i):=by
  have:=LU hs ops.toList 0 ab i o (by simpa using Z) a5;simpa [AD] using this
 -- the operands
 have ac:B0 ops hs a0 o a.eval w o.op.operands.toList:=by
  refine IB fun x hx => ?_;cases x with
  | tmp t =>
   have a9:t∈Dh ops o:=by
    unfold Dh M4;rw [List.mem_append];left;rw [List.mem_filterMap];exact ⟨_,hx,rfl⟩
   simp only [Jp];cases a8:LS ops o t with
   | none =>
    simp only [Act.eval];refine e.frame t fun j m M q => ?_;rcases X.look t a9 j m q with h|h|h
    · subst h; exact A M
    · exact IA a8 h q
    · exact A (e.closed j M i h)
   | some j =>
    obtain ⟨B,W⟩:=Iz a8;have H:j<hs.length:=by have:=X.lt j B; omega
    have a6:=T j B;simp only;cases f:(AD hs j).ty with
    | eq c=>exact e.values j c H a6 f t W
    | pr p =>
     obtain ⟨v,n,a2⟩:=e.facts j H a6 (by
      intro k G;have:=X.cons j B k (by rw [LW H]; exact G);rcases this with h|h|h
      · subst h; exact a3
      · by_cases I:listed.getD k false=true
        · exact absurd (e.closed k I i h) A
        · simpa using I
      · exact absurd W (h t a9))
     rw [f] at n;exact ⟨v,a2 t W,n⟩
  | _=>trivial
 -- behind the operation
 have z:∀ u r,C r->(AD hs i).ty.ok u r ->
  (∀ j,j<hs.length->j≠i->listed.getD j false=true->(∀ k,(AD hs j).cons=some k->(listed.setIfInBounds i true).getD k false=false)->∀ v,(AD hs j).ty.ok v w->(AD hs j).ty.ok v r) ->
  Ha ops hs a0 C (listed.setIfInBounds i true) (a.put o.dst u) r:=by
  intro u r hC hu Y;have L:∀ j,j<hs.length->j≠i->∀ d,A1 ops j=some d->(a.put o.dst u).tmps.getD d undef=a.tmps.getD d undef:=by
   intro j m D d q;cases S:o.dst with
   | none=>rfl
   | some d' =>
    rw [B3];have:d'≠d:=by
     rintro rfl;have:=X.apart j m D (by rw [q,S]);rw [S] at this;cases this
    rw [if_neg (fun h=>this h.1)]
  have U:∀ d,A1 ops i=some d->(a.put o.dst u).tmps.getD d undef=u:=by
   intro d q;rw [Bw Z] at q;rw [q,B3,if_pos ⟨rfl,by rw [e.tmps]; exact X.dst d q⟩]
  have s:∀ j,j≠i->(listed.setIfInBounds i true).getD j false=true->listed.getD j false=true:=by
   intro j D h
   rwa [getD_set_ne false (Ne.symm D)] at h
  refine ⟨by rw [Array.size_setIfInBounds]; exact e.size, ?_, ?_,hC,by rw [Fl]; exact e.defers,by rw [FJ]; exact e.tmps, ?_, ?_, ?_⟩
  · intro j m;rw [getD_set_ne false (by omega)];exact e.tailF j m
  · intro j m p hp;by_cases l:j=i
    · subst l;rw [D4 Z] at hp;exact getD_set_true (T p hp)
    · exact getD_set_true (e.closed j (s j l m) p hp)
  · intro t ht;have h1:o.dst≠some t:=by
     have:=ht i a5 V
     rwa [Bw Z] at this
    have h2:a.tmps.getD t undef=a0.tmps.getD t undef:=e.frame t fun j m M=>ht j m (getD_set_true M);cases S:o.dst with
    | none=>exact h2
    | some d' =>
     rw [B3,if_neg (fun h=>h1 (by rw [S,h.1]))];exact h2
  · intro j m M N;by_cases l:j=i
    · subst l;exact ⟨u,hu,U⟩
    · have a7:=s j l M
      obtain ⟨v,n,a2⟩:=e.facts j m a7 (by
       intro k G;have:=N k G;by_cases I:listed.getD k false=true
       · rw [getD_set_true I] at this; cases this
       · simpa using I)
      exact ⟨v,Y j m l a7 N v n,fun d q=>by rw [L j m l d q]; exact a2 d q⟩
  · intro j c m M f d q;by_cases l:j=i
    · subst l;rw [f] at hu;rw [U d q];exact hu
    · rw [L j m l d q];exact e.values j c m (s j l M) f d q
 -- the guard
 have aa:∀ b,BA hs o=some b->Region.wanted o (yielded ops a.tmps)=b:=by
  intro b F;unfold BA at F;unfold Region.wanted;cases hg:o.guard with
  | none =>
   rw [hg] at F;simpa using F
  | some g =>
   obtain ⟨j,b'⟩:=g;rw [hg] at F;simp only at F |-;have O:=X.grd;unfold Hn at O;rw [hg] at O;simp only [Bool.and_eq_true,List.contains_iff_mem] at O;obtain ⟨B,ag⟩:=O;obtain ⟨d,q⟩:=Option.isSome_iff_exists.1 ag;have H:j<hs.length:=by have:=X.lt j B; omega
   cases f:(AD hs j).ty with
   | pr p=>rw [f] at F; cases F
   | eq c =>
    rw [f] at F;cases c with
    | bool c =>
     simp only [Option.some.injEq] at F;have n:=e.values j _ H (T j B) f d q;have hy:yielded ops a.tmps j=some c:=by
      unfold yielded;have af:(ops[j]?).bind (·.dst)=some d:=q;rw [af];have:a.tmps[d]?=some (.bool c):=by
       rw [Array.getD_eq_getD_getElem?] at n;cases hx:a.tmps[d]? with
       | none=>rw [hx] at n; cases n
       | some y=>rw [hx] at n; simpa using n
      simp [this]
     rw [hy,<-F];cases c <;> cases b' <;> rfl
    | _=>cases F
 unfold wpOp;rw [Z];simp only;unfold obl at E;cases hw:BA hs o with
 | none=>rw [hw] at E; exact E.elim
 | some b =>
  rw [hw] at E;rw [aa b hw];cases b with
  | true =>
   rw [if_pos rfl];left;refine KD (E a.eval w (Iw a) e.world ac) fun u r J=>hK _ _ ?_;unfold Dz at J;cases f:(AD hs i).ty with
   | eq c =>
    rw [f] at J;obtain ⟨rfl,rfl⟩:=J;exact z u r e.world (by rw [f]; rfl) fun _ _ _ _ _ v n=>n
   | pr p =>
    rw [f] at J;simp only at J;by_cases hmu:(AD hs i).mu=true
    · rw [if_pos hmu] at J;obtain ⟨ad,ah,hp⟩:=J;refine z u r ad (by rw [f]; exact hp) fun j m D M N v n => ?_;cases a1:(AD hs j).ty with
      | eq c=>rw [a1] at n; exact n
      | pr p' =>
       rw [<-a1];refine Gu ah j (by simpa using m) ?_ v n;have c1:i ∉ anc ops 3 (BS ops j):=fun h=>A (B6 e.closed 3 _ (e.closed j M) i h);have c2:∀ k,(AD hs j).cons=some k->k≠i/\k ∉ anc ops 3 (Bz o):=by
        intro k G;have R:=N k G;refine ⟨?_,fun hm => ?_⟩
        · rintro rfl;rw [V] at R;cases R
        · rw [getD_set_true (B6 e.closed 3 _ T k hm)] at R;cases R
       unfold C8;rw [a1];cases hc:(AD hs j).cons with
       | none=>simp [D,c1]
       | some k =>
        obtain ⟨d1,d2⟩:=c2 k hc;simp [D,c1,d1,d2]
    · rw [if_neg hmu] at J
      exact z u r (ae w r J.1 e.world) (by rw [f]; exact J.2) fun j m _ _ _ v n =>
       Og (Gv aj _ (by rw [AD,gqq,List.getElem?_eq_getElem m]; simp)) J.1 n
  | false =>
   simp only [Bool.false_eq_true,if_false];exact hK _ _ (z undef w e.world (E w e.world) fun _ _ _ _ _ v n=>n)
def Cz (vs:Nat->Value):Nat->List Oper->List Hd->Act->Act
 | i,o :: os,_ :: r,a=>Cz vs (i+1) os r (a.put o.dst (vs i))
 | _,_,_,a=>a
theorem IC {K:Act->Prop} {vs:Nat->Value}:∀ (r:List Hd) (d:List Oper) (i:Nat) (a:Act),DA w K d r a ->
 (∀ k,k<r.length->∀ c,(r.getD k hd0).ty = .eq c->vs (i+k)=c) ->
 (∀ k,k<r.length->∀ p,(r.getD k hd0).ty = .pr p->(r.getD k hd0).cons=none->p (vs (i+k)) w)->K (Cz vs i d r a):=by
 intro r
 induction r with
 | nil =>
  intro d i a h _ _;cases d <;> exact h
 | cons h r ih =>
  intro d i a b h1 h2;cases d with
  | nil=>exact b
  | cons o d =>
   have g:∀ k,k<r.length->∀ c,(r.getD k hd0).ty = .eq c->vs (i+1+k)=c:=by
    intro k l c f;have:=h1 (k+1) (by simpa using l) c (by simpa using f)
    rwa [Nat.add_assoc,Nat.add_comm 1 k]
   have j:∀ k,k<r.length->∀ p,(r.getD k hd0).ty = .pr p->(r.getD k hd0).cons=none->p (vs (i+1+k)) w:=by
    intro k l p hp f;have:=h2 (k+1) (by simpa using l) p (by simpa using hp) (by simpa using f)
    rwa [Nat.add_assoc,Nat.add_comm 1 k]
   unfold DA at b;unfold Cz;have m:=h1 0 (by simp);have n:=h2 0 (by simp);simp only [List.getD_cons_zero,Nat.add_zero] at m n;cases e:h.ty with
   | eq c =>
    rw [e] at b;rw [m c e];exact ih d (i+1) _ b g j
   | pr p =>
    rw [e] at b;simp only at b;cases f:h.cons with
    | none =>
     rw [f] at b;exact ih d (i+1) _ (b _ (n p e f)) g j
    | some k =>
     rw [f] at b;exact ih d (i+1) _ (b _) g j
theorem GV {vs:Nat->Value}:∀ (r:List Hd) (b:List Oper) (i:Nat) (a:Act),(Cz vs i b r a).tmps.size=a.tmps.size:=by
 intro r
 induction r with
 | nil=>intro b i a; cases b <;> rfl
 | cons h r ih =>
  intro b i a;cases b with
  | nil=>rfl
  | cons o b=>unfold Cz; rw [ih,FJ]
theorem E6 {vs:Nat->Value}:∀ (r:List Hd) (b:List Oper) (i:Nat) (a:Act),(Cz vs i b r a).defers=a.defers:=by
 intro r
 induction r with
 | nil=>intro b i a; cases b <;> rfl
 | cons h r ih =>
  intro b i a;cases b with
  | nil=>rfl
  | cons o b=>unfold Cz; rw [ih,Fl]
theorem D7 {vs:Nat->Value} {t:Tmp}:∀ (r:List Hd) (b:List Oper) (i:Nat) (a:Act),(∀ k o,k<r.length->b[k]?=some o->o.dst≠some t)->(Cz vs i b r a).tmps.getD t undef=a.tmps.getD t undef:=by
 intro r
 induction r with
 | nil=>intro b i a _; cases b <;> rfl
 | cons h r ih =>
  intro b i a c;cases b with
  | nil=>rfl
  | cons o b =>
   unfold Cz;rw [ih b (i+1) _ (fun k j f g=>c (k+1) j (by simpa using f) (by simpa using g))];have:=c 0 o (by simp) rfl;cases e:o.dst with
   | none=>rfl
   | some d=>rw [B3,if_neg (fun h=>this (by rw [e,h.1]))]
theorem ID {vs:Nat->Value} {t:Tmp}:∀ (r:List Hd) (d:List Oper) (i:Nat) (a:Act) (k:Nat) (o:Oper),k<r.length->d[k]?=some o->o.dst=some t->t<a.tmps.size ->
 (∀ j n,j < r.length->d[j]?=some n->n.dst=some t->j=k)->(Cz vs i d r a).tmps.getD t undef=vs (i+k):=by
 intro r
 induction r with
 | nil=>intro d i a k o m; simp at m
 | cons h r ih =>
  intro d i a k o m l p q c;cases d with
  | nil=>simp at l
  | cons n d =>
   unfold Cz;cases k with
   | zero =>
    simp only [List.getElem?_cons_zero,Option.some.injEq] at l;subst l
    rw [D7 r d (i+1) _ (fun k g f b e=>by
     have:=c (k+1) g (by simpa using f) (by simpa using b) e
     omega)]
    rw [p,B3,if_pos ⟨rfl,q⟩,Nat.add_zero]
   | succ k =>
    rw [ih d (i+1) _ k o (by simpa using m) (by simpa using l) p (by rw [FJ]; exact q) (fun j g f b e=>by
     have:=c (j+1) g (by simpa using f) (by simpa using b) e
     omega)]
    rw [Nat.add_assoc,Nat.add_comm 1 k]
theorem Oh (h1:a.defers=b.defers) (h2:a.tmps.size=b.tmps.size) (h3:∀ t,a.tmps.getD t undef=b.tmps.getD t undef):a=b:=by
 cases a;cases b;simp only at h1 h2 h3;subst h1;congr 1;apply Array.ext h2;intro i c d;have:=h3 i;simpa [c,d] using this
end
/-! ### The operations' notes,kind by kind -/
section
variable {P:Program} {ops:Array Oper} {hs:List Hd} {a0:Act} {C:World->Prop} {i:Nat} {o:Oper}
theorem Oi (d:o.guard=none) (h:∀ a w,Di a->C w->B0 ops hs a0 o a w o.op.operands.toList->(execOp a o).run P w = .ok (.value c) w) :
 obl P C ops hs a0 i o (he c):=by
 unfold obl BA;rw [d];intro a w hp b e;rw [h a w hp b e];exact ⟨rfl,rfl⟩
theorem AY {p:Value->World->Prop} (d:o.guard=none)
 (h:∀ a w,Di a->C w->B0 ops hs a0 o a w o.op.operands.toList->∃ v b,(execOp a o).run P w = .ok (.value v) b/\Ext w b/\p v b) :
 obl P C ops hs a0 i o ⟨false, .pr p,cons⟩:=by
 unfold obl BA;rw [d];intro a w hp c f;obtain ⟨v,b,e,h1,h2⟩:=h a w hp c f;rw [e];exact ⟨h1,h2⟩
theorem RU {p:Value->World->Prop} (d:o.guard=none)
 (h:∀ b w,Di b->C w->B0 ops hs a0 o b w o.op.operands.toList->∃ v a,(execOp b o).run P w = .ok (.value v) a/\C a/\E5 ops hs i o w a (List.range hs.length)/\p v a) :
 obl P C ops hs a0 i o ⟨true, .pr p,cons⟩:=by
 unfold obl BA;rw [d];intro b w hp c f;obtain ⟨v,a,e,h1,h2,h3⟩:=h b w hp c f;rw [e];exact ⟨h1,h2,h3⟩
end
section
variable {P:Program} {w:World}
theorem D8 {a:Option Addr} {c k:Nat} (m:P.underlying t=some (.slice e)) (b:BL P e z bytes) (l:k<=c) :
 (Instr.sliceAt t (.slice a n c) none (some (.int .i64 k)) none).run P w = .ok (.slice a k c) w:=by
 obtain ⟨i,j,o,d,g⟩:=info_parts b;have f:(if c=0 then a else a.map (fun x=>x.add 0))=a:=by
  split
  · rfl
  · cases a <;> simp [Addr.add]
 have h0:(0:Int)<=k:=by omega
 have h1:(k:Int)<=c:=by omega
 simp [Instr.sliceAt,Instr.slice,Instr.sliceBounds,Instr.sliceBound,run_underlying m,asIntOf,sizeOf,typeInfo,j,l,f]
theorem Tb:Array.range 0=#[]:=by decide
theorem LX (f:P.underlying t=some (.slice e)) (a:BL P e z bytes) :
 (Instr.buildSlice t 0 #[]).run P w = .ok (.slice (some ⟨w.heap.size,0,none⟩) 0 0) (w.alloc (.cells #[] e)):=by
 obtain ⟨i,d,g,b,c⟩:=info_parts a;simp [Instr.buildSlice,run_underlying f,sizeOf,typeInfo,d,Instr.fill,newRow,Tb]
end
section
variable {P:Program} {ops:Array Oper} {hs:List Hd} {a0:Act} {C:World->Prop} {i:Nat} {o:Oper}
theorem Qx (d:o.guard=none) (f:o.op = .buildSlice t 0 #[])
 (j:P.underlying t=some (.slice e)) (a:BL P e z bytes) (c:∀ w,C w->base<=w.heap.size) :
 obl P C ops hs a0 i o ⟨false, .pr (fun v k=>∃ g,v = .slice (some ⟨g,0,none⟩) 0 0/\Own k base e (some ⟨g,0,none⟩) 0 0 []),cons⟩ :=
 AY d fun m w hp b l=>by
  refine ⟨_,_, ?_,(Ext.refl w).alloc (.cells #[] e),w.heap.size,rfl,Az w base e #[] 0 rfl (c w b) (by omega)⟩;simp [execOp,f,LX j a]
theorem RV {m N:Nat} (M:o.guard=none)
 (G:o.op = .call { callee := .builtin .append,args:=#[s,x],argTypes:=#[t,t] })
 (Q:P.underlying t=some (.slice e)) (d:BL P e z bytes) (B:z.cells.size=1) (h1:∀ u∈news,u.oneCell'=true) (K:n+m=N) (h63:N<=maxLen) (b:N*bytes<=140737488355328)
 (y:xs ++ news=ys) (L:∀ w,C w->base<=w.heap.size)
 (h:∀ g w,Di g->C w->B0 ops hs a0 o g w [s,x]->∃ a c A l,g s = .slice a n c/\Own w base e a n c xs/\g x = .slice A m l/\Sl w A m l news /\
  ∀ f,w.grownBy f (blk a)->C f/\E5 ops hs i o w f (List.range hs.length)) :
 obl P C ops hs a0 i o ⟨true, .pr (fun v T=>∃ D E,v = .slice D N E/\Own T base e D N E ys),cons⟩ :=
 RU M fun g w hp F H=>by
  rw [G] at H;obtain ⟨a,c,A,l,p,j,r,q,O⟩:=h g w hp F H;subst K;subst y;obtain ⟨I,J,f,k,h2,h3,_⟩:=NO (P:=P) (ty:=o.type) Q d B j q h1 h63 b (L w F);obtain ⟨R,S⟩:=O f h3;refine ⟨_,f, ?_,R,S,I,J,rfl,h2⟩;unfold execOp;simp only [G,resolve,invoke,builtin,Sem.run_bind,Sem.run_pure,Result.andThen_ok,List.map_toArray,List.map_cons,List.map_nil,p,r,k]
end
theorem CN (xs:List Int):∀ u∈xs.map (Value.int .i64),u.oneCell'=true:=ints_oneCell .i64 xs
end Go.Proofs.YtlbmnokpiilfpaaGreatDoor
namespace Go.Proofs.YtlbmnokpiilfpaaGreatDoor
open Go.Shelf
def M6:Go.Shelf.Ren:=⟨fun | 25=>300 | n=>n,fun | 22=>238 | n=>n,fun | n=>n⟩
theorem Tc:Go.Proofs.Lays7.n25 Tryz.prog M6:={
 mixed:=by kernel_rfl
 f25:=Tryz.func300.trans (congrArg some (by kernel_rfl))
 t22:=Tryz.underlying238
 a22:=Tryz.isAgg238
 z22:=Tryz.sizeOf238
 v22:=Tryz.zeroValue238
 i22:=by kernel_rfl }
def M7:Go.Shelf.Ren:=⟨fun | 26=>291 | n=>n,fun | 22=>238 | n=>n,fun | n=>n⟩
theorem Td:Go.Proofs.Lays7.n26 Tryz.prog M7:={
 mixed:=by kernel_rfl
 f26:=Tryz.func291.trans (congrArg some (by kernel_rfl))
 t22:=Tryz.underlying238
 a22:=Tryz.isAgg238
 z22:=Tryz.sizeOf238
 v22:=Tryz.zeroValue238
 i22:=by kernel_rfl }
def M8:Go.Shelf.Ren:=⟨fun | 264=>301 | n=>n,fun | 53=>238 | 46=>222 | n=>n,fun | n=>n⟩
theorem Te:Go.Proofs.Lays.n264 Tryz.prog M8:={
 mixed:=by kernel_rfl
 f264:=Tryz.func301.trans (congrArg some (by kernel_rfl))
 t46:=Tryz.underlying222
 a46:=Tryz.isAgg222
 z46:=Tryz.sizeOf222
 v46:=Tryz.zeroValue222
 t53:=Tryz.underlying238
 a53:=Tryz.isAgg238
 z53:=Tryz.sizeOf238
 v53:=Tryz.zeroValue238 }
def Ps:Go.Shelf.Ren:=⟨fun | 134=>287 | 129=>253 | n=>n,fun | 53=>238 | 3=>3 | 4=>4 | 46=>222 | 5=>5 | 9=>9 | n=>n,fun | n=>n⟩
theorem TY:Go.Proofs.Lays.n134 Tryz.prog Ps:={
 mixed:=by kernel_rfl
 f129:=Tryz.func253.trans (congrArg some (by kernel_rfl))
 f134:=Tryz.func287.trans (congrArg some (by kernel_rfl))
 t3:=Tryz.underlying3
 a3:=Tryz.isAgg3
 z3:=Tryz.sizeOf3
 v3:=Tryz.zeroValue3
 t4:=Tryz.underlying4
 a4:=Tryz.isAgg4
 z4:=Tryz.sizeOf4
 v4:=Tryz.zeroValue4
 t5:=Tryz.underlying5
 a5:=Tryz.isAgg5
 z5:=Tryz.sizeOf5
 v5:=Tryz.zeroValue5
 t9:=Tryz.underlying9
 a9:=Tryz.isAgg9
 z9:=Tryz.sizeOf9
 v9:=Tryz.zeroValue9
 t46:=Tryz.underlying222
 a46:=Tryz.isAgg222
 z46:=Tryz.sizeOf222
 v46:=Tryz.zeroValue222
 t53:=Tryz.underlying238
 a53:=Tryz.isAgg238
 z53:=Tryz.sizeOf238
 v53:=Tryz.zeroValue238 }
def M9:Go.Shelf.Ren:=⟨fun | 129=>253 | n=>n,fun | 53=>238 | 3=>3 | 4=>4 | 46=>222 | 5=>5 | 9=>9 | n=>n,fun | n=>n⟩
theorem Tf:Go.Proofs.Lays.n129 Tryz.prog M9:={
 mixed:=by kernel_rfl
 f129:=Tryz.func253.trans (congrArg some (by kernel_rfl))
 t3:=Tryz.underlying3
 a3:=Tryz.isAgg3
 z3:=Tryz.sizeOf3
 v3:=Tryz.zeroValue3
 t4:=Tryz.underlying4
 a4:=Tryz.isAgg4
 z4:=Tryz.sizeOf4
 v4:=Tryz.zeroValue4
 t5:=Tryz.underlying5
 a5:=Tryz.isAgg5
 z5:=Tryz.sizeOf5
 v5:=Tryz.zeroValue5
 t9:=Tryz.underlying9
 a9:=Tryz.isAgg9
 z9:=Tryz.sizeOf9
 v9:=Tryz.zeroValue9
 t46:=Tryz.underlying222
 a46:=Tryz.isAgg222
 z46:=Tryz.sizeOf222
 v46:=Tryz.zeroValue222
 t53:=Tryz.underlying238
 a53:=Tryz.isAgg238
 z53:=Tryz.sizeOf238
 v53:=Tryz.zeroValue238 }
end Go.Proofs.YtlbmnokpiilfpaaGreatDoor
namespace Go.Proofs.YtlbmnokpiilfpaaGreatDoor
open Tryz Go Go.RowKit
variable {xs ys:List Nat} {B c d i m n v x y:Nat} {a b:Option Addr} {w:World}
theorem AA:BL prog 238 (.int .u64 0) 8:=by unfold BL; kernel_rfl
theorem Bs (x y c:Nat) (a:c<=1) (w:World):(callFunc 300 #[.int .u64 x, .int .u64 y, .int .u64 c]).run prog w = .ok (.value (.tuple #[.int .u64 (((x+y+c)%18446744073709551616:Nat):Int), .int .u64 (((x+y+c)/18446744073709551616:Nat):Int)])) w:=Any7.bits_Add64 Tc x y c a w
theorem CA (x y c:Nat) (a:c<=1) (w:World):(callFunc 291 #[.int .u64 x, .int .u64 y, .int .u64 c]).run prog w = .ok (.value (.tuple #[.int .u64 (((x+18446744073709551616-y-c)%18446744073709551616:Nat):Int), .int .u64 ((if x<y+c then 1 else 0:Nat):Int)])) w:=Any7.bits_Sub64 Td x y c a w
theorem A3 (g:SlN .u64 w a n c xs) :
 Calls prog 231 #[.slice a n c] w fun e A=>∃ m,e = .returned (.slice a m c)/\w=A/\m<=n/\W.trim xs=xs.take m:=by
 have q:=Lib.hid g.len;have t:=g.le;have p:=g.cap
 go_enter func231,ntmps231
 go_wp2
 go_loop [3] (fun v=>∃ k:Nat,k<=n/\v = .int .i64 k/\Hid (W.trim xs=W.trimTo xs k)) (fun v=>(intOf v).toNat)
 case atStart=>exact ⟨n,lrf _,rfl,Lib.hid (by unfold W.trim; rw [q.out])⟩
 case round =>
  obtain ⟨k,C,rfl,i⟩:=hrel;have x:=fun B:World=>D8 (P:=prog) (w:=B) (a:=a) (n:=n) underlying81 AA (k:=k) (c:=c) (by omega);cases k with
  | zero =>
   go_wp2;go_ret;exact ⟨0,rfl,rfl,by omega,by rw [i.out]; rfl⟩
  | succ k =>
   obtain ⟨b,o,rfl,l⟩:=g.at (j:=k) (by omega);have r:=l k (by omega);have D:IntKind.i64.wrap ((k:Int)+1-1)=k:=by rw [Int.add_sub_cancel]; exact IntWalk.i64_in _ (by omega)
   have z:IntKind.i64.wrap (k:Int)=k:=IntWalk.i64_in _ (by omega);by_cases f:xs.getD k 0=0
   · have d:Hid (W.trim xs=W.trimTo xs k):=by
      show _=_;rw [i.out];exact if_pos f
     rw [f] at r;clear f l;go_wp2;go_round
     case rel=>exact ⟨k,by omega,rfl,d⟩
     case measure=>simp [intOf]
   · have d:Hid (W.trim xs=xs.take (k+1)):=by
      show _=_;rw [i.out];exact if_neg f
     have s:(((xs.getD k 0:Nat):Int) == 0)=false:=by simpa using f
     generalize xs.getD k 0=y at *
     clear f l;go_wp2;go_ret;exact ⟨k+1,rfl,rfl,by omega,d.out⟩
theorem Be (g:SlN .u64 w a n c xs) (d:m<=n) (e:W.trim xs=xs.take m) (b:W.bnd 18446744073709551616 xs) (f:W.val 18446744073709551616 xs=v):SlN .u64 w a m c (W.trim xs)/\Num 18446744073709551616 (W.trim xs) v :=
 ⟨by rw [e]; exact g.upto d,Num.trim b f⟩
theorem CY (b:x<18446744073709551616):Calls prog 217 #[.int .u64 x] w (Gf .u64 18446744073709551616 w x):=by
 by_cases h0:x=0
 · subst h0
   go_enter func217,ntmps217
   go_wp2;go_ret;exact ⟨none,0,0,[],rfl,Ext.refl w,SlN.nil _ _,Num.nil _⟩
 · have c:((x:Int) == 0)=false:=by simpa using h0
   go_enter func217,ntmps217
   go_wp2;go_ret;refine ⟨_,1,1,[x],rfl,(Ext.refl w).alloc _,(Az w w.heap.size 238 #[.int .u64 x] 1 rfl (lrf _) (by omega)).sl,⟨?_,W.nrm_single h0,by simp [W.val]⟩⟩;intro y a;simp only [List.mem_singleton] at a;subst a;exact b
theorem Fm (x:Int) (w:World):Calls prog 310 #[.int .u64 x] w fun e a=>e = .returned (.bool false)/\w=a:=by
 have h:(x != x)=false:=by simp
 go_enter func310,ntmps310
 go_wp2;go_ret;exact ⟨rfl,rfl⟩
theorem Fn (x:Int) (w:World):Calls prog 254 #[.int .i64 x] w fun e a=>e = .returned (.bool false)/\w=a:=by
 have h:(x != x)=false:=by simp
 go_enter func254,ntmps254
 go_wp2;go_ret;exact ⟨rfl,rfl⟩
def AN (x y:Int):Int:=if x<y then -1 else if y<x then 1 else 0
theorem KF (x y:Int) (w:World):Calls prog 281 #[.int .u64 x, .int .u64 y] w fun e b=>e = .returned (.int .i64 (AN x y))/\w=b:=by
 by_cases h1:x<y
 · have H:Hid (AN x y = -1):=by show _=_; simp [AN,h1]
   go_enter func281,ntmps281
   go_wp2_with (go_at_call 310; refine (Fm _ _).mono ?_; rintro e a ⟨rfl,rfl⟩)
   go_ret;exact ⟨CU H.out,rfl⟩
 · by_cases h2:y<x
   · have H:Hid (AN x y=1):=by show _=_; simp [AN,h1,h2]
     go_enter func281,ntmps281
     go_wp2_with (go_at_call 310; refine (Fm _ _).mono ?_; rintro e a ⟨rfl,rfl⟩)
     go_ret;exact ⟨CU H.out,rfl⟩
   · have H:Hid (AN x y=0):=by show _=_; simp [AN,h1,h2]
     go_enter func281,ntmps281
     go_wp2_with (go_at_call 310; refine (Fm _ _).mono ?_; rintro e a ⟨rfl,rfl⟩)
     go_ret;exact ⟨CU H.out,rfl⟩
theorem KG (x y:Int) (w:World):Calls prog 207 #[.int .i64 x, .int .i64 y] w fun e b=>e = .returned (.int .i64 (AN x y))/\w=b:=by
 by_cases h1:x<y
 · have H:Hid (AN x y = -1):=by show _=_; simp [AN,h1]
   go_enter func207,ntmps207
   go_wp2_with (go_at_call 254; refine (Fn _ _).mono ?_; rintro e a ⟨rfl,rfl⟩)
   go_ret;exact ⟨CU H.out,rfl⟩
 · by_cases h2:y<x
   · have H:Hid (AN x y=1):=by show _=_; simp [AN,h1,h2]
     go_enter func207,ntmps207
     go_wp2_with (go_at_call 254; refine (Fn _ _).mono ?_; rintro e a ⟨rfl,rfl⟩)
     go_ret;exact ⟨CU H.out,rfl⟩
   · have H:Hid (AN x y=0):=by show _=_; simp [AN,h1,h2]
     go_enter func207,ntmps207
     go_wp2_with (go_at_call 254; refine (Fn _ _).mono ?_; rintro e a ⟨rfl,rfl⟩)
     go_ret;exact ⟨CU H.out,rfl⟩
theorem KH (g:xs.length=ys.length) (hi:i<xs.length) (f:xs.drop (i+1)=ys.drop (i+1)) (e:W.bnd B xs) (a:xs.getD i 0<ys.getD i 0):W.val B xs<W.val B ys:=by
 have b:=W.val_split (B:=B) xs (i+1) (by omega);have c:=W.val_split (B:=B) ys (i+1) (by omega);rw [W.val_take_succ hi] at b;rw [W.val_take_succ (by omega)] at c;have d:=W.val_lt (W.bnd_take e i);rw [List.length_take,Nat.min_eq_left (by omega)] at d;rw [b,c,f];have h1:B^i*(xs.getD i 0+1)<=B^i*ys.getD i 0:=Nat.mul_le_mul_left _ a;have h2:B^i*(xs.getD i 0+1)=B^i*xs.getD i 0+B^i:=by rw [Nat.mul_add,Nat.mul_one]
 omega
theorem FM {x y:Int} (h:x<y):AN x y = -1:=by simp [AN,h]
theorem FN {x y:Int} (h:y<x):AN x y=1:=by
 have:¬ x<y:=by omega
 simp [AN,h,this]
theorem Oj (x:Int):AN x x=0:=by simp [AN]
theorem Ho (h:x≠y):(x<y/\AN x y = -1)\/(y<x/\AN x y=1):=by
 rcases Nat.lt_or_gt_of_ne h with h1|h1
 · exact Or.inl ⟨h1,FM (by omega)⟩
 · exact Or.inr ⟨h1,FN (by omega)⟩
theorem FO {a b:Nat} (h:a≠b):((a:Int) != (b:Int))=true:=by simp; omega
theorem LY {a b:Nat} (h:a=b):((a:Int) != (b:Int))=false:=by simp [h]
theorem FP {a b:Nat} (h:a≠b):((a:Int) == (b:Int))=false:=by simp; omega
theorem Tg (x y:Int) (w:World):Calls prog 281 #[.int .u64 x, .int .u64 y] w fun e a=>e = .returned (.int .i64 (AN x y))/\Qt w a :=
 (KF x y w).mono fun _ _ ⟨h1,h2⟩=>⟨h1,h2 ▸ Qt.refl _⟩
theorem A0 (H:SlN .u64 w a n c xs) (I:SlN .u64 w b m d ys) (L:Num 18446744073709551616 xs x) (M:Num 18446744073709551616 ys y) :
 Calls prog 232 #[.slice a n c, .slice b m d] w fun e V=>e = .returned (.int .i64 (AN x y))/\Qt w V:=by
 have g:=Lib.hid H.len;have i:=Lib.hid I.len;have U:=H.le;have T:=I.le;have o:=Lib.hid L;have p:=Lib.hid M;clear L M;by_cases t:n=m
 · have F:((n:Int) != (m:Int))=false:=by simp [t]
   have A:=Lib.hid t;clear t
   go_enter func232,ntmps232
   go_wp2
   go_loopw [5] (fun v wr=>∃ k:Nat,k<=n/\v = .int .i64 ((k:Int)-1)/\Qt w wr/\Hid (xs.drop k=ys.drop k)) (fun v _=>(intOf v+1).toNat)
   case atStart=>exact ⟨n,lrf _,by go_num,Qt.refl _,Lib.hid (by rw [List.drop_of_length_le (by rw [g.out]; exact lrf _),List.drop_of_length_le (by rw [i.out,A.out]; exact lrf _)])⟩
   case round =>
    obtain ⟨k,Z,rfl,s,z⟩:=hrel;cases k with
    | zero =>
     have N:Hid (x=y):=by
      have:=z.out;rw [List.drop_zero,List.drop_zero] at this;show x=y;rw [<-o.out.val,<-p.out.val,this]
     go_wp2;go_ret;exact ⟨CU (by rw [N.out,Oj]),s⟩
    | succ k =>
     have f:k<m:=by have:=A.out; omega
     obtain ⟨X,o1,rfl,q⟩:=(H.ext s.ext).at (j:=k) (by omega);obtain ⟨Y,o2,rfl,r⟩:=(I.ext s.ext).at (j:=k) f;have J:=q k (by omega);have K:=r k f;have G:((k+1:Nat):Int)-1=k:=by omega
     rw [G];by_cases he:xs.getD k 0=ys.getD k 0
     · have Q:(((xs.getD k 0:Nat):Int) != ((ys.getD k 0:Nat):Int))=false:=LY he;have D:Hid (xs.drop k=ys.drop k):=by
        show _=_;rw [List.drop_eq_getElem_cons (l:=xs) (by rw [g.out]; omega),List.drop_eq_getElem_cons (l:=ys) (by rw [i.out]; exact f),z.out];simp only [gqq,List.getElem?_eq_getElem (show k<xs.length by rw [g.out]; omega),List.getElem?_eq_getElem (show k<ys.length by rw [i.out]; exact f),Option.getD_some] at he;rw [he]
       generalize xs.getD k 0=u at *
       generalize ys.getD k 0=v at *
       clear he q r;go_wp2
       go_quiet (fail)
       go_wp2;go_roundw
       case rel=>exact ⟨k,by omega,by go_num,s.drewN _,D⟩
       case measure=>simp [intOf]
     · have Q:(((xs.getD k 0:Nat):Int) != ((ys.getD k 0:Nat):Int))=true:=FO he;have C:Hid (AN x y=AN ((xs.getD k 0:Nat):Int) ((ys.getD k 0:Nat):Int)):=by
        show _=_;rcases Ho he with ⟨h1,h2⟩|⟨h1,h2⟩
        · have:=KH (B:=18446744073709551616) (by rw [g.out,i.out,A.out]) (by rw [g.out]; omega) z.out o.out.bnd h1;rw [o.out.val,p.out.val] at this;rw [h2,FM (by omega)]
        · have:=KH (B:=18446744073709551616) (xs:=ys) (ys:=xs) (by rw [g.out,i.out,A.out]) (by rw [i.out]; omega) z.out.symm p.out.bnd h1;rw [o.out.val,p.out.val] at this;rw [h2,FN (by omega)]
       generalize xs.getD k 0=u at *
       generalize ys.getD k 0=v at *
       clear he q r;have S:(k:Int)<n:=by omega
       have R:(k:Int)<m:=by omega
       go_wp2
       go_quiet (fail)
       go_wp2;have O:(wr.drewN nq).cell? _=_:=J;have P:(wr.drewN nq).cell? _=_:=K;have E:=s.drewN nq;generalize wr.drewN nq=wq at *
       clear J K
       go_quiet ((go_at_call 281; exact Calls.quiet_of (Tg _ _ _)))
       go_wp2;go_ret;exact ⟨CU C.out,E.drewN _⟩
 · have F:((n:Int) != (m:Int))=true:=by simp; omega
   have C:Hid (AN x y=AN n m):=by
    show _=_;rcases Ho t with ⟨h1,h2⟩|⟨h1,h2⟩
    · have:=W.len_lt (B:=18446744073709551616) (by omega) o.out.bnd p.out.nrm (by rw [g.out,i.out]; exact h1);rw [o.out.val,p.out.val] at this;rw [h2,FM (by omega)]
    · have:=W.len_lt (B:=18446744073709551616) (by omega) p.out.bnd o.out.nrm (by rw [g.out,i.out]; exact h1);rw [o.out.val,p.out.val] at this;rw [h2,FN (by omega)]
   clear t
   go_enter func232,ntmps232
   go_wp2_with fail
   refine (KG _ _ _).mono ?_;rintro e w1 ⟨rfl,rfl⟩;go_wp2;go_ret;exact ⟨CU C.out,Qt.refl _⟩
theorem RW:(x+y+c)%18446744073709551616+18446744073709551616*((x+y+c)/18446744073709551616)=x+y+c:=Nat.mod_add_div _ _
theorem TZ (b:x<18446744073709551616) (d:y<18446744073709551616) (a:c<=1):(x+y+c)/18446744073709551616<=1:=by omega
theorem Qy (b:x<18446744073709551616) (d:y<18446744073709551616) (a:c<=1):(x+18446744073709551616-y-c)%18446744073709551616+y+c=x+18446744073709551616*(if x<y+c then 1 else 0):=by
 split <;> omega
theorem Pu:(if x<y+c then 1 else 0)<=1:=by split <;> omega
theorem LZ {base g:Nat} (T:Av .u64 w base 238 g n c xs) (U:SlN .u64 w b m d ys) (R:blk b=none\/blk b≠some g) (bx:W.bnd 18446744073709551616 xs) (F:W.bnd 18446744073709551616 ys) (Q:m<=n) (t:W.val 18446744073709551616 xs+W.val 18446744073709551616 ys<18446744073709551616^n) :
 Calls prog 266 #[.slice (some ⟨g,0,none⟩) n c, .slice b m d] w fun e Y=>e = .returned (.tuple #[])/\w.grownBy Y (some g)/\∃ a,Av .u64 Y base 238 g n c a/\W.bnd 18446744073709551616 a/\W.val 18446744073709551616 a=W.val 18446744073709551616 xs+W.val 18446744073709551616 ys:=by
 have HX:=Lib.hid T.len;have M:=Lib.hid U.len;have a3:=T.le;have a2:=U.le;have Z:=Lib.hid F;have HF:=Lib.hid t;clear F t
 go_enter func266,ntmps266
 go_wp2
 go_loopw [4,10] (fun O D wr=>∃ (k o:Nat) (a:List Nat),O = .int .u64 o/\D = .int .i64 k/\k<=m/\o<=1/\w.grownBy wr (some g)/\Av .u64 wr base 238 g n c a/\W.bnd 18446744073709551616 a/\Hid (W.val 18446744073709551616 a+o*18446744073709551616^k=W.val 18446744073709551616 xs+W.val 18446744073709551616 (ys.take k))) (fun _ D _=>m-(intOf D).toNat)
 case atStart=>exact ⟨0,0,xs,rfl,rfl,Nat.zero_le _,by omega,B5 _ _,T,bx,Lib.hid (by simp [W.val])⟩
 case round =>
  obtain ⟨k,o,a,rfl,rfl,X,q,A,p,r,z⟩:=hrel;by_cases f:k<m
  · obtain ⟨b1,o1,rfl,H⟩:=(U.kept A R).at (j:=k) f;have g1:=H k f;have g2:=p.cell (i:=k) (by omega);have g3:=p.frozen k;have C:=W.bnd_at r (i:=k) (by rw [p.len]; omega);have V:=W.bnd_at Z.out (i:=k) (by rw [M.out]; exact f);have L:=Lib.hid (W.add_step (B:=18446744073709551616) (l:=a) (ys:=ys) (k:=k) (by rw [p.len]; omega) (by rw [M.out]; exact f) z.out (RW (x:=a.getD k 0) (y:=ys.getD k 0) (c:=o)));have G:=Bs (a.getD k 0) (ys.getD k 0) o q;have P:=TZ C V q;have a1:(k:Int)<n:=by omega
    generalize a.getD k 0=u at *
    generalize ys.getD k 0=v at *
    have S:(u+v+o)%18446744073709551616<18446744073709551616:=Nat.mod_lt _ (by omega);generalize (u+v+o)%18446744073709551616=s at *
    generalize (u+v+o)/18446744073709551616=N at *
    clear H;go_wp2;go_roundw
    case rel=>exact ⟨k+1,N,a.set k s,rfl,by go_num,by omega,P,C3 A _ _,p.set k s,W.bnd_set r S,L⟩
    case measure=>simp [intOf]; omega
  · have J:k=m:=by omega
    have E:Hid (W.val 18446744073709551616 a+o*18446744073709551616^m=W.val 18446744073709551616 xs+W.val 18446744073709551616 ys):=by
     have:=z.out;rw [J,List.take_of_length_le (by rw [M.out]; exact lrf _)] at this;exact this
    clear z J;go_wp2
    go_loopw [4,7] (fun O D wr=>∃ (k o:Nat) (a:List Nat),O = .int .u64 o/\D = .int .i64 k/\m<=k/\k<=n/\o<=1/\w.grownBy wr (some g)/\Av .u64 wr base 238 g n c a/\W.bnd 18446744073709551616 a/\Hid (W.val 18446744073709551616 a+o*18446744073709551616^k=W.val 18446744073709551616 xs+W.val 18446744073709551616 ys)) (fun _ D _=>n-(intOf D).toNat)
    case atStart=>exact ⟨m,o,a,rfl,rfl,lrf _,Q,q,A,p,r,E⟩
    case round =>
     clear A p r E f X q;obtain ⟨k,o,a,rfl,rfl,a0,X,q,A,p,r,z⟩:=hrel;have I:o=0\/o=1:=by omega
     rcases I with rfl|rfl
     · go_wp2
       go_end0
       exact ⟨rfl,A,a,p,r,by have:=z.out; rw [Nat.zero_mul,Nat.add_zero] at this; exact this⟩
     · by_cases f:k<n
       · have g2:=p.cell (i:=k) f;have g3:=p.frozen k;have C:=W.bnd_at r (i:=k) (by rw [p.len]; exact f);have L:=Lib.hid (W.add_step0 (B:=18446744073709551616) (l:=a) (k:=k) (s:=(a.getD k 0+0+1)%18446744073709551616) (c':=(a.getD k 0+0+1)/18446744073709551616) (by rw [p.len]; exact f) z.out (by rw [RW]))
         have G:∀ K:World,(callFunc 300 #[.int .u64 ((a.getD k 0:Nat):Int), .int .u64 0, .int .u64 1]).run prog K = .ok (.value (.tuple #[.int .u64 (((a.getD k 0+0+1)%18446744073709551616:Nat):Int), .int .u64 (((a.getD k 0+0+1)/18446744073709551616:Nat):Int)])) K:=fun K=>Bs (a.getD k 0) 0 1 (by omega) K;have P:=TZ C (y:=0) (c:=1) (by omega) (by omega);have S:(a.getD k 0+0+1)%18446744073709551616<18446744073709551616:=Nat.mod_lt _ (by omega);generalize (a.getD k 0+0+1)%18446744073709551616=s at *
         generalize (a.getD k 0+0+1)/18446744073709551616=N at *
         generalize a.getD k 0=u at *
         go_wp2;go_roundw
         case rel=>exact ⟨k+1,N,a.set k s,rfl,by go_num,by omega,by omega,P,C3 A _ _,p.set k s,W.bnd_set r S,L⟩
         case measure=>simp [intOf]; omega
       · exfalso;have J:k=n:=by omega
         have h1:=z.out;have h2:=HF.out;rw [J] at h1;omega
end Go.Proofs.YtlbmnokpiilfpaaGreatDoor
