/- Part Pj3. -/
import Derived.Test.YtpkijbkpjhpfmaaGreatDoorPj1
import Derived.Orders
import Derived.StillTail
set_option linter.all false
set_option maxRecDepth 100000
set_option maxHeartbeats 100000000
namespace Go.Proofs.YtpkijbkpjhpfmaaGreatDoor
open Go Go.RowKit
def iA:=@Bool.and_eq_true
def iM:=@Array.getElem?_eq_some_iff
def iU:=@List.mem_append
def iq:=@List.mem_singleton
def jC:=@List.getElem?_cons_zero
def jW:=@Array.getElem?_eq_getElem
def jo:=@List.contains_iff_mem
def jp:=@List.all_eq_true
def jz:=@Array.getD_eq_getD_getElem?
def k9:=@Option.bind_some
def kX:=@Classical.epsilon_spec
def ki:=@getD_set_true
def lT:=@Array.getElem?_setIfInBounds_ne
def lV:=@List.mem_range
def mK:=@getD_set_ne
def mO:=@List.mem_flatMap
def mn:=@List.getD_cons_zero
def nE:=@mem_ready
def ni:=@beq_iff_eq
def nj:=@List.mem_cons_of_mem
def oH:=@bne_iff_ne
def oK:=@Bool.not_eq_true'
def oM:=@Nat.add_comm
def oN:=@getD_replicate_false
def om:=@Option.isSome_iff_exists
def ou:=@Array.size_setIfInBounds
def ow:=@wp_region_any
variable {a:Act} {p q:Addr} {ops:Array Oper} {l:List Oper} {cs:List Value} {b bytes d i j k n off:Nat} {o:Oper} {x:Operand} {cons:Option Nat} {T e t:TypeId} {c u v z:Value} {w w':World}
inductive Ty where
| eq (c:Value)
| pr (p:Value->World->Prop)
def Ty.ok:Ty->Value->World->Prop
| .eq c,v,_=>v=c
| .pr p,v,w=>p v w
structure Hd where
 mu:Bool
 ty:Ty
 cons:Option Nat
def he(c:Value):Hd:=⟨false,.eq c,none⟩
def hp(p:Value->World->Prop):Hd:=⟨false,.pr p,none⟩
def hu(k:Nat)(p:Value->World->Prop):Hd:=⟨false,.pr p,some k⟩
def hmp(p:Value->World->Prop):Hd:=⟨true,.pr p,none⟩
def hmu(k:Nat)(p:Value->World->Prop):Hd:=⟨true,.pr p,some k⟩
def BC(o:Oper):List Nat:=(o.after.toList.filter (Region.binds .any ·)).map (·.on)
def AZ(ops:Array Oper)(j:Nat):Option Tmp:=(ops[j]?).bind (·.dst)
def LZ(ops:Array Oper)(o:Oper)(t:Tmp):Option Nat:=(BC o).find? (fun j=>AZ ops j==some t)
def anc(ops:Array Oper):Nat->List Nat->List Nat
| 0,l=>l
| f+1,l=>l++anc ops f (l.flatMap fun j=>((ops[j]?).map BC).getD [])
def Nq(o:Oper):List Tmp:=o.op.operands.toList.filterMap fun|.tmp t=>some t|_=>none
def Dk(ops:Array Oper)(o:Oper):List Tmp:=Nq o++(match o.guard with|some (j,_)=>(AZ ops j).toList|none=>[])
def Hv(ops:Array Oper)(o:Oper):Bool:=match o.guard with|some (j,_)=>(BC o).contains j && (AZ ops j).isSome|none=>true
def B1(ops:Array Oper)(j:Nat):List Nat:=((ops[j]?).map BC).getD []
def Nr(ops:Array Oper)(cons:List (Option Nat))(n size:Nat)(i:Nat)(o:Oper):Bool :=
 (BC o).all (· < i) && (o.dst.all (· < size)) && Hv ops o &&
 (Dk ops o).all (fun t=>(List.range n).all fun j=>AZ ops j != some t || j==i || (BC o).contains j || (B1 ops j).contains i) &&
 (List.range n).all (fun j=>j==i || AZ ops j != o.dst || o.dst==none) &&
 (BC o).all (fun j=>match (cons[j]?).bind id with|some k=>k==i || (B1 ops k).contains i || !((Dk ops o).any fun t=>AZ ops j==some t)|none=>true)
def hd0:Hd:=⟨false,.eq undef,none⟩
def AK(hs:List Hd)(j:Nat):Hd:=hs.getD j hd0
def Jy(ops:Array Oper)(hs:List Hd)(a0:Act)(o:Oper)(ρ:Operand->Value)(w:World):Operand->Prop
| .tmp t=>match LZ ops o t with
 |some j=>match (AK hs j).ty with
  |.eq c=>ρ (.tmp t)=c
  |.pr p=>∃v,ρ (.tmp t)=v/\p v w
 |none=>ρ (.tmp t)=a0.eval (.tmp t)
| _=>True
def Dl(ops:Array Oper)(hs:List Hd)(a0:Act)(o:Oper)(ρ:Operand->Value)(w:World):List Operand->Prop
| []=>True
| x::r=>Jy ops hs a0 o ρ w x/\Dl ops hs a0 o ρ w r
structure GV(ρ:Operand->Value):Prop where
 const:∀v,ρ (.const v)=v
 global:∀g,ρ (.global g)=.pointer (some ⟨g,0,none⟩)
 func:∀f,ρ (.func f)=.func (.func f) #[] #[]
theorem Ir(a:Act):GV a.eval:=⟨fun _=>rfl,fun _=>rfl,fun _=>rfl⟩
def Fn(P:Program)(R:Value->World->Prop):Result Next->Prop
| .ok (.value u) w'=>R u w'
| .ok .skip w'=>R undef w'
| .ok (.enter f args) w'=>Calls P f args w' (fun e w''=>∃u,e=.returned u/\R u w'')
| _=>False
def Ct(hs:List Hd)(o:Oper):Option Bool :=
 match o.guard with
| none=>some true
| some (j,b)=>match (AK hs j).ty with
 |.eq (.bool c)=>some (c==b)
 |.eq (.tuple _)=>some false
 |_=>none
def Dy(ops:Array Oper)(hs:List Hd)(i:Nat)(o:Oper)(j:Nat):Bool :=
 j != i && (match (AK hs j).ty with|.eq _=>false|.pr _=>true) && !(anc ops 3 (B1 ops j)).contains i &&
 !(match (AK hs j).cons with|some k=>k==i || (anc ops 3 (BC o)).contains k|none=>false)
def JO(ops:Array Oper)(hs:List Hd)(i:Nat)(o:Oper)(w w':World):List Nat->Prop
| []=>True
| j::r=>(if Dy ops hs i o j then ∀v,(AK hs j).ty.ok v w->(AK hs j).ty.ok v w' else True)/\JO ops hs i o w w' r
def Dz(C:World->Prop)(ops:Array Oper)(hs:List Hd)(i:Nat)(o:Oper)(h:Hd)(w:World)(u:Value)(w':World):Prop :=
 match h.ty with
| .eq c=>w'=w/\u=c
| .pr p=>if h.mu then C w'/\JO ops hs i o w w' (List.range hs.length)/\p u w' else Ext w w'/\p u w'
def obl(P:Program)(C:World->Prop)(ops:Array Oper)(hs:List Hd)(a0:Act)(i:Nat)(o:Oper)(h:Hd):Prop :=
 match Ct hs o with
| some true=>∀ρ w,GV ρ->C w->Dl ops hs a0 o ρ w o.op.operands.toList->Fn P (Dz C ops hs i o h w) ((execOp ρ o).run P w)
| some false=>∀w,C w->h.ty.ok undef w
| none=>False
def Jz(P:Program)(C:World->Prop)(ops:Array Oper)(hs:List Hd)(a0:Act):Nat->List Oper->List Hd->Prop
| _,_,[]=>True
| i,o::os,h::r=>obl P C ops hs a0 i o h/\Jz P C ops hs a0 (i+1) os r
| _,[],_::_=>False
theorem L0{t:List Hd}(f:Hv ops o=true)(l:∀j∈BC o,∀c,(AK t j).ty=.eq c->∀d,AZ ops j=some d->a.tmps.getD d undef=c):∀b,Ct t o=some b->Region.wanted o (yielded ops a.tmps)=b:=by intro b e;unfold Ct at e;unfold Region.wanted;cases r:o.guard with|none=>{rw[r]at e;simpa using e}|some g=>obtain⟨j,w⟩:=g;rw[r]at e;simp only at e|-;unfold Hv at f;rw[r]at f;simp only[iA,jo]at f;obtain⟨s,q⟩:=f;obtain⟨d,v⟩:=om.1 q;have n:(ops[j]?).bind (·.dst)=some d:=v;cases i:(AK t j).ty with|pr p=>{rw[i]at e;cases e}|eq c=>rw[i]at e;have k:=l j s c i d v;rw[jz]at k;unfold yielded;rw[n,k9];cases c with|bool c=>{(simp only[gJ]at e;have h1:a.tmps[d]?=some (.bool c):=by cases m:a.tmps[d]? with|none=>{rw[m]at k;cases k}|some y=>rw[m]at k;simpa using k);rw[h1,<-e];cases c<;>cases w<;>rfl}|tuple xs=>{simp only[gJ]at e;rw[<-e];cases m:a.tmps[d]? with|none=>{rfl}|some y=>rw[m,iQ]at k;rw[k];rfl}|_=>cases e
def Dm(w:World)(K:Act->Prop):List Oper->List Hd->Act->Prop
| o::os,h::r,a=>match h.ty with
 |.eq c=>Dm w K os r (a.put o.dst c)
 |.pr p=>match h.cons with
  |none=>∀v,p v w->Dm w K os r (a.put o.dst v)
  |some _=>∀v,Dm w K os r (a.put o.dst v)
| _,_,a=>K a
def Sx(h:Hd):Prop:=match h.ty with|.eq _=>True|.pr p=>∀v w w',Ext w w'->p v w->p v w'
def Fc:List Hd->Prop
| []=>True
| h::r=>Sx h/\Fc r
/-! ### Soundness -/
section
variable {P:Program} {ops:Array Oper} {hs:List Hd} {a0:Act} {C:World->Prop} {Q:Exit->Act->World->Prop}
def AM(ops:Array Oper)(j:Nat)(a:Act):Value:=match AZ ops j with|some d=>a.tmps.getD d undef|none=>undef
structure Hg(ops:Array Oper)(hs:List Hd)(a0:Act)(C:World->Prop)(listed:Array Bool)(a:Act)(w:World):Prop where
 size:listed.size=ops.size
 tailF:∀j,hs.length<=j->listed.getD j false=false
 closed:∀j,listed.getD j false=true->∀p∈B1 ops j,listed.getD p false=true
 world:C w
 defers:a.defers=a0.defers
 tmps:a.tmps.size=a0.tmps.size
 frame:∀t,(∀j,j<hs.length->listed.getD j false=true->AZ ops j≠some t)->a.tmps.getD t undef=a0.tmps.getD t undef
 facts:∀j,j<hs.length->listed.getD j false=true->(∀k,(AK hs j).cons=some k->listed.getD k false=false)->∃v,(AK hs j).ty.ok v w/\∀d,AZ ops j=some d->a.tmps.getD d undef=v
 values:∀j c,j<hs.length->listed.getD j false=true->(AK hs j).ty=.eq c->∀d,AZ ops j=some d->a.tmps.getD d undef=c
theorem Cm{listed:Array Bool}(a:∀j,listed.getD j false=true->∀p∈B1 ops j,listed.getD p false=true):∀(f:Nat) (l:List Nat),(∀j∈l,listed.getD j false=true)->∀j∈anc ops f l,listed.getD j false=true
|0,_,h,j,hj=>h j hj
|f+1,l,h,j,hj=>by simp only[anc,iU]at hj;rcases hj with hj|hj;{exact h j hj};refine Cm a f _ ?_ j hj;intro k hk;rw[mO]at hk;obtain⟨m,hm,hk⟩:=hk;exact a m (h m hm) k hk
theorem JP :j∈BC o<->∃e∈o.after,Region.binds .any e=true/\e.on=j:=by simp[BC,and_assoc]
theorem D4{listed:Array Bool}(h:i∈Region.ready .any ops listed):listed.getD i true=false/\∃o,ops[i]?=some o/\∀p∈BC o,listed.getD p false=true:=by obtain⟨h0,o,c,a⟩:=nE.1 h;refine⟨h0,o,c,fun p hp=>?_⟩;obtain⟨e,he,b,rfl⟩:=JP.1 hp;exact a e he b
theorem L3{listed:Array Bool}(h0:listed.getD i true=false)(b:ops[i]?=some o)(h:∀p∈BC o,listed.getD p false=true):i∈Region.ready .any ops listed := nE.2 ⟨h0,o,b,fun e he a=>h _ (JP.2 ⟨e,he,a,rfl⟩)⟩
theorem D5(a:ops[i]?=some o):B1 ops i=BC o:=by simp[B1,a]
theorem BH(a:ops[i]?=some o):AZ ops i=o.dst:=by simp[AZ,a]
theorem Gs{i:Nat}{o:Oper}{w a:World}:∀{l:List Nat},JO ops hs i o w a l->∀j∈l,Dy ops hs i o j=true->∀v,(AK hs j).ty.ok v w->(AK hs j).ty.ok v a
|_::_,h,j,hj,hm,v,hv=>by rcases iI.1 hj with rfl|hj;{have h1:=h.1;rw[gS hm]at h1;exact h1 v hv};exact Gs h.2 j hj hm v hv
theorem L4{i:Nat}{o:Oper}{w b:World}:∀{l:List Nat},(∀j∈l.filter (Dy ops hs i o),∀v,(AK hs j).ty.ok v w->(AK hs j).ty.ok v b)->JO ops hs i o w b l
|[],_=>trivial
|j::r,h=>by refine⟨?_,L4 fun k a=>h k (by rw[List.filter_cons];split;{exact nj _ a};exact a)⟩;by_cases hm:Dy ops hs i o j=true;{rw[gS hm];exact h j (by rw[List.filter_cons,gS hm];simp)};rw[gN hm];trivial
theorem XX{l:List Nat}(h:l.filter (Dy ops hs i o)=[j])(b:∀v,(AK hs j).ty.ok v w->(AK hs j).ty.ok v w'):JO ops hs i o w w' l := L4 (by rw[h];intro k a;rw[iq]at a;subst a;exact b)
theorem Gt:∀{l:List Hd},Fc l->∀h∈l,Sx h
|_::_,hh,h,hm=>by rcases iI.1 hm with rfl|hm;{exact hh.1};exact Gt hh.2 h hm
theorem OJ{h:Hd}(a:Sx h){v:Value}{w d:World}(e:Ext w d)(b:h.ty.ok v w):h.ty.ok v d:=by unfold Sx at a;revert a b;cases h.ty with|eq c=>{exact fun _ b=>b}|pr p=>exact fun a b=>a v w d e b
theorem KJ{R:Value->World->Prop}{K:Act->World->Prop}(h:Fn P R ((execOp a.eval o).run P w))(c:∀u b,R u b->K (a.put o.dst u) b):o.wp P a w K Q:=by unfold Oper.wp;generalize (execOp a.eval o).run P w=r at*;cases r with|ok n b=>{cases n<;>simp only[Fn]at h<;>simp only[Oper.upon];(case value u=>exact c u b h);(case skip=>exact c undef b h);case enter f args=>exact h.mono fun e d ⟨u,he,g⟩=>by subst he;exact c u d g}|halt x b=>simp only[Fn]at h
theorem Cf{d t:Tmp}:(a.put (some d) v).tmps.getD t undef=if d=t/\d<a.tmps.size then v else a.tmps.getD t undef:=by simp only[Act.put,jz];by_cases h:d=t;{subst h;by_cases h2:d<a.tmps.size;{simp[h2]};simp[h2]};rw[lT h];simp[h]
theorem FH{d:Option Tmp}:(a.put d v).tmps.size=a.tmps.size:=by cases d<;>simp[Act.put]
theorem Fo{d:Option Tmp}:(a.put d v).defers=a.defers:=by cases d<;>rfl
def unl(listed:Array Bool):Nat->Nat
| 0=>0
| n+1=>unl listed n+(if listed.getD n false=true then 0 else 1)
theorem Is{listed:Array Bool}{i:Nat}:∀{n:Nat},n<=i->unl (listed.setIfInBounds i true) n=unl listed n
|0,_=>rfl
|n+1,h=>by rw[unl,unl,Is (by omega),mK false (by omega)]
theorem KK{listed:Array Bool}{i:Nat}(b:i<listed.size)(a:listed.getD i false=false):∀{n:Nat},i<n->unl (listed.setIfInBounds i true) n+1=unl listed n
|0,h=>by omega
|n+1,h=>by rw[unl,unl];by_cases hi:i=n;{(subst hi;rw[Is (lrf _),a];have:(listed.setIfInBounds i true).getD i false=true:=by simp[b]);rw[this];simp};rw[mK false hi,<-KK b a (n:=n) (by omega)];omega
theorem FI{listed:Array Bool}:∀{n:Nat},unl listed n=0->∀j,j<n->listed.getD j false=true
|0,_,j,hj=>by omega
|n+1,h,j,hj=>by rw[unl]at h;by_cases hj':j=n;{subst hj';by_cases hx:listed.getD j false=true;{exact hx};rw[gN hx]at h;omega};exact FI (n:=n) (by omega) j (by omega)
theorem FJ{listed:Array Bool}:∀{n:Nat},unl listed n≠0->∃j,j<n/\listed.getD j false=false/\∀k,k<j->listed.getD k false=true
|0,h=>absurd rfl h
|n+1,h=>by by_cases h0:unl listed n=0;{refine⟨n,by omega,?_,fun k a=>FI h0 k a⟩;rw[unl,h0]at h;by_cases hx:listed.getD n false=true;{rw[gS hx]at h;omega};simpa using hx};obtain⟨j,hj,h1,h2⟩:=FJ h0;exact⟨j,by omega,h1,h2⟩
theorem L5(r:List Hd):∀(a:List Oper) (b:Nat),Jz P C ops hs a0 b a r->∀(k:Nat) (o:Oper),a[k]?=some o->k<r.length->obl P C ops hs a0 (b+k) o (r.getD k hd0):=by induction r with|nil=>{intro a b _ k o _ d;simp at d}|cons h r ih=>intro a b e k o c d;cases a with|nil=>{simp at c}|cons o' a=>cases k with|zero=>{simp only[jC,gJ]at c;subst c;exact e.1}|succ k=>have:=ih a (b+1) e.2 k o (by simpa using c) (by simpa using d);rw[jQ,oM 1 k]at this;simpa using this
structure DA(ops:Array Oper)(cons:List (Option Nat))(n size:Nat)(i:Nat)(o:Oper):Prop where
 lt:∀p∈BC o,p<i
 dst:∀d,o.dst=some d->d<size
 grd:Hv ops o=true
 look:∀t∈Dk ops o,∀j,j<n->AZ ops j=some t->j=i\/j∈BC o\/i∈B1 ops j
 apart:∀j,j<n->j≠i->AZ ops j=o.dst->o.dst=none
 cons:∀j∈BC o,∀k,(cons[j]?).bind id=some k->k=i\/i∈B1 ops k\/∀t∈Dk ops o,AZ ops j≠some t
theorem GW{a:List (Option Nat)}{size:Nat}(h:Nr ops a n size i o=true):DA ops a n size i o:=by unfold Nr at h;simp only[iA]at h;obtain⟨⟨⟨⟨⟨h1,h2⟩,h3⟩,h4⟩,h5⟩,h6⟩:=h;refine⟨?_,?_,h3,?_,?_,?_⟩;{intro p hp;simpa using jp.1 h1 p hp};{intro d b;rw[b]at h2;simpa using h2};{intro t g j c b;have:=jp.1 (jp.1 h4 t g) j (by simpa using c);simp only[kO,oH,ne_eq,ni,jo]at this;rcases this with((h|h)|h)|h;{exact absurd b h};{exact Or.inl h};{exact Or.inr (Or.inl h)};exact Or.inr (Or.inr h)};{intro j c e b;have:=jp.1 h5 j (by simpa using c);simp only[kO,oH,ne_eq,ni]at this;rcases this with(h|h)|h;{exact absurd h e};{exact absurd b h};exact h};intro j c k f;have:=jp.1 h6 j c;rw[f]at this;simp only[kO,ni,jo,oK,List.any_eq_false]at this;rcases this with(h|h)|h;{exact Or.inl h};{exact Or.inr (Or.inl h)};exact Or.inr (Or.inr h)
theorem L6(a:j<hs.length):((hs.map (·.cons))[j]?).bind id=(AK hs j).cons:=by simp[AK,a]
theorem It{t:Tmp}(h:LZ ops o t=some j):j∈BC o/\AZ ops j=some t:=by have h1:=List.mem_of_find?_eq_some h;have h2:=List.find?_some h;exact⟨h1,by simpa using h2⟩
theorem Iu{t:Tmp}(h:LZ ops o t=none){j:Nat}(a:j∈BC o):AZ ops j≠some t:=by have:=List.find?_eq_none.1 h j a;simpa using this
theorem Iv{o:Oper}{a:Operand->Value}{w:World}:∀{l:List Operand},(∀x∈l,Jy ops hs a0 o a w x)->Dl ops hs a0 o a w l
|[],_=>trivial
|x::r,h=>⟨h x (by simp),Iv fun y b=>h y (by simp[b])⟩
theorem QH(a7:Jz P C ops hs a0 0 ops.toList hs)(ad:Fc hs)(aa:∀w n,Ext w n->C w->C n){listed:Array Bool}{a:Act}{w:World}(e:Hg ops hs a0 C listed a w){i:Nat}(hi:i∈Region.ready .any ops listed)(a2:i<hs.length)(ac:∀o,ops[i]?=some o->DA ops (hs.map (·.cons)) hs.length a0.tmps.size i o){K:Act->World->Prop}(hK:∀a' n,Hg ops hs a0 C (listed.setIfInBounds i true) a' n->K a' n):wpOp P ops Q i K a w:=by (obtain⟨h0,o,V,L⟩:=D4 hi;have T:=ac o V;have a1:i<listed.size:=by rw[e.size];exact(iM.1 V).1);(have Z:listed.getD i false=false:=by simpa[a1]using h0);(have s:listed.getD i false≠true:=by rw[Z];simp);(have N:(listed.setIfInBounds i true).getD i false=true:=by simp[a1]);(have A:obl P C ops hs a0 i o (AK hs i):=by have:=L5 hs ops.toList 0 a7 i o (by simpa using V) a2;simpa[AK]using this);(have a8:Dl ops hs a0 o a.eval w o.op.operands.toList:=by refine Iv fun x hx=>?_;cases x with|tmp t=>{(have a6:t∈Dk ops o:=by unfold Dk Nq;rw[iU];left;rw[List.mem_filterMap];exact⟨_,hx,rfl⟩);simp only[Jy];cases a5:LZ ops o t with|none=>{simp only[Act.eval];refine e.frame t fun j g G m=>?_;rcases T.look t a6 j g m with h|h|h;{subst h;exact s G};{exact Iu a5 h m};exact s (e.closed j G i h)}|some j=>(obtain⟨S,O⟩:=It a5;have R:j<hs.length:=by have:=T.lt j S;omega);have a3:=L j S;simp only;cases f:(AK hs j).ty with|eq c=>{exact e.values j c R a3 f t O}|pr p=>obtain⟨v,y,X⟩:=e.facts j R a3 (by intro k B;have:=T.cons j S k (by rw[L6 R];exact B);rcases this with h|h|h;{subst h;exact Z};{by_cases D:listed.getD k false=true;{exact absurd (e.closed k D i h) s};simpa using D};exact absurd O (h t a6));rw[f]at y;exact⟨v,X t O,y⟩}|_=>trivial);(have r:∀u n,C n->(AK hs i).ty.ok u n->(∀j,j<hs.length->j≠i->listed.getD j false=true->(∀k,(AK hs j).cons=some k->(listed.setIfInBounds i true).getD k false=false)->∀v,(AK hs j).ty.ok v w->(AK hs j).ty.ok v n)->Hg ops hs a0 C (listed.setIfInBounds i true) (a.put o.dst u) n:=by (intro u n hC hu U;have F:∀j,j<hs.length->j≠i->∀d,AZ ops j=some d->(a.put o.dst u).tmps.getD d undef=a.tmps.getD d undef:=by intro j g z d m;cases J:o.dst with|none=>{rfl}|some d'=>(rw[Cf];have:d'≠d:=by rintro rfl;have:=T.apart j g z (by rw[m,J]);rw[J]at this;cases this);rw[gN (fun h=>this h.1)]);(have M:∀d,AZ ops i=some d->(a.put o.dst u).tmps.getD d undef=u:=by intro d m;rw[BH V]at m;rw[m,Cf,gS ⟨rfl,by rw[e.tmps];exact T.dst d m⟩]);(have q:∀j,j≠i->(listed.setIfInBounds i true).getD j false=true->listed.getD j false=true:=by intro j z h;rwa[mK false (Ne.symm z)]at h);refine⟨by rw[ou];exact e.size,?_,?_,hC,by rw[Fo];exact e.defers,by rw[FH];exact e.tmps,?_,?_,?_⟩;{intro j g;rw[mK false (by omega)];exact e.tailF j g};{intro j g p hp;by_cases l:j=i;{subst l;rw[D5 V]at hp;exact ki (L p hp)};exact ki (e.closed j (q j l g) p hp)};{(intro t ht;have h1:o.dst≠some t:=by have:=ht i a2 N;rwa[BH V]at this);have h2:a.tmps.getD t undef=a0.tmps.getD t undef:=e.frame t fun j g G=>ht j g (ki G);cases J:o.dst with|none=>{exact h2}|some d'=>rw[Cf,gN (fun h=>h1 (by rw[J,h.1]))];exact h2};{intro j g G H;by_cases l:j=i;{subst l;exact⟨u,hu,M⟩};have a4:=q j l G;obtain⟨v,y,X⟩:=e.facts j g a4 (by intro k B;have:=H k B;by_cases D:listed.getD k false=true;{rw[ki D]at this;cases this};simpa using D);exact⟨v,U j g l a4 H v y,fun d m=>by rw[F j g l d m];exact X d m⟩};intro j c g G f d m;by_cases l:j=i;{subst l;rw[f]at hu;rw[M d m];exact hu};rw[F j g l d m];exact e.values j c g (q j l G) f d m);have Y:=L0 T.grd (fun j g c f d m=>e.values j c (by have:=T.lt j g;omega) (L j g) f d m);unfold wpOp;rw[V];simp only;unfold obl at A;cases hw:Ct hs o with|none=>{rw[hw]at A;exact A.elim}|some b=>rw[hw]at A;rw[Y b hw];cases b with|true=>{rw[gS rfl];left;refine KJ (A a.eval w (Ir a) e.world a8) fun u n E=>hK _ _ ?_;unfold Dz at E;cases f:(AK hs i).ty with|eq c=>{rw[f]at E;obtain⟨rfl,rfl⟩:=E;exact r u n e.world (by rw[f];rfl) fun _ _ _ _ _ v y=>y}|pr p=>rw[f]at E;simp only at E;by_cases hmu:(AK hs i).mu=true;{rw[gS hmu]at E;obtain⟨a9,ab,hp⟩:=E;refine r u n a9 (by rw[f];exact hp) fun j g z G H v y=>?_;cases W:(AK hs j).ty with|eq c=>{rw[W]at y;exact y}|pr p'=>(rw[<-W];refine Gs ab j (by simpa using g) ?_ v y;have c1:i∉anc ops 3 (B1 ops j):=fun h=>s (Cm e.closed 3 _ (e.closed j G) i h);have c2:∀k,(AK hs j).cons=some k->k≠i/\k∉anc ops 3 (BC o):=by intro k B;have I:=H k B;refine⟨?_,fun hm=>?_⟩;{rintro rfl;rw[N]at I;cases I};rw[ki (Cm e.closed 3 _ L k hm)]at I;cases I);unfold Dy;rw[W];cases hc:(AK hs j).cons with|none=>{simp[z,c1]}|some k=>obtain⟨d1,d2⟩:=c2 k hc;simp[z,c1,d1,d2]};rw[gN hmu]at E;exact r u n (aa w n E.1 e.world) (by rw[f];exact E.2) fun j g _ _ _ v y=>OJ (Gt ad _ (by rw[AK,gqq,gG g];simp)) E.1 y}|false=>simp only[k8,lU];exact hK _ _ (r undef w e.world (A w e.world) fun _ _ _ _ _ v y=>y)
def CF(vs:Nat->Value):Nat->List Oper->List Hd->Act->Act
| i,o::os,_::r,a=>CF vs (i+1) os r (a.put o.dst (vs i))
| _,_,_,a=>a
theorem Iw{K:Act->Prop}{vs:Nat->Value}:∀(r:List Hd) (d:List Oper) (i:Nat) (a:Act),Dm w K d r a->(∀k,k<r.length->∀c,(r.getD k hd0).ty=.eq c->vs (i+k)=c)->(∀k,k<r.length->∀p,(r.getD k hd0).ty=.pr p->(r.getD k hd0).cons=none->p (vs (i+k)) w)->K (CF vs i d r a):=by intro r;induction r with|nil=>{intro d i a h _ _;cases d<;>exact h}|cons h r ih=>intro d i a b h1 h2;cases d with|nil=>{exact b}|cons o d=>(have g:∀k,k<r.length->∀c,(r.getD k hd0).ty=.eq c->vs (i+1+k)=c:=by intro k l c f;have:=h1 (k+1) (by simpa using l) c (by simpa using f);rwa[jQ,oM 1 k]);(have j:∀k,k<r.length->∀p,(r.getD k hd0).ty=.pr p->(r.getD k hd0).cons=none->p (vs (i+1+k)) w:=by intro k l p hp f;have:=h2 (k+1) (by simpa using l) p (by simpa using hp) (by simpa using f);rwa[jQ,oM 1 k]);unfold Dm at b;unfold CF;have m:=h1 0 (by simp);have n:=h2 0 (by simp);simp only[mn,iW]at m n;cases e:h.ty with|eq c=>{rw[e]at b;rw[m c e];exact ih d (i+1) _ b g j}|pr p=>rw[e]at b;simp only at b;cases f:h.cons with|none=>{rw[f]at b;exact ih d (i+1) _ (b _ (n p e f)) g j}|some k=>rw[f]at b;exact ih d (i+1) _ (b _) g j
theorem GX{vs:Nat->Value}:∀(r:List Hd) (b:List Oper) (i:Nat) (a:Act),(CF vs i b r a).tmps.size=a.tmps.size:=by intro r;induction r with|nil=>{intro b i a;cases b<;>rfl}|cons h r ih=>intro b i a;cases b with|nil=>{rfl}|cons o b=>unfold CF;rw[ih,FH]
theorem Fd{vs:Nat->Value}:∀(r:List Hd) (b:List Oper) (i:Nat) (a:Act),(CF vs i b r a).defers=a.defers:=by intro r;induction r with|nil=>{intro b i a;cases b<;>rfl}|cons h r ih=>intro b i a;cases b with|nil=>{rfl}|cons o b=>unfold CF;rw[ih,Fo]
theorem D6{vs:Nat->Value}{t:Tmp}:∀(r:List Hd) (b:List Oper) (i:Nat) (a:Act),(∀k o,k<r.length->b[k]?=some o->o.dst≠some t)->(CF vs i b r a).tmps.getD t undef=a.tmps.getD t undef:=by intro r;induction r with|nil=>{intro b i a _;cases b<;>rfl}|cons h r ih=>intro b i a c;cases b with|nil=>{rfl}|cons o b=>unfold CF;rw[ih b (i+1) _ (fun k j f g=>c (k+1) j (by simpa using f) (by simpa using g))];have:=c 0 o (by simp) rfl;cases e:o.dst with|none=>{rfl}|some d=>rw[Cf,gN (fun h=>this (by rw[e,h.1]))]
theorem Ix{vs:Nat->Value}{t:Tmp}:∀(r:List Hd) (d:List Oper) (i:Nat) (a:Act) (k:Nat) (o:Oper),k<r.length->d[k]?=some o->o.dst=some t->t<a.tmps.size->(∀j n,j < r.length->d[j]?=some n->n.dst=some t->j=k)->(CF vs i d r a).tmps.getD t undef=vs (i+k):=by intro r;induction r with|nil=>{intro d i a k o m;simp at m}|cons h r ih=>intro d i a k o m l p q c;cases d with|nil=>{simp at l}|cons n d=>unfold CF;cases k with|zero=>{simp only[jC,gJ]at l;subst l;rw[D6 r d (i+1) _ (fun k g f b e=>by have:=c (k+1) g (by simpa using f) (by simpa using b) e;omega)];rw[p,Cf,gS ⟨rfl,q⟩,iW]}|succ k=>rw[ih d (i+1) _ k o (by simpa using m) (by simpa using l) p (by rw[FH];exact q) (fun j g f b e=>by have:=c (j+1) g (by simpa using f) (by simpa using b) e;omega)];rw[jQ,oM 1 k]
theorem OK{b:Act}(h1:a.defers=b.defers)(h2:a.tmps.size=b.tmps.size)(h3:∀t,a.tmps.getD t undef=b.tmps.getD t undef):a=b:=by cases a;cases b;simp only at h1 h2 h3;subst h1;congr 1;apply Array.ext h2;intro i c d;have:=h3 i;simpa[c,d]using this
end
/-! ### The operations' notes,kind by kind -/
section
variable {P:Program} {ops:Array Oper} {hs:List Hd} {a0:Act} {C:World->Prop} {i:Nat} {o:Oper}
theorem AW{p:Value->World->Prop}(d:o.guard=none)(h:∀a w,GV a->C w->Dl ops hs a0 o a w o.op.operands.toList->∃v b,(execOp a o).run P w=.ok (.value v) b/\Ext w b/\p v b):obl P C ops hs a0 i o ⟨false,.pr p,cons⟩:=by unfold obl Ct;rw[d];intro a w hp c f;obtain⟨v,b,e,h1,h2⟩:=h a w hp c f;rw[e];exact⟨h1,h2⟩
end
section
variable {P:Program} {w:World}
theorem KL{a:Option Addr}{c:Nat}(m:P.underlying t=some (.slice e))(b:BS P e z bytes)(l:k<=c):(Instr.sliceAt t (.slice a n c) none (some (.int .i64 k)) none).run P w=.ok (.slice a k c) w:=by (obtain⟨i,j,o,d,g⟩:=mG b;have f:(if c=0 then a else a.map (fun x=>x.add 0))=a:=by split;{rfl};cases a<;>simp[Addr.add]);(have h0:(0:Int)<=k:=by omega);(have h1:(k:Int)<=c:=by omega);simp[Instr.sliceAt,Instr.slice,Instr.sliceBounds,Instr.sliceBound,j9 m,asIntOf,sizeOf,typeInfo,j,l,f]
theorem YC:Array.range 0=#[]:=by decide
theorem X8(f:P.underlying t=some (.slice e))(a:BS P e z bytes):(Instr.buildSlice t 0 #[]).run P w=.ok (.slice (some ⟨w.heap.size,0,none⟩) 0 0) (w.alloc (.cells #[] e)):=by obtain⟨i,d,g,b,c⟩:=mG a;simp[Instr.buildSlice,j9 f,sizeOf,typeInfo,d,Instr.fill,newRow,YC]
end
theorem DC(xs:List Int):∀u∈xs.map (Value.int .i64),u.oneCell'=true:=ints_oneCell .i64 xs
section
variable {P:Program} {ops:Array Oper} {hs:List Hd} {a0:Act} {C:World->Prop} {i:Nat} {o:Oper}
theorem BK(d:Ct hs o=some true)(h:∀a w,GV a->C w->Dl ops hs a0 o a w o.op.operands.toList->(execOp a o).run P w=.ok (.value c) w):obl P C ops hs a0 i o (he c):=by unfold obl;rw[d];intro a w hp b e;rw[h a w hp b e];exact⟨rfl,rfl⟩
theorem Sk(a:Ct hs o=some false):obl P C ops hs a0 i o (he undef):=by unfold obl;rw[a];exact fun w _=>rfl
theorem JQ(e:Ct hs o=some true)(a:o.op=.move x\/o.op=.assign x)(h:∀b w,GV b->Dl ops hs a0 o b w [x]->b x=c):obl P C ops hs a0 i o (he c) := BK e fun b w hp _ d=>by rcases a with a|a<;>{rw[a]at d;simp only[execOp,a,h b w hp d];rfl}
theorem QI{p:Value->World->Prop}(k:Ct hs o=some true)(h:∀b w,GV b->C w->Dl ops hs a0 o b w o.op.operands.toList->∃f a,(execOp b o).run P w=.ok (.enter f a) w/\Calls P f a w (fun e c=>∃u,e=.returned u/\Ext w c/\p u c)):obl P C ops hs a0 i o ⟨false,.pr p,cons⟩:=by unfold obl;rw[k];intro b w hp d l;obtain⟨f,a,j,g⟩:=h b w hp d l;rw[j];exact g
theorem Ba(d:Ct hs o=some true)(h:∀a w,C w->(∀v,a (.const v)=v)->Dl ops hs a0 o a w o.op.operands.toList->(execOp a o).run P w=.ok (.value c) w):obl P C ops hs a0 i o (he c):=BK d fun a w hp b e=>h a w b hp.const e
theorem Ak{p:Value->World->Prop}(g:Ct hs o=some true)(h:∀b w,C w->(∀v,b (.const v)=v)->(∀f,b (.func f)=.func (.func f) #[] #[])->Dl ops hs a0 o b w o.op.operands.toList->∃f a,(execOp b o).run P w=.ok (.enter f a) w/\Calls P f a w (fun e c=>∃u,e=.returned u/\Ext w c/\p u c)):obl P C ops hs a0 i o ⟨false,.pr p,cons⟩:=QI g fun b w hp d j=>h b w d hp.const hp.func j
end
def FK(ops:Array Oper)(n:Nat)(i:Nat)(o:Oper):Bool :=
 (List.range n).all (fun j=>(anc ops 12 (BC o)).contains j) || (BC o).any (fun k=>n<=k && k<i)
def B3(ops:Array Oper)(cons:List (Option Nat))(size:Nat):Bool :=
 let n:=cons.length
 decide (n<=ops.size) && (List.range ops.size).all (fun i=>match ops[i]? with|some o=>if i<n then Nr ops cons n size i o else FK ops n i o|none=>false) &&
 cons.all (fun k=>match k with|some k=>k<n|none=>true) &&
 Region.seqB .any ops (ops.size-n) n ((Array.range ops.size).map (fun j=>decide (j<n)))
section
variable {P:Program} {Q:Exit->Act->World->Prop}
theorem FL(C:World->Prop)(b:List Hd)(N:B3 l.toArray (b.map (·.cons)) a.tmps.size=true)(a3:∀w f,Ext w f->C w->C f)(hC:C w.drew)(a9:Fc b)(Z:Jz P C l.toArray b a 0 l b)(T:∀f,C f->Dm f (fun x=>wpList P l.toArray Q (l.drop b.length) x f) l b a):wpAny P .any l.toArray Q l.toArray.size (Array.replicate l.toArray.size false) a w.drew:=by (unfold B3 at N;simp only[iA,ld,iD]at N;obtain⟨⟨⟨hn,O⟩,ac⟩,I⟩:=N;have ad:l.toArray.size=l.length:=by simp);(have g:∀i o,l.toArray[i]?=some o->(i<b.length->DA l.toArray (b.map (·.cons)) b.length a.tmps.size i o)/\(b.length<=i->FK l.toArray b.length i o=true):=by intro i o s;have G:i<l.toArray.size:=(iM.1 s).1;have:=jp.1 O i (by simpa using G);rw[s]at this;simp only at this;refine⟨fun h=>?_,fun h=>?_⟩;{rw[gS h]at this;exact GW this};rw[gN (by omega)]at this;exact this);(have ab:∀m listed x f,unl listed b.length=m->Hg l.toArray b a C listed x f->wpAny P .any l.toArray Q (m+(l.toArray.size-b.length)) listed x f:=by intro m;induction m with|zero=>{(intro listed x f hu e;have q:=FI hu;have L:listed=(Array.range l.toArray.size).map (fun j=>decide (j<b.length)):=by apply Array.ext;{rw[e.size];simp};intro i h1 h2;simp only[Array.getElem_map,Array.getElem_range];by_cases G:i<b.length;{have:=q i G;simp[h1]at this;simp[this,G]};have:=e.tailF i (by omega);simp[h1]at this;simp[this,G]);(have ha:x=CF (fun j=>match AZ l.toArray j with|some d=>x.tmps.getD d undef|none=>Classical.epsilon (fun v=>(AK b j).ty.ok v f)) 0 l b a:=by apply OK;{rw[Fd];exact e.defers};{rw[GX];exact e.tmps};intro t;by_cases J:∃j o,j<b.length/\l[j]?=some o/\o.dst=some t;{(obtain⟨j,o,H,s,r⟩:=J;have X:l.toArray[j]?=some o:=by simpa using s);have A:=(g j o X).1 H;rw[Ix b l 0 a j o H s r (A.dst t r) (by (intro k' o' a7 M a4;have Y:l.toArray[k']?=some o':=by simpa using M);by_cases W:k'=j;{exact W};have:=A.apart k' a7 W (by rw[BH Y,a4,r]);rw[r]at this;cases this)];rw[iE,BH X,r]};rw[D6 b l 0 a (fun k o D s r=>J ⟨k,o,D,s,r⟩)];refine e.frame t fun j H _ r=>J ?_;unfold AZ at r;cases s:l.toArray[j]? with|none=>{rw[s]at r;cases r}|some o=>rw[s]at r;exact⟨j,o,H,by simpa using s,r⟩);have F:=Iw (vs:=fun j=>match AZ l.toArray j with|some d=>x.tmps.getD d undef|none=>Classical.epsilon (fun v=>(AK b j).ty.ok v f)) b l 0 a (T f e.world) (by intro k D c R;rw[iE];cases r:AZ l.toArray k with|some d=>{exact e.values k c D (q k D) R d r}|none=>(have:(AK b k).ty.ok (Classical.epsilon (fun v=>(AK b k).ty.ok v f)) f:=by apply kX (p:=fun v=>(AK b k).ty.ok v f);refine⟨c,?_⟩;rw[show(AK b k).ty=.eq c from R];rfl);have h2:(AK b k).ty=.eq c:=R;rw[h2]at this;simp only[Ty.ok]at this;rw[h2];exact this) (by intro k D p hp R;rw[iE];obtain⟨v,hv,aa⟩:=e.facts k D (q k D) (by intro k' S;have h1:(AK b k).cons=none:=R;rw[h1]at S;cases S);have h2:(AK b k).ty=.pr p:=hp;cases r:AZ l.toArray k with|some d=>{simp only;rw[aa d r];rw[h2]at hv;exact hv}|none=>have:(AK b k).ty.ok (Classical.epsilon (fun v=>(AK b k).ty.ok v f)) f:=kX (p:=fun v=>(AK b k).ty.ok v f) ⟨v,hv⟩;simp only;rw[h2]at this|-;exact this);(rw[<-ha]at F;rw[iE];have hl:(l.drop b.length).length=l.toArray.size-b.length:=by simp);rw[<-hl];rw[<-hl,<-L]at I;exact wpAny_of_seq (l.drop b.length) b.length listed x f (by intro j;simp) I F}|succ m ih=>intro listed x f hu e;rw[show m+1+(l.toArray.size-b.length)=(m+(l.toArray.size-b.length))+1 by omega];refine⟨fun z=>?_,fun i G=>?_⟩;{(obtain⟨j,H,B,a6⟩:=FJ (listed:=listed) (n:=b.length) (by omega);have V:j<l.toArray.size:=by omega);have s:l.toArray[j]?=some l.toArray[j]:=jW V;have A:=(g j _ s).1 H;have:j∈Region.ready .any l.toArray listed:=L3 (by (have:j<listed.size:=by rw[e.size];exact V);simpa[this]using B) s (fun p hp=>a6 p (A.lt p hp));rw[z]at this;cases this};(obtain⟨h0,o,s,a0⟩:=D4 G;have U:i<listed.size:=by rw[e.size];exact(iM.1 s).1);(have a5:listed.getD i false=false:=by simpa[U]using h0);(have K:i<b.length:=by rcases ir i b.length with h|h;{exact h};exfalso;have ht:=(g i o s).2 h;unfold FK at ht;simp only[kO,jp,lV,jo,List.any_eq_true,iA,iD]at ht;rcases ht with ht|⟨k,D,a8,_⟩;{obtain⟨j,H,B,_⟩:=FJ (listed:=listed) (n:=b.length) (by omega);rw[Cm e.closed 12 (BC o) a0 j (ht j H)]at B;cases B};have:=a0 k D;rw[e.tailF k a8]at this;cases this);refine QH (by simpa using Z) a9 a3 e G K (fun o' M=>(g i o' M).1 K) fun a2 w2 a1=>?_;refine ih _ a2 w2 ?_ a1;have:=KK U a5 K;omega);(have E:Hg l.toArray b a C (Array.replicate l.toArray.size false) a w.drew:=by have A:∀j,(Array.replicate l.toArray.size false).getD j false=false:=fun j=>oN _ j;refine⟨by simp,fun j _=>A j,(fun j h=>by rw[A j]at h;cases h),hC,rfl,rfl,fun _ _=>rfl,(fun j _ h=>by rw[A j]at h;cases h),(fun j c _ h=>by rw[A j]at h;cases h)⟩);(have y:unl (Array.replicate l.toArray.size false) b.length=b.length:=by (have:∀n,unl (Array.replicate l.toArray.size false) n=n:=by intro n;induction n with|zero=>{rfl}|succ n ih=>rw[unl,ih,oN];simp);exact this _);have:=ab b.length _ a w.drew y E;rwa[show b.length+(l.toArray.size-b.length)=l.toArray.size by omega]at this
theorem Gu{id:Nat}(m:P.follows .mixedOrders=true)(C:World->Prop)(b:List Hd)(g:B3 l.toArray (b.map (·.cons)) a.tmps.size=true)(f:∀w c,Ext w c->C w->C c)(k:C w.drew)(i:Fc b)(e:Jz P C l.toArray b a 0 l b)(d:∀c,C c->Dm c (fun j=>wpList P l.toArray Q (l.drop b.length) j c) l b a):(Code.region id l.toArray true).wp P Q a w := ow m (FL C b g f k i e d)
theorem BQ:(∀{α:Type} {a:α} {l:List α},(a::l).length=l.length+1)/\(∀{α:Type},([]:List α).length=0)/\(∀{α:Type} {a:α} {l:List α} {n:Nat},(a::l).drop (n+1)=l.drop n)/\(∀{α:Type} {l:List α},l.drop 0=l)/\(∀(a:Act) (d:Tmp) (v:Value),a.put (some d) v={a with tmps:=a.tmps.setIfInBounds d v})/\(∀(a:Act) (v:Value),a.put none v=a)/\(∀{α:Type} {l:List α} {i:Nat} {a:α},l.toArray.setIfInBounds i a=(l.set i a).toArray)/\(∀{α:Type} {x:α} {l:List α} {n:Nat} {a:α},(x::l).set (n+1) a=x::l.set n a)/\(∀{α:Type} {x:α} {l:List α} {a:α},(x::l).set 0 a=a::l) := ⟨ig,kE,jJ,ja,fun _ _ _=>rfl,fun _ _=>rfl,lC ..,kY,lN⟩
def OL:List Hd->Prop
| []=>True
| ⟨_,.eq _,_⟩::r=>OL r
| ⟨_,.pr p,_⟩::r=>(∀v w w',Ext w w'->p v w->p v w')/\OL r
theorem Eu:∀{hs:List Hd},OL hs->Fc hs
|[],_=>trivial
|⟨_,.eq _,_⟩::_,h=>⟨trivial,Eu h⟩
|⟨_,.pr _,_⟩::_,h=>⟨h.1,Eu h.2⟩
abbrev hdP(b o:Nat):Hd:=he (.pointer (some ⟨b,o,none⟩))
abbrev hdI(z:Int):Hd:=he (.int .i64 z)
abbrev hdB(b:Bool):Hd:=he (.bool b)
abbrev hdS(a:Option Addr)(n c:Nat):Hd:=he (.slice a n c)
abbrev hdU:Hd:=he undef
theorem Ae{id:Nat}(b:List Hd)(g:OL b)(d:Jz P (fun m=>Ext w m) l.toArray b a 0 l b)(c:∀i,Ext w i->Dm i (fun j=>wpList P l.toArray Q (l.drop b.length) j i) l b a)(k:P.follows .mixedOrders=true:=by kernel_rfl)(f:B3 l.toArray (b.map (·.cons)) a.tmps.size=true:=by kernel_rfl):(Code.region id l.toArray true).wp P Q a w := Gu k _ b f (fun _ _ e h=>h.trans e) ((Ext.refl w).drew) (Eu g) d c
end
def QJ(P:Program)(T:TypeId):Bool:=match P.underlying T with
| none|some (.struct _)|some (.array _ _)=>false
| _=>true
def T0(P:Program)(T:TypeId)(k:Nat):Option Nat:=match P.underlying T with
| some (.struct fs)=>(fs[k]?).bind fun f=>(match (P.info? f.type).map (·.size)with|some (_+1)=>some f.offset|_=>none)
| _=>none
section
variable {P:Program} {w:World}
theorem Sy(a:QJ P T=true)(c:w.cell? p=some v):(Instr.loadAt T (.pointer (some p))).run P w=.ok v w:=by unfold QJ at a;cases h:P.underlying T with|none=>{rw[h]at a;cases a}|some d=>(rw[h]at a;have b:(isAgg T).run P w=.ok false w:=by simp only[isAgg,io,j9 h,gT];cases d<;>first|rfl|cases a);simp[Instr.loadAt,Instr.sureAddr,loadVar,b,c]
theorem OM(e:Agg P T cs.length)(f:∀j v,cs[j]?=some v->w.cell? ⟨b,off+j,none⟩=some v):(Instr.loadAt T (.pointer (some ⟨b,off,none⟩))).run P w=.ok (.agg cs.toArray) w:=by (obtain⟨d,hu,g,a⟩:=e.parts;have h1:(isAgg T).run P w=.ok true w:=by simp only[isAgg,io,j9 hu,gT];cases d<;>first|rfl|exact absurd g (by simp));(obtain⟨i,c,l⟩:∃i,P.info? T=some i/\i.size=cs.length:=by cases h:P.info? T with|none=>{rw[h]at a;cases a}|some i=>rw[h]at a;exact⟨i,rfl,by simpa using a⟩);have h2:=run_loadCells_list (P:=P) w ⟨b,off,none⟩ cs (fun j v k=>by have:=f j v k;unfold Addr.add;split;{rename_i h0;rw[h0,iW]at this;exact this};exact this);simp[Instr.loadAt,Instr.sureAddr,loadVar,h1,sizeOf,typeInfo,c,l,h2]
theorem T4(h:T0 P T k=some d):(Instr.fieldAt T (.pointer (some ⟨b,off,none⟩)) k).run P w=.ok (.pointer (some ⟨b,off+d,none⟩)) w:=by unfold T0 at h;split at h;{rename_i j hu;cases c:j[k]? with|none=>{rw[c]at h;cases h}|some f=>rw[c]at h;simp only[k9]at h;split at h;{(rename_i n a;cases h;obtain⟨i,g,l⟩:∃i,P.info? f.type=some i/\i.size=n+1:=by cases h:P.info? f.type with|none=>{rw[h]at a;cases a}|some i=>rw[h]at a;exact⟨i,rfl,by simpa using a⟩);(have e:(⟨b,off,none⟩:Addr).add f.offset=⟨b,off+f.offset,none⟩:=by unfold Addr.add;split;{rename_i h0;rw[h0,iW]};rfl);simp[Instr.fieldAt,j9 hu,c,Instr.sureAddr,fieldPlace,sizeOf,typeInfo,g,l,e]};cases h};cases h
end
section
variable {P:Program} {ops:Array Oper} {hs:List Hd} {a0:Act} {W:World} {i:Nat} {o:Oper}
theorem ol{t:Tmp}(f:Ct hs o=some true:=by rfl)(b:o.op=.load T (.tmp t):=by rfl)(g:∀a w,Jy ops hs a0 o a w (.tmp t)->a (.tmp t)=.pointer (some p):=by exact fun _ _=>id)(d:QJ P T=true:=by kernel_rfl)(e:W.cell? p=some v:=by assumption):obl P (fun j=>Ext W j) ops hs a0 i o (he v) := BK f fun a w hp c h=>by rw[b]at h;simp only[execOp,b,g a w h.1,io,Sy d (c.cell e),gT,iT]
theorem ol2{t:Tmp}(k:Ct hs o=some true:=by rfl)(e:o.op=.load T (.tmp t):=by rfl)(l:∀c w,Jy ops hs a0 o c w (.tmp t)->c (.tmp t)=.pointer (some ⟨b,off,none⟩):=by exact fun _ _=>id)(f:Agg P T 2:=by exact⟨by kernel_rfl,by kernel_rfl⟩)(h0:W.cell? ⟨b,off,none⟩=some u:=by assumption)(h1:W.cell? ⟨b,off+1,none⟩=some v:=by assumption):obl P (fun m=>Ext W m) ops hs a0 i o (he (.agg #[u,v])) := BK k fun c w hp d h=>by rw[e]at h;have g:(Instr.loadAt T (.pointer (some ⟨b,off,none⟩))).run P w=.ok (.agg [u,v].toArray) w:=OM (cs:=[u,v]) f (fun j x a=>by match j,a with|0,a=>{cases a;exact d.cell h0}|1,a=>{cases a;exact d.cell h1}|j+2,a=>simp at a);simp only[execOp,e,l c w h.1,io,g,gT,iT]
theorem ol4{t:Tmp}{x y:Value}(k:Ct hs o=some true:=by rfl)(e:o.op=.load T (.tmp t):=by rfl)(l:∀d w,Jy ops hs a0 o d w (.tmp t)->d (.tmp t)=.pointer (some ⟨b,off,none⟩):=by exact fun _ _=>id)(f:Agg P T 4:=by exact⟨by kernel_rfl,by kernel_rfl⟩)(h0:W.cell? ⟨b,off,none⟩=some u:=by assumption)(h1:W.cell? ⟨b,off+1,none⟩=some v:=by assumption)(h2:W.cell? ⟨b,off+2,none⟩=some x:=by assumption)(h3:W.cell? ⟨b,off+3,none⟩=some y:=by assumption):obl P (fun m=>Ext W m) ops hs a0 i o (he (.agg #[u,v,x,y])) := BK k fun d w hp c h=>by rw[e]at h;have g:(Instr.loadAt T (.pointer (some ⟨b,off,none⟩))).run P w=.ok (.agg [u,v,x,y].toArray) w:=OM (cs:=[u,v,x,y]) f (fun j z a=>by match j,a with|0,a=>{cases a;exact c.cell h0}|1,a=>{cases a;exact c.cell h1}|2,a=>{cases a;exact c.cell h2}|3,a=>{cases a;exact c.cell h3}|j+4,a=>simp at a);simp only[execOp,e,l d w h.1,io,g,gT,iT]
theorem ofa{t:Tmp}(g:Ct hs o=some true:=by rfl)(c:o.op=.fieldAddr T (.tmp t) k:=by rfl)(j:∀a w,Jy ops hs a0 o a w (.tmp t)->a (.tmp t)=.pointer (some ⟨b,off,none⟩):=by exact fun _ _=>id)(e:T0 P T k=some d:=by kernel_rfl)(f:q=⟨b,off+d,none⟩:=by rfl){C:World->Prop}:obl P C ops hs a0 i o (he (.pointer (some q))) := BK g fun a w hp l h=>by rw[c]at h;simp only[execOp,c,j a w h.1,io,T4 e,gT,iT,f]
theorem onc{t:Tmp}(c:Ct hs o=some true:=by rfl)(b:o.op=.nilCheck (.tmp t):=by rfl)(d:∀a w,Jy ops hs a0 o a w (.tmp t)->a (.tmp t)=.pointer (some p):=by exact fun _ _=>id){C:World->Prop}:obl P C ops hs a0 i o (he (.pointer (some p))) := BK c fun a w hp e h=>by rw[b]at h;simp only[execOp,b,d a w h.1,iT]
theorem omv{t:Tmp}(d:Ct hs o=some true:=by rfl)(b:o.op=.move (.tmp t):=by rfl)(e:∀a w,Jy ops hs a0 o a w (.tmp t)->a (.tmp t)=c:=by exact fun _ _=>id){C:World->Prop}:obl P C ops hs a0 i o (he c) := JQ d (.inl b) fun a w _ h=>e a w h.1
end
end Go.Proofs.YtpkijbkpjhpfmaaGreatDoor
