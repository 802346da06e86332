/- Part Gs7. -/
import Derived.Test.YthdbingomfdeoaaGreatDoorGs6
import Derived.Lib.ConvBytes
import Derived.Laws.IdiomStrings
import Derived.Lib.ItoaNum
import Derived.Shelf.Strconv.AppendInt10
import Derived.Shelf.Strconv.Itoa4
import Derived.Deep.AppendSrc
set_option linter.all false
set_option maxRecDepth 100000
set_option maxHeartbeats 100000000
namespace Go.Proofs.YthdbingomfdeoaaGreatDoor
open Go Go.RowKit
def gC:=@List.getElem?_eq_some_iff
def jG:=@List.foldl_cons
def kE:=@List.length_drop
def kG:=@Value.pointer.injEq
def kY:=@Array.size_replicate
def lS:=@Int.natAbs_tdiv
def m6:=@Int.natAbs_add_le
def mn:=@Nat.mul_ne_zero
end Go.Proofs.YthdbingomfdeoaaGreatDoor
namespace Go.Proofs.YthdbingomfdeoaaGreatDoor.Pl
variable {e k:List Int} {seen:List Nat} {a b d n:Nat} {p q:Rat}
def posK{α:Type}(k:List Int):Nat->List (List Int×α)->Option (Nat×α)
 | _,[]=>none
 | i,(k',v) :: r=>if k=k' then some (i,v)else posK k (i+1) r
def getK{α:Type}(z:α)(l:List (List Int×α))(k:List Int):α:=((posK k 0 l).map (·.2)).getD z
def putK{α:Type}(l:List (List Int×α))(k:List Int)(v:α):List (List Int×α) :=
 match posK k 0 l with
 | some (i,_)=>l.set i (k,v)
 | none=>l ++ [(k,v)]
theorem IK{a:Type}(k:List Int):∀ (l:List (List Int×a)) (i:Nat),posK k (i+1) l=(posK k i l).map (fun p=>(p.1+1,p.2))
 | [],_=>rfl
 | (k',v) :: r,i=>by
  unfold posK;by_cases h:k=k'
  · simp[h]
  · simp only[fl h];exact IK k r (i+1)
theorem getK_nil{a:Type}(z:a)(k:List Int):getK z [] k=z:=rfl
theorem getK_cons{b:Type}(z:b)(a:List Int)(v:b)(r:List (List Int×b))(k:List Int):getK z ((a,v) :: r) k=if k=a then v else getK z r k:=by
 unfold getK;rw[posK];by_cases h:k=a
 · simp[h]
 · simp only[fl h];rw[IK];cases posK k 0 r <;> rfl
theorem putK_nil{a:Type}(k:List Int)(v:a):putK [] k v=[(k,v)]:=rfl
theorem putK_cons{b:Type}(a:List Int)(x:b)(r:List (List Int×b))(k:List Int)(v:b):putK ((a,x) :: r) k v=if k=a then(k,v) :: r else(a,x) :: putK r k v:=by
 unfold putK;rw[posK];by_cases h:k=a
 · simp[h]
 · simp only[fl h];rw[IK];cases hp:posK k 0 r with
   | none=>simp
   | some p=>obtain⟨i,y⟩:=p;simp
theorem putK_keys{a:Type}(k:List Int)(v:a):∀ (l:List (List Int×a)) (e:List Int),e∈(putK l k v).map (·.1)<->e∈l.map (·.1)\/e=k
 | [],e=>by simp[putK_nil]
 | (k',x) :: r,e=>by
  rw[putK_cons];by_cases h:k=k'
  · simp only[gD,fV,h,ke]
    grind
  · simp only[fl h,gD,fV,putK_keys k v r e]
    grind
theorem putK_nodup{a:Type}(k:List Int)(v:a):∀ (l:List (List Int×a)),(l.map (·.1)).Nodup->((putK l k v).map (·.1)).Nodup
 | [],_=>by simp[putK_nil]
 | (k',x) :: r,h=>by
  rw[putK_cons];simp only[gD,gG]at h;by_cases hk:k=k'
  · subst hk;simp only[ke,gD,gG];exact h
  · simp only[fl hk,gD,gG];refine⟨fun b => ?_,putK_nodup k v r h.2⟩;rcases(putK_keys k v r k').1 b with h1|h1
    · exact h.1 h1
    · exact hk h1.symm
theorem putK_length{a:Type}(k:List Int)(v:a):∀ (l:List (List Int×a)),(putK l k v).length<=l.length+1
 | []=>by simp[putK_nil]
 | (k',x) :: r=>by
  rw[putK_cons];by_cases hk:k=k'
  · simp[hk]
  · have:=putK_length k v r;simp only[fl hk,fP];omega
theorem Dm{l:List Tm}(h:e ∉ l.map (·.1)):coef l e=0:=coef_absent fun t a he=>h (by rw[<-he];exact gJ a)
theorem getK_coef:∀ (l:List Tm) (k:List Int),(l.map (·.1)).Nodup->getK 0 l k=coef l k
 | [],k,_=>rfl
 | (k',q) :: r,k,h=>by
  simp only[gD,gG]at h;rw[getK_cons];simp only[coef];by_cases hk:k=k'
  · subst hk;rw[fG rfl,fG rfl,Dm h.1]
    grind
  · rw[fl hk,fl (fun x=>hk x.symm),getK_coef r k h.2]
    grind
theorem Mb(k:List Int)(q:Rat):∀ (l:List Tm),(l.map (·.1)).Nodup->∀ e,coef (putK l k q) e=if k=e then q else coef l e
 | [],_,e=>by
  simp only[putK_nil,coef]
  grind
 | (k',x) :: r,h,e=>by
  simp only[gD,gG]at h;rw[putK_cons];by_cases hk:k=k'
  · subst hk;rw[fG rfl];simp only[coef];by_cases he:k=e
    · subst he;simp only[ke];rw[Dm h.1]
      grind
    · simp[he]
  · rw[fl hk];simp only[coef,Mb k q r h.2 e];by_cases he:k=e
    · subst he;rw[fl (fun x=>hk x.symm)]
      grind
    · simp[he]
theorem coef_step{l:List Tm}(h:(l.map (·.1)).Nodup)(e:List Int):coef (putK l k (getK 0 l k+q)) e=coef l e+coef [(k,q)] e:=by
 rw[Mb k _ l h e,getK_coef l k h];simp only[coef];by_cases he:k=e
 · subst he;simp;grind
 · simp[he];grind
def RelL{α β:Type}(R:α->β->Prop):List (List Int×α)->List (List Int×β)->Prop
 | [],[]=>True
 | (k,v) :: m,(k',q) :: l=>k=k'/\R v q/\RelL R m l
 | _,_=>False
section
variable {α β:Type} {R R':α->β->Prop}
theorem RelL.mono(h:∀ v q,R v q->R' v q):∀ {m:List (List Int×α)} {l:List (List Int×β)},RelL R m l->RelL R' m l
 | [],[],_=>trivial
 | (_,_) :: _,(_,_) :: _,hr=>⟨hr.1,h _ _ hr.2.1,RelL.mono h hr.2.2⟩
 | [],_ :: _,hr=>hr.elim
 | _ :: _,[],hr=>hr.elim
theorem RelL.len:∀ {m:List (List Int×α)} {l:List (List Int×β)},RelL R m l->m.length=l.length
 | [],[],_=>rfl
 | (_,_) :: _,(_,_) :: _,hr=>by simp[RelL.len hr.2.2]
 | [],_ :: _,hr=>hr.elim
 | _ :: _,[],hr=>hr.elim
theorem RelL.keys:∀ {m:List (List Int×α)} {l:List (List Int×β)},RelL R m l->m.map (·.1)=l.map (·.1)
 | [],[],_=>rfl
 | (_,_) :: _,(_,_) :: _,hr=>by simp[RelL.keys hr.2.2,hr.1]
 | [],_ :: _,hr=>hr.elim
 | _ :: _,[],hr=>hr.elim
theorem RelL.get{z:α}{b:β}(a:R z b)(k:List Int):∀ {m:List (List Int×α)} {l:List (List Int×β)},RelL R m l->R (getK z m k) (getK b l k)
 | [],[],_=>a
 | (k1,v) :: m,(k2,q) :: l,hr=>by
  rw[getK_cons,getK_cons,<-hr.1];by_cases h:k=k1
  · simp only[fG h];exact hr.2.1
  · simp only[fl h];exact RelL.get a k hr.2.2
 | [],_ :: _,hr=>hr.elim
 | _ :: _,[],hr=>hr.elim
theorem RelL.put(k:List Int){v:α}{q:β}(a:R v q):∀ {m:List (List Int×α)} {l:List (List Int×β)},RelL R m l->RelL R (putK m k v) (putK l k q)
 | [],[],_=>⟨rfl,a,trivial⟩
 | (k1,x) :: m,(k2,y) :: l,hr=>by
  rw[putK_cons,putK_cons,<-hr.1];by_cases h:k=k1
  · simp only[fG h];exact⟨rfl,a,hr.2.2⟩
  · simp only[fl h];exact⟨rfl,hr.2.1,RelL.put k a hr.2.2⟩
 | [],_ :: _,hr=>hr.elim
 | _ :: _,[],hr=>hr.elim
theorem RelL.nth:∀ {m:List (List Int×α)} {l:List (List Int×β)},RelL R m l->∀ {i:Nat} {k:List Int} {v:α},m[i]?=some (k,v)->∃ q,l[i]?=some (k,q)/\R v q
 | [],[],_,i,k,v,h=>by simp at h
 | (k1,x) :: m,(k2,y) :: l,hr,0,k,v,h=>by
  simp only[iW,fc,jk]at h;obtain⟨rfl,rfl⟩:=h;exact⟨y,by simp[hr.1],hr.2.1⟩
 | (k1,x) :: m,(k2,y) :: l,hr,i+1,k,v,h=>by
  obtain⟨q,h1,h2⟩:=RelL.nth hr.2.2 (i:=i) (by simpa using h);exact⟨q,by simpa using h1,h2⟩
 | [],_ :: _,hr,_,_,_,_=>hr.elim
 | _ :: _,[],hr,_,_,_,_=>hr.elim
end
def picked(l:List Tm)(seen:List Nat):List Tm:=(seen.map (fun i=>l.getD i ([],0))).filter (fun t=>decide (t.2≠0))
theorem picked_snoc(l:List Tm)(a:List Nat)(i:Nat):picked l (a ++ [i])=if(l.getD i ([],0)).2=0 then picked l a else picked l a ++ [l.getD i ([],0)]:=by
 unfold picked;rw[fY,List.filter_append];by_cases h:(l.getD i ([],0)).2=0
 · simp only[fG h,gD,iF];rw[List.filter_cons_of_neg (by simpa using h)];simp
 · simp only[fl h,gD,iF];rw[List.filter_cons_of_pos (by simpa using h)];simp
theorem perm_mem{c:Type}[BEq c][LawfulBEq c]{l k:List c}(f:l.Nodup)(e:k.Nodup)(h:∀ a,a∈l<->a∈k):l.Perm k:=by
 rw[List.perm_iff_count];intro a;have h1:=List.nodup_iff_count.1 f a;have h2:=List.nodup_iff_count.1 e a;have h3:0<l.count a<->a∈l:=List.count_pos_iff;have h4:0<k.count a<->a∈k:=List.count_pos_iff;by_cases b:a∈l
 · have:=h3.2 b;have:=h4.2 ((h a).1 b);omega
 · have g:¬ 0<l.count a:=fun h=>b (h3.1 h);have i:¬ 0<k.count a:=fun d=>b ((h a).2 (h4.1 d));omega
theorem nodup_le{a:Type}[BEq a][LawfulBEq a]:∀ (L M:List a),L.Nodup->(∀ x∈L,x∈M)->L.length<=M.length
 | [],_,_,_=>by simp
 | x :: L,M,hn,hs=>by
  rw[gG]at hn;have hx:x∈M:=hs x (by simp);have:=nodup_le L (M.erase x) hn.2 (fun y b=>(List.mem_erase_of_ne (by rintro rfl;exact hn.1 b)).2 (hs y (by simp[b])));rw[List.length_erase_of_mem hx]at this;have:0<M.length:=gW hx;simp only[fP];omega
theorem Sf(c:seen.Nodup)(b:∀ i∈seen,i<n)(a:∀ i,i<n->i∈seen):seen.Perm (List.range n):=by
 refine perm_mem c List.nodup_range fun i => ?_;rw[gO];exact⟨b i,a i⟩
theorem Sg{a:Type}(l:List a)(d:a):(List.range l.length).map (fun i=>l.getD i d)=l:=by
 apply iQ
 · simp
 · intro i h1 h2;simp[h2]
theorem picked_perm{l:List Tm}(c:seen.Nodup)(b:∀ i∈seen,i<l.length)(a:∀ i,i<l.length->i∈seen):(picked l seen).Perm (l.filter (fun t=>decide (t.2≠0))):=by
 unfold picked;refine List.Perm.filter _ ?_;have h:=(Sf c b a).map (fun i=>l.getD i ([],0));rw[Sg]at h;exact h
theorem picked_len(l:List Tm)(a:List Nat):(picked l a).length<=a.length:=by
 unfold picked;refine ft (List.length_filter_le _ _) ?_;simp
theorem seen_len(c:seen.Nodup)(a:∀ i∈seen,i<n):seen.length<=n:=by
 have h:seen.length<=(List.range n).length:=nodup_le seen _ c (fun i b=>gO.2 (a i b));simpa using h
structure Nrm(l:List Tm):Prop where
 len:∀ t∈l,t.1.length=6
 nz:∀ t∈l,t.2≠0
 nodup:(l.map (·.1)).Nodup
theorem Nrm.nil:Nrm []:=⟨by simp,by simp,by simp⟩
theorem Nrm.perm{a b:List Tm}(h:Nrm a)(p:a.Perm b):Nrm b :=
 ⟨fun t c=>h.len t (p.mem_iff.2 c),fun t c=>h.nz t (p.mem_iff.2 c),(p.map _).nodup_iff.1 h.nodup⟩
theorem Nrm.filter{l:List Tm}(h6:∀ t∈l,t.1.length=6)(b:(l.map (·.1)).Nodup):Nrm (l.filter (fun t=>decide (t.2≠0))):=by
 refine⟨fun t a=>h6 t (ig.1 a).1,fun t a => ?_,?_⟩
 · have:=(ig.1 a).2;simpa using this
 · exact List.Nodup.sublist (List.Sublist.map _ List.filter_sublist) b
theorem coef_nz(l:List Tm)(e:List Int):coef (l.filter (fun t=>decide (t.2≠0))) e=coef l e:=by
 induction l with
 | nil=>rfl
 | cons t r ih =>
  by_cases h:t.2=0
  · rw[List.filter_cons_of_neg (by simpa using h),ih];simp only[coef,h]
    grind
  · rw[List.filter_cons_of_pos (by simpa using h)];simp only[coef,ih]
def RB(b:Nat)(q:Rat):Prop:=q.num.natAbs<P2 b/\q.den<P2 b
theorem RB.mono(h:RB a q)(c:a<=b):RB b q:=⟨Ak h.1 c,Ak h.2 c⟩
theorem RB.zero(h:1<=b):RB b 0:=⟨WT b,Ak (a:=1) (by decide) h⟩
theorem mkRat_le{n:Int}(a:d≠0):(mkRat n d).num.natAbs<=n.natAbs/\(mkRat n d).den<=d:=by
 obtain⟨h1,h2⟩:=rat_frac (n:=n) a;rw[h1,h2];refine⟨?_,gy _ _⟩;rw[lS];exact gy _ _
theorem RB.add(hp:RB a p)(c:RB b q):RB (a+b+1) (p+q):=by
 have h:p+q=mkRat (p.num*q.den+q.num*p.den) (p.den*q.den):=Rat.add_def' p q;obtain⟨h1,h2⟩:=mkRat_le (n:=p.num*q.den+q.num*p.den) (d:=p.den*q.den) (mn p.den_nz q.den_nz);rw[h];constructor
 · refine fI h1 ?_;have e:(p.num*(q.den:Int)).natAbs<P2 (a+b):=by rw[ia];exact CD hp.1 c.2
   have f:(q.num*(p.den:Int)).natAbs<P2 (a+b):=by rw[ia,jp];exact CD c.1 hp.2
   exact fI (m6 _ _) (Ur e f)
 · exact Ak (fI h2 (CD hp.2 c.2)) (by omega)
theorem RB.mul(hp:RB a p)(c:RB b q):RB (a+b) (p*q):=by
 have h:p*q=mkRat (p.num*q.num) (p.den*q.den):=Rat.mul_def' p q;obtain⟨h1,h2⟩:=mkRat_le (n:=p.num*q.num) (d:=p.den*q.den) (mn p.den_nz q.den_nz);rw[h];constructor
 · refine fI h1 ?_;rw[ia];exact CD hp.1 c.1
 · exact fI h2 (CD hp.2 c.2)
theorem RB.neg(hp:RB a p):RB a (-p):=⟨by rw[show(-p).num = -p.num from rfl,kd];exact hp.1,hp.2⟩
theorem RB.coef{b:Nat}(a:1<=b)(e:List Int):∀ {l:List Tm},(∀ t∈l,RB b t.2)->RB (l.length*(b+1)+1) (coef l e)
 | [],_=>RB.zero (by omega)
 | t :: r,h=>by
  have h1:RB b (if t.1=e then t.2 else 0):=by
   split
   · exact h t (by simp)
   · exact RB.zero a
  have h2:=RB.add h1 (RB.coef a e (l:=r) (fun s c=>h s (by simp[c])));refine h2.mono ?_;simp only[fP,ip];omega
end Go.Proofs.YthdbingomfdeoaaGreatDoor.Pl
namespace Go.Proofs.YthdbingomfdeoaaGreatDoor
open Tryz Go Go.RowKit
variable {a f:Act} {ops:Array Oper} {s t:ByteArray} {Q:Exit->Act->World->Prop} {z:Int} {l rest:List Oper} {c i j n:Nat} {o:Oper} {x:Operand} {dst e src:TypeId} {v:Value} {w:World}
def Uy(P:Program)(ops:Array Oper)(o:Oper)(a:Act)(w:World)(u:Value)(w':World):Prop :=
 Region.wanted o (yielded ops a.tmps)=true->match (execOp a.eval o).run P w with | .ok (.value v) wv=>u=v/\w'=wv | .ok .skip wv=>w'=wv | _=>True
section
variable {P:Program} {Q:Exit->Act->World->Prop}
theorem Li{R:Value->World->Prop}{K:Act->World->Prop}(h:Gn P R ((execOp a.eval o).run P w))
 (c:∀ u b,R u b->(match (execOp a.eval o).run P w with | .ok (.value v) wv=>u=v/\b=wv | .ok .skip wv=>b=wv | _=>True)->K (a.put o.dst u) b):o.wp P a w K Q:=by
 unfold Oper.wp;generalize (execOp a.eval o).run P w=r at *
 cases r with
 | ok n b =>
  cases n <;> simp only[Gn]at h <;> simp only[Oper.upon]
  case value u=>exact c u b h ⟨rfl,rfl⟩
  case skip=>exact c undef b h rfl
  case enter f args=>exact h.mono fun e d ⟨u,he,g⟩=>by subst he;exact c u d g trivial
 | halt x b=>simp only[Gn]at h
end
section
variable {P:Program} {ops:Array Oper} {hs:List Hd} {a0:Act} {C:World->Prop} {Q:Exit->Act->World->Prop}
theorem Sh(a8:K5 P C ops hs a0 0 ops.toList hs)(ae:F9 hs)(ab:∀ w m,Ext w m->C w->C m){listed:Array Bool}{a:Act}{w:World}
 (e:Ji ops hs a0 C listed a w) {i:Nat} (hi:i∈Region.ready .any ops listed) (a2:i<hs.length)
 (ad:∀ o,ops[i]?=some o->Ea ops (hs.map (·.cons)) hs.length a0.tmps.size i o) {K:Act->World->Prop}
 (hK:∀ o u m,ops[i]?=some o->(D9 C ops hs i o (AH hs i) w u m\/m=w)->Uy P ops o a w u m->Ji ops hs a0 C (listed.setIfInBounds i true) (a.put o.dst u) m->K (a.put o.dst u) m):wpOp P ops Q i K a w:=by
 obtain⟨h0,o,L,N⟩:=Eu hi;have V:=ad o L;have a1:i<listed.size:=by
  rw[e.size];exact(gA.1 L).1
 have Z:listed.getD i false=false:=by
  simpa[a1]using h0
 have y:listed.getD i false≠true:=by rw[Z];simp
 have R:(listed.setIfInBounds i true).getD i false=true:=by simp[a1]
 have A:obl P C ops hs a0 i o (AH hs i):=by
  have:=Nl hs ops.toList 0 a8 i o (by simpa using L) a2;simpa[AH]using this
 -- the operands
 have a9:Cs ops hs a0 o a.eval w o.op.operands.toList:=by
  refine JV fun x hx => ?_;cases x with
  | tmp t =>
   have a6:t∈DY ops o:=by
    unfold DY OZ;rw[fL];left;rw[List.mem_filterMap];exact⟨_,hx,rfl⟩
   simp only[Et];cases a5:Ni ops o t with
   | none =>
    simp only[Act.eval];refine e.frame t fun j g H n => ?_;rcases V.look t a6 j g n with h|h|h
    · subst h;exact y H
    · exact JU a5 h n
    · exact y (e.closed j H i h)
   | some j =>
    obtain⟨U,S⟩:=JT a5;have T:j<hs.length:=by have:=V.lt j U;omega
    have a3:=N j U;simp only;cases f:(AH hs j).ty with
    | eq c=>exact e.values j c T a3 f t S
    | pr p =>
     obtain⟨v,q,Y⟩:=e.facts j T a3 (by
      intro k D;have:=V.cons j U k (by rw[Nm T];exact D);rcases this with h|h|h
      · subst h;exact Z
      · by_cases E:listed.getD k false=true
        · exact absurd (e.closed k E i h) y
        · simpa using E
      · exact absurd S (h t a6))
     rw[f]at q;exact⟨v,Y t S,q⟩
  | _=>trivial
 -- behind the operation
 have s:∀ u m,C m->(AH hs i).ty.ok u m ->
  (∀ j,j<hs.length->j≠i->listed.getD j false=true->(∀ k,(AH hs j).cons=some k->(listed.setIfInBounds i true).getD k false=false)->∀ v,(AH hs j).ty.ok v w->(AH hs j).ty.ok v m) ->
  Ji ops hs a0 C (listed.setIfInBounds i true) (a.put o.dst u) m:=by
  intro u m hC hu W;have F:∀ j,j<hs.length->j≠i->∀ d,Be ops j=some d->(a.put o.dst u).tmps.getD d undef=a.tmps.getD d undef:=by
   intro j g z d n;cases M:o.dst with
   | none=>rfl
   | some d' =>
    rw[Ct];have:d'≠d:=by
     rintro rfl;have:=V.apart j g z (by rw[n,M]);rw[M]at this;cases this
    rw[fl (fun h=>this h.1)]
  have O:∀ d,Be ops i=some d->(a.put o.dst u).tmps.getD d undef=u:=by
   intro d n;rw[BT L]at n;rw[n,Ct,fG ⟨rfl,by rw[e.tmps];exact V.dst d n⟩]
  have r:∀ j,j≠i->(listed.setIfInBounds i true).getD j false=true->listed.getD j false=true:=by
   intro j z h
   rwa[lI false (Ne.symm z)]at h
  refine⟨by rw[mz];exact e.size,?_,?_,hC,by rw[Gq];exact e.defers,by rw[GO];exact e.tmps,?_,?_,?_⟩
  · intro j g;rw[lI false (by omega)];exact e.tailF j g
  · intro j g p hp;by_cases l:j=i
    · subst l;rw[Ev L]at hp;exact jy (N p hp)
    · exact jy (e.closed j (r j l g) p hp)
  · intro t ht;have h1:o.dst≠some t:=by
     have:=ht i a2 R
     rwa[BT L]at this
    have h2:a.tmps.getD t undef=a0.tmps.getD t undef:=e.frame t fun j g H=>ht j g (jy H);cases M:o.dst with
    | none=>exact h2
    | some d' =>
     rw[Ct,fl (fun h=>h1 (by rw[M,h.1]))];exact h2
  · intro j g H I;by_cases l:j=i
    · subst l;exact⟨u,hu,O⟩
    · have a4:=r j l H
      obtain⟨v,q,Y⟩:=e.facts j g a4 (by
       intro k D;have:=I k D;by_cases E:listed.getD k false=true
       · rw[jy E]at this;cases this
       · simpa using E)
      exact⟨v,W j g l a4 I v q,fun d n=>by rw[F j g l d n];exact Y d n⟩
  · intro j c g H f d n;by_cases l:j=i
    · subst l;rw[f]at hu;rw[O d n];exact hu
    · rw[F j g l d n];exact e.values j c g (r j l H) f d n
 -- the guard
 have G:=Nj V.grd (fun j g c f d n=>e.values j c (by have:=V.lt j g;omega) (N j g) f d n);unfold wpOp;rw[L];simp only;unfold obl at A;cases hw:BQ hs o with
 | none=>rw[hw]at A;exact A.elim
 | some b =>
  rw[hw]at A;rw[G b hw];cases b with
  | true =>
   rw[fG rfl];left;refine Li (A a.eval w (JR a) e.world a9) fun u m B q=>hK o u m L (Or.inl B) (fun _=>q) ?_;unfold D9 at B;cases f:(AH hs i).ty with
   | eq c =>
    rw[f]at B;obtain⟨rfl,rfl⟩:=B;exact s u m e.world (by rw[f];rfl) fun _ _ _ _ _ v q=>q
   | pr p =>
    rw[f]at B;simp only at B;by_cases hmu:(AH hs i).mu=true
    · rw[fG hmu]at B;obtain⟨aa,ac,hp⟩:=B;refine s u m aa (by rw[f];exact hp) fun j g z H I v q => ?_;cases X:(AH hs j).ty with
      | eq c=>rw[X]at q;exact q
      | pr p' =>
       rw[<-X];refine Ig ac j (by simpa using g) ?_ v q;have c1:i ∉ anc ops 3 (Co ops j):=fun h=>y (CA e.closed 3 _ (e.closed j H) i h);have c2:∀ k,(AH hs j).cons=some k->k≠i/\k ∉ anc ops 3 (BP o):=by
        intro k D;have J:=I k D;refine⟨?_,fun hm => ?_⟩
        · rintro rfl;rw[R]at J;cases J
        · rw[jy (CA e.closed 3 _ N k hm)]at J;cases J
       unfold Dk;rw[X];cases hc:(AH hs j).cons with
       | none=>simp[z,c1]
       | some k =>
        obtain⟨d1,d2⟩:=c2 k hc;simp[z,c1,d1,d2]
    · rw[fl hmu]at B
      exact s u m (ab w m B.1 e.world) (by rw[f];exact B.2) fun j g _ _ _ v q =>
       P4 (Ih ae _ (by rw[AH,gqq,eZ g];simp)) B.1 q
  | false =>
   simp only[iI,jZ];exact hK o undef w L (Or.inr rfl) (fun a7=>by rw[G false hw]at a7;cases a7) (s undef w e.world (A w e.world) fun _ _ _ _ _ v q=>q)
end
section
variable {P:Program} {Q:Exit->Act->World->Prop}
theorem IL{id:Nat}(hm:P.follows .mixedOrders=true)(C:World->Prop)(b:List Hd)
 (U:Cp l.toArray (b.map (·.cons)) a.tmps.size=true)
 (a9:∀ w f,Ext w f->C w->C f) (hC:C w.drew) (ah:F9 b)
 (a6:K5 P C l.toArray b a 0 l b) (J:Array Bool->Act->World->Prop) (aa:J (Array.replicate l.toArray.size false) a w.drew)
 (hJ:∀ listed r f i o u O,Ji l.toArray b a C listed r f->J listed r f->i<b.length->l.toArray[i]?=some o->listed.getD i false=false->(∀ p∈BP o,listed.getD p false=true)->(D9 C l.toArray b i o (AH b i) f u O\/O=f)->Uy P l.toArray o r f u O->Ji l.toArray b a C (listed.setIfInBounds i true) (r.put o.dst u) O->(∀ j,j<b.length->j≠i->BA l.toArray j (r.put o.dst u)=BA l.toArray j r)->(∀ d,o.dst=some d->BA l.toArray i (r.put o.dst u)=u)->J (listed.setIfInBounds i true) (r.put o.dst u) O)
 (Z:∀ f,C f->DI f (fun r=>J ((Array.range l.toArray.size).map (fun j=>decide (j<b.length))) r f->wpList P l.toArray Q (l.drop b.length) r f) l b a):(Code.region id l.toArray true).wp P Q a w:=by
 refine mA hm ?_;unfold Cp at U;simp only[gY,fq,gV]at U;obtain⟨⟨⟨hn,W⟩,ak⟩,M⟩:=U;have al:l.toArray.size=l.length:=by simp
 have g:∀ i o,l.toArray[i]?=some o->(i<b.length->Ea l.toArray (b.map (·.cons)) b.length a.tmps.size i o)/\(b.length<=i->GT l.toArray b.length i o=true):=by
  intro i o x;have L:i<l.toArray.size:=(gA.1 x).1;have:=iS.1 W i (by simpa using L);rw[x]at this;simp only at this;refine⟨fun h => ?_,fun h => ?_⟩
  · rw[fG h]at this;exact IU this
  · rw[fl (by omega)]at this;exact this
 have aj:∀ m listed r f,unl listed b.length=m->Ji l.toArray b a C listed r f->J listed r f->wpAny P .any l.toArray Q (m+(l.toArray.size-b.length)) listed r f:=by
  intro m
  induction m with
  | zero =>
   intro listed r f hu e R;have s:=GP hu;have B:listed=(Array.range l.toArray.size).map (fun j=>decide (j<b.length)):=by
    apply Array.ext
    · rw[e.size];simp
    · intro i h1 h2;simp only[Array.getElem_map,Array.getElem_range];by_cases L:i<b.length
      · have:=s i L;simp[h1]at this;simp[this,L]
      · have:=e.tailF i (by omega);simp[h1]at this;simp[this,L]
   -- the frame
   have ha:r=CW (fun j=>match Be l.toArray j with | some d=>r.tmps.getD d undef | none=>Classical.epsilon (fun v=>(AH b j).ty.ok v f)) 0 l b a:=by
    apply P5
    · rw[Ga];exact e.defers
    · rw[IV];exact e.tmps
    · intro t;by_cases S:∃ j o,j<b.length/\l[j]?=some o/\o.dst=some t
      · obtain⟨j,o,D,x,q⟩:=S;have a4:l.toArray[j]?=some o:=by simpa using x
        have A:=(g j o a4).1 D
        rw[JX b l 0 a j o D x q (A.dst t q) (by
         intro k' o' af T ab;have a5:l.toArray[k']?=some o':=by simpa using T
         by_cases a3:k'=j
         · exact a3
         · have:=A.apart k' af a3 (by rw[BT a5,ab,q]);rw[q]at this
           cases this)]
        rw[fZ,BT a4,q]
      · rw[Ew b l 0 a (fun k o H x q=>S ⟨k,o,H,x,q⟩)];refine e.frame t fun j D _ q=>S ?_;unfold Be at q;cases x:l.toArray[j]? with
        | none=>rw[x]at q;cases q
        | some o=>rw[x]at q;exact⟨j,o,D,by simpa using x,q⟩
   have K:=JW (vs:=fun j=>match Be l.toArray j with | some d=>r.tmps.getD d undef | none=>Classical.epsilon (fun v=>(AH b j).ty.ok v f)) b l 0 a (Z f e.world)
    (by
     intro k H c X;rw[fZ];cases q:Be l.toArray k with
     | some d=>exact e.values k c H (s k H) X d q
     | none =>
      have:(AH b k).ty.ok (Classical.epsilon (fun v=>(AH b k).ty.ok v f)) f:=by
       apply j6 (p:=fun v=>(AH b k).ty.ok v f);refine⟨c,?_⟩;rw[show(AH b k).ty = .eq c from X];rfl
      have h2:(AH b k).ty = .eq c:=X;rw[h2]at this;simp only[Ty.ok]at this;rw[h2]
      exact this)
    (by
     intro k H p hp X;rw[fZ]
     obtain⟨v,hv,ai⟩:=e.facts k H (s k H) (by
      intro k' Y;have h1:(AH b k).cons=none:=X;rw[h1]at Y
      cases Y)
     have h2:(AH b k).ty = .pr p:=hp;cases q:Be l.toArray k with
     | some d =>
      simp only;rw[ai d q];rw[h2]at hv;exact hv
     | none =>
      have:(AH b k).ty.ok (Classical.epsilon (fun v=>(AH b k).ty.ok v f)) f:=j6 (p:=fun v=>(AH b k).ty.ok v f) ⟨v,hv⟩;simp only;rw[h2]at this |-
      exact this)
   rw[<-ha]at K;rw[fZ];have hl:(l.drop b.length).length=l.toArray.size-b.length:=by simp
   rw[<-hl];rw[<-hl,<-B]at M;exact wpAny_of_seq (l.drop b.length) b.length listed r f (by intro j;simp) M (K (B ▸ R))
  | succ m ih =>
   intro listed r f hu e R;rw[show m+1+(l.toArray.size-b.length)=(m+(l.toArray.size-b.length))+1 by omega];refine⟨fun F => ?_,fun i L => ?_⟩
   · obtain⟨j,D,G,ae⟩:=GQ (listed:=listed) (n:=b.length) (by omega);have a2:j<l.toArray.size:=by omega
     have x:l.toArray[j]?=some l.toArray[j]:=jl a2;have A:=(g j _ x).1 D
     have:j∈Region.ready .any l.toArray listed:=Nk (by
      have:j<listed.size:=by rw[e.size];exact a2
      simpa[this]using G) x (fun p hp=>ae p (A.lt p hp))
     rw[F]at this;cases this
   · obtain⟨h0,o,x,V⟩:=Eu L;have a1:i<listed.size:=by rw[e.size];exact(gA.1 x).1
     have a0:listed.getD i false=false:=by simpa[a1]using h0
     have z:i<b.length:=by
      rcases fS i b.length with h|h
      · exact h
      · exfalso;have ht:=(g i o x).2 h;unfold GT at ht;simp only[jW,iS,gO,ii,List.any_eq_true,gY,gV]at ht;rcases ht with ht|⟨k,H,ag,_⟩
        · obtain⟨j,D,G,_⟩:=GQ (listed:=listed) (n:=b.length) (by omega);rw[CA e.closed 12 (BP o) V j (ht j D)]at G;cases G
        · have:=V k H;rw[e.tailF k ag]at this;cases this
     refine Sh (by simpa using a6) ah a9 e L z (fun o' T=>(g i o' T).1 z) fun o2 u O y a7 a8 N => ?_;refine ih _ _ O ?_ N (hJ listed r f i o2 u O e R z y a0 (by rw[x]at y;simp only[fc]at y;rw[<-y];exact V) a7 a8 N ?_ ?_);rotate_left
     · intro j D ad;have A:=(g i o2 y).1 z;cases q:o2.dst with
       | none=>rfl
       | some d =>
        unfold BA;cases ac:Be l.toArray j with
        | none=>rfl
        | some dj =>
         simp only;rw[Ct,fl];intro hh;have:=A.apart j D ad (by rw[ac,q,hh.1]);rw[q]at this;cases this
     · intro d q;unfold BA;rw[BT y,q];simp only;rw[Ct,fG ⟨rfl,by rw[e.tmps];exact(g i o2 y).1 z |>.dst d q⟩]
     have:=Mi a1 a0 z;omega
 have I:Ji l.toArray b a C (Array.replicate l.toArray.size false) a w.drew:=by
  have A:∀ j,(Array.replicate l.toArray.size false).getD j false=false:=fun j=>kz _ j;refine⟨by simp,fun j _=>A j,(fun j h=>by rw[A j]at h;cases h),hC,rfl,rfl,fun _ _=>rfl,(fun j _ h=>by rw[A j]at h;cases h),(fun j c _ h=>by rw[A j]at h;cases h)⟩
 have E:unl (Array.replicate l.toArray.size false) b.length=b.length:=by
  have:∀ n,unl (Array.replicate l.toArray.size false) n=n:=by
   intro n
   induction n with
   | zero=>rfl
   | succ n ih=>rw[unl,ih,kz];simp
  exact this _
 have:=aj b.length _ a w.drew E I aa
 rwa[show b.length+(l.toArray.size-b.length)=l.toArray.size by omega]at this
end
structure XM(l:List Oper)(k1 k2 s1 j1:Nat)(T:TypeId)(zs:List Value)(base:Nat)(listed:Array Bool)(a:Act)(w:World):Prop where
 p1:listed.getD k1 false=true->∃ g,BA l.toArray k1 a = .pointer (some ⟨g,0,none⟩)/\base<=g/\g<w.heap.size/\(listed.getD s1 false=false->Arr w g T zs)/\(listed.getD s1 false=true->∃ cs:List Value,BA l.toArray j1 a = .agg cs.toArray/\Arr w g T cs)
 p2:listed.getD k2 false=true->∃ g,BA l.toArray k2 a = .pointer (some ⟨g,0,none⟩)/\base<=g/\g<w.heap.size/\Arr w g T zs
 ne:listed.getD k1 false=true->listed.getD k2 false=true->BA l.toArray k1 a≠BA l.toArray k2 a
 js:listed.getD s1 false=true->listed.getD j1 false=true/\listed.getD k1 false=true
 lo:base<=w.heap.size
theorem Bc{listed:Array Bool}(h:j≠i):(listed.setIfInBounds i true).getD j false=listed.getD j false:=by
 have a:¬ i=j:=fun e=>h e.symm;rw[jH,Array.getElem?_setIfInBounds,fl a,jH]
section
variable {P:Program} {Q:Exit->Act->World->Prop}
theorem DQ{id:Nat}(hm:P.follows .mixedOrders=true)(C:World->Prop)(y:List Hd)
 (ad:Cp l.toArray (y.map (·.cons)) a.tmps.size=true)
 (an:∀ w q,Ext w q->C w->C q) (hC:C w.drew) (aB:F9 y)
 (ai:K5 P C l.toArray y a 0 l y) (s A s1 F:Nat) (T:TypeId) (zs:List Value)
 (hn:s<y.length/\A<y.length/\s1<y.length/\F<y.length) (ap:s≠A/\s≠s1/\A≠s1/\F≠s1/\F≠s/\F≠A)
 (hk:∀ k,k=s\/k=A->∀ o,l.toArray[k]?=some o->o.guard=none/\o.dst.isSome=true/\∀ ρ wx,(execOp ρ o).run P wx = .ok (.value (.pointer (some ⟨wx.heap.size,0,none⟩))) (wx.alloc (.cells zs.toArray T)))
 (az:∀ o,l.toArray[s1]?=some o->o.guard=none/\o.dst=none/\∃ d1 dj,Be l.toArray s=some d1/\Be l.toArray F=some dj/\o.op = .store T (.tmp d1) (.tmp dj))
 (a3:s∈Co l.toArray s1/\F∈Co l.toArray s1)
 (ax:∀ i,i<y.length->i≠s1->(AH y i).mu=false)
 (ao:Agg P T zs.length)
 (ab:(AH y F).cons=none/\∀ v w,(AH y F).ty.ok v w->∃ cs:List Value,v = .agg cs.toArray/\cs.length=zs.length/\∀ x∈cs,x.oneCell'=true)
 (ah:∀ q,C q->DI q (fun G=>(∃ (g1 g2:Nat) (cs:List Value),BA l.toArray s G = .pointer (some ⟨g1,0,none⟩)/\BA l.toArray A G = .pointer (some ⟨g2,0,none⟩)/\w.heap.size<=g1/\w.heap.size<=g2/\g1≠g2/\BA l.toArray F G = .agg cs.toArray/\Arr q g1 T cs/\Arr q g2 T zs)->wpList P l.toArray Q (l.drop y.length) G q) l y a):(Code.region id l.toArray true).wp P Q a w:=by
 refine IL hm C y ad an hC aB ai (fun f G q=>XM l s A s1 F T zs w.heap.size f G q) ?_ ?_ ?_
 · refine⟨fun h => ?_,fun h => ?_,fun h => ?_,fun h => ?_,lrf _⟩
   all_goals (rw[kz]at h;cases h)
 · intro f G q i o u w2 a4 J aw ho a1 ae n a5 aF m ak;obtain⟨n1,n2,n3,n4⟩:=hn;obtain⟨d1,d2,d3,d4,d5,d6⟩:=ap;by_cases a2:i=s1
   · subst a2;obtain⟨hg,aE,t1,tj,e1,e2,ay⟩:=az o ho;rw[Ev ho]at a3;have Y:=ae s a3.1;have ac:=ae F a3.2;obtain⟨g,a0,aq,ar,au,_⟩:=J.p1 Y;obtain⟨v,hv,aC⟩:=a4.facts F n4 ac (fun k a8=>by rw[ab.1]at a8;cases a8);obtain⟨cs,rfl,a9,aj⟩:=ab.2 v q hv;have af:=aC tj e2;have al:G.tmps.getD t1 undef = .pointer (some ⟨g,0,none⟩):=by
      have:=a0;unfold BA at this;rw[e1]at this;exact this
     have hA:=au a1;have U:(execOp G.eval o).run P q = .ok .skip (q.setRow g cs.toArray):=by
      have:=EJ (P:=P) (w:=q) (ty:=T) (g:=g) (t:=T) (cs:=zs) (vs:=cs) (by rw[a9];exact ao) hA a9.symm aj;have e3:G.eval (.tmp t1) = .pointer (some ⟨g,0,none⟩):=al;have e4:G.eval (.tmp tj) = .agg cs.toArray:=af;simp only[execOp,ay,e3,e4,fC,this,fe,fQ]
     have ag:w2=q.setRow g cs.toArray:=by
      have:=a5 (by unfold Region.wanted;rw[hg]);rw[U]at this;exact this
     have z:q.grownBy w2 (some g):=by rw[ag];exact BH q g _
     have hA2:Arr w2 g T cs:=by rw[ag];exact C4 hA cs
     have L:(f.setIfInBounds i true).getD i false=true:=by
      have:i<f.size:=by rw[a4.size];exact(gA.1 ho).1
      simp[this]
     refine⟨fun _=>⟨g,by rw[m s n1 d2,a0],aq,fN ar z.size,(fun h=>by rw[L]at h;cases h),fun _=>⟨cs,?_,hA2⟩⟩,fun h => ?_,fun h1 h2 => ?_,fun _=>⟨by rw[Bc d4];exact ac,by rw[Bc d2];exact Y⟩,ft J.lo z.size⟩
     · rw[m F n4 d4];unfold BA;rw[e2];exact af
     · rw[Bc d3]at h;obtain⟨g',B,R,W,Z⟩:=J.p2 h;have E:=J.ne Y h;rw[a0,B]at E;refine⟨g',by rw[m A n2 d3,B],R,fN W z.size,Z.kept z ?_⟩;intro e;simp only[fc]at e;subst e;exact E rfl
     · rw[Bc d3]at h2;rw[m s n1 d2,m A n2 d3];exact J.ne Y h2
   · have hE:Ext q w2:=by
      rcases n with n|n
      · unfold D9 at n;cases V:(AH y i).ty with
        | eq c=>rw[V]at n;rw[n.1];exact Ext.refl _
        | pr p =>
         rw[V]at n;simp only[ax i aw a2]at n;exact n.1
      · rw[n];exact Ext.refl _
     have I:(f.setIfInBounds i true).getD s1 false=f.getD s1 false:=Bc (fun e=>a2 e.symm);have L:(f.setIfInBounds i true).getD i false=true:=by
      have:i<f.size:=by rw[a4.size];exact(gA.1 ho).1
      simp[this]
     have X:i=s\/i=A->BA l.toArray i (G.put o.dst u) = .pointer (some ⟨q.heap.size,0,none⟩)/\w2=q.alloc (.cells zs.toArray T):=by
      intro av;obtain⟨hg,aa,U⟩:=hk i av o ho;have:=a5 (by unfold Region.wanted;rw[hg]);rw[U]at this;obtain⟨e1,e2⟩:=this;cases hd:o.dst with
      | none=>rw[hd]at aa;cases aa
      | some d =>
       have:=ak d hd;rw[hd]at this;exact⟨by rw[this,e1],e2⟩
     have a6:s≠i->(f.setIfInBounds i true).getD s false=true->∃ g,BA l.toArray s (G.put o.dst u) = .pointer (some ⟨g,0,none⟩)/\w.heap.size<=g/\g<q.heap.size/\((f.setIfInBounds i true).getD s1 false=false->Arr w2 g T zs)/\((f.setIfInBounds i true).getD s1 false=true->∃ cs:List Value,BA l.toArray F (G.put o.dst u) = .agg cs.toArray/\Arr w2 g T cs):=by
      intro E h;rw[Bc E]at h;obtain⟨g,B,R,W,Z,q5⟩:=J.p1 h;refine⟨g,by rw[m s n1 E,B],R,W,fun hf => ?_,fun ht => ?_⟩
      · rw[I]at hf;exact(Z hf).ext hE
      · rw[I]at ht;obtain⟨cs,S,r2⟩:=q5 ht;have H:F≠i:=by
         rintro rfl;have:=(J.js ht).1;rw[a1]at this;cases this
        exact⟨cs,by rw[m F n4 H,S],r2.ext hE⟩
     have a7:A≠i->(f.setIfInBounds i true).getD A false=true->∃ g,BA l.toArray A (G.put o.dst u) = .pointer (some ⟨g,0,none⟩)/\w.heap.size<=g/\g<q.heap.size/\Arr w2 g T zs:=by
      intro E h;rw[Bc E]at h;obtain⟨g,B,R,W,Z⟩:=J.p2 h;exact⟨g,by rw[m A n2 E,B],R,W,Z.ext hE⟩
     refine⟨fun h => ?_,fun h => ?_,fun h1 h2 => ?_,fun h => ?_,ft J.lo hE.size⟩
     · by_cases N:i=s
       · subst N;obtain⟨S,r2⟩:=X (Or.inl rfl);have aA:f.getD s1 false=false:=by
          cases hh:f.getD s1 false with
          | false=>rfl
          | true=>have:=(J.js hh).2;rw[a1]at this;cases this
         refine⟨q.heap.size,S,J.lo,by rw[r2];simp,fun _=>by rw[r2];exact Arr.new q T zs,fun ht => ?_⟩;rw[I,aA]at ht;cases ht
       · obtain⟨g,B,R,W,Z,q5⟩:=a6 (fun e=>N e.symm) h;exact⟨g,B,R,fN W hE.size,Z,q5⟩
     · by_cases O:i=A
       · subst O;obtain⟨S,r2⟩:=X (Or.inr rfl);exact⟨q.heap.size,S,J.lo,by rw[r2];simp,by rw[r2];exact Arr.new q T zs⟩
       · obtain⟨g,B,R,W,Z⟩:=a7 (fun e=>O e.symm) h;exact⟨g,B,R,fN W hE.size,Z⟩
     · by_cases N:i=s
       · subst N;obtain⟨S,_⟩:=X (Or.inl rfl);obtain⟨g,B,_,W,_⟩:=a7 (fun e=>d1 e.symm) h2;rw[S,B];simp only[ne_eq,kG,fc,gz,ij];omega
       · by_cases O:i=A
         · subst O;obtain⟨S,_⟩:=X (Or.inr rfl);obtain⟨g,B,_,W,_⟩:=a6 d1 h1;rw[S,B];simp only[ne_eq,kG,fc,gz,ij];omega
         · rw[m s n1 (fun e=>N e.symm),m A n2 (fun e=>O e.symm)];rw[Bc (fun e=>N e.symm)]at h1;rw[Bc (fun e=>O e.symm)]at h2;exact J.ne h1 h2
     · rw[I]at h;obtain⟨B,R⟩:=J.js h;constructor
       · by_cases H:F=i
         · rw[H];exact L
         · rw[Bc H];exact B
       · by_cases H:s=i
         · rw[H];exact L
         · rw[Bc H];exact R
 · intro q am;have h0:=ah q am;revert h0;have aD:∀ (os:List Oper) (r:List Hd) (b:Act) (K K':Act->Prop),(∀ x,K x->K' x)->DI q K os r b->DI q K' os r b:=by
    intro os
    induction os with
    | nil=>intro r b K K' M h;cases r <;> exact M _ h
    | cons o os ih =>
     intro r b K K' M h;cases r with
     | nil=>exact M _ h
     | cons hd r =>
      simp only[DI]at h |-;cases V:hd.ty with
      | eq c=>rw[V]at h;simp only at h |-; exact ih r _ K K' M h
      | pr p =>
       rw[V]at h;simp only at h |-;cases hc:hd.cons with
       | none=>rw[hc]at h;simp only at h |-; exact fun v hv=>ih r _ K K' M (h v hv)
       | some k=>rw[hc]at h;simp only at h |-; exact fun v=>ih r _ K K' M (h v)
   refine aD l y a _ _ fun G h0 J=>h0 ?_;have D:∀ j,j<y.length->((Array.range l.toArray.size).map (fun j=>decide (j<y.length))).getD j false=true:=by
    intro j hj;have aG:y.length<=l.toArray.size:=by
     have:=ad;unfold Cp at this;simp only[gY,fq,gV]at this;exact this.1.1.1
    have:j<l.toArray.size:=by omega
    simp only[jH,Array.getElem?_map,Array.getElem?_range,this,ke,ic,fW,gV];exact hj
   obtain⟨n1,n2,n3,n4⟩:=hn;obtain⟨g1,B,R,_,_,q5⟩:=J.p1 (D s n1);obtain⟨g2,S,r2,_,r4⟩:=J.p2 (D A n2);obtain⟨cs,t1,t2⟩:=q5 (D s1 n3);refine⟨g1,g2,cs,B,S,R,r2,?_,t1,t2,r4⟩;have:=J.ne (D s n1) (D A n2);rw[B,S]at this;intro e;subst e;exact this rfl
end
def VE(z:Int):Value:=if -9223372036854775808<=z/\z<=9223372036854775807 then .tuple #[.int .i64 z,.bool true]else .tuple #[.int .i64 0,.bool false]
theorem JO(h : -9223372036854775808<=z/\z<=9223372036854775807):VE z = .tuple #[.int .i64 z,.bool true]:=fG h
theorem H9(h:¬ (-9223372036854775808<=z/\z<=9223372036854775807)):VE z = .tuple #[.int .i64 0,.bool false]:=fl h
theorem Si(h:AQ w v z):Calls prog 98 #[v] w fun e L=>e = .returned (VE z)/\Ext w L:=by
 obtain⟨s,a,n,c,rfl,I,F⟩:=h;have r:=F.zero;rcases fS n 2 with t|t
 · by_cases G:n=0
   · have l:Hid (VE z = .tuple #[.int .i64 0,.bool true]):=by
      have h0:z=0:=by have:=r.1 G;omega
      rw[h0];exact qh (JO (by omega))
     subst G;clear r t
     go_enter func98,ntmps98
     go_upto_region 1 with(fail)
     refine Bv ?_;intro E f d g;have m:=d.c 0 rfl;have p:=d.c 1 rfl;clear g;go_wp2
     go_ret2
     exact⟨by rw[l.out];rfl,f⟩
   · have H:n=1:=by omega
     subst H;obtain⟨b,o,rfl,k,N,O⟩:=F.one;have i:(z.natAbs:Int)=if s=true then -z else z:=by have:=I.out;cases s <;> simp at this |- <;> omega
     clear r G t;cases s with
     | true =>
      simp only[ke]at i;by_cases D:z.natAbs<=9223372036854775808
      · have l:=qh (JO (z:=z) (by omega));have A:IntKind.i64.wrap (IntKind.u64.wrap (-(z.natAbs:Int)))=z:=by rw[gN,IntKind.wrap_i64];omega
        have y:(z.natAbs:Int)<=9223372036854775808:=by omega
        generalize z.natAbs=x at *
        clear D i
        go_enter func98,ntmps98
        go_upto_region 1 with(fail)
        refine Bv ?_;intro E f d g;have m:=d.c 0 rfl;have p:=d.c 1 rfl;have q:=f.cell k;clear k;clear g;go_wp2
        go_ret2
        exact⟨by rw[l.out,<-A];rfl,f⟩
      · have l:=qh (H9 (z:=z) (by omega));have y:¬ ((z.natAbs:Int)<=9223372036854775808):=by omega
        generalize z.natAbs=x at *
        clear D i
        go_enter func98,ntmps98
        go_upto_region 1 with(fail)
        refine Bv ?_;intro E f d g;have m:=d.c 0 rfl;have p:=d.c 1 rfl;have q:=f.cell k;clear k;clear g;go_wp2
        go_ret2
        exact⟨by rw[l.out];rfl,f⟩
     | false =>
      simp only[iI,jZ]at i;by_cases D:z.natAbs<=9223372036854775807
      · have l:=qh (JO (z:=z) (by omega));have A:IntKind.i64.wrap (z.natAbs:Int)=z:=by rw[IntKind.wrap_i64];omega
        have y:(z.natAbs:Int)<=9223372036854775807:=by omega
        generalize z.natAbs=x at *
        clear D i
        go_enter func98,ntmps98
        go_upto_region 1 with(fail)
        refine Bv ?_;intro E f d g;have m:=d.c 0 rfl;have p:=d.c 1 rfl;have q:=f.cell k;clear k;clear g;go_wp2
        go_ret2
        exact⟨by rw[l.out,<-A];rfl,f⟩
      · have l:=qh (H9 (z:=z) (by omega));have y:¬ ((z.natAbs:Int)<=9223372036854775807):=by omega
        generalize z.natAbs=x at *
        clear D i
        go_enter func98,ntmps98
        go_upto_region 1 with(fail)
        refine Bv ?_;intro E f d g;have m:=d.c 0 rfl;have p:=d.c 1 rfl;have q:=f.cell k;clear k;clear g;go_wp2
        go_ret2
        exact⟨by rw[l.out];rfl,f⟩
 · have B:=F.big t;have l:=qh (H9 (z:=z) (by omega));obtain⟨M,h1,h2⟩:=F;obtain⟨b,o,rfl,C⟩:=h1.at (j:=0) (by omega);have k:=C 0 (by omega);rw[gE]at k;have K:((n:Int) == 0)=false:=by simp;omega
   have J:(1:Int)<(n:Int):=by omega
   generalize M.getD 0 0=x at *
   clear B r C
   go_enter func98,ntmps98
   go_upto_region 1 with(fail)
   refine Bv ?_;intro E f d g;have m:=d.c 0 rfl;have p:=d.c 1 rfl;have q:=f.cell k;clear k;clear g;go_wp2
   go_ret2
   exact⟨by rw[l.out];rfl,f⟩
def AG(b:UInt8):Value := .int .u8 (b.toNat:Int)
def Ah(s:ByteArray):List UInt8:=s.data.toList
theorem AD(s:ByteArray):(Ah s).length=s.size:=by unfold Ah;rw[Array.length_toList];rfl
theorem AO(l:List UInt8):Ah ⟨l.toArray⟩=l:=rfl
theorem QR(h:Ah s=Ah t):s=t:=by
 cases s with | mk a=>cases t with | mk b =>
 unfold Ah at h;simp only at h;have:=mO h;rw[this]
theorem B3(s:ByteArray)(i j:Nat):Ah (s.extract i j)=((Ah s).drop i).take (j-i):=by
 unfold Ah;rw[ByteArray.data_extract,Array.toList_extract]
theorem IM(l:List UInt8):∀ v∈l.map AG,v.oneCell'=true:=by
 intro v a;obtain⟨b,_,rfl⟩:=fy.1 a;rfl
section
variable {P:Program} {w:World}
theorem OP{u:TypeDesc}(j:P.underlying src=some u)(d:P.underlying dst=some (.slice e))(he:P.underlying e=some (.int .u8))(g:s.size<=maxLen) :
 ∃ c a,(convert src dst (.string s)).run P w = .ok (.slice (some ⟨w.heap.size,0,none⟩) s.size c) a/\Ext w a/\Sl a (some ⟨w.heap.size,0,none⟩) s.size c ((Ah s).map AG):=by
 refine⟨_,_,Lib.run_convert_string_bytes w src dst e s j d he,?_,?_⟩
 · refine⟨rfl,rfl,rfl,by rw[Lib.bytesWorld_size];omega,fun k f=>Lib.bytesWorld_at_old w e s k f⟩
 · refine⟨by rw[fq,AD],grownCap_ge w s.size 0 e,grownCap_le_maxLen w s.size 0 e g,fun _=>⟨w.heap.size,0,rfl,fun i b => ?_⟩⟩;rw[fZ,Lib.bytesWorld_cell w e s i b];have h1:i<(Ah s).length:=by rw[AD];exact b
   have h2:s.data.toList.getD i 0=(Ah s)[i]:=by
    show(Ah s).getD i 0=_;rw[gqq,eZ h1];rfl
   rw[h2];simp[h1,AG]
theorem PR(g:o.guard=none)(l:o.op = .convert src dst x)
 {e:TypeId} {s:ByteArray} {u:TypeDesc} (m:P.underlying src=some u) (j:P.underlying dst=some (.slice e)) (he:P.underlying e=some (.int .u8)) (n:f.eval x = .string s) (k:s.size<=maxLen)
 (i:∀ c b,Ext w b->Sl b (some ⟨w.heap.size,0,none⟩) s.size c ((Ah s).map AG)->wpList P ops Q rest (f.put o.dst (.slice (some ⟨w.heap.size,0,none⟩) s.size c)) b):wpList P ops Q (o :: rest) f w:=by
 refine gI g fun K d => ?_;obtain⟨c,b,a,h2,h3⟩:=OP (P:=P) (w:=w) m j he k;unfold Oper.wp execOp;simp only[l,n,fC,a,fe,fQ,Oper.upon];exact d _ _ (i c b h2 h3)
theorem Lj{a:Option Addr}{l:List UInt8}(i:P.underlying src=some (.slice e))(he:P.underlying e=some (.int .u8))(f:P.underlying dst=some .string)(d:Sl w a n c (l.map AG)) :
 (convert src dst (.slice a n c)).run P w = .ok (.string ⟨l.toArray⟩) w:=by
 have m:n=l.length:=by have:=d.len;simpa using this.symm
 subst m;cases a with
 | none =>
  have h0:l=[]:=by
   rcases fF l.length with h|h
   · exact fk h
   · obtain⟨b,o,h1,_⟩:=d.rd h;cases h1
  subst h0;show(convert src dst (.slice none 0 c)).run P w=_;rw[run_convert_bytes_string w src dst e none 0 c i he f];simp[Conv.bytesToString];rfl
 | some ad =>
  refine run_convert_bytes_back w src dst e ad c l i he f fun j g => ?_;obtain⟨b,o,h1,k⟩:=d.rd (by omega);simp only[fc]at h1;subst h1;have h2:=k j g;have h3:(l.map AG).getD j undef = .int .u8 (l[j].toNat:Int):=by simp[g,AG]
  rw[h3]at h2;rw[<-h2];unfold Addr.add;by_cases h0:j=0 <;> simp[h0]
theorem ET(g:o.guard=none)(m:o.op = .convert src dst x)
 {e:TypeId} {a:Option Addr} {n c:Nat} {l:List UInt8} (p:P.underlying src=some (.slice e)) (he:P.underlying e=some (.int .u8)) (j:P.underlying dst=some .string) (q:f.eval x = .slice a n c) (k:Sl w a n c (l.map AG))
 (i:wpList P ops Q rest (f.put o.dst (.string ⟨l.toArray⟩)) w):wpList P ops Q (o :: rest) f w:=by
 refine gI g fun K d => ?_;have b:=Lj (P:=P) (w:=w) p he j k;unfold Oper.wp execOp;simp only[m,q,fC,b,fe,fQ,Oper.upon];exact d _ _ i
end
end Go.Proofs.YthdbingomfdeoaaGreatDoor
namespace Go.Proofs.YthdbingomfdeoaaGreatDoor.W
open Go
variable {k n:Nat}
def decV(l:List UInt8):Nat:=l.foldl (fun n c=>10*n+(c.toNat-48)) 0
def isDig(c:UInt8):Prop:=48<=c.toNat/\c.toNat<=57
def digs(l:List UInt8):Prop:=∀ c∈l,isDig c
theorem decV_snoc(l:List UInt8)(c:UInt8):decV (l ++ [c])=10*decV l+(c.toNat-48):=by simp[decV]
theorem FC:∀ (l:List UInt8) (n:Nat),l.foldl (fun n c=>10*n+(c.toNat-48)) n=n*10^l.length+decV l
 | [],n=>by simp[decV]
 | c :: r,n=>by
  have h1:=FC r (10*n+(c.toNat-48));have h2:=FC r (10*0+(c.toNat-48));have h3:decV (c :: r)=r.foldl (fun n c=>10*n+(c.toNat-48)) (10*0+(c.toNat-48)):=rfl;rw[jG,h1,h3,h2,fP,gr]
  grind
theorem decV_app(a b:List UInt8):decV (a ++ b)=decV a*10^b.length+decV b:=by
 have:decV (a ++ b)=b.foldl (fun n c=>10*n+(c.toNat-48)) (decV a):=by simp[decV]
 rw[this,FC]
theorem Sj(c:UInt8)(r:List UInt8):decV (c :: r)=(c.toNat-48)*10^r.length+decV r:=by
 have:=decV_app [c] r;simpa[decV]using this
theorem decV_lt:∀ {l:List UInt8},digs l->decV l<10^l.length
 | [],_=>by simp[decV]
 | c :: r,h=>by
  have h1:=decV_lt (l:=r) (fun x a=>h x (by simp[a]));have h2:=h c (by simp);rw[Sj,fP,gr];have h3:(c.toNat-48)*10^r.length<=9*10^r.length:=fa _ (by have:=h2.2;omega);omega
theorem CO(h:n<256):(UInt8.ofNat n).toNat=n:=by simp;omega
theorem digs_dec(n:Nat):digs (Lib.decDigits n):=by
 induction n using Nat.strongRecOn with
 | _ n ih =>
  rw[Lib.decDigits];split
  · intro c a;simp only[fi]at a;subst a;unfold isDig;rw[CO (by omega)];omega
  · intro c a;rcases fL.1 a with h|h
    · exact ih (n/10) (by omega) c h
    · simp only[fi]at h;subst h;unfold isDig;rw[CO (by omega)];omega
theorem decV_dec(n:Nat):decV (Lib.decDigits n)=n:=by
 induction n using Nat.strongRecOn with
 | _ n ih =>
  rw[Lib.decDigits];split
  · simp only[decV,List.foldl];rw[CO (by omega)];omega
  · rw[decV_snoc,ih (n/10) (by omega),CO (by omega)];omega
theorem dec_ne(n:Nat):Lib.decDigits n≠[]:=by
 rw[Lib.decDigits];split <;> simp
theorem dec_zero:Lib.decDigits 0=[48]:=by rw[Lib.decDigits];rfl
theorem dec_head(h:0<n):∃ c r,Lib.decDigits n=c :: r/\c≠48:=by
 induction n using Nat.strongRecOn with
 | _ n ih =>
  rw[Lib.decDigits];split
  · refine⟨_,[],rfl,fun a => ?_⟩;have:=fM UInt8.toNat a;rw[CO (by omega)]at this;simp at this;omega
  · obtain⟨c,r,e,a⟩:=ih (n/10) (by omega) (by omega);exact⟨c,r ++ [UInt8.ofNat (48+n%10)],by rw[e];rfl,a⟩
theorem OQ{c:UInt8}(h:isDig c):UInt8.ofNat (48+(c.toNat-48))=c:=by
 apply UInt8.toNat_inj.1;rw[CO (by have:=h.2;omega)];have:=h.1;omega
theorem dec_of_digs:∀ {l:List UInt8} (_:digs l) (_:l≠[]) (_:∀ c r,l=c :: r->c=48->r=[]),Lib.decDigits (decV l)=l:=by
 intro l
 induction h:l.length using Nat.strongRecOn generalizing l with
 | _ n ih =>
  intro m f p;obtain⟨a,c,rfl⟩:∃ a c,l=a ++ [c]:=⟨l.dropLast,l.getLast f,(mi f).symm⟩;have d:isDig c:=m c (by simp);by_cases k:a=[]
  · subst k;have e:decV ([] ++ [c])=c.toNat-48:=by simp[decV]
    rw[e,Lib.decDigits,dif_pos (by have:=d.2;omega),OQ d];rfl
  · have i:digs a:=fun x q=>m x (by simp[q]);have j:∀ g r,a=g :: r->g=48->r=[]:=by
     intro g r e e0;subst e;have:=p g (r ++ [c]) rfl e0;simp at this
    have b:=ih a.length (by rw[<-h];simp) rfl i k j;have o:0<decV a:=by
     rcases fF (decV a)with h0|h0
     · rw[h0,dec_zero]at b;have:=p 48 [c] (by rw[<-b];rfl) rfl;simp at this
     · exact h0
    rw[decV_snoc,Lib.decDigits,dif_neg (by omega)];have h1:(10*decV a+(c.toNat-48))/10=decV a:=by have:=d.2;omega
    have h2:(10*decV a+(c.toNat-48))%10=c.toNat-48:=by have:=d.2;omega
    rw[h1,h2,b,OQ d]
def EU(k n:Nat):List UInt8:=List.replicate (k-(Lib.decDigits n).length) 48 ++ Lib.decDigits n
theorem KT:∀ k,decV (List.replicate k 48)=0
 | 0=>rfl
 | k+1=>by rw[kA,decV_snoc,KT k];rfl
theorem dec_len(h:n<10^k)(a:0<k):(Lib.decDigits n).length<=k:=by
 induction n using Nat.strongRecOn generalizing k with
 | _ n ih =>
  rw[Lib.decDigits];split
  · simp;omega
  · have:2<=k:=by
     rcases fS k 2 with h2|h2
     · have:k=1:=by omega
       subst this;omega
     · exact h2
    have h3:=ih (n/10) (by omega) (k:=k-1) (by
     rw[ie (by omega),<-gr,show(k-1).succ=k by omega]
     exact h) (by omega)
    simp;omega
theorem KU(h:n<10^k)(a:0<k):(EU k n).length=k:=by
 have:=dec_len h a;simp[EU];omega
theorem Sk{a b:Nat}(g:0<a)(i:b<10^k)(l:0<k):Lib.decDigits (a*10^k+b)=Lib.decDigits a ++ EU k b:=by
 have j:digs (Lib.decDigits a ++ EU k b):=by
  intro c f;rcases fL.1 f with h|h
  · exact digs_dec a c h
  · rcases fL.1 h with h|h
    · rw[(gR.1 h).2];exact⟨by decide,by decide⟩
    · exact digs_dec b c h
 have m:decV (Lib.decDigits a ++ EU k b)=a*10^k+b:=by
  rw[decV_app,decV_dec,KU i l];unfold EU;rw[decV_app,KT,decV_dec];omega
 obtain⟨c,r,e,f⟩:=dec_head g;rw[<-m];refine dec_of_digs j (by rw[e];simp) ?_;intro n o d e0;rw[e]at d;simp only[jh,lh]at d;exact absurd (d.1.trans e0) f
end Go.Proofs.YthdbingomfdeoaaGreatDoor.W
namespace Go.Proofs.YthdbingomfdeoaaGreatDoor
open Tryz Go Go.RowKit
variable {f:Act} {ops:Array Oper} {s:ByteArray} {Q:Exit->Act->World->Prop} {z:Int} {zs:List Nat} {rest:List Oper} {l r:List UInt8} {cs news xs:List Value} {B base c d m n u:Nat} {o:Oper} {x:Operand} {a b:Option Addr} {T e t tx:TypeId} {v:Value} {w w0 wb:World}
theorem Sm(b:zs.length=n+1)(a:W.bnd B zs)(d:B^n<=W.val B zs):W.nrm zs:=by
 intro c h0;rw[ka]at h0;have h1:=H4 (B:=B) b;have h2:=DB a (m:=n) (by omega);have h3:zs.getD n 0=zs[zs.length-1]'(by omega):=by
  have:zs.length-1=n:=by omega
  simp[this,show n<zs.length by omega]
 rw[h3,h0,iE,fZ]at h1;omega
theorem Uz(a:W.digs l)(b:l.length<=19):W.decV l<10000000000000000000:=by
 have h1:=W.decV_lt a;have h2:10^l.length<=10^19:=fx (by omega) b;omega
theorem Mc(b:W.digs l)(k:Nat):W.digs (l.take k):=fun c a=>b c (im a)
theorem Sn(b:W.digs l)(k:Nat):W.digs (l.drop k):=fun c a=>b c (kC a)
theorem So{xs:List Nat}{k c' V:Nat}(a:k<zs.length)(f:k<xs.length)(h:W.val B (zs.take k)+c*B^k=u*W.val B (xs.take k)+V)(e:d+B*c'=xs.getD k 0*u+c) :
 W.val B ((zs.set k d).take (k+1))+c'*B^(k+1)=u*W.val B (xs.take (k+1))+V:=by
 have b:W.val B ((zs.set k d).take (k+1))=W.val B (zs.take k)+B^k*d:=by
  rw[W.val_take_succ (by simpa using a)];congr 1
  · rw[ld (lrf _)]
  · simp[a]
 rw[b,W.val_take_succ f,gr];have g:B^k*(d+B*c')=B^k*(xs.getD k 0*u+c):=by rw[e]
 grind
theorem Jv(hd:W.digs (Ah s))(hs:s.size<=600) :
 Calls prog 214 #[.string s] w (OJ w (W.decV (Ah s))):=by
 have HD:=qh hd;clear hd
 go_enter func214,ntmps214
 go_wp2
 go_loopw[0,3] (fun dv xv wr=>∃ (j:Nat) (t:ByteArray) (a:Option Addr) (n c:Nat) (xs:List Nat),dv = .string t/\xv = .slice a n c/\j<=s.size/\Hid (Ah t=(Ah s).drop j)/\t.size+j=s.size/\n<=j/\Ext w wr/\Own wr w.heap.size 101 a n c (xs.map (B7 .u64))/\Hid (Num 18446744073709551616 xs (W.decV ((Ah s).take j)))) (fun dv _ _=>match dv with | .string t=>t.size | _=>0)
 case atStart=>exact⟨0,s,none,0,0,[],rfl,rfl,fu _,qh rfl,by omega,by omega,Ext.refl w,Own.nil _ _ _,qh (Num.nil _)⟩
 case round =>
  obtain⟨j,t,a,n,c,xs,rfl,rfl,hj,HT,aT,aR,hE,hO,Z⟩:=hrel;by_cases h0:t.size=0
  · have HF:Hid (Num 18446744073709551616 xs (W.decV (Ah s))):=by
     have h1:=Z.out;rw[f9 (by rw[AD];omega)]at h1;exact qh h1
    have aC:¬ (0:Int)<(t.size:Int):=by omega
    clear h0;go_wp2;go_ret;exact⟨a,n,c,rfl,hE,xs,hO.sl,HF.out⟩
  · have aC:(0:Int)<(t.size:Int):=by omega
    obtain⟨z,hz⟩:∃ z,(t.size-1)%19+1=z:=⟨_,rfl⟩;have aU:1<=z:=by omega
    have aV:z<=19:=by omega
    have aW:z<=t.size:=by omega
    have aF:IntKind.i64.wrap ((t.size:Int)-1)=((t.size-1:Nat):Int):=by rw[show(t.size:Int)-1=((t.size-1:Nat):Int) by omega];exact fO _ (by omega)
    have aG:((t.size-1:Nat):Int).tmod 19=(((t.size-1)%19:Nat):Int):=by rw[ji (by omega)];omega
    have am:((t.size-1:Nat):Int)%19=(((t.size-1)%19:Nat):Int):=by omega
    have aH:IntKind.i64.wrap ((((t.size-1)%19:Nat):Int)+1)=(z:Int):=by rw[show(((t.size-1)%19:Nat):Int)+1=(z:Int) by omega];exact fO _ (by omega)
    clear hz;generalize (t.size-1)%19=z0 at *
    generalize t.size-1=t1 at *
    have aX:(z:Int)<=(t.size:Int):=by omega
    go_upto_region 6 with(refine PR rfl rfl underlying9 underlying159 underlying5 rfl (by unfold maxLen;simp;omega) ?_;intro cb w1 a6 Q)
    have M:Ah (t.extract 0 z)=((Ah s).drop j).take z:=by rw[B3,HT.out,gP,jn]
    have aa:W.digs (Ah (t.extract 0 z)):=by rw[M];exact Mc (Sn HD.out j) z
    have ab:(Ah (t.extract 0 z)).length=z:=by rw[M,go,kE,AD];omega
    have an:=qh M;clear M;have ak:(t.extract 0 z).size=z:=by simp;omega
    rw[ak]at Q;clear ak;generalize Ah (t.extract 0 z)=A at *
    have X:=qh aa;have K:=qh ab;clear aa ab aF aG am aH
    go_loop[5,6,25] (fun cv bv T=>∃ (k f P:Nat),k<=z/\cv = .int .u64 f/\bv = .int .u64 P/\T = .int .i64 k/\f<10000000000000000000/\P<=10000000000000000000/\Hid (W.decV (A.take k)=f/\10^k=P)) (fun _ _ T=>z-(intOf T).toNat)
    case atStart=>exact⟨0,0,1,fu _,rfl,rfl,rfl,by omega,by omega,qh ⟨rfl,rfl⟩⟩
    case round =>
     obtain⟨k,f,P,hk,rfl,rfl,rfl,aM,hP,E⟩:=hrel;by_cases ac:k<z
     · obtain⟨b1,o1,I,J⟩:=Q.rd (by omega);simp only[fc,gz,ij]at I;obtain⟨I,af⟩:=I;have g1:=J k ac;rw[<-I,<-af,fZ]at g1;have S:k<A.length:=by rw[K.out];exact ac
       have e1:(A.map AG).getD k undef = .int .u8 ((A[k].toNat:Nat):Int):=by simp[S,AG]
       rw[e1]at g1;have az:=X.out A[k] (fE S);have ah:A.take (k+1)=A.take k ++ [A[k]]:=ff S;have b:W.decV (A.take (k+1))=10*f+(A[k].toNat-48):=by rw[ah,W.decV_snoc,E.out.1]
       have ae:=Uz (Mc X.out (k+1)) (by rw[go,K.out];omega);have ag:10^(k+1)<=10^19:=fx (by omega) (by omega);rw[gr,E.out.2]at ag;rw[b]at ae;have l:=qh b;have Y:Hid (10^(k+1)=P*10):=by show _=_;rw[gr,E.out.2]
       obtain⟨aN,aO⟩:=az;generalize A[k].toNat=e at *
       have a1:IntKind.u64.wrap (10*(f:Int))=((10*f:Nat):Int):=Al (by omega) (by omega);have a2:IntKind.u8.wrap ((e:Int)-48)=((e-48:Nat):Int):=by rw[IntKind.wrap_u8];omega
       have a3:IntKind.u64.wrap ((e-48:Nat):Int)=((e-48:Nat):Int):=Al rfl (by omega);have a4:IntKind.u64.wrap (((10*f:Nat):Int)+((e-48:Nat):Int))=((10*f+(e-48):Nat):Int):=Al (by omega) (by omega);have a5:IntKind.u64.wrap ((P:Int)*10)=((P*10:Nat):Int):=Al (by omega) (by omega);have b2:10*f+(e-48)<10000000000000000000:=by omega
       have b3:P*10<=10000000000000000000:=by omega
       clear b ah e1 J I af ae ag;generalize 10 * f+(e-48)=ap at *
       generalize 10 * f=aJ at *
       generalize e-48=d1 at *
       generalize P * 10=P1 at *
       go_wp2;go_round
       case rel=>exact⟨k+1,ap,P1,by omega,rfl,rfl,by go_num,b2,b3,qh ⟨l.out,Y.out⟩⟩
       case measure=>simp[intOf];omega
     · have ek:k=z:=by omega
       have N:Hid (W.decV A=f/\10^z=P):=by
        have h1:=E.out;rw[ek,f9 (by rw[K.out];exact lrf _)]at h1;exact qh h1
       clear ek E Q;have a9:=hO.ext a6;have a8:=hE.trans a6;have L:Hid (xs.length=n):=qh (by have:=hO.len;simpa using this);go_wp2;obtain⟨wo,aI⟩:∃ wo:World,wo=wr:=⟨_,rfl⟩;subst aI
       go_loopw[9,44] (fun cv T wx=>∃ (q C:Nat) (zs:List Nat),q<=n/\cv = .int .u64 C/\T = .int .i64 q/\C<18446744073709551616/\Ext w wx/\Own wx w.heap.size 101 a n c (zs.map (B7 .u64))/\Hid (W.bnd 18446744073709551616 zs/\zs.drop q=xs.drop q/\W.val 18446744073709551616 (zs.take q)+C*18446744073709551616^q=P*W.val 18446744073709551616 (xs.take q)+f)) (fun _ T _=>n-(intOf T).toNat)
       case atStart=>exact⟨0,f,xs,fu _,rfl,rfl,by omega,a8,a9,qh ⟨Z.out.bnd,rfl,by simp[W.val]⟩⟩
       case round =>
        clear a9 a8;obtain⟨q,C,zs,hq,rfl,rfl,ay,H,D,G⟩:=hrel;have al:zs.length=n:=by have:=D.len;simpa using this
        have x:=qh al;clear al;by_cases r:q<n
        · obtain⟨g,rfl,aA,aP⟩:=D.place (by omega);have O:Ay .u64 wr w.heap.size 101 g n c zs:=D;have g1:=O.cell (i:=q) r;have f1:=O.frozen q;have hb:=W.bnd_at G.out.1 (i:=q) (by rw[x.out];exact r);have ai:zs.getD q 0=xs.getD q 0:=ER G.out.2.1;have ao:=qh ai;clear ai;generalize zs.getD q 0=xq at *
          go_wp2_with fail
          refine(Ca hb (show P<18446744073709551616 by omega) ay).mono ?_;rintro e2 w2 ⟨U,hi,rfl,rfl,aE,aD,e1⟩;have HS:=qh (So (B:=18446744073709551616) (zs:=zs) (xs:=xs) (k:=q) (d:=U) (u:=P) (c:=C) (c':=hi) (V:=f) (by rw[x.out];exact r) (by rw[L.out];exact r) G.out.2.2 (by rw[<-ao.out];exact e1));have aw:Own (wr.setCell ⟨g,q,none⟩ (.int .u64 (U:Int))) w.heap.size 101 (some ⟨g,0,none⟩) n c ((zs.set q U).map (B7 .u64)):=O.set q U;have ar:=H.setCell (p:=⟨g,q,none⟩) aA (.int .u64 (U:Int));clear e1;go_wp2;go_roundw
          case rel=>exact⟨q+1,hi,zs.set q U,by omega,rfl,by go_num,aD,ar,aw,qh ⟨W.bnd_set G.out.1 aE,En G.out.2.1,HS.out⟩⟩
          case measure=>simp[intOf];omega
        · have eq:q=n:=by omega
          have v:W.val 18446744073709551616 zs+C*18446744073709551616^n=P*W.val 18446744073709551616 xs+f:=by
           have h1:=G.out.2.2;rw[eq,f9 (by rw[x.out];exact lrf _),f9 (by rw[L.out];exact lrf _)]at h1;exact h1
          rw[Z.out.val]at v;have b:P*W.decV ((Ah s).take j)+f=W.decV ((Ah s).take (j+z)):=by
           have h1:(Ah s).take (j+z)=(Ah s).take j ++ A:=by rw[an.out,List.take_add]
           rw[h1,W.decV_app,K.out,N.out.1,N.out.2,fJ]
          rw[b]at v;have o:=qh v;have l:=qh b;have aj:Ah (t.extract z t.size)=(Ah s).drop (j+z):=by
           rw[B3,HT.out,lF,f9 (by rw[kE,AD];omega)]
          have a0:=qh aj;have aS:(t.extract z t.size).size=t.size-z:=by simp
          clear v b aj eq;by_cases R:C=0
          · have m:Num 18446744073709551616 zs (W.decV ((Ah s).take (j+z))):=by
             have h1:=o.out;rw[R,iE,gE]at h1;refine⟨G.out.1,?_,h1⟩;rcases fF n with ad|ad
             · have:zs=[]:=fk (by rw[x.out,ad]);rw[this];exact W.nrm_nil
             · refine Sm (B:=18446744073709551616) (n:=n-1) (by rw[x.out];omega) G.out.1 ?_;rw[h1,<-l.out];have h2:=W.nrm_pos (B:=18446744073709551616) (by omega) Z.out.nrm (by intro h;have:=L.out;rw[h]at this;simp at this;omega);rw[L.out,Z.out.val]at h2;have h3:1*W.decV ((Ah s).take j)<=P*W.decV ((Ah s).take j):=fa _ (by rw[<-N.out.2];exact jd (by omega));omega
            have F:=qh m;subst R;clear m o l G;generalize t.extract z t.size=t2 at *
            go_wp2;go_roundw
            case rel=>exact⟨j+z,t2,a,n,c,zs,rfl,rfl,by omega,a0,by omega,by omega,H,D,F⟩
            case measure=>simp;omega
          · have aL:((C:Int) != 0)=true:=by simp;omega
            have m:Num 18446744073709551616 (zs ++ [C]) (W.decV ((Ah s).take (j+z))):=by
             refine⟨W.bnd_app G.out.1 (fun y hy=>by simp at hy;omega),fun aQ=>by simp;exact R,?_⟩;rw[W.val_snoc,x.out,<-o.out,fJ]
            have F:=qh m;have hA:=D.alloc (.cells #[.int .u64 (C:Int)] 101);have hL:=(Au wr w.heap.size 101 #[.int .u64 (C:Int)] 1 rfl H.size (by omega)).sl;have ax:∀ k,blk a=some k->w.heap.size<=k:=fun k hk=>(D.lt hk).1;clear m o l G;generalize t.extract z t.size=t2 at *
            go_wp2_with(refine BS rfl rfl underlying98 AP rfl rfl hA rfl hL (by simp[Value.oneCell']) (by unfold maxLen;omega) (by omega) (by simp;have:=H.size;omega) ?_;intro a7 c7 w7 au aB aK)
            have aq:Ext w w7:=(H.alloc _).grown aB ax;have av:Own w7 w.heap.size 101 a7 (n+1) c7 ((zs ++ [C]).map (B7 .u64)):=by rw[fY];exact au
            go_roundw
            case rel=>exact⟨j+z,t2,a7,n+1,c7,zs ++ [C],rfl,rfl,by omega,a0,by omega,by omega,aq,av,F⟩
            case measure=>simp;omega
theorem KV(b:W.digs (Ah s))(g:s.size<=570) :
 Calls prog 183 #[.string s,.slice none 0 0] w (OJ w (W.decV (Ah s))):=by
 have hp:=qh (Jv (w:=w) b (by omega));clear b
 go_enter func183,ntmps183
 go_wp2;refine wp_loop_rounds 1 ?_;rw[rounds_succ]
 go_wp2_with fail
 refine hp.out.mono ?_;rintro e i ⟨a,n,c,rfl,d,f⟩;go_wp2;go_ret;exact⟨a,n,c,rfl,d,f⟩
theorem KW(b:W.digs (Ah s))(g:s.size<=570) :
 Calls prog 141 #[.string s] w (OJ w (W.decV (Ah s))):=by
 have hp:=qh (KV (w:=w) b g);have f:¬ ((570:Int)<(s.size:Int)):=by omega
 clear b
 go_enter func141,ntmps141
 go_wp2_with fail
 refine hp.out.mono ?_;rintro e j ⟨a,n,c,rfl,d,i⟩;go_wp2;go_ret;exact⟨a,n,c,rfl,d,i⟩
theorem FX(l:W.digs (Ah s))(q:s.size<=570) :
 Calls prog 102 #[.string s] w (IJ w ((W.decV (Ah s):Nat):Int)):=by
 go_enter func102,ntmps102
 go_upto_region 1 with(fail)
 refine Bv ?_;intro m g d k;have hp:=qh (KW (w:=m) l q);have p:Arr m w.heap.size 123 (Ae false none 0 0):=d;have c:Hid (decide (((W.decV (Ah s):Nat):Int)<0)=false):=qh (fK (by omega));clear l k
 go_wp2_with fail
 refine hp.out.mono ?_;rintro e t ⟨n,r,o,rfl,a,j⟩;have b:=p.ext a
 go_wp2_with(refine Aa (vs:=Ae false n r o) rfl rfl rfl rfl rfl Am b rfl (Ao _ _ _ _) ?_;intro v f i)
 exact fh (At rfl Am rfl f) rfl (Dj (g.trans a) b (AL _ _ _ _) i (by omega) c j)
theorem D5:A9 prog 5 (.int .u8 0) 1:=by unfold A9;kernel_rfl
def Jg(wb:World)(l:List UInt8)(e:Ending)(w':World):Prop:=∃ a n c,e = .returned (.slice a n c)/\Own w' wb.heap.size 5 a n c (l.map AG)/\Ext wb w'
theorem Lk(h:w.ownsRow base e 1 v n xs):∃ a c,v = .slice a n c/\Own w base e a n c xs:=by
 rcases h.2 with⟨d,h0⟩|⟨g,b,f,d,_⟩
 · subst d;subst h0;exact⟨none,0,rfl,h⟩
 · subst d;exact⟨_,b,rfl,h⟩
theorem Jw(i:Bk w)(b:Ext wb w)(g:Own w wb.heap.size 5 a n c (l.map AG))(hu:u<18446744073709551616)(j:n<=100000) :
 Calls prog 166 #[.slice a n c,.int .u64 u,.int .i64 10] w (Jg wb (l ++ Lib.decDigits u)):=by
 refine(Any.internal_strconv_AppendUint_10 QG wb.heap.size n u hu (.slice a n c) (l.map AG) w g b.size (by omega) i.ten).mono ?_;rintro e m ⟨k,rfl,h1,h2,_⟩;obtain⟨d,f,rfl,h3⟩:=Lk h1;refine⟨d,_,f,rfl,?_,Below.trans b h2⟩;rw[fY];exact h3
theorem KX(i:Bk w)(f:Ext wb w)(g:Own w wb.heap.size 5 a n c (l.map AG))(hu:u<18446744073709551616)(j:n<=100000) :
 Calls prog 180 #[.slice a n c,.int .u64 u,.int .i64 10] w (Jg wb (l ++ Lib.decDigits u)):=by
 have h:=qh (Jw i f g hu j)
 go_enter func180,ntmps180
 go_wp2_with fail
 refine h.out.mono ?_;rintro e m ⟨b,k,d,rfl,h1,h2⟩;go_wp2;go_ret;exact⟨b,k,d,rfl,h1,h2⟩
theorem D8(b:Bk w)(h0 : -9223372036854775808<=z)(h1:z<=9223372036854775807) :
 Calls prog 66 #[.int .i64 z,.int .i64 10] w fun e a=>e = .returned (.string ⟨(Lib.itoa z).toArray⟩)/\Ext w a:=by
 refine(Any.strconv_FormatInt_10 Vx z h0 h1 w b.ten).mono ?_;rintro e a ⟨rfl,k,c,rfl⟩;exact⟨rfl,Lib.below_grow w.heap.size w (lrf _) k c⟩
theorem OR(b:Bk w)(h0 : -9223372036854775808<=z)(h1:z<=9223372036854775807) :
 Calls prog 39 #[.int .i64 z] w fun e a=>e = .returned (.string ⟨(Lib.itoa z).toArray⟩)/\Ext w a:=by
 have h:=qh (D8 b h0 h1)
 go_enter func39,ntmps39
 go_wp2_with fail
 refine h.out.mono ?_;rintro e a ⟨rfl,h2⟩;go_wp2;go_ret;exact⟨rfl,h2⟩
theorem IP{x:Nat}(E:Bk w)(i:Ext wb w)(j:Own w wb.heap.size 5 a n c (l.map AG))(g:Wd w b m d x)(s:x<18446744073709551616)(H:n<=100000) :
 Calls prog 138 #[.slice a n c,.slice b m d] w (Jg wb (l ++ Lib.decDigits x)):=by
 have t:m<=1:=g.len (k:=1) (by rw[Uq];exact s);have f:=g.zero;by_cases h0:m=0
 · have r:x=0:=f.1 h0;subst h0;subst r;have v:Hid (l ++ Lib.decDigits 0=l ++ [48]):=by show _=_;rw[W.dec_zero]
   have C:=j.alloc (.cells #[.int .u8 48] 5);have D:=(Au w wb.heap.size 5 #[.int .u8 48] 1 rfl i.size (by omega)).sl;have p:∀ k,blk a=some k->wb.heap.size<=k:=fun k G=>(j.lt G).1;clear f t g
   go_enter func138,ntmps138
   go_wp2_with(refine BS rfl rfl underlying159 D5 rfl rfl C rfl D (by simp[Value.oneCell']) (by unfold maxLen;omega) (by omega) (by simp;have:=i.size;omega) ?_;intro z B P o q F)
   go_ret;refine⟨z,n+1,B,rfl,?_,(i.alloc _).grown q p⟩;rw[v.out,fY];exact o
 · have h1:m=1:=by omega
   subst h1;obtain⟨J,N,rfl,K,L,M⟩:=g.one;have h:=qh (KX E i j s H);clear f t g h0
   go_enter func138,ntmps138
   go_wp2_with fail
   refine h.out.mono ?_;rintro e O ⟨y,I,A,rfl,h1,h2⟩;go_wp2;go_ret;exact⟨y,I,A,rfl,h1,h2⟩
theorem Arr.setCells{g:Nat}{t:TypeId}:∀ (b:List Value) (o:Nat) (w:World) (a:List Value),Arr w g t a->o+b.length<=a.length->Arr (w.setCells g o b) g t (a.take o ++ b ++ a.drop (o+b.length))
 | [],o,w,a,h,_=>by
  have e:a.take o ++ [] ++ a.drop (o+([]:List Value).length)=a:=by simp
  rw[e];exact h
 | v :: r,o,w,a,h,hl=>by
  simp only[fP]at hl;have h1:=Arr.setCells r (o+1) _ _ (h.set o v) (by simp;omega);have e:(a.set o v).take (o+1) ++ r ++ (a.set o v).drop (o+1+r.length)=a.take o ++ (v :: r) ++ a.drop (o+(v :: r).length):=by
   have c:(a.set o v).take (o+1)=a.take o ++ [v]:=by
    rw[ff (by simp;omega)];rw[ld (by omega)];simp
   have d:(a.set o v).drop (o+1+r.length)=a.drop (o+1+r.length):=by
    rw[List.drop_set_of_lt (by omega)]
   rw[c,d];simp[jp,Nat.add_left_comm]
  rw[e]at h1;exact h1
theorem FD(g:Nat):∀ (d:List Value) (o:Nat) (w:World),w.grownBy (w.setCells g o d) (some g)
 | [],_,w=>⟨rfl,rfl,rfl,lrf _,fun _ _ _=>rfl⟩
 | v :: r,o,w=>by
  have h1:=Aj w g o v;have h2:=FD g r (o+1) (w.setCell ⟨g,o,none⟩ v);exact⟨h2.os.trans h1.os,h2.tape.trans h1.tape,h2.output.trans h1.output,ft h1.size h2.size,fun b c a=>(h2.block b (fN c h1.size) a).trans (h1.block b c a)⟩
section
variable {P:Program} {w:World}
theorem JP{s:Operand}(v:o.guard=none)
 (C:o.op = .call { callee := .builtin .append,args:=#[s,x],argTypes:=#[t,tx] })
 {e T:TypeId} {i:TypeInfo} {g n c m:Nat} {p:Value} {cs news:List Value}
 (E:P.underlying t=some (.slice e)) (hi:P.info? e=some i) (k:i.size=1) (D:f.eval s = .slice (some ⟨g,0,none⟩) n c) (F:f.eval x=p) (b:Go.Src P 1 tx p m news w) (q:Arr w g T cs)
 (d:n+m<=c) (z:n+m<=cs.length)
 (A:∀ y,Arr y g T (cs.take n ++ news ++ cs.drop (n+m))->w.grownBy y (some g)->wpList P ops Q rest (f.put o.dst (.slice (some ⟨g,0,none⟩) (n+m) c)) y):wpList P ops Q (o :: rest) f w:=by
 refine gI v fun K r => ?_;have B:news.length=m:=by have:=b.newsLen;simpa using this
 have l:Go.Src P i.size tx p m news w:=by rw[k];exact b
 have a:=run_append_room_src (P:=P) (w:=w) t tx o.type e i E hi g 0 n c p m news l d
  (fun j G=>by
   rw[k,fZ,je,q.cell (i:=n+j) (by omega)];rfl)
  (fun j _=>q.frozen _)
 rw[k,fZ,je]at a;have h1:=Arr.setCells news n w cs q (by omega);rw[B]at h1;unfold Oper.wp execOp;simp only[C,resolve,invoke,builtin,fC,fQ,fe,iP,gD,iF,D,F,a];exact r _ _ (A _ h1 (FD g news n w))
end
theorem Sp(hu:u<100):Calls prog 145 #[.int .i64 u] w fun e a=>e = .returned (.string ⟨(Lib.decDigits u).toArray⟩)/\a=w :=
 Any.internal_strconv_small { QG with } u hu w
theorem Ll(a:Bk w)(h1:1<=u)(hu:u<18446744073709551616):Calls prog 146 #[.int .u64 u] w fun e b=>e = .returned (.int .i64 (Lib.nDigits u:Nat))/\b=w :=
 Any.internal_strconv_numDigits { QG with } u h1 hu w a.ten
theorem PU(hu:u<18446744073709551616)(i:Lib.nDigits u<=24) :
 Calls prog 147 #[.slice (some ⟨w0.heap.size,0,none⟩) (Lib.nDigits u) 24,.int .u64 u] (w0.alloc (.cells Lib.zeros24 T)) fun e a =>
  e = .returned (.tuple #[])/\Ext w0 a/\∀ j,j<Lib.nDigits u->a.cell? ⟨w0.heap.size,j,none⟩=some (((Lib.decDigits u).map AG).getD j undef):=by
 have c:=Lib.holds_zero0 w0 T (Lib.nDigits u) i;have h:=Any.internal_strconv_formatBase10 { QG with } w0.heap.size 0 24 u (Array.replicate (Lib.nDigits u) 0) _ c (by rw[kY];exact Lib.lt_pow_nDigits u) hu (by rw[kY];omega);rw[kY]at h;refine h.mono ?_;rintro e a ⟨rfl,k,m,dk,rfl,hF⟩;refine⟨rfl,?_,fun j d => ?_⟩
 · obtain⟨l,g⟩:=Lib.fin_at w0 (.cells Lib.zeros24 T) dk k 0;rw[g];exact Lib.below_grow w0.heap.size w0 (lrf _) k l
 · have f:j<(Lib.decDigits u).length:=by rw[Lib.decDigits_length];exact d
   have h1:=Go.Sort.cell?_putRow (fun(b:UInt8)=>Value.int .u8 (b.toNat:Int)) (w0.alloc (.cells Lib.zeros24 T)) w0.heap.size 0 (Array.replicate (Lib.nDigits u) 0) dk c (by rw[hF.size,kY]) j (by rw[hF.size];exact d);rw[World.cell?_drewN];rw[fZ]at h1;rw[h1,<-Lib.row_is_numeral hF j f];simp[f,AG]
def QS(w:World)(g c:Nat)(T:TypeId)(l:List UInt8)(e:Ending)(w':World):Prop:=e = .returned (.slice (some ⟨g,0,none⟩) l.length c)/\(∃ w1,Ext w w1/\w1.grownBy w' (some g))/\∃ cs',Arr w' g T cs'/\cs'.length=c/\cs'.take l.length=l.map AG
def WZ(w:World)(g:Nat)(T:TypeId)(u:Nat)(e:Ending)(w':World):Prop:=QS w g 20 T (Lib.decDigits u) e w'
theorem W2(hu:u<18446744073709551616):(Lib.decDigits u).length<=20:=W.dec_len (k:=20) (ma hu (by decide)) (by omega)
theorem M7(b:news.length=m)(a:cs.length=c)(h:n+m<=c):(cs.take n ++ news ++ cs.drop (n+m)).length=c:=by
 simp only[fo,go,kE];omega
theorem JQ(a:cs.take n=l.map AG):(cs.take n ++ r.map AG ++ cs.drop (n+m)).take (l ++ r).length=(l ++ r).map AG:=by
 have h:((l ++ r).map AG).length=(l ++ r).length:=by simp
 rw[a,<-fY,<-h,List.take_left]
theorem IQ{g:Nat}(V:Bk w)(K:Arr w g T cs)(F:cs.length=c)(G:l.length=n)(X:n+20<=c)(N:cs.take n=l.map AG)(hu:u<18446744073709551616) :
 Calls prog 166 #[.slice (some ⟨g,0,none⟩) n c,.int .u64 u,.int .i64 10] w (QS w g c T (l ++ Lib.decDigits u)):=by
 have h20:=W2 hu;have m:=qh (And.intro F G);have p:=qh N;have b:((Lib.decDigits u).map AG).length=(Lib.decDigits u).length:=by simp
 have d:∀ L,(Lib.decDigits u).length=L->(l ++ Lib.decDigits u).length=n+L:=fun L h=>by rw[fo,G,h]
 obtain⟨Y,x,t⟩:∃ i,prog.info? 5=some i/\i.size=1:=by
  have h:=D5;unfold A9 at h;cases O:prog.info? 5 with
  | none=>rw[O]at h;cases h
  | some i=>rw[O]at h;simp at h;exact⟨i,rfl,h.2.1⟩
 clear N G;by_cases J:u<100
 · have z:=qh (Sp (w:=w) J);have k:Go.Src prog 1 9 (.string ⟨(Lib.decDigits u).toArray⟩) (Lib.decDigits u).length ((Lib.decDigits u).map AG) w:=by
    have h:=Go.Src.ofString (P:=prog) w (tx:=9) underlying9 ⟨(Lib.decDigits u).toArray⟩;have e:(⟨(Lib.decDigits u).toArray⟩:ByteArray).size=(Lib.decDigits u).length:=by simp[ByteArray.size]
    rw[e]at h;exact h
   have H:(u:Int)<100:=by omega
   clear F
   go_enter func166,ntmps166
   go_wp2_with fail
   refine z.out.mono ?_;rintro e R ⟨rfl,rfl⟩
   go_wp2_with(refine JP rfl rfl underlying159 x t rfl rfl k K (by omega) (by rw[m.out.1];omega) ?_;intro B hA2 C)
   go_ret;exact⟨by rw[d _ rfl];rfl,⟨R,Ext.refl _,C⟩,_,hA2,M7 b m.out.1 (by omega),JQ p.out⟩
 · have y:Lib.nDigits u=(Lib.decDigits u).length:=(Lib.decDigits_length u).symm;have f:=qh (PU (w0:=w) (T:=211) hu (by omega));have a:=qh (Ll (u:=u) (V.ext ((Ext.refl w).alloc (.cells Lib.zeros24 211))) (by omega) hu);rw[y]at f a
   have Q:Lib.zeros24=#[Value.int .u8 0,Value.int .u8 0,Value.int .u8 0,Value.int .u8 0,Value.int .u8 0,Value.int .u8 0,Value.int .u8 0,Value.int .u8 0,Value.int .u8 0,Value.int .u8 0,Value.int .u8 0,Value.int .u8 0,Value.int .u8 0,Value.int .u8 0,Value.int .u8 0,Value.int .u8 0,Value.int .u8 0,Value.int .u8 0,Value.int .u8 0,Value.int .u8 0,Value.int .u8 0,Value.int .u8 0,Value.int .u8 0,Value.int .u8 0]:=rfl;rw[Q]at f a;have H:¬ (u:Int)<100:=by omega
   have r:prog.arrayLen 211=24:=by kernel_rfl
   have I:∀ W,(Instr.sliceAt 211 (.pointer (some ⟨w.heap.size,0,none⟩)) none (some (.int .i64 ((Lib.decDigits u).length:Int))) none).run prog W = .ok (.slice (some ⟨w.heap.size,0,none⟩) (Lib.decDigits u).length 24) W:=fun W=>by
    rw[run_sliceAt_array_h W 211 ⟨w.heap.size,0,none⟩ (by simp[Program.arrayLen,Program.elem,underlying211]) .i64 ((Lib.decDigits u).length:Int) (by omega) (by rw[r];omega)];go_simp
   obtain⟨L,A⟩:∃ L,(Lib.decDigits u).length=L:=⟨_,rfl⟩;rw[A]at h20 f a b I;have o:=qh (d _ A);clear d;have S:=qh A;clear F Q y A r
   go_enter func166,ntmps166
   go_wp2_with fail
   refine a.out.mono ?_;rintro e R ⟨rfl,rfl⟩
   go_wp2_with fail
   refine f.out.mono ?_;rintro e B ⟨rfl,q,s⟩;have hA2:=K.ext q;have k:Go.Src prog 1 159 (.slice (some ⟨w.heap.size,0,none⟩) L 24) L ((Lib.decDigits u).map AG) B:=by
    refine Go.Src.ofSlice (P:=prog) B underlying159 _ _ _ _ (by rw[b,je]) (fun j v M => ?_) (IM _);have E:j<L:=by have:=(gC.1 M).1;omega
    have h3:=s j E;rw[gqq,M]at h3;have U:Addr.add ⟨w.heap.size,0,none⟩ j=⟨w.heap.size,j,none⟩:=by unfold Addr.add;split <;> simp_all
    rw[U,h3];rfl
   clear s f a
   go_wp2_with(refine JP rfl rfl underlying159 x t rfl rfl k hA2 (by omega) (by rw[m.out.1];omega) ?_;intro Z hA3 D)
   go_ret;exact⟨by rw[o.out];rfl,⟨B,q,D⟩,_,hA3,M7 b m.out.1 (by omega),JQ p.out⟩
end Go.Proofs.YthdbingomfdeoaaGreatDoor
namespace Go.Proofs.YthdbingomfdeoaaGreatDoor.W
open Go
variable {b k w x:Nat}
def padD(w x:Nat):List UInt8:=if x=0 then List.replicate w 48 else List.replicate (w-(Lib.decDigits x).length) 48 ++ Lib.decDigits x
theorem padD_zero(w:Nat):padD w 0=List.replicate w 48:=by unfold padD;rw[fG rfl]
theorem padD_pos(h:0<x):padD w x=List.replicate (w-(Lib.decDigits x).length) 48 ++ Lib.decDigits x:=by unfold padD;rw[fl (by omega)]
theorem padD_nat(h:0<x):padD 0 x=Lib.decDigits x:=by rw[padD_pos h,Nat.zero_sub];rfl
theorem padD_dec(a:0<k):padD k b=EU k b:=by
 unfold EU;rcases fF b with rfl|h
 · rw[padD_zero,dec_zero];obtain⟨j,rfl⟩:∃ j,k=j+1:=⟨k-1,by omega⟩;rw[kA];rfl
 · rw[padD_pos h]
theorem padD_split{a:Nat}(c:0<a)(f:b<10^k)(d:0<k):padD w (a*10^k+b)=padD (w-k) a ++ padD k b:=by
 have h0:0<a*10^k+b:=fN (jj c (jd (by omega))) (kb _ _);rw[padD_dec d,padD_pos h0,padD_pos c,Sk c f d,ge];have e:w-(Lib.decDigits a ++ EU k b).length=w-k-(Lib.decDigits a).length:=by
  rw[fo,KU f d];omega
 rw[e]
theorem padD_high0(e:k<=w)(a:b<10^k)(c:0<k):padD w b=padD (w-k) 0 ++ padD k b:=by
 rw[padD_zero];rcases fF b with rfl|h
 · rw[padD_zero,padD_zero,List.replicate_append_replicate];congr 1;omega
 · have d:=dec_len a c;rw[padD_pos h,padD_pos h,<-ge,List.replicate_append_replicate];congr 2;omega
end Go.Proofs.YthdbingomfdeoaaGreatDoor.W
