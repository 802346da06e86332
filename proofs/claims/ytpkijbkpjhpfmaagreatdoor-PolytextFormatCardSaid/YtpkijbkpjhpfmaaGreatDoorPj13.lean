/- Part Pj13. -/
import Derived.Test.YtpkijbkpjhpfmaaGreatDoorPj10
import Derived.WalkKit
set_option linter.all false
set_option maxRecDepth 100000
set_option maxHeartbeats 100000000
namespace Go.Proofs.YtpkijbkpjhpfmaaGreatDoor
open Go Go.RowKit
def jB:=@Int.natAbs_mul
def jG:=@List.pairwise_cons
def jc:=@List.mem_map_of_mem
def kD:=@List.nodup_cons
def kz:=@Value.pointer.injEq
def mH:=@Nat.mul_div_assoc
def mJ:=@Int.natAbs_add_le
def mQ:=@List.length_pos_of_mem
def mZ:=@Int.natAbs_tdiv
def nR:=@List.ext_getElem
def nU:=@Array.getElem?_setIfInBounds
def nZ:=@Nat.mul_ne_zero
end Go.Proofs.YtpkijbkpjhpfmaaGreatDoor
namespace Go.Proofs.YtpkijbkpjhpfmaaGreatDoor.Pl
variable {x y:Int} {b c e:List Int} {d n:Nat} {a q:Rat}
abbrev Tm:=List Int×Rat
def coef:List Tm->List Int->Rat
| [],_=>0
| t::r,e=>(if t.1=e then t.2 else 0)+coef r e
def lin(F:List Int->Rat):List Tm->Rat
| []=>0
| t::r=>t.2*F t.1+lin F r
theorem coef_app(a b:List Tm)(e:List Int):coef (a++b) e=coef a e+coef b e:=by induction a with|nil=>{simp[coef];grind}|cons t r ih=>simp only[j7,coef,ih];grind
theorem S8(F:List Int->Rat)(a b:List Tm):lin F (a++b)=lin F a+lin F b:=by induction a with|nil=>{simp[lin];grind}|cons t r ih=>simp only[j7,lin,ih];grind
theorem coef_perm{a b:List Tm}(h:a.Perm b)(e:List Int):coef a e=coef b e:=by induction h with|nil=>{rfl}|cons t _ ih=>{simp only[coef,ih]}|swap s t l=>{simp only[coef];grind}|trans _ _ h1 h2=>rw[h1,h2]
theorem MK(l:List Tm)(m e:List Int):coef (l.filter (fun t=>decide (t.1≠m))) e=if e=m then 0 else coef l e:=by induction l with|nil=>{simp[coef]}|cons t r ih=>by_cases h:t.1=m;{rw[List.filter_cons_of_neg (by simp[h]),ih];by_cases he:e=m;{simp[he]};simp only[gN he,coef];rw[gN (by rw[h];exact fun x=>he x.symm)];grind};rw[List.filter_cons_of_pos (by simp[h])];simp only[coef,ih];by_cases he:e=m;{subst he;simp[h];grind};simp[he]
theorem Ob(F:List Int->Rat)(l:List Tm)(m:List Int):lin F l=coef l m*F m+lin F (l.filter (fun t=>decide (t.1≠m))):=by induction l with|nil=>{simp[coef,lin];grind}|cons t r ih=>by_cases h:t.1=m;{rw[List.filter_cons_of_neg (by simp[h])];simp only[coef,lin,h];rw[ih];grind};rw[List.filter_cons_of_pos (by simp[h])];simp only[coef,lin,gN h];rw[ih];grind
theorem ML(F:List Int->Rat):∀(n:Nat) (l:List Tm),l.length<=n->(∀e,coef l e=0)->lin F l=0
|0,l,h,_=>by have:l=[]:=gO (by omega);subst this;rfl
|n+1,[],_,_=>rfl
|n+1,t::r,h,hz=>by (rw[Ob F (t::r) t.1,hz t.1];have h1:((t::r).filter (fun s=>decide (s.1≠t.1))).length<=n:=by rw[List.filter_cons_of_neg (by simp)];have:=List.length_filter_le (fun s:Tm=>decide (s.1≠t.1)) r;simp at h;omega);rw[ML F n _ h1 (fun e=>by rw[MK,hz e];split<;>rfl)];grind
def scl(c:Rat)(l:List Tm):List Tm:=l.map (fun t=>(t.1,c*t.2))
theorem MN(c:Rat)(l:List Tm)(e:List Int):coef (scl c l) e=c*coef l e:=by induction l with|nil=>{simp[scl,coef]}|cons t r ih=>have:scl c (t::r)=(t.1,c*t.2)::scl c r:=rfl;rw[this];simp only[coef,ih];by_cases h:t.1=e<;>simp[h]<;>grind
theorem S9(F:List Int->Rat)(c:Rat)(l:List Tm):lin F (scl c l)=c*lin F l:=by induction l with|nil=>{simp[scl,lin]}|cons t r ih=>have:scl c (t::r)=(t.1,c*t.2)::scl c r:=rfl;rw[this];simp only[lin,ih];grind
theorem O4{F:List Int->Rat}{a b:List Tm}(h:∀e,coef a e=coef b e):lin F a=lin F b:=by have h1:=ML F _ (a++scl (-1) b) (lrf _) (fun e=>by rw[coef_app,MN,h e];grind);rw[S8,S9]at h1;grind
def cmpI(x y:Int):Int:=if x<y then -1 else if y<x then 1 else 0
theorem cmpI_zero:cmpI x y=0<->x=y:=by unfold cmpI;split<;>(try split)<;>omega
theorem cmpI_pos:0<cmpI x y<->y<x:=by unfold cmpI;split<;>(try split)<;>omega
theorem MO:cmpI y x=-cmpI x y:=by unfold cmpI;split<;>(try split)<;>omega
def ordR:List Int->List Int->Int
| x::r,y::s=>if x=y then ordR r s else cmpI y x
| _,_=>0
def ordE(a b:List Int):Int:=if a.sum=b.sum then ordR a.reverse b.reverse else cmpI a.sum b.sum
theorem Ke:∀a:List Int,ordR a a=0
|[]=>rfl
|x::r=>by simp[ordR,Ke r]
theorem O5:∀{a b:List Int},a.length=b.length->ordR a b=0->a=b
|[],[],_,_=>rfl
|x::r,y::s,hl,h=>by by_cases e:x=y;{simp only[ordR,gS e]at h;rw[e,O5 (by simpa using hl) h]};simp only[ordR,gN e]at h;exact absurd (cmpI_zero.1 h).symm e
theorem Kf:∀(a b:List Int),ordR b a=-ordR a b
|[],[]=>by simp[ordR]
|[],_::_=>by simp[ordR]
|_::_,[]=>by simp[ordR]
|x::r,y::s=>by by_cases e:x=y;{simp only[ordR,gS e,gS e.symm];exact Kf r s};simp only[ordR,gN e,gN (fun h:y=x=>e h.symm)];exact MO
theorem IW:∀{a b c:List Int},0<ordR a b->0<ordR b c->0<ordR a c
|x::r,y::s,z::t,h1,h2=>by by_cases e1:x=y;{subst e1;by_cases e2:x=z;{subst e2;simp only[ordR,kW]at h1 h2|-;exact IW h1 h2};simp only[ordR,gN e2]at h2|-;exact h2};simp only[ordR,gN e1]at h1;by_cases e2:y=z;{subst e2;simp only[ordR,gN e1];exact h1};simp only[ordR,gN e2]at h2;have g1:=cmpI_pos.1 h1;have d:=cmpI_pos.1 h2;simp only[ordR,gN (show ¬x=z by omega)];exact cmpI_pos.2 (by omega)
|[],_,_,h1,_=>by simp[ordR]at h1
|_::_,[],_,h1,_=>by simp[ordR]at h1
|_::_,_::_,[],_,h2=>by simp[ordR]at h2
theorem ordE_self(a:List Int):ordE a a=0:=by simp[ordE,Ke]
theorem ordE_eq{a:List Int}(c:a.length=b.length)(h:ordE a b=0):a=b:=by unfold ordE at h;split at h;{exact List.reverse_inj.1 (O5 (by simpa using c) h)};rename_i d;exact absurd (cmpI_zero.1 h) d
theorem ordE_anti(a b:List Int):ordE b a=-ordE a b:=by unfold ordE;by_cases h:a.sum=b.sum;{rw[gS h,gS h.symm];exact Kf _ _};rw[gN h,gN (fun x=>h x.symm)];exact MO
theorem ordE_trans{a:List Int}(h1:0<ordE a b)(h2:0<ordE b c):0<ordE a c:=by unfold ordE at*;by_cases e:a.sum=b.sum;{rw[gS e]at h1;by_cases d:b.sum=c.sum;{rw[gS d]at h2;rw[gS (e.trans d)];exact IW h1 h2};rw[gN d]at h2;rw[gN (fun h=>d (e.symm.trans h)),e];exact h2};rw[gN e]at h1;have f:=cmpI_pos.1 h1;by_cases d:b.sum=c.sum;{rw[gN (fun h=>e (h.trans d.symm)),<-d];exact h1};rw[gN d]at h2;have g:=cmpI_pos.1 h2;rw[gN (by omega)];exact cmpI_pos.2 (by omega)
structure Canon(n:Nat)(l:List Tm):Prop where
 len:∀t∈l,t.1.length=n
 nz:∀t∈l,t.2≠0
 desc:l.Pairwise (fun s t=>0<ordE s.1 t.1)
theorem Canon.nil(n:Nat):Canon n []:=⟨by simp,by simp,List.Pairwise.nil⟩
theorem Canon.tail{t:Tm}{r:List Tm}(h:Canon n (t::r)):Canon n r := ⟨fun s a=>h.len s (by simp[a]),fun s a=>h.nz s (by simp[a]),(jG.1 h.desc).2⟩
theorem coef_absent{l:List Tm}(h:∀t∈l,t.1≠e):coef l e=0:=by induction l with|nil=>{rfl}|cons t r ih=>simp only[coef,gN (h t (by simp)),ih (fun s a=>h s (by simp[a]))];grind
theorem coef_present{l:List Tm}(h:coef l e≠0):∃t∈l,t.1=e:=by refine ie fun a=>h (coef_absent fun t b he=>a ⟨t,b,he⟩)
theorem Canon.head{t:Tm}{r:List Tm}(h:Canon n (t::r)):coef (t::r) t.1=t.2:=by (have:coef r t.1=0:=coef_absent fun s a he=>by have:=(jG.1 h.desc).1 s a;rw[he,ordE_self]at this;omega);simp only[coef,kW,this];grind
theorem Canon.above{t:Tm}{r:List Tm}(h:Canon n (t::r)){e:List Int}(he:coef (t::r) e≠0):e=t.1\/0<ordE t.1 e:=by obtain⟨s,a,rfl⟩:=coef_present he;rcases iI.1 a with rfl|a;{exact Or.inl rfl};exact Or.inr ((jG.1 h.desc).1 s a)
theorem canon_ext{n:Nat}:∀{a b:List Tm},Canon n a->Canon n b->(∀e,coef a e=coef b e)->a=b
|[],[],_,_,_=>rfl
|[],t::r,_,hb,e=>by have h1:=hb.head;rw[<-e]at h1;exact absurd h1.symm (hb.nz t (by simp))
|t::r,[],ha,_,e=>by have h1:=ha.head;rw[e]at h1;exact absurd h1.symm (ha.nz t (by simp))
|s::a,t::b,ha,hb,e=>by (have h1:=ha.head;have h2:=hb.head;have i:coef (t::b) s.1≠0:=by rw[<-e,h1];exact ha.nz s (by simp));(have j:coef (s::a) t.1≠0:=by rw[e,h2];exact hb.nz t (by simp));(have f:s.1=t.1:=by rcases hb.above i with h|h;{exact h};rcases ha.above j with d|d;{exact d.symm};have:=ordE_anti s.1 t.1;omega);(have g:s.2=t.2:=by rw[<-h1,<-h2,e,f]);have c:s=t:=Prod.ext f g;subst c;rw[canon_ext ha.tail hb.tail (fun x=>by have:=e x;simp only[coef]at this;grind)]
theorem rat_mul_parts(a b:Rat):(a*b).num=a.num.tdiv (a.num.natAbs.gcd b.den:Nat)*b.num.tdiv (b.num.natAbs.gcd a.den:Nat)/\(a*b).den=a.den/(b.num.natAbs.gcd a.den)*(b.den/(a.num.natAbs.gcd b.den)):=by have h:a*b=Rat.mul a b:=rfl;rw[h,Rat.mul];simp only[Int.divExact_eq_tdiv,Nat.divExact_eq_div,and_self]
theorem rat_mul_whole(a b:Rat)(c:a.den=1)(d:b.den=1):(a*b).num=a.num*b.num/\(a*b).den=1:=by have:=rat_mul_parts a b;rw[c,d]at this;simpa using this
theorem rat_add_parts(a b:Rat):(a+b).num=(a.num*((b.den/a.den.gcd b.den:Nat):Int)+b.num*((a.den/a.den.gcd b.den:Nat):Int)).tdiv (((a.num*((b.den/a.den.gcd b.den:Nat):Int)+b.num*((a.den/a.den.gcd b.den:Nat):Int)).natAbs.gcd (a.den.gcd b.den):Nat):Int) /\ (a+b).den=(a.den/a.den.gcd b.den)*(b.den/((a.num*((b.den/a.den.gcd b.den:Nat):Int)+b.num*((a.den/a.den.gcd b.den:Nat):Int)).natAbs.gcd (a.den.gcd b.den))):=by have h:a+b=Rat.add a b:=rfl;have c:∀N:Nat,(a.den/a.den.gcd b.den)*(b.den/(N.gcd (a.den.gcd b.den)))=(a.den/a.den.gcd b.den)*b.den/(N.gcd (a.den.gcd b.den)):=fun N=>(mH _ (kI (jM _ _) (jM _ _))).symm;rw[c,h,Rat.add];simp only;split;{rename_i d;simp[d]};rw[Rat.maybeNormalize_eq];exact⟨Int.divExact_eq_tdiv (Int.ofNat_dvd_left.2 (ke _ _)),rfl⟩
theorem rat_eq_mk{n:Int}(a:d≠0)(b:n.natAbs.Coprime d)(h:q=mkRat n d):q.num=n/\q.den=d:=by (rw[h,Rat.num_mkRat,Rat.den_mkRat,gN a,gN a];have h1:d.gcd n.natAbs=1:=by rw[kw];exact b);simp[h1]
theorem rat_num_den_zero:q.num=0<->q=0:=Rat.num_eq_zero
theorem rat_frac{n:Int}(a:d≠0):(mkRat n d).num=n.tdiv (n.natAbs.gcd d:Nat)/\(mkRat n d).den=d/(n.natAbs.gcd d):=by (rw[Rat.num_mkRat,Rat.den_mkRat,gN a,gN a,kw];refine⟨?_,rfl⟩;have h:((n.natAbs.gcd d:Nat):Int)∣n:=by have:=ke n.natAbs d;exact Int.ofNat_dvd_left.2 this);exact(Int.tdiv_eq_ediv_of_dvd h).symm
theorem rat_inv_pos(h:0<a.num):(a⁻¹).num=a.den/\(a⁻¹).den=a.num.natAbs:=by have h1:a⁻¹=Rat.inv a:=rfl;rw[h1,Rat.inv];rw[dif_neg (by omega),dif_pos h];exact⟨rfl,rfl⟩
theorem rat_inv_neg(h:a.num<0):(a⁻¹).num=-(a.den:Int)/\(a⁻¹).den=a.num.natAbs:=by have h1:a⁻¹=Rat.inv a:=rfl;rw[h1,Rat.inv];rw[dif_pos h];exact⟨rfl,rfl⟩
theorem rat_inv_zero:(0:Rat)⁻¹=0:=by simp
def P4(m:List Int):Rat->List Tm->Rat
| c,[]=>c
| c,t::r=>if m=t.1 then P4 m (c+t.2) r else c
def Oc(m:List Int):List Tm->List Tm
| []=>[]
| t::r=>if m=t.1 then Oc m r else t::r
theorem G5(m:List Int):∀l:List Tm,(Oc m l).length<=l.length
|[]=>lrf _
|t::r=>by unfold Oc;split;{have:=G5 m r;simp;omega};exact lrf _
def grp(l:List Tm):List Tm :=
 match l with
| []=>[]
| t::r=>(if P4 t.1 t.2 r=0 then []else [(t.1,P4 t.1 t.2 r)])++grp (Oc t.1 r)
termination_by l.length
decreasing_by
 have:=G5 t.1 r;simp;omega
theorem Ta:grp []=[]:=by rw[grp]
def desc(l:List Tm):Prop:=l.Pairwise (fun s t=>0<=ordE s.1 t.1)
theorem canon_of_sorted{l:List Tm}(c:∀t∈l,t.1.length=n)(f:∀t∈l,t.2≠0)(g:desc l)(i:(l.map (·.1)).Nodup):Canon n l:=by refine⟨c,f,?_⟩;induction l with|nil=>{exact List.Pairwise.nil}|cons t r ih=>have a:=jG.1 g;have b:=kD.1 i;refine jG.2 ⟨fun s d=>?_,ih (fun x e=>c x (by simp[e])) (fun x e=>f x (by simp[e])) a.2 b.2⟩;have h1:=a.1 s d;have h2:ordE t.1 s.1≠0:=fun h0=>b.1 (by show t.1∈_;rw[ordE_eq (by rw[c t (by simp),c s (by simp[d])]) h0];exact jc d);omega
end Go.Proofs.YtpkijbkpjhpfmaaGreatDoor.Pl
namespace Go.Proofs.YtpkijbkpjhpfmaaGreatDoor.Pl
variable {e k:List Int} {seen:List Nat} {a b d n:Nat} {p q:Rat}
def posK{α:Type}(k:List Int):Nat->List (List Int×α)->Option (Nat×α)
| _,[]=>none
| i,(k',v)::r=>if k=k' then some (i,v)else posK k (i+1) r
def getK{α:Type}(z:α)(l:List (List Int×α))(k:List Int):α:=((posK k 0 l).map (·.2)).getD z
def putK{α:Type}(l:List (List Int×α))(k:List Int)(v:α):List (List Int×α) :=
 match posK k 0 l with
| some (i,_)=>l.set i (k,v)
| none=>l++[(k,v)]
theorem GF{a:Type}(k:List Int):∀(l:List (List Int×a)) (i:Nat),posK k (i+1) l=(posK k i l).map (fun p=>(p.1+1,p.2))
|[],_=>rfl
|(k',v)::r,i=>by unfold posK;by_cases h:k=k';{simp[h]};simp only[gN h];exact GF k r (i+1)
theorem GG{b:Type}(z:b)(a:List Int)(v:b)(r:List (List Int×b))(k:List Int):getK z ((a,v)::r) k=if k=a then v else getK z r k:=by unfold getK;rw[posK];by_cases h:k=a;{simp[h]};simp only[gN h];rw[GF];cases posK k 0 r<;>rfl
theorem MP{a:Type}(k:List Int)(v:a):putK [] k v=[(k,v)]:=rfl
theorem EX{b:Type}(a:List Int)(x:b)(r:List (List Int×b))(k:List Int)(v:b):putK ((a,x)::r) k v=if k=a then(k,v)::r else(a,x)::putK r k v:=by unfold putK;rw[posK];by_cases h:k=a;{simp[h]};simp only[gN h];rw[GF];cases hp:posK k 0 r with|none=>{simp}|some p=>obtain⟨i,y⟩:=p;simp
theorem putK_length{a:Type}(k:List Int)(v:a):∀(l:List (List Int×a)),(putK l k v).length<=l.length+1
|[]=>by simp[MP]
|(k',x)::r=>by rw[EX];by_cases hk:k=k';{simp[hk]};have:=putK_length k v r;simp only[gN hk,ig];omega
theorem IX{l:List Tm}(h:e∉l.map (·.1)):coef l e=0:=coef_absent fun t a he=>h (by rw[<-he];exact jc a)
theorem getK_coef:∀(l:List Tm) (k:List Int),(l.map (·.1)).Nodup->getK 0 l k=coef l k
|[],k,_=>rfl
|(k',q)::r,k,h=>by simp only[jx,kD]at h;rw[GG];simp only[coef];by_cases hk:k=k';{subst hk;rw[gS rfl,gS rfl,IX h.1];grind};rw[gN hk,gN (fun x=>hk x.symm),getK_coef r k h.2];grind
theorem Kg(k:List Int)(q:Rat):∀(l:List Tm),(l.map (·.1)).Nodup->∀e,coef (putK l k q) e=if k=e then q else coef l e
|[],_,e=>by simp only[MP,coef];grind
|(k',x)::r,h,e=>by simp only[jx,kD]at h;rw[EX];by_cases hk:k=k';{subst hk;rw[gS rfl];simp only[coef];by_cases he:k=e;{subst he;simp only[kW];rw[IX h.1];grind};simp[he]};rw[gN hk];simp only[coef,Kg k q r h.2 e];by_cases he:k=e;{subst he;rw[gN (fun x=>hk x.symm)];grind};simp[he]
theorem coef_step{l:List Tm}(h:(l.map (·.1)).Nodup)(e:List Int):coef (putK l k (getK 0 l k+q)) e=coef l e+coef [(k,q)] e:=by rw[Kg k _ l h e,getK_coef l k h];simp only[coef];by_cases he:k=e;{subst he;simp;grind};simp[he];grind
def RelL{α β:Type}(R:α->β->Prop):List (List Int×α)->List (List Int×β)->Prop
| [],[]=>True
| (k,v)::m,(k',q)::l=>k=k'/\R v q/\RelL R m l
| _,_=>False
section
variable {α β:Type} {R R':α->β->Prop}
theorem RelL.mono(h:∀v q,R v q->R' v q):∀{m:List (List Int×α)} {l:List (List Int×β)},RelL R m l->RelL R' m l
|[],[],_=>trivial
|(_,_)::_,(_,_)::_,hr=>⟨hr.1,h _ _ hr.2.1,RelL.mono h hr.2.2⟩
|[],_::_,hr=>hr.elim
|_::_,[],hr=>hr.elim
theorem RelL.len:∀{m:List (List Int×α)} {l:List (List Int×β)},RelL R m l->m.length=l.length
|[],[],_=>rfl
|(_,_)::_,(_,_)::_,hr=>by simp[RelL.len hr.2.2]
|[],_::_,hr=>hr.elim
|_::_,[],hr=>hr.elim
theorem RelL.keys:∀{m:List (List Int×α)} {l:List (List Int×β)},RelL R m l->m.map (·.1)=l.map (·.1)
|[],[],_=>rfl
|(_,_)::_,(_,_)::_,hr=>by simp[RelL.keys hr.2.2,hr.1]
|[],_::_,hr=>hr.elim
|_::_,[],hr=>hr.elim
theorem RelL.get{z:α}{b:β}(a:R z b)(k:List Int):∀{m:List (List Int×α)} {l:List (List Int×β)},RelL R m l->R (getK z m k) (getK b l k)
|[],[],_=>a
|(k1,v)::m,(k2,q)::l,hr=>by rw[GG,GG,<-hr.1];by_cases h:k=k1;{simp only[gS h];exact hr.2.1};simp only[gN h];exact RelL.get a k hr.2.2
|[],_::_,hr=>hr.elim
|_::_,[],hr=>hr.elim
theorem RelL.put(k:List Int){v:α}{q:β}(a:R v q):∀{m:List (List Int×α)} {l:List (List Int×β)},RelL R m l->RelL R (putK m k v) (putK l k q)
|[],[],_=>⟨rfl,a,trivial⟩
|(k1,x)::m,(k2,y)::l,hr=>by rw[EX,EX,<-hr.1];by_cases h:k=k1;{simp only[gS h];exact⟨rfl,a,hr.2.2⟩};simp only[gN h];exact⟨rfl,hr.2.1,RelL.put k a hr.2.2⟩
|[],_::_,hr=>hr.elim
|_::_,[],hr=>hr.elim
theorem RelL.nth:∀{m:List (List Int×α)} {l:List (List Int×β)},RelL R m l->∀{i:Nat} {k:List Int} {v:α},m[i]?=some (k,v)->∃q,l[i]?=some (k,q)/\R v q
|[],[],_,i,k,v,h=>by simp at h
|(k1,x)::m,(k2,y)::l,hr,0,k,v,h=>by simp only[jC,gJ,Prod.mk.injEq]at h;obtain⟨rfl,rfl⟩:=h;exact⟨y,by simp[hr.1],hr.2.1⟩
|(k1,x)::m,(k2,y)::l,hr,i+1,k,v,h=>by obtain⟨q,h1,h2⟩:=RelL.nth hr.2.2 (i:=i) (by simpa using h);exact⟨q,by simpa using h1,h2⟩
|[],_::_,hr,_,_,_,_=>hr.elim
|_::_,[],hr,_,_,_,_=>hr.elim
end
def picked(l:List Tm)(seen:List Nat):List Tm:=(seen.map (fun i=>l.getD i ([],0))).filter (fun t=>decide (t.2≠0))
theorem picked_snoc(l:List Tm)(a:List Nat)(i:Nat):picked l (a++[i])=if(l.getD i ([],0)).2=0 then picked l a else picked l a++[l.getD i ([],0)]:=by unfold picked;rw[j4,List.filter_append];by_cases h:(l.getD i ([],0)).2=0;{simp only[gS h,jx,l9];rw[List.filter_cons_of_neg (by simpa using h)];simp};simp only[gN h,jx,l9];rw[List.filter_cons_of_pos (by simpa using h)];simp
theorem Ry{c:Type}[BEq c][LawfulBEq c]{l k:List c}(f:l.Nodup)(e:k.Nodup)(h:∀a,a∈l<->a∈k):l.Perm k:=by rw[List.perm_iff_count];intro a;have h1:=List.nodup_iff_count.1 f a;have h2:=List.nodup_iff_count.1 e a;have h3:0<l.count a<->a∈l:=List.count_pos_iff;have h4:0<k.count a<->a∈k:=List.count_pos_iff;by_cases b:a∈l;{have:=h3.2 b;have:=h4.2 ((h a).1 b);omega};have g:¬0<l.count a:=fun h=>b (h3.1 h);have i:¬0<k.count a:=fun d=>b ((h a).2 (h4.1 d));omega
theorem nodup_le{a:Type}[BEq a][LawfulBEq a]:∀(L M:List a),L.Nodup->(∀x∈L,x∈M)->L.length<=M.length
|[],_,_,_=>by simp
|x::L,M,hn,hs=>by rw[kD]at hn;have hx:x∈M:=hs x (by simp);have:=nodup_le L (M.erase x) hn.2 (fun y b=>(List.mem_erase_of_ne (by rintro rfl;exact hn.1 b)).2 (hs y (by simp[b])));rw[List.length_erase_of_mem hx]at this;have:0<M.length:=mQ hx;simp only[ig];omega
theorem P5(c:seen.Nodup)(b:∀i∈seen,i<n)(a:∀i,i<n->i∈seen):seen.Perm (List.range n):=by refine Ry c List.nodup_range fun i=>?_;rw[lV];exact⟨b i,a i⟩
theorem P6{a:Type}(l:List a)(d:a):(List.range l.length).map (fun i=>l.getD i d)=l:=by apply nR;{simp};intro i h1 h2;simp[h2]
theorem picked_perm{l:List Tm}(c:seen.Nodup)(b:∀i∈seen,i<l.length)(a:∀i,i<l.length->i∈seen):(picked l seen).Perm (l.filter (fun t=>decide (t.2≠0))):=by unfold picked;refine List.Perm.filter _ ?_;have h:=(P5 c b a).map (fun i=>l.getD i ([],0));rw[P6]at h;exact h
theorem picked_len(l:List Tm)(a:List Nat):(picked l a).length<=a.length:=by unfold picked;refine ia (List.length_filter_le _ _) ?_;simp
theorem seen_len(c:seen.Nodup)(a:∀i∈seen,i<n):seen.length<=n:=by have h:seen.length<=(List.range n).length:=nodup_le seen _ c (fun i b=>lV.2 (a i b));simpa using h
structure Nrm(l:List Tm):Prop where
 len:∀t∈l,t.1.length=6
 nz:∀t∈l,t.2≠0
 nodup:(l.map (·.1)).Nodup
theorem Nrm.nil:Nrm []:=⟨by simp,by simp,by simp⟩
theorem Nrm.perm{a b:List Tm}(h:Nrm a)(p:a.Perm b):Nrm b := ⟨fun t c=>h.len t (p.mem_iff.2 c),fun t c=>h.nz t (p.mem_iff.2 c),(p.map _).nodup_iff.1 h.nodup⟩
theorem Nrm.filter{l:List Tm}(h6:∀t∈l,t.1.length=6)(b:(l.map (·.1)).Nodup):Nrm (l.filter (fun t=>decide (t.2≠0))):=by refine⟨fun t a=>h6 t (List.mem_filter.1 a).1,fun t a=>?_,?_⟩;{have:=(List.mem_filter.1 a).2;simpa using this};exact List.Nodup.sublist (List.Sublist.map _ List.filter_sublist) b
theorem coef_nz(l:List Tm)(e:List Int):coef (l.filter (fun t=>decide (t.2≠0))) e=coef l e:=by induction l with|nil=>{rfl}|cons t r ih=>by_cases h:t.2=0;{rw[List.filter_cons_of_neg (by simpa using h),ih];simp only[coef,h];grind};rw[List.filter_cons_of_pos (by simpa using h)];simp only[coef,ih]
def RB(b:Nat)(q:Rat):Prop:=q.num.natAbs<P2 b/\q.den<P2 b
theorem RB.mono(h:RB a q)(c:a<=b):RB b q:=⟨Ah h.1 c,Ah h.2 c⟩
theorem RB.zero(h:1<=b):RB b 0:=⟨Lm b,Ah (a:=1) (by decide) h⟩
theorem mkRat_le{n:Int}(a:d≠0):(mkRat n d).num.natAbs<=n.natAbs/\(mkRat n d).den<=d:=by obtain⟨h1,h2⟩:=rat_frac (n:=n) a;rw[h1,h2];refine⟨?_,iB _ _⟩;rw[mZ];exact iB _ _
theorem RB.add(hp:RB a p)(c:RB b q):RB (a+b+1) (p+q):=by have h:p+q=mkRat (p.num*q.den+q.num*p.den) (p.den*q.den):=Rat.add_def' p q;obtain⟨h1,h2⟩:=mkRat_le (n:=p.num*q.den+q.num*p.den) (d:=p.den*q.den) (nZ p.den_nz q.den_nz);rw[h];constructor;{(refine gQ h1 ?_;have e:(p.num*(q.den:Int)).natAbs<P2 (a+b):=by rw[jB];exact Cc hp.1 c.2);(have f:(q.num*(p.den:Int)).natAbs<P2 (a+b):=by rw[jB,oM];exact Cc c.1 hp.2);exact gQ (mJ _ _) (Rr e f)};exact Ah (gQ h2 (Cc hp.2 c.2)) (by omega)
theorem RB.mul(hp:RB a p)(c:RB b q):RB (a+b) (p*q):=by have h:p*q=mkRat (p.num*q.num) (p.den*q.den):=Rat.mul_def' p q;obtain⟨h1,h2⟩:=mkRat_le (n:=p.num*q.num) (d:=p.den*q.den) (nZ p.den_nz q.den_nz);rw[h];constructor;{refine gQ h1 ?_;rw[jB];exact Cc hp.1 c.1};exact gQ h2 (Cc hp.2 c.2)
theorem RB.neg(hp:RB a p):RB a (-p):=⟨by rw[show(-p).num=-p.num from rfl,Int.natAbs_neg];exact hp.1,hp.2⟩
theorem RB.coef{b:Nat}(a:1<=b)(e:List Int):∀{l:List Tm},(∀t∈l,RB b t.2)->RB (l.length*(b+1)+1) (coef l e)
|[],_=>RB.zero (by omega)
|t::r,h=>by (have h1:RB b (if t.1=e then t.2 else 0):=by split;{exact h t (by simp)};exact RB.zero a);have h2:=RB.add h1 (RB.coef a e (l:=r) (fun s c=>h s (by simp[c])));refine h2.mono ?_;simp only[ig,jf];omega
end Go.Proofs.YtpkijbkpjhpfmaaGreatDoor.Pl
namespace Go.Proofs.YtpkijbkpjhpfmaaGreatDoor
open Go Go.RowKit
variable {a a2:Act} {AL:List Nat} {l:List Oper} {o:Oper} {w w2:World}
def Vt(l:List Oper)(AL:List Nat)(a:Act):Prop:=∀i∈AL,∀j∈AL,i≠j->AM l.toArray i a≠AM l.toArray j a
structure Fw(l:List Oper)(AL:List Nat)(listed:Array Bool)(a:Act)(w:World):Prop where
 ptr:∀j∈AL,listed.getD j false=true->∃g,AM l.toArray j a=.pointer (some ⟨g,0,none⟩)/\g<w.heap.size
 ne:∀i∈AL,∀j∈AL,i≠j->listed.getD i false=true->listed.getD j false=true->AM l.toArray i a≠AM l.toArray j a
theorem Fw.dist{listed:Array Bool}(h:Fw l AL listed a w)(e:∀i∈AL,listed.getD i false=true):Vt l AL a := fun i c j d b=>h.ne i c j d b (e i c) (e j d)
theorem Fw.start(l:List Oper)(b:List Nat)(a:Act)(w:World):Fw l b (Array.replicate l.toArray.size false) a w:=by refine⟨fun j _ h=>?_,fun i _ j _ _ h=>?_⟩;{rw[oN]at h;cases h};rw[oN]at h;cases h
theorem Fw.step{listed:Array Bool}(h:Fw l AL listed a w){i:Nat}{o:Oper}(_ho:l.toArray[i]?=some o)(F:listed.getD i false=false)(E:Ext w w2)(x:∀j C,j∈AL->l.toArray[j]?=some C->j≠i->AM l.toArray j a2=AM l.toArray j a)(m:i∈AL->∃g,AM l.toArray i a2=.pointer (some ⟨g,0,none⟩)/\w.heap.size<=g/\g<w2.heap.size):Fw l AL (listed.setIfInBounds i true) a2 w2:=by (have f:∀j,j≠i->(listed.setIfInBounds i true).getD j false=true->listed.getD j false=true:=by intro j d q;have c:¬i=j:=fun e=>d e.symm;rw[jz,nU]at q;rw[jz];rw[gN c]at q;exact q);(have B:∀j∈AL,j≠i->AM l.toArray j a2=AM l.toArray j a\/l.toArray[j]?=none:=by intro j d c;cases A:l.toArray[j]? with|none=>{exact Or.inr rfl}|some C=>exact Or.inl (x j C d A c));(have y:∀j (b:Act),l.toArray[j]?=none->AM l.toArray j b=undef:=by intro j b G;unfold AM AZ;rw[G];rfl);(have n:∀j∈AL,j≠i->AM l.toArray j a2=AM l.toArray j a:=by intro j d c;rcases B j d c with h1|h1;{exact h1};rw[y j _ h1,y j _ h1]);(have r:∀j∈AL,j≠i->(listed.setIfInBounds i true).getD j false=true->∃g,AM l.toArray j a2=.pointer (some ⟨g,0,none⟩)/\g<w.heap.size:=by intro j d c q;obtain⟨g,h1,h2⟩:=h.ptr j d (f j c q);exact⟨g,by rw[n j d c,h1],h2⟩);refine⟨fun j d q=>?_,fun j d k z v s t=>?_⟩;{by_cases c:j=i;{subst c;obtain⟨g,h1,_,h3⟩:=m d;exact⟨g,h1,h3⟩};obtain⟨g,h1,h2⟩:=r j d c q;exact⟨g,h1,gP h2 E.size⟩};by_cases c:j=i;{subst c;obtain⟨g,h1,h2,_⟩:=m d;obtain⟨D,h3,h4⟩:=r k z (fun e=>v e.symm) t;rw[h1,h3];simp only[ne_eq,kz,gJ,iX,jr];omega};by_cases p:k=i;{subst p;obtain⟨g,h1,h2,_⟩:=m z;obtain⟨D,h3,h4⟩:=r j d c s;rw[h1,h3];simp only[ne_eq,kz,gJ,iX,jr];omega};rw[n j d c,n k z p];exact h.ne j d k z v (f j c s) (f k p t)
def Rz(P:Program)(ops:Array Oper)(o:Oper)(a:Act)(w:World)(u:Value)(w':World):Prop :=
 Region.wanted o (yielded ops a.tmps)=true->match (execOp a.eval o).run P w with|.ok (.value v) wv=>u=v/\w'=wv|.ok .skip wv=>w'=wv|_=>True
section
variable {P:Program} {Q:Exit->Act->World->Prop}
theorem JH{R:Value->World->Prop}{K:Act->World->Prop}(h:Fn P R ((execOp a.eval o).run P w))(c:∀u b,R u b->(match (execOp a.eval o).run P w with|.ok (.value v) wv=>u=v/\b=wv|.ok .skip wv=>b=wv|_=>True)->K (a.put o.dst u) b):o.wp P a w K Q:=by unfold Oper.wp;generalize (execOp a.eval o).run P w=r at*;cases r with|ok n b=>{cases n<;>simp only[Fn]at h<;>simp only[Oper.upon];(case value u=>exact c u b h ⟨rfl,rfl⟩);(case skip=>exact c undef b h rfl);case enter f args=>exact h.mono fun e d ⟨u,he,g⟩=>by subst he;exact c u d g trivial}|halt x b=>simp only[Fn]at h
end
section
variable {P:Program} {ops:Array Oper} {hs:List Hd} {a0:Act} {C:World->Prop} {Q:Exit->Act->World->Prop}
theorem P7(a8:Jz P C ops hs a0 0 ops.toList hs)(ae:Fc hs)(ab:∀w m,Ext w m->C w->C m){listed:Array Bool}{a:Act}{w:World}(e:Hg ops hs a0 C listed a w){i:Nat}(hi:i∈Region.ready .any ops listed)(a2:i<hs.length)(ad:∀o,ops[i]?=some o->DA ops (hs.map (·.cons)) hs.length a0.tmps.size i o){K:Act->World->Prop}(hK:∀o u m,ops[i]?=some o->(Dz C ops hs i o (AK hs i) w u m\/m=w)->Rz P ops o a w u m->Hg ops hs a0 C (listed.setIfInBounds i true) (a.put o.dst u) m->K (a.put o.dst u) m):wpOp P ops Q i K a w:=by (obtain⟨h0,o,L,N⟩:=D4 hi;have V:=ad o L;have a1:i<listed.size:=by rw[e.size];exact(iM.1 L).1);(have Z:listed.getD i false=false:=by simpa[a1]using h0);(have y:listed.getD i false≠true:=by rw[Z];simp);(have R:(listed.setIfInBounds i true).getD i false=true:=by simp[a1]);(have A:obl P C ops hs a0 i o (AK hs i):=by have:=L5 hs ops.toList 0 a8 i o (by simpa using L) a2;simpa[AK]using this);(have a9:Dl ops hs a0 o a.eval w o.op.operands.toList:=by refine Iv fun x hx=>?_;cases x with|tmp t=>{(have a6:t∈Dk ops o:=by unfold Dk Nq;rw[iU];left;rw[List.mem_filterMap];exact⟨_,hx,rfl⟩);simp only[Jy];cases a5:LZ ops o t with|none=>{simp only[Act.eval];refine e.frame t fun j g H n=>?_;rcases V.look t a6 j g n with h|h|h;{subst h;exact y H};{exact Iu a5 h n};exact y (e.closed j H i h)}|some j=>(obtain⟨U,S⟩:=It a5;have T:j<hs.length:=by have:=V.lt j U;omega);have a3:=N j U;simp only;cases f:(AK hs j).ty with|eq c=>{exact e.values j c T a3 f t S}|pr p=>obtain⟨v,q,Y⟩:=e.facts j T a3 (by intro k D;have:=V.cons j U k (by rw[L6 T];exact D);rcases this with h|h|h;{subst h;exact Z};{by_cases E:listed.getD k false=true;{exact absurd (e.closed k E i h) y};simpa using E};exact absurd S (h t a6));rw[f]at q;exact⟨v,Y t S,q⟩}|_=>trivial);(have s:∀u m,C m->(AK hs i).ty.ok u m->(∀j,j<hs.length->j≠i->listed.getD j false=true->(∀k,(AK hs j).cons=some k->(listed.setIfInBounds i true).getD k false=false)->∀v,(AK hs j).ty.ok v w->(AK hs j).ty.ok v m)->Hg ops hs a0 C (listed.setIfInBounds i true) (a.put o.dst u) m:=by (intro u m hC hu W;have F:∀j,j<hs.length->j≠i->∀d,AZ ops j=some d->(a.put o.dst u).tmps.getD d undef=a.tmps.getD d undef:=by intro j g z d n;cases M:o.dst with|none=>{rfl}|some d'=>(rw[Cf];have:d'≠d:=by rintro rfl;have:=V.apart j g z (by rw[n,M]);rw[M]at this;cases this);rw[gN (fun h=>this h.1)]);(have O:∀d,AZ ops i=some d->(a.put o.dst u).tmps.getD d undef=u:=by intro d n;rw[BH L]at n;rw[n,Cf,gS ⟨rfl,by rw[e.tmps];exact V.dst d n⟩]);(have r:∀j,j≠i->(listed.setIfInBounds i true).getD j false=true->listed.getD j false=true:=by intro j z h;rwa[mK false (Ne.symm z)]at h);refine⟨by rw[ou];exact e.size,?_,?_,hC,by rw[Fo];exact e.defers,by rw[FH];exact e.tmps,?_,?_,?_⟩;{intro j g;rw[mK false (by omega)];exact e.tailF j g};{intro j g p hp;by_cases l:j=i;{subst l;rw[D5 L]at hp;exact ki (N p hp)};exact ki (e.closed j (r j l g) p hp)};{(intro t ht;have h1:o.dst≠some t:=by have:=ht i a2 R;rwa[BH L]at this);have h2:a.tmps.getD t undef=a0.tmps.getD t undef:=e.frame t fun j g H=>ht j g (ki H);cases M:o.dst with|none=>{exact h2}|some d'=>rw[Cf,gN (fun h=>h1 (by rw[M,h.1]))];exact h2};{intro j g H I;by_cases l:j=i;{subst l;exact⟨u,hu,O⟩};have a4:=r j l H;obtain⟨v,q,Y⟩:=e.facts j g a4 (by intro k D;have:=I k D;by_cases E:listed.getD k false=true;{rw[ki E]at this;cases this};simpa using E);exact⟨v,W j g l a4 I v q,fun d n=>by rw[F j g l d n];exact Y d n⟩};intro j c g H f d n;by_cases l:j=i;{subst l;rw[f]at hu;rw[O d n];exact hu};rw[F j g l d n];exact e.values j c g (r j l H) f d n);have G:=L0 V.grd (fun j g c f d n=>e.values j c (by have:=V.lt j g;omega) (N j g) f d n);unfold wpOp;rw[L];simp only;unfold obl at A;cases hw:Ct hs o with|none=>{rw[hw]at A;exact A.elim}|some b=>rw[hw]at A;rw[G b hw];cases b with|true=>{rw[gS rfl];left;refine JH (A a.eval w (Ir a) e.world a9) fun u m B q=>hK o u m L (Or.inl B) (fun _=>q) ?_;unfold Dz at B;cases f:(AK hs i).ty with|eq c=>{rw[f]at B;obtain⟨rfl,rfl⟩:=B;exact s u m e.world (by rw[f];rfl) fun _ _ _ _ _ v q=>q}|pr p=>rw[f]at B;simp only at B;by_cases hmu:(AK hs i).mu=true;{rw[gS hmu]at B;obtain⟨aa,ac,hp⟩:=B;refine s u m aa (by rw[f];exact hp) fun j g z H I v q=>?_;cases X:(AK hs j).ty with|eq c=>{rw[X]at q;exact q}|pr p'=>(rw[<-X];refine Gs ac j (by simpa using g) ?_ v q;have c1:i∉anc ops 3 (B1 ops j):=fun h=>y (Cm e.closed 3 _ (e.closed j H) i h);have c2:∀k,(AK hs j).cons=some k->k≠i/\k∉anc ops 3 (BC o):=by intro k D;have J:=I k D;refine⟨?_,fun hm=>?_⟩;{rintro rfl;rw[R]at J;cases J};rw[ki (Cm e.closed 3 _ N k hm)]at J;cases J);unfold Dy;rw[X];cases hc:(AK hs j).cons with|none=>{simp[z,c1]}|some k=>obtain⟨d1,d2⟩:=c2 k hc;simp[z,c1,d1,d2]};rw[gN hmu]at B;exact s u m (ab w m B.1 e.world) (by rw[f];exact B.2) fun j g _ _ _ v q=>OJ (Gt ae _ (by rw[AK,gqq,gG g];simp)) B.1 q}|false=>simp only[k8,lU];exact hK o undef w L (Or.inr rfl) (fun a7=>by rw[G false hw]at a7;cases a7) (s undef w e.world (A w e.world) fun _ _ _ _ _ v q=>q)
end
section
variable {P:Program} {Q:Exit->Act->World->Prop}
theorem GH{id:Nat}(hm:P.follows .mixedOrders=true)(C:World->Prop)(b:List Hd)(U:B3 l.toArray (b.map (·.cons)) a.tmps.size=true)(a9:∀w f,Ext w f->C w->C f)(hC:C w.drew)(ah:Fc b)(a6:Jz P C l.toArray b a 0 l b)(J:Array Bool->Act->World->Prop)(aa:J (Array.replicate l.toArray.size false) a w.drew)(hJ:∀listed r f i o u O,Hg l.toArray b a C listed r f->J listed r f->i<b.length->l.toArray[i]?=some o->listed.getD i false=false->(∀p∈BC o,listed.getD p false=true)->(Dz C l.toArray b i o (AK b i) f u O\/O=f)->Rz P l.toArray o r f u O->Hg l.toArray b a C (listed.setIfInBounds i true) (r.put o.dst u) O->(∀j,j<b.length->j≠i->AM l.toArray j (r.put o.dst u)=AM l.toArray j r)->(∀d,o.dst=some d->AM l.toArray i (r.put o.dst u)=u)->J (listed.setIfInBounds i true) (r.put o.dst u) O)(Z:∀f,C f->Dm f (fun r=>J ((Array.range l.toArray.size).map (fun j=>decide (j<b.length))) r f->wpList P l.toArray Q (l.drop b.length) r f) l b a):(Code.region id l.toArray true).wp P Q a w:=by (refine ow hm ?_;unfold B3 at U;simp only[iA,ld,iD]at U;obtain⟨⟨⟨hn,W⟩,ak⟩,M⟩:=U;have al:l.toArray.size=l.length:=by simp);(have g:∀i o,l.toArray[i]?=some o->(i<b.length->DA l.toArray (b.map (·.cons)) b.length a.tmps.size i o)/\(b.length<=i->FK l.toArray b.length i o=true):=by intro i o x;have L:i<l.toArray.size:=(iM.1 x).1;have:=jp.1 W i (by simpa using L);rw[x]at this;simp only at this;refine⟨fun h=>?_,fun h=>?_⟩;{rw[gS h]at this;exact GW this};rw[gN (by omega)]at this;exact this);(have aj:∀m listed r f,unl listed b.length=m->Hg l.toArray b a C listed r f->J listed r f->wpAny P .any l.toArray Q (m+(l.toArray.size-b.length)) listed r f:=by intro m;induction m with|zero=>{(intro listed r f hu e R;have s:=FI hu;have B:listed=(Array.range l.toArray.size).map (fun j=>decide (j<b.length)):=by apply Array.ext;{rw[e.size];simp};intro i h1 h2;simp only[Array.getElem_map,Array.getElem_range];by_cases L:i<b.length;{have:=s i L;simp[h1]at this;simp[this,L]};have:=e.tailF i (by omega);simp[h1]at this;simp[this,L]);(have ha:r=CF (fun j=>match AZ l.toArray j with|some d=>r.tmps.getD d undef|none=>Classical.epsilon (fun v=>(AK b j).ty.ok v f)) 0 l b a:=by apply OK;{rw[Fd];exact e.defers};{rw[GX];exact e.tmps};intro t;by_cases S:∃j o,j<b.length/\l[j]?=some o/\o.dst=some t;{(obtain⟨j,o,D,x,q⟩:=S;have a4:l.toArray[j]?=some o:=by simpa using x);have A:=(g j o a4).1 D;rw[Ix b l 0 a j o D x q (A.dst t q) (by (intro k' o' af T ab;have a5:l.toArray[k']?=some o':=by simpa using T);by_cases a3:k'=j;{exact a3};have:=A.apart k' af a3 (by rw[BH a5,ab,q]);rw[q]at this;cases this)];rw[iE,BH a4,q]};rw[D6 b l 0 a (fun k o H x q=>S ⟨k,o,H,x,q⟩)];refine e.frame t fun j D _ q=>S ?_;unfold AZ at q;cases x:l.toArray[j]? with|none=>{rw[x]at q;cases q}|some o=>rw[x]at q;exact⟨j,o,D,by simpa using x,q⟩);have K:=Iw (vs:=fun j=>match AZ l.toArray j with|some d=>r.tmps.getD d undef|none=>Classical.epsilon (fun v=>(AK b j).ty.ok v f)) b l 0 a (Z f e.world) (by intro k H c X;rw[iE];cases q:AZ l.toArray k with|some d=>{exact e.values k c H (s k H) X d q}|none=>(have:(AK b k).ty.ok (Classical.epsilon (fun v=>(AK b k).ty.ok v f)) f:=by apply kX (p:=fun v=>(AK b k).ty.ok v f);refine⟨c,?_⟩;rw[show(AK b k).ty=.eq c from X];rfl);have h2:(AK b k).ty=.eq c:=X;rw[h2]at this;simp only[Ty.ok]at this;rw[h2];exact this) (by intro k H p hp X;rw[iE];obtain⟨v,hv,ai⟩:=e.facts k H (s k H) (by intro k' Y;have h1:(AK b k).cons=none:=X;rw[h1]at Y;cases Y);have h2:(AK b k).ty=.pr p:=hp;cases q:AZ l.toArray k with|some d=>{simp only;rw[ai d q];rw[h2]at hv;exact hv}|none=>have:(AK b k).ty.ok (Classical.epsilon (fun v=>(AK b k).ty.ok v f)) f:=kX (p:=fun v=>(AK b k).ty.ok v f) ⟨v,hv⟩;simp only;rw[h2]at this|-;exact this);(rw[<-ha]at K;rw[iE];have hl:(l.drop b.length).length=l.toArray.size-b.length:=by simp);rw[<-hl];rw[<-hl,<-B]at M;exact wpAny_of_seq (l.drop b.length) b.length listed r f (by intro j;simp) M (K (B ▸ R))}|succ m ih=>intro listed r f hu e R;rw[show m+1+(l.toArray.size-b.length)=(m+(l.toArray.size-b.length))+1 by omega];refine⟨fun F=>?_,fun i L=>?_⟩;{(obtain⟨j,D,G,ae⟩:=FJ (listed:=listed) (n:=b.length) (by omega);have a2:j<l.toArray.size:=by omega);have x:l.toArray[j]?=some l.toArray[j]:=jW a2;have A:=(g j _ x).1 D;have:j∈Region.ready .any l.toArray listed:=L3 (by (have:j<listed.size:=by rw[e.size];exact a2);simpa[this]using G) x (fun p hp=>ae p (A.lt p hp));rw[F]at this;cases this};(obtain⟨h0,o,x,V⟩:=D4 L;have a1:i<listed.size:=by rw[e.size];exact(iM.1 x).1);(have a0:listed.getD i false=false:=by simpa[a1]using h0);(have z:i<b.length:=by rcases ir i b.length with h|h;{exact h};exfalso;have ht:=(g i o x).2 h;unfold FK at ht;simp only[kO,jp,lV,jo,List.any_eq_true,iA,iD]at ht;rcases ht with ht|⟨k,H,ag,_⟩;{obtain⟨j,D,G,_⟩:=FJ (listed:=listed) (n:=b.length) (by omega);rw[Cm e.closed 12 (BC o) V j (ht j D)]at G;cases G};have:=V k H;rw[e.tailF k ag]at this;cases this);refine P7 (by simpa using a6) ah a9 e L z (fun o' T=>(g i o' T).1 z) fun o2 u O y a7 a8 N=>?_;refine ih _ _ O ?_ N (hJ listed r f i o2 u O e R z y a0 (by rw[x]at y;simp only[gJ]at y;rw[<-y];exact V) a7 a8 N ?_ ?_);rotate_left;{intro j D ad;have A:=(g i o2 y).1 z;cases q:o2.dst with|none=>{rfl}|some d=>unfold AM;cases ac:AZ l.toArray j with|none=>{rfl}|some dj=>simp only;rw[Cf,gN];intro hh;have:=A.apart j D ad (by rw[ac,q,hh.1]);rw[q]at this;cases this};{intro d q;unfold AM;rw[BH y,q];simp only;rw[Cf,gS ⟨rfl,by rw[e.tmps];exact(g i o2 y).1 z|>.dst d q⟩]};have:=KK a1 a0 z;omega);(have I:Hg l.toArray b a C (Array.replicate l.toArray.size false) a w.drew:=by have A:∀j,(Array.replicate l.toArray.size false).getD j false=false:=fun j=>oN _ j;refine⟨by simp,fun j _=>A j,(fun j h=>by rw[A j]at h;cases h),hC,rfl,rfl,fun _ _=>rfl,(fun j _ h=>by rw[A j]at h;cases h),(fun j c _ h=>by rw[A j]at h;cases h)⟩);(have E:unl (Array.replicate l.toArray.size false) b.length=b.length:=by (have:∀n,unl (Array.replicate l.toArray.size false) n=n:=by intro n;induction n with|zero=>{rfl}|succ n ih=>rw[unl,ih,oN];simp);exact this _);have:=aj b.length _ a w.drew E I aa;rwa[show b.length+(l.toArray.size-b.length)=l.toArray.size by omega]at this
end
end Go.Proofs.YtpkijbkpjhpfmaaGreatDoor
